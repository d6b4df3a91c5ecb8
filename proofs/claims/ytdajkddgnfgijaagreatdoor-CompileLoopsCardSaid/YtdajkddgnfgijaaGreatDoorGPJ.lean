/-
  Objects and code of a program as data, and what is compiled. No program text in sight.
  How long code may be: weights of expressions and statements, and what they bound. No program text in sight.
  What it is that the names which code needs are found; places of names. Plain.
-/
import Derived.Test.YtdajkddgnfgijaaGreatDoorGMA
section
set_option linter.unusedVariables false
namespace Go.Proofs.YtdajkddgnfgijaaGreatDoor
open Go.RowKit
namespace Md
structure AX where
 nm:ByteArray
 ix:Int
 sz:Int
 Yz:Bool
 init:Int
structure yJ where
 nm:ByteArray
 rw:Bool
structure BZ where
 nm:ByteArray
 mx:Int
structure Cn where
 th:Int
 st:Int
 ln:Int
structure Wo where
 cs:List AX
 ls:List yJ
 ns:List BZ
 fs:List ByteArray
 ts:List ByteArray
 ss:List Cn
structure bS where
 op:Int
 a:Int
 b:Int
 c:Int
 n:Int
 st:Int
structure R8 where
 regs:Int
 is:List bS
def kR (x:AX):List Value:=[.string x.nm,.int .i64 x.ix,.int .i64 x.sz,.bool x.Yz,.int .i64 x.init]
def mQ (x:yJ):List Value:=[.string x.nm,.bool x.rw]
def sP (x:BZ):List Value:=[.string x.nm,.int .i64 x.mx]
def lV (x:ByteArray):List Value:=[.string x]
def uz (x:Cn):List Value:=[.int .i64 x.th,.int .i64 x.st,.int .i64 x.ln]
def kY (x:bS):List Value:=[.int .i64 x.op,.int .i64 x.a,.int .i64 x.b,.int .i64 x.c,.int .i64 x.n,.int .i64 x.st]
def fT {α:Type} (f:α→List Value) (m:Nat) (w:World) (B:Nat):List α→Option Addr→Nat→Prop
 | [],_,_=>True
 | x ::r,ao,k=>(∃b off,ao=some ⟨b,off,none⟩∧b < B∧ ∀(j:Nat) (u:Value),(f x)[j]? =some u→w.cell? ⟨b,off + k * m + j,none⟩=some u)∧fT f m w B r ao (k + 1)
def qp:List ByteArray→ByteArray→Int→Int
 | [],_,_=> -1
 | s ::r,nm,k=>if s.toList == nm.toList then k else qp r nm (k + 1)
def fV (l:List ByteArray) (nm:ByteArray):Int:=qp l nm 0
def Ar (d:De):Nat→Nat→List AX
 | 0,_=>[]
 | n + 1,k=>⟨d.nm,k,d.size,d.kind == 2,d.init⟩ ::Ar d n (k + 1)
def Je (d:De):List AX:=Ar d (max d.size 1).toNat 0
def DW (W:Wo) (d:De):Wo:=
 if d.kind == 1 || d.kind == 2 then {W with cs:=W.cs++Je d} else if d.kind == 3 || d.kind == 4 then {W with ls:=W.ls++[⟨d.nm,d.kind == 4⟩]} else
 if d.kind == 5 then {W with ns:=W.ns++[⟨d.nm,fV (W.ls.map (·.nm)) d.on⟩]} else {W with fs:=W.fs++[d.nm]}
def bM:aP→Nat
 | .nil=>0
 | .cons _ b e r=>1 + bM b + bM e + bM r
def FL (i:Int):aP→Nat→List Cn
 | .nil,_=>[]
 | .cons h b e r,n=>⟨i,n,h.line⟩ ::(FL i b (n + 1)++FL i e (n + 1 + bM b)++FL i r (n + 1 + bM b + bM e))
def yO (W:Wo) (i:Nat):List Th→Wo
 | []=>W
 | t ::r=>yO {W with ts:=W.ts++[t.nm],ss:=W.ss++FL i t.body 0} (i + 1) r
def rP:Wo:=⟨[],[],[],[],[],[]⟩
def kL (p:Pr):Wo:=yO (p.ds.foldl DW rP) 0 p.ts
def Wo.cell (W:Wo) (nm:ByteArray):Int:=fV (W.cs.map (·.nm)) nm
def Wo.lock (W:Wo) (nm:ByteArray):Int:=fV (W.ls.map (·.nm)) nm
def Wo.cond (W:Wo) (nm:ByteArray):Int:=fV (W.ns.map (·.nm)) nm
def Wo.size (W:Wo) (nm:ByteArray):Int:=((W.cs[(W.cell nm).toNat]?).map (·.sz)).getD 0
def Ij (W:Wo) (op:Int) (nm:ByteArray) (d st:Int):bS:=
 if op == 3 then ⟨7,d,W.cell nm,d,W.size nm,st⟩ else if op == 4 || op == 5 then ⟨3,d,d,0,op,st⟩ else ⟨4,d,d,d + 1,op,st⟩
def BD (W:Wo) (lc:List ByteArray) (op n:Int) (nm:ByteArray) (d st:Int):bS:=
 if op == 1 then ⟨1,d,0,0,n,st⟩ else if decide (0≤fV lc nm) then ⟨2,d,fV lc nm,0,0,st⟩ else ⟨6,d,W.cell nm,0,0,st⟩
def zN (W:Wo) (lc:List ByteArray) (st:Int):bL→Int→List bS
 | .nil,_=>[]
 | .cons op n nm kids rest,d=>(if op == 1 || op == 2 then [BD W lc op n nm d st] else zN W lc st kids d++[Ij W op nm d st])++zN W lc st rest (d + 1)
def jX (W:Wo) (lc:List ByteArray) (st:Int) (op n:Int) (nm:ByteArray) (kids:bL) (d:Int):List bS:=
 if op == 1 || op == 2 then [BD W lc op n nm d st] else zN W lc st kids d++[Ij W op nm d st]
def fK (W:Wo) (lc:List ByteArray) (st:Int) (h:aX) (d:Int):List bS:=jX W lc st h.dN h.xn h.dM h.aR d
def Ba (W:Wo) (lc:List ByteArray) (st:Int) (h:aX):List bS:=
 match h.idx with
 | .nil=>fK W lc st h lc.length++[if decide (0≤fV lc h.nm) then ⟨2,fV lc h.nm,lc.length,0,0,st⟩ else ⟨8,W.cell h.nm,lc.length,0,0,st⟩]
 | .cons op n nm kids _=>jX W lc st op n nm kids lc.length++fK W lc st h (lc.length + 1)++[⟨9,W.cell h.nm,lc.length + 1,lc.length,W.size h.nm,st⟩]
def Dq (W:Wo) (h:aX):Int:=if h.op == 7 || h.op == 8 then 0 else W.lock h.nm
def wG (op:Int):Int:=if op == 4 then 11 else if op == 5 then 13 else if op == 6 then 15 else if op == 7 then 17 else 19
def rV (W:Wo) (lc:List ByteArray) (st:Int) (h:aX):List bS:=
 if h.op == 1 then Ba W lc st h else if h.op == 9 then [⟨21,W.cond h.nm,0,0,0,st⟩] else if h.op == 10 then [⟨22,W.cond h.nm,0,0,0,st⟩] else if h.op == 11 then [⟨23,W.cond h.nm,0,0,0,st⟩] else
 if h.op == 12 then [⟨24,fV W.ts h.nm,0,0,0,st⟩] else if h.op == 13 then [⟨25,fV W.ts h.nm,0,0,0,st⟩] else
 if h.op == 14 then fK W lc st h lc.length++[⟨26,fV W.fs h.nm,lc.length,0,0,st⟩] else if h.op == 15 then [⟨27,fV lc h.nm,fV W.fs h.arg,0,0,st⟩] else []
def yV (W:Wo) (lc:List ByteArray) (st:Int) (h:aX) (X B E:List bS) (ne:Bool) (pos:Nat):List bS:=
 if h.op == 2 then
  (if ne then X++[⟨10,lc.length,((pos + X.length + 1 + B.length:Nat):Int),0,0,st⟩]++B
   else X++[⟨10,lc.length,((pos + X.length + 1 + B.length + 1:Nat):Int),0,0,st⟩]++B++[⟨5,((pos + X.length + 1 + B.length + 1 + E.length:Nat):Int),0,0,0,st⟩]++E)
 else if h.op == 3 then X++[⟨10,lc.length,((pos + X.length + 1 + B.length + 1:Nat):Int),0,0,st⟩]++B++[⟨5,(pos:Int),0,0,0,st⟩]
 else if decide (4≤h.op) && decide (h.op≤8) then [⟨wG h.op,Dq W h,0,0,0,st⟩]++B++[⟨wG h.op + 1,Dq W h,0,0,0,st⟩]
 else rV W lc st h
def aP.none:aP→Bool
 | .nil=>true
 | _=>false
def lH (h:aX) (X:List bS):Nat:=if h.op == 2 || h.op == 3 then X.length + 1 else 1
def iI (W:Wo) (lc:List ByteArray):aP→Nat→Nat→List bS
 | .nil,_,_=>[]
 | .cons h b e r,nx,pos=>
   yV W lc nx h (fK W lc nx h lc.length) (iI W lc b (nx + 1) (pos + lH h (fK W lc nx h lc.length)))
      (iI W lc e (nx + 1 + bM b) (pos + lH h (fK W lc nx h lc.length) + (iI W lc b (nx + 1) (pos + lH h (fK W lc nx h lc.length))).length + 1)) e.none pos++
    iI W lc r (nx + 1 + bM b + bM e) (pos +
     (yV W lc nx h (fK W lc nx h lc.length) (iI W lc b (nx + 1) (pos + lH h (fK W lc nx h lc.length)))
     (iI W lc e (nx + 1 + bM b) (pos + lH h (fK W lc nx h lc.length) + (iI W lc b (nx + 1) (pos + lH h (fK W lc nx h lc.length))).length + 1)) e.none pos).length)
def iW (i:bS):List Int:=
 if i.op == 1 || i.op == 6 || i.op == 10 || i.op == 27 then [i.a] else if i.op == 2 || i.op == 3 then [i.a,i.b] else if i.op == 4 then [i.a,i.b,i.c] else if i.op == 7 then [i.a,i.c] else
 if i.op == 8 || i.op == 26 then [i.b] else if i.op == 9 then [i.b,i.c] else []
def Rl:List Int→Int→Int
 | [],n=>n
 | r ::l,n=>Rl l (max n (r + 1))
def uW:List bS→Int→Int
 | [],n=>n
 | i ::l,n=>uW l (Rl (iW i) n)
def coT (W:Wo) (t:Th) (nx:Nat):R8:=
 ⟨uW (iI W t.cZ t.body nx 0++[⟨28,0,0,0,0,-1⟩]) t.cZ.length,iI W t.cZ t.body nx 0++[⟨28,0,0,0,0,-1⟩]⟩
def zL (W:Wo):List Th→Nat→List R8
 | [],_=>[]
 | t ::r,nx=>coT W t nx ::zL W r (nx + bM t.body)
end Md
end Go.Proofs.YtdajkddgnfgijaaGreatDoor
end
section
set_option linter.unusedVariables false
set_option linter.unusedSimpArgs false
namespace Go.Proofs.YtdajkddgnfgijaaGreatDoor
open Go.RowKit
namespace Md
def fD:bL→Nat
 | .nil=>0
 | .cons _ _ _ kids rest=>1 + fD kids + fD rest
def gH (h:aX):Nat:=3 + fD h.aR + fD h.idx
def kZ:aP→Nat
 | .nil=>0
 | .cons h b e r=>gH h + kZ b + kZ e + kZ r
theorem rG: ∀l:aP,bM l≤kZ l
 | .nil=>Nat.le_refl _
 | .cons h b e r=>by
   have h1:=rG b; have h2:=rG e; have h3:=rG r
   rw [bM,kZ]; unfold gH; omega
theorem F3 (W:Wo) (lc:List ByteArray) (st:Int): ∀(l:bL) (d:Int),(zN W lc st l d).length≤fD l
 | .nil,_=>Nat.le_refl _
 | .cons op n nm kids rest,d=>by
   have h1:=F3 W lc st kids d
   have h2:=F3 W lc st rest (d + 1)
   rw [zN,fD,List.length_append]
   split
   ·simp only [List.length_singleton]; omega
   ·simp only [List.length_append,List.length_singleton]; omega
theorem jD (W:Wo) (lc:List ByteArray) (st op n:Int) (nm:ByteArray) (kids:bL) (d:Int):(jX W lc st op n nm kids d).length≤1 + fD kids:=by
 unfold jX
 have h1:=F3 W lc st kids d
 split
 ·simp only [List.length_singleton]; omega
 ·simp only [List.length_append,List.length_singleton]; omega
theorem TR (W:Wo) (lc:List ByteArray) (st:Int) (h:aX):(Ba W lc st h).length≤gH h:=by
 unfold Ba gH
 split
 ·have:=jD W lc st h.dN h.xn h.dM h.aR lc.length
  simp only [fK,List.length_append,List.length_singleton]; omega
 ·rename_i op n nm kids r hi
  have h1:=jD W lc st h.dN h.xn h.dM h.aR (lc.length + 1)
  have h2:=jD W lc st op n nm kids lc.length
  simp only [fK,List.length_append,List.length_singleton]
  rw [hi,fD]; omega
theorem PZ (W:Wo) (lc:List ByteArray) (st:Int) (h:aX):(rV W lc st h).length≤gH h:=by
 have hv:=jD W lc st h.dN h.xn h.dM h.aR lc.length
 have h1:3≤gH h:=by unfold gH; omega
 have h2:1 + fD h.aR + 1≤gH h:=by unfold gH; omega
 unfold rV
 split
 ·exact TR W lc st h
 all_goals (repeat' split)
 all_goals simp only [fK,List.length_append,List.length_singleton,List.length_nil]
 all_goals omega
theorem IG (W:Wo) (lc:List ByteArray) (st:Int) (h:aX) (B E:List bS) (ne:Bool) (pos:Nat):(yV W lc st h (fK W lc st h lc.length) B E ne pos).length≤gH h + B.length + E.length:=by
 have hv:=jD W lc st h.dN h.xn h.dM h.aR lc.length
 have ho:=PZ W lc st h
 have h2:1 + fD h.aR + 2≤gH h:=by unfold gH; omega
 unfold yV
 repeat' split
 all_goals try simp only [fK,List.length_append,List.length_singleton,List.length_nil]
 all_goals omega
theorem oC (W:Wo) (lc:List ByteArray): ∀(l:aP) (nx pos:Nat),(iI W lc l nx pos).length≤kZ l
 | .nil,_,_=>Nat.le_refl _
 | .cons h b e r,nx,pos=>by
   rw [iI,kZ,List.length_append]
   have hs:=IG W lc nx h (iI W lc b (nx + 1) (pos + lH h (fK W lc nx h lc.length))) (iI W lc e (nx + 1 + bM b) (pos + lH h (fK W lc nx h lc.length) + (iI W lc b (nx + 1) (pos + lH h (fK W lc nx h lc.length))).length + 1)) e.none pos
   have hb:=oC W lc b (nx + 1) (pos + lH h (fK W lc nx h lc.length))
   have he:=oC W lc e (nx + 1 + bM b) (pos + lH h (fK W lc nx h lc.length) + (iI W lc b (nx + 1) (pos + lH h (fK W lc nx h lc.length))).length + 1)
   have hr:=oC W lc r (nx + 1 + bM b + bM e) (pos + (yV W lc nx h (fK W lc nx h lc.length) (iI W lc b (nx + 1) (pos + lH h (fK W lc nx h lc.length))) (iI W lc e (nx + 1 + bM b) (pos + lH h (fK W lc nx h lc.length) + (iI W lc b (nx + 1) (pos + lH h (fK W lc nx h lc.length))).length + 1)) e.none pos).length)
   omega
end Md
end Go.Proofs.YtdajkddgnfgijaaGreatDoor
end
section
set_option linter.unusedSimpArgs false
set_option linter.unusedVariables false
namespace Go.Proofs.YtdajkddgnfgijaaGreatDoor
open Go.RowKit
namespace Md
theorem Dn: ∀(l:List ByteArray) (nm:ByteArray) (k:Int),qp l nm k= -1∨(k≤qp l nm k∧qp l nm k < k + l.length)
 | [],_,_=> .inl rfl
 | s ::r,nm,k=>by
   rw [qp]
   split
   ·right; simp only [List.length_cons]; omega
   ·rcases Dn r nm (k + 1) with h | h
    ·exact .inl h
    ·right; simp only [List.length_cons]; omega
theorem Ki: ∀(l:List ByteArray) (nm:ByteArray) (k:Int),0≤k→(∃s ∈ l,s.toList=nm.toList)→0≤qp l nm k
 | [],_,_,_,⟨s,h,_⟩=>by cases h
 | s ::r,nm,k,hk,⟨x,hx,e⟩=>by
   rw [qp]
   split
   ·exact hk
   ·rename_i h
    rcases List.mem_cons.1 hx with rfl | hx
    ·rw [e] at h; simp at h
    ·exact Ki r nm (k + 1) (by omega) ⟨x,hx,e⟩
theorem Ux {l:List ByteArray} {nm:ByteArray} (h:0≤fV l nm):(fV l nm).toNat < l.length:=by
 unfold fV at *
 rcases Dn l nm 0 with h1 | h1
 ·omega
 ·omega
theorem JJ (l:List ByteArray) (nm:ByteArray): -1≤fV l nm∧fV l nm < max l.length 1:=by
 unfold fV
 rcases Dn l nm 0 with h1 | h1 <;> omega
def BX (W:Wo):bL→Bool
 | .nil=>true
 | .cons op _ nm kids rest=>((!(op == 3) || decide (0≤W.cell nm)) && BX W kids) && BX W rest
def uo (W:Wo) (op:Int) (nm:ByteArray) (kids:bL):Bool:=(!(op == 3) || decide (0≤W.cell nm)) && BX W kids
def Al (W:Wo) (h:aX):Bool:=uo W h.dN h.dM h.aR && (BX W h.idx && (h.idx.len == 0 || !(h.op == 1) || decide (0≤W.cell h.nm)))
def aP.Ev (Q:aX→Prop):aP→Prop
 | .nil=>True
 | .cons h b e r=>Q h∧b.Ev Q∧e.Ev Q∧r.Ev Q
theorem aP.Ev.imp {Q R:aX→Prop} (f: ∀h,Q h→R h): ∀ {l:aP},l.Ev Q→l.Ev R
 | .nil,_=>trivial
 | .cons _ _ _ _,h=>⟨f _ h.1,h.2.1.imp f,h.2.2.1.imp f,h.2.2.2.imp f⟩
theorem aP.Ev.and {Q R:aX→Prop} : ∀ {l:aP},l.Ev Q→l.Ev R→l.Ev (fun h=>Q h∧R h)
 | .nil,_,_=>trivial
 | .cons _ _ _ _,h,k=>⟨⟨h.1,k.1⟩,h.2.1.and k.2.1,h.2.2.1.and k.2.2.1,h.2.2.2.and k.2.2.2⟩
end Md
end Go.Proofs.YtdajkddgnfgijaaGreatDoor
end
