/- Objects and code of a program as data, and what is compiled. No program text in sight. And what hangs on it. -/
import Derived.Test.YtkmllehjemjgpaaGreatDoorGMA
set_option linter.unusedSimpArgs false
set_option linter.unusedVariables false
set_option maxHeartbeats 40000000
set_option maxRecDepth 1000000
namespace Go.Proofs.YtkmllehjemjgpaaGreatDoor
open Go.RowKit
namespace Md
structure rQ where
 nm:ByteArray
 ix:Int
 sz:Int
 vol:Bool
 init:Int
structure sJ where
 nm:ByteArray
 rw:Bool
structure AZ where
 nm:ByteArray
 mx:Int
structure xM where
 th:Int
 st:Int
 ln:Int
structure Wo where
 cs:List rQ
 ls:List sJ
 ns:List AZ
 fs:List ByteArray
 ts:List ByteArray
 ss:List xM
structure bM where
 op:Int
 a:Int
 b:Int
 c:Int
 n:Int
 st:Int
structure xO where
 regs:Int
 is:List bM
def jo (x:rQ):List Value:=[.string x.nm,.int .i64 x.ix,.int .i64 x.sz,.bool x.vol,.int .i64 x.init]
def ku (x:sJ):List Value:=[.string x.nm,.bool x.rw]
def rE (x:AZ):List Value:=[.string x.nm,.int .i64 x.mx]
def jr (x:ByteArray):List Value:=[.string x]
def pR (x:xM):List Value:=[.int .i64 x.th,.int .i64 x.st,.int .i64 x.ln]
def jI (x:bM):List Value:=[.int .i64 x.op,.int .i64 x.a,.int .i64 x.b,.int .i64 x.c,.int .i64 x.n,.int .i64 x.st]
def dF {α:Type} (f:α->List Value) (m:Nat) (w:World) (B:Nat):List α->Option Addr->Nat->Prop
 | [],_,_=>True
 |x::r,ao,k=>(∃b off,ao=some ⟨b,off,none⟩∧b<B∧∀(j:Nat) (u:Value),(f x)[j]? =some u->w.cell? ⟨b,off+k*m+j,none⟩=some u)∧dF f m w B r ao (k+1)
def qI:List ByteArray->ByteArray->Int->Int
 | [],_,_=> -1
 |s::r,nm,k=>if s.toList==nm.toList then k else qI r nm (k+1)
def eB (l:List ByteArray) (nm:ByteArray):Int:=qI l nm 0
def qx (d:De):Nat->Nat->List rQ
 |0,_=>[]
 |n+1,k=>⟨d.nm,k,d.size,d.kind==2,d.init⟩::qx d n (k+1)
def EM (d:De):List rQ:=qx d (max d.size 1).toNat 0
def kD (W:Wo) (d:De):Wo:=
 if d.kind==1||d.kind==2 then {W with cs:=W.cs++EM d} else if d.kind==3||d.kind==4 then {W with ls:=W.ls++[⟨d.nm,d.kind==4⟩]} else
 if d.kind==5 then {W with ns:=W.ns++[⟨d.nm,eB (W.ls.map (·.nm)) d.on⟩]} else {W with fs:=W.fs++[d.nm]}
def bF:aH->Nat
 | .nil=>0
 | .cons _ b e r=>1+bF b+bF e+bF r
def sj (i:Int):aH->Nat->List xM
 | .nil,_=>[]
 | .cons h b e r,n=>⟨i,n,h.line⟩::(sj i b (n+1)++sj i e (n+1+bF b)++sj i r (n+1+bF b+bF e))
def zF (W:Wo) (i:Nat):List Th->Wo
 | []=>W
 |t::r=>zF {W with ts:=W.ts++[t.nm],ss:=W.ss++sj i t.body 0} (i+1) r
def nV:Wo:=⟨[],[],[],[],[],[]⟩
def iI (p:Pr):Wo:=zF (p.ds.foldl kD nV) 0 p.ts
def Wo.cell (W:Wo) (nm:ByteArray):Int:=eB (W.cs.map (·.nm)) nm
def Wo.lock (W:Wo) (nm:ByteArray):Int:=eB (W.ls.map (·.nm)) nm
def Wo.cond (W:Wo) (nm:ByteArray):Int:=eB (W.ns.map (·.nm)) nm
def Wo.size (W:Wo) (nm:ByteArray):Int:=((W.cs[(W.cell nm).toNat]?).map (·.sz)).getD 0
def JH (W:Wo) (op:Int) (nm:ByteArray) (d st:Int):bM:=
 if op==3 then⟨7,d,W.cell nm,d,W.size nm,st⟩else if op==4||op==5 then⟨3,d,d,0,op,st⟩else⟨4,d,d,d+1,op,st⟩
def zN (W:Wo) (lc:List ByteArray) (op n:Int) (nm:ByteArray) (d st:Int):bM:=
 if op==1 then⟨1,d,0,0,n,st⟩else if decide (0<=eB lc nm)then⟨2,d,eB lc nm,0,0,st⟩else⟨6,d,W.cell nm,0,0,st⟩
def Ea (W:Wo) (lc:List ByteArray) (st:Int):bC->Int->List bM
 | .nil,_=>[]
 | .cons op n nm kids rest,d=>(if op==1||op==2 then [zN W lc op n nm d st]else Ea W lc st kids d++[JH W op nm d st])++Ea W lc st rest (d+1)
def jl (W:Wo) (lc:List ByteArray) (st:Int) (op n:Int) (nm:ByteArray) (kids:bC) (d:Int):List bM:=
 if op==1||op==2 then [zN W lc op n nm d st]else Ea W lc st kids d++[JH W op nm d st]
def fF (W:Wo) (lc:List ByteArray) (st:Int) (h:cB) (d:Int):List bM:=jl W lc st h.cu h.xn h.bZ h.aK d
def Bo (W:Wo) (lc:List ByteArray) (st:Int) (h:cB):List bM:=
 match h.idx with
 | .nil=>fF W lc st h lc.length++[if decide (0<=eB lc h.nm)then⟨2,eB lc h.nm,lc.length,0,0,st⟩else⟨8,W.cell h.nm,lc.length,0,0,st⟩]
 | .cons op n nm kids _=>jl W lc st op n nm kids lc.length++fF W lc st h (lc.length+1)++[⟨9,W.cell h.nm,lc.length+1,lc.length,W.size h.nm,st⟩]
def Bn (W:Wo) (h:cB):Int:=if h.op==7||h.op==8 then 0 else W.lock h.nm
def vP (op:Int):Int:=if op==4 then 11 else if op==5 then 13 else if op==6 then 15 else if op==7 then 17 else 19
def oV (W:Wo) (lc:List ByteArray) (st:Int) (h:cB):List bM:=
 if h.op==1 then Bo W lc st h else if h.op==9 then [⟨21,W.cond h.nm,0,0,0,st⟩]else if h.op==10 then [⟨22,W.cond h.nm,0,0,0,st⟩]else if h.op==11 then [⟨23,W.cond h.nm,0,0,0,st⟩]else
 if h.op==12 then [⟨24,eB W.ts h.nm,0,0,0,st⟩]else if h.op==13 then [⟨25,eB W.ts h.nm,0,0,0,st⟩]else
 if h.op==14 then fF W lc st h lc.length++[⟨26,eB W.fs h.nm,lc.length,0,0,st⟩]else if h.op==15 then [⟨27,eB lc h.nm,eB W.fs h.arg,0,0,st⟩]else []
def CP (W:Wo) (lc:List ByteArray) (st:Int) (h:cB) (X B E:List bM) (ne:Bool) (pos:Nat):List bM:=
 if h.op==2 then
  (if ne then X++[⟨10,lc.length,((pos+X.length+1+B.length:Nat):Int),0,0,st⟩]++B
   else X++[⟨10,lc.length,((pos+X.length+1+B.length+1:Nat):Int),0,0,st⟩]++B++[⟨5,((pos+X.length+1+B.length+1+E.length:Nat):Int),0,0,0,st⟩]++E)
 else if h.op==3 then X++[⟨10,lc.length,((pos+X.length+1+B.length+1:Nat):Int),0,0,st⟩]++B++[⟨5,(pos:Int),0,0,0,st⟩]
 else if decide (4<=h.op)&&decide (h.op<=8)then [⟨vP h.op,Bn W h,0,0,0,st⟩]++B++[⟨vP h.op+1,Bn W h,0,0,0,st⟩]
 else oV W lc st h
def aH.none:aH->Bool
 | .nil=>true
 |_=>false
def pG (h:cB) (X:List bM):Nat:=if h.op==2||h.op==3 then X.length+1 else 1
def iH (W:Wo) (lc:List ByteArray):aH->Nat->Nat->List bM
 | .nil,_,_=>[]
 | .cons h b e r,nx,pos=>
   CP W lc nx h (fF W lc nx h lc.length) (iH W lc b (nx+1) (pos+pG h (fF W lc nx h lc.length)))
      (iH W lc e (nx+1+bF b) (pos+pG h (fF W lc nx h lc.length)+(iH W lc b (nx+1) (pos+pG h (fF W lc nx h lc.length))).length+1)) e.none pos++
    iH W lc r (nx+1+bF b+bF e) (pos+
     (CP W lc nx h (fF W lc nx h lc.length) (iH W lc b (nx+1) (pos+pG h (fF W lc nx h lc.length)))
     (iH W lc e (nx+1+bF b) (pos+pG h (fF W lc nx h lc.length)+(iH W lc b (nx+1) (pos+pG h (fF W lc nx h lc.length))).length+1)) e.none pos).length)
def gK (i:bM):List Int:=
 if i.op==1||i.op==6||i.op==10||i.op==27 then [i.a]else if i.op==2||i.op==3 then [i.a,i.b]else if i.op==4 then [i.a,i.b,i.c]else if i.op==7 then [i.a,i.c]else
 if i.op==8||i.op==26 then [i.b]else if i.op==9 then [i.b,i.c]else []
def R7:List Int->Int->Int
 | [],n=>n
 |r::l,n=>R7 l (max n (r+1))
def uo:List bM->Int->Int
 | [],n=>n
 |i::l,n=>uo l (R7 (gK i) n)
def coT (W:Wo) (t:Th) (nx:Nat):xO:=
 ⟨uo (iH W t.bg t.body nx 0++[⟨28,0,0,0,0,-1⟩]) t.bg.length,iH W t.bg t.body nx 0++[⟨28,0,0,0,0,-1⟩]⟩
def rF (W:Wo):List Th->Nat->List xO
 | [],_=>[]
 |t::r,nx=>coT W t nx::rF W r (nx+bF t.body)
end Md
namespace Md
def cZ:bC->Nat
 | .nil=>0
 | .cons _ _ _ kids rest=>1+cZ kids+cZ rest
def dU (h:cB):Nat:=3+cZ h.aK+cZ h.idx
def iV:aH->Nat
 | .nil=>0
 | .cons h b e r=>dU h+iV b+iV e+iV r
theorem qy: ∀l:aH,bF l<=iV l
 | .nil=>Nat.le_refl _
 | .cons h b e r=>by have h1:=qy b;have h2:=qy e;have h3:=qy r;rw[bF,iV];unfold dU;omega
theorem Kv (W:Wo) (lc:List ByteArray) (st:Int): ∀(l:bC) (d:Int),(Ea W lc st l d).length<=cZ l
 | .nil,_=>Nat.le_refl _
 | .cons op n nm kids rest,d=>by
   have h1:=Kv W lc st kids d;have h2:=Kv W lc st rest (d+1);rw[Ea,cZ,List.length_append];split
   ·simp only[List.length_singleton];omega
   ·simp only[List.length_append,List.length_singleton];omega
theorem iA (W:Wo) (lc:List ByteArray) (st op n:Int) (nm:ByteArray) (kids:bC) (d:Int):(jl W lc st op n nm kids d).length<=1+cZ kids:=by
 unfold jl;have h1:=Kv W lc st kids d;split
 ·simp only[List.length_singleton];omega
 ·simp only[List.length_append,List.length_singleton];omega
theorem ab3 (W:Wo) (lc:List ByteArray) (st:Int) (h:cB):(Bo W lc st h).length<=dU h:=by
 unfold Bo dU;split
 ·have:=iA W lc st h.cu h.xn h.bZ h.aK lc.length;simp only[fF,List.length_append,List.length_singleton];omega
 ·rename_i op n nm kids r hi;have h1:=iA W lc st h.cu h.xn h.bZ h.aK (lc.length+1);have h2:=iA W lc st op n nm kids lc.length;simp only[fF,List.length_append,List.length_singleton];rw[hi,cZ];omega
theorem Yu (W:Wo) (lc:List ByteArray) (st:Int) (h:cB):(oV W lc st h).length<=dU h:=by
 have hv:=iA W lc st h.cu h.xn h.bZ h.aK lc.length;have h1:3<=dU h:=by unfold dU;omega
 have h2:1+cZ h.aK+1<=dU h:=by unfold dU;omega
 unfold oV;split
 ·exact ab3 W lc st h
 all_goals (repeat' split)
 all_goals simp only[fF,List.length_append,List.length_singleton,List.length_nil]
 all_goals omega
theorem OX (W:Wo) (lc:List ByteArray) (st:Int) (h:cB) (B E:List bM) (ne:Bool) (pos:Nat):(CP W lc st h (fF W lc st h lc.length) B E ne pos).length<=dU h+B.length+E.length:=by
 have hv:=iA W lc st h.cu h.xn h.bZ h.aK lc.length;have ho:=Yu W lc st h;have h2:1+cZ h.aK+2<=dU h:=by unfold dU;omega
 unfold CP
 repeat' split
 all_goals try simp only[fF,List.length_append,List.length_singleton,List.length_nil]
 all_goals omega
theorem mM (W:Wo) (lc:List ByteArray): ∀(l:aH) (nx pos:Nat),(iH W lc l nx pos).length<=iV l
 | .nil,_,_=>Nat.le_refl _
 | .cons h b e r,nx,pos=>by rw[iH,iV,List.length_append];have hs:=OX W lc nx h (iH W lc b (nx+1) (pos+pG h (fF W lc nx h lc.length))) (iH W lc e (nx+1+bF b) (pos+pG h (fF W lc nx h lc.length)+(iH W lc b (nx+1) (pos+pG h (fF W lc nx h lc.length))).length+1)) e.none pos;have hb:=mM W lc b (nx+1) (pos+pG h (fF W lc nx h lc.length));have he:=mM W lc e (nx+1+bF b) (pos+pG h (fF W lc nx h lc.length)+(iH W lc b (nx+1) (pos+pG h (fF W lc nx h lc.length))).length+1);have hr:=mM W lc r (nx+1+bF b+bF e) (pos+(CP W lc nx h (fF W lc nx h lc.length) (iH W lc b (nx+1) (pos+pG h (fF W lc nx h lc.length))) (iH W lc e (nx+1+bF b) (pos+pG h (fF W lc nx h lc.length)+(iH W lc b (nx+1) (pos+pG h (fF W lc nx h lc.length))).length+1)) e.none pos).length);omega
end Md
namespace Md
theorem JA: ∀(l:List ByteArray) (nm:ByteArray) (k:Int),qI l nm k= -1∨(k<=qI l nm k∧qI l nm k<k+l.length)
 | [],_,_=> .inl rfl
 |s::r,nm,k=>by
  rw[qI];split
  ·right;simp only[List.length_cons];omega
  ·rcases JA r nm (k+1)with h|h
   ·exact .inl h
   ·right;simp only[List.length_cons];omega
theorem QX: ∀(l:List ByteArray) (nm:ByteArray) (k:Int),0<=k->(∃s∈l,s.toList=nm.toList)->0<=qI l nm k
 | [],_,_,_,⟨s,h,_⟩=>by cases h
 |s::r,nm,k,hk,⟨x,hx,e⟩=>by
  rw[qI];split
  ·exact hk
  ·rename_i h;rcases List.mem_cons.1 hx with rfl|hx
   ·rw[e]at h;simp at h
   ·exact QX r nm (k+1) (by omega) ⟨x,hx,e⟩
theorem ax3 {l:List ByteArray} {nm:ByteArray} (h:0<=eB l nm):(eB l nm).toNat<l.length:=by
 unfold eB at *;rcases JA l nm 0 with h1|h1
 ·omega
 ·omega
theorem QZ (l:List ByteArray) (nm:ByteArray): -1<=eB l nm∧eB l nm<max l.length 1:=by
 unfold eB;rcases JA l nm 0 with h1|h1 <;> omega
def GX (W:Wo):bC->Bool
 | .nil=>true
 | .cons op _ nm kids rest=>((!(op==3)||decide (0<=W.cell nm))&&GX W kids)&&GX W rest
def xR (W:Wo) (op:Int) (nm:ByteArray) (kids:bC):Bool:=(!(op==3)||decide (0<=W.cell nm))&&GX W kids
def Fx (W:Wo) (h:cB):Bool:=xR W h.cu h.bZ h.aK&&(GX W h.idx&&(h.idx.len==0|| !(h.op==1)||decide (0<=W.cell h.nm)))
def aH.Ev (Q:cB->Prop):aH->Prop
 | .nil=>True
 | .cons h b e r=>Q h∧b.Ev Q∧e.Ev Q∧r.Ev Q
theorem aH.Ev.imp {Q R:cB->Prop} (f: ∀h,Q h->R h): ∀ {l:aH},l.Ev Q->l.Ev R
 | .nil,_=>trivial
 | .cons _ _ _ _,h=>⟨f _ h.1,h.2.1.imp f,h.2.2.1.imp f,h.2.2.2.imp f⟩
theorem aH.Ev.and {Q R:cB->Prop} : ∀ {l:aH},l.Ev Q->l.Ev R->l.Ev (λh=>Q h∧R h)
 | .nil,_,_=>trivial
 | .cons _ _ _ _,h,k=>⟨⟨h.1,k.1⟩,h.2.1.and k.2.1,h.2.2.1.and k.2.2.1,h.2.2.2.and k.2.2.2⟩
end Md
end Go.Proofs.YtkmllehjemjgpaaGreatDoor
