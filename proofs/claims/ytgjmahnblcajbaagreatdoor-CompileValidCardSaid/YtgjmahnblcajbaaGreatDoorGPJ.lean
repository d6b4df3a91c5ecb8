/- Objects and code of a program as data, and what is compiled. No program text in sight. And what hangs on it. -/
import Derived.Test.YtgjmahnblcajbaaGreatDoorGMA
set_option linter.unusedSimpArgs false
set_option linter.unusedVariables false
set_option maxHeartbeats 40000000
set_option maxRecDepth 1000000
namespace Go.Proofs.YtgjmahnblcajbaaGreatDoor
open Go.RowKit
namespace Md
structure kM where
 nm:ByteArray
 ix:Int
 sz:Int
 rW:Bool
 init:Int
structure zH where
 nm:ByteArray
 rw:Bool
structure Ab where
 nm:ByteArray
 mx:Int
structure rU where
 th:Int
 st:Int
 ln:Int
structure Wo where
 cs:List kM
 ls:List zH
 ns:List Ab
 fs:List ByteArray
 ts:List ByteArray
 ss:List rU
structure aQ where
 op:Int
 a:Int
 b:Int
 c:Int
 n:Int
 st:Int
structure qJ where
 regs:Int
 is:List aQ
def kJ (x:kM):List Value:=[.string x.nm,.int .i64 x.ix,.int .i64 x.sz,.bool x.rW,.int .i64 x.init]
def nN (x:zH):List Value:=[.string x.nm,.bool x.rw]
def tZ (x:Ab):List Value:=[.string x.nm,.int .i64 x.mx]
def ny (x:ByteArray):List Value:=[.string x]
def uG (x:rU):List Value:=[.int .i64 x.th,.int .i64 x.st,.int .i64 x.ln]
def gK (x:aQ):List Value:=[.int .i64 x.op,.int .i64 x.a,.int .i64 x.b,.int .i64 x.c,.int .i64 x.n,.int .i64 x.st]
def bL {α:Type} (f:α->List Value) (m:Nat) (w:World) (B:Nat):List α->Option Addr->Nat->Prop
 | [],_,_=>True
 | x ::r,ao,k=>(∃b off,ao=some ⟨b,off,none⟩∧b < B∧ ∀(j:Nat) (u:Value),(f x)[j]? =some u->w.cell? ⟨b,off + k * m + j,none⟩=some u)∧bL f m w B r ao (k + 1)
def oF:List ByteArray->ByteArray->Int->Int
 | [],_,_=> -1
 | s ::r,nm,k=>if s.toList == nm.toList then k else oF r nm (k + 1)
def fC (l:List ByteArray) (nm:ByteArray):Int:=oF l nm 0
def Bn (d:De):Nat->Nat->List kM
 | 0,_=>[]
 | n + 1,k=>⟨d.nm,k,d.size,d.kind == 2,d.init⟩ ::Bn d n (k + 1)
def Nk (d:De):List kM:=Bn d (max d.size 1).toNat 0
def Bd (W:Wo) (d:De):Wo:=
 if d.kind == 1 || d.kind == 2 then {W with cs:=W.cs++Nk d} else if d.kind == 3 || d.kind == 4 then {W with ls:=W.ls++[⟨d.nm,d.kind == 4⟩]} else
 if d.kind == 5 then {W with ns:=W.ns++[⟨d.nm,fC (W.ls.map (·.nm)) d.on⟩]} else {W with fs:=W.fs++[d.nm]}
def dK:aJ->Nat
 | .nil=>0
 | .cons _ b e r=>1 + dK b + dK e + dK r
def LH (i:Int):aJ->Nat->List rU
 | .nil,_=>[]
 | .cons h b e r,n=>⟨i,n,h.line⟩ ::(LH i b (n + 1)++LH i e (n + 1 + dK b)++LH i r (n + 1 + dK b + dK e))
def CB (W:Wo) (i:Nat):List Th->Wo
 | []=>W
 | t ::r=>CB {W with ts:=W.ts++[t.nm],ss:=W.ss++LH i t.body 0} (i + 1) r
def sQ:Wo:=⟨[],[],[],[],[],[]⟩
def jr (p:Pr):Wo:=CB (p.ds.foldl Bd sQ) 0 p.ts
def Wo.cell (W:Wo) (nm:ByteArray):Int:=fC (W.cs.map (·.nm)) nm
def Wo.lock (W:Wo) (nm:ByteArray):Int:=fC (W.ls.map (·.nm)) nm
def Wo.cond (W:Wo) (nm:ByteArray):Int:=fC (W.ns.map (·.nm)) nm
def Wo.size (W:Wo) (nm:ByteArray):Int:=((W.cs[(W.cell nm).toNat]?).map (·.sz)).getD 0
def Oo (W:Wo) (op:Int) (nm:ByteArray) (d st:Int):aQ:=
 if op == 3 then ⟨7,d,W.cell nm,d,W.size nm,st⟩ else if op == 4 || op == 5 then ⟨3,d,d,0,op,st⟩ else ⟨4,d,d,d + 1,op,st⟩
def Fu (W:Wo) (lc:List ByteArray) (op n:Int) (nm:ByteArray) (d st:Int):aQ:=
 if op == 1 then ⟨1,d,0,0,n,st⟩ else if decide (0<=fC lc nm) then ⟨2,d,fC lc nm,0,0,st⟩ else ⟨6,d,W.cell nm,0,0,st⟩
def DR (W:Wo) (lc:List ByteArray) (st:Int):bf->Int->List aQ
 | .nil,_=>[]
 | .cons op n nm kids rest,d=>(if op == 1 || op == 2 then [Fu W lc op n nm d st] else DR W lc st kids d++[Oo W op nm d st])++DR W lc st rest (d + 1)
def kT (W:Wo) (lc:List ByteArray) (st:Int) (op n:Int) (nm:ByteArray) (kids:bf) (d:Int):List aQ:=
 if op == 1 || op == 2 then [Fu W lc op n nm d st] else DR W lc st kids d++[Oo W op nm d st]
def fV (W:Wo) (lc:List ByteArray) (st:Int) (h:aX) (d:Int):List aQ:=kT W lc st h.dP h.xn h.dO h.aO d
def Es (W:Wo) (lc:List ByteArray) (st:Int) (h:aX):List aQ:=
 match h.idx with
 | .nil=>fV W lc st h lc.length++[if decide (0<=fC lc h.nm) then ⟨2,fC lc h.nm,lc.length,0,0,st⟩ else ⟨8,W.cell h.nm,lc.length,0,0,st⟩]
 | .cons op n nm kids _=>kT W lc st op n nm kids lc.length++fV W lc st h (lc.length + 1)++[⟨9,W.cell h.nm,lc.length + 1,lc.length,W.size h.nm,st⟩]
def Iq (W:Wo) (h:aX):Int:=if h.op == 7 || h.op == 8 then 0 else W.lock h.nm
def zJ (op:Int):Int:=if op == 4 then 11 else if op == 5 then 13 else if op == 6 then 15 else if op == 7 then 17 else 19
def vH (W:Wo) (lc:List ByteArray) (st:Int) (h:aX):List aQ:=
 if h.op == 1 then Es W lc st h else if h.op == 9 then [⟨21,W.cond h.nm,0,0,0,st⟩] else if h.op == 10 then [⟨22,W.cond h.nm,0,0,0,st⟩] else if h.op == 11 then [⟨23,W.cond h.nm,0,0,0,st⟩] else
 if h.op == 12 then [⟨24,fC W.ts h.nm,0,0,0,st⟩] else if h.op == 13 then [⟨25,fC W.ts h.nm,0,0,0,st⟩] else
 if h.op == 14 then fV W lc st h lc.length++[⟨26,fC W.fs h.nm,lc.length,0,0,st⟩] else if h.op == 15 then [⟨27,fC lc h.nm,fC W.fs h.arg,0,0,st⟩] else []
def Cv (W:Wo) (lc:List ByteArray) (st:Int) (h:aX) (X B E:List aQ) (ne:Bool) (pos:Nat):List aQ:=
 if h.op == 2 then
  (if ne then X++[⟨10,lc.length,((pos + X.length + 1 + B.length:Nat):Int),0,0,st⟩]++B
   else X++[⟨10,lc.length,((pos + X.length + 1 + B.length + 1:Nat):Int),0,0,st⟩]++B++[⟨5,((pos + X.length + 1 + B.length + 1 + E.length:Nat):Int),0,0,0,st⟩]++E)
 else if h.op == 3 then X++[⟨10,lc.length,((pos + X.length + 1 + B.length + 1:Nat):Int),0,0,st⟩]++B++[⟨5,(pos:Int),0,0,0,st⟩]
 else if decide (4<=h.op) && decide (h.op<=8) then [⟨zJ h.op,Iq W h,0,0,0,st⟩]++B++[⟨zJ h.op + 1,Iq W h,0,0,0,st⟩]
 else vH W lc st h
def aJ.none:aJ->Bool
 | .nil=>true
 | _=>false
def mV (h:aX) (X:List aQ):Nat:=if h.op == 2 || h.op == 3 then X.length + 1 else 1
def iW (W:Wo) (lc:List ByteArray):aJ->Nat->Nat->List aQ
 | .nil,_,_=>[]
 | .cons h b e r,nx,pos=>
   Cv W lc nx h (fV W lc nx h lc.length) (iW W lc b (nx + 1) (pos + mV h (fV W lc nx h lc.length)))
      (iW W lc e (nx + 1 + dK b) (pos + mV h (fV W lc nx h lc.length) + (iW W lc b (nx + 1) (pos + mV h (fV W lc nx h lc.length))).length + 1)) e.none pos++
    iW W lc r (nx + 1 + dK b + dK e) (pos +
     (Cv W lc nx h (fV W lc nx h lc.length) (iW W lc b (nx + 1) (pos + mV h (fV W lc nx h lc.length)))
     (iW W lc e (nx + 1 + dK b) (pos + mV h (fV W lc nx h lc.length) + (iW W lc b (nx + 1) (pos + mV h (fV W lc nx h lc.length))).length + 1)) e.none pos).length)
def dx (i:aQ):List Int:=
 if i.op == 1 || i.op == 6 || i.op == 10 || i.op == 27 then [i.a] else if i.op == 2 || i.op == 3 then [i.a,i.b] else if i.op == 4 then [i.a,i.b,i.c] else if i.op == 7 then [i.a,i.c] else
 if i.op == 8 || i.op == 26 then [i.b] else if i.op == 9 then [i.b,i.c] else []
def YH:List Int->Int->Int
 | [],n=>n
 | r ::l,n=>YH l (max n (r + 1))
def yE:List aQ->Int->Int
 | [],n=>n
 | i ::l,n=>yE l (YH (dx i) n)
def coT (W:Wo) (t:Th) (nx:Nat):qJ:=
 ⟨yE (iW W t.cu t.body nx 0++[⟨28,0,0,0,0,-1⟩]) t.cu.length,iW W t.cu t.body nx 0++[⟨28,0,0,0,0,-1⟩]⟩
def zM (W:Wo):List Th->Nat->List qJ
 | [],_=>[]
 | t ::r,nx=>coT W t nx ::zM W r (nx + dK t.body)
end Md
namespace Md
def fG:bf->Nat
 | .nil=>0
 | .cons _ _ _ kids rest=>1 + fG kids + fG rest
def gP (h:aX):Nat:=3 + fG h.aO + fG h.idx
def mJ:aJ->Nat
 | .nil=>0
 | .cons h b e r=>gP h + mJ b + mJ e + mJ r
theorem uT: ∀l:aJ,dK l<=mJ l
 | .nil=>Nat.le_refl _
 | .cons h b e r=>by have h1:=uT b; have h2:=uT e; have h3:=uT r;rw [dK,mJ]; unfold gP; omega
theorem Km (W:Wo) (lc:List ByteArray) (st:Int): ∀(l:bf) (d:Int),(DR W lc st l d).length<=fG l
 | .nil,_=>Nat.le_refl _
 | .cons op n nm kids rest,d=>by
   have h1:=Km W lc st kids d;have h2:=Km W lc st rest (d + 1);rw [DR,fG,List.length_append];split
   ·simp only [List.length_singleton]; omega
   ·simp only [List.length_append,List.length_singleton]; omega
theorem kg (W:Wo) (lc:List ByteArray) (st op n:Int) (nm:ByteArray) (kids:bf) (d:Int):(kT W lc st op n nm kids d).length<=1 + fG kids:=by
 unfold kT;have h1:=Km W lc st kids d;split
 ·simp only [List.length_singleton]; omega
 ·simp only [List.length_append,List.length_singleton]; omega
theorem YP (W:Wo) (lc:List ByteArray) (st:Int) (h:aX):(Es W lc st h).length<=gP h:=by
 unfold Es gP;split
 ·have:=kg W lc st h.dP h.xn h.dO h.aO lc.length;simp only [fV,List.length_append,List.length_singleton]; omega
 ·rename_i op n nm kids r hi;have h1:=kg W lc st h.dP h.xn h.dO h.aO (lc.length + 1);have h2:=kg W lc st op n nm kids lc.length;simp only [fV,List.length_append,List.length_singleton];rw [hi,fG]; omega
theorem X8 (W:Wo) (lc:List ByteArray) (st:Int) (h:aX):(vH W lc st h).length<=gP h:=by
 have hv:=kg W lc st h.dP h.xn h.dO h.aO lc.length;have h1:3<=gP h:=by unfold gP; omega
 have h2:1 + fG h.aO + 1<=gP h:=by unfold gP; omega
 unfold vH;split
 ·exact YP W lc st h
 all_goals (repeat' split)
 all_goals simp only [fV,List.length_append,List.length_singleton,List.length_nil]
 all_goals omega
theorem OA (W:Wo) (lc:List ByteArray) (st:Int) (h:aX) (B E:List aQ) (ne:Bool) (pos:Nat):(Cv W lc st h (fV W lc st h lc.length) B E ne pos).length<=gP h + B.length + E.length:=by
 have hv:=kg W lc st h.dP h.xn h.dO h.aO lc.length;have ho:=X8 W lc st h;have h2:1 + fG h.aO + 2<=gP h:=by unfold gP; omega
 unfold Cv
 repeat' split
 all_goals try simp only [fV,List.length_append,List.length_singleton,List.length_nil]
 all_goals omega
theorem pY (W:Wo) (lc:List ByteArray): ∀(l:aJ) (nx pos:Nat),(iW W lc l nx pos).length<=mJ l
 | .nil,_,_=>Nat.le_refl _
 | .cons h b e r,nx,pos=>by rw [iW,mJ,List.length_append];have hs:=OA W lc nx h (iW W lc b (nx + 1) (pos + mV h (fV W lc nx h lc.length))) (iW W lc e (nx + 1 + dK b) (pos + mV h (fV W lc nx h lc.length) + (iW W lc b (nx + 1) (pos + mV h (fV W lc nx h lc.length))).length + 1)) e.none pos;have hb:=pY W lc b (nx + 1) (pos + mV h (fV W lc nx h lc.length));have he:=pY W lc e (nx + 1 + dK b) (pos + mV h (fV W lc nx h lc.length) + (iW W lc b (nx + 1) (pos + mV h (fV W lc nx h lc.length))).length + 1);have hr:=pY W lc r (nx + 1 + dK b + dK e) (pos + (Cv W lc nx h (fV W lc nx h lc.length) (iW W lc b (nx + 1) (pos + mV h (fV W lc nx h lc.length))) (iW W lc e (nx + 1 + dK b) (pos + mV h (fV W lc nx h lc.length) + (iW W lc b (nx + 1) (pos + mV h (fV W lc nx h lc.length))).length + 1)) e.none pos).length);omega
end Md
namespace Md
theorem J6: ∀(l:List ByteArray) (nm:ByteArray) (k:Int),oF l nm k= -1∨(k<=oF l nm k∧oF l nm k < k + l.length)
 | [],_,_=> .inl rfl
 | s ::r,nm,k=>by
   rw [oF];split
   ·right; simp only [List.length_cons]; omega
   ·rcases J6 r nm (k + 1) with h | h
    ·exact .inl h
    ·right; simp only [List.length_cons]; omega
theorem JY: ∀(l:List ByteArray) (nm:ByteArray) (k:Int),0<=k->(∃s ∈ l,s.toList=nm.toList)->0<=oF l nm k
 | [],_,_,_,⟨s,h,_⟩=>by cases h
 | s ::r,nm,k,hk,⟨x,hx,e⟩=>by
   rw [oF];split
   ·exact hk
   ·rename_i h;rcases List.mem_cons.1 hx with rfl | hx
    ·rw [e] at h; simp at h
    ·exact JY r nm (k + 1) (by omega) ⟨x,hx,e⟩
theorem an1 {l:List ByteArray} {nm:ByteArray} (h:0<=fC l nm):(fC l nm).toNat < l.length:=by
 unfold fC at *;rcases J6 l nm 0 with h1 | h1
 ·omega
 ·omega
theorem Qw (l:List ByteArray) (nm:ByteArray): -1<=fC l nm∧fC l nm < max l.length 1:=by
 unfold fC;rcases J6 l nm 0 with h1 | h1 <;> omega
def FY (W:Wo):bf->Bool
 | .nil=>true
 | .cons op _ nm kids rest=>((!(op == 3) || decide (0<=W.cell nm)) && FY W kids) && FY W rest
def xQ (W:Wo) (op:Int) (nm:ByteArray) (kids:bf):Bool:=(!(op == 3) || decide (0<=W.cell nm)) && FY W kids
def ES (W:Wo) (h:aX):Bool:=xQ W h.dP h.dO h.aO && (FY W h.idx && (h.idx.len == 0 || !(h.op == 1) || decide (0<=W.cell h.nm)))
def aJ.Ev (Q:aX->Prop):aJ->Prop
 | .nil=>True
 | .cons h b e r=>Q h∧b.Ev Q∧e.Ev Q∧r.Ev Q
theorem aJ.Ev.imp {Q R:aX->Prop} (f: ∀h,Q h->R h): ∀ {l:aJ},l.Ev Q->l.Ev R
 | .nil,_=>trivial
 | .cons _ _ _ _,h=>⟨f _ h.1,h.2.1.imp f,h.2.2.1.imp f,h.2.2.2.imp f⟩
theorem aJ.Ev.and {Q R:aX->Prop} : ∀ {l:aJ},l.Ev Q->l.Ev R->l.Ev (fun h=>Q h∧R h)
 | .nil,_,_=>trivial
 | .cons _ _ _ _,h,k=>⟨⟨h.1,k.1⟩,h.2.1.and k.2.1,h.2.2.1.and k.2.2.1,h.2.2.2.and k.2.2.2⟩
end Md
end Go.Proofs.YtgjmahnblcajbaaGreatDoor
