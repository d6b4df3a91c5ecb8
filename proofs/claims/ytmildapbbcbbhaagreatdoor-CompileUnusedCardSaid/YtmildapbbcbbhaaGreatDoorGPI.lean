/- Objects and code of a program as data, and what is compiled. No program text in sight. And what hangs on it. -/
import Derived.Test.YtmildapbbcbbhaaGreatDoorGMJ
set_option linter.unusedSimpArgs false
set_option linter.unusedVariables false
set_option maxHeartbeats 40000000
set_option maxRecDepth 1000000
namespace Go.Proofs.YtmildapbbcbbhaaGreatDoor
open Go.RowKit
namespace Md
structure Ak where
 nm:ByteArray
 ix:Int
 sz:Int
 vol:Bool
 init:Int
structure zN where
 nm:ByteArray
 rw:Bool
structure DU where
 nm:ByteArray
 mx:Int
structure Ef where
 th:Int
 st:Int
 ln:Int
structure Wo where
 cs:List Ak
 ls:List zN
 ns:List DU
 fs:List ByteArray
 ts:List ByteArray
 ss:List Ef
structure dV where
 op:Int
 a:Int
 b:Int
 c:Int
 n:Int
 st:Int
structure yS where
 regs:Int
 is:List dV
def oD (x:Ak):List Value:=[.string x.nm,.int .i64 x.ix,.int .i64 x.sz,.bool x.vol,.int .i64 x.init]
def rX (x:zN):List Value:=[.string x.nm,.bool x.rw]
def yU (x:DU):List Value:=[.string x.nm,.int .i64 x.mx]
def nQ (x:ByteArray):List Value:=[.string x]
def yX (x:Ef):List Value:=[.int .i64 x.th,.int .i64 x.st,.int .i64 x.ln]
def nZ (x:dV):List Value:=[.int .i64 x.op,.int .i64 x.a,.int .i64 x.b,.int .i64 x.c,.int .i64 x.n,.int .i64 x.st]
def eD {α:Type} (f:α->List Value) (m:Nat) (w:World) (B:Nat):List α->Option Addr->Nat->Prop
 | [],_,_=>True
 |x::r,ao,k=>(∃b off,ao=some ⟨b,off,none⟩∧b<B∧∀(j:Nat) (u:Value),(f x)[j]? =some u->w.cell? ⟨b,off+k*m+j,none⟩=some u)∧eD f m w B r ao (k+1)
def qy:List ByteArray->ByteArray->Int->Int
 | [],_,_=> -1
 |s::r,nm,k=>if s.toList==nm.toList then k else qy r nm (k+1)
def iT (l:List ByteArray) (nm:ByteArray):Int:=qy l nm 0
def Gq (d:De):Nat->Nat->List Ak
 |0,_=>[]
 |n+1,k=>⟨d.nm,k,d.size,d.kind==2,d.init⟩::Gq d n (k+1)
def PX (d:De):List Ak:=Gq d (max d.size 1).toNat 0
def Dq (W:Wo) (d:De):Wo:=
 if d.kind==1||d.kind==2 then {W with cs:=W.cs++PX d} else if d.kind==3||d.kind==4 then {W with ls:=W.ls++[⟨d.nm,d.kind==4⟩]} else
 if d.kind==5 then {W with ns:=W.ns++[⟨d.nm,iT (W.ls.map (·.nm)) d.on⟩]} else {W with fs:=W.fs++[d.nm]}
def gF:aY->Nat
 | .nil=>0
 | .cons _ b e r=>1+gF b+gF e+gF r
def NS (i:Int):aY->Nat->List Ef
 | .nil,_=>[]
 | .cons h b e r,n=>⟨i,n,h.line⟩::(NS i b (n+1)++NS i e (n+1+gF b)++NS i r (n+1+gF b+gF e))
def yJ (W:Wo) (i:Nat):List Th->Wo
 | []=>W
 |t::r=>yJ {W with ts:=W.ts++[t.nm],ss:=W.ss++NS i t.body 0} (i+1) r
def xG:Wo:=⟨[],[],[],[],[],[]⟩
def jU (p:Pr):Wo:=yJ (p.ds.foldl Dq xG) 0 p.ts
def Wo.cell (W:Wo) (nm:ByteArray):Int:=iT (W.cs.map (·.nm)) nm
def Wo.lock (W:Wo) (nm:ByteArray):Int:=iT (W.ls.map (·.nm)) nm
def Wo.cond (W:Wo) (nm:ByteArray):Int:=iT (W.ns.map (·.nm)) nm
def Wo.size (W:Wo) (nm:ByteArray):Int:=((W.cs[(W.cell nm).toNat]?).map (·.sz)).getD 0
def J8 (W:Wo) (op:Int) (nm:ByteArray) (d st:Int):dV:=
 if op==3 then⟨7,d,W.cell nm,d,W.size nm,st⟩else if op==4||op==5 then⟨3,d,d,0,op,st⟩else⟨4,d,d,d+1,op,st⟩
def Bn (W:Wo) (lc:List ByteArray) (op n:Int) (nm:ByteArray) (d st:Int):dV:=
 if op==1 then⟨1,d,0,0,n,st⟩else if decide (0<=iT lc nm)then⟨2,d,iT lc nm,0,0,st⟩else⟨6,d,W.cell nm,0,0,st⟩
def Bb (W:Wo) (lc:List ByteArray) (st:Int):bJ->Int->List dV
 | .nil,_=>[]
 | .cons op n nm kids rest,d=>(if op==1||op==2 then [Bn W lc op n nm d st]else Bb W lc st kids d++[J8 W op nm d st])++Bb W lc st rest (d+1)
def nI (W:Wo) (lc:List ByteArray) (st:Int) (op n:Int) (nm:ByteArray) (kids:bJ) (d:Int):List dV:=
 if op==1||op==2 then [Bn W lc op n nm d st]else Bb W lc st kids d++[J8 W op nm d st]
def jd (W:Wo) (lc:List ByteArray) (st:Int) (h:dD) (d:Int):List dV:=nI W lc st h.dN h.xn h.dJ h.bG d
def D5 (W:Wo) (lc:List ByteArray) (st:Int) (h:dD):List dV:=
 match h.idx with
 | .nil=>jd W lc st h lc.length++[if decide (0<=iT lc h.nm)then⟨2,iT lc h.nm,lc.length,0,0,st⟩else⟨8,W.cell h.nm,lc.length,0,0,st⟩]
 | .cons op n nm kids _=>nI W lc st op n nm kids lc.length++jd W lc st h (lc.length+1)++[⟨9,W.cell h.nm,lc.length+1,lc.length,W.size h.nm,st⟩]
def IU (W:Wo) (h:dD):Int:=if h.op==7||h.op==8 then 0 else W.lock h.nm
def Ce (op:Int):Int:=if op==4 then 11 else if op==5 then 13 else if op==6 then 15 else if op==7 then 17 else 19
def wK (W:Wo) (lc:List ByteArray) (st:Int) (h:dD):List dV:=
 if h.op==1 then D5 W lc st h else if h.op==9 then [⟨21,W.cond h.nm,0,0,0,st⟩]else if h.op==10 then [⟨22,W.cond h.nm,0,0,0,st⟩]else if h.op==11 then [⟨23,W.cond h.nm,0,0,0,st⟩]else
 if h.op==12 then [⟨24,iT W.ts h.nm,0,0,0,st⟩]else if h.op==13 then [⟨25,iT W.ts h.nm,0,0,0,st⟩]else
 if h.op==14 then jd W lc st h lc.length++[⟨26,iT W.fs h.nm,lc.length,0,0,st⟩]else if h.op==15 then [⟨27,iT lc h.nm,iT W.fs h.arg,0,0,st⟩]else []
def AZ (W:Wo) (lc:List ByteArray) (st:Int) (h:dD) (X B E:List dV) (ne:Bool) (pos:Nat):List dV:=
 if h.op==2 then
  (if ne then X++[⟨10,lc.length,((pos+X.length+1+B.length:Nat):Int),0,0,st⟩]++B
   else X++[⟨10,lc.length,((pos+X.length+1+B.length+1:Nat):Int),0,0,st⟩]++B++[⟨5,((pos+X.length+1+B.length+1+E.length:Nat):Int),0,0,0,st⟩]++E)
 else if h.op==3 then X++[⟨10,lc.length,((pos+X.length+1+B.length+1:Nat):Int),0,0,st⟩]++B++[⟨5,(pos:Int),0,0,0,st⟩]
 else if decide (4<=h.op)&&decide (h.op<=8)then [⟨Ce h.op,IU W h,0,0,0,st⟩]++B++[⟨Ce h.op+1,IU W h,0,0,0,st⟩]
 else wK W lc st h
def aY.none:aY->Bool
 | .nil=>true
 |_=>false
def qK (h:dD) (X:List dV):Nat:=if h.op==2||h.op==3 then X.length+1 else 1
def kr (W:Wo) (lc:List ByteArray):aY->Nat->Nat->List dV
 | .nil,_,_=>[]
 | .cons h b e r,nx,pos=>
   AZ W lc nx h (jd W lc nx h lc.length) (kr W lc b (nx+1) (pos+qK h (jd W lc nx h lc.length)))
      (kr W lc e (nx+1+gF b) (pos+qK h (jd W lc nx h lc.length)+(kr W lc b (nx+1) (pos+qK h (jd W lc nx h lc.length))).length+1)) e.none pos++
    kr W lc r (nx+1+gF b+gF e) (pos+
     (AZ W lc nx h (jd W lc nx h lc.length) (kr W lc b (nx+1) (pos+qK h (jd W lc nx h lc.length)))
     (kr W lc e (nx+1+gF b) (pos+qK h (jd W lc nx h lc.length)+(kr W lc b (nx+1) (pos+qK h (jd W lc nx h lc.length))).length+1)) e.none pos).length)
def kR (i:dV):List Int:=
 if i.op==1||i.op==6||i.op==10||i.op==27 then [i.a]else if i.op==2||i.op==3 then [i.a,i.b]else if i.op==4 then [i.a,i.b,i.c]else if i.op==7 then [i.a,i.c]else
 if i.op==8||i.op==26 then [i.b]else if i.op==9 then [i.b,i.c]else []
def mxR:List Int->Int->Int
 | [],n=>n
 |r::l,n=>mxR l (max n (r+1))
def AY:List dV->Int->Int
 | [],n=>n
 |i::l,n=>AY l (mxR (kR i) n)
def coT (W:Wo) (t:Th) (nx:Nat):yS:=
 ⟨AY (kr W t.cO t.body nx 0++[⟨28,0,0,0,0,-1⟩]) t.cO.length,kr W t.cO t.body nx 0++[⟨28,0,0,0,0,-1⟩]⟩
def sQ (W:Wo):List Th->Nat->List yS
 | [],_=>[]
 |t::r,nx=>coT W t nx::sQ W r (nx+gF t.body)
end Md
namespace Md
def iV:bJ->Nat
 | .nil=>0
 | .cons _ _ _ kids rest=>1+iV kids+iV rest
def jr (h:dD):Nat:=3+iV h.bG+iV h.idx
def oV:aY->Nat
 | .nil=>0
 | .cons h b e r=>jr h+oV b+oV e+oV r
theorem xW: ∀l:aY,gF l<=oV l
 | .nil=>aB _
 | .cons h b e r=>by have h1:=xW b;have h2:=xW e;have h3:=xW r;rw[gF,oV];unfold jr;omega
theorem Mw (W:Wo) (lc:List ByteArray) (st:Int): ∀(l:bJ) (d:Int),(Bb W lc st l d).length<=iV l
 | .nil,_=>aB _
 | .cons op n nm kids rest,d=>by
   have h1:=Mw W lc st kids d;have h2:=Mw W lc st rest (d+1);rw[Bb,iV,ay];split
   ·simp only[List.length_singleton];omega
   ·simp only[ay,List.length_singleton];omega
theorem nM (W:Wo) (lc:List ByteArray) (st op n:Int) (nm:ByteArray) (kids:bJ) (d:Int):(nI W lc st op n nm kids d).length<=1+iV kids:=by
 unfold nI;have h1:=Mw W lc st kids d;split
 ·simp only[List.length_singleton];omega
 ·simp only[ay,List.length_singleton];omega
theorem aq5 (W:Wo) (lc:List ByteArray) (st:Int) (h:dD):(D5 W lc st h).length<=jr h:=by
 unfold D5 jr;split
 ·have:=nM W lc st h.dN h.xn h.dJ h.bG lc.length;simp only[jd,ay,List.length_singleton];omega
 ·rename_i op n nm kids r hi;have h1:=nM W lc st h.dN h.xn h.dJ h.bG (lc.length+1);have h2:=nM W lc st op n nm kids lc.length;simp only[jd,ay,List.length_singleton];rw[hi,iV];omega
theorem ad1 (W:Wo) (lc:List ByteArray) (st:Int) (h:dD):(wK W lc st h).length<=jr h:=by
 have hv:=nM W lc st h.dN h.xn h.dJ h.bG lc.length;have h1:3<=jr h:=by unfold jr;omega
 have h2:1+iV h.bG+1<=jr h:=by unfold jr;omega
 unfold wK;split
 ·exact aq5 W lc st h
 all_goals (repeat' split)
 all_goals simp only[jd,ay,List.length_singleton,aW]
 all_goals omega
theorem QZ (W:Wo) (lc:List ByteArray) (st:Int) (h:dD) (B E:List dV) (ne:Bool) (pos:Nat):(AZ W lc st h (jd W lc st h lc.length) B E ne pos).length<=jr h+B.length+E.length:=by
 have hv:=nM W lc st h.dN h.xn h.dJ h.bG lc.length;have ho:=ad1 W lc st h;have h2:1+iV h.bG+2<=jr h:=by unfold jr;omega
 unfold AZ
 repeat' split
 all_goals try simp only[jd,ay,List.length_singleton,aW]
 all_goals omega
theorem sV (W:Wo) (lc:List ByteArray): ∀(l:aY) (nx pos:Nat),(kr W lc l nx pos).length<=oV l
 | .nil,_,_=>aB _
 | .cons h b e r,nx,pos=>by rw[kr,oV,ay];have hs:=QZ W lc nx h (kr W lc b (nx+1) (pos+qK h (jd W lc nx h lc.length))) (kr W lc e (nx+1+gF b) (pos+qK h (jd W lc nx h lc.length)+(kr W lc b (nx+1) (pos+qK h (jd W lc nx h lc.length))).length+1)) e.none pos;have hb:=sV W lc b (nx+1) (pos+qK h (jd W lc nx h lc.length));have he:=sV W lc e (nx+1+gF b) (pos+qK h (jd W lc nx h lc.length)+(kr W lc b (nx+1) (pos+qK h (jd W lc nx h lc.length))).length+1);have hr:=sV W lc r (nx+1+gF b+gF e) (pos+(AZ W lc nx h (jd W lc nx h lc.length) (kr W lc b (nx+1) (pos+qK h (jd W lc nx h lc.length))) (kr W lc e (nx+1+gF b) (pos+qK h (jd W lc nx h lc.length)+(kr W lc b (nx+1) (pos+qK h (jd W lc nx h lc.length))).length+1)) e.none pos).length);omega
end Md
namespace Md
theorem KT: ∀(l:List ByteArray) (nm:ByteArray) (k:Int),qy l nm k= -1∨(k<=qy l nm k∧qy l nm k<k+l.length)
 | [],_,_=> .inl rfl
 |s::r,nm,k=>by
  rw[qy];split
  ·right;simp only[aA];omega
  ·rcases KT r nm (k+1)with h|h
   ·exact .inl h
   ·right;simp only[aA];omega
theorem TQ: ∀(l:List ByteArray) (nm:ByteArray) (k:Int),0<=k->(∃s∈l,s.toList=nm.toList)->0<=qy l nm k
 | [],_,_,_,⟨s,h,_⟩=>by cases h
 |s::r,nm,k,hk,⟨x,hx,e⟩=>by
  rw[qy];split
  ·exact hk
  ·rename_i h;rcases List.mem_cons.1 hx with rfl|hx
   ·rw[e]at h;simp at h
   ·exact TQ r nm (k+1) (by omega) ⟨x,hx,e⟩
theorem aO2 {l:List ByteArray} {nm:ByteArray} (h:0<=iT l nm):(iT l nm).toNat<l.length:=by
 unfold iT at *;rcases KT l nm 0 with h1|h1
 ·omega
 ·omega
theorem TS (l:List ByteArray) (nm:ByteArray): -1<=iT l nm∧iT l nm<max l.length 1:=by
 unfold iT;rcases KT l nm 0 with h1|h1 <;> omega
def J7 (W:Wo):bJ->Bool
 | .nil=>true
 | .cons op _ nm kids rest=>((!(op==3)||decide (0<=W.cell nm))&&J7 W kids)&&J7 W rest
def A8 (W:Wo) (op:Int) (nm:ByteArray) (kids:bJ):Bool:=(!(op==3)||decide (0<=W.cell nm))&&J7 W kids
def H9 (W:Wo) (h:dD):Bool:=A8 W h.dN h.dJ h.bG&&(J7 W h.idx&&(h.idx.len==0|| !(h.op==1)||decide (0<=W.cell h.nm)))
def aY.Ev (Q:dD->Prop):aY->Prop
 | .nil=>True
 | .cons h b e r=>Q h∧b.Ev Q∧e.Ev Q∧r.Ev Q
theorem aY.Ev.imp {Q R:dD->Prop} (f: ∀h,Q h->R h): ∀ {l:aY},l.Ev Q->l.Ev R
 | .nil,_=>trivial
 | .cons _ _ _ _,h=>⟨f _ h.1,h.2.1.imp f,h.2.2.1.imp f,h.2.2.2.imp f⟩
theorem aY.Ev.and {Q R:dD->Prop} : ∀ {l:aY},l.Ev Q->l.Ev R->l.Ev (λh=>Q h∧R h)
 | .nil,_,_=>trivial
 | .cons _ _ _ _,h,k=>⟨⟨h.1,k.1⟩,h.2.1.and k.2.1,h.2.2.1.and k.2.2.1,h.2.2.2.and k.2.2.2⟩
end Md
open Md
namespace Md
section
variable {α:Type} {f:α->List Value} {m:Nat} {w w':World} {B B':Nat}
theorem eD.below (hb:Below B w w'): ∀ {l:List α} {ao:Option Addr} {k:Nat},eD f m w B l ao k->eD f m w' B l ao k
 | [],_,_,_=>trivial
 |_::_,_,_,⟨⟨b,off,e,hB,c⟩,hr⟩=>⟨⟨b,off,e,hB,λj u hu=>(hb.cell hB).trans (c j u hu)⟩,eD.below hb hr⟩
theorem eD.mono (h:B<=B'): ∀ {l:List α} {ao:Option Addr} {k:Nat},eD f m w B l ao k->eD f m w B' l ao k
 | [],_,_,_=>trivial
 |_::_,_,_,⟨⟨b,off,e,hB,c⟩,hr⟩=>⟨⟨b,off,e,aG hB h,c⟩,eD.mono h hr⟩
theorem eD.same {l:List α} {ao:Option Addr} {k:Nat} (h:eD f m w w.heap.size l ao k) (hb:Below w.heap.size w w'):eD f m w' w'.heap.size l ao k:=(h.below hb).mono hb.size
theorem eD.at: ∀ {l:List α} {ao:Option Addr} {k:Nat} (i:Nat) (x:α),eD f m w B l ao k->l[i]? =some x->∃b off,ao=some ⟨b,off,none⟩∧b<B∧∀(j:Nat) (u:Value),(f x)[j]? =some u->w.cell? ⟨b,off+(k+i)*m+j,none⟩=some u
 | [],_,_,i,x,_,h=>by simp at h
 |y::r,_,k,0,x,⟨h1,_⟩,h=>by simp at h;subst h;exact h1
 |y::r,_,k,i+1,x,⟨_,h2⟩,h=>by have:=eD.at i x h2 (by simpa using h);rw[show k+(i+1)=k+1+i by omega];exact this
theorem eD.mk: ∀ {l:List α} {ao:Option Addr} {k:Nat},(∀(i:Nat) (x:α),l[i]? =some x->∃b off,ao=some ⟨b,off,none⟩∧b<B∧∀(j:Nat) (u:Value),(f x)[j]? =some u->w.cell? ⟨b,off+(k+i)*m+j,none⟩=some u)->eD f m w B l ao k
 | [],_,_,_=>trivial
 |x::r,_,k,h=>⟨h 0 x rfl,eD.mk (λi y hy=>by have:=h (i+1) y (by simpa using hy);rw[show k+1+i=k+(i+1) by omega];exact this)⟩
theorem jC {base:Nat} {T:TypeId} {v:Value} {xs:List α} (hf: ∀x,(f x).length=m) (h:w.ownsRow base T m v xs.length (xs.flatMap f)): ∃ao cap,v= .slice ao xs.length cap∧xs.length<=cap∧cap<=maxLen∧eD f m w w.heap.size xs ao 0:=by
 rcases h.2 with⟨rfl,hn⟩|⟨g,cap,cur,rfl,hb,hg,h1,h2,h3,h4⟩
 ·have:xs=[]:=List.eq_nil_of_length_eq_zero hn;subst this;exact⟨none,0,rfl,aB _,bT _,trivial⟩
 ·refine⟨_,_,rfl,h1,h2,eD.mk (λi x hx=>⟨g,0,rfl,(aO hg),λj u hu=> ?_⟩)⟩;have hF:=flat_get hf xs i x j u hx hu;rw[<- h4]at hF;have hlt:=(List.getElem?_eq_some_iff.1 hF).1;rw[List.getElem?_take_of_lt (by rw[List.length_take]at hlt;omega)]at hF;have:0+(0+i)*m+j=i*m+j:=by simp
  rw[this];exact aQ hg (by rw[<- hF];simp)
end
end Md
namespace Md
structure lV where
 aC:Option Addr
 aL:Option Addr
 aN:Option Addr
 aF:Option Addr
 aT:Option Addr
 aS:Option Addr
 cC:Nat
 cL:Nat
 cN:Nat
 cF:Nat
 cT:Nat
 cS:Nat
structure iO (w:World) (B:Nat) (W:Wo) (s:lV):Prop where
 cs:eD oD 5 w B W.cs s.aC 0
 ls:eD rX 2 w B W.ls s.aL 0
 ns:eD yU 2 w B W.ns s.aN 0
 fs:fJ w B W.fs s.aF 0
 ts:fJ w B W.ts s.aT 0
 ss:eD yX 3 w B W.ss s.aS 0
 lc:W.cs.length<=maxLen
 ll:W.ls.length<=maxLen
 ln:W.ns.length<=maxLen
 lf:W.fs.length<=maxLen
 lt:W.ts.length<=maxLen
 lS:W.ss.length<=maxLen
 ok: ∀c∈W.cs,bW c.sz
theorem iO.below {w w':World} {B:Nat} {W:Wo} {s:lV} (h:iO w B W s) (hb:Below B w w'):iO w' B W s:=
 ⟨h.cs.below hb,h.ls.below hb,h.ns.below hb,h.fs.below hb,h.ts.below hb,h.ss.below hb,h.lc,h.ll,h.ln,h.lf,h.lt,h.lS,h.ok⟩
theorem iO.mono {w:World} {B B':Nat} {W:Wo} {s:lV} (h:iO w B W s) (hb:B<=B'):iO w B' W s:=
 ⟨h.cs.mono hb,h.ls.mono hb,h.ns.mono hb,h.fs.mono hb,h.ts.mono hb,h.ss.mono hb,h.lc,h.ll,h.ln,h.lf,h.lt,h.lS,h.ok⟩
theorem iO.same {w w':World} {W:Wo} {s:lV} (h:iO w w.heap.size W s) (hb:Below w.heap.size w w'):iO w' w'.heap.size W s:=(h.below hb).mono hb.size
structure GL where
 B0:Nat
 gb:Nat
 B1:Nat
 b0:B0<=gb
 b1:gb<B1
def Tj (W:Wo) (s:lV) (lc:List ByteArray) (al:Option Addr) (cl:Nat) (v:Value) (a b:Int):Array Value:=
 #[.slice s.aC W.cs.length s.cC,.slice s.aL W.ls.length s.cL,.slice s.aN W.ns.length s.cN,.slice s.aF W.fs.length s.cF,.slice s.aT W.ts.length s.cT,.slice s.aS W.ss.length s.cS,.slice al lc.length cl,v,.int .i64 a,.int .i64 b]
end Md
theorem Bu: ∀x:dV,(nZ x).length=6:=λ_=>rfl
structure Kg (L:GL) (v:Value) (w w':World):Prop where
 os:w'.os=w.os
 tape:w'.tape=w.tape
 output:w'.output=w.output
 size:w.heap.size<=w'.heap.size
 block: ∀k,k<w.heap.size->k≠L.gb->v.ownBlock≠some k->w'.heap[k]? =w.heap[k]?
def oW (w:World) (v v':Value):Prop:=v'.ownBlock=v.ownBlock∨∃g,v'.ownBlock=some g∧w.heap.size<=g
section
variable {L:GL} {v v1 v2:Value} {w w1 w2 w':World}
theorem Kg.refl (L:GL) (v:Value) (w:World):Kg L v w w:=⟨rfl,rfl,rfl,aB _,λ_ _ _ _=>rfl⟩
theorem Kg.of_below (h:Below w.heap.size w w'):Kg L v w w':=⟨h.os,h.tape,h.output,h.size,λk hk _ _=>h.block k hk⟩
theorem Kg.trans (h:Kg L v w w1) (ho:oW w v v1) (k:Kg L v1 w1 w2):Kg L v w w2:=
 ⟨k.os.trans h.os,k.tape.trans h.tape,k.output.trans h.output,aP h.size k.size,λj hj hc hv=>(k.block j (aG hj h.size) hc (by
   rcases ho with e|⟨g,e,hg⟩
   ·rw[e];exact hv
   ·rw[e];intro e';injection e' with e';omega)).trans (h.block j hj hc hv)⟩
theorem Kg.below (h:Kg L v w w') (hB:L.B0<=w.heap.size) (hv: ∀k,v.ownBlock=some k->L.B1<=k):Below L.B0 w w':=
 ⟨h.os,h.tape,h.output,h.size,λk hk=>h.block k (by omega) (by have:=L.b0;omega) (λe=>by have:=hv k e;have:=L.b0;have:=L.b1;omega)⟩
theorem Kg.set (w:World) (j:Nat) (x:Value):Kg L v w (w.setCell ⟨L.gb,j,none⟩ x):=by
 have h:=bY w ⟨L.gb,j,none⟩ x;exact⟨h.os,h.tape,h.output,h.size,λk hk hc _=>h.block k hk (by simp;exact hc)⟩
theorem oW.refl (w:World) (v:Value):oW w v v:= .inl rfl
theorem oW.trans (h:oW w v v1) (k:oW w1 v1 v2) (hs:w.heap.size<=w1.heap.size):oW w v v2:=by
 rcases k with e|⟨g,e,hg⟩
 ·rcases h with e'|⟨g,e',hg⟩
  ·exact .inl (e.trans e')
  ·exact .inr ⟨g,e.trans e',hg⟩
 ·exact .inr ⟨g,e,aP hs hg⟩
theorem oW.ne {k:Nat} (h:oW w v v1) (hk:k<w.heap.size) (hv:v.ownBlock≠some k):v1.ownBlock≠some k:=by
 rcases h with e|⟨g,e,hg⟩
 ·rw[e];exact hv
 ·rw[e];intro e';injection e' with e';omega
end
structure iH (T:TypeId) (w:World) (L:GL) (W:Wo) (s:lV) (lc:List ByteArray) (al:Option Addr) (cl:Nat) (v:Value) (code:List dV) (a b:Int):Prop where
 blk:w.heap[L.gb]? =some (.cells (Tj W s lc al cl v a b) T (0,0))
 row:w.ownsRow L.B1 76 6 v code.length (code.flatMap nZ)
 sz:L.B1<=w.heap.size
 wo:iO w L.B0 W s
 few:lc.length<=1000
 lc:fJ w L.B0 lc al 0
theorem rP {w:World} {b o:Nat} {cur cur':Array Value} {e:TypeId} {fr:Nat×Nat} (h:w.heap[b]? =some (.cells cur e fr)) (v:Value) (hc:cur.setIfInBounds o v=cur'):(w.setCell ⟨b,o,none⟩ v).heap[b]? =some (.cells cur' e fr):=by
 rw[<- hc];exact dh h v
section
variable {T:TypeId} {w w':World} {L:GL} {W:Wo} {s:lV} {lc:List ByteArray} {al:Option Addr} {cl:Nat} {v:Value} {code:List dV} {a b:Int}
theorem iH.b0 (h:iH T w L W s lc al cl v code a b):L.B0<=w.heap.size:=by have:=h.sz;have:=L.b0;have:=L.b1;omega
theorem iH.own (h:iH T w L W s lc al cl v code a b): ∀k,v.ownBlock=some k->L.B1<=k∧k<w.heap.size:=h.row.lt
theorem iH.keep (h:iH T w L W s lc al cl v code a b) (hk:Kg L v w w'):Below L.B0 w w':=hk.below h.b0 (λk e=>(h.own k e).1)
theorem iH.form (h:iH T w L W s lc al cl v code a b): ∃ao cap,v= .slice ao code.length cap∧code.length<=cap∧cap<=maxLen:=by
 obtain⟨ao,cap,e,h1,h2,-⟩:=jC Bu h.row;exact⟨ao,cap,e,h1,h2⟩
theorem iH.below (h:iH T w L W s lc al cl v code a b) (hb:Below w.heap.size w w'):iH T w' L W s lc al cl v code a b where
 blk:=(hb.block _ (aO h.blk)).trans h.blk
 row:=h.row.kept (row:=none) ⟨hb.os,hb.tape,hb.output,hb.size,λk hk _=>hb.block k hk⟩ (by cases hv:v.ownBlock <;> simp)
 sz:=aP h.sz hb.size
 wo:=h.wo.below (hb.mono h.b0)
 few:=h.few
 lc:=h.lc.below (hb.mono h.b0)
theorem iH.cells (h:iH T w L W s lc al cl v code a b):L.gb<w.heap.size∧w.cell? ⟨L.gb,0,none⟩=some (.slice s.aC W.cs.length s.cC)∧w.cell? ⟨L.gb,1,none⟩=some (.slice s.aL W.ls.length s.cL)∧w.cell? ⟨L.gb,2,none⟩=some (.slice s.aN W.ns.length s.cN)∧w.cell? ⟨L.gb,3,none⟩=some (.slice s.aF W.fs.length s.cF)∧
 w.cell? ⟨L.gb,4,none⟩=some (.slice s.aT W.ts.length s.cT)∧w.cell? ⟨L.gb,5,none⟩=some (.slice s.aS W.ss.length s.cS)∧w.cell? ⟨L.gb,6,none⟩=some (.slice al lc.length cl)∧w.cell? ⟨L.gb,7,none⟩=some v∧w.cell? ⟨L.gb,8,none⟩=some (.int .i64 a)∧w.cell? ⟨L.gb,9,none⟩=some (.int .i64 b)∧∀j,w.frozen? ⟨L.gb,j,none⟩=false:=
 ⟨(aO h.blk),aQ h.blk rfl,aQ h.blk rfl,aQ h.blk rfl,aQ h.blk rfl,aQ h.blk rfl,aQ h.blk rfl,aQ h.blk rfl,aQ h.blk rfl,aQ h.blk rfl,aQ h.blk rfl,λ_=>bH h.blk⟩
theorem iH.setOf (h:iH T w L W s lc al cl v code a b) (j:Nat) (x:Value) (KY:List ByteArray) (al':Option Addr) (cl':Nat) (v':Value) (code':List dV) (a' b':Int)
 (hc:(Tj W s lc al cl v a b).setIfInBounds j x=Tj W s KY al' cl' v' a' b') (hl:fJ w L.B0 KY al' 0) (hf:KY.length<=1000) (hr:w.ownsRow L.B1 76 6 v' code'.length (code'.flatMap nZ)):iH T (w.setCell ⟨L.gb,j,none⟩ x) L W s KY al' cl' v' code' a' b':=by
 have hg:=bY w ⟨L.gb,j,none⟩ x;have hb:Below L.B0 w (w.setCell ⟨L.gb,j,none⟩ x):=cZ hg L.b0 h.b0;refine⟨rP h.blk _ hc,hr.kept hg ?_,aP h.sz hg.size,h.wo.below hb,hf,hl.below hb⟩;cases hv:v'.ownBlock with
 |none=>exact .inl rfl
 |some k=>refine .inr (λe=> ?_);have:=(hr.lt k hv).1;have:=L.b1;injection e with e;simp only at e;omega
theorem iH.ae2 (h:iH T w L W s lc al cl v code a b) (x:Int):iH T (w.setCell ⟨L.gb,8,none⟩ (.int .i64 x)) L W s lc al cl v code x b:=h.setOf 8 _ _ _ _ _ _ _ _ rfl h.lc h.few h.row
theorem iH.jw (h:iH T w L W s lc al cl v code a b) (x:Int):iH T (w.setCell ⟨L.gb,9,none⟩ (.int .i64 x)) L W s lc al cl v code a x:=h.setOf 9 _ _ _ _ _ _ _ _ rfl h.lc h.few h.row
theorem iH.bw3 (h:iH T w L W s lc al cl v code a b) {KY:List ByteArray} {al':Option Addr} (cl':Nat) (hl:fJ w L.B0 KY al' 0) (hf:KY.length<=1000):iH T (w.setCell ⟨L.gb,6,none⟩ (.slice al' KY.length cl')) L W s KY al' cl' v code a b:=h.setOf 6 _ _ _ _ _ _ _ _ rfl hl hf h.row
theorem iH.bw4 (h:iH T w L W s lc al cl v code a b):iH T (w.setCell ⟨L.gb,7,none⟩ (.slice none 0 0)) L W s lc al cl (.slice none 0 0) [] a b:=h.setOf 7 _ _ _ _ _ _ _ _ rfl h.lc h.few (World.ownsRow_nil _ _ _ _)
theorem iH.push {wz w4:World} {g' cap':Nat} (h:iH T w L W s lc al cl v code a b) (x:dV) (hb:Below w.heap.size w wz) (hown:w4.ownsRow L.B1 76 6 (.slice (some ⟨g',0,none⟩) (code.length+1) cap') (code.length+1) (code.flatMap nZ++nZ x)) (hgr:wz.grownBy w4 v.ownBlock) (hat:v.ownBlock=some g'∨wz.heap.size<=g'):
 iH T (w4.setCell ⟨L.gb,7,none⟩ (.slice (some ⟨g',0,none⟩) (code.length+1) cap')) L W s lc al cl (.slice (some ⟨g',0,none⟩) (code.length+1) cap') (code++[x]) a b∧
 Kg L v w (w4.setCell ⟨L.gb,7,none⟩ (.slice (some ⟨g',0,none⟩) (code.length+1) cap'))∧oW w v (.slice (some ⟨g',0,none⟩) (code.length+1) cap'):=by
 have hsz:w.heap.size<=w4.heap.size:=aP hb.size hgr.size;have hlow: ∀k,k<w.heap.size->v.ownBlock≠some k->w4.heap[k]? =w.heap[k]?:=λk hk hv=>(hgr.block k (aG hk hb.size) (λe=>hv e.symm)).trans (hb.block k hk);have hnb: ∀k,k<L.B1->v.ownBlock≠some k:=λk hk e=>by have:=(h.own k e).1;omega
 have hbel:Below L.B0 w w4:=⟨hgr.os.trans hb.os,hgr.tape.trans hb.tape,hgr.output.trans hb.output,hsz,λk hk=>by have:=L.b0;have:=L.b1;have:=h.b0;exact hlow k (by omega) (hnb k (by omega))⟩;have h4:iH T w4 L W s lc al cl v code a b∨True:= .inr trivial;have hblk:w4.heap[L.gb]? =some (.cells (Tj W s lc al cl v a b) T (0,0)):=(hlow _ (aO h.blk) (hnb _ L.b1)).trans h.blk;have hg:=bY w4 ⟨L.gb,7,none⟩ (.slice (some ⟨g',0,none⟩) (code.length+1) cap');have hb2:Below L.B0 w4 (w4.setCell ⟨L.gb,7,none⟩ (.slice (some ⟨g',0,none⟩) (code.length+1) cap')):=cZ hg L.b0 (aP h.b0 hsz);have hown':w4.ownsRow L.B1 76 6 (.slice (some ⟨g',0,none⟩) (code.length+1) cap') (code++[x]).length ((code++[x]).flatMap nZ):=by rw[List.flatMap_append,List.flatMap_singleton,ay];exact hown
 have hlt:=(hown.lt g' rfl).1;refine⟨⟨rP hblk _ rfl,hown'.kept hg (.inr ?_),aP (aP h.sz hsz) hg.size,(h.wo.below hbel).below hb2,h.few,(h.lc.below hbel).below hb2⟩,?_,?_⟩
 ·intro e;have:=L.b1;injection e with e;simp only at e;omega
 ·exact⟨hg.os.trans hbel.os,hg.tape.trans hbel.tape,hg.output.trans hbel.output,aP hsz hg.size,λk hk hc hv=>(hg.block k (aG hk hsz) (by simp;exact hc)).trans (hlow k hk hv)⟩
 ·rcases hat with e|e
  ·exact .inl (by rw[e];rfl)
  ·exact .inr ⟨g',rfl,aP hb.size e⟩
end
section
variable {w:World} {base:Nat} {e:TypeId} {size:Nat} {n cap g:Nat} {xs:List Value}
theorem Yc (h:w.ownsRow base e size (.slice (some ⟨g,0,none⟩) n cap) n xs) (j:Nat) (u:Value) (hj:j<xs.length):(w.setCell ⟨g,j,none⟩ u).ownsRow base e size (.slice (some ⟨g,0,none⟩) n cap) n (xs.set j u):=by
 rcases h.2 with⟨h1,-⟩|⟨g',cap',cur,e1,hb,hg,hc,hm,hs,ht⟩
 ·cases h1
 ·injection e1 with e1 e2 e3;injection e1 with e1;injection e1 with e1;subst e1;subst e3;refine⟨by rw[List.length_set];exact h.1,.inr ⟨g,cap,cur.setIfInBounds j u,rfl,hb,dh hg u,hc,hm,by simpa using hs,?_⟩⟩;rw[Array.toList_setIfInBounds,<- ht,List.take_set]
end
theorem Nt {α:Type} {f:α->List Value} {m:Nat} (hf: ∀x,(f x).length=m): ∀(xs:List α) (k:Nat) (x y:α) (j:Nat) (u:Value),xs[k]? =some x->j<m->f y=(f x).set j u->(xs.flatMap f).set (k*m+j) u=(xs.set k y).flatMap f
 | [],_,_,_,_,_,h,_,_=>by simp at h
 |z::xs,0,x,y,j,u,h,hj,hy=>by simp at h;subst h;rw[List.flatMap_cons,List.set_cons_zero,List.flatMap_cons,Nat.zero_mul,aU,hy,List.set_append_left _ _ (by rw[hf];exact hj)]
 |z::xs,k+1,x,y,j,u,h,hj,hy=>by
  have ih:=Nt hf xs k x y j u (by simpa using h) hj hy;have e:(k+1)*m+j=m+(k*m+j):=by rw[Nat.add_mul];omega
  rw[List.flatMap_cons,List.set_cons_succ,List.flatMap_cons,<- ih,List.set_append_right _ _ (by rw[hf,e];omega),hf,e,Nat.add_sub_cancel_left]
section
variable {T:TypeId} {w w':World} {L:GL} {W:Wo} {s:lV} {lc:List ByteArray} {al:Option Addr} {cl:Nat} {v:Value} {code:List dV} {a b:Int}
theorem iH.patch {g cap:Nat} (h:iH T w L W s lc al cl (.slice (some ⟨g,0,none⟩) code.length cap) code a b) (k j:Nat) (x y:dV) (u:Value) (hx:code[k]? =some x) (hj:j<6) (hy:nZ y=(nZ x).set j u):
 iH T (w.setCell ⟨g,k*6+j,none⟩ u) L W s lc al cl (.slice (some ⟨g,0,none⟩) code.length cap) (code.set k y) a b∧Kg L (.slice (some ⟨g,0,none⟩) code.length cap) w (w.setCell ⟨g,k*6+j,none⟩ u):=by
 have hg:=bY w ⟨g,k*6+j,none⟩ u;have hlt:=h.own g rfl;have hb:Below L.B0 w (w.setCell ⟨g,k*6+j,none⟩ u):=cZ hg (by have:=L.b0;have:=L.b1;show L.B0<=g;omega) h.b0;have hk:k<code.length:=(List.getElem?_eq_some_iff.1 hx).1;have hjl:k*6+j<(code.flatMap nZ).length:=by rw[sw Bu];omega
 refine⟨⟨(hg.block _ (aO h.blk) (by have:=L.b1;simp;omega)).trans h.blk,?_,aP h.sz hg.size,h.wo.below hb,h.few,h.lc.below hb⟩,hg.os,hg.tape,hg.output,hg.size,λi hi _ hv=>hg.block i hi (λe=>hv e.symm)⟩;have:=Yc h.row (k*6+j) u hjl;rw[Nt Bu code k x y j u hx hj hy]at this;rw[List.length_set];exact this
end
def sS (W:Wo) (s:lV):Value:= .agg #[.slice s.aC W.cs.length s.cC,.slice s.aL W.ls.length s.cL,.slice s.aN W.ns.length s.cN,.slice s.aF W.fs.length s.cF,.slice s.aT W.ts.length s.cT,.slice s.aS W.ss.length s.cS]
theorem aV1:(Tryz.prog.info? 76).map (λi=>(i.zero,i.size,i.bytes))=some (some (.agg #[.int .i64 0,.int .i64 0,.int .i64 0,.int .i64 0,.int .i64 0,.int .i64 0]),6,48):=by kernel_rfl
theorem Bh {o:Option TypeInfo} {z:Option Value} {a b:Nat} (h:o.map (λi=>(i.zero,i.size,i.bytes))=some (z,a,b)): ∃i0,o=some i0∧i0.zero=z∧i0.size=a∧i0.bytes=b:=by
 cases o with
 |none=>cases h
 |some i=>simp at h;exact⟨i,rfl,h.1,h.2.1,h.2.2⟩
theorem bu5 (x:dV): ∀u∈nZ x,u.oneCell'=true:=by
 intro u hu;simp[nZ]at hu;rcases hu with rfl|rfl|rfl|rfl|rfl|rfl <;> rfl
def TG (x:dV):Value:= .agg #[.int .i64 x.op,.int .i64 x.a,.int .i64 x.b,.int .i64 x.c,.int .i64 x.n,.int .i64 x.st]
def zD (T:TypeId) (w:World) (L:GL) (W:Wo) (s:lV) (lc:List ByteArray) (al:Option Addr) (cl:Nat) (v:Value) (code:List dV) (a b:Int) (xs:List dV) (w':World):Prop:=
 ∃v',iH T w' L W s lc al cl v' (code++xs) a b∧Kg L v w w'∧oW w v v'
section
variable {T:TypeId} {w w1 w2 w':World} {L:GL} {W:Wo} {s:lV} {lc:List ByteArray} {al:Option Addr} {cl:Nat} {v:Value} {code:List dV} {a b:Int} {xs ys:List dV}
theorem zD.start (h:iH T w L W s lc al cl v code a b):zD T w L W s lc al cl v code a b [] w:=⟨v,by simpa using h,Kg.refl _ _ _,.inl rfl⟩
theorem zD.pre (hb:Below w.heap.size w w1) (h:zD T w1 L W s lc al cl v code a b xs w'):zD T w L W s lc al cl v code a b xs w':=by
 obtain⟨v',h1,h2,h3⟩:=h;exact⟨v',h1,(Kg.of_below hb).trans (.inl rfl) h2,(oW.refl w v).trans h3 hb.size⟩
theorem zD.below (h:zD T w L W s lc al cl v code a b xs w1) (hb:Below w1.heap.size w1 w'):zD T w L W s lc al cl v code a b xs w':=by
 obtain⟨v',h1,h2,h3⟩:=h;exact⟨v',h1.below hb,h2.trans h3 (Kg.of_below hb),h3⟩
theorem zD.then (h:zD T w L W s lc al cl v code a b xs w1) (k: ∀v',iH T w1 L W s lc al cl v' (code++xs) a b->zD T w1 L W s lc al cl v' (code++xs) a b ys w'):zD T w L W s lc al cl v code a b (xs++ys) w':=by
 obtain⟨v',h1,h2,h3⟩:=h;obtain⟨v2,k1,k2,k3⟩:=k v' h1;exact⟨v2,by rw[<- List.append_assoc];exact k1,h2.trans h3 k2,h3.trans k3 h2.size⟩
end
structure mJ (T:TypeId) (w:World) (L:GL) (W:Wo) (s:lV) (lc:List ByteArray) (al:Option Addr) (cl:Nat) (v:Value) (code:List dV) (a b:Int) (nb:Nat) (cs:Array Value) (ty:TypeId) (xs:List dV) (w2:World) (v2:Value):Prop where
 i:iH T w2 L W s lc al cl v2 (code++xs) a b
 k:Kg L v w w2
 o:oW w v v2
 x:w2.heap[nb]? =some (.cells cs ty (0,0))
 g:L.B1<=nb
 n:v2.ownBlock≠some nb
section
variable {T ty:TypeId} {w w1 w2 w':World} {L:GL} {W:Wo} {s:lV} {lc:List ByteArray} {al:Option Addr} {cl nb:Nat} {v v2:Value} {code:List dV} {a b:Int} {xs ys:List dV} {cs:Array Value}
theorem mJ.start (h:iH T w L W s lc al cl v code a b) (hb:Below w.heap.size w w1) (hn:w.heap.size=nb) (hx:w1.heap[nb]? =some (.cells cs ty (0,0))):mJ T w L W s lc al cl v code a b nb cs ty [] w1 v:=
 ⟨by simpa using h.below hb,Kg.of_below hb,.inl rfl,hx,by rw[<- hn];exact h.sz,λe=>by have:=(h.own _ e).2;omega⟩
theorem mJ.then (h:mJ T w L W s lc al cl v code a b nb cs ty xs w2 v2) (k:zD T w2 L W s lc al cl v2 (code++xs) a b ys w'): ∃v3,mJ T w L W s lc al cl v code a b nb cs ty (xs++ys) w' v3:=by
 obtain⟨v3,k1,k2,k3⟩:=k;have hlt:=(aO h.x);exact⟨v3,by rw[<- List.append_assoc];exact k1,h.k.trans h.o k2,h.o.trans k3 h.k.size,(k2.block nb hlt (by have:=L.b1;have:=h.g;omega) h.n).trans h.x,h.g,k3.ne hlt h.n⟩
theorem mJ.below (h:mJ T w L W s lc al cl v code a b nb cs ty xs w2 v2) (hb:Below w2.heap.size w2 w'):mJ T w L W s lc al cl v code a b nb cs ty xs w' v2:=
 ⟨h.i.below hb,h.k.trans h.o (Kg.of_below hb),h.o,(hb.block nb (aO h.x)).trans h.x,h.g,h.n⟩
theorem mJ.fin (h:mJ T w L W s lc al cl v code a b nb cs ty xs w2 v2) (e:xs=ys):zD T w L W s lc al cl v code a b ys w2:=by
 subst e;exact⟨v2,h.i,h.k,h.o⟩
theorem mJ.low (h:mJ T w L W s lc al cl v code a b nb cs ty xs w2 v2) (h0:iH T w L W s lc al cl v code a b):Below L.B0 w w2:=h0.keep h.k
end
theorem iK {w:World} {L:GL} {W:Wo} {s:lV} {lc:List ByteArray} {al:Option Addr} {cl:Nat} {v:Value} {code:List dV} {a b:Int} (h:iH 72 w L W s lc al cl v code a b) (x:dV) (hl:code.length+1<=1000000000000):
 Calls Tryz.prog 17 #[.pointer (some ⟨L.gb,0,none⟩),TG x] w λe w'=>e= .returned (.tuple #[])∧zD 72 w L W s lc al cl v code a b [{x with st:=b}] w':=by
 obtain⟨ao,cap,rfl,hcap,-⟩:=h.form;obtain⟨hlt,-,-,-,-,-,-,-,c7,c8,c9,cf⟩:=h.cells;have HI:=ah h;have HL:=ah hl;clear h hl;unfold TG;go_enter Tryz.func17,Tryz.ntmps17;go_upto_region 2 with fail;generalize hW:World.alloc w _=wq;obtain⟨nb,hnb,HB,-,HX,-⟩:=oO hW;have HQ:=ah (HI.o.below HB.o);have jE:aj (L.B1<=nb∧nb<wq.heap.size∧L.gb<wq.heap.size∧L.gb≠nb∧(Value.slice ao code.length cap).ownBlock≠some nb):=ah (by have h1:=HI.o.sz;have h2:=L.b1;refine⟨by omega,(aO HX.o),(aO HQ.o.blk),by omega,λe=> ?_⟩;have:=(HI.o.own _ e).2;omega);have HGV:aj ((Value.slice ao code.length cap).ownBlock≠some L.gb):=ah (λe=>by have:=(HI.o.own _ e).1;have:=L.b1;omega);have HC7:=ah HQ.o.cells.2.2.2.2.2.2.2.2.1;have HOW:aj (∀k,(Value.slice ao code.length cap).ownBlock=some k->k<wq.heap.size):=ah (λk e=>(HQ.o.own k e).2);rw[hnb];clear hW hnb c7 c8 c9 cf hlt;refine Dr (vO wq 4 6 7 10 (aE4 76 6 wq L.B1 (Value.slice ao code.length cap).ownBlock (code.length+1) (code.flatMap nZ++nZ {x with st:=b})) ⟨L.gb,7,none⟩ (hdV (code.length+1)) (nZ {x with st:=b}).toArray 76) (Ag.le wq.heap.size) [9,10,11,12,13,14,15,16,17,18] ⟨none,false,none⟩ (by kernel_rfl) (by kernel_rfl) (λg w=>Ag.le_refl _ g w) (by rfl) vO.start ?_;apply mR.step
 case bg=>intro D A g w' hDn hC hO hD;have e0:=hO 0 (by rfl);simp[Act.eval]at e0;simp[lJ,lq,gJ,Act.eval,Region.binds]at hD;simp[go_sem,qJ,Oper.wp,hD,e0];exact ji.mk (Ag.le_refl _ _ _) (hC.skip _ (by decide)) (lq.mk _ _ _)
 apply mR.step
 case bg=>intro D A g w' hDn hC hO hD;have e0:=hO 0 (by rfl);simp[Act.eval]at e0;simp[lJ,lq,gJ,Act.eval,Region.binds]at hD;simp[go_sem,qJ,Oper.wp,hD,e0];exact ji.mk (Ag.le_refl _ _ _) (hC.skip _ (by decide)) (lq.mk _ _ _)
 apply mR.step
 case bg=>intro D A g w' hDn hC hO hD;simp[lJ,lq,gJ,Act.eval,Region.binds]at hD;simp[go_sem,qJ,Oper.wp,hD];exact ji.mk (Ag.le_refl _ _ _) (hC.skip _ (by decide)) (lq.mk _ _ _)
 apply mR.step
 case bg=>intro D A g w' hDn hC hO hD;simp[lJ,lq,gJ,Act.eval,Region.binds]at hD;simp[go_sem,qJ,Oper.wp,hD];exact ji.mk (Ag.le_refl _ _ _) (hC.skip _ (by decide)) (lq.mk _ _ _)
 refine mR.some (λv g _=>v= .slice ao code.length cap∧g.h=true) (λv g w g' w' hle h=>⟨h.1,hle.2.1 h.2⟩) ?_ ?_
 ·intro D A g w' hDn hC hO hD;simp[lJ,lq,gJ,Act.eval,Region.binds]at hD;obtain⟨hp,hle,hm⟩:=hC.mk8 hDn (by decide);have z3:=((hC.pre hp).cell (p:=⟨L.gb,7,none⟩) jE.o.2.2.1).trans HC7.o;simp[go_sem,qJ,Oper.wp,hD,z3];exact ji.mk hle hm ⟨rfl,rfl⟩
 simp only[dR];apply mR.step
 case bg=>intro D A g w' hDn hC hO hD;have e3:=hO 3 (by rfl);simp[Act.eval]at e3;have zc:=λ(j:Nat) (u:Value) (hu:(nZ {x with st:=b})[j]? =some u)=>hC.cell jE.o.2.1 jE.o.2.2.2.2 jE.o.2.2.2.1 (aQ (j:=j) HX.o (by rw[List.getElem?_toArray];exact hu));have z0:=zc 0 _ rfl;have z1:=zc 1 _ rfl;have z2:=zc 2 _ rfl;have z3:=zc 3 _ rfl;have z4:=zc 4 _ rfl;have z5:=zc 5 _ rfl;simp[lJ,lq,gJ,Act.eval,Region.binds]at hD;simp[go_sem,qJ,Oper.wp,hD,e3,z0,z1,z2,z3,z4,z5];exact ji.mk (Ag.le_refl _ _ _) (hC.skip _ (by decide)) (lq.mk _ _ _)
 refine mR.some (λv g _=> ∃b,v= .slice (some ⟨b,0,none⟩) 1 1∧g.o=some b) (λv g w g' w' hle h=>by obtain⟨b,h1,h2⟩:=h;exact⟨b,h1,hle.1 b h2⟩) ?_ ?_
 ·intro D A g w' hDn hC hO hD;simp[lJ,lq,gJ,Act.eval,Region.binds]at hD;simp[go_sem,qJ,Oper.wp,hD];have hM:=hC.bu8 hDn (by decide);exact ji.mk hM.1 hM.2 ⟨_,rfl,rfl⟩
 refine mR.some (λv g _=> ∃q,g.p=some q∧v=hdV (code.length+1) q) (λv g w g' w' hle h=>by obtain⟨q,h1,h2⟩:=h;exact⟨q,hle.2.2.1 q h1,h2⟩) ?_ ?_
 ·intro D A g w' hDn hC hO hD;simp[lJ,lq,gJ,Act.eval,Region.binds]at hD;obtain⟨⟨hs1,hh⟩,bb,hs2,hb⟩:=hD;simp only[qJ,if_true];have hbl:=hC.pre (hC.uo hDn);obtain⟨bM2,bt7⟩:=hC.row bb hb;have hown:=(HQ.o.below hbl).row;obtain⟨i0,hi0,hz0,hz1,hz2⟩:=Bh aV1;refine wp_append_lies w' _ _ _ (by rfl) L.B1 76 i0 _ 6 48 Tryz.underlying70 hi0 hz0 hz1 hz2 (by rfl) (by omega) (.slice ao code.length cap) code.length (code.flatMap nZ) (by simp[Act.eval,hs1]) hown ⟨bb,0,none⟩ 1 1 (nZ {x with st:=b}) (by simp[Act.eval,hs2]) (by rfl) (iM bt7) (bu5 _) (by decide) (by have:=HL.o;unfold maxLen;omega) (by have:=HL.o;omega) (HQ.o.below hbl).sz _ rfl ?_;intro g' cap' w5 hown5 hgr hmv nY;have hM:=hC.bu9 (q:=(g',cap')) (w':=w5) hDn (by decide) hb hh ⟨hown5,jM (M8 hbl) hgr,by rcases hmv with h|h;exact .inl h;exact .inr (by rw[h];exact hbl.size)⟩ hgr.size (λk h1 h2=>hgr.block k h2 (λe=>by have:=HOW.o k e.symm;omega));exact ji.mk hM.1 hM.2 ⟨(g',cap'),rfl,rfl⟩
 simp only[dR];apply mR.step
 case bg=>intro D A g w' hDn hC hO hD;simp[lJ,lq,gJ,Act.eval,Region.binds]at hD;simp[go_sem,qJ,Oper.wp,hD];exact ji.mk (Ag.le_refl _ _ _) (hC.skip _ (by decide)) (lq.mk _ _ _)
 apply mR.step
 case bg=>intro D A g w' hDn hC hO hD;simp[lJ,lq,gJ,Act.eval,Region.binds]at hD;simp[go_sem,qJ,Oper.wp,hD];exact ji.mk (Ag.le_refl _ _ _) (hC.skip _ (by decide)) (lq.mk _ _ _)
 refine mR.some (λ_ _ _=>True) (λ_ _ _ _ _ _ _=>trivial) ?_ ?_
 ·intro D A g w' hDn hC hO hD;simp[lJ,lq,gJ,Act.eval,Region.binds]at hD;obtain⟨hs1,⟨qa,qc,hq,hs2⟩,-⟩:=hD;have hR:=hC.post (qa,qc) hq hDn;have hblk:=hR.2.1.block L.gb jE.o.2.2.1 (λe=>HGV.o e.symm);have z3:=(World.cell?_of_block (a:=⟨L.gb,7,none⟩) hblk).trans HC7.o;have f3:w'.frozen? ⟨L.gb,7,none⟩=false:=by rw[World.frozen?_of_block (a:=⟨L.gb,7,none⟩) hblk];exact bH HQ.o.blk
  unfold hdV at hs2;simp[go_sem,qJ,Oper.wp,hs1,hs2,z3,f3];have hM:=hC.bv0 hDn hq jE.o.2.2.1 (by decide) (by decide);exact ji.Cx (v:=undef) hM.1 hM.2 trivial
 refine mR.done ?_;intro D g wz hD hC;simp only[Nc,List.nil_append,List.cons_append,List.map_cons,List.map_nil];intro v0 h0 v1 h1 v2 h2 v3 h3 v4 h4 v5 h5 v6 h6 v7 h7 v8 h8 v9 h9 v10 h10;obtain⟨q,hq,rfl⟩:=h7;obtain⟨w5,hR,hW⟩:=hC.fin q hq (hD 10 (by simp));have HP:=ah (HI.o.push (wz:=wq) (w4:=w5) (g':=q.1) (cap':=q.2) {x with st:=b} HB.o hR.1 hR.2.1 hR.2.2);clear hC hD;refine zB ?_;go_simp;go_wp2_with fail;refine bodyPost_end (v:= .tuple #[]) (by simp[results,Tryz.results17,go_sem]) rfl ⟨rfl,?_⟩;exact⟨_,HP.o⟩
namespace Md
theorem Fg (W:Wo) (lc:List ByteArray) (st op n:Int) (nm:ByteArray) (kids rest:bJ) (d:Int):Bb W lc st (.cons op n nm kids rest) d=nI W lc st op n nm kids d++Bb W lc st rest (d+1):=rfl
theorem nE (op n:Int) (nm:ByteArray) (kids rest:bJ):mh (.cons op n nm kids rest)=(jQ op n nm kids&&mh rest):=rfl
theorem Fa (W:Wo) (op n:Int) (nm:ByteArray) (kids rest:bJ):J7 W (.cons op n nm kids rest)=(A8 W op nm kids&&J7 W rest):=rfl
theorem JB: ∀ {l:bJ},l.len=0->l= .nil
 | .nil,_=>rfl
 | .cons _ _ _ _ _,h=>by simp[bJ.len]at h
theorem TU: ∀ {l:bJ},l.len=1->∃o n m k,l= .cons o n m k .nil
 | .nil,h=>by simp[bJ.len]at h
 | .cons o n m k r,h=>⟨o,n,m,k,by rw[JB (l:=r) (by simpa[bJ.len]using h)]⟩
theorem at0: ∀ {l:bJ},l.len=2->∃o n m k o' n' m' k',l= .cons o n m k (.cons o' n' m' k' .nil)
 | .nil,h=>by simp[bJ.len]at h
 | .cons o n m k r,h=>by obtain⟨o',n',m',k',e⟩:=TU (l:=r) (by simpa[bJ.len]using h);exact⟨o,n,m,k,o',n',m',k',by rw[e]⟩
theorem VI {W:Wo} {op n:Int} {nm:ByteArray} {kids:bJ} (hs:jQ op n nm kids=true) (ho:A8 W op nm kids=true):
 (op=1∧kids= .nil)∨(op=2∧kids= .nil)∨(op=3∧0<=W.cell nm∧∃o n' m k,kids= .cons o n' m k .nil∧jQ o n' m k=true∧A8 W o m k=true)∨
 ((op=4∨op=5)∧∃o n' m k,kids= .cons o n' m k .nil∧jQ o n' m k=true∧A8 W o m k=true)∨
 (6<=op∧op<=18∧∃o n1 m k o' n2 m' k',kids= .cons o n1 m k (.cons o' n2 m' k' .nil)∧jQ o n1 m k=true∧A8 W o m k=true∧jQ o' n2 m' k'=true∧A8 W o' m' k'=true):=by
 unfold jQ at hs;rw[aJ]at hs;obtain⟨h1,h2⟩:=hs;unfold A8 at ho;rw[aJ]at ho;obtain⟨ho1,ho2⟩:=ho;unfold DN at h1;rw[aJ,beq_iff_eq]at h1;have hl:=h1.1;unfold opsOf at hl;by_cases c1:(op==1||op==2)=true
 ·rw[if_pos c1]at hl;have hk:=JB (l:=kids) (by omega);rw[Bool.or_eq_true,beq_iff_eq,beq_iff_eq]at c1;rcases c1 with c|c
  ·exact .inl ⟨c,hk⟩
  ·exact .inr (.inl ⟨c,hk⟩)
 rw[if_neg c1]at hl;by_cases c2:(op==3||op==4||op==5)=true
 ·rw[if_pos c2]at hl;obtain⟨o,n',m,k,e⟩:=TU (l:=kids) (by omega);subst e;rw[nE,aJ]at h2;rw[Fa,aJ]at ho2;rw[Bool.or_eq_true,Bool.or_eq_true,beq_iff_eq,beq_iff_eq,beq_iff_eq]at c2;rcases c2 with(c|c)|c
  ·subst c;exact .inr (.inr (.inl ⟨rfl,by simpa using ho1,o,n',m,k,rfl,h2.1,ho2.1⟩))
  ·exact .inr (.inr (.inr (.inl ⟨.inl c,o,n',m,k,rfl,h2.1,ho2.1⟩)))
  ·exact .inr (.inr (.inr (.inl ⟨.inr c,o,n',m,k,rfl,h2.1,ho2.1⟩)))
 rw[if_neg c2]at hl;by_cases c3:(decide (6<=op)&&decide (op<=18))=true
 ·rw[if_pos c3]at hl;rw[aJ,decide_eq_true_eq,decide_eq_true_eq]at c3;obtain⟨o,n1,m,k,o',n2,m',k',e⟩:=at0 (l:=kids) (by omega);subst e;rw[nE,nE,aJ,aJ]at h2;rw[Fa,Fa,aJ,aJ]at ho2;exact .inr (.inr (.inr (.inr ⟨c3.1,c3.2,o,n1,m,k,o',n2,m',k',rfl,h2.1,ho2.1,h2.2.1,ho2.2.1⟩)))
 ·rw[if_neg c3]at hl;omega
theorem SN {W:Wo} {nm:ByteArray} (h:0<=W.cell nm): ∃c,W.cs[(W.cell nm).toNat]? =some c∧W.size nm=c.sz∧c∈W.cs∧(W.cell nm).toNat<W.cs.length:=by
 have hlt:=aO2 h;rw[gX]at hlt;have hlt:(W.cell nm).toNat<W.cs.length:=hlt;refine⟨W.cs[(W.cell nm).toNat],bF hlt,?_,List.getElem_mem hlt,hlt⟩;unfold Wo.size;rw[bF hlt];rfl
theorem Uk {W:Wo} {lc:List ByteArray} {st op n:Int} {nm:ByteArray} {o n1:Int} {m:ByteArray} {k:bJ} {d:Int} (h:3<=op):nI W lc st op n nm (.cons o n1 m k .nil) d=nI W lc st o n1 m k d++[J8 W op nm d st]:=by
 conv=>lhs;unfold nI
 rw[if_neg (by simp;omega),Fg,Bb,List.append_nil]
theorem aw1 {W:Wo} {lc:List ByteArray} {st op n:Int} {nm:ByteArray} {o n1 o' n2:Int} {m m':ByteArray} {k k':bJ} {d:Int} (h:3<=op):nI W lc st op n nm (.cons o n1 m k (.cons o' n2 m' k' .nil)) d=nI W lc st o n1 m k d++nI W lc st o' n2 m' k' (d+1)++[J8 W op nm d st]:=by
 conv=>lhs;unfold nI
 rw[if_neg (by simp;omega),Fg,Fg,Bb,List.append_nil]
end Md
namespace Md
def QK (W:Wo) (h:dD):Prop:=H9 W h=true∧jr h<=300000
def xC (W:Wo) (lc:List ByteArray) (h:dD) (b e:aY) (nx pos:Nat):List dV:=
 AZ W lc nx h (jd W lc nx h lc.length) (kr W lc b (nx+1) (pos+qK h (jd W lc nx h lc.length)))
  (kr W lc e (nx+1+gF b) (pos+qK h (jd W lc nx h lc.length)+(kr W lc b (nx+1) (pos+qK h (jd W lc nx h lc.length))).length+1)) e.none pos
theorem ZP (W:Wo) (lc:List ByteArray) (h:dD) (b e r:aY) (nx pos:Nat):kr W lc (.cons h b e r) nx pos=xC W lc h b e nx pos++kr W lc r (nx+1+gF b+gF e) (pos+(xC W lc h b e nx pos).length):=rfl
theorem au9 (W:Wo) (lc:List ByteArray) (h:dD) (b e:aY) (nx pos:Nat):(xC W lc h b e nx pos).length<=jr h+oV b+oV e:=by
 unfold xC;have h1:=QZ W lc nx h (kr W lc b (nx+1) (pos+qK h (jd W lc nx h lc.length))) (kr W lc e (nx+1+gF b) (pos+qK h (jd W lc nx h lc.length)+(kr W lc b (nx+1) (pos+qK h (jd W lc nx h lc.length))).length+1)) e.none pos;have h2:=sV W lc b (nx+1) (pos+qK h (jd W lc nx h lc.length));have h3:=sV W lc e (nx+1+gF b) (pos+qK h (jd W lc nx h lc.length)+(kr W lc b (nx+1) (pos+qK h (jd W lc nx h lc.length))).length+1);omega
def stA (h:dD) (b e:aY) (s:Sl):Array Value:= #[.int .i64 h.op,.int .i64 h.line,.string h.nm,.string h.arg,.slice s.fQ h.idx.len s.eU,.int .i64 h.dN,.int .i64 h.xn,.string h.dJ,.slice s.fT h.bG.len s.eu,.slice s.dH b.len s.cu,.slice s.iC e.len s.gy]
end Md
theorem qO {w:World} {n:Nat} {h:dD} {b e:aY} {s:Sl} {t:TypeId} {f:Nat×Nat} (x:w.heap[n]? =some (.cells (stA h b e s) t f)):w.cell? ⟨n,0,none⟩=some (.int .i64 h.op)∧w.cell? ⟨n,1,none⟩=some (.int .i64 h.line)∧w.cell? ⟨n,2,none⟩=some (.string h.nm)∧w.cell? ⟨n,3,none⟩=some (.string h.arg)∧w.cell? ⟨n,4,none⟩=some (.slice s.fQ h.idx.len s.eU)∧w.cell? ⟨n,5,none⟩=some (.int .i64 h.dN)∧w.cell? ⟨n,6,none⟩=some (.int .i64 h.xn)∧w.cell? ⟨n,7,none⟩=some (.string h.dJ)∧w.cell? ⟨n,8,none⟩=some (.slice s.fT h.bG.len s.eu)∧w.cell? ⟨n,9,none⟩=some (.slice s.dH b.len s.cu)∧w.cell? ⟨n,10,none⟩=some (.slice s.iC e.len s.gy):=
 ⟨aQ x rfl,aQ x rfl,aQ x rfl,aQ x rfl,aQ x rfl,aQ x rfl,aQ x rfl,aQ x rfl,aQ x rfl,aQ x rfl,aQ x rfl⟩
def PK (w:World) (B:Nat) (h:dD) (b e:aY) (s:Sl):Prop:=vK h b e∧h.idx.At w B s.fQ 0∧h.bG.At w B s.fT 0∧b.At w B s.dH 0∧e.At w B s.iC 0
theorem PK.below {w w':World} {B:Nat} {h:dD} {b e:aY} {s:Sl} (hi:PK w B h b e s) (hb:Below B w w'):PK w' B h b e s:=
 ⟨hi.1,hi.2.1.below hb,hi.2.2.1.below hb,hi.2.2.2.1.below hb,hi.2.2.2.2.below hb⟩
theorem NT {w:World} {B:Nat} {h:dD} {b e r:aY} {ao:Option Addr} {k:Nat} (hat:(aY.cons h b e r).At w B ao k): ∃bl off s,ao=some ⟨bl,off,none⟩∧bl<B∧PK w B h b e s∧
 (∀j u,(stA h b e s)[j]? =some u->w.cell? ⟨bl,off+k*11+j,none⟩=some u)∧r.At w B ao (k+1):=by
 obtain⟨⟨b',off,fQ,eU,fT,eu,dH,cu,iC,gy,e',hB,c0,c1,c2,c3,c4,c5,c6,c7,c8,c9,c10,hok,h1,h2,h3,h4⟩,hr⟩:=hat;refine⟨b',off,⟨fQ,eU,fT,eu,dH,cu,iC,gy⟩,e',hB,⟨hok,h1,h2,h3,h4⟩,λj u hu=> ?_,hr⟩;have hj:j<11:=(aO hu);have:j=0∨j=1∨j=2∨j=3∨j=4∨j=5∨j=6∨j=7∨j=8∨j=9∨j=10:=by omega
 rcases this with rfl|rfl|rfl|rfl|rfl|rfl|rfl|rfl|rfl|rfl|rfl <;> (simp[stA]at hu;subst hu;first|exact c0|exact c1|exact c2|exact c3|exact c4|exact c5|exact c6|exact c7|exact c8|exact c9|exact c10)
structure uU (w:World) (L:GL) (W:Wo) (code:List dV) (h:dD) (b e:aY) (sl:Sl) (nx:Nat):Prop where
 m:PK w L.B0 h b e sl
 sh:ni h b.len e.len=true
 sb:gN b=true
 se:gN e=true
 ok:QK W h
 ob:b.Ev (QK W)
 oe:e.Ev (QK W)
 len:code.length+(jr h+oV b+oV e)<=1000000000000
 cnt:nx+(jr h+oV b+oV e)<=1000000000000
theorem uU.below {w w':World} {L:GL} {W:Wo} {code:List dV} {h:dD} {b e:aY} {sl:Sl} {nx:Nat} (p:uU w L W code h b e sl nx) (hb:Below L.B0 w w'):uU w' L W code h b e sl nx:=
 ⟨p.m.below hb,p.sh,p.sb,p.se,p.ok,p.ob,p.oe,p.len,p.cnt⟩
theorem uU.b7 {w:World} {L:GL} {W:Wo} {code:List dV} {h:dD} {b e:aY} {sl:Sl} {nx:Nat} (p:uU w L W code h b e sl nx):b.len<=maxLen:=p.m.1.2.2.2.2.2.2.1
theorem uU.e7 {w:World} {L:GL} {W:Wo} {code:List dV} {h:dD} {b e:aY} {sl:Sl} {nx:Nat} (p:uU w L W code h b e sl nx):e.len<=maxLen:=p.m.1.2.2.2.2.2.2.2
def MF (Q:Int->Int->Prop) (T:TypeId) (w:World) (L:GL) (W:Wo) (s:lV) (lc:List ByteArray) (al:Option Addr) (cl:Nat) (v:Value) (code:List dV) (xs:List dV) (w':World):Prop:=
 ∃v' a' b',Q a' b'∧iH T w' L W s lc al cl v' (code++xs) a' b'∧Kg L v w w'∧oW w v v'
section
variable {Q:Int->Int->Prop} {T ty:TypeId} {w w1 w2 w':World} {L:GL} {W:Wo} {s:lV} {lc:List ByteArray} {al:Option Addr} {cl nb:Nat} {v v2:Value} {code:List dV} {a b:Int} {xs ys:List dV} {cs:Array Value}
theorem mJ.list (h:mJ T w L W s lc al cl v code a b nb cs ty xs w2 v2) (k:MF Q T w2 L W s lc al cl v2 (code++xs) ys w'): ∃v3 a' b',Q a' b'∧mJ T w L W s lc al cl v code a' b' nb cs ty (xs++ys) w' v3:=by
 obtain⟨v3,a',b',hq,k1,k2,k3⟩:=k;have hlt:=(aO h.x);exact⟨v3,a',b',hq,by rw[<- List.append_assoc];exact k1,h.k.trans h.o k2,h.o.trans k3 h.k.size,(k2.block nb hlt (by have:=L.b1;have:=h.g;omega) h.n).trans h.x,h.g,k3.ne hlt h.n⟩
theorem mJ.su (h:mJ T w L W s lc al cl v code a b nb cs ty xs w2 v2) (hq:Q a b) (e:xs=ys):MF Q T w L W s lc al cl v code ys w2:=by
 subst e;exact⟨v2,a,b,hq,h.i,h.k,h.o⟩
theorem mJ.setOf (h:mJ T w L W s lc al cl v code a b nb cs ty xs w2 v2) {j:Nat} {u:Value} {a' b':Int} (hi:iH T (w2.setCell ⟨L.gb,j,none⟩ u) L W s lc al cl v2 (code++xs) a' b'):mJ T w L W s lc al cl v code a' b' nb cs ty xs (w2.setCell ⟨L.gb,j,none⟩ u) v2:=
 ⟨hi,h.k.trans h.o (Kg.set _ _ _),h.o,(bf _ _ _ rfl (by have:=L.b1;have:=h.g;show L.gb≠nb;omega)).trans h.x,h.g,h.n⟩
theorem mJ.ae2 (h:mJ T w L W s lc al cl v code a b nb cs ty xs w2 v2) (x:Int):mJ T w L W s lc al cl v code x b nb cs ty xs (w2.setCell ⟨L.gb,8,none⟩ (.int .i64 x)) v2:=h.setOf (h.i.ae2 x)
theorem mJ.jw (h:mJ T w L W s lc al cl v code a b nb cs ty xs w2 v2) (x:Int):mJ T w L W s lc al cl v code a x nb cs ty xs (w2.setCell ⟨L.gb,9,none⟩ (.int .i64 x)) v2:=h.setOf (h.i.jw x)
theorem iH.VD (h:iH T w L W s lc al cl v code a b) {k:Nat} {x:dV} (hx:code[k]? =some x): ∃g cap,v= .slice (some ⟨g,0,none⟩) code.length cap∧L.B1<=g∧(∀j u,(nZ x)[j]? =some u->w.cell? ⟨g,k*6+j,none⟩=some u)∧∀j,w.frozen? ⟨g,j,none⟩=false:=by
 have hk:=(List.getElem?_eq_some_iff.1 hx).1;rcases h.row.2 with⟨-,hn⟩|⟨g,cap,cur,rfl,hb,hg,h1,h2,h3,h4⟩
 ·omega
 ·refine⟨g,cap,rfl,hb,λj u hu=> ?_,λ_=>bH hg⟩;have hF:=flat_get Bu code k x j u hx hu;rw[<- h4]at hF;have hlt:=(List.getElem?_eq_some_iff.1 hF).1;rw[List.getElem?_take_of_lt (by rw[List.length_take]at hlt;omega)]at hF;exact aQ hg (by rw[<- hF];simp)
theorem mJ.patch {g cap:Nat} (h:mJ T w L W s lc al cl v code a b nb cs ty xs w2 (.slice (some ⟨g,0,none⟩) (code++xs).length cap)) (i j:Nat) (x y:dV) (u:Value) (hx:xs[i]? =some x) (hj:j<6) (hy:nZ y=(nZ x).set j u):
 mJ T w L W s lc al cl v code a b nb cs ty (xs.set i y) (w2.setCell ⟨g,(code.length+i)*6+j,none⟩ u) (.slice (some ⟨g,0,none⟩) (code++xs).length cap):=by
 have hx':(code++xs)[code.length+i]? =some x:=by rw[List.getElem?_append_right (by omega)];simpa using hx
 obtain⟨p1,p2⟩:=h.i.patch (code.length+i) j x y u hx' hj hy;have hlt:=(aO h.x);have e:(code++xs).set (code.length+i) y=code++xs.set i y:=by rw[List.set_append_right _ _ (by omega)];simp
 rw[e]at p1;exact⟨p1,h.k.trans h.o p2,h.o,(p2.block nb hlt (by have:=L.b1;have:=h.g;omega) h.n).trans h.x,h.g,h.n⟩
end
namespace Md
theorem I5 (p:Pr) (j:Nat) (tn fU:ByteArray): ∀(l ar:aY) (f g:List (List UInt8)),(gK p j tn fU l ar f g).err=0->l.Ev (λh=> ∃ar f g,jk p j tn fU ar f g h=0)
 | .nil,_,_,_,_=>trivial
 | .cons h b e r,ar,f,g,h0=>by
   rw[gK]at h0;split at h0
   ·exact absurd (show(2:Int)=0 from h0) (by decide)
   ·split at h0
    ·rename_i h1;rw[show jk p j tn fU ar (mem f) (mem g) h=0 from h0]at h1;exact absurd h1 (by decide)
    ·rename_i h1;split at h0
     ·rename_i h2;rw[h0]at h2;exact absurd h2 (by decide)
     ·rename_i h2;split at h0
      ·rename_i h3;rw[h0]at h3;exact absurd h3 (by decide)
      ·rename_i h3;refine⟨⟨ar,mem f,mem g,by simpa using h1⟩,I5 p j tn fU b _ _ _ (by simpa using h2),I5 p j tn fU e _ _ _ (by simpa using h3),I5 p j tn fU r _ _ _ h0⟩
theorem JM (p:Pr) (fU:ByteArray): ∀(l:List Th) (j:Nat) (f g:List (List UInt8)),(iP p fU l j f g).err=0->∀t∈l,∃j:Nat,t.body.Ev (λh=> ∃ar f g,jk p j t.nm fU ar f g h=0)
 | [],_,_,_,_=>λt h=>by cases h
 |t::r,j,f,g,h0=>by
  rw[iP]at h0;split at h0
  ·rename_i h2;rw[h0]at h2;exact absurd h2 (by decide)
  ·rename_i h2;intro x hx;rcases List.mem_cons.1 hx with rfl|hx
   ·exact⟨j,I5 p j _ fU _ _ _ _ (by simpa using h2)⟩
   ·exact JM p fU r _ _ _ h0 x hx
theorem Lr: ∀(l:List Th) (W:Wo) (i:Nat),(yJ W i l).cs=W.cs∧(yJ W i l).ls=W.ls∧(yJ W i l).ns=W.ns∧(yJ W i l).fs=W.fs
 | [],_,_=>⟨rfl,rfl,rfl,rfl⟩
 |t::r,W,i=>by rw[yJ];exact Lr r _ _
theorem Ul {d:De} (hd:d.kind=1): ∀ {l:List De} (W:Wo),(d∈l∨∃c∈W.cs,c.nm=d.nm)->∃c∈(l.foldl Dq W).cs,c.nm=d.nm
 | [],W,h=>by
   rcases h with h|h
   ·cases h
   ·exact h
 |x::r,W,h=>by
  rw[List.foldl_cons];refine Ul hd (Dq W x) ?_;rcases h with h|⟨c,hc,e⟩
  ·rcases List.mem_cons.1 h with rfl|h
   ·right;refine⟨⟨d.nm,(0:Nat),d.size,d.kind==2,d.init⟩,?_,rfl⟩;have hk:(d.kind==1||d.kind==2)=true:=(by rw[hd];rfl);unfold Dq;rw[if_pos hk];show _∈W.cs++PX d;refine List.mem_append_right _ ?_;unfold PX;obtain⟨n,hn⟩: ∃n,(max d.size 1).toNat=n+1:=⟨(max d.size 1).toNat -1,by omega⟩;rw[hn,Gq];exact aV
   ·exact .inl h
  ·right;refine⟨c,?_,e⟩;unfold Dq;split
   ·exact List.mem_append_left _ hc
   ·split
    ·exact hc
    ·split <;> exact hc
theorem GZ {p:Pr} {i:Int} {nm:ByteArray} (h:mean p i nm=3):0<=(jU p).cell nm:=by
 unfold mean at h;split at h
 ·exact absurd h (by decide)
 ·unfold nT at h;cases hf:p.ds.find? (λd=>d.nm.toList==nm.toList)with
  |none=>rw[hf]at h;simp at h;unfold qL at h;split at h <;> exact absurd h (by decide)
  |some d=>
   rw[hf]at h;simp only[Option.map_some,Option.getD_some]at h;have hd:d.kind=1:=by
    unfold gI at h;split at h
    ·rename_i hk;simpa using hk
    ·split at h
     ·exact absurd h (by decide)
     ·split at h
      ·exact absurd h (by decide)
      ·split at h
       ·exact absurd h (by decide)
       ·split at h
        ·exact absurd h (by decide)
        ·split at h <;> exact absurd h (by decide)
   have hm:=List.mem_of_find?_eq_some hf;have hn:=List.find?_some hf;obtain⟨c,hc,e⟩:=Ul hd xG (.inl hm);unfold Wo.cell iT jU;refine TQ _ _ _ (by decide) ⟨c.nm,List.mem_map.2 ⟨c,?_,rfl⟩,?_⟩
   ·rw[(Lr _ _ _).1];exact hc
   ·rw[e];simpa using hn
theorem Mf {p:Pr} {i:Int} : ∀ {l:bJ},qj p i l=0->J7 (jU p) l=true
 | .nil,_=>rfl
 | .cons op n nm kids rest,h=>by
   rw[qj]at h;split at h
   ·rename_i h1;split at h
    ·rename_i h2;rw[J7,Mf (by simpa using h2),Mf h];have h1:oI p i op nm=0:=(by simpa using h1);unfold oI at h1;by_cases h3:op=3
     ·subst h3;have:=sF (show dQ (mean p i nm) [3]=0 from h1);simp[GZ (this)]
     ·simp[h3]
    ·rename_i h2;rw[h]at h2;exact absurd rfl h2
   ·rename_i h1;rw[h]at h1;exact absurd rfl h1
theorem Kz {p:Pr} {i op n:Int} {nm:ByteArray} {kids:bJ} (h:jW p i op n nm kids=0):A8 (jU p) op nm kids=true:=by
 unfold jW at h;split at h
 ·split at h
  ·exact absurd h (by decide)
  ·unfold uK at h;split at h
   ·rename_i h1;have h1:oI p i op nm=0:=(by simpa using h1);unfold A8;rw[Mf h];unfold oI at h1;by_cases h3:op=3
    ·subst h3;have:=sF (show dQ (mean p i nm) [3]=0 from h1);simp[GZ (this)]
    ·simp[h3]
   ·rename_i h1;rw[h]at h1;exact absurd rfl h1
 ·exact absurd h (by decide)
theorem len_nil {l:bJ} (h:l.len=0):l= .nil:=by
 cases l with
 |nil=>rfl
 |cons=>simp[bJ.len]at h
theorem ag7 {W:Wo} {op n:Int} {nm:ByteArray} {kids:bJ} (h:qo op n nm kids.len=true):A8 W op nm kids=true:=by
 unfold qo at h;simp only[aJ,beq_iff_eq]at h;obtain⟨⟨⟨h1,-⟩,-⟩,h2⟩:=h;rw[len_nil h2,h1];rfl
theorem Yn {h:dD} {bl el:Nat} (hs:ni h bl el=true):h.idx.len<=1∧(h.op≠1->h.idx= .nil)∧(fX h.op=false->qo h.dN h.xn h.dJ h.bG.len=true)∧1<=h.op∧h.op<=15:=by
 unfold ni at hs;simp only[aJ]at hs;obtain⟨⟨⟨h1,-⟩,⟨h2,h3⟩,-⟩,h4,-⟩:=hs;unfold fO at h1;simp only[aJ,decide_eq_true_eq]at h1 h2;refine⟨h2,λhne=> ?_,λhx=> ?_,h1⟩
 ·have hl:h.idx.len≠1:=λe=>by rw[e]at h3;unfold fI at h3;simp at h3;exact hne h3
  exact len_nil (by omega)
 ·rw[hx]at h4;simpa using h4
theorem aS6 {p:Pr} {j:Nat} {tn fU:ByteArray} {ar:aY} {f g:List UInt8->Bool} {h:dD} {bl el:Nat} (hs:ni h bl el=true) (h0:jk p j tn fU ar f g h=0):H9 (jU p) h=true:=by
 obtain⟨hl,hi,hx,ho1,ho2⟩:=Yn hs;have key: ∀(he:A8 (jU p) h.dN h.dJ h.bG=true),h.op≠1->H9 (jU p) h=true:=λhe hne=>by unfold H9;rw[he,hi hne];rfl
 by_cases h1:h.op=1
 ·unfold jk at h0;rw[h1,if_pos (by rfl)]at h0;unfold Cg at h0;split at h0
  ·rename_i hz;have hz:h.idx.len=0:=by simpa using hz
   have:=Kz (kg h0 _ (aX _ aV));unfold H9;rw[this,len_nil hz];rfl
  ·rename_i hz;have hz:h.idx.len≠0:=by simpa using hz
   have e1:=sF (kg h0 _ aV);have e2:=kg h0 _ (aX _ aV);have e3:=Kz (kg h0 _ (aX _ (aX _ aV)));have ec:=GZ (e1);unfold H9;cases hidx:h.idx with
   |nil=>rw[hidx]at hz;exact absurd rfl hz
   |cons op n nm kids r=>rw[hidx]at e2 hl;have hr:r= .nil:=len_nil (by simp only[bJ.len]at hl;omega);have:=Kz (show jW p j op n nm kids=0 from e2);unfold A8 at this;rw[e3,hr,J7,this];simp[J7,ec]
 ·have hne:=h1;by_cases hf:fX h.op=true
  ·refine key (Kz (p:=p) (i:=j) (n:=h.xn) ?_) hne;unfold fX at hf;simp only[Bool.or_eq_true,beq_iff_eq]at hf;rcases hf with(hf|hf)|(hf|hf)
   ·exact absurd hf hne
   ·unfold jk at h0;rw[hf]at h0;exact h0
   ·unfold jk at h0;rw[hf]at h0;exact h0
   ·unfold jk at h0;rw[hf]at h0;exact kg (show gu _=0 from h0) _ (by simp)
  ·exact key (ag7 (hx (by simpa using hf))) hne
theorem CJ: ∀ {l:aY},gN l=true->l.Ev (λh=> ∃bl el,ni h bl el=true)
 | .nil,_=>trivial
 | .cons h b e r,hs=>by rw[gN]at hs;simp only[aJ]at hs;exact⟨⟨_,_,hs.1.1⟩,CJ hs.1.2.1,CJ hs.1.2.2,CJ hs.2⟩
theorem uM {p:Pr} (h:(jD p).1=0):pE p=true∧(mg p.ds [] 0 0 0 0).1=0∧p.ts.length<=4∧(kF p).1=0∧rF p.ts 0<=60∧(iP p (jV p) p.ts 0 [] []).err=0:=by
 unfold jD at h;split at h
 ·exact absurd h (by decide)
 ·rename_i h1;split at h
  ·rename_i h2;rw[h]at h2;exact absurd h2 (by decide)
  ·rename_i h2;split at h
   ·exact absurd h (by decide)
   ·rename_i h3;split at h
    ·rename_i h4;rw[h]at h4;exact absurd h4 (by decide)
    ·rename_i h4;split at h
     ·exact absurd h (by decide)
     ·rename_i h5;simp only[decide_eq_true_eq]at h3 h5;exact⟨by simpa using h1,by simpa using h2,by omega,by simpa using h4,by omega,h⟩
theorem okP {p:Pr} (h:(jD p).1=0): ∀t∈p.ts,t.body.Ev (λh=>H9 (jU p) h=true):=by
 obtain⟨h1,-,-,-,-,h6⟩:=uM h;intro t ht;obtain⟨j,hj⟩:=JM p _ _ _ _ _ h6 t ht;unfold pE at h1;simp only[aJ]at h1;have h2:=List.all_eq_true.1 h1.1.2 t ht;unfold oL at h2;simp only[aJ]at h2;refine(hj.and (CJ h2.2)).imp λx hx=> ?_;obtain⟨⟨ar,f,g,h0⟩,bl,el,hs⟩:=hx;exact aS6 hs h0
end Md
namespace Md
def qQ (d:De):Nat->Nat->List Ak
 |0,_=>[]
 |n+1,k=>⟨d.nm,k,d.size,false,d.init⟩::qQ d n (k+1)
def lY (d:De):List Ak:=if d.size==0 then [⟨d.nm,0,0,d.kind==2,d.init⟩]else qQ d d.size.toNat 0
def gD (W:Wo) (g:List UInt8->Int) (d:De):List UInt8->Int:=if d.kind==3||d.kind==4 then λx=>if x=d.nm.toList then(W.ls.length:Int)else g x else g
def lG (W:Wo) (g:List UInt8->Int) (d:De):Wo:=
 if d.kind==1||d.kind==2 then {W with cs:=W.cs++lY d} else if d.kind==3||d.kind==4 then {W with ls:=W.ls++[⟨d.nm,d.kind==4⟩]} else
 if d.kind==5 then {W with ns:=W.ns++[⟨d.nm,g d.on.toList⟩]} else if d.kind==6 then {W with fs:=W.fs++[d.nm]} else W
def J9:List De->Wo->(List UInt8->Int)->Wo
 | [],W,_=>W
 |d::r,W,g=>J9 r (lG W g d) (gD W g d)
theorem WR {d:De} (h:(d.kind==2)=false): ∀(n k:Nat),qQ d n k=Gq d n k
 |0,_=>rfl
 |n+1,k=>by rw[qQ,Gq,WR h n,h]
theorem aF7 {d:De} (hs:jG d=true):lY d=PX d:=by
 unfold jG at hs;simp only[aJ,decide_eq_true_eq]at hs;obtain⟨⟨⟨⟨h1,h2⟩,-⟩,h3,h4⟩,-⟩:=hs;unfold lY PX;split
 ·rename_i h0;have h0:d.size=0:=by simpa using h0
  rw[h0];show _=Gq d 1 0;rw[Gq,Gq,h0];rfl
 ·rename_i h0;have h0:d.size≠0:=by simpa using h0
  have hk:d.kind=1:=by simpa[h0]using h4
  rw[WR (by rw[hk];rfl),show max d.size 1=d.size by omega]
theorem QA: ∀(l:List ByteArray) (s nm:ByteArray) (k:Int),(∀x∈l,x.toList≠s.toList)->qy (l++[s]) nm k=if nm.toList=s.toList then k+l.length else qy l nm k
 | [],s,nm,k,_=>by
   simp only[List.nil_append,qy,aW];by_cases h:nm.toList=s.toList
   ·simp[h]
   ·have: ¬s.toList=nm.toList:=λe=>h e.symm;simp[h,this]
 |y::r,s,nm,k,hn=>by
  have ih:=QA r s nm (k+1) (λx hx=>hn x (aX _ hx));have hy:=hn y aV;rw[List.cons_append,qy,ih,qy];by_cases h:nm.toList=s.toList
  ·rw[if_pos h,if_pos h];have:(y.toList==nm.toList)=false:=by rw[h];simpa using hy
   rw[this];simp only[aA];rw[if_neg (by decide)];omega
  ·rw[if_neg h,if_neg h]
structure Bd (pre:List De) (W:Wo) (g:List UInt8->Int):Prop where
 sub: ∀s∈W.ls.map (·.nm),∃d∈pre,d.nm.toList=s.toList
 eq: ∀x:ByteArray,0<=iT (W.ls.map (·.nm)) x->g x.toList=iT (W.ls.map (·.nm)) x
 has: ∀d∈pre,d.kind=3∨d.kind=4->0<=iT (W.ls.map (·.nm)) d.nm
theorem at1 {pre:List De} {l:List UInt8} (h:mD pre l=0): ∀d∈pre,d.nm.toList≠l:=by
 have hf:=TV (pre:=pre) (l:=l) (by rw[h];rfl);intro d hd e;have:=List.find?_eq_none.1 hf d hd;simp[e]at this
theorem Bd.step {pre:List De} {W:Wo} {g:List UInt8->Int} {d:De} (h:Bd pre W g) (hd:mD pre d.nm.toList=0):Bd (pre++[d]) (lG W g d) (gD W g d):=by
 have hz:=at1 hd;by_cases hk:(d.kind==3||d.kind==4)=true
 ·have h12:(d.kind==1||d.kind==2)=false:=by simp only[Bool.or_eq_true,beq_iff_eq]at hk;rcases hk with hk|hk <;> rw[hk] <;> rfl
  have e1:(lG W g d).ls=W.ls++[⟨d.nm,d.kind==4⟩]:=by unfold lG;rw[h12,hk];rfl
  have e2:gD W g d=λx=>if x=d.nm.toList then(W.ls.length:Int)else g x:=by unfold gD;rw[if_pos hk]
  have e3:(lG W g d).ls.map (·.nm)=W.ls.map (·.nm)++[d.nm]:=by rw[e1];simp
  have hne: ∀x∈W.ls.map (·.nm),x.toList≠d.nm.toList:=λx hx e=>by obtain⟨d',hd',e'⟩:=h.sub x hx;exact hz d' hd' (e'.trans e)
  have e4: ∀x,iT ((lG W g d).ls.map (·.nm)) x=if x.toList=d.nm.toList then(W.ls.length:Int)else iT (W.ls.map (·.nm)) x:=λx=>by rw[e3];unfold iT;rw[QA _ _ _ _ hne];simp
  refine⟨λs hs=> ?_,λx hx=> ?_,λd' hd' hk'=> ?_⟩
  ·rw[e3]at hs;rcases List.mem_append.1 hs with hs|hs
   ·obtain⟨d',h1,h2⟩:=h.sub s hs;exact⟨d',List.mem_append_left _ h1,h2⟩
   ·rw[List.mem_singleton.1 hs];exact⟨d,List.mem_append_right _ (List.mem_singleton.2 rfl),rfl⟩
  ·rw[e4]at hx⊢;rw[e2];show(if _ then _ else _)=_;by_cases hc:x.toList=d.nm.toList
   ·rw[if_pos hc,if_pos hc]
   ·rw[if_neg hc]at hx⊢;rw[if_neg hc];exact h.eq x hx
  ·rw[e4];split
   ·omega
   ·rename_i hc;rcases List.mem_append.1 hd' with hd'|hd'
    ·exact h.has d' hd' hk'
    ·rw[List.mem_singleton.1 hd']at hc;exact absurd rfl hc
 ·have hk:(d.kind==3||d.kind==4)=false:=by simpa using hk
  have e1:(lG W g d).ls=W.ls:=by
   unfold lG;rw[hk];split
   ·rfl
   ·rw[if_neg (by decide)];split
    ·rfl
    ·split <;> rfl
  have e2:gD W g d=g:=by unfold gD;rw[hk];rfl
  rw[e2];refine⟨λs hs=> ?_,λx hx=> ?_,λd' hd' hk'=> ?_⟩
  ·rw[e1]at hs;obtain⟨d',h1,h2⟩:=h.sub s hs;exact⟨d',List.mem_append_left _ h1,h2⟩
  ·rw[e1]at hx⊢;exact h.eq x hx
  ·rw[e1];rcases List.mem_append.1 hd' with hd'|hd'
   ·exact h.has d' hd' hk'
   ·rw[List.mem_singleton.1 hd']at hk';simp only[Bool.or_eq_false_iff,beq_eq_false_iff_ne]at hk;rcases hk' with e|e
    ·exact absurd e hk.1
    ·exact absurd e hk.2
theorem V4 {d:De} (h:gI d=4):d.kind=3:=by
 unfold gI at h;split at h
 ·split at h <;> exact absurd h (by decide)
 ·split at h
  ·exact absurd h (by decide)
  ·split at h
   ·rename_i hk;simpa using hk
   ·split at h
    ·exact absurd h (by decide)
    ·split at h
     ·exact absurd h (by decide)
     ·split at h <;> exact absurd h (by decide)
theorem Bd.cond {pre:List De} {W:Wo} {g:List UInt8->Int} {on:ByteArray} (h:Bd pre W g) (hm:mD pre on.toList=4):g on.toList=iT (W.ls.map (·.nm)) on:=by
 unfold mD at hm;cases hf:pre.find? (λd=>d.nm.toList==on.toList)with
 |none=>rw[hf]at hm;exact absurd hm (by decide)
 |some d=>
  rw[hf]at hm;have hd:=V4 (show gI d=4 from hm);have h1:=List.mem_of_find?_eq_some hf;have h2:=List.find?_some hf;have h2:d.nm.toList=on.toList:=by simpa using h2
  refine h.eq on ?_;have:=h.has d h1 (.inl hd);unfold iT at this⊢;rcases KT (W.ls.map (·.nm)) d.nm 0 with h3|h3
  ·omega
  ·have e: ∀(l:List ByteArray) (k:Int),qy l on k=qy l d.nm k:=λl=>by
    induction l with
    |nil=>intro k;rfl
    |cons s r ih=>intro k;rw[qy,qy,ih,h2]
   rw[e];exact this
theorem ap9: ∀(l pre:List De) (W:Wo) (g:List UInt8->Int) (c x n f:Int),(∀d∈l,jG d=true)->Bd pre W g->(mg l pre c x n f).1=0->J9 l W g=l.foldl Dq W
 | [],_,_,_,_,_,_,_,_,_,_=>rfl
 |d::r,pre,W,g,c,x,n,f,hs,hI,h0=>by
  have hsd:=hs d aV;rw[mg]at h0;split at h0
  ·exact absurd (show(4:Int)=0 from h0) (by decide)
  ·rename_i h1;split at h0
   ·exact absurd (show(2:Int)=0 from h0) (by decide)
   ·split at h0
    ·exact absurd (show(2:Int)=0 from h0) (by decide)
    ·split at h0
     ·exact absurd (show(5:Int)=0 from h0) (by decide)
     ·split at h0
      ·exact absurd (show(6:Int)=0 from h0) (by decide)
      ·rename_i h5;have h1:mD pre d.nm.toList=0:=(by simpa using h1);have e:lG W g d=Dq W d:=by
        unfold lG Dq;rw[aF7 hsd];split
        ·rfl
        ·split
         ·rfl
         ·split
          ·rename_i hk;have:mD pre d.on.toList=4:=(by simpa[hk]using h5);rw[hI.cond this]
          ·rename_i k1 k2 k3;have Qr:d.kind=6:=(by unfold jG at hsd;simp only[aJ,decide_eq_true_eq]at hsd;obtain⟨⟨⟨⟨q1,q2⟩,-⟩,-⟩,-⟩:=hsd;simp only[Bool.or_eq_true,beq_iff_eq,not_or]at k1 k2 k3;omega);rw[Qr];rfl
       rw[J9,List.foldl_cons,e];have:=hI.step h1;rw[e]at this;exact ap9 r (pre++[d]) _ _ _ _ _ _ (λy hy=>hs y (aX _ hy)) this h0
theorem Bd.start:Bd [] xG (λ_=>0):=by
 refine⟨λs hs=>(by cases hs),λx hx=> ?_,λd hd=>(by cases hd)⟩;have:iT (xG.ls.map (·.nm)) x= -1:=rfl;omega
theorem aX6 {p:Pr} (h:(jD p).1=0):J9 p.ds xG (λ_=>0)=p.ds.foldl Dq xG:=by
 obtain⟨h1,h2,-⟩:=uM h;unfold pE at h1;simp only[aJ]at h1;exact ap9 _ _ _ _ _ _ _ _ (λd hd=>List.all_eq_true.1 h1.1.1 d hd) Bd.start h2
end Md
namespace Md
def FH (n:Int):List Value:=[.int .i64 n]
def uI:aY->List Int
 | .nil=>[]
 | .cons h b e r=>h.line::(uI b++uI e++uI r)
theorem sG: ∀l:aY,(uI l).length=gF l
 | .nil=>rfl
 | .cons h b e r=>by have h1:=sG b;have h2:=sG e;have h3:=sG r;simp only[uI,gF,aA,ay];omega
end Md
theorem TP: ∀n:Int,(FH n).length=1:=λ_=>rfl
theorem bu6 (n:Int): ∀u∈FH n,u.oneCell'=true:=by intro u hu;simp[FH]at hu;subst hu;rfl
theorem aV2:(Tryz.prog.info? 3).map (λi=>(i.zero,i.size,i.bytes))=some (some (.int .i64 0),1,8):=by kernel_rfl
theorem infoP {o:Option TypeInfo} {z:Option Value} {a b:Nat} (h:o.map (λi=>(i.zero,i.size,i.bytes))=some (z,a,b)): ∃i0,o=some i0∧i0.zero=z∧i0.size=a∧i0.bytes=b:=by
 cases o with
 |none=>cases h
 |some i=>simp at h;exact⟨i,rfl,h.1,h.2.1,h.2.2⟩
theorem Qd {v v1:Value} {w w1 w2:World} (h:w.grownBy w1 v.ownBlock) (ho:oW w v v1) (k:w1.grownBy w2 v1.ownBlock):w.grownBy w2 v.ownBlock:=
 ⟨k.os.trans h.os,k.tape.trans h.tape,k.output.trans h.output,aP h.size k.size,λj hj hne=>(k.block j (aG hj h.size) (by
   rcases ho with e|⟨g,e,hg⟩
   ·rw[e];exact hne
   ·rw[e];intro e';injection e' with e';omega)).trans (h.block j hj hne)⟩
theorem Cm {w w':World} {g:Option Nat} (h:Below w.heap.size w w'):w.grownBy w' g:=⟨h.os,h.tape,h.output,h.size,λk hk _=>h.block k hk⟩
theorem sW {w w':World} {base n m:Nat} {e:TypeId} {v:Value} {xs:List Value} (h:w.ownsRow base e m v n xs) (hb:Below w.heap.size w w'):w'.ownsRow base e m v n xs:=
 h.kept (row:=none) ⟨hb.os,hb.tape,hb.output,hb.size,λk hk _=>hb.block k hk⟩ (by cases hv:v.ownBlock <;> simp)
structure WB (T:TypeId) (B nb:Nat) (cs:Array Value) (ty:TypeId) (w:World) (v:Value) (xs:List Int) (w2:World) (v2:Value):Prop where
 r:w2.ownsRow B T 1 v2 xs.length (xs.flatMap FH)
 g:w.grownBy w2 v.ownBlock
 o:oW w v v2
 x:w2.heap[nb]? =some (.cells cs ty (0,0))
 b:B<=w2.heap.size
 n:v2.ownBlock≠some nb
def Ec (l:aY):Prop:= ∀(w:World) (B:Nat) (v:Value) (xs:List Int) (ao:Option Addr) (cap:Nat),w.ownsRow B 3 1 v xs.length (xs.flatMap FH)->B<=w.heap.size->l.len<=maxLen->l.At w B ao 0->xs.length+gF l<=1000000000000->
 Calls Tryz.prog 35 #[v,.slice ao l.len cap] w λe w'=> ∃v',e= .returned v'∧w'.ownsRow B 3 1 v' (xs++uI l).length ((xs++uI l).flatMap FH)∧w.grownBy w' v.ownBlock∧oW w v v'
theorem WB.call {T ty:TypeId} {B nb:Nat} {cs:Array Value} {w w2 w':World} {v v2 v':Value} {xs ys:List Int} (h:WB T B nb cs ty w v xs w2 v2) (hr:w'.ownsRow B T 1 v' ys.length (ys.flatMap FH)) (hg:w2.grownBy w' v2.ownBlock) (ho:oW w2 v2 v'):WB T B nb cs ty w v ys w' v':=by
 have hlt:=(aO h.x);exact⟨hr,Qd h.g h.o hg,h.o.trans ho h.g.size,(hg.block nb hlt (λe=>h.n e.symm)).trans h.x,aP h.b hg.size,ho.ne hlt h.n⟩
theorem Ey {B:Nat} {T:TypeId} {m n:Nat} {v:Value} {w w':World} {xs:List Value} (h:w.ownsRow B T m v n xs) (hB:B<=w.heap.size) (hg:w.grownBy w' v.ownBlock):Below B w w':=
 ⟨hg.os,hg.tape,hg.output,hg.size,λk hk=>hg.block k (by omega) (λe=>by have:=(h.lt k e.symm).1;omega)⟩
theorem JC (l:aY) (hall:l.All λ_ b e=>Ec b∧Ec e):Ec l:=by
 intro w B v xs ao cap hrow hBw hl hat hlen;generalize hres:xs++uI l=res;have HR:=ah hres;have HRW:=ah hrow;have HAT:=ah hat;have HL:=ah hlen;have ku:=ah hall;have BG:=ah hBw;obtain⟨i0,hi,hz0,hz1,hz2⟩:=infoP aV2;have iq:=ah (aI hi (aI hz0 (aI hz1 hz2)));unfold maxLen at hl;clear hres hrow hat hlen hall hBw hi hz0 hz1 hz2;go_enter Tryz.func35,Tryz.ntmps35;go_wp2_with fail;go_loopw [0,6,9] (λv0 _ i wr=> ∃(k:Nat) (R:aY) (ys:List Int),i= .int .i64 k∧k+R.len=l.len∧res=ys++uI R∧ys.length+gF R<=1000000000000∧(R.All λ_ b e=>Ec b∧Ec e)∧R.At wr B ao k∧B<=wr.heap.size∧wr.ownsRow B 3 1 v0 ys.length (ys.flatMap FH)∧w.grownBy wr v.ownBlock∧oW w v v0) (λ_ _ i _=>l.len -(intOf i).toNat)
 case atStart=>exact⟨0,l,xs,rfl,by simp,HR.o.symm,HL.o,ku.o,HAT.o,BG.o,HRW.o,Et _,.inl rfl⟩
 case round=>
  obtain⟨k,R,ys,rfl,hlen,heq,hl12,hall,hat,hBr,hrow,hgr,how⟩:=hrel;have HE:=ah heq;have Wj:=ah hl12;have LD:=ah hrow;have HG:=ah hgr;have HO:=ah how;have JW:=ah hBr;clear heq hl12 hrow hgr how hBr;cases R with
  |nil=>
   obtain rfl:k=l.len:=by simpa[aY.len]using hlen
   have HX:aj (res=ys):=ah (by rw[HE.o];simp[uI]);clear hat hall;go_wp2_with fail;go_ret;exact⟨_,rfl,by rw[HX.o];exact LD.o,HG.o,HO.o⟩
  |cons h e0 e1 R=>
   obtain⟨bl,off,sl,rfl,hbl,hin,hcs,hrest⟩:=NT hat;have hkl:k<l.len:=by simp only[aY.len]at hlen;omega
   obtain⟨⟨hs0,hs1⟩,xY⟩:=hall;have xO:=ah (aI hs0 hs1);have lQ:=ah xY;have Uu:=ah hin;have mQ:=ah hrest;have x0:=hcs 0 _ rfl;have x1:=hcs 1 _ rfl;have x2:=hcs 2 _ rfl;have x3:=hcs 3 _ rfl;have x4:=hcs 4 _ rfl;have x5:=hcs 5 _ rfl;have x6:=hcs 6 _ rfl;have x7:=hcs 7 _ rfl;have x8:=hcs 8 _ rfl;have x9:=hcs 9 _ rfl;have x10:=hcs 10 _ rfl;simp only[stA,Nat.add_zero]at x0 x1 x2 x3 x4 x5 x6 x7 x8 x9 x10;clear hat hin hcs hrest hs0 hs1 xY;go_upto_region 4 with fail;generalize hW2:World.alloc wr _=w2;obtain⟨nb,hnb,HB,-,HX,-⟩:=oO hW2;have S0:aj (WB 3 B nb (stA h e0 e1 sl) 62 wr u0 ys w2 u0):=ah ⟨sW LD.o HB.o,Cm HB.o,.inl rfl,HX.o,aP JW.o HB.o.size,λe=>by have:=(LD.o.lt _ e).2;omega⟩;rw[hnb];clear hW2 hnb x0 x1 x2 x3 x4 x5 x6 x7 x8 x9 x10 HX;have z1:=aQ (j:=1) S0.o.x rfl;have z9:=aQ (j:=9) S0.o.x rfl;have fV:=aQ (j:=10) S0.o.x rfl;simp only[stA,List.getElem_toArray,List.getElem_cons_zero,List.getElem_cons_succ]at z1 z9 fV;have lT:aj (Below w2.heap.size w2 (w2.alloc (.cells (FH h.line).toArray 3))):=ah (au _ _);have jS:=ah (iM (heap_alloc_new w2 (.cells (FH h.line).toArray 3)));have uh:=ah (sW S0.o.r lT.o);obtain⟨hi,hz0,hz1,hz2⟩:=iq.o;have hk1:ys.length+1<=maxLen:=by have:=Wj.o;simp only[gF]at this;unfold maxLen;omega
   have uE:(ys.length+1)*8<=140737488355328:=by have:=Wj.o;simp only[gF]at this;omega
   have hbs:B<=w2.heap.size+1:=Nat.le_succ_of_le S0.o.b;go_wp2_with (at_builtin;refine wpList_append_lies _ rfl _ _ 41 rfl B 3 i0 _ 1 8 Tryz.underlying41 hi hz0 hz1 hz2 rfl (by decide) _ _ _ rfl uh.o ⟨w2.heap.size,0,none⟩ 1 1 (FH h.line) rfl rfl jS.o (bu6 _) (by decide) hk1 uE (by simpa using hbs) _ rfl ?_);intro g' cap' w3 hown hgr hmv hlt3;clear hi hz0 hz1 hz2 hk1 uE hbs z1 z9 fV;have S1:aj (WB 3 B nb (stA h e0 e1 sl) 62 wr u0 (ys++[h.line]) w3 (.slice (some ⟨g',0,none⟩) (ys.length+1) cap')):=ah (S0.o.call (by rw[List.flatMap_append,List.flatMap_singleton,ay];exact hown) (jM (Cm lT.o) hgr) (by
    rcases hmv with e|e
    ·exact .inl (by rw[e];rfl)
    ·exact .inr ⟨g',rfl,by have:=lT.o.size;simp at e this;omega⟩))
   have tJ:=ah (Ey LD.o JW.o S1.o.g);clear hown hgr hmv hlt3 uh jS lT S0;have z9:=aQ (j:=9) S1.o.x rfl;have fV:=aQ (j:=10) S1.o.x rfl;simp only[stA,List.getElem_toArray,List.getElem_cons_zero,List.getElem_cons_succ]at z9 fV;go_wp2_with fail;refine(xO.o.1 w3 B _ (ys++[h.line]) sl.dH sl.cu S1.o.r S1.o.b Uu.o.1.2.2.2.2.2.2.1 (Uu.o.2.2.2.1.below tJ.o) (by have:=Wj.o;simp only[gF,ay,aA,aW]at *;omega)).mono ?_;rintro e' w4 ⟨v4,rfl,hr4,hg4,ho4⟩;have S2:=ah (S1.o.call hr4 hg4 ho4);have Z7:=ah (Ey LD.o JW.o S2.o.g);clear hr4 hg4 ho4 z9 fV;have fV:=aQ (j:=10) S2.o.x rfl;simp only[stA,List.getElem_toArray,List.getElem_cons_zero,List.getElem_cons_succ]at fV;go_wp2_with fail;refine(xO.o.2 w4 B _ (ys++[h.line]++uI e0) sl.iC sl.gy S2.o.r S2.o.b Uu.o.1.2.2.2.2.2.2.2 (Uu.o.2.2.2.2.below Z7.o) (by have:=Wj.o;have h5:=sG e0;simp only[gF,ay,aA,aW]at *;omega)).mono ?_;rintro e' w5 ⟨v5,rfl,hr5,hg5,ho5⟩;have S3:=ah (S2.o.call hr5 hg5 ho5);have bl8:=ah (Ey LD.o JW.o S3.o.g);clear hr5 hg5 ho5 fV;go_wp2_with fail;go_roundw
   case rel=>
    refine⟨k+1,R,ys++[h.line]++uI e0++uI e1,by go_num,by simp only[aY.len]at hlen;omega,?_,?_,lQ.o,mQ.o.below bl8.o,S3.o.b,S3.o.r,Qd HG.o HO.o S3.o.g,HO.o.trans S3.o.o HG.o.size⟩
    ·rw[HE.o,uI];simp
    ·have:=Wj.o;have h5:=sG e0;have h6:=sG e1;simp only[gF,ay,aA,aW]at *;omega
   case measure=>simp[intOf];omega
theorem XM (l:aY):Ec l:=JC l (aY.nW (λ_ b e hb he=>⟨JC b hb,JC e he⟩) l)
theorem Bt: ∀x:Ak,(oD x).length=5:=λ_=>rfl
theorem ZA (x:Ak): ∀u∈oD x,u.oneCell'=true:=by
 intro u hu;simp[oD]at hu;rcases hu with rfl|rfl|rfl|rfl|rfl <;> rfl
theorem Qy:(Tryz.prog.info? 104).map (λi=>(i.zero,i.size,i.bytes))=some (some (.agg #[.string ⟨#[]⟩,.int .i64 0,.int .i64 0,.bool false,.int .i64 0]),5,48):=by kernel_rfl
theorem zk (d:De): ∀(n k:Nat),(qQ d n k).length=n
 |0,_=>rfl
 |n+1,k=>by rw[qQ,aA,zk d n]
theorem Ni (d:De): ∀(n k:Nat),qQ d (n+1) k=qQ d n k++[⟨d.nm,((k+n:Nat):Int),d.size,false,d.init⟩]
 |0,k=>rfl
 |n+1,k=>by rw[qQ,Ni d n (k+1),qQ,show k+1+n=k+(n+1) by omega];rfl
def bj9 (d:De) (w:World) (e:Ending) (w':World):Prop:= ∃g cap,e= .returned (.slice (some ⟨g,0,none⟩) (lY d).length cap)∧(∀j u,((lY d).flatMap oD)[j]? =some u->w'.cell? ((⟨g,0,none⟩:Addr).add j)=some u)∧0<(lY d).length∧(lY d).length<=4∧Below w.heap.size w w'
def deV (d:De):Value:= .agg #[.int .i64 d.kind,.int .i64 d.line,.string d.nm,.int .i64 d.size,.int .i64 d.init,.string d.on]
theorem PN {w:World} {g j:Nat} {u:Value} (h:w.cell? ⟨g,j,none⟩=some u):w.cell? ((⟨g,0,none⟩:Addr).add j)=some u:=by
 rcases Nat.eq_zero_or_pos j with rfl|hj
 ·simpa[Addr.add]using h
 ·simpa[Addr.add,Nat.ne_of_gt hj]using h
theorem Nj (d:De) (w:World) (h0:0<=d.size) (h4:d.size<=4):Calls Tryz.prog 34 #[deV d] w (bj9 d w):=by
 unfold deV;by_cases hz:d.size=0
 ·have hcp:lY d=[⟨d.nm,0,0,d.kind==2,d.init⟩]:=by unfold lY;rw[hz];rfl
  have Ip:=ah hcp;clear hcp h0 h4;obtain⟨kd,ln,nm,sz,ini,on⟩:=d;obtain rfl:sz=0:=hz;go_enter Tryz.func34,Tryz.ntmps34;go_wp2
  all_goals (
   go_ret;refine⟨w.heap.size+1,1,by rw[Ip.o];rfl,λj u hu=> ?_,by rw[Ip.o];exact Nat.one_pos,by rw[Ip.o];simp,(au _ _).alloc (by simp) _⟩;rw[Ip.o]at hu;have hg:=heap_alloc_new (w.alloc (.cells #[.int .i64 kd,.int .i64 ln,.string nm,.int .i64 0,.int .i64 ini,.string on] 43)) (.cells (oD ⟨nm,0,0,kd==2,ini⟩).toArray 104);have e:(w.alloc (.cells #[.int .i64 kd,.int .i64 ln,.string nm,.int .i64 0,.int .i64 ini,.string on] 43)).heap.size=w.heap.size+1:=by simp
   rw[e]at hg;refine PN ?_;exact aQ hg (by simpa using hu))
 ·have hcp:lY d=qQ d d.size.toNat 0:=by unfold lY;rw[if_neg (by simpa using hz)]
  have Ip:=ah hcp;have hs1:0<d.size:=by omega
  have hzb:(d.size==0)=false:=by rw[beq_eq_false_iff_ne];exact hz
  clear hcp hz;obtain⟨i0,hi,hz0,hz1,hz2⟩:=infoP Qy;have iq:=ah (aI hi (aI hz0 (aI hz1 hz2)));clear hi hz0 hz1 hz2;go_enter Tryz.func34,Tryz.ntmps34;go_upto_region 1 with fail;generalize hW:World.alloc w _=w1;obtain⟨nb,hnb,HB,-,HX,-⟩:=oO hW;have jE:aj (nb<w1.heap.size):=ah (aO HX.o);rw[hnb];clear hW hnb;have z0:=aQ (j:=0) HX.o rfl;have z2:=aQ (j:=2) HX.o rfl;have z3:=aQ (j:=3) HX.o rfl;have z4:=aQ (j:=4) HX.o rfl;go_wp2_with fail;go_loopw [3,4,19] (λv3 _ i wr=> ∃k:Nat,i= .int .i64 k∧(k:Int)<=d.size∧wr.ownsRow w1.heap.size 104 5 v3 (qQ d k 0).length ((qQ d k 0).flatMap oD)∧Below w1.heap.size w1 wr) (λ_ _ i _=>d.size.toNat -(intOf i).toNat)
  case atStart=>exact⟨0,rfl,by omega,World.ownsRow_nil _ _ _ _,ak _ _⟩
  case round=>
   obtain⟨k,rfl,hk,hrow,hbel⟩:=hrel;have HRW:=ah hrow;have nO:=ah hbel;clear hrow hbel z0 z2 z3 z4;have vw:=ah ((nO.o.block nb jE.o).trans HX.o);have z0:=aQ (j:=0) vw.o rfl;have z2:=aQ (j:=2) vw.o rfl;have z3:=aQ (j:=3) vw.o rfl;have z4:=aQ (j:=4) vw.o rfl;by_cases hlt:(k:Int)<d.size
   ·have lT:aj (Below wr.heap.size wr (wr.alloc (.cells (oD ⟨d.nm,k,d.size,false,d.init⟩).toArray 104))):=ah (au _ _);have jS:=ah (iM (heap_alloc_new wr (.cells (oD ⟨d.nm,k,d.size,false,d.init⟩).toArray 104)));have uh:=ah (sW HRW.o lT.o);have OI:=ah (zk d k 0);obtain⟨hi,hz0,hz1,hz2⟩:=iq.o;have hk1:(qQ d k 0).length+1<=maxLen:=(by rw[OI.o];unfold maxLen;omega);have uE:((qQ d k 0).length+1)*48<=140737488355328:=(by rw[OI.o];omega);have hbs:w1.heap.size<=wr.heap.size+1:=Nat.le_succ_of_le nO.o.size;go_wp2_with (at_builtin;refine wpList_append_lies _ rfl _ _ 28 rfl w1.heap.size 104 i0 _ 5 48 Tryz.underlying28 hi hz0 hz1 hz2 rfl (by decide) _ _ _ rfl uh.o ⟨wr.heap.size,0,none⟩ 1 1 (oD ⟨d.nm,k,d.size,false,d.init⟩) rfl rfl jS.o (ZA _) (by decide) hk1 uE (by simpa using hbs) _ rfl ?_);intro g' cap' w3 hown hgr hmv hlt3;have HR3:aj (w3.ownsRow w1.heap.size 104 5 (.slice (some ⟨g',0,none⟩) ((qQ d k 0).length+1) cap') (qQ d (k+1) 0).length ((qQ d (k+1) 0).flatMap oD)):=ah (by rw[Ni,List.flatMap_append,List.flatMap_singleton,ay,aU];exact hown);have HB3:aj (Below w1.heap.size w1 w3):=ah (nO.o.trans (Ey HRW.o nO.o.size (jM (Cm lT.o) hgr)));clear hi hz0 hz1 hz2 hk1 uE hbs hown hgr hmv hlt3 uh jS lT z0 z2 z3 z4;go_wp2_with fail;go_roundw
    case rel=>exact⟨k+1,by go_num,by omega,HR3.o,HB3.o⟩
    case measure=>simp[intOf];omega
   ·have hke:d.size.toNat=k:=(by omega);have HE:aj (lY d=qQ d k 0):=ah (by rw[Ip.o,hke]);have HK:aj (0<k∧k<=4):=ah (by omega);go_wp2_with fail;go_ret;rcases HRW.o.2 with⟨-,hn⟩|⟨g,cap,cur,hv,hb,hg,h1,h2,h3,h5⟩
    ·rw[zk]at hn;have:=HK.o.1;omega
    ·refine⟨g,cap,(show Ending.returned u3=_ by rw[HE.o,hv]),λj u hu=>PN ?_,by rw[HE.o,zk];exact HK.o.1,by rw[HE.o,zk];exact HK.o.2,HB.o.trans (nO.o.mono HB.o.size)⟩;rw[HE.o,<- h5]at hu;have nY:=(List.getElem?_eq_some_iff.1 hu).1;rw[List.getElem?_take_of_lt (by rw[List.length_take]at nY;omega)]at hu;exact aQ hg (by rw[<- hu];simp)
structure Rw where
 T:TypeId
 m:Nat
 v:Value
 n:Nat
 xs:List Value
def Rw.Ok (w:World) (B:Nat) (r:Rw):Prop:=w.ownsRow B r.T r.m r.v r.n r.xs
def Apart (a b:Rw):Prop:= ∀k,a.v.ownBlock=some k->b.v.ownBlock≠some k
theorem Apart.symm {a b:Rw} (h:Apart a b):Apart b a:=λk hb ha=>h k ha hb
structure Rows (w:World) (B:Nat) (l:List Rw):Prop where
 own: ∀r∈l,r.Ok w B
 ap:l.Pairwise Apart
section
variable {w w':World} {B:Nat} {l pre post:List Rw} {r r':Rw}
theorem Rows.below (h:Rows w B l) (hb:Below w.heap.size w w'):Rows w' B l:=⟨λr hr=>sW (h.own r hr) hb,h.ap⟩
theorem Rows.keep (h:Rows w B l) {k:Nat} (hg:w.grownBy w' (some k)) (hk:k<B):Rows w' B l:=⟨λr hr=>(h.own r hr).kept hg (by
 cases hv:r.v.ownBlock with
 |none=>exact .inl rfl
 |some j=>refine .inr (λe=> ?_);have:=((h.own r hr).lt j hv).1;injection e with e;omega),h.ap⟩
theorem Rows.put (h:Rows w B (pre++r::post)) (hg:w.grownBy w' r.v.ownBlock) (hr:r'.Ok w' B) (ho:oW w r.v r'.v):Rows w' B (pre++r'::post):=by
 have hap:=h.ap;rw[List.pairwise_append,List.pairwise_cons]at hap;obtain⟨h1,⟨h2,h3⟩,h4⟩:=hap;have keep: ∀q∈pre++r::post,Apart q r->q.Ok w' B:=λq hq ha=>(h.own q hq).kept hg (by
  cases hv:q.v.ownBlock with
  |none=>exact .inl rfl
  |some j=>exact .inr (λe=>ha j hv e.symm))
 have far: ∀q∈pre++r::post,Apart q r->Apart q r':=λq hq ha k hk e=>by
  rcases ho with e'|⟨g,e',hge⟩
  ·rw[e']at e;exact ha k hk e
  ·rw[e']at e;injection e with e;subst e;have:=((h.own q hq).lt _ hk).2;omega
 have ap1: ∀q∈pre,Apart q r:=λq hq=>h4 q hq r aV;have ap2: ∀q∈post,Apart q r:=λq hq=>(h2 q hq).symm;have m1: ∀q∈pre,q∈pre++r::post:=λq hq=>List.mem_append_left _ hq;have m2: ∀q∈post,q∈pre++r::post:=λq hq=>List.mem_append_right _ (aX _ hq);refine⟨λq hq=> ?_,?_⟩
 ·rcases List.mem_append.1 hq with hq|hq
  ·exact keep q (m1 q hq) (ap1 q hq)
  ·rcases List.mem_cons.1 hq with rfl|hq
   ·exact hr
   ·exact keep q (m2 q hq) (ap2 q hq)
 ·rw[List.pairwise_append,List.pairwise_cons];refine⟨h1,⟨λq hq=>(far q (m2 q hq) (ap2 q hq)).symm,h3⟩,λq hq x hx=> ?_⟩;rcases List.mem_cons.1 hx with rfl|hx
  ·exact far q (m1 q hq) (ap1 q hq)
  ·exact h4 q hq x (aX _ hx)
end
namespace Md
structure Vs where
 v0:Value
 v1:Value
 v2:Value
 v3:Value
 v4:Value
 v5:Value
end Md
def nJ (s:Vs) (W:Wo):List Rw:=[⟨104,5,s.v0,W.cs.length,W.cs.flatMap oD⟩,⟨95,2,s.v1,W.ls.length,W.ls.flatMap rX⟩,⟨97,2,s.v2,W.ns.length,W.ns.flatMap yU⟩,
 ⟨9,1,s.v3,W.fs.length,W.fs.flatMap nQ⟩,⟨9,1,s.v4,W.ts.length,W.ts.flatMap nQ⟩,⟨100,3,s.v5,W.ss.length,W.ss.flatMap yX⟩]
structure qH (w:World) (B bw:Nat) (s:Vs) (W:Wo):Prop where
 blk:w.heap[bw]? =some (.cells #[s.v0,s.v1,s.v2,s.v3,s.v4,s.v5] 34 (0,0))
 row:Rows w B (nJ s W)
 lt:bw<B
 sz:B<=w.heap.size
theorem Bw: ∀x:zN,(rX x).length=2:=λ_=>rfl
theorem LZ: ∀x:DU,(yU x).length=2:=λ_=>rfl
theorem BA: ∀x:ByteArray,(nQ x).length=1:=λ_=>rfl
theorem Mq: ∀x:Ef,(yX x).length=3:=λ_=>rfl
section
variable {w w' w4:World} {B bw:Nat} {s:Vs} {W:Wo}
theorem qH.below (h:qH w B bw s W) (hb:Below w.heap.size w w'):qH w' B bw s W:=
 ⟨(hb.block _ (aO h.blk)).trans h.blk,h.row.below hb,h.lt,aP h.sz hb.size⟩
theorem qH.keep (h:qH w B bw s W) {k:Nat} (hg:w.grownBy w' (some k)) (hk:k<B) (hne:k≠bw):qH w' B bw s W:=
 ⟨(hg.block _ (aO h.blk) (by simp;exact λe=>hne e.symm)).trans h.blk,h.row.keep hg hk,h.lt,aP h.sz hg.size⟩
theorem qH.cells (h:qH w B bw s W):bw<w.heap.size∧w.cell? ⟨bw,0,none⟩=some s.v0∧w.cell? ⟨bw,1,none⟩=some s.v1∧w.cell? ⟨bw,2,none⟩=some s.v2∧w.cell? ⟨bw,3,none⟩=some s.v3∧w.cell? ⟨bw,4,none⟩=some s.v4∧w.cell? ⟨bw,5,none⟩=some s.v5∧∀j,w.frozen? ⟨bw,j,none⟩=false:=
 ⟨(aO h.blk),aQ h.blk rfl,aQ h.blk rfl,aQ h.blk rfl,aQ h.blk rfl,aQ h.blk rfl,aQ h.blk rfl,λ_=>bH h.blk⟩
theorem qH.grow {pre post:List Rw} {r r':Rw} {s':Vs} {W':Wo} {j:Nat} (h:qH w B bw s W) (hg:w.grownBy w4 r.v.ownBlock) (e1:nJ s W=pre++r::post) (e2:nJ s' W'=pre++r'::post) (hr:r'.Ok w4 B) (ho:oW w r.v r'.v)
 (hc:(#[s.v0,s.v1,s.v2,s.v3,s.v4,s.v5]:Array Value).setIfInBounds j r'.v= #[s'.v0,s'.v1,s'.v2,s'.v3,s'.v4,s'.v5]):qH (w4.setCell ⟨bw,j,none⟩ r'.v) B bw s' W':=by
 have hrow:=h.row;rw[e1]at hrow;have h4:=hrow.put hg hr ho;rw[<- e2]at h4;have hlt:=h.lt;have hne:r.v.ownBlock≠some bw:=λe=>by have:=((hrow.own r (by simp)).lt _ e).1;omega
 have hb:w4.heap[bw]? =some (.cells #[s.v0,s.v1,s.v2,s.v3,s.v4,s.v5] 34 (0,0)):=(hg.block _ (aO h.blk) (λe=>hne e.symm)).trans h.blk;have hgs:=bY w4 ⟨bw,j,none⟩ r'.v;exact⟨rP hb _ hc,h4.keep hgs hlt,hlt,aP h.sz (aP hg.size hgs.size)⟩
theorem qH.own (h:qH w B bw s W) {r:Rw} (hr:r∈nJ s W):r.Ok w B:=h.row.own r hr
end
theorem Nq: ∀(ds pre:List De) (c l n f:Int),(mg ds pre c l n f).1=0->∀d∈ds,d.size<=4
 | [],_,_,_,_,_,_=>λd hd=>by cases hd
 |d::r,pre,c,l,n,f,h0=>by
  rw[mg]at h0;split at h0
  ·exact absurd (show(4:Int)=0 from h0) (by decide)
  split at h0
  ·exact absurd (show(2:Int)=0 from h0) (by decide)
  rename_i h2;split at h0
  ·exact absurd (show(2:Int)=0 from h0) (by decide)
  split at h0
  ·exact absurd (show(5:Int)=0 from h0) (by decide)
  split at h0
  ·exact absurd (show(6:Int)=0 from h0) (by decide)
  intro x hx;rcases List.mem_cons.1 hx with rfl|hx
  ·simpa using h2
  ·exact Nq r _ _ _ _ _ h0 x hx
namespace Md
def uS (i:Int):Nat->List Int->List Ef
 |_,[]=>[]
 |n,x::r=>⟨i,n,x⟩::uS i (n+1) r
theorem JH (i:Int): ∀(l r:List Int) (n:Nat),uS i n (l++r)=uS i n l++uS i (n+l.length) r
 | [],r,n=>by simp[uS]
 |x::l,r,n=>by rw[List.cons_append,uS,JH i l r (n+1),uS,aA,show n+1+l.length=n+(l.length+1) by omega];rfl
theorem QX (i:Int): ∀(l:List Int) (n:Nat),(uS i n l).length=l.length
 | [],_=>rfl
 |x::l,n=>by rw[uS,aA,QX i l,aA]
theorem Ik (i:Int): ∀(l:aY) (n:Nat),NS i l n=uS i n (uI l)
 | .nil,_=>rfl
 | .cons h b e r,n=>by have hb:=sG b;have he:=sG e;rw[NS,uI,uS,Ik i b,Ik i e,Ik i r,JH,JH,ay,hb,he,show n+1+(gF b+gF e)=n+1+gF b+gF e by omega]
theorem T9 {w:World} {B:Nat} : ∀ {l:List De} {ao:Option Addr} {k:Nat},jo w B l ao k->∀d∈l,d.Ok
 | [],_,_,_=>λd hd=>by cases hd
 |x::r,_,_,⟨⟨_,_,_,_,_,_,_,_,_,_,h⟩,hr⟩=>λd hd=>by
  rcases List.mem_cons.1 hd with rfl|hd
  ·exact h
  ·exact T9 hr d hd
theorem Mr {w:World} {B:Nat} : ∀ {l:List Th} {ao:Option Addr} {k:Nat},iJ w B l ao k->∀t∈l,t.Ok
 | [],_,_,_=>λd hd=>by cases hd
 |x::r,_,_,⟨⟨_,_,_,_,_,_,_,_,_,_,_,_,h,_⟩,hr⟩=>λd hd=>by
  rcases List.mem_cons.1 hd with rfl|hd
  ·exact h
  ·exact Mr hr d hd
theorem SK (d:De) (hd:bW d.size): ∀(n k:Nat),∀c∈qQ d n k,bW c.sz
 |0,_=>λc hc=>by cases hc
 |n+1,k=>λc hc=>by
  rw[qQ]at hc;rcases List.mem_cons.1 hc with rfl|hc
  ·exact hd
  ·exact SK d hd n _ c hc
theorem YN: ∀(l:List De) (W:Wo) (g:List UInt8->Int),(∀d∈l,d.Ok)->(∀c∈W.cs,bW c.sz)->(∀x∈W.fs,x.size<=maxLen)->(∀c∈(J9 l W g).cs,bW c.sz)∧(∀x∈(J9 l W g).fs,x.size<=maxLen)
 | [],W,g,_,h1,h2=>⟨h1,h2⟩
 |d::r,W,g,hd,h1,h2=>by
  obtain⟨-,-,hn,hs,-,-⟩:=hd d aV;rw[J9];refine YN r _ _ (λx hx=>hd x (aX _ hx)) ?_ ?_
  ·unfold lG
   repeat' split
   ·intro c hc;rcases List.mem_append.1 hc with hc|hc
    ·exact h1 c hc
    ·unfold lY at hc;split at hc
     ·rw[List.mem_singleton.1 hc];show bW 0;unfold bW;decide
     ·exact SK d hs _ _ c hc
   all_goals exact h1
  ·unfold lG
   repeat' split
   all_goals first|exact h2|skip
   intro x hx;rcases List.mem_append.1 hx with hx|hx
   ·exact h2 x hx
   ·rw[List.mem_singleton.1 hx];exact hn
theorem Um: ∀(l:List Th) (W:Wo) (i:Nat),(yJ W i l).ts=W.ts++l.map (·.nm)
 | [],W,i=>by simp[yJ]
 |t::r,W,i=>by rw[yJ,Um r];simp
theorem M7 {w:World} {B:Nat} : ∀ {l:List ByteArray} {ao:Option Addr} {k:Nat},eD nQ 1 w B l ao k->(∀x∈l,x.size<=maxLen)->fJ w B l ao k
 | [],_,_,_,_=>trivial
 |s::r,ao,k,⟨⟨b,off,e,hB,c⟩,hr⟩,h=>⟨⟨b,off,e,hB,by have:=c 0 _ rfl;simpa using this,h s aV⟩,M7 hr (λx hx=>h x (aX _ hx))⟩
end Md
theorem zl {α:Type} {f:α->List Value} {m:Nat} {w:World} {base:Nat} {T:TypeId} {ao:Option Addr} {cap:Nat} {xs:List α} (hf: ∀x,(f x).length=m) (h:w.ownsRow base T m (.slice ao xs.length cap) xs.length (xs.flatMap f)):eD f m w w.heap.size xs ao 0:=by
 obtain⟨mF,cap',e,-,-,h2⟩:=jC hf h;injection e with e1 e2 e3;subst e1;exact h2
def UL (lo:Nat) (s:lV):Prop:=(∀b,s.aC=some b->lo<=b.block)∧(∀b,s.aL=some b->lo<=b.block)∧(∀b,s.aN=some b->lo<=b.block)∧(∀b,s.aF=some b->lo<=b.block)∧(∀b,s.aT=some b->lo<=b.block)∧(∀b,s.aS=some b->lo<=b.block)
theorem Bz {w:World} {B lo m n cap:Nat} {T:TypeId} {ao:Option Addr} {xs:List Value} {v:Value} (h:w.ownsRow B T m v n xs) (hv:v= .slice ao n cap) (hB:lo<=B): ∀b,ao=some b->lo<=b.block:=λb e=>by
 have:=(h.lt b.block (by rw[hv,e];rfl)).1;omega
theorem eD.keep {α:Type} {f:α->List Value} {m:Nat} {w w':World} {B:Nat} {l:List α} {ao:Option Addr} {k:Nat} (h:eD f m w B l ao k) (hk: ∀b,ao=some b->w'.heap[b.block]? =w.heap[b.block]?):eD f m w' B l ao k:=eD.mk (λi x hx=>by
 obtain⟨b,off,e,hB,hc⟩:=eD.at i x h hx;exact⟨b,off,e,hB,λj u hu=>(World.cell?_of_block (a:=⟨b,off+(k+i)*m+j,none⟩) (show w'.heap[b]? =w.heap[b]? from hk ⟨b,off,none⟩ e)).trans (hc j u hu)⟩)
theorem fJ.keep {w w':World} {B:Nat} : ∀ {l:List ByteArray} {ao:Option Addr} {k:Nat},fJ w B l ao k->(∀b,ao=some b->w'.heap[b.block]? =w.heap[b.block]?)->fJ w' B l ao k
 | [],_,_,_,_=>trivial
 |_::_,_,k,⟨⟨b,off,e,hB,c,hs⟩,hr⟩,hk=>⟨⟨b,off,e,hB,(World.cell?_of_block (a:=⟨b,off+k,none⟩) (show w'.heap[b]? =w.heap[b]? from hk ⟨b,off,none⟩ e)).trans c,hs⟩,fJ.keep hr hk⟩
theorem iO.keep {w w':World} {B lo:Nat} {W:Wo} {s:lV} (h:iO w B W s) (hn:UL lo s) (hk: ∀k,lo<=k->w'.heap[k]? =w.heap[k]?):iO w' B W s:=
 ⟨eD.keep h.cs (λb e=>hk _ (hn.1 b e)),eD.keep h.ls (λb e=>hk _ (hn.2.1 b e)),eD.keep h.ns (λb e=>hk _ (hn.2.2.1 b e)),fJ.keep h.fs (λb e=>hk _ (hn.2.2.2.1 b e)),fJ.keep h.ts (λb e=>hk _ (hn.2.2.2.2.1 b e)),eD.keep h.ss (λb e=>hk _ (hn.2.2.2.2.2 b e)),h.lc,h.ll,h.ln,h.lf,h.lt,h.lS,h.ok⟩
theorem VE {w w4:World} {BL bw m n j:Nat} {T:TypeId} {v v' vL u:Value} {xs:List Value} (hL:w.ownsRow BL T m vL n xs) (hbw:bw<BL) (hap: ∀q,vL.ownBlock=some q->v.ownBlock≠some q) (hg:w.grownBy w4 v.ownBlock) (ho:oW w v v'):
 (w4.setCell ⟨bw,j,none⟩ u).ownsRow BL T m vL n xs∧∀q,vL.ownBlock=some q->v'.ownBlock≠some q:=by
 have h4:w4.ownsRow BL T m vL n xs:=hL.kept hg (by
  cases hv:vL.ownBlock with
  |none=>exact .inl rfl
  |some q=>exact .inr (λe=>hap q hv e.symm))
 refine⟨h4.kept (bY w4 ⟨bw,j,none⟩ u) ?_,λq hq e=> ?_⟩
 ·cases hv:vL.ownBlock with
  |none=>exact .inl rfl
  |some q=>refine .inr (λe=> ?_);have:=(h4.lt q hv).1;injection e with e;simp only at e;omega
 ·rcases ho with e'|⟨g,e',hg'⟩
  ·rw[e']at e;exact hap q hq e
  ·rw[e']at e;injection e with e;subst e;have:=(hL.lt _ hq).2;omega
end Go.Proofs.YtmildapbbcbbhaaGreatDoor
