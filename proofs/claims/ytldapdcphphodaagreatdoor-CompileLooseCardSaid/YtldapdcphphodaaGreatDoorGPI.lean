/- Objects and code of a program as data, and what is compiled. No program text in sight. And what hangs on it. -/
import Derived.Test.YtldapdcphphodaaGreatDoorGMJ
set_option linter.unusedSimpArgs false
set_option linter.unusedVariables false
set_option maxHeartbeats 40000000
set_option maxRecDepth 1000000
namespace Go.Proofs.YtldapdcphphodaaGreatDoor
open Go.RowKit
namespace Md
structure tT where
 nm:ByteArray
 ix:Int
 sz:Int
 vol:Bool
 init:Int
structure uD where
 nm:ByteArray
 rw:Bool
structure Co where
 nm:ByteArray
 mx:Int
structure yX where
 th:Int
 st:Int
 ln:Int
structure Wo where
 cs:List tT
 ls:List uD
 ns:List Co
 fs:List ByteArray
 ts:List ByteArray
 ss:List yX
structure dF where
 op:Int
 a:Int
 b:Int
 c:Int
 n:Int
 st:Int
structure yY where
 regs:Int
 is:List dF
def jW (x:tT):List Value:=[.string x.nm,.int .i64 x.ix,.int .i64 x.sz,.bool x.vol,.int .i64 x.init]
def lF (x:uD):List Value:=[.string x.nm,.bool x.rw]
def tF (x:Co):List Value:=[.string x.nm,.int .i64 x.mx]
def jX (x:ByteArray):List Value:=[.string x]
def qM (x:yX):List Value:=[.int .i64 x.th,.int .i64 x.st,.int .i64 x.ln]
def lq (x:dF):List Value:=[.int .i64 x.op,.int .i64 x.a,.int .i64 x.b,.int .i64 x.c,.int .i64 x.n,.int .i64 x.st]
def eu {α:Type} (f:α->List Value) (m:Nat) (w:World) (B:Nat):List α->Option Addr->Nat->Prop
 | [],_,_=>True
 |x::r,ao,k=>(∃b off,ao=some ⟨b,off,none⟩∧b<B∧∀(j:Nat) (u:Value),(f x)[j]? =some u->w.cell? ⟨b,off+k*m+j,none⟩=some u)∧eu f m w B r ao (k+1)
def sD:List ByteArray->ByteArray->Int->Int
 | [],_,_=> -1
 |s::r,nm,k=>if s.toList==nm.toList then k else sD r nm (k+1)
def fK (l:List ByteArray) (nm:ByteArray):Int:=sD l nm 0
def rH (d:De):Nat->Nat->List tT
 |0,_=>[]
 |n+1,k=>⟨d.nm,k,d.size,d.kind==2,d.init⟩::rH d n (k+1)
def Gn (d:De):List tT:=rH d (max d.size 1).toNat 0
def lH (W:Wo) (d:De):Wo:=
 if d.kind==1||d.kind==2 then {W with cs:=W.cs++Gn d} else if d.kind==3||d.kind==4 then {W with ls:=W.ls++[⟨d.nm,d.kind==4⟩]} else
 if d.kind==5 then {W with ns:=W.ns++[⟨d.nm,fK (W.ls.map (·.nm)) d.on⟩]} else {W with fs:=W.fs++[d.nm]}
def dh:aY->Nat
 | .nil=>0
 | .cons _ b e r=>1+dh b+dh e+dh r
def uj (i:Int):aY->Nat->List yX
 | .nil,_=>[]
 | .cons h b e r,n=>⟨i,n,h.line⟩::(uj i b (n+1)++uj i e (n+1+dh b)++uj i r (n+1+dh b+dh e))
def AO (W:Wo) (i:Nat):List Th->Wo
 | []=>W
 |t::r=>AO {W with ts:=W.ts++[t.nm],ss:=W.ss++uj i t.body 0} (i+1) r
def pF:Wo:=⟨[],[],[],[],[],[]⟩
def jg (p:Pr):Wo:=AO (p.ds.foldl lH pF) 0 p.ts
def Wo.cell (W:Wo) (nm:ByteArray):Int:=fK (W.cs.map (·.nm)) nm
def Wo.lock (W:Wo) (nm:ByteArray):Int:=fK (W.ls.map (·.nm)) nm
def Wo.cond (W:Wo) (nm:ByteArray):Int:=fK (W.ns.map (·.nm)) nm
def Wo.size (W:Wo) (nm:ByteArray):Int:=((W.cs[(W.cell nm).toNat]?).map (·.sz)).getD 0
def LD (W:Wo) (op:Int) (nm:ByteArray) (d st:Int):dF:=
 if op==3 then⟨7,d,W.cell nm,d,W.size nm,st⟩else if op==4||op==5 then⟨3,d,d,0,op,st⟩else⟨4,d,d,d+1,op,st⟩
def Bb (W:Wo) (lc:List ByteArray) (op n:Int) (nm:ByteArray) (d st:Int):dF:=
 if op==1 then⟨1,d,0,0,n,st⟩else if decide (0<=fK lc nm)then⟨2,d,fK lc nm,0,0,st⟩else⟨6,d,W.cell nm,0,0,st⟩
def FH (W:Wo) (lc:List ByteArray) (st:Int):bY->Int->List dF
 | .nil,_=>[]
 | .cons op n nm kids rest,d=>(if op==1||op==2 then [Bb W lc op n nm d st]else FH W lc st kids d++[LD W op nm d st])++FH W lc st rest (d+1)
def jU (W:Wo) (lc:List ByteArray) (st:Int) (op n:Int) (nm:ByteArray) (kids:bY) (d:Int):List dF:=
 if op==1||op==2 then [Bb W lc op n nm d st]else FH W lc st kids d++[LD W op nm d st]
def gH (W:Wo) (lc:List ByteArray) (st:Int) (h:dM) (d:Int):List dF:=jU W lc st h.dQ h.xn h.dP h.bG d
def CK (W:Wo) (lc:List ByteArray) (st:Int) (h:dM):List dF:=
 match h.idx with
 | .nil=>gH W lc st h lc.length++[if decide (0<=fK lc h.nm)then⟨2,fK lc h.nm,lc.length,0,0,st⟩else⟨8,W.cell h.nm,lc.length,0,0,st⟩]
 | .cons op n nm kids _=>jU W lc st op n nm kids lc.length++gH W lc st h (lc.length+1)++[⟨9,W.cell h.nm,lc.length+1,lc.length,W.size h.nm,st⟩]
def CJ (W:Wo) (h:dM):Int:=if h.op==7||h.op==8 then 0 else W.lock h.nm
def xg (op:Int):Int:=if op==4 then 11 else if op==5 then 13 else if op==6 then 15 else if op==7 then 17 else 19
def qx (W:Wo) (lc:List ByteArray) (st:Int) (h:dM):List dF:=
 if h.op==1 then CK W lc st h else if h.op==9 then [⟨21,W.cond h.nm,0,0,0,st⟩]else if h.op==10 then [⟨22,W.cond h.nm,0,0,0,st⟩]else if h.op==11 then [⟨23,W.cond h.nm,0,0,0,st⟩]else
 if h.op==12 then [⟨24,fK W.ts h.nm,0,0,0,st⟩]else if h.op==13 then [⟨25,fK W.ts h.nm,0,0,0,st⟩]else
 if h.op==14 then gH W lc st h lc.length++[⟨26,fK W.fs h.nm,lc.length,0,0,st⟩]else if h.op==15 then [⟨27,fK lc h.nm,fK W.fs h.arg,0,0,st⟩]else []
def Eu (W:Wo) (lc:List ByteArray) (st:Int) (h:dM) (X B E:List dF) (ne:Bool) (pos:Nat):List dF:=
 if h.op==2 then
  (if ne then X++[⟨10,lc.length,((pos+X.length+1+B.length:Nat):Int),0,0,st⟩]++B
   else X++[⟨10,lc.length,((pos+X.length+1+B.length+1:Nat):Int),0,0,st⟩]++B++[⟨5,((pos+X.length+1+B.length+1+E.length:Nat):Int),0,0,0,st⟩]++E)
 else if h.op==3 then X++[⟨10,lc.length,((pos+X.length+1+B.length+1:Nat):Int),0,0,st⟩]++B++[⟨5,(pos:Int),0,0,0,st⟩]
 else if decide (4<=h.op)&&decide (h.op<=8)then [⟨xg h.op,CJ W h,0,0,0,st⟩]++B++[⟨xg h.op+1,CJ W h,0,0,0,st⟩]
 else qx W lc st h
def aY.none:aY->Bool
 | .nil=>true
 |_=>false
def qF (h:dM) (X:List dF):Nat:=if h.op==2||h.op==3 then X.length+1 else 1
def jf (W:Wo) (lc:List ByteArray):aY->Nat->Nat->List dF
 | .nil,_,_=>[]
 | .cons h b e r,nx,pos=>
   Eu W lc nx h (gH W lc nx h lc.length) (jf W lc b (nx+1) (pos+qF h (gH W lc nx h lc.length)))
      (jf W lc e (nx+1+dh b) (pos+qF h (gH W lc nx h lc.length)+(jf W lc b (nx+1) (pos+qF h (gH W lc nx h lc.length))).length+1)) e.none pos++
    jf W lc r (nx+1+dh b+dh e) (pos+
     (Eu W lc nx h (gH W lc nx h lc.length) (jf W lc b (nx+1) (pos+qF h (gH W lc nx h lc.length)))
     (jf W lc e (nx+1+dh b) (pos+qF h (gH W lc nx h lc.length)+(jf W lc b (nx+1) (pos+qF h (gH W lc nx h lc.length))).length+1)) e.none pos).length)
def iF (i:dF):List Int:=
 if i.op==1||i.op==6||i.op==10||i.op==27 then [i.a]else if i.op==2||i.op==3 then [i.a,i.b]else if i.op==4 then [i.a,i.b,i.c]else if i.op==7 then [i.a,i.c]else
 if i.op==8||i.op==26 then [i.b]else if i.op==9 then [i.b,i.c]else []
def TY:List Int->Int->Int
 | [],n=>n
 |r::l,n=>TY l (max n (r+1))
def vH:List dF->Int->Int
 | [],n=>n
 |i::l,n=>vH l (TY (iF i) n)
def coT (W:Wo) (t:Th) (nx:Nat):yY:=
 ⟨vH (jf W t.cu t.body nx 0++[⟨28,0,0,0,0,-1⟩]) t.cu.length,jf W t.cu t.body nx 0++[⟨28,0,0,0,0,-1⟩]⟩
def tH (W:Wo):List Th->Nat->List yY
 | [],_=>[]
 |t::r,nx=>coT W t nx::tH W r (nx+dh t.body)
end Md
namespace Md
def dR:bY->Nat
 | .nil=>0
 | .cons _ _ _ kids rest=>1+dR kids+dR rest
def fu (h:dM):Nat:=3+dR h.bG+dR h.idx
def jR:aY->Nat
 | .nil=>0
 | .cons h b e r=>fu h+jR b+jR e+jR r
theorem rJ: ∀l:aY,dh l<=jR l
 | .nil=>aH _
 | .cons h b e r=>by have h1:=rJ b;have h2:=rJ e;have h3:=rJ r;rw[dh,jR];unfold fu;omega
theorem ML (W:Wo) (lc:List ByteArray) (st:Int): ∀(l:bY) (d:Int),(FH W lc st l d).length<=dR l
 | .nil,_=>aH _
 | .cons op n nm kids rest,d=>by
   have h1:=ML W lc st kids d;have h2:=ML W lc st rest (d+1);rw[FH,dR,au];split
   ·simp only[List.length_singleton];omega
   ·simp only[au,List.length_singleton];omega
theorem iX (W:Wo) (lc:List ByteArray) (st op n:Int) (nm:ByteArray) (kids:bY) (d:Int):(jU W lc st op n nm kids d).length<=1+dR kids:=by
 unfold jU;have h1:=ML W lc st kids d;split
 ·simp only[List.length_singleton];omega
 ·simp only[au,List.length_singleton];omega
theorem aq2 (W:Wo) (lc:List ByteArray) (st:Int) (h:dM):(CK W lc st h).length<=fu h:=by
 unfold CK fu;split
 ·have:=iX W lc st h.dQ h.xn h.dP h.bG lc.length;simp only[gH,au,List.length_singleton];omega
 ·rename_i op n nm kids r hi;have h1:=iX W lc st h.dQ h.xn h.dP h.bG (lc.length+1);have h2:=iX W lc st op n nm kids lc.length;simp only[gH,au,List.length_singleton];rw[hi,dR];omega
theorem ae9 (W:Wo) (lc:List ByteArray) (st:Int) (h:dM):(qx W lc st h).length<=fu h:=by
 have hv:=iX W lc st h.dQ h.xn h.dP h.bG lc.length;have h1:3<=fu h:=agN
 have h2:1+dR h.bG+1<=fu h:=agN
 unfold qx;split
 ·exact aq2 W lc st h
 all_goals (repeat' split)
 all_goals simp only[gH,au,List.length_singleton,aI]
 all_goals omega
theorem Rf (W:Wo) (lc:List ByteArray) (st:Int) (h:dM) (B E:List dF) (ne:Bool) (pos:Nat):(Eu W lc st h (gH W lc st h lc.length) B E ne pos).length<=fu h+B.length+E.length:=by
 have hv:=iX W lc st h.dQ h.xn h.dP h.bG lc.length;have ho:=ae9 W lc st h;have h2:1+dR h.bG+2<=fu h:=agN
 unfold Eu
 repeat' split
 all_goals try simp only[gH,au,List.length_singleton,aI]
 all_goals omega
theorem nU (W:Wo) (lc:List ByteArray): ∀(l:aY) (nx pos:Nat),(jf W lc l nx pos).length<=jR l
 | .nil,_,_=>aH _
 | .cons h b e r,nx,pos=>by rw[jf,jR,au];have hs:=Rf W lc nx h (jf W lc b (nx+1) (pos+qF h (gH W lc nx h lc.length))) (jf W lc e (nx+1+dh b) (pos+qF h (gH W lc nx h lc.length)+(jf W lc b (nx+1) (pos+qF h (gH W lc nx h lc.length))).length+1)) e.none pos;have hb:=nU W lc b (nx+1) (pos+qF h (gH W lc nx h lc.length));have he:=nU W lc e (nx+1+dh b) (pos+qF h (gH W lc nx h lc.length)+(jf W lc b (nx+1) (pos+qF h (gH W lc nx h lc.length))).length+1);have hr:=nU W lc r (nx+1+dh b+dh e) (pos+(Eu W lc nx h (gH W lc nx h lc.length) (jf W lc b (nx+1) (pos+qF h (gH W lc nx h lc.length))) (jf W lc e (nx+1+dh b) (pos+qF h (gH W lc nx h lc.length)+(jf W lc b (nx+1) (pos+qF h (gH W lc nx h lc.length))).length+1)) e.none pos).length);omega
end Md
namespace Md
theorem Lp: ∀(l:List ByteArray) (nm:ByteArray) (k:Int),sD l nm k= -1∨(k<=sD l nm k∧sD l nm k<k+l.length)
 | [],_,_=> .inl rfl
 |s::r,nm,k=>by
  rw[sD];split
  ·right;simp only[ay];omega
  ·rcases Lp r nm (k+1)with h|h
   ·exact .inl h
   ·right;simp only[ay];omega
theorem TQ: ∀(l:List ByteArray) (nm:ByteArray) (k:Int),0<=k->(∃s∈l,s.toList=nm.toList)->0<=sD l nm k
 | [],_,_,_,⟨s,h,_⟩=>ahC
 |s::r,nm,k,hk,⟨x,hx,e⟩=>by
  rw[sD];split
  ·exact hk
  ·rename_i h;rcases List.mem_cons.1 hx with rfl|hx
   ·rw[e]at h;simp at h
   ·exact TQ r nm (k+1) ahe ⟨x,hx,e⟩
theorem aM8 {l:List ByteArray} {nm:ByteArray} (h:0<=fK l nm):(fK l nm).toNat<l.length:=by
 unfold fK at *;rcases Lp l nm 0 with h1|h1
 ·omega
 ·omega
theorem TS (l:List ByteArray) (nm:ByteArray): -1<=fK l nm∧fK l nm<max l.length 1:=by
 unfold fK;rcases Lp l nm 0 with h1|h1 <;> omega
def Jg (W:Wo):bY->Bool
 | .nil=>true
 | .cons op _ nm kids rest=>((!(op==3)||decide (0<=W.cell nm))&&Jg W kids)&&Jg W rest
def ze (W:Wo) (op:Int) (nm:ByteArray) (kids:bY):Bool:=(!(op==3)||decide (0<=W.cell nm))&&Jg W kids
def Hq (W:Wo) (h:dM):Bool:=ze W h.dQ h.dP h.bG&&(Jg W h.idx&&(h.idx.len==0|| !(h.op==1)||decide (0<=W.cell h.nm)))
def aY.Ev (Q:dM->Prop):aY->Prop
 | .nil=>True
 | .cons h b e r=>Q h∧b.Ev Q∧e.Ev Q∧r.Ev Q
theorem aY.Ev.imp {Q R:dM->Prop} (f: ∀h,Q h->R h): ∀ {l:aY},l.Ev Q->l.Ev R
 | .nil,_=>trivial
 | .cons _ _ _ _,h=>⟨f _ h.1,h.2.1.imp f,h.2.2.1.imp f,h.2.2.2.imp f⟩
theorem aY.Ev.and {Q R:dM->Prop} : ∀ {l:aY},l.Ev Q->l.Ev R->l.Ev (λh=>Q h∧R h)
 | .nil,_,_=>trivial
 | .cons _ _ _ _,h,k=>⟨⟨h.1,k.1⟩,h.2.1.and k.2.1,h.2.2.1.and k.2.2.1,h.2.2.2.and k.2.2.2⟩
end Md
open Md
namespace Md
section
variable {α:Type} {f:α->List Value} {m:Nat} {w w':World} {B B':Nat}
theorem eu.below (hb:Below B w w'): ∀ {l:List α} {ao:Option Addr} {k:Nat},eu f m w B l ao k->eu f m w' B l ao k
 | [],_,_,_=>trivial
 |_::_,_,_,⟨⟨b,off,e,hB,c⟩,hr⟩=>⟨⟨b,off,e,hB,λj u hu=>(hb.cell hB).trans (c j u hu)⟩,eu.below hb hr⟩
theorem eu.mono (h:B<=B'): ∀ {l:List α} {ao:Option Addr} {k:Nat},eu f m w B l ao k->eu f m w B' l ao k
 | [],_,_,_=>trivial
 |_::_,_,_,⟨⟨b,off,e,hB,c⟩,hr⟩=>⟨⟨b,off,e,aJ hB h,c⟩,eu.mono h hr⟩
theorem eu.same {l:List α} {ao:Option Addr} {k:Nat} (h:eu f m w w.heap.size l ao k) (hb:Below w.heap.size w w'):eu f m w' w'.heap.size l ao k:=(h.below hb).mono hb.size
theorem eu.at: ∀ {l:List α} {ao:Option Addr} {k:Nat} (i:Nat) (x:α),eu f m w B l ao k->l[i]? =some x->∃b off,ao=some ⟨b,off,none⟩∧b<B∧∀(j:Nat) (u:Value),(f x)[j]? =some u->w.cell? ⟨b,off+(k+i)*m+j,none⟩=some u
 | [],_,_,i,x,_,h=>ahD
 |y::r,_,k,0,x,⟨h1,_⟩,h=>by simp at h;subst h;exact h1
 |y::r,_,k,i+1,x,⟨_,h2⟩,h=>by have:=eu.at i x h2 aiq;rw[show k+(i+1)=k+1+i by omega];exact this
theorem eu.mk: ∀ {l:List α} {ao:Option Addr} {k:Nat},(∀(i:Nat) (x:α),l[i]? =some x->∃b off,ao=some ⟨b,off,none⟩∧b<B∧∀(j:Nat) (u:Value),(f x)[j]? =some u->w.cell? ⟨b,off+(k+i)*m+j,none⟩=some u)->eu f m w B l ao k
 | [],_,_,_=>trivial
 |x::r,_,k,h=>⟨h 0 x rfl,eu.mk (λi y hy=>by have:=h (i+1) y aie;rw[show k+1+i=k+(i+1) by omega];exact this)⟩
theorem gq {base:Nat} {T:TypeId} {v:Value} {xs:List α} (hf: ∀x,(f x).length=m) (h:w.ownsRow base T m v xs.length (xs.flatMap f)): ∃ao cap,v= .slice ao xs.length cap∧xs.length<=cap∧cap<=maxLen∧eu f m w w.heap.size xs ao 0:=by
 rcases h.2 with⟨rfl,hn⟩|⟨g,cap,cur,rfl,hb,hg,h1,h2,h3,h4⟩
 ·have:xs=[]:=List.eq_nil_of_length_eq_zero hn;subst this;exact⟨none,0,rfl,aH _,bF _,trivial⟩
 ·refine⟨_,_,rfl,h1,h2,eu.mk (λi x hx=>⟨g,0,rfl,(aU hg),λj u hu=> ?_⟩)⟩;have hF:=flat_get hf xs i x j u hx hu;rw[<- h4]at hF;have hlt:=(List.getElem?_eq_some_iff.1 hF).1;rw[List.getElem?_take_of_lt adl]at hF;have:0+(0+i)*m+j=i*m+j:=by simp
  rw[this];exact aQ hg aik
end
end Md
namespace Md
structure jP where
 aC:Option Addr
 aL:Option Addr
 aN:Option Addr
 aF:Option Addr
 aT:Option Addr
 aS:Option Addr
 cC:Nat
 cL:Nat
 cN:Nat
 cF:Nat
 cT:Nat
 cS:Nat
structure gL (w:World) (B:Nat) (W:Wo) (s:jP):Prop where
 cs:eu jW 5 w B W.cs s.aC 0
 ls:eu lF 2 w B W.ls s.aL 0
 ns:eu tF 2 w B W.ns s.aN 0
 fs:fU w B W.fs s.aF 0
 ts:fU w B W.ts s.aT 0
 ss:eu qM 3 w B W.ss s.aS 0
 lc:W.cs.length<=maxLen
 ll:W.ls.length<=maxLen
 ln:W.ns.length<=maxLen
 lf:W.fs.length<=maxLen
 lt:W.ts.length<=maxLen
 lS:W.ss.length<=maxLen
 ok: ∀c∈W.cs,dD c.sz
theorem gL.below {w w':World} {B:Nat} {W:Wo} {s:jP} (h:gL w B W s) (hb:Below B w w'):gL w' B W s:=
 ⟨h.cs.below hb,h.ls.below hb,h.ns.below hb,h.fs.below hb,h.ts.below hb,h.ss.below hb,h.lc,h.ll,h.ln,h.lf,h.lt,h.lS,h.ok⟩
theorem gL.mono {w:World} {B B':Nat} {W:Wo} {s:jP} (h:gL w B W s) (hb:B<=B'):gL w B' W s:=
 ⟨h.cs.mono hb,h.ls.mono hb,h.ns.mono hb,h.fs.mono hb,h.ts.mono hb,h.ss.mono hb,h.lc,h.ll,h.ln,h.lf,h.lt,h.lS,h.ok⟩
theorem gL.same {w w':World} {W:Wo} {s:jP} (h:gL w w.heap.size W s) (hb:Below w.heap.size w w'):gL w' w'.heap.size W s:=(h.below hb).mono hb.size
structure GL where
 B0:Nat
 gb:Nat
 B1:Nat
 b0:B0<=gb
 b1:gb<B1
def Qe (W:Wo) (s:jP) (lc:List ByteArray) (al:Option Addr) (cl:Nat) (v:Value) (a b:Int):Array Value:=
 #[.slice s.aC W.cs.length s.cC,.slice s.aL W.ls.length s.cL,.slice s.aN W.ns.length s.cN,.slice s.aF W.fs.length s.cF,.slice s.aT W.ts.length s.cT,.slice s.aS W.ss.length s.cS,.slice al lc.length cl,v,.int .i64 a,.int .i64 b]
end Md
theorem zD: ∀x:dF,(lq x).length=6:=λ_=>rfl
structure Kg (L:GL) (v:Value) (w w':World):Prop where
 os:w'.os=w.os
 tape:w'.tape=w.tape
 output:w'.output=w.output
 size:w.heap.size<=w'.heap.size
 block: ∀k,k<w.heap.size->k≠L.gb->v.ownBlock≠some k->w'.heap[k]? =w.heap[k]?
def nN (w:World) (v v':Value):Prop:=v'.ownBlock=v.ownBlock∨∃g,v'.ownBlock=some g∧w.heap.size<=g
section
variable {L:GL} {v v1 v2:Value} {w w1 w2 w':World}
theorem Kg.refl (L:GL) (v:Value) (w:World):Kg L v w w:=⟨rfl,rfl,rfl,aH _,λ_ _ _ _=>rfl⟩
theorem Kg.of_below (h:Below w.heap.size w w'):Kg L v w w':=⟨h.os,h.tape,h.output,h.size,λk hk _ _=>h.block k hk⟩
theorem Kg.trans (h:Kg L v w w1) (ho:nN w v v1) (k:Kg L v1 w1 w2):Kg L v w w2:=
 ⟨k.os.trans h.os,k.tape.trans h.tape,k.output.trans h.output,aR h.size k.size,λj hj hc hv=>(k.block j (aJ hj h.size) hc (by
   rcases ho with e|⟨g,e,hg⟩
   ·rw[e];exact hv
   ·rw[e];intro e';injection e' with e';omega)).trans (h.block j hj hc hv)⟩
theorem Kg.below (h:Kg L v w w') (hB:L.B0<=w.heap.size) (hv: ∀k,v.ownBlock=some k->L.B1<=k):Below L.B0 w w':=
 ⟨h.os,h.tape,h.output,h.size,λk hk=>h.block k ahe (by have:=L.b0;omega) (λe=>by have:=hv k e;have:=L.b0;have:=L.b1;omega)⟩
theorem Kg.set (w:World) (j:Nat) (x:Value):Kg L v w (w.setCell ⟨L.gb,j,none⟩ x):=by
 have h:=cB w ⟨L.gb,j,none⟩ x;exact⟨h.os,h.tape,h.output,h.size,λk hk hc _=>h.block k hk ahP⟩
theorem nN.refl (w:World) (v:Value):nN w v v:= .inl rfl
theorem nN.trans (h:nN w v v1) (k:nN w1 v1 v2) (hs:w.heap.size<=w1.heap.size):nN w v v2:=by
 rcases k with e|⟨g,e,hg⟩
 ·rcases h with e'|⟨g,e',hg⟩
  ·exact .inl (e.trans e')
  ·exact .inr ⟨g,e.trans e',hg⟩
 ·exact .inr ⟨g,e,aR hs hg⟩
theorem nN.ne {k:Nat} (h:nN w v v1) (hk:k<w.heap.size) (hv:v.ownBlock≠some k):v1.ownBlock≠some k:=by
 rcases h with e|⟨g,e,hg⟩
 ·rw[e];exact hv
 ·rw[e];intro e';injection e' with e';omega
end
structure gu (T:TypeId) (w:World) (L:GL) (W:Wo) (s:jP) (lc:List ByteArray) (al:Option Addr) (cl:Nat) (v:Value) (code:List dF) (a b:Int):Prop where
 blk:w.heap[L.gb]? =some (.cells (Qe W s lc al cl v a b) T (0,0))
 row:w.ownsRow L.B1 70 6 v code.length (code.flatMap lq)
 sz:L.B1<=w.heap.size
 wo:gL w L.B0 W s
 few:lc.length<=1000
 lc:fU w L.B0 lc al 0
theorem oH {w:World} {b o:Nat} {cur cur':Array Value} {e:TypeId} {fr:Nat×Nat} (h:w.heap[b]? =some (.cells cur e fr)) (v:Value) (hc:cur.setIfInBounds o v=cur'):(w.setCell ⟨b,o,none⟩ v).heap[b]? =some (.cells cur' e fr):=by
 rw[<- hc];exact dX h v
section
variable {T:TypeId} {w w':World} {L:GL} {W:Wo} {s:jP} {lc:List ByteArray} {al:Option Addr} {cl:Nat} {v:Value} {code:List dF} {a b:Int}
theorem gu.b0 (h:gu T w L W s lc al cl v code a b):L.B0<=w.heap.size:=by have:=h.sz;have:=L.b0;have:=L.b1;omega
theorem gu.own (h:gu T w L W s lc al cl v code a b): ∀k,v.ownBlock=some k->L.B1<=k∧k<w.heap.size:=h.row.lt
theorem gu.keep (h:gu T w L W s lc al cl v code a b) (hk:Kg L v w w'):Below L.B0 w w':=hk.below h.b0 (λk e=>(h.own k e).1)
theorem gu.form (h:gu T w L W s lc al cl v code a b): ∃ao cap,v= .slice ao code.length cap∧code.length<=cap∧cap<=maxLen:=by
 obtain⟨ao,cap,e,h1,h2,-⟩:=gq zD h.row;exact⟨ao,cap,e,h1,h2⟩
theorem gu.below (h:gu T w L W s lc al cl v code a b) (hb:Below w.heap.size w w'):gu T w' L W s lc al cl v code a b where
 blk:=(hb.block _ (aU h.blk)).trans h.blk
 row:=h.row.kept (row:=none) ⟨hb.os,hb.tape,hb.output,hb.size,λk hk _=>hb.block k hk⟩ adp
 sz:=aR h.sz hb.size
 wo:=h.wo.below (hb.mono h.b0)
 few:=h.few
 lc:=h.lc.below (hb.mono h.b0)
theorem gu.cells (h:gu T w L W s lc al cl v code a b):L.gb<w.heap.size∧w.cell? ⟨L.gb,0,none⟩=some (.slice s.aC W.cs.length s.cC)∧w.cell? ⟨L.gb,1,none⟩=some (.slice s.aL W.ls.length s.cL)∧w.cell? ⟨L.gb,2,none⟩=some (.slice s.aN W.ns.length s.cN)∧w.cell? ⟨L.gb,3,none⟩=some (.slice s.aF W.fs.length s.cF)∧
 w.cell? ⟨L.gb,4,none⟩=some (.slice s.aT W.ts.length s.cT)∧w.cell? ⟨L.gb,5,none⟩=some (.slice s.aS W.ss.length s.cS)∧w.cell? ⟨L.gb,6,none⟩=some (.slice al lc.length cl)∧w.cell? ⟨L.gb,7,none⟩=some v∧w.cell? ⟨L.gb,8,none⟩=some (.int .i64 a)∧w.cell? ⟨L.gb,9,none⟩=some (.int .i64 b)∧∀j,w.frozen? ⟨L.gb,j,none⟩=false:=
 ⟨(aU h.blk),aQ h.blk rfl,aQ h.blk rfl,aQ h.blk rfl,aQ h.blk rfl,aQ h.blk rfl,aQ h.blk rfl,aQ h.blk rfl,aQ h.blk rfl,aQ h.blk rfl,aQ h.blk rfl,λ_=>bC h.blk⟩
theorem gu.setOf (h:gu T w L W s lc al cl v code a b) (j:Nat) (x:Value) (Ls:List ByteArray) (al':Option Addr) (cl':Nat) (v':Value) (code':List dF) (a' b':Int)
 (hc:(Qe W s lc al cl v a b).setIfInBounds j x=Qe W s Ls al' cl' v' a' b') (hl:fU w L.B0 Ls al' 0) (hf:Ls.length<=1000) (hr:w.ownsRow L.B1 70 6 v' code'.length (code'.flatMap lq)):gu T (w.setCell ⟨L.gb,j,none⟩ x) L W s Ls al' cl' v' code' a' b':=by
 have hg:=cB w ⟨L.gb,j,none⟩ x;have hb:Below L.B0 w (w.setCell ⟨L.gb,j,none⟩ x):=cZ hg L.b0 h.b0;refine⟨oH h.blk _ hc,hr.kept hg ?_,aR h.sz hg.size,h.wo.below hb,hf,hl.below hb⟩;cases hv:v'.ownBlock with
 |none=>exact .inl rfl
 |some k=>refine .inr (λe=> ?_);have:=(hr.lt k hv).1;have:=L.b1;injection e with e;simp only at e;omega
theorem gu.I4 (h:gu T w L W s lc al cl v code a b) (x:Int):gu T (w.setCell ⟨L.gb,8,none⟩ (.int .i64 x)) L W s lc al cl v code x b:=h.setOf 8 _ _ _ _ _ _ _ _ rfl h.lc h.few h.row
theorem gu.iE (h:gu T w L W s lc al cl v code a b) (x:Int):gu T (w.setCell ⟨L.gb,9,none⟩ (.int .i64 x)) L W s lc al cl v code a x:=h.setOf 9 _ _ _ _ _ _ _ _ rfl h.lc h.few h.row
theorem gu.br2 (h:gu T w L W s lc al cl v code a b) {Ls:List ByteArray} {al':Option Addr} (cl':Nat) (hl:fU w L.B0 Ls al' 0) (hf:Ls.length<=1000):gu T (w.setCell ⟨L.gb,6,none⟩ (.slice al' Ls.length cl')) L W s Ls al' cl' v code a b:=h.setOf 6 _ _ _ _ _ _ _ _ rfl hl hf h.row
theorem gu.br3 (h:gu T w L W s lc al cl v code a b):gu T (w.setCell ⟨L.gb,7,none⟩ (.slice none 0 0)) L W s lc al cl (.slice none 0 0) [] a b:=h.setOf 7 _ _ _ _ _ _ _ _ rfl h.lc h.few (World.ownsRow_nil _ _ _ _)
theorem gu.push {wz w4:World} {g' cap':Nat} (h:gu T w L W s lc al cl v code a b) (x:dF) (hb:Below w.heap.size w wz) (hown:w4.ownsRow L.B1 70 6 (.slice (some ⟨g',0,none⟩) (code.length+1) cap') (code.length+1) (code.flatMap lq++lq x)) (hgr:wz.grownBy w4 v.ownBlock) (hat:v.ownBlock=some g'∨wz.heap.size<=g'):
 gu T (w4.setCell ⟨L.gb,7,none⟩ (.slice (some ⟨g',0,none⟩) (code.length+1) cap')) L W s lc al cl (.slice (some ⟨g',0,none⟩) (code.length+1) cap') (code++[x]) a b∧
 Kg L v w (w4.setCell ⟨L.gb,7,none⟩ (.slice (some ⟨g',0,none⟩) (code.length+1) cap'))∧nN w v (.slice (some ⟨g',0,none⟩) (code.length+1) cap'):=by
 have hsz:w.heap.size<=w4.heap.size:=aR hb.size hgr.size;have hlow: ∀k,k<w.heap.size->v.ownBlock≠some k->w4.heap[k]? =w.heap[k]?:=λk hk hv=>(hgr.block k (aJ hk hb.size) (λe=>hv e.symm)).trans (hb.block k hk);have hnb: ∀k,k<L.B1->v.ownBlock≠some k:=λk hk e=>by have:=(h.own k e).1;omega
 have hbel:Below L.B0 w w4:=⟨hgr.os.trans hb.os,hgr.tape.trans hb.tape,hgr.output.trans hb.output,hsz,λk hk=>by have:=L.b0;have:=L.b1;have:=h.b0;exact hlow k ahe (hnb k ahe)⟩;have h4:gu T w4 L W s lc al cl v code a b∨True:= .inr trivial;have hblk:w4.heap[L.gb]? =some (.cells (Qe W s lc al cl v a b) T (0,0)):=(hlow _ (aU h.blk) (hnb _ L.b1)).trans h.blk;have hg:=cB w4 ⟨L.gb,7,none⟩ (.slice (some ⟨g',0,none⟩) (code.length+1) cap');have hb2:Below L.B0 w4 (w4.setCell ⟨L.gb,7,none⟩ (.slice (some ⟨g',0,none⟩) (code.length+1) cap')):=cZ hg L.b0 (aR h.b0 hsz);have hown':w4.ownsRow L.B1 70 6 (.slice (some ⟨g',0,none⟩) (code.length+1) cap') (code++[x]).length ((code++[x]).flatMap lq):=aaz
 have hlt:=(hown.lt g' rfl).1;refine⟨⟨oH hblk _ rfl,hown'.kept hg (.inr ?_),aR (aR h.sz hsz) hg.size,(h.wo.below hbel).below hb2,h.few,(h.lc.below hbel).below hb2⟩,?_,?_⟩
 ·intro e;have:=L.b1;injection e with e;simp only at e;omega
 ·exact⟨hg.os.trans hbel.os,hg.tape.trans hbel.tape,hg.output.trans hbel.output,aR hsz hg.size,λk hk hc hv=>(hg.block k (aJ hk hsz) ahP).trans (hlow k hk hv)⟩
 ·rcases hat with e|e
  ·exact .inl ahK
  ·exact .inr ⟨g',rfl,aR hb.size e⟩
end
section
variable {w:World} {base:Nat} {e:TypeId} {size:Nat} {n cap g:Nat} {xs:List Value}
theorem Ym (h:w.ownsRow base e size (.slice (some ⟨g,0,none⟩) n cap) n xs) (j:Nat) (u:Value) (hj:j<xs.length):(w.setCell ⟨g,j,none⟩ u).ownsRow base e size (.slice (some ⟨g,0,none⟩) n cap) n (xs.set j u):=by
 rcases h.2 with⟨h1,-⟩|⟨g',cap',cur,e1,hb,hg,hc,hm,hs,ht⟩
 ·cases h1
 ·injection e1 with e1 e2 e3;injection e1 with e1;injection e1 with e1;subst e1;subst e3;refine⟨by rw[List.length_set];exact h.1,.inr ⟨g,cap,cur.setIfInBounds j u,rfl,hb,dX hg u,hc,hm,by simpa using hs,?_⟩⟩;rw[Array.toList_setIfInBounds,<- ht,List.take_set]
end
theorem ND {α:Type} {f:α->List Value} {m:Nat} (hf: ∀x,(f x).length=m): ∀(xs:List α) (k:Nat) (x y:α) (j:Nat) (u:Value),xs[k]? =some x->j<m->f y=(f x).set j u->(xs.flatMap f).set (k*m+j) u=(xs.set k y).flatMap f
 | [],_,_,_,_,_,h,_,_=>ahD
 |z::xs,0,x,y,j,u,h,hj,hy=>by simp at h;subst h;rw[List.flatMap_cons,List.set_cons_zero,List.flatMap_cons,Nat.zero_mul,aV,hy,List.set_append_left _ _ (by rw[hf];exact hj)]
 |z::xs,k+1,x,y,j,u,h,hj,hy=>by
  have ih:=ND hf xs k x y j u aiq hj hy;have e:(k+1)*m+j=m+(k*m+j):=by rw[Nat.add_mul];omega
  rw[List.flatMap_cons,List.set_cons_succ,List.flatMap_cons,<- ih,List.set_append_right _ _ (by rw[hf,e];omega),hf,e,Nat.add_sub_cancel_left]
section
variable {T:TypeId} {w w':World} {L:GL} {W:Wo} {s:jP} {lc:List ByteArray} {al:Option Addr} {cl:Nat} {v:Value} {code:List dF} {a b:Int}
theorem gu.patch {g cap:Nat} (h:gu T w L W s lc al cl (.slice (some ⟨g,0,none⟩) code.length cap) code a b) (k j:Nat) (x y:dF) (u:Value) (hx:code[k]? =some x) (hj:j<6) (hy:lq y=(lq x).set j u):
 gu T (w.setCell ⟨g,k*6+j,none⟩ u) L W s lc al cl (.slice (some ⟨g,0,none⟩) code.length cap) (code.set k y) a b∧Kg L (.slice (some ⟨g,0,none⟩) code.length cap) w (w.setCell ⟨g,k*6+j,none⟩ u):=by
 have hg:=cB w ⟨g,k*6+j,none⟩ u;have hlt:=h.own g rfl;have hb:Below L.B0 w (w.setCell ⟨g,k*6+j,none⟩ u):=cZ hg (by have:=L.b0;have:=L.b1;show L.B0<=g;omega) h.b0;have hk:k<code.length:=(List.getElem?_eq_some_iff.1 hx).1;have hjl:k*6+j<(code.flatMap lq).length:=by rw[zA zD];omega
 refine⟨⟨(hg.block _ (aU h.blk) (by have:=L.b1;simp;omega)).trans h.blk,?_,aR h.sz hg.size,h.wo.below hb,h.few,h.lc.below hb⟩,hg.os,hg.tape,hg.output,hg.size,λi hi _ hv=>hg.block i hi (λe=>hv e.symm)⟩;have:=Ym h.row (k*6+j) u hjl;rw[ND zD code k x y j u hx hj hy]at this;rw[List.length_set];exact this
end
def oK (W:Wo) (s:jP):Value:= .agg #[.slice s.aC W.cs.length s.cC,.slice s.aL W.ls.length s.cL,.slice s.aN W.ns.length s.cN,.slice s.aF W.fs.length s.cF,.slice s.aT W.ts.length s.cT,.slice s.aS W.ss.length s.cS]
theorem an1:(Tryz.prog.info? 70).map (λi=>(i.zero,i.size,i.bytes))=some (some (.agg #[.int .i64 0,.int .i64 0,.int .i64 0,.int .i64 0,.int .i64 0,.int .i64 0]),6,48):=ahd
theorem yx {o:Option TypeInfo} {z:Option Value} {a b:Nat} (h:o.map (λi=>(i.zero,i.size,i.bytes))=some (z,a,b)): ∃i0,o=some i0∧i0.zero=z∧i0.size=a∧i0.bytes=b:=by
 cases o with
 |none=>cases h
 |some i=>simp at h;exact⟨i,rfl,h.1,h.2.1,h.2.2⟩
theorem aL9 (x:dF): ∀u∈lq x,u.oneCell'=true:=by
 intro u hu;simp[lq]at hu;rcases hu with rfl|rfl|rfl|rfl|rfl|rfl <;> rfl
def Jb (x:dF):Value:= .agg #[.int .i64 x.op,.int .i64 x.a,.int .i64 x.b,.int .i64 x.c,.int .i64 x.n,.int .i64 x.st]
def wT (T:TypeId) (w:World) (L:GL) (W:Wo) (s:jP) (lc:List ByteArray) (al:Option Addr) (cl:Nat) (v:Value) (code:List dF) (a b:Int) (xs:List dF) (w':World):Prop:=
 ∃v',gu T w' L W s lc al cl v' (code++xs) a b∧Kg L v w w'∧nN w v v'
section
variable {T:TypeId} {w w1 w2 w':World} {L:GL} {W:Wo} {s:jP} {lc:List ByteArray} {al:Option Addr} {cl:Nat} {v:Value} {code:List dF} {a b:Int} {xs ys:List dF}
theorem wT.start (h:gu T w L W s lc al cl v code a b):wT T w L W s lc al cl v code a b [] w:=⟨v,aiq,Kg.refl _ _ _,.inl rfl⟩
theorem wT.pre (hb:Below w.heap.size w w1) (h:wT T w1 L W s lc al cl v code a b xs w'):wT T w L W s lc al cl v code a b xs w':=by
 obtain⟨v',h1,h2,h3⟩:=h;exact⟨v',h1,(Kg.of_below hb).trans (.inl rfl) h2,(nN.refl w v).trans h3 hb.size⟩
theorem wT.below (h:wT T w L W s lc al cl v code a b xs w1) (hb:Below w1.heap.size w1 w'):wT T w L W s lc al cl v code a b xs w':=by
 obtain⟨v',h1,h2,h3⟩:=h;exact⟨v',h1.below hb,h2.trans h3 (Kg.of_below hb),h3⟩
theorem wT.then (h:wT T w L W s lc al cl v code a b xs w1) (k: ∀v',gu T w1 L W s lc al cl v' (code++xs) a b->wT T w1 L W s lc al cl v' (code++xs) a b ys w'):wT T w L W s lc al cl v code a b (xs++ys) w':=by
 obtain⟨v',h1,h2,h3⟩:=h;obtain⟨v2,k1,k2,k3⟩:=k v' h1;exact⟨v2,adI,h2.trans h3 k2,h3.trans k3 h2.size⟩
end
structure jL (T:TypeId) (w:World) (L:GL) (W:Wo) (s:jP) (lc:List ByteArray) (al:Option Addr) (cl:Nat) (v:Value) (code:List dF) (a b:Int) (nb:Nat) (cs:Array Value) (ty:TypeId) (xs:List dF) (w2:World) (v2:Value):Prop where
 i:gu T w2 L W s lc al cl v2 (code++xs) a b
 k:Kg L v w w2
 o:nN w v v2
 x:w2.heap[nb]? =some (.cells cs ty (0,0))
 g:L.B1<=nb
 n:v2.ownBlock≠some nb
section
variable {T ty:TypeId} {w w1 w2 w':World} {L:GL} {W:Wo} {s:jP} {lc:List ByteArray} {al:Option Addr} {cl nb:Nat} {v v2:Value} {code:List dF} {a b:Int} {xs ys:List dF} {cs:Array Value}
theorem jL.start (h:gu T w L W s lc al cl v code a b) (hb:Below w.heap.size w w1) (hn:w.heap.size=nb) (hx:w1.heap[nb]? =some (.cells cs ty (0,0))):jL T w L W s lc al cl v code a b nb cs ty [] w1 v:=
 ⟨by simpa using h.below hb,Kg.of_below hb,.inl rfl,hx,by rw[<- hn];exact h.sz,λe=>by have:=(h.own _ e).2;omega⟩
theorem jL.then (h:jL T w L W s lc al cl v code a b nb cs ty xs w2 v2) (k:wT T w2 L W s lc al cl v2 (code++xs) a b ys w'): ∃v3,jL T w L W s lc al cl v code a b nb cs ty (xs++ys) w' v3:=by
 obtain⟨v3,k1,k2,k3⟩:=k;have hlt:=(aU h.x);exact⟨v3,adI,h.k.trans h.o k2,h.o.trans k3 h.k.size,(k2.block nb hlt adR h.n).trans h.x,h.g,k3.ne hlt h.n⟩
theorem jL.below (h:jL T w L W s lc al cl v code a b nb cs ty xs w2 v2) (hb:Below w2.heap.size w2 w'):jL T w L W s lc al cl v code a b nb cs ty xs w' v2:=
 ⟨h.i.below hb,h.k.trans h.o (Kg.of_below hb),h.o,(hb.block nb (aU h.x)).trans h.x,h.g,h.n⟩
theorem jL.fin (h:jL T w L W s lc al cl v code a b nb cs ty xs w2 v2) (e:xs=ys):wT T w L W s lc al cl v code a b ys w2:=by
 subst e;exact⟨v2,h.i,h.k,h.o⟩
theorem jL.low (h:jL T w L W s lc al cl v code a b nb cs ty xs w2 v2) (h0:gu T w L W s lc al cl v code a b):Below L.B0 w w2:=h0.keep h.k
end
theorem gZ {w:World} {L:GL} {W:Wo} {s:jP} {lc:List ByteArray} {al:Option Addr} {cl:Nat} {v:Value} {code:List dF} {a b:Int} (h:gu 66 w L W s lc al cl v code a b) (x:dF) (hl:code.length+1<=1000000000000):
 Calls Tryz.prog 18 #[.pointer (some ⟨L.gb,0,none⟩),Jb x] w λe w'=>e= .returned (.tuple #[])∧wT 66 w L W s lc al cl v code a b [{x with st:=b}] w':=by
 obtain⟨ao,cap,rfl,hcap,-⟩:=h.form;obtain⟨hlt,-,-,-,-,-,-,-,c7,c8,c9,cf⟩:=h.cells;have HI:=ah h;have HL:=ah hl;clear h hl;unfold Jb;go_enter Tryz.func18,Tryz.ntmps18;go_upto_region 2 with fail;generalize hW:World.alloc w _=wq;obtain⟨nb,hnb,HB,-,HX,-⟩:=nI hW;have HQ:=ah (HI.o.below HB.o);have iy:aj (L.B1<=nb∧nb<wq.heap.size∧L.gb<wq.heap.size∧L.gb≠nb∧(Value.slice ao code.length cap).ownBlock≠some nb):=ah aad;have HGV:aj ((Value.slice ao code.length cap).ownBlock≠some L.gb):=ah (λe=>aei);have VI:=ah HQ.o.cells.2.2.2.2.2.2.2.2.1;have HOW:aj (∀k,(Value.slice ao code.length cap).ownBlock=some k->k<wq.heap.size):=ah (λk e=>(HQ.o.own k e).2);rw[hnb];clear hW hnb c7 c8 c9 cf hlt;refine yJ (uq wq 4 6 7 10 (ZJ 70 6 wq L.B1 (Value.slice ao code.length cap).ownBlock (code.length+1) (code.flatMap lq++lq {x with st:=b})) ⟨L.gb,7,none⟩ (Qm (code.length+1)) (lq {x with st:=b}).toArray 70) (Ag.le wq.heap.size) [9,10,11,12,13,14,15,16,17,18] ⟨none,false,none⟩ ahd ahd (λg w=>Ag.le_refl _ g w) aip uq.start ?_;apply jQ.step
 case aZ=>intro D A g w' hDn hC hO hD;have e0:=hO 0 aip;simp[Act.eval]at e0;simp[iM,iH,eO,Act.eval,Region.binds]at hD;simp[go_sem,mK,Oper.wp,hD,e0];exact gF.mk (Ag.le_refl _ _ _) (hC.skip _ ahf) (iH.mk _ _ _)
 apply jQ.step
 case aZ=>intro D A g w' hDn hC hO hD;have e0:=hO 0 aip;simp[Act.eval]at e0;simp[iM,iH,eO,Act.eval,Region.binds]at hD;simp[go_sem,mK,Oper.wp,hD,e0];exact gF.mk (Ag.le_refl _ _ _) (hC.skip _ ahf) (iH.mk _ _ _)
 apply jQ.step
 case aZ=>intro D A g w' hDn hC hO hD;simp[iM,iH,eO,Act.eval,Region.binds]at hD;simp[go_sem,mK,Oper.wp,hD];exact gF.mk (Ag.le_refl _ _ _) (hC.skip _ ahf) (iH.mk _ _ _)
 apply jQ.step
 case aZ=>intro D A g w' hDn hC hO hD;simp[iM,iH,eO,Act.eval,Region.binds]at hD;simp[go_sem,mK,Oper.wp,hD];exact gF.mk (Ag.le_refl _ _ _) (hC.skip _ ahf) (iH.mk _ _ _)
 refine jQ.some (λv g _=>v= .slice ao code.length cap∧g.h=true) (λv g w g' w' hle h=>⟨h.1,hle.2.1 h.2⟩) ?_ ?_
 ·intro D A g w' hDn hC hO hD;simp[iM,iH,eO,Act.eval,Region.binds]at hD;obtain⟨hp,hle,hm⟩:=hC.mk8 hDn ahf;have z3:=((hC.pre hp).cell (p:=⟨L.gb,7,none⟩) iy.o.2.2.1).trans VI.o;simp[go_sem,mK,Oper.wp,hD,z3];exact gF.mk hle hm ⟨rfl,rfl⟩
 simp only[bP];apply jQ.step
 case aZ=>intro D A g w' hDn hC hO hD;have e3:=hO 3 aip;simp[Act.eval]at e3;have zc:=λ(j:Nat) (u:Value) (hu:(lq {x with st:=b})[j]? =some u)=>hC.cell iy.o.2.1 iy.o.2.2.2.2 iy.o.2.2.2.1 (aQ (j:=j) HX.o adA);have z0:=zc 0 _ rfl;have z1:=zc 1 _ rfl;have z2:=zc 2 _ rfl;have z3:=zc 3 _ rfl;have z4:=zc 4 _ rfl;have z5:=zc 5 _ rfl;simp[iM,iH,eO,Act.eval,Region.binds]at hD;simp[go_sem,mK,Oper.wp,hD,e3,z0,z1,z2,z3,z4,z5];exact gF.mk (Ag.le_refl _ _ _) (hC.skip _ ahf) (iH.mk _ _ _)
 refine jQ.some (λv g _=> ∃b,v= .slice (some ⟨b,0,none⟩) 1 1∧g.o=some b) (λv g w g' w' hle h=>abj) ?_ ?_
 ·intro D A g w' hDn hC hO hD;simp[iM,iH,eO,Act.eval,Region.binds]at hD;simp[go_sem,mK,Oper.wp,hD];have hM:=hC.aN1 hDn ahf;exact gF.mk hM.1 hM.2 ⟨_,rfl,rfl⟩
 refine jQ.some (λv g _=> ∃q,g.p=some q∧v=Qm (code.length+1) q) (λv g w g' w' hle h=>abY) ?_ ?_
 ·intro D A g w' hDn hC hO hD;simp[iM,iH,eO,Act.eval,Region.binds]at hD;obtain⟨⟨hs1,hh⟩,bb,hs2,hb⟩:=hD;simp only[mK,if_true];have hbl:=hC.pre (hC.tX hDn);obtain⟨bp4,ab2⟩:=hC.row bb hb;have hown:=(HQ.o.below hbl).row;obtain⟨i0,hi0,hz0,hz1,hz2⟩:=yx an1;refine wp_append_lies w' _ _ _ aip L.B1 70 i0 _ 6 48 Tryz.underlying64 hi0 hz0 hz1 hz2 aip ahe (.slice ao code.length cap) code.length (code.flatMap lq) (by simp[Act.eval,hs1]) hown ⟨bb,0,none⟩ 1 1 (lq {x with st:=b}) (by simp[Act.eval,hs2]) aip (gG ab2) (aL9 _) ahf aeM (by have:=HL.o;omega) (HQ.o.below hbl).sz _ rfl ?_;intro g' cap' w5 hown5 hgr hmv jY;have hM:=hC.aN2 (q:=(g',cap')) (w':=w5) hDn ahf hb hh ⟨hown5,iQ (Ej hbl) hgr,aaJ⟩ hgr.size (λk h1 h2=>hgr.block k h2 (λe=>by have:=HOW.o k e.symm;omega));exact gF.mk hM.1 hM.2 ⟨(g',cap'),rfl,rfl⟩
 simp only[bP];apply jQ.step
 case aZ=>intro D A g w' hDn hC hO hD;simp[iM,iH,eO,Act.eval,Region.binds]at hD;simp[go_sem,mK,Oper.wp,hD];exact gF.mk (Ag.le_refl _ _ _) (hC.skip _ ahf) (iH.mk _ _ _)
 apply jQ.step
 case aZ=>intro D A g w' hDn hC hO hD;simp[iM,iH,eO,Act.eval,Region.binds]at hD;simp[go_sem,mK,Oper.wp,hD];exact gF.mk (Ag.le_refl _ _ _) (hC.skip _ ahf) (iH.mk _ _ _)
 refine jQ.some (λ_ _ _=>True) (λ_ _ _ _ _ _ _=>trivial) ?_ ?_
 ·intro D A g w' hDn hC hO hD;simp[iM,iH,eO,Act.eval,Region.binds]at hD;obtain⟨hs1,⟨qa,qc,hq,hs2⟩,-⟩:=hD;have hR:=hC.post (qa,qc) hq hDn;have hblk:=hR.2.1.block L.gb iy.o.2.2.1 (λe=>HGV.o e.symm);have z3:=(World.cell?_of_block (a:=⟨L.gb,7,none⟩) hblk).trans VI.o;have f3:w'.frozen? ⟨L.gb,7,none⟩=false:=by rw[World.frozen?_of_block (a:=⟨L.gb,7,none⟩) hblk];exact bC HQ.o.blk
  unfold Qm at hs2;simp[go_sem,mK,Oper.wp,hs1,hs2,z3,f3];have hM:=hC.aN3 hDn hq iy.o.2.2.1 ahf ahf;exact gF.qK (v:=undef) hM.1 hM.2 trivial
 refine jQ.done ?_;intro D g wz hD hC;simp only[KG,List.nil_append,List.cons_append,List.map_cons,List.map_nil];intro v0 h0 v1 h1 v2 h2 v3 h3 v4 h4 v5 h5 v6 h6 v7 h7 v8 h8 v9 h9 v10 h10;obtain⟨q,hq,rfl⟩:=h7;obtain⟨w5,hR,hW⟩:=hC.fin q hq (hD 10 ahg);have HP:=ah (HI.o.push (wz:=wq) (w4:=w5) (g':=q.1) (cap':=q.2) {x with st:=b} HB.o hR.1 hR.2.1 hR.2.2);clear hC hD;refine kg ?_;go_simp;go_wp2_with fail;refine bodyPost_end (v:= .tuple #[]) (by simp[results,Tryz.results18,go_sem]) rfl ⟨rfl,?_⟩;exact⟨_,HP.o⟩
namespace Md
theorem F8 (W:Wo) (lc:List ByteArray) (st op n:Int) (nm:ByteArray) (kids rest:bY) (d:Int):FH W lc st (.cons op n nm kids rest) d=jU W lc st op n nm kids d++FH W lc st rest (d+1):=rfl
theorem nM (op n:Int) (nm:ByteArray) (kids rest:bY):mJ (.cons op n nm kids rest)=(jJ op n nm kids&&mJ rest):=rfl
theorem EZ (W:Wo) (op n:Int) (nm:ByteArray) (kids rest:bY):Jg W (.cons op n nm kids rest)=(ze W op nm kids&&Jg W rest):=rfl
theorem JO: ∀ {l:bY},l.len=0->l= .nil
 | .nil,_=>rfl
 | .cons _ _ _ _ _,h=>agZ
theorem TT: ∀ {l:bY},l.len=1->∃o n m k,l= .cons o n m k .nil
 | .nil,h=>agZ
 | .cons o n m k r,h=>⟨o,n,m,k,by rw[JO (l:=r) (by simpa[bY.len]using h)]⟩
theorem at0: ∀ {l:bY},l.len=2->∃o n m k o' n' m' k',l= .cons o n m k (.cons o' n' m' k' .nil)
 | .nil,h=>agZ
 | .cons o n m k r,h=>by obtain⟨o',n',m',k',e⟩:=TT (l:=r) (by simpa[bY.len]using h);exact⟨o,n,m,k,o',n',m',k',by rw[e]⟩
theorem LV {W:Wo} {op n:Int} {nm:ByteArray} {kids:bY} (hs:jJ op n nm kids=true) (ho:ze W op nm kids=true):
 (op=1∧kids= .nil)∨(op=2∧kids= .nil)∨(op=3∧0<=W.cell nm∧∃o n' m k,kids= .cons o n' m k .nil∧jJ o n' m k=true∧ze W o m k=true)∨
 ((op=4∨op=5)∧∃o n' m k,kids= .cons o n' m k .nil∧jJ o n' m k=true∧ze W o m k=true)∨
 (6<=op∧op<=18∧∃o n1 m k o' n2 m' k',kids= .cons o n1 m k (.cons o' n2 m' k' .nil)∧jJ o n1 m k=true∧ze W o m k=true∧jJ o' n2 m' k'=true∧ze W o' m' k'=true):=by
 unfold jJ at hs;rw[aP]at hs;obtain⟨h1,h2⟩:=hs;unfold ze at ho;rw[aP]at ho;obtain⟨ho1,ho2⟩:=ho;unfold I5 at h1;rw[aP,beq_iff_eq]at h1;have hl:=h1.1;unfold opsOf at hl;by_cases c1:(op==1||op==2)=true
 ·rw[if_pos c1]at hl;have hk:=JO (l:=kids) ahe;rw[Bool.or_eq_true,beq_iff_eq,beq_iff_eq]at c1;rcases c1 with c|c
  ·exact .inl ⟨c,hk⟩
  ·exact .inr (.inl ⟨c,hk⟩)
 rw[if_neg c1]at hl;by_cases c2:(op==3||op==4||op==5)=true
 ·rw[if_pos c2]at hl;obtain⟨o,n',m,k,e⟩:=TT (l:=kids) ahe;subst e;rw[nM,aP]at h2;rw[EZ,aP]at ho2;rw[Bool.or_eq_true,Bool.or_eq_true,beq_iff_eq,beq_iff_eq,beq_iff_eq]at c2;rcases c2 with(c|c)|c
  ·subst c;exact .inr (.inr (.inl ⟨rfl,by simpa using ho1,o,n',m,k,rfl,h2.1,ho2.1⟩))
  ·exact .inr (.inr (.inr (.inl ⟨.inl c,o,n',m,k,rfl,h2.1,ho2.1⟩)))
  ·exact .inr (.inr (.inr (.inl ⟨.inr c,o,n',m,k,rfl,h2.1,ho2.1⟩)))
 rw[if_neg c2]at hl;by_cases c3:(decide (6<=op)&&decide (op<=18))=true
 ·rw[if_pos c3]at hl;rw[aP,decide_eq_true_eq,decide_eq_true_eq]at c3;obtain⟨o,n1,m,k,o',n2,m',k',e⟩:=at0 (l:=kids) ahe;subst e;rw[nM,nM,aP,aP]at h2;rw[EZ,EZ,aP,aP]at ho2;exact .inr (.inr (.inr (.inr ⟨c3.1,c3.2,o,n1,m,k,o',n2,m',k',rfl,h2.1,ho2.1,h2.2.1,ho2.2.1⟩)))
 ·rw[if_neg c3]at hl;omega
theorem Ih {W:Wo} {nm:ByteArray} (h:0<=W.cell nm): ∃c,W.cs[(W.cell nm).toNat]? =some c∧W.size nm=c.sz∧c∈W.cs∧(W.cell nm).toNat<W.cs.length:=by
 have hlt:=aM8 h;rw[ji]at hlt;have hlt:(W.cell nm).toNat<W.cs.length:=hlt;refine⟨W.cs[(W.cell nm).toNat],bJ hlt,?_,List.getElem_mem hlt,hlt⟩;unfold Wo.size;rw[bJ hlt];rfl
theorem II {W:Wo} {lc:List ByteArray} {st op n:Int} {nm:ByteArray} {o n1:Int} {m:ByteArray} {k:bY} {d:Int} (h:3<=op):jU W lc st op n nm (.cons o n1 m k .nil) d=jU W lc st o n1 m k d++[LD W op nm d st]:=by
 conv=>lhs;unfold jU
 rw[if_neg ahh,F8,FH,List.append_nil]
theorem Uk {W:Wo} {lc:List ByteArray} {st op n:Int} {nm:ByteArray} {o n1 o' n2:Int} {m m':ByteArray} {k k':bY} {d:Int} (h:3<=op):jU W lc st op n nm (.cons o n1 m k (.cons o' n2 m' k' .nil)) d=jU W lc st o n1 m k d++jU W lc st o' n2 m' k' (d+1)++[LD W op nm d st]:=by
 conv=>lhs;unfold jU
 rw[if_neg ahh,F8,F8,FH,List.append_nil]
end Md
namespace Md
def Jh (W:Wo) (h:dM):Prop:=Hq W h=true∧fu h<=300000
def sH (W:Wo) (lc:List ByteArray) (h:dM) (b e:aY) (nx pos:Nat):List dF:=
 Eu W lc nx h (gH W lc nx h lc.length) (jf W lc b (nx+1) (pos+qF h (gH W lc nx h lc.length)))
  (jf W lc e (nx+1+dh b) (pos+qF h (gH W lc nx h lc.length)+(jf W lc b (nx+1) (pos+qF h (gH W lc nx h lc.length))).length+1)) e.none pos
theorem Qd (W:Wo) (lc:List ByteArray) (h:dM) (b e r:aY) (nx pos:Nat):jf W lc (.cons h b e r) nx pos=sH W lc h b e nx pos++jf W lc r (nx+1+dh b+dh e) (pos+(sH W lc h b e nx pos).length):=rfl
theorem Ud (W:Wo) (lc:List ByteArray) (h:dM) (b e:aY) (nx pos:Nat):(sH W lc h b e nx pos).length<=fu h+jR b+jR e:=by
 unfold sH;have h1:=Rf W lc nx h (jf W lc b (nx+1) (pos+qF h (gH W lc nx h lc.length))) (jf W lc e (nx+1+dh b) (pos+qF h (gH W lc nx h lc.length)+(jf W lc b (nx+1) (pos+qF h (gH W lc nx h lc.length))).length+1)) e.none pos;have h2:=nU W lc b (nx+1) (pos+qF h (gH W lc nx h lc.length));have h3:=nU W lc e (nx+1+dh b) (pos+qF h (gH W lc nx h lc.length)+(jf W lc b (nx+1) (pos+qF h (gH W lc nx h lc.length))).length+1);omega
def stA (h:dM) (b e:aY) (s:Sl):Array Value:= #[.int .i64 h.op,.int .i64 h.line,.string h.nm,.string h.arg,.slice s.fM h.idx.len s.eU,.int .i64 h.dQ,.int .i64 h.xn,.string h.dP,.slice s.fD h.bG.len s.dS,.slice s.dL b.len s.cK,.slice s.gJ e.len s.fH]
end Md
theorem jI {w:World} {n:Nat} {h:dM} {b e:aY} {s:Sl} {t:TypeId} {f:Nat×Nat} (x:w.heap[n]? =some (.cells (stA h b e s) t f)):w.cell? ⟨n,0,none⟩=some (.int .i64 h.op)∧w.cell? ⟨n,1,none⟩=some (.int .i64 h.line)∧w.cell? ⟨n,2,none⟩=some (.string h.nm)∧w.cell? ⟨n,3,none⟩=some (.string h.arg)∧w.cell? ⟨n,4,none⟩=some (.slice s.fM h.idx.len s.eU)∧w.cell? ⟨n,5,none⟩=some (.int .i64 h.dQ)∧w.cell? ⟨n,6,none⟩=some (.int .i64 h.xn)∧w.cell? ⟨n,7,none⟩=some (.string h.dP)∧w.cell? ⟨n,8,none⟩=some (.slice s.fD h.bG.len s.dS)∧w.cell? ⟨n,9,none⟩=some (.slice s.dL b.len s.cK)∧w.cell? ⟨n,10,none⟩=some (.slice s.gJ e.len s.fH):=
 ⟨aQ x rfl,aQ x rfl,aQ x rfl,aQ x rfl,aQ x rfl,aQ x rfl,aQ x rfl,aQ x rfl,aQ x rfl,aQ x rfl,aQ x rfl⟩
def PG (w:World) (B:Nat) (h:dM) (b e:aY) (s:Sl):Prop:=uE h b e∧h.idx.At w B s.fM 0∧h.bG.At w B s.fD 0∧b.At w B s.dL 0∧e.At w B s.gJ 0
theorem PG.below {w w':World} {B:Nat} {h:dM} {b e:aY} {s:Sl} (hi:PG w B h b e s) (hb:Below B w w'):PG w' B h b e s:=
 ⟨hi.1,hi.2.1.below hb,hi.2.2.1.below hb,hi.2.2.2.1.below hb,hi.2.2.2.2.below hb⟩
theorem Dc {w:World} {B:Nat} {h:dM} {b e r:aY} {ao:Option Addr} {k:Nat} (hat:(aY.cons h b e r).At w B ao k): ∃bl off s,ao=some ⟨bl,off,none⟩∧bl<B∧PG w B h b e s∧
 (∀j u,(stA h b e s)[j]? =some u->w.cell? ⟨bl,off+k*11+j,none⟩=some u)∧r.At w B ao (k+1):=by
 obtain⟨⟨b',off,fM,eU,fD,dS,dL,cK,gJ,fH,e',hB,c0,c1,c2,c3,c4,c5,c6,c7,c8,c9,c10,hok,h1,h2,h3,h4⟩,hr⟩:=hat;refine⟨b',off,⟨fM,eU,fD,dS,dL,cK,gJ,fH⟩,e',hB,⟨hok,h1,h2,h3,h4⟩,λj u hu=> ?_,hr⟩;have hj:j<11:=(aU hu);have:j=0∨j=1∨j=2∨j=3∨j=4∨j=5∨j=6∨j=7∨j=8∨j=9∨j=10:=ahe
 rcases this with rfl|rfl|rfl|rfl|rfl|rfl|rfl|rfl|rfl|rfl|rfl <;> (simp[stA]at hu;subst hu;first|exact c0|exact c1|exact c2|exact c3|exact c4|exact c5|exact c6|exact c7|exact c8|exact c9|exact c10)
structure pG (w:World) (L:GL) (W:Wo) (code:List dF) (h:dM) (b e:aY) (sl:Sl) (nx:Nat):Prop where
 m:PG w L.B0 h b e sl
 sh:ou h b.len e.len=true
 sb:fT b=true
 se:fT e=true
 ok:Jh W h
 ob:b.Ev (Jh W)
 oe:e.Ev (Jh W)
 len:code.length+(fu h+jR b+jR e)<=1000000000000
 cnt:nx+(fu h+jR b+jR e)<=1000000000000
theorem pG.below {w w':World} {L:GL} {W:Wo} {code:List dF} {h:dM} {b e:aY} {sl:Sl} {nx:Nat} (p:pG w L W code h b e sl nx) (hb:Below L.B0 w w'):pG w' L W code h b e sl nx:=
 ⟨p.m.below hb,p.sh,p.sb,p.se,p.ok,p.ob,p.oe,p.len,p.cnt⟩
theorem pG.b7 {w:World} {L:GL} {W:Wo} {code:List dF} {h:dM} {b e:aY} {sl:Sl} {nx:Nat} (p:pG w L W code h b e sl nx):b.len<=maxLen:=p.m.1.2.2.2.2.2.2.1
theorem pG.e7 {w:World} {L:GL} {W:Wo} {code:List dF} {h:dM} {b e:aY} {sl:Sl} {nx:Nat} (p:pG w L W code h b e sl nx):e.len<=maxLen:=p.m.1.2.2.2.2.2.2.2
def Cq (Q:Int->Int->Prop) (T:TypeId) (w:World) (L:GL) (W:Wo) (s:jP) (lc:List ByteArray) (al:Option Addr) (cl:Nat) (v:Value) (code:List dF) (xs:List dF) (w':World):Prop:=
 ∃v' a' b',Q a' b'∧gu T w' L W s lc al cl v' (code++xs) a' b'∧Kg L v w w'∧nN w v v'
section
variable {Q:Int->Int->Prop} {T ty:TypeId} {w w1 w2 w':World} {L:GL} {W:Wo} {s:jP} {lc:List ByteArray} {al:Option Addr} {cl nb:Nat} {v v2:Value} {code:List dF} {a b:Int} {xs ys:List dF} {cs:Array Value}
theorem jL.list (h:jL T w L W s lc al cl v code a b nb cs ty xs w2 v2) (k:Cq Q T w2 L W s lc al cl v2 (code++xs) ys w'): ∃v3 a' b',Q a' b'∧jL T w L W s lc al cl v code a' b' nb cs ty (xs++ys) w' v3:=by
 obtain⟨v3,a',b',hq,k1,k2,k3⟩:=k;have hlt:=(aU h.x);exact⟨v3,a',b',hq,adI,h.k.trans h.o k2,h.o.trans k3 h.k.size,(k2.block nb hlt adR h.n).trans h.x,h.g,k3.ne hlt h.n⟩
theorem jL.jT (h:jL T w L W s lc al cl v code a b nb cs ty xs w2 v2) (hq:Q a b) (e:xs=ys):Cq Q T w L W s lc al cl v code ys w2:=by
 subst e;exact⟨v2,a,b,hq,h.i,h.k,h.o⟩
theorem jL.setOf (h:jL T w L W s lc al cl v code a b nb cs ty xs w2 v2) {j:Nat} {u:Value} {a' b':Int} (hi:gu T (w2.setCell ⟨L.gb,j,none⟩ u) L W s lc al cl v2 (code++xs) a' b'):jL T w L W s lc al cl v code a' b' nb cs ty xs (w2.setCell ⟨L.gb,j,none⟩ u) v2:=
 ⟨hi,h.k.trans h.o (Kg.set _ _ _),h.o,(dB _ _ _ rfl (by have:=L.b1;have:=h.g;show L.gb≠nb;omega)).trans h.x,h.g,h.n⟩
theorem jL.I4 (h:jL T w L W s lc al cl v code a b nb cs ty xs w2 v2) (x:Int):jL T w L W s lc al cl v code x b nb cs ty xs (w2.setCell ⟨L.gb,8,none⟩ (.int .i64 x)) v2:=h.setOf (h.i.I4 x)
theorem jL.iE (h:jL T w L W s lc al cl v code a b nb cs ty xs w2 v2) (x:Int):jL T w L W s lc al cl v code a x nb cs ty xs (w2.setCell ⟨L.gb,9,none⟩ (.int .i64 x)) v2:=h.setOf (h.i.iE x)
theorem gu.Hy (h:gu T w L W s lc al cl v code a b) {k:Nat} {x:dF} (hx:code[k]? =some x): ∃g cap,v= .slice (some ⟨g,0,none⟩) code.length cap∧L.B1<=g∧(∀j u,(lq x)[j]? =some u->w.cell? ⟨g,k*6+j,none⟩=some u)∧∀j,w.frozen? ⟨g,j,none⟩=false:=by
 have hk:=(List.getElem?_eq_some_iff.1 hx).1;rcases h.row.2 with⟨-,hn⟩|⟨g,cap,cur,rfl,hb,hg,h1,h2,h3,h4⟩
 ·omega
 ·refine⟨g,cap,rfl,hb,λj u hu=> ?_,λ_=>bC hg⟩;have hF:=flat_get zD code k x j u hx hu;rw[<- h4]at hF;have hlt:=(List.getElem?_eq_some_iff.1 hF).1;rw[List.getElem?_take_of_lt adl]at hF;exact aQ hg aik
theorem jL.patch {g cap:Nat} (h:jL T w L W s lc al cl v code a b nb cs ty xs w2 (.slice (some ⟨g,0,none⟩) (code++xs).length cap)) (i j:Nat) (x y:dF) (u:Value) (hx:xs[i]? =some x) (hj:j<6) (hy:lq y=(lq x).set j u):
 jL T w L W s lc al cl v code a b nb cs ty (xs.set i y) (w2.setCell ⟨g,(code.length+i)*6+j,none⟩ u) (.slice (some ⟨g,0,none⟩) (code++xs).length cap):=by
 have hx':(code++xs)[code.length+i]? =some x:=by rw[List.getElem?_append_right ahe];simpa using hx
 obtain⟨p1,p2⟩:=h.i.patch (code.length+i) j x y u hx' hj hy;have hlt:=(aU h.x);have e:(code++xs).set (code.length+i) y=code++xs.set i y:=by rw[List.set_append_right _ _ ahe];simp
 rw[e]at p1;exact⟨p1,h.k.trans h.o p2,h.o,(p2.block nb hlt adR h.n).trans h.x,h.g,h.n⟩
end
namespace Md
theorem Ii (p:Pr) (j:Nat) (tn iK:ByteArray): ∀(l ar:aY) (f g:List (List UInt8)),(gI p j tn iK l ar f g).err=0->l.Ev (λh=> ∃ar f g,jy p j tn iK ar f g h=0)
 | .nil,_,_,_,_=>trivial
 | .cons h b e r,ar,f,g,h0=>by
   rw[gI]at h0;split at h0
   ·exact absurd (show(2:Int)=0 from h0) ahf
   ·split at h0
    ·rename_i h1;rw[show jy p j tn iK ar (mem f) (mem g) h=0 from h0]at h1;exact absurd h1 ahf
    ·rename_i h1;split at h0
     ·rename_i h2;rw[h0]at h2;exact absurd h2 ahf
     ·rename_i h2;split at h0
      ·rename_i h3;rw[h0]at h3;exact absurd h3 ahf
      ·rename_i h3;refine⟨⟨ar,mem f,mem g,ahl⟩,Ii p j tn iK b _ _ _ aho,Ii p j tn iK e _ _ _ (by simpa using h3),Ii p j tn iK r _ _ _ h0⟩
theorem Rq (p:Pr) (iK:ByteArray): ∀(l:List Th) (j:Nat) (f g:List (List UInt8)),(jK p iK l j f g).err=0->∀t∈l,∃j:Nat,t.body.Ev (λh=> ∃ar f g,jy p j t.nm iK ar f g h=0)
 | [],_,_,_,_=>λt h=>ahC
 |t::r,j,f,g,h0=>by
  rw[jK]at h0;split at h0
  ·rename_i h2;rw[h0]at h2;exact absurd h2 ahf
  ·rename_i h2;intro x hx;rcases List.mem_cons.1 hx with rfl|hx
   ·exact⟨j,Ii p j _ iK _ _ _ _ aho⟩
   ·exact Rq p iK r _ _ _ h0 x hx
theorem YW: ∀(l:List Th) (W:Wo) (i:Nat),(AO W i l).cs=W.cs∧(AO W i l).ls=W.ls∧(AO W i l).ns=W.ns∧(AO W i l).fs=W.fs
 | [],_,_=>⟨rfl,rfl,rfl,rfl⟩
 |t::r,W,i=>by rw[AO];exact YW r _ _
theorem Ul {d:De} (hd:d.kind=1): ∀ {l:List De} (W:Wo),(d∈l∨∃c∈W.cs,c.nm=d.nm)->∃c∈(l.foldl lH W).cs,c.nm=d.nm
 | [],W,h=>by
   rcases h with h|h
   ·cases h
   ·exact h
 |x::r,W,h=>by
  rw[List.foldl_cons];refine Ul hd (lH W x) ?_;rcases h with h|⟨c,hc,e⟩
  ·rcases List.mem_cons.1 h with rfl|h
   ·right;refine⟨⟨d.nm,(0:Nat),d.size,d.kind==2,d.init⟩,?_,rfl⟩;have hk:(d.kind==1||d.kind==2)=true:=(by rw[hd];rfl);unfold lH;rw[if_pos hk];show _∈W.cs++Gn d;refine List.mem_append_right _ ?_;unfold Gn;obtain⟨n,hn⟩: ∃n,(max d.size 1).toNat=n+1:=⟨(max d.size 1).toNat -1,ahe⟩;rw[hn,rH];exact aW
   ·exact .inl h
  ·right;refine⟨c,?_,e⟩;unfold lH;split
   ·exact List.mem_append_left _ hc
   ·split
    ·exact hc
    ·split <;> exact hc
theorem Hl {p:Pr} {i:Int} {nm:ByteArray} (h:mean p i nm=3):0<=(jg p).cell nm:=by
 unfold mean at h;split at h
 ·exact absurd h ahf
 ·unfold ql at h;cases hf:p.ds.find? (λd=>d.nm.toList==nm.toList)with
  |none=>rw[hf]at h;simp at h;unfold sO at h;split at h <;> exact absurd h ahf
  |some d=>
   rw[hf]at h;simp only[Option.map_some,Option.getD_some]at h;have hd:d.kind=1:=by
    unfold fZ at h;split at h
    ·rename_i hk;simpa using hk
    ·split at h
     ·exact absurd h ahf
     ·split at h
      ·exact absurd h ahf
      ·split at h
       ·exact absurd h ahf
       ·split at h
        ·exact absurd h ahf
        ·split at h <;> exact absurd h ahf
   have hm:=List.mem_of_find?_eq_some hf;have hn:=List.find?_some hf;obtain⟨c,hc,e⟩:=Ul hd pF (.inl hm);unfold Wo.cell fK jg;refine TQ _ _ _ ahf ⟨c.nm,List.mem_map.2 ⟨c,?_,rfl⟩,?_⟩
   ·rw[(YW _ _ _).1];exact hc
   ·rw[e];simpa using hn
theorem Mv {p:Pr} {i:Int} : ∀ {l:bY},uQ p i l=0->Jg (jg p) l=true
 | .nil,_=>rfl
 | .cons op n nm kids rest,h=>by
   rw[uQ]at h;split at h
   ·rename_i h1;split at h
    ·rename_i h2;rw[Jg,Mv aho,Mv h];have h1:qL p i op nm=0:=ahl;unfold qL at h1;by_cases h3:op=3
     ·subst h3;have:=sM (show dU (mean p i nm) [3]=0 from h1);simp[Hl (this)]
     ·simp[h3]
    ·rename_i h2;rw[h]at h2;exact absurd rfl h2
   ·rename_i h1;rw[h]at h1;exact absurd rfl h1
theorem KW {p:Pr} {i op n:Int} {nm:ByteArray} {kids:bY} (h:kZ p i op n nm kids=0):ze (jg p) op nm kids=true:=by
 unfold kZ at h;split at h
 ·split at h
  ·exact absurd h ahf
  ·unfold wQ at h;split at h
   ·rename_i h1;have h1:qL p i op nm=0:=ahl;unfold ze;rw[Mv h];unfold qL at h1;by_cases h3:op=3
    ·subst h3;have:=sM (show dU (mean p i nm) [3]=0 from h1);simp[Hl (this)]
    ·simp[h3]
   ·rename_i h1;rw[h]at h1;exact absurd rfl h1
 ·exact absurd h ahf
theorem len_nil {l:bY} (h:l.len=0):l= .nil:=by
 cases l with
 |nil=>rfl
 |cons=>simp[bY.len]at h
theorem ah7 {W:Wo} {op n:Int} {nm:ByteArray} {kids:bY} (h:qN op n nm kids.len=true):ze W op nm kids=true:=by
 unfold qN at h;simp only[aP,beq_iff_eq]at h;obtain⟨⟨⟨h1,-⟩,-⟩,h2⟩:=h;rw[len_nil h2,h1];rfl
theorem YB {h:dM} {bl el:Nat} (hs:ou h bl el=true):h.idx.len<=1∧(h.op≠1->h.idx= .nil)∧(fX h.op=false->qN h.dQ h.xn h.dP h.bG.len=true)∧1<=h.op∧h.op<=15:=by
 unfold ou at hs;simp only[aP]at hs;obtain⟨⟨⟨h1,-⟩,⟨h2,h3⟩,-⟩,h4,-⟩:=hs;unfold fO at h1;simp only[aP,decide_eq_true_eq]at h1 h2;refine⟨h2,λhne=> ?_,λhx=> ?_,h1⟩
 ·have hl:h.idx.len≠1:=λe=>by rw[e]at h3;unfold fI at h3;simp at h3;exact hne h3
  exact len_nil ahe
 ·rw[hx]at h4;simpa using h4
theorem aQ1 {p:Pr} {j:Nat} {tn iK:ByteArray} {ar:aY} {f g:List UInt8->Bool} {h:dM} {bl el:Nat} (hs:ou h bl el=true) (h0:jy p j tn iK ar f g h=0):Hq (jg p) h=true:=by
 obtain⟨hl,hi,hx,ho1,ho2⟩:=YB hs;have key: ∀(he:ze (jg p) h.dQ h.dP h.bG=true),h.op≠1->Hq (jg p) h=true:=λhe hne=>by unfold Hq;rw[he,hi hne];rfl
 by_cases h1:h.op=1
 ·unfold jy at h0;rw[h1,if_pos aip]at h0;unfold Gi at h0;split at h0
  ·rename_i hz;have hz:h.idx.len=0:=by simpa using hz
   have:=KW (mM h0 _ (aX _ aW));unfold Hq;rw[this,len_nil hz];rfl
  ·rename_i hz;have hz:h.idx.len≠0:=by simpa using hz
   have e1:=sM (mM h0 _ aW);have e2:=mM h0 _ (aX _ aW);have e3:=KW (mM h0 _ (aX _ (aX _ aW)));have ec:=Hl (e1);unfold Hq;cases hidx:h.idx with
   |nil=>rw[hidx]at hz;exact absurd rfl hz
   |cons op n nm kids r=>rw[hidx]at e2 hl;have hr:r= .nil:=len_nil (by simp only[bY.len]at hl;omega);have:=KW (show kZ p j op n nm kids=0 from e2);unfold ze at this;rw[e3,hr,Jg,this];simp[Jg,ec]
 ·have hne:=h1;by_cases hf:fX h.op=true
  ·refine key (KW (p:=p) (i:=j) (n:=h.xn) ?_) hne;unfold fX at hf;simp only[Bool.or_eq_true,beq_iff_eq]at hf;rcases hf with(hf|hf)|(hf|hf)
   ·exact absurd hf hne
   ·unfold jy at h0;rw[hf]at h0;exact h0
   ·unfold jy at h0;rw[hf]at h0;exact h0
   ·unfold jy at h0;rw[hf]at h0;exact mM (show fQ _=0 from h0) _ ahg
  ·exact key (ah7 (hx (by simpa using hf))) hne
theorem F4: ∀ {l:aY},fT l=true->l.Ev (λh=> ∃bl el,ou h bl el=true)
 | .nil,_=>trivial
 | .cons h b e r,hs=>by rw[fT]at hs;simp only[aP]at hs;exact⟨⟨_,_,hs.1.1⟩,F4 hs.1.2.1,F4 hs.1.2.2,F4 hs.2⟩
theorem uS {p:Pr} (h:(jC p).1=0):qz p=true∧(lV p.ds [] 0 0 0 0).1=0∧p.ts.length<=4∧(kW p).1=0∧sJ p.ts 0<=60∧(jK p (kN p) p.ts 0 [] []).err=0:=by
 unfold jC at h;split at h
 ·exact absurd h ahf
 ·rename_i h1;split at h
  ·rename_i h2;rw[h]at h2;exact absurd h2 ahf
  ·rename_i h2;split at h
   ·exact absurd h ahf
   ·rename_i h3;split at h
    ·rename_i h4;rw[h]at h4;exact absurd h4 ahf
    ·rename_i h4;split at h
     ·exact absurd h ahf
     ·rename_i h5;simp only[decide_eq_true_eq]at h3 h5;exact⟨ahl,aho,ahe,ahO,ahe,h⟩
theorem okP {p:Pr} (h:(jC p).1=0): ∀t∈p.ts,t.body.Ev (λh=>Hq (jg p) h=true):=by
 obtain⟨h1,-,-,-,-,h6⟩:=uS h;intro t ht;obtain⟨j,hj⟩:=Rq p _ _ _ _ _ h6 t ht;unfold qz at h1;simp only[aP]at h1;have h2:=List.all_eq_true.1 h1.1.2 t ht;unfold oU at h2;simp only[aP]at h2;refine(hj.and (F4 h2.2)).imp λx hx=> ?_;obtain⟨⟨ar,f,g,h0⟩,bl,el,hs⟩:=hx;exact aQ1 hs h0
end Md
namespace Md
def qO (d:De):Nat->Nat->List tT
 |0,_=>[]
 |n+1,k=>⟨d.nm,k,d.size,false,d.init⟩::qO d n (k+1)
def lM (d:De):List tT:=if d.size==0 then [⟨d.nm,0,0,d.kind==2,d.init⟩]else qO d d.size.toNat 0
def gD (W:Wo) (g:List UInt8->Int) (d:De):List UInt8->Int:=if d.kind==3||d.kind==4 then λx=>if x=d.nm.toList then(W.ls.length:Int)else g x else g
def kV (W:Wo) (g:List UInt8->Int) (d:De):Wo:=
 if d.kind==1||d.kind==2 then {W with cs:=W.cs++lM d} else if d.kind==3||d.kind==4 then {W with ls:=W.ls++[⟨d.nm,d.kind==4⟩]} else
 if d.kind==5 then {W with ns:=W.ns++[⟨d.nm,g d.on.toList⟩]} else if d.kind==6 then {W with fs:=W.fs++[d.nm]} else W
def I7:List De->Wo->(List UInt8->Int)->Wo
 | [],W,_=>W
 |d::r,W,g=>I7 r (kV W g d) (gD W g d)
theorem WT {d:De} (h:(d.kind==2)=false): ∀(n k:Nat),qO d n k=rH d n k
 |0,_=>rfl
 |n+1,k=>by rw[qO,rH,WT h n,h]
theorem aF6 {d:De} (hs:iV d=true):lM d=Gn d:=by
 unfold iV at hs;simp only[aP,decide_eq_true_eq]at hs;obtain⟨⟨⟨⟨h1,h2⟩,-⟩,h3,h4⟩,-⟩:=hs;unfold lM Gn;split
 ·rename_i h0;have h0:d.size=0:=by simpa using h0
  rw[h0];show _=rH d 1 0;rw[rH,rH,h0];rfl
 ·rename_i h0;have h0:d.size≠0:=by simpa using h0
  have hk:d.kind=1:=by simpa[h0]using h4
  rw[WT (by rw[hk];rfl),show max d.size 1=d.size by omega]
theorem QE: ∀(l:List ByteArray) (s nm:ByteArray) (k:Int),(∀x∈l,x.toList≠s.toList)->sD (l++[s]) nm k=if nm.toList=s.toList then k+l.length else sD l nm k
 | [],s,nm,k,_=>by
   simp only[List.nil_append,sD,aI];by_cases h:nm.toList=s.toList
   ·simp[h]
   ·have: ¬s.toList=nm.toList:=λe=>h e.symm;simp[h,this]
 |y::r,s,nm,k,hn=>by
  have ih:=QE r s nm (k+1) (λx hx=>hn x (aX _ hx));have hy:=hn y aW;rw[List.cons_append,sD,ih,sD];by_cases h:nm.toList=s.toList
  ·rw[if_pos h,if_pos h];have:(y.toList==nm.toList)=false:=by rw[h];simpa using hy
   rw[this];simp only[ay];rw[if_neg ahf];omega
  ·rw[if_neg h,if_neg h]
structure AV (pre:List De) (W:Wo) (g:List UInt8->Int):Prop where
 sub: ∀s∈W.ls.map (·.nm),∃d∈pre,d.nm.toList=s.toList
 eq: ∀x:ByteArray,0<=fK (W.ls.map (·.nm)) x->g x.toList=fK (W.ls.map (·.nm)) x
 has: ∀d∈pre,d.kind=3∨d.kind=4->0<=fK (W.ls.map (·.nm)) d.nm
theorem at1 {pre:List De} {l:List UInt8} (h:mD pre l=0): ∀d∈pre,d.nm.toList≠l:=by
 have hf:=TU (pre:=pre) (l:=l) (by rw[h];rfl);intro d hd e;have:=List.find?_eq_none.1 hf d hd;simp[e]at this
theorem AV.step {pre:List De} {W:Wo} {g:List UInt8->Int} {d:De} (h:AV pre W g) (hd:mD pre d.nm.toList=0):AV (pre++[d]) (kV W g d) (gD W g d):=by
 have hz:=at1 hd;by_cases hk:(d.kind==3||d.kind==4)=true
 ·have h12:(d.kind==1||d.kind==2)=false:=by simp only[Bool.or_eq_true,beq_iff_eq]at hk;rcases hk with hk|hk <;> rw[hk] <;> rfl
  have e1:(kV W g d).ls=W.ls++[⟨d.nm,d.kind==4⟩]:=by unfold kV;rw[h12,hk];rfl
  have e2:gD W g d=λx=>if x=d.nm.toList then(W.ls.length:Int)else g x:=by unfold gD;rw[if_pos hk]
  have e3:(kV W g d).ls.map (·.nm)=W.ls.map (·.nm)++[d.nm]:=by rw[e1];simp
  have hne: ∀x∈W.ls.map (·.nm),x.toList≠d.nm.toList:=λx hx e=>by obtain⟨d',hd',e'⟩:=h.sub x hx;exact hz d' hd' (e'.trans e)
  have e4: ∀x,fK ((kV W g d).ls.map (·.nm)) x=if x.toList=d.nm.toList then(W.ls.length:Int)else fK (W.ls.map (·.nm)) x:=λx=>by rw[e3];unfold fK;rw[QE _ _ _ _ hne];simp
  refine⟨λs hs=> ?_,λx hx=> ?_,λd' hd' hk'=> ?_⟩
  ·rw[e3]at hs;rcases List.mem_append.1 hs with hs|hs
   ·obtain⟨d',h1,h2⟩:=h.sub s hs;exact⟨d',List.mem_append_left _ h1,h2⟩
   ·rw[List.mem_singleton.1 hs];exact⟨d,List.mem_append_right _ (List.mem_singleton.2 rfl),rfl⟩
  ·rw[e4]at hx⊢;rw[e2];show(if _ then _ else _)=_;by_cases hc:x.toList=d.nm.toList
   ·rw[if_pos hc,if_pos hc]
   ·rw[if_neg hc]at hx⊢;rw[if_neg hc];exact h.eq x hx
  ·rw[e4];split
   ·omega
   ·rename_i hc;rcases List.mem_append.1 hd' with hd'|hd'
    ·exact h.has d' hd' hk'
    ·rw[List.mem_singleton.1 hd']at hc;exact absurd rfl hc
 ·have hk:(d.kind==3||d.kind==4)=false:=by simpa using hk
  have e1:(kV W g d).ls=W.ls:=by
   unfold kV;rw[hk];split
   ·rfl
   ·rw[if_neg ahf];split
    ·rfl
    ·split <;> rfl
  have e2:gD W g d=g:=by unfold gD;rw[hk];rfl
  rw[e2];refine⟨λs hs=> ?_,λx hx=> ?_,λd' hd' hk'=> ?_⟩
  ·rw[e1]at hs;obtain⟨d',h1,h2⟩:=h.sub s hs;exact⟨d',List.mem_append_left _ h1,h2⟩
  ·rw[e1]at hx⊢;exact h.eq x hx
  ·rw[e1];rcases List.mem_append.1 hd' with hd'|hd'
   ·exact h.has d' hd' hk'
   ·rw[List.mem_singleton.1 hd']at hk';simp only[Bool.or_eq_false_iff,beq_eq_false_iff_ne]at hk;rcases hk' with e|e
    ·exact absurd e hk.1
    ·exact absurd e hk.2
theorem UQ {d:De} (h:fZ d=4):d.kind=3:=by
 unfold fZ at h;split at h
 ·split at h <;> exact absurd h ahf
 ·split at h
  ·exact absurd h ahf
  ·split at h
   ·rename_i hk;simpa using hk
   ·split at h
    ·exact absurd h ahf
    ·split at h
     ·exact absurd h ahf
     ·split at h <;> exact absurd h ahf
theorem AV.cond {pre:List De} {W:Wo} {g:List UInt8->Int} {on:ByteArray} (h:AV pre W g) (hm:mD pre on.toList=4):g on.toList=fK (W.ls.map (·.nm)) on:=by
 unfold mD at hm;cases hf:pre.find? (λd=>d.nm.toList==on.toList)with
 |none=>rw[hf]at hm;exact absurd hm ahf
 |some d=>
  rw[hf]at hm;have hd:=UQ (show fZ d=4 from hm);have h1:=List.mem_of_find?_eq_some hf;have h2:=List.find?_some hf;have h2:d.nm.toList=on.toList:=aho
  refine h.eq on ?_;have:=h.has d h1 (.inl hd);unfold fK at this⊢;rcases Lp (W.ls.map (·.nm)) d.nm 0 with h3|h3
  ·omega
  ·have e: ∀(l:List ByteArray) (k:Int),sD l on k=sD l d.nm k:=λl=>by
    induction l with
    |nil=>intro k;rfl
    |cons s r ih=>intro k;rw[sD,sD,ih,h2]
   rw[e];exact this
theorem ap6: ∀(l pre:List De) (W:Wo) (g:List UInt8->Int) (c x n f:Int),(∀d∈l,iV d=true)->AV pre W g->(lV l pre c x n f).1=0->I7 l W g=l.foldl lH W
 | [],_,_,_,_,_,_,_,_,_,_=>rfl
 |d::r,pre,W,g,c,x,n,f,hs,hI,h0=>by
  have hsd:=hs d aW;rw[lV]at h0;split at h0
  ·exact absurd (show(4:Int)=0 from h0) ahf
  ·rename_i h1;split at h0
   ·exact absurd (show(2:Int)=0 from h0) ahf
   ·split at h0
    ·exact absurd (show(2:Int)=0 from h0) ahf
    ·split at h0
     ·exact absurd (show(5:Int)=0 from h0) ahf
     ·split at h0
      ·exact absurd (show(6:Int)=0 from h0) ahf
      ·rename_i h5;have h1:mD pre d.nm.toList=0:=ahl;have e:kV W g d=lH W d:=by
        unfold kV lH;rw[aF6 hsd];split
        ·rfl
        ·split
         ·rfl
         ·split
          ·rename_i hk;have:mD pre d.on.toList=4:=(by simpa[hk]using h5);rw[hI.cond this]
          ·rename_i k1 k2 k3;have Eo:d.kind=6:=(by unfold iV at hsd;simp only[aP,decide_eq_true_eq]at hsd;obtain⟨⟨⟨⟨q1,q2⟩,-⟩,-⟩,-⟩:=hsd;simp only[Bool.or_eq_true,beq_iff_eq,not_or]at k1 k2 k3;omega);rw[Eo];rfl
       rw[I7,List.foldl_cons,e];have:=hI.step h1;rw[e]at this;exact ap6 r (pre++[d]) _ _ _ _ _ _ (λy hy=>hs y (aX _ hy)) this h0
theorem AV.start:AV [] pF (λ_=>0):=by
 refine⟨λs hs=>(by cases hs),λx hx=> ?_,λd hd=>(by cases hd)⟩;have:fK (pF.ls.map (·.nm)) x= -1:=rfl;omega
theorem ap7 {p:Pr} (h:(jC p).1=0):I7 p.ds pF (λ_=>0)=p.ds.foldl lH pF:=by
 obtain⟨h1,h2,-⟩:=uS h;unfold qz at h1;simp only[aP]at h1;exact ap6 _ _ _ _ _ _ _ _ (λd hd=>List.all_eq_true.1 h1.1.1 d hd) AV.start h2
end Md
namespace Md
def FB (n:Int):List Value:=[.int .i64 n]
def uO:aY->List Int
 | .nil=>[]
 | .cons h b e r=>h.line::(uO b++uO e++uO r)
theorem nV: ∀l:aY,(uO l).length=dh l
 | .nil=>rfl
 | .cons h b e r=>by have h1:=nV b;have h2:=nV e;have h3:=nV r;simp only[uO,dh,ay,au];omega
end Md
theorem TP: ∀n:Int,(FB n).length=1:=λ_=>rfl
theorem bq3 (n:Int): ∀u∈FB n,u.oneCell'=true:=by intro u hu;simp[FB]at hu;subst hu;rfl
theorem aS6:(Tryz.prog.info? 3).map (λi=>(i.zero,i.size,i.bytes))=some (some (.int .i64 0),1,8):=ahd
theorem infoP {o:Option TypeInfo} {z:Option Value} {a b:Nat} (h:o.map (λi=>(i.zero,i.size,i.bytes))=some (z,a,b)): ∃i0,o=some i0∧i0.zero=z∧i0.size=a∧i0.bytes=b:=by
 cases o with
 |none=>cases h
 |some i=>simp at h;exact⟨i,rfl,h.1,h.2.1,h.2.2⟩
theorem JF {v v1:Value} {w w1 w2:World} (h:w.grownBy w1 v.ownBlock) (ho:nN w v v1) (k:w1.grownBy w2 v1.ownBlock):w.grownBy w2 v.ownBlock:=
 ⟨k.os.trans h.os,k.tape.trans h.tape,k.output.trans h.output,aR h.size k.size,λj hj hne=>(k.block j (aJ hj h.size) (by
   rcases ho with e|⟨g,e,hg⟩
   ·rw[e];exact hne
   ·rw[e];intro e';injection e' with e';omega)).trans (h.block j hj hne)⟩
theorem wN {w w':World} {g:Option Nat} (h:Below w.heap.size w w'):w.grownBy w' g:=⟨h.os,h.tape,h.output,h.size,λk hk _=>h.block k hk⟩
theorem nA {w w':World} {base n m:Nat} {e:TypeId} {v:Value} {xs:List Value} (h:w.ownsRow base e m v n xs) (hb:Below w.heap.size w w'):w'.ownsRow base e m v n xs:=
 h.kept (row:=none) ⟨hb.os,hb.tape,hb.output,hb.size,λk hk _=>hb.block k hk⟩ adp
structure Wy (T:TypeId) (B nb:Nat) (cs:Array Value) (ty:TypeId) (w:World) (v:Value) (xs:List Int) (w2:World) (v2:Value):Prop where
 r:w2.ownsRow B T 1 v2 xs.length (xs.flatMap FB)
 g:w.grownBy w2 v.ownBlock
 o:nN w v v2
 x:w2.heap[nb]? =some (.cells cs ty (0,0))
 b:B<=w2.heap.size
 n:v2.ownBlock≠some nb
def DX (l:aY):Prop:= ∀(w:World) (B:Nat) (v:Value) (xs:List Int) (ao:Option Addr) (cap:Nat),w.ownsRow B 3 1 v xs.length (xs.flatMap FB)->B<=w.heap.size->l.len<=maxLen->l.At w B ao 0->xs.length+dh l<=1000000000000->
 Calls Tryz.prog 25 #[v,.slice ao l.len cap] w λe w'=> ∃v',e= .returned v'∧w'.ownsRow B 3 1 v' (xs++uO l).length ((xs++uO l).flatMap FB)∧w.grownBy w' v.ownBlock∧nN w v v'
theorem Wy.call {T ty:TypeId} {B nb:Nat} {cs:Array Value} {w w2 w':World} {v v2 v':Value} {xs ys:List Int} (h:Wy T B nb cs ty w v xs w2 v2) (hr:w'.ownsRow B T 1 v' ys.length (ys.flatMap FB)) (hg:w2.grownBy w' v2.ownBlock) (ho:nN w2 v2 v'):Wy T B nb cs ty w v ys w' v':=by
 have hlt:=(aU h.x);exact⟨hr,JF h.g h.o hg,h.o.trans ho h.g.size,(hg.block nb hlt (λe=>h.n e.symm)).trans h.x,aR h.b hg.size,ho.ne hlt h.n⟩
theorem xB {B:Nat} {T:TypeId} {m n:Nat} {v:Value} {w w':World} {xs:List Value} (h:w.ownsRow B T m v n xs) (hB:B<=w.heap.size) (hg:w.grownBy w' v.ownBlock):Below B w w':=
 ⟨hg.os,hg.tape,hg.output,hg.size,λk hk=>hg.block k ahe (λe=>by have:=(h.lt k e.symm).1;omega)⟩
theorem JQ (l:aY) (hall:l.All λ_ b e=>DX b∧DX e):DX l:=by
 intro w B v xs ao cap hrow hBw hl hat hlen;generalize hres:xs++uO l=res;have HR:=ah hres;have HRW:=ah hrow;have HAT:=ah hat;have HL:=ah hlen;have jM:=ah hall;have lX:=ah hBw;obtain⟨i0,hi,hz0,hz1,hz2⟩:=infoP aS6;have fF:=ah (aB hi (aB hz0 (aB hz1 hz2)));unfold maxLen at hl;clear hres hrow hat hlen hall hBw hi hz0 hz1 hz2;go_enter Tryz.func25,Tryz.ntmps25;go_wp2_with fail;go_loopw [0,6,9] (λv0 _ i wr=> ∃(k:Nat) (R:aY) (ys:List Int),i= .int .i64 k∧k+R.len=l.len∧res=ys++uO R∧ys.length+dh R<=1000000000000∧(R.All λ_ b e=>DX b∧DX e)∧R.At wr B ao k∧B<=wr.heap.size∧wr.ownsRow B 3 1 v0 ys.length (ys.flatMap FB)∧w.grownBy wr v.ownBlock∧nN w v v0) (λ_ _ i _=>l.len -(intOf i).toNat)
 case atStart=>exact⟨0,l,xs,rfl,ahg,HR.o.symm,HL.o,jM.o,HAT.o,lX.o,HRW.o,Bj _,.inl rfl⟩
 case round=>
  obtain⟨k,R,ys,rfl,hlen,heq,hl12,hall,hat,hBr,hrow,hgr,how⟩:=hrel;have HE:=ah heq;have N8:=ah hl12;have M9:=ah hrow;have HG:=ah hgr;have HO:=ah how;have Fg:=ah hBr;clear heq hl12 hrow hgr how hBr;cases R with
  |nil=>
   obtain rfl:k=l.len:=afs
   have HX:aj (res=ys):=ah (by rw[HE.o];simp[uO]);clear hat hall;go_wp2_with fail;go_ret;exact⟨_,rfl,by rw[HX.o];exact M9.o,HG.o,HO.o⟩
  |cons h e0 e1 R=>
   obtain⟨bl,off,sl,rfl,hbl,hin,hcs,hrest⟩:=Dc hat;have hkl:k<l.len:=acO
   obtain⟨⟨hs0,hs1⟩,qE⟩:=hall;have mR:=ah (aB hs0 hs1);have jZ:=ah qE;have EF:=ah hin;have kr:=ah hrest;have x0:=hcs 0 _ rfl;have x1:=hcs 1 _ rfl;have x2:=hcs 2 _ rfl;have x3:=hcs 3 _ rfl;have x4:=hcs 4 _ rfl;have x5:=hcs 5 _ rfl;have x6:=hcs 6 _ rfl;have x7:=hcs 7 _ rfl;have x8:=hcs 8 _ rfl;have x9:=hcs 9 _ rfl;have x10:=hcs 10 _ rfl;simp only[stA,Nat.add_zero]at x0 x1 x2 x3 x4 x5 x6 x7 x8 x9 x10;clear hat hin hcs hrest hs0 hs1 qE;go_upto_region 4 with fail;generalize hW2:World.alloc wr _=w2;obtain⟨nb,hnb,HB,-,HX,-⟩:=nI hW2;have S0:aj (Wy 3 B nb (stA h e0 e1 sl) 101 wr u0 ys w2 u0):=ah ⟨nA M9.o HB.o,wN HB.o,.inl rfl,HX.o,aR Fg.o HB.o.size,λe=>by have:=(M9.o.lt _ e).2;omega⟩;rw[hnb];clear hW2 hnb x0 x1 x2 x3 x4 x5 x6 x7 x8 x9 x10 HX;have z1:=aQ (j:=1) S0.o.x rfl;have z9:=aQ (j:=9) S0.o.x rfl;have dw:=aQ (j:=10) S0.o.x rfl;simp only[stA,List.getElem_toArray,List.getElem_cons_zero,List.getElem_cons_succ]at z1 z9 dw;have iY:aj (Below w2.heap.size w2 (w2.alloc (.cells (FB h.line).toArray 3))):=ah (aA _ _);have jd:=ah (gG (heap_alloc_new w2 (.cells (FB h.line).toArray 3)));have lY:=ah (nA S0.o.r iY.o);obtain⟨hi,hz0,hz1,hz2⟩:=fF.o;have hk1:ys.length+1<=maxLen:=by have:=N8.o;simp only[dh]at this;unfold maxLen;omega
   have kT:(ys.length+1)*8<=140737488355328:=by have:=N8.o;simp only[dh]at this;omega
   have hbs:B<=w2.heap.size+1:=Nat.le_succ_of_le S0.o.b;go_wp2_with (at_builtin;refine wpList_append_lies _ rfl _ _ 77 rfl B 3 i0 _ 1 8 Tryz.underlying77 hi hz0 hz1 hz2 rfl ahf _ _ _ rfl lY.o ⟨w2.heap.size,0,none⟩ 1 1 (FB h.line) rfl rfl jd.o (bq3 _) ahf hk1 kT afr _ rfl ?_);intro g' cap' w3 hown hgr hmv hlt3;clear hi hz0 hz1 hz2 hk1 kT hbs z1 z9 dw;have S1:aj (Wy 3 B nb (stA h e0 e1 sl) 101 wr u0 (ys++[h.line]) w3 (.slice (some ⟨g',0,none⟩) (ys.length+1) cap')):=ah (S0.o.call aaz (iQ (wN iY.o) hgr) (by
    rcases hmv with e|e
    ·exact .inl ahK
    ·exact .inr ⟨g',rfl,aex⟩))
   have oW:=ah (xB M9.o Fg.o S1.o.g);clear hown hgr hmv hlt3 lY jd iY S0;have z9:=aQ (j:=9) S1.o.x rfl;have dw:=aQ (j:=10) S1.o.x rfl;simp only[stA,List.getElem_toArray,List.getElem_cons_zero,List.getElem_cons_succ]at z9 dw;go_wp2_with fail;refine(mR.o.1 w3 B _ (ys++[h.line]) sl.dL sl.cK S1.o.r S1.o.b EF.o.1.2.2.2.2.2.2.1 (EF.o.2.2.2.1.below oW.o) (by have:=N8.o;simp only[dh,au,ay,aI]at *;omega)).mono ?_;rintro e' w4 ⟨v4,rfl,hr4,hg4,ho4⟩;have S2:=ah (S1.o.call hr4 hg4 ho4);have EG:=ah (xB M9.o Fg.o S2.o.g);clear hr4 hg4 ho4 z9 dw;have dw:=aQ (j:=10) S2.o.x rfl;simp only[stA,List.getElem_toArray,List.getElem_cons_zero,List.getElem_cons_succ]at dw;go_wp2_with fail;refine(mR.o.2 w4 B _ (ys++[h.line]++uO e0) sl.gJ sl.fH S2.o.r S2.o.b EF.o.1.2.2.2.2.2.2.2 (EF.o.2.2.2.2.below EG.o) (by have:=N8.o;have h5:=nV e0;simp only[dh,au,ay,aI]at *;omega)).mono ?_;rintro e' w5 ⟨v5,rfl,hr5,hg5,ho5⟩;have S3:=ah (S2.o.call hr5 hg5 ho5);have Zl:=ah (xB M9.o Fg.o S3.o.g);clear hr5 hg5 ho5 dw;go_wp2_with fail;go_roundw
   case rel=>
    refine⟨k+1,R,ys++[h.line]++uO e0++uO e1,ahi,acO,?_,?_,jZ.o,kr.o.below Zl.o,S3.o.b,S3.o.r,JF HG.o HO.o S3.o.g,HO.o.trans S3.o.o HG.o.size⟩
    ·rw[HE.o,uO];simp
    ·have:=N8.o;have h5:=nV e0;have h6:=nV e1;simp only[dh,au,ay,aI]at *;omega
   case measure=>simp[intOf];omega
theorem XU (l:aY):DX l:=JQ l (aY.mW (λ_ b e hb he=>⟨JQ b hb,JQ e he⟩) l)
theorem xq: ∀x:tT,(jW x).length=5:=λ_=>rfl
theorem PS (x:tT): ∀u∈jW x,u.oneCell'=true:=by
 intro u hu;simp[jW]at hu;rcases hu with rfl|rfl|rfl|rfl|rfl <;> rfl
theorem H8:(Tryz.prog.info? 80).map (λi=>(i.zero,i.size,i.bytes))=some (some (.agg #[.string ⟨#[]⟩,.int .i64 0,.int .i64 0,.bool false,.int .i64 0]),5,48):=ahd
theorem zy (d:De): ∀(n k:Nat),(qO d n k).length=n
 |0,_=>rfl
 |n+1,k=>by rw[qO,ay,zy d n]
theorem Nt (d:De): ∀(n k:Nat),qO d (n+1) k=qO d n k++[⟨d.nm,((k+n:Nat):Int),d.size,false,d.init⟩]
 |0,k=>rfl
 |n+1,k=>by rw[qO,Nt d n (k+1),qO,show k+1+n=k+(n+1) by omega];rfl
def bg3 (d:De) (w:World) (e:Ending) (w':World):Prop:= ∃g cap,e= .returned (.slice (some ⟨g,0,none⟩) (lM d).length cap)∧(∀j u,((lM d).flatMap jW)[j]? =some u->w'.cell? ((⟨g,0,none⟩:Addr).add j)=some u)∧0<(lM d).length∧(lM d).length<=4∧Below w.heap.size w w'
def KS (d:De):Value:= .agg #[.int .i64 d.kind,.int .i64 d.line,.string d.nm,.int .i64 d.size,.int .i64 d.init,.string d.on]
theorem PL {w:World} {g j:Nat} {u:Value} (h:w.cell? ⟨g,j,none⟩=some u):w.cell? ((⟨g,0,none⟩:Addr).add j)=some u:=by
 rcases Nat.eq_zero_or_pos j with rfl|hj
 ·simpa[Addr.add]using h
 ·simpa[Addr.add,Nat.ne_of_gt hj]using h
theorem Nu (d:De) (w:World) (h0:0<=d.size) (h4:d.size<=4):Calls Tryz.prog 24 #[KS d] w (bg3 d w):=by
 unfold KS;by_cases hz:d.size=0
 ·have hcp:lM d=[⟨d.nm,0,0,d.kind==2,d.init⟩]:=by unfold lM;rw[hz];rfl
  have MV:=ah hcp;clear hcp h0 h4;obtain⟨kd,ln,nm,sz,ini,on⟩:=d;obtain rfl:sz=0:=hz;go_enter Tryz.func24,Tryz.ntmps24;go_wp2
  all_goals (
   go_ret;refine⟨w.heap.size+1,1,by rw[MV.o];rfl,λj u hu=> ?_,by rw[MV.o];exact Nat.one_pos,by rw[MV.o];simp,(aA _ _).alloc ahg _⟩;rw[MV.o]at hu;have hg:=heap_alloc_new (w.alloc (.cells #[.int .i64 kd,.int .i64 ln,.string nm,.int .i64 0,.int .i64 ini,.string on] 55)) (.cells (jW ⟨nm,0,0,kd==2,ini⟩).toArray 80);have e:(w.alloc (.cells #[.int .i64 kd,.int .i64 ln,.string nm,.int .i64 0,.int .i64 ini,.string on] 55)).heap.size=w.heap.size+1:=ahg
   rw[e]at hg;refine PL ?_;exact aQ hg aif)
 ·have hcp:lM d=qO d d.size.toNat 0:=by unfold lM;rw[if_neg (by simpa using hz)]
  have MV:=ah hcp;have hs1:0<d.size:=ahe
  have hzb:(d.size==0)=false:=by rw[beq_eq_false_iff_ne];exact hz
  clear hcp hz;obtain⟨i0,hi,hz0,hz1,hz2⟩:=infoP H8;have fF:=ah (aB hi (aB hz0 (aB hz1 hz2)));clear hi hz0 hz1 hz2;go_enter Tryz.func24,Tryz.ntmps24;go_upto_region 1 with fail;generalize hW:World.alloc w _=w1;obtain⟨nb,hnb,HB,-,HX,-⟩:=nI hW;have iy:aj (nb<w1.heap.size):=ah (aU HX.o);rw[hnb];clear hW hnb;have z0:=aQ (j:=0) HX.o rfl;have z2:=aQ (j:=2) HX.o rfl;have z3:=aQ (j:=3) HX.o rfl;have z4:=aQ (j:=4) HX.o rfl;go_wp2_with fail;go_loopw [3,4,19] (λv3 _ i wr=> ∃k:Nat,i= .int .i64 k∧(k:Int)<=d.size∧wr.ownsRow w1.heap.size 80 5 v3 (qO d k 0).length ((qO d k 0).flatMap jW)∧Below w1.heap.size w1 wr) (λ_ _ i _=>d.size.toNat -(intOf i).toNat)
  case atStart=>exact⟨0,rfl,ahe,World.ownsRow_nil _ _ _ _,ak _ _⟩
  case round=>
   obtain⟨k,rfl,hk,hrow,hbel⟩:=hrel;have HRW:=ah hrow;have nX:=ah hbel;clear hrow hbel z0 z2 z3 z4;have oN:=ah ((nX.o.block nb iy.o).trans HX.o);have z0:=aQ (j:=0) oN.o rfl;have z2:=aQ (j:=2) oN.o rfl;have z3:=aQ (j:=3) oN.o rfl;have z4:=aQ (j:=4) oN.o rfl;by_cases hlt:(k:Int)<d.size
   ·have iY:aj (Below wr.heap.size wr (wr.alloc (.cells (jW ⟨d.nm,k,d.size,false,d.init⟩).toArray 80))):=ah (aA _ _);have jd:=ah (gG (heap_alloc_new wr (.cells (jW ⟨d.nm,k,d.size,false,d.init⟩).toArray 80)));have lY:=ah (nA HRW.o iY.o);have MU:=ah (zy d k 0);obtain⟨hi,hz0,hz1,hz2⟩:=fF.o;have hk1:(qO d k 0).length+1<=maxLen:=(by rw[MU.o];unfold maxLen;omega);have kT:((qO d k 0).length+1)*48<=140737488355328:=(by rw[MU.o];omega);have hbs:w1.heap.size<=wr.heap.size+1:=Nat.le_succ_of_le nX.o.size;go_wp2_with (at_builtin;refine wpList_append_lies _ rfl _ _ 28 rfl w1.heap.size 80 i0 _ 5 48 Tryz.underlying28 hi hz0 hz1 hz2 rfl ahf _ _ _ rfl lY.o ⟨wr.heap.size,0,none⟩ 1 1 (jW ⟨d.nm,k,d.size,false,d.init⟩) rfl rfl jd.o (PS _) ahf hk1 kT afr _ rfl ?_);intro g' cap' w3 hown hgr hmv hlt3;have HR3:aj (w3.ownsRow w1.heap.size 80 5 (.slice (some ⟨g',0,none⟩) ((qO d k 0).length+1) cap') (qO d (k+1) 0).length ((qO d (k+1) 0).flatMap jW)):=ah (by rw[Nt,List.flatMap_append,List.flatMap_singleton,au,aV];exact hown);have HB3:aj (Below w1.heap.size w1 w3):=ah (nX.o.trans (xB HRW.o nX.o.size (iQ (wN iY.o) hgr)));clear hi hz0 hz1 hz2 hk1 kT hbs hown hgr hmv hlt3 lY jd iY z0 z2 z3 z4;go_wp2_with fail;go_roundw
    case rel=>exact⟨k+1,ahi,ahe,HR3.o,HB3.o⟩
    case measure=>simp[intOf];omega
   ·have hke:d.size.toNat=k:=ahe;have HE:aj (lM d=qO d k 0):=ah (by rw[MV.o,hke]);have HK:aj (0<k∧k<=4):=ah ahe;go_wp2_with fail;go_ret;rcases HRW.o.2 with⟨-,hn⟩|⟨g,cap,cur,hv,hb,hg,h1,h2,h3,h5⟩
    ·rw[zy]at hn;have:=HK.o.1;omega
    ·refine⟨g,cap,(show Ending.returned u3=_ by rw[HE.o,hv]),λj u hu=>PL ?_,by rw[HE.o,zy];exact HK.o.1,by rw[HE.o,zy];exact HK.o.2,HB.o.trans (nX.o.mono HB.o.size)⟩;rw[HE.o,<- h5]at hu;have jY:=(List.getElem?_eq_some_iff.1 hu).1;rw[List.getElem?_take_of_lt (by rw[List.length_take]at jY;omega)]at hu;exact aQ hg (by rw[<- hu];simp)
structure Rw where
 T:TypeId
 m:Nat
 v:Value
 n:Nat
 xs:List Value
def Rw.Ok (w:World) (B:Nat) (r:Rw):Prop:=w.ownsRow B r.T r.m r.v r.n r.xs
def Apart (a b:Rw):Prop:= ∀k,a.v.ownBlock=some k->b.v.ownBlock≠some k
theorem Apart.symm {a b:Rw} (h:Apart a b):Apart b a:=λk hb ha=>h k ha hb
structure Rows (w:World) (B:Nat) (l:List Rw):Prop where
 own: ∀r∈l,r.Ok w B
 ap:l.Pairwise Apart
section
variable {w w':World} {B:Nat} {l pre post:List Rw} {r r':Rw}
theorem Rows.below (h:Rows w B l) (hb:Below w.heap.size w w'):Rows w' B l:=⟨λr hr=>nA (h.own r hr) hb,h.ap⟩
theorem Rows.keep (h:Rows w B l) {k:Nat} (hg:w.grownBy w' (some k)) (hk:k<B):Rows w' B l:=⟨λr hr=>(h.own r hr).kept hg (by
 cases hv:r.v.ownBlock with
 |none=>exact .inl rfl
 |some j=>refine .inr (λe=> ?_);have:=((h.own r hr).lt j hv).1;injection e with e;omega),h.ap⟩
theorem Rows.put (h:Rows w B (pre++r::post)) (hg:w.grownBy w' r.v.ownBlock) (hr:r'.Ok w' B) (ho:nN w r.v r'.v):Rows w' B (pre++r'::post):=by
 have hap:=h.ap;rw[List.pairwise_append,List.pairwise_cons]at hap;obtain⟨h1,⟨h2,h3⟩,h4⟩:=hap;have keep: ∀q∈pre++r::post,Apart q r->q.Ok w' B:=λq hq ha=>(h.own q hq).kept hg (by
  cases hv:q.v.ownBlock with
  |none=>exact .inl rfl
  |some j=>exact .inr (λe=>ha j hv e.symm))
 have far: ∀q∈pre++r::post,Apart q r->Apart q r':=λq hq ha k hk e=>by
  rcases ho with e'|⟨g,e',hge⟩
  ·rw[e']at e;exact ha k hk e
  ·rw[e']at e;injection e with e;subst e;have:=((h.own q hq).lt _ hk).2;omega
 have ap1: ∀q∈pre,Apart q r:=λq hq=>h4 q hq r aW;have ap2: ∀q∈post,Apart q r:=λq hq=>(h2 q hq).symm;have m1: ∀q∈pre,q∈pre++r::post:=λq hq=>List.mem_append_left _ hq;have m2: ∀q∈post,q∈pre++r::post:=λq hq=>List.mem_append_right _ (aX _ hq);refine⟨λq hq=> ?_,?_⟩
 ·rcases List.mem_append.1 hq with hq|hq
  ·exact keep q (m1 q hq) (ap1 q hq)
  ·rcases List.mem_cons.1 hq with rfl|hq
   ·exact hr
   ·exact keep q (m2 q hq) (ap2 q hq)
 ·rw[List.pairwise_append,List.pairwise_cons];refine⟨h1,⟨λq hq=>(far q (m2 q hq) (ap2 q hq)).symm,h3⟩,λq hq x hx=> ?_⟩;rcases List.mem_cons.1 hx with rfl|hx
  ·exact far q (m1 q hq) (ap1 q hq)
  ·exact h4 q hq x (aX _ hx)
end
namespace Md
structure Vs where
 v0:Value
 v1:Value
 v2:Value
 v3:Value
 v4:Value
 v5:Value
end Md
def iA (s:Vs) (W:Wo):List Rw:=[⟨80,5,s.v0,W.cs.length,W.cs.flatMap jW⟩,⟨82,2,s.v1,W.ls.length,W.ls.flatMap lF⟩,⟨84,2,s.v2,W.ns.length,W.ns.flatMap tF⟩,
 ⟨9,1,s.v3,W.fs.length,W.fs.flatMap jX⟩,⟨9,1,s.v4,W.ts.length,W.ts.flatMap jX⟩,⟨86,3,s.v5,W.ss.length,W.ss.flatMap qM⟩]
structure nH (w:World) (B bw:Nat) (s:Vs) (W:Wo):Prop where
 blk:w.heap[bw]? =some (.cells #[s.v0,s.v1,s.v2,s.v3,s.v4,s.v5] 34 (0,0))
 row:Rows w B (iA s W)
 lt:bw<B
 sz:B<=w.heap.size
theorem tK: ∀x:uD,(lF x).length=2:=λ_=>rfl
theorem Ij: ∀x:Co,(tF x).length=2:=λ_=>rfl
theorem xH: ∀x:ByteArray,(jX x).length=1:=λ_=>rfl
theorem Et: ∀x:yX,(qM x).length=3:=λ_=>rfl
section
variable {w w' w4:World} {B bw:Nat} {s:Vs} {W:Wo}
theorem nH.below (h:nH w B bw s W) (hb:Below w.heap.size w w'):nH w' B bw s W:=
 ⟨(hb.block _ (aU h.blk)).trans h.blk,h.row.below hb,h.lt,aR h.sz hb.size⟩
theorem nH.keep (h:nH w B bw s W) {k:Nat} (hg:w.grownBy w' (some k)) (hk:k<B) (hne:k≠bw):nH w' B bw s W:=
 ⟨(hg.block _ (aU h.blk) (by simp;exact λe=>hne e.symm)).trans h.blk,h.row.keep hg hk,h.lt,aR h.sz hg.size⟩
theorem nH.cells (h:nH w B bw s W):bw<w.heap.size∧w.cell? ⟨bw,0,none⟩=some s.v0∧w.cell? ⟨bw,1,none⟩=some s.v1∧w.cell? ⟨bw,2,none⟩=some s.v2∧w.cell? ⟨bw,3,none⟩=some s.v3∧w.cell? ⟨bw,4,none⟩=some s.v4∧w.cell? ⟨bw,5,none⟩=some s.v5∧∀j,w.frozen? ⟨bw,j,none⟩=false:=
 ⟨(aU h.blk),aQ h.blk rfl,aQ h.blk rfl,aQ h.blk rfl,aQ h.blk rfl,aQ h.blk rfl,aQ h.blk rfl,λ_=>bC h.blk⟩
theorem nH.grow {pre post:List Rw} {r r':Rw} {s':Vs} {W':Wo} {j:Nat} (h:nH w B bw s W) (hg:w.grownBy w4 r.v.ownBlock) (e1:iA s W=pre++r::post) (e2:iA s' W'=pre++r'::post) (hr:r'.Ok w4 B) (ho:nN w r.v r'.v)
 (hc:(#[s.v0,s.v1,s.v2,s.v3,s.v4,s.v5]:Array Value).setIfInBounds j r'.v= #[s'.v0,s'.v1,s'.v2,s'.v3,s'.v4,s'.v5]):nH (w4.setCell ⟨bw,j,none⟩ r'.v) B bw s' W':=by
 have hrow:=h.row;rw[e1]at hrow;have h4:=hrow.put hg hr ho;rw[<- e2]at h4;have hlt:=h.lt;have hne:r.v.ownBlock≠some bw:=λe=>by have:=((hrow.own r ahg).lt _ e).1;omega
 have hb:w4.heap[bw]? =some (.cells #[s.v0,s.v1,s.v2,s.v3,s.v4,s.v5] 34 (0,0)):=(hg.block _ (aU h.blk) (λe=>hne e.symm)).trans h.blk;have hgs:=cB w4 ⟨bw,j,none⟩ r'.v;exact⟨oH hb _ hc,h4.keep hgs hlt,hlt,aR h.sz (aR hg.size hgs.size)⟩
theorem nH.own (h:nH w B bw s W) {r:Rw} (hr:r∈iA s W):r.Ok w B:=h.row.own r hr
end
theorem Gt: ∀(ds pre:List De) (c l n f:Int),(lV ds pre c l n f).1=0->∀d∈ds,d.size<=4
 | [],_,_,_,_,_,_=>λd hd=>by cases hd
 |d::r,pre,c,l,n,f,h0=>by
  rw[lV]at h0;split at h0
  ·exact absurd (show(4:Int)=0 from h0) ahf
  split at h0
  ·exact absurd (show(2:Int)=0 from h0) ahf
  rename_i h2;split at h0
  ·exact absurd (show(2:Int)=0 from h0) ahf
  split at h0
  ·exact absurd (show(5:Int)=0 from h0) ahf
  split at h0
  ·exact absurd (show(6:Int)=0 from h0) ahf
  intro x hx;rcases List.mem_cons.1 hx with rfl|hx
  ·simpa using h2
  ·exact Gt r _ _ _ _ _ h0 x hx
namespace Md
def uU (i:Int):Nat->List Int->List yX
 |_,[]=>[]
 |n,x::r=>⟨i,n,x⟩::uU i (n+1) r
theorem JX (i:Int): ∀(l r:List Int) (n:Nat),uU i n (l++r)=uU i n l++uU i (n+l.length) r
 | [],r,n=>by simp[uU]
 |x::l,r,n=>by rw[List.cons_append,uU,JX i l r (n+1),uU,ay,show n+1+l.length=n+(l.length+1) by omega];rfl
theorem zH (i:Int): ∀(l:List Int) (n:Nat),(uU i n l).length=l.length
 | [],_=>rfl
 |x::l,n=>by rw[uU,ay,zH i l,ay]
theorem xD (i:Int): ∀(l:aY) (n:Nat),uj i l n=uU i n (uO l)
 | .nil,_=>rfl
 | .cons h b e r,n=>by have hb:=nV b;have he:=nV e;rw[uj,uO,uU,xD i b,xD i e,xD i r,JX,JX,au,hb,he,show n+1+(dh b+dh e)=n+1+dh b+dh e by omega]
theorem Mh {w:World} {B:Nat} : ∀ {l:List De} {ao:Option Addr} {k:Nat},iT w B l ao k->∀d∈l,d.Ok
 | [],_,_,_=>λd hd=>by cases hd
 |x::r,_,_,⟨⟨_,_,_,_,_,_,_,_,_,_,h⟩,hr⟩=>λd hd=>by
  rcases List.mem_cons.1 hd with rfl|hd
  ·exact h
  ·exact Mh hr d hd
theorem Ew {w:World} {B:Nat} : ∀ {l:List Th} {ao:Option Addr} {k:Nat},gY w B l ao k->∀t∈l,t.Ok
 | [],_,_,_=>λd hd=>by cases hd
 |x::r,_,_,⟨⟨_,_,_,_,_,_,_,_,_,_,_,_,h,_⟩,hr⟩=>λd hd=>by
  rcases List.mem_cons.1 hd with rfl|hd
  ·exact h
  ·exact Ew hr d hd
theorem Tf (d:De) (hd:dD d.size): ∀(n k:Nat),∀c∈qO d n k,dD c.sz
 |0,_=>λc hc=>by cases hc
 |n+1,k=>λc hc=>by
  rw[qO]at hc;rcases List.mem_cons.1 hc with rfl|hc
  ·exact hd
  ·exact Tf d hd n _ c hc
theorem Rz: ∀(l:List De) (W:Wo) (g:List UInt8->Int),(∀d∈l,d.Ok)->(∀c∈W.cs,dD c.sz)->(∀x∈W.fs,x.size<=maxLen)->(∀c∈(I7 l W g).cs,dD c.sz)∧(∀x∈(I7 l W g).fs,x.size<=maxLen)
 | [],W,g,_,h1,h2=>⟨h1,h2⟩
 |d::r,W,g,hd,h1,h2=>by
  obtain⟨-,-,hn,hs,-,-⟩:=hd d aW;rw[I7];refine Rz r _ _ (λx hx=>hd x (aX _ hx)) ?_ ?_
  ·unfold kV
   repeat' split
   ·intro c hc;rcases List.mem_append.1 hc with hc|hc
    ·exact h1 c hc
    ·unfold lM at hc;split at hc
     ·rw[List.mem_singleton.1 hc];show dD 0;unfold dD;decide
     ·exact Tf d hs _ _ c hc
   all_goals exact h1
  ·unfold kV
   repeat' split
   all_goals first|exact h2|skip
   intro x hx;rcases List.mem_append.1 hx with hx|hx
   ·exact h2 x hx
   ·rw[List.mem_singleton.1 hx];exact hn
theorem MO: ∀(l:List Th) (W:Wo) (i:Nat),(AO W i l).ts=W.ts++l.map (·.nm)
 | [],W,i=>by simp[AO]
 |t::r,W,i=>by rw[AO,MO r];simp
theorem Ml {w:World} {B:Nat} : ∀ {l:List ByteArray} {ao:Option Addr} {k:Nat},eu jX 1 w B l ao k->(∀x∈l,x.size<=maxLen)->fU w B l ao k
 | [],_,_,_,_=>trivial
 |s::r,ao,k,⟨⟨b,off,e,hB,c⟩,hr⟩,h=>⟨⟨b,off,e,hB,by have:=c 0 _ rfl;simpa using this,h s aW⟩,Ml hr (λx hx=>h x (aX _ hx))⟩
end Md
theorem vg {α:Type} {f:α->List Value} {m:Nat} {w:World} {base:Nat} {T:TypeId} {ao:Option Addr} {cap:Nat} {xs:List α} (hf: ∀x,(f x).length=m) (h:w.ownsRow base T m (.slice ao xs.length cap) xs.length (xs.flatMap f)):eu f m w w.heap.size xs ao 0:=by
 obtain⟨kR,cap',e,-,-,h2⟩:=gq hf h;injection e with e1 e2 e3;subst e1;exact h2
def Oo (lo:Nat) (s:jP):Prop:=(∀b,s.aC=some b->lo<=b.block)∧(∀b,s.aL=some b->lo<=b.block)∧(∀b,s.aN=some b->lo<=b.block)∧(∀b,s.aF=some b->lo<=b.block)∧(∀b,s.aT=some b->lo<=b.block)∧(∀b,s.aS=some b->lo<=b.block)
theorem Bn {w:World} {B lo m n cap:Nat} {T:TypeId} {ao:Option Addr} {xs:List Value} {v:Value} (h:w.ownsRow B T m v n xs) (hv:v= .slice ao n cap) (hB:lo<=B): ∀b,ao=some b->lo<=b.block:=λb e=>by
 have:=(h.lt b.block (by rw[hv,e];rfl)).1;omega
theorem eu.keep {α:Type} {f:α->List Value} {m:Nat} {w w':World} {B:Nat} {l:List α} {ao:Option Addr} {k:Nat} (h:eu f m w B l ao k) (hk: ∀b,ao=some b->w'.heap[b.block]? =w.heap[b.block]?):eu f m w' B l ao k:=eu.mk (λi x hx=>by
 obtain⟨b,off,e,hB,hc⟩:=eu.at i x h hx;exact⟨b,off,e,hB,λj u hu=>(World.cell?_of_block (a:=⟨b,off+(k+i)*m+j,none⟩) (show w'.heap[b]? =w.heap[b]? from hk ⟨b,off,none⟩ e)).trans (hc j u hu)⟩)
theorem fU.keep {w w':World} {B:Nat} : ∀ {l:List ByteArray} {ao:Option Addr} {k:Nat},fU w B l ao k->(∀b,ao=some b->w'.heap[b.block]? =w.heap[b.block]?)->fU w' B l ao k
 | [],_,_,_,_=>trivial
 |_::_,_,k,⟨⟨b,off,e,hB,c,hs⟩,hr⟩,hk=>⟨⟨b,off,e,hB,(World.cell?_of_block (a:=⟨b,off+k,none⟩) (show w'.heap[b]? =w.heap[b]? from hk ⟨b,off,none⟩ e)).trans c,hs⟩,fU.keep hr hk⟩
theorem gL.keep {w w':World} {B lo:Nat} {W:Wo} {s:jP} (h:gL w B W s) (hn:Oo lo s) (hk: ∀k,lo<=k->w'.heap[k]? =w.heap[k]?):gL w' B W s:=
 ⟨eu.keep h.cs (λb e=>hk _ (hn.1 b e)),eu.keep h.ls (λb e=>hk _ (hn.2.1 b e)),eu.keep h.ns (λb e=>hk _ (hn.2.2.1 b e)),fU.keep h.fs (λb e=>hk _ (hn.2.2.2.1 b e)),fU.keep h.ts (λb e=>hk _ (hn.2.2.2.2.1 b e)),eu.keep h.ss (λb e=>hk _ (hn.2.2.2.2.2 b e)),h.lc,h.ll,h.ln,h.lf,h.lt,h.lS,h.ok⟩
theorem Vr {w w4:World} {BL bw m n j:Nat} {T:TypeId} {v v' vL u:Value} {xs:List Value} (hL:w.ownsRow BL T m vL n xs) (hbw:bw<BL) (hap: ∀q,vL.ownBlock=some q->v.ownBlock≠some q) (hg:w.grownBy w4 v.ownBlock) (ho:nN w v v'):
 (w4.setCell ⟨bw,j,none⟩ u).ownsRow BL T m vL n xs∧∀q,vL.ownBlock=some q->v'.ownBlock≠some q:=by
 have h4:w4.ownsRow BL T m vL n xs:=hL.kept hg (by
  cases hv:vL.ownBlock with
  |none=>exact .inl rfl
  |some q=>exact .inr (λe=>hap q hv e.symm))
 refine⟨h4.kept (cB w4 ⟨bw,j,none⟩ u) ?_,λq hq e=> ?_⟩
 ·cases hv:vL.ownBlock with
  |none=>exact .inl rfl
  |some q=>refine .inr (λe=> ?_);have:=(h4.lt q hv).1;injection e with e;simp only at e;omega
 ·rcases ho with e'|⟨g,e',hg'⟩
  ·rw[e']at e;exact hap q hq e
  ·rw[e']at e;injection e with e;subst e;have:=(hL.lt _ hq).2;omega
theorem Bc (l:List uD) (nm:ByteArray) (w:World) (ao:Option Addr) (cap:Nat) (hl:l.length<=maxLen) (hw:eu lF 2 w w.heap.size l ao 0):
 Calls Tryz.prog 26 #[.slice ao l.length cap,.string nm] w λe w'=>e= .returned (.int .i64 (fK (l.map (·.nm)) nm))∧w=w':=by
 unfold maxLen at hl;go_enter Tryz.func26,Tryz.ntmps26;go_wp2_with fail;go_loop [5] (λs=> ∃(k:Nat) (R:List uD),s= .int .i64 k∧k+R.length=l.length∧fK (l.map (·.nm)) nm=sD (R.map (·.nm)) nm k∧eu lF 2 w w.heap.size R ao k) (λs=>l.length -(intOf s).toNat)
 case atStart=>exact⟨0,l,rfl,ahg,rfl,hw⟩
 case round=>
  obtain⟨k,R,rfl,hlen,heq,hrow⟩:=hrel;have HE:=ah heq;clear heq;cases R with
  |nil=>
   obtain rfl:k=l.length:=afm
   go_wp2_with fail;go_ret;exact⟨bW HE.o.symm,rfl⟩
  |cons x R=>
   obtain⟨⟨b,off,rfl,hB,hcs⟩,hrest⟩:=hrow;have z0:=hcs 0 _ rfl;simp only[Nat.add_zero]at z0;simp only[ay]at hlen;have hkl:k<l.length:=ahe
   clear hcs;cases hc:(x.nm.toList==nm.toList)
   ·have dJ:=ah (HE.o.trans (if_neg (show ¬(x.nm.toList==nm.toList)=true by rw[hc];decide)));go_wp2_with fail;go_round
    case rel=>exact⟨k+1,R,ahi,ahe,afS,hrest⟩
    case measure=>simp[intOf];omega
   ·have dJ:=ah (HE.o.trans (if_pos hc));go_wp2_with fail;go_ret;exact⟨bW dJ.o.symm,rfl⟩
theorem AP (W:Wo) (s:jP) (nm:ByteArray) (w:World) (hw:gL w w.heap.size W s):
 Calls Tryz.prog 106 #[oK W s,.string nm] w λe w'=>e= .returned (.int .i64 (W.cell nm))∧Below w.heap.size w w':=by
 have hl:=hw.lc;unfold maxLen at hl;have HW:=ah hw;clear hw;unfold Wo.cell oK;go_enter Tryz.func106,Tryz.ntmps106;go_upto_region 1 with fail;generalize hW:World.alloc w _=W1;obtain⟨nb,hnb⟩: ∃n,w.heap.size=n:=⟨_,rfl⟩;have HB:aj (Below w.heap.size w W1):=ah aft;have hc0:W1.cell? ⟨nb,0,none⟩=some (.slice s.aC W.cs.length s.cC):=by rw[<- hW,<- hnb];exact aQ (heap_alloc_new _ _) rfl
 have HF:=ah (HW.o.cs.same HB.o);rw[hnb];clear hW hnb;go_wp2_with fail;go_loop [5] (λs5=> ∃(k:Nat) (R:List tT),s5= .int .i64 k∧k+R.length=W.cs.length∧fK (W.cs.map (·.nm)) nm=sD (R.map (·.nm)) nm k∧eu jW 5 W1 W1.heap.size R s.aC k) (λs=>W.cs.length -(intOf s).toNat)
 case atStart=>exact⟨0,W.cs,rfl,ahg,rfl,HF.o⟩
 case round=>
  obtain⟨k,R,rfl,hlen,heq,hrow⟩:=hrel;have HE:=ah heq;clear heq HF;cases R with
  |nil=>
   obtain rfl:k=W.cs.length:=afm
   go_wp2_with fail;go_ret;exact⟨bW HE.o.symm,HB.o⟩
  |cons x R=>
   obtain⟨⟨b,off,hao,jq,hcs⟩,hrest⟩:=hrow;have z0:=hcs 0 _ rfl;simp only[Nat.add_zero]at z0;rw[hao]at hc0;simp only[ay]at hlen;have hkl:k<W.cs.length:=ahe
   have xJ:=ah hao;clear hcs hao;cases hc:(x.nm.toList==nm.toList)
   ·have dJ:=ah (HE.o.trans (if_neg (show ¬(x.nm.toList==nm.toList)=true by rw[hc];decide)));go_wp2_with fail;go_round
    case rel=>exact⟨k+1,R,ahi,ahe,afS,hrest⟩
    case measure=>simp[intOf];omega
   ·have dJ:=ah (HE.o.trans (if_pos hc));go_wp2_with fail;go_ret;exact⟨bW dJ.o.symm,HB.o⟩
theorem Hu {T:TypeId} {w:World} {L:GL} {W:Wo} {s:jP} {lc:List ByteArray} {al:Option Addr} {cl:Nat} {v:Value} {code:List dF} {a b:Int} (h:gu T w L W s lc al cl v code a b) (nm:ByteArray):
 Calls Tryz.prog 78 #[.pointer (some ⟨L.gb,0,none⟩),.string nm] w λe w'=>e= .returned (.int .i64 (W.cond nm))∧w=w':=by
 obtain⟨hlt,-,-,hc0,-,-,-,-,-,-,-,-⟩:=h.cells;have hl:=h.wo.ln;unfold maxLen at hl;have HF:=ah (h.wo.ns.mono h.b0);unfold Wo.cond;clear h;go_enter Tryz.func78,Tryz.ntmps78;go_wp2_with fail;go_loop [5] (λs4=> ∃(k:Nat) (R:List Co),s4= .int .i64 k∧k+R.length=W.ns.length∧fK (W.ns.map (·.nm)) nm=sD (R.map (·.nm)) nm k∧eu tF 2 w w.heap.size R s.aN k) (λs=>W.ns.length -(intOf s).toNat)
 case atStart=>exact⟨0,W.ns,rfl,ahg,rfl,HF.o⟩
 case round=>
  obtain⟨k,R,rfl,hlen,heq,hrow⟩:=hrel;have HE:=ah heq;clear heq HF;cases R with
  |nil=>
   obtain rfl:k=W.ns.length:=afm
   go_wp2_with fail;go_ret;exact⟨bW HE.o.symm,rfl⟩
  |cons x R=>
   obtain⟨⟨b,off,hao,jq,hcs⟩,hrest⟩:=hrow;have z0:=hcs 0 _ rfl;simp only[Nat.add_zero]at z0;rw[hao]at hc0;simp only[ay]at hlen;have hkl:k<W.ns.length:=ahe
   clear hcs hao;cases hc:(x.nm.toList==nm.toList)
   ·have dJ:=ah (HE.o.trans (if_neg (show ¬(x.nm.toList==nm.toList)=true by rw[hc];decide)));go_wp2_with fail;go_round
    case rel=>exact⟨k+1,R,ahi,ahe,afS,hrest⟩
    case measure=>simp[intOf];omega
   ·have dJ:=ah (HE.o.trans (if_pos hc));go_wp2_with fail;go_ret;exact⟨bW dJ.o.symm,rfl⟩
theorem iJ {w:World} {L:GL} {W:Wo} {s:jP} {lc:List ByteArray} {al:Option Addr} {cl:Nat} {v:Value} {code:List dF} {a b:Int} (h:gu 76 w L W s lc al cl v code a b) (x:dF) (hl:code.length+1<=1000000000000):
 Calls Tryz.prog 22 #[.pointer (some ⟨L.gb,0,none⟩),Jb x] w λe w'=>e= .returned (.tuple #[])∧wT 76 w L W s lc al cl v code a b [{x with st:=a}] w':=by
 obtain⟨ao,cap,rfl,hcap,-⟩:=h.form;obtain⟨hlt,-,-,-,-,-,-,-,c7,c8,c9,cf⟩:=h.cells;have HI:=ah h;have HL:=ah hl;clear h hl;unfold Jb;go_enter Tryz.func22,Tryz.ntmps22;go_upto_region 2 with fail;generalize hW:World.alloc w _=wq;obtain⟨nb,hnb,HB,-,HX,-⟩:=nI hW;have HQ:=ah (HI.o.below HB.o);have iy:aj (L.B1<=nb∧nb<wq.heap.size∧L.gb<wq.heap.size∧L.gb≠nb∧(Value.slice ao code.length cap).ownBlock≠some nb):=ah aad;have HGV:aj ((Value.slice ao code.length cap).ownBlock≠some L.gb):=ah (λe=>aei);have VI:=ah HQ.o.cells.2.2.2.2.2.2.2.2.1;have HOW:aj (∀k,(Value.slice ao code.length cap).ownBlock=some k->k<wq.heap.size):=ah (λk e=>(HQ.o.own k e).2);rw[hnb];clear hW hnb c7 c8 c9 cf hlt;refine yJ (uq wq 4 6 7 10 (ZJ 70 6 wq L.B1 (Value.slice ao code.length cap).ownBlock (code.length+1) (code.flatMap lq++lq {x with st:=a})) ⟨L.gb,7,none⟩ (Qm (code.length+1)) (lq {x with st:=a}).toArray 70) (Ag.le wq.heap.size) [9,10,11,12,13,14,15,16,17,18] ⟨none,false,none⟩ ahd ahd (λg w=>Ag.le_refl _ g w) aip uq.start ?_;apply jQ.step
 case aZ=>intro D A g w' hDn hC hO hD;have e0:=hO 0 aip;simp[Act.eval]at e0;simp[iM,iH,eO,Act.eval,Region.binds]at hD;simp[go_sem,mK,Oper.wp,hD,e0];exact gF.mk (Ag.le_refl _ _ _) (hC.skip _ ahf) (iH.mk _ _ _)
 apply jQ.step
 case aZ=>intro D A g w' hDn hC hO hD;have e0:=hO 0 aip;simp[Act.eval]at e0;simp[iM,iH,eO,Act.eval,Region.binds]at hD;simp[go_sem,mK,Oper.wp,hD,e0];exact gF.mk (Ag.le_refl _ _ _) (hC.skip _ ahf) (iH.mk _ _ _)
 apply jQ.step
 case aZ=>intro D A g w' hDn hC hO hD;simp[iM,iH,eO,Act.eval,Region.binds]at hD;simp[go_sem,mK,Oper.wp,hD];exact gF.mk (Ag.le_refl _ _ _) (hC.skip _ ahf) (iH.mk _ _ _)
 apply jQ.step
 case aZ=>intro D A g w' hDn hC hO hD;simp[iM,iH,eO,Act.eval,Region.binds]at hD;simp[go_sem,mK,Oper.wp,hD];exact gF.mk (Ag.le_refl _ _ _) (hC.skip _ ahf) (iH.mk _ _ _)
 refine jQ.some (λv g _=>v= .slice ao code.length cap∧g.h=true) (λv g w g' w' hle h=>⟨h.1,hle.2.1 h.2⟩) ?_ ?_
 ·intro D A g w' hDn hC hO hD;simp[iM,iH,eO,Act.eval,Region.binds]at hD;obtain⟨hp,hle,hm⟩:=hC.mk8 hDn ahf;have z3:=((hC.pre hp).cell (p:=⟨L.gb,7,none⟩) iy.o.2.2.1).trans VI.o;simp[go_sem,mK,Oper.wp,hD,z3];exact gF.mk hle hm ⟨rfl,rfl⟩
 simp only[bP];apply jQ.step
 case aZ=>intro D A g w' hDn hC hO hD;have e3:=hO 3 aip;simp[Act.eval]at e3;have zc:=λ(j:Nat) (u:Value) (hu:(lq {x with st:=a})[j]? =some u)=>hC.cell iy.o.2.1 iy.o.2.2.2.2 iy.o.2.2.2.1 (aQ (j:=j) HX.o adA);have z0:=zc 0 _ rfl;have z1:=zc 1 _ rfl;have z2:=zc 2 _ rfl;have z3:=zc 3 _ rfl;have z4:=zc 4 _ rfl;have z5:=zc 5 _ rfl;simp[iM,iH,eO,Act.eval,Region.binds]at hD;simp[go_sem,mK,Oper.wp,hD,e3,z0,z1,z2,z3,z4,z5];exact gF.mk (Ag.le_refl _ _ _) (hC.skip _ ahf) (iH.mk _ _ _)
 refine jQ.some (λv g _=> ∃b,v= .slice (some ⟨b,0,none⟩) 1 1∧g.o=some b) (λv g w g' w' hle h=>abj) ?_ ?_
 ·intro D A g w' hDn hC hO hD;simp[iM,iH,eO,Act.eval,Region.binds]at hD;simp[go_sem,mK,Oper.wp,hD];have hM:=hC.aN1 hDn ahf;exact gF.mk hM.1 hM.2 ⟨_,rfl,rfl⟩
 refine jQ.some (λv g _=> ∃q,g.p=some q∧v=Qm (code.length+1) q) (λv g w g' w' hle h=>abY) ?_ ?_
 ·intro D A g w' hDn hC hO hD;simp[iM,iH,eO,Act.eval,Region.binds]at hD;obtain⟨⟨hs1,hh⟩,bb,hs2,hb⟩:=hD;simp only[mK,if_true];have hbl:=hC.pre (hC.tX hDn);obtain⟨bp4,ab2⟩:=hC.row bb hb;have hown:=(HQ.o.below hbl).row;obtain⟨i0,hi0,hz0,hz1,hz2⟩:=yx an1;refine wp_append_lies w' _ _ _ aip L.B1 70 i0 _ 6 48 Tryz.underlying64 hi0 hz0 hz1 hz2 aip ahe (.slice ao code.length cap) code.length (code.flatMap lq) (by simp[Act.eval,hs1]) hown ⟨bb,0,none⟩ 1 1 (lq {x with st:=a}) (by simp[Act.eval,hs2]) aip (gG ab2) (aL9 _) ahf aeM (by have:=HL.o;omega) (HQ.o.below hbl).sz _ rfl ?_;intro g' cap' w5 hown5 hgr hmv jY;have hM:=hC.aN2 (q:=(g',cap')) (w':=w5) hDn ahf hb hh ⟨hown5,iQ (Ej hbl) hgr,aaJ⟩ hgr.size (λk h1 h2=>hgr.block k h2 (λe=>by have:=HOW.o k e.symm;omega));exact gF.mk hM.1 hM.2 ⟨(g',cap'),rfl,rfl⟩
 simp only[bP];apply jQ.step
 case aZ=>intro D A g w' hDn hC hO hD;simp[iM,iH,eO,Act.eval,Region.binds]at hD;simp[go_sem,mK,Oper.wp,hD];exact gF.mk (Ag.le_refl _ _ _) (hC.skip _ ahf) (iH.mk _ _ _)
 apply jQ.step
 case aZ=>intro D A g w' hDn hC hO hD;simp[iM,iH,eO,Act.eval,Region.binds]at hD;simp[go_sem,mK,Oper.wp,hD];exact gF.mk (Ag.le_refl _ _ _) (hC.skip _ ahf) (iH.mk _ _ _)
 refine jQ.some (λ_ _ _=>True) (λ_ _ _ _ _ _ _=>trivial) ?_ ?_
 ·intro D A g w' hDn hC hO hD;simp[iM,iH,eO,Act.eval,Region.binds]at hD;obtain⟨hs1,⟨qa,qc,hq,hs2⟩,-⟩:=hD;have hR:=hC.post (qa,qc) hq hDn;have hblk:=hR.2.1.block L.gb iy.o.2.2.1 (λe=>HGV.o e.symm);have z3:=(World.cell?_of_block (a:=⟨L.gb,7,none⟩) hblk).trans VI.o;have f3:w'.frozen? ⟨L.gb,7,none⟩=false:=by rw[World.frozen?_of_block (a:=⟨L.gb,7,none⟩) hblk];exact bC HQ.o.blk
  unfold Qm at hs2;simp[go_sem,mK,Oper.wp,hs1,hs2,z3,f3];have hM:=hC.aN3 hDn hq iy.o.2.2.1 ahf ahf;exact gF.qK (v:=undef) hM.1 hM.2 trivial
 refine jQ.done ?_;intro D g wz hD hC;simp only[KG,List.nil_append,List.cons_append,List.map_cons,List.map_nil];intro v0 h0 v1 h1 v2 h2 v3 h3 v4 h4 v5 h5 v6 h6 v7 h7 v8 h8 v9 h9 v10 h10;obtain⟨q,hq,rfl⟩:=h7;obtain⟨w5,hR,hW⟩:=hC.fin q hq (hD 10 ahg);have HP:=ah (HI.o.push (wz:=wq) (w4:=w5) (g':=q.1) (cap':=q.2) {x with st:=a} HB.o hR.1 hR.2.1 hR.2.2);clear hC hD;refine kg ?_;go_simp;go_wp2_with fail;refine bodyPost_end (v:= .tuple #[]) (by simp[results,Tryz.results22,go_sem]) rfl ⟨rfl,?_⟩;exact⟨_,HP.o⟩
end Go.Proofs.YtldapdcphphodaaGreatDoor
