/- Objects and code of a program as data, and what is compiled. No program text in sight. And what hangs on it. -/
import Derived.Test.YtdoplekppjkkpaaGreatDoorGMJ
set_option linter.unusedSimpArgs false
set_option linter.unusedVariables false
set_option maxHeartbeats 40000000
set_option maxRecDepth 1000000
namespace Go.Proofs.YtdoplekppjkkpaaGreatDoor
open Go.RowKit
namespace Md
structure mP where
 nm:ByteArray
 ix:Int
 sz:Int
 wW:Bool
 init:Int
structure wS where
 nm:ByteArray
 rw:Bool
structure Er where
 nm:ByteArray
 mx:Int
structure sK where
 th:Int
 st:Int
 ln:Int
structure Wo where
 cs:List mP
 ls:List wS
 ns:List Er
 fs:List ByteArray
 ts:List ByteArray
 ss:List sK
structure dS where
 op:Int
 a:Int
 b:Int
 c:Int
 n:Int
 st:Int
structure Gb where
 regs:Int
 is:List dS
def kM (x:mP):List Value:=[.string x.nm,.int .i64 x.ix,.int .i64 x.sz,.bool x.wW,.int .i64 x.init]
def mH (x:wS):List Value:=[.string x.nm,.bool x.rw]
def vE (x:Er):List Value:=[.string x.nm,.int .i64 x.mx]
def jY (x:ByteArray):List Value:=[.string x]
def rJ (x:sK):List Value:=[.int .i64 x.th,.int .i64 x.st,.int .i64 x.ln]
def pz (x:dS):List Value:=[.int .i64 x.op,.int .i64 x.a,.int .i64 x.b,.int .i64 x.c,.int .i64 x.n,.int .i64 x.st]
def gG {α:Type} (f:α->List Value) (m:Nat) (w:World) (B:Nat):List α->Option Addr->Nat->Prop
 | [],_,_=>True
 |x::r,ao,k=>(∃b off,ao=some ⟨b,off,none⟩∧b<B∧∀(j:Nat) (u:Value),(f x)[j]? =some u->w.cell? ⟨b,off+k*m+j,none⟩=some u)∧gG f m w B r ao (k+1)
def sj:List ByteArray->ByteArray->Int->Int
 | [],_,_=> -1
 |s::r,nm,k=>if s.toList==nm.toList then k else sj r nm (k+1)
def iK (l:List ByteArray) (nm:ByteArray):Int:=sj l nm 0
def rT (d:De):Nat->Nat->List mP
 |0,_=>[]
 |n+1,k=>⟨d.nm,k,d.size,d.kind==2,d.init⟩::rT d n (k+1)
def Hy (d:De):List mP:=rT d (max d.size 1).toNat 0
def lJ (W:Wo) (d:De):Wo:=
 if d.kind==1||d.kind==2 then {W with cs:=W.cs++Hy d} else if d.kind==3||d.kind==4 then {W with ls:=W.ls++[⟨d.nm,d.kind==4⟩]} else
 if d.kind==5 then {W with ns:=W.ns++[⟨d.nm,iK (W.ls.map (·.nm)) d.on⟩]} else {W with fs:=W.fs++[d.nm]}
def dH:aZ->Nat
 | .nil=>0
 | .cons _ b e r=>1+dH b+dH e+dH r
def tq (i:Int):aZ->Nat->List sK
 | .nil,_=>[]
 | .cons h b e r,n=>⟨i,n,h.line⟩::(tq i b (n+1)++tq i e (n+1+dH b)++tq i r (n+1+dH b+dH e))
def yQ (W:Wo) (i:Nat):List Th->Wo
 | []=>W
 |t::r=>yQ {W with ts:=W.ts++[t.nm],ss:=W.ss++tq i t.body 0} (i+1) r
def oG:Wo:=⟨[],[],[],[],[],[]⟩
def ng (p:Pr):Wo:=yQ (p.ds.foldl lJ oG) 0 p.ts
def Wo.cell (W:Wo) (nm:ByteArray):Int:=iK (W.cs.map (·.nm)) nm
def Wo.lock (W:Wo) (nm:ByteArray):Int:=iK (W.ls.map (·.nm)) nm
def Wo.cond (W:Wo) (nm:ByteArray):Int:=iK (W.ns.map (·.nm)) nm
def Wo.size (W:Wo) (nm:ByteArray):Int:=((W.cs[(W.cell nm).toNat]?).map (·.sz)).getD 0
def Rq (W:Wo) (op:Int) (nm:ByteArray) (d st:Int):dS:=
 if op==3 then⟨7,d,W.cell nm,d,W.size nm,st⟩else if op==4||op==5 then⟨3,d,d,0,op,st⟩else⟨4,d,d,d+1,op,st⟩
def Jd (W:Wo) (lc:List ByteArray) (op n:Int) (nm:ByteArray) (d st:Int):dS:=
 if op==1 then⟨1,d,0,0,n,st⟩else if decide (0<=iK lc nm)then⟨2,d,iK lc nm,0,0,st⟩else⟨6,d,W.cell nm,0,0,st⟩
def Gn (W:Wo) (lc:List ByteArray) (st:Int):bT->Int->List dS
 | .nil,_=>[]
 | .cons op n nm kids rest,d=>(if op==1||op==2 then [Jd W lc op n nm d st]else Gn W lc st kids d++[Rq W op nm d st])++Gn W lc st rest (d+1)
def oO (W:Wo) (lc:List ByteArray) (st:Int) (op n:Int) (nm:ByteArray) (kids:bT) (d:Int):List dS:=
 if op==1||op==2 then [Jd W lc op n nm d st]else Gn W lc st kids d++[Rq W op nm d st]
def jr (W:Wo) (lc:List ByteArray) (st:Int) (h:dF) (d:Int):List dS:=oO W lc st h.dP h.xn h.dO h.bJ d
def Hl (W:Wo) (lc:List ByteArray) (st:Int) (h:dF):List dS:=
 match h.idx with
 | .nil=>jr W lc st h lc.length++[if decide (0<=iK lc h.nm)then⟨2,iK lc h.nm,lc.length,0,0,st⟩else⟨8,W.cell h.nm,lc.length,0,0,st⟩]
 | .cons op n nm kids _=>oO W lc st op n nm kids lc.length++jr W lc st h (lc.length+1)++[⟨9,W.cell h.nm,lc.length+1,lc.length,W.size h.nm,st⟩]
def Ll (W:Wo) (h:dF):Int:=if h.op==7||h.op==8 then 0 else W.lock h.nm
def CO (op:Int):Int:=if op==4 then 11 else if op==5 then 13 else if op==6 then 15 else if op==7 then 17 else 19
def zG (W:Wo) (lc:List ByteArray) (st:Int) (h:dF):List dS:=
 if h.op==1 then Hl W lc st h else if h.op==9 then [⟨21,W.cond h.nm,0,0,0,st⟩]else if h.op==10 then [⟨22,W.cond h.nm,0,0,0,st⟩]else if h.op==11 then [⟨23,W.cond h.nm,0,0,0,st⟩]else
 if h.op==12 then [⟨24,iK W.ts h.nm,0,0,0,st⟩]else if h.op==13 then [⟨25,iK W.ts h.nm,0,0,0,st⟩]else
 if h.op==14 then jr W lc st h lc.length++[⟨26,iK W.fs h.nm,lc.length,0,0,st⟩]else if h.op==15 then [⟨27,iK lc h.nm,iK W.fs h.arg,0,0,st⟩]else []
def F7 (W:Wo) (lc:List ByteArray) (st:Int) (h:dF) (X B E:List dS) (ne:Bool) (pos:Nat):List dS:=
 if h.op==2 then
  (if ne then X++[⟨10,lc.length,((pos+X.length+1+B.length:Nat):Int),0,0,st⟩]++B
   else X++[⟨10,lc.length,((pos+X.length+1+B.length+1:Nat):Int),0,0,st⟩]++B++[⟨5,((pos+X.length+1+B.length+1+E.length:Nat):Int),0,0,0,st⟩]++E)
 else if h.op==3 then X++[⟨10,lc.length,((pos+X.length+1+B.length+1:Nat):Int),0,0,st⟩]++B++[⟨5,(pos:Int),0,0,0,st⟩]
 else if decide (4<=h.op)&&decide (h.op<=8)then [⟨CO h.op,Ll W h,0,0,0,st⟩]++B++[⟨CO h.op+1,Ll W h,0,0,0,st⟩]
 else zG W lc st h
def aZ.none:aZ->Bool
 | .nil=>true
 |_=>false
def qM (h:dF) (X:List dS):Nat:=if h.op==2||h.op==3 then X.length+1 else 1
def kV (W:Wo) (lc:List ByteArray):aZ->Nat->Nat->List dS
 | .nil,_,_=>[]
 | .cons h b e r,nx,pos=>
   F7 W lc nx h (jr W lc nx h lc.length) (kV W lc b (nx+1) (pos+qM h (jr W lc nx h lc.length)))
      (kV W lc e (nx+1+dH b) (pos+qM h (jr W lc nx h lc.length)+(kV W lc b (nx+1) (pos+qM h (jr W lc nx h lc.length))).length+1)) e.none pos++
    kV W lc r (nx+1+dH b+dH e) (pos+
     (F7 W lc nx h (jr W lc nx h lc.length) (kV W lc b (nx+1) (pos+qM h (jr W lc nx h lc.length)))
     (kV W lc e (nx+1+dH b) (pos+qM h (jr W lc nx h lc.length)+(kV W lc b (nx+1) (pos+qM h (jr W lc nx h lc.length))).length+1)) e.none pos).length)
def kR (i:dS):List Int:=
 if i.op==1||i.op==6||i.op==10||i.op==27 then [i.a]else if i.op==2||i.op==3 then [i.a,i.b]else if i.op==4 then [i.a,i.b,i.c]else if i.op==7 then [i.a,i.c]else
 if i.op==8||i.op==26 then [i.b]else if i.op==9 then [i.b,i.c]else []
def mxR:List Int->Int->Int
 | [],n=>n
 |r::l,n=>mxR l (max n (r+1))
def BJ:List dS->Int->Int
 | [],n=>n
 |i::l,n=>BJ l (mxR (kR i) n)
def coT (W:Wo) (t:Th) (nx:Nat):Gb:=
 ⟨BJ (kV W t.cZ t.body nx 0++[⟨28,0,0,0,0,-1⟩]) t.cZ.length,kV W t.cZ t.body nx 0++[⟨28,0,0,0,0,-1⟩]⟩
def EU (W:Wo):List Th->Nat->List Gb
 | [],_=>[]
 |t::r,nx=>coT W t nx::EU W r (nx+dH t.body)
end Md
namespace Md
def jc:bT->Nat
 | .nil=>0
 | .cons _ _ _ kids rest=>1+jc kids+jc rest
def jB (h:dF):Nat:=3+jc h.bJ+jc h.idx
def pF:aZ->Nat
 | .nil=>0
 | .cons h b e r=>jB h+pF b+pF e+pF r
theorem zn: ∀l:aZ,dH l<=pF l
 | .nil=>aB _
 | .cons h b e r=>by have h1:=zn b;have h2:=zn e;have h3:=zn r;rw[dH,pF];unfold jB;omega
theorem Ni (W:Wo) (lc:List ByteArray) (st:Int): ∀(l:bT) (d:Int),(Gn W lc st l d).length<=jc l
 | .nil,_=>aB _
 | .cons op n nm kids rest,d=>by
   have h1:=Ni W lc st kids d;have h2:=Ni W lc st rest (d+1);rw[Gn,jc,aA];split
   ·simp only[List.length_singleton];omega
   ·simp only[aA,List.length_singleton];omega
theorem nV (W:Wo) (lc:List ByteArray) (st op n:Int) (nm:ByteArray) (kids:bT) (d:Int):(oO W lc st op n nm kids d).length<=1+jc kids:=by
 unfold oO;have h1:=Ni W lc st kids d;split
 ·simp only[List.length_singleton];omega
 ·simp only[aA,List.length_singleton];omega
theorem au3 (W:Wo) (lc:List ByteArray) (st:Int) (h:dF):(Hl W lc st h).length<=jB h:=by
 unfold Hl jB;split
 ·have:=nV W lc st h.dP h.xn h.dO h.bJ lc.length;simp only[jr,aA,List.length_singleton];omega
 ·rename_i op n nm kids r hi;have h1:=nV W lc st h.dP h.xn h.dO h.bJ (lc.length+1);have h2:=nV W lc st op n nm kids lc.length;simp only[jr,aA,List.length_singleton];rw[hi,jc];omega
theorem af7 (W:Wo) (lc:List ByteArray) (st:Int) (h:dF):(zG W lc st h).length<=jB h:=by
 have hv:=nV W lc st h.dP h.xn h.dO h.bJ lc.length;have h1:3<=jB h:=agD
 have h2:1+jc h.bJ+1<=jB h:=agD
 unfold zG;split
 ·exact au3 W lc st h
 all_goals (repeat' split)
 all_goals simp only[jr,aA,List.length_singleton,aW]
 all_goals omega
theorem RD (W:Wo) (lc:List ByteArray) (st:Int) (h:dF) (B E:List dS) (ne:Bool) (pos:Nat):(F7 W lc st h (jr W lc st h lc.length) B E ne pos).length<=jB h+B.length+E.length:=by
 have hv:=nV W lc st h.dP h.xn h.dO h.bJ lc.length;have ho:=af7 W lc st h;have h2:1+jc h.bJ+2<=jB h:=agD
 unfold F7
 repeat' split
 all_goals try simp only[jr,aA,List.length_singleton,aW]
 all_goals omega
theorem uw (W:Wo) (lc:List ByteArray): ∀(l:aZ) (nx pos:Nat),(kV W lc l nx pos).length<=pF l
 | .nil,_,_=>aB _
 | .cons h b e r,nx,pos=>by rw[kV,pF,aA];have hs:=RD W lc nx h (kV W lc b (nx+1) (pos+qM h (jr W lc nx h lc.length))) (kV W lc e (nx+1+dH b) (pos+qM h (jr W lc nx h lc.length)+(kV W lc b (nx+1) (pos+qM h (jr W lc nx h lc.length))).length+1)) e.none pos;have hb:=uw W lc b (nx+1) (pos+qM h (jr W lc nx h lc.length));have he:=uw W lc e (nx+1+dH b) (pos+qM h (jr W lc nx h lc.length)+(kV W lc b (nx+1) (pos+qM h (jr W lc nx h lc.length))).length+1);have hr:=uw W lc r (nx+1+dH b+dH e) (pos+(F7 W lc nx h (jr W lc nx h lc.length) (kV W lc b (nx+1) (pos+qM h (jr W lc nx h lc.length))) (kV W lc e (nx+1+dH b) (pos+qM h (jr W lc nx h lc.length)+(kV W lc b (nx+1) (pos+qM h (jr W lc nx h lc.length))).length+1)) e.none pos).length);omega
end Md
namespace Md
theorem LZ: ∀(l:List ByteArray) (nm:ByteArray) (k:Int),sj l nm k= -1∨(k<=sj l nm k∧sj l nm k<k+l.length)
 | [],_,_=> .inl rfl
 |s::r,nm,k=>by
  rw[sj];split
  ·right;simp only[aD];omega
  ·rcases LZ r nm (k+1)with h|h
   ·exact .inl h
   ·right;simp only[aD];omega
theorem MZ: ∀(l:List ByteArray) (nm:ByteArray) (k:Int),0<=k->(∃s∈l,s.toList=nm.toList)->0<=sj l nm k
 | [],_,_,_,⟨s,h,_⟩=>ahh
 |s::r,nm,k,hk,⟨x,hx,e⟩=>by
  rw[sj];split
  ·exact hk
  ·rename_i h;rcases List.mem_cons.1 hx with rfl|hx
   ·rw[e]at h;simp at h
   ·exact MZ r nm (k+1) agH ⟨x,hx,e⟩
theorem aR5 {l:List ByteArray} {nm:ByteArray} (h:0<=iK l nm):(iK l nm).toNat<l.length:=by
 unfold iK at *;rcases LZ l nm 0 with h1|h1
 ·omega
 ·omega
theorem Um (l:List ByteArray) (nm:ByteArray): -1<=iK l nm∧iK l nm<max l.length 1:=by
 unfold iK;rcases LZ l nm 0 with h1|h1 <;> omega
def JV (W:Wo):bT->Bool
 | .nil=>true
 | .cons op _ nm kids rest=>((!(op==3)||decide (0<=W.cell nm))&&JV W kids)&&JV W rest
def AY (W:Wo) (op:Int) (nm:ByteArray) (kids:bT):Bool:=(!(op==3)||decide (0<=W.cell nm))&&JV W kids
def IC (W:Wo) (h:dF):Bool:=AY W h.dP h.dO h.bJ&&(JV W h.idx&&(h.idx.len==0|| !(h.op==1)||decide (0<=W.cell h.nm)))
def aZ.Ev (Q:dF->Prop):aZ->Prop
 | .nil=>True
 | .cons h b e r=>Q h∧b.Ev Q∧e.Ev Q∧r.Ev Q
theorem aZ.Ev.imp {Q R:dF->Prop} (f: ∀h,Q h->R h): ∀ {l:aZ},l.Ev Q->l.Ev R
 | .nil,_=>trivial
 | .cons _ _ _ _,h=>⟨f _ h.1,h.2.1.imp f,h.2.2.1.imp f,h.2.2.2.imp f⟩
theorem aZ.Ev.and {Q R:dF->Prop} : ∀ {l:aZ},l.Ev Q->l.Ev R->l.Ev (λh=>Q h∧R h)
 | .nil,_,_=>trivial
 | .cons _ _ _ _,h,k=>⟨⟨h.1,k.1⟩,h.2.1.and k.2.1,h.2.2.1.and k.2.2.1,h.2.2.2.and k.2.2.2⟩
end Md
open Md
namespace Md
section
variable {α:Type} {f:α->List Value} {m:Nat} {w w':World} {B B':Nat}
theorem gG.below (hb:Below B w w'): ∀ {l:List α} {ao:Option Addr} {k:Nat},gG f m w B l ao k->gG f m w' B l ao k
 | [],_,_,_=>trivial
 |_::_,_,_,⟨⟨b,off,e,hB,c⟩,hr⟩=>⟨⟨b,off,e,hB,λj u hu=>(hb.cell hB).trans (c j u hu)⟩,gG.below hb hr⟩
theorem gG.mono (h:B<=B'): ∀ {l:List α} {ao:Option Addr} {k:Nat},gG f m w B l ao k->gG f m w B' l ao k
 | [],_,_,_=>trivial
 |_::_,_,_,⟨⟨b,off,e,hB,c⟩,hr⟩=>⟨⟨b,off,e,aR hB h,c⟩,gG.mono h hr⟩
theorem gG.same {l:List α} {ao:Option Addr} {k:Nat} (h:gG f m w w.heap.size l ao k) (hb:Below w.heap.size w w'):gG f m w' w'.heap.size l ao k:=(h.below hb).mono hb.size
theorem gG.at: ∀ {l:List α} {ao:Option Addr} {k:Nat} (i:Nat) (x:α),gG f m w B l ao k->l[i]? =some x->∃b off,ao=some ⟨b,off,none⟩∧b<B∧∀(j:Nat) (u:Value),(f x)[j]? =some u->w.cell? ⟨b,off+(k+i)*m+j,none⟩=some u
 | [],_,_,i,x,_,h=>ahe
 |y::r,_,k,0,x,⟨h1,_⟩,h=>by simp at h;subst h;exact h1
 |y::r,_,k,i+1,x,⟨_,h2⟩,h=>by have:=gG.at i x h2 ahT;rw[show k+(i+1)=k+1+i by omega];exact this
theorem gG.mk: ∀ {l:List α} {ao:Option Addr} {k:Nat},(∀(i:Nat) (x:α),l[i]? =some x->∃b off,ao=some ⟨b,off,none⟩∧b<B∧∀(j:Nat) (u:Value),(f x)[j]? =some u->w.cell? ⟨b,off+(k+i)*m+j,none⟩=some u)->gG f m w B l ao k
 | [],_,_,_=>trivial
 |x::r,_,k,h=>⟨h 0 x rfl,gG.mk (λi y hy=>by have:=h (i+1) y ahM;rw[show k+1+i=k+(i+1) by omega];exact this)⟩
theorem Og: ∀ {l:List α} {ao:Option Addr} {k:Nat} (i:Nat),gG f m w B l ao k->gG f m w B (l.drop i) ao (k+i)
 |_,_,_,0,h=>h
 | [],_,_,_+1,_=>by simp[gG]
 |_::_,_,k,i+1,⟨_,hr⟩=>by have:=Og i hr;rw[List.drop_succ_cons];rwa [Nat.add_assoc,Nat.add_comm 1 i]at this
theorem eY {base:Nat} {T:TypeId} {v:Value} {xs:List α} (hf: ∀x,(f x).length=m) (h:w.ownsRow base T m v xs.length (xs.flatMap f)): ∃ao cap,v= .slice ao xs.length cap∧xs.length<=cap∧cap<=maxLen∧gG f m w w.heap.size xs ao 0:=by
 rcases h.2 with⟨rfl,hn⟩|⟨g,cap,cur,rfl,hb,hg,h1,h2,h3,h4⟩
 ·have:xs=[]:=List.eq_nil_of_length_eq_zero hn;subst this;exact⟨none,0,rfl,aB _,bF _,trivial⟩
 ·refine⟨_,_,rfl,h1,h2,gG.mk (λi x hx=>⟨g,0,rfl,(aO hg),λj u hu=> ?_⟩)⟩;have hF:=flat_get hf xs i x j u hx hu;rw[<- h4]at hF;have hlt:=(List.getElem?_eq_some_iff.1 hF).1;rw[List.getElem?_take_of_lt acF]at hF;have:0+(0+i)*m+j=i*m+j:=by simp
  rw[this];exact aQ hg ahp
end
end Md
namespace Md
structure jS where
 aC:Option Addr
 aL:Option Addr
 aN:Option Addr
 aF:Option Addr
 aT:Option Addr
 aS:Option Addr
 cC:Nat
 cL:Nat
 cN:Nat
 cF:Nat
 cT:Nat
 cS:Nat
structure iP (w:World) (B:Nat) (W:Wo) (s:jS):Prop where
 cs:gG kM 5 w B W.cs s.aC 0
 ls:gG mH 2 w B W.ls s.aL 0
 ns:gG vE 2 w B W.ns s.aN 0
 fs:fP w B W.fs s.aF 0
 ts:fP w B W.ts s.aT 0
 ss:gG rJ 3 w B W.ss s.aS 0
 lc:W.cs.length<=maxLen
 ll:W.ls.length<=maxLen
 ln:W.ns.length<=maxLen
 lf:W.fs.length<=maxLen
 lt:W.ts.length<=maxLen
 lS:W.ss.length<=maxLen
 ok: ∀c∈W.cs,bY c.sz
theorem iP.below {w w':World} {B:Nat} {W:Wo} {s:jS} (h:iP w B W s) (hb:Below B w w'):iP w' B W s:=
 ⟨h.cs.below hb,h.ls.below hb,h.ns.below hb,h.fs.below hb,h.ts.below hb,h.ss.below hb,h.lc,h.ll,h.ln,h.lf,h.lt,h.lS,h.ok⟩
theorem iP.mono {w:World} {B B':Nat} {W:Wo} {s:jS} (h:iP w B W s) (hb:B<=B'):iP w B' W s:=
 ⟨h.cs.mono hb,h.ls.mono hb,h.ns.mono hb,h.fs.mono hb,h.ts.mono hb,h.ss.mono hb,h.lc,h.ll,h.ln,h.lf,h.lt,h.lS,h.ok⟩
theorem iP.same {w w':World} {W:Wo} {s:jS} (h:iP w w.heap.size W s) (hb:Below w.heap.size w w'):iP w' w'.heap.size W s:=(h.below hb).mono hb.size
structure GL where
 B0:Nat
 gb:Nat
 B1:Nat
 b0:B0<=gb
 b1:gb<B1
def U5 (W:Wo) (s:jS) (lc:List ByteArray) (al:Option Addr) (cl:Nat) (v:Value) (a b:Int):Array Value:=
 #[.slice s.aC W.cs.length s.cC,.slice s.aL W.ls.length s.cL,.slice s.aN W.ns.length s.cN,.slice s.aF W.fs.length s.cF,.slice s.aT W.ts.length s.cT,.slice s.aS W.ss.length s.cS,.slice al lc.length cl,v,.int .i64 a,.int .i64 b]
end Md
theorem Cb: ∀x:dS,(pz x).length=6:=λ_=>rfl
structure Kg (L:GL) (v:Value) (w w':World):Prop where
 os:w'.os=w.os
 tape:w'.tape=w.tape
 output:w'.output=w.output
 size:w.heap.size<=w'.heap.size
 block: ∀k,k<w.heap.size->k≠L.gb->v.ownBlock≠some k->w'.heap[k]? =w.heap[k]?
def nM (w:World) (v v':Value):Prop:=v'.ownBlock=v.ownBlock∨∃g,v'.ownBlock=some g∧w.heap.size<=g
section
variable {L:GL} {v v1 v2:Value} {w w1 w2 w':World}
theorem Kg.refl (L:GL) (v:Value) (w:World):Kg L v w w:=⟨rfl,rfl,rfl,aB _,λ_ _ _ _=>rfl⟩
theorem Kg.of_below (h:Below w.heap.size w w'):Kg L v w w':=⟨h.os,h.tape,h.output,h.size,λk hk _ _=>h.block k hk⟩
theorem Kg.trans (h:Kg L v w w1) (ho:nM w v v1) (k:Kg L v1 w1 w2):Kg L v w w2:=
 ⟨k.os.trans h.os,k.tape.trans h.tape,k.output.trans h.output,aJ h.size k.size,λj hj hc hv=>(k.block j (aR hj h.size) hc (by
   rcases ho with e|⟨g,e,hg⟩
   ·rw[e];exact hv
   ·rw[e];intro e';injection e' with e';omega)).trans (h.block j hj hc hv)⟩
theorem Kg.below (h:Kg L v w w') (hB:L.B0<=w.heap.size) (hv: ∀k,v.ownBlock=some k->L.B1<=k):Below L.B0 w w':=
 ⟨h.os,h.tape,h.output,h.size,λk hk=>h.block k agH (by have:=L.b0;omega) (λe=>by have:=hv k e;have:=L.b0;have:=L.b1;omega)⟩
theorem Kg.set (w:World) (j:Nat) (x:Value):Kg L v w (w.setCell ⟨L.gb,j,none⟩ x):=by
 have h:=bU w ⟨L.gb,j,none⟩ x;exact⟨h.os,h.tape,h.output,h.size,λk hk hc _=>h.block k hk aht⟩
theorem nM.refl (w:World) (v:Value):nM w v v:= .inl rfl
theorem nM.trans (h:nM w v v1) (k:nM w1 v1 v2) (hs:w.heap.size<=w1.heap.size):nM w v v2:=by
 rcases k with e|⟨g,e,hg⟩
 ·rcases h with e'|⟨g,e',hg⟩
  ·exact .inl (e.trans e')
  ·exact .inr ⟨g,e.trans e',hg⟩
 ·exact .inr ⟨g,e,aJ hs hg⟩
theorem nM.ne {k:Nat} (h:nM w v v1) (hk:k<w.heap.size) (hv:v.ownBlock≠some k):v1.ownBlock≠some k:=by
 rcases h with e|⟨g,e,hg⟩
 ·rw[e];exact hv
 ·rw[e];intro e';injection e' with e';omega
end
structure iN (T:TypeId) (w:World) (L:GL) (W:Wo) (s:jS) (lc:List ByteArray) (al:Option Addr) (cl:Nat) (v:Value) (code:List dS) (a b:Int):Prop where
 blk:w.heap[L.gb]? =some (.cells (U5 W s lc al cl v a b) T (0,0))
 row:w.ownsRow L.B1 112 6 v code.length (code.flatMap pz)
 sz:L.B1<=w.heap.size
 wo:iP w L.B0 W s
 few:lc.length<=1000
 lc:fP w L.B0 lc al 0
theorem qy {w:World} {b o:Nat} {cur cur':Array Value} {e:TypeId} {fr:Nat×Nat} (h:w.heap[b]? =some (.cells cur e fr)) (v:Value) (hc:cur.setIfInBounds o v=cur'):(w.setCell ⟨b,o,none⟩ v).heap[b]? =some (.cells cur' e fr):=by
 rw[<- hc];exact dI h v
section
variable {T:TypeId} {w w':World} {L:GL} {W:Wo} {s:jS} {lc:List ByteArray} {al:Option Addr} {cl:Nat} {v:Value} {code:List dS} {a b:Int}
theorem iN.b0 (h:iN T w L W s lc al cl v code a b):L.B0<=w.heap.size:=by have:=h.sz;have:=L.b0;have:=L.b1;omega
theorem iN.own (h:iN T w L W s lc al cl v code a b): ∀k,v.ownBlock=some k->L.B1<=k∧k<w.heap.size:=h.row.lt
theorem iN.keep (h:iN T w L W s lc al cl v code a b) (hk:Kg L v w w'):Below L.B0 w w':=hk.below h.b0 (λk e=>(h.own k e).1)
theorem iN.form (h:iN T w L W s lc al cl v code a b): ∃ao cap,v= .slice ao code.length cap∧code.length<=cap∧cap<=maxLen:=by
 obtain⟨ao,cap,e,h1,h2,-⟩:=eY Cb h.row;exact⟨ao,cap,e,h1,h2⟩
theorem iN.below (h:iN T w L W s lc al cl v code a b) (hb:Below w.heap.size w w'):iN T w' L W s lc al cl v code a b where
 blk:=(hb.block _ (aO h.blk)).trans h.blk
 row:=h.row.kept (row:=none) ⟨hb.os,hb.tape,hb.output,hb.size,λk hk _=>hb.block k hk⟩ acS
 sz:=aJ h.sz hb.size
 wo:=h.wo.below (hb.mono h.b0)
 few:=h.few
 lc:=h.lc.below (hb.mono h.b0)
theorem iN.cells (h:iN T w L W s lc al cl v code a b):L.gb<w.heap.size∧w.cell? ⟨L.gb,0,none⟩=some (.slice s.aC W.cs.length s.cC)∧w.cell? ⟨L.gb,1,none⟩=some (.slice s.aL W.ls.length s.cL)∧w.cell? ⟨L.gb,2,none⟩=some (.slice s.aN W.ns.length s.cN)∧w.cell? ⟨L.gb,3,none⟩=some (.slice s.aF W.fs.length s.cF)∧
 w.cell? ⟨L.gb,4,none⟩=some (.slice s.aT W.ts.length s.cT)∧w.cell? ⟨L.gb,5,none⟩=some (.slice s.aS W.ss.length s.cS)∧w.cell? ⟨L.gb,6,none⟩=some (.slice al lc.length cl)∧w.cell? ⟨L.gb,7,none⟩=some v∧w.cell? ⟨L.gb,8,none⟩=some (.int .i64 a)∧w.cell? ⟨L.gb,9,none⟩=some (.int .i64 b)∧∀j,w.frozen? ⟨L.gb,j,none⟩=false:=
 ⟨(aO h.blk),aQ h.blk rfl,aQ h.blk rfl,aQ h.blk rfl,aQ h.blk rfl,aQ h.blk rfl,aQ h.blk rfl,aQ h.blk rfl,aQ h.blk rfl,aQ h.blk rfl,aQ h.blk rfl,λ_=>bK h.blk⟩
theorem iN.setOf (h:iN T w L W s lc al cl v code a b) (j:Nat) (x:Value) (M5:List ByteArray) (al':Option Addr) (cl':Nat) (v':Value) (code':List dS) (a' b':Int)
 (hc:(U5 W s lc al cl v a b).setIfInBounds j x=U5 W s M5 al' cl' v' a' b') (hl:fP w L.B0 M5 al' 0) (hf:M5.length<=1000) (hr:w.ownsRow L.B1 112 6 v' code'.length (code'.flatMap pz)):iN T (w.setCell ⟨L.gb,j,none⟩ x) L W s M5 al' cl' v' code' a' b':=by
 have hg:=bU w ⟨L.gb,j,none⟩ x;have hb:Below L.B0 w (w.setCell ⟨L.gb,j,none⟩ x):=cK hg L.b0 h.b0;refine⟨qy h.blk _ hc,hr.kept hg ?_,aJ h.sz hg.size,h.wo.below hb,hf,hl.below hb⟩;cases hv:v'.ownBlock with
 |none=>exact .inl rfl
 |some k=>refine .inr (λe=> ?_);have:=(hr.lt k hv).1;have:=L.b1;injection e with e;simp only at e;omega
theorem iN.ag8 (h:iN T w L W s lc al cl v code a b) (x:Int):iN T (w.setCell ⟨L.gb,8,none⟩ (.int .i64 x)) L W s lc al cl v code x b:=h.setOf 8 _ _ _ _ _ _ _ _ rfl h.lc h.few h.row
theorem iN.jh (h:iN T w L W s lc al cl v code a b) (x:Int):iN T (w.setCell ⟨L.gb,9,none⟩ (.int .i64 x)) L W s lc al cl v code a x:=h.setOf 9 _ _ _ _ _ _ _ _ rfl h.lc h.few h.row
theorem iN.bA5 (h:iN T w L W s lc al cl v code a b) {M5:List ByteArray} {al':Option Addr} (cl':Nat) (hl:fP w L.B0 M5 al' 0) (hf:M5.length<=1000):iN T (w.setCell ⟨L.gb,6,none⟩ (.slice al' M5.length cl')) L W s M5 al' cl' v code a b:=h.setOf 6 _ _ _ _ _ _ _ _ rfl hl hf h.row
theorem iN.bA6 (h:iN T w L W s lc al cl v code a b):iN T (w.setCell ⟨L.gb,7,none⟩ (.slice none 0 0)) L W s lc al cl (.slice none 0 0) [] a b:=h.setOf 7 _ _ _ _ _ _ _ _ rfl h.lc h.few (World.ownsRow_nil _ _ _ _)
theorem iN.push {wz w4:World} {g' cap':Nat} (h:iN T w L W s lc al cl v code a b) (x:dS) (hb:Below w.heap.size w wz) (hown:w4.ownsRow L.B1 112 6 (.slice (some ⟨g',0,none⟩) (code.length+1) cap') (code.length+1) (code.flatMap pz++pz x)) (hgr:wz.grownBy w4 v.ownBlock) (hat:v.ownBlock=some g'∨wz.heap.size<=g'):
 iN T (w4.setCell ⟨L.gb,7,none⟩ (.slice (some ⟨g',0,none⟩) (code.length+1) cap')) L W s lc al cl (.slice (some ⟨g',0,none⟩) (code.length+1) cap') (code++[x]) a b∧
 Kg L v w (w4.setCell ⟨L.gb,7,none⟩ (.slice (some ⟨g',0,none⟩) (code.length+1) cap'))∧nM w v (.slice (some ⟨g',0,none⟩) (code.length+1) cap'):=by
 have hsz:w.heap.size<=w4.heap.size:=aJ hb.size hgr.size;have hlow: ∀k,k<w.heap.size->v.ownBlock≠some k->w4.heap[k]? =w.heap[k]?:=λk hk hv=>(hgr.block k (aR hk hb.size) (λe=>hv e.symm)).trans (hb.block k hk);have hnb: ∀k,k<L.B1->v.ownBlock≠some k:=λk hk e=>by have:=(h.own k e).1;omega
 have hbel:Below L.B0 w w4:=⟨hgr.os.trans hb.os,hgr.tape.trans hb.tape,hgr.output.trans hb.output,hsz,λk hk=>by have:=L.b0;have:=L.b1;have:=h.b0;exact hlow k agH (hnb k agH)⟩;have h4:iN T w4 L W s lc al cl v code a b∨True:= .inr trivial;have hblk:w4.heap[L.gb]? =some (.cells (U5 W s lc al cl v a b) T (0,0)):=(hlow _ (aO h.blk) (hnb _ L.b1)).trans h.blk;have hg:=bU w4 ⟨L.gb,7,none⟩ (.slice (some ⟨g',0,none⟩) (code.length+1) cap');have hb2:Below L.B0 w4 (w4.setCell ⟨L.gb,7,none⟩ (.slice (some ⟨g',0,none⟩) (code.length+1) cap')):=cK hg L.b0 (aJ h.b0 hsz);have hown':w4.ownsRow L.B1 112 6 (.slice (some ⟨g',0,none⟩) (code.length+1) cap') (code++[x]).length ((code++[x]).flatMap pz):=aan
 have hlt:=(hown.lt g' rfl).1;refine⟨⟨qy hblk _ rfl,hown'.kept hg (.inr ?_),aJ (aJ h.sz hsz) hg.size,(h.wo.below hbel).below hb2,h.few,(h.lc.below hbel).below hb2⟩,?_,?_⟩
 ·intro e;have:=L.b1;injection e with e;simp only at e;omega
 ·exact⟨hg.os.trans hbel.os,hg.tape.trans hbel.tape,hg.output.trans hbel.output,aJ hsz hg.size,λk hk hc hv=>(hg.block k (aR hk hsz) aht).trans (hlow k hk hv)⟩
 ·rcases hat with e|e
  ·exact .inl ahf
  ·exact .inr ⟨g',rfl,aJ hb.size e⟩
end
section
variable {w:World} {base:Nat} {e:TypeId} {size:Nat} {n cap g:Nat} {xs:List Value}
theorem Oy (h:w.ownsRow base e size (.slice (some ⟨g,0,none⟩) n cap) n xs) (j:Nat) (u:Value) (hj:j<xs.length):(w.setCell ⟨g,j,none⟩ u).ownsRow base e size (.slice (some ⟨g,0,none⟩) n cap) n (xs.set j u):=by
 rcases h.2 with⟨h1,-⟩|⟨g',cap',cur,e1,hb,hg,hc,hm,hs,ht⟩
 ·cases h1
 ·injection e1 with e1 e2 e3;injection e1 with e1;injection e1 with e1;subst e1;subst e3;refine⟨by rw[List.length_set];exact h.1,.inr ⟨g,cap,cur.setIfInBounds j u,rfl,hb,dI hg u,hc,hm,by simpa using hs,?_⟩⟩;rw[Array.toList_setIfInBounds,<- ht,List.take_set]
end
theorem Ib {α:Type} {f:α->List Value} {m:Nat} (hf: ∀x,(f x).length=m): ∀(xs:List α) (k:Nat) (x y:α) (j:Nat) (u:Value),xs[k]? =some x->j<m->f y=(f x).set j u->(xs.flatMap f).set (k*m+j) u=(xs.set k y).flatMap f
 | [],_,_,_,_,_,h,_,_=>ahe
 |z::xs,0,x,y,j,u,h,hj,hy=>by simp at h;subst h;rw[List.flatMap_cons,List.set_cons_zero,List.flatMap_cons,Nat.zero_mul,aU,hy,List.set_append_left _ _ (by rw[hf];exact hj)]
 |z::xs,k+1,x,y,j,u,h,hj,hy=>by
  have ih:=Ib hf xs k x y j u ahT hj hy;have e:(k+1)*m+j=m+(k*m+j):=by rw[Nat.add_mul];omega
  rw[List.flatMap_cons,List.set_cons_succ,List.flatMap_cons,<- ih,List.set_append_right _ _ (by rw[hf,e];omega),hf,e,Nat.add_sub_cancel_left]
section
variable {T:TypeId} {w w':World} {L:GL} {W:Wo} {s:jS} {lc:List ByteArray} {al:Option Addr} {cl:Nat} {v:Value} {code:List dS} {a b:Int}
theorem iN.patch {g cap:Nat} (h:iN T w L W s lc al cl (.slice (some ⟨g,0,none⟩) code.length cap) code a b) (k j:Nat) (x y:dS) (u:Value) (hx:code[k]? =some x) (hj:j<6) (hy:pz y=(pz x).set j u):
 iN T (w.setCell ⟨g,k*6+j,none⟩ u) L W s lc al cl (.slice (some ⟨g,0,none⟩) code.length cap) (code.set k y) a b∧Kg L (.slice (some ⟨g,0,none⟩) code.length cap) w (w.setCell ⟨g,k*6+j,none⟩ u):=by
 have hg:=bU w ⟨g,k*6+j,none⟩ u;have hlt:=h.own g rfl;have hb:Below L.B0 w (w.setCell ⟨g,k*6+j,none⟩ u):=cK hg (by have:=L.b0;have:=L.b1;show L.B0<=g;omega) h.b0;have hk:k<code.length:=(List.getElem?_eq_some_iff.1 hx).1;have hjl:k*6+j<(code.flatMap pz).length:=by rw[ru Cb];omega
 refine⟨⟨(hg.block _ (aO h.blk) (by have:=L.b1;simp;omega)).trans h.blk,?_,aJ h.sz hg.size,h.wo.below hb,h.few,h.lc.below hb⟩,hg.os,hg.tape,hg.output,hg.size,λi hi _ hv=>hg.block i hi (λe=>hv e.symm)⟩;have:=Oy h.row (k*6+j) u hjl;rw[Ib Cb code k x y j u hx hj hy]at this;rw[List.length_set];exact this
end
def nD (W:Wo) (s:jS):Value:= .agg #[.slice s.aC W.cs.length s.cC,.slice s.aL W.ls.length s.cL,.slice s.aN W.ns.length s.cN,.slice s.aF W.fs.length s.cF,.slice s.aT W.ts.length s.cT,.slice s.aS W.ss.length s.cS]
theorem aY0:(Tryz.prog.info? 112).map (λi=>(i.zero,i.size,i.bytes))=some (some (.agg #[.int .i64 0,.int .i64 0,.int .i64 0,.int .i64 0,.int .i64 0,.int .i64 0]),6,48):=agG
theorem BR {o:Option TypeInfo} {z:Option Value} {a b:Nat} (h:o.map (λi=>(i.zero,i.size,i.bytes))=some (z,a,b)): ∃i0,o=some i0∧i0.zero=z∧i0.size=a∧i0.bytes=b:=by
 cases o with
 |none=>cases h
 |some i=>simp at h;exact⟨i,rfl,h.1,h.2.1,h.2.2⟩
theorem by7 (x:dS): ∀u∈pz x,u.oneCell'=true:=by
 intro u hu;simp[pz]at hu;rcases hu with rfl|rfl|rfl|rfl|rfl|rfl <;> rfl
def Ue (x:dS):Value:= .agg #[.int .i64 x.op,.int .i64 x.a,.int .i64 x.b,.int .i64 x.c,.int .i64 x.n,.int .i64 x.st]
def Au (T:TypeId) (w:World) (L:GL) (W:Wo) (s:jS) (lc:List ByteArray) (al:Option Addr) (cl:Nat) (v:Value) (code:List dS) (a b:Int) (xs:List dS) (w':World):Prop:=
 ∃v',iN T w' L W s lc al cl v' (code++xs) a b∧Kg L v w w'∧nM w v v'
section
variable {T:TypeId} {w w1 w2 w':World} {L:GL} {W:Wo} {s:jS} {lc:List ByteArray} {al:Option Addr} {cl:Nat} {v:Value} {code:List dS} {a b:Int} {xs ys:List dS}
theorem Au.start (h:iN T w L W s lc al cl v code a b):Au T w L W s lc al cl v code a b [] w:=⟨v,ahT,Kg.refl _ _ _,.inl rfl⟩
theorem Au.pre (hb:Below w.heap.size w w1) (h:Au T w1 L W s lc al cl v code a b xs w'):Au T w L W s lc al cl v code a b xs w':=by
 obtain⟨v',h1,h2,h3⟩:=h;exact⟨v',h1,(Kg.of_below hb).trans (.inl rfl) h2,(nM.refl w v).trans h3 hb.size⟩
theorem Au.below (h:Au T w L W s lc al cl v code a b xs w1) (hb:Below w1.heap.size w1 w'):Au T w L W s lc al cl v code a b xs w':=by
 obtain⟨v',h1,h2,h3⟩:=h;exact⟨v',h1.below hb,h2.trans h3 (Kg.of_below hb),h3⟩
theorem Au.then (h:Au T w L W s lc al cl v code a b xs w1) (k: ∀v',iN T w1 L W s lc al cl v' (code++xs) a b->Au T w1 L W s lc al cl v' (code++xs) a b ys w'):Au T w L W s lc al cl v code a b (xs++ys) w':=by
 obtain⟨v',h1,h2,h3⟩:=h;obtain⟨v2,k1,k2,k3⟩:=k v' h1;exact⟨v2,adj,h2.trans h3 k2,h3.trans k3 h2.size⟩
end
structure mQ (T:TypeId) (w:World) (L:GL) (W:Wo) (s:jS) (lc:List ByteArray) (al:Option Addr) (cl:Nat) (v:Value) (code:List dS) (a b:Int) (nb:Nat) (cs:Array Value) (ty:TypeId) (xs:List dS) (w2:World) (v2:Value):Prop where
 i:iN T w2 L W s lc al cl v2 (code++xs) a b
 k:Kg L v w w2
 o:nM w v v2
 x:w2.heap[nb]? =some (.cells cs ty (0,0))
 g:L.B1<=nb
 n:v2.ownBlock≠some nb
section
variable {T ty:TypeId} {w w1 w2 w':World} {L:GL} {W:Wo} {s:jS} {lc:List ByteArray} {al:Option Addr} {cl nb:Nat} {v v2:Value} {code:List dS} {a b:Int} {xs ys:List dS} {cs:Array Value}
theorem mQ.start (h:iN T w L W s lc al cl v code a b) (hb:Below w.heap.size w w1) (hn:w.heap.size=nb) (hx:w1.heap[nb]? =some (.cells cs ty (0,0))):mQ T w L W s lc al cl v code a b nb cs ty [] w1 v:=
 ⟨by simpa using h.below hb,Kg.of_below hb,.inl rfl,hx,by rw[<- hn];exact h.sz,λe=>by have:=(h.own _ e).2;omega⟩
theorem mQ.then (h:mQ T w L W s lc al cl v code a b nb cs ty xs w2 v2) (k:Au T w2 L W s lc al cl v2 (code++xs) a b ys w'): ∃v3,mQ T w L W s lc al cl v code a b nb cs ty (xs++ys) w' v3:=by
 obtain⟨v3,k1,k2,k3⟩:=k;have hlt:=(aO h.x);exact⟨v3,adj,h.k.trans h.o k2,h.o.trans k3 h.k.size,(k2.block nb hlt adv h.n).trans h.x,h.g,k3.ne hlt h.n⟩
theorem mQ.below (h:mQ T w L W s lc al cl v code a b nb cs ty xs w2 v2) (hb:Below w2.heap.size w2 w'):mQ T w L W s lc al cl v code a b nb cs ty xs w' v2:=
 ⟨h.i.below hb,h.k.trans h.o (Kg.of_below hb),h.o,(hb.block nb (aO h.x)).trans h.x,h.g,h.n⟩
theorem mQ.fin (h:mQ T w L W s lc al cl v code a b nb cs ty xs w2 v2) (e:xs=ys):Au T w L W s lc al cl v code a b ys w2:=by
 subst e;exact⟨v2,h.i,h.k,h.o⟩
theorem mQ.low (h:mQ T w L W s lc al cl v code a b nb cs ty xs w2 v2) (h0:iN T w L W s lc al cl v code a b):Below L.B0 w w2:=h0.keep h.k
end
theorem iQ {w:World} {L:GL} {W:Wo} {s:jS} {lc:List ByteArray} {al:Option Addr} {cl:Nat} {v:Value} {code:List dS} {a b:Int} (h:iN 108 w L W s lc al cl v code a b) (x:dS) (hl:code.length+1<=1000000000000):
 Calls Tryz.prog 41 #[.pointer (some ⟨L.gb,0,none⟩),Ue x] w λe w'=>e= .returned (.tuple #[])∧Au 108 w L W s lc al cl v code a b [{x with st:=b}] w':=by
 obtain⟨ao,cap,rfl,hcap,-⟩:=h.form;obtain⟨hlt,-,-,-,-,-,-,-,c7,c8,c9,cf⟩:=h.cells;have HI:=ah h;have HL:=ah hl;clear h hl;unfold Ue;go_enter Tryz.func41,Tryz.ntmps41;go_upto_region 2 with fail;generalize hW:World.alloc w _=wq;obtain⟨nb,hnb,HB,-,HX,-⟩:=qD hW;have HQ:=ah (HI.o.below HB.o);have fC:aj (L.B1<=nb∧nb<wq.heap.size∧L.gb<wq.heap.size∧L.gb≠nb∧(Value.slice ao code.length cap).ownBlock≠some nb):=ah (by have h1:=HI.o.sz;have h2:=L.b1;refine⟨agH,(aO HX.o),(aO HQ.o.blk),agH,λe=> ?_⟩;have:=(HI.o.own _ e).2;omega);have HGV:aj ((Value.slice ao code.length cap).ownBlock≠some L.gb):=ah (λe=>by have:=(HI.o.own _ e).1;have:=L.b1;omega);have HC7:=ah HQ.o.cells.2.2.2.2.2.2.2.2.1;have HOW:aj (∀k,(Value.slice ao code.length cap).ownBlock=some k->k<wq.heap.size):=ah (λk e=>(HQ.o.own k e).2);rw[hnb];clear hW hnb c7 c8 c9 cf hlt;refine Mr (xw wq 4 6 7 10 (aI6 112 6 wq L.B1 (Value.slice ao code.length cap).ownBlock (code.length+1) (code.flatMap pz++pz {x with st:=b})) ⟨L.gb,7,none⟩ (hdV (code.length+1)) (pz {x with st:=b}).toArray 112) (Ag.le wq.heap.size) [9,10,11,12,13,14,15,16,17,18] ⟨none,false,none⟩ agG agG (λg w=>Ag.le_refl _ g w) ahS xw.start ?_;apply ug.step
 case bL=>intro D A g w' hDn hC hO hD;have e0:=hO 0 ahS;simp[Act.eval]at e0;simp[uL,vg,iY,Act.eval,Region.binds]at hD;simp[go_sem,CV,Oper.wp,hD,e0];exact oW.mk (Ag.le_refl _ _ _) (hC.skip _ agI) (vg.mk _ _ _)
 apply ug.step
 case bL=>intro D A g w' hDn hC hO hD;have e0:=hO 0 ahS;simp[Act.eval]at e0;simp[uL,vg,iY,Act.eval,Region.binds]at hD;simp[go_sem,CV,Oper.wp,hD,e0];exact oW.mk (Ag.le_refl _ _ _) (hC.skip _ agI) (vg.mk _ _ _)
 apply ug.step
 case bL=>exact Aay
 apply ug.step
 case bL=>exact Aay
 refine ug.some (λv g _=>v= .slice ao code.length cap∧g.h=true) (λv g w g' w' hle h=>⟨h.1,hle.2.1 h.2⟩) ?_ ?_
 ·intro D A g w' hDn hC hO hD;simp[uL,vg,iY,Act.eval,Region.binds]at hD;obtain⟨hp,hle,hm⟩:=hC.mk8 hDn agI;have z3:=((hC.pre hp).cell (p:=⟨L.gb,7,none⟩) fC.o.2.2.1).trans HC7.o;simp[go_sem,CV,Oper.wp,hD,z3];exact oW.mk hle hm ⟨rfl,rfl⟩
 simp only[dY];apply ug.step
 case bL=>intro D A g w' hDn hC hO hD;have e3:=hO 3 ahS;simp[Act.eval]at e3;have zc:=λ(j:Nat) (u:Value) (hu:(pz {x with st:=b})[j]? =some u)=>hC.cell fC.o.2.1 fC.o.2.2.2.2 fC.o.2.2.2.1 (aQ (j:=j) HX.o adQ);have z0:=zc 0 _ rfl;have z1:=zc 1 _ rfl;have z2:=zc 2 _ rfl;have z3:=zc 3 _ rfl;have z4:=zc 4 _ rfl;have z5:=zc 5 _ rfl;simp[uL,vg,iY,Act.eval,Region.binds]at hD;simp[go_sem,CV,Oper.wp,hD,e3,z0,z1,z2,z3,z4,z5];exact oW.mk (Ag.le_refl _ _ _) (hC.skip _ agI) (vg.mk _ _ _)
 refine ug.some (λv g _=> ∃b,v= .slice (some ⟨b,0,none⟩) 1 1∧g.o=some b) (λv g w g' w' hle h=>by obtain⟨b,h1,h2⟩:=h;exact⟨b,h1,hle.1 b h2⟩) ?_ ?_
 ·intro D A g w' hDn hC hO hD;simp[uL,vg,iY,Act.eval,Region.binds]at hD;simp[go_sem,CV,Oper.wp,hD];have hM:=hC.bz0 hDn agI;exact oW.mk hM.1 hM.2 ⟨_,rfl,rfl⟩
 refine ug.some (λv g _=> ∃q,g.p=some q∧v=hdV (code.length+1) q) (λv g w g' w' hle h=>by obtain⟨q,h1,h2⟩:=h;exact⟨q,hle.2.2.1 q h1,h2⟩) ?_ ?_
 ·intro D A g w' hDn hC hO hD;simp[uL,vg,iY,Act.eval,Region.binds]at hD;obtain⟨⟨hs1,hh⟩,bb,hs2,hb⟩:=hD;simp only[CV,if_true];have hbl:=hC.pre (hC.vF hDn);obtain⟨bO2,bx8⟩:=hC.row bb hb;have hown:=(HQ.o.below hbl).row;obtain⟨i0,hi0,hz0,hz1,hz2⟩:=BR aY0;refine wp_append_lies w' _ _ _ ahS L.B1 112 i0 _ 6 48 Tryz.underlying91 hi0 hz0 hz1 hz2 ahS agH (.slice ao code.length cap) code.length (code.flatMap pz) (by simp[Act.eval,hs1]) hown ⟨bb,0,none⟩ 1 1 (pz {x with st:=b}) (by simp[Act.eval,hs2]) ahS (gP bx8) (by7 _) agI (by have:=HL.o;unfold maxLen;omega) (by have:=HL.o;omega) (HQ.o.below hbl).sz _ rfl ?_;intro g' cap' w5 hown5 hgr hmv jQ;have hM:=hC.bz1 (q:=(g',cap')) (w':=w5) hDn agI hb hh ⟨hown5,jC (MW hbl) hgr,by rcases hmv with h|h;exact .inl h;exact .inr (by rw[h];exact hbl.size)⟩ hgr.size (λk h1 h2=>hgr.block k h2 (λe=>by have:=HOW.o k e.symm;omega));exact oW.mk hM.1 hM.2 ⟨(g',cap'),rfl,rfl⟩
 simp only[dY];apply ug.step
 case bL=>exact Aay
 apply ug.step
 case bL=>exact Aay
 refine ug.some (λ_ _ _=>True) (λ_ _ _ _ _ _ _=>trivial) ?_ ?_
 ·intro D A g w' hDn hC hO hD;simp[uL,vg,iY,Act.eval,Region.binds]at hD;obtain⟨hs1,⟨qa,qc,hq,hs2⟩,-⟩:=hD;have hR:=hC.post (qa,qc) hq hDn;have hblk:=hR.2.1.block L.gb fC.o.2.2.1 (λe=>HGV.o e.symm);have z3:=(World.cell?_of_block (a:=⟨L.gb,7,none⟩) hblk).trans HC7.o;have f3:w'.frozen? ⟨L.gb,7,none⟩=false:=by rw[World.frozen?_of_block (a:=⟨L.gb,7,none⟩) hblk];exact bK HQ.o.blk
  unfold hdV at hs2;simp[go_sem,CV,Oper.wp,hs1,hs2,z3,f3];have hM:=hC.bz2 hDn hq fC.o.2.2.1 agI agI;exact oW.DY (v:=undef) hM.1 hM.2 trivial
 refine ug.done ?_;intro D g wz hD hC;simp only[Qr,List.nil_append,List.cons_append,List.map_cons,List.map_nil];intro v0 h0 v1 h1 v2 h2 v3 h3 v4 h4 v5 h5 v6 h6 v7 h7 v8 h8 v9 h9 v10 h10;obtain⟨q,hq,rfl⟩:=h7;obtain⟨w5,hR,hW⟩:=hC.fin q hq (hD 10 agJ);have HP:=ah (HI.o.push (wz:=wq) (w4:=w5) (g':=q.1) (cap':=q.2) {x with st:=b} HB.o hR.1 hR.2.1 hR.2.2);clear hC hD;refine xO ?_;go_simp;go_wp2_with fail;refine bodyPost_end (v:= .tuple #[]) (by simp[results,Tryz.results41,go_sem]) rfl ⟨rfl,?_⟩;exact⟨_,HP.o⟩
namespace Md
theorem FU (W:Wo) (lc:List ByteArray) (st op n:Int) (nm:ByteArray) (kids rest:bT) (d:Int):Gn W lc st (.cons op n nm kids rest) d=oO W lc st op n nm kids d++Gn W lc st rest (d+1):=rfl
theorem nL (op n:Int) (nm:ByteArray) (kids rest:bT):mZ (.cons op n nm kids rest)=(jW op n nm kids&&mZ rest):=rfl
theorem FQ (W:Wo) (op n:Int) (nm:ByteArray) (kids rest:bT):JV W (.cons op n nm kids rest)=(AY W op nm kids&&JV W rest):=rfl
theorem Kr: ∀ {l:bT},l.len=0->l= .nil
 | .nil,_=>rfl
 | .cons _ _ _ _ _,h=>agB
theorem Uo: ∀ {l:bT},l.len=1->∃o n m k,l= .cons o n m k .nil
 | .nil,h=>agB
 | .cons o n m k r,h=>⟨o,n,m,k,by rw[Kr (l:=r) (by simpa[bT.len]using h)]⟩
theorem aw8: ∀ {l:bT},l.len=2->∃o n m k o' n' m' k',l= .cons o n m k (.cons o' n' m' k' .nil)
 | .nil,h=>agB
 | .cons o n m k r,h=>by obtain⟨o',n',m',k',e⟩:=Uo (l:=r) (by simpa[bT.len]using h);exact⟨o,n,m,k,o',n',m',k',by rw[e]⟩
theorem Wp {W:Wo} {op n:Int} {nm:ByteArray} {kids:bT} (hs:jW op n nm kids=true) (ho:AY W op nm kids=true):
 (op=1∧kids= .nil)∨(op=2∧kids= .nil)∨(op=3∧0<=W.cell nm∧∃o n' m k,kids= .cons o n' m k .nil∧jW o n' m k=true∧AY W o m k=true)∨
 ((op=4∨op=5)∧∃o n' m k,kids= .cons o n' m k .nil∧jW o n' m k=true∧AY W o m k=true)∨
 (6<=op∧op<=18∧∃o n1 m k o' n2 m' k',kids= .cons o n1 m k (.cons o' n2 m' k' .nil)∧jW o n1 m k=true∧AY W o m k=true∧jW o' n2 m' k'=true∧AY W o' m' k'=true):=by
 unfold jW at hs;rw[aP]at hs;obtain⟨h1,h2⟩:=hs;unfold AY at ho;rw[aP]at ho;obtain⟨ho1,ho2⟩:=ho;unfold IG at h1;rw[aP,beq_iff_eq]at h1;have hl:=h1.1;unfold opsOf at hl;by_cases c1:(op==1||op==2)=true
 ·rw[if_pos c1]at hl;have hk:=Kr (l:=kids) agH;rw[Bool.or_eq_true,beq_iff_eq,beq_iff_eq]at c1;rcases c1 with c|c
  ·exact .inl ⟨c,hk⟩
  ·exact .inr (.inl ⟨c,hk⟩)
 rw[if_neg c1]at hl;by_cases c2:(op==3||op==4||op==5)=true
 ·rw[if_pos c2]at hl;obtain⟨o,n',m,k,e⟩:=Uo (l:=kids) agH;subst e;rw[nL,aP]at h2;rw[FQ,aP]at ho2;rw[Bool.or_eq_true,Bool.or_eq_true,beq_iff_eq,beq_iff_eq,beq_iff_eq]at c2;rcases c2 with(c|c)|c
  ·subst c;exact .inr (.inr (.inl ⟨rfl,by simpa using ho1,o,n',m,k,rfl,h2.1,ho2.1⟩))
  ·exact .inr (.inr (.inr (.inl ⟨.inl c,o,n',m,k,rfl,h2.1,ho2.1⟩)))
  ·exact .inr (.inr (.inr (.inl ⟨.inr c,o,n',m,k,rfl,h2.1,ho2.1⟩)))
 rw[if_neg c2]at hl;by_cases c3:(decide (6<=op)&&decide (op<=18))=true
 ·rw[if_pos c3]at hl;rw[aP,decide_eq_true_eq,decide_eq_true_eq]at c3;obtain⟨o,n1,m,k,o',n2,m',k',e⟩:=aw8 (l:=kids) agH;subst e;rw[nL,nL,aP,aP]at h2;rw[FQ,FQ,aP,aP]at ho2;exact .inr (.inr (.inr (.inr ⟨c3.1,c3.2,o,n1,m,k,o',n2,m',k',rfl,h2.1,ho2.1,h2.2.1,ho2.2.1⟩)))
 ·rw[if_neg c3]at hl;omega
theorem TU {W:Wo} {nm:ByteArray} (h:0<=W.cell nm): ∃c,W.cs[(W.cell nm).toNat]? =some c∧W.size nm=c.sz∧c∈W.cs∧(W.cell nm).toNat<W.cs.length:=by
 have hlt:=aR5 h;rw[gH]at hlt;have hlt:(W.cell nm).toNat<W.cs.length:=hlt;refine⟨W.cs[(W.cell nm).toNat],bC hlt,?_,List.getElem_mem hlt,hlt⟩;unfold Wo.size;rw[bC hlt];rfl
theorem UG {W:Wo} {lc:List ByteArray} {st op n:Int} {nm:ByteArray} {o n1:Int} {m:ByteArray} {k:bT} {d:Int} (h:3<=op):oO W lc st op n nm (.cons o n1 m k .nil) d=oO W lc st o n1 m k d++[Rq W op nm d st]:=by
 conv=>lhs;unfold oO
 rw[if_neg agK,FU,Gn,List.append_nil]
theorem az4 {W:Wo} {lc:List ByteArray} {st op n:Int} {nm:ByteArray} {o n1 o' n2:Int} {m m':ByteArray} {k k':bT} {d:Int} (h:3<=op):oO W lc st op n nm (.cons o n1 m k (.cons o' n2 m' k' .nil)) d=oO W lc st o n1 m k d++oO W lc st o' n2 m' k' (d+1)++[Rq W op nm d st]:=by
 conv=>lhs;unfold oO
 rw[if_neg agK,FU,FU,Gn,List.append_nil]
end Md
namespace Md
def Rn (W:Wo) (h:dF):Prop:=IC W h=true∧jB h<=300000
def yL (W:Wo) (lc:List ByteArray) (h:dF) (b e:aZ) (nx pos:Nat):List dS:=
 F7 W lc nx h (jr W lc nx h lc.length) (kV W lc b (nx+1) (pos+qM h (jr W lc nx h lc.length)))
  (kV W lc e (nx+1+dH b) (pos+qM h (jr W lc nx h lc.length)+(kV W lc b (nx+1) (pos+qM h (jr W lc nx h lc.length))).length+1)) e.none pos
theorem ab3 (W:Wo) (lc:List ByteArray) (h:dF) (b e r:aZ) (nx pos:Nat):kV W lc (.cons h b e r) nx pos=yL W lc h b e nx pos++kV W lc r (nx+1+dH b+dH e) (pos+(yL W lc h b e nx pos).length):=rfl
theorem ay1 (W:Wo) (lc:List ByteArray) (h:dF) (b e:aZ) (nx pos:Nat):(yL W lc h b e nx pos).length<=jB h+pF b+pF e:=by
 unfold yL;have h1:=RD W lc nx h (kV W lc b (nx+1) (pos+qM h (jr W lc nx h lc.length))) (kV W lc e (nx+1+dH b) (pos+qM h (jr W lc nx h lc.length)+(kV W lc b (nx+1) (pos+qM h (jr W lc nx h lc.length))).length+1)) e.none pos;have h2:=uw W lc b (nx+1) (pos+qM h (jr W lc nx h lc.length));have h3:=uw W lc e (nx+1+dH b) (pos+qM h (jr W lc nx h lc.length)+(kV W lc b (nx+1) (pos+qM h (jr W lc nx h lc.length))).length+1);omega
def stA (h:dF) (b e:aZ) (s:Sl):Array Value:= #[.int .i64 h.op,.int .i64 h.line,.string h.nm,.string h.arg,.slice s.gU h.idx.len s.gy,.int .i64 h.dP,.int .i64 h.xn,.string h.dO,.slice s.fT h.bJ.len s.eB,.slice s.dB b.len s.cu,.slice s.iD e.len s.gu]
end Md
theorem qR {w:World} {n:Nat} {h:dF} {b e:aZ} {s:Sl} {t:TypeId} {f:Nat×Nat} (x:w.heap[n]? =some (.cells (stA h b e s) t f)):w.cell? ⟨n,0,none⟩=some (.int .i64 h.op)∧w.cell? ⟨n,1,none⟩=some (.int .i64 h.line)∧w.cell? ⟨n,2,none⟩=some (.string h.nm)∧w.cell? ⟨n,3,none⟩=some (.string h.arg)∧w.cell? ⟨n,4,none⟩=some (.slice s.gU h.idx.len s.gy)∧w.cell? ⟨n,5,none⟩=some (.int .i64 h.dP)∧w.cell? ⟨n,6,none⟩=some (.int .i64 h.xn)∧w.cell? ⟨n,7,none⟩=some (.string h.dO)∧w.cell? ⟨n,8,none⟩=some (.slice s.fT h.bJ.len s.eB)∧w.cell? ⟨n,9,none⟩=some (.slice s.dB b.len s.cu)∧w.cell? ⟨n,10,none⟩=some (.slice s.iD e.len s.gu):=
 ⟨aQ x rfl,aQ x rfl,aQ x rfl,aQ x rfl,aQ x rfl,aQ x rfl,aQ x rfl,aQ x rfl,aQ x rfl,aQ x rfl,aQ x rfl⟩
def Qn (w:World) (B:Nat) (h:dF) (b e:aZ) (s:Sl):Prop:=xg h b e∧h.idx.At w B s.gU 0∧h.bJ.At w B s.fT 0∧b.At w B s.dB 0∧e.At w B s.iD 0
theorem Qn.below {w w':World} {B:Nat} {h:dF} {b e:aZ} {s:Sl} (hi:Qn w B h b e s) (hb:Below B w w'):Qn w' B h b e s:=
 ⟨hi.1,hi.2.1.below hb,hi.2.2.1.below hb,hi.2.2.2.1.below hb,hi.2.2.2.2.below hb⟩
theorem IJ {w:World} {B:Nat} {h:dF} {b e r:aZ} {ao:Option Addr} {k:Nat} (hat:(aZ.cons h b e r).At w B ao k): ∃bl off s,ao=some ⟨bl,off,none⟩∧bl<B∧Qn w B h b e s∧
 (∀j u,(stA h b e s)[j]? =some u->w.cell? ⟨bl,off+k*11+j,none⟩=some u)∧r.At w B ao (k+1):=by
 obtain⟨⟨b',off,gU,gy,fT,eB,dB,cu,iD,gu,e',hB,c0,c1,c2,c3,c4,c5,c6,c7,c8,c9,c10,hok,h1,h2,h3,h4⟩,hr⟩:=hat;refine⟨b',off,⟨gU,gy,fT,eB,dB,cu,iD,gu⟩,e',hB,⟨hok,h1,h2,h3,h4⟩,λj u hu=> ?_,hr⟩;have hj:j<11:=(aO hu);have:j=0∨j=1∨j=2∨j=3∨j=4∨j=5∨j=6∨j=7∨j=8∨j=9∨j=10:=agH
 rcases this with rfl|rfl|rfl|rfl|rfl|rfl|rfl|rfl|rfl|rfl|rfl <;> (simp[stA]at hu;subst hu;first|exact c0|exact c1|exact c2|exact c3|exact c4|exact c5|exact c6|exact c7|exact c8|exact c9|exact c10)
structure wG (w:World) (L:GL) (W:Wo) (code:List dS) (h:dF) (b e:aZ) (sl:Sl) (nx:Nat):Prop where
 m:Qn w L.B0 h b e sl
 sh:om h b.len e.len=true
 sb:gQ b=true
 se:gQ e=true
 ok:Rn W h
 ob:b.Ev (Rn W)
 oe:e.Ev (Rn W)
 len:code.length+(jB h+pF b+pF e)<=1000000000000
 cnt:nx+(jB h+pF b+pF e)<=1000000000000
theorem wG.below {w w':World} {L:GL} {W:Wo} {code:List dS} {h:dF} {b e:aZ} {sl:Sl} {nx:Nat} (p:wG w L W code h b e sl nx) (hb:Below L.B0 w w'):wG w' L W code h b e sl nx:=
 ⟨p.m.below hb,p.sh,p.sb,p.se,p.ok,p.ob,p.oe,p.len,p.cnt⟩
theorem wG.b7 {w:World} {L:GL} {W:Wo} {code:List dS} {h:dF} {b e:aZ} {sl:Sl} {nx:Nat} (p:wG w L W code h b e sl nx):b.len<=maxLen:=p.m.1.2.2.2.2.2.2.1
theorem wG.e7 {w:World} {L:GL} {W:Wo} {code:List dS} {h:dF} {b e:aZ} {sl:Sl} {nx:Nat} (p:wG w L W code h b e sl nx):e.len<=maxLen:=p.m.1.2.2.2.2.2.2.2
def Nr (Q:Int->Int->Prop) (T:TypeId) (w:World) (L:GL) (W:Wo) (s:jS) (lc:List ByteArray) (al:Option Addr) (cl:Nat) (v:Value) (code:List dS) (xs:List dS) (w':World):Prop:=
 ∃v' a' b',Q a' b'∧iN T w' L W s lc al cl v' (code++xs) a' b'∧Kg L v w w'∧nM w v v'
section
variable {Q:Int->Int->Prop} {T ty:TypeId} {w w1 w2 w':World} {L:GL} {W:Wo} {s:jS} {lc:List ByteArray} {al:Option Addr} {cl nb:Nat} {v v2:Value} {code:List dS} {a b:Int} {xs ys:List dS} {cs:Array Value}
theorem mQ.list (h:mQ T w L W s lc al cl v code a b nb cs ty xs w2 v2) (k:Nr Q T w2 L W s lc al cl v2 (code++xs) ys w'): ∃v3 a' b',Q a' b'∧mQ T w L W s lc al cl v code a' b' nb cs ty (xs++ys) w' v3:=by
 obtain⟨v3,a',b',hq,k1,k2,k3⟩:=k;have hlt:=(aO h.x);exact⟨v3,a',b',hq,adj,h.k.trans h.o k2,h.o.trans k3 h.k.size,(k2.block nb hlt adv h.n).trans h.x,h.g,k3.ne hlt h.n⟩
theorem mQ.tK (h:mQ T w L W s lc al cl v code a b nb cs ty xs w2 v2) (hq:Q a b) (e:xs=ys):Nr Q T w L W s lc al cl v code ys w2:=by
 subst e;exact⟨v2,a,b,hq,h.i,h.k,h.o⟩
theorem mQ.setOf (h:mQ T w L W s lc al cl v code a b nb cs ty xs w2 v2) {j:Nat} {u:Value} {a' b':Int} (hi:iN T (w2.setCell ⟨L.gb,j,none⟩ u) L W s lc al cl v2 (code++xs) a' b'):mQ T w L W s lc al cl v code a' b' nb cs ty xs (w2.setCell ⟨L.gb,j,none⟩ u) v2:=
 ⟨hi,h.k.trans h.o (Kg.set _ _ _),h.o,(bg _ _ _ rfl (by have:=L.b1;have:=h.g;show L.gb≠nb;omega)).trans h.x,h.g,h.n⟩
theorem mQ.ag8 (h:mQ T w L W s lc al cl v code a b nb cs ty xs w2 v2) (x:Int):mQ T w L W s lc al cl v code x b nb cs ty xs (w2.setCell ⟨L.gb,8,none⟩ (.int .i64 x)) v2:=h.setOf (h.i.ag8 x)
theorem mQ.jh (h:mQ T w L W s lc al cl v code a b nb cs ty xs w2 v2) (x:Int):mQ T w L W s lc al cl v code a x nb cs ty xs (w2.setCell ⟨L.gb,9,none⟩ (.int .i64 x)) v2:=h.setOf (h.i.jh x)
theorem iN.Wd (h:iN T w L W s lc al cl v code a b) {k:Nat} {x:dS} (hx:code[k]? =some x): ∃g cap,v= .slice (some ⟨g,0,none⟩) code.length cap∧L.B1<=g∧(∀j u,(pz x)[j]? =some u->w.cell? ⟨g,k*6+j,none⟩=some u)∧∀j,w.frozen? ⟨g,j,none⟩=false:=by
 have hk:=(List.getElem?_eq_some_iff.1 hx).1;rcases h.row.2 with⟨-,hn⟩|⟨g,cap,cur,rfl,hb,hg,h1,h2,h3,h4⟩
 ·omega
 ·refine⟨g,cap,rfl,hb,λj u hu=> ?_,λ_=>bK hg⟩;have hF:=flat_get Cb code k x j u hx hu;rw[<- h4]at hF;have hlt:=(List.getElem?_eq_some_iff.1 hF).1;rw[List.getElem?_take_of_lt acF]at hF;exact aQ hg ahp
theorem mQ.patch {g cap:Nat} (h:mQ T w L W s lc al cl v code a b nb cs ty xs w2 (.slice (some ⟨g,0,none⟩) (code++xs).length cap)) (i j:Nat) (x y:dS) (u:Value) (hx:xs[i]? =some x) (hj:j<6) (hy:pz y=(pz x).set j u):
 mQ T w L W s lc al cl v code a b nb cs ty (xs.set i y) (w2.setCell ⟨g,(code.length+i)*6+j,none⟩ u) (.slice (some ⟨g,0,none⟩) (code++xs).length cap):=by
 have hx':(code++xs)[code.length+i]? =some x:=by rw[List.getElem?_append_right agH];simpa using hx
 obtain⟨p1,p2⟩:=h.i.patch (code.length+i) j x y u hx' hj hy;have hlt:=(aO h.x);have e:(code++xs).set (code.length+i) y=code++xs.set i y:=by rw[List.set_append_right _ _ agH];simp
 rw[e]at p1;exact⟨p1,h.k.trans h.o p2,h.o,(p2.block nb hlt adv h.n).trans h.x,h.g,h.n⟩
end
namespace Md
theorem J6 (p:Pr) (j:Nat) (tn iB:ByteArray): ∀(l ar:aZ) (f g:List (List UInt8)),(gX p j tn iB l ar f g).err=0->l.Ev (λh=> ∃ar f g,jG p j tn iB ar f g h=0)
 | .nil,_,_,_,_=>trivial
 | .cons h b e r,ar,f,g,h0=>by
   rw[gX]at h0;split at h0
   ·exact absurd (show(2:Int)=0 from h0) agI
   ·split at h0
    ·rename_i h1;rw[show jG p j tn iB ar (mem f) (mem g) h=0 from h0]at h1;exact absurd h1 agI
    ·rename_i h1;split at h0
     ·rename_i h2;rw[h0]at h2;exact absurd h2 agI
     ·rename_i h2;split at h0
      ·rename_i h3;rw[h0]at h3;exact absurd h3 agI
      ·rename_i h3;refine⟨⟨ar,mem f,mem g,agO⟩,J6 p j tn iB b _ _ _ agQ,J6 p j tn iB e _ _ _ ahP,J6 p j tn iB r _ _ _ h0⟩
theorem RS (p:Pr) (iB:ByteArray): ∀(l:List Th) (j:Nat) (f g:List (List UInt8)),(jA p iB l j f g).err=0->∀t∈l,∃j:Nat,t.body.Ev (λh=> ∃ar f g,jG p j t.nm iB ar f g h=0)
 | [],_,_,_,_=>λt h=>ahh
 |t::r,j,f,g,h0=>by
  rw[jA]at h0;split at h0
  ·rename_i h2;rw[h0]at h2;exact absurd h2 agI
  ·rename_i h2;intro x hx;rcases List.mem_cons.1 hx with rfl|hx
   ·exact⟨j,J6 p j _ iB _ _ _ _ agQ⟩
   ·exact RS p iB r _ _ _ h0 x hx
theorem Si: ∀(l:List Th) (W:Wo) (i:Nat),(yQ W i l).cs=W.cs∧(yQ W i l).ls=W.ls∧(yQ W i l).ns=W.ns∧(yQ W i l).fs=W.fs
 | [],_,_=>⟨rfl,rfl,rfl,rfl⟩
 |t::r,W,i=>by rw[yQ];exact Si r _ _
theorem UJ {d:De} (hd:d.kind=1): ∀ {l:List De} (W:Wo),(d∈l∨∃c∈W.cs,c.nm=d.nm)->∃c∈(l.foldl lJ W).cs,c.nm=d.nm
 | [],W,h=>by
   rcases h with h|h
   ·cases h
   ·exact h
 |x::r,W,h=>by
  rw[List.foldl_cons];refine UJ hd (lJ W x) ?_;rcases h with h|⟨c,hc,e⟩
  ·rcases List.mem_cons.1 h with rfl|h
   ·right;refine⟨⟨d.nm,(0:Nat),d.size,d.kind==2,d.init⟩,?_,rfl⟩;have hk:(d.kind==1||d.kind==2)=true:=(by rw[hd];rfl);unfold lJ;rw[if_pos hk];show _∈W.cs++Hy d;refine List.mem_append_right _ ?_;unfold Hy;obtain⟨n,hn⟩: ∃n,(max d.size 1).toNat=n+1:=⟨(max d.size 1).toNat -1,agH⟩;rw[hn,rT];exact aX
   ·exact .inl h
  ·right;refine⟨c,?_,e⟩;unfold lJ;split
   ·exact List.mem_append_left _ hc
   ·split
    ·exact hc
    ·split <;> exact hc
theorem Iz {p:Pr} {i:Int} {nm:ByteArray} (h:mean p i nm=3):0<=(ng p).cell nm:=by
 unfold mean at h;split at h
 ·exact absurd h agI
 ·unfold qA at h;cases hf:p.ds.find? (λd=>d.nm.toList==nm.toList)with
  |none=>rw[hf]at h;simp at h;unfold tQ at h;split at h <;> exact absurd h agI
  |some d=>
   rw[hf]at h;simp only[Option.map_some,Option.getD_some]at h;have hd:d.kind=1:=by
    unfold gK at h;split at h
    ·rename_i hk;simpa using hk
    ·split at h
     ·exact absurd h agI
     ·split at h
      ·exact absurd h agI
      ·split at h
       ·exact absurd h agI
       ·split at h
        ·exact absurd h agI
        ·split at h <;> exact absurd h agI
   have hm:=List.mem_of_find?_eq_some hf;have hn:=List.find?_some hf;obtain⟨c,hc,e⟩:=UJ hd oG (.inl hm);unfold Wo.cell iK ng;refine MZ _ _ _ agI ⟨c.nm,List.mem_map.2 ⟨c,?_,rfl⟩,?_⟩
   ·rw[(Si _ _ _).1];exact hc
   ·rw[e];simpa using hn
theorem N8 {p:Pr} {i:Int} : ∀ {l:bT},vS p i l=0->JV (ng p) l=true
 | .nil,_=>rfl
 | .cons op n nm kids rest,h=>by
   rw[vS]at h;split at h
   ·rename_i h1;split at h
    ·rename_i h2;rw[JV,N8 agQ,N8 h];have h1:qO p i op nm=0:=agO;unfold qO at h1;by_cases h3:op=3
     ·subst h3;have:=tN (show dQ (mean p i nm) [3]=0 from h1);simp[Iz (this)]
     ·simp[h3]
    ·rename_i h2;rw[h]at h2;exact absurd rfl h2
   ·rename_i h1;rw[h]at h1;exact absurd rfl h1
theorem LA {p:Pr} {i op n:Int} {nm:ByteArray} {kids:bT} (h:lU p i op n nm kids=0):AY (ng p) op nm kids=true:=by
 unfold lU at h;split at h
 ·split at h
  ·exact absurd h agI
  ·unfold yc at h;split at h
   ·rename_i h1;have h1:qO p i op nm=0:=agO;unfold AY;rw[N8 h];unfold qO at h1;by_cases h3:op=3
    ·subst h3;have:=tN (show dQ (mean p i nm) [3]=0 from h1);simp[Iz (this)]
    ·simp[h3]
   ·rename_i h1;rw[h]at h1;exact absurd rfl h1
 ·exact absurd h agI
theorem len_nil {l:bT} (h:l.len=0):l= .nil:=by
 cases l with
 |nil=>rfl
 |cons=>simp[bT.len]at h
theorem aj4 {W:Wo} {op n:Int} {nm:ByteArray} {kids:bT} (h:qV op n nm kids.len=true):AY W op nm kids=true:=by
 unfold qV at h;simp only[aP,beq_iff_eq]at h;obtain⟨⟨⟨h1,-⟩,-⟩,h2⟩:=h;rw[len_nil h2,h1];rfl
theorem YN {h:dF} {bl el:Nat} (hs:om h bl el=true):h.idx.len<=1∧(h.op≠1->h.idx= .nil)∧(fX h.op=false->qV h.dP h.xn h.dO h.bJ.len=true)∧1<=h.op∧h.op<=15:=by
 unfold om at hs;simp only[aP]at hs;obtain⟨⟨⟨h1,-⟩,⟨h2,h3⟩,-⟩,h4,-⟩:=hs;unfold fO at h1;simp only[aP,decide_eq_true_eq]at h1 h2;refine⟨h2,λhne=> ?_,λhx=> ?_,h1⟩
 ·have hl:h.idx.len≠1:=λe=>by rw[e]at h3;unfold fI at h3;simp at h3;exact hne h3
  exact len_nil agH
 ·rw[hx]at h4;simpa using h4
theorem aV8 {p:Pr} {j:Nat} {tn iB:ByteArray} {ar:aZ} {f g:List UInt8->Bool} {h:dF} {bl el:Nat} (hs:om h bl el=true) (h0:jG p j tn iB ar f g h=0):IC (ng p) h=true:=by
 obtain⟨hl,hi,hx,ho1,ho2⟩:=YN hs;have key: ∀(he:AY (ng p) h.dP h.dO h.bJ=true),h.op≠1->IC (ng p) h=true:=λhe hne=>by unfold IC;rw[he,hi hne];rfl
 by_cases h1:h.op=1
 ·unfold jG at h0;rw[h1,if_pos ahS]at h0;unfold Ho at h0;split at h0
  ·rename_i hz;have hz:h.idx.len=0:=by simpa using hz
   have:=LA (ni h0 _ (aY _ aX));unfold IC;rw[this,len_nil hz];rfl
  ·rename_i hz;have hz:h.idx.len≠0:=by simpa using hz
   have e1:=tN (ni h0 _ aX);have e2:=ni h0 _ (aY _ aX);have e3:=LA (ni h0 _ (aY _ (aY _ aX)));have ec:=Iz (e1);unfold IC;cases hidx:h.idx with
   |nil=>rw[hidx]at hz;exact absurd rfl hz
   |cons op n nm kids r=>rw[hidx]at e2 hl;have hr:r= .nil:=len_nil (by simp only[bT.len]at hl;omega);have:=LA (show lU p j op n nm kids=0 from e2);unfold AY at this;rw[e3,hr,JV,this];simp[JV,ec]
 ·have hne:=h1;by_cases hf:fX h.op=true
  ·refine key (LA (p:=p) (i:=j) (n:=h.xn) ?_) hne;unfold fX at hf;simp only[Bool.or_eq_true,beq_iff_eq]at hf;rcases hf with(hf|hf)|(hf|hf)
   ·exact absurd hf hne
   ·unfold jG at h0;rw[hf]at h0;exact h0
   ·unfold jG at h0;rw[hf]at h0;exact h0
   ·unfold jG at h0;rw[hf]at h0;exact ni (show gF _=0 from h0) _ agJ
  ·exact key (aj4 (hx (by simpa using hf))) hne
theorem FT: ∀ {l:aZ},gQ l=true->l.Ev (λh=> ∃bl el,om h bl el=true)
 | .nil,_=>trivial
 | .cons h b e r,hs=>by rw[gQ]at hs;simp only[aP]at hs;exact⟨⟨_,_,hs.1.1⟩,FT hs.1.2.1,FT hs.1.2.2,FT hs.2⟩
theorem yK {p:Pr} (h:(ko p).1=0):rE p=true∧(mK p.ds [] 0 0 0 0).1=0∧p.ts.length<=4∧(lM p).1=0∧tJ p.ts 0<=60∧(jA p (kH p) p.ts 0 [] []).err=0:=by
 unfold ko at h;split at h
 ·exact absurd h agI
 ·rename_i h1;split at h
  ·rename_i h2;rw[h]at h2;exact absurd h2 agI
  ·rename_i h2;split at h
   ·exact absurd h agI
   ·rename_i h3;split at h
    ·rename_i h4;rw[h]at h4;exact absurd h4 agI
    ·rename_i h4;split at h
     ·exact absurd h agI
     ·rename_i h5;simp only[decide_eq_true_eq]at h3 h5;exact⟨agO,agQ,agH,ahr,agH,h⟩
theorem okP {p:Pr} (h:(ko p).1=0): ∀t∈p.ts,t.body.Ev (λh=>IC (ng p) h=true):=by
 obtain⟨h1,-,-,-,-,h6⟩:=yK h;intro t ht;obtain⟨j,hj⟩:=RS p _ _ _ _ _ h6 t ht;unfold rE at h1;simp only[aP]at h1;have h2:=List.all_eq_true.1 h1.1.2 t ht;unfold pO at h2;simp only[aP]at h2;refine(hj.and (FT h2.2)).imp λx hx=> ?_;obtain⟨⟨ar,f,g,h0⟩,bl,el,hs⟩:=hx;exact aV8 hs h0
end Md
namespace Md
def qX (d:De):Nat->Nat->List mP
 |0,_=>[]
 |n+1,k=>⟨d.nm,k,d.size,false,d.init⟩::qX d n (k+1)
def mF (d:De):List mP:=if d.size==0 then [⟨d.nm,0,0,d.kind==2,d.init⟩]else qX d d.size.toNat 0
def gD (W:Wo) (g:List UInt8->Int) (d:De):List UInt8->Int:=if d.kind==3||d.kind==4 then λx=>if x=d.nm.toList then(W.ls.length:Int)else g x else g
def lK (W:Wo) (g:List UInt8->Int) (d:De):Wo:=
 if d.kind==1||d.kind==2 then {W with cs:=W.cs++mF d} else if d.kind==3||d.kind==4 then {W with ls:=W.ls++[⟨d.nm,d.kind==4⟩]} else
 if d.kind==5 then {W with ns:=W.ns++[⟨d.nm,g d.on.toList⟩]} else if d.kind==6 then {W with fs:=W.fs++[d.nm]} else W
def IU:List De->Wo->(List UInt8->Int)->Wo
 | [],W,_=>W
 |d::r,W,g=>IU r (lK W g d) (gD W g d)
theorem Xi {d:De} (h:(d.kind==2)=false): ∀(n k:Nat),qX d n k=rT d n k
 |0,_=>rfl
 |n+1,k=>by rw[qX,rT,Xi h n,h]
theorem aK1 {d:De} (hs:jw d=true):mF d=Hy d:=by
 unfold jw at hs;simp only[aP,decide_eq_true_eq]at hs;obtain⟨⟨⟨⟨h1,h2⟩,-⟩,h3,h4⟩,-⟩:=hs;unfold mF Hy;split
 ·rename_i h0;have h0:d.size=0:=by simpa using h0
  rw[h0];show _=rT d 1 0;rw[rT,rT,h0];rfl
 ·rename_i h0;have h0:d.size≠0:=by simpa using h0
  have hk:d.kind=1:=by simpa[h0]using h4
  rw[Xi (by rw[hk];rfl),show max d.size 1=d.size by omega]
theorem Ra: ∀(l:List ByteArray) (s nm:ByteArray) (k:Int),(∀x∈l,x.toList≠s.toList)->sj (l++[s]) nm k=if nm.toList=s.toList then k+l.length else sj l nm k
 | [],s,nm,k,_=>by
   simp only[List.nil_append,sj,aW];by_cases h:nm.toList=s.toList
   ·simp[h]
   ·have: ¬s.toList=nm.toList:=λe=>h e.symm;simp[h,this]
 |y::r,s,nm,k,hn=>by
  have ih:=Ra r s nm (k+1) (λx hx=>hn x (aY _ hx));have hy:=hn y aX;rw[List.cons_append,sj,ih,sj];by_cases h:nm.toList=s.toList
  ·rw[if_pos h,if_pos h];have:(y.toList==nm.toList)=false:=by rw[h];simpa using hy
   rw[this];simp only[aD];rw[if_neg agI];omega
  ·rw[if_neg h,if_neg h]
structure BN (pre:List De) (W:Wo) (g:List UInt8->Int):Prop where
 sub: ∀s∈W.ls.map (·.nm),∃d∈pre,d.nm.toList=s.toList
 eq: ∀x:ByteArray,0<=iK (W.ls.map (·.nm)) x->g x.toList=iK (W.ls.map (·.nm)) x
 has: ∀d∈pre,d.kind=3∨d.kind=4->0<=iK (W.ls.map (·.nm)) d.nm
theorem aw9 {pre:List De} {l:List UInt8} (h:mD pre l=0): ∀d∈pre,d.nm.toList≠l:=by
 have hf:=Uq (pre:=pre) (l:=l) (by rw[h];rfl);intro d hd e;have:=List.find?_eq_none.1 hf d hd;simp[e]at this
theorem BN.step {pre:List De} {W:Wo} {g:List UInt8->Int} {d:De} (h:BN pre W g) (hd:mD pre d.nm.toList=0):BN (pre++[d]) (lK W g d) (gD W g d):=by
 have hz:=aw9 hd;by_cases hk:(d.kind==3||d.kind==4)=true
 ·have h12:(d.kind==1||d.kind==2)=false:=by simp only[Bool.or_eq_true,beq_iff_eq]at hk;rcases hk with hk|hk <;> rw[hk] <;> rfl
  have e1:(lK W g d).ls=W.ls++[⟨d.nm,d.kind==4⟩]:=by unfold lK;rw[h12,hk];rfl
  have e2:gD W g d=λx=>if x=d.nm.toList then(W.ls.length:Int)else g x:=by unfold gD;rw[if_pos hk]
  have e3:(lK W g d).ls.map (·.nm)=W.ls.map (·.nm)++[d.nm]:=by rw[e1];simp
  have hne: ∀x∈W.ls.map (·.nm),x.toList≠d.nm.toList:=λx hx e=>by obtain⟨d',hd',e'⟩:=h.sub x hx;exact hz d' hd' (e'.trans e)
  have e4: ∀x,iK ((lK W g d).ls.map (·.nm)) x=if x.toList=d.nm.toList then(W.ls.length:Int)else iK (W.ls.map (·.nm)) x:=λx=>by rw[e3];unfold iK;rw[Ra _ _ _ _ hne];simp
  refine⟨λs hs=> ?_,λx hx=> ?_,λd' hd' hk'=> ?_⟩
  ·rw[e3]at hs;rcases List.mem_append.1 hs with hs|hs
   ·obtain⟨d',h1,h2⟩:=h.sub s hs;exact⟨d',List.mem_append_left _ h1,h2⟩
   ·rw[List.mem_singleton.1 hs];exact⟨d,List.mem_append_right _ (List.mem_singleton.2 rfl),rfl⟩
  ·rw[e4]at hx⊢;rw[e2];show(if _ then _ else _)=_;by_cases hc:x.toList=d.nm.toList
   ·rw[if_pos hc,if_pos hc]
   ·rw[if_neg hc]at hx⊢;rw[if_neg hc];exact h.eq x hx
  ·rw[e4];split
   ·omega
   ·rename_i hc;rcases List.mem_append.1 hd' with hd'|hd'
    ·exact h.has d' hd' hk'
    ·rw[List.mem_singleton.1 hd']at hc;exact absurd rfl hc
 ·have hk:(d.kind==3||d.kind==4)=false:=by simpa using hk
  have e1:(lK W g d).ls=W.ls:=by
   unfold lK;rw[hk];split
   ·rfl
   ·rw[if_neg agI];split
    ·rfl
    ·split <;> rfl
  have e2:gD W g d=g:=by unfold gD;rw[hk];rfl
  rw[e2];refine⟨λs hs=> ?_,λx hx=> ?_,λd' hd' hk'=> ?_⟩
  ·rw[e1]at hs;obtain⟨d',h1,h2⟩:=h.sub s hs;exact⟨d',List.mem_append_left _ h1,h2⟩
  ·rw[e1]at hx⊢;exact h.eq x hx
  ·rw[e1];rcases List.mem_append.1 hd' with hd'|hd'
   ·exact h.has d' hd' hk'
   ·rw[List.mem_singleton.1 hd']at hk';simp only[Bool.or_eq_false_iff,beq_eq_false_iff_ne]at hk;rcases hk' with e|e
    ·exact absurd e hk.1
    ·exact absurd e hk.2
theorem Vm {d:De} (h:gK d=4):d.kind=3:=by
 unfold gK at h;split at h
 ·split at h <;> exact absurd h agI
 ·split at h
  ·exact absurd h agI
  ·split at h
   ·rename_i hk;simpa using hk
   ·split at h
    ·exact absurd h agI
    ·split at h
     ·exact absurd h agI
     ·split at h <;> exact absurd h agI
theorem BN.cond {pre:List De} {W:Wo} {g:List UInt8->Int} {on:ByteArray} (h:BN pre W g) (hm:mD pre on.toList=4):g on.toList=iK (W.ls.map (·.nm)) on:=by
 unfold mD at hm;cases hf:pre.find? (λd=>d.nm.toList==on.toList)with
 |none=>rw[hf]at hm;exact absurd hm agI
 |some d=>
  rw[hf]at hm;have hd:=Vm (show gK d=4 from hm);have h1:=List.mem_of_find?_eq_some hf;have h2:=List.find?_some hf;have h2:d.nm.toList=on.toList:=agQ
  refine h.eq on ?_;have:=h.has d h1 (.inl hd);unfold iK at this⊢;rcases LZ (W.ls.map (·.nm)) d.nm 0 with h3|h3
  ·omega
  ·have e: ∀(l:List ByteArray) (k:Int),sj l on k=sj l d.nm k:=λl=>by
    induction l with
    |nil=>intro k;rfl
    |cons s r ih=>intro k;rw[sj,sj,ih,h2]
   rw[e];exact this
theorem as9: ∀(l pre:List De) (W:Wo) (g:List UInt8->Int) (c x n f:Int),(∀d∈l,jw d=true)->BN pre W g->(mK l pre c x n f).1=0->IU l W g=l.foldl lJ W
 | [],_,_,_,_,_,_,_,_,_,_=>rfl
 |d::r,pre,W,g,c,x,n,f,hs,hI,h0=>by
  have hsd:=hs d aX;rw[mK]at h0;split at h0
  ·exact absurd (show(4:Int)=0 from h0) agI
  ·rename_i h1;split at h0
   ·exact absurd (show(2:Int)=0 from h0) agI
   ·split at h0
    ·exact absurd (show(2:Int)=0 from h0) agI
    ·split at h0
     ·exact absurd (show(5:Int)=0 from h0) agI
     ·split at h0
      ·exact absurd (show(6:Int)=0 from h0) agI
      ·rename_i h5;have h1:mD pre d.nm.toList=0:=agO;have e:lK W g d=lJ W d:=by
        unfold lK lJ;rw[aK1 hsd];split
        ·rfl
        ·split
         ·rfl
         ·split
          ·rename_i hk;have:mD pre d.on.toList=4:=(by simpa[hk]using h5);rw[hI.cond this]
          ·rename_i k1 k2 k3;have QY:d.kind=6:=(by unfold jw at hsd;simp only[aP,decide_eq_true_eq]at hsd;obtain⟨⟨⟨⟨q1,q2⟩,-⟩,-⟩,-⟩:=hsd;simp only[Bool.or_eq_true,beq_iff_eq,not_or]at k1 k2 k3;omega);rw[QY];rfl
       rw[IU,List.foldl_cons,e];have:=hI.step h1;rw[e]at this;exact as9 r (pre++[d]) _ _ _ _ _ _ (λy hy=>hs y (aY _ hy)) this h0
theorem BN.start:BN [] oG (λ_=>0):=by
 refine⟨λs hs=>(by cases hs),λx hx=> ?_,λd hd=>(by cases hd)⟩;have:iK (oG.ls.map (·.nm)) x= -1:=rfl;omega
theorem at0 {p:Pr} (h:(ko p).1=0):IU p.ds oG (λ_=>0)=p.ds.foldl lJ oG:=by
 obtain⟨h1,h2,-⟩:=yK h;unfold rE at h1;simp only[aP]at h1;exact as9 _ _ _ _ _ _ _ _ (λd hd=>List.all_eq_true.1 h1.1.1 d hd) BN.start h2
end Md
namespace Md
def Gi (n:Int):List Value:=[.int .i64 n]
def vQ:aZ->List Int
 | .nil=>[]
 | .cons h b e r=>h.line::(vQ b++vQ e++vQ r)
theorem nR: ∀l:aZ,(vQ l).length=dH l
 | .nil=>rfl
 | .cons h b e r=>by have h1:=nR b;have h2:=nR e;have h3:=nR r;simp only[vQ,dH,aD,aA];omega
end Md
theorem Uk: ∀n:Int,(Gi n).length=1:=λ_=>rfl
theorem by8 (n:Int): ∀u∈Gi n,u.oneCell'=true:=by intro u hu;simp[Gi]at hu;subst hu;rfl
theorem aY1:(Tryz.prog.info? 3).map (λi=>(i.zero,i.size,i.bytes))=some (some (.int .i64 0),1,8):=agG
theorem infoP {o:Option TypeInfo} {z:Option Value} {a b:Nat} (h:o.map (λi=>(i.zero,i.size,i.bytes))=some (z,a,b)): ∃i0,o=some i0∧i0.zero=z∧i0.size=a∧i0.bytes=b:=by
 cases o with
 |none=>cases h
 |some i=>simp at h;exact⟨i,rfl,h.1,h.2.1,h.2.2⟩
theorem Kk {v v1:Value} {w w1 w2:World} (h:w.grownBy w1 v.ownBlock) (ho:nM w v v1) (k:w1.grownBy w2 v1.ownBlock):w.grownBy w2 v.ownBlock:=
 ⟨k.os.trans h.os,k.tape.trans h.tape,k.output.trans h.output,aJ h.size k.size,λj hj hne=>(k.block j (aR hj h.size) (by
   rcases ho with e|⟨g,e,hg⟩
   ·rw[e];exact hne
   ·rw[e];intro e';injection e' with e';omega)).trans (h.block j hj hne)⟩
theorem xX {w w':World} {g:Option Nat} (h:Below w.heap.size w w'):w.grownBy w' g:=⟨h.os,h.tape,h.output,h.size,λk hk _=>h.block k hk⟩
theorem nE {w w':World} {base n m:Nat} {e:TypeId} {v:Value} {xs:List Value} (h:w.ownsRow base e m v n xs) (hb:Below w.heap.size w w'):w'.ownsRow base e m v n xs:=
 h.kept (row:=none) ⟨hb.os,hb.tape,hb.output,hb.size,λk hk _=>hb.block k hk⟩ acS
structure X4 (T:TypeId) (B nb:Nat) (cs:Array Value) (ty:TypeId) (w:World) (v:Value) (xs:List Int) (w2:World) (v2:Value):Prop where
 r:w2.ownsRow B T 1 v2 xs.length (xs.flatMap Gi)
 g:w.grownBy w2 v.ownBlock
 o:nM w v v2
 x:w2.heap[nb]? =some (.cells cs ty (0,0))
 b:B<=w2.heap.size
 n:v2.ownBlock≠some nb
def EI (l:aZ):Prop:= ∀(w:World) (B:Nat) (v:Value) (xs:List Int) (ao:Option Addr) (cap:Nat),w.ownsRow B 3 1 v xs.length (xs.flatMap Gi)->B<=w.heap.size->l.len<=maxLen->l.At w B ao 0->xs.length+dH l<=1000000000000->
 Calls Tryz.prog 64 #[v,.slice ao l.len cap] w λe w'=> ∃v',e= .returned v'∧w'.ownsRow B 3 1 v' (xs++vQ l).length ((xs++vQ l).flatMap Gi)∧w.grownBy w' v.ownBlock∧nM w v v'
theorem X4.call {T ty:TypeId} {B nb:Nat} {cs:Array Value} {w w2 w':World} {v v2 v':Value} {xs ys:List Int} (h:X4 T B nb cs ty w v xs w2 v2) (hr:w'.ownsRow B T 1 v' ys.length (ys.flatMap Gi)) (hg:w2.grownBy w' v2.ownBlock) (ho:nM w2 v2 v'):X4 T B nb cs ty w v ys w' v':=by
 have hlt:=(aO h.x);exact⟨hr,Kk h.g h.o hg,h.o.trans ho h.g.size,(hg.block nb hlt (λe=>h.n e.symm)).trans h.x,aJ h.b hg.size,ho.ne hlt h.n⟩
theorem yH {B:Nat} {T:TypeId} {m n:Nat} {v:Value} {w w':World} {xs:List Value} (h:w.ownsRow B T m v n xs) (hB:B<=w.heap.size) (hg:w.grownBy w' v.ownBlock):Below B w w':=
 ⟨hg.os,hg.tape,hg.output,hg.size,λk hk=>hg.block k agH (λe=>by have:=(h.lt k e.symm).1;omega)⟩
theorem Kt (l:aZ) (hall:l.All λ_ b e=>EI b∧EI e):EI l:=by
 intro w B v xs ao cap hrow hBw hl hat hlen;generalize hres:xs++vQ l=res;have HR:=ah hres;have HRW:=ah hrow;have HAT:=ah hat;have HL:=ah hlen;have jZ:=ah hall;have yt:=ah hBw;obtain⟨i0,hi,hz0,hz1,hz2⟩:=infoP aY1;have iA:=ah (aI hi (aI hz0 (aI hz1 hz2)));unfold maxLen at hl;clear hres hrow hat hlen hall hBw hi hz0 hz1 hz2;go_enter Tryz.func64,Tryz.ntmps64;go_wp2_with fail;go_loopw [0,6,9] (λv0 _ i wr=> ∃(k:Nat) (R:aZ) (ys:List Int),i= .int .i64 k∧k+R.len=l.len∧res=ys++vQ R∧ys.length+dH R<=1000000000000∧(R.All λ_ b e=>EI b∧EI e)∧R.At wr B ao k∧B<=wr.heap.size∧wr.ownsRow B 3 1 v0 ys.length (ys.flatMap Gi)∧w.grownBy wr v.ownBlock∧nM w v v0) (λ_ _ i _=>l.len -(intOf i).toNat)
 case atStart=>exact⟨0,l,xs,rfl,agJ,HR.o.symm,HL.o,jZ.o,HAT.o,yt.o,HRW.o,Ca _,.inl rfl⟩
 case round=>
  obtain⟨k,R,ys,rfl,hlen,heq,hl12,hall,hat,hBr,hrow,hgr,how⟩:=hrel;have HE:=ah heq;have NI:=ah hl12;have MF:=ah hrow;have HG:=ah hgr;have HO:=ah how;have FZ:=ah hBr;clear heq hl12 hrow hgr how hBr;cases R with
  |nil=>
   obtain rfl:k=l.len:=aeY
   have HX:aj (res=ys):=ah (by rw[HE.o];simp[vQ]);clear hat hall;go_wp2_with fail;go_ret;exact⟨_,rfl,by rw[HX.o];exact MF.o,HG.o,HO.o⟩
  |cons h e0 e1 R=>
   obtain⟨bl,off,sl,rfl,hbl,hin,hcs,hrest⟩:=IJ hat;have hkl:k<l.len:=acz
   obtain⟨⟨hs0,hs1⟩,uO⟩:=hall;have wQ:=ah (aI hs0 hs1);have lq:=ah uO;have Fh:=ah hin;have kL:=ah hrest;have x0:=hcs 0 _ rfl;have x1:=hcs 1 _ rfl;have x2:=hcs 2 _ rfl;have x3:=hcs 3 _ rfl;have x4:=hcs 4 _ rfl;have x5:=hcs 5 _ rfl;have x6:=hcs 6 _ rfl;have x7:=hcs 7 _ rfl;have x8:=hcs 8 _ rfl;have x9:=hcs 9 _ rfl;have x10:=hcs 10 _ rfl;simp only[stA,Nat.add_zero]at x0 x1 x2 x3 x4 x5 x6 x7 x8 x9 x10;clear hat hin hcs hrest hs0 hs1 uO;go_upto_region 4 with fail;generalize hW2:World.alloc wr _=w2;obtain⟨nb,hnb,HB,-,HX,-⟩:=qD hW2;have S0:aj (X4 3 B nb (stA h e0 e1 sl) 74 wr u0 ys w2 u0):=ah ⟨nE MF.o HB.o,xX HB.o,.inl rfl,HX.o,aJ FZ.o HB.o.size,λe=>by have:=(MF.o.lt _ e).2;omega⟩;rw[hnb];clear hW2 hnb x0 x1 x2 x3 x4 x5 x6 x7 x8 x9 x10 HX;have z1:=aQ (j:=1) S0.o.x rfl;have z9:=aQ (j:=9) S0.o.x rfl;have fV:=aQ (j:=10) S0.o.x rfl;simp only[stA,List.getElem_toArray,List.getElem_cons_zero,List.getElem_cons_succ]at z1 z9 fV;have iW:aj (Below w2.heap.size w2 (w2.alloc (.cells (Gi h.line).toArray 3))):=ah (ak _ _);have iX:=ah (gP (heap_alloc_new w2 (.cells (Gi h.line).toArray 3)));have mR:=ah (nE S0.o.r iW.o);obtain⟨hi,hz0,hz1,hz2⟩:=iA.o;have hk1:ys.length+1<=maxLen:=by have:=NI.o;simp only[dH]at this;unfold maxLen;omega
   have mV:(ys.length+1)*8<=140737488355328:=by have:=NI.o;simp only[dH]at this;omega
   have hbs:B<=w2.heap.size+1:=Nat.le_succ_of_le S0.o.b;go_wp2_with (at_builtin;refine wpList_append_lies _ rfl _ _ 128 rfl B 3 i0 _ 1 8 Tryz.underlying128 hi hz0 hz1 hz2 rfl agI _ _ _ rfl mR.o ⟨w2.heap.size,0,none⟩ 1 1 (Gi h.line) rfl rfl iX.o (by8 _) agI hk1 mV aeV _ rfl ?_);intro g' cap' w3 hown hgr hmv hlt3;clear hi hz0 hz1 hz2 hk1 mV hbs z1 z9 fV;have S1:aj (X4 3 B nb (stA h e0 e1 sl) 74 wr u0 (ys++[h.line]) w3 (.slice (some ⟨g',0,none⟩) (ys.length+1) cap')):=ah (S0.o.call aan (jC (xX iW.o) hgr) (by
    rcases hmv with e|e
    ·exact .inl ahf
    ·exact .inr ⟨g',rfl,aeb⟩))
   have rH:=ah (yH MF.o FZ.o S1.o.g);clear hown hgr hmv hlt3 mR iX iW S0;have z9:=aQ (j:=9) S1.o.x rfl;have fV:=aQ (j:=10) S1.o.x rfl;simp only[stA,List.getElem_toArray,List.getElem_cons_zero,List.getElem_cons_succ]at z9 fV;go_wp2_with fail;refine(wQ.o.1 w3 B _ (ys++[h.line]) sl.dB sl.cu S1.o.r S1.o.b Fh.o.1.2.2.2.2.2.2.1 (Fh.o.2.2.2.1.below rH.o) (by have:=NI.o;simp only[dH,aA,aD,aW]at *;omega)).mono ?_;rintro e' w4 ⟨v4,rfl,hr4,hg4,ho4⟩;have S2:=ah (S1.o.call hr4 hg4 ho4);have K3:=ah (yH MF.o FZ.o S2.o.g);clear hr4 hg4 ho4 z9 fV;have fV:=aQ (j:=10) S2.o.x rfl;simp only[stA,List.getElem_toArray,List.getElem_cons_zero,List.getElem_cons_succ]at fV;go_wp2_with fail;refine(wQ.o.2 w4 B _ (ys++[h.line]++vQ e0) sl.iD sl.gu S2.o.r S2.o.b Fh.o.1.2.2.2.2.2.2.2 (Fh.o.2.2.2.2.below K3.o) (by have:=NI.o;have h5:=nR e0;simp only[dH,aA,aD,aW]at *;omega)).mono ?_;rintro e' w5 ⟨v5,rfl,hr5,hg5,ho5⟩;have S3:=ah (S2.o.call hr5 hg5 ho5);have Zx:=ah (yH MF.o FZ.o S3.o.g);clear hr5 hg5 ho5 fV;go_wp2_with fail;go_roundw
   case rel=>
    refine⟨k+1,R,ys++[h.line]++vQ e0++vQ e1,agL,acz,?_,?_,lq.o,kL.o.below Zx.o,S3.o.b,S3.o.r,Kk HG.o HO.o S3.o.g,HO.o.trans S3.o.o HG.o.size⟩
    ·rw[HE.o,vQ];simp
    ·have:=NI.o;have h5:=nR e0;have h6:=nR e1;simp only[dH,aA,aD,aW]at *;omega
   case measure=>simp[intOf];omega
theorem Yp (l:aZ):EI l:=Kt l (aZ.nQ (λ_ b e hb he=>⟨Kt b hb,Kt e he⟩) l)
theorem wJ: ∀x:mP,(kM x).length=5:=λ_=>rfl
theorem Qv (x:mP): ∀u∈kM x,u.oneCell'=true:=by
 intro u hu;simp[kM]at hu;rcases hu with rfl|rfl|rfl|rfl|rfl <;> rfl
theorem Ir:(Tryz.prog.info? 39).map (λi=>(i.zero,i.size,i.bytes))=some (some (.agg #[.string ⟨#[]⟩,.int .i64 0,.int .i64 0,.bool false,.int .i64 0]),5,48):=agG
theorem Ad (d:De): ∀(n k:Nat),(qX d n k).length=n
 |0,_=>rfl
 |n+1,k=>by rw[qX,aD,Ad d n]
theorem O7 (d:De): ∀(n k:Nat),qX d (n+1) k=qX d n k++[⟨d.nm,((k+n:Nat):Int),d.size,false,d.init⟩]
 |0,k=>rfl
 |n+1,k=>by rw[qX,O7 d n (k+1),qX,show k+1+n=k+(n+1) by omega];rfl
def bo2 (d:De) (w:World) (e:Ending) (w':World):Prop:= ∃g cap,e= .returned (.slice (some ⟨g,0,none⟩) (mF d).length cap)∧(∀j u,((mF d).flatMap kM)[j]? =some u->w'.cell? ((⟨g,0,none⟩:Addr).add j)=some u)∧0<(mF d).length∧(mF d).length<=4∧Below w.heap.size w w'
def deV (d:De):Value:= .agg #[.int .i64 d.kind,.int .i64 d.line,.string d.nm,.int .i64 d.size,.int .i64 d.init,.string d.on]
theorem Qo {w:World} {g j:Nat} {u:Value} (h:w.cell? ⟨g,j,none⟩=some u):w.cell? ((⟨g,0,none⟩:Addr).add j)=some u:=by
 rcases Nat.eq_zero_or_pos j with rfl|hj
 ·simpa[Addr.add]using h
 ·simpa[Addr.add,Nat.ne_of_gt hj]using h
theorem O8 (d:De) (w:World) (h0:0<=d.size) (h4:d.size<=4):Calls Tryz.prog 63 #[deV d] w (bo2 d w):=by
 unfold deV;by_cases hz:d.size=0
 ·have hcp:mF d=[⟨d.nm,0,0,d.kind==2,d.init⟩]:=by unfold mF;rw[hz];rfl
  have Nw:=ah hcp;clear hcp h0 h4;obtain⟨kd,ln,nm,sz,ini,on⟩:=d;obtain rfl:sz=0:=hz;go_enter Tryz.func63,Tryz.ntmps63;go_wp2
  all_goals (
   go_ret;refine⟨w.heap.size+1,1,by rw[Nw.o];rfl,λj u hu=> ?_,by rw[Nw.o];exact Nat.one_pos,by rw[Nw.o];simp,(ak _ _).alloc agJ _⟩;rw[Nw.o]at hu;have hg:=heap_alloc_new (w.alloc (.cells #[.int .i64 kd,.int .i64 ln,.string nm,.int .i64 0,.int .i64 ini,.string on] 55)) (.cells (kM ⟨nm,0,0,kd==2,ini⟩).toArray 39);have e:(w.alloc (.cells #[.int .i64 kd,.int .i64 ln,.string nm,.int .i64 0,.int .i64 ini,.string on] 55)).heap.size=w.heap.size+1:=agJ
   rw[e]at hg;refine Qo ?_;exact aQ hg ahN)
 ·have hcp:mF d=qX d d.size.toNat 0:=by unfold mF;rw[if_neg (by simpa using hz)]
  have Nw:=ah hcp;have hs1:0<d.size:=agH
  have hzb:(d.size==0)=false:=by rw[beq_eq_false_iff_ne];exact hz
  clear hcp hz;obtain⟨i0,hi,hz0,hz1,hz2⟩:=infoP Ir;have iA:=ah (aI hi (aI hz0 (aI hz1 hz2)));clear hi hz0 hz1 hz2;go_enter Tryz.func63,Tryz.ntmps63;go_upto_region 1 with fail;generalize hW:World.alloc w _=w1;obtain⟨nb,hnb,HB,-,HX,-⟩:=qD hW;have fC:aj (nb<w1.heap.size):=ah (aO HX.o);rw[hnb];clear hW hnb;have z0:=aQ (j:=0) HX.o rfl;have z2:=aQ (j:=2) HX.o rfl;have z3:=aQ (j:=3) HX.o rfl;have z4:=aQ (j:=4) HX.o rfl;go_wp2_with fail;go_loopw [3,4,19] (λv3 _ i wr=> ∃k:Nat,i= .int .i64 k∧(k:Int)<=d.size∧wr.ownsRow w1.heap.size 39 5 v3 (qX d k 0).length ((qX d k 0).flatMap kM)∧Below w1.heap.size w1 wr) (λ_ _ i _=>d.size.toNat -(intOf i).toNat)
  case atStart=>exact⟨0,rfl,agH,World.ownsRow_nil _ _ _ _,au _ _⟩
  case round=>
   obtain⟨k,rfl,hk,hrow,hbel⟩:=hrel;have HRW:=ah hrow;have nW:=ah hbel;clear hrow hbel z0 z2 z3 z4;have oI:=ah ((nW.o.block nb fC.o).trans HX.o);have z0:=aQ (j:=0) oI.o rfl;have z2:=aQ (j:=2) oI.o rfl;have z3:=aQ (j:=3) oI.o rfl;have z4:=aQ (j:=4) oI.o rfl;by_cases hlt:(k:Int)<d.size
   ·have iW:aj (Below wr.heap.size wr (wr.alloc (.cells (kM ⟨d.nm,k,d.size,false,d.init⟩).toArray 39))):=ah (ak _ _);have iX:=ah (gP (heap_alloc_new wr (.cells (kM ⟨d.nm,k,d.size,false,d.init⟩).toArray 39)));have mR:=ah (nE HRW.o iW.o);have HCL:=ah (Ad d k 0);obtain⟨hi,hz0,hz1,hz2⟩:=iA.o;have hk1:(qX d k 0).length+1<=maxLen:=(by rw[HCL.o];unfold maxLen;omega);have mV:((qX d k 0).length+1)*48<=140737488355328:=(by rw[HCL.o];omega);have hbs:w1.heap.size<=wr.heap.size+1:=Nat.le_succ_of_le nW.o.size;go_wp2_with (at_builtin;refine wpList_append_lies _ rfl _ _ 24 rfl w1.heap.size 39 i0 _ 5 48 Tryz.underlying24 hi hz0 hz1 hz2 rfl agI _ _ _ rfl mR.o ⟨wr.heap.size,0,none⟩ 1 1 (kM ⟨d.nm,k,d.size,false,d.init⟩) rfl rfl iX.o (Qv _) agI hk1 mV aeV _ rfl ?_);intro g' cap' w3 hown hgr hmv hlt3;have HR3:aj (w3.ownsRow w1.heap.size 39 5 (.slice (some ⟨g',0,none⟩) ((qX d k 0).length+1) cap') (qX d (k+1) 0).length ((qX d (k+1) 0).flatMap kM)):=ah (by rw[O7,List.flatMap_append,List.flatMap_singleton,aA,aU];exact hown);have HB3:aj (Below w1.heap.size w1 w3):=ah (nW.o.trans (yH HRW.o nW.o.size (jC (xX iW.o) hgr)));clear hi hz0 hz1 hz2 hk1 mV hbs hown hgr hmv hlt3 mR iX iW z0 z2 z3 z4;go_wp2_with fail;go_roundw
    case rel=>exact⟨k+1,agL,agH,HR3.o,HB3.o⟩
    case measure=>simp[intOf];omega
   ·have hke:d.size.toNat=k:=agH;have HE:aj (mF d=qX d k 0):=ah (by rw[Nw.o,hke]);have HK:aj (0<k∧k<=4):=ah agH;go_wp2_with fail;go_ret;rcases HRW.o.2 with⟨-,hn⟩|⟨g,cap,cur,hv,hb,hg,h1,h2,h3,h5⟩
    ·rw[Ad]at hn;have:=HK.o.1;omega
    ·refine⟨g,cap,(show Ending.returned u3=_ by rw[HE.o,hv]),λj u hu=>Qo ?_,by rw[HE.o,Ad];exact HK.o.1,by rw[HE.o,Ad];exact HK.o.2,HB.o.trans (nW.o.mono HB.o.size)⟩;rw[HE.o,<- h5]at hu;have jQ:=(List.getElem?_eq_some_iff.1 hu).1;rw[List.getElem?_take_of_lt (by rw[List.length_take]at jQ;omega)]at hu;exact aQ hg (by rw[<- hu];simp)
structure Rw where
 T:TypeId
 m:Nat
 v:Value
 n:Nat
 xs:List Value
def Rw.Ok (w:World) (B:Nat) (r:Rw):Prop:=w.ownsRow B r.T r.m r.v r.n r.xs
def Apart (a b:Rw):Prop:= ∀k,a.v.ownBlock=some k->b.v.ownBlock≠some k
theorem Apart.symm {a b:Rw} (h:Apart a b):Apart b a:=λk hb ha=>h k ha hb
structure Rows (w:World) (B:Nat) (l:List Rw):Prop where
 own: ∀r∈l,r.Ok w B
 ap:l.Pairwise Apart
section
variable {w w':World} {B:Nat} {l pre post:List Rw} {r r':Rw}
theorem Rows.below (h:Rows w B l) (hb:Below w.heap.size w w'):Rows w' B l:=⟨λr hr=>nE (h.own r hr) hb,h.ap⟩
theorem Rows.keep (h:Rows w B l) {k:Nat} (hg:w.grownBy w' (some k)) (hk:k<B):Rows w' B l:=⟨λr hr=>(h.own r hr).kept hg (by
 cases hv:r.v.ownBlock with
 |none=>exact .inl rfl
 |some j=>refine .inr (λe=> ?_);have:=((h.own r hr).lt j hv).1;injection e with e;omega),h.ap⟩
theorem Rows.put (h:Rows w B (pre++r::post)) (hg:w.grownBy w' r.v.ownBlock) (hr:r'.Ok w' B) (ho:nM w r.v r'.v):Rows w' B (pre++r'::post):=by
 have hap:=h.ap;rw[List.pairwise_append,List.pairwise_cons]at hap;obtain⟨h1,⟨h2,h3⟩,h4⟩:=hap;have keep: ∀q∈pre++r::post,Apart q r->q.Ok w' B:=λq hq ha=>(h.own q hq).kept hg (by
  cases hv:q.v.ownBlock with
  |none=>exact .inl rfl
  |some j=>exact .inr (λe=>ha j hv e.symm))
 have far: ∀q∈pre++r::post,Apart q r->Apart q r':=λq hq ha k hk e=>by
  rcases ho with e'|⟨g,e',hge⟩
  ·rw[e']at e;exact ha k hk e
  ·rw[e']at e;injection e with e;subst e;have:=((h.own q hq).lt _ hk).2;omega
 have ap1: ∀q∈pre,Apart q r:=λq hq=>h4 q hq r aX;have ap2: ∀q∈post,Apart q r:=λq hq=>(h2 q hq).symm;have m1: ∀q∈pre,q∈pre++r::post:=λq hq=>List.mem_append_left _ hq;have m2: ∀q∈post,q∈pre++r::post:=λq hq=>List.mem_append_right _ (aY _ hq);refine⟨λq hq=> ?_,?_⟩
 ·rcases List.mem_append.1 hq with hq|hq
  ·exact keep q (m1 q hq) (ap1 q hq)
  ·rcases List.mem_cons.1 hq with rfl|hq
   ·exact hr
   ·exact keep q (m2 q hq) (ap2 q hq)
 ·rw[List.pairwise_append,List.pairwise_cons];refine⟨h1,⟨λq hq=>(far q (m2 q hq) (ap2 q hq)).symm,h3⟩,λq hq x hx=> ?_⟩;rcases List.mem_cons.1 hx with rfl|hx
  ·exact far q (m1 q hq) (ap1 q hq)
  ·exact h4 q hq x (aY _ hx)
end
namespace Md
structure Vs where
 v0:Value
 v1:Value
 v2:Value
 v3:Value
 v4:Value
 v5:Value
end Md
def gY (s:Vs) (W:Wo):List Rw:=[⟨39,5,s.v0,W.cs.length,W.cs.flatMap kM⟩,⟨42,2,s.v1,W.ls.length,W.ls.flatMap mH⟩,⟨47,2,s.v2,W.ns.length,W.ns.flatMap vE⟩,
 ⟨9,1,s.v3,W.fs.length,W.fs.flatMap jY⟩,⟨9,1,s.v4,W.ts.length,W.ts.flatMap jY⟩,⟨45,3,s.v5,W.ss.length,W.ss.flatMap rJ⟩]
structure nI (w:World) (B bw:Nat) (s:Vs) (W:Wo):Prop where
 blk:w.heap[bw]? =some (.cells #[s.v0,s.v1,s.v2,s.v3,s.v4,s.v5] 30 (0,0))
 row:Rows w B (gY s W)
 lt:bw<B
 sz:B<=w.heap.size
theorem sw: ∀x:wS,(mH x).length=2:=λ_=>rfl
theorem ET: ∀x:Er,(vE x).length=2:=λ_=>rfl
theorem uy: ∀x:ByteArray,(jY x).length=1:=λ_=>rfl
theorem Cg: ∀x:sK,(rJ x).length=3:=λ_=>rfl
section
variable {w w' w4:World} {B bw:Nat} {s:Vs} {W:Wo}
theorem nI.below (h:nI w B bw s W) (hb:Below w.heap.size w w'):nI w' B bw s W:=
 ⟨(hb.block _ (aO h.blk)).trans h.blk,h.row.below hb,h.lt,aJ h.sz hb.size⟩
theorem nI.keep (h:nI w B bw s W) {k:Nat} (hg:w.grownBy w' (some k)) (hk:k<B) (hne:k≠bw):nI w' B bw s W:=
 ⟨(hg.block _ (aO h.blk) (by simp;exact λe=>hne e.symm)).trans h.blk,h.row.keep hg hk,h.lt,aJ h.sz hg.size⟩
theorem nI.cells (h:nI w B bw s W):bw<w.heap.size∧w.cell? ⟨bw,0,none⟩=some s.v0∧w.cell? ⟨bw,1,none⟩=some s.v1∧w.cell? ⟨bw,2,none⟩=some s.v2∧w.cell? ⟨bw,3,none⟩=some s.v3∧w.cell? ⟨bw,4,none⟩=some s.v4∧w.cell? ⟨bw,5,none⟩=some s.v5∧∀j,w.frozen? ⟨bw,j,none⟩=false:=
 ⟨(aO h.blk),aQ h.blk rfl,aQ h.blk rfl,aQ h.blk rfl,aQ h.blk rfl,aQ h.blk rfl,aQ h.blk rfl,λ_=>bK h.blk⟩
theorem nI.grow {pre post:List Rw} {r r':Rw} {s':Vs} {W':Wo} {j:Nat} (h:nI w B bw s W) (hg:w.grownBy w4 r.v.ownBlock) (e1:gY s W=pre++r::post) (e2:gY s' W'=pre++r'::post) (hr:r'.Ok w4 B) (ho:nM w r.v r'.v)
 (hc:(#[s.v0,s.v1,s.v2,s.v3,s.v4,s.v5]:Array Value).setIfInBounds j r'.v= #[s'.v0,s'.v1,s'.v2,s'.v3,s'.v4,s'.v5]):nI (w4.setCell ⟨bw,j,none⟩ r'.v) B bw s' W':=by
 have hrow:=h.row;rw[e1]at hrow;have h4:=hrow.put hg hr ho;rw[<- e2]at h4;have hlt:=h.lt;have hne:r.v.ownBlock≠some bw:=λe=>by have:=((hrow.own r agJ).lt _ e).1;omega
 have hb:w4.heap[bw]? =some (.cells #[s.v0,s.v1,s.v2,s.v3,s.v4,s.v5] 30 (0,0)):=(hg.block _ (aO h.blk) (λe=>hne e.symm)).trans h.blk;have hgs:=bU w4 ⟨bw,j,none⟩ r'.v;exact⟨qy hb _ hc,h4.keep hgs hlt,hlt,aJ h.sz (aJ hg.size hgs.size)⟩
theorem nI.own (h:nI w B bw s W) {r:Rw} (hr:r∈gY s W):r.Ok w B:=h.row.own r hr
end
theorem I7: ∀(ds pre:List De) (c l n f:Int),(mK ds pre c l n f).1=0->∀d∈ds,d.size<=4
 | [],_,_,_,_,_,_=>λd hd=>by cases hd
 |d::r,pre,c,l,n,f,h0=>by
  rw[mK]at h0;split at h0
  ·exact absurd (show(4:Int)=0 from h0) agI
  split at h0
  ·exact absurd (show(2:Int)=0 from h0) agI
  rename_i h2;split at h0
  ·exact absurd (show(2:Int)=0 from h0) agI
  split at h0
  ·exact absurd (show(5:Int)=0 from h0) agI
  split at h0
  ·exact absurd (show(6:Int)=0 from h0) agI
  intro x hx;rcases List.mem_cons.1 hx with rfl|hx
  ·simpa using h2
  ·exact I7 r _ _ _ _ _ h0 x hx
namespace Md
def wu (i:Int):Nat->List Int->List sK
 |_,[]=>[]
 |n,x::r=>⟨i,n,x⟩::wu i (n+1) r
theorem KC (i:Int): ∀(l r:List Int) (n:Nat),wu i n (l++r)=wu i n l++wu i (n+l.length) r
 | [],r,n=>by simp[wu]
 |x::l,r,n=>by rw[List.cons_append,wu,KC i l r (n+1),wu,aD,show n+1+l.length=n+(l.length+1) by omega];rfl
theorem Al (i:Int): ∀(l:List Int) (n:Nat),(wu i n l).length=l.length
 | [],_=>rfl
 |x::l,n=>by rw[wu,aD,Al i l,aD]
theorem yM (i:Int): ∀(l:aZ) (n:Nat),tq i l n=wu i n (vQ l)
 | .nil,_=>rfl
 | .cons h b e r,n=>by have hb:=nR b;have he:=nR e;rw[tq,vQ,wu,yM i b,yM i e,yM i r,KC,KC,aA,hb,he,show n+1+(dH b+dH e)=n+1+dH b+dH e by omega]
theorem MR {w:World} {B:Nat} : ∀ {l:List De} {ao:Option Addr} {k:Nat},jv w B l ao k->∀d∈l,d.Ok
 | [],_,_,_=>λd hd=>by cases hd
 |x::r,_,_,⟨⟨_,_,_,_,_,_,_,_,_,_,h⟩,hr⟩=>λd hd=>by
  rcases List.mem_cons.1 hd with rfl|hd
  ·exact h
  ·exact MR hr d hd
theorem Jj {w:World} {B:Nat} : ∀ {l:List Th} {ao:Option Addr} {k:Nat},iG w B l ao k->∀t∈l,t.Ok
 | [],_,_,_=>λd hd=>by cases hd
 |x::r,_,_,⟨⟨_,_,_,_,_,_,_,_,_,_,_,_,h,_⟩,hr⟩=>λd hd=>by
  rcases List.mem_cons.1 hd with rfl|hd
  ·exact h
  ·exact Jj hr d hd
theorem TT (d:De) (hd:bY d.size): ∀(n k:Nat),∀c∈qX d n k,bY c.sz
 |0,_=>λc hc=>by cases hc
 |n+1,k=>λc hc=>by
  rw[qX]at hc;rcases List.mem_cons.1 hc with rfl|hc
  ·exact hd
  ·exact TT d hd n _ c hc
theorem Sd: ∀(l:List De) (W:Wo) (g:List UInt8->Int),(∀d∈l,d.Ok)->(∀c∈W.cs,bY c.sz)->(∀x∈W.fs,x.size<=maxLen)->(∀c∈(IU l W g).cs,bY c.sz)∧(∀x∈(IU l W g).fs,x.size<=maxLen)
 | [],W,g,_,h1,h2=>⟨h1,h2⟩
 |d::r,W,g,hd,h1,h2=>by
  obtain⟨-,-,hn,hs,-,-⟩:=hd d aX;rw[IU];refine Sd r _ _ (λx hx=>hd x (aY _ hx)) ?_ ?_
  ·unfold lK
   repeat' split
   ·intro c hc;rcases List.mem_append.1 hc with hc|hc
    ·exact h1 c hc
    ·unfold mF at hc;split at hc
     ·rw[List.mem_singleton.1 hc];show bY 0;unfold bY;decide
     ·exact TT d hs _ _ c hc
   all_goals exact h1
  ·unfold lK
   repeat' split
   all_goals first|exact h2|skip
   intro x hx;rcases List.mem_append.1 hx with hx|hx
   ·exact h2 x hx
   ·rw[List.mem_singleton.1 hx];exact hn
theorem Jl: ∀(l:List Th) (W:Wo) (i:Nat),(yQ W i l).ts=W.ts++l.map (·.nm)
 | [],W,i=>by simp[yQ]
 |t::r,W,i=>by rw[yQ,Jl r];simp
theorem EZ {w:World} {B:Nat} : ∀ {l:List ByteArray} {ao:Option Addr} {k:Nat},gG jY 1 w B l ao k->(∀x∈l,x.size<=maxLen)->fP w B l ao k
 | [],_,_,_,_=>trivial
 |s::r,ao,k,⟨⟨b,off,e,hB,c⟩,hr⟩,h=>⟨⟨b,off,e,hB,by have:=c 0 _ rfl;simpa using this,h s aX⟩,EZ hr (λx hx=>h x (aY _ hx))⟩
end Md
theorem yD {α:Type} {f:α->List Value} {m:Nat} {w:World} {base:Nat} {T:TypeId} {ao:Option Addr} {cap:Nat} {xs:List α} (hf: ∀x,(f x).length=m) (h:w.ownsRow base T m (.slice ao xs.length cap) xs.length (xs.flatMap f)):gG f m w w.heap.size xs ao 0:=by
 obtain⟨mh,cap',e,-,-,h2⟩:=eY hf h;injection e with e1 e2 e3;subst e1;exact h2
def OV (lo:Nat) (s:jS):Prop:=(∀b,s.aC=some b->lo<=b.block)∧(∀b,s.aL=some b->lo<=b.block)∧(∀b,s.aN=some b->lo<=b.block)∧(∀b,s.aF=some b->lo<=b.block)∧(∀b,s.aT=some b->lo<=b.block)∧(∀b,s.aS=some b->lo<=b.block)
theorem Ce {w:World} {B lo m n cap:Nat} {T:TypeId} {ao:Option Addr} {xs:List Value} {v:Value} (h:w.ownsRow B T m v n xs) (hv:v= .slice ao n cap) (hB:lo<=B): ∀b,ao=some b->lo<=b.block:=λb e=>by
 have:=(h.lt b.block (by rw[hv,e];rfl)).1;omega
theorem gG.keep {α:Type} {f:α->List Value} {m:Nat} {w w':World} {B:Nat} {l:List α} {ao:Option Addr} {k:Nat} (h:gG f m w B l ao k) (hk: ∀b,ao=some b->w'.heap[b.block]? =w.heap[b.block]?):gG f m w' B l ao k:=gG.mk (λi x hx=>by
 obtain⟨b,off,e,hB,hc⟩:=gG.at i x h hx;exact⟨b,off,e,hB,λj u hu=>(World.cell?_of_block (a:=⟨b,off+(k+i)*m+j,none⟩) (show w'.heap[b]? =w.heap[b]? from hk ⟨b,off,none⟩ e)).trans (hc j u hu)⟩)
theorem fP.keep {w w':World} {B:Nat} : ∀ {l:List ByteArray} {ao:Option Addr} {k:Nat},fP w B l ao k->(∀b,ao=some b->w'.heap[b.block]? =w.heap[b.block]?)->fP w' B l ao k
 | [],_,_,_,_=>trivial
 |_::_,_,k,⟨⟨b,off,e,hB,c,hs⟩,hr⟩,hk=>⟨⟨b,off,e,hB,(World.cell?_of_block (a:=⟨b,off+k,none⟩) (show w'.heap[b]? =w.heap[b]? from hk ⟨b,off,none⟩ e)).trans c,hs⟩,fP.keep hr hk⟩
theorem iP.keep {w w':World} {B lo:Nat} {W:Wo} {s:jS} (h:iP w B W s) (hn:OV lo s) (hk: ∀k,lo<=k->w'.heap[k]? =w.heap[k]?):iP w' B W s:=
 ⟨gG.keep h.cs (λb e=>hk _ (hn.1 b e)),gG.keep h.ls (λb e=>hk _ (hn.2.1 b e)),gG.keep h.ns (λb e=>hk _ (hn.2.2.1 b e)),fP.keep h.fs (λb e=>hk _ (hn.2.2.2.1 b e)),fP.keep h.ts (λb e=>hk _ (hn.2.2.2.2.1 b e)),gG.keep h.ss (λb e=>hk _ (hn.2.2.2.2.2 b e)),h.lc,h.ll,h.ln,h.lf,h.lt,h.lS,h.ok⟩
theorem Wh {w w4:World} {BL bw m n j:Nat} {T:TypeId} {v v' vL u:Value} {xs:List Value} (hL:w.ownsRow BL T m vL n xs) (hbw:bw<BL) (hap: ∀q,vL.ownBlock=some q->v.ownBlock≠some q) (hg:w.grownBy w4 v.ownBlock) (ho:nM w v v'):
 (w4.setCell ⟨bw,j,none⟩ u).ownsRow BL T m vL n xs∧∀q,vL.ownBlock=some q->v'.ownBlock≠some q:=by
 have h4:w4.ownsRow BL T m vL n xs:=hL.kept hg (by
  cases hv:vL.ownBlock with
  |none=>exact .inl rfl
  |some q=>exact .inr (λe=>hap q hv e.symm))
 refine⟨h4.kept (bU w4 ⟨bw,j,none⟩ u) ?_,λq hq e=> ?_⟩
 ·cases hv:vL.ownBlock with
  |none=>exact .inl rfl
  |some q=>refine .inr (λe=> ?_);have:=(h4.lt q hv).1;injection e with e;simp only at e;omega
 ·rcases ho with e'|⟨g,e',hg'⟩
  ·rw[e']at e;exact hap q hq e
  ·rw[e']at e;injection e with e;subst e;have:=(hL.lt _ hq).2;omega
theorem VI (l:List wS) (nm:ByteArray) (w:World) (ao:Option Addr) (cap:Nat) (hl:l.length<=maxLen) (hw:gG mH 2 w w.heap.size l ao 0):
 Calls Tryz.prog 10 #[.slice ao l.length cap,.string nm] w λe w'=>e= .returned (.int .i64 (iK (l.map (·.nm)) nm))∧w=w':=by
 unfold maxLen at hl;go_enter Tryz.func10,Tryz.ntmps10;go_wp2_with fail;go_loop [5] (λs=> ∃(k:Nat) (R:List wS),s= .int .i64 k∧k+R.length=l.length∧iK (l.map (·.nm)) nm=sj (R.map (·.nm)) nm k∧gG mH 2 w w.heap.size R ao k) (λs=>l.length -(intOf s).toNat)
 case atStart=>exact⟨0,l,rfl,agJ,rfl,hw⟩
 case round=>
  obtain⟨k,R,rfl,hlen,heq,hrow⟩:=hrel;have HE:=ah heq;clear heq;cases R with
  |nil=>
   obtain rfl:k=l.length:=aeQ
   go_wp2_with fail;go_ret;exact⟨bV HE.o.symm,rfl⟩
  |cons x R=>
   obtain⟨⟨b,off,rfl,hB,hcs⟩,hrest⟩:=hrow;have z0:=hcs 0 _ rfl;simp only[Nat.add_zero]at z0;simp only[aD]at hlen;have hkl:k<l.length:=agH
   clear hcs;cases hc:(x.nm.toList==nm.toList)
   ·have dG:=ah (HE.o.trans (if_neg (show ¬(x.nm.toList==nm.toList)=true by rw[hc];decide)));go_wp2_with fail;go_round
    case rel=>exact⟨k+1,R,agL,agH,agh,hrest⟩
    case measure=>simp[intOf];omega
   ·have dG:=ah (HE.o.trans (if_pos hc));go_wp2_with fail;go_ret;exact⟨bV dG.o.symm,rfl⟩
end Go.Proofs.YtdoplekppjkkpaaGreatDoor
