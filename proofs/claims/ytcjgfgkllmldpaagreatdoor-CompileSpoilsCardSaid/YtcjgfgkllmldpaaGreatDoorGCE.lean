/- Contracts of registers (the program's and the reference's) and of the generator's regs. And what hangs on it. -/
import Derived.Test.YtcjgfgkllmldpaaGreatDoorGCC
import Derived.Test.YtcjgfgkllmldpaaGreatDoorGCD
set_option linter.unusedSimpArgs false
set_option linter.unusedVariables false
set_option maxHeartbeats 40000000
set_option maxRecDepth 1000000
namespace Go.Proofs.YtcjgfgkllmldpaaGreatDoor
open Go.RowKit
open Md
theorem UQ {W:World} {g:Nat} {t:TypeId} {fr:Nat×Nat} {cs:Array Value} (h:W.heap[g]? =some (.cells cs t fr)): ∀(l:List Int) (k:Nat),(∀j (n:Int),l[j]? =some n->cs[k+j]? =some (.int .i64 n))->jR W W.heap.size l (some ⟨g,0,none⟩) k
 | [],_,_=>trivial
 |n::r,k,hc=>⟨⟨g,0,rfl,(aI h),by rw[aU];exact aG h (hc 0 n rfl)⟩,UQ h r (k+1) (λj m hm=>by have:=hc (j+1) m (by simpa using hm);rw[show k+1+j=k+(j+1) by omega];exact this)⟩
def RgP (x:dw) (w:World) (e:Ending) (w':World):Prop:= ∃ao cap,e= .returned (.slice ao (je x).length cap)∧jR w' w'.heap.size (je x) ao 0∧Below w.heap.size w w'∧∀q,ao=some q->w.heap.size<=q.block
theorem lX {x:dw} {w:World} {l:List Int} {cs:Array Value} {o:Obj} {t:TypeId} {n:Nat} (hr:je x=l) (hc:cs=(l.map (λn=>Value.int .i64 n)).toArray) (hn:n=l.length):RgP x w (.returned (.slice (some ⟨w.heap.size+1,0,none⟩) n n)) ((w.alloc o).alloc (.cells cs t)):=by
 subst hc hn;rw[<- hr]at *;refine⟨_,_,rfl,?_,(aA _ _).alloc ahh _,λq e=>by injection e with e;subst e;exact jv _⟩;have hg:=heap_alloc_new (w.alloc o) (.cells ((je x).map (λn=>Value.int .i64 n)).toArray t);have e:(w.alloc o).heap.size=w.heap.size+1:=ahh
 rw[e]at hg;refine UQ hg (je x) 0 (λj n hn=> ?_);simp[hn]
theorem K6 (x:dw) (w:World):Calls Tryz.prog 31 #[GK x] w (RgP x w):=by
 have hcs:x.op=1∨x.op=6∨x.op=10∨x.op=27∨x.op=2∨x.op=3∨x.op=4∨x.op=7∨x.op=8∨x.op=26∨x.op=9∨(x.op≠1∧x.op≠6∧x.op≠10∧x.op≠27∧x.op≠2∧x.op≠3∧x.op≠4∧x.op≠7∧x.op≠8∧x.op≠26∧x.op≠9):=ahf
 unfold GK;rcases hcs with hop|hop|hop|hop|hop|hop|hop|hop|hop|hop|hop|hop
 ·obtain⟨op,a,b,c,n,st⟩:=x;obtain rfl:op=1:=hop;exact Abw
 ·obtain⟨op,a,b,c,n,st⟩:=x;obtain rfl:op=6:=hop;exact Abw
 ·obtain⟨op,a,b,c,n,st⟩:=x;obtain rfl:op=10:=hop;exact Abw
 ·obtain⟨op,a,b,c,n,st⟩:=x;obtain rfl:op=27:=hop;exact Abw
 ·obtain⟨op,a,b,c,n,st⟩:=x;obtain rfl:op=2:=hop;go_enter Tryz.func31,Tryz.ntmps31;go_wp2
  all_goals (go_ret;exact lX (l:=[a,b]) rfl rfl rfl)
 ·obtain⟨op,a,b,c,n,st⟩:=x;obtain rfl:op=3:=hop;go_enter Tryz.func31,Tryz.ntmps31;go_wp2
  all_goals (go_ret;exact lX (l:=[a,b]) rfl rfl rfl)
 ·obtain⟨op,a,b,c,n,st⟩:=x;obtain rfl:op=4:=hop;go_enter Tryz.func31,Tryz.ntmps31;go_wp2
  all_goals (go_ret;exact lX (l:=[a,b,c]) rfl rfl rfl)
 ·obtain⟨op,a,b,c,n,st⟩:=x;obtain rfl:op=7:=hop;go_enter Tryz.func31,Tryz.ntmps31;go_wp2
  all_goals (go_ret;exact lX (l:=[a,c]) rfl rfl rfl)
 ·obtain⟨op,a,b,c,n,st⟩:=x;obtain rfl:op=8:=hop;go_enter Tryz.func31,Tryz.ntmps31;go_wp2
  all_goals (go_ret;exact lX (l:=[b]) rfl rfl rfl)
 ·obtain⟨op,a,b,c,n,st⟩:=x;obtain rfl:op=26:=hop;go_enter Tryz.func31,Tryz.ntmps31;go_wp2
  all_goals (go_ret;exact lX (l:=[b]) rfl rfl rfl)
 ·obtain⟨op,a,b,c,n,st⟩:=x;obtain rfl:op=9:=hop;go_enter Tryz.func31,Tryz.ntmps31;go_wp2
  all_goals (go_ret;exact lX (l:=[b,c]) rfl rfl rfl)
 ·obtain⟨op,a,b,c,n,st⟩:=x;obtain⟨n1,n2,n3,n4,n5,n6,n7,n8,n9,n10,n11⟩:=hop;simp only at n1 n2 n3 n4 n5 n6 n7 n8 n9 n10 n11;have hr:je ⟨op,a,b,c,n,st⟩=[]:=by unfold je;simp[n1,n2,n3,n4,n5,n6,n7,n8,n9,n10,n11]
  have HR:=ah hr;have k1:(op==1)=false:=by simpa using n1
  have k2:(op==6)=false:=by simpa using n2
  have k3:(op==10)=false:=aii
  have k4:(op==27)=false:=aif
  have k5:(op==2)=false:=by simpa using n5
  have k6:(op==3)=false:=ahY
  have k7:(op==4)=false:=ahX
  have k8:(op==7)=false:=ahW
  have k9:(op==8)=false:=ahV
  have k10:(op==26)=false:=agI
  have k11:(op==9)=false:=agc
  clear n1 n2 n3 n4 n5 n6 n7 n8 n9 n10 n11 hr;go_enter Tryz.func31,Tryz.ntmps31;go_wp2
  all_goals (go_ret;exact⟨none,0,aio,by rw[HR.o];trivial,aA _ _,λq e=>aht⟩)
def kY (l:List dw):Prop:= ∀i∈l,∀r∈je i,-1000000000<=r∧r<=1000000000
theorem ag5 {T:TypeId} {w:World} {L:GL} {W:Wo} {s:jr} {lc:List ByteArray} {al:Option Addr} {cl:Nat} {v:Value} {code:List dw} {a b:Int} (hI:iE T w L W s lc al cl v code a b) (hb:kY code):
 Calls Tryz.prog 44 #[.pointer (some ⟨L.gb,0,none⟩)] w λe w'=>e= .returned (.int .i64 (CU code lc.length))∧Below w.heap.size w w':=by
 obtain⟨bP,-,-,-,-,-,-,q6,q7,-,-,-⟩:=hI.cells;obtain⟨ao,cap,rfl,hcap,hcm,hfl⟩:=gN wW hI.row;have HF:=ah hfl;have HB:=ah hb;unfold maxLen at hcm;generalize hres:CU code lc.length=res;have HR:=ah hres;clear hI hb hfl hres;go_enter Tryz.func44,Tryz.ntmps44;go_wp2_with fail;go_loopw [3,5,7,18,23,24,25] (λn _ _ i _ _ _ wr=> ∃(k:Nat) (R:List dw) (m:Int),i= .int .i64 k∧n= .int .i64 m∧k+R.length=code.length∧res=CU R m∧kY R∧dS jd 6 wr wr.heap.size R ao k∧Below w.heap.size w wr) (λ_ _ _ i _ _ _ _=>code.length -(intOf i).toNat)
 case atStart=>exact⟨0,code,lc.length,rfl,rfl,ahh,HR.o.symm,HB.o,HF.o,ak _ _⟩
 case round=>
  obtain⟨k,R,m,rfl,rfl,hlen,heq,hrb,hrow,hbel⟩:=hrel;have HE:=ah heq;have qM:=ah hbel;clear heq hbel HF;cases R with
  |nil=>
   obtain rfl:k=code.length:=afb
   go_wp2_with fail;go_ret;exact⟨dh HE.o.symm,qM.o⟩
  |cons x R=>
   obtain⟨⟨b1,off,rfl,hb1,hcs⟩,hrest⟩:=hrow;simp only[aB]at hlen;have hkl:k<code.length:=ahf
   have x0:=hcs 0 _ rfl;have x1:=hcs 1 _ rfl;have x2:=hcs 2 _ rfl;have x3:=hcs 3 _ rfl;have x4:=hcs 4 _ rfl;have x5:=hcs 5 _ rfl;simp only[Nat.add_zero]at x0;have kg:=ah hrest;have X4:=ah (ay (hrb x aW) (show kY R from λi hi=>hrb i (aY _ hi)));clear hcs hrest hrb;go_upto_region 5 with fail;generalize hW:World.alloc wr _=w2;obtain⟨nb,hnb,HB2,-,HX,-⟩:=oJ hW;rw[hnb];clear hW hnb x0 x1 x2 x3 x4 x5;obtain⟨x0,x1,x2,x3,x4,x5⟩:=zn HX.o;go_wp2_with fail;refine(K6 x w2).mono ?_;rintro e w3 ⟨JQ,FM,rfl,hin,hb3,-⟩;have fF:=ah hin;have HB3:=ah (qM.o.trans ((HB2.o.trans (hb3.mono HB2.o.size)).mono qM.o.size));have HR3:=ah ((kg.o.same HB2.o).same hb3);have Jv:aj ((je x).length<=3):=ah acT;clear hin hb3 x0 x1 x2 x3 x4 x5;have HE2:aj (res=CU R (mxR (je x) m)):=ah HE.o;have Ga:=ah X4.o.1;generalize je x=rs at *;go_wp2_with fail;go_loopw [3,7,25] (λn _ i wq=> ∃(j:Nat) (S:List Int) (m2:Int),i= .int .i64 j∧n= .int .i64 m2∧j+S.length=rs.length∧res=CU R (mxR S m2)∧(∀r∈S,-1000000000<=r∧r<=1000000000)∧jR wq wq.heap.size S JQ j∧wq=w3) (λ_ _ i _=>rs.length -(intOf i).toNat)
   case atStart=>exact⟨0,rs,m,rfl,rfl,ahh,HE2.o,Ga.o,fF.o,rfl⟩
   case round=>
    obtain⟨j,S,m2,rfl,rfl,oK,heq2,aw8,hin2,rfl⟩:=hrel;have HQ:=ah heq2;have h3:=Jv.o;clear heq2;cases S with
    |nil=>
     obtain rfl:j=rs.length:=ah3;have sP:aj (res=CU R m2):=HQ;go_wp2_with fail;go_roundw
     case rel=>exact⟨k+1,R,m2,ahj,rfl,ahf,sP.o,X4.o.2,HR3.o,HB3.o⟩
     case measure=>simp[intOf];omega
    |cons r S=>
     obtain⟨⟨b4,Q8,rfl,hb4,y0⟩,oQ⟩:=hin2;simp only[aB]at oK;have hjl:j<rs.length:=ahf;have hr:=aw8 r aW;have hwr:IntKind.i64.wrap (r+1)=r+1:=IntWalk.i64_in _ ahf;have HR4:=ah oQ;have Ti:=ah (λq hq=>aw8 q (aY _ hq));clear oQ aw8;go_wp2_with fail;go_roundw
     case rel=>exact⟨j+1,S,max m2 (r+1),ahj,by first|rfl|simp[hwr],ahf,HQ.o,Ti.o,HR4.o,trivial⟩
     case measure=>simp[intOf];omega
theorem kY.app {a b:List dw} (ha:kY a) (hb:kY b):kY (a++b):=λi hi=>by
 rcases List.mem_append.1 hi with h|h
 ·exact ha i h
 ·exact hb i h
theorem kY.one {i:dw} (h: ∀r∈je i,-1000000000<=r∧r<=1000000000):kY [i]:=λj hj=>by
 rw[List.mem_singleton.1 hj];exact h
theorem kY.nil:kY []:=λi hi=>by cases hi
theorem UY {lc:List ByteArray} (h:lc.length<=1000) (nm:ByteArray): -1<=gK lc nm∧gK lc nm<=1000:=by
 have:=XO lc nm;omega
theorem Vk {W:Wo} {lc:List ByteArray} (hlc:lc.length<=1000) (st:Int): ∀(l:bV) (d:Int),0<=d->d+fH l<=1000000->kY (Jd W lc st l d)
 | .nil,_,_,_=>kY.nil
 | .cons op n nm kids rest,d,h0,h1=>by
   rw[fH]at h1;have hk:=Vk hlc (W:=W) st kids d h0 ahf;have hr:=Vk hlc (W:=W) st rest (d+1) ahf ahf;have hix:=UY hlc nm;rw[Jd];refine kY.app ?_ hr;split
   ·refine kY.one ?_;unfold Df;split
    ·intro r hr;simp[je]at hr;omega
    ·split
     ·intro r hr;simp[je]at hr;omega
     ·intro r hr;simp[je]at hr;omega
   ·refine kY.app hk (kY.one ?_);unfold OV;split
    ·intro r hr;simp[je]at hr;omega
    ·split
     ·intro r hr;simp[je]at hr;omega
     ·intro r hr;simp[je]at hr;omega
theorem LA {W:Wo} {lc:List ByteArray} (hlc:lc.length<=1000) (st op n:Int) (nm:ByteArray) (kids:bV) (d:Int) (h0:0<=d) (h1:d+1+fH kids<=1000000):kY (lY W lc st op n nm kids d):=by
 have:=Vk hlc (W:=W) st (.cons op n nm kids .nil) d h0 (by simp only[fH];omega);rw[IJ,Jd,List.append_nil]at this;exact this
theorem aO6 {W:Wo} {lc:List ByteArray} (hlc:lc.length<=1000) (st:Int) {h:dM} (hw:iT h<=300000):kY (yX W lc st h):=by
 have hix:=UY hlc h.nm;have hw':=hw;unfold iT at hw';have hx:=LA (W:=W) hlc st h.dY h.xn h.dX h.bM lc.length ahf ahf;have hx1:=LA (W:=W) hlc st h.dY h.xn h.dX h.bM (lc.length+1) ahf ahf;unfold yX;split
 ·unfold EZ;split
  ·refine kY.app hx (kY.one ?_);split
   ·intro r hr;simp[je]at hr;omega
   ·intro r hr;simp[je]at hr;omega
  ·rename_i op n nm kids r hi;have hk:fH h.idx=1+fH kids+fH r:=by rw[hi,fH]
   refine kY.app (kY.app (LA hlc st op n nm kids lc.length ahf ahf) hx1) (kY.one ?_);intro r hr;simp[je]at hr;omega
 ·repeat' split
  all_goals first
   |exact kY.nil
   |exact kY.app hx (kY.one aeu)
   |exact kY.one (by intro r hr;simp[je]at hr;try omega)
theorem bk8 {W:Wo} {lc:List ByteArray} (hlc:lc.length<=1000) (st:Int) {h:dM} (hw:iT h<=300000) {B E:List dw} (hB:kY B) (hE:kY E) (ne:Bool) (pos:Nat):kY (GR W lc st h (iX W lc st h lc.length) B E ne pos):=by
 have hw':=hw;unfold iT at hw';have hx:kY (iX W lc st h lc.length):=LA (W:=W) hlc st h.dY h.xn h.dX h.bM lc.length ahf ahf;have br: ∀x:Int,kY [⟨10,lc.length,x,0,0,st⟩]:=λx=>kY.one aeu;have jm: ∀x:Int,kY [⟨5,x,0,0,0,st⟩]:=λx=>kY.one (by intro r hr;simp[je]at hr);unfold GR;split
 ·split
  ·exact(hx.app (br _)).app hB
  ·exact(((hx.app (br _)).app hB).app (jm _)).app hE
 ·split
  ·exact((hx.app (br _)).app hB).app (jm _)
  ·split
   ·rename_i h48;rw[aM,decide_eq_true_eq,decide_eq_true_eq]at h48;have hb:Cw h.op=11∨Cw h.op=13∨Cw h.op=15∨Cw h.op=17∨Cw h.op=19:=by
     unfold Cw
     repeat' split
     all_goals simp
    refine((kY.one ?_).app hB).app (kY.one ?_)
    ·intro r hr;rcases hb with e|e|e|e|e <;> rw[e]at hr <;> simp[je]at hr
    ·intro r hr;rcases hb with e|e|e|e|e <;> rw[e]at hr <;> simp[je]at hr
   ·exact aO6 hlc st hw
theorem KI {W:Wo} {lc:List ByteArray} (hlc:lc.length<=1000): ∀(l:bf) (nx pos:Nat),l.Ev (MB W)->kY (ko W lc l nx pos)
 | .nil,_,_,_=>kY.nil
 | .cons h b e r,nx,pos,hev=>by obtain⟨h1,h2,h3,h4⟩:=hev;rw[ko];exact(bk8 hlc _ h1.2 (KI hlc b _ _ h2) (KI hlc e _ _ h3) _ _).app (KI hlc r _ _ h4)
theorem Yb {a:List dw} (h:kY a):kY (a++[⟨28,0,0,0,0,-1⟩]):=h.app (kY.one (by intro r hr;simp[je]at hr))
theorem Rx {ds:List De} {ts:List Th} : ∀ {l:List Th},(Ci ds ts l).1=0->∀t∈l,t.cZ.length<=4
 | [],_=>λt ht=>by cases ht
 |t::r,h=>by
  rw[Ci]at h;split at h
  ·exact absurd (show(2:Int)=0 from h) ahg
  ·rename_i h4;split at h
   ·exact absurd (show(4:Int)=0 from h) ahg
   ·intro x hx;rcases List.mem_cons.1 hx with rfl|hx
    ·simp at h4;omega
    ·exact Rx h x hx
theorem Ry {p:Pr} (h:(mq p).1=0): ∀t∈p.ts,t.cZ.length<=4:=by
 unfold mq at h;split at h
 ·exact absurd (show(4:Int)=0 from h) ahg
 ·exact Rx h
namespace Md
structure mJ where
 regs:Int
 is:List dw
 ao:Option Addr
 cap:Nat
def mJ.t (x:mJ):xJ:=⟨x.regs,x.is⟩
def Fy (x:mJ):List Value:=[.int .i64 x.regs,.slice x.ao x.is.length x.cap]
def mJ.I (x:mJ) (w:World):Prop:=dS jd 6 w w.heap.size x.is x.ao 0
def qU (w:World) (B:Nat):List xJ->Option Addr->Nat->Prop
 | [],_,_=>True
 |t::r,ao,k=>(∃b off gu eG,ao=some ⟨b,off,none⟩∧b<B∧w.cell? ⟨b,off+k*2,none⟩=some (.int .i64 t.regs)∧w.cell? ⟨b,off+k*2+1,none⟩=some (.slice gu t.is.length eG)∧t.is.length<=3000000000000∧dS jd 6 w B t.is gu 0)∧qU w B r ao (k+1)
def Ap:List Th->Nat
 | []=>0
 |t::r=>lJ t.body+Ap r
def Fit (p:Pr):Prop:=Ap p.ts<=100000000000∧∀t∈p.ts,t.body.Ev (λh=>iT h<=300000)
theorem PN: ∀l:List Th,Bg l<=Ap l
 | []=>aD _
 |t::r=>by have:=uL t.body;have:=PN r;rw[Bg,Ap];omega
end Md
theorem LB: ∀x:mJ,(Fy x).length=2:=λ_=>rfl
theorem bm5 (x:mJ): ∀u∈Fy x,u.oneCell'=true:=by intro u hu;simp[Fy]at hu;rcases hu with rfl|rfl <;> rfl
theorem aj0:(Tryz.prog.info? 37).map (λi=>(i.zero,i.size,i.bytes))=some (some (.agg #[.int .i64 0,.slice none 0 0]),2,32):=ahe
abbrev vG (B:Nat) (w:World) (v:Value) (l:List mJ):Prop:=Grow Fy 2 mJ.I 37 B w v l
theorem Di {w:World} {B B' m m' n n':Nat} {e e':TypeId} {v v':Value} {xs xs':List Value} (h:w.ownsRow B e m v n xs) (h':w.ownsRow B' e' m' v' n' xs') (hne:e≠e'): ∀k,v.ownBlock=some k->v'.ownBlock≠some k:=by
 intro k hk hk';rcases h.2 with⟨rfl,-⟩|⟨g,cap,cur,rfl,-,hg,-⟩
 ·cases hk
 rcases h'.2 with⟨rfl,-⟩|⟨g',cap',cur',rfl,-,hg',-⟩
 ·cases hk'
 injection hk with hk;injection hk' with hk';simp only at hk hk';subst hk;subst hk';rw[hg]at hg';injection hg' with hg';injection hg' with _ h2 _;exact hne h2
theorem Yj {w:World} {B:Nat} {g:Option Nat} {ao:Option Addr} {cap:Nat} {is:List dw} {r:Int} (h:w.ownsRow B 40 6 (.slice ao is.length cap) is.length (is.flatMap jd)) (hg: ∀k,(Value.slice ao is.length cap).ownBlock=some k->g≠some k):qI B g w (mJ.I ⟨r,is,ao,cap⟩):=λw' ha=>by
 have h':w'.ownsRow B 40 6 (.slice ao is.length cap) is.length (is.flatMap jd):=by
  refine⟨h.1,?_⟩;rcases h.2 with h1|⟨q,cap',cur,h1,h2,h3,h4⟩
  ·exact .inl h1
  ·refine .inr ⟨q,cap',cur,h1,h2,?_,h4⟩;rw[ha.2 q h2 (λe=>hg q ahP e.symm) (aI h3)];exact h3
 exact wV wW h'
theorem Yi {w:World} {B:Nat} {v:Value} {l:List mJ} (h:vG B w v l) (hl: ∀x∈l,x.is.length<=1000000000000): ∃ao cap,v= .slice ao l.length cap∧l.length<=cap∧qU w w.heap.size (l.map mJ.t) ao 0:=by
 obtain⟨hI,ao,cap,hv,hc,hcells⟩:=(h.cells LB).now;refine⟨ao,cap,hv,hc,?_⟩;have: ∀(r:List mJ) (k:Nat),(∀i x,r[i]? =some x->l[k+i]? =some x)->qU w w.heap.size (r.map mJ.t) ao k:=by
  intro r
  induction r with
  |nil=>exact λ_ _=>trivial
  |cons x r ih=>
   intro k hk;have hx:=hk 0 x rfl;obtain⟨g,rfl,hB,hlt,hcs⟩:=hcells k x hx;have hm:x∈l:=List.mem_of_getElem? hx;refine⟨⟨g,0,x.ao,x.cap,rfl,hlt,?_,?_,aO (hl x hm) ahg,hI x hm⟩,ih (k+1) (λi y hy=>by have:=hk (i+1) y aip;rw[show k+1+i=k+(i+1) by omega];exact this)⟩
   ·have:=hcs 0 _ rfl;rw[aU];exact this
   ·have:=hcs 1 _ rfl;rw[aU];exact this
 exact this l 0 (λi x hx=>by rw[aU];exact hx)
def BbQ (r:Int) (ao:Option Addr) (n cap:Nat) (v:Value) (w':World):Prop:= ∃bb,v= .slice (some ⟨bb,0,none⟩) 1 1∧w'.heap[bb]? =some (.cells #[.int .i64 r,.slice ao n cap] 37 (0,0))
theorem iE.far {T:TypeId} {w w':World} {L:GL} {W:Wo} {s:jr} {lc:List ByteArray} {al:Option Addr} {cl:Nat} {v:Value} {code:List dw} {a b:Int} {g:Option Nat} (h:iE T w L W s lc al cl v code a b) (hg:w.grownBy w' g) (hk: ∀k,g=some k->L.B0<=k∧k≠L.gb∧v.ownBlock≠some k):iE T w' L W s lc al cl v code a b:=by
 have hb:Below L.B0 w w':=⟨hg.os,hg.tape,hg.output,hg.size,λk hlt=>hg.block k (aV hlt h.b0) (λe=>by have:=(hk k e.symm).1;omega)⟩
 exact {blk:=(hg.block _ (aI h.blk) (λe=>(hk _ e.symm).2.1 rfl)).trans h.blk
        row:=h.row.kept hg (by
         cases hv:v.ownBlock with
         |none=>exact .inl rfl
         |some q=>exact .inr (λe=>(hk q e.symm).2.2 hv))
        sz:=aO h.sz hg.size,wo:=h.wo.below hb,few:=h.few,lc:=h.lc.below hb}
theorem VX (p:Pr) (w:World) (aQ aR:Option Addr) (aJ aH:Nat) (hp:p.At w aQ aR) (fG:eD w) (hfit:Fit p) (hok:(jL p).1=0) (hS: ∀t∈p.ts,t.body.Ev BH):
 Calls Tryz.prog 14 #[.agg #[.slice aQ p.ds.length aJ,.slice aR p.ts.length aH]] w λe w'=> ∃s ao cap,e= .returned (.tuple #[.agg #[.slice s.aC (jJ p).cs.length s.cC,.slice s.aL (jJ p).ls.length s.cL,.slice s.aN (jJ p).ns.length s.cN,.slice s.aF (jJ p).fs.length s.cF,.slice s.aT (jJ p).ts.length s.cT,.slice s.aS (jJ p).ss.length s.cS,.slice ao p.ts.length cap],.int .i64 0,.int .i64 0])∧
  gq w' w'.heap.size (jJ p) s∧qU w' w'.heap.size (Gx (jJ p) p.ts 0) ao 0∧p.ts.length<=cap∧Below w.heap.size w w':=by
 have HP:=ah hp;have JA:=ah hS;clear hS;have kG:=ah fG;have SE:=ah hfit;have kK:=ah (okP hok);have Te:=ah (wL hok);have Tc:=ah hok;have EU:aj (tq p=jJ p):=ah agH;have hpe:jL p=(0,(jL p).2):=by rw[<- hok]
 have htl:p.ts.length<=4:=by have:=Te.o.2.2.1;omega
 have X7:=ah htl;clear hp fG hfit hok;go_enter Tryz.func14,Tryz.ntmps14;go_upto_region 1 with fail;generalize hW:World.alloc (World.alloc w _) _=w1;obtain⟨bp,hbp,zN,HB1,-,BG,lU,jX⟩:=al3 hW;rw[hbp];clear hW hbp;obtain⟨y0,y1⟩:=uK BG.o;go_wp2_with fail;refine(M9 p w1 aQ aR aJ aH (HP.o.same HB1.o) (kG.o.same HB1.o) JA.o).mono ?_;rintro e w2 ⟨rfl,hb2⟩;have HB2:=ah (HB1.o.trans (hb2.mono HB1.o.size));have yM:=jq hb2 BG;have uj:=jq hb2 lU;rw[show(jL p).1=0 from Tc.o];clear hb2 y0 y1 BG lU hpe;generalize (jL p).2=ln at *;obtain⟨y0,y1⟩:=uK yM.o;go_wp2_with fail;refine(YV p w2 aQ aR aJ aH (HP.o.same HB2.o) (kG.o.same HB2.o) aei JA.o).mono ?_;rintro e w3 ⟨s,rfl,hwo,hb3,hnew⟩;have HNW:=ah hnew;rw[EU.o]at hwo;have Gf:=ah hwo;have HB3:=ah (HB2.o.trans (hb3.mono HB2.o.size));have AX:=jq hb3 yM;have yN:=jq hb3 uj;rw[EU.o];have HS2:=ah ((aI uj.o));clear hwo hb3 y0 y1 yM uj hnew;generalize Oq:jJ p=W at *;have as7:=ah Oq;clear Oq;unfold mQ;have y1:=aG (j:=1) AX.o rfl;go_upto_region 6 with fail;obtain⟨bc,hbc⟩: ∃n,w3.heap.size=n:=⟨_,rfl⟩;generalize tT:World.alloc (World.alloc w3 _) _=w5;have iU:aj (Below w3.heap.size w3 w5):=ah (by rw[<- tT];exact(aA _ _).alloc ahh _);have yu:aj (w5.heap[bc]? =some (.cells #[.slice s.aC W.cs.length s.cC,.slice s.aL W.ls.length s.cL,.slice s.aN W.ns.length s.cN,.slice s.aF W.fs.length s.cF,.slice s.aT W.ts.length s.cT,.slice s.aS W.ss.length s.cS,.slice none 0 0] 32 (0,0))):=ah (by rw[<- tT,<- hbc,heap_alloc_old _ _ ahh];exact heap_alloc_new _ _);have HXg:aj (w5.heap[bc+1]? =some (.cells (Un W s [] none 0 (.slice none 0 0) 0 0) 106 (0,0))):=ah (by have:=heap_alloc_new (w3.alloc (.cells #[.slice s.aC W.cs.length s.cC,.slice s.aL W.ls.length s.cL,.slice s.aN W.ns.length s.cN,.slice s.aF W.fs.length s.cF,.slice s.aT W.ts.length s.cT,.slice s.aS W.ss.length s.cS,.slice none 0 0] 32)) (.cells (Un W s [] none 0 (.slice none 0 0) 0 0) 106);rw[show(w3.alloc (.cells #[.slice s.aC W.cs.length s.cC,.slice s.aL W.ls.length s.cL,.slice s.aN W.ns.length s.cN,.slice s.aF W.fs.length s.cF,.slice s.aT W.ts.length s.cT,.slice s.aS W.ss.length s.cS,.slice none 0 0] 32)).heap.size=w3.heap.size+1 by simp]at this;rw[<- tT,<- hbc];exact this);have ql:aj (w5.heap.size=bc+2):=ah (by rw[<- tT,<- hbc];simp);have EJ:=ah hbc;rw[hbc];obtain⟨L,hL0,R8,hL1⟩: ∃L:GL,L.B0=bc∧bc+1=L.gb∧L.B1=bc+2:=⟨⟨bc,bc+1,bc+2,ahf,ahf⟩,rfl,rfl,rfl⟩;rw[R8];have HL:=ah (ay hL0 (ay R8 hL1));have YH:=jq iU.o AX;have Qr:aj (iE 106 w5 L W s [] none 0 (.slice none 0 0) [] 0 0):=ah
  {blk:=by rw[<- R8];exact HXg.o,row:=World.ownsRow_nil _ _ _ _,sz:=by rw[hL1,ql.o];exact aD _,wo:=by rw[hL0,<- hbc];exact Gf.o.below iU.o,few:=bC _,lc:=trivial}
 have tH:aj (iP w5 bc p.ts aR 0):=ah aai;have LY:=ah (Ry Te.o.2.2.2.1);have HSP:aj (∀t∈p.ts,gy t.body=true):=ah (λt ht=>aae);have HTO:=ah (GU HP.o.2.2.2);clear tT hbc hL0 R8 hL1 y1 HXg Gf AX;have y1:=aG (j:=1) YH.o rfl;go_wp2_with fail;go_loopw [10,31] (λ_ i wr=> ∃(k:Nat) (R:List Th) (xs:List mJ) (vT:Value) (nx:Nat) (code:List dw) (v:Value) (b:Int) (lc:List ByteArray) (al:Option Addr) (cl:Nat),i= .int .i64 k∧k+R.length=p.ts.length∧Gx W p.ts 0=xs.map mJ.t++Gx W R nx∧xs.length=k∧(∀x∈xs,x.is.length<=1000000000000)∧iE 106 wr L W s lc al cl v code (nx:Nat) b∧vG L.B1 wr vT xs∧
  wr.heap[bc]? =some (.cells #[.slice s.aC W.cs.length s.cC,.slice s.aL W.ls.length s.cL,.slice s.aN W.ns.length s.cN,.slice s.aF W.fs.length s.cF,.slice s.aT W.ts.length s.cT,.slice s.aS W.ss.length s.cS,vT] 32 (0,0))∧iP wr bc R aR k∧Below bc w5 wr∧nx+Ap R<=Ap p.ts∧(∀t∈R,t∈p.ts)) (λ_ i _=>p.ts.length -(intOf i).toNat)
 case atStart=>exact⟨0,p.ts,[],.slice none 0 0,0,[],_,0,[],none,0,rfl,ahh,ahh,rfl,ahh,Qr.o,Grow.nil _ _ _ _ _ _,yu.o,tH.o,ak _ _,ahh,λt h=>h⟩
 case round=>
  obtain⟨k,R,xs,vT,nx,code,v,b,lc,al,cl,rfl,hlen,heq,hxl,hxs,hge,hgr,hbx,hth,hbel,hwt,hmem⟩:=hrel;have HE:=ah heq;have HG:=ah hge;have NG:=ah hgr;have HX:=ah hbx;have iZ:=ah hbel;have HN:=ah (ay hxl (ay hxs (ay hwt hmem)));clear heq hge hgr hbx hbel hxl hxs hwt hmem Qr tH yu y1;cases R with
  |nil=>
   obtain rfl:k=p.ts.length:=afb
   obtain⟨uR,Ac,Fe,hcc,hat⟩:=Yi NG.o HN.o.2.1;subst Fe;have HAT:=ah hat;have HCAP:=ah hcc;have MO:=ah ((iZ.o.block (bp+1) acQ).trans ((iU.o.block _ (aI yN.o)).trans yN.o));have hxl:xs.length=p.ts.length:=HN.o.1;have LQ:aj (Gx W p.ts 0=xs.map mJ.t):=ah (by rw[HE.o];simp[Gx]);have JB:aj (wr.heap[bc]? =some (.cells #[.slice s.aC W.cs.length s.cC,.slice s.aL W.ls.length s.cL,.slice s.aN W.ns.length s.cN,.slice s.aF W.fs.length s.cF,.slice s.aT W.ts.length s.cT,.slice s.aS W.ss.length s.cS,.slice uR p.ts.length Ac] 32 (0,0))):=ah (by rw[HX.o,hxl]);obtain⟨c0,c1,c2,c3,c4,c5,c6⟩:=Mg (JB.o);obtain⟨r0,r1,r2,r3,r4,r5,r6⟩:=Mg MO.o;obtain⟨rf0,rf1,rf2,rf3,rf4,rf5,rf6⟩:=fr7 MO.o;have mZ:=ah (aV (aI HX.o) (aD _));have hcl:p.ts.length<=Ac:=by rw[hxl]at hcc;exact hcc
   have HCL:=ah hcl;clear hat hth hcc hcl;go_wp2_with fail;show bodyPost _ _ _ _ _ (World.setCells wr (bp+1) 0 [.slice s.aC W.cs.length s.cC,.slice s.aL W.ls.length s.cL,.slice s.aN W.ns.length s.cN,.slice s.aF W.fs.length s.cF,.slice s.aT W.ts.length s.cT,.slice s.aS W.ss.length s.cS,.slice uR p.ts.length Ac]);generalize CK:World.setCells wr _ _ _=wz;obtain⟨Gh,oG,ql⟩:=Qb CK MO.o rfl;clear CK;have HW3:aj (bp+1<bc):=ah acQ;have EO:aj (Below w.heap.size w wz):=ah (((HB3.o.trans (iU.o.mono HB3.o.size)).trans (iZ.o.mono adM)).trans (cB oG.o afo aaO));have HKP:aj (∀k,w2.heap.size<=k->wz.heap[k]? =wr.heap[k]?):=ah (λk hk=>by
    have h1:=HS2.o;by_cases hlt:k<wr.heap.size
    ·exact oG.o.block k hlt ahi
    ·have e1:=ql.o;rw[Array.getElem?_eq_none ahf,Array.getElem?_eq_none ahf])
   have HGK:aj (vG L.B1 wz (.slice uR xs.length Ac) xs):=ah (NG.o.next ⟨oG.o.size,λk h1 h2=>oG.o.block k h2 (by have h3:=HL.o;have h4:=HW3.o;simp;omega)⟩);have HWK:aj (gq wz wz.heap.size W s):=ah ((gq.keep HG.o.wo HNW.o HKP.o).mono (by have h1:=HG.o.b0;exact aO h1 oG.o.size));obtain⟨o0,o1,o2,o3,o4,o5,o6⟩:=Mg Gh.o;obtain⟨Me,Mi,hvQ,-,bd1⟩:=Yi HGK.o HN.o.2.1;injection hvQ with ax1 ax2 ax3;subst ax1;have bD3:=ah bd1;clear bd1 ax2 ax3;have Oq:=as7.o;subst Oq;exact bodyPost_ret (v:= .tuple #[.agg #[.slice s.aC (jJ p).cs.length s.cC,.slice s.aL (jJ p).ls.length s.cL,.slice s.aN (jJ p).ns.length s.cN,.slice s.aF (jJ p).fs.length s.cF,.slice s.aT (jJ p).ts.length s.cT,.slice s.aS (jJ p).ss.length s.cS,.slice uR p.ts.length Ac],.int .i64 0,.int .i64 0]) (by simp[results,Tryz.results14,go_sem,o0,o1,o2,o3,o4,o5,o6]) rfl ⟨s,uR,Ac,rfl,HWK.o,by rw[LQ.o];exact bD3.o,HCL.o,EO.o⟩
  |cons t R=>
   obtain⟨⟨b1,off,iO,eF,dR,dA,hao,jT,x0,x1,x2,x3,hok,htx,hst,hcl⟩,hrest⟩:=hth;have zL:=ah hao;subst hao;simp only[aB]at hlen;have hkl:k<p.ts.length:=ahf
   have kg:=ah hrest;have rZ:=ah (ay hst (ay hok.2.2.2 htx));have vg:=HN.o.2.2.2 t aW;have bJ9:t∈p.ts:=vg;have Cr:aj (t.cZ.length<=4∧gy t.body=true∧t.body.Ev (MB W)):=ah ⟨LY.o t vg,HSP.o t vg,abI⟩;have sw:aj (nx+(lJ t.body+Ap R)<=100000000000∧nx+(lJ t.body+Ap R)<=Ap p.ts):=ah aaR;clear hrest hok htx hst hcl vg;go_upto_region 9 with fail;generalize tV:World.alloc wr _=w6;obtain⟨nb,hnb,dF,-,JE,-⟩:=oJ tV;have dG:aj (L.B1<=nb∧nb<w6.heap.size):=ah ⟨by rw[<- hnb];exact HG.o.sz,(aI JE.o)⟩;have SF:=ah (HG.o.below dF.o);have bE0:=ah (NG.o.next (bR dF.o));have JC:=ah ((dF.o.block bc (aI HX.o)).trans HX.o);have aU1:aj (Below bc wr w6):=ah (dF.o.mono (bg (aI HX.o)));rw[hnb];clear tV hnb x0 x1 x2 x3;have x2:=aG (j:=2) JE.o rfl;have hg0:=SF.o.cells.1;have c6:=SF.o.cells.2.2.2.2.2.2.2.1;have f6:=SF.o.cells.2.2.2.2.2.2.2.2.2.2.2 6;have vM:aj (L.B0=bc∧bc+1=L.gb∧L.B1=bc+2):=HL;go_upto_region 10 with fail;generalize R9:World.setCell w6 _ _=w7;have Qs:aj (iE 106 w7 L W s t.cZ iO eF v code (nx:Nat) b):=ah (by rw[<- R9];exact SF.o.bL1 eF (by rw[vM.o.1];exact rZ.o.2.2.below aU1.o) agd);have bE1:aj (vG L.B1 w7 vT xs):=ah (by rw[<- R9];exact bE0.o.next (iM _ _ _ L.b1));have xH:=ah ((show w7.heap[bc]? =w6.heap[bc]? by rw[<- R9];exact bF _ _ _ rfl aej).trans JC.o);have bG9:=ah ((show w7.heap[nb]? =w6.heap[nb]? by rw[<- R9];exact bF _ _ _ rfl acn).trans JE.o);have bE8:aj (Below bc wr w7):=ah (by rw[<- R9];exact aU1.o.trans (cB (bQ _ _ _) aeo (aO (bg (aI HX.o)) dF.o.size)));clear R9 c6 f6 hg0 x2;have hg0:=Qs.o.cells.1;obtain⟨ao7,I6,hv7,-,-⟩:=Qs.o.form;have c7:=Qs.o.cells.2.2.2.2.2.2.2.2.1;rw[hv7]at c7;have f7:=Qs.o.cells.2.2.2.2.2.2.2.2.2.2.2 7;go_upto_region 11 with fail;generalize Em:World.setCell w7 _ _=w8;have HG8:aj (iE 106 w8 L W s t.cZ iO eF (.slice none 0 0) [] (nx:Nat) b):=ah (by rw[<- Em];exact Qs.o.bL2);have bE2:aj (vG L.B1 w8 vT xs):=ah (by rw[<- Em];exact bE1.o.next (iM _ _ _ L.b1));have HX8:=ah ((show w8.heap[bc]? =w7.heap[bc]? by rw[<- Em];exact bF _ _ _ rfl aej).trans xH.o);have bH0:=ah ((show w8.heap[nb]? =w7.heap[nb]? by rw[<- Em];exact bF _ _ _ rfl acn).trans bG9.o);have aU2:aj (Below bc wr w8):=ah (by rw[<- Em];exact bE8.o.trans (cB (bQ _ _ _) aeo (bg (aI xH.o))));clear Em c7 f7 hg0 hv7;have x3:=aG (j:=3) bH0.o rfl;go_wp2_with fail;refine(ag3 t.body (JA.o t bJ9) w8 L W s t.cZ iO eF (.slice none 0 0) [] b nx dR dA HG8.o rZ.o.2.1 (by rw[vM.o.1];exact rZ.o.1.below aU2.o) Cr.o.2.1 Cr.o.2.2 aeg (by have:=sw.o.1;omega)).mono ?_;rintro e w9 ⟨rfl,hem⟩;obtain⟨v9,a9,b9,lI,Mk,Ou,Rc⟩:=hem;have lI:a9=((nx+dB t.body:Nat):Int):=lI;subst lI;rw[List.nil_append,aP]at Mk;have Aw:=ah (ru W t.cZ t.body nx 0);have Ga:=ah (KI (W:=W) (lc:=t.cZ) agd t.body nx 0 Cr.o.2.2);have HCO:aj (Gx W p.ts 0=xs.map mJ.t++(⟨CU (ko W t.cZ t.body nx 0++[⟨28,0,0,0,0,-1⟩]) t.cZ.length,ko W t.cZ t.body nx 0++[⟨28,0,0,0,0,-1⟩]⟩::Gx W R (nx+dB t.body))):=ah HE.o;generalize ko W t.cZ t.body nx 0=GC at *;have xw:=ah Mk;have WS:=ah Ou;have Qw:=ah Rc;clear Mk Ou Rc x3;have c9:=xw.o.cells.2.2.2.2.2.2.2.2.2.2.1;have f9:=xw.o.cells.2.2.2.2.2.2.2.2.2.2.2 9;have hg0:=xw.o.cells.1;go_upto_region 13 with fail;generalize Uv:World.setCell w9 _ _=wa;have kV:aj (iE 106 wa L W s t.cZ iO eF v9 GC ((nx+dB t.body:Nat):Int) (-1)):=ah (by rw[<- Uv];exact xw.o.jA (-1));have HKA:aj (Kg L (.slice none 0 0) w8 wa):=ah ab7;clear Uv c9 f9 hg0;have hg0:=kV.o.cells.1;go_wp2_with fail;refine(nV kV.o ⟨28,0,0,0,0,0⟩ (by have h1:=Aw.o;have h2:=sw.o.1;omega)).mono ?_;rintro e wb ⟨rfl,ve,hge,hke,hoe⟩;have ND:aj (iE 106 wb L W s t.cZ iO eF ve (GC++[⟨28,0,0,0,0,-1⟩]) ((nx+dB t.body:Nat):Int) (-1)):=ah hge;have EN:aj (Kg L (.slice none 0 0) w8 wb):=ah (HKA.o.trans Qw.o hke);clear hge hke hoe hg0;have WZ:aj (kY (GC++[⟨28,0,0,0,0,-1⟩])):=ah (Yb Ga.o);have qh:aj ((GC++[(⟨28,0,0,0,0,-1⟩:dw)]).length<=1000000000000):=ah (by have h1:=Aw.o;have h2:=sw.o.1;simp only[au,aB,aP];omega);generalize GC++[⟨28,0,0,0,0,-1⟩]=GD at *;have HXb:=ah ((EN.o.block bc (aI HX8.o) agw afw).trans HX8.o);have Yy:=ah (bE2.o.next ⟨EN.o.size,λq h1 h2=>EN.o.block q h2 (by have:=L.b1;omega) afw⟩);have bE9:aj (Below bc wr wb):=ah (aU2.o.trans ⟨EN.o.os,EN.o.tape,EN.o.output,EN.o.size,λq hq=>EN.o.block q (Nat.lt_trans hq (aI HX8.o)) agw afw⟩);obtain⟨uR,Ac,Fe⟩:=Yy.o.len;obtain⟨iL,uX,UL,-,-⟩:=ND.o.form;have xG:=ah Fe;have QE:=ah UL;have hxc:=aG (j:=6) HXb.o rfl;have hxe:=ND.o.cells.2.2.2.2.2.2.2.2.1;simp only[List.getElem_toArray,List.getElem_cons_zero,List.getElem_cons_succ]at hxc;rw[Fe]at hxc;rw[UL]at hxe;have Cj:=ah (ay (aI HXb.o) (ay hxc (ay ND.o.cells.1 hxe)));clear Fe UL hxc hxe;go_upto_region 14 with fail;have V0:=jN Cj.o.1 Cj.o.2.1;have V1:=jN Cj.o.2.2.1 Cj.o.2.2.2;refine cK ahe rfl ?_;refine bW 0 10 [] [[],[0],[],[2],[],[4],[4,5],[4,5,6],[2,3,4,5,6,7],[2,3,4,5,6,7,8],[0,1,2,3,4,5,6,7,8,9],[0,1,2,3,4,5,6,7,8,9,10],[0,1,2,3,4,5,6,7,8,9,10,11]] [[],[],[],[],[],[],[],[],[],[]] (λ_ w'=>Below wb.heap.size wb w') (λw w'=>Below w.heap.size w w') [53,54,55,56,57,58,59,60,61,62] rfl rfl aix ahe ahe ahe ahe ahe aix (λ_=>ak _ _) aix (below_drewN (ak _ _) 1) ?_;simp only[gJ,kE]
   iterate 3
    apply bH.step
    case cu=>intro c A w' hok hC hO hD;have e7:=hO 7 aix;have e8:=hO 8 aix;simp[Act.eval]at e7 e8;simp[Act.eval]at hD;simp[go_sem,gd,Oper.wp,hD,e7,e8,V0,hC];exact AbN
    try simp only[dI]
   refine bH.some (λv _=>v= .int .i64 (CU GD t.cZ.length)) (λ_ _ _ _ h=>h) ?_ ?_
   ·intro c A w' hok hC hO hD;simp[Act.eval]at hD;simp[go_sem,gd,Oper.wp,hD];refine(ag5 (ND.o.below hC) WZ.o).mono ?_;exact AbD
   try simp only[dI]
   iterate 5
    apply bH.step
    case cu=>intro c A w' hok hC hO hD;have e8:=hO 8 aix;simp[Act.eval]at e8;simp[Act.eval]at hD;simp[go_sem,gd,Oper.wp,hD,e8,V1,hC];exact AbN
    try simp only[dI]
   refine bH.some (λv w'=>BbQ (CU GD t.cZ.length) iL GD.length uX v w') ?_ ?_ ?_
   ·rintro v wx wy hle ⟨bb,rfl,hbb⟩;exact⟨bb,rfl,(hle.block bb (aI hbb)).trans hbb⟩
   ·intro c A w' hok hC hO hD;simp[Act.eval]at hD;simp[go_sem,gd,Oper.wp,hD];exact Abi
   try simp only[dI]
   try simp only[dI]
   refine bH.done ?_;intro wz dx
   try simp only[gJ]
   iterate 9 refine kZ ?_
   intro v9 h9;obtain⟨bb,rfl,hbb⟩:=h9;refine mE ?_;go_simp;have qN:=ah dx;have yg:=ah hbb;clear V0 V1 dx hbb;have NH:=ah (Yy.o.next (bR qN.o));have Sz:=ah (ND.o.below qN.o);refine dD 10 [[],[0],[],[2],[],[4],[4,5],[4,5,6],[2,3,4,5,6,7],[2,3,4,5,6,7,8],[0,1,2,3,4,5,6,7,8,9],[0,1,2,3,4,5,6,7,8,9,10],[0,1,2,3,4,5,6,7,8,9,10,11]] rfl rfl rfl rfl rfl ahe ahe ahe ?_;obtain⟨i0,hi0,hz0,hz1,hz2⟩:=infoP aj0;have hk0:xs.length<=4:=by have:=HN.o.1;omega
   refine wp_append_lies wz _ _ _ aix L.B1 37 i0 _ 2 32 Tryz.underlying30 hi0 hz0 hz1 hz2 aix ahf (.slice uR xs.length Ac) xs.length (xs.flatMap Fy) aix (by rw[<- xG.o];exact NH.o.own) ⟨bb,0,none⟩ 1 1 (Fy ⟨CU GD t.cZ.length,GD,iL,uX⟩) aix aix (gG yg.o) (bm5 _) ahg afc ahf Sz.o.sz _ rfl ?_;intro g' cap' wd hown hgr hmv jP;have Yr:aj (∀q,vT.ownBlock=some q->ve.ownBlock≠some q):=ah (Di NH.o.own Sz.o.row ahg);have yt:aj (vG L.B1 wd (.slice (some ⟨g',0,none⟩) (xs.length+1) cap') (xs++[⟨CU GD t.cZ.length,GD,iL,uX⟩])):=ah (NH.o.push (x:=⟨CU GD t.cZ.length,GD,iL,uX⟩) (by have:=Sz.o.row;rw[QE.o]at this;exact Yj this (λq hq e=>Yr.o q e (by rw[QE.o];exact hq))) rfl hown agK (by rw[xG.o];exact hmv));have SG:aj (iE 106 wd L W s t.cZ iO eF ve GD ((nx+dB t.body:Nat):Int) (-1)):=ah (Sz.o.far hgr (λq hq=>by have h1:=(NH.o.lt q (by rw[xG.o];exact hq)).1;exact⟨by have:=L.b0;have:=L.b1;omega,by have:=L.b1;omega,Yr.o q (by rw[xG.o];exact hq)⟩));have NY:aj (wd.heap[bc]? =some (.cells #[.slice s.aC W.cs.length s.cC,.slice s.aL W.ls.length s.cL,.slice s.aN W.ns.length s.cN,.slice s.aF W.fs.length s.cF,.slice s.aT W.ts.length s.cT,.slice s.aS W.ss.length s.cS,.slice uR xs.length Ac] 32 (0,0))):=ah ((hgr.block bc (aV Cj.o.1 qN.o.size) (λe=>by have h1:=(NH.o.lt bc afX).1;have:=vM.o;omega)).trans ((qN.o.block bc Cj.o.1).trans (by rw[HXb.o,xG.o])));have ar6:aj (Below bc wr wd):=ah ((bE9.o.trans (qN.o.mono (bg Cj.o.1))).trans ⟨hgr.os,hgr.tape,hgr.output,hgr.size,λq hq=>hgr.block q (by have:=Cj.o.1;have:=qN.o.size;omega) (λe=>by have h1:=(NH.o.lt q afX).1;have:=vM.o;omega)⟩);clear hown hgr hmv jP hi0 hz0 hz1 hz2 hk0;have cj:=aG (j:=6) NY.o rfl;simp only[List.getElem_toArray,List.getElem_cons_zero,List.getElem_cons_succ]at cj;have fj:=bG (o:=6) NY.o;have Zd:=(aI NY.o);go_simp;refine dD 11 [[],[0],[],[2],[],[4],[4,5],[4,5,6],[2,3,4,5,6,7],[2,3,4,5,6,7,8],[0,1,2,3,4,5,6,7,8,9],[0,1,2,3,4,5,6,7,8,9,10],[0,1,2,3,4,5,6,7,8,9,10,11]] rfl rfl rfl rfl rfl ahe ahe ahe ?_;simp[go_sem,Oper.wp];refine dD 12 [[],[0],[],[2],[],[4],[4,5],[4,5,6],[2,3,4,5,6,7],[2,3,4,5,6,7,8],[0,1,2,3,4,5,6,7,8,9],[0,1,2,3,4,5,6,7,8,9,10],[0,1,2,3,4,5,6,7,8,9,10,11]] rfl rfl rfl rfl rfl ahe ahe ahe ?_;simp[go_sem,Oper.wp,cj,fj];refine dH rfl ?_;go_simp;generalize hWf:World.setCell wd _ _=wf;have HGf:aj (iE 106 wf L W s t.cZ iO eF ve GD ((nx+dB t.body:Nat):Int) (-1)):=ah (by rw[<- hWf];exact SG.o.far (bQ _ _ _) (λq hq=>by injection hq with hq;have hq:bc=q:=hq;subst hq;refine⟨agw,agw,λe=> ?_⟩;have:=(SG.o.own bc e).1;have:=vM.o;omega));have HPf:aj (vG L.B1 wf (.slice (some ⟨g',0,none⟩) (xs.length+1) cap') (xs++[⟨CU GD t.cZ.length,GD,iL,uX⟩])):=ah (by rw[<- hWf];exact yt.o.next (iM _ _ _ (by show bc<L.B1;have:=vM.o;omega)));have HXf:aj (wf.heap[bc]? =some (.cells #[.slice s.aC W.cs.length s.cC,.slice s.aL W.ls.length s.cL,.slice s.aN W.ns.length s.cN,.slice s.aF W.fs.length s.cF,.slice s.aT W.ts.length s.cT,.slice s.aS W.ss.length s.cS,.slice (some ⟨g',0,none⟩) (xs.length+1) cap'] 32 (0,0))):=ah (by rw[<- hWf];exact oW NY.o _ rfl);have Pp:aj (Below bc wr wf):=ah (by rw[<- hWf];exact ar6.o.trans (cB (bQ _ _ _) (aD _) (bg Zd)));clear hWf cj fj Zd;go_wp2_with fail;go_roundw
   case rel=>
    refine⟨k+1,R,xs++[⟨CU GD t.cZ.length,GD,iL,uX⟩],_,nx+dB t.body,GD,ve,-1,t.cZ,iO,eF,ahj,ahf,?_,by rw[au,HN.o.1];rfl,?_,HGf.o,HPf.o,HXf.o,kg.o.below Pp.o,iZ.o.trans Pp.o,?_,λx hx=>HN.o.2.2.2 x (aY _ hx)⟩
    ·rw[HCO.o];simp[mJ.t]
    ·intro x hx;rcases List.mem_append.1 hx with hx|hx
     ·exact HN.o.2.1 x hx
     ·rw[List.mem_singleton.1 hx];exact qh.o
    ·have h1:=sw.o.2;have h2:=uL t.body;omega
   case measure=>simp[intOf];omega
theorem Bn {w:World} {B B' m n:Nat} {ty:TypeId} {v:Value} {xs:List Value} (h:w.ownsRow B ty m v n xs) (hB:B'<=B):w.ownsRow B' ty m v n xs:=by
 refine⟨h.1,?_⟩;rcases h.2 with h1|⟨q,cap',cur,h1,h2,h3⟩
 ·exact .inl h1
 ·exact .inr ⟨q,cap',cur,h1,aO hB h2,h3⟩
def xK (x:mJ):Rw:=⟨40,6,.slice x.ao x.is.length x.cap,x.is.length,x.is.flatMap jd⟩
def KM (v:Value) (l:List mJ):Rw:=⟨37,2,v,l.length,l.flatMap Fy⟩
def zo (s:Vs) (W:Wo) (v:Value) (l:List mJ):List Rw:=iB s W++KM v l::l.map xK
def U1 (l:List mJ):Prop:= ∀x∈l,0<x.is.length∧x.is.length<=1000000000000
theorem al6 {w w':World} {B B1 n:Nat} {xs:List mJ} {x:mJ} {vT:Value} {ys:List Value} (h:Rows w B (xs.map xK)) (hT:w.ownsRow B 37 2 vT n ys) (hx:w.ownsRow B1 40 6 (.slice x.ao x.is.length x.cap) x.is.length (x.is.flatMap jd)) (hB:B<=B1) (hl: ∀r∈xs.map xK,∀k,r.v.ownBlock=some k->k<B1) (hg:w.grownBy w' vT.ownBlock):Rows w' B ((xs++[x]).map xK):=by
 have kp: ∀r:Rw,r.T=40->r.Ok w B->r.Ok w' B:=λr hr ho=>ho.kept hg (by
  cases hv:r.v.ownBlock with
  |none=>exact .inl rfl
  |some j=>exact .inr (λe=>Di hT ho (by rw[hr];decide) j e.symm hv))
 have hy:(xK x).Ok w B:=Bn hx hB;rw[List.map_append];refine⟨λr hr=> ?_,List.pairwise_append.2 ⟨h.ap,ahh,λa ha b hb k hk e=> ?_⟩⟩
 ·rcases List.mem_append.1 hr with hr|hr
  ·obtain⟨y,-,rfl⟩:=List.mem_map.1 hr;exact kp _ rfl (h.own _ hr)
  ·rw[List.mem_singleton.1 (show r∈ [xK x]from hr)];exact kp _ rfl hy
 ·rw[List.mem_singleton.1 (show b∈ [xK x]from hb)]at e;have:=hl a ha k hk;have:=(hx.lt k e).1;omega
theorem aA4 {w:World} {B B1 B2 m:Nat} {s:Vs} {W:Wo} {v:Value} {xs:List mJ} (h:Rows w B (iB s W)) (hm: ∀r∈iB s W,∀k,r.v.ownBlock=some k->k<m) (hB:B2<=B) (h1:B2<=B1) (hm1:m<=B1) (hT:(KM v xs).Ok w B1) (hc:Rows w B1 (xs.map xK)):Rows w B2 (zo s W v xs):=by
 refine⟨λr hr=> ?_,List.pairwise_append.2 ⟨h.ap,List.pairwise_cons.2 ⟨λb hb k hk e=> ?_,hc.ap⟩,λa ha b hb k hk e=> ?_⟩⟩
 ·rcases List.mem_append.1 hr with hr|hr
  ·exact Bn (h.own r hr) hB
  ·rcases List.mem_cons.1 hr with rfl|hr
   ·exact Bn hT h1
   ·exact Bn (hc.own r hr) h1
 ·have ho:=hc.own b hb;obtain⟨y,-,rfl⟩:=List.mem_map.1 hb;exact Di hT ho (show(37:TypeId)≠40 by decide) k hk e
 ·have hk:=hm a ha k hk;have:B1<=k:=by
   rcases List.mem_cons.1 hb with rfl|hb
   ·exact(hT.lt k e).1
   ·exact((hc.own b hb).lt k e).1
  omega
end Go.Proofs.YtcjgfgkllmldpaaGreatDoor
