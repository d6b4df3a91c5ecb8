/- Contracts of registers (the program's and the reference's) and of the generator's regs. And what hangs on it. -/
import Derived.Test.YtldapdcphphodaaGreatDoorGCC
import Derived.Test.YtldapdcphphodaaGreatDoorGCD
set_option linter.unusedSimpArgs false
set_option linter.unusedVariables false
set_option maxHeartbeats 40000000
set_option maxRecDepth 1000000
namespace Go.Proofs.YtldapdcphphodaaGreatDoor
open Go.RowKit
open Md
theorem QC {W:World} {g:Nat} {t:TypeId} {fr:Nat×Nat} {cs:Array Value} (h:W.heap[g]? =some (.cells cs t fr)): ∀(l:List Int) (k:Nat),(∀j (n:Int),l[j]? =some n->cs[k+j]? =some (.int .i64 n))->(∀n∈l,dD n)->fV W W.heap.size l (some ⟨g,0,none⟩) k
 | [],_,_,_=>trivial
 |n::r,k,hc,hi=>⟨⟨g,0,rfl,(aU h),by rw[aV];exact aQ h (hc 0 n rfl)⟩,QC h r (k+1) (λj m hm=>by have:=hc (j+1) m (by simpa using hm);rw[show k+1+j=k+(j+1) by omega];exact this) (λm hm=>hi m (aX _ hm))⟩
def RgP (x:dF) (w:World) (e:Ending) (w':World):Prop:= ∃ao cap,e= .returned (.slice ao (iF x).length cap)∧fV w' w'.heap.size (iF x) ao 0∧Below w.heap.size w w'∧∀q,ao=some q->w.heap.size<=q.block
theorem kU {x:dF} {w:World} {l:List Int} {cs:Array Value} {o:Obj} {t:TypeId} {n:Nat} (hr:iF x=l) (hc:cs=(l.map (λn=>Value.int .i64 n)).toArray) (hn:n=l.length) (hi: ∀n∈l,dD n):RgP x w (.returned (.slice (some ⟨w.heap.size+1,0,none⟩) n n)) ((w.alloc o).alloc (.cells cs t)):=by
 subst hc hn;rw[<- hr]at *;refine⟨_,_,rfl,?_,(aA _ _).alloc ahg _,λq e=>by injection e with e;subst e;exact eG _⟩;have hg:=heap_alloc_new (w.alloc o) (.cells ((iF x).map (λn=>Value.int .i64 n)).toArray t);have e:(w.alloc o).heap.size=w.heap.size+1:=ahg
 rw[e]at hg;refine QC hg (iF x) 0 (λj n hn=> ?_) hi;simp[hn]
theorem Nz (x:dF) (w:World) (hi: ∀r∈iF x,dD r):Calls Tryz.prog 38 #[Jb x] w (RgP x w):=by
 have hcs:x.op=1∨x.op=6∨x.op=10∨x.op=27∨x.op=2∨x.op=3∨x.op=4∨x.op=7∨x.op=8∨x.op=26∨x.op=9∨(x.op≠1∧x.op≠6∧x.op≠10∧x.op≠27∧x.op≠2∧x.op≠3∧x.op≠4∧x.op≠7∧x.op≠8∧x.op≠26∧x.op≠9):=ahe
 unfold Jb;rcases hcs with hop|hop|hop|hop|hop|hop|hop|hop|hop|hop|hop|hop
 ·obtain⟨op,a,b,c,n,st⟩:=x;obtain rfl:op=1:=hop;go_enter Tryz.func38,Tryz.ntmps38;go_wp2
  all_goals (go_ret;exact kU (l:=[a]) rfl rfl rfl aaR)
 ·obtain⟨op,a,b,c,n,st⟩:=x;obtain rfl:op=6:=hop;go_enter Tryz.func38,Tryz.ntmps38;go_wp2
  all_goals (go_ret;exact kU (l:=[a]) rfl rfl rfl aaR)
 ·obtain⟨op,a,b,c,n,st⟩:=x;obtain rfl:op=10:=hop;go_enter Tryz.func38,Tryz.ntmps38;go_wp2
  all_goals (go_ret;exact kU (l:=[a]) rfl rfl rfl aaR)
 ·obtain⟨op,a,b,c,n,st⟩:=x;obtain rfl:op=27:=hop;go_enter Tryz.func38,Tryz.ntmps38;go_wp2
  all_goals (go_ret;exact kU (l:=[a]) rfl rfl rfl aaR)
 ·obtain⟨op,a,b,c,n,st⟩:=x;obtain rfl:op=2:=hop;go_enter Tryz.func38,Tryz.ntmps38;go_wp2
  all_goals (go_ret;exact kU (l:=[a,b]) rfl rfl rfl aaR)
 ·obtain⟨op,a,b,c,n,st⟩:=x;obtain rfl:op=3:=hop;go_enter Tryz.func38,Tryz.ntmps38;go_wp2
  all_goals (go_ret;exact kU (l:=[a,b]) rfl rfl rfl aaR)
 ·obtain⟨op,a,b,c,n,st⟩:=x;obtain rfl:op=4:=hop;go_enter Tryz.func38,Tryz.ntmps38;go_wp2
  all_goals (go_ret;exact kU (l:=[a,b,c]) rfl rfl rfl aaR)
 ·obtain⟨op,a,b,c,n,st⟩:=x;obtain rfl:op=7:=hop;go_enter Tryz.func38,Tryz.ntmps38;go_wp2
  all_goals (go_ret;exact kU (l:=[a,c]) rfl rfl rfl aaR)
 ·obtain⟨op,a,b,c,n,st⟩:=x;obtain rfl:op=8:=hop;go_enter Tryz.func38,Tryz.ntmps38;go_wp2
  all_goals (go_ret;exact kU (l:=[b]) rfl rfl rfl aaR)
 ·obtain⟨op,a,b,c,n,st⟩:=x;obtain rfl:op=26:=hop;go_enter Tryz.func38,Tryz.ntmps38;go_wp2
  all_goals (go_ret;exact kU (l:=[b]) rfl rfl rfl aaR)
 ·obtain⟨op,a,b,c,n,st⟩:=x;obtain rfl:op=9:=hop;go_enter Tryz.func38,Tryz.ntmps38;go_wp2
  all_goals (go_ret;exact kU (l:=[b,c]) rfl rfl rfl aaR)
 ·obtain⟨op,a,b,c,n,st⟩:=x;obtain⟨n1,n2,n3,n4,n5,n6,n7,n8,n9,n10,n11⟩:=hop;simp only at n1 n2 n3 n4 n5 n6 n7 n8 n9 n10 n11;have hr:iF ⟨op,a,b,c,n,st⟩=[]:=by unfold iF;simp[n1,n2,n3,n4,n5,n6,n7,n8,n9,n10,n11]
  have HR:=ah hr;have k1:(op==1)=false:=by simpa using n1
  have k2:(op==6)=false:=by simpa using n2
  have k3:(op==10)=false:=by simpa using n3
  have k4:(op==27)=false:=by simpa using n4
  have k5:(op==2)=false:=by simpa using n5
  have k6:(op==3)=false:=by simpa using n6
  have k7:(op==4)=false:=by simpa using n7
  have k8:(op==7)=false:=by simpa using n8
  have k9:(op==8)=false:=by simpa using n9
  have k10:(op==26)=false:=by simpa using n10
  have k11:(op==9)=false:=by simpa using n11
  clear n1 n2 n3 n4 n5 n6 n7 n8 n9 n10 n11 hr hi;go_enter Tryz.func38,Tryz.ntmps38;go_wp2
  all_goals (go_ret;exact⟨none,0,by rw[HR.o];rfl,by rw[HR.o];trivial,aA _ _,λq e=>ahw⟩)
def kD (l:List dF):Prop:= ∀i∈l,∀r∈iF i,-1000000000<=r∧r<=1000000000
theorem Xn {T:TypeId} {w:World} {L:GL} {W:Wo} {s:jP} {lc:List ByteArray} {al:Option Addr} {cl:Nat} {v:Value} {code:List dF} {a b:Int} (hI:gu T w L W s lc al cl v code a b) (hb:kD code):
 Calls Tryz.prog 19 #[.pointer (some ⟨L.gb,0,none⟩)] w λe w'=>e= .returned (.int .i64 (vH code lc.length))∧Below w.heap.size w w':=by
 obtain⟨bg,-,-,-,-,-,-,q6,q7,-,-,-⟩:=hI.cells;obtain⟨ao,cap,rfl,hcap,hcm,hfl⟩:=gq zD hI.row;have HF:=ah hfl;have HB:=ah hb;unfold maxLen at hcm;generalize hres:vH code lc.length=res;have HR:=ah hres;clear hI hb hfl hres;go_enter Tryz.func19,Tryz.ntmps19;go_wp2_with fail;go_loopw [3,5,7,18,23,24,25] (λn _ _ i _ _ _ wr=> ∃(k:Nat) (R:List dF) (m:Int),i= .int .i64 k∧n= .int .i64 m∧k+R.length=code.length∧res=vH R m∧kD R∧eu lq 6 wr wr.heap.size R ao k∧Below w.heap.size w wr) (λ_ _ _ i _ _ _ _=>code.length -(intOf i).toNat)
 case atStart=>exact⟨0,code,lc.length,rfl,rfl,ahg,HR.o.symm,HB.o,HF.o,ak _ _⟩
 case round=>
  obtain⟨k,R,m,rfl,rfl,hlen,heq,hrb,hrow,hbel⟩:=hrel;have HE:=ah heq;have nX:=ah hbel;clear heq hbel HF;cases R with
  |nil=>
   obtain rfl:k=code.length:=afm
   go_wp2_with fail;go_ret;exact⟨bW HE.o.symm,nX.o⟩
  |cons x R=>
   obtain⟨⟨b1,off,rfl,hb1,hcs⟩,hrest⟩:=hrow;simp only[ay]at hlen;have hkl:k<code.length:=ahe
   have x0:=hcs 0 _ rfl;have x1:=hcs 1 _ rfl;have x2:=hcs 2 _ rfl;have x3:=hcs 3 _ rfl;have x4:=hcs 4 _ rfl;have x5:=hcs 5 _ rfl;simp only[Nat.add_zero]at x0;have kr:=ah hrest;have FW:=ah (aB (hrb x aW) (show kD R from λi hi=>hrb i (aX _ hi)));clear hcs hrest hrb;go_upto_region 5 with fail;generalize hW:World.alloc wr _=w2;obtain⟨nb,hnb,HB2,-,HX,-⟩:=nI hW;rw[hnb];clear hW hnb x0 x1 x2 x3 x4 x5;obtain⟨x0,x1,x2,x3,x4,x5⟩:=nJ HX.o;go_wp2_with fail;refine(Nz x w2 (λr hr=>aeS)).mono ?_;rintro e w3 ⟨WL,Jy,rfl,hin,hb3,-⟩;have fF:=ah hin;have HB3:=ah (nX.o.trans ((HB2.o.trans (hb3.mono HB2.o.size)).mono nX.o.size));have HR3:=ah ((kr.o.same HB2.o).same hb3);have VR:aj ((iF x).length<=3):=ah adz;clear hin hb3 x0 x1 x2 x3 x4 x5;have HE2:aj (res=vH R (TY (iF x) m)):=ah HE.o;have VZ:=ah FW.o.1;generalize iF x=rs at *;go_wp2_with fail;go_loopw [3,7,25] (λn _ i wq=> ∃(j:Nat) (S:List Int) (m2:Int),i= .int .i64 j∧n= .int .i64 m2∧j+S.length=rs.length∧res=vH R (TY S m2)∧(∀r∈S,-1000000000<=r∧r<=1000000000)∧fV wq wq.heap.size S WL j∧wq=w3) (λ_ _ i _=>rs.length -(intOf i).toNat)
   case atStart=>exact⟨0,rs,m,rfl,rfl,ahg,HE2.o,VZ.o,fF.o,rfl⟩
   case round=>
    obtain⟨j,S,m2,rfl,rfl,wF,heq2,ab9,hin2,rfl⟩:=hrel;have HQ:=ah heq2;have h3:=VR.o;clear heq2;cases S with
    |nil=>
     obtain rfl:j=rs.length:=aic;have DL:aj (res=vH R m2):=HQ;go_wp2_with fail;go_roundw
     case rel=>exact⟨k+1,R,m2,ahi,rfl,ahe,DL.o,FW.o.2,HR3.o,HB3.o⟩
     case measure=>simp[intOf];omega
    |cons r S=>
     obtain⟨⟨b4,ae8,rfl,hb4,y0⟩,zX⟩:=hin2;simp only[ay]at wF;have hjl:j<rs.length:=ahe;have hr:=ab9 r aW;have hwr:IntKind.i64.wrap (r+1)=r+1:=IntWalk.i64_in _ ahe;have HR4:=ah zX;have VY:=ah (λq hq=>ab9 q (aX _ hq));clear zX ab9;go_wp2_with fail;go_roundw
     case rel=>exact⟨j+1,S,max m2 (r+1),ahi,by first|rfl|simp[hwr],ahe,HQ.o,VY.o,HR4.o,trivial⟩
     case measure=>simp[intOf];omega
theorem kD.app {a b:List dF} (ha:kD a) (hb:kD b):kD (a++b):=λi hi=>by
 rcases List.mem_append.1 hi with h|h
 ·exact ha i h
 ·exact hb i h
theorem kD.one {i:dF} (h: ∀r∈iF i,-1000000000<=r∧r<=1000000000):kD [i]:=λj hj=>by
 rw[List.mem_singleton.1 hj];exact h
theorem kD.nil:kD []:=λi hi=>by cases hi
theorem QF {lc:List ByteArray} (h:lc.length<=1000) (nm:ByteArray): -1<=fK lc nm∧fK lc nm<=1000:=by
 have:=TS lc nm;omega
theorem QY {W:Wo} {lc:List ByteArray} (hlc:lc.length<=1000) (st:Int): ∀(l:bY) (d:Int),0<=d->d+dR l<=1000000->kD (FH W lc st l d)
 | .nil,_,_,_=>kD.nil
 | .cons op n nm kids rest,d,h0,h1=>by
   rw[dR]at h1;have hk:=QY hlc (W:=W) st kids d h0 ahe;have hr:=QY hlc (W:=W) st rest (d+1) ahe ahe;have hix:=QF hlc nm;rw[FH];refine kD.app ?_ hr;split
   ·refine kD.one ?_;unfold Bb;split
    ·intro r hr;simp[iF]at hr;omega
    ·split
     ·intro r hr;simp[iF]at hr;omega
     ·intro r hr;simp[iF]at hr;omega
   ·refine kD.app hk (kD.one ?_);unfold LD;split
    ·intro r hr;simp[iF]at hr;omega
    ·split
     ·intro r hr;simp[iF]at hr;omega
     ·intro r hr;simp[iF]at hr;omega
theorem IC {W:Wo} {lc:List ByteArray} (hlc:lc.length<=1000) (st op n:Int) (nm:ByteArray) (kids:bY) (d:Int) (h0:0<=d) (h1:d+1+dR kids<=1000000):kD (jU W lc st op n nm kids d):=by
 have:=QY hlc (W:=W) st (.cons op n nm kids .nil) d h0 (by simp only[dR];omega);rw[F8,FH,List.append_nil]at this;exact this
theorem at7 {W:Wo} {lc:List ByteArray} (hlc:lc.length<=1000) (st:Int) {h:dM} (hw:fu h<=300000):kD (qx W lc st h):=by
 have hix:=QF hlc h.nm;have hw':=hw;unfold fu at hw';have hx:=IC (W:=W) hlc st h.dQ h.xn h.dP h.bG lc.length ahe ahe;have hx1:=IC (W:=W) hlc st h.dQ h.xn h.dP h.bG (lc.length+1) ahe ahe;unfold qx;split
 ·unfold CK;split
  ·refine kD.app hx (kD.one ?_);split
   ·intro r hr;simp[iF]at hr;omega
   ·intro r hr;simp[iF]at hr;omega
  ·rename_i op n nm kids r hi;have hk:dR h.idx=1+dR kids+dR r:=by rw[hi,dR]
   refine kD.app (kD.app (IC hlc st op n nm kids lc.length ahe ahe) hx1) (kD.one ?_);intro r hr;simp[iF]at hr;omega
 ·repeat' split
  all_goals first
   |exact kD.nil
   |exact kD.app hx (kD.one aeK)
   |exact kD.one (by intro r hr;simp[iF]at hr;try omega)
theorem aP0 {W:Wo} {lc:List ByteArray} (hlc:lc.length<=1000) (st:Int) {h:dM} (hw:fu h<=300000) {B E:List dF} (hB:kD B) (hE:kD E) (ne:Bool) (pos:Nat):kD (Eu W lc st h (gH W lc st h lc.length) B E ne pos):=by
 have hw':=hw;unfold fu at hw';have hx:kD (gH W lc st h lc.length):=IC (W:=W) hlc st h.dQ h.xn h.dP h.bG lc.length ahe ahe;have br: ∀x:Int,kD [⟨10,lc.length,x,0,0,st⟩]:=λx=>kD.one aeK;have jm: ∀x:Int,kD [⟨5,x,0,0,0,st⟩]:=λx=>kD.one (by intro r hr;simp[iF]at hr);unfold Eu;split
 ·split
  ·exact(hx.app (br _)).app hB
  ·exact(((hx.app (br _)).app hB).app (jm _)).app hE
 ·split
  ·exact((hx.app (br _)).app hB).app (jm _)
  ·split
   ·rename_i h48;rw[aP,decide_eq_true_eq,decide_eq_true_eq]at h48;have hb:xg h.op=11∨xg h.op=13∨xg h.op=15∨xg h.op=17∨xg h.op=19:=by
     unfold xg
     repeat' split
     all_goals simp
    refine((kD.one ?_).app hB).app (kD.one ?_)
    ·intro r hr;rcases hb with e|e|e|e|e <;> rw[e]at hr <;> simp[iF]at hr
    ·intro r hr;rcases hb with e|e|e|e|e <;> rw[e]at hr <;> simp[iF]at hr
   ·exact at7 hlc st hw
theorem Hw {W:Wo} {lc:List ByteArray} (hlc:lc.length<=1000): ∀(l:aY) (nx pos:Nat),l.Ev (Jh W)->kD (jf W lc l nx pos)
 | .nil,_,_,_=>kD.nil
 | .cons h b e r,nx,pos,hev=>by obtain⟨h1,h2,h3,h4⟩:=hev;rw[jf];exact(aP0 hlc _ h1.2 (Hw hlc b _ _ h2) (Hw hlc e _ _ h3) _ _).app (Hw hlc r _ _ h4)
theorem Ub {a:List dF} (h:kD a):kD (a++[⟨28,0,0,0,0,-1⟩]):=h.app (kD.one (by intro r hr;simp[iF]at hr))
theorem O9 {ds:List De} {ts:List Th} : ∀ {l:List Th},(Ai ds ts l).1=0->∀t∈l,t.cu.length<=4
 | [],_=>λt ht=>by cases ht
 |t::r,h=>by
  rw[Ai]at h;split at h
  ·exact absurd (show(2:Int)=0 from h) ahf
  ·rename_i h4;split at h
   ·exact absurd (show(4:Int)=0 from h) ahf
   ·intro x hx;rcases List.mem_cons.1 hx with rfl|hx
    ·simp at h4;omega
    ·exact O9 h x hx
theorem Oa {p:Pr} (h:(kW p).1=0): ∀t∈p.ts,t.cu.length<=4:=by
 unfold kW at h;split at h
 ·exact absurd (show(4:Int)=0 from h) ahf
 ·exact O9 h
namespace Md
structure rF where
 regs:Int
 is:List dF
 ao:Option Addr
 cap:Nat
def rF.t (x:rF):yY:=⟨x.regs,x.is⟩
def Ji (x:rF):List Value:=[.int .i64 x.regs,.slice x.ao x.is.length x.cap]
def rF.I (x:rF) (w:World):Prop:=eu lq 6 w w.heap.size x.is x.ao 0
def kJ (w:World) (B:Nat):List yY->Option Addr->Nat->Prop
 | [],_,_=>True
 |t::r,ao,k=>(∃b off fM eU,ao=some ⟨b,off,none⟩∧b<B∧w.cell? ⟨b,off+k*2,none⟩=some (.int .i64 t.regs)∧w.cell? ⟨b,off+k*2+1,none⟩=some (.slice fM t.is.length eU)∧t.is.length<=3000000000000∧eu lq 6 w B t.is fM 0)∧kJ w B r ao (k+1)
def yL:List Th->Nat
 | []=>0
 |t::r=>jR t.body+yL r
def Fit (p:Pr):Prop:=yL p.ts<=100000000000∧∀t∈p.ts,t.body.Ev (λh=>fu h<=300000)
theorem Ik: ∀l:List Th,xZ l<=yL l
 | []=>aH _
 |t::r=>by have:=rJ t.body;have:=Ik r;rw[xZ,yL];omega
end Md
theorem av1: ∀x:rF,(Ji x).length=2:=λ_=>rfl
theorem aQ2 (x:rF): ∀u∈Ji x,u.oneCell'=true:=by intro u hu;simp[Ji]at hu;rcases hu with rfl|rfl <;> rfl
theorem XP:(Tryz.prog.info? 73).map (λi=>(i.zero,i.size,i.bytes))=some (some (.agg #[.int .i64 0,.slice none 0 0]),2,32):=ahd
abbrev uw (B:Nat) (w:World) (v:Value) (l:List rF):Prop:=Grow Ji 2 rF.I 73 B w v l
theorem LK {w:World} {B B' m m' n n':Nat} {e e':TypeId} {v v':Value} {xs xs':List Value} (h:w.ownsRow B e m v n xs) (h':w.ownsRow B' e' m' v' n' xs') (hne:e≠e'): ∀k,v.ownBlock=some k->v'.ownBlock≠some k:=by
 intro k hk hk';rcases h.2 with⟨rfl,-⟩|⟨g,cap,cur,rfl,-,hg,-⟩
 ·cases hk
 rcases h'.2 with⟨rfl,-⟩|⟨g',cap',cur',rfl,-,hg',-⟩
 ·cases hk'
 injection hk with hk;injection hk' with hk';simp only at hk hk';subst hk;subst hk';rw[hg]at hg';injection hg' with hg';injection hg' with _ h2 _;exact hne h2
theorem Uf {w:World} {B:Nat} {g:Option Nat} {ao:Option Addr} {cap:Nat} {is:List dF} {r:Int} (h:w.ownsRow B 70 6 (.slice ao is.length cap) is.length (is.flatMap lq)) (hg: ∀k,(Value.slice ao is.length cap).ownBlock=some k->g≠some k):nP B g w (rF.I ⟨r,is,ao,cap⟩):=λw' ha=>by
 have h':w'.ownsRow B 70 6 (.slice ao is.length cap) is.length (is.flatMap lq):=by
  refine⟨h.1,?_⟩;rcases h.2 with h1|⟨q,cap',cur,h1,h2,h3,h4⟩
  ·exact .inl h1
  ·refine .inr ⟨q,cap',cur,h1,h2,?_,h4⟩;rw[ha.2 q h2 (λe=>hg q ah9 e.symm) (aU h3)];exact h3
 exact vg zD h'
theorem IE {w:World} {B:Nat} {v:Value} {l:List rF} (h:uw B w v l) (hl: ∀x∈l,x.is.length<=1000000000000): ∃ao cap,v= .slice ao l.length cap∧l.length<=cap∧kJ w w.heap.size (l.map rF.t) ao 0:=by
 obtain⟨hI,ao,cap,hv,hc,hcells⟩:=(h.cells av1).now;refine⟨ao,cap,hv,hc,?_⟩;have: ∀(r:List rF) (k:Nat),(∀i x,r[i]? =some x->l[k+i]? =some x)->kJ w w.heap.size (r.map rF.t) ao k:=by
  intro r
  induction r with
  |nil=>exact λ_ _=>trivial
  |cons x r ih=>
   intro k hk;have hx:=hk 0 x rfl;obtain⟨g,rfl,hB,hlt,hcs⟩:=hcells k x hx;have hm:x∈l:=List.mem_of_getElem? hx;refine⟨⟨g,0,x.ao,x.cap,rfl,hlt,?_,?_,aR (hl x hm) ahf,hI x hm⟩,ih (k+1) (λi y hy=>by have:=hk (i+1) y aie;rw[show k+1+i=k+(i+1) by omega];exact this)⟩
   ·have:=hcs 0 _ rfl;rw[aV];exact this
   ·have:=hcs 1 _ rfl;rw[aV];exact this
 exact this l 0 (λi x hx=>by rw[aV];exact hx)
def BbQ (r:Int) (ao:Option Addr) (n cap:Nat) (v:Value) (w':World):Prop:= ∃bb,v= .slice (some ⟨bb,0,none⟩) 1 1∧w'.heap[bb]? =some (.cells #[.int .i64 r,.slice ao n cap] 73 (0,0))
theorem gu.far {T:TypeId} {w w':World} {L:GL} {W:Wo} {s:jP} {lc:List ByteArray} {al:Option Addr} {cl:Nat} {v:Value} {code:List dF} {a b:Int} {g:Option Nat} (h:gu T w L W s lc al cl v code a b) (hg:w.grownBy w' g) (hk: ∀k,g=some k->L.B0<=k∧k≠L.gb∧v.ownBlock≠some k):gu T w' L W s lc al cl v code a b:=by
 have hb:Below L.B0 w w':=⟨hg.os,hg.tape,hg.output,hg.size,λk hlt=>hg.block k (aJ hlt h.b0) (λe=>by have:=(hk k e.symm).1;omega)⟩
 exact {blk:=(hg.block _ (aU h.blk) (λe=>(hk _ e.symm).2.1 rfl)).trans h.blk
        row:=h.row.kept hg (by
         cases hv:v.ownBlock with
         |none=>exact .inl rfl
         |some q=>exact .inr (λe=>(hk q e.symm).2.2 hv))
        sz:=aR h.sz hg.size,wo:=h.wo.below hb,few:=h.few,lc:=h.lc.below hb}
theorem J7 (p:Pr) (w:World) (aK aM:Option Addr) (aG aD:Nat) (hp:p.At w aK aM) (eD:dZ w) (hfit:Fit p) (hok:(jC p).1=0):
 Calls Tryz.prog 5 #[.agg #[.slice aK p.ds.length aG,.slice aM p.ts.length aD]] w λe w'=> ∃s ao cap,e= .returned (.tuple #[.agg #[.slice s.aC (jg p).cs.length s.cC,.slice s.aL (jg p).ls.length s.cL,.slice s.aN (jg p).ns.length s.cN,.slice s.aF (jg p).fs.length s.cF,.slice s.aT (jg p).ts.length s.cT,.slice s.aS (jg p).ss.length s.cS,.slice ao p.ts.length cap],.int .i64 0,.int .i64 0])∧
  gL w' w'.heap.size (jg p) s∧kJ w' w'.heap.size (tH (jg p) p.ts 0) ao 0∧p.ts.length<=cap∧Below w.heap.size w w':=by
 have HP:=ah hp;have jc:=ah eD;have OI:=ah hfit;have je:=ah (okP hok);have yO:=ah (uS hok);have xR:=ah hok;have DT:aj (rW p=jg p):=ah (by unfold rW;rw[hok];rfl);have hpe:jC p=(0,(jC p).2):=by rw[<- hok]
 have htl:p.ts.length<=4:=by have:=yO.o.2.2.1;omega
 have HTL:=ah htl;clear hp eD hfit hok;go_enter Tryz.func5,Tryz.ntmps5;go_upto_region 1 with fail;generalize hW:World.alloc (World.alloc w _) _=w1;obtain⟨bp,hbp,qA,HB1,-,uz,oN,lJ⟩:=WK hW;rw[hbp];clear hW hbp;obtain⟨y0,y1⟩:=nT uz.o;go_wp2_with fail;refine(Dk p w1 aK aM aG aD (HP.o.same HB1.o) (jc.o.same HB1.o)).mono ?_;rintro e w2 ⟨rfl,hb2⟩;have HB2:=ah (HB1.o.trans (hb2.mono HB1.o.size));have wH:=gV hb2 uz;have mV:=gV hb2 oN;rw[show(jC p).1=0 from xR.o];clear hb2 y0 y1 uz oN hpe;generalize (jC p).2=ln at *;obtain⟨y0,y1⟩:=nT wH.o;go_wp2_with fail;refine(KQ p w2 aK aM aG aD (HP.o.same HB2.o) (jc.o.same HB2.o) aey).mono ?_;rintro e w3 ⟨s,rfl,hwo,hb3,hnew⟩;have HNW:=ah hnew;rw[DT.o]at hwo;have Ap:=ah hwo;have HB3:=ah (HB2.o.trans (hb3.mono HB2.o.size));have zk:=gV hb3 wH;have wJ:=gV hb3 mV;rw[DT.o];have HS2:=ah ((aU mV.o));clear hwo hb3 y0 y1 wH mV hnew;generalize Lb:jg p=W at *;have Zz:=ah Lb;clear Lb;unfold oK;have y1:=aQ (j:=1) zk.o rfl;go_upto_region 6 with fail;obtain⟨bc,hbc⟩: ∃n,w3.heap.size=n:=⟨_,rfl⟩;generalize rP:World.alloc (World.alloc w3 _) _=w5;have jF:aj (Below w3.heap.size w3 w5):=ah (by rw[<- rP];exact(aA _ _).alloc ahg _);have xV:aj (w5.heap[bc]? =some (.cells #[.slice s.aC W.cs.length s.cC,.slice s.aL W.ls.length s.cL,.slice s.aN W.ns.length s.cN,.slice s.aF W.fs.length s.cF,.slice s.aT W.ts.length s.cT,.slice s.aS W.ss.length s.cS,.slice none 0 0] 37 (0,0))):=ah (by rw[<- rP,<- hbc,heap_alloc_old _ _ ahg];exact heap_alloc_new _ _);have HXg:aj (w5.heap[bc+1]? =some (.cells (Qe W s [] none 0 (.slice none 0 0) 0 0) 66 (0,0))):=ah (by have:=heap_alloc_new (w3.alloc (.cells #[.slice s.aC W.cs.length s.cC,.slice s.aL W.ls.length s.cL,.slice s.aN W.ns.length s.cN,.slice s.aF W.fs.length s.cF,.slice s.aT W.ts.length s.cT,.slice s.aS W.ss.length s.cS,.slice none 0 0] 37)) (.cells (Qe W s [] none 0 (.slice none 0 0) 0 0) 66);rw[show(w3.alloc (.cells #[.slice s.aC W.cs.length s.cC,.slice s.aL W.ls.length s.cL,.slice s.aN W.ns.length s.cN,.slice s.aF W.fs.length s.cF,.slice s.aT W.ts.length s.cT,.slice s.aS W.ss.length s.cS,.slice none 0 0] 37)).heap.size=w3.heap.size+1 by simp]at this;rw[<- rP,<- hbc];exact this);have sj:aj (w5.heap.size=bc+2):=ah (by rw[<- rP,<- hbc];simp);have vP:=ah hbc;rw[hbc];obtain⟨L,hL0,NK,hL1⟩: ∃L:GL,L.B0=bc∧bc+1=L.gb∧L.B1=bc+2:=⟨⟨bc,bc+1,bc+2,ahe,ahe⟩,rfl,rfl,rfl⟩;rw[NK];have HL:=ah (aB hL0 (aB NK hL1));have Ux:=gV jF.o zk;have vQ:aj (gu 66 w5 L W s [] none 0 (.slice none 0 0) [] 0 0):=ah
  {blk:=by rw[<- NK];exact HXg.o,row:=World.ownsRow_nil _ _ _ _,sz:=by rw[hL1,sj.o];exact aH _,wo:=by rw[hL0,<- hbc];exact Ap.o.below jF.o,few:=bF _,lc:=trivial}
 have sW:aj (gY w5 bc p.ts aM 0):=ah aah;have HLC:=ah (Oa yO.o.2.2.2.1);have HSP:aj (∀t∈p.ts,fT t.body=true):=ah (λt ht=>aac);have Wj:=ah (Ew HP.o.2.2.2);clear rP hbc hL0 NK hL1 y1 HXg Ap zk;have y1:=aQ (j:=1) Ux.o rfl;go_wp2_with fail;go_loopw [10,31] (λ_ i wr=> ∃(k:Nat) (R:List Th) (xs:List rF) (vT:Value) (nx:Nat) (code:List dF) (v:Value) (b:Int) (lc:List ByteArray) (al:Option Addr) (cl:Nat),i= .int .i64 k∧k+R.length=p.ts.length∧tH W p.ts 0=xs.map rF.t++tH W R nx∧xs.length=k∧(∀x∈xs,x.is.length<=1000000000000)∧gu 66 wr L W s lc al cl v code (nx:Nat) b∧uw L.B1 wr vT xs∧
  wr.heap[bc]? =some (.cells #[.slice s.aC W.cs.length s.cC,.slice s.aL W.ls.length s.cL,.slice s.aN W.ns.length s.cN,.slice s.aF W.fs.length s.cF,.slice s.aT W.ts.length s.cT,.slice s.aS W.ss.length s.cS,vT] 37 (0,0))∧gY wr bc R aM k∧Below bc w5 wr∧nx+yL R<=yL p.ts∧(∀t∈R,t∈p.ts)) (λ_ i _=>p.ts.length -(intOf i).toNat)
 case atStart=>exact⟨0,p.ts,[],.slice none 0 0,0,[],_,0,[],none,0,rfl,ahg,ahg,rfl,ahg,vQ.o,Grow.nil _ _ _ _ _ _,xV.o,sW.o,ak _ _,ahg,λt h=>h⟩
 case round=>
  obtain⟨k,R,xs,vT,nx,code,v,b,lc,al,cl,rfl,hlen,heq,hxl,hxs,hge,hgr,hbx,hth,hbel,hwt,hmem⟩:=hrel;have HE:=ah heq;have HG:=ah hge;have OP:=ah hgr;have HX:=ah hbx;have jv:=ah hbel;have HN:=ah (aB hxl (aB hxs (aB hwt hmem)));clear heq hge hgr hbx hbel hxl hxs hwt hmem vQ sW xV y1;cases R with
  |nil=>
   obtain rfl:k=p.ts.length:=afm
   obtain⟨uF,yc,H7,hcc,hat⟩:=IE OP.o HN.o.2.1;subst H7;have HAT:=ah hat;have HCAP:=ah hcc;have Ju:=ah ((jv.o.block (bp+1) adf).trans ((jF.o.block _ (aU wJ.o)).trans wJ.o));have hxl:xs.length=p.ts.length:=HN.o.1;have K8:aj (tH W p.ts 0=xs.map rF.t):=ah (by rw[HE.o];simp[tH]);have G5:aj (wr.heap[bc]? =some (.cells #[.slice s.aC W.cs.length s.cC,.slice s.aL W.ls.length s.cL,.slice s.aN W.ns.length s.cN,.slice s.aF W.fs.length s.cF,.slice s.aT W.ts.length s.cT,.slice s.aS W.ss.length s.cS,.slice uF p.ts.length yc] 37 (0,0))):=ah (by rw[HX.o,hxl]);obtain⟨c0,c1,c2,c3,c4,c5,c6⟩:=KJ (G5.o);obtain⟨r0,r1,r2,r3,r4,r5,r6⟩:=KJ Ju.o;obtain⟨rf0,rf1,rf2,rf3,rf4,rf5,rf6⟩:=fr7 Ju.o;have lX:=ah (aJ (aU HX.o) (aH _));have hcl:p.ts.length<=yc:=by rw[hxl]at hcc;exact hcc
   have MU:=ah hcl;clear hat hth hcc hcl;go_wp2_with fail;show bodyPost _ _ _ _ _ (World.setCells wr (bp+1) 0 [.slice s.aC W.cs.length s.cC,.slice s.aL W.ls.length s.cL,.slice s.aN W.ns.length s.cN,.slice s.aF W.fs.length s.cF,.slice s.aT W.ts.length s.cT,.slice s.aS W.ss.length s.cS,.slice uF p.ts.length yc]);generalize Em:World.setCells wr _ _ _=wz;obtain⟨zR,nR,sj⟩:=Er Em Ju.o rfl;clear Em;have HW3:aj (bp+1<bc):=ah adf;have FU:aj (Below w.heap.size w wz):=ah (((HB3.o.trans (jF.o.mono HB3.o.size)).trans (jv.o.mono aea)).trans (cZ nR.o afw aaN));have HKP:aj (∀k,w2.heap.size<=k->wz.heap[k]? =wr.heap[k]?):=ah (λk hk=>by
    have h1:=HS2.o;by_cases hlt:k<wr.heap.size
    ·exact nR.o.block k hlt ahh
    ·have e1:=sj.o;rw[Array.getElem?_eq_none ahe,Array.getElem?_eq_none ahe])
   have HGK:aj (uw L.B1 wz (.slice uF xs.length yc) xs):=ah (OP.o.next ⟨nR.o.size,λk h1 h2=>nR.o.block k h2 (by have h3:=HL.o;have h4:=HW3.o;simp;omega)⟩);have HWK:aj (gL wz wz.heap.size W s):=ah ((gL.keep HG.o.wo HNW.o HKP.o).mono (by have h1:=HG.o.b0;exact aR h1 nR.o.size));obtain⟨o0,o1,o2,o3,o4,o5,o6⟩:=KJ zR.o;obtain⟨aoQ,cpQ,XF,-,Ql⟩:=IE HGK.o HN.o.2.1;injection XF with Qy Qz QA;subst Qy;have Za:=ah Ql;clear Ql Qz QA;have Lb:=Zz.o;subst Lb;exact bodyPost_ret (v:= .tuple #[.agg #[.slice s.aC (jg p).cs.length s.cC,.slice s.aL (jg p).ls.length s.cL,.slice s.aN (jg p).ns.length s.cN,.slice s.aF (jg p).fs.length s.cF,.slice s.aT (jg p).ts.length s.cT,.slice s.aS (jg p).ss.length s.cS,.slice uF p.ts.length yc],.int .i64 0,.int .i64 0]) abD rfl ⟨s,uF,yc,rfl,HWK.o,by rw[K8.o];exact Za.o,MU.o,FU.o⟩
  |cons t R=>
   obtain⟨⟨b1,off,gK,dW,dL,cK,hao,jq,x0,x1,x2,x3,hok,htx,hst,hcl⟩,hrest⟩:=hth;have xJ:=ah hao;subst hao;simp only[ay]at hlen;have hkl:k<p.ts.length:=ahe
   have kr:=ah hrest;have qW:=ah (aB hst (aB hok.2.2.2 htx));have GZ:=HN.o.2.2.2 t aW;have FZ:aj (t.cu.length<=4∧fT t.body=true∧t.body.Ev (Jh W)):=ah ⟨HLC.o t GZ,HSP.o t GZ,abK⟩;have oZ:aj (nx+(jR t.body+yL R)<=100000000000∧nx+(jR t.body+yL R)<=yL p.ts):=ah aaP;clear hrest hok htx hst hcl GZ;go_upto_region 9 with fail;generalize yh:World.alloc wr _=w6;obtain⟨nb,hnb,oV,-,J4,-⟩:=nI yh;have iy:aj (L.B1<=nb∧nb<w6.heap.size):=ah ⟨by rw[<- hnb];exact HG.o.sz,(aU J4.o)⟩;have Sz:=ah (HG.o.below oV.o);have bh0:=ah (OP.o.next (dO oV.o));have G7:=ah ((oV.o.block bc (aU HX.o)).trans HX.o);have az9:aj (Below bc wr w6):=ah (oV.o.mono (bM (aU HX.o)));rw[hnb];clear yh hnb x0 x1 x2 x3;have x2:=aQ (j:=2) J4.o rfl;have hg0:=Sz.o.cells.1;have c6:=Sz.o.cells.2.2.2.2.2.2.2.1;have f6:=Sz.o.cells.2.2.2.2.2.2.2.2.2.2.2 6;have rC:aj (L.B0=bc∧bc+1=L.gb∧L.B1=bc+2):=HL;go_upto_region 10 with fail;generalize TB:World.setCell w6 _ _=w7;have VO:aj (gu 66 w7 L W s t.cu gK dW v code (nx:Nat) b):=ah (by rw[<- TB];exact Sz.o.br2 dW (by rw[rC.o.1];exact qW.o.2.2.below az9.o) agt);have bh2:aj (uw L.B1 w7 vT xs):=ah (by rw[<- TB];exact bh0.o.next (gW _ _ _ L.b1));have Aq:=ah ((show w7.heap[bc]? =w6.heap[bc]? by rw[<- TB];exact dB _ _ _ rfl aeA).trans G7.o);have bk7:=ah ((show w7.heap[nb]? =w6.heap[nb]? by rw[<- TB];exact dB _ _ _ rfl acD).trans J4.o);have bh8:aj (Below bc wr w7):=ah (by rw[<- TB];exact az9.o.trans (cZ (cB _ _ _) aeF (aR (bM (aU HX.o)) oV.o.size)));clear TB c6 f6 hg0 x2;have hg0:=VO.o.cells.1;obtain⟨ao7,Dp,hv7,-,-⟩:=VO.o.form;have c7:=VO.o.cells.2.2.2.2.2.2.2.2.1;rw[hv7]at c7;have f7:=VO.o.cells.2.2.2.2.2.2.2.2.2.2.2 7;go_upto_region 11 with fail;generalize Ca:World.setCell w7 _ _=w8;have HG8:aj (gu 66 w8 L W s t.cu gK dW (.slice none 0 0) [] (nx:Nat) b):=ah (by rw[<- Ca];exact VO.o.br3);have bh3:aj (uw L.B1 w8 vT xs):=ah (by rw[<- Ca];exact bh2.o.next (gW _ _ _ L.b1));have Nj:=ah ((show w8.heap[bc]? =w7.heap[bc]? by rw[<- Ca];exact dB _ _ _ rfl aeA).trans Aq.o);have bk8:=ah ((show w8.heap[nb]? =w7.heap[nb]? by rw[<- Ca];exact dB _ _ _ rfl acD).trans bk7.o);have aA0:aj (Below bc wr w8):=ah (by rw[<- Ca];exact bh8.o.trans (cZ (cB _ _ _) aeF (bM (aU Aq.o))));clear Ca c7 f7 hg0 hv7;have x3:=aQ (j:=3) bk8.o rfl;go_wp2_with fail;refine(Xl t.body w8 L W s t.cu gK dW (.slice none 0 0) [] b nx dL cK HG8.o qW.o.2.1 (by rw[rC.o.1];exact qW.o.1.below aA0.o) FZ.o.2.1 FZ.o.2.2 aew (by have:=oZ.o.1;omega)).mono ?_;rintro e w9 ⟨rfl,hem⟩;obtain⟨v9,a9,b9,iB,En,GR,NR⟩:=hem;have iB:a9=((nx+dh t.body:Nat):Int):=iB;subst iB;rw[List.nil_append,aI]at En;have Fh:=ah (nU W t.cu t.body nx 0);have VZ:=ah (Hw (W:=W) (lc:=t.cu) agt t.body nx 0 FZ.o.2.2);have Sr:aj (tH W p.ts 0=xs.map rF.t++(⟨vH (jf W t.cu t.body nx 0++[⟨28,0,0,0,0,-1⟩]) t.cu.length,jf W t.cu t.body nx 0++[⟨28,0,0,0,0,-1⟩]⟩::tH W R (nx+dh t.body))):=ah HE.o;generalize jf W t.cu t.body nx 0=GC at *;have vE:=ah En;have SA:=ah GR;have N9:=ah NR;clear En GR NR x3;have c9:=vE.o.cells.2.2.2.2.2.2.2.2.2.2.1;have f9:=vE.o.cells.2.2.2.2.2.2.2.2.2.2.2 9;have hg0:=vE.o.cells.1;go_upto_region 13 with fail;generalize Qi:World.setCell w9 _ _=wa;have nD:aj (gu 66 wa L W s t.cu gK dW v9 GC ((nx+dh t.body:Nat):Int) (-1)):=ah (by rw[<- Qi];exact vE.o.iE (-1));have N7:aj (Kg L (.slice none 0 0) w8 wa):=ah acn;clear Qi c9 f9 hg0;have hg0:=nD.o.cells.1;go_wp2_with fail;refine(gZ nD.o ⟨28,0,0,0,0,0⟩ (by have h1:=Fh.o;have h2:=oZ.o.1;omega)).mono ?_;rintro e wb ⟨rfl,ve,hge,hke,hoe⟩;have Bv:aj (gu 66 wb L W s t.cu gK dW ve (GC++[⟨28,0,0,0,0,-1⟩]) ((nx+dh t.body:Nat):Int) (-1)):=ah hge;have Cw:aj (Kg L (.slice none 0 0) w8 wb):=ah (N7.o.trans N9.o hke);clear hge hke hoe hg0;have SF:aj (kD (GC++[⟨28,0,0,0,0,-1⟩])):=ah (Ub VZ.o);have jV:aj ((GC++[(⟨28,0,0,0,0,-1⟩:dF)]).length<=1000000000000):=ah (by have h1:=Fh.o;have h2:=oZ.o.1;simp only[au,ay,aI];omega);generalize GC++[⟨28,0,0,0,0,-1⟩]=GD at *;have zQ:=ah ((Cw.o.block bc (aU Nj.o) agF afG).trans Nj.o);have Ut:=ah (bh3.o.next ⟨Cw.o.size,λq h1 h2=>Cw.o.block q h2 (by have:=L.b1;omega) afG⟩);have bh9:aj (Below bc wr wb):=ah (aA0.o.trans ⟨Cw.o.os,Cw.o.tape,Cw.o.output,Cw.o.size,λq hq=>Cw.o.block q (Nat.lt_trans hq (aU Nj.o)) agF afG⟩);obtain⟨uF,yc,H7⟩:=Ut.o.len;obtain⟨gU,uH,Qx,-,-⟩:=Bv.o.form;have BH:=ah H7;have Pe:=ah Qx;have hxc:=aQ (j:=6) zQ.o rfl;have hxe:=Bv.o.cells.2.2.2.2.2.2.2.2.1;simp only[List.getElem_toArray,List.getElem_cons_zero,List.getElem_cons_succ]at hxc;rw[H7]at hxc;rw[Qx]at hxe;have Ak:=ah (aB (aU zQ.o) (aB hxc (aB Bv.o.cells.1 hxe)));clear H7 Qx hxc hxe;go_upto_region 14 with fail;have V0:=gQ Ak.o.1 Ak.o.2.1;have V1:=gQ Ak.o.2.2.1 Ak.o.2.2.2;refine bS ahd rfl ?_;refine bK 0 10 [] [[],[0],[],[2],[],[4],[4,5],[4,5,6],[2,3,4,5,6,7],[2,3,4,5,6,7,8],[0,1,2,3,4,5,6,7,8,9],[0,1,2,3,4,5,6,7,8,9,10],[0,1,2,3,4,5,6,7,8,9,10,11]] [[],[],[],[],[],[],[],[],[],[]] (λ_ w'=>Below wb.heap.size wb w') (λw w'=>Below w.heap.size w w') [53,54,55,56,57,58,59,60,61,62] rfl rfl aip ahd ahd ahd ahd ahd aip (λ_=>ak _ _) aip (below_drewN (ak _ _) 1) ?_;simp only[eB,iP]
   iterate 3
    apply bf.step
    case aZ=>intro c A w' hok hC hO hD;have e7:=hO 7 aip;have e8:=hO 8 aip;simp[Act.eval]at e7 e8;simp[Act.eval]at hD;simp[go_sem,gd,Oper.wp,hD,e7,e8,V0,hC];exact aO.mk (ak _ _) hC (bT.mk _ _)
    try simp only[bP]
   refine bf.some (λv _=>v= .int .i64 (vH GD t.cu.length)) (λ_ _ _ _ h=>h) ?_ ?_
   ·intro c A w' hok hC hO hD;simp[Act.eval]at hD;simp[go_sem,gd,Oper.wp,hD];refine(Xn (Bv.o.below hC) SF.o).mono ?_;rintro e w5 ⟨rfl,hb⟩;exact aO.mk hb (hC.trans (hb.mono hC.size)) rfl
   try simp only[bP]
   iterate 5
    apply bf.step
    case aZ=>intro c A w' hok hC hO hD;have e8:=hO 8 aip;simp[Act.eval]at e8;simp[Act.eval]at hD;simp[go_sem,gd,Oper.wp,hD,e8,V1,hC];exact aO.mk (ak _ _) hC (bT.mk _ _)
    try simp only[bP]
   refine bf.some (λv w'=>BbQ (vH GD t.cu.length) gU GD.length uH v w') ?_ ?_ ?_
   ·rintro v wx wy hle ⟨bb,rfl,hbb⟩;exact⟨bb,rfl,(hle.block bb (aU hbb)).trans hbb⟩
   ·intro c A w' hok hC hO hD;simp[Act.eval]at hD;simp[go_sem,gd,Oper.wp,hD];exact aO.mk (d:=_) (v:= .slice (some ⟨_,0,none⟩) 1 1) (aA _ _) (hC.trans ((aA _ _).mono hC.size)) ⟨_,rfl,heap_alloc_new _ _⟩
   try simp only[bP]
   try simp only[bP]
   refine bf.done ?_;intro wz bR
   try simp only[eB]
   iterate 9 refine jk ?_
   intro v9 h9;obtain⟨bb,rfl,hbb⟩:=h9;refine kg ?_;go_simp;have iO:=ah bR;have vO:=ah hbb;clear V0 V1 bR hbb;have Kh:=ah (Ut.o.next (dO iO.o));have OG:=ah (Bv.o.below iO.o);refine dA 10 [[],[0],[],[2],[],[4],[4,5],[4,5,6],[2,3,4,5,6,7],[2,3,4,5,6,7,8],[0,1,2,3,4,5,6,7,8,9],[0,1,2,3,4,5,6,7,8,9,10],[0,1,2,3,4,5,6,7,8,9,10,11]] rfl rfl rfl rfl rfl ahd ahd ahd ?_;obtain⟨i0,hi0,hz0,hz1,hz2⟩:=infoP XP;have hk0:xs.length<=4:=by have:=HN.o.1;omega
   refine wp_append_lies wz _ _ _ aip L.B1 73 i0 _ 2 32 Tryz.underlying35 hi0 hz0 hz1 hz2 aip ahe (.slice uF xs.length yc) xs.length (xs.flatMap Ji) aip (by rw[<- BH.o];exact Kh.o.own) ⟨bb,0,none⟩ 1 1 (Ji ⟨vH GD t.cu.length,GD,gU,uH⟩) aip aip (gG vO.o) (aQ2 _) ahf afp ahe OG.o.sz _ rfl ?_;intro g' cap' wd hown hgr hmv jY;have Uo:aj (∀q,vT.ownBlock=some q->ve.ownBlock≠some q):=ah (LK Kh.o.own OG.o.row ahf);have vU:aj (uw L.B1 wd (.slice (some ⟨g',0,none⟩) (xs.length+1) cap') (xs++[⟨vH GD t.cu.length,GD,gU,uH⟩])):=ah (Kh.o.push (x:=⟨vH GD t.cu.length,GD,gU,uH⟩) (by have:=OG.o.row;rw[Pe.o]at this;exact Uf this (λq hq e=>Uo.o q e (by rw[Pe.o];exact hq))) rfl hown (by rw[BH.o];exact hgr) (by rw[BH.o];exact hmv));have HGD:aj (gu 66 wd L W s t.cu gK dW ve GD ((nx+dh t.body:Nat):Int) (-1)):=ah (OG.o.far hgr (λq hq=>by have h1:=(Kh.o.lt q (by rw[BH.o];exact hq)).1;exact⟨by have:=L.b0;have:=L.b1;omega,by have:=L.b1;omega,Uo.o q (by rw[BH.o];exact hq)⟩));have DW:aj (wd.heap[bc]? =some (.cells #[.slice s.aC W.cs.length s.cC,.slice s.aL W.ls.length s.cL,.slice s.aN W.ns.length s.cN,.slice s.aF W.fs.length s.cF,.slice s.aT W.ts.length s.cT,.slice s.aS W.ss.length s.cS,.slice uF xs.length yc] 37 (0,0))):=ah ((hgr.block bc (aJ Ak.o.1 iO.o.size) (λe=>by have h1:=(Kh.o.lt bc agn).1;have:=rC.o;omega)).trans ((iO.o.block bc Ak.o.1).trans (by rw[zQ.o,BH.o])));have Zn:aj (Below bc wr wd):=ah ((bh9.o.trans (iO.o.mono (bM Ak.o.1))).trans ⟨hgr.os,hgr.tape,hgr.output,hgr.size,λq hq=>hgr.block q (by have:=Ak.o.1;have:=iO.o.size;omega) (λe=>by have h1:=(Kh.o.lt q agn).1;have:=rC.o;omega)⟩);clear hown hgr hmv jY hi0 hz0 hz1 hz2 hk0;have cj:=aQ (j:=6) DW.o rfl;simp only[List.getElem_toArray,List.getElem_cons_zero,List.getElem_cons_succ]at cj;have fj:=bC (o:=6) DW.o;have V7:=(aU DW.o);go_simp;refine dA 11 [[],[0],[],[2],[],[4],[4,5],[4,5,6],[2,3,4,5,6,7],[2,3,4,5,6,7,8],[0,1,2,3,4,5,6,7,8,9],[0,1,2,3,4,5,6,7,8,9,10],[0,1,2,3,4,5,6,7,8,9,10,11]] rfl rfl rfl rfl rfl ahd ahd ahd ?_;simp[go_sem,Oper.wp];refine dA 12 [[],[0],[],[2],[],[4],[4,5],[4,5,6],[2,3,4,5,6,7],[2,3,4,5,6,7,8],[0,1,2,3,4,5,6,7,8,9],[0,1,2,3,4,5,6,7,8,9,10],[0,1,2,3,4,5,6,7,8,9,10,11]] rfl rfl rfl rfl rfl ahd ahd ahd ?_;simp[go_sem,Oper.wp,cj,fj];refine cO rfl ?_;go_simp;generalize hWf:World.setCell wd _ _=wf;have HGf:aj (gu 66 wf L W s t.cu gK dW ve GD ((nx+dh t.body:Nat):Int) (-1)):=ah (by rw[<- hWf];exact HGD.o.far (cB _ _ _) (λq hq=>by injection hq with hq;have hq:bc=q:=hq;subst hq;refine⟨agF,agF,λe=> ?_⟩;have:=(HGD.o.own bc e).1;have:=rC.o;omega));have HPf:aj (uw L.B1 wf (.slice (some ⟨g',0,none⟩) (xs.length+1) cap') (xs++[⟨vH GD t.cu.length,GD,gU,uH⟩])):=ah (by rw[<- hWf];exact vU.o.next (gW _ _ _ (by show bc<L.B1;have:=rC.o;omega)));have HXf:aj (wf.heap[bc]? =some (.cells #[.slice s.aC W.cs.length s.cC,.slice s.aL W.ls.length s.cL,.slice s.aN W.ns.length s.cN,.slice s.aF W.fs.length s.cF,.slice s.aT W.ts.length s.cT,.slice s.aS W.ss.length s.cS,.slice (some ⟨g',0,none⟩) (xs.length+1) cap'] 37 (0,0))):=ah (by rw[<- hWf];exact oH DW.o _ rfl);have LZ:aj (Below bc wr wf):=ah (by rw[<- hWf];exact Zn.o.trans (cZ (cB _ _ _) (aH _) (bM V7)));clear hWf cj fj V7;go_wp2_with fail;go_roundw
   case rel=>
    refine⟨k+1,R,xs++[⟨vH GD t.cu.length,GD,gU,uH⟩],_,nx+dh t.body,GD,ve,-1,t.cu,gK,dW,ahi,ahe,?_,by rw[au,HN.o.1];rfl,?_,HGf.o,HPf.o,HXf.o,kr.o.below LZ.o,jv.o.trans LZ.o,?_,λx hx=>HN.o.2.2.2 x (aX _ hx)⟩
    ·rw[Sr.o];simp[rF.t]
    ·intro x hx;rcases List.mem_append.1 hx with hx|hx
     ·exact HN.o.2.1 x hx
     ·rw[List.mem_singleton.1 hx];exact jV.o
    ·have h1:=oZ.o.2;have h2:=rJ t.body;omega
   case measure=>simp[intOf];omega
theorem Yr (x:dF) (w:World) (hi: ∀r∈iF x,dD r):Calls Tryz.prog 23 #[Jb x] w (RgP x w):=by
 have hcs:x.op=1∨x.op=6∨x.op=10∨x.op=27∨x.op=2∨x.op=3∨x.op=4∨x.op=7∨x.op=8∨x.op=26∨x.op=9∨(x.op≠1∧x.op≠6∧x.op≠10∧x.op≠27∧x.op≠2∧x.op≠3∧x.op≠4∧x.op≠7∧x.op≠8∧x.op≠26∧x.op≠9):=ahe
 unfold Jb;rcases hcs with hop|hop|hop|hop|hop|hop|hop|hop|hop|hop|hop|hop
 ·obtain⟨op,a,b,c,n,st⟩:=x;obtain rfl:op=1:=hop;go_enter Tryz.func23,Tryz.ntmps23;go_wp2
  all_goals (go_ret;exact kU (l:=[a]) rfl rfl rfl aaR)
 ·obtain⟨op,a,b,c,n,st⟩:=x;obtain rfl:op=6:=hop;go_enter Tryz.func23,Tryz.ntmps23;go_wp2
  all_goals (go_ret;exact kU (l:=[a]) rfl rfl rfl aaR)
 ·obtain⟨op,a,b,c,n,st⟩:=x;obtain rfl:op=10:=hop;go_enter Tryz.func23,Tryz.ntmps23;go_wp2
  all_goals (go_ret;exact kU (l:=[a]) rfl rfl rfl aaR)
 ·obtain⟨op,a,b,c,n,st⟩:=x;obtain rfl:op=27:=hop;go_enter Tryz.func23,Tryz.ntmps23;go_wp2
  all_goals (go_ret;exact kU (l:=[a]) rfl rfl rfl aaR)
 ·obtain⟨op,a,b,c,n,st⟩:=x;obtain rfl:op=2:=hop;go_enter Tryz.func23,Tryz.ntmps23;go_wp2
  all_goals (go_ret;exact kU (l:=[a,b]) rfl rfl rfl aaR)
 ·obtain⟨op,a,b,c,n,st⟩:=x;obtain rfl:op=3:=hop;go_enter Tryz.func23,Tryz.ntmps23;go_wp2
  all_goals (go_ret;exact kU (l:=[a,b]) rfl rfl rfl aaR)
 ·obtain⟨op,a,b,c,n,st⟩:=x;obtain rfl:op=4:=hop;go_enter Tryz.func23,Tryz.ntmps23;go_wp2
  all_goals (go_ret;exact kU (l:=[a,b,c]) rfl rfl rfl aaR)
 ·obtain⟨op,a,b,c,n,st⟩:=x;obtain rfl:op=7:=hop;go_enter Tryz.func23,Tryz.ntmps23;go_wp2
  all_goals (go_ret;exact kU (l:=[a,c]) rfl rfl rfl aaR)
 ·obtain⟨op,a,b,c,n,st⟩:=x;obtain rfl:op=8:=hop;go_enter Tryz.func23,Tryz.ntmps23;go_wp2
  all_goals (go_ret;exact kU (l:=[b]) rfl rfl rfl aaR)
 ·obtain⟨op,a,b,c,n,st⟩:=x;obtain rfl:op=26:=hop;go_enter Tryz.func23,Tryz.ntmps23;go_wp2
  all_goals (go_ret;exact kU (l:=[b]) rfl rfl rfl aaR)
 ·obtain⟨op,a,b,c,n,st⟩:=x;obtain rfl:op=9:=hop;go_enter Tryz.func23,Tryz.ntmps23;go_wp2
  all_goals (go_ret;exact kU (l:=[b,c]) rfl rfl rfl aaR)
 ·obtain⟨op,a,b,c,n,st⟩:=x;obtain⟨n1,n2,n3,n4,n5,n6,n7,n8,n9,n10,n11⟩:=hop;simp only at n1 n2 n3 n4 n5 n6 n7 n8 n9 n10 n11;have hr:iF ⟨op,a,b,c,n,st⟩=[]:=by unfold iF;simp[n1,n2,n3,n4,n5,n6,n7,n8,n9,n10,n11]
  have HR:=ah hr;have k1:(op==1)=false:=by simpa using n1
  have k2:(op==6)=false:=by simpa using n2
  have k3:(op==10)=false:=by simpa using n3
  have k4:(op==27)=false:=by simpa using n4
  have k5:(op==2)=false:=by simpa using n5
  have k6:(op==3)=false:=by simpa using n6
  have k7:(op==4)=false:=by simpa using n7
  have k8:(op==7)=false:=by simpa using n8
  have k9:(op==8)=false:=by simpa using n9
  have k10:(op==26)=false:=by simpa using n10
  have k11:(op==9)=false:=by simpa using n11
  clear n1 n2 n3 n4 n5 n6 n7 n8 n9 n10 n11 hr hi;go_enter Tryz.func23,Tryz.ntmps23;go_wp2
  all_goals (go_ret;exact⟨none,0,by rw[HR.o];rfl,by rw[HR.o];trivial,aA _ _,λq e=>ahw⟩)
end Go.Proofs.YtldapdcphphodaaGreatDoor
