/- Contracts of registers (the program's and the reference's) and of the generator's regs. And what hangs on it. -/
import Derived.Test.YtdoplekppjkkpaaGreatDoorGCC
import Derived.Test.YtdoplekppjkkpaaGreatDoorGCD
set_option linter.unusedSimpArgs false
set_option linter.unusedVariables false
set_option maxHeartbeats 40000000
set_option maxRecDepth 1000000
namespace Go.Proofs.YtdoplekppjkkpaaGreatDoor
open Go.RowKit
open Md
theorem R7 {W:World} {g:Nat} {t:TypeId} {fr:Nat×Nat} {cs:Array Value} (h:W.heap[g]? =some (.cells cs t fr)): ∀(l:List Int) (k:Nat),(∀j (n:Int),l[j]? =some n->cs[k+j]? =some (.int .i64 n))->(∀n∈l,bY n)->iq W W.heap.size l (some ⟨g,0,none⟩) k
 | [],_,_,_=>trivial
 |n::r,k,hc,hi=>⟨⟨g,0,rfl,(aO h),by rw[aU];exact aQ h (hc 0 n rfl)⟩,R7 h r (k+1) (λj m hm=>by have:=hc (j+1) m (by simpa using hm);rw[show k+1+j=k+(j+1) by omega];exact this) (λm hm=>hi m (aY _ hm))⟩
def RgP (x:dS) (w:World) (e:Ending) (w':World):Prop:= ∃ao cap,e= .returned (.slice ao (kR x).length cap)∧iq w' w'.heap.size (kR x) ao 0∧Below w.heap.size w w'∧∀q,ao=some q->w.heap.size<=q.block
theorem vZ {x:dS} {w:World} {l:List Int} {cs:Array Value} {o:Obj} {t:TypeId} {n:Nat} (hr:kR x=l) (hc:cs=(l.map (λn=>Value.int .i64 n)).toArray) (hn:n=l.length) (hi: ∀n∈l,bY n):RgP x w (.returned (.slice (some ⟨w.heap.size+1,0,none⟩) n n)) ((w.alloc o).alloc (.cells cs t)):=by
 subst hc hn;rw[<- hr]at *;refine⟨_,_,rfl,?_,(ak _ _).alloc agJ _,λq e=>by injection e with e;subst e;exact jl _⟩;have hg:=heap_alloc_new (w.alloc o) (.cells ((kR x).map (λn=>Value.int .i64 n)).toArray t);have e:(w.alloc o).heap.size=w.heap.size+1:=agJ
 rw[e]at hg;refine R7 hg (kR x) 0 (λj n hn=> ?_) hi;simp[hn]
theorem Oc (x:dS) (w:World) (hi: ∀r∈kR x,bY r):Calls Tryz.prog 66 #[Ue x] w (RgP x w):=by
 have hcs:x.op=1∨x.op=6∨x.op=10∨x.op=27∨x.op=2∨x.op=3∨x.op=4∨x.op=7∨x.op=8∨x.op=26∨x.op=9∨(x.op≠1∧x.op≠6∧x.op≠10∧x.op≠27∧x.op≠2∧x.op≠3∧x.op≠4∧x.op≠7∧x.op≠8∧x.op≠26∧x.op≠9):=agH
 unfold Ue;rcases hcs with hop|hop|hop|hop|hop|hop|hop|hop|hop|hop|hop|hop
 ·obtain⟨op,a,b,c,n,st⟩:=x;obtain rfl:op=1:=hop;go_enter Tryz.func66,Tryz.ntmps66;go_wp2
  all_goals (go_ret;exact vZ (l:=[a]) rfl rfl rfl aaI)
 ·obtain⟨op,a,b,c,n,st⟩:=x;obtain rfl:op=6:=hop;go_enter Tryz.func66,Tryz.ntmps66;go_wp2
  all_goals (go_ret;exact vZ (l:=[a]) rfl rfl rfl aaI)
 ·obtain⟨op,a,b,c,n,st⟩:=x;obtain rfl:op=10:=hop;go_enter Tryz.func66,Tryz.ntmps66;go_wp2
  all_goals (go_ret;exact vZ (l:=[a]) rfl rfl rfl aaI)
 ·obtain⟨op,a,b,c,n,st⟩:=x;obtain rfl:op=27:=hop;go_enter Tryz.func66,Tryz.ntmps66;go_wp2
  all_goals (go_ret;exact vZ (l:=[a]) rfl rfl rfl aaI)
 ·obtain⟨op,a,b,c,n,st⟩:=x;obtain rfl:op=2:=hop;go_enter Tryz.func66,Tryz.ntmps66;go_wp2
  all_goals (go_ret;exact vZ (l:=[a,b]) rfl rfl rfl aaI)
 ·obtain⟨op,a,b,c,n,st⟩:=x;obtain rfl:op=3:=hop;go_enter Tryz.func66,Tryz.ntmps66;go_wp2
  all_goals (go_ret;exact vZ (l:=[a,b]) rfl rfl rfl aaI)
 ·obtain⟨op,a,b,c,n,st⟩:=x;obtain rfl:op=4:=hop;go_enter Tryz.func66,Tryz.ntmps66;go_wp2
  all_goals (go_ret;exact vZ (l:=[a,b,c]) rfl rfl rfl aaI)
 ·obtain⟨op,a,b,c,n,st⟩:=x;obtain rfl:op=7:=hop;go_enter Tryz.func66,Tryz.ntmps66;go_wp2
  all_goals (go_ret;exact vZ (l:=[a,c]) rfl rfl rfl aaI)
 ·obtain⟨op,a,b,c,n,st⟩:=x;obtain rfl:op=8:=hop;go_enter Tryz.func66,Tryz.ntmps66;go_wp2
  all_goals (go_ret;exact vZ (l:=[b]) rfl rfl rfl aaI)
 ·obtain⟨op,a,b,c,n,st⟩:=x;obtain rfl:op=26:=hop;go_enter Tryz.func66,Tryz.ntmps66;go_wp2
  all_goals (go_ret;exact vZ (l:=[b]) rfl rfl rfl aaI)
 ·obtain⟨op,a,b,c,n,st⟩:=x;obtain rfl:op=9:=hop;go_enter Tryz.func66,Tryz.ntmps66;go_wp2
  all_goals (go_ret;exact vZ (l:=[b,c]) rfl rfl rfl aaI)
 ·obtain⟨op,a,b,c,n,st⟩:=x;obtain⟨n1,n2,n3,n4,n5,n6,n7,n8,n9,n10,n11⟩:=hop;simp only at n1 n2 n3 n4 n5 n6 n7 n8 n9 n10 n11;have hr:kR ⟨op,a,b,c,n,st⟩=[]:=by unfold kR;simp[n1,n2,n3,n4,n5,n6,n7,n8,n9,n10,n11]
  have HR:=ah hr;have k1:(op==1)=false:=by simpa using n1
  have k2:(op==6)=false:=by simpa using n2
  have k3:(op==10)=false:=by simpa using n3
  have k4:(op==27)=false:=by simpa using n4
  have k5:(op==2)=false:=by simpa using n5
  have k6:(op==3)=false:=by simpa using n6
  have k7:(op==4)=false:=by simpa using n7
  have k8:(op==7)=false:=by simpa using n8
  have k9:(op==8)=false:=by simpa using n9
  have k10:(op==26)=false:=by simpa using n10
  have k11:(op==9)=false:=by simpa using n11
  clear n1 n2 n3 n4 n5 n6 n7 n8 n9 n10 n11 hr hi;go_enter Tryz.func66,Tryz.ntmps66;go_wp2
  all_goals (go_ret;exact⟨none,0,by rw[HR.o];rfl,by rw[HR.o];trivial,ak _ _,λq e=>agY⟩)
def lT (l:List dS):Prop:= ∀i∈l,∀r∈kR i,-1000000000<=r∧r<=1000000000
theorem XI {T:TypeId} {w:World} {L:GL} {W:Wo} {s:jS} {lc:List ByteArray} {al:Option Addr} {cl:Nat} {v:Value} {code:List dS} {a b:Int} (hI:iN T w L W s lc al cl v code a b) (hb:lT code):
 Calls Tryz.prog 42 #[.pointer (some ⟨L.gb,0,none⟩)] w λe w'=>e= .returned (.int .i64 (BJ code lc.length))∧Below w.heap.size w w':=by
 obtain⟨dx,-,-,-,-,-,-,q6,q7,-,-,-⟩:=hI.cells;obtain⟨ao,cap,rfl,hcap,hcm,hfl⟩:=eY Cb hI.row;have HF:=ah hfl;have HB:=ah hb;unfold maxLen at hcm;generalize hres:BJ code lc.length=res;have HR:=ah hres;clear hI hb hfl hres;go_enter Tryz.func42,Tryz.ntmps42;go_wp2_with fail;go_loopw [3,5,7,18,23,24,25] (λn _ _ i _ _ _ wr=> ∃(k:Nat) (R:List dS) (m:Int),i= .int .i64 k∧n= .int .i64 m∧k+R.length=code.length∧res=BJ R m∧lT R∧gG pz 6 wr wr.heap.size R ao k∧Below w.heap.size w wr) (λ_ _ _ i _ _ _ _=>code.length -(intOf i).toNat)
 case atStart=>exact⟨0,code,lc.length,rfl,rfl,agJ,HR.o.symm,HB.o,HF.o,au _ _⟩
 case round=>
  obtain⟨k,R,m,rfl,rfl,hlen,heq,hrb,hrow,hbel⟩:=hrel;have HE:=ah heq;have nW:=ah hbel;clear heq hbel HF;cases R with
  |nil=>
   obtain rfl:k=code.length:=aeQ
   go_wp2_with fail;go_ret;exact⟨bV HE.o.symm,nW.o⟩
  |cons x R=>
   obtain⟨⟨b1,off,rfl,hb1,hcs⟩,hrest⟩:=hrow;simp only[aD]at hlen;have hkl:k<code.length:=agH
   have x0:=hcs 0 _ rfl;have x1:=hcs 1 _ rfl;have x2:=hcs 2 _ rfl;have x3:=hcs 3 _ rfl;have x4:=hcs 4 _ rfl;have x5:=hcs 5 _ rfl;simp only[Nat.add_zero]at x0;have kL:=ah hrest;have TA:=ah (aI (hrb x aX) (show lT R from λi hi=>hrb i (aY _ hi)));clear hcs hrest hrb;go_upto_region 5 with fail;generalize hW:World.alloc wr _=w2;obtain⟨nb,hnb,HB2,-,HX,-⟩:=qD hW;rw[hnb];clear hW hnb x0 x1 x2 x3 x4 x5;obtain⟨x0,x1,x2,x3,x4,x5⟩:=uj HX.o;go_wp2_with fail;refine(Oc x w2 (λr hr=>by have:=TA.o.1 r hr;unfold bY;omega)).mono ?_;rintro e w3 ⟨ao3,MP,rfl,hin,hb3,-⟩;have iA:=ah hin;have HB3:=ah (nW.o.trans ((HB2.o.trans (hb3.mono HB2.o.size)).mono nW.o.size));have HR3:=ah ((kL.o.same HB2.o).same hb3);have HL3:aj ((kR x).length<=3):=ah adP;clear hin hb3 x0 x1 x2 x3 x4 x5;have HE2:aj (res=BJ R (mxR (kR x) m)):=ah HE.o;have PS:=ah TA.o.1;generalize kR x=rs at *;go_wp2_with fail;go_loopw [3,7,25] (λn _ i wq=> ∃(j:Nat) (S:List Int) (m2:Int),i= .int .i64 j∧n= .int .i64 m2∧j+S.length=rs.length∧res=BJ R (mxR S m2)∧(∀r∈S,-1000000000<=r∧r<=1000000000)∧iq wq wq.heap.size S ao3 j∧wq=w3) (λ_ _ i _=>rs.length -(intOf i).toNat)
   case atStart=>exact⟨0,rs,m,rfl,rfl,agJ,HE2.o,PS.o,iA.o,rfl⟩
   case round=>
    obtain⟨j,S,m2,rfl,rfl,BP,heq2,ac5,hin2,rfl⟩:=hrel;have HQ:=ah heq2;have h3:=HL3.o;clear heq2;cases S with
    |nil=>
     obtain rfl:j=rs.length:=(by simpa using BP);have Ct:aj (res=BJ R m2):=HQ;go_wp2_with fail;go_roundw
     case rel=>exact⟨k+1,R,m2,agL,rfl,agH,Ct.o,TA.o.2,HR3.o,HB3.o⟩
     case measure=>simp[intOf];omega
    |cons r S=>
     obtain⟨⟨b4,bz6,rfl,hb4,y0⟩,Iq⟩:=hin2;simp only[aD]at BP;have hjl:j<rs.length:=agH;have hr:=ac5 r aX;have hwr:IntKind.i64.wrap (r+1)=r+1:=IntWalk.i64_in _ agH;have HR4:=ah Iq;have HRB:=ah (λq hq=>ac5 q (aY _ hq));clear Iq ac5;go_wp2_with fail;go_roundw
     case rel=>exact⟨j+1,S,max m2 (r+1),agL,by first|rfl|simp[hwr],agH,HQ.o,HRB.o,HR4.o,trivial⟩
     case measure=>simp[intOf];omega
theorem lT.app {a b:List dS} (ha:lT a) (hb:lT b):lT (a++b):=λi hi=>by
 rcases List.mem_append.1 hi with h|h
 ·exact ha i h
 ·exact hb i h
theorem lT.one {i:dS} (h: ∀r∈kR i,-1000000000<=r∧r<=1000000000):lT [i]:=λj hj=>by
 rw[List.mem_singleton.1 hj];exact h
theorem lT.nil:lT []:=λi hi=>by cases hi
theorem Rb {lc:List ByteArray} (h:lc.length<=1000) (nm:ByteArray): -1<=iK lc nm∧iK lc nm<=1000:=by
 have:=Um lc nm;omega
theorem Rv {W:Wo} {lc:List ByteArray} (hlc:lc.length<=1000) (st:Int): ∀(l:bT) (d:Int),0<=d->d+jc l<=1000000->lT (Gn W lc st l d)
 | .nil,_,_,_=>lT.nil
 | .cons op n nm kids rest,d,h0,h1=>by
   rw[jc]at h1;have hk:=Rv hlc (W:=W) st kids d h0 agH;have hr:=Rv hlc (W:=W) st rest (d+1) agH agH;have hix:=Rb hlc nm;rw[Gn];refine lT.app ?_ hr;split
   ·refine lT.one ?_;unfold Jd;split
    ·intro r hr;simp[kR]at hr;omega
    ·split
     ·intro r hr;simp[kR]at hr;omega
     ·intro r hr;simp[kR]at hr;omega
   ·refine lT.app hk (lT.one ?_);unfold Rq;split
    ·intro r hr;simp[kR]at hr;omega
    ·split
     ·intro r hr;simp[kR]at hr;omega
     ·intro r hr;simp[kR]at hr;omega
theorem Ji {W:Wo} {lc:List ByteArray} (hlc:lc.length<=1000) (st op n:Int) (nm:ByteArray) (kids:bT) (d:Int) (h0:0<=d) (h1:d+1+jc kids<=1000000):lT (oO W lc st op n nm kids d):=by
 have:=Rv hlc (W:=W) st (.cons op n nm kids .nil) d h0 (by simp only[jc];omega);rw[FU,Gn,List.append_nil]at this;exact this
theorem ax8 {W:Wo} {lc:List ByteArray} (hlc:lc.length<=1000) (st:Int) {h:dF} (hw:jB h<=300000):lT (zG W lc st h):=by
 have hix:=Rb hlc h.nm;have hw':=hw;unfold jB at hw';have hx:=Ji (W:=W) hlc st h.dP h.xn h.dO h.bJ lc.length agH agH;have hx1:=Ji (W:=W) hlc st h.dP h.xn h.dO h.bJ (lc.length+1) agH agH;unfold zG;split
 ·unfold Hl;split
  ·refine lT.app hx (lT.one ?_);split
   ·intro r hr;simp[kR]at hr;omega
   ·intro r hr;simp[kR]at hr;omega
  ·rename_i op n nm kids r hi;have hk:jc h.idx=1+jc kids+jc r:=by rw[hi,jc]
   refine lT.app (lT.app (Ji hlc st op n nm kids lc.length agH agH) hx1) (lT.one ?_);intro r hr;simp[kR]at hr;omega
 ·repeat' split
  all_goals first
   |exact lT.nil
   |exact lT.app hx (lT.one aei)
   |exact lT.one (by intro r hr;simp[kR]at hr;try omega)
theorem aU6 {W:Wo} {lc:List ByteArray} (hlc:lc.length<=1000) (st:Int) {h:dF} (hw:jB h<=300000) {B E:List dS} (hB:lT B) (hE:lT E) (ne:Bool) (pos:Nat):lT (F7 W lc st h (jr W lc st h lc.length) B E ne pos):=by
 have hw':=hw;unfold jB at hw';have hx:lT (jr W lc st h lc.length):=Ji (W:=W) hlc st h.dP h.xn h.dO h.bJ lc.length agH agH;have br: ∀x:Int,lT [⟨10,lc.length,x,0,0,st⟩]:=λx=>lT.one aei;have jm: ∀x:Int,lT [⟨5,x,0,0,0,st⟩]:=λx=>lT.one (by intro r hr;simp[kR]at hr);unfold F7;split
 ·split
  ·exact(hx.app (br _)).app hB
  ·exact(((hx.app (br _)).app hB).app (jm _)).app hE
 ·split
  ·exact((hx.app (br _)).app hB).app (jm _)
  ·split
   ·rename_i h48;rw[aP,decide_eq_true_eq,decide_eq_true_eq]at h48;have hb:CO h.op=11∨CO h.op=13∨CO h.op=15∨CO h.op=17∨CO h.op=19:=by
     unfold CO
     repeat' split
     all_goals simp
    refine((lT.one ?_).app hB).app (lT.one ?_)
    ·intro r hr;rcases hb with e|e|e|e|e <;> rw[e]at hr <;> simp[kR]at hr
    ·intro r hr;rcases hb with e|e|e|e|e <;> rw[e]at hr <;> simp[kR]at hr
   ·exact ax8 hlc st hw
theorem Mg {W:Wo} {lc:List ByteArray} (hlc:lc.length<=1000): ∀(l:aZ) (nx pos:Nat),l.Ev (Rn W)->lT (kV W lc l nx pos)
 | .nil,_,_,_=>lT.nil
 | .cons h b e r,nx,pos,hev=>by obtain⟨h1,h2,h3,h4⟩:=hev;rw[kV];exact(aU6 hlc _ h1.2 (Mg hlc b _ _ h2) (Mg hlc e _ _ h3) _ _).app (Mg hlc r _ _ h4)
theorem ax7 {a:List dS} (h:lT a):lT (a++[⟨28,0,0,0,0,-1⟩]):=h.app (lT.one (by intro r hr;simp[kR]at hr))
theorem OD {ds:List De} {ts:List Th} : ∀ {l:List Th},(Bj ds ts l).1=0->∀t∈l,t.cZ.length<=4
 | [],_=>λt ht=>by cases ht
 |t::r,h=>by
  rw[Bj]at h;split at h
  ·exact absurd (show(2:Int)=0 from h) agI
  ·rename_i h4;split at h
   ·exact absurd (show(4:Int)=0 from h) agI
   ·intro x hx;rcases List.mem_cons.1 hx with rfl|hx
    ·simp at h4;omega
    ·exact OD h x hx
theorem YV {p:Pr} (h:(lM p).1=0): ∀t∈p.ts,t.cZ.length<=4:=by
 unfold lM at h;split at h
 ·exact absurd (show(4:Int)=0 from h) agI
 ·exact OD h
namespace Md
structure zk where
 regs:Int
 is:List dS
 ao:Option Addr
 cap:Nat
def zk.t (x:zk):Gb:=⟨x.regs,x.is⟩
def UE (x:zk):List Value:=[.int .i64 x.regs,.slice x.ao x.is.length x.cap]
def zk.I (x:zk) (w:World):Prop:=gG pz 6 w w.heap.size x.is x.ao 0
def zi (w:World) (B:Nat):List Gb->Option Addr->Nat->Prop
 | [],_,_=>True
 |t::r,ao,k=>(∃b off gU gy,ao=some ⟨b,off,none⟩∧b<B∧w.cell? ⟨b,off+k*2,none⟩=some (.int .i64 t.regs)∧w.cell? ⟨b,off+k*2+1,none⟩=some (.slice gU t.is.length gy)∧t.is.length<=3000000000000∧gG pz 6 w B t.is gU 0)∧zi w B r ao (k+1)
def Ea:List Th->Nat
 | []=>0
 |t::r=>pF t.body+Ea r
def Fit (p:Pr):Prop:=Ea p.ts<=100000000000∧∀t∈p.ts,t.body.Ev (λh=>jB h<=300000)
theorem MQ: ∀l:List Th,zm l<=Ea l
 | []=>aB _
 |t::r=>by have:=zn t.body;have:=MQ r;rw[zm,Ea];omega
end Md
theorem az1: ∀x:zk,(UE x).length=2:=λ_=>rfl
theorem bA8 (x:zk): ∀u∈UE x,u.oneCell'=true:=by intro u hu;simp[UE]at hu;rcases hu with rfl|rfl <;> rfl
theorem aR2:(Tryz.prog.info? 93).map (λi=>(i.zero,i.size,i.bytes))=some (some (.agg #[.int .i64 0,.slice none 0 0]),2,32):=agG
abbrev Ch (B:Nat) (w:World) (v:Value) (l:List zk):Prop:=Grow UE 2 zk.I 93 B w v l
theorem Wi {w:World} {B B' m m' n n':Nat} {e e':TypeId} {v v':Value} {xs xs':List Value} (h:w.ownsRow B e m v n xs) (h':w.ownsRow B' e' m' v' n' xs') (hne:e≠e'): ∀k,v.ownBlock=some k->v'.ownBlock≠some k:=by
 intro k hk hk';rcases h.2 with⟨rfl,-⟩|⟨g,cap,cur,rfl,-,hg,-⟩
 ·cases hk
 rcases h'.2 with⟨rfl,-⟩|⟨g',cap',cur',rfl,-,hg',-⟩
 ·cases hk'
 injection hk with hk;injection hk' with hk';simp only at hk hk';subst hk;subst hk';rw[hg]at hg';injection hg' with hg';injection hg' with _ h2 _;exact hne h2
theorem az2 {w:World} {B:Nat} {g:Option Nat} {ao:Option Addr} {cap:Nat} {is:List dS} {r:Int} (h:w.ownsRow B 112 6 (.slice ao is.length cap) is.length (is.flatMap pz)) (hg: ∀k,(Value.slice ao is.length cap).ownBlock=some k->g≠some k):oK B g w (zk.I ⟨r,is,ao,cap⟩):=λw' ha=>by
 have h':w'.ownsRow B 112 6 (.slice ao is.length cap) is.length (is.flatMap pz):=by
  refine⟨h.1,?_⟩;rcases h.2 with h1|⟨q,cap',cur,h1,h2,h3,h4⟩
  ·exact .inl h1
  ·refine .inr ⟨q,cap',cur,h1,h2,?_,h4⟩;rw[ha.2 q h2 (λe=>hg q ahs e.symm) (aO h3)];exact h3
 exact yD Cb h'
theorem UD {w:World} {B:Nat} {v:Value} {l:List zk} (h:Ch B w v l) (hl: ∀x∈l,x.is.length<=1000000000000): ∃ao cap,v= .slice ao l.length cap∧l.length<=cap∧zi w w.heap.size (l.map zk.t) ao 0:=by
 obtain⟨hI,ao,cap,hv,hc,hcells⟩:=(h.cells az1).now;refine⟨ao,cap,hv,hc,?_⟩;have: ∀(r:List zk) (k:Nat),(∀i x,r[i]? =some x->l[k+i]? =some x)->zi w w.heap.size (r.map zk.t) ao k:=by
  intro r
  induction r with
  |nil=>exact λ_ _=>trivial
  |cons x r ih=>
   intro k hk;have hx:=hk 0 x rfl;obtain⟨g,rfl,hB,hlt,hcs⟩:=hcells k x hx;have hm:x∈l:=List.mem_of_getElem? hx;refine⟨⟨g,0,x.ao,x.cap,rfl,hlt,?_,?_,aJ (hl x hm) agI,hI x hm⟩,ih (k+1) (λi y hy=>by have:=hk (i+1) y ahM;rw[show k+1+i=k+(i+1) by omega];exact this)⟩
   ·have:=hcs 0 _ rfl;rw[aU];exact this
   ·have:=hcs 1 _ rfl;rw[aU];exact this
 exact this l 0 (λi x hx=>by rw[aU];exact hx)
def BbQ (r:Int) (ao:Option Addr) (n cap:Nat) (v:Value) (w':World):Prop:= ∃bb,v= .slice (some ⟨bb,0,none⟩) 1 1∧w'.heap[bb]? =some (.cells #[.int .i64 r,.slice ao n cap] 93 (0,0))
theorem iN.far {T:TypeId} {w w':World} {L:GL} {W:Wo} {s:jS} {lc:List ByteArray} {al:Option Addr} {cl:Nat} {v:Value} {code:List dS} {a b:Int} {g:Option Nat} (h:iN T w L W s lc al cl v code a b) (hg:w.grownBy w' g) (hk: ∀k,g=some k->L.B0<=k∧k≠L.gb∧v.ownBlock≠some k):iN T w' L W s lc al cl v code a b:=by
 have hb:Below L.B0 w w':=⟨hg.os,hg.tape,hg.output,hg.size,λk hlt=>hg.block k (aR hlt h.b0) (λe=>by have:=(hk k e.symm).1;omega)⟩
 exact {blk:=(hg.block _ (aO h.blk) (λe=>(hk _ e.symm).2.1 rfl)).trans h.blk
        row:=h.row.kept hg (by
         cases hv:v.ownBlock with
         |none=>exact .inl rfl
         |some q=>exact .inr (λe=>(hk q e.symm).2.2 hv))
        sz:=aJ h.sz hg.size,wo:=h.wo.below hb,few:=h.few,lc:=h.lc.below hb}
theorem Sw (p:Pr) (w:World) (aK aM:Option Addr) (aH aG:Nat) (hp:p.At w aK aM) (eG:dW w) (hfit:Fit p) (hok:(ko p).1=0):
 Calls Tryz.prog 24 #[.agg #[.slice aK p.ds.length aH,.slice aM p.ts.length aG]] w λe w'=> ∃s ao cap,e= .returned (.tuple #[.agg #[.slice s.aC (ng p).cs.length s.cC,.slice s.aL (ng p).ls.length s.cL,.slice s.aN (ng p).ns.length s.cN,.slice s.aF (ng p).fs.length s.cF,.slice s.aT (ng p).ts.length s.cT,.slice s.aS (ng p).ss.length s.cS,.slice ao p.ts.length cap],.int .i64 0,.int .i64 0])∧
  iP w' w'.heap.size (ng p) s∧zi w' w'.heap.size (EU (ng p) p.ts 0) ao 0∧p.ts.length<=cap∧Below w.heap.size w w':=by
 have HP:=ah hp;have jX:=ah eG;have HFT:=ah hfit;have kK:=ah (okP hok);have HPZ:=ah (yK hok);have WO:=ah hok;have JB:aj (wD p=ng p):=ah (by unfold wD;rw[hok];rfl);have hpe:ko p=(0,(ko p).2):=by rw[<- hok]
 have htl:p.ts.length<=4:=by have:=HPZ.o.2.2.1;omega
 have HTL:=ah htl;clear hp eG hfit hok;go_enter Tryz.func24,Tryz.ntmps24;go_upto_region 1 with fail;generalize hW:World.alloc (World.alloc w _) _=w1;obtain⟨bp,hbp,Aw,HB1,-,EH,oI,mU⟩:=al3 hW;rw[hbp];clear hW hbp;obtain⟨y0,y1⟩:=rU EH.o;go_wp2_with fail;refine(JD p w1 aK aM aH aG (HP.o.same HB1.o) (jX.o.same HB1.o)).mono ?_;rintro e w2 ⟨rfl,hb2⟩;have HB2:=ah (HB1.o.trans (hb2.mono HB1.o.size));have CB:=jV hb2 EH;have xS:=jV hb2 oI;rw[show(ko p).1=0 from WO.o];clear hb2 y0 y1 EH oI hpe;generalize (ko p).2=ln at *;obtain⟨y0,y1⟩:=rU CB.o;go_wp2_with fail;refine(Vk p w2 aK aM aH aG (HP.o.same HB2.o) (jX.o.same HB2.o) (by have:=HFT.o.1;have:=MQ p.ts;omega)).mono ?_;rintro e w3 ⟨s,rfl,hwo,hb3,hnew⟩;have HNW:=ah hnew;rw[JB.o]at hwo;have JA:=ah hwo;have HB3:=ah (HB2.o.trans (hb3.mono HB2.o.size));have Fj:=jV hb3 CB;have Fp:=jV hb3 xS;rw[JB.o];have HS2:=ah ((aO xS.o));clear hwo hb3 y0 y1 CB xS hnew;generalize hWP:ng p=W at *;have bs3:=ah hWP;clear hWP;unfold nD;have y1:=aQ (j:=1) Fj.o rfl;go_upto_region 6 with fail;obtain⟨bc,hbc⟩: ∃n,w3.heap.size=n:=⟨_,rfl⟩;generalize xI:World.alloc (World.alloc w3 _) _=w5;have kg:aj (Below w3.heap.size w3 w5):=ah (by rw[<- xI];exact(ak _ _).alloc agJ _);have zX:aj (w5.heap[bc]? =some (.cells #[.slice s.aC W.cs.length s.cC,.slice s.aL W.ls.length s.cL,.slice s.aN W.ns.length s.cN,.slice s.aF W.fs.length s.cF,.slice s.aT W.ts.length s.cT,.slice s.aS W.ss.length s.cS,.slice none 0 0] 87 (0,0))):=ah (by rw[<- xI,<- hbc,heap_alloc_old _ _ agJ];exact heap_alloc_new _ _);have HXg:aj (w5.heap[bc+1]? =some (.cells (U5 W s [] none 0 (.slice none 0 0) 0 0) 108 (0,0))):=ah (by have:=heap_alloc_new (w3.alloc (.cells #[.slice s.aC W.cs.length s.cC,.slice s.aL W.ls.length s.cL,.slice s.aN W.ns.length s.cN,.slice s.aF W.fs.length s.cF,.slice s.aT W.ts.length s.cT,.slice s.aS W.ss.length s.cS,.slice none 0 0] 87)) (.cells (U5 W s [] none 0 (.slice none 0 0) 0 0) 108);rw[show(w3.alloc (.cells #[.slice s.aC W.cs.length s.cC,.slice s.aL W.ls.length s.cL,.slice s.aN W.ns.length s.cN,.slice s.aF W.fs.length s.cF,.slice s.aT W.ts.length s.cT,.slice s.aS W.ss.length s.cS,.slice none 0 0] 87)).heap.size=w3.heap.size+1 by simp]at this;rw[<- xI,<- hbc];exact this);have sI:aj (w5.heap.size=bc+2):=ah (by rw[<- xI,<- hbc];simp);have Ns:=ah hbc;rw[hbc];obtain⟨L,hL0,hLg,hL1⟩: ∃L:GL,L.B0=bc∧bc+1=L.gb∧L.B1=bc+2:=⟨⟨bc,bc+1,bc+2,agH,agH⟩,rfl,rfl,rfl⟩;rw[hLg];have HL:=ah (aI hL0 (aI hLg hL1));have bs9:=jV kg.o Fj;have NC:aj (iN 108 w5 L W s [] none 0 (.slice none 0 0) [] 0 0):=ah
  {blk:=by rw[<- hLg];exact HXg.o,row:=World.ownsRow_nil _ _ _ _,sz:=by rw[hL1,sI.o];exact aB _,wo:=by rw[hL0,<- hbc];exact JA.o.below kg.o,few:=bF _,lc:=trivial}
 have sJ:aj (iG w5 bc p.ts aM 0):=ah (by have h1:=HP.o.2.2.2.below (HB3.o.trans (kg.o.mono HB3.o.size));exact h1.mono (by rw[<- hbc];exact HB3.o.size));have HLC:=ah (YV HPZ.o.2.2.2.1);have HSP:aj (∀t∈p.ts,gQ t.body=true):=ah (λt ht=>by have h1:=HPZ.o.1;unfold rE at h1;simp only[aP]at h1;have:=List.all_eq_true.1 h1.1.2 t ht;unfold pO at this;simp only[aP]at this;exact this.2);have HTO:=ah (Jj HP.o.2.2.2);clear xI hbc hL0 hLg hL1 y1 HXg JA Fj;have y1:=aQ (j:=1) bs9.o rfl;go_wp2_with fail;go_loopw [10,31] (λ_ i wr=> ∃(k:Nat) (R:List Th) (xs:List zk) (vT:Value) (nx:Nat) (code:List dS) (v:Value) (b:Int) (lc:List ByteArray) (al:Option Addr) (cl:Nat),i= .int .i64 k∧k+R.length=p.ts.length∧EU W p.ts 0=xs.map zk.t++EU W R nx∧xs.length=k∧(∀x∈xs,x.is.length<=1000000000000)∧iN 108 wr L W s lc al cl v code (nx:Nat) b∧Ch L.B1 wr vT xs∧
  wr.heap[bc]? =some (.cells #[.slice s.aC W.cs.length s.cC,.slice s.aL W.ls.length s.cL,.slice s.aN W.ns.length s.cN,.slice s.aF W.fs.length s.cF,.slice s.aT W.ts.length s.cT,.slice s.aS W.ss.length s.cS,vT] 87 (0,0))∧iG wr bc R aM k∧Below bc w5 wr∧nx+Ea R<=Ea p.ts∧(∀t∈R,t∈p.ts)) (λ_ i _=>p.ts.length -(intOf i).toNat)
 case atStart=>exact⟨0,p.ts,[],.slice none 0 0,0,[],_,0,[],none,0,rfl,agJ,agJ,rfl,agJ,NC.o,Grow.nil _ _ _ _ _ _,zX.o,sJ.o,au _ _,agJ,λt h=>h⟩
 case round=>
  obtain⟨k,R,xs,vT,nx,code,v,b,lc,al,cl,rfl,hlen,heq,hxl,hxs,hge,hgr,hbx,hth,hbel,hwt,hmem⟩:=hrel;have HE:=ah heq;have HG:=ah hge;have WE:=ah hgr;have HX:=ah hbx;have kI:=ah hbel;have HN:=ah (aI hxl (aI hxs (aI hwt hmem)));clear heq hge hgr hbx hbel hxl hxs hwt hmem NC sJ zX y1;cases R with
  |nil=>
   obtain rfl:k=p.ts.length:=aeQ
   obtain⟨Hg,Lp,Oq,hcc,hat⟩:=UD WE.o HN.o.2.1;subst Oq;have HAT:=ah hat;have HCAP:=ah hcc;have ZK:=ah ((kI.o.block (bp+1) adE).trans ((kg.o.block _ (aO Fp.o)).trans Fp.o));have hxl:xs.length=p.ts.length:=HN.o.1;have Po:aj (EU W p.ts 0=xs.map zk.t):=ah (by rw[HE.o];simp[EU]);have Ld:aj (wr.heap[bc]? =some (.cells #[.slice s.aC W.cs.length s.cC,.slice s.aL W.ls.length s.cL,.slice s.aN W.ns.length s.cN,.slice s.aF W.fs.length s.cF,.slice s.aT W.ts.length s.cT,.slice s.aS W.ss.length s.cS,.slice Hg p.ts.length Lp] 87 (0,0))):=ah (by rw[HX.o,hxl]);obtain⟨c0,c1,c2,c3,c4,c5,c6⟩:=cl7 (Ld.o);obtain⟨r0,r1,r2,r3,r4,r5,r6⟩:=cl7 ZK.o;obtain⟨rf0,rf1,rf2,rf3,rf4,rf5,rf6⟩:=fr7 ZK.o;have yt:=ah (aR (aO HX.o) (aB _));have hcl:p.ts.length<=Lp:=by rw[hxl]at hcc;exact hcc
   have HCL:=ah hcl;clear hat hth hcc hcl;go_wp2_with fail;show bodyPost _ _ _ _ _ (World.setCells wr (bp+1) 0 [.slice s.aC W.cs.length s.cC,.slice s.aL W.ls.length s.cL,.slice s.aN W.ns.length s.cN,.slice s.aF W.fs.length s.cF,.slice s.aT W.ts.length s.cT,.slice s.aS W.ss.length s.cS,.slice Hg p.ts.length Lp]);generalize JL:World.setCells wr _ _ _=wz;obtain⟨Lg,rQ,sI⟩:=ax9 JL ZK.o rfl;clear JL;have HW3:aj (bp+1<bc):=ah adE;have KX:aj (Below w.heap.size w wz):=ah (((HB3.o.trans (kg.o.mono HB3.o.size)).trans (kI.o.mono (by have h1:=HB3.o.size;have h2:=Ns.o;omega))).trans (cK rQ.o afd (by have h1:=HB3.o.size;have h2:=kg.o.size;have h3:=kI.o.size;omega)));have HKP:aj (∀k,w2.heap.size<=k->wz.heap[k]? =wr.heap[k]?):=ah (λk hk=>by
    have h1:=HS2.o;by_cases hlt:k<wr.heap.size
    ·exact rQ.o.block k hlt agK
    ·have e1:=sI.o;rw[Array.getElem?_eq_none agH,Array.getElem?_eq_none agH])
   have HGK:aj (Ch L.B1 wz (.slice Hg xs.length Lp) xs):=ah (WE.o.next ⟨rQ.o.size,λk h1 h2=>rQ.o.block k h2 (by have h3:=HL.o;have h4:=HW3.o;simp;omega)⟩);have HWK:aj (iP wz wz.heap.size W s):=ah ((iP.keep HG.o.wo HNW.o HKP.o).mono (by have h1:=HG.o.b0;exact aJ h1 rQ.o.size));obtain⟨o0,o1,o2,o3,o4,o5,o6⟩:=cl7 Lg.o;obtain⟨aoQ,cpQ,hvQ,-,aM5⟩:=UD HGK.o HN.o.2.1;injection hvQ with ac7 ac8 ac9;subst ac7;have bo6:=ah aM5;clear aM5 ac8 ac9;have hWP:=bs3.o;subst hWP;exact bodyPost_ret (v:= .tuple #[.agg #[.slice s.aC (ng p).cs.length s.cC,.slice s.aL (ng p).ls.length s.cL,.slice s.aN (ng p).ns.length s.cN,.slice s.aF (ng p).fs.length s.cF,.slice s.aT (ng p).ts.length s.cT,.slice s.aS (ng p).ss.length s.cS,.slice Hg p.ts.length Lp],.int .i64 0,.int .i64 0]) (by simp[results,Tryz.results24,go_sem,o0,o1,o2,o3,o4,o5,o6]) rfl ⟨s,Hg,Lp,rfl,HWK.o,by rw[Po.o];exact bo6.o,HCL.o,KX.o⟩
  |cons t R=>
   obtain⟨⟨b1,off,iU,eU,dB,cu,hao,lV,x0,x1,x2,x3,hok,htx,hst,hcl⟩,hrest⟩:=hth;have Av:=ah hao;subst hao;simp only[aD]at hlen;have hkl:k<p.ts.length:=agH
   have kL:=ah hrest;have uE:=ah (aI hst (aI hok.2.2.2 htx));have AP:=HN.o.2.2.2 t aX;have Jy:aj (t.cZ.length<=4∧gQ t.body=true∧t.body.Ev (Rn W)):=ah ⟨HLC.o t AP,HSP.o t AP,by have h1:=kK.o t AP;have h2:=HFT.o.2 t AP;exact(h1.and h2)⟩;have AB:aj (nx+(pF t.body+Ea R)<=100000000000∧nx+(pF t.body+Ea R)<=Ea p.ts):=ah (by have h1:=HN.o.2.2.1;have h2:=HFT.o.1;simp only[Ea]at h1;omega);clear hrest hok htx hst hcl AP;go_upto_region 9 with fail;generalize sO:World.alloc wr _=w6;obtain⟨nb,hnb,dw,-,Q8,-⟩:=qD sO;have fC:aj (L.B1<=nb∧nb<w6.heap.size):=ah ⟨by rw[<- hnb];exact HG.o.sz,(aO Q8.o)⟩;have KU:=ah (HG.o.below dw.o);have bp4:=ah (WE.o.next (bS dw.o));have Q6:=ah ((dw.o.block bc (aO HX.o)).trans HX.o);have aD7:aj (Below bc wr w6):=ah (dw.o.mono (bH (aO HX.o)));rw[hnb];clear sO hnb x0 x1 x2 x3;have x2:=aQ (j:=2) Q8.o rfl;have hg0:=KU.o.cells.1;have c6:=KU.o.cells.2.2.2.2.2.2.2.1;have f6:=KU.o.cells.2.2.2.2.2.2.2.2.2.2.2 6;have uV:aj (L.B0=bc∧bc+1=L.gb∧L.B1=bc+2):=HL;go_upto_region 10 with fail;generalize Ol:World.setCell w6 _ _=w7;have ND:aj (iN 108 w7 L W s t.cZ iU eU v code (nx:Nat) b):=ah (by rw[<- Ol];exact KU.o.bA5 eU (by rw[uV.o.1];exact uE.o.2.2.below aD7.o) (by have:=Jy.o.1;omega));have bp5:aj (Ch L.B1 w7 vT xs):=ah (by rw[<- Ol];exact bp4.o.next (iL _ _ _ L.b1));have wR:=ah ((show w7.heap[bc]? =w6.heap[bc]? by rw[<- Ol];exact bg _ _ _ rfl aec).trans Q6.o);have bt0:=ah ((show w7.heap[nb]? =w6.heap[nb]? by rw[<- Ol];exact bg _ _ _ rfl aci).trans Q8.o);have bq2:aj (Below bc wr w7):=ah (by rw[<- Ol];exact aD7.o.trans (cK (bU _ _ _) aeg (aJ (bH (aO HX.o)) dw.o.size)));clear Ol c6 f6 hg0 x2;have hg0:=ND.o.cells.1;obtain⟨ao7,Fx,hv7,-,-⟩:=ND.o.form;have c7:=ND.o.cells.2.2.2.2.2.2.2.2.1;rw[hv7]at c7;have f7:=ND.o.cells.2.2.2.2.2.2.2.2.2.2.2 7;go_upto_region 11 with fail;generalize CZ:World.setCell w7 _ _=w8;have HG8:aj (iN 108 w8 L W s t.cZ iU eU (.slice none 0 0) [] (nx:Nat) b):=ah (by rw[<- CZ];exact ND.o.bA6);have bp6:aj (Ch L.B1 w8 vT xs):=ah (by rw[<- CZ];exact bp5.o.next (iL _ _ _ L.b1));have HX8:=ah ((show w8.heap[bc]? =w7.heap[bc]? by rw[<- CZ];exact bg _ _ _ rfl aec).trans wR.o);have bt1:=ah ((show w8.heap[nb]? =w7.heap[nb]? by rw[<- CZ];exact bg _ _ _ rfl aci).trans bt0.o);have aD8:aj (Below bc wr w8):=ah (by rw[<- CZ];exact bq2.o.trans (cK (bU _ _ _) aeg (bH (aO wR.o))));clear CZ c7 f7 hg0 hv7;have x3:=aQ (j:=3) bt1.o rfl;go_wp2_with fail;refine(XG t.body w8 L W s t.cZ iU eU (.slice none 0 0) [] b nx dB cu HG8.o uE.o.2.1 (by rw[uV.o.1];exact uE.o.1.below aD8.o) Jy.o.2.1 Jy.o.2.2 (by have:=AB.o.1;simp only[aW];omega) (by have:=AB.o.1;omega)).mono ?_;rintro e w9 ⟨rfl,hem⟩;obtain⟨v9,a9,b9,pq,hg9,hk9,ho9⟩:=hem;have pq:a9=((nx+dH t.body:Nat):Int):=pq;subst pq;rw[List.nil_append,aW]at hg9;have NG:=ah (uw W t.cZ t.body nx 0);have PS:=ah (Mg (W:=W) (lc:=t.cZ) (by have:=Jy.o.1;omega) t.body nx 0 Jy.o.2.2);have HCO:aj (EU W p.ts 0=xs.map zk.t++(⟨BJ (kV W t.cZ t.body nx 0++[⟨28,0,0,0,0,-1⟩]) t.cZ.length,kV W t.cZ t.body nx 0++[⟨28,0,0,0,0,-1⟩]⟩::EU W R (nx+dH t.body))):=ah HE.o;generalize kV W t.cZ t.body nx 0=GC at *;have Et:=ah hg9;have HK9:=ah hk9;have HO9:=ah ho9;clear hg9 hk9 ho9 x3;have c9:=Et.o.cells.2.2.2.2.2.2.2.2.2.2.1;have f9:=Et.o.cells.2.2.2.2.2.2.2.2.2.2.2 9;have hg0:=Et.o.cells.1;go_upto_region 13 with fail;generalize hWA:World.setCell w9 _ _=wa;have nX:aj (iN 108 wa L W s t.cZ iU eU v9 GC ((nx+dH t.body:Nat):Int) (-1)):=ah (by rw[<- hWA];exact Et.o.jh (-1));have HKA:aj (Kg L (.slice none 0 0) w8 wa):=ah (by rw[<- hWA];exact HK9.o.trans HO9.o (Kg.set _ _ _));clear hWA c9 f9 hg0;have hg0:=nX.o.cells.1;go_wp2_with fail;refine(iQ nX.o ⟨28,0,0,0,0,0⟩ (by have h1:=NG.o;have h2:=AB.o.1;omega)).mono ?_;rintro e wb ⟨rfl,ve,hge,hke,hoe⟩;have Pv:aj (iN 108 wb L W s t.cZ iU eU ve (GC++[⟨28,0,0,0,0,-1⟩]) ((nx+dH t.body:Nat):Int) (-1)):=ah hge;have NH:aj (Kg L (.slice none 0 0) w8 wb):=ah (HKA.o.trans HO9.o hke);clear hge hke hoe hg0;have HRE:aj (lT (GC++[⟨28,0,0,0,0,-1⟩])):=ah (ax7 PS.o);have uU:aj ((GC++[(⟨28,0,0,0,0,-1⟩:dS)]).length<=1000000000000):=ah (by have h1:=NG.o;have h2:=AB.o.1;simp only[aA,aD,aW];omega);generalize GC++[⟨28,0,0,0,0,-1⟩]=GD at *;have HXb:=ah ((NH.o.block bc (aO HX8.o) afY afq).trans HX8.o);have aC9:=ah (bp6.o.next ⟨NH.o.size,λq h1 h2=>NH.o.block q h2 (by have:=L.b1;omega) afq⟩);have bq3:aj (Below bc wr wb):=ah (aD8.o.trans ⟨NH.o.os,NH.o.tape,NH.o.output,NH.o.size,λq hq=>NH.o.block q (Nat.lt_trans hq (aO HX8.o)) afY afq⟩);obtain⟨Hg,Lp,Oq⟩:=aC9.o.len;obtain⟨jK,TW,hvE,-,-⟩:=Pv.o.form;have NT:=ah Oq;have HVE:=ah hvE;have hxc:=aQ (j:=6) HXb.o rfl;have hxe:=Pv.o.cells.2.2.2.2.2.2.2.2.1;simp only[List.getElem_toArray,List.getElem_cons_zero,List.getElem_cons_succ]at hxc;rw[Oq]at hxc;rw[hvE]at hxe;have Gz:=ah (aI (aO HXb.o) (aI hxc (aI Pv.o.cells.1 hxe)));clear Oq hvE hxc hxe;go_upto_region 14 with fail;have V0:=lG Gz.o.1 Gz.o.2.1;have V1:=lG Gz.o.2.2.1 Gz.o.2.2.2;refine eu agG rfl ?_;refine dD 0 10 [] [[],[0],[],[2],[],[4],[4,5],[4,5,6],[2,3,4,5,6,7],[2,3,4,5,6,7,8],[0,1,2,3,4,5,6,7,8,9],[0,1,2,3,4,5,6,7,8,9,10],[0,1,2,3,4,5,6,7,8,9,10,11]] [[],[],[],[],[],[],[],[],[],[]] (λ_ w'=>Below wb.heap.size wb w') (λw w'=>Below w.heap.size w w') [53,54,55,56,57,58,59,60,61,62] rfl rfl ahS agG agG agG agG agG ahS (λ_=>au _ _) ahS (below_drewN (au _ _) 1) ?_;simp only[jH,nY]
   iterate 3
    apply bZ.step
    case bL=>intro c A w' hok hC hO hD;have e7:=hO 7 ahS;have e8:=hO 8 ahS;simp[Act.eval]at e7 e8;simp[Act.eval]at hD;simp[go_sem,gd,Oper.wp,hD,e7,e8,V0,hC];exact AaH
    try simp only[dY]
   refine bZ.some (λv _=>v= .int .i64 (BJ GD t.cZ.length)) (λ_ _ _ _ h=>h) ?_ ?_
   ·intro c A w' hok hC hO hD;simp[Act.eval]at hD;simp[go_sem,gd,Oper.wp,hD];refine(XI (Pv.o.below hC) HRE.o).mono ?_;rintro e w5 ⟨rfl,hb⟩;exact aV.mk hb (hC.trans (hb.mono hC.size)) rfl
   try simp only[dY]
   iterate 5
    apply bZ.step
    case bL=>intro c A w' hok hC hO hD;have e8:=hO 8 ahS;simp[Act.eval]at e8;simp[Act.eval]at hD;simp[go_sem,gd,Oper.wp,hD,e8,V1,hC];exact AaH
    try simp only[dY]
   refine bZ.some (λv w'=>BbQ (BJ GD t.cZ.length) jK GD.length TW v w') ?_ ?_ ?_
   ·rintro v wx wy hle ⟨bb,rfl,hbb⟩;exact⟨bb,rfl,(hle.block bb (aO hbb)).trans hbb⟩
   ·intro c A w' hok hC hO hD;simp[Act.eval]at hD;simp[go_sem,gd,Oper.wp,hD];exact aV.mk (d:=_) (v:= .slice (some ⟨_,0,none⟩) 1 1) (ak _ _) (hC.trans ((ak _ _).mono hC.size)) ⟨_,rfl,heap_alloc_new _ _⟩
   try simp only[dY]
   try simp only[dY]
   refine bZ.done ?_;intro wz dL
   try simp only[jH]
   iterate 9 refine tH ?_
   intro v9 h9;obtain⟨bb,rfl,hbb⟩:=h9;refine xO ?_;go_simp;have uF:=ah dL;have Dl:=ah hbb;clear V0 V1 dL hbb;have Tn:=ah (aC9.o.next (bS uF.o));have Pp:=ah (Pv.o.below uF.o);refine dZ 10 [[],[0],[],[2],[],[4],[4,5],[4,5,6],[2,3,4,5,6,7],[2,3,4,5,6,7,8],[0,1,2,3,4,5,6,7,8,9],[0,1,2,3,4,5,6,7,8,9,10],[0,1,2,3,4,5,6,7,8,9,10,11]] rfl rfl rfl rfl rfl agG agG agG ?_;obtain⟨i0,hi0,hz0,hz1,hz2⟩:=infoP aR2;have hk0:xs.length<=4:=by have:=HN.o.1;omega
   refine wp_append_lies wz _ _ _ ahS L.B1 93 i0 _ 2 32 Tryz.underlying85 hi0 hz0 hz1 hz2 ahS agH (.slice Hg xs.length Lp) xs.length (xs.flatMap UE) ahS (by rw[<- NT.o];exact Tn.o.own) ⟨bb,0,none⟩ 1 1 (UE ⟨BJ GD t.cZ.length,GD,jK,TW⟩) ahS ahS (gP Dl.o) (bA8 _) agI aeS agH Pp.o.sz _ rfl ?_;intro g' cap' wd hown hgr hmv jQ;have aB0:aj (∀q,vT.ownBlock=some q->ve.ownBlock≠some q):=ah (Wi Tn.o.own Pp.o.row agI);have yY:aj (Ch L.B1 wd (.slice (some ⟨g',0,none⟩) (xs.length+1) cap') (xs++[⟨BJ GD t.cZ.length,GD,jK,TW⟩])):=ah (Tn.o.push (x:=⟨BJ GD t.cZ.length,GD,jK,TW⟩) (by have:=Pp.o.row;rw[HVE.o]at this;exact az2 this (λq hq e=>aB0.o q e (by rw[HVE.o];exact hq))) rfl hown (by rw[NT.o];exact hgr) (by rw[NT.o];exact hmv));have Pt:aj (iN 108 wd L W s t.cZ iU eU ve GD ((nx+dH t.body:Nat):Int) (-1)):=ah (Pp.o.far hgr (λq hq=>by have h1:=(Tn.o.lt q (by rw[NT.o];exact hq)).1;exact⟨by have:=L.b0;have:=L.b1;omega,by have:=L.b1;omega,aB0.o q (by rw[NT.o];exact hq)⟩));have HXd:aj (wd.heap[bc]? =some (.cells #[.slice s.aC W.cs.length s.cC,.slice s.aL W.ls.length s.cL,.slice s.aN W.ns.length s.cN,.slice s.aF W.fs.length s.cF,.slice s.aT W.ts.length s.cT,.slice s.aS W.ss.length s.cS,.slice Hg xs.length Lp] 87 (0,0))):=ah ((hgr.block bc (aR Gz.o.1 uF.o.size) (λe=>by have h1:=(Tn.o.lt bc (by rw[NT.o];exact e.symm)).1;have:=uV.o;omega)).trans ((uF.o.block bc Gz.o.1).trans (by rw[HXb.o,NT.o])));have bq4:aj (Below bc wr wd):=ah ((bq3.o.trans (uF.o.mono (bH Gz.o.1))).trans ⟨hgr.os,hgr.tape,hgr.output,hgr.size,λq hq=>hgr.block q (by have:=Gz.o.1;have:=uF.o.size;omega) (λe=>by have h1:=(Tn.o.lt q (by rw[NT.o];exact e.symm)).1;have:=uV.o;omega)⟩);clear hown hgr hmv jQ hi0 hz0 hz1 hz2 hk0;have cj:=aQ (j:=6) HXd.o rfl;simp only[List.getElem_toArray,List.getElem_cons_zero,List.getElem_cons_succ]at cj;have fj:=bK (o:=6) HXd.o;have aM8:=(aO HXd.o);go_simp;refine dZ 11 [[],[0],[],[2],[],[4],[4,5],[4,5,6],[2,3,4,5,6,7],[2,3,4,5,6,7,8],[0,1,2,3,4,5,6,7,8,9],[0,1,2,3,4,5,6,7,8,9,10],[0,1,2,3,4,5,6,7,8,9,10,11]] rfl rfl rfl rfl rfl agG agG agG ?_;simp[go_sem,Oper.wp];refine dZ 12 [[],[0],[],[2],[],[4],[4,5],[4,5,6],[2,3,4,5,6,7],[2,3,4,5,6,7,8],[0,1,2,3,4,5,6,7,8,9],[0,1,2,3,4,5,6,7,8,9,10],[0,1,2,3,4,5,6,7,8,9,10,11]] rfl rfl rfl rfl rfl agG agG agG ?_;simp[go_sem,Oper.wp,cj,fj];refine fU rfl ?_;go_simp;generalize hWf:World.setCell wd _ _=wf;have HGf:aj (iN 108 wf L W s t.cZ iU eU ve GD ((nx+dH t.body:Nat):Int) (-1)):=ah (by rw[<- hWf];exact Pt.o.far (bU _ _ _) (λq hq=>by injection hq with hq;have hq:bc=q:=hq;subst hq;refine⟨afY,afY,λe=> ?_⟩;have:=(Pt.o.own bc e).1;have:=uV.o;omega));have HPf:aj (Ch L.B1 wf (.slice (some ⟨g',0,none⟩) (xs.length+1) cap') (xs++[⟨BJ GD t.cZ.length,GD,jK,TW⟩])):=ah (by rw[<- hWf];exact yY.o.next (iL _ _ _ (by show bc<L.B1;have:=uV.o;omega)));have HXf:aj (wf.heap[bc]? =some (.cells #[.slice s.aC W.cs.length s.cC,.slice s.aL W.ls.length s.cL,.slice s.aN W.ns.length s.cN,.slice s.aF W.fs.length s.cF,.slice s.aT W.ts.length s.cT,.slice s.aS W.ss.length s.cS,.slice (some ⟨g',0,none⟩) (xs.length+1) cap'] 87 (0,0))):=ah (by rw[<- hWf];exact qy HXd.o _ rfl);have aD9:aj (Below bc wr wf):=ah (by rw[<- hWf];exact bq4.o.trans (cK (bU _ _ _) (aB _) (bH aM8)));clear hWf cj fj aM8;go_wp2_with fail;go_roundw
   case rel=>
    refine⟨k+1,R,xs++[⟨BJ GD t.cZ.length,GD,jK,TW⟩],_,nx+dH t.body,GD,ve,-1,t.cZ,iU,eU,agL,agH,?_,by rw[aA,HN.o.1];rfl,?_,HGf.o,HPf.o,HXf.o,kL.o.below aD9.o,kI.o.trans aD9.o,?_,λx hx=>HN.o.2.2.2 x (aY _ hx)⟩
    ·rw[HCO.o];simp[zk.t]
    ·intro x hx;rcases List.mem_append.1 hx with hx|hx
     ·exact HN.o.2.1 x hx
     ·rw[List.mem_singleton.1 hx];exact uU.o
    ·have h1:=AB.o.2;have h2:=zn t.body;omega
   case measure=>simp[intOf];omega
end Go.Proofs.YtdoplekppjkkpaaGreatDoor
