/- Contracts of registers (the program's and the reference's) and of the generator's regs. And what hangs on it. -/
import Derived.Test.YtmildapbbcbbhaaGreatDoorGCC
import Derived.Test.YtmildapbbcbbhaaGreatDoorGCD
set_option linter.unusedSimpArgs false
set_option linter.unusedVariables false
set_option maxHeartbeats 40000000
set_option maxRecDepth 1000000
namespace Go.Proofs.YtmildapbbcbbhaaGreatDoor
open Go.RowKit
open Md
theorem Qx {W:World} {g:Nat} {t:TypeId} {fr:Nat×Nat} {cs:Array Value} (h:W.heap[g]? =some (.cells cs t fr)): ∀(l:List Int) (k:Nat),(∀j (n:Int),l[j]? =some n->cs[k+j]? =some (.int .i64 n))->(∀n∈l,bW n)->gV W W.heap.size l (some ⟨g,0,none⟩) k
 | [],_,_,_=>trivial
 |n::r,k,hc,hi=>⟨⟨g,0,rfl,(aO h),by rw[aU];exact aQ h (hc 0 n rfl)⟩,Qx h r (k+1) (λj m hm=>by have:=hc (j+1) m (by simpa using hm);rw[show k+1+j=k+(j+1) by omega];exact this) (λm hm=>hi m (aX _ hm))⟩
def RgP (x:dV) (w:World) (e:Ending) (w':World):Prop:= ∃ao cap,e= .returned (.slice ao (kR x).length cap)∧gV w' w'.heap.size (kR x) ao 0∧Below w.heap.size w w'∧∀q,ao=some q->w.heap.size<=q.block
theorem uR {x:dV} {w:World} {l:List Int} {cs:Array Value} {o:Obj} {t:TypeId} {n:Nat} (hr:kR x=l) (hc:cs=(l.map (λn=>Value.int .i64 n)).toArray) (hn:n=l.length) (hi: ∀n∈l,bW n):RgP x w (.returned (.slice (some ⟨w.heap.size+1,0,none⟩) n n)) ((w.alloc o).alloc (.cells cs t)):=by
 subst hc hn;rw[<- hr]at *;refine⟨_,_,rfl,?_,(au _ _).alloc (by simp) _,λq e=>by injection e with e;subst e;exact gY _⟩;have hg:=heap_alloc_new (w.alloc o) (.cells ((kR x).map (λn=>Value.int .i64 n)).toArray t);have e:(w.alloc o).heap.size=w.heap.size+1:=by simp
 rw[e]at hg;refine Qx hg (kR x) 0 (λj n hn=> ?_) hi;simp[hn]
theorem Np (x:dV) (w:World) (hi: ∀r∈kR x,bW r):Calls Tryz.prog 37 #[TG x] w (RgP x w):=by
 have hcs:x.op=1∨x.op=6∨x.op=10∨x.op=27∨x.op=2∨x.op=3∨x.op=4∨x.op=7∨x.op=8∨x.op=26∨x.op=9∨(x.op≠1∧x.op≠6∧x.op≠10∧x.op≠27∧x.op≠2∧x.op≠3∧x.op≠4∧x.op≠7∧x.op≠8∧x.op≠26∧x.op≠9):=by omega
 unfold TG;rcases hcs with hop|hop|hop|hop|hop|hop|hop|hop|hop|hop|hop|hop
 ·obtain⟨op,a,b,c,n,st⟩:=x;obtain rfl:op=1:=hop;go_enter Tryz.func37,Tryz.ntmps37;go_wp2
  all_goals (go_ret;exact uR (l:=[a]) rfl rfl rfl (by have:=hi;simp only[kR]at this;simpa using this))
 ·obtain⟨op,a,b,c,n,st⟩:=x;obtain rfl:op=6:=hop;go_enter Tryz.func37,Tryz.ntmps37;go_wp2
  all_goals (go_ret;exact uR (l:=[a]) rfl rfl rfl (by have:=hi;simp only[kR]at this;simpa using this))
 ·obtain⟨op,a,b,c,n,st⟩:=x;obtain rfl:op=10:=hop;go_enter Tryz.func37,Tryz.ntmps37;go_wp2
  all_goals (go_ret;exact uR (l:=[a]) rfl rfl rfl (by have:=hi;simp only[kR]at this;simpa using this))
 ·obtain⟨op,a,b,c,n,st⟩:=x;obtain rfl:op=27:=hop;go_enter Tryz.func37,Tryz.ntmps37;go_wp2
  all_goals (go_ret;exact uR (l:=[a]) rfl rfl rfl (by have:=hi;simp only[kR]at this;simpa using this))
 ·obtain⟨op,a,b,c,n,st⟩:=x;obtain rfl:op=2:=hop;go_enter Tryz.func37,Tryz.ntmps37;go_wp2
  all_goals (go_ret;exact uR (l:=[a,b]) rfl rfl rfl (by have:=hi;simp only[kR]at this;simpa using this))
 ·obtain⟨op,a,b,c,n,st⟩:=x;obtain rfl:op=3:=hop;go_enter Tryz.func37,Tryz.ntmps37;go_wp2
  all_goals (go_ret;exact uR (l:=[a,b]) rfl rfl rfl (by have:=hi;simp only[kR]at this;simpa using this))
 ·obtain⟨op,a,b,c,n,st⟩:=x;obtain rfl:op=4:=hop;go_enter Tryz.func37,Tryz.ntmps37;go_wp2
  all_goals (go_ret;exact uR (l:=[a,b,c]) rfl rfl rfl (by have:=hi;simp only[kR]at this;simpa using this))
 ·obtain⟨op,a,b,c,n,st⟩:=x;obtain rfl:op=7:=hop;go_enter Tryz.func37,Tryz.ntmps37;go_wp2
  all_goals (go_ret;exact uR (l:=[a,c]) rfl rfl rfl (by have:=hi;simp only[kR]at this;simpa using this))
 ·obtain⟨op,a,b,c,n,st⟩:=x;obtain rfl:op=8:=hop;go_enter Tryz.func37,Tryz.ntmps37;go_wp2
  all_goals (go_ret;exact uR (l:=[b]) rfl rfl rfl (by have:=hi;simp only[kR]at this;simpa using this))
 ·obtain⟨op,a,b,c,n,st⟩:=x;obtain rfl:op=26:=hop;go_enter Tryz.func37,Tryz.ntmps37;go_wp2
  all_goals (go_ret;exact uR (l:=[b]) rfl rfl rfl (by have:=hi;simp only[kR]at this;simpa using this))
 ·obtain⟨op,a,b,c,n,st⟩:=x;obtain rfl:op=9:=hop;go_enter Tryz.func37,Tryz.ntmps37;go_wp2
  all_goals (go_ret;exact uR (l:=[b,c]) rfl rfl rfl (by have:=hi;simp only[kR]at this;simpa using this))
 ·obtain⟨op,a,b,c,n,st⟩:=x;obtain⟨n1,n2,n3,n4,n5,n6,n7,n8,n9,n10,n11⟩:=hop;simp only at n1 n2 n3 n4 n5 n6 n7 n8 n9 n10 n11;have hr:kR ⟨op,a,b,c,n,st⟩=[]:=by unfold kR;simp[n1,n2,n3,n4,n5,n6,n7,n8,n9,n10,n11]
  have HR:=ah hr;have k1:(op==1)=false:=by simpa using n1
  have k2:(op==6)=false:=by simpa using n2
  have k3:(op==10)=false:=by simpa using n3
  have k4:(op==27)=false:=by simpa using n4
  have k5:(op==2)=false:=by simpa using n5
  have k6:(op==3)=false:=by simpa using n6
  have k7:(op==4)=false:=by simpa using n7
  have k8:(op==7)=false:=by simpa using n8
  have k9:(op==8)=false:=by simpa using n9
  have k10:(op==26)=false:=by simpa using n10
  have k11:(op==9)=false:=by simpa using n11
  clear n1 n2 n3 n4 n5 n6 n7 n8 n9 n10 n11 hr hi;go_enter Tryz.func37,Tryz.ntmps37;go_wp2
  all_goals (go_ret;exact⟨none,0,by rw[HR.o];rfl,by rw[HR.o];trivial,au _ _,λq e=>by cases e⟩)
def lI (l:List dV):Prop:= ∀i∈l,∀r∈kR i,-1000000000<=r∧r<=1000000000
theorem Xk {T:TypeId} {w:World} {L:GL} {W:Wo} {s:lV} {lc:List ByteArray} {al:Option Addr} {cl:Nat} {v:Value} {code:List dV} {a b:Int} (hI:iH T w L W s lc al cl v code a b) (hb:lI code):
 Calls Tryz.prog 18 #[.pointer (some ⟨L.gb,0,none⟩)] w λe w'=>e= .returned (.int .i64 (AY code lc.length))∧Below w.heap.size w w':=by
 obtain⟨dx,-,-,-,-,-,-,q6,q7,-,-,-⟩:=hI.cells;obtain⟨ao,cap,rfl,hcap,hcm,hfl⟩:=jC Bu hI.row;have HF:=ah hfl;have HB:=ah hb;unfold maxLen at hcm;generalize hres:AY code lc.length=res;have HR:=ah hres;clear hI hb hfl hres;go_enter Tryz.func18,Tryz.ntmps18;go_wp2_with fail;go_loopw [3,5,7,18,23,24,25] (λn _ _ i _ _ _ wr=> ∃(k:Nat) (R:List dV) (m:Int),i= .int .i64 k∧n= .int .i64 m∧k+R.length=code.length∧res=AY R m∧lI R∧eD nZ 6 wr wr.heap.size R ao k∧Below w.heap.size w wr) (λ_ _ _ i _ _ _ _=>code.length -(intOf i).toNat)
 case atStart=>exact⟨0,code,lc.length,rfl,rfl,by simp,HR.o.symm,HB.o,HF.o,ak _ _⟩
 case round=>
  obtain⟨k,R,m,rfl,rfl,hlen,heq,hrb,hrow,hbel⟩:=hrel;have HE:=ah heq;have nO:=ah hbel;clear heq hbel HF;cases R with
  |nil=>
   obtain rfl:k=code.length:=by simpa using hlen
   go_wp2_with fail;go_ret;exact⟨bV HE.o.symm,nO.o⟩
  |cons x R=>
   obtain⟨⟨b1,off,rfl,hb1,hcs⟩,hrest⟩:=hrow;simp only[aA]at hlen;have hkl:k<code.length:=by omega
   have x0:=hcs 0 _ rfl;have x1:=hcs 1 _ rfl;have x2:=hcs 2 _ rfl;have x3:=hcs 3 _ rfl;have x4:=hcs 4 _ rfl;have x5:=hcs 5 _ rfl;simp only[Nat.add_zero]at x0;have mQ:=ah hrest;have Sk:=ah (aI (hrb x aV) (show lI R from λi hi=>hrb i (aX _ hi)));clear hcs hrest hrb;go_upto_region 5 with fail;generalize hW:World.alloc wr _=w2;obtain⟨nb,hnb,HB2,-,HX,-⟩:=oO hW;rw[hnb];clear hW hnb x0 x1 x2 x3 x4 x5;obtain⟨x0,x1,x2,x3,x4,x5⟩:=rE HX.o;go_wp2_with fail;refine(Np x w2 (λr hr=>by have:=Sk.o.1 r hr;unfold bW;omega)).mono ?_;rintro e w3 ⟨ao3,LY,rfl,hin,hb3,-⟩;have iq:=ah hin;have HB3:=ah (nO.o.trans ((HB2.o.trans (hb3.mono HB2.o.size)).mono nO.o.size));have HR3:=ah ((mQ.o.same HB2.o).same hb3);have HL3:aj ((kR x).length<=3):=ah (by unfold kR;(repeat' split) <;> simp);clear hin hb3 x0 x1 x2 x3 x4 x5;have HE2:aj (res=AY R (mxR (kR x) m)):=ah HE.o;have P7:=ah Sk.o.1;generalize kR x=rs at *;go_wp2_with fail;go_loopw [3,7,25] (λn _ i wq=> ∃(j:Nat) (S:List Int) (m2:Int),i= .int .i64 j∧n= .int .i64 m2∧j+S.length=rs.length∧res=AY R (mxR S m2)∧(∀r∈S,-1000000000<=r∧r<=1000000000)∧gV wq wq.heap.size S ao3 j∧wq=w3) (λ_ _ i _=>rs.length -(intOf i).toNat)
   case atStart=>exact⟨0,rs,m,rfl,rfl,by simp,HE2.o,P7.o,iq.o,rfl⟩
   case round=>
    obtain⟨j,S,m2,rfl,rfl,EY,heq2,ZY,hin2,rfl⟩:=hrel;have HQ:=ah heq2;have h3:=HL3.o;clear heq2;cases S with
    |nil=>
     obtain rfl:j=rs.length:=(by simpa using EY);have G6:aj (res=AY R m2):=HQ;go_wp2_with fail;go_roundw
     case rel=>exact⟨k+1,R,m2,by go_num,rfl,by omega,G6.o,Sk.o.2,HR3.o,HB3.o⟩
     case measure=>simp[intOf];omega
    |cons r S=>
     obtain⟨⟨b4,bv4,rfl,hb4,y0⟩,GU⟩:=hin2;simp only[aA]at EY;have hjl:j<rs.length:=(by omega);have hr:=ZY r aV;have hwr:IntKind.i64.wrap (r+1)=r+1:=IntWalk.i64_in _ (by omega);have HR4:=ah GU;have HRB:=ah (λq hq=>ZY q (aX _ hq));clear GU ZY;go_wp2_with fail;go_roundw
     case rel=>exact⟨j+1,S,max m2 (r+1),by go_num,by first|rfl|simp[hwr],by omega,HQ.o,HRB.o,HR4.o,trivial⟩
     case measure=>simp[intOf];omega
theorem lI.app {a b:List dV} (ha:lI a) (hb:lI b):lI (a++b):=λi hi=>by
 rcases List.mem_append.1 hi with h|h
 ·exact ha i h
 ·exact hb i h
theorem lI.one {i:dV} (h: ∀r∈kR i,-1000000000<=r∧r<=1000000000):lI [i]:=λj hj=>by
 rw[List.mem_singleton.1 hj];exact h
theorem lI.nil:lI []:=λi hi=>by cases hi
theorem QB {lc:List ByteArray} (h:lc.length<=1000) (nm:ByteArray): -1<=iT lc nm∧iT lc nm<=1000:=by
 have:=TS lc nm;omega
theorem QS {W:Wo} {lc:List ByteArray} (hlc:lc.length<=1000) (st:Int): ∀(l:bJ) (d:Int),0<=d->d+iV l<=1000000->lI (Bb W lc st l d)
 | .nil,_,_,_=>lI.nil
 | .cons op n nm kids rest,d,h0,h1=>by
   rw[iV]at h1;have hk:=QS hlc (W:=W) st kids d h0 (by omega);have hr:=QS hlc (W:=W) st rest (d+1) (by omega) (by omega);have hix:=QB hlc nm;rw[Bb];refine lI.app ?_ hr;split
   ·refine lI.one ?_;unfold Bn;split
    ·intro r hr;simp[kR]at hr;omega
    ·split
     ·intro r hr;simp[kR]at hr;omega
     ·intro r hr;simp[kR]at hr;omega
   ·refine lI.app hk (lI.one ?_);unfold J8;split
    ·intro r hr;simp[kR]at hr;omega
    ·split
     ·intro r hr;simp[kR]at hr;omega
     ·intro r hr;simp[kR]at hr;omega
theorem Ij {W:Wo} {lc:List ByteArray} (hlc:lc.length<=1000) (st op n:Int) (nm:ByteArray) (kids:bJ) (d:Int) (h0:0<=d) (h1:d+1+iV kids<=1000000):lI (nI W lc st op n nm kids d):=by
 have:=QS hlc (W:=W) st (.cons op n nm kids .nil) d h0 (by simp only[iV];omega);rw[Fg,Bb,List.append_nil]at this;exact this
theorem au6 {W:Wo} {lc:List ByteArray} (hlc:lc.length<=1000) (st:Int) {h:dD} (hw:jr h<=300000):lI (wK W lc st h):=by
 have hix:=QB hlc h.nm;have hw':=hw;unfold jr at hw';have hx:=Ij (W:=W) hlc st h.dN h.xn h.dJ h.bG lc.length (by omega) (by omega);have hx1:=Ij (W:=W) hlc st h.dN h.xn h.dJ h.bG (lc.length+1) (by omega) (by omega);unfold wK;split
 ·unfold D5;split
  ·refine lI.app hx (lI.one ?_);split
   ·intro r hr;simp[kR]at hr;omega
   ·intro r hr;simp[kR]at hr;omega
  ·rename_i op n nm kids r hi;have hk:iV h.idx=1+iV kids+iV r:=by rw[hi,iV]
   refine lI.app (lI.app (Ij hlc st op n nm kids lc.length (by omega) (by omega)) hx1) (lI.one ?_);intro r hr;simp[kR]at hr;omega
 ·repeat' split
  all_goals first
   |exact lI.nil
   |exact lI.app hx (lI.one (by intro r hr;simp[kR]at hr;omega))
   |exact lI.one (by intro r hr;simp[kR]at hr;try omega)
theorem aR4 {W:Wo} {lc:List ByteArray} (hlc:lc.length<=1000) (st:Int) {h:dD} (hw:jr h<=300000) {B E:List dV} (hB:lI B) (hE:lI E) (ne:Bool) (pos:Nat):lI (AZ W lc st h (jd W lc st h lc.length) B E ne pos):=by
 have hw':=hw;unfold jr at hw';have hx:lI (jd W lc st h lc.length):=Ij (W:=W) hlc st h.dN h.xn h.dJ h.bG lc.length (by omega) (by omega);have br: ∀x:Int,lI [⟨10,lc.length,x,0,0,st⟩]:=λx=>lI.one (by intro r hr;simp[kR]at hr;omega);have jm: ∀x:Int,lI [⟨5,x,0,0,0,st⟩]:=λx=>lI.one (by intro r hr;simp[kR]at hr);unfold AZ;split
 ·split
  ·exact(hx.app (br _)).app hB
  ·exact(((hx.app (br _)).app hB).app (jm _)).app hE
 ·split
  ·exact((hx.app (br _)).app hB).app (jm _)
  ·split
   ·rename_i h48;rw[aJ,decide_eq_true_eq,decide_eq_true_eq]at h48;have hb:Ce h.op=11∨Ce h.op=13∨Ce h.op=15∨Ce h.op=17∨Ce h.op=19:=by
     unfold Ce
     repeat' split
     all_goals simp
    refine((lI.one ?_).app hB).app (lI.one ?_)
    ·intro r hr;rcases hb with e|e|e|e|e <;> rw[e]at hr <;> simp[kR]at hr
    ·intro r hr;rcases hb with e|e|e|e|e <;> rw[e]at hr <;> simp[kR]at hr
   ·exact au6 hlc st hw
theorem Lh {W:Wo} {lc:List ByteArray} (hlc:lc.length<=1000): ∀(l:aY) (nx pos:Nat),l.Ev (QK W)->lI (kr W lc l nx pos)
 | .nil,_,_,_=>lI.nil
 | .cons h b e r,nx,pos,hev=>by obtain⟨h1,h2,h3,h4⟩:=hev;rw[kr];exact(aR4 hlc _ h1.2 (Lh hlc b _ _ h2) (Lh hlc e _ _ h3) _ _).app (Lh hlc r _ _ h4)
theorem au5 {a:List dV} (h:lI a):lI (a++[⟨28,0,0,0,0,-1⟩]):=h.app (lI.one (by intro r hr;simp[kR]at hr))
theorem NZ {ds:List De} {ts:List Th} : ∀ {l:List Th},(vN ds ts l).1=0->∀t∈l,t.cO.length<=4
 | [],_=>λt ht=>by cases ht
 |t::r,h=>by
  rw[vN]at h;split at h
  ·exact absurd (show(2:Int)=0 from h) (by decide)
  ·rename_i h4;split at h
   ·exact absurd (show(4:Int)=0 from h) (by decide)
   ·intro x hx;rcases List.mem_cons.1 hx with rfl|hx
    ·simp at h4;omega
    ·exact NZ h x hx
theorem Yy {p:Pr} (h:(kF p).1=0): ∀t∈p.ts,t.cO.length<=4:=by
 unfold kF at h;split at h
 ·exact absurd (show(4:Int)=0 from h) (by decide)
 ·exact NZ h
namespace Md
structure xU where
 regs:Int
 is:List dV
 ao:Option Addr
 cap:Nat
def xU.t (x:xU):yS:=⟨x.regs,x.is⟩
def Uh (x:xU):List Value:=[.int .i64 x.regs,.slice x.ao x.is.length x.cap]
def xU.I (x:xU) (w:World):Prop:=eD nZ 6 w w.heap.size x.is x.ao 0
def kM (w:World) (B:Nat):List yS->Option Addr->Nat->Prop
 | [],_,_=>True
 |t::r,ao,k=>(∃b off fQ eU,ao=some ⟨b,off,none⟩∧b<B∧w.cell? ⟨b,off+k*2,none⟩=some (.int .i64 t.regs)∧w.cell? ⟨b,off+k*2+1,none⟩=some (.slice fQ t.is.length eU)∧t.is.length<=3000000000000∧eD nZ 6 w B t.is fQ 0)∧kM w B r ao (k+1)
def EF:List Th->Nat
 | []=>0
 |t::r=>oV t.body+EF r
def Fit (p:Pr):Prop:=EF p.ts<=100000000000∧∀t∈p.ts,t.body.Ev (λh=>jr h<=300000)
theorem SV: ∀l:List Th,Gu l<=EF l
 | []=>aB _
 |t::r=>by have:=xW t.body;have:=SV r;rw[Gu,EF];omega
end Md
theorem av8: ∀x:xU,(Uh x).length=2:=λ_=>rfl
theorem bw6 (x:xU): ∀u∈Uh x,u.oneCell'=true:=by intro u hu;simp[Uh]at hu;rcases hu with rfl|rfl <;> rfl
theorem aN9:(Tryz.prog.info? 79).map (λi=>(i.zero,i.size,i.bytes))=some (some (.agg #[.int .i64 0,.slice none 0 0]),2,32):=by kernel_rfl
abbrev BD (B:Nat) (w:World) (v:Value) (l:List xU):Prop:=Grow Uh 2 xU.I 79 B w v l
theorem VF {w:World} {B B' m m' n n':Nat} {e e':TypeId} {v v':Value} {xs xs':List Value} (h:w.ownsRow B e m v n xs) (h':w.ownsRow B' e' m' v' n' xs') (hne:e≠e'): ∀k,v.ownBlock=some k->v'.ownBlock≠some k:=by
 intro k hk hk';rcases h.2 with⟨rfl,-⟩|⟨g,cap,cur,rfl,-,hg,-⟩
 ·cases hk
 rcases h'.2 with⟨rfl,-⟩|⟨g',cap',cur',rfl,-,hg',-⟩
 ·cases hk'
 injection hk with hk;injection hk' with hk';simp only at hk hk';subst hk;subst hk';rw[hg]at hg';injection hg' with hg';injection hg' with _ h2 _;exact hne h2
theorem av9 {w:World} {B:Nat} {g:Option Nat} {ao:Option Addr} {cap:Nat} {is:List dV} {r:Int} (h:w.ownsRow B 76 6 (.slice ao is.length cap) is.length (is.flatMap nZ)) (hg: ∀k,(Value.slice ao is.length cap).ownBlock=some k->g≠some k):oz B g w (xU.I ⟨r,is,ao,cap⟩):=λw' ha=>by
 have h':w'.ownsRow B 76 6 (.slice ao is.length cap) is.length (is.flatMap nZ):=by
  refine⟨h.1,?_⟩;rcases h.2 with h1|⟨q,cap',cur,h1,h2,h3,h4⟩
  ·exact .inl h1
  ·refine .inr ⟨q,cap',cur,h1,h2,?_,h4⟩;rw[ha.2 q h2 (λe=>hg q (by rw[h1];rfl) e.symm) (aO h3)];exact h3
 exact zl Bu h'
theorem Ug {w:World} {B:Nat} {v:Value} {l:List xU} (h:BD B w v l) (hl: ∀x∈l,x.is.length<=1000000000000): ∃ao cap,v= .slice ao l.length cap∧l.length<=cap∧kM w w.heap.size (l.map xU.t) ao 0:=by
 obtain⟨hI,ao,cap,hv,hc,hcells⟩:=(h.cells av8).now;refine⟨ao,cap,hv,hc,?_⟩;have: ∀(r:List xU) (k:Nat),(∀i x,r[i]? =some x->l[k+i]? =some x)->kM w w.heap.size (r.map xU.t) ao k:=by
  intro r
  induction r with
  |nil=>exact λ_ _=>trivial
  |cons x r ih=>
   intro k hk;have hx:=hk 0 x rfl;obtain⟨g,rfl,hB,hlt,hcs⟩:=hcells k x hx;have hm:x∈l:=List.mem_of_getElem? hx;refine⟨⟨g,0,x.ao,x.cap,rfl,hlt,?_,?_,aP (hl x hm) (by decide),hI x hm⟩,ih (k+1) (λi y hy=>by have:=hk (i+1) y (by simpa using hy);rw[show k+1+i=k+(i+1) by omega];exact this)⟩
   ·have:=hcs 0 _ rfl;rw[aU];exact this
   ·have:=hcs 1 _ rfl;rw[aU];exact this
 exact this l 0 (λi x hx=>by rw[aU];exact hx)
def BbQ (r:Int) (ao:Option Addr) (n cap:Nat) (v:Value) (w':World):Prop:= ∃bb,v= .slice (some ⟨bb,0,none⟩) 1 1∧w'.heap[bb]? =some (.cells #[.int .i64 r,.slice ao n cap] 79 (0,0))
theorem iH.far {T:TypeId} {w w':World} {L:GL} {W:Wo} {s:lV} {lc:List ByteArray} {al:Option Addr} {cl:Nat} {v:Value} {code:List dV} {a b:Int} {g:Option Nat} (h:iH T w L W s lc al cl v code a b) (hg:w.grownBy w' g) (hk: ∀k,g=some k->L.B0<=k∧k≠L.gb∧v.ownBlock≠some k):iH T w' L W s lc al cl v code a b:=by
 have hb:Below L.B0 w w':=⟨hg.os,hg.tape,hg.output,hg.size,λk hlt=>hg.block k (aG hlt h.b0) (λe=>by have:=(hk k e.symm).1;omega)⟩
 exact {blk:=(hg.block _ (aO h.blk) (λe=>(hk _ e.symm).2.1 rfl)).trans h.blk
        row:=h.row.kept hg (by
         cases hv:v.ownBlock with
         |none=>exact .inl rfl
         |some q=>exact .inr (λe=>(hk q e.symm).2.2 hv))
        sz:=aP h.sz hg.size,wo:=h.wo.below hb,few:=h.few,lc:=h.lc.below hb}
theorem IW (p:Pr) (w:World) (aK aM:Option Addr) (aH aD:Nat) (hp:p.At w aK aM) (eH:eG w) (hfit:Fit p) (hok:(jD p).1=0):
 Calls Tryz.prog 5 #[.agg #[.slice aK p.ds.length aH,.slice aM p.ts.length aD]] w λe w'=> ∃s ao cap,e= .returned (.tuple #[.agg #[.slice s.aC (jU p).cs.length s.cC,.slice s.aL (jU p).ls.length s.cL,.slice s.aN (jU p).ns.length s.cN,.slice s.aF (jU p).fs.length s.cF,.slice s.aT (jU p).ts.length s.cT,.slice s.aS (jU p).ss.length s.cS,.slice ao p.ts.length cap],.int .i64 0,.int .i64 0])∧
  iO w' w'.heap.size (jU p) s∧kM w' w'.heap.size (sQ (jU p) p.ts 0) ao 0∧p.ts.length<=cap∧Below w.heap.size w w':=by
 have HP:=ah hp;have jK:=ah eH;have RY:=ah hfit;have kU:=ah (okP hok);have HPZ:=ah (uM hok);have Wv:=ah hok;have Sr:aj (Ja p=jU p):=ah (by unfold Ja;rw[hok];rfl);have hpe:jD p=(0,(jD p).2):=by rw[<- hok]
 have htl:p.ts.length<=4:=by have:=HPZ.o.2.2.1;omega
 have N7:=ah htl;clear hp eH hfit hok;go_enter Tryz.func5,Tryz.ntmps5;go_upto_region 1 with fail;generalize hW:World.alloc (World.alloc w _) _=w1;obtain⟨bp,hbp,DW,HB1,-,Ki,vw,mE⟩:=al3 hW;rw[hbp];clear hW hbp;obtain⟨y0,y1⟩:=pK Ki.o;go_wp2_with fail;refine(IK p w1 aK aM aH aD (HP.o.same HB1.o) (jK.o.same HB1.o)).mono ?_;rintro e w2 ⟨rfl,hb2⟩;have HB2:=ah (HB1.o.trans (hb2.mono HB1.o.size));have Jj:=jl hb2 Ki;have EJ:=jl hb2 vw;rw[show(jD p).1=0 from Wv.o];clear hb2 y0 y1 Ki vw hpe;generalize (jD p).2=ln at *;obtain⟨y0,y1⟩:=pK Jj.o;go_wp2_with fail;refine(UY p w2 aK aM aH aD (HP.o.same HB2.o) (jK.o.same HB2.o) (by have:=RY.o.1;have:=SV p.ts;omega)).mono ?_;rintro e w3 ⟨s,rfl,hwo,hb3,hnew⟩;have HNW:=ah hnew;rw[Sr.o]at hwo;have IG:=ah hwo;have HB3:=ah (HB2.o.trans (hb3.mono HB2.o.size));have LH:=jl hb3 Jj;have Jk:=jl hb3 EJ;rw[Sr.o];have HS2:=ah ((aO EJ.o));clear hwo hb3 y0 y1 Jj EJ hnew;generalize hWP:jU p=W at *;have bn9:=ah hWP;clear hWP;unfold sS;have y1:=aQ (j:=1) LH.o rfl;go_upto_region 6 with fail;obtain⟨bc,hbc⟩: ∃n,w3.heap.size=n:=⟨_,rfl⟩;generalize Ew:World.alloc (World.alloc w3 _) _=w5;have nN:aj (Below w3.heap.size w3 w5):=ah (by rw[<- Ew];exact(au _ _).alloc (by simp) _);have Aw:aj (w5.heap[bc]? =some (.cells #[.slice s.aC W.cs.length s.cC,.slice s.aL W.ls.length s.cL,.slice s.aN W.ns.length s.cN,.slice s.aF W.fs.length s.cF,.slice s.aT W.ts.length s.cT,.slice s.aS W.ss.length s.cS,.slice none 0 0] 37 (0,0))):=ah (by rw[<- Ew,<- hbc,heap_alloc_old _ _ (by simp)];exact heap_alloc_new _ _);have HXg:aj (w5.heap[bc+1]? =some (.cells (Tj W s [] none 0 (.slice none 0 0) 0 0) 72 (0,0))):=ah (by have:=heap_alloc_new (w3.alloc (.cells #[.slice s.aC W.cs.length s.cC,.slice s.aL W.ls.length s.cL,.slice s.aN W.ns.length s.cN,.slice s.aF W.fs.length s.cF,.slice s.aT W.ts.length s.cT,.slice s.aS W.ss.length s.cS,.slice none 0 0] 37)) (.cells (Tj W s [] none 0 (.slice none 0 0) 0 0) 72);rw[show(w3.alloc (.cells #[.slice s.aC W.cs.length s.cC,.slice s.aL W.ls.length s.cL,.slice s.aN W.ns.length s.cN,.slice s.aF W.fs.length s.cF,.slice s.aT W.ts.length s.cT,.slice s.aS W.ss.length s.cS,.slice none 0 0] 37)).heap.size=w3.heap.size+1 by simp]at this;rw[<- Ew,<- hbc];exact this);have vo:aj (w5.heap.size=bc+2):=ah (by rw[<- Ew,<- hbc];simp);have Ao:=ah hbc;rw[hbc];obtain⟨L,hL0,hLg,hL1⟩: ∃L:GL,L.B0=bc∧bc+1=L.gb∧L.B1=bc+2:=⟨⟨bc,bc+1,bc+2,by omega,by omega⟩,rfl,rfl,rfl⟩;rw[hLg];have HL:=ah (aI hL0 (aI hLg hL1));have bo9:=jl nN.o LH;have MN:aj (iH 72 w5 L W s [] none 0 (.slice none 0 0) [] 0 0):=ah
  {blk:=by rw[<- hLg];exact HXg.o,row:=World.ownsRow_nil _ _ _ _,sz:=by rw[hL1,vo.o];exact aB _,wo:=by rw[hL0,<- hbc];exact IG.o.below nN.o,few:=bT _,lc:=trivial}
 have rT:aj (iJ w5 bc p.ts aM 0):=ah (by have h1:=HP.o.2.2.2.below (HB3.o.trans (nN.o.mono HB3.o.size));exact h1.mono (by rw[<- hbc];exact HB3.o.size));have HLC:=ah (Yy HPZ.o.2.2.2.1);have HSP:aj (∀t∈p.ts,gN t.body=true):=ah (λt ht=>by have h1:=HPZ.o.1;unfold pE at h1;simp only[aJ]at h1;have:=List.all_eq_true.1 h1.1.2 t ht;unfold oL at this;simp only[aJ]at this;exact this.2);have HTO:=ah (Mr HP.o.2.2.2);clear Ew hbc hL0 hLg hL1 y1 HXg IG LH;have y1:=aQ (j:=1) bo9.o rfl;go_wp2_with fail;go_loopw [10,31] (λ_ i wr=> ∃(k:Nat) (R:List Th) (xs:List xU) (vT:Value) (nx:Nat) (code:List dV) (v:Value) (b:Int) (lc:List ByteArray) (al:Option Addr) (cl:Nat),i= .int .i64 k∧k+R.length=p.ts.length∧sQ W p.ts 0=xs.map xU.t++sQ W R nx∧xs.length=k∧(∀x∈xs,x.is.length<=1000000000000)∧iH 72 wr L W s lc al cl v code (nx:Nat) b∧BD L.B1 wr vT xs∧
  wr.heap[bc]? =some (.cells #[.slice s.aC W.cs.length s.cC,.slice s.aL W.ls.length s.cL,.slice s.aN W.ns.length s.cN,.slice s.aF W.fs.length s.cF,.slice s.aT W.ts.length s.cT,.slice s.aS W.ss.length s.cS,vT] 37 (0,0))∧iJ wr bc R aM k∧Below bc w5 wr∧nx+EF R<=EF p.ts∧(∀t∈R,t∈p.ts)) (λ_ i _=>p.ts.length -(intOf i).toNat)
 case atStart=>exact⟨0,p.ts,[],.slice none 0 0,0,[],_,0,[],none,0,rfl,by simp,by simp,rfl,by simp,MN.o,Grow.nil _ _ _ _ _ _,Aw.o,rT.o,ak _ _,by simp,λt h=>h⟩
 case round=>
  obtain⟨k,R,xs,vT,nx,code,v,b,lc,al,cl,rfl,hlen,heq,hxl,hxs,hge,hgr,hbx,hth,hbel,hwt,hmem⟩:=hrel;have HE:=ah heq;have HG:=ah hge;have Wi:=ah hgr;have HX:=ah hbx;have mq:=ah hbel;have HN:=ah (aI hxl (aI hxs (aI hwt hmem)));clear heq hge hgr hbx hbel hxl hxs hwt hmem MN rT Aw y1;cases R with
  |nil=>
   obtain rfl:k=p.ts.length:=by simpa using hlen
   obtain⟨Gl,Kq,ND,hcc,hat⟩:=Ug Wi.o HN.o.2.1;subst ND;have HAT:=ah hat;have HCAP:=ah hcc;have Zj:=ah ((mq.o.block (bp+1) (by have h1:=(aO Jk.o);have h2:=Ao.o;omega)).trans ((nN.o.block _ (aO Jk.o)).trans Jk.o));have hxl:xs.length=p.ts.length:=HN.o.1;have OJ:aj (sQ W p.ts 0=xs.map xU.t):=ah (by rw[HE.o];simp[sQ]);have Ke:aj (wr.heap[bc]? =some (.cells #[.slice s.aC W.cs.length s.cC,.slice s.aL W.ls.length s.cL,.slice s.aN W.ns.length s.cN,.slice s.aF W.fs.length s.cF,.slice s.aT W.ts.length s.cT,.slice s.aS W.ss.length s.cS,.slice Gl p.ts.length Kq] 37 (0,0))):=ah (by rw[HX.o,hxl]);obtain⟨c0,c1,c2,c3,c4,c5,c6⟩:=IV (Ke.o);obtain⟨r0,r1,r2,r3,r4,r5,r6⟩:=IV Zj.o;obtain⟨rf0,rf1,rf2,rf3,rf4,rf5,rf6⟩:=fr7 Zj.o;have BG:=ah (aG (aO HX.o) (aB _));have hcl:p.ts.length<=Kq:=by rw[hxl]at hcc;exact hcc
   have OI:=ah hcl;clear hat hth hcc hcl;go_wp2_with fail;show bodyPost _ _ _ _ _ (World.setCells wr (bp+1) 0 [.slice s.aC W.cs.length s.cC,.slice s.aL W.ls.length s.cL,.slice s.aN W.ns.length s.cN,.slice s.aF W.fs.length s.cF,.slice s.aT W.ts.length s.cT,.slice s.aS W.ss.length s.cS,.slice Gl p.ts.length Kq]);generalize Tw:World.setCells wr _ _ _=wz;obtain⟨WA,tF,vo⟩:=au7 Tw Zj.o rfl;clear Tw;have HW3:aj (bp+1<bc):=ah (by have h1:=(aO Jk.o);have h2:=Ao.o;omega);have Wu:aj (Below w.heap.size w wz):=ah (((HB3.o.trans (nN.o.mono HB3.o.size)).trans (mq.o.mono (by have h1:=HB3.o.size;have h2:=Ao.o;omega))).trans (cZ tF.o (by have:=DW.o;omega) (by have h1:=HB3.o.size;have h2:=nN.o.size;have h3:=mq.o.size;omega)));have HKP:aj (∀k,w2.heap.size<=k->wz.heap[k]? =wr.heap[k]?):=ah (λk hk=>by
    have h1:=HS2.o;by_cases hlt:k<wr.heap.size
    ·exact tF.o.block k hlt (by simp;omega)
    ·have e1:=vo.o;rw[Array.getElem?_eq_none (by omega),Array.getElem?_eq_none (by omega)])
   have HGK:aj (BD L.B1 wz (.slice Gl xs.length Kq) xs):=ah (Wi.o.next ⟨tF.o.size,λk h1 h2=>tF.o.block k h2 (by have h3:=HL.o;have h4:=HW3.o;simp;omega)⟩);have HWK:aj (iO wz wz.heap.size W s):=ah ((iO.keep HG.o.wo HNW.o HKP.o).mono (by have h1:=HG.o.b0;exact aP h1 tF.o.size));obtain⟨o0,o1,o2,o3,o4,o5,o6⟩:=IV WA.o;obtain⟨aoQ,cpQ,hvQ,-,aI5⟩:=Ug HGK.o HN.o.2.1;injection hvQ with aa1 aa2 aa3;subst aa1;have bk5:=ah aI5;clear aI5 aa2 aa3;have hWP:=bn9.o;subst hWP;exact bodyPost_ret (v:= .tuple #[.agg #[.slice s.aC (jU p).cs.length s.cC,.slice s.aL (jU p).ls.length s.cL,.slice s.aN (jU p).ns.length s.cN,.slice s.aF (jU p).fs.length s.cF,.slice s.aT (jU p).ts.length s.cT,.slice s.aS (jU p).ss.length s.cS,.slice Gl p.ts.length Kq],.int .i64 0,.int .i64 0]) (by simp[results,Tryz.results5,go_sem,o0,o1,o2,o3,o4,o5,o6]) rfl ⟨s,Gl,Kq,rfl,HWK.o,by rw[OJ.o];exact bk5.o,OI.o,Wu.o⟩
  |cons t R=>
   obtain⟨⟨b1,off,iR,eX,dH,cu,hao,mV,x0,x1,x2,x3,hok,htx,hst,hcl⟩,hrest⟩:=hth;have zF:=ah hao;subst hao;simp only[aA]at hlen;have hkl:k<p.ts.length:=by omega
   have mQ:=ah hrest;have vP:=ah (aI hst (aI hok.2.2.2 htx));have zV:=HN.o.2.2.2 t aV;have IC:aj (t.cO.length<=4∧gN t.body=true∧t.body.Ev (QK W)):=ah ⟨HLC.o t zV,HSP.o t zV,by have h1:=kU.o t zV;have h2:=RY.o.2 t zV;exact(h1.and h2)⟩;have zM:aj (nx+(oV t.body+EF R)<=100000000000∧nx+(oV t.body+EF R)<=EF p.ts):=ah (by have h1:=HN.o.2.2.1;have h2:=RY.o.1;simp only[EF]at h1;omega);clear hrest hok htx hst hcl zV;go_upto_region 9 with fail;generalize yV:World.alloc wr _=w6;obtain⟨nb,hnb,dG,-,Pj,-⟩:=oO yV;have jE:aj (L.B1<=nb∧nb<w6.heap.size):=ah ⟨by rw[<- hnb];exact HG.o.sz,(aO Pj.o)⟩;have JZ:=ah (HG.o.below dG.o);have bk8:=ah (Wi.o.next (bL dG.o));have HX6:=ah ((dG.o.block bc (aO HX.o)).trans HX.o);have aA0:aj (Below bc wr w6):=ah (dG.o.mono (cB (aO HX.o)));rw[hnb];clear yV hnb x0 x1 x2 x3;have x2:=aQ (j:=2) Pj.o rfl;have hg0:=JZ.o.cells.1;have c6:=JZ.o.cells.2.2.2.2.2.2.2.1;have f6:=JZ.o.cells.2.2.2.2.2.2.2.2.2.2.2 6;have vR:aj (L.B0=bc∧bc+1=L.gb∧L.B1=bc+2):=HL;go_upto_region 10 with fail;generalize Ny:World.setCell w6 _ _=w7;have MO:aj (iH 72 w7 L W s t.cO iR eX v code (nx:Nat) b):=ah (by rw[<- Ny];exact JZ.o.bw3 eX (by rw[vR.o.1];exact vP.o.2.2.below aA0.o) (by have:=IC.o.1;omega));have bk9:aj (BD L.B1 w7 vT xs):=ah (by rw[<- Ny];exact bk8.o.next (iF _ _ _ L.b1));have qG:=ah ((show w7.heap[bc]? =w6.heap[bc]? by rw[<- Ny];exact bf _ _ _ rfl (by show L.gb≠bc;have:=vR.o;omega)).trans HX6.o);have bp1:=ah ((show w7.heap[nb]? =w6.heap[nb]? by rw[<- Ny];exact bf _ _ _ rfl (by show L.gb≠nb;have:=vR.o;have:=jE.o;omega)).trans Pj.o);have bl9:aj (Below bc wr w7):=ah (by rw[<- Ny];exact aA0.o.trans (cZ (bY _ _ _) (by show bc<=L.gb;have:=vR.o;omega) (aP (cB (aO HX.o)) dG.o.size)));clear Ny c6 f6 hg0 x2;have hg0:=MO.o.cells.1;obtain⟨ao7,EN,hv7,-,-⟩:=MO.o.form;have c7:=MO.o.cells.2.2.2.2.2.2.2.2.1;rw[hv7]at c7;have f7:=MO.o.cells.2.2.2.2.2.2.2.2.2.2.2 7;go_upto_region 11 with fail;generalize uD:World.setCell w7 _ _=w8;have HG8:aj (iH 72 w8 L W s t.cO iR eX (.slice none 0 0) [] (nx:Nat) b):=ah (by rw[<- uD];exact MO.o.bw4);have bl0:aj (BD L.B1 w8 vT xs):=ah (by rw[<- uD];exact bk9.o.next (iF _ _ _ L.b1));have G8:=ah ((show w8.heap[bc]? =w7.heap[bc]? by rw[<- uD];exact bf _ _ _ rfl (by show L.gb≠bc;have:=vR.o;omega)).trans qG.o);have bp2:=ah ((show w8.heap[nb]? =w7.heap[nb]? by rw[<- uD];exact bf _ _ _ rfl (by show L.gb≠nb;have:=vR.o;have:=jE.o;omega)).trans bp1.o);have aA1:aj (Below bc wr w8):=ah (by rw[<- uD];exact bl9.o.trans (cZ (bY _ _ _) (by show bc<=L.gb;have:=vR.o;omega) (cB (aO qG.o))));clear uD c7 f7 hg0 hv7;have x3:=aQ (j:=3) bp2.o rfl;go_wp2_with fail;refine(Xi t.body w8 L W s t.cO iR eX (.slice none 0 0) [] b nx dH cu HG8.o vP.o.2.1 (by rw[vR.o.1];exact vP.o.1.below aA1.o) IC.o.2.1 IC.o.2.2 (by have:=zM.o.1;simp only[aW];omega) (by have:=zM.o.1;omega)).mono ?_;rintro e w9 ⟨rfl,hem⟩;obtain⟨v9,a9,b9,oQ,TB,hk9,ho9⟩:=hem;have oQ:a9=((nx+gF t.body:Nat):Int):=oQ;subst oQ;rw[List.nil_append,aW]at TB;have MP:=ah (sV W t.cO t.body nx 0);have P7:=ah (Lh (W:=W) (lc:=t.cO) (by have:=IC.o.1;omega) t.body nx 0 IC.o.2.2);have HCO:aj (sQ W p.ts 0=xs.map xU.t++(⟨AY (kr W t.cO t.body nx 0++[⟨28,0,0,0,0,-1⟩]) t.cO.length,kr W t.cO t.body nx 0++[⟨28,0,0,0,0,-1⟩]⟩::sQ W R (nx+gF t.body))):=ah HE.o;generalize kr W t.cO t.body nx 0=GC at *;have DX:=ah TB;have HK9:=ah hk9;have HO9:=ah ho9;clear TB hk9 ho9 x3;have c9:=DX.o.cells.2.2.2.2.2.2.2.2.2.2.1;have f9:=DX.o.cells.2.2.2.2.2.2.2.2.2.2.2 9;have hg0:=DX.o.cells.1;go_upto_region 13 with fail;generalize hWA:World.setCell w9 _ _=wa;have nP:aj (iH 72 wa L W s t.cO iR eX v9 GC ((nx+gF t.body:Nat):Int) (-1)):=ah (by rw[<- hWA];exact DX.o.jw (-1));have HKA:aj (Kg L (.slice none 0 0) w8 wa):=ah (by rw[<- hWA];exact HK9.o.trans HO9.o (Kg.set _ _ _));clear hWA c9 f9 hg0;have hg0:=nP.o.cells.1;go_wp2_with fail;refine(iK nP.o ⟨28,0,0,0,0,0⟩ (by have h1:=MP.o;have h2:=zM.o.1;omega)).mono ?_;rintro e wb ⟨rfl,ve,hge,hke,hoe⟩;have OQ:aj (iH 72 wb L W s t.cO iR eX ve (GC++[⟨28,0,0,0,0,-1⟩]) ((nx+gF t.body:Nat):Int) (-1)):=ah hge;have MR:aj (Kg L (.slice none 0 0) w8 wb):=ah (HKA.o.trans HO9.o hke);clear hge hke hoe hg0;have HRE:aj (lI (GC++[⟨28,0,0,0,0,-1⟩])):=ah (au5 P7.o);have tY:aj ((GC++[(⟨28,0,0,0,0,-1⟩:dV)]).length<=1000000000000):=ah (by have h1:=MP.o;have h2:=zM.o.1;simp only[ay,aA,aW];omega);generalize GC++[⟨28,0,0,0,0,-1⟩]=GD at *;have C8:=ah ((MR.o.block bc (aO G8.o) (by have:=vR.o;omega) (by simp[Value.ownBlock])).trans G8.o);have az1:=ah (bl0.o.next ⟨MR.o.size,λq h1 h2=>MR.o.block q h2 (by have:=L.b1;omega) (by simp[Value.ownBlock])⟩);have bm1:aj (Below bc wr wb):=ah (aA1.o.trans ⟨MR.o.os,MR.o.tape,MR.o.output,MR.o.size,λq hq=>MR.o.block q (Nat.lt_trans hq (aO G8.o)) (by have:=vR.o;omega) (by simp[Value.ownBlock])⟩);obtain⟨Gl,Kq,ND⟩:=az1.o.len;obtain⟨jJ,SY,hvE,-,-⟩:=OQ.o.form;have N8:=ah ND;have HVE:=ah hvE;have hxc:=aQ (j:=6) C8.o rfl;have hxe:=OQ.o.cells.2.2.2.2.2.2.2.2.1;simp only[List.getElem_toArray,List.getElem_cons_zero,List.getElem_cons_succ]at hxc;rw[ND]at hxc;rw[hvE]at hxe;have MI:=ah (aI (aO C8.o) (aI hxc (aI OQ.o.cells.1 hxe)));clear ND hvE hxc hxe;go_upto_region 14 with fail;have V0:=ko MI.o.1 MI.o.2.1;have V1:=ko MI.o.2.2.1 MI.o.2.2.2;refine dI (by kernel_rfl) rfl ?_;refine dw 0 10 [] [[],[0],[],[2],[],[4],[4,5],[4,5,6],[2,3,4,5,6,7],[2,3,4,5,6,7,8],[0,1,2,3,4,5,6,7,8,9],[0,1,2,3,4,5,6,7,8,9,10],[0,1,2,3,4,5,6,7,8,9,10,11]] [[],[],[],[],[],[],[],[],[],[]] (λ_ w'=>Below wb.heap.size wb w') (λw w'=>Below w.heap.size w w') [53,54,55,56,57,58,59,60,61,62] rfl rfl (by rfl) (by kernel_rfl) (by kernel_rfl) (by kernel_rfl) (by kernel_rfl) (by kernel_rfl) (by rfl) (λ_=>ak _ _) (by rfl) (below_drewN (ak _ _) 1) ?_;simp only[iW,mU]
   iterate 3
    apply bS.step
    case bg=>intro c A w' hok hC hO hD;have e7:=hO 7 (by rfl);have e8:=hO 8 (by rfl);simp[Act.eval]at e7 e8;simp[Act.eval]at hD;simp[go_sem,gd,Oper.wp,hD,e7,e8,V0,hC];exact aR.mk (ak _ _) hC (bZ.mk _ _)
    try simp only[dR]
   refine bS.some (λv _=>v= .int .i64 (AY GD t.cO.length)) (λ_ _ _ _ h=>h) ?_ ?_
   ·intro c A w' hok hC hO hD;simp[Act.eval]at hD;simp[go_sem,gd,Oper.wp,hD];refine(Xk (OQ.o.below hC) HRE.o).mono ?_;rintro e w5 ⟨rfl,hb⟩;exact aR.mk hb (hC.trans (hb.mono hC.size)) rfl
   try simp only[dR]
   iterate 5
    apply bS.step
    case bg=>intro c A w' hok hC hO hD;have e8:=hO 8 (by rfl);simp[Act.eval]at e8;simp[Act.eval]at hD;simp[go_sem,gd,Oper.wp,hD,e8,V1,hC];exact aR.mk (ak _ _) hC (bZ.mk _ _)
    try simp only[dR]
   refine bS.some (λv w'=>BbQ (AY GD t.cO.length) jJ GD.length SY v w') ?_ ?_ ?_
   ·rintro v wx wy hle ⟨bb,rfl,hbb⟩;exact⟨bb,rfl,(hle.block bb (aO hbb)).trans hbb⟩
   ·intro c A w' hok hC hO hD;simp[Act.eval]at hD;simp[go_sem,gd,Oper.wp,hD];exact aR.mk (d:=_) (v:= .slice (some ⟨_,0,none⟩) 1 1) (au _ _) (hC.trans ((au _ _).mono hC.size)) ⟨_,rfl,heap_alloc_new _ _⟩
   try simp only[dR]
   try simp only[dR]
   refine bS.done ?_;intro wz dF
   try simp only[iW]
   iterate 9 refine nX ?_
   intro v9 h9;obtain⟨bb,rfl,hbb⟩:=h9;refine zB ?_;go_simp;have jH:=ah dF;have FT:=ah hbb;clear V0 V1 dF hbb;have Sb:=ah (az1.o.next (bL jH.o));have OM:=ah (OQ.o.below jH.o);refine fD 10 [[],[0],[],[2],[],[4],[4,5],[4,5,6],[2,3,4,5,6,7],[2,3,4,5,6,7,8],[0,1,2,3,4,5,6,7,8,9],[0,1,2,3,4,5,6,7,8,9,10],[0,1,2,3,4,5,6,7,8,9,10,11]] rfl rfl rfl rfl rfl (by kernel_rfl) (by kernel_rfl) (by kernel_rfl) ?_;obtain⟨i0,hi0,hz0,hz1,hz2⟩:=infoP aN9;have hk0:xs.length<=4:=by have:=HN.o.1;omega
   refine wp_append_lies wz _ _ _ (by rfl) L.B1 79 i0 _ 2 32 Tryz.underlying35 hi0 hz0 hz1 hz2 (by rfl) (by omega) (.slice Gl xs.length Kq) xs.length (xs.flatMap Uh) (by rfl) (by rw[<- N8.o];exact Sb.o.own) ⟨bb,0,none⟩ 1 1 (Uh ⟨AY GD t.cO.length,GD,jJ,SY⟩) (by rfl) (by rfl) (iM FT.o) (bw6 _) (by decide) (by unfold maxLen;omega) (by omega) OM.o.sz _ rfl ?_;intro g' cap' wd hown hgr hmv nY;have ax4:aj (∀q,vT.ownBlock=some q->ve.ownBlock≠some q):=ah (VF Sb.o.own OM.o.row (by decide));have xM:aj (BD L.B1 wd (.slice (some ⟨g',0,none⟩) (xs.length+1) cap') (xs++[⟨AY GD t.cO.length,GD,jJ,SY⟩])):=ah (Sb.o.push (x:=⟨AY GD t.cO.length,GD,jJ,SY⟩) (by have:=OM.o.row;rw[HVE.o]at this;exact av9 this (λq hq e=>ax4.o q e (by rw[HVE.o];exact hq))) rfl hown (by rw[N8.o];exact hgr) (by rw[N8.o];exact hmv));have OP:aj (iH 72 wd L W s t.cO iR eX ve GD ((nx+gF t.body:Nat):Int) (-1)):=ah (OM.o.far hgr (λq hq=>by have h1:=(Sb.o.lt q (by rw[N8.o];exact hq)).1;exact⟨by have:=L.b0;have:=L.b1;omega,by have:=L.b1;omega,ax4.o q (by rw[N8.o];exact hq)⟩));have Kh:aj (wd.heap[bc]? =some (.cells #[.slice s.aC W.cs.length s.cC,.slice s.aL W.ls.length s.cL,.slice s.aN W.ns.length s.cN,.slice s.aF W.fs.length s.cF,.slice s.aT W.ts.length s.cT,.slice s.aS W.ss.length s.cS,.slice Gl xs.length Kq] 37 (0,0))):=ah ((hgr.block bc (aG MI.o.1 jH.o.size) (λe=>by have h1:=(Sb.o.lt bc (by rw[N8.o];exact e.symm)).1;have:=vR.o;omega)).trans ((jH.o.block bc MI.o.1).trans (by rw[C8.o,N8.o])));have bm2:aj (Below bc wr wd):=ah ((bm1.o.trans (jH.o.mono (cB MI.o.1))).trans ⟨hgr.os,hgr.tape,hgr.output,hgr.size,λq hq=>hgr.block q (by have:=MI.o.1;have:=jH.o.size;omega) (λe=>by have h1:=(Sb.o.lt q (by rw[N8.o];exact e.symm)).1;have:=vR.o;omega)⟩);clear hown hgr hmv nY hi0 hz0 hz1 hz2 hk0;have cj:=aQ (j:=6) Kh.o rfl;simp only[List.getElem_toArray,List.getElem_cons_zero,List.getElem_cons_succ]at cj;have fj:=bH (o:=6) Kh.o;have aI9:=(aO Kh.o);go_simp;refine fD 11 [[],[0],[],[2],[],[4],[4,5],[4,5,6],[2,3,4,5,6,7],[2,3,4,5,6,7,8],[0,1,2,3,4,5,6,7,8,9],[0,1,2,3,4,5,6,7,8,9,10],[0,1,2,3,4,5,6,7,8,9,10,11]] rfl rfl rfl rfl rfl (by kernel_rfl) (by kernel_rfl) (by kernel_rfl) ?_;simp[go_sem,Oper.wp];refine fD 12 [[],[0],[],[2],[],[4],[4,5],[4,5,6],[2,3,4,5,6,7],[2,3,4,5,6,7,8],[0,1,2,3,4,5,6,7,8,9],[0,1,2,3,4,5,6,7,8,9,10],[0,1,2,3,4,5,6,7,8,9,10,11]] rfl rfl rfl rfl rfl (by kernel_rfl) (by kernel_rfl) (by kernel_rfl) ?_;simp[go_sem,Oper.wp,cj,fj];refine eO rfl ?_;go_simp;generalize hWf:World.setCell wd _ _=wf;have HGf:aj (iH 72 wf L W s t.cO iR eX ve GD ((nx+gF t.body:Nat):Int) (-1)):=ah (by rw[<- hWf];exact OP.o.far (bY _ _ _) (λq hq=>by injection hq with hq;have hq:bc=q:=hq;subst hq;refine⟨by have:=vR.o;omega,by have:=vR.o;omega,λe=> ?_⟩;have:=(OP.o.own bc e).1;have:=vR.o;omega));have HPf:aj (BD L.B1 wf (.slice (some ⟨g',0,none⟩) (xs.length+1) cap') (xs++[⟨AY GD t.cO.length,GD,jJ,SY⟩])):=ah (by rw[<- hWf];exact xM.o.next (iF _ _ _ (by show bc<L.B1;have:=vR.o;omega)));have HXf:aj (wf.heap[bc]? =some (.cells #[.slice s.aC W.cs.length s.cC,.slice s.aL W.ls.length s.cL,.slice s.aN W.ns.length s.cN,.slice s.aF W.fs.length s.cF,.slice s.aT W.ts.length s.cT,.slice s.aS W.ss.length s.cS,.slice (some ⟨g',0,none⟩) (xs.length+1) cap'] 37 (0,0))):=ah (by rw[<- hWf];exact rP Kh.o _ rfl);have aA2:aj (Below bc wr wf):=ah (by rw[<- hWf];exact bm2.o.trans (cZ (bY _ _ _) (aB _) (cB aI9)));clear hWf cj fj aI9;go_wp2_with fail;go_roundw
   case rel=>
    refine⟨k+1,R,xs++[⟨AY GD t.cO.length,GD,jJ,SY⟩],_,nx+gF t.body,GD,ve,-1,t.cO,iR,eX,by go_num,by omega,?_,by rw[ay,HN.o.1];rfl,?_,HGf.o,HPf.o,HXf.o,mQ.o.below aA2.o,mq.o.trans aA2.o,?_,λx hx=>HN.o.2.2.2 x (aX _ hx)⟩
    ·rw[HCO.o];simp[xU.t]
    ·intro x hx;rcases List.mem_append.1 hx with hx|hx
     ·exact HN.o.2.1 x hx
     ·rw[List.mem_singleton.1 hx];exact tY.o
    ·have h1:=zM.o.2;have h2:=xW t.body;omega
   case measure=>simp[intOf];omega
end Go.Proofs.YtmildapbbcbbhaaGreatDoor
