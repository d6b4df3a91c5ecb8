/- The reference's At: the place of a text in a row. And what hangs on it. -/
import Derived.Test.YtcjgfgkllmldpaaGreatDoorGME
import Derived.Test.YtcjgfgkllmldpaaGreatDoorGPC
set_option linter.unusedSimpArgs false
set_option linter.unusedVariables false
set_option maxHeartbeats 40000000
set_option maxRecDepth 1000000
namespace Go.Proofs.YtcjgfgkllmldpaaGreatDoor
open Go.RowKit
namespace Md
def fidx {α:Type} (f:α->Bool):List α->Nat->Int
 | [],_=> -1
 |x::r,k=>if f x then(k:Int)else fidx f r (k+1)
theorem qw {α:Type} (f:α->Bool): ∀(l:List α) (k:Nat),(fidx f l k= -1∧l.find? f=none∧l.any f=false)∨∃(j:Nat) (d:α) (r:List α),j<l.length∧fidx f l k=((k+j:Nat):Int)∧l.drop j=d::r∧l.find? f=some d∧l.any f=true
 | [],_=>Or.inl ⟨rfl,rfl,rfl⟩
 |x::r,k=>by
  cases h:f x
  ·rcases qw f r (k+1)with⟨h1,h2,h3⟩|⟨j,d,r',h0,h1,h2,h3,h4⟩
   ·exact Or.inl ⟨by simp[fidx,h,h1],by simp[h,h2],by simp[h,h3]⟩
   ·exact Or.inr ⟨j+1,d,r',ahi,by simp only[fidx,h];rw[if_neg ahg,h1];omega,aho,by simp[h,h3],by simp[h,h4]⟩
  ·exact Or.inr ⟨0,x,r,ahh,by simp[fidx,h],rfl,by simp[h],by simp[h]⟩
def MQ (l:List ByteArray) (nm:ByteArray):Int:=fidx (λs=>s.toList==nm.toList) l 0
end Md
open Md
theorem jK (l:List ByteArray) (nm:ByteArray) (w:World) (ao:Option Addr) (cap:Nat) (hl:l.length<=maxLen) (hw:fT w w.heap.size l ao 0):
 Calls Tryz.prog 36 #[.slice ao l.length cap,.string nm] w λe w'=>e= .returned (.int .i64 (MQ l nm))∧w=w':=by
 unfold maxLen at hl;go_enter Tryz.func36,Tryz.ntmps36;go_wp2_with fail;go_loop [5] (λs=> ∃(k:Nat) (R:List ByteArray),s= .int .i64 k∧k+R.length=l.length∧MQ l nm=fidx (λs=>s.toList==nm.toList) R k∧fT w w.heap.size R ao k) (λs=>l.length -(intOf s).toNat)
 case atStart=>exact⟨0,l,rfl,ahh,rfl,hw⟩
 case round=>
  obtain⟨k,R,rfl,hlen,heq,hrow⟩:=hrel;have HE:=ah heq;clear heq;cases R with
  |nil=>
   exact Abv
  |cons s R=>
   obtain⟨⟨b,off,rfl,hB,y0,hs⟩,hrest⟩:=hrow;simp only[aB]at hlen;have hkl:k<l.length:=ahf
   cases hc:(s.toList==nm.toList)
   ·have dP:=ah (HE.o.trans (if_neg (show ¬(s.toList==nm.toList)=true by rw[hc];decide)));exact AbA
   ·have dP:=ah (HE.o.trans (if_pos hc));go_wp2_with fail;go_ret;exact⟨dh dP.o.symm,rfl⟩
namespace Md
def Bc (l:List De) (nm:ByteArray):Int:=fidx (λd=>d.nm.toList==nm.toList) l 0
def qV (l:List Th) (nm:ByteArray):Int:=fidx (λt=>t.nm.toList==nm.toList) l 0
def conv (m:Int):Int:=if m==0 then 0 else if m==1 then 8 else if m==9 then 9 else m -1
def gV (k a b:Int):Int:=if k==0 then 5 else if(k != a)&&(k != b)then 6 else 0
theorem Dh (p:Pr) (i:Int) (nm:ByteArray):0<=mean p i nm∧mean p i nm<=9:=by
 unfold mean qK uE;split
 ·decide
 ·cases p.ds.find? (λd=>d.nm.toList==nm.toList)with
  |none=>simp;split <;> decide
  |some d=>have:=uP d;simp;omega
theorem ten {m:Int} (h:0<=m∧m<=9):m=0∨m=1∨m=2∨m=3∨m=4∨m=5∨m=6∨m=7∨m=8∨m=9:=ahf
theorem Ie {m a:Int} (hm:0<=m∧m<=9) (ha:0<=a∧a<=9):(conv m==conv a)=(m==a):=by
 rcases ten hm with rfl|rfl|rfl|rfl|rfl|rfl|rfl|rfl|rfl|rfl <;> rcases ten ha with rfl|rfl|rfl|rfl|rfl|rfl|rfl|rfl|rfl|rfl <;> rfl
theorem QX {m:Int} (hm:0<=m∧m<=9):(conv m==0)=(m==0):=Ie hm (a:=0) ahg
theorem VK (m a:Int) (hm:0<=m∧m<=9) (ha:0<=a∧a<=9):gV (conv m) (conv a) (conv a)=gU m [a]:=by
 unfold gV gU bne;rw[QX hm,Ie hm ha];simp only[List.any_cons,List.any_nil,Bool.or_false];cases h:(m==a) <;> rfl
theorem VL (m a b:Int) (hm:0<=m∧m<=9) (ha:0<=a∧a<=9) (hb:0<=b∧b<=9):gV (conv m) (conv a) (conv b)=gU m [a,b]:=by
 unfold gV gU bne;rw[QX hm,Ie hm ha,Ie hm hb];simp only[List.any_cons,List.any_nil,Bool.or_false];cases h:(m==a) <;> cases h':(m==b) <;> rfl
end Md
theorem pJ (l:List De) (nm:ByteArray) (w:World) (ao:Option Addr) (cap:Nat) (hl:l.length<=maxLen) (hw:jG w w.heap.size l ao 0):
 Calls Tryz.prog 80 #[.slice ao l.length cap,.string nm] w λe w'=>e= .returned (.int .i64 (Bc l nm))∧w=w':=by
 unfold maxLen at hl;go_enter Tryz.func80,Tryz.ntmps80;go_wp2_with fail;go_loop [5] (λs=> ∃(k:Nat) (R:List De),s= .int .i64 k∧k+R.length=l.length∧Bc l nm=fidx (λd=>d.nm.toList==nm.toList) R k∧jG w w.heap.size R ao k) (λs=>l.length -(intOf s).toNat)
 case atStart=>exact⟨0,l,rfl,ahh,rfl,hw⟩
 case round=>
  obtain⟨k,R,rfl,hlen,heq,hrow⟩:=hrel;have HE:=ah heq;clear heq;cases R with
  |nil=>
   exact Abv
  |cons s R=>
   obtain⟨⟨b,off,rfl,hB,y0,y1,y2,y3,y4,y5,hs⟩,hrest⟩:=hrow;simp only[aB]at hlen;have hkl:k<l.length:=ahf
   exact AaZ
theorem jo (l:List Th) (nm:ByteArray) (w:World) (ao:Option Addr) (cap:Nat) (hl:l.length<=maxLen) (hw:iP w w.heap.size l ao 0):
 Calls Tryz.prog 81 #[.slice ao l.length cap,.string nm] w λe w'=>e= .returned (.int .i64 (qV l nm))∧w=w':=by
 unfold maxLen at hl;go_enter Tryz.func81,Tryz.ntmps81;go_wp2_with fail;go_loop [5] (λs=> ∃(k:Nat) (R:List Th),s= .int .i64 k∧k+R.length=l.length∧qV l nm=fidx (λd=>d.nm.toList==nm.toList) R k∧iP w w.heap.size R ao k) (λs=>l.length -(intOf s).toNat)
 case atStart=>exact⟨0,l,rfl,ahh,rfl,hw⟩
 case round=>
  obtain⟨k,R,rfl,hlen,heq,hrow⟩:=hrel;have HE:=ah heq;clear heq;cases R with
  |nil=>
   exact Abv
  |cons s R=>
   obtain⟨⟨b,off,iO,eF,dR,dA,rfl,hB,y0,y1,y2,y3,hs,ht,hst⟩,hrest⟩:=hrow;simp only[aB]at hlen;have hkl:k<l.length:=ahf
   clear hs ht hst;exact AaZ
theorem ax9 {p:Pr} {i:Int} {nm:ByteArray} (h:sN (rO p.ts i) nm=true):conv (mean p i nm)=8:=by unfold mean;rw[h];rfl
theorem ax8 {p:Pr} {i:Int} {nm:ByteArray} {d:De} (h:sN (rO p.ts i) nm=false) (hd:p.ds.find? (λd=>d.nm.toList==nm.toList)=some d):conv (mean p i nm)=conv (gM d):=by
 unfold mean qK;rw[h,hd];rfl
theorem ay0 {p:Pr} {i:Int} {nm:ByteArray} {b:Bool} (h:sN (rO p.ts i) nm=false) (hd:p.ds.find? (λd=>d.nm.toList==nm.toList)=none) (ht:p.ts.any (λt=>t.nm.toList==nm.toList)=b):conv (mean p i nm)=if b then 7 else 0:=by
 unfold mean qK uE;rw[h,hd,ht];cases b <;> rfl
theorem ae6 (d:De):conv (gM d)=if d.kind==1 then(if d.size != 0 then 2 else 1)else if d.kind==2 then 1 else if(d.kind==3||d.kind==4)||(d.kind==5||d.kind==6)then d.kind else 9:=by
 by_cases h1:d.kind=1
 ·by_cases h0:d.size=0 <;> simp[gM,conv,h1,h0]
 by_cases h2:d.kind=2
 ·simp[gM,conv,h2]
 by_cases h3:d.kind=3
 ·simp[gM,conv,h3]
 by_cases h4:d.kind=4
 ·simp[gM,conv,h4]
 by_cases h5:d.kind=5
 ·simp[gM,conv,h5]
 by_cases h6:d.kind=6
 ·simp[gM,conv,h6]
 simp[gM,conv,h1,h2,h3,h4,h5,h6]
theorem YJ (p:Pr) (i:Int) (nm:ByteArray) (w:World) (aQ aR:Option Addr) (aJ aH:Nat) (hi:cO i) (hp:p.At w aQ aR):
 Calls Tryz.prog 148 #[.agg #[.slice aQ p.ds.length aJ,.slice aR p.ts.length aH],.int .i64 i,.string nm] w λe w'=>e= .returned (.int .i64 (conv (mean p i nm)))∧Below w.heap.size w w':=by
 obtain⟨i1,i2⟩:=hi;have hld:=hp.1;have hlt:=hp.2.1;have Zf:=hp.1;have hlt':=hp.2.1;unfold maxLen at hld hlt;have HP:=ah hp;clear hp;go_enter Tryz.func148,Tryz.ntmps148;go_upto_region 1 with fail;generalize hW:World.alloc w _=W;generalize Value.agg #[_,_]=a0;have HX:=ah ((Sit.start w).yP rfl (.slice aQ p.ds.length aJ) (.slice aR p.ts.length aH) 52);rw[hW]at HX;clear hW;obtain⟨c0,c1,-⟩:=HX.o.cs;go_cut [27] (λs W2=>W=W2∧s= .bool (sN (rO p.ts i) nm))
 case first=>
  cases hbi:decide (0<=i∧i<p.ts.length)
  ·have HN:aj (sN (rO p.ts i) nm=false):=ah (by rw[Mt (by simpa using hbi)];rfl);rcases(show i<0∨(0<=i∧(p.ts.length:Int)<=i) by simp at hbi;omega)with h|⟨h,h'⟩
   all_goals clear hbi
   all_goals go_wp2_with fail
   all_goals go_meet
   all_goals exact⟨rfl,by rw[HN.o]⟩
  ·have bd3:0<=i∧i<p.ts.length:=by simpa using hbi
   clear hbi;obtain⟨j,rfl⟩:=Int.eq_ofNat_of_zero_le bd3.1;have hj:j<p.ts.length:=ahf
   have hth:=(HP.o.same HX.o.1).2.2.2.drop j;cases hd:p.ts.drop j with
   |nil=>exfalso;have:=congrArg List.length hd;simp at this;omega
   |cons t r=>
    rw[hd,aU]at hth;have HL:=ah (OM hd);clear hd bd3;obtain⟨⟨b,off,iO,eF,dR,dA,rfl,hB,x0,x1,x2,x3,hok,htx,hst⟩,-⟩:=hth;have hll:=hok.2.2.1;clear hst hok;go_wp2_with fail;refine(jK t.cZ nm _ iO eF hll htx).mono ?_;rintro e w2 ⟨rfl,rfl⟩;rcases qw (λs:ByteArray=>s.toList==nm.toList) t.cZ 0 with⟨h1,h2,h3⟩|⟨j',d,r',h0,h1,h2,h3,h4⟩
    ·have HT:aj (sN (rO p.ts j) nm=false):=ah (by rw[HL.o];exact h3);have h1':MQ t.cZ nm= -1:=h1;rw[h1'];clear h1 h2 h3 h1';go_wp2_with fail;go_meet;exact⟨rfl,by rw[HT.o]⟩
    ·have HT:aj (sN (rO p.ts j) nm=true):=ah (by rw[HL.o];exact h4);have h1':MQ t.cZ nm=(j':Int):=agF;rw[h1'];clear h1 h2 h3 h1' h4;go_wp2_with fail;go_meet;exact⟨rfl,by rw[HT.o]⟩
 case rest=>
  obtain⟨rfl,rfl⟩:=hcut;cases hloc:sN (rO p.ts i) nm
  ·go_wp2_with fail;refine(pJ p.ds nm _ aQ aJ Zf (HP.o.same HX.o.1).2.2.1).mono ?_;rintro e w2 ⟨rfl,rfl⟩;rcases qw (λd:De=>d.nm.toList==nm.toList) p.ds 0 with⟨h1,h2,h3⟩|⟨j',d,r',h0,h1,h2,h3,h4⟩
   ·have h1':Bc p.ds nm= -1:=h1;rw[h1'];have HK:=ah (λb ht=>ay0 (b:=b) hloc h2 ht);clear h1 h2 h3 h1' hloc;go_wp2_with fail;refine(jo p.ts nm _ aR aH hlt' (HP.o.same HX.o.1).2.2.2).mono ?_;rintro e w2 ⟨rfl,rfl⟩;rcases qw (λd:Th=>d.nm.toList==nm.toList) p.ts 0 with⟨h1,h2,h3⟩|⟨j',d,r',h0,h1,h2,h3,h4⟩
    ·have h1':qV p.ts nm= -1:=h1;rw[h1'];have HK':=ah (HK.o _ h3);clear h1 h2 h3 h1' HK;go_wp2_with fail;go_ret;exact⟨dh HK'.o.symm,HX.o.1⟩
    ·have h1':qV p.ts nm=(j':Int):=agF;rw[h1'];have HK':=ah (HK.o _ h4);clear h1 h2 h3 h1' h4 HK;go_wp2_with fail;go_ret;exact⟨dh HK'.o.symm,HX.o.1⟩
   ·have h1':Bc p.ds nm=(j':Int):=agF;rw[h1'];have HK:=ah ((ax8 hloc h3).trans (ae6 d));have hth:=(HP.o.same HX.o.1).2.2.1.drop j';rw[h2,aU]at hth;obtain⟨⟨b,off,rfl,hB,x0,x1,x2,x3,x4,x5,hok⟩,-⟩:=hth;clear h1 h2 h3 h4 h1' hloc hok;go_wp2_with fail
    all_goals go_ret
    all_goals refine⟨dh (HK.o.trans ?_).symm,HX.o.1⟩
    all_goals (go_light;grind)
  ·have HK:=ah (ax9 hloc);go_wp2_with fail;go_ret;exact⟨dh HK.o.symm,HX.o.1⟩
def VP:Array Value:= #[.int .i64 0,.int .i64 0,.string ⟨#[]⟩,.string ⟨#[]⟩,.slice none 0 0,.int .i64 0,.int .i64 0,.string ⟨#[]⟩,.slice none 0 0,.slice none 0 0,.slice none 0 0]
theorem wu {α:Type} {β:Type} {o:Option TypeInfo} {z:Option Value} {a b:Nat} (h:o.map (λi=>(i.zero,i.size,i.bytes))=some (z,a,b)): ∃i0,o=some i0∧i0.zero=z∧i0.size=a∧i0.bytes=b:=by
 cases o with
 |none=>cases h
 |some i=>simp at h;exact⟨i,rfl,h.1,h.2.1,h.2.2⟩
theorem OD:(Tryz.prog.info? 82).map (λi=>(i.zero,i.size,i.bytes))=some (some (.agg VP),11,176):=ahe
theorem bo5:(Tryz.prog.info? 9).map (λi=>(i.zero,i.size,i.bytes))=some (some (.string ⟨#[]⟩),1,16):=ahe
theorem aJ9:(Tryz.prog.info? 82).map (·.size)=some 11:=ahe
def Xc (T:Tp) (H:Option Nat) (hs:List ByteArray) (w:World) (e:Ending) (w':World):Prop:= ∃(h:dM) (b e':bf) (s:Sl) (H':Option Nat),e= .returned (iG h b e' s)∧A8 h b e'∧iK w.heap.size (Ct H') w' (bU.I ⟨h,b,e',s⟩)∧Hx w H H'∧Mm T H w w'∧eH w' T H' hs
def ac8 (T:Tp) (d:Nat):Prop:= ∀w H hs,eH w T H hs->hs.length+d<=900->Calls Tryz.prog 54 #[.pointer (some ⟨T.bm,0,none⟩),.int .i64 (d:Int)] w (Xc T H hs w)
def Xb (T:Tp) (H:Option Nat) (hs:List ByteArray) (w:World) (e:Ending) (w':World):Prop:= ∃(v:Value) (l:List bU) (H':Option Nat),e= .returned v∧zK w.heap.size H' w' v l∧(∀x∈l,A8 x.h x.b x.e)∧1<=l.length∧l.length<=9∧Hx w H H'∧Mm T H w w'∧eH w' T H' hs
def Gj (T:Tp) (d:Nat):Prop:= ∀w H hs (n:Int),eH w T H hs->hs.length+d<=900->1<=n->n<=9->Calls Tryz.prog 23 #[.pointer (some ⟨T.bm,0,none⟩),.int .i64 (d:Int),.int .i64 n] w (Xb T H hs w)
def TH (T:Tp) (d:Nat):Prop:= ∀w H hs (s:ByteArray),eH w T H hs->hs.length+1+d<=900->s.size<=maxLen->Calls Tryz.prog 92 #[.pointer (some ⟨T.bm,0,none⟩),.string s,.int .i64 (d:Int)] w (Xb T H hs w)
theorem Ec {B:Nat} {w w':World} {g:Option Nat} (h:w.grownBy w' g) (hg: ∀k,g=some k->B<=k) (hB:B<=w.heap.size):Below B w w':=
 ⟨h.os,h.tape,h.output,h.size,λk hk=>h.block k ahf (λe=>by have:=hg k e.symm;omega)⟩
theorem Nt (x:bU): ∀u∈bU.f x,u.oneCell'=true:=by
 intro u hu;simp[bU.f]at hu;rcases hu with rfl|rfl|rfl|rfl|rfl|rfl|rfl|rfl|rfl|rfl|rfl <;> rfl
theorem bq5 (l:List bU): ∀u∈l.flatMap bU.f,u.oneCell'=true:=by
 intro u hu;obtain⟨x,-,h⟩:=List.mem_flatMap.1 hu;exact Nt x u h
theorem Wt (T:Tp) (d:Nat) (hst:ac8 T d):Gj T d:=by
 intro w H hs n hI oz hn1 hn2;have HST:=ah hst;have HI:=ah hI;have bJ:aj (Old T H w.heap.size):=ah hI.old;obtain⟨i0,hi,hz0,hz1,hz2⟩:=wu (α:=Nat) (β:=Nat) OD;have fF:=ah (ay hi (ay hz0 (ay hz1 hz2)));clear hst hI hi hz0 hz1 hz2;go_enter Tryz.func23,Tryz.ntmps23;go_wp2_with fail;go_loopw [7,8] (λv7 v8 wr=> ∃(k:Nat) (l:List bU) (Hr:Option Nat),v8= .int .i64 k∧k<=n.toNat∧l.length=k∧zK w.heap.size Hr wr v7 l∧(∀x∈l,A8 x.h x.b x.e)∧eH wr T Hr hs∧Mm T H w wr∧Hx w H Hr) (λ_ i _=>(n -intOf i).toNat)
 case atStart=>exact⟨0,[],H,rfl,bC _,rfl,kR.nil _ _ _ _ _ _ _,ahh,HI.o,Mm.refl _ _ _,Hx.refl _ _⟩
 case round=>
  obtain⟨k,l,Hr,rfl,hk,hl,hg,hok,hmi,hmk,hhx⟩:=hrel;have HL:=ah hl;have HG:=ah hg;have kK:=ah hok;have HMI:=ah hmi;have HMK:=ah hmk;have HHX:=ah hhx;obtain⟨th,left,qa,qb,qc,qd,vH,Kq,c0,c1,c2,-,-,-,-,-,-,-,-⟩:=hmi.reads;clear hl hg hok hmi hmk hhx Kq c0 c1;by_cases hlt:(k:Int)<n
  ·have hgo:(((k:Int)==0)=true∨(((k:Int)==0)=false∧0<left))∨(((k:Int)==0)=false∧ ¬0<left):=by cases hq:((k:Int)==0) <;> by_cases hp:0<left <;> simp[hp]
   rcases hgo with hgo|⟨hq,hp⟩
   ·rcases hgo with hq|⟨hq,hp⟩
    all_goals
     go_wp2_with fail;refine(HST.o wr Hr hs HMI.o oz).mono ?_;rintro e w1 ⟨h,b,e',s,H1,rfl,UN,UO,hhx,hM,hI1⟩;have rD:=ah (HG.o.next (hM.JM bJ.o.t bJ.o.m) hhx);have aU7:=ah (HMK.o.trans HHX.o hM);have bE4:=ah (HHX.o.trans hhx HMK.o.size);have HI1:=ah hI1;have bF5:=ah UN;have HX:=ah UO;have ql:=ah hM.size;have kW:=ah HG.o.lt;clear hM hI1 UN UO hhx HG c2;unfold iG;have iJ:aj (Below w1.heap.size w1 (w1.alloc (.cells (bU.f ⟨h,b,e',s⟩).toArray 82))):=ah (aA _ _);have kV:=ah (rD.o.next (nJ.of_below iJ.o) (Hx.refl _ _));have iV:=ah (gG (heap_alloc_new w1 (.cells (bU.f ⟨h,b,e',s⟩).toArray 82)));have QD:aj (w.heap.size<=w1.heap.size):=ah aU7.o.size;obtain⟨hi,hz0,hz1,hz2⟩:=fF.o;have hbs:w.heap.size<=w1.heap.size+1:=Nat.le_succ_of_le QD.o;have hkl:l.length+1<=maxLen:=(by rw[HL.o];unfold maxLen;omega);have Fa:(l.length+1)*176<=140737488355328:=aie;go_wp2_with (at_builtin;refine wpList_append_lies _ rfl _ _ 61 rfl w.heap.size 82 i0 _ 11 176 Tryz.underlying61 hi hz0 hz1 hz2 rfl ahg _ _ _ rfl kV.o.own ⟨w1.heap.size,0,none⟩ 1 1 (bU.f ⟨h,b,e',s⟩) rfl rfl iV.o (Nt _) ahg hkl Fa afe _ rfl ?_);clear hi hz0 hz1 hz2;intro g cap w2 hown hgr hmv hlt2;have M8:aj (iK w.heap.size (BI u7.ownBlock H1) (w1.alloc (.cells (bU.f ⟨h,b,e',s⟩).toArray 82)) (bU.I ⟨h,b,e',s⟩)):=ah ((HX.o.weak (X:=BI u7.ownBlock H1) HMK.o.size (λk h1 h2 h3=>by
      rcases h3 with h3|h3
      ·have:=(kW.o k h3).2;omega
      ·exact h3)).go (nJ.of_below iJ.o) (λ_ _ _ e=>e))
     have Jt:=ah (HI1.o.below iJ.o);have HG2:=ah (kV.o.push M8.o rfl hown hgr afy Jt.o.hlt');have YC:=ah (Jt.o.grown hgr (λk e=>by have h1:=(kV.o.lt k e).1;exact⟨aO bJ.o.z h1,λe'=>afh,λe'=>agP,kV.o.ne k e⟩));have bF3:=ah ((aU7.o.then_ (iJ.o.mono QD.o) iJ.o.size).then_ (Ec hgr (λk e=>(kV.o.lt k e).1) afe) hgr.size);have bF6:aj (∀y∈l++[(⟨h,b,e',s⟩:bU)],A8 y.h y.b y.e):=ah (λy hy=>by
      rcases List.mem_append.1 hy with hy|hy
      ·exact kK.o y hy
      ·rw[List.mem_singleton.1 hy];exact bF5.o)
     clear hown hgr hmv hlt2 hbs hkl Fa M8 HX iV kV iJ Jt;go_wp2_with fail;go_roundw
     case rel=>exact⟨k+1,l++[⟨h,b,e',s⟩],H1,ahj,ahf,by simp[HL.o],HG2.o,bF6.o,YC.o,bF3.o,bE4.o⟩
     case measure=>simp[intOf];omega
   ·go_wp2_with fail;go_ret;exact⟨_,l,Hr,rfl,HG.o,kK.o,by rw[HL.o];simp at hq;omega,aie,HHX.o,HMK.o,HMI.o⟩
  ·go_wp2_with fail;go_ret;exact⟨_,l,Hr,rfl,HG.o,kK.o,aie,aie,HHX.o,HMK.o,HMI.o⟩
theorem zq (T:Tp) (w:World) (H:Option Nat) (hs:List ByteArray) (s:ByteArray) (hI:eH w T H hs):
 Calls Tryz.prog 91 #[.pointer (some ⟨T.bm,0,none⟩),.string s] w λe w'=>(∃q,e= .returned (.bool q))∧w=w':=by
 obtain⟨th,left,qa,qb,qc,qd,vH,Kq,c0,c1,c2,c3,c4,c5,c6,c7,cf,hv,hrow⟩:=hI.reads;obtain⟨-,ao,cap,rfl,hcap,hc⟩:=hrow.cells Dq w (kT.refl _ _);have HT:aj (fT w w.heap.size hs ao 0):=ah (ZO hs 0 hI.ok (λi x hx=>aam));have hl:hs.length<=maxLen:=by have:=hI.few;unfold maxLen;omega
 have HI:=ah hI;clear hc hrow hI hv c0 c1 c2 c3 c4 c5 c6 cf;go_enter Tryz.func91,Tryz.ntmps91;go_wp2_with fail;refine(jK hs s w ao cap hl HT.o).mono ?_;rintro e w' ⟨rfl,rfl⟩;go_wp2_with fail;go_ret;exact⟨⟨_,rfl⟩,rfl⟩
theorem ag6 (w:World) (g:Option Nat):w.grownBy w g:=⟨rfl,rfl,rfl,aD _,λ_ _ _=>rfl⟩
theorem Wp (T:Tp) (d:Nat) (hd:d<=100) (hsl:Gj T d):TH T d:=by
 intro w H hs s hI oz hsz;have HSL:=ah hsl;have HI:=ah hI;have bJ:aj (Old T H w.heap.size):=ah hI.old;obtain⟨th,left,qa,qb,qc,qd,vH,Kq,c0,c1,c2,c3,c4,c5,c6,c7,cf,hv,hrow⟩:=hI.reads;have Jt:=ah (hI.below (aA w (.cells #[.string s] 9)));have HOW:=ah (hrow.next (bR (aA w (.cells #[.string s] 9)))).own;have iV:=ah (gG (cs:=uf s) (heap_alloc_new w (.cells #[.string s] 9)));have HV:=ah hv;have hb0:T.B0<=w.heap.size+1:=Nat.le_succ_of_le hI.tape.b0;have f7:=cf 7;have hle1:hs.length+1<=maxLen:=afc
 have hle2:(hs.length+1)*16<=140737488355328:=ahf
 obtain⟨i0,hi,hz0,hz1,hz2⟩:=wu (α:=Nat) (β:=Nat) bo5;have hbm:T.bm<w.heap.size:=hI.lt;clear hI hrow hsl c0 c1 c2 c3 c4 c5 c6 cf Kq hv;go_enter Tryz.func92,Tryz.ntmps92;go_wp2_with (at_builtin;refine wpList_append_lies _ rfl _ _ 26 rfl T.B0 9 i0 _ 1 16 Tryz.underlying26 hi hz0 hz1 hz2 rfl ahg _ _ _ rfl HOW.o ⟨w.heap.size,0,none⟩ 1 1 (uf s) rfl rfl iV.o (by intro u hu;simp[uf]at hu;subst hu;rfl) ahg hle1 hle2 (by simpa using hb0) _ rfl ?_);clear hi hz0 hz1 hz2;intro g cap w2 hown hgr hmv hlt2;rw[HV.o]at hgr hmv;have aw1:w2.heap[T.bm]? =(World.alloc w (.cells #[.string s] 9)).heap[T.bm]?:=hgr.block _ Jt.o.lt (λe=>Jt.o.nm e.symm);have f7':w2.frozen? ⟨T.bm,7,none⟩=false:=by obtain⟨_,_,_,_,_,_,_,_,hb,_⟩:=Jt.o.Cx;exact bG (aw1.trans hb)
 have e7: ∃u,w2.cell? ⟨T.bm,7,none⟩=some u:=by obtain⟨_,_,_,_,_,_,_,_,hb,_⟩:=Jt.o.Cx;exact⟨_,(bS (aw1.trans hb) (j:=7) rfl).2⟩
 obtain⟨u7,e7⟩:=e7;go_upto_region 2 with fail;generalize hW3:World.setCell w2 _ _=W3;have HH:aj (eH W3 T (some g) (hs++[s])∧Mm T H (World.alloc w (.cells #[.string s] 9)) W3):=ah (Jt.o.held (vH:= .slice (some ⟨g,0,none⟩) (hs.length+1) cap) hW3.symm hgr rfl (by
  rcases hmv with h|h
  ·exact .inl h.symm
  ·exact .inr ⟨g,rfl,by rw[h];simp⟩) ⟨aan,λ_ _ _ _=>trivial⟩ (λy hy=>by
  rcases List.mem_append.1 hy with h|h
  ·exact Jt.o.ok y h
  ·rw[List.mem_singleton.1 h];exact hsz) ahi)
 have HX:aj (Hx w H (some g)):=ah (by
  rcases hmv with h|h
  ·exact .inl h.symm
  ·exact .inr ⟨g,rfl,by rw[h];simp⟩)
 clear hW3 hown hgr hmv hlt2 aw1 f7' e7 iV HOW f7 c7;have HI3:aj (eH W3 T (some g) (hs++[s])):=ah HH.o.1;have vN:aj (Mm T H w W3):=ah ((Mm.of_below (aA _ _)).trans (Hx.refl _ _) HH.o.2);have c0:=HI3.o.ptr;clear HH Jt;go_wp2_with fail;refine(lK T _ _ 2 _ ae8 HI3.o).mono ?_;rintro e w3 ⟨r,rfl,hr1,-,Xx,R7⟩;have hr2:r<2:=adG
 have HI4:=ah R7;have tF:=ah (vN.o.trans HX.o Xx.mm);have hwr:IntKind.i64.wrap (1+(r:Int))=1+(r:Int):=IntWalk.i64_in _ ahf;clear Xx R7 hr1 c0 HI3 vN;go_wp2_with fail;refine(HSL.o w3 _ _ (1+(r:Int)) HI4.o ahi ahf ahf).mono ?_;rintro e w4 ⟨v,l,H2,rfl,hg,hok,hl1,hl2,hx,hM,hI⟩;have HG:=ah (hg.weak tF.o.size);have kK:=ah (ay hok (ay hl1 hl2));have jY:=ah (HX.o.trans hx tF.o.size);have fU:=ah (tF.o.trans HX.o hM);have gP:=ah hI;clear hg hok hl1 hl2 hx hM hI HI4 tF HX;obtain⟨VB,left',Ro,OX,OY,Rq,VH,uw,c0',c1',c2',c3',Gt,Ed,Ee,BM,cf',hv',hrow'⟩:=gP.o.reads;obtain⟨g2,cap2,rfl,-,-⟩:=hrow'.own.form ahh;obtain rfl:H2=some g2:=by rw[<- hv'];rfl
 have as2:=ah (kC.pop hrow' rfl);have f7:=cf' 7;rw[au,List.length_singleton]at BM;have Sv:aj (∃cs t,w4.heap[T.bm]? =some (.cells cs t (0,0))∧cs[7]? =some (.slice (some ⟨g2,0,none⟩) (hs.length+1) cap2)):=ah (by obtain⟨_,_,_,_,_,_,_,_,hb,_⟩:=gP.o.Cx;refine⟨_,_,hb,?_⟩;have:=(bS hb (j:=7) rfl).2;rw[BM]at this;rw[this];rfl);have HDR:aj (Below w4.heap.size w4 (w4.drewN 1)):=ah (below_drewN (ak _ _) 1);clear c0' c1' c2' c3' Gt Ed Ee BM cf' hrow' uw f7 hv';have K7: ∀w',TF T w4 w'->w'.cell? ⟨T.bm,7,none⟩=some (.slice (some ⟨g2,0,none⟩) (hs.length+1) cap2):=λw' h=>by obtain⟨cs,t,h1,h2⟩:=Sv.o;exact(bS (h.keep h1 T.tm.symm) h2).2
 have hd1:TF T w4 (w4.drewN 1)∧eH (w4.drewN 1) T (some g2) (hs++[s]):=⟨TF.of_below HDR.o,gP.o.below HDR.o⟩;have hcap:hs.length<=cap2:=by
  rcases as2.o.own.2 with⟨h1,-⟩|⟨g',cap',cur,h1,h2,h3,h4,-⟩
  ·cases h1
  ·injection h1 with e1 e2 e3;rw[e3];exact h4
 have hwd:IntKind.i64.wrap (hs.length:Int)=(hs.length:Int):=IntWalk.i64_in _ ahf;go_upto_region 3 with fail;refine cK ahe rfl ?_;refine bW 0 14 [] [[],[],[1],[1,2],[1,2,3],[],[5],[5,6],[5,6,7],[5,6,7,8],[5,6,7,8,9],[1,2,3,4,5,6,7,8,9,10],[0,1,2,3,4,5,6,7,8,9,10,11],[0,1,2,3,4,5,6,7,8,9,10,11,12],[0,1,2,3,4,5,6,7,8,9,10,11,12,13]] [[],[],[],[],[],[],[],[],[],[],[],[],[],[]] (λ_ w'=>TF T w4 w'∧eH w' T (some g2) (hs++[s])) (λw w'=>TF T w w') [27,28,29,30,31,32,33,34,35,36,37,38,39,40] rfl rfl aix ahe ahe ahe ahe ahe aix (λ_=>TF.refl _ _) aix hd1 ?_;simp only[gJ,kE]
 iterate 14
  apply bH.step
  case cu=>intro c A w' hok hC hO hD;have e0:=hO 0 aix;simp[Act.eval]at e0;simp[Act.eval]at hD;simp[go_sem,gd,Oper.wp,hD,e0,K7,hC.1,hwd,hcap];exact aZ.mk (TF.refl _ _) hC (dO.mk _ _)
  try simp only[dI]
 try simp only[dI]
 refine bH.done ?_;intro wz dx
 try simp only[gJ]
 intro v0 h0 v1 h1 v2 h2 v3 h3 v4 h4 v5 h5 v6 h6 v7 h7 v8 h8 v9 h9 v10 h10;refine kZ ?_;intro v12 h12;refine kZ ?_;clear h0 h1 h2 h3 h4 h5 h6 h7 h8 h9 h10 h12;refine PI ?_;go_simp;have y7:=K7 wz dx.1;obtain⟨_,_,_,_,_,_,vz,_,_,_,_,_,_,_,_,cz,fz,_,hrz⟩:=dx.2.reads;obtain rfl:vz= .slice (some ⟨g2,0,none⟩) (hs.length+1) cap2:=by rw[cz]at y7;injection y7
 have HRZ:=ah (kC.pop hrz rfl);have f7:=fz 7;have NA:=ah dx;clear hrz fz cz dx K7 hd1;refine dD 14 [[],[],[1],[1,2],[1,2,3],[],[5],[5,6],[5,6,7],[5,6,7,8],[5,6,7,8,9],[1,2,3,4,5,6,7,8,9,10],[0,1,2,3,4,5,6,7,8,9,10,11],[0,1,2,3,4,5,6,7,8,9,10,11,12],[0,1,2,3,4,5,6,7,8,9,10,11,12,13]] rfl rfl rfl rfl rfl ahe ahe ahe ?_;simp[go_sem,Oper.wp,y7,f7];refine dH rfl ?_;go_simp;generalize tV:World.setCell wz _ _=W6;have HH:aj (eH W6 T (some g2) hs∧Mm T (some g2) wz W6):=ah (NA.o.2.held (vH:= .slice (some ⟨g2,0,none⟩) hs.length cap2) tV.symm (ag6 _ _) rfl (Hx.refl _ _) HRZ.o (λy hy=>gP.o.ok y (List.mem_append.2 (.inl hy))) ahf);have HA:aj (nJ w.heap.size (Ct (some g2)) w4 W6):=ah ((NA.o.1.mm (H:=some g2)).JM bJ.o.t bJ.o.m |>.trans (HH.o.2.JM bJ.o.t bJ.o.m) (λ_ _ _ e=>e));clear tV;go_wp2_with fail;go_ret;exact⟨v,l,some g2,rfl,HG.o.next HA.o (Hx.refl _ _),kK.o.1,kK.o.2.1,kK.o.2.2,jY.o,(fU.o.trans jY.o (NA.o.1.mm (H:=some g2))).trans jY.o HH.o.2,HH.o.1⟩
def fP (op:Int) (nm:ByteArray) (idx:bV) (dY xn:Int) (dX:ByteArray) (xk:bV):dM:=⟨op,0,nm,⟨#[]⟩,idx,dY,xn,dX,xk⟩
def h0 (op:Int) (nm:ByteArray):dM:=fP op nm .nil 0 0 ⟨#[]⟩ .nil
def kr (ax:Option Addr) (cx:Nat):Sl:=⟨none,0,ax,cx,none,0,none,0⟩
def Jb (ab:Option Addr) (cb:Nat):Sl:=⟨none,0,none,0,ab,cb,none,0⟩
def rY:Sl:=⟨none,0,none,0,none,0,none,0⟩
theorem bq9 (x:Int):cO (wrap64 x):=by unfold cO wrap64;omega
theorem rQ {op dY xn:Int} {nm dX:ByteArray} {xk:bV} (h1:cO op) (h2:nm.size<=maxLen) (h3:Sq dY xn dX xk):A8 (fP op nm .nil dY xn dX xk) .nil .nil:=
 ⟨⟨h1,wS,h2,rH,nil_le,h3.1,bC _,bC _⟩,by have:=h3.2;show 3+zx xk+0<=100;omega,sb0,sb0⟩
theorem uF:zx .nil<=50:=bC _
theorem bo1 {op n:Int} {nm:ByteArray} {kids:bV} (h:Sq op n nm kids):zx (.cons op n nm kids .nil)<=50:=by have:=h.2;simp only[zx];omega
theorem wU:Sq 0 0 ⟨#[]⟩ .nil:=⟨⟨wS,wS,rH,nil_le⟩,bC _⟩
theorem iY {B:Nat} {X:Nat->Prop} {W:World} {h:dM} {b e:bf} {s:Sl} (h1:iK B X W (λw2=>h.idx.At w2 w2.heap.size s.gu 0)) (h2:iK B X W (λw2=>h.bM.At w2 w2.heap.size s.gY 0)) (h3:iK B X W (λw2=>b.At w2 w2.heap.size s.dR 0)) (h4:iK B X W (λw2=>e.At w2 w2.heap.size s.jc 0)):iK B X W (bU.I ⟨h,b,e,s⟩):=λw2 q=>⟨h1 w2 q,h2 w2 q,h3 w2 q,h4 w2 q⟩
theorem iq {B:Nat} {X:Nat->Prop} {W:World} {ao:Option Addr} :iK B X W (λw2=>bV.nil.At w2 w2.heap.size ao 0):=λ_ _=>trivial
theorem eu {B:Nat} {X:Nat->Prop} {W:World} {ao:Option Addr} :iK B X W (λw2=>bf.nil.At w2 w2.heap.size ao 0):=λ_ _=>trivial
theorem gL {w:World} {b:Nat} {t:TypeId} (h:w.heap[b]? =some (.cells VP t (0,0))):(w.cell? ⟨b,0,none⟩=some (.int .i64 0)∧w.cell? ⟨b,1,none⟩=some (.int .i64 0)∧w.cell? ⟨b,2,none⟩=some (.string ⟨#[]⟩)∧w.cell? ⟨b,3,none⟩=some (.string ⟨#[]⟩)∧w.cell? ⟨b,4,none⟩=some (.slice none 0 0)∧w.cell? ⟨b,5,none⟩=some (.int .i64 0)∧w.cell? ⟨b,6,none⟩=some (.int .i64 0)∧w.cell? ⟨b,7,none⟩=some (.string ⟨#[]⟩)∧w.cell? ⟨b,8,none⟩=some (.slice none 0 0)∧w.cell? ⟨b,9,none⟩=some (.slice none 0 0)∧w.cell? ⟨b,10,none⟩=some (.slice none 0 0))∧(∀j,w.frozen? ⟨b,j,none⟩=false):=
 ⟨⟨(bS h (j:=0) rfl).2,(bS h (j:=1) rfl).2,(bS h (j:=2) rfl).2,(bS h (j:=3) rfl).2,(bS h (j:=4) rfl).2,(bS h (j:=5) rfl).2,(bS h (j:=6) rfl).2,(bS h (j:=7) rfl).2,(bS h (j:=8) rfl).2,(bS h (j:=9) rfl).2,(bS h (j:=10) rfl).2⟩,λj=>bG h⟩
theorem bh5 {T:Tp} {H H':Option Nat} {hs:List ByteArray} {w Wb W4:World} {h:dM} {b e:bf} {s:Sl} {cs:Array Value} {t:TypeId} (hM0:Mm T H w Wb) (hO:Old T H w.heap.size) (hsb:w.heap.size<Wb.heap.size) (hM:Mm T H Wb W4) (hx:Hx Wb H H') (hI:eH W4 T H' hs) (hok:A8 h b e) (hst:iK Wb.heap.size (Ct H') W4 (bU.I ⟨h,b,e,s⟩)) (Eo:W4.heap[w.heap.size]? =some (.cells cs t (0,0))) (hcs:cs.size=11):
 Xc T H hs w (.returned (iG h b e s)) (W4.setCells w.heap.size 0 (bU.f ⟨h,b,e,s⟩))∧(W4.setCells w.heap.size 0 (bU.f ⟨h,b,e,s⟩)).heap[w.heap.size]? =some (.cells (bU.f ⟨h,b,e,s⟩).toArray t (0,0)):=by
 have hg:=dZ w.heap.size (bU.f ⟨h,b,e,s⟩) 0 W4;have hne:H'≠some w.heap.size:=by
  rcases hx with rfl|⟨k,rfl,hk⟩
  ·intro e;have:=hO.h _ e;omega
  ·intro e;injection e with e;omega
 have hszW:w.heap.size<W4.heap.size:=aV hsb hM.size;refine⟨⟨h,b,e,s,H',rfl,hok,(hst.go (.Vf hg (λk h1 e=>agG)) (λ_ _ _ e=>e)).weak (bg hsb) (λ_ _ _ e=>e),?_,?_,hI.grown hg (λk e=>by injection e with e;subst e;exact⟨hO.z,λe=>by have:=hO.t;omega,λe=>by have:=hO.m;omega,hne⟩)⟩,mP Eo (by rw[hcs];rfl)⟩
 ·rcases hx with rfl|⟨k,rfl,hk⟩
  ·exact .inl rfl
  ·exact .inr ⟨k,rfl,ahf⟩
 ·exact(hM0.trans (Hx.refl _ _) hM).then_ (Ec hg (λk e=>agG) (bg hszW)) hg.size
def ZN (x:bU):Value:=iG x.h x.b x.e x.s
def vQ (xo xn:Int) (xm:ByteArray) (xk:bV) (xa:Option Addr) (xc:Nat):bU:=⟨fP 1 ⟨#[120]⟩ .nil xo xn xm xk,.nil,.nil,kr xa xc⟩
theorem jk {T:Tp} {H H':Option Nat} {hs:List ByteArray} {w Wb W4:World} (x:bU) {cs:Array Value} {t:TypeId} (hM0:Mm T H w Wb) (hO:Old T H w.heap.size) (hsb:w.heap.size<Wb.heap.size) (hM:Mm T H Wb W4) (hx:Hx Wb H H') (hI:eH W4 T H' hs) (hok:A8 x.h x.b x.e) (hst:iK Wb.heap.size (Ct H') W4 (bU.I x)) (Eo:W4.heap[w.heap.size]? =some (.cells cs t (0,0))) (hcs:cs.size=11):
 Xc T H hs w (.returned (ZN x)) (W4.setCells w.heap.size 0 (bU.f x))∧(W4.setCells w.heap.size 0 (bU.f x)).heap[w.heap.size]? =some (.cells (bU.f x).toArray t (0,0)):=
 bh5 hM0 hO hsb hM hx hI hok hst Eo hcs
theorem ay9 {W:World} {b:Nat} {x:bU} {t:TypeId} {Q:Prop} (hf:Q∧W.heap[b]? =some (.cells (bU.f x).toArray t (0,0))):(W.cell? ⟨b,0,none⟩=some (.int .i64 x.h.op)∧W.cell? ⟨b,1,none⟩=some (.int .i64 x.h.line)∧W.cell? ⟨b,2,none⟩=some (.string x.h.nm)∧W.cell? ⟨b,3,none⟩=some (.string x.h.arg)∧W.cell? ⟨b,4,none⟩=some (.slice x.s.gu x.h.idx.len x.s.eG)∧W.cell? ⟨b,5,none⟩=some (.int .i64 x.h.dY)∧W.cell? ⟨b,6,none⟩=some (.int .i64 x.h.xn)∧W.cell? ⟨b,7,none⟩=some (.string x.h.dX)∧W.cell? ⟨b,8,none⟩=some (.slice x.s.gY x.h.bM.len x.s.fD)∧W.cell? ⟨b,9,none⟩=some (.slice x.s.dR x.b.len x.s.dA)∧W.cell? ⟨b,10,none⟩=some (.slice x.s.jc x.e.len x.s.gZ))∧aj Q:=
 ⟨⟨(bS hf.2 (j:=0) rfl).2,(bS hf.2 (j:=1) rfl).2,(bS hf.2 (j:=2) rfl).2,(bS hf.2 (j:=3) rfl).2,(bS hf.2 (j:=4) rfl).2,(bS hf.2 (j:=5) rfl).2,(bS hf.2 (j:=6) rfl).2,(bS hf.2 (j:=7) rfl).2,(bS hf.2 (j:=8) rfl).2,(bS hf.2 (j:=9) rfl).2,(bS hf.2 (j:=10) rfl).2⟩,ah hf.1⟩
theorem iA {T:Tp} {H:Option Nat} {hs:List ByteArray} {w W:World} {x:bU} {t:TypeId} {a:Act} (h:Xc T H hs w (.returned (ZN x)) W∧W.heap[w.heap.size]? =some (.cells (bU.f x).toArray t (0,0))) (h4:a.tmps[4]?.getD undef= .pointer (some ⟨w.heap.size,0,none⟩)) (hd:a.defers=[]):
 bodyPost Tryz.prog Tryz.f54 (Xc T H hs w) .ret a W:=by
 obtain⟨⟨z0,z1,z2,z3,z4,z5,z6,z7,z8,z9,dV⟩,HP⟩:=ay9 h;exact bodyPost_ret (v:=ZN x) (by simp[results,Tryz.results54,go_sem,h4,ZN,iG,z0,z1,z2,z3,z4,z5,z6,z7,z8,z9,dV]) hd HP.o
def az6:Array Value:= #[.string ⟨#[120]⟩,.string ⟨#[121]⟩,.string ⟨#[120]⟩,.string ⟨#[118]⟩]
theorem aO2:Szs 4 az6:=λj hj=>by
 have:j=0∨j=1∨j=2∨j=3:=ahf
 rcases this with rfl|rfl|rfl|rfl <;> exact⟨_,rfl,afa⟩
def az5:Array Value:= #[.string ⟨#[97]⟩,.string ⟨#[98]⟩]
theorem aO1:Szs 2 az5:=λj hj=>by
 have:j=0∨j=1:=ahf
 rcases this with rfl|rfl <;> exact⟨_,rfl,afa⟩
theorem yF {l:List bU} (h:l.length<=9) (hk: ∀x∈l,A8 x.h x.b x.e):SB (fQ l):=⟨by rw[qz];omega,Si hk⟩
theorem fJ (s:ByteArray) (op n:Int) (nm:ByteArray) (kids:bV) (ao:Option Addr) (cap:Nat) (w:World):
 Calls Tryz.prog 24 #[.string s,exV op n nm kids ao cap] w λe w'=>e= .returned (iG (fP 1 s .nil op n nm kids) .nil .nil (kr ao cap))∧Below w.heap.size w w':=by
 unfold exV;go_enter Tryz.func24,Tryz.ntmps24;go_wp2_with fail;refine bodyPost_ret (v:=iG (fP 1 s .nil op n nm kids) .nil .nil (kr ao cap)) (by simp[results,Tryz.results24,go_sem,iG,fP,kr,bV.len,bf.len]) rfl ⟨rfl,?_⟩;exact((aA _ _).alloc ahh _)
theorem xY {op dY xn:Int} {nm dX:ByteArray} {xk idx:bV} {b e:bf} (h1:cO op) (h2:nm.size<=maxLen) (h3:Sq dY xn dX xk) (h4:zx idx<=50) (h5:SB b) (h6:SB e):A8 (fP op nm idx dY xn dX xk) b e:=
 ⟨⟨h1,wS,h2,rH,by have:=XP idx;unfold maxLen;show idx.len<=_;omega,h3.1,h5.max,h6.max⟩,by have:=h3.2;show 3+zx xk+zx idx<=100;omega,h5,h6⟩
theorem Hx.ne {w:World} {H H1:Option Nat} {k:Nat} (h:Hx w H H1) (hk:k<w.heap.size) (hn:H≠some k):H1≠some k:=λe=>hn (h.old hk e)
def AsP (B:Nat) (v:Value) (W:World):Prop:= ∃s xo xn xm xk xa xc,v=iG (fP 1 s .nil xo xn xm xk) .nil .nil (kr xa xc)∧s.size<=maxLen∧Sq xo xn xm xk∧iH B W (λw2=>xk.At w2 w2.heap.size xa 0)
structure Sg (T:Tp) (H:Option Nat) (hs:List ByteArray) (b0:Nat) (wb:World) (Hc:Option Nat) (W:World):Prop where
 m:Mm T H wb W
 x:Hx wb H Hc
 i:eH W T Hc hs
 z:W.heap[b0]? =some (.cells VP 82 (0,0))
 o:Old T H b0
 l:b0<wb.heap.size
section
variable {T:Tp} {H Hc Hd H1:Option Nat} {hs:List ByteArray} {b0:Nat} {wb W W' W1:World} {Q:World->Prop}
theorem Sg.ne (h:Sg T H hs b0 wb Hc W):Hc≠some b0:=h.x.ne h.l (λe=>absurd (h.o.h _ e) (Nat.lt_irrefl _))
theorem Sg.below (h:Sg T H hs b0 wb Hc W) (hb:Below W.heap.size W W'):Sg T H hs b0 wb Hc W':=
 ⟨h.m.then_ (hb.mono h.m.size) hb.size,h.x,h.i.below hb,(hb.block _ (aI h.z)).trans h.z,h.o,h.l⟩
theorem Sg.mm (h:Sg T H hs b0 wb Hc W) (hm:Mm T Hc W W') (hx:Hx W Hc Hd) (hi:eH W' T Hd hs):Sg T H hs b0 wb Hd W':=
 ⟨h.m.trans h.x hm,h.x.trans hx h.m.size,hi,hm.keep h.z (by have:=h.o.t;omega) (by have:=h.o.m;omega) h.ne,h.o,h.l⟩
theorem Sg.tf (h:Sg T H hs b0 wb Hc W) (hm:TF T W W') (hi:eH W' T Hc hs):Sg T H hs b0 wb Hc W':=h.mm hm.mm (Hx.refl _ _) hi
theorem Sg.flag (h:Sg T H hs b0 wb Hc W) (j:Nat) (hj:j=3∨j=4∨j=5∨j=6) (q:Bool):Sg T H hs b0 wb Hc (W.setCell ⟨T.bm,j,none⟩ (.bool q)):=
 h.mm ((Mm.refl T Hc W).Nn (Hx.refl _ _) _ _) (Hx.refl _ _) (h.i.flag j hj q)
theorem Sg.set (h:Sg T H hs b0 wb Hc W) (a:Addr) (v:Value) (hb:wb.heap.size<=a.block) (hn:Hc≠some a.block):Sg T H hs b0 wb Hc (W.setCell a v):=
 ⟨h.m.set a v hb,h.x,h.i.set a v (by have:=h.o.z;have:=h.l;omega) ady adz hn,(bF W a v rfl (by have:=h.l;omega)).trans h.z,h.o,h.l⟩
theorem Sg.stay (h:Sg T H hs b0 wb H1 W1) (hS:iH wb.heap.size W1 Q) (hH: ∀k,H1=some k->wb.heap.size<=k->False) (hm:Mm T H1 W1 W) (hx:Hx W1 H1 Hc):iK wb.heap.size (Ct Hc) W Q:=
 (iK.iQ (X:=Ct H1) hS (aD _) (λk h1 _ e=>hH k e h1)).go (hm.JM ady adz) (λk _ h2 e=>hx.old h2 e)
theorem Sg.Pe {B1:Nat} (h:Sg T H hs b0 wb H1 W1) (hS:iK B1 (Ct H1) W1 Q) (hB:wb.heap.size<=B1) (hm:Mm T H1 W1 W) (hx:Hx W1 H1 Hc):iK wb.heap.size (Ct Hc) W Q:=
 (hS.weak hB (λ_ _ _ e=>e)).go (hm.JM ady adz) (λk _ h2 e=>hx.old h2 e)
theorem Sg.grown {g:Option Nat} (h:Sg T H hs b0 wb Hc W) (hg:W.grownBy W' g) (h0: ∀k,g=some k->wb.heap.size<=k∧Hc≠some k):Sg T H hs b0 wb Hc W':=
 ⟨h.m.then_ (Ec hg (λk e=>(h0 k e).1) h.m.size) hg.size,h.x,h.i.grown hg (λk e=>by have h1:=(h0 k e).1;have h2:=h.o.t;have h3:=h.o.m;have h4:=h.o.z;have h5:=h.l;exact⟨ahf,ahf,ahf,(h0 k e).2⟩),(hg.block _ (aI h.z) (λe=>by have:=(h0 _ e.symm).1;have:=h.l;omega)).trans h.z,h.o,h.l⟩
theorem Sg.old (h:Sg T H hs b0 wb H W): ∀k,H=some k->wb.heap.size<=k->False:=λk e h1=>by have:=h.o.h _ e;have:=h.l;omega
end
theorem Vv {B g:Nat} {W:World} {t:TypeId} {fr:Nat×Nat} {l:List bU} (h:W.heap[g]? =some (.cells (l.flatMap bU.f).toArray t fr)) (hB:B<=g) (hI: ∀x∈l,A8 x.h x.b x.e∧iH B W x.I):iH B W (λw2=>(fQ l).At w2 w2.heap.size (some ⟨g,0,none⟩) 0):=λw2 h2=>by
 have hg:=(h2.2 g hB (aI h)).trans h;refine KR l 0 (λx hx=>⟨(hI x hx).1.1,(hI x hx).2 w2 h2⟩) (λi x hx=>⟨g,rfl,(aI hg),λj u hu=> ?_⟩);have:=flat_get Br l i x j u hx hu;rw[aU];exact aG hg (by simpa using this)
theorem RO (W:World) (a:Addr) (v:Value) (o:Obj) (h:a.block<W.heap.size):(W.setCell a v).alloc o=(W.alloc o).setCell a v:=by
 unfold World.setCell World.alloc;simp only[World.mk.injEq,and_true,true_and];refine Array.ext_getElem? (λk=> ?_);simp only[Array.getElem?_push,Array.getElem?_modify,Array.size_modify];split <;> split <;> first|rfl|omega|(simp;done)|skip
 all_goals simp_all
theorem Bp (b:Nat) (o:Obj): ∀(vs:List Value) (k:Nat) (W:World),b<W.heap.size->(W.setCells b k vs).alloc o=(W.alloc o).setCells b k vs
 | [],_,_,_=>rfl
 |v::vs,k,W,h=>by show((W.setCell ⟨b,k,none⟩ v).setCells b (k+1) vs).alloc o=((W.alloc o).setCell ⟨b,k,none⟩ v).setCells b (k+1) vs;rw[Bp b o vs (k+1) _ (by simpa[World.setCell]using h),RO _ _ _ _ h]
theorem bi9:qR 2 0 ⟨#[98]⟩ .nil:=⟨ae8,wS,afa,nil_le⟩
theorem bK7:qR 1 2 ⟨#[]⟩ .nil:=⟨ae8,ae8,rH,nil_le⟩
theorem bK6:qR 1 1 ⟨#[]⟩ .nil:=⟨ae8,ae8,rH,nil_le⟩
theorem okC (op a b:Int) (h:cO op):Sq op 0 ⟨#[]⟩ (.cons 2 a ⟨#[98]⟩ .nil (.cons 1 b ⟨#[]⟩ .nil .nil)):=⟨⟨h,wS,rH,agQ⟩,by simp[zx]⟩
def aF7 (l:List bU):Prop:= ∀x∈l,A8 x.h x.b x.e∧∀B W,iH B W x.I
structure Ms (T:Tp) (d:Nat):Prop where
 bI1:d<=100
 st:0<d->(∀w H hs (n:Int),eH w T H hs->hs.length+d<=901->1<=n->n<=9->Calls Tryz.prog 23 #[.pointer (some ⟨T.bm,0,none⟩),.int .i64 ((d:Int) -1),.int .i64 n] w (Xb T H hs w))
 bl:0<d->(∀w H hs (s:ByteArray),eH w T H hs->hs.length+d<=900->s.size<=maxLen->Calls Tryz.prog 92 #[.pointer (some ⟨T.bm,0,none⟩),.string s,.int .i64 ((d:Int) -1)] w (Xb T H hs w))
 s0:0<d->(∀w H hs (n:Int),eH w T H hs->hs.length<=900->1<=n->n<=9->Calls Tryz.prog 23 #[.pointer (some ⟨T.bm,0,none⟩),.int .i64 0,.int .i64 n] w (Xb T H hs w))
theorem Ms.mk' {T:Tp} {d:Nat} (hd:d<=100) (ih: ∀d':Nat,d'<d->Gj T d'∧TH T d'):Ms T d:=by
 refine⟨hd,λh=> ?_,λh=> ?_,λh w H hs n h1 h2=>(ih 0 h).1 w H hs n h1 ahf⟩
 ·obtain⟨d',rfl⟩: ∃d',d=d'+1:=⟨d -1,ahf⟩;have e:((d'+1:Nat):Int) -1=(d':Int):=by omega
  rw[e];exact λw H hs n h1 h2=>(ih d' ahf).1 w H hs n h1 ahf
 ·obtain⟨d',rfl⟩: ∃d',d=d'+1:=⟨d -1,ahf⟩;have e:((d'+1:Nat):Int) -1=(d':Int):=by omega
  rw[e];exact λw H hs s h1 h2=>(ih d' ahf).2 w H hs s h1 ahf
def Nx (T:Tp) (w:World) (H:Option Nat) (hs:List ByteArray) (k:Nat):Prop:= ∀W,eH W T H hs->W.heap[T.bt]? =w.heap[T.bt]?->
    Calls Tryz.prog 22 #[.pointer (some ⟨T.bt,0,none⟩),.int .i64 18] W (λe w'=>e= .returned (.int .i64 k)∧TF T W w'∧eH w' T H hs)
def pQ (K:Nat->Prop):Prop:= ∀(T:Tp) (d k:Nat),K k->Ms T d->∀w H hs,eH w T H hs->hs.length+d<=900->Nx T w H hs k->
    Calls Tryz.prog 54 #[.pointer (some ⟨T.bm,0,none⟩),.int .i64 (d:Int)] w (Xc T H hs w)
def nC (P:Nat->Prop): {Q:Prop // aj Q->pQ P} :=⟨_,λq=>by
 intro T d k hk hms w H hs hI oz hnx;have hd:=hms.bI1;have NK:=ah hms;have dN:=ah hnx;have HI0:=ah hI;have bJ:aj (Old T H w.heap.size):=ah hI.old;have HE:aj (∀d:Nat,d<=2->TI T (d:Int)):=ah (aj9 T);obtain⟨th,left,qa,qb,qc,qd,vH,Kq,c0,c1,c2,c3,c4,c5,c6,c7,cf,hv,hrow⟩:=hI.reads;have f2:=cf 2;have hbm:T.bm<w.heap.size:=hI.lt;clear hI hrow c1 c3 c4 c5 c6 c7 Kq hv cf c0 hms hnx;go_enter Tryz.func54,Tryz.ntmps54;go_upto_region 2 with fail;generalize hW:World.alloc _ _=W;have HI:aj (eH W T H hs):=ah (by rw[<- hW];exact(HI0.o.left (bq9 _)).below (aA _ _));have HM:aj (Mm T H w W):=ah (by rw[<- hW];exact((Mm.refl T H w).Nn (Hx.refl w H) _ _).then_ ((aA _ _).mono afp) (aA _ _).size);have HZ:aj (W.heap[w.heap.size]? =some (.cells VP 82 (0,0))):=ah (by
  rw[<- hW];have e:(World.setCell w ⟨T.bm,2,none⟩ (.int .i64 (wrap64 (left -1)))).heap.size=w.heap.size:=afp
  rw[<- e];exact heap_alloc_new _ _)
 have IZ:aj (W.heap[T.bt]? =w.heap[T.bt]?):=ah (by rw[<- hW,heap_alloc_old _ _ (by simp[World.setCell];exact bJ.o.t)];exact bF w _ _ rfl T.tm.symm);clear hW c2 f2;have c0:=HI.o.ptr;go_wp2_with fail;refine(dN.o W HI.o IZ.o).mono ?_;rintro e w2 ⟨rfl,hM2,hI2⟩;have nM:=ah (HM.o.trans (Hx.refl _ _) (hM2.mm (H:=H)));have nL:=ah hI2;have qO:aj (w2.heap[w.heap.size]? =some (.cells VP 82 (0,0))):=ah (hM2.keep HZ.o afh);have eX:aj (w.heap.size<w2.heap.size):=ah (aI qO.o);clear hM2 hI2 c0 HI HM HZ IZ dN;go_upto_region 3 with fail;go_cut [6] (λs6 W'=>(∃q:Bool,s6= .bool q∧(q=true->0<d))∧W'=w2)
 case first=>
  obtain⟨VB,left',Ro,OX,OY,Rq,VH,uw,c0',c1',c2',c3',Gt,Ed,Ee,BM,cf',hv',hrow'⟩:=nL.o.reads;clear c0' c1' c3' Ed Ee BM cf' hv' hrow' uw;by_cases h1:(0:Int)<(d:Int)
  ·by_cases h2:0<left'
   ·go_wp2_with fail;go_meet;exact⟨⟨_,rfl,λ_=>ahf⟩,rfl⟩
   ·go_wp2_with fail;go_meet;exact⟨⟨_,rfl,λ_=>ahf⟩,rfl⟩
  ·go_wp2_with fail;go_meet;exact⟨⟨false,rfl,λh=>ahG⟩,rfl⟩
 obtain⟨⟨nest,rfl,Lp⟩,rfl⟩:=hcut;obtain⟨wb,rfl⟩: ∃W:World,W=wc:=⟨_,rfl⟩;have Co:aj (Sg T H hs w.heap.size wb H wb):=ah ⟨Mm.refl _ _ _,Hx.refl _ _,nL.o,qO.o,bJ.o,eX.o⟩;rename_i K aK;revert T d k w H hs th left qa qb qc qd vH W K u13 u14 u15 u16 u17 u18 u19 u20 u21 u22 u23 u24 u25 u26 u27 u28 u29 u30 u31 u32 u33 u34 u35 u36 u37 u38 u39 u40 u42 u43 u44 u45 u46 u47 u48 u49 u50 u52 u53 u54 u55 u56 u57 u58 u59 u60 u61 u62 u63 u64 u66 u67 u68 u69 u70 u71 u72 u73 u75 u76 u77 u78 u79 u80 u81 u82 u83 u84 u85 u86 u87 u88 u89 u90 u91 u92 u93 u94 u95 u96 u97 u98 u99 u101 u102 u103 u104 u105 u106 u107 u108 u109 u110 u111 u112 u113 u114 u115 u116 u117 u118 u119 u120 u121 u122 u123 u124 u125 u126 u127 u128 u129 u130 u131 u132 u134 u135 u136 u137 u138 u139 u140 u141 u142 u143 u144 u145 u146 u147 u148 u149 u150 u151 u152 u153 u154 u155 u156 u157 u158 u159 u160 u161 u162 u163 u164 u166 u167 u168 u169 u170 u171 u172 u173 u174 u175 u176 u177 u178 u179 u180 u181 u182 u183 u184 u185 u186 u187 u189 u190 u191 u192 u193 u194 u195 u196 u197 u198 u199 u200 u201 u202 u203 u204 u205 u206 u207 u208 u209 u211 u212 u213 u214 u215 u216 u217 u218 u219 u220 u221 u222 u223 u224 u225 u226 u227 u228 u229 u230 u231 u232 u233 u234 u236 u237 u238 u239 u240 u241 u242 u243 u244 u245 u246 u247 u248 u249 u250 u251 u252 u253 u254 u255 u256 u257 u259 u260 u261 u262 u263 u264 u265 u266 u267 u268 u269 u270 u271 u272 u273 u274 u275 u276 u277 u279 u280 u281 u282 u283 u284 u285 u286 u287 u288 u289 u290 u291 u292 u293 u294 u295 u296 u297 u298 u299 u300 u301 u302 u303 u304 u305 u306 u307 u309 u310 u311 u312 u313 u314 u315 u316 u317 u318 u319 u320 u321 u322 u323 u324 u325 u326 u327 u328 u329 nest wb;exact q.o⟩
theorem JF (op:Int) (w:World):
 Calls Tryz.prog 170 #[.int .i64 op] w λe w'=>e= .returned (.int .i64 (opsOf op))∧w=w':=by
 unfold opsOf;go_enter Tryz.func170,Tryz.ntmps170;go_wp2
 all_goals go_ret
 all_goals refine⟨dh ?_,rfl⟩
 all_goals first|(simp[*];done)|((repeat' split) <;> simp_all <;> omega)
def La (op n:Int) (nm:ByteArray) (kids:bV):Prop:=
 ∀(w:World) (ao:Option Addr) (cap:Nat),qR op n nm kids->kids.At w w.heap.size ao 0->
  Calls Tryz.prog 146 #[.agg #[.int .i64 op,.int .i64 n,.string nm,.slice ao kids.len cap]] w λe w'=>e= .returned (.bool (jZ op n nm kids))∧Below w.heap.size w w'
theorem aP2 (op n:Int) (nm:ByteArray) (kids:bV):jZ op n nm kids=(((decide (opsOf op=(kids.len:Int))&&(decide (0<=n)&&(decide (op=1)||decide (n=0))))&&(if((op==2)||(op==3))then Tk.ji nm.data.toList else decide (nm.toList=[])))&&nD kids):=by
 have h1:((kids.len:Int)==opsOf op)=decide (opsOf op=(kids.len:Int)):=by rw[Bool.eq_iff_iff];simp;exact eq_comm
 have h2:lQ nm (named op)=if((op==2)||(op==3))then Tk.ji nm.data.toList else decide (nm.toList=[]):=by
  unfold lQ named;split
  ·rfl
  ·rw[Lib.toList_data,Bool.eq_iff_iff];simp
 have h3:(!(decide (n<0)||(!(n==0)&& !(op==1))))=(decide (0<=n)&&(decide (op=1)||decide (n=0))):=aeG
 unfold jZ KQ;rw[h1,h2,h3];simp only[Bool.and_assoc]
theorem ax7 {nm:ByteArray} (h:nm.toList=[]):Tk.ji nm.data.toList=false:=by rw[<- Lib.toList_data,h];rfl
theorem JH (op n:Int) (nm:ByteArray) (kids:bV) (ih:kids.All La):La op n nm kids:=by
 intro w ao cap hok hat;obtain⟨⟨o1,o2⟩,⟨n1,n2⟩,hm,hl⟩:=hok;unfold maxLen at hl;have hl':kids.len<=9223372036854775807:=hl;have HS:=ah (aP2 op n nm kids);have oH:=ah ih;have HAT:=ah hat;clear ih hat;go_enter Tryz.func146,Tryz.ntmps146;go_upto_region 1 with fail;generalize hW:World.alloc w _=W;generalize Value.agg #[_,_,_,_]=a0;have HX:=ah (xO.mk hW);clear hW;obtain⟨-,hs,c0,c1,c2,c3⟩:=HX.o;go_cut [3] (λs W2=>W=W2∧∃b,s= .bool b∧((op==2)||(op==3))=b)
 case first=>
  go_wp2_with fail
  all_goals go_meet
  all_goals exact⟨rfl,_,rfl,by grind⟩
 obtain⟨rfl,bn,rfl,hbn⟩:=hcut;rw[hbn]at HS;clear hbn;go_upto_region 2 with fail;go_cut [3,50] (λ_ s W2=> ∃b,s= .bool b∧jZ op n nm kids=(!b&&nD kids)∧xO w W2 (.int .i64 op) (.int .i64 n) (.string nm) (.slice ao kids.len cap))
 case first=>
  cases bn
  all_goals
   obtain⟨T,F,yU,hst,hF,hnext⟩:=calm W;have HF:=ah hF;have dN:=ah hnext;clear hnext;have d0:=λx=>((HF.o x).cell (p:=⟨w.heap.size,0,none⟩) hs).trans c0;have d1:=λx=>((HF.o x).cell (p:=⟨w.heap.size,1,none⟩) hs).trans c1;have d2:=λx=>((HF.o x).cell (p:=⟨w.heap.size,2,none⟩) hs).trans c2;have d3:=λx=>((HF.o x).cell (p:=⟨w.heap.size,3,none⟩) hs).trans c3;clear hF c0 c1 c2 c3;refine gX F ahe ahe hst ?_
   repeat (any_goals (first|go_big_quiet_step (first|(go_at_call 170;refine(JF _ _).mono ?_;rintro e w' ⟨rfl,rfl⟩;exact⟨rfl,_,rfl⟩)|(go_at_call 35;refine(jl _ _ hm).mono ?_;rintro e w' ⟨rfl,hb⟩;exact⟨rfl,dN.o _ _ hb⟩))|(refine wpQuiet_step (λK hK=> ?_);go_simp;first|(refine hK _ ?_;clear hK K)|(split <;> first|(refine hK _ ?_;clear hK K)|(apply Exists.intro;refine⟨λ_=> ?_,hK _ ?_⟩;(first|(go_at_call 170;refine(JF _ _).mono ?_;rintro e w' ⟨rfl,rfl⟩;exact⟨rfl,_,rfl⟩)|(go_at_call 35;refine(jl _ _ hm).mono ?_;rintro e w' ⟨rfl,hb⟩;exact⟨rfl,dN.o _ _ hb⟩));clear hK K)))))
   all_goals (refine wpQuiet_nil ?_;rintro _ ⟨x,rfl⟩;go_wp2_with fail;go_meet)
   all_goals exact⟨_,rfl,HS.o.trans (by go_light;grind[ax7]),HX.o.next (HF.o _)⟩
 case rest=>
  obtain⟨b,rfl,hR,JB⟩:=hcut;have HZ:=ah JB;have HR:=ah hR;clear HX JB hR HS c0 c1 c2 c3 hs;cases b
  ·go_wp2_with fail;go_loopw [4] (λi wr=> ∃k R,i= .int .i64 (k:Nat)∧Xf kids R k∧R.All La∧R.At wr wr.heap.size ao k∧xO w wr (Value.int IntKind.i64 op) (Value.int IntKind.i64 n) (Value.string nm) (Value.slice ao kids.len cap)) (λi _=>kids.len -(intOf i).toNat)
   case atStart=>exact⟨0,kids,rfl,⟨aU _,rfl⟩,oH.o,HAT.o.same HZ.o.1,HZ.o⟩
   case round=>
    obtain⟨k,R,rfl,⟨hlen,heq⟩,hall,hrow,Eo⟩:=hrel;have HT:=ah (HR.o.trans (show(!false&&nD kids)=nD R by rw[heq];rfl));have yh:=ah Eo;clear Eo;obtain⟨-,-,c0,c1,c2,c3⟩:=yh.o;cases R with
    |nil=>obtain rfl:k=kids.len:=afs;go_wp2_with fail;go_ret;exact⟨bZ HT.o.symm,yh.o.1⟩
    |cons op' n' nm' iy rest=>
     obtain⟨⟨b,off,mK,cap',rfl,jT,x0,x1,x2,x3,hok',mF⟩,hrest⟩:=hrow;obtain⟨jV,pR⟩:=hall;have hlt:k<kids.len:=acD;go_wp2_with fail;refine(jV _ _ _ hok' mF).mono ?_;rintro e w2 ⟨rfl,hb2⟩;have Qn:=ah (yh.o.next hb2);have hrest':=hrest.same hb2;clear hb2 yh hrest x0 x1 x2 x3 c0 c1 c2 c3 mF;cases hS:jZ op' n' nm' iy
     ·have HF:=ah (HT.o.trans (by rw[nX,hS];rfl:nD (.cons op' n' nm' iy rest)=false));go_wp2_with fail;go_ret;exact⟨bZ HF.o.symm,Qn.o.1⟩
     ·have HF:=ah (heq.trans (by rw[nX,hS];rfl:nD (.cons op' n' nm' iy rest)=nD rest));go_wp2_with fail;go_roundw
      case rel=>exact⟨k+1,rest,ahj,⟨acD,HF.o⟩,pR,hrest',Qn.o⟩
      case measure=>simp[intOf];omega
  ·go_wp2_with fail;go_ret;exact⟨bZ HR.o.symm,HZ.o.1⟩
theorem xQ (op n:Int) (nm:ByteArray) (kids:bV):La op n nm kids:=bV.BS JH op n nm kids
end Go.Proofs.YtcjgfgkllmldpaaGreatDoor
