/- The reference's At: the place of a text in a row. And what hangs on it. -/
import Derived.Test.YtdoplekppjkkpaaGreatDoorGME
import Derived.Test.YtdoplekppjkkpaaGreatDoorGPC
set_option linter.unusedSimpArgs false
set_option linter.unusedVariables false
set_option maxHeartbeats 40000000
set_option maxRecDepth 1000000
namespace Go.Proofs.YtdoplekppjkkpaaGreatDoor
open Go.RowKit
namespace Md
def fidx {α:Type} (f:α->Bool):List α->Nat->Int
 | [],_=> -1
 |x::r,k=>if f x then(k:Int)else fidx f r (k+1)
theorem pW {α:Type} (f:α->Bool): ∀(l:List α) (k:Nat),(fidx f l k= -1∧l.find? f=none∧l.any f=false)∨∃(j:Nat) (d:α) (r:List α),j<l.length∧fidx f l k=((k+j:Nat):Int)∧l.drop j=d::r∧l.find? f=some d∧l.any f=true
 | [],_=>Or.inl ⟨rfl,rfl,rfl⟩
 |x::r,k=>by
  cases h:f x
  ·rcases pW f r (k+1)with⟨h1,h2,h3⟩|⟨j,d,r',h0,h1,h2,h3,h4⟩
   ·exact Or.inl ⟨by simp[fidx,h,h1],by simp[h,h2],by simp[h,h3]⟩
   ·exact Or.inr ⟨j+1,d,r',agK,by simp only[fidx,h];rw[if_neg agI,h1];omega,agQ,by simp[h,h3],by simp[h,h4]⟩
  ·exact Or.inr ⟨0,x,r,agJ,by simp[fidx,h],rfl,by simp[h],by simp[h]⟩
def K6 (l:List ByteArray) (nm:ByteArray):Int:=fidx (λs=>s.toList==nm.toList) l 0
end Md
open Md
theorem nH (l:List ByteArray) (nm:ByteArray) (w:World) (ao:Option Addr) (cap:Nat) (hl:l.length<=maxLen) (hw:fP w w.heap.size l ao 0):
 Calls Tryz.prog 23 #[.slice ao l.length cap,.string nm] w λe w'=>e= .returned (.int .i64 (K6 l nm))∧w=w':=by
 unfold maxLen at hl;go_enter Tryz.func23,Tryz.ntmps23;go_wp2_with fail;go_loop [5] (λs=> ∃(k:Nat) (R:List ByteArray),s= .int .i64 k∧k+R.length=l.length∧K6 l nm=fidx (λs=>s.toList==nm.toList) R k∧fP w w.heap.size R ao k) (λs=>l.length -(intOf s).toNat)
 case atStart=>exact⟨0,l,rfl,agJ,rfl,hw⟩
 case round=>
  obtain⟨k,R,rfl,hlen,heq,hrow⟩:=hrel;have HE:=ah heq;clear heq;cases R with
  |nil=>
   obtain rfl:k=l.length:=aeQ
   go_wp2_with fail;go_ret;exact⟨bV HE.o.symm,rfl⟩
  |cons s R=>
   obtain⟨⟨b,off,rfl,hB,y0,hs⟩,hrest⟩:=hrow;simp only[aD]at hlen;have hkl:k<l.length:=agH
   cases hc:(s.toList==nm.toList)
   ·have dG:=ah (HE.o.trans (if_neg (show ¬(s.toList==nm.toList)=true by rw[hc];decide)));exact AaC
   ·have dG:=ah (HE.o.trans (if_pos hc));go_wp2_with fail;go_ret;exact⟨bV dG.o.symm,rfl⟩
namespace Md
def Ab (l:List De) (nm:ByteArray):Int:=fidx (λd=>d.nm.toList==nm.toList) l 0
def qE (l:List Th) (nm:ByteArray):Int:=fidx (λt=>t.nm.toList==nm.toList) l 0
def conv (m:Int):Int:=if m==0 then 0 else if m==1 then 8 else if m==9 then 9 else m -1
def gN (k a b:Int):Int:=if k==0 then 5 else if(k != a)&&(k != b)then 6 else 0
theorem BX (p:Pr) (i:Int) (nm:ByteArray):0<=mean p i nm∧mean p i nm<=9:=by
 unfold mean qA tQ;split
 ·decide
 ·cases p.ds.find? (λd=>d.nm.toList==nm.toList)with
  |none=>simp;split <;> decide
  |some d=>have:=uq d;simp;omega
theorem ten {m:Int} (h:0<=m∧m<=9):m=0∨m=1∨m=2∨m=3∨m=4∨m=5∨m=6∨m=7∨m=8∨m=9:=agH
theorem FC {m a:Int} (hm:0<=m∧m<=9) (ha:0<=a∧a<=9):(conv m==conv a)=(m==a):=by
 rcases ten hm with rfl|rfl|rfl|rfl|rfl|rfl|rfl|rfl|rfl|rfl <;> rcases ten ha with rfl|rfl|rfl|rfl|rfl|rfl|rfl|rfl|rfl|rfl <;> rfl
theorem Ob {m:Int} (hm:0<=m∧m<=9):(conv m==0)=(m==0):=FC hm (a:=0) agI
theorem Sb (m a:Int) (hm:0<=m∧m<=9) (ha:0<=a∧a<=9):gN (conv m) (conv a) (conv a)=dQ m [a]:=by
 unfold gN dQ bne;rw[Ob hm,FC hm ha];simp only[List.any_cons,List.any_nil,Bool.or_false];cases h:(m==a) <;> rfl
theorem Sc (m a b:Int) (hm:0<=m∧m<=9) (ha:0<=a∧a<=9) (hb:0<=b∧b<=9):gN (conv m) (conv a) (conv b)=dQ m [a,b]:=by
 unfold gN dQ bne;rw[Ob hm,FC hm ha,FC hm hb];simp only[List.any_cons,List.any_nil,Bool.or_false];cases h:(m==a) <;> cases h':(m==b) <;> rfl
end Md
theorem oP (l:List De) (nm:ByteArray) (w:World) (ao:Option Addr) (cap:Nat) (hl:l.length<=maxLen) (hw:jv w w.heap.size l ao 0):
 Calls Tryz.prog 47 #[.slice ao l.length cap,.string nm] w λe w'=>e= .returned (.int .i64 (Ab l nm))∧w=w':=by
 unfold maxLen at hl;go_enter Tryz.func47,Tryz.ntmps47;go_wp2_with fail;go_loop [5] (λs=> ∃(k:Nat) (R:List De),s= .int .i64 k∧k+R.length=l.length∧Ab l nm=fidx (λd=>d.nm.toList==nm.toList) R k∧jv w w.heap.size R ao k) (λs=>l.length -(intOf s).toNat)
 case atStart=>exact⟨0,l,rfl,agJ,rfl,hw⟩
 case round=>
  obtain⟨k,R,rfl,hlen,heq,hrow⟩:=hrel;have HE:=ah heq;clear heq;cases R with
  |nil=>
   obtain rfl:k=l.length:=aeQ
   go_wp2_with fail;go_ret;exact⟨bV HE.o.symm,rfl⟩
  |cons s R=>
   obtain⟨⟨b,off,rfl,hB,y0,y1,y2,y3,y4,y5,hs⟩,hrest⟩:=hrow;simp only[aD]at hlen;have hkl:k<l.length:=agH
   cases hc:(s.nm.toList==nm.toList)
   ·have dG:=ah (HE.o.trans (if_neg (show ¬(s.nm.toList==nm.toList)=true by rw[hc];decide)));exact AaC
   ·have dG:=ah (HE.o.trans (if_pos hc));go_wp2_with fail;go_ret;exact⟨bV dG.o.symm,rfl⟩
theorem jk (l:List Th) (nm:ByteArray) (w:World) (ao:Option Addr) (cap:Nat) (hl:l.length<=maxLen) (hw:iG w w.heap.size l ao 0):
 Calls Tryz.prog 48 #[.slice ao l.length cap,.string nm] w λe w'=>e= .returned (.int .i64 (qE l nm))∧w=w':=by
 unfold maxLen at hl;go_enter Tryz.func48,Tryz.ntmps48;go_wp2_with fail;go_loop [5] (λs=> ∃(k:Nat) (R:List Th),s= .int .i64 k∧k+R.length=l.length∧qE l nm=fidx (λd=>d.nm.toList==nm.toList) R k∧iG w w.heap.size R ao k) (λs=>l.length -(intOf s).toNat)
 case atStart=>exact⟨0,l,rfl,agJ,rfl,hw⟩
 case round=>
  obtain⟨k,R,rfl,hlen,heq,hrow⟩:=hrel;have HE:=ah heq;clear heq;cases R with
  |nil=>
   obtain rfl:k=l.length:=aeQ
   go_wp2_with fail;go_ret;exact⟨bV HE.o.symm,rfl⟩
  |cons s R=>
   obtain⟨⟨b,off,iU,eU,dB,cu,rfl,hB,y0,y1,y2,y3,hs,ht,hst⟩,hrest⟩:=hrow;simp only[aD]at hlen;have hkl:k<l.length:=agH
   clear hs ht hst;cases hc:(s.nm.toList==nm.toList)
   ·have dG:=ah (HE.o.trans (if_neg (show ¬(s.nm.toList==nm.toList)=true by rw[hc];decide)));exact AaC
   ·have dG:=ah (HE.o.trans (if_pos hc));go_wp2_with fail;go_ret;exact⟨bV dG.o.symm,rfl⟩
theorem ad6 {p:Pr} {i:Int} {nm:ByteArray} (h:rO (qN p.ts i) nm=true):conv (mean p i nm)=8:=by unfold mean;rw[h];rfl
theorem ad5 {p:Pr} {i:Int} {nm:ByteArray} {d:De} (h:rO (qN p.ts i) nm=false) (hd:p.ds.find? (λd=>d.nm.toList==nm.toList)=some d):conv (mean p i nm)=conv (gK d):=by
 unfold mean qA;rw[h,hd];rfl
theorem ad7 {p:Pr} {i:Int} {nm:ByteArray} {b:Bool} (h:rO (qN p.ts i) nm=false) (hd:p.ds.find? (λd=>d.nm.toList==nm.toList)=none) (ht:p.ts.any (λt=>t.nm.toList==nm.toList)=b):conv (mean p i nm)=if b then 7 else 0:=by
 unfold mean qA tQ;rw[h,hd,ht];cases b <;> rfl
theorem Xp (d:De):conv (gK d)=if d.kind==1 then(if d.size != 0 then 2 else 1)else if d.kind==2 then 1 else if(d.kind==3||d.kind==4)||(d.kind==5||d.kind==6)then d.kind else 9:=by
 by_cases h1:d.kind=1
 ·by_cases h0:d.size=0 <;> simp[gK,conv,h1,h0]
 by_cases h2:d.kind=2
 ·simp[gK,conv,h2]
 by_cases h3:d.kind=3
 ·simp[gK,conv,h3]
 by_cases h4:d.kind=4
 ·simp[gK,conv,h4]
 by_cases h5:d.kind=5
 ·simp[gK,conv,h5]
 by_cases h6:d.kind=6
 ·simp[gK,conv,h6]
 simp[gK,conv,h1,h2,h3,h4,h5,h6]
theorem V7 (p:Pr) (i:Int) (nm:ByteArray) (w:World) (aK aM:Option Addr) (aH aG:Nat) (hi:bY i) (hp:p.At w aK aM):
 Calls Tryz.prog 108 #[.agg #[.slice aK p.ds.length aH,.slice aM p.ts.length aG],.int .i64 i,.string nm] w λe w'=>e= .returned (.int .i64 (conv (mean p i nm)))∧Below w.heap.size w w':=by
 obtain⟨i1,i2⟩:=hi;have hld:=hp.1;have hlt:=hp.2.1;have VA:=hp.1;have hlt':=hp.2.1;unfold maxLen at hld hlt;have HP:=ah hp;clear hp;go_enter Tryz.func108,Tryz.ntmps108;go_upto_region 1 with fail;generalize hW:World.alloc w _=W;generalize Value.agg #[_,_]=a0;have HX:=ah ((Sit.start w).xV rfl (.slice aK p.ds.length aH) (.slice aM p.ts.length aG) 35);rw[hW]at HX;clear hW;obtain⟨-,⟨-,c0⟩,⟨-,c1⟩,-⟩:=HX.o;go_cut [27] (λs W2=>W=W2∧s= .bool (rO (qN p.ts i) nm))
 case first=>
  cases hbi:decide (0<=i∧i<p.ts.length)
  ·have HN:aj (rO (qN p.ts i) nm=false):=ah (by rw[JR (by simpa using hbi)];rfl);rcases(show i<0∨(0<=i∧(p.ts.length:Int)<=i) by simp at hbi;omega)with h|⟨h,h'⟩
   all_goals clear hbi
   all_goals go_wp2_with fail
   all_goals go_meet
   all_goals exact⟨rfl,by rw[HN.o]⟩
  ·have aM9:0<=i∧i<p.ts.length:=by simpa using hbi
   clear hbi;obtain⟨j,rfl⟩:=Int.eq_ofNat_of_zero_le aM9.1;have hj:j<p.ts.length:=agH
   have hth:=(HP.o.same HX.o.1).2.2.2.drop j;cases hd:p.ts.drop j with
   |nil=>exfalso;have:=congrArg List.length hd;simp at this;omega
   |cons t r=>
    rw[hd,aU]at hth;have HL:=ah (M6 hd);clear hd aM9;obtain⟨⟨b,off,iU,eU,dB,cu,rfl,hB,x0,x1,x2,x3,hok,htx,hst⟩,-⟩:=hth;have hll:=hok.2.2.1;clear hst hok;go_wp2_with fail;refine(nH t.cZ nm _ iU eU hll htx).mono ?_;rintro e w2 ⟨rfl,rfl⟩;rcases pW (λs:ByteArray=>s.toList==nm.toList) t.cZ 0 with⟨h1,h2,h3⟩|⟨j',d,r',h0,h1,h2,h3,h4⟩
    ·have HT:aj (rO (qN p.ts j) nm=false):=ah (by rw[HL.o];exact h3);have h1':K6 t.cZ nm= -1:=h1;rw[h1'];clear h1 h2 h3 h1';go_wp2_with fail;go_meet;exact⟨rfl,by rw[HT.o]⟩
    ·have HT:aj (rO (qN p.ts j) nm=true):=ah (by rw[HL.o];exact h4);have h1':K6 t.cZ nm=(j':Int):=agm;rw[h1'];clear h1 h2 h3 h1' h4;go_wp2_with fail;go_meet;exact⟨rfl,by rw[HT.o]⟩
 case rest=>
  obtain⟨rfl,rfl⟩:=hcut;cases hloc:rO (qN p.ts i) nm
  ·go_wp2_with fail;refine(oP p.ds nm _ aK aH VA (HP.o.same HX.o.1).2.2.1).mono ?_;rintro e w2 ⟨rfl,rfl⟩;rcases pW (λd:De=>d.nm.toList==nm.toList) p.ds 0 with⟨h1,h2,h3⟩|⟨j',d,r',h0,h1,h2,h3,h4⟩
   ·have h1':Ab p.ds nm= -1:=h1;rw[h1'];have HK:=ah (λb ht=>ad7 (b:=b) hloc h2 ht);clear h1 h2 h3 h1' hloc;go_wp2_with fail;refine(jk p.ts nm _ aM aG hlt' (HP.o.same HX.o.1).2.2.2).mono ?_;rintro e w2 ⟨rfl,rfl⟩;rcases pW (λd:Th=>d.nm.toList==nm.toList) p.ts 0 with⟨h1,h2,h3⟩|⟨j',d,r',h0,h1,h2,h3,h4⟩
    ·have h1':qE p.ts nm= -1:=h1;rw[h1'];have HK':=ah (HK.o _ h3);clear h1 h2 h3 h1' HK;go_wp2_with fail;go_ret;exact⟨bV HK'.o.symm,HX.o.1⟩
    ·have h1':qE p.ts nm=(j':Int):=agm;rw[h1'];have HK':=ah (HK.o _ h4);clear h1 h2 h3 h1' h4 HK;go_wp2_with fail;go_ret;exact⟨bV HK'.o.symm,HX.o.1⟩
   ·have h1':Ab p.ds nm=(j':Int):=agm;rw[h1'];have HK:=ah ((ad5 hloc h3).trans (Xp d));have hth:=(HP.o.same HX.o.1).2.2.1.drop j';rw[h2,aU]at hth;obtain⟨⟨b,off,rfl,hB,x0,x1,x2,x3,x4,x5,hok⟩,-⟩:=hth;clear h1 h2 h3 h4 h1' hloc hok;go_wp2_with fail
    all_goals go_ret
    all_goals refine⟨bV (HK.o.trans ?_).symm,HX.o.1⟩
    all_goals (go_light;grind)
  ·have HK:=ah (ad6 hloc);go_wp2_with fail;go_ret;exact⟨bV HK.o.symm,HX.o.1⟩
def lN:Array Value:= #[.int .i64 0,.int .i64 0,.string ⟨#[]⟩,.string ⟨#[]⟩,.slice none 0 0,.int .i64 0,.int .i64 0,.string ⟨#[]⟩,.slice none 0 0,.slice none 0 0,.slice none 0 0]
theorem vO {α:Type} {β:Type} {o:Option TypeInfo} {z:Option Value} {a b:Nat} (h:o.map (λi=>(i.zero,i.size,i.bytes))=some (z,a,b)): ∃i0,o=some i0∧i0.zero=z∧i0.size=a∧i0.bytes=b:=by
 cases o with
 |none=>cases h
 |some i=>simp at h;exact⟨i,rfl,h.1,h.2.1,h.2.2⟩
theorem LV:(Tryz.prog.info? 74).map (λi=>(i.zero,i.size,i.bytes))=some (some (.agg lN),11,176):=agG
theorem aY3:(Tryz.prog.info? 9).map (λi=>(i.zero,i.size,i.bytes))=some (some (.string ⟨#[]⟩),1,16):=agG
theorem as1:(Tryz.prog.info? 74).map (·.size)=some 11:=agG
def TI (T:Tp) (H:Option Nat) (hs:List ByteArray) (w:World) (e:Ending) (w':World):Prop:= ∃(h:dF) (b e':aZ) (s:Sl) (H':Option Nat),e= .returned (iE h b e' s)∧zh h b e'∧gM w.heap.size (Bt H') w' (bQ.I ⟨h,b,e',s⟩)∧Hx w H H'∧Mm T H w w'∧dN w' T H' hs
def X5 (T:Tp) (d:Nat):Prop:= ∀w H hs,dN w T H hs->hs.length+d<=900->Calls Tryz.prog 32 #[.pointer (some ⟨T.bm,0,none⟩),.int .i64 (d:Int)] w (TI T H hs w)
def TH (T:Tp) (H:Option Nat) (hs:List ByteArray) (w:World) (e:Ending) (w':World):Prop:= ∃(v:Value) (l:List bQ) (H':Option Nat),e= .returned v∧yS w.heap.size H' w' v l∧(∀x∈l,zh x.h x.b x.e)∧1<=l.length∧l.length<=9∧Hx w H H'∧Mm T H w w'∧dN w' T H' hs
def EJ (T:Tp) (d:Nat):Prop:= ∀w H hs (n:Int),dN w T H hs->hs.length+d<=900->1<=n->n<=9->Calls Tryz.prog 14 #[.pointer (some ⟨T.bm,0,none⟩),.int .i64 (d:Int),.int .i64 n] w (TH T H hs w)
def Qb (T:Tp) (d:Nat):Prop:= ∀w H hs (s:ByteArray),dN w T H hs->hs.length+1+d<=900->s.size<=maxLen->Calls Tryz.prog 54 #[.pointer (some ⟨T.bm,0,none⟩),.string s,.int .i64 (d:Int)] w (TH T H hs w)
theorem CP {B:Nat} {w w':World} {g:Option Nat} (h:w.grownBy w' g) (hg: ∀k,g=some k->B<=k) (hB:B<=w.heap.size):Below B w w':=
 ⟨h.os,h.tape,h.output,h.size,λk hk=>h.block k agH (λe=>by have:=hg k e.symm;omega)⟩
theorem KI (x:bQ): ∀u∈bQ.f x,u.oneCell'=true:=by
 intro u hu;simp[bQ.f]at hu;rcases hu with rfl|rfl|rfl|rfl|rfl|rfl|rfl|rfl|rfl|rfl|rfl <;> rfl
theorem ba1 (l:List bQ): ∀u∈l.flatMap bQ.f,u.oneCell'=true:=by
 intro u hu;obtain⟨x,-,h⟩:=List.mem_flatMap.1 hu;exact KI x u h
theorem SQ (T:Tp) (d:Nat) (hst:X5 T d):EJ T d:=by
 intro w H hs n hI jM hn1 hn2;have HST:=ah hst;have HI:=ah hI;have bf:aj (Old T H w.heap.size):=ah hI.old;obtain⟨i0,hi,hz0,hz1,hz2⟩:=vO (α:=Nat) (β:=Nat) LV;have iA:=ah (aI hi (aI hz0 (aI hz1 hz2)));clear hst hI hi hz0 hz1 hz2;go_enter Tryz.func14,Tryz.ntmps14;go_wp2_with fail;go_loopw [7,8] (λv7 v8 wr=> ∃(k:Nat) (l:List bQ) (Hr:Option Nat),v8= .int .i64 k∧k<=n.toNat∧l.length=k∧yS w.heap.size Hr wr v7 l∧(∀x∈l,zh x.h x.b x.e)∧dN wr T Hr hs∧Mm T H w wr∧Hx w H Hr) (λ_ i _=>(n -intOf i).toNat)
 case atStart=>exact⟨0,[],H,rfl,bF _,rfl,kG.nil _ _ _ _ _ _ _,agJ,HI.o,Mm.refl _ _ _,Hx.refl _ _⟩
 case round=>
  obtain⟨k,l,Hr,rfl,hk,hl,hg,hok,hmi,hmk,hhx⟩:=hrel;have HL:=ah hl;have HG:=ah hg;have kK:=ah hok;have HMI:=ah hmi;have WJ:=ah hmk;have HHX:=ah hhx;obtain⟨th,left,qa,qb,qc,qd,vH,ku,c0,c1,c2,-,-,-,-,-,-,-,-⟩:=hmi.reads;clear hl hg hok hmi hmk hhx ku c0 c1;by_cases hlt:(k:Int)<n
  ·have hgo:(((k:Int)==0)=true∨(((k:Int)==0)=false∧0<left))∨(((k:Int)==0)=false∧ ¬0<left):=by cases hq:((k:Int)==0) <;> by_cases hp:0<left <;> simp[hp]
   rcases hgo with hgo|⟨hq,hp⟩
   ·rcases hgo with hq|⟨hq,hp⟩
    all_goals
     go_wp2_with fail;refine(HST.o wr Hr hs HMI.o jM).mono ?_;rintro e w1 ⟨h,b,e',s,H1,rfl,R5,R6,hhx,hM,hI1⟩;have qI:=ah (HG.o.next (hM.He bf.o.t bf.o.m) hhx);have aE4:=ah (WJ.o.trans HHX.o hM);have bp7:=ah (HHX.o.trans hhx WJ.o.size);have HI1:=ah hI1;have br0:=ah R5;have HX:=ah R6;have sI:=ah hM.size;have kJ:=ah HG.o.lt;clear hM hI1 R5 R6 hhx HG c2;unfold iE;have iW:aj (Below w1.heap.size w1 (w1.alloc (.cells (bQ.f ⟨h,b,e',s⟩).toArray 74))):=ah (ak _ _);have nX:=ah (qI.o.next (nu.of_below iW.o) (Hx.refl _ _));have iX:=ah (gP (heap_alloc_new w1 (.cells (bQ.f ⟨h,b,e',s⟩).toArray 74)));have HSW:aj (w.heap.size<=w1.heap.size):=ah aE4.o.size;obtain⟨hi,hz0,hz1,hz2⟩:=iA.o;have hbs:w.heap.size<=w1.heap.size+1:=Nat.le_succ_of_le HSW.o;have hkl:l.length+1<=maxLen:=(by rw[HL.o];unfold maxLen;omega);have DR:(l.length+1)*176<=140737488355328:=ahH;go_wp2_with (at_builtin;refine wpList_append_lies _ rfl _ _ 57 rfl w.heap.size 74 i0 _ 11 176 Tryz.underlying57 hi hz0 hz1 hz2 rfl agI _ _ _ rfl nX.o.own ⟨w1.heap.size,0,none⟩ 1 1 (bQ.f ⟨h,b,e',s⟩) rfl rfl iX.o (KI _) agI hkl DR aeV _ rfl ?_);clear hi hz0 hz1 hz2;intro g cap w2 hown hgr hmv hlt2;have JC:aj (gM w.heap.size (zY u7.ownBlock H1) (w1.alloc (.cells (bQ.f ⟨h,b,e',s⟩).toArray 74)) (bQ.I ⟨h,b,e',s⟩)):=ah ((HX.o.weak (X:=zY u7.ownBlock H1) WJ.o.size (λk h1 h2 h3=>by
      rcases h3 with h3|h3
      ·have:=(kJ.o k h3).2;omega
      ·exact h3)).go (nu.of_below iW.o) (λ_ _ _ e=>e))
     have GI:=ah (HI1.o.below iW.o);have HG2:=ah (nX.o.push JC.o rfl hown hgr afm GI.o.hlt');have UW:=ah (GI.o.grown hgr (λk e=>by have h1:=(nX.o.lt k e).1;exact⟨aJ bf.o.z h1,λe'=>aeR,λe'=>agu,nX.o.ne k e⟩));have bq8:=ah ((aE4.o.then_ (iW.o.mono HSW.o) iW.o.size).then_ (CP hgr (λk e=>(nX.o.lt k e).1) aeV) hgr.size);have br1:aj (∀y∈l++[(⟨h,b,e',s⟩:bQ)],zh y.h y.b y.e):=ah (λy hy=>by
      rcases List.mem_append.1 hy with hy|hy
      ·exact kK.o y hy
      ·rw[List.mem_singleton.1 hy];exact br0.o)
     clear hown hgr hmv hlt2 hbs hkl DR JC HX iX nX iW GI;go_wp2_with fail;go_roundw
     case rel=>exact⟨k+1,l++[⟨h,b,e',s⟩],H1,agL,agH,by simp[HL.o],HG2.o,br1.o,UW.o,bq8.o,bp7.o⟩
     case measure=>simp[intOf];omega
   ·go_wp2_with fail;go_ret;exact⟨_,l,Hr,rfl,HG.o,kK.o,by rw[HL.o];simp at hq;omega,ahH,HHX.o,WJ.o,HMI.o⟩
  ·go_wp2_with fail;go_ret;exact⟨_,l,Hr,rfl,HG.o,kK.o,ahH,ahH,HHX.o,WJ.o,HMI.o⟩
theorem yF (T:Tp) (w:World) (H:Option Nat) (hs:List ByteArray) (s:ByteArray) (hI:dN w T H hs):
 Calls Tryz.prog 53 #[.pointer (some ⟨T.bm,0,none⟩),.string s] w λe w'=>(∃q,e= .returned (.bool q))∧w=w':=by
 obtain⟨th,left,qa,qb,qc,qd,vH,ku,c0,c1,c2,c3,c4,c5,c6,c7,cf,hv,hrow⟩:=hI.reads;obtain⟨-,ao,cap,rfl,hcap,hc⟩:=hrow.cells Ap w (kC.refl _ _);have HT:aj (fP w w.heap.size hs ao 0):=ah (P8 hs 0 hI.ok (λi x hx=>aaj));have hl:hs.length<=maxLen:=by have:=hI.few;unfold maxLen;omega
 have HI:=ah hI;clear hc hrow hI hv c0 c1 c2 c3 c4 c5 c6 cf;go_enter Tryz.func53,Tryz.ntmps53;go_wp2_with fail;refine(nH hs s w ao cap hl HT.o).mono ?_;rintro e w' ⟨rfl,rfl⟩;go_wp2_with fail;go_ret;exact⟨⟨_,rfl⟩,rfl⟩
theorem XJ (w:World) (g:Option Nat):w.grownBy w g:=⟨rfl,rfl,rfl,aB _,λ_ _ _=>rfl⟩
theorem SI (T:Tp) (d:Nat) (hd:d<=100) (hsl:EJ T d):Qb T d:=by
 intro w H hs s hI jM hsz;have HSL:=ah hsl;have HI:=ah hI;have bf:aj (Old T H w.heap.size):=ah hI.old;obtain⟨th,left,qa,qb,qc,qd,vH,ku,c0,c1,c2,c3,c4,c5,c6,c7,cf,hv,hrow⟩:=hI.reads;have GI:=ah (hI.below (ak w (.cells #[.string s] 9)));have HOW:=ah (hrow.next (bS (ak w (.cells #[.string s] 9)))).own;have iX:=ah (gP (cs:=sD s) (heap_alloc_new w (.cells #[.string s] 9)));have HV:=ah hv;have hb0:T.B0<=w.heap.size+1:=Nat.le_succ_of_le hI.tape.b0;have f7:=cf 7;have hle1:hs.length+1<=maxLen:=aeS
 have hle2:(hs.length+1)*16<=140737488355328:=agH
 obtain⟨i0,hi,hz0,hz1,hz2⟩:=vO (α:=Nat) (β:=Nat) aY3;have zw:T.bm<w.heap.size:=hI.lt;clear hI hrow hsl c0 c1 c2 c3 c4 c5 c6 cf ku hv;go_enter Tryz.func54,Tryz.ntmps54;go_wp2_with (at_builtin;refine wpList_append_lies _ rfl _ _ 27 rfl T.B0 9 i0 _ 1 16 Tryz.underlying27 hi hz0 hz1 hz2 rfl agI _ _ _ rfl HOW.o ⟨w.heap.size,0,none⟩ 1 1 (sD s) rfl rfl iX.o (by intro u hu;simp[sD]at hu;subst hu;rfl) agI hle1 hle2 (by simpa using hb0) _ rfl ?_);clear hi hz0 hz1 hz2;intro g cap w2 hown hgr hmv hlt2;rw[HV.o]at hgr hmv;have ab7:w2.heap[T.bm]? =(World.alloc w (.cells #[.string s] 9)).heap[T.bm]?:=hgr.block _ GI.o.lt (λe=>GI.o.nm e.symm);have f7':w2.frozen? ⟨T.bm,7,none⟩=false:=by obtain⟨_,_,_,_,_,_,_,_,hb,_⟩:=GI.o.Bw;exact bK (ab7.trans hb)
 have e7: ∃u,w2.cell? ⟨T.bm,7,none⟩=some u:=by obtain⟨_,_,_,_,_,_,_,_,hb,_⟩:=GI.o.Bw;exact⟨_,(bP (ab7.trans hb) (j:=7) rfl).2⟩
 obtain⟨u7,e7⟩:=e7;go_upto_region 2 with fail;generalize hW3:World.setCell w2 _ _=W3;have HH:aj (dN W3 T (some g) (hs++[s])∧Mm T H (World.alloc w (.cells #[.string s] 9)) W3):=ah (GI.o.held (vH:= .slice (some ⟨g,0,none⟩) (hs.length+1) cap) hW3.symm hgr rfl (by
  rcases hmv with h|h
  ·exact .inl h.symm
  ·exact .inr ⟨g,rfl,by rw[h];simp⟩) ⟨aan,λ_ _ _ _=>trivial⟩ (λy hy=>by
  rcases List.mem_append.1 hy with h|h
  ·exact GI.o.ok y h
  ·rw[List.mem_singleton.1 h];exact hsz) agK)
 have HX:aj (Hx w H (some g)):=ah (by
  rcases hmv with h|h
  ·exact .inl h.symm
  ·exact .inr ⟨g,rfl,by rw[h];simp⟩)
 clear hW3 hown hgr hmv hlt2 ab7 f7' e7 iX HOW f7 c7;have HI3:aj (dN W3 T (some g) (hs++[s])):=ah HH.o.1;have uW:aj (Mm T H w W3):=ah ((Mm.of_below (ak _ _)).trans (Hx.refl _ _) HH.o.2);have c0:=HI3.o.ptr;clear HH GI;go_wp2_with fail;refine(kW T _ _ 2 _ aeO HI3.o).mono ?_;rintro e w3 ⟨r,rfl,hr1,-,U8,Oj⟩;have hr2:r<2:=ady
 have HI4:=ah Oj;have qB:=ah (uW.o.trans HX.o U8.mm);have hwr:IntKind.i64.wrap (1+(r:Int))=1+(r:Int):=IntWalk.i64_in _ agH;clear U8 Oj hr1 c0 HI3 uW;go_wp2_with fail;refine(HSL.o w3 _ _ (1+(r:Int)) HI4.o agK agH agH).mono ?_;rintro e w4 ⟨v,l,H2,rfl,hg,hok,hl1,hl2,hx,hM,hI⟩;have HG:=ah (hg.weak qB.o.size);have kK:=ah (aI hok (aI hl1 hl2));have oV:=ah (HX.o.trans hx qB.o.size);have fZ:=ah (qB.o.trans HX.o hM);have gL:=ah hI;clear hg hok hl1 hl2 hx hM hI HI4 qB HX;obtain⟨wV,left',wT,vV,vX,wU,xL,iH,c0',c1',c2',c3',rR,mq,mE,lH,cf',hv',hrow'⟩:=gL.o.reads;obtain⟨g2,cap2,rfl,-,-⟩:=hrow'.own.form agJ;obtain rfl:H2=some g2:=by rw[<- hv'];rfl
 have ZC:=ah (jU.pop hrow' rfl);have f7:=cf' 7;rw[aA,List.length_singleton]at lH;have HC7:aj (∃cs t,w4.heap[T.bm]? =some (.cells cs t (0,0))∧cs[7]? =some (.slice (some ⟨g2,0,none⟩) (hs.length+1) cap2)):=ah (by obtain⟨_,_,_,_,_,_,_,_,hb,_⟩:=gL.o.Bw;refine⟨_,_,hb,?_⟩;have:=(bP hb (j:=7) rfl).2;rw[lH]at this;rw[this];rfl);have HDR:aj (Below w4.heap.size w4 (w4.drewN 1)):=ah (below_drewN (au _ _) 1);clear c0' c1' c2' c3' rR mq mE lH cf' hrow' iH f7 hv';have K7: ∀w',TF T w4 w'->w'.cell? ⟨T.bm,7,none⟩=some (.slice (some ⟨g2,0,none⟩) (hs.length+1) cap2):=λw' h=>by obtain⟨cs,t,h1,h2⟩:=HC7.o;exact(bP (h.keep h1 T.tm.symm) h2).2
 have hd1:TF T w4 (w4.drewN 1)∧dN (w4.drewN 1) T (some g2) (hs++[s]):=⟨TF.of_below HDR.o,gL.o.below HDR.o⟩;have hcap:hs.length<=cap2:=by
  rcases ZC.o.own.2 with⟨h1,-⟩|⟨g',cap',cur,h1,h2,h3,h4,-⟩
  ·cases h1
  ·injection h1 with e1 e2 e3;rw[e3];exact h4
 have hwd:IntKind.i64.wrap (hs.length:Int)=(hs.length:Int):=IntWalk.i64_in _ agH;go_upto_region 3 with fail;refine eu agG rfl ?_;refine dD 0 14 [] [[],[],[1],[1,2],[1,2,3],[],[5],[5,6],[5,6,7],[5,6,7,8],[5,6,7,8,9],[1,2,3,4,5,6,7,8,9,10],[0,1,2,3,4,5,6,7,8,9,10,11],[0,1,2,3,4,5,6,7,8,9,10,11,12],[0,1,2,3,4,5,6,7,8,9,10,11,12,13]] [[],[],[],[],[],[],[],[],[],[],[],[],[],[]] (λ_ w'=>TF T w4 w'∧dN w' T (some g2) (hs++[s])) (λw w'=>TF T w w') [27,28,29,30,31,32,33,34,35,36,37,38,39,40] rfl rfl ahS agG agG agG agG agG ahS (λ_=>TF.refl _ _) ahS hd1 ?_;simp only[jH,nY]
 iterate 14
  apply bZ.step
  case bL=>intro c A w' hok hC hO hD;have e0:=hO 0 ahS;simp[Act.eval]at e0;simp[Act.eval]at hD;simp[go_sem,gd,Oper.wp,hD,e0,K7,hC.1,hwd,hcap];exact aV.mk (TF.refl _ _) hC (cB.mk _ _)
  try simp only[dY]
 try simp only[dY]
 refine bZ.done ?_;intro wz dL
 try simp only[jH]
 intro v0 h0 v1 h1 v2 h2 v3 h3 v4 h4 v5 h5 v6 h6 v7 h7 v8 h8 v9 h9 v10 h10;refine tH ?_;intro v12 h12;refine tH ?_;clear h0 h1 h2 h3 h4 h5 h6 h7 h8 h9 h10 h12;refine MK ?_;go_simp;have y7:=K7 wz dL.1;obtain⟨_,_,_,_,_,_,vz,_,_,_,_,_,_,_,_,cz,fz,_,hrz⟩:=dL.2.reads;obtain rfl:vz= .slice (some ⟨g2,0,none⟩) (hs.length+1) cap2:=by rw[cz]at y7;injection y7
 have HRZ:=ah (jU.pop hrz rfl);have f7:=fz 7;have HCZ:=ah dL;clear hrz fz cz dL K7 hd1;refine dZ 14 [[],[],[1],[1,2],[1,2,3],[],[5],[5,6],[5,6,7],[5,6,7,8],[5,6,7,8,9],[1,2,3,4,5,6,7,8,9,10],[0,1,2,3,4,5,6,7,8,9,10,11],[0,1,2,3,4,5,6,7,8,9,10,11,12],[0,1,2,3,4,5,6,7,8,9,10,11,12,13]] rfl rfl rfl rfl rfl agG agG agG ?_;simp[go_sem,Oper.wp,y7,f7];refine fU rfl ?_;go_simp;generalize sO:World.setCell wz _ _=W6;have HH:aj (dN W6 T (some g2) hs∧Mm T (some g2) wz W6):=ah (HCZ.o.2.held (vH:= .slice (some ⟨g2,0,none⟩) hs.length cap2) sO.symm (XJ _ _) rfl (Hx.refl _ _) HRZ.o (λy hy=>gL.o.ok y (List.mem_append.2 (.inl hy))) agH);have HA:aj (nu w.heap.size (Bt (some g2)) w4 W6):=ah ((HCZ.o.1.mm (H:=some g2)).He bf.o.t bf.o.m |>.trans (HH.o.2.He bf.o.t bf.o.m) (λ_ _ _ e=>e));clear sO;go_wp2_with fail;go_ret;exact⟨v,l,some g2,rfl,HG.o.next HA.o (Hx.refl _ _),kK.o.1,kK.o.2.1,kK.o.2.2,oV.o,(fZ.o.trans oV.o (HCZ.o.1.mm (H:=some g2))).trans oV.o HH.o.2,HH.o.1⟩
def fK (op:Int) (nm:ByteArray) (idx:bT) (dP xn:Int) (dO:ByteArray) (xk:bT):dF:=⟨op,0,nm,⟨#[]⟩,idx,dP,xn,dO,xk⟩
def h0 (op:Int) (nm:ByteArray):dF:=fK op nm .nil 0 0 ⟨#[]⟩ .nil
def jT (ax:Option Addr) (cx:Nat):Sl:=⟨none,0,ax,cx,none,0,none,0⟩
def Gl (ab:Option Addr) (cb:Nat):Sl:=⟨none,0,none,0,ab,cb,none,0⟩
def rF:Sl:=⟨none,0,none,0,none,0,none,0⟩
theorem tV (x:Int):bY (wrap64 x):=by unfold bY wrap64;omega
theorem qP {op dP xn:Int} {nm dO:ByteArray} {xk:bT} (h1:bY op) (h2:nm.size<=maxLen) (h3:Pf dP xn dO xk):zh (fK op nm .nil dP xn dO xk) .nil .nil:=
 ⟨⟨h1,wF,h2,qL,nil_le,h3.1,bF _,bF _⟩,by have:=h3.2;show 3+yI xk+0<=100;omega,sb0,sb0⟩
theorem tT:yI .nil<=50:=bF _
theorem aX8 {op n:Int} {nm:ByteArray} {kids:bT} (h:Pf op n nm kids):yI (.cons op n nm kids .nil)<=50:=by have:=h.2;simp only[yI];omega
theorem wL:Pf 0 0 ⟨#[]⟩ .nil:=⟨⟨wF,wF,qL,nil_le⟩,bF _⟩
theorem iZ {B:Nat} {X:Nat->Prop} {W:World} {h:dF} {b e:aZ} {s:Sl} (h1:gM B X W (λw2=>h.idx.At w2 w2.heap.size s.gU 0)) (h2:gM B X W (λw2=>h.bJ.At w2 w2.heap.size s.fT 0)) (h3:gM B X W (λw2=>b.At w2 w2.heap.size s.dB 0)) (h4:gM B X W (λw2=>e.At w2 w2.heap.size s.iD 0)):gM B X W (bQ.I ⟨h,b,e,s⟩):=λw2 q=>⟨h1 w2 q,h2 w2 q,h3 w2 q,h4 w2 q⟩
theorem gZ {B:Nat} {X:Nat->Prop} {W:World} {ao:Option Addr} :gM B X W (λw2=>bT.nil.At w2 w2.heap.size ao 0):=λ_ _=>trivial
theorem dV {B:Nat} {X:Nat->Prop} {W:World} {ao:Option Addr} :gM B X W (λw2=>aZ.nil.At w2 w2.heap.size ao 0):=λ_ _=>trivial
theorem gJ {w:World} {b:Nat} {t:TypeId} (h:w.heap[b]? =some (.cells lN t (0,0))):(w.cell? ⟨b,0,none⟩=some (.int .i64 0)∧w.cell? ⟨b,1,none⟩=some (.int .i64 0)∧w.cell? ⟨b,2,none⟩=some (.string ⟨#[]⟩)∧w.cell? ⟨b,3,none⟩=some (.string ⟨#[]⟩)∧w.cell? ⟨b,4,none⟩=some (.slice none 0 0)∧w.cell? ⟨b,5,none⟩=some (.int .i64 0)∧w.cell? ⟨b,6,none⟩=some (.int .i64 0)∧w.cell? ⟨b,7,none⟩=some (.string ⟨#[]⟩)∧w.cell? ⟨b,8,none⟩=some (.slice none 0 0)∧w.cell? ⟨b,9,none⟩=some (.slice none 0 0)∧w.cell? ⟨b,10,none⟩=some (.slice none 0 0))∧(∀j,w.frozen? ⟨b,j,none⟩=false):=
 ⟨⟨(bP h (j:=0) rfl).2,(bP h (j:=1) rfl).2,(bP h (j:=2) rfl).2,(bP h (j:=3) rfl).2,(bP h (j:=4) rfl).2,(bP h (j:=5) rfl).2,(bP h (j:=6) rfl).2,(bP h (j:=7) rfl).2,(bP h (j:=8) rfl).2,(bP h (j:=9) rfl).2,(bP h (j:=10) rfl).2⟩,λj=>bK h⟩
theorem aR8 {T:Tp} {H H':Option Nat} {hs:List ByteArray} {w Wb W4:World} {h:dF} {b e:aZ} {s:Sl} {cs:Array Value} {t:TypeId} (hM0:Mm T H w Wb) (hO:Old T H w.heap.size) (hsb:w.heap.size<Wb.heap.size) (hM:Mm T H Wb W4) (hx:Hx Wb H H') (hI:dN W4 T H' hs) (hok:zh h b e) (hst:gM Wb.heap.size (Bt H') W4 (bQ.I ⟨h,b,e,s⟩)) (D6:W4.heap[w.heap.size]? =some (.cells cs t (0,0))) (hcs:cs.size=11):
 TI T H hs w (.returned (iE h b e s)) (W4.setCells w.heap.size 0 (bQ.f ⟨h,b,e,s⟩))∧(W4.setCells w.heap.size 0 (bQ.f ⟨h,b,e,s⟩)).heap[w.heap.size]? =some (.cells (bQ.f ⟨h,b,e,s⟩).toArray t (0,0)):=by
 have hg:=eD w.heap.size (bQ.f ⟨h,b,e,s⟩) 0 W4;have hne:H'≠some w.heap.size:=by
  rcases hx with rfl|⟨k,rfl,hk⟩
  ·intro e;have:=hO.h _ e;omega
  ·intro e;injection e with e;omega
 have hszW:w.heap.size<W4.heap.size:=aR hsb hM.size;refine⟨⟨h,b,e,s,H',rfl,hok,(hst.go (.Kz hg (λk h1 e=>agn)) (λ_ _ _ e=>e)).weak (bH hsb) (λ_ _ _ e=>e),?_,?_,hI.grown hg (λk e=>by injection e with e;subst e;exact⟨hO.z,λe=>by have:=hO.t;omega,λe=>by have:=hO.m;omega,hne⟩)⟩,nC D6 (by rw[hcs];rfl)⟩
 ·rcases hx with rfl|⟨k,rfl,hk⟩
  ·exact .inl rfl
  ·exact .inr ⟨k,rfl,agH⟩
 ·exact(hM0.trans (Hx.refl _ _) hM).then_ (CP hg (λk e=>agn) (bH hszW)) hg.size
def Wt (x:bQ):Value:=iE x.h x.b x.e x.s
def vG (xo xn:Int) (xm:ByteArray) (xk:bT) (xa:Option Addr) (xc:Nat):bQ:=⟨fK 1 ⟨#[120]⟩ .nil xo xn xm xk,.nil,.nil,jT xa xc⟩
theorem jg {T:Tp} {H H':Option Nat} {hs:List ByteArray} {w Wb W4:World} (x:bQ) {cs:Array Value} {t:TypeId} (hM0:Mm T H w Wb) (hO:Old T H w.heap.size) (hsb:w.heap.size<Wb.heap.size) (hM:Mm T H Wb W4) (hx:Hx Wb H H') (hI:dN W4 T H' hs) (hok:zh x.h x.b x.e) (hst:gM Wb.heap.size (Bt H') W4 (bQ.I x)) (D6:W4.heap[w.heap.size]? =some (.cells cs t (0,0))) (hcs:cs.size=11):
 TI T H hs w (.returned (Wt x)) (W4.setCells w.heap.size 0 (bQ.f x))∧(W4.setCells w.heap.size 0 (bQ.f x)).heap[w.heap.size]? =some (.cells (bQ.f x).toArray t (0,0)):=
 aR8 hM0 hO hsb hM hx hI hok hst D6 hcs
theorem ae6 {W:World} {b:Nat} {x:bQ} {t:TypeId} {Q:Prop} (hf:Q∧W.heap[b]? =some (.cells (bQ.f x).toArray t (0,0))):(W.cell? ⟨b,0,none⟩=some (.int .i64 x.h.op)∧W.cell? ⟨b,1,none⟩=some (.int .i64 x.h.line)∧W.cell? ⟨b,2,none⟩=some (.string x.h.nm)∧W.cell? ⟨b,3,none⟩=some (.string x.h.arg)∧W.cell? ⟨b,4,none⟩=some (.slice x.s.gU x.h.idx.len x.s.gy)∧W.cell? ⟨b,5,none⟩=some (.int .i64 x.h.dP)∧W.cell? ⟨b,6,none⟩=some (.int .i64 x.h.xn)∧W.cell? ⟨b,7,none⟩=some (.string x.h.dO)∧W.cell? ⟨b,8,none⟩=some (.slice x.s.fT x.h.bJ.len x.s.eB)∧W.cell? ⟨b,9,none⟩=some (.slice x.s.dB x.b.len x.s.cu)∧W.cell? ⟨b,10,none⟩=some (.slice x.s.iD x.e.len x.s.gu))∧aj Q:=
 ⟨⟨(bP hf.2 (j:=0) rfl).2,(bP hf.2 (j:=1) rfl).2,(bP hf.2 (j:=2) rfl).2,(bP hf.2 (j:=3) rfl).2,(bP hf.2 (j:=4) rfl).2,(bP hf.2 (j:=5) rfl).2,(bP hf.2 (j:=6) rfl).2,(bP hf.2 (j:=7) rfl).2,(bP hf.2 (j:=8) rfl).2,(bP hf.2 (j:=9) rfl).2,(bP hf.2 (j:=10) rfl).2⟩,ah hf.1⟩
theorem iy {T:Tp} {H:Option Nat} {hs:List ByteArray} {w W:World} {x:bQ} {t:TypeId} {a:Act} (h:TI T H hs w (.returned (Wt x)) W∧W.heap[w.heap.size]? =some (.cells (bQ.f x).toArray t (0,0))) (h4:a.tmps[4]?.getD undef= .pointer (some ⟨w.heap.size,0,none⟩)) (hd:a.defers=[]):
 bodyPost Tryz.prog Tryz.f32 (TI T H hs w) .ret a W:=by
 obtain⟨⟨z0,z1,z2,z3,z4,z5,z6,z7,z8,z9,fV⟩,HP⟩:=ae6 h;exact bodyPost_ret (v:=Wt x) (by simp[results,Tryz.results32,go_sem,h4,Wt,iE,z0,z1,z2,z3,z4,z5,z6,z7,z8,z9,fV]) hd HP.o
def af4:Array Value:= #[.string ⟨#[120]⟩,.string ⟨#[121]⟩,.string ⟨#[120]⟩,.string ⟨#[118]⟩]
theorem ax3:Szs 4 af4:=λj hj=>by
 have:j=0∨j=1∨j=2∨j=3:=agH
 rcases this with rfl|rfl|rfl|rfl <;> exact⟨_,rfl,aeP⟩
def af3:Array Value:= #[.string ⟨#[97]⟩,.string ⟨#[98]⟩]
theorem ax2:Szs 2 af3:=λj hj=>by
 have:j=0∨j=1:=agH
 rcases this with rfl|rfl <;> exact⟨_,rfl,aeP⟩
theorem xK {l:List bQ} (h:l.length<=9) (hk: ∀x∈l,zh x.h x.b x.e):SB (fM l):=⟨by rw[qh];omega,P6 hk⟩
theorem fH (s:ByteArray) (op n:Int) (nm:ByteArray) (kids:bT) (ao:Option Addr) (cap:Nat) (w:World):
 Calls Tryz.prog 15 #[.string s,exV op n nm kids ao cap] w λe w'=>e= .returned (iE (fK 1 s .nil op n nm kids) .nil .nil (jT ao cap))∧Below w.heap.size w w':=by
 unfold exV;go_enter Tryz.func15,Tryz.ntmps15;go_wp2_with fail;refine bodyPost_ret (v:=iE (fK 1 s .nil op n nm kids) .nil .nil (jT ao cap)) (by simp[results,Tryz.results15,go_sem,iE,fK,jT,bT.len,aZ.len]) rfl ⟨rfl,?_⟩;exact((ak _ _).alloc agJ _)
theorem xq {op dP xn:Int} {nm dO:ByteArray} {xk idx:bT} {b e:aZ} (h1:bY op) (h2:nm.size<=maxLen) (h3:Pf dP xn dO xk) (h4:yI idx<=50) (h5:SB b) (h6:SB e):zh (fK op nm idx dP xn dO xk) b e:=
 ⟨⟨h1,wF,h2,qL,by have:=Un idx;unfold maxLen;show idx.len<=_;omega,h3.1,h5.max,h6.max⟩,by have:=h3.2;show 3+yI xk+yI idx<=100;omega,h5,h6⟩
theorem Hx.ne {w:World} {H H1:Option Nat} {k:Nat} (h:Hx w H H1) (hk:k<w.heap.size) (hn:H≠some k):H1≠some k:=λe=>hn (h.old hk e)
def AsP (B:Nat) (v:Value) (W:World):Prop:= ∃s xo xn xm xk xa xc,v=iE (fK 1 s .nil xo xn xm xk) .nil .nil (jT xa xc)∧s.size<=maxLen∧Pf xo xn xm xk∧ig B W (λw2=>xk.At w2 w2.heap.size xa 0)
structure Sg (T:Tp) (H:Option Nat) (hs:List ByteArray) (b0:Nat) (wb:World) (Hc:Option Nat) (W:World):Prop where
 m:Mm T H wb W
 x:Hx wb H Hc
 i:dN W T Hc hs
 z:W.heap[b0]? =some (.cells lN 74 (0,0))
 o:Old T H b0
 l:b0<wb.heap.size
section
variable {T:Tp} {H Hc Hd H1:Option Nat} {hs:List ByteArray} {b0:Nat} {wb W W' W1:World} {Q:World->Prop}
theorem Sg.ne (h:Sg T H hs b0 wb Hc W):Hc≠some b0:=h.x.ne h.l (λe=>absurd (h.o.h _ e) (Nat.lt_irrefl _))
theorem Sg.below (h:Sg T H hs b0 wb Hc W) (hb:Below W.heap.size W W'):Sg T H hs b0 wb Hc W':=
 ⟨h.m.then_ (hb.mono h.m.size) hb.size,h.x,h.i.below hb,(hb.block _ (aO h.z)).trans h.z,h.o,h.l⟩
theorem Sg.mm (h:Sg T H hs b0 wb Hc W) (hm:Mm T Hc W W') (hx:Hx W Hc Hd) (hi:dN W' T Hd hs):Sg T H hs b0 wb Hd W':=
 ⟨h.m.trans h.x hm,h.x.trans hx h.m.size,hi,hm.keep h.z (by have:=h.o.t;omega) (by have:=h.o.m;omega) h.ne,h.o,h.l⟩
theorem Sg.tf (h:Sg T H hs b0 wb Hc W) (hm:TF T W W') (hi:dN W' T Hc hs):Sg T H hs b0 wb Hc W':=h.mm hm.mm (Hx.refl _ _) hi
theorem Sg.flag (h:Sg T H hs b0 wb Hc W) (j:Nat) (hj:j=3∨j=4∨j=5∨j=6) (q:Bool):Sg T H hs b0 wb Hc (W.setCell ⟨T.bm,j,none⟩ (.bool q)):=
 h.mm ((Mm.refl T Hc W).rD (Hx.refl _ _) _ _) (Hx.refl _ _) (h.i.flag j hj q)
theorem Sg.set (h:Sg T H hs b0 wb Hc W) (a:Addr) (v:Value) (hb:wb.heap.size<=a.block) (hn:Hc≠some a.block):Sg T H hs b0 wb Hc (W.setCell a v):=
 ⟨h.m.set a v hb,h.x,h.i.set a v (by have:=h.o.z;have:=h.l;omega) adr ads hn,(bg W a v rfl (by have:=h.l;omega)).trans h.z,h.o,h.l⟩
theorem Sg.stay (h:Sg T H hs b0 wb H1 W1) (hS:ig wb.heap.size W1 Q) (hH: ∀k,H1=some k->wb.heap.size<=k->False) (hm:Mm T H1 W1 W) (hx:Hx W1 H1 Hc):gM wb.heap.size (Bt Hc) W Q:=
 (gM.iM (X:=Bt H1) hS (aB _) (λk h1 _ e=>hH k e h1)).go (hm.He adr ads) (λk _ h2 e=>hx.old h2 e)
theorem Sg.Mk {B1:Nat} (h:Sg T H hs b0 wb H1 W1) (hS:gM B1 (Bt H1) W1 Q) (hB:wb.heap.size<=B1) (hm:Mm T H1 W1 W) (hx:Hx W1 H1 Hc):gM wb.heap.size (Bt Hc) W Q:=
 (hS.weak hB (λ_ _ _ e=>e)).go (hm.He adr ads) (λk _ h2 e=>hx.old h2 e)
theorem Sg.grown {g:Option Nat} (h:Sg T H hs b0 wb Hc W) (hg:W.grownBy W' g) (h0: ∀k,g=some k->wb.heap.size<=k∧Hc≠some k):Sg T H hs b0 wb Hc W':=
 ⟨h.m.then_ (CP hg (λk e=>(h0 k e).1) h.m.size) hg.size,h.x,h.i.grown hg (λk e=>by have h1:=(h0 k e).1;have h2:=h.o.t;have h3:=h.o.m;have h4:=h.o.z;have h5:=h.l;exact⟨agH,agH,agH,(h0 k e).2⟩),(hg.block _ (aO h.z) (λe=>by have:=(h0 _ e.symm).1;have:=h.l;omega)).trans h.z,h.o,h.l⟩
theorem Sg.old (h:Sg T H hs b0 wb H W): ∀k,H=some k->wb.heap.size<=k->False:=λk e h1=>by have:=h.o.h _ e;have:=h.l;omega
end
theorem RJ {B g:Nat} {W:World} {t:TypeId} {fr:Nat×Nat} {l:List bQ} (h:W.heap[g]? =some (.cells (l.flatMap bQ.f).toArray t fr)) (hB:B<=g) (hI: ∀x∈l,zh x.h x.b x.e∧ig B W x.I):ig B W (λw2=>(fM l).At w2 w2.heap.size (some ⟨g,0,none⟩) 0):=λw2 h2=>by
 have hg:=(h2.2 g hB (aO h)).trans h;refine II l 0 (λx hx=>⟨(hI x hx).1.1,(hI x hx).2 w2 h2⟩) (λi x hx=>⟨g,rfl,(aO hg),λj u hu=> ?_⟩);have:=flat_get Am l i x j u hx hu;rw[aU];exact aQ hg (by simpa using this)
theorem OT (W:World) (a:Addr) (v:Value) (o:Obj) (h:a.block<W.heap.size):(W.setCell a v).alloc o=(W.alloc o).setCell a v:=by
 unfold World.setCell World.alloc;simp only[World.mk.injEq,and_true,true_and];refine Array.ext_getElem? (λk=> ?_);simp only[Array.getElem?_push,Array.getElem?_modify,Array.size_modify];split <;> split <;> first|rfl|omega|(simp;done)|skip
 all_goals simp_all
theorem Aj (b:Nat) (o:Obj): ∀(vs:List Value) (k:Nat) (W:World),b<W.heap.size->(W.setCells b k vs).alloc o=(W.alloc o).setCells b k vs
 | [],_,_,_=>rfl
 |v::vs,k,W,h=>by show((W.setCell ⟨b,k,none⟩ v).setCells b (k+1) vs).alloc o=((W.alloc o).setCell ⟨b,k,none⟩ v).setCells b (k+1) vs;rw[Aj b o vs (k+1) _ (by simpa[World.setCell]using h),OT _ _ _ _ h]
theorem aT2:qW 2 0 ⟨#[98]⟩ .nil:=⟨aeO,wF,aeP,nil_le⟩
theorem bz9:qW 1 2 ⟨#[]⟩ .nil:=⟨aeO,aeO,qL,nil_le⟩
theorem bz8:qW 1 1 ⟨#[]⟩ .nil:=⟨aeO,aeO,qL,nil_le⟩
theorem okC (op a b:Int) (h:bY op):Pf op 0 ⟨#[]⟩ (.cons 2 a ⟨#[98]⟩ .nil (.cons 1 b ⟨#[]⟩ .nil .nil)):=⟨⟨h,wF,qL,agw⟩,by simp[yI]⟩
def an0 (l:List bQ):Prop:= ∀x∈l,zh x.h x.b x.e∧∀B W,ig B W x.I
structure Ms (T:Tp) (d:Nat):Prop where
 xW:d<=100
 st:0<d->(∀w H hs (n:Int),dN w T H hs->hs.length+d<=901->1<=n->n<=9->Calls Tryz.prog 14 #[.pointer (some ⟨T.bm,0,none⟩),.int .i64 ((d:Int) -1),.int .i64 n] w (TH T H hs w))
 bl:0<d->(∀w H hs (s:ByteArray),dN w T H hs->hs.length+d<=900->s.size<=maxLen->Calls Tryz.prog 54 #[.pointer (some ⟨T.bm,0,none⟩),.string s,.int .i64 ((d:Int) -1)] w (TH T H hs w))
 s0:0<d->(∀w H hs (n:Int),dN w T H hs->hs.length<=900->1<=n->n<=9->Calls Tryz.prog 14 #[.pointer (some ⟨T.bm,0,none⟩),.int .i64 0,.int .i64 n] w (TH T H hs w))
theorem Ms.mk' {T:Tp} {d:Nat} (hd:d<=100) (ih: ∀d':Nat,d'<d->EJ T d'∧Qb T d'):Ms T d:=by
 refine⟨hd,λh=> ?_,λh=> ?_,λh w H hs n h1 h2=>(ih 0 h).1 w H hs n h1 agH⟩
 ·obtain⟨d',rfl⟩: ∃d',d=d'+1:=⟨d -1,agH⟩;have e:((d'+1:Nat):Int) -1=(d':Int):=by omega
  rw[e];exact λw H hs n h1 h2=>(ih d' agH).1 w H hs n h1 agH
 ·obtain⟨d',rfl⟩: ∃d',d=d'+1:=⟨d -1,agH⟩;have e:((d'+1:Nat):Int) -1=(d':Int):=by omega
  rw[e];exact λw H hs s h1 h2=>(ih d' agH).2 w H hs s h1 agH
def Nx (T:Tp) (w:World) (H:Option Nat) (hs:List ByteArray) (k:Nat):Prop:= ∀W,dN W T H hs->W.heap[T.bt]? =w.heap[T.bt]?->
    Calls Tryz.prog 13 #[.pointer (some ⟨T.bt,0,none⟩),.int .i64 18] W (λe w'=>e= .returned (.int .i64 k)∧TF T W w'∧dN w' T H hs)
def qo (K:Nat->Prop):Prop:= ∀(T:Tp) (d k:Nat),K k->Ms T d->∀w H hs,dN w T H hs->hs.length+d<=900->Nx T w H hs k->
    Calls Tryz.prog 32 #[.pointer (some ⟨T.bm,0,none⟩),.int .i64 (d:Int)] w (TI T H hs w)
theorem GU (op:Int) (w:World):
 Calls Tryz.prog 132 #[.int .i64 op] w λe w'=>e= .returned (.int .i64 (opsOf op))∧w=w':=by
 unfold opsOf;go_enter Tryz.func132,Tryz.ntmps132;go_wp2
 all_goals go_ret
 all_goals refine⟨bV ?_,rfl⟩
 all_goals first|(simp[*];done)|((repeat' split) <;> simp_all <;> omega)
def J3 (op n:Int) (nm:ByteArray) (kids:bT):Prop:=
 ∀(w:World) (ao:Option Addr) (cap:Nat),qW op n nm kids->kids.At w w.heap.size ao 0->
  Calls Tryz.prog 106 #[.agg #[.int .i64 op,.int .i64 n,.string nm,.slice ao kids.len cap]] w λe w'=>e= .returned (.bool (jW op n nm kids))∧Below w.heap.size w w'
theorem ay5 (op n:Int) (nm:ByteArray) (kids:bT):jW op n nm kids=(((decide (opsOf op=(kids.len:Int))&&(decide (0<=n)&&(decide (op=1)||decide (n=0))))&&(if((op==2)||(op==3))then Tk.jf nm.data.toList else decide (nm.toList=[])))&&mZ kids):=by
 have h1:((kids.len:Int)==opsOf op)=decide (opsOf op=(kids.len:Int)):=by rw[Bool.eq_iff_iff];simp;exact eq_comm
 have h2:kZ nm (named op)=if((op==2)||(op==3))then Tk.jf nm.data.toList else decide (nm.toList=[]):=by
  unfold kZ named;split
  ·rfl
  ·rw[Lib.toList_data,Bool.eq_iff_iff];simp
 have h3:(!(decide (n<0)||(!(n==0)&& !(op==1))))=(decide (0<=n)&&(decide (op=1)||decide (n=0))):=aes
 unfold jW IG;rw[h1,h2,h3];simp only[Bool.and_assoc]
theorem ad4 {nm:ByteArray} (h:nm.toList=[]):Tk.jf nm.data.toList=false:=by rw[<- Lib.toList_data,h];rfl
theorem GX (op n:Int) (nm:ByteArray) (kids:bT) (ih:kids.All J3):J3 op n nm kids:=by
 intro w ao cap hok hat;obtain⟨⟨o1,o2⟩,⟨n1,n2⟩,hm,hl⟩:=hok;unfold maxLen at hl;have hl':kids.len<=9223372036854775807:=hl;have HS:=ah (ay5 op n nm kids);have rG:=ah ih;have HAT:=ah hat;clear ih hat;go_enter Tryz.func106,Tryz.ntmps106;go_upto_region 1 with fail;generalize hW:World.alloc w _=W;generalize Value.agg #[_,_,_,_]=a0;have HX:=ah (wX.mk hW);clear hW;obtain⟨-,hs,c0,c1,c2,c3⟩:=HX.o;go_cut [3] (λs W2=>W=W2∧∃b,s= .bool b∧((op==2)||(op==3))=b)
 case first=>
  go_wp2_with fail
  all_goals go_meet
  all_goals exact⟨rfl,_,rfl,by grind⟩
 obtain⟨rfl,bn,rfl,hbn⟩:=hcut;rw[hbn]at HS;clear hbn;go_upto_region 2 with fail;go_cut [3,50] (λ_ s W2=> ∃b,s= .bool b∧jW op n nm kids=(!b&&mZ kids)∧wX w W2 (.int .i64 op) (.int .i64 n) (.string nm) (.slice ao kids.len cap))
 case first=>
  cases bn
  all_goals
   obtain⟨T,F,Ah,hst,hF,hnext⟩:=calm W;have HF:=ah hF;have dh:=ah hnext;clear hnext;have d0:=λx=>((HF.o x).cell (p:=⟨w.heap.size,0,none⟩) hs).trans c0;have d1:=λx=>((HF.o x).cell (p:=⟨w.heap.size,1,none⟩) hs).trans c1;have d2:=λx=>((HF.o x).cell (p:=⟨w.heap.size,2,none⟩) hs).trans c2;have d3:=λx=>((HF.o x).cell (p:=⟨w.heap.size,3,none⟩) hs).trans c3;clear hF c0 c1 c2 c3;refine iI F agG agG hst ?_
   repeat (any_goals (first|go_big_quiet_step (first|(go_at_call 132;refine(GU _ _).mono ?_;rintro e w' ⟨rfl,rfl⟩;exact⟨rfl,_,rfl⟩)|(go_at_call 22;refine(ji _ _ hm).mono ?_;rintro e w' ⟨rfl,hb⟩;exact⟨rfl,dh.o _ _ hb⟩))|(refine wpQuiet_step (λK hK=> ?_);go_simp;first|(refine hK _ ?_;clear hK K)|(split <;> first|(refine hK _ ?_;clear hK K)|(apply Exists.intro;refine⟨λ_=> ?_,hK _ ?_⟩;(first|(go_at_call 132;refine(GU _ _).mono ?_;rintro e w' ⟨rfl,rfl⟩;exact⟨rfl,_,rfl⟩)|(go_at_call 22;refine(ji _ _ hm).mono ?_;rintro e w' ⟨rfl,hb⟩;exact⟨rfl,dh.o _ _ hb⟩));clear hK K)))))
   all_goals (refine wpQuiet_nil ?_;rintro _ ⟨x,rfl⟩;go_wp2_with fail;go_meet)
   all_goals exact⟨_,rfl,HS.o.trans (by go_light;grind[ad4]),HX.o.next (HF.o _)⟩
 case rest=>
  obtain⟨b,rfl,hR,Ld⟩:=hcut;have HZ:=ah Ld;have HR:=ah hR;clear HX Ld hR HS c0 c1 c2 c3 hs;cases b
  ·go_wp2_with fail;go_loopw [4] (λi wr=> ∃k R,i= .int .i64 (k:Nat)∧TN kids R k∧R.All J3∧R.At wr wr.heap.size ao k∧wX w wr (Value.int IntKind.i64 op) (Value.int IntKind.i64 n) (Value.string nm) (Value.slice ao kids.len cap)) (λi _=>kids.len -(intOf i).toNat)
   case atStart=>exact⟨0,kids,rfl,⟨aU _,rfl⟩,rG.o,HAT.o.same HZ.o.1,HZ.o⟩
   case round=>
    obtain⟨k,R,rfl,⟨hlen,heq⟩,hall,hrow,D6⟩:=hrel;have HT:=ah (HR.o.trans (show(!false&&mZ kids)=mZ R by rw[heq];rfl));have xB:=ah D6;clear D6;obtain⟨-,-,c0,c1,c2,c3⟩:=xB.o;cases R with
    |nil=>obtain rfl:k=kids.len:=afk;go_wp2_with fail;go_ret;exact⟨bW HT.o.symm,xB.o.1⟩
    |cons op' n' nm' iw rest=>
     obtain⟨⟨b,off,mh,cap',rfl,lV,x0,x1,x2,x3,hok',lW⟩,hrest⟩:=hrow;obtain⟨kN,pG⟩:=hall;have hlt:k<kids.len:=acB;go_wp2_with fail;refine(kN _ _ _ hok' lW).mono ?_;rintro e w2 ⟨rfl,hb2⟩;have Nt:=ah (xB.o.next hb2);have hrest':=hrest.same hb2;clear hb2 xB hrest x0 x1 x2 x3 c0 c1 c2 c3 lW;cases hS:jW op' n' nm' iw
     ·have HF:=ah (HT.o.trans (by rw[nL,hS];rfl:mZ (.cons op' n' nm' iw rest)=false));go_wp2_with fail;go_ret;exact⟨bW HF.o.symm,Nt.o.1⟩
     ·have HF:=ah (heq.trans (by rw[nL,hS];rfl:mZ (.cons op' n' nm' iw rest)=mZ rest));go_wp2_with fail;go_roundw
      case rel=>exact⟨k+1,rest,agL,⟨acB,HF.o⟩,pG,hrest',Nt.o⟩
      case measure=>simp[intOf];omega
  ·go_wp2_with fail;go_ret;exact⟨bW HR.o.symm,HZ.o.1⟩
theorem wZ (op n:Int) (nm:ByteArray) (kids:bT):J3 op n nm kids:=bT.AX GX op n nm kids
end Go.Proofs.YtdoplekppjkkpaaGreatDoor
