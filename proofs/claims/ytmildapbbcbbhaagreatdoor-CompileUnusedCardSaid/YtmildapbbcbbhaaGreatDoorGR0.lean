/- The reference's At: the place of a text in a row. And what hangs on it. -/
import Derived.Test.YtmildapbbcbbhaaGreatDoorGME
import Derived.Test.YtmildapbbcbbhaaGreatDoorGPC
set_option linter.unusedSimpArgs false
set_option linter.unusedVariables false
set_option maxHeartbeats 40000000
set_option maxRecDepth 1000000
namespace Go.Proofs.YtmildapbbcbbhaaGreatDoor
open Go.RowKit
namespace Md
def fidx {α:Type} (f:α->Bool):List α->Nat->Int
 | [],_=> -1
 |x::r,k=>if f x then(k:Int)else fidx f r (k+1)
theorem pO {α:Type} (f:α->Bool): ∀(l:List α) (k:Nat),(fidx f l k= -1∧l.find? f=none∧l.any f=false)∨∃(j:Nat) (d:α) (r:List α),j<l.length∧fidx f l k=((k+j:Nat):Int)∧l.drop j=d::r∧l.find? f=some d∧l.any f=true
 | [],_=>Or.inl ⟨rfl,rfl,rfl⟩
 |x::r,k=>by
  cases h:f x
  ·rcases pO f r (k+1)with⟨h1,h2,h3⟩|⟨j,d,r',h0,h1,h2,h3,h4⟩
   ·exact Or.inl ⟨by simp[fidx,h,h1],by simp[h,h2],by simp[h,h3]⟩
   ·exact Or.inr ⟨j+1,d,r',by simp;omega,by simp only[fidx,h];rw[if_neg (by decide),h1];omega,by simpa using h2,by simp[h,h3],by simp[h,h4]⟩
  ·exact Or.inr ⟨0,x,r,by simp,by simp[fidx,h],rfl,by simp[h],by simp[h]⟩
def LV (l:List ByteArray) (nm:ByteArray):Int:=fidx (λs=>s.toList==nm.toList) l 0
end Md
open Md
theorem nV (l:List ByteArray) (nm:ByteArray) (w:World) (ao:Option Addr) (cap:Nat) (hl:l.length<=maxLen) (hw:fJ w w.heap.size l ao 0):
 Calls Tryz.prog 54 #[.slice ao l.length cap,.string nm] w λe w'=>e= .returned (.int .i64 (LV l nm))∧w=w':=by
 unfold maxLen at hl;go_enter Tryz.func54,Tryz.ntmps54;go_wp2_with fail;go_loop [5] (λs=> ∃(k:Nat) (R:List ByteArray),s= .int .i64 k∧k+R.length=l.length∧LV l nm=fidx (λs=>s.toList==nm.toList) R k∧fJ w w.heap.size R ao k) (λs=>l.length -(intOf s).toNat)
 case atStart=>exact⟨0,l,rfl,by simp,rfl,hw⟩
 case round=>
  obtain⟨k,R,rfl,hlen,heq,hrow⟩:=hrel;have HE:=ah heq;clear heq;cases R with
  |nil=>
   obtain rfl:k=l.length:=by simpa using hlen
   go_wp2_with fail;go_ret;exact⟨bV HE.o.symm,rfl⟩
  |cons s R=>
   obtain⟨⟨b,off,rfl,hB,y0,hs⟩,hrest⟩:=hrow;simp only[aA]at hlen;have hkl:k<l.length:=by omega
   cases hc:(s.toList==nm.toList)
   ·have dL:=ah (HE.o.trans (if_neg (show ¬(s.toList==nm.toList)=true by rw[hc];decide)));go_wp2_with fail;go_round
    case rel=>exact⟨k+1,R,by go_num,by omega,dL.o,hrest⟩
    case measure=>simp[intOf];omega
   ·have dL:=ah (HE.o.trans (if_pos hc));go_wp2_with fail;go_ret;exact⟨bV dL.o.symm,rfl⟩
namespace Md
def zh (l:List De) (nm:ByteArray):Int:=fidx (λd=>d.nm.toList==nm.toList) l 0
def qz (l:List Th) (nm:ByteArray):Int:=fidx (λt=>t.nm.toList==nm.toList) l 0
def conv (m:Int):Int:=if m==0 then 0 else if m==1 then 8 else if m==9 then 9 else m -1
def gM (k a b:Int):Int:=if k==0 then 5 else if(k != a)&&(k != b)then 6 else 0
theorem Bo (p:Pr) (i:Int) (nm:ByteArray):0<=mean p i nm∧mean p i nm<=9:=by
 unfold mean nT qL;split
 ·decide
 ·cases p.ds.find? (λd=>d.nm.toList==nm.toList)with
  |none=>simp;split <;> decide
  |some d=>have:=sU d;simp;omega
theorem ten {m:Int} (h:0<=m∧m<=9):m=0∨m=1∨m=2∨m=3∨m=4∨m=5∨m=6∨m=7∨m=8∨m=9:=by omega
theorem ER {m a:Int} (hm:0<=m∧m<=9) (ha:0<=a∧a<=9):(conv m==conv a)=(m==a):=by
 rcases ten hm with rfl|rfl|rfl|rfl|rfl|rfl|rfl|rfl|rfl|rfl <;> rcases ten ha with rfl|rfl|rfl|rfl|rfl|rfl|rfl|rfl|rfl|rfl <;> rfl
theorem Nn {m:Int} (hm:0<=m∧m<=9):(conv m==0)=(m==0):=ER hm (a:=0) (by decide)
theorem Rk (m a:Int) (hm:0<=m∧m<=9) (ha:0<=a∧a<=9):gM (conv m) (conv a) (conv a)=dQ m [a]:=by
 unfold gM dQ bne;rw[Nn hm,ER hm ha];simp only[List.any_cons,List.any_nil,Bool.or_false];cases h:(m==a) <;> rfl
theorem Rl (m a b:Int) (hm:0<=m∧m<=9) (ha:0<=a∧a<=9) (hb:0<=b∧b<=9):gM (conv m) (conv a) (conv b)=dQ m [a,b]:=by
 unfold gM dQ bne;rw[Nn hm,ER hm ha,ER hm hb];simp only[List.any_cons,List.any_nil,Bool.or_false];cases h:(m==a) <;> cases h':(m==b) <;> rfl
end Md
theorem oJ (l:List De) (nm:ByteArray) (w:World) (ao:Option Addr) (cap:Nat) (hl:l.length<=maxLen) (hw:jo w w.heap.size l ao 0):
 Calls Tryz.prog 52 #[.slice ao l.length cap,.string nm] w λe w'=>e= .returned (.int .i64 (zh l nm))∧w=w':=by
 unfold maxLen at hl;go_enter Tryz.func52,Tryz.ntmps52;go_wp2_with fail;go_loop [5] (λs=> ∃(k:Nat) (R:List De),s= .int .i64 k∧k+R.length=l.length∧zh l nm=fidx (λd=>d.nm.toList==nm.toList) R k∧jo w w.heap.size R ao k) (λs=>l.length -(intOf s).toNat)
 case atStart=>exact⟨0,l,rfl,by simp,rfl,hw⟩
 case round=>
  obtain⟨k,R,rfl,hlen,heq,hrow⟩:=hrel;have HE:=ah heq;clear heq;cases R with
  |nil=>
   obtain rfl:k=l.length:=by simpa using hlen
   go_wp2_with fail;go_ret;exact⟨bV HE.o.symm,rfl⟩
  |cons s R=>
   obtain⟨⟨b,off,rfl,hB,y0,y1,y2,y3,y4,y5,hs⟩,hrest⟩:=hrow;simp only[aA]at hlen;have hkl:k<l.length:=by omega
   cases hc:(s.nm.toList==nm.toList)
   ·have dL:=ah (HE.o.trans (if_neg (show ¬(s.nm.toList==nm.toList)=true by rw[hc];decide)));go_wp2_with fail;go_round
    case rel=>exact⟨k+1,R,by go_num,by omega,dL.o,hrest⟩
    case measure=>simp[intOf];omega
   ·have dL:=ah (HE.o.trans (if_pos hc));go_wp2_with fail;go_ret;exact⟨bV dL.o.symm,rfl⟩
theorem jc (l:List Th) (nm:ByteArray) (w:World) (ao:Option Addr) (cap:Nat) (hl:l.length<=maxLen) (hw:iJ w w.heap.size l ao 0):
 Calls Tryz.prog 53 #[.slice ao l.length cap,.string nm] w λe w'=>e= .returned (.int .i64 (qz l nm))∧w=w':=by
 unfold maxLen at hl;go_enter Tryz.func53,Tryz.ntmps53;go_wp2_with fail;go_loop [5] (λs=> ∃(k:Nat) (R:List Th),s= .int .i64 k∧k+R.length=l.length∧qz l nm=fidx (λd=>d.nm.toList==nm.toList) R k∧iJ w w.heap.size R ao k) (λs=>l.length -(intOf s).toNat)
 case atStart=>exact⟨0,l,rfl,by simp,rfl,hw⟩
 case round=>
  obtain⟨k,R,rfl,hlen,heq,hrow⟩:=hrel;have HE:=ah heq;clear heq;cases R with
  |nil=>
   obtain rfl:k=l.length:=by simpa using hlen
   go_wp2_with fail;go_ret;exact⟨bV HE.o.symm,rfl⟩
  |cons s R=>
   obtain⟨⟨b,off,iR,eX,dH,cu,rfl,hB,y0,y1,y2,y3,hs,ht,hst⟩,hrest⟩:=hrow;simp only[aA]at hlen;have hkl:k<l.length:=by omega
   clear hs ht hst;cases hc:(s.nm.toList==nm.toList)
   ·have dL:=ah (HE.o.trans (if_neg (show ¬(s.nm.toList==nm.toList)=true by rw[hc];decide)));go_wp2_with fail;go_round
    case rel=>exact⟨k+1,R,by go_num,by omega,dL.o,hrest⟩
    case measure=>simp[intOf];omega
   ·have dL:=ah (HE.o.trans (if_pos hc));go_wp2_with fail;go_ret;exact⟨bV dL.o.symm,rfl⟩
theorem aa9 {p:Pr} {i:Int} {nm:ByteArray} (h:qm (oU p.ts i) nm=true):conv (mean p i nm)=8:=by unfold mean;rw[h];rfl
theorem aa8 {p:Pr} {i:Int} {nm:ByteArray} {d:De} (h:qm (oU p.ts i) nm=false) (hd:p.ds.find? (λd=>d.nm.toList==nm.toList)=some d):conv (mean p i nm)=conv (gI d):=by
 unfold mean nT;rw[h,hd];rfl
theorem ab0 {p:Pr} {i:Int} {nm:ByteArray} {b:Bool} (h:qm (oU p.ts i) nm=false) (hd:p.ds.find? (λd=>d.nm.toList==nm.toList)=none) (ht:p.ts.any (λt=>t.nm.toList==nm.toList)=b):conv (mean p i nm)=if b then 7 else 0:=by
 unfold mean nT qL;rw[h,hd,ht];cases b <;> rfl
theorem WY (d:De):conv (gI d)=if d.kind==1 then(if d.size != 0 then 2 else 1)else if d.kind==2 then 1 else if(d.kind==3||d.kind==4)||(d.kind==5||d.kind==6)then d.kind else 9:=by
 by_cases h1:d.kind=1
 ·by_cases h0:d.size=0 <;> simp[gI,conv,h1,h0]
 by_cases h2:d.kind=2
 ·simp[gI,conv,h2]
 by_cases h3:d.kind=3
 ·simp[gI,conv,h3]
 by_cases h4:d.kind=4
 ·simp[gI,conv,h4]
 by_cases h5:d.kind=5
 ·simp[gI,conv,h5]
 by_cases h6:d.kind=6
 ·simp[gI,conv,h6]
 simp[gI,conv,h1,h2,h3,h4,h5,h6]
theorem UE (p:Pr) (i:Int) (nm:ByteArray) (w:World) (aK aM:Option Addr) (aH aD:Nat) (hi:bW i) (hp:p.At w aK aM):
 Calls Tryz.prog 113 #[.agg #[.slice aK p.ds.length aH,.slice aM p.ts.length aD],.int .i64 i,.string nm] w λe w'=>e= .returned (.int .i64 (conv (mean p i nm)))∧Below w.heap.size w w':=by
 obtain⟨i1,i2⟩:=hi;have hld:=hp.1;have hlt:=hp.2.1;have Vf:=hp.1;have hlt':=hp.2.1;unfold maxLen at hld hlt;have HP:=ah hp;clear hp;go_enter Tryz.func113,Tryz.ntmps113;go_upto_region 1 with fail;generalize hW:World.alloc w _=W;generalize Value.agg #[_,_]=a0;have HX:=ah ((Sit.start w).wG rfl (.slice aK p.ds.length aH) (.slice aM p.ts.length aD) 26);rw[hW]at HX;clear hW;obtain⟨-,⟨-,c0⟩,⟨-,c1⟩,-⟩:=HX.o;go_cut [27] (λs W2=>W=W2∧s= .bool (qm (oU p.ts i) nm))
 case first=>
  cases hbi:decide (0<=i∧i<p.ts.length)
  ·have HN:aj (qm (oU p.ts i) nm=false):=ah (by rw[J5 (by simpa using hbi)];rfl);rcases(show i<0∨(0<=i∧(p.ts.length:Int)<=i) by simp at hbi;omega)with h|⟨h,h'⟩
   all_goals clear hbi
   all_goals go_wp2_with fail
   all_goals go_meet
   all_goals exact⟨rfl,by rw[HN.o]⟩
  ·have aJ0:0<=i∧i<p.ts.length:=by simpa using hbi
   clear hbi;obtain⟨j,rfl⟩:=Int.eq_ofNat_of_zero_le aJ0.1;have hj:j<p.ts.length:=by omega
   have hth:=(HP.o.same HX.o.1).2.2.2.drop j;cases hd:p.ts.drop j with
   |nil=>exfalso;have:=congrArg List.length hd;simp at this;omega
   |cons t r=>
    rw[hd,aU]at hth;have HL:=ah (KZ hd);clear hd aJ0;obtain⟨⟨b,off,iR,eX,dH,cu,rfl,hB,x0,x1,x2,x3,hok,htx,hst⟩,-⟩:=hth;have hll:=hok.2.2.1;clear hst hok;go_wp2_with fail;refine(nV t.cO nm _ iR eX hll htx).mono ?_;rintro e w2 ⟨rfl,rfl⟩;rcases pO (λs:ByteArray=>s.toList==nm.toList) t.cO 0 with⟨h1,h2,h3⟩|⟨j',d,r',h0,h1,h2,h3,h4⟩
    ·have HT:aj (qm (oU p.ts j) nm=false):=ah (by rw[HL.o];exact h3);have h1':LV t.cO nm= -1:=h1;rw[h1'];clear h1 h2 h3 h1';go_wp2_with fail;go_meet;exact⟨rfl,by rw[HT.o]⟩
    ·have HT:aj (qm (oU p.ts j) nm=true):=ah (by rw[HL.o];exact h4);have h1':LV t.cO nm=(j':Int):=(by rw[<- aU j'];exact h1);rw[h1'];clear h1 h2 h3 h1' h4;go_wp2_with fail;go_meet;exact⟨rfl,by rw[HT.o]⟩
 case rest=>
  obtain⟨rfl,rfl⟩:=hcut;cases hloc:qm (oU p.ts i) nm
  ·go_wp2_with fail;refine(oJ p.ds nm _ aK aH Vf (HP.o.same HX.o.1).2.2.1).mono ?_;rintro e w2 ⟨rfl,rfl⟩;rcases pO (λd:De=>d.nm.toList==nm.toList) p.ds 0 with⟨h1,h2,h3⟩|⟨j',d,r',h0,h1,h2,h3,h4⟩
   ·have h1':zh p.ds nm= -1:=h1;rw[h1'];have HK:=ah (λb ht=>ab0 (b:=b) hloc h2 ht);clear h1 h2 h3 h1' hloc;go_wp2_with fail;refine(jc p.ts nm _ aM aD hlt' (HP.o.same HX.o.1).2.2.2).mono ?_;rintro e w2 ⟨rfl,rfl⟩;rcases pO (λd:Th=>d.nm.toList==nm.toList) p.ts 0 with⟨h1,h2,h3⟩|⟨j',d,r',h0,h1,h2,h3,h4⟩
    ·have h1':qz p.ts nm= -1:=h1;rw[h1'];have HK':=ah (HK.o _ h3);clear h1 h2 h3 h1' HK;go_wp2_with fail;go_ret;exact⟨bV HK'.o.symm,HX.o.1⟩
    ·have h1':qz p.ts nm=(j':Int):=(by rw[<- aU j'];exact h1);rw[h1'];have HK':=ah (HK.o _ h4);clear h1 h2 h3 h1' h4 HK;go_wp2_with fail;go_ret;exact⟨bV HK'.o.symm,HX.o.1⟩
   ·have h1':zh p.ds nm=(j':Int):=(by rw[<- aU j'];exact h1);rw[h1'];have HK:=ah ((aa8 hloc h3).trans (WY d));have hth:=(HP.o.same HX.o.1).2.2.1.drop j';rw[h2,aU]at hth;obtain⟨⟨b,off,rfl,hB,x0,x1,x2,x3,x4,x5,hok⟩,-⟩:=hth;clear h1 h2 h3 h4 h1' hloc hok;go_wp2_with fail
    all_goals go_ret
    all_goals refine⟨bV (HK.o.trans ?_).symm,HX.o.1⟩
    all_goals (go_light;grind)
  ·have HK:=ah (aa9 hloc);go_wp2_with fail;go_ret;exact⟨bV HK.o.symm,HX.o.1⟩
def lH:Array Value:= #[.int .i64 0,.int .i64 0,.string ⟨#[]⟩,.string ⟨#[]⟩,.slice none 0 0,.int .i64 0,.int .i64 0,.string ⟨#[]⟩,.slice none 0 0,.slice none 0 0,.slice none 0 0]
theorem rW {α:Type} {β:Type} {o:Option TypeInfo} {z:Option Value} {a b:Nat} (h:o.map (λi=>(i.zero,i.size,i.bytes))=some (z,a,b)): ∃i0,o=some i0∧i0.zero=z∧i0.size=a∧i0.bytes=b:=by
 cases o with
 |none=>cases h
 |some i=>simp at h;exact⟨i,rfl,h.1,h.2.1,h.2.2⟩
theorem KR:(Tryz.prog.info? 62).map (λi=>(i.zero,i.size,i.bytes))=some (some (.agg lH),11,176):=by kernel_rfl
theorem aV4:(Tryz.prog.info? 9).map (λi=>(i.zero,i.size,i.bytes))=some (some (.string ⟨#[]⟩),1,16):=by kernel_rfl
theorem ao6:(Tryz.prog.info? 62).map (·.size)=some 11:=by kernel_rfl
def SC (T:Tp) (H:Option Nat) (hs:List ByteArray) (w:World) (e:Ending) (w':World):Prop:= ∃(h:dD) (b e':aY) (s:Sl) (H':Option Nat),e= .returned (iy h b e' s)∧xS h b e'∧gL w.heap.size (Ay H') w' (bP.I ⟨h,b,e',s⟩)∧Hx w H H'∧Mm T H w w'∧dS w' T H' hs
def WC (T:Tp) (d:Nat):Prop:= ∀w H hs,dS w T H hs->hs.length+d<=900->Calls Tryz.prog 23 #[.pointer (some ⟨T.bm,0,none⟩),.int .i64 (d:Int)] w (SC T H hs w)
def Sz (T:Tp) (H:Option Nat) (hs:List ByteArray) (w:World) (e:Ending) (w':World):Prop:= ∃(v:Value) (l:List bP) (H':Option Nat),e= .returned v∧xI w.heap.size H' w' v l∧(∀x∈l,xS x.h x.b x.e)∧1<=l.length∧l.length<=9∧Hx w H H'∧Mm T H w w'∧dS w' T H' hs
def Ed (T:Tp) (d:Nat):Prop:= ∀w H hs (n:Int),dS w T H hs->hs.length+d<=900->1<=n->n<=9->Calls Tryz.prog 10 #[.pointer (some ⟨T.bm,0,none⟩),.int .i64 (d:Int),.int .i64 n] w (Sz T H hs w)
def Po (T:Tp) (d:Nat):Prop:= ∀w H hs (s:ByteArray),dS w T H hs->hs.length+1+d<=900->s.size<=maxLen->Calls Tryz.prog 48 #[.pointer (some ⟨T.bm,0,none⟩),.string s,.int .i64 (d:Int)] w (Sz T H hs w)
theorem Ch {B:Nat} {w w':World} {g:Option Nat} (h:w.grownBy w' g) (hg: ∀k,g=some k->B<=k) (hB:B<=w.heap.size):Below B w w':=
 ⟨h.os,h.tape,h.output,h.size,λk hk=>h.block k (by omega) (λe=>by have:=hg k e.symm;omega)⟩
theorem JL (x:bP): ∀u∈bP.f x,u.oneCell'=true:=by
 intro u hu;simp[bP.f]at hu;rcases hu with rfl|rfl|rfl|rfl|rfl|rfl|rfl|rfl|rfl|rfl|rfl <;> rfl
theorem aX3 (l:List bP): ∀u∈l.flatMap bP.f,u.oneCell'=true:=by
 intro u hu;obtain⟨x,-,h⟩:=List.mem_flatMap.1 hu;exact JL x u h
theorem RH (T:Tp) (d:Nat) (hst:WC T d):Ed T d:=by
 intro w H hs n hI jX hn1 hn2;have HST:=ah hst;have HI:=ah hI;have aZ:aj (Old T H w.heap.size):=ah hI.old;obtain⟨i0,hi,hz0,hz1,hz2⟩:=rW (α:=Nat) (β:=Nat) KR;have iq:=ah (aI hi (aI hz0 (aI hz1 hz2)));clear hst hI hi hz0 hz1 hz2;go_enter Tryz.func10,Tryz.ntmps10;go_wp2_with fail;go_loopw [7,8] (λv7 v8 wr=> ∃(k:Nat) (l:List bP) (Hr:Option Nat),v8= .int .i64 k∧k<=n.toNat∧l.length=k∧xI w.heap.size Hr wr v7 l∧(∀x∈l,xS x.h x.b x.e)∧dS wr T Hr hs∧Mm T H w wr∧Hx w H Hr) (λ_ i _=>(n -intOf i).toNat)
 case atStart=>exact⟨0,[],H,rfl,bT _,rfl,kK.nil _ _ _ _ _ _ _,by simp,HI.o,Mm.refl _ _ _,Hx.refl _ _⟩
 case round=>
  obtain⟨k,l,Hr,rfl,hk,hl,hg,hok,hmi,hmk,hhx⟩:=hrel;have HL:=ah hl;have HG:=ah hg;have kU:=ah hok;have HMI:=ah hmi;have Wq:=ah hmk;have HHX:=ah hhx;obtain⟨th,left,qa,qb,qc,qd,vH,kD,c0,c1,c2,-,-,-,-,-,-,-,-⟩:=hmi.reads;clear hl hg hok hmi hmk hhx kD c0 c1;by_cases hlt:(k:Int)<n
  ·have hgo:(((k:Int)==0)=true∨(((k:Int)==0)=false∧0<left))∨(((k:Int)==0)=false∧ ¬0<left):=by cases hq:((k:Int)==0) <;> by_cases hp:0<left <;> simp[hp]
   rcases hgo with hgo|⟨hq,hp⟩
   ·rcases hgo with hq|⟨hq,hp⟩
    all_goals
     go_wp2_with fail;refine(HST.o wr Hr hs HMI.o jX).mono ?_;rintro e w1 ⟨h,b,e',s,H1,rfl,Qv,Qw,hhx,hM,hI1⟩;have qD:=ah (HG.o.next (hM.Gj aZ.o.t aZ.o.m) hhx);have aA7:=ah (Wq.o.trans HHX.o hM);have bl2:=ah (HHX.o.trans hhx Wq.o.size);have HI1:=ah hI1;have bm8:=ah Qv;have HX:=ah Qw;have vo:=ah hM.size;have kL:=ah HG.o.lt;clear hM hI1 Qv Qw hhx HG c2;unfold iy;have lT:aj (Below w1.heap.size w1 (w1.alloc (.cells (bP.f ⟨h,b,e',s⟩).toArray 62))):=ah (au _ _);have nP:=ah (qD.o.next (mX.of_below lT.o) (Hx.refl _ _));have jS:=ah (iM (heap_alloc_new w1 (.cells (bP.f ⟨h,b,e',s⟩).toArray 62)));have HSW:aj (w.heap.size<=w1.heap.size):=ah aA7.o.size;obtain⟨hi,hz0,hz1,hz2⟩:=iq.o;have hbs:w.heap.size<=w1.heap.size+1:=Nat.le_succ_of_le HSW.o;have hkl:l.length+1<=maxLen:=(by rw[HL.o];unfold maxLen;omega);have Dg:(l.length+1)*176<=140737488355328:=(by rw[HL.o];omega);go_wp2_with (at_builtin;refine wpList_append_lies _ rfl _ _ 55 rfl w.heap.size 62 i0 _ 11 176 Tryz.underlying55 hi hz0 hz1 hz2 rfl (by decide) _ _ _ rfl nP.o.own ⟨w1.heap.size,0,none⟩ 1 1 (bP.f ⟨h,b,e',s⟩) rfl rfl jS.o (JL _) (by decide) hkl Dg (by simpa using hbs) _ rfl ?_);clear hi hz0 hz1 hz2;intro g cap w2 hown hgr hmv hlt2;have IJ:aj (gL w.heap.size (yQ u7.ownBlock H1) (w1.alloc (.cells (bP.f ⟨h,b,e',s⟩).toArray 62)) (bP.I ⟨h,b,e',s⟩)):=ah ((HX.o.weak (X:=yQ u7.ownBlock H1) Wq.o.size (λk h1 h2 h3=>by
      rcases h3 with h3|h3
      ·have:=(kL.o k h3).2;omega
      ·exact h3)).go (mX.of_below lT.o) (λ_ _ _ e=>e))
     have FX:=ah (HI1.o.below lT.o);have HG2:=ah (nP.o.push IJ.o rfl hown hgr (by simpa using hmv) FX.o.hlt');have Uw:=ah (FX.o.grown hgr (λk e=>by have h1:=(nP.o.lt k e).1;exact⟨aP aZ.o.z h1,λe'=>by have:=aZ.o.t;omega,λe'=>by have:=aZ.o.m;omega,nP.o.ne k e⟩));have bm6:=ah ((aA7.o.then_ (lT.o.mono HSW.o) lT.o.size).then_ (Ch hgr (λk e=>(nP.o.lt k e).1) (by simpa using hbs)) hgr.size);have bm9:aj (∀y∈l++[(⟨h,b,e',s⟩:bP)],xS y.h y.b y.e):=ah (λy hy=>by
      rcases List.mem_append.1 hy with hy|hy
      ·exact kU.o y hy
      ·rw[List.mem_singleton.1 hy];exact bm8.o)
     clear hown hgr hmv hlt2 hbs hkl Dg IJ HX jS nP lT FX;go_wp2_with fail;go_roundw
     case rel=>exact⟨k+1,l++[⟨h,b,e',s⟩],H1,by go_num,by omega,by simp[HL.o],HG2.o,bm9.o,Uw.o,bm6.o,bl2.o⟩
     case measure=>simp[intOf];omega
   ·go_wp2_with fail;go_ret;exact⟨_,l,Hr,rfl,HG.o,kU.o,by rw[HL.o];simp at hq;omega,by rw[HL.o];omega,HHX.o,Wq.o,HMI.o⟩
  ·go_wp2_with fail;go_ret;exact⟨_,l,Hr,rfl,HG.o,kU.o,by rw[HL.o];omega,by rw[HL.o];omega,HHX.o,Wq.o,HMI.o⟩
theorem wV (T:Tp) (w:World) (H:Option Nat) (hs:List ByteArray) (s:ByteArray) (hI:dS w T H hs):
 Calls Tryz.prog 47 #[.pointer (some ⟨T.bm,0,none⟩),.string s] w λe w'=>(∃q,e= .returned (.bool q))∧w=w':=by
 obtain⟨th,left,qa,qb,qc,qd,vH,kD,c0,c1,c2,c3,c4,c5,c6,c7,cf,hv,hrow⟩:=hI.reads;obtain⟨-,ao,cap,rfl,hcap,hc⟩:=hrow.cells zy w (kG.refl _ _);have HT:aj (fJ w w.heap.size hs ao 0):=ah (Ou hs 0 hI.ok (λi x hx=>by obtain⟨g,h1,-,h3,h4⟩:=hc i x hx;exact⟨g,h1,h3,λj u hu=>by rw[aU];exact h4 j u hu⟩));have hl:hs.length<=maxLen:=by have:=hI.few;unfold maxLen;omega
 have HI:=ah hI;clear hc hrow hI hv c0 c1 c2 c3 c4 c5 c6 cf;go_enter Tryz.func47,Tryz.ntmps47;go_wp2_with fail;refine(nV hs s w ao cap hl HT.o).mono ?_;rintro e w' ⟨rfl,rfl⟩;go_wp2_with fail;go_ret;exact⟨⟨_,rfl⟩,rfl⟩
theorem Xl (w:World) (g:Option Nat):w.grownBy w g:=⟨rfl,rfl,rfl,aB _,λ_ _ _=>rfl⟩
theorem RB (T:Tp) (d:Nat) (hd:d<=100) (hsl:Ed T d):Po T d:=by
 intro w H hs s hI jX hsz;have HSL:=ah hsl;have HI:=ah hI;have aZ:aj (Old T H w.heap.size):=ah hI.old;obtain⟨th,left,qa,qb,qc,qd,vH,kD,c0,c1,c2,c3,c4,c5,c6,c7,cf,hv,hrow⟩:=hI.reads;have FX:=ah (hI.below (au w (.cells #[.string s] 9)));have HOW:=ah (hrow.next (bL (au w (.cells #[.string s] 9)))).own;have jS:=ah (iM (cs:=rQ s) (heap_alloc_new w (.cells #[.string s] 9)));have HV:=ah hv;have hb0:T.B0<=w.heap.size+1:=Nat.le_succ_of_le hI.tape.b0;have f7:=cf 7;have hle1:hs.length+1<=maxLen:=by unfold maxLen;omega
 have hle2:(hs.length+1)*16<=140737488355328:=by omega
 obtain⟨i0,hi,hz0,hz1,hz2⟩:=rW (α:=Nat) (β:=Nat) aV4;have yg:T.bm<w.heap.size:=hI.lt;clear hI hrow hsl c0 c1 c2 c3 c4 c5 c6 cf kD hv;go_enter Tryz.func48,Tryz.ntmps48;go_wp2_with (at_builtin;refine wpList_append_lies _ rfl _ _ 31 rfl T.B0 9 i0 _ 1 16 Tryz.underlying31 hi hz0 hz1 hz2 rfl (by decide) _ _ _ rfl HOW.o ⟨w.heap.size,0,none⟩ 1 1 (rQ s) rfl rfl jS.o (by intro u hu;simp[rQ]at hu;subst hu;rfl) (by decide) hle1 hle2 (by simpa using hb0) _ rfl ?_);clear hi hz0 hz1 hz2;intro g cap w2 hown hgr hmv hlt2;rw[HV.o]at hgr hmv;have ZT:w2.heap[T.bm]? =(World.alloc w (.cells #[.string s] 9)).heap[T.bm]?:=hgr.block _ FX.o.lt (λe=>FX.o.nm e.symm);have f7':w2.frozen? ⟨T.bm,7,none⟩=false:=by obtain⟨_,_,_,_,_,_,_,_,hb,_⟩:=FX.o.AJ;exact bH (ZT.trans hb)
 have e7: ∃u,w2.cell? ⟨T.bm,7,none⟩=some u:=by obtain⟨_,_,_,_,_,_,_,_,hb,_⟩:=FX.o.AJ;exact⟨_,(bM (ZT.trans hb) (j:=7) rfl).2⟩
 obtain⟨u7,e7⟩:=e7;go_upto_region 2 with fail;generalize hW3:World.setCell w2 _ _=W3;have HH:aj (dS W3 T (some g) (hs++[s])∧Mm T H (World.alloc w (.cells #[.string s] 9)) W3):=ah (FX.o.held (vH:= .slice (some ⟨g,0,none⟩) (hs.length+1) cap) hW3.symm hgr rfl (by
  rcases hmv with h|h
  ·exact .inl h.symm
  ·exact .inr ⟨g,rfl,by rw[h];simp⟩) ⟨by rw[List.flatMap_append,List.flatMap_singleton,ay];exact hown,λ_ _ _ _=>trivial⟩ (λy hy=>by
  rcases List.mem_append.1 hy with h|h
  ·exact FX.o.ok y h
  ·rw[List.mem_singleton.1 h];exact hsz) (by simp;omega))
 have HX:aj (Hx w H (some g)):=ah (by
  rcases hmv with h|h
  ·exact .inl h.symm
  ·exact .inr ⟨g,rfl,by rw[h];simp⟩)
 clear hW3 hown hgr hmv hlt2 ZT f7' e7 jS HOW f7 c7;have HI3:aj (dS W3 T (some g) (hs++[s])):=ah HH.o.1;have tZ:aj (Mm T H w W3):=ah ((Mm.of_below (au _ _)).trans (Hx.refl _ _) HH.o.2);have c0:=HI3.o.ptr;clear HH FX;go_wp2_with fail;refine(kV T _ _ 2 _ (by unfold bW;decide) HI3.o).mono ?_;rintro e w3 ⟨r,rfl,hr1,-,Tt,Nw⟩;have hr2:r<2:=by have:=hr1 (by decide);omega
 have HI4:=ah Nw;have qp:=ah (tZ.o.trans HX.o Tt.mm);have hwr:IntKind.i64.wrap (1+(r:Int))=1+(r:Int):=IntWalk.i64_in _ (by omega);clear Tt Nw hr1 c0 HI3 tZ;go_wp2_with fail;refine(HSL.o w3 _ _ (1+(r:Int)) HI4.o (by simp;omega) (by omega) (by omega)).mono ?_;rintro e w4 ⟨v,l,H2,rfl,hg,hok,hl1,hl2,hx,hM,hI⟩;have HG:=ah (hg.weak qp.o.size);have kU:=ah (aI hok (aI hl1 hl2));have sO:=ah (HX.o.trans hx qp.o.size);have fZ:=ah (qp.o.trans HX.o hM);have iA:=ah hI;clear hg hok hl1 hl2 hx hM hI HI4 qp HX;obtain⟨vF,left',vC,uO,uP,vE,wC,iD,c0',c1',c2',c3',rD,lW,lX,lu,cf',hv',hrow'⟩:=iA.o.reads;obtain⟨g2,cap2,rfl,-,-⟩:=hrow'.own.form (by simp);obtain rfl:H2=some g2:=by rw[<- hv'];rfl
 have Zb:=ah (jZ.pop hrow' rfl);have f7:=cf' 7;rw[ay,List.length_singleton]at lu;have HC7:aj (∃cs t,w4.heap[T.bm]? =some (.cells cs t (0,0))∧cs[7]? =some (.slice (some ⟨g2,0,none⟩) (hs.length+1) cap2)):=ah (by obtain⟨_,_,_,_,_,_,_,_,hb,_⟩:=iA.o.AJ;refine⟨_,_,hb,?_⟩;have:=(bM hb (j:=7) rfl).2;rw[lu]at this;rw[this];rfl);have HDR:aj (Below w4.heap.size w4 (w4.drewN 1)):=ah (below_drewN (ak _ _) 1);clear c0' c1' c2' c3' rD lW lX lu cf' hrow' iD f7 hv';have K7: ∀w',TF T w4 w'->w'.cell? ⟨T.bm,7,none⟩=some (.slice (some ⟨g2,0,none⟩) (hs.length+1) cap2):=λw' h=>by obtain⟨cs,t,h1,h2⟩:=HC7.o;exact(bM (h.keep h1 T.tm.symm) h2).2
 have hd1:TF T w4 (w4.drewN 1)∧dS (w4.drewN 1) T (some g2) (hs++[s]):=⟨TF.of_below HDR.o,iA.o.below HDR.o⟩;have hcap:hs.length<=cap2:=by
  rcases Zb.o.own.2 with⟨h1,-⟩|⟨g',cap',cur,h1,h2,h3,h4,-⟩
  ·cases h1
  ·injection h1 with e1 e2 e3;rw[e3];exact h4
 have hwd:IntKind.i64.wrap (hs.length:Int)=(hs.length:Int):=IntWalk.i64_in _ (by omega);go_upto_region 3 with fail;refine dI (by kernel_rfl) rfl ?_;refine dw 0 14 [] [[],[],[1],[1,2],[1,2,3],[],[5],[5,6],[5,6,7],[5,6,7,8],[5,6,7,8,9],[1,2,3,4,5,6,7,8,9,10],[0,1,2,3,4,5,6,7,8,9,10,11],[0,1,2,3,4,5,6,7,8,9,10,11,12],[0,1,2,3,4,5,6,7,8,9,10,11,12,13]] [[],[],[],[],[],[],[],[],[],[],[],[],[],[]] (λ_ w'=>TF T w4 w'∧dS w' T (some g2) (hs++[s])) (λw w'=>TF T w w') [27,28,29,30,31,32,33,34,35,36,37,38,39,40] rfl rfl (by rfl) (by kernel_rfl) (by kernel_rfl) (by kernel_rfl) (by kernel_rfl) (by kernel_rfl) (by rfl) (λ_=>TF.refl _ _) (by rfl) hd1 ?_;simp only[iW,mU]
 iterate 14
  apply bS.step
  case bg=>intro c A w' hok hC hO hD;have e0:=hO 0 (by rfl);simp[Act.eval]at e0;simp[Act.eval]at hD;simp[go_sem,gd,Oper.wp,hD,e0,K7,hC.1,hwd,hcap];exact aR.mk (TF.refl _ _) hC (bZ.mk _ _)
  try simp only[dR]
 try simp only[dR]
 refine bS.done ?_;intro wz dF
 try simp only[iW]
 intro v0 h0 v1 h1 v2 h2 v3 h3 v4 h4 v5 h5 v6 h6 v7 h7 v8 h8 v9 h9 v10 h10;refine nX ?_;intro v12 h12;refine nX ?_;clear h0 h1 h2 h3 h4 h5 h6 h7 h8 h9 h10 h12;refine LQ ?_;go_simp;have y7:=K7 wz dF.1;obtain⟨_,_,_,_,_,_,vz,_,_,_,_,_,_,_,_,cz,fz,_,hrz⟩:=dF.2.reads;obtain rfl:vz= .slice (some ⟨g2,0,none⟩) (hs.length+1) cap2:=by rw[cz]at y7;injection y7
 have HRZ:=ah (jZ.pop hrz rfl);have f7:=fz 7;have HCZ:=ah dF;clear hrz fz cz dF K7 hd1;refine fD 14 [[],[],[1],[1,2],[1,2,3],[],[5],[5,6],[5,6,7],[5,6,7,8],[5,6,7,8,9],[1,2,3,4,5,6,7,8,9,10],[0,1,2,3,4,5,6,7,8,9,10,11],[0,1,2,3,4,5,6,7,8,9,10,11,12],[0,1,2,3,4,5,6,7,8,9,10,11,12,13]] rfl rfl rfl rfl rfl (by kernel_rfl) (by kernel_rfl) (by kernel_rfl) ?_;simp[go_sem,Oper.wp,y7,f7];refine eO rfl ?_;go_simp;generalize yV:World.setCell wz _ _=W6;have HH:aj (dS W6 T (some g2) hs∧Mm T (some g2) wz W6):=ah (HCZ.o.2.held (vH:= .slice (some ⟨g2,0,none⟩) hs.length cap2) yV.symm (Xl _ _) rfl (Hx.refl _ _) HRZ.o (λy hy=>iA.o.ok y (List.mem_append.2 (.inl hy))) (by omega));have HA:aj (mX w.heap.size (Ay (some g2)) w4 W6):=ah ((HCZ.o.1.mm (H:=some g2)).Gj aZ.o.t aZ.o.m |>.trans (HH.o.2.Gj aZ.o.t aZ.o.m) (λ_ _ _ e=>e));clear yV;go_wp2_with fail;go_ret;exact⟨v,l,some g2,rfl,HG.o.next HA.o (Hx.refl _ _),kU.o.1,kU.o.2.1,kU.o.2.2,sO.o,(fZ.o.trans sO.o (HCZ.o.1.mm (H:=some g2))).trans sO.o HH.o.2,HH.o.1⟩
def fK (op:Int) (nm:ByteArray) (idx:bJ) (dN xn:Int) (dJ:ByteArray) (xk:bJ):dD:=⟨op,0,nm,⟨#[]⟩,idx,dN,xn,dJ,xk⟩
def h0 (op:Int) (nm:ByteArray):dD:=fK op nm .nil 0 0 ⟨#[]⟩ .nil
def jT (ax:Option Addr) (cx:Nat):Sl:=⟨none,0,ax,cx,none,0,none,0⟩
def FK (ab:Option Addr) (cb:Nat):Sl:=⟨none,0,none,0,ab,cb,none,0⟩
def qY:Sl:=⟨none,0,none,0,none,0,none,0⟩
theorem sJ (x:Int):bW (wrap64 x):=by unfold bW wrap64;omega
theorem qM {op dN xn:Int} {nm dJ:ByteArray} {xk:bJ} (h1:bW op) (h2:nm.size<=maxLen) (h3:Oz dN xn dJ xk):xS (fK op nm .nil dN xn dJ xk) .nil .nil:=
 ⟨⟨h1,rC,h2,qI,nil_le,h3.1,bT _,bT _⟩,by have:=h3.2;show 3+xw xk+0<=100;omega,sb0,sb0⟩
theorem sI:xw .nil<=50:=bT _
theorem aU8 {op n:Int} {nm:ByteArray} {kids:bJ} (h:Oz op n nm kids):xw (.cons op n nm kids .nil)<=50:=by have:=h.2;simp only[xw];omega
theorem uY:Oz 0 0 ⟨#[]⟩ .nil:=⟨⟨rC,rC,qI,nil_le⟩,bT _⟩
theorem iU {B:Nat} {X:Nat->Prop} {W:World} {h:dD} {b e:aY} {s:Sl} (h1:gL B X W (λw2=>h.idx.At w2 w2.heap.size s.fQ 0)) (h2:gL B X W (λw2=>h.bG.At w2 w2.heap.size s.fT 0)) (h3:gL B X W (λw2=>b.At w2 w2.heap.size s.dH 0)) (h4:gL B X W (λw2=>e.At w2 w2.heap.size s.iC 0)):gL B X W (bP.I ⟨h,b,e,s⟩):=λw2 q=>⟨h1 w2 q,h2 w2 q,h3 w2 q,h4 w2 q⟩
theorem gQ {B:Nat} {X:Nat->Prop} {W:World} {ao:Option Addr} :gL B X W (λw2=>bJ.nil.At w2 w2.heap.size ao 0):=λ_ _=>trivial
theorem dY {B:Nat} {X:Nat->Prop} {W:World} {ao:Option Addr} :gL B X W (λw2=>aY.nil.At w2 w2.heap.size ao 0):=λ_ _=>trivial
theorem gH {w:World} {b:Nat} {t:TypeId} (h:w.heap[b]? =some (.cells lH t (0,0))):(w.cell? ⟨b,0,none⟩=some (.int .i64 0)∧w.cell? ⟨b,1,none⟩=some (.int .i64 0)∧w.cell? ⟨b,2,none⟩=some (.string ⟨#[]⟩)∧w.cell? ⟨b,3,none⟩=some (.string ⟨#[]⟩)∧w.cell? ⟨b,4,none⟩=some (.slice none 0 0)∧w.cell? ⟨b,5,none⟩=some (.int .i64 0)∧w.cell? ⟨b,6,none⟩=some (.int .i64 0)∧w.cell? ⟨b,7,none⟩=some (.string ⟨#[]⟩)∧w.cell? ⟨b,8,none⟩=some (.slice none 0 0)∧w.cell? ⟨b,9,none⟩=some (.slice none 0 0)∧w.cell? ⟨b,10,none⟩=some (.slice none 0 0))∧(∀j,w.frozen? ⟨b,j,none⟩=false):=
 ⟨⟨(bM h (j:=0) rfl).2,(bM h (j:=1) rfl).2,(bM h (j:=2) rfl).2,(bM h (j:=3) rfl).2,(bM h (j:=4) rfl).2,(bM h (j:=5) rfl).2,(bM h (j:=6) rfl).2,(bM h (j:=7) rfl).2,(bM h (j:=8) rfl).2,(bM h (j:=9) rfl).2,(bM h (j:=10) rfl).2⟩,λj=>bH h⟩
theorem aO6 {T:Tp} {H H':Option Nat} {hs:List ByteArray} {w Wb W4:World} {h:dD} {b e:aY} {s:Sl} {cs:Array Value} {t:TypeId} (hM0:Mm T H w Wb) (hO:Old T H w.heap.size) (hsb:w.heap.size<Wb.heap.size) (hM:Mm T H Wb W4) (hx:Hx Wb H H') (hI:dS W4 T H' hs) (hok:xS h b e) (hst:gL Wb.heap.size (Ay H') W4 (bP.I ⟨h,b,e,s⟩)) (Cr:W4.heap[w.heap.size]? =some (.cells cs t (0,0))) (hcs:cs.size=11):
 SC T H hs w (.returned (iy h b e s)) (W4.setCells w.heap.size 0 (bP.f ⟨h,b,e,s⟩))∧(W4.setCells w.heap.size 0 (bP.f ⟨h,b,e,s⟩)).heap[w.heap.size]? =some (.cells (bP.f ⟨h,b,e,s⟩).toArray t (0,0)):=by
 have hg:=dX w.heap.size (bP.f ⟨h,b,e,s⟩) 0 W4;have hne:H'≠some w.heap.size:=by
  rcases hx with rfl|⟨k,rfl,hk⟩
  ·intro e;have:=hO.h _ e;omega
  ·intro e;injection e with e;omega
 have hszW:w.heap.size<W4.heap.size:=aG hsb hM.size;refine⟨⟨h,b,e,s,H',rfl,hok,(hst.go (.JG hg (λk h1 e=>by injection e with e;omega)) (λ_ _ _ e=>e)).weak (cB hsb) (λ_ _ _ e=>e),?_,?_,hI.grown hg (λk e=>by injection e with e;subst e;exact⟨hO.z,λe=>by have:=hO.t;omega,λe=>by have:=hO.m;omega,hne⟩)⟩,ng Cr (by rw[hcs];rfl)⟩
 ·rcases hx with rfl|⟨k,rfl,hk⟩
  ·exact .inl rfl
  ·exact .inr ⟨k,rfl,by omega⟩
 ·exact(hM0.trans (Hx.refl _ _) hM).then_ (Ch hg (λk e=>by injection e with e;omega) (cB hszW)) hg.size
def VL (x:bP):Value:=iy x.h x.b x.e x.s
def uq (xo xn:Int) (xm:ByteArray) (xk:bJ) (xa:Option Addr) (xc:Nat):bP:=⟨fK 1 ⟨#[120]⟩ .nil xo xn xm xk,.nil,.nil,jT xa xc⟩
theorem iZ {T:Tp} {H H':Option Nat} {hs:List ByteArray} {w Wb W4:World} (x:bP) {cs:Array Value} {t:TypeId} (hM0:Mm T H w Wb) (hO:Old T H w.heap.size) (hsb:w.heap.size<Wb.heap.size) (hM:Mm T H Wb W4) (hx:Hx Wb H H') (hI:dS W4 T H' hs) (hok:xS x.h x.b x.e) (hst:gL Wb.heap.size (Ay H') W4 (bP.I x)) (Cr:W4.heap[w.heap.size]? =some (.cells cs t (0,0))) (hcs:cs.size=11):
 SC T H hs w (.returned (VL x)) (W4.setCells w.heap.size 0 (bP.f x))∧(W4.setCells w.heap.size 0 (bP.f x)).heap[w.heap.size]? =some (.cells (bP.f x).toArray t (0,0)):=
 aO6 hM0 hO hsb hM hx hI hok hst Cr hcs
theorem ab9 {W:World} {b:Nat} {x:bP} {t:TypeId} {Q:Prop} (hf:Q∧W.heap[b]? =some (.cells (bP.f x).toArray t (0,0))):(W.cell? ⟨b,0,none⟩=some (.int .i64 x.h.op)∧W.cell? ⟨b,1,none⟩=some (.int .i64 x.h.line)∧W.cell? ⟨b,2,none⟩=some (.string x.h.nm)∧W.cell? ⟨b,3,none⟩=some (.string x.h.arg)∧W.cell? ⟨b,4,none⟩=some (.slice x.s.fQ x.h.idx.len x.s.eU)∧W.cell? ⟨b,5,none⟩=some (.int .i64 x.h.dN)∧W.cell? ⟨b,6,none⟩=some (.int .i64 x.h.xn)∧W.cell? ⟨b,7,none⟩=some (.string x.h.dJ)∧W.cell? ⟨b,8,none⟩=some (.slice x.s.fT x.h.bG.len x.s.eu)∧W.cell? ⟨b,9,none⟩=some (.slice x.s.dH x.b.len x.s.cu)∧W.cell? ⟨b,10,none⟩=some (.slice x.s.iC x.e.len x.s.gy))∧aj Q:=
 ⟨⟨(bM hf.2 (j:=0) rfl).2,(bM hf.2 (j:=1) rfl).2,(bM hf.2 (j:=2) rfl).2,(bM hf.2 (j:=3) rfl).2,(bM hf.2 (j:=4) rfl).2,(bM hf.2 (j:=5) rfl).2,(bM hf.2 (j:=6) rfl).2,(bM hf.2 (j:=7) rfl).2,(bM hf.2 (j:=8) rfl).2,(bM hf.2 (j:=9) rfl).2,(bM hf.2 (j:=10) rfl).2⟩,ah hf.1⟩
theorem ig {T:Tp} {H:Option Nat} {hs:List ByteArray} {w W:World} {x:bP} {t:TypeId} {a:Act} (h:SC T H hs w (.returned (VL x)) W∧W.heap[w.heap.size]? =some (.cells (bP.f x).toArray t (0,0))) (h4:a.tmps[4]?.getD undef= .pointer (some ⟨w.heap.size,0,none⟩)) (hd:a.defers=[]):
 bodyPost Tryz.prog Tryz.f23 (SC T H hs w) .ret a W:=by
 obtain⟨⟨z0,z1,z2,z3,z4,z5,z6,z7,z8,z9,fV⟩,HP⟩:=ab9 h;exact bodyPost_ret (v:=VL x) (by simp[results,Tryz.results23,go_sem,h4,VL,iy,z0,z1,z2,z3,z4,z5,z6,z7,z8,z9,fV]) hd HP.o
def ac7:Array Value:= #[.string ⟨#[120]⟩,.string ⟨#[121]⟩,.string ⟨#[120]⟩,.string ⟨#[118]⟩]
theorem au1:Szs 4 ac7:=λj hj=>by
 have:j=0∨j=1∨j=2∨j=3:=by omega
 rcases this with rfl|rfl|rfl|rfl <;> exact⟨_,rfl,by unfold maxLen;decide⟩
def ac6:Array Value:= #[.string ⟨#[97]⟩,.string ⟨#[98]⟩]
theorem au0:Szs 2 ac6:=λj hj=>by
 have:j=0∨j=1:=by omega
 rcases this with rfl|rfl <;> exact⟨_,rfl,by unfold maxLen;decide⟩
theorem wu {l:List bP} (h:l.length<=9) (hk: ∀x∈l,xS x.h x.b x.e):SB (fM l):=⟨by rw[pU];omega,Oq hk⟩
theorem fG (s:ByteArray) (op n:Int) (nm:ByteArray) (kids:bJ) (ao:Option Addr) (cap:Nat) (w:World):
 Calls Tryz.prog 12 #[.string s,exV op n nm kids ao cap] w λe w'=>e= .returned (iy (fK 1 s .nil op n nm kids) .nil .nil (jT ao cap))∧Below w.heap.size w w':=by
 unfold exV;go_enter Tryz.func12,Tryz.ntmps12;go_wp2_with fail;refine bodyPost_ret (v:=iy (fK 1 s .nil op n nm kids) .nil .nil (jT ao cap)) (by simp[results,Tryz.results12,go_sem,iy,fK,jT,bJ.len,aY.len]) rfl ⟨rfl,?_⟩;exact((au _ _).alloc (by simp) _)
theorem vM {op dN xn:Int} {nm dJ:ByteArray} {xk idx:bJ} {b e:aY} (h1:bW op) (h2:nm.size<=maxLen) (h3:Oz dN xn dJ xk) (h4:xw idx<=50) (h5:SB b) (h6:SB e):xS (fK op nm idx dN xn dJ xk) b e:=
 ⟨⟨h1,rC,h2,qI,by have:=TT idx;unfold maxLen;show idx.len<=_;omega,h3.1,h5.max,h6.max⟩,by have:=h3.2;show 3+xw xk+xw idx<=100;omega,h5,h6⟩
theorem Hx.ne {w:World} {H H1:Option Nat} {k:Nat} (h:Hx w H H1) (hk:k<w.heap.size) (hn:H≠some k):H1≠some k:=λe=>hn (h.old hk e)
def AsP (B:Nat) (v:Value) (W:World):Prop:= ∃s xo xn xm xk xa xc,v=iy (fK 1 s .nil xo xn xm xk) .nil .nil (jT xa xc)∧s.size<=maxLen∧Oz xo xn xm xk∧gU B W (λw2=>xk.At w2 w2.heap.size xa 0)
structure Sg (T:Tp) (H:Option Nat) (hs:List ByteArray) (b0:Nat) (wb:World) (Hc:Option Nat) (W:World):Prop where
 m:Mm T H wb W
 x:Hx wb H Hc
 i:dS W T Hc hs
 z:W.heap[b0]? =some (.cells lH 62 (0,0))
 o:Old T H b0
 l:b0<wb.heap.size
section
variable {T:Tp} {H Hc Hd H1:Option Nat} {hs:List ByteArray} {b0:Nat} {wb W W' W1:World} {Q:World->Prop}
theorem Sg.ne (h:Sg T H hs b0 wb Hc W):Hc≠some b0:=h.x.ne h.l (λe=>absurd (h.o.h _ e) (Nat.lt_irrefl _))
theorem Sg.below (h:Sg T H hs b0 wb Hc W) (hb:Below W.heap.size W W'):Sg T H hs b0 wb Hc W':=
 ⟨h.m.then_ (hb.mono h.m.size) hb.size,h.x,h.i.below hb,(hb.block _ (aO h.z)).trans h.z,h.o,h.l⟩
theorem Sg.mm (h:Sg T H hs b0 wb Hc W) (hm:Mm T Hc W W') (hx:Hx W Hc Hd) (hi:dS W' T Hd hs):Sg T H hs b0 wb Hd W':=
 ⟨h.m.trans h.x hm,h.x.trans hx h.m.size,hi,hm.keep h.z (by have:=h.o.t;omega) (by have:=h.o.m;omega) h.ne,h.o,h.l⟩
theorem Sg.tf (h:Sg T H hs b0 wb Hc W) (hm:TF T W W') (hi:dS W' T Hc hs):Sg T H hs b0 wb Hc W':=h.mm hm.mm (Hx.refl _ _) hi
theorem Sg.flag (h:Sg T H hs b0 wb Hc W) (j:Nat) (hj:j=3∨j=4∨j=5∨j=6) (q:Bool):Sg T H hs b0 wb Hc (W.setCell ⟨T.bm,j,none⟩ (.bool q)):=
 h.mm ((Mm.refl T Hc W).qX (Hx.refl _ _) _ _) (Hx.refl _ _) (h.i.flag j hj q)
theorem Sg.set (h:Sg T H hs b0 wb Hc W) (a:Addr) (v:Value) (hb:wb.heap.size<=a.block) (hn:Hc≠some a.block):Sg T H hs b0 wb Hc (W.setCell a v):=
 ⟨h.m.set a v hb,h.x,h.i.set a v (by have:=h.o.z;have:=h.l;omega) (by have:=h.o.t;have:=h.l;omega) (by have:=h.o.m;have:=h.l;omega) hn,(bf W a v rfl (by have:=h.l;omega)).trans h.z,h.o,h.l⟩
theorem Sg.stay (h:Sg T H hs b0 wb H1 W1) (hS:gU wb.heap.size W1 Q) (hH: ∀k,H1=some k->wb.heap.size<=k->False) (hm:Mm T H1 W1 W) (hx:Hx W1 H1 Hc):gL wb.heap.size (Ay Hc) W Q:=
 (gL.iG (X:=Ay H1) hS (aB _) (λk h1 _ e=>hH k e h1)).go (hm.Gj (by have:=h.o.t;have:=h.l;omega) (by have:=h.o.m;have:=h.l;omega)) (λk _ h2 e=>hx.old h2 e)
theorem Sg.Ll {B1:Nat} (h:Sg T H hs b0 wb H1 W1) (hS:gL B1 (Ay H1) W1 Q) (hB:wb.heap.size<=B1) (hm:Mm T H1 W1 W) (hx:Hx W1 H1 Hc):gL wb.heap.size (Ay Hc) W Q:=
 (hS.weak hB (λ_ _ _ e=>e)).go (hm.Gj (by have:=h.o.t;have:=h.l;omega) (by have:=h.o.m;have:=h.l;omega)) (λk _ h2 e=>hx.old h2 e)
theorem Sg.grown {g:Option Nat} (h:Sg T H hs b0 wb Hc W) (hg:W.grownBy W' g) (h0: ∀k,g=some k->wb.heap.size<=k∧Hc≠some k):Sg T H hs b0 wb Hc W':=
 ⟨h.m.then_ (Ch hg (λk e=>(h0 k e).1) h.m.size) hg.size,h.x,h.i.grown hg (λk e=>by have h1:=(h0 k e).1;have h2:=h.o.t;have h3:=h.o.m;have h4:=h.o.z;have h5:=h.l;exact⟨by omega,by omega,by omega,(h0 k e).2⟩),(hg.block _ (aO h.z) (λe=>by have:=(h0 _ e.symm).1;have:=h.l;omega)).trans h.z,h.o,h.l⟩
theorem Sg.old (h:Sg T H hs b0 wb H W): ∀k,H=some k->wb.heap.size<=k->False:=λk e h1=>by have:=h.o.h _ e;have:=h.l;omega
end
theorem R6 {B g:Nat} {W:World} {t:TypeId} {fr:Nat×Nat} {l:List bP} (h:W.heap[g]? =some (.cells (l.flatMap bP.f).toArray t fr)) (hB:B<=g) (hI: ∀x∈l,xS x.h x.b x.e∧gU B W x.I):gU B W (λw2=>(fM l).At w2 w2.heap.size (some ⟨g,0,none⟩) 0):=λw2 h2=>by
 have hg:=(h2.2 g hB (aO h)).trans h;refine Hf l 0 (λx hx=>⟨(hI x hx).1.1,(hI x hx).2 w2 h2⟩) (λi x hx=>⟨g,rfl,(aO hg),λj u hu=> ?_⟩);have:=flat_get zw l i x j u hx hu;rw[aU];exact aQ hg (by simpa using this)
theorem Ob (W:World) (a:Addr) (v:Value) (o:Obj) (h:a.block<W.heap.size):(W.setCell a v).alloc o=(W.alloc o).setCell a v:=by
 unfold World.setCell World.alloc;simp only[World.mk.injEq,and_true,true_and];refine Array.ext_getElem? (λk=> ?_);simp only[Array.getElem?_push,Array.getElem?_modify,Array.size_modify];split <;> split <;> first|rfl|omega|(simp;done)|skip
 all_goals simp_all
theorem zq (b:Nat) (o:Obj): ∀(vs:List Value) (k:Nat) (W:World),b<W.heap.size->(W.setCells b k vs).alloc o=(W.alloc o).setCells b k vs
 | [],_,_,_=>rfl
 |v::vs,k,W,h=>by show((W.setCell ⟨b,k,none⟩ v).setCells b (k+1) vs).alloc o=((W.alloc o).setCell ⟨b,k,none⟩ v).setCells b (k+1) vs;rw[zq b o vs (k+1) _ (by simpa[World.setCell]using h),Ob _ _ _ _ h]
theorem aQ0:qP 2 0 ⟨#[98]⟩ .nil:=⟨by unfold bW;decide,rC,by unfold maxLen;decide,nil_le⟩
theorem bv7:qP 1 2 ⟨#[]⟩ .nil:=⟨by unfold bW;decide,by unfold bW;decide,qI,nil_le⟩
theorem bv6:qP 1 1 ⟨#[]⟩ .nil:=⟨by unfold bW;decide,by unfold bW;decide,qI,nil_le⟩
theorem okC (op a b:Int) (h:bW op):Oz op 0 ⟨#[]⟩ (.cons 2 a ⟨#[98]⟩ .nil (.cons 1 b ⟨#[]⟩ .nil .nil)):=⟨⟨h,rC,qI,by simp[bJ.len,maxLen]⟩,by simp[xw]⟩
def aj6 (l:List bP):Prop:= ∀x∈l,xS x.h x.b x.e∧∀B W,gU B W x.I
structure Ms (T:Tp) (d:Nat):Prop where
 wH:d<=100
 st:0<d->(∀w H hs (n:Int),dS w T H hs->hs.length+d<=901->1<=n->n<=9->Calls Tryz.prog 10 #[.pointer (some ⟨T.bm,0,none⟩),.int .i64 ((d:Int) -1),.int .i64 n] w (Sz T H hs w))
 bl:0<d->(∀w H hs (s:ByteArray),dS w T H hs->hs.length+d<=900->s.size<=maxLen->Calls Tryz.prog 48 #[.pointer (some ⟨T.bm,0,none⟩),.string s,.int .i64 ((d:Int) -1)] w (Sz T H hs w))
 s0:0<d->(∀w H hs (n:Int),dS w T H hs->hs.length<=900->1<=n->n<=9->Calls Tryz.prog 10 #[.pointer (some ⟨T.bm,0,none⟩),.int .i64 0,.int .i64 n] w (Sz T H hs w))
theorem Ms.mk' {T:Tp} {d:Nat} (hd:d<=100) (ih: ∀d':Nat,d'<d->Ed T d'∧Po T d'):Ms T d:=by
 refine⟨hd,λh=> ?_,λh=> ?_,λh w H hs n h1 h2=>(ih 0 h).1 w H hs n h1 (by omega)⟩
 ·obtain⟨d',rfl⟩: ∃d',d=d'+1:=⟨d -1,by omega⟩;have e:((d'+1:Nat):Int) -1=(d':Int):=by omega
  rw[e];exact λw H hs n h1 h2=>(ih d' (by omega)).1 w H hs n h1 (by omega)
 ·obtain⟨d',rfl⟩: ∃d',d=d'+1:=⟨d -1,by omega⟩;have e:((d'+1:Nat):Int) -1=(d':Int):=by omega
  rw[e];exact λw H hs s h1 h2=>(ih d' (by omega)).2 w H hs s h1 (by omega)
def Nx (T:Tp) (w:World) (H:Option Nat) (hs:List ByteArray) (k:Nat):Prop:= ∀W,dS W T H hs->W.heap[T.bt]? =w.heap[T.bt]?->
    Calls Tryz.prog 9 #[.pointer (some ⟨T.bt,0,none⟩),.int .i64 18] W (λe w'=>e= .returned (.int .i64 k)∧TF T W w'∧dS w' T H hs)
def pW (K:Nat->Prop):Prop:= ∀(T:Tp) (d k:Nat),K k->Ms T d->∀w H hs,dS w T H hs->hs.length+d<=900->Nx T w H hs k->
    Calls Tryz.prog 23 #[.pointer (some ⟨T.bm,0,none⟩),.int .i64 (d:Int)] w (SC T H hs w)
theorem Gc (op:Int) (w:World):
 Calls Tryz.prog 144 #[.int .i64 op] w λe w'=>e= .returned (.int .i64 (opsOf op))∧w=w':=by
 unfold opsOf;go_enter Tryz.func144,Tryz.ntmps144;go_wp2
 all_goals go_ret
 all_goals refine⟨bV ?_,rfl⟩
 all_goals first|(simp[*];done)|((repeat' split) <;> simp_all <;> omega)
def Hy (op n:Int) (nm:ByteArray) (kids:bJ):Prop:=
 ∀(w:World) (ao:Option Addr) (cap:Nat),qP op n nm kids->kids.At w w.heap.size ao 0->
  Calls Tryz.prog 111 #[.agg #[.int .i64 op,.int .i64 n,.string nm,.slice ao kids.len cap]] w λe w'=>e= .returned (.bool (jQ op n nm kids))∧Below w.heap.size w w'
theorem av3 (op n:Int) (nm:ByteArray) (kids:bJ):jQ op n nm kids=(((decide (opsOf op=(kids.len:Int))&&(decide (0<=n)&&(decide (op=1)||decide (n=0))))&&(if((op==2)||(op==3))then Tk.jv nm.data.toList else decide (nm.toList=[])))&&mh kids):=by
 have h1:((kids.len:Int)==opsOf op)=decide (opsOf op=(kids.len:Int)):=by rw[Bool.eq_iff_iff];simp;exact eq_comm
 have h2:kE nm (named op)=if((op==2)||(op==3))then Tk.jv nm.data.toList else decide (nm.toList=[]):=by
  unfold kE named;split
  ·rfl
  ·rw[Lib.toList_data,Bool.eq_iff_iff];simp
 have h3:(!(decide (n<0)||(!(n==0)&& !(op==1))))=(decide (0<=n)&&(decide (op=1)||decide (n=0))):=by rw[Bool.eq_iff_iff];simp;omega
 unfold jQ DN;rw[h1,h2,h3];simp only[Bool.and_assoc]
theorem aa7 {nm:ByteArray} (h:nm.toList=[]):Tk.jv nm.data.toList=false:=by rw[<- Lib.toList_data,h];rfl
theorem Gd (op n:Int) (nm:ByteArray) (kids:bJ) (ih:kids.All Hy):Hy op n nm kids:=by
 intro w ao cap hok hat;obtain⟨⟨o1,o2⟩,⟨n1,n2⟩,hm,hl⟩:=hok;unfold maxLen at hl;have hl':kids.len<=9223372036854775807:=hl;have HS:=ah (av3 op n nm kids);have ru:=ah ih;have HAT:=ah hat;clear ih hat;go_enter Tryz.func111,Tryz.ntmps111;go_upto_region 1 with fail;generalize hW:World.alloc w _=W;generalize Value.agg #[_,_,_,_]=a0;have HX:=ah (vG.mk hW);clear hW;obtain⟨-,hs,c0,c1,c2,c3⟩:=HX.o;go_cut [3] (λs W2=>W=W2∧∃b,s= .bool b∧((op==2)||(op==3))=b)
 case first=>
  go_wp2_with fail
  all_goals go_meet
  all_goals exact⟨rfl,_,rfl,by grind⟩
 obtain⟨rfl,bn,rfl,hbn⟩:=hcut;rw[hbn]at HS;clear hbn;go_upto_region 2 with fail;go_cut [3,50] (λ_ s W2=> ∃b,s= .bool b∧jQ op n nm kids=(!b&&mh kids)∧vG w W2 (.int .i64 op) (.int .i64 n) (.string nm) (.slice ao kids.len cap))
 case first=>
  cases bn
  all_goals
   obtain⟨T,F,Af,hst,hF,hnext⟩:=calm W;have HF:=ah hF;have dB:=ah hnext;clear hnext;have d0:=λx=>((HF.o x).cell (p:=⟨w.heap.size,0,none⟩) hs).trans c0;have d1:=λx=>((HF.o x).cell (p:=⟨w.heap.size,1,none⟩) hs).trans c1;have d2:=λx=>((HF.o x).cell (p:=⟨w.heap.size,2,none⟩) hs).trans c2;have d3:=λx=>((HF.o x).cell (p:=⟨w.heap.size,3,none⟩) hs).trans c3;clear hF c0 c1 c2 c3;refine jh F (by kernel_rfl) (by kernel_rfl) hst ?_
   repeat (any_goals (first|go_big_quiet_step (first|(go_at_call 144;refine(Gc _ _).mono ?_;rintro e w' ⟨rfl,rfl⟩;exact⟨rfl,_,rfl⟩)|(go_at_call 50;refine(nA _ _ hm).mono ?_;rintro e w' ⟨rfl,hb⟩;exact⟨rfl,dB.o _ _ hb⟩))|(refine wpQuiet_step (λK hK=> ?_);go_simp;first|(refine hK _ ?_;clear hK K)|(split <;> first|(refine hK _ ?_;clear hK K)|(apply Exists.intro;refine⟨λ_=> ?_,hK _ ?_⟩;(first|(go_at_call 144;refine(Gc _ _).mono ?_;rintro e w' ⟨rfl,rfl⟩;exact⟨rfl,_,rfl⟩)|(go_at_call 50;refine(nA _ _ hm).mono ?_;rintro e w' ⟨rfl,hb⟩;exact⟨rfl,dB.o _ _ hb⟩));clear hK K)))))
   all_goals (refine wpQuiet_nil ?_;rintro _ ⟨x,rfl⟩;go_wp2_with fail;go_meet)
   all_goals exact⟨_,rfl,HS.o.trans (by go_light;grind[aa7]),HX.o.next (HF.o _)⟩
 case rest=>
  obtain⟨b,rfl,hR,Ke⟩:=hcut;have HZ:=ah Ke;have HR:=ah hR;clear HX Ke hR HS c0 c1 c2 c3 hs;cases b
  ·go_wp2_with fail;go_loopw [4] (λi wr=> ∃k R,i= .int .i64 (k:Nat)∧SG kids R k∧R.All Hy∧R.At wr wr.heap.size ao k∧vG w wr (Value.int IntKind.i64 op) (Value.int IntKind.i64 n) (Value.string nm) (Value.slice ao kids.len cap)) (λi _=>kids.len -(intOf i).toNat)
   case atStart=>exact⟨0,kids,rfl,⟨aU _,rfl⟩,ru.o,HAT.o.same HZ.o.1,HZ.o⟩
   case round=>
    obtain⟨k,R,rfl,⟨hlen,heq⟩,hall,hrow,Cr⟩:=hrel;have HT:=ah (HR.o.trans (show(!false&&mh kids)=mh R by rw[heq];rfl));have vQ:=ah Cr;clear Cr;obtain⟨-,-,c0,c1,c2,c3⟩:=vQ.o;cases R with
    |nil=>obtain rfl:k=kids.len:=(by simpa[bJ.len]using hlen);go_wp2_with fail;go_ret;exact⟨bR HT.o.symm,vQ.o.1⟩
    |cons op' n' nm' gZ rest=>
     obtain⟨⟨b,off,mF,cap',rfl,mV,x0,x1,x2,x3,hok',lK⟩,hrest⟩:=hrow;obtain⟨kN,oZ⟩:=hall;have hlt:k<kids.len:=(by simp only[bJ.len]at hlen;omega);go_wp2_with fail;refine(kN _ _ _ hok' lK).mono ?_;rintro e w2 ⟨rfl,hb2⟩;have MG:=ah (vQ.o.next hb2);have hrest':=hrest.same hb2;clear hb2 vQ hrest x0 x1 x2 x3 c0 c1 c2 c3 lK;cases hS:jQ op' n' nm' gZ
     ·have HF:=ah (HT.o.trans (by rw[nE,hS];rfl:mh (.cons op' n' nm' gZ rest)=false));go_wp2_with fail;go_ret;exact⟨bR HF.o.symm,MG.o.1⟩
     ·have HF:=ah (heq.trans (by rw[nE,hS];rfl:mh (.cons op' n' nm' gZ rest)=mh rest));go_wp2_with fail;go_roundw
      case rel=>exact⟨k+1,rest,by go_num,⟨by simp only[bJ.len]at hlen;omega,HF.o⟩,oZ,hrest',MG.o⟩
      case measure=>simp[intOf];omega
  ·go_wp2_with fail;go_ret;exact⟨bR HR.o.symm,HZ.o.1⟩
theorem vJ (op n:Int) (nm:ByteArray) (kids:bJ):Hy op n nm kids:=bJ.zZ Gd op n nm kids
end Go.Proofs.YtmildapbbcbbhaaGreatDoor
