/- The reference's At: the place of a text in a row. And what hangs on it. -/
import Derived.Test.YtldapdcphphodaaGreatDoorGMJ
set_option linter.unusedSimpArgs false
set_option linter.unusedVariables false
set_option maxHeartbeats 40000000
set_option maxRecDepth 1000000
namespace Go.Proofs.YtldapdcphphodaaGreatDoor
open Go.RowKit
namespace Md
def fidx {α:Type} (f:α->Bool):List α->Nat->Int
 | [],_=> -1
 |x::r,k=>if f x then(k:Int)else fidx f r (k+1)
theorem pW {α:Type} (f:α->Bool): ∀(l:List α) (k:Nat),(fidx f l k= -1∧l.find? f=none∧l.any f=false)∨∃(j:Nat) (d:α) (r:List α),j<l.length∧fidx f l k=((k+j:Nat):Int)∧l.drop j=d::r∧l.find? f=some d∧l.any f=true
 | [],_=>Or.inl ⟨rfl,rfl,rfl⟩
 |x::r,k=>by
  cases h:f x
  ·rcases pW f r (k+1)with⟨h1,h2,h3⟩|⟨j,d,r',h0,h1,h2,h3,h4⟩
   ·exact Or.inl ⟨by simp[fidx,h,h1],by simp[h,h2],by simp[h,h3]⟩
   ·exact Or.inr ⟨j+1,d,r',ahh,by simp only[fidx,h];rw[if_neg ahf,h1];omega,aho,by simp[h,h3],by simp[h,h4]⟩
  ·exact Or.inr ⟨0,x,r,ahg,by simp[fidx,h],rfl,by simp[h],by simp[h]⟩
def Jv (l:List ByteArray) (nm:ByteArray):Int:=fidx (λs=>s.toList==nm.toList) l 0
end Md
open Md
theorem jO (l:List ByteArray) (nm:ByteArray) (w:World) (ao:Option Addr) (cap:Nat) (hl:l.length<=maxLen) (hw:fU w w.heap.size l ao 0):
 Calls Tryz.prog 73 #[.slice ao l.length cap,.string nm] w λe w'=>e= .returned (.int .i64 (Jv l nm))∧w=w':=by
 unfold maxLen at hl;go_enter Tryz.func73,Tryz.ntmps73;go_wp2_with fail;go_loop [5] (λs=> ∃(k:Nat) (R:List ByteArray),s= .int .i64 k∧k+R.length=l.length∧Jv l nm=fidx (λs=>s.toList==nm.toList) R k∧fU w w.heap.size R ao k) (λs=>l.length -(intOf s).toNat)
 case atStart=>exact⟨0,l,rfl,ahg,rfl,hw⟩
 case round=>
  obtain⟨k,R,rfl,hlen,heq,hrow⟩:=hrel;have HE:=ah heq;clear heq;cases R with
  |nil=>
   obtain rfl:k=l.length:=afm
   go_wp2_with fail;go_ret;exact⟨bW HE.o.symm,rfl⟩
  |cons s R=>
   obtain⟨⟨b,off,rfl,hB,y0,hs⟩,hrest⟩:=hrow;simp only[ay]at hlen;have hkl:k<l.length:=ahe
   cases hc:(s.toList==nm.toList)
   ·have dJ:=ah (HE.o.trans (if_neg (show ¬(s.toList==nm.toList)=true by rw[hc];decide)));go_wp2_with fail;go_round
    case rel=>exact⟨k+1,R,ahi,ahe,dJ.o,hrest⟩
    case measure=>simp[intOf];omega
   ·have dJ:=ah (HE.o.trans (if_pos hc));go_wp2_with fail;go_ret;exact⟨bW dJ.o.symm,rfl⟩
namespace Md
def zq (l:List De) (nm:ByteArray):Int:=fidx (λd=>d.nm.toList==nm.toList) l 0
def qp (l:List Th) (nm:ByteArray):Int:=fidx (λt=>t.nm.toList==nm.toList) l 0
def conv (m:Int):Int:=if m==0 then 0 else if m==1 then 8 else if m==9 then 9 else m -1
def gy (k a b:Int):Int:=if k==0 then 5 else if(k != a)&&(k != b)then 6 else 0
theorem Bd (p:Pr) (i:Int) (nm:ByteArray):0<=mean p i nm∧mean p i nm<=9:=by
 unfold mean ql sO;split
 ·decide
 ·cases p.ds.find? (λd=>d.nm.toList==nm.toList)with
  |none=>simp;split <;> decide
  |some d=>have:=tJ d;simp;omega
theorem ten {m:Int} (h:0<=m∧m<=9):m=0∨m=1∨m=2∨m=3∨m=4∨m=5∨m=6∨m=7∨m=8∨m=9:=ahe
theorem EN {m a:Int} (hm:0<=m∧m<=9) (ha:0<=a∧a<=9):(conv m==conv a)=(m==a):=by
 rcases ten hm with rfl|rfl|rfl|rfl|rfl|rfl|rfl|rfl|rfl|rfl <;> rcases ten ha with rfl|rfl|rfl|rfl|rfl|rfl|rfl|rfl|rfl|rfl <;> rfl
theorem Ny {m:Int} (hm:0<=m∧m<=9):(conv m==0)=(m==0):=EN hm (a:=0) ahf
theorem Rx (m a:Int) (hm:0<=m∧m<=9) (ha:0<=a∧a<=9):gy (conv m) (conv a) (conv a)=dU m [a]:=by
 unfold gy dU bne;rw[Ny hm,EN hm ha];simp only[List.any_cons,List.any_nil,Bool.or_false];cases h:(m==a) <;> rfl
theorem Ry (m a b:Int) (hm:0<=m∧m<=9) (ha:0<=a∧a<=9) (hb:0<=b∧b<=9):gy (conv m) (conv a) (conv b)=dU m [a,b]:=by
 unfold gy dU bne;rw[Ny hm,EN hm ha,EN hm hb];simp only[List.any_cons,List.any_nil,Bool.or_false];cases h:(m==a) <;> cases h':(m==b) <;> rfl
end Md
theorem oQ (l:List De) (nm:ByteArray) (w:World) (ao:Option Addr) (cap:Nat) (hl:l.length<=maxLen) (hw:iT w w.heap.size l ao 0):
 Calls Tryz.prog 71 #[.slice ao l.length cap,.string nm] w λe w'=>e= .returned (.int .i64 (zq l nm))∧w=w':=by
 unfold maxLen at hl;go_enter Tryz.func71,Tryz.ntmps71;go_wp2_with fail;go_loop [5] (λs=> ∃(k:Nat) (R:List De),s= .int .i64 k∧k+R.length=l.length∧zq l nm=fidx (λd=>d.nm.toList==nm.toList) R k∧iT w w.heap.size R ao k) (λs=>l.length -(intOf s).toNat)
 case atStart=>exact⟨0,l,rfl,ahg,rfl,hw⟩
 case round=>
  obtain⟨k,R,rfl,hlen,heq,hrow⟩:=hrel;have HE:=ah heq;clear heq;cases R with
  |nil=>
   obtain rfl:k=l.length:=afm
   go_wp2_with fail;go_ret;exact⟨bW HE.o.symm,rfl⟩
  |cons s R=>
   obtain⟨⟨b,off,rfl,hB,y0,y1,y2,y3,y4,y5,hs⟩,hrest⟩:=hrow;simp only[ay]at hlen;have hkl:k<l.length:=ahe
   cases hc:(s.nm.toList==nm.toList)
   ·have dJ:=ah (HE.o.trans (if_neg (show ¬(s.nm.toList==nm.toList)=true by rw[hc];decide)));go_wp2_with fail;go_round
    case rel=>exact⟨k+1,R,ahi,ahe,dJ.o,hrest⟩
    case measure=>simp[intOf];omega
   ·have dJ:=ah (HE.o.trans (if_pos hc));go_wp2_with fail;go_ret;exact⟨bW dJ.o.symm,rfl⟩
theorem iG (l:List Th) (nm:ByteArray) (w:World) (ao:Option Addr) (cap:Nat) (hl:l.length<=maxLen) (hw:gY w w.heap.size l ao 0):
 Calls Tryz.prog 72 #[.slice ao l.length cap,.string nm] w λe w'=>e= .returned (.int .i64 (qp l nm))∧w=w':=by
 unfold maxLen at hl;go_enter Tryz.func72,Tryz.ntmps72;go_wp2_with fail;go_loop [5] (λs=> ∃(k:Nat) (R:List Th),s= .int .i64 k∧k+R.length=l.length∧qp l nm=fidx (λd=>d.nm.toList==nm.toList) R k∧gY w w.heap.size R ao k) (λs=>l.length -(intOf s).toNat)
 case atStart=>exact⟨0,l,rfl,ahg,rfl,hw⟩
 case round=>
  obtain⟨k,R,rfl,hlen,heq,hrow⟩:=hrel;have HE:=ah heq;clear heq;cases R with
  |nil=>
   obtain rfl:k=l.length:=afm
   go_wp2_with fail;go_ret;exact⟨bW HE.o.symm,rfl⟩
  |cons s R=>
   obtain⟨⟨b,off,gK,dW,dL,cK,rfl,hB,y0,y1,y2,y3,hs,ht,hst⟩,hrest⟩:=hrow;simp only[ay]at hlen;have hkl:k<l.length:=ahe
   clear hs ht hst;cases hc:(s.nm.toList==nm.toList)
   ·have dJ:=ah (HE.o.trans (if_neg (show ¬(s.nm.toList==nm.toList)=true by rw[hc];decide)));go_wp2_with fail;go_round
    case rel=>exact⟨k+1,R,ahi,ahe,dJ.o,hrest⟩
    case measure=>simp[intOf];omega
   ·have dJ:=ah (HE.o.trans (if_pos hc));go_wp2_with fail;go_ret;exact⟨bW dJ.o.symm,rfl⟩
theorem ad1 {p:Pr} {i:Int} {nm:ByteArray} (h:qZ (qJ p.ts i) nm=true):conv (mean p i nm)=8:=by unfold mean;rw[h];rfl
theorem ac9 {p:Pr} {i:Int} {nm:ByteArray} {d:De} (h:qZ (qJ p.ts i) nm=false) (hd:p.ds.find? (λd=>d.nm.toList==nm.toList)=some d):conv (mean p i nm)=conv (fZ d):=by
 unfold mean ql;rw[h,hd];rfl
theorem ad2 {p:Pr} {i:Int} {nm:ByteArray} {b:Bool} (h:qZ (qJ p.ts i) nm=false) (hd:p.ds.find? (λd=>d.nm.toList==nm.toList)=none) (ht:p.ts.any (λt=>t.nm.toList==nm.toList)=b):conv (mean p i nm)=if b then 7 else 0:=by
 unfold mean ql sO;rw[h,hd,ht];cases b <;> rfl
theorem X6 (d:De):conv (fZ d)=if d.kind==1 then(if d.size != 0 then 2 else 1)else if d.kind==2 then 1 else if(d.kind==3||d.kind==4)||(d.kind==5||d.kind==6)then d.kind else 9:=by
 by_cases h1:d.kind=1
 ·by_cases h0:d.size=0 <;> simp[fZ,conv,h1,h0]
 by_cases h2:d.kind=2
 ·simp[fZ,conv,h2]
 by_cases h3:d.kind=3
 ·simp[fZ,conv,h3]
 by_cases h4:d.kind=4
 ·simp[fZ,conv,h4]
 by_cases h5:d.kind=5
 ·simp[fZ,conv,h5]
 by_cases h6:d.kind=6
 ·simp[fZ,conv,h6]
 simp[fZ,conv,h1,h2,h3,h4,h5,h6]
theorem Uz (p:Pr) (i:Int) (nm:ByteArray) (w:World) (aK aM:Option Addr) (aG aD:Nat) (hi:dD i) (hp:p.At w aK aM):
 Calls Tryz.prog 140 #[.agg #[.slice aK p.ds.length aG,.slice aM p.ts.length aD],.int .i64 i,.string nm] w λe w'=>e= .returned (.int .i64 (conv (mean p i nm)))∧Below w.heap.size w w':=by
 obtain⟨i1,i2⟩:=hi;have hld:=hp.1;have hlt:=hp.2.1;have V9:=hp.1;have hlt':=hp.2.1;unfold maxLen at hld hlt;have HP:=ah hp;clear hp;go_enter Tryz.func140,Tryz.ntmps140;go_upto_region 1 with fail;generalize hW:World.alloc w _=W;generalize Value.agg #[_,_]=a0;have HX:=ah ((Sit.start w).wL rfl (.slice aK p.ds.length aG) (.slice aM p.ts.length aD) 26);rw[hW]at HX;clear hW;obtain⟨-,⟨-,c0⟩,⟨-,c1⟩,-⟩:=HX.o;go_cut [27] (λs W2=>W=W2∧s= .bool (qZ (qJ p.ts i) nm))
 case first=>
  cases hbi:decide (0<=i∧i<p.ts.length)
  ·have HN:aj (qZ (qJ p.ts i) nm=false):=ah (by rw[Jd (by simpa using hbi)];rfl);rcases(show i<0∨(0<=i∧(p.ts.length:Int)<=i) by simp at hbi;omega)with h|⟨h,h'⟩
   all_goals clear hbi
   all_goals go_wp2_with fail
   all_goals go_meet
   all_goals exact⟨rfl,by rw[HN.o]⟩
  ·have aI5:0<=i∧i<p.ts.length:=by simpa using hbi
   clear hbi;obtain⟨j,rfl⟩:=Int.eq_ofNat_of_zero_le aI5.1;have hj:j<p.ts.length:=ahe
   have hth:=(HP.o.same HX.o.1).2.2.2.drop j;cases hd:p.ts.drop j with
   |nil=>exfalso;have:=congrArg List.length hd;simp at this;omega
   |cons t r=>
    rw[hd,aV]at hth;have HL:=ah (Lv hd);clear hd aI5;obtain⟨⟨b,off,gK,dW,dL,cK,rfl,hB,x0,x1,x2,x3,hok,htx,hst⟩,-⟩:=hth;have hll:=hok.2.2.1;clear hst hok;go_wp2_with fail;refine(jO t.cu nm _ gK dW hll htx).mono ?_;rintro e w2 ⟨rfl,rfl⟩;rcases pW (λs:ByteArray=>s.toList==nm.toList) t.cu 0 with⟨h1,h2,h3⟩|⟨j',d,r',h0,h1,h2,h3,h4⟩
    ·have HT:aj (qZ (qJ p.ts j) nm=false):=ah (by rw[HL.o];exact h3);have h1':Jv t.cu nm= -1:=h1;rw[h1'];clear h1 h2 h3 h1';go_wp2_with fail;go_meet;exact⟨rfl,by rw[HT.o]⟩
    ·have HT:aj (qZ (qJ p.ts j) nm=true):=ah (by rw[HL.o];exact h4);have h1':Jv t.cu nm=(j':Int):=agM;rw[h1'];clear h1 h2 h3 h1' h4;go_wp2_with fail;go_meet;exact⟨rfl,by rw[HT.o]⟩
 case rest=>
  obtain⟨rfl,rfl⟩:=hcut;cases hloc:qZ (qJ p.ts i) nm
  ·go_wp2_with fail;refine(oQ p.ds nm _ aK aG V9 (HP.o.same HX.o.1).2.2.1).mono ?_;rintro e w2 ⟨rfl,rfl⟩;rcases pW (λd:De=>d.nm.toList==nm.toList) p.ds 0 with⟨h1,h2,h3⟩|⟨j',d,r',h0,h1,h2,h3,h4⟩
   ·have h1':zq p.ds nm= -1:=h1;rw[h1'];have HK:=ah (λb ht=>ad2 (b:=b) hloc h2 ht);clear h1 h2 h3 h1' hloc;go_wp2_with fail;refine(iG p.ts nm _ aM aD hlt' (HP.o.same HX.o.1).2.2.2).mono ?_;rintro e w2 ⟨rfl,rfl⟩;rcases pW (λd:Th=>d.nm.toList==nm.toList) p.ts 0 with⟨h1,h2,h3⟩|⟨j',d,r',h0,h1,h2,h3,h4⟩
    ·have h1':qp p.ts nm= -1:=h1;rw[h1'];have HK':=ah (HK.o _ h3);clear h1 h2 h3 h1' HK;go_wp2_with fail;go_ret;exact⟨bW HK'.o.symm,HX.o.1⟩
    ·have h1':qp p.ts nm=(j':Int):=agM;rw[h1'];have HK':=ah (HK.o _ h4);clear h1 h2 h3 h1' h4 HK;go_wp2_with fail;go_ret;exact⟨bW HK'.o.symm,HX.o.1⟩
   ·have h1':zq p.ds nm=(j':Int):=agM;rw[h1'];have HK:=ah ((ac9 hloc h3).trans (X6 d));have hth:=(HP.o.same HX.o.1).2.2.1.drop j';rw[h2,aV]at hth;obtain⟨⟨b,off,rfl,hB,x0,x1,x2,x3,x4,x5,hok⟩,-⟩:=hth;clear h1 h2 h3 h4 h1' hloc hok;go_wp2_with fail
    all_goals go_ret
    all_goals refine⟨bW (HK.o.trans ?_).symm,HX.o.1⟩
    all_goals (go_light;grind)
  ·have HK:=ah (ad1 hloc);go_wp2_with fail;go_ret;exact⟨bW HK.o.symm,HX.o.1⟩
theorem G9 (op:Int) (w:World):
 Calls Tryz.prog 159 #[.int .i64 op] w λe w'=>e= .returned (.int .i64 (opsOf op))∧w=w':=by
 unfold opsOf;go_enter Tryz.func159,Tryz.ntmps159;go_wp2
 all_goals go_ret
 all_goals refine⟨bW ?_,rfl⟩
 all_goals first|(simp[*];done)|((repeat' split) <;> simp_all <;> omega)
def Ie (op n:Int) (nm:ByteArray) (kids:bY):Prop:=
 ∀(w:World) (ao:Option Addr) (cap:Nat),ru op n nm kids->kids.At w w.heap.size ao 0->
  Calls Tryz.prog 138 #[.agg #[.int .i64 op,.int .i64 n,.string nm,.slice ao kids.len cap]] w λe w'=>e= .returned (.bool (jJ op n nm kids))∧Below w.heap.size w w'
theorem au4 (op n:Int) (nm:ByteArray) (kids:bY):jJ op n nm kids=(((decide (opsOf op=(kids.len:Int))&&(decide (0<=n)&&(decide (op=1)||decide (n=0))))&&(if((op==2)||(op==3))then Tk.iZ nm.data.toList else decide (nm.toList=[])))&&mJ kids):=by
 have h1:((kids.len:Int)==opsOf op)=decide (opsOf op=(kids.len:Int)):=by rw[Bool.eq_iff_iff];simp;exact eq_comm
 have h2:kP nm (named op)=if((op==2)||(op==3))then Tk.iZ nm.data.toList else decide (nm.toList=[]):=by
  unfold kP named;split
  ·rfl
  ·rw[Lib.toList_data,Bool.eq_iff_iff];simp
 have h3:(!(decide (n<0)||(!(n==0)&& !(op==1))))=(decide (0<=n)&&(decide (op=1)||decide (n=0))):=aeU
 unfold jJ I5;rw[h1,h2,h3];simp only[Bool.and_assoc]
theorem ac8 {nm:ByteArray} (h:nm.toList=[]):Tk.iZ nm.data.toList=false:=by rw[<- Lib.toList_data,h];rfl
theorem Gc (op n:Int) (nm:ByteArray) (kids:bY) (ih:kids.All Ie):Ie op n nm kids:=by
 intro w ao cap hok hat;obtain⟨⟨o1,o2⟩,⟨n1,n2⟩,hm,hl⟩:=hok;unfold maxLen at hl;have hl':kids.len<=9223372036854775807:=hl;have HS:=ah (au4 op n nm kids);have oL:=ah ih;have HAT:=ah hat;clear ih hat;go_enter Tryz.func138,Tryz.ntmps138;go_upto_region 1 with fail;generalize hW:World.alloc w _=W;generalize Value.agg #[_,_,_,_]=a0;have HX:=ah (vI.mk hW);clear hW;obtain⟨-,hs,c0,c1,c2,c3⟩:=HX.o;go_cut [3] (λs W2=>W=W2∧∃b,s= .bool b∧((op==2)||(op==3))=b)
 case first=>
  go_wp2_with fail
  all_goals go_meet
  all_goals exact⟨rfl,_,rfl,by grind⟩
 obtain⟨rfl,bn,rfl,hbn⟩:=hcut;rw[hbn]at HS;clear hbn;go_upto_region 2 with fail;go_cut [3,50] (λ_ s W2=> ∃b,s= .bool b∧jJ op n nm kids=(!b&&mJ kids)∧vI w W2 (.int .i64 op) (.int .i64 n) (.string nm) (.slice ao kids.len cap))
 case first=>
  cases bn
  all_goals
   obtain⟨T,F,Ad,hst,hF,hnext⟩:=calm W;have HF:=ah hF;have eH:=ah hnext;clear hnext;have d0:=λx=>((HF.o x).cell (p:=⟨w.heap.size,0,none⟩) hs).trans c0;have d1:=λx=>((HF.o x).cell (p:=⟨w.heap.size,1,none⟩) hs).trans c1;have d2:=λx=>((HF.o x).cell (p:=⟨w.heap.size,2,none⟩) hs).trans c2;have d3:=λx=>((HF.o x).cell (p:=⟨w.heap.size,3,none⟩) hs).trans c3;clear hF c0 c1 c2 c3;refine iR F ahd ahd hst ?_
   repeat (any_goals (first|go_big_quiet_step (first|(go_at_call 159;refine(G9 _ _).mono ?_;rintro e w' ⟨rfl,rfl⟩;exact⟨rfl,_,rfl⟩)|(go_at_call 69;refine(nG _ _ hm).mono ?_;rintro e w' ⟨rfl,hb⟩;exact⟨rfl,eH.o _ _ hb⟩))|(refine wpQuiet_step (λK hK=> ?_);go_simp;first|(refine hK _ ?_;clear hK K)|(split <;> first|(refine hK _ ?_;clear hK K)|(apply Exists.intro;refine⟨λ_=> ?_,hK _ ?_⟩;(first|(go_at_call 159;refine(G9 _ _).mono ?_;rintro e w' ⟨rfl,rfl⟩;exact⟨rfl,_,rfl⟩)|(go_at_call 69;refine(nG _ _ hm).mono ?_;rintro e w' ⟨rfl,hb⟩;exact⟨rfl,eH.o _ _ hb⟩));clear hK K)))))
   all_goals (refine wpQuiet_nil ?_;rintro _ ⟨x,rfl⟩;go_wp2_with fail;go_meet)
   all_goals exact⟨_,rfl,HS.o.trans (by go_light;grind[ac8]),HX.o.next (HF.o _)⟩
 case rest=>
  obtain⟨b,rfl,hR,G5⟩:=hcut;have HZ:=ah G5;have HR:=ah hR;clear HX G5 hR HS c0 c1 c2 c3 hs;cases b
  ·go_wp2_with fail;go_loopw [4] (λi wr=> ∃k R,i= .int .i64 (k:Nat)∧SV kids R k∧R.All Ie∧R.At wr wr.heap.size ao k∧vI w wr (Value.int IntKind.i64 op) (Value.int IntKind.i64 n) (Value.string nm) (Value.slice ao kids.len cap)) (λi _=>kids.len -(intOf i).toNat)
   case atStart=>exact⟨0,kids,rfl,⟨aV _,rfl⟩,oL.o,HAT.o.same HZ.o.1,HZ.o⟩
   case round=>
    obtain⟨k,R,rfl,⟨hlen,heq⟩,hall,hrow,JK⟩:=hrel;have HT:=ah (HR.o.trans (show(!false&&mJ kids)=mJ R by rw[heq];rfl));have kX:=ah JK;clear JK;obtain⟨-,-,c0,c1,c2,c3⟩:=kX.o;cases R with
    |nil=>obtain rfl:k=kids.len:=afF;go_wp2_with fail;go_ret;exact⟨bZ HT.o.symm,kX.o.1⟩
    |cons op' n' nm' gM rest=>
     obtain⟨⟨b,off,kR,cap',rfl,jq,x0,x1,x2,x3,hok',lg⟩,hrest⟩:=hrow;obtain⟨iI,pI⟩:=hall;have hlt:k<kids.len:=acS;go_wp2_with fail;refine(iI _ _ _ hok' lg).mono ?_;rintro e w2 ⟨rfl,hb2⟩;have VG:=ah (kX.o.next hb2);have hrest':=hrest.same hb2;clear hb2 kX hrest x0 x1 x2 x3 c0 c1 c2 c3 lg;cases hS:jJ op' n' nm' gM
     ·have HF:=ah (HT.o.trans (by rw[nM,hS];rfl:mJ (.cons op' n' nm' gM rest)=false));go_wp2_with fail;go_ret;exact⟨bZ HF.o.symm,VG.o.1⟩
     ·have HF:=ah (heq.trans (by rw[nM,hS];rfl:mJ (.cons op' n' nm' gM rest)=mJ rest));go_wp2_with fail;go_roundw
      case rel=>exact⟨k+1,rest,ahi,⟨acS,HF.o⟩,pI,hrest',VG.o⟩
      case measure=>simp[intOf];omega
  ·go_wp2_with fail;go_ret;exact⟨bZ HR.o.symm,HZ.o.1⟩
theorem vK (op n:Int) (nm:ByteArray) (kids:bY):Ie op n nm kids:=bY.yB Gc op n nm kids
theorem iL (p:Pr) (i:Int) (nm:ByteArray) (a b:Int) (w:World) (aK aM:Option Addr) (aG aD:Nat) (hi:dD i) (hp:p.At w aK aM):
 Calls Tryz.prog 103 #[.agg #[.slice aK p.ds.length aG,.slice aM p.ts.length aD],.int .i64 i,.string nm,.int .i64 a,.int .i64 b] w λe w'=>e= .returned (.int .i64 (gy (conv (mean p i nm)) a b))∧Below w.heap.size w w':=by
 have HP:=ah hp;clear hp;go_enter Tryz.func103,Tryz.ntmps103;go_wp2_with fail;refine(Uz p i nm _ aK aM aG aD hi (HP.o.same (aA _ _))).mono ?_;rintro e w2 ⟨rfl,hb2⟩;have HB:=ah ((aA w (.cells #[.slice aK p.ds.length aG,.slice aM p.ts.length aD] 26)).trans (hb2.mono ahg));clear hb2;have HE:aj (gy (conv (mean p i nm)) a b=if conv (mean p i nm)==0 then 5 else if(conv (mean p i nm) != a)&&(conv (mean p i nm) != b)then 6 else 0):=ah rfl;generalize hmm:conv (mean p i nm)=m at *;have HM:=ah hmm;clear hmm;go_wp2_with fail
 all_goals go_ret
 all_goals refine⟨bW ?_,HB.o⟩
 all_goals rw[HM.o,HE.o]
 all_goals (go_light;grind)
def Ic (op n:Int) (nm:ByteArray) (kids:bY):Prop:=
 ∀(w:World) (ao:Option Addr) (cap:Nat),ru op n nm kids->kids.At w w.heap.size ao 0->
  Calls Tryz.prog 141 #[.agg #[.int .i64 op,.int .i64 n,.string nm,.slice ao kids.len cap]] w λe w'=>e= .returned (.tuple #[.int .i64 (ext kids).1,.int .i64 (ext kids).2])∧Below w.heap.size w w'
theorem UA (op n:Int) (nm:ByteArray) (kids:bY) (ih:kids.All Ic):Ic op n nm kids:=by
 intro w ao cap hok hat;obtain⟨-,-,-,hl⟩:=hok;unfold maxLen at hl;have oL:=ah ih;have HAT:=ah hat;clear ih hat;go_enter Tryz.func141,Tryz.ntmps141;go_upto_region 2 with fail;generalize hW:World.alloc w _=W;generalize Value.agg #[_,_,_,_]=a0;have HX:=ah ((Sit.start w).zx rfl (.int .i64 op) (.int .i64 n) (.string nm) (.slice ao kids.len cap) 99);rw[hW]at HX;clear hW;go_wp2_with fail;go_loopw [4,5,6,7,8] (λs4 s5 s _ _ wr=> ∃(k:Nat) (R:bY) (a d:Int),s= .int .i64 k∧s4= .int .i64 a∧s5= .int .i64 d∧k+R.len=kids.len∧BX kids 1 0=BX R a d∧R.All Ic∧R.At wr wr.heap.size ao k∧Sit w wr [(w.heap.size,0,.int .i64 op),(w.heap.size,1,.int .i64 n),(w.heap.size,2,.string nm),(w.heap.size,3,.slice ao kids.len cap)]) (λ_ _ s _ _ _=>kids.len -(intOf s).toNat)
 case atStart=>exact⟨0,kids,1,0,rfl,rfl,rfl,ahg,rfl,oL.o,HAT.o.same HX.o.1,HX.o⟩
 case round=>
  obtain⟨k,R,a,d,rfl,rfl,rfl,hlen,heq,hall,hrow,hB⟩:=hrel;have HE:=ah heq;have HY:=ah hB;clear heq hB HX;obtain⟨-,⟨-,c0⟩,⟨-,c1⟩,⟨-,c2⟩,⟨-,c3⟩,-⟩:=HY.o;cases R with
  |nil=>
   obtain rfl:k=kids.len:=afF
   go_wp2_with fail
   go_ret2
   exact⟨jD (ext_nil HE.o).1 (ext_nil HE.o).2,HY.o.1⟩
  |cons op' n' nm' gM rest=>
   obtain⟨⟨b,off,kR,cap',rfl,jq,x0,x1,x2,x3,hok',lg⟩,hrest⟩:=hrow;obtain⟨iI,pI⟩:=hall;have hlt:k<kids.len:=acS
   go_wp2_with fail;refine(iI _ _ _ hok' lg).mono ?_;rintro e w2 ⟨rfl,hb2⟩;have HB3:=ah hb2;clear hb2 x0 x1 x2 x3 c0 c1 c2 c3 lg;go_wp2_with fail;go_roundw
   case rel=>exact⟨k+1,rest,_,_,ahi,rfl,rfl,acS,HE.o,pI,hrest.same HB3.o,HY.o.next HB3.o⟩
   case measure=>simp[intOf];omega
theorem Px (op n:Int) (nm:ByteArray) (kids:bY):Ic op n nm kids:=bY.yB UA op n nm kids
def AX (p:Pr) (i:Int) (op n:Int) (nm:ByteArray) (kids:bY):Prop:=
 ∀(w:World) (aK aM ao:Option Addr) (aG aD cap:Nat),dD i->p.At w aK aM->ru op n nm kids->kids.At w w.heap.size ao 0->
  Calls Tryz.prog 142 #[.agg #[.slice aK p.ds.length aG,.slice aM p.ts.length aD],.int .i64 i,.agg #[.int .i64 op,.int .i64 n,.string nm,.slice ao kids.len cap]] w λe w'=>e= .returned (.int .i64 (wQ p i op nm kids))∧Below w.heap.size w w'
theorem Oe (p:Pr) (i:Int) (op n:Int) (nm:ByteArray) (kids:bY) (ih:kids.All (AX p i)):AX p i op n nm kids:=by
 intro w aK aM ao aG aD cap hi hp hok hat;obtain⟨-,-,-,hl⟩:=hok;unfold maxLen at hl;have oL:=ah ih;have HAT:=ah hat;have HP:=ah hp;clear ih hat hp;go_enter Tryz.func142,Tryz.ntmps142;go_upto_region 1 with fail;generalize hW:World.alloc (World.alloc w _) _=W;generalize Value.agg #[_,_]=a0;generalize Value.agg #[_,_,_,_]=a1;have HX:=ah (((Sit.start w).wL rfl (.slice aK p.ds.length aG) (.slice aM p.ts.length aD) 26).zx (n:=w.heap.size+1) ahg (.int .i64 op) (.int .i64 n) (.string nm) (.slice ao kids.len cap) 99);rw[hW]at HX;clear hW;obtain⟨-,⟨-,c0⟩,⟨-,c1⟩,⟨-,c2⟩,⟨-,c3⟩,⟨-,c4⟩,⟨-,c5⟩,-⟩:=HX.o;go_upto_block 0 with(fail);go_cut [7,10] (λs7 _ W2=>s7= .int .i64 (qL p i op nm)∧Sit w W2 [(w.heap.size+1,0,.int .i64 op),(w.heap.size+1,1,.int .i64 n),(w.heap.size+1,2,.string nm),(w.heap.size+1,3,.slice ao kids.len cap),(w.heap.size,0,.slice aK p.ds.length aG),(w.heap.size,1,.slice aM p.ts.length aD)])
 case first=>
  cases h2:(op==2)
  ·cases h3:(op==3)
   ·have HE:aj (qL p i op nm=0):=ah agG;go_wp2_with fail;go_meet;exact⟨air,HX.o⟩
   ·have HE:aj (qL p i op nm=gy (conv (mean p i nm)) 2 2):=ah (by unfold qL;rw[h2,h3];exact(Rx _ 3 (Bd p i nm) ahf).symm);go_wp2_with fail;refine(iL p i nm 2 2 _ aK aM aG aD hi (HP.o.same HX.o.1)).mono ?_;rintro e w2 ⟨rfl,hb2⟩;go_wp2_with fail;go_meet;exact⟨air,HX.o.next hb2⟩
  ·have HE:aj (qL p i op nm=gy (conv (mean p i nm)) 8 1):=ah (by unfold qL;rw[h2];exact(Ry _ 1 2 (Bd p i nm) ahf ahf).symm);go_wp2_with fail;refine(iL p i nm 8 1 _ aK aM aG aD hi (HP.o.same HX.o.1)).mono ?_;rintro e w2 ⟨rfl,hb2⟩;go_wp2_with fail;go_meet;exact⟨air,HX.o.next hb2⟩
 case rest=>
  obtain⟨rfl,hX⟩:=hcut;have HY:=ah hX;clear hX HX c0 c1 c2 c3 c4 c5;have HR:aj (wQ p i op nm kids=if qL p i op nm==0 then uQ p i kids else qL p i op nm):=ah rfl;generalize qL p i op nm=r0 at *;go_wp2_with fail;go_loopw [7,8] (λs7 s8 wr=> ∃(k:Nat) (R:bY) (r:Int),s8= .int .i64 k∧s7= .int .i64 r∧k+R.len=kids.len∧wQ p i op nm kids=(if r==0 then uQ p i R else r)∧R.All (AX p i)∧R.At wr wr.heap.size ao k∧Sit w wr [(w.heap.size+1,0,.int .i64 op),(w.heap.size+1,1,.int .i64 n),(w.heap.size+1,2,.string nm),(w.heap.size+1,3,.slice ao kids.len cap),(w.heap.size,0,.slice aK p.ds.length aG),(w.heap.size,1,.slice aM p.ts.length aD)]) (λ_ s _=>kids.len -(intOf s).toNat)
  case atStart=>exact⟨0,kids,r0,rfl,rfl,ahg,HR.o,oL.o,HAT.o.same HY.o.1,HY.o⟩
  case round=>
   obtain⟨k,R,r,rfl,rfl,hlen,heq,hall,hrow,hsit⟩:=hrel;have HE:=ah heq;have HZ:=ah hsit;clear heq hsit;obtain⟨-,⟨-,c0⟩,⟨-,c1⟩,⟨-,c2⟩,⟨-,c3⟩,⟨-,c4⟩,⟨-,c5⟩,-⟩:=HZ.o;cases R with
   |nil=>obtain rfl:k=kids.len:=afF;go_wp2_with fail;go_ret;exact⟨bW (HE.o.trans aeD).symm,HZ.o.1⟩
   |cons op' n' nm' gM rest=>
    obtain⟨⟨b,off,kR,cap',rfl,jq,x0,x1,x2,x3,hok',lg⟩,hrest⟩:=hrow;obtain⟨iI,pI⟩:=hall;have hlt:k<kids.len:=acS;cases hr:(r==0)
    ·have dJ:=ah (HE.o.trans (by rw[hr];rfl:_=r));go_wp2_with fail;go_ret;exact⟨bW dJ.o.symm,HZ.o.1⟩
    ·have dJ:=ah (HE.o.trans (by rw[hr];rfl:_=uQ p i (.cons op' n' nm' gM rest)));go_wp2_with fail;obtain⟨T,F,Ad,hst,hF,hnext⟩:=calm wr;have HF:=ah hF;have eH:=ah hnext;clear hnext hF;have d0:=λx=>(HZ.o.next (HF.o x)).2.1.2;have d1:=λx=>(HZ.o.next (HF.o x)).2.2.1.2;have d2:=λx=>(HZ.o.next (HF.o x)).2.2.2.1.2;have d3:=λx=>(HZ.o.next (HF.o x)).2.2.2.2.1.2;have d4:=λx=>(HZ.o.next (HF.o x)).2.2.2.2.2.1.2;have d5:=λx=>(HZ.o.next (HF.o x)).2.2.2.2.2.2.1.2;have y0:=λx=>((HF.o x).cell (p:=⟨b,off+k*4,none⟩) jq).trans x0;have y1:=λx=>((HF.o x).cell (p:=⟨b,off+k*4+1,none⟩) jq).trans x1;have y2:=λx=>((HF.o x).cell (p:=⟨b,off+k*4+2,none⟩) jq).trans x2;have y3:=λx=>((HF.o x).cell (p:=⟨b,off+k*4+3,none⟩) jq).trans x3;clear c0 c1 c2 c3 c4 c5 x0 x1 x2 x3;have hk0:(0:Int)<=k:=ahe;have hk1:(k:Int)<kids.len:=ahe;refine iR F ahd ahd hst ?_
     repeat (any_goals (first|go_big_quiet_step ((go_at_call 142;refine(iI _ aK aM kR aG aD cap' hi ((HP.o.same HZ.o.1).same (HF.o _)) hok' (lg.same (HF.o _))).mono ?_;rintro e w' ⟨rfl,hb⟩;exact⟨rfl,eH.o _ _ hb⟩))|(refine wpQuiet_step (λK hK=> ?_);go_simp;first|(refine hK _ ?_;clear hK K)|(split <;> first|(refine hK _ ?_;clear hK K)|(apply Exists.intro;refine⟨λ_=> ?_,hK _ ?_⟩;((go_at_call 142;refine(iI _ aK aM kR aG aD cap' hi ((HP.o.same HZ.o.1).same (HF.o _)) hok' (lg.same (HF.o _))).mono ?_;rintro e w' ⟨rfl,hb⟩;exact⟨rfl,eH.o _ _ hb⟩));clear hK K)))))
     all_goals (refine wpQuiet_nil ?_;rintro _ ⟨x,rfl⟩)
     have HB2:=ah (HF.o x);clear d0 d1 d2 d3 d4 d5 y0 y1 y2 y3 HF eH hst;generalize F x=W2 at *;go_wp2_with fail;go_roundw
     case rel=>exact⟨k+1,rest,_,ahi,rfl,acS,dJ.o.trans (NZ p i op' n' nm' gM rest),pI,hrest.same HB2.o,HZ.o.next HB2.o⟩
     case measure=>simp[intOf];omega
theorem Pw (p:Pr) (i:Int) (op n:Int) (nm:ByteArray) (kids:bY):AX p i op n nm kids:=bY.yB (Oe p i) op n nm kids
theorem jh (p:Pr) (i:Int) (op n:Int) (nm:ByteArray) (kids:bY) (w:World) (aK aM ao:Option Addr) (aG aD cap:Nat) (hi:dD i) (hp:p.At w aK aM) (hok:ru op n nm kids) (hat:kids.At w w.heap.size ao 0):
 Calls Tryz.prog 104 #[.agg #[.slice aK p.ds.length aG,.slice aM p.ts.length aD],.int .i64 i,.agg #[.int .i64 op,.int .i64 n,.string nm,.slice ao kids.len cap]] w λe w'=>e= .returned (.int .i64 (kZ p i op n nm kids))∧Below w.heap.size w w':=by
 have HAT:=ah hat;have HP:=ah hp;clear hat hp;go_enter Tryz.func104,Tryz.ntmps104;go_upto_region 1 with fail;generalize hW:World.alloc (World.alloc w _) _=W;generalize Value.agg #[_,_]=a0;generalize Value.agg #[_,_,_,_]=a1;have HX:=ah (((Sit.start w).wL rfl (.slice aK p.ds.length aG) (.slice aM p.ts.length aD) 26).zx (n:=w.heap.size+1) ahg (.int .i64 op) (.int .i64 n) (.string nm) (.slice ao kids.len cap) 99);rw[hW]at HX;clear hW;obtain⟨-,⟨-,c0⟩,⟨-,c1⟩,⟨-,c2⟩,⟨-,c3⟩,⟨-,c4⟩,⟨-,c5⟩,-⟩:=HX.o;go_wp2_with fail;refine(vK op n nm kids _ ao cap hok (HAT.o.same HX.o.1)).mono ?_;rintro e w1 ⟨rfl,hb1⟩;have HY:=ah (HX.o.next hb1);clear HX hb1 c0 c1 c2 c3 c4 c5;obtain⟨-,⟨-,c0⟩,⟨-,c1⟩,⟨-,c2⟩,⟨-,c3⟩,⟨-,c4⟩,⟨-,c5⟩,-⟩:=HY.o;cases hS:jJ op n nm kids
 ·have HE:aj (kZ p i op n nm kids=3):=ah agq;go_wp2_with fail;go_ret;exact⟨bW HE.o.symm,HY.o.1⟩
 ·have HE:aj (kZ p i op n nm kids=if decide (24<(ext kids).1)||decide (6<(ext kids).2)then 2 else wQ p i op nm kids):=ah agq;go_wp2_with fail;refine(Px op n nm kids _ ao cap hok (HAT.o.same HY.o.1)).mono ?_;rintro e w2 ⟨rfl,hb2⟩;have HZ:=ah (HY.o.next hb2);clear HY hb2 c0 c1 c2 c3 c4 c5;obtain⟨-,⟨-,c0⟩,⟨-,c1⟩,⟨-,c2⟩,⟨-,c3⟩,⟨-,c4⟩,⟨-,c5⟩,-⟩:=HZ.o;generalize (ext kids).1=a at *;generalize (ext kids).2=d at *;cases h1:decide (24<a)
  ·cases h2:decide (6<d)
   ·have dJ:=ah (HE.o.trans (by rw[h1,h2];rfl:_=wQ p i op nm kids));have q1:a<=24:=ahl;have q2:d<=6:=aho;go_wp2_with fail;refine(Pw p i op n nm kids _ aK aM ao aG aD cap hi (HP.o.same HZ.o.1) hok (HAT.o.same HZ.o.1)).mono ?_;rintro e w3 ⟨rfl,hb3⟩;go_wp2_with fail;go_ret;exact⟨bW dJ.o.symm,(HZ.o.next hb3).1⟩
   ·have dJ:=ah (HE.o.trans (if_pos (by rw[h1,h2];rfl)));have q1:a<=24:=ahl;have q2:6<d:=aho;go_wp2_with fail;go_ret;exact⟨bW dJ.o.symm,HZ.o.1⟩
  ·have dJ:=ah (HE.o.trans (if_pos ah9));have q1:24<a:=by simpa using h1
   go_wp2_with fail;go_ret;exact⟨bW dJ.o.symm,HZ.o.1⟩
theorem Nq (ds:List De) (nm:ByteArray):(zq ds nm= -1∧ow ds nm.toList=false)∨∃j:Nat,zq ds nm=(j:Int)∧ow ds nm.toList=true:=by
 rcases pW (λd:De=>d.nm.toList==nm.toList) ds 0 with⟨h1,h2,h3⟩|⟨j,d,r,h0,h1,h2,h3,h4⟩
 ·exact Or.inl ⟨h1,h3⟩
 ·exact Or.inr ⟨j,agQ,h4⟩
theorem Nr (ts:List Th) (nm:ByteArray):(qp ts nm= -1∧nQ ts nm.toList=false)∨∃j:Nat,qp ts nm=(j:Int)∧nQ ts nm.toList=true:=by
 rcases pW (λd:Th=>d.nm.toList==nm.toList) ts 0 with⟨h1,h2,h3⟩|⟨j,d,r,h0,h1,h2,h3,h4⟩
 ·exact Or.inl ⟨h1,h3⟩
 ·exact Or.inr ⟨j,agQ,h4⟩
theorem Gj (ts:List ByteArray) (nm:ByteArray):(Jv ts nm= -1∧nO ts nm.toList=false)∨∃j:Nat,Jv ts nm=(j:Int)∧nO ts nm.toList=true:=by
 rcases pW (λd:ByteArray=>d.toList==nm.toList) ts 0 with⟨h1,h2,h3⟩|⟨j,d,r,h0,h1,h2,h3,h4⟩
 ·exact Or.inl ⟨h1,h3⟩
 ·exact Or.inr ⟨j,agQ,h4⟩
theorem Mc (p:Pr) (w:World) (aK aM:Option Addr) (aG aD:Nat) (hp:p.At w aK aM) (xu:p.ts.length<=aD):
 Calls Tryz.prog 41 #[.agg #[.slice aK p.ds.length aG,.slice aM p.ts.length aD]] w λe w'=>e= .returned (.tuple #[.int .i64 (kW p).1,.int .i64 (kW p).2])∧Below w.heap.size w w':=by
 have HR:aj (kW p=match uV p.ds p.ts []with|some l=>(4,l)|none=>Ai p.ds p.ts p.ts):=ah rfl;generalize kW p=res at *;have hld:=hp.1;have hlt:=hp.2.1;have V9:=hp.1;have hlt':=hp.2.1;unfold maxLen at hld hlt;have HP:=ah hp;clear hp;go_enter Tryz.func41,Tryz.ntmps41;go_upto_region 1 with fail;generalize hW:World.alloc w _=W;generalize Value.agg #[_,_]=a0;have HX:=ah ((Sit.start w).wL rfl (.slice aK p.ds.length aG) (.slice aM p.ts.length aD) 26);rw[hW]at HX;clear hW;go_wp2_with fail;go_loopg [4,5] p.ts.length (λg s _ wr=> ∃(k:Nat) (pre R:List Th),g=R.length∧s= .int .i64 k∧pre++R=p.ts∧pre.length=k∧uV p.ds p.ts []=uV p.ds R pre∧Sit w wr [(w.heap.size,0,(.slice aK p.ds.length aG)),(w.heap.size,1,(.slice aM p.ts.length aD))])
 case atStart=>exact⟨0,[],p.ts,rfl,rfl,rfl,rfl,rfl,HX.o⟩
 case round=>
  obtain⟨k,pre,R,rfl,rfl,hds,hk,heq,hsit⟩:=hrel;have HU:=ah hsit;have HE:=ah heq;clear hsit heq HX;have hlen:k+R.length=p.ts.length:=afY
  have hrow:=(HP.o.2.2.2.below HU.o.1).drop k;rw[aV,<- hds,<- hk,List.drop_left]at hrow;rw[hk]at hrow;have wX:=ah ((hds ▸ HP.o.2.2.2:gY w w.heap.size (pre++R) aM 0).take);have rY:=ah hds;have HK:=ah hk;clear hds hk;cases R with
  |cons t R=>
   obtain⟨⟨b,off,gK,dW,dL,cK,rfl,hB,x0,x1,x2,x3,hok,htx,hst⟩,-⟩:=hrow;simp only[ay]at hlen;have hkl:k<p.ts.length:=ahe
   clear htx hst;obtain⟨-,⟨-,c0⟩,⟨-,c1⟩,-⟩:=HU.o;go_upto_region 5 with fail;clear c0 c1;obtain⟨nb,hnb⟩: ∃n,wr.heap.size=n:=⟨_,rfl⟩;generalize hW2:World.alloc wr _=W2;have HY:aj (Sit w W2 ((nb,0,.string t.nm)::(nb,1,.int .i64 t.line)::(nb,2,.slice gK t.cu.length dW)::(nb,3,.slice dL t.body.len cK)::[(w.heap.size,0,(.slice aK p.ds.length aG)),(w.heap.size,1,(.slice (some ⟨b,off,none⟩) p.ts.length aD))])):=ah (by rw[<- hW2];exact HU.o.zx hnb _ _ _ _ _);rw[hnb];clear hW2 hnb x0 x1 x2 x3 HU;obtain⟨-,⟨-,c0⟩,⟨-,c1⟩,⟨-,c2⟩,⟨-,c3⟩,⟨-,c4⟩,⟨-,c5⟩,-⟩:=HY.o;have hpl:pre.length<=maxLen:=aio
   have xM:aj (∀nq:Nat,Calls Tryz.prog 71 #[.slice aK p.ds.length aG,.string t.nm] (W2.drewN nq) λe w'=>e= .returned (.int .i64 (zq p.ds t.nm))∧W2.drewN nq=w'):=ah (λnq=>by have hb':=below_drewN (n:=nq) HY.o.1;exact oQ p.ds t.nm (W2.drewN nq) aK aG V9 ((HP.o.2.2.1.below hb').mono hb'.size));have CF:aj (∀nq:Nat,Calls Tryz.prog 72 #[.slice (some ⟨b,off,none⟩) k aD,.string t.nm] (W2.drewN nq) λe w'=>e= .returned (.int .i64 (qp pre t.nm))∧W2.drewN nq=w'):=ah (λnq=>by have hb':=below_drewN (n:=nq) HY.o.1;have:=iG pre t.nm (W2.drewN nq) (some ⟨b,off,none⟩) aD hpl ((wX.o.below hb').mono hb'.size);rw[HK.o]at this;exact this);have hk0:(0:Int)<=k:=ahe
   have hk1:(k:Int)<=aD:=ahe
   have hk2:k<=aD:=ahe
   go_cut [37] (λs' W3=>s'= .bool (ow p.ds t.nm.toList||nQ pre t.nm.toList)∧Sit w W3 ((nb,0,.string t.nm)::(nb,1,.int .i64 t.line)::(nb,2,.slice gK t.cu.length dW)::(nb,3,.slice dL t.body.len cK)::[(w.heap.size,0,(.slice aK p.ds.length aG)),(w.heap.size,1,(.slice (some ⟨b,off,none⟩) p.ts.length aD))]))
   case first=>
    as_aux_lemma=>
     rcases Nq p.ds t.nm with⟨e1,e2⟩|⟨j,e1,e2⟩
     ·rw[e1]at xM;rcases Nr pre t.nm with⟨e3,e4⟩|⟨j',e3,e4⟩
      all_goals rw[e3]at CF;have HF:=ah e2;have HG:=ah e4;clear e1 e2 e3 e4;go_quiet (first|(go_at_call 71;exact nu (xM.o _))|(go_at_call 72;exact nu (CF.o _)));go_wp2_with fail;go_meet;exact⟨by rw[HF.o,HG.o];rfl,HY.o.draws _⟩
     ·rw[e1]at xM;have HF:=ah e2;have hj:decide ((j:Int) ≥ 0)=true:=ahg;clear e1 e2;go_quiet (first|(go_at_call 71;exact nu (xM.o _))|(go_at_call 72;exact nu (CF.o _)));go_wp2_with fail;go_meet;exact⟨by rw[HF.o];rfl,HY.o.draws _⟩
   obtain⟨rfl,hX⟩:=hcut;have HZ:=ah hX;have HB3:=ah hX.1;clear hX HY xM CF c0 c1 c2 c3 c4 c5;cases uM:(ow p.ds t.nm.toList||nQ pre t.nm.toList)
   ·have dJ:=ah (HE.o.trans (if_neg (by rw[uM];decide)));go_wp2_with fail;go_roundg R.length
    case measure=>simp
    case rel=>exact⟨k+1,pre++[t],R,rfl,ahi,acT,afK,dJ.o,⟨HZ.o.1,HZ.o.2.2.2.2.2⟩⟩
   ·have HF:aj (res=(4,t.line)):=ah (HR.o.trans afk);obtain⟨-,⟨-,c0⟩,⟨-,c1⟩,⟨-,c2⟩,⟨-,c3⟩,⟨-,c4⟩,⟨-,c5⟩,-⟩:=HZ.o;go_wp2_with fail;go_quiet (fail);go_wp2_with fail
    go_ret2
    exact⟨jD (congrArg Prod.fst HF.o) (congrArg Prod.snd HF.o),below_drewN HB3.o _⟩
  |nil=>
   obtain rfl:k=p.ts.length:=afm
   have HR2:aj (res=Ai p.ds p.ts p.ts):=ah (HR.o.trans ahJ);clear hrow hlen rY HK HE HR wX;have hth:=HP.o.2.2.2.below HU.o.1;obtain⟨-,⟨-,c0⟩,⟨-,c1⟩,-⟩:=HU.o;go_wp2_with fail;go_loopg [6,7,8,9] p.ts.length (λg s _ _ _ wr=> ∃(k:Nat) (R:List Th),g=R.length∧s= .int .i64 k∧k+R.length=p.ts.length∧Ai p.ds p.ts p.ts=Ai p.ds p.ts R∧gY wr w.heap.size R aM k∧Sit w wr [(w.heap.size,0,(.slice aK p.ds.length aG)),(w.heap.size,1,(.slice aM p.ts.length aD))])
   case atStart=>exact⟨0,p.ts,rfl,rfl,ahg,rfl,hth,HU.o⟩
   case round=>
    obtain⟨k,R,rfl,rfl,hlen,heq,hrow,hsit⟩:=hrel;have HV:=ah hsit;have HE:=ah (HR2.o.trans heq);have FM:=ah heq;clear hsit HU c0 c1 heq hth;obtain⟨-,⟨-,c0⟩,⟨-,c1⟩,-⟩:=HV.o;cases R with
    |nil=>
     obtain rfl:k=p.ts.length:=afm;have HF:=ah (HE.o.trans (rfl:_=((0:Int),(0:Int))));go_wp2_with fail
     go_ret2
     exact⟨jD (congrArg Prod.fst HF.o) (congrArg Prod.snd HF.o),HV.o.1⟩
    |cons t R=>
     obtain⟨⟨b,off,gK,dW,dL,cK,rfl,hB,x0,x1,x2,x3,hok,htx,hst⟩,hrest⟩:=hrow;simp only[ay]at hlen;have hkl:k<p.ts.length:=ahe;have bE4:=hok.2.2.1;have hll:=hok.2.2.1;have hcl:=hst.2;unfold maxLen at hll;clear hst hok;go_upto_region 11 with fail;clear c0 c1;obtain⟨nb,hnb⟩: ∃n,wr.heap.size=n:=⟨_,rfl⟩;generalize hW2:World.alloc wr _=W2;have HY:aj (Sit w W2 ((nb,0,.string t.nm)::(nb,1,.int .i64 t.line)::(nb,2,.slice gK t.cu.length dW)::(nb,3,.slice dL t.body.len cK)::[(w.heap.size,0,(.slice aK p.ds.length aG)),(w.heap.size,1,(.slice (some ⟨b,off,none⟩) p.ts.length aD))])):=ah (by rw[<- hW2];exact HV.o.zx hnb _ _ _ _ _);have lX:aj (Below wr.heap.size wr W2):=ah afQ;have BF:=ah (htx.below (lX.o.mono HV.o.1.size));have kr:=ah (hrest.below (lX.o.mono HV.o.1.size));have HB3:=ah HY.o.1;rw[hnb];clear hW2 hnb x0 x1 x2 x3 HV htx hrest lX;obtain⟨-,⟨-,c0⟩,⟨-,c1⟩,⟨-,c2⟩,⟨-,c3⟩,⟨-,c4⟩,⟨-,c5⟩,-⟩:=HY.o;cases h1:decide ((4:Int)<t.cu.length)
     case true=>
      as_aux_lemma=>
       have HF:=ah (HE.o.trans (if_pos h1));have h1':4<t.cu.length:=agx;clear h1;go_wp2_with fail;go_quiet (fail);go_wp2_with fail
       go_ret2
       exact⟨jD (congrArg Prod.fst HF.o) (congrArg Prod.snd HF.o),below_drewN HB3.o _⟩
     have HE2:=ah (HE.o.trans (if_neg ahu));have pO:=ah (FM.o.trans (if_neg ahu));have h1':t.cu.length<=4:=agx;clear HE FM h1;go_wp2_with fail;go_loopg [8,9] t.cu.length (λg s _ wx=>W2=wx∧∃(k':Nat) (pre R':List ByteArray),g=R'.length∧s= .int .i64 k'∧pre++R'=t.cu∧pre.length=k'∧tQ p.ds p.ts t.cu []=tQ p.ds p.ts R' pre)
     case atStart=>exact⟨rfl,0,[],t.cu,rfl,rfl,rfl,rfl,rfl⟩
     case round=>
      obtain⟨rfl,k',pre,R',rfl,rfl,hds,hk',heq'⟩:=hrel;have dJ:=ah heq';have hlen':k'+R'.length=t.cu.length:=(by rw[<- hds,au,hk']);have hrow:=BF.o.drop k';rw[aV,<- hds,<- hk',List.drop_left]at hrow;rw[hk']at hrow;have wX:=ah ((hds ▸ BF.o:fU W2 w.heap.size (pre++R') gK 0).take);have rY:=ah hds;have HK:=ah hk';clear hds hk' heq';cases R' with
      |nil=>
       obtain rfl:k'=t.cu.length:=afR;have HF:=ah (pO.o.trans (if_neg (by rw[dJ.o];simp[tQ])));go_wp2_with fail;go_roundg R.length
       case measure=>simp
       case rel=>exact⟨k+1,R,rfl,ahi,ahe,HF.o,kr.o,⟨HY.o.1,HY.o.2.2.2.2.2⟩⟩
      |cons s R'=>
       obtain⟨⟨b',off',rfl,hB',y0,hs⟩,-⟩:=hrow;simp only[ay]at hlen';have hkl':k'<t.cu.length:=ahe;have HL:aj (tQ p.ds p.ts t.cu []=((ow p.ds s.toList||nQ p.ts s.toList)||nO pre s.toList||tQ p.ds p.ts R' (pre++[s]))):=ah (dJ.o.trans (by rw[tQ]));have hpl:pre.length<=maxLen:=aio;have xM:=ah (oQ p.ds s W2 aK aG V9 ((HP.o.2.2.1.below HY.o.1).mono HY.o.1.size));have CF:=ah (iG p.ts s W2 (some ⟨b,off,none⟩) aD hlt' ((HP.o.2.2.2.below HY.o.1).mono HY.o.1.size));have HXA:=ah (jO pre s W2 (some ⟨b',off',none⟩) dW hpl (wX.o.mono HY.o.1.size));rw[HK.o]at HXA;have hk0:(0:Int)<=k':=ahe;have hk1:(k':Int)<=dW:=ahe;have hk2:k'<=dW:=ahe;clear dJ;go_upto_region 17 with fail;go_cut [90] (λs' W3=>W2=W3∧s'= .bool ((ow p.ds s.toList||nQ p.ts s.toList)||nO pre s.toList))
       case first=>
        as_aux_lemma=>
         rcases Nq p.ds s with⟨e1,e2⟩|⟨j,e1,e2⟩
         ·rcases Nr p.ts s with⟨e3,e4⟩|⟨j,e3,e4⟩
          ·rcases Gj pre s with⟨e5,e6⟩|⟨j,e5,e6⟩
           all_goals rw[e1]at xM;rw[e3]at CF;rw[e5]at HXA;have HF:aj (ow p.ds s.toList=false∧nQ p.ts s.toList=false∧nO pre s.toList=_):=ah ⟨e2,e4,e6⟩;clear e1 e2 e3 e4 e5 e6;go_wp2_with (first|(go_at_call 71;refine xM.o.mono ?_;rintro e w' ⟨rfl,rfl⟩)|(go_at_call 72;refine CF.o.mono ?_;rintro e w' ⟨rfl,rfl⟩)|(go_at_call 73;refine HXA.o.mono ?_;rintro e w' ⟨rfl,rfl⟩));go_meet;exact⟨rfl,by rw[HF.o.1,HF.o.2.1,HF.o.2.2];rfl⟩
          ·rw[e1]at xM;rw[e3]at CF;have HF:aj (ow p.ds s.toList=false∧nQ p.ts s.toList=true):=ah ⟨e2,e4⟩;clear e1 e2 e3 e4;go_wp2_with (first|(go_at_call 71;refine xM.o.mono ?_;rintro e w' ⟨rfl,rfl⟩)|(go_at_call 72;refine CF.o.mono ?_;rintro e w' ⟨rfl,rfl⟩));go_meet;exact⟨rfl,by rw[HF.o.1,HF.o.2];rfl⟩
         ·rw[e1]at xM;have HF:=ah e2;clear e1 e2;go_wp2_with (go_at_call 71;refine xM.o.mono ?_;rintro e w' ⟨rfl,rfl⟩);go_meet;exact⟨rfl,by rw[HF.o];rfl⟩
       obtain⟨rfl,rfl⟩:=hcut;clear xM CF HXA;cases uM:((ow p.ds s.toList||nQ p.ts s.toList)||nO pre s.toList)
       ·have HF:aj (tQ p.ds p.ts t.cu []=tQ p.ds p.ts R' (pre++[s])):=ah (HL.o.trans (by rw[uM];rfl));go_wp2_with fail;go_roundg R'.length
        case measure=>simp
        case rel=>exact⟨rfl,k'+1,pre++[s],R',rfl,ahi,acT,afK,HF.o⟩
       ·have HF:=ah (HE2.o.trans (if_pos (by rw[HL.o,uM];rfl)));go_wp2_with fail;go_quiet (fail);go_wp2_with fail
        go_ret2
        exact⟨jD (congrArg Prod.fst HF.o) (congrArg Prod.snd HF.o),below_drewN HB3.o _⟩
def zl (l:aY):Prop:= ∀(w:World) (ao:Option Addr) (cap:Nat),l.len<=maxLen->l.At w w.heap.size ao 0->
 Calls Tryz.prog 42 #[.slice ao l.len cap] w λe w'=>e= .returned (.int .i64 (EL l))∧Below w.heap.size w w'
theorem Dl (l:aY) (hall:l.All λ_ b e=>zl b∧zl e):zl l:=by
 intro w ao cap hl hat;generalize hres:EL l=res;have HR:=ah hres;have HAT:=ah hat;have jM:=ah hall;unfold maxLen at hl;clear hres hat hall;go_enter Tryz.func42,Tryz.ntmps42;go_wp2_with fail;go_loopw [3,4] (λs3 s wr=> ∃(k:Nat) (R:aY) (n:Int),s= .int .i64 k∧s3= .int .i64 n∧k+R.len=l.len∧res=Gq R n∧(R.All λ_ b e=>zl b∧zl e)∧R.At wr wr.heap.size ao k∧Below w.heap.size w wr) (λ_ s _=>l.len -(intOf s).toNat)
 case atStart=>exact⟨0,l,l.len,rfl,rfl,ahg,HR.o.symm,jM.o,HAT.o,ak _ _⟩
 case round=>
  obtain⟨k,R,n,rfl,rfl,hlen,heq,pI,hrow,hB⟩:=hrel;have HE:=ah heq;have HB:=ah hB;clear heq hB;cases R with
  |nil=>
   obtain rfl:k=l.len:=afs
   go_wp2_with fail;go_ret;exact⟨bW HE.o.symm,HB.o⟩
  |cons h b e R=>
   obtain⟨bl,off,s,rfl,hbl,hin,-,-,-,-,-,-,-,-,-,x9,x10,hrest⟩:=aY.At.head hrow;obtain⟨⟨hsb,hse⟩,Cb⟩:=pI;have Ao:=ah hsb;have DR:=ah hse;have fF:=ah hin;have hkl:k<l.len:=acO
   have hk0:(0:Int)<=k:=ahe
   have hk1:(k:Int)<l.len:=ahe
   clear hrow hin hsb hse;go_wp2_with fail;obtain⟨T,F,Ad,hst,hF,hnext⟩:=calm wr;have HF:=ah hF;have eH:=ah hnext;clear hF hnext;have y9:=λx=>((HF.o x).cell (p:=⟨bl,off+k*11+9,none⟩) hbl).trans x9;have uo:=λx=>((HF.o x).cell (p:=⟨bl,off+k*11+10,none⟩) hbl).trans x10;clear x9 x10;refine iR F ahd ahd hst ?_
   repeat (any_goals (first|go_big_quiet_step ((first|(go_at_call_of 42 (Value.slice s.dL b.len s.cK);refine(Ao.o _ s.dL s.cK fF.o.1.2.2.2.2.2.2.1 (fF.o.same (HF.o _)).2.2.2.1).mono ?_;rintro e w' ⟨rfl,hb⟩;exact⟨rfl,eH.o _ _ hb⟩)|(go_at_call_of 42 (Value.slice s.gJ e.len s.fH);refine(DR.o _ s.gJ s.fH fF.o.1.2.2.2.2.2.2.2 (fF.o.same (HF.o _)).2.2.2.2).mono ?_;rintro e w' ⟨rfl,hb⟩;exact⟨rfl,eH.o _ _ hb⟩)))|(refine wpQuiet_step (λK hK=> ?_);go_simp;first|(refine hK _ ?_;clear hK K)|(split <;> first|(refine hK _ ?_;clear hK K)|(apply Exists.intro;refine⟨λ_=> ?_,hK _ ?_⟩;((first|(go_at_call_of 42 (Value.slice s.dL b.len s.cK);refine(Ao.o _ s.dL s.cK fF.o.1.2.2.2.2.2.2.1 (fF.o.same (HF.o _)).2.2.2.1).mono ?_;rintro e w' ⟨rfl,hb⟩;exact⟨rfl,eH.o _ _ hb⟩)|(go_at_call_of 42 (Value.slice s.gJ e.len s.fH);refine(DR.o _ s.gJ s.fH fF.o.1.2.2.2.2.2.2.2 (fF.o.same (HF.o _)).2.2.2.2).mono ?_;rintro e w' ⟨rfl,hb⟩;exact⟨rfl,eH.o _ _ hb⟩)));clear hK K)))))
   all_goals (refine wpQuiet_nil ?_;rintro _ ⟨x,rfl⟩)
   have HB2:=ah (HF.o x);clear y9 uo HF eH hst;generalize F x=W3 at *;go_wp2_with fail;go_roundw
   case rel=>exact⟨k+1,R,_,ahi,rfl,acO,HE.o.trans (show Gq R (wrap64 (n+(EL b+EL e)))=_ by rw[<- wrap_in']),Cb,hrest.same HB2.o,HB.o.trans (HB2.o.mono HB.o.size)⟩
   case measure=>simp[intOf];omega
theorem Pt (l:aY):zl l:=Dl l (aY.mW (λ_ b e hb he=>⟨Dl b hb,Dl e he⟩) l)
theorem Tc (pre:List De) (nm:ByteArray):(zq pre nm= -1∧mD pre nm.toList=0)∨∃(j:Nat) (d:De) (r:List De),j<pre.length∧zq pre nm=(j:Int)∧pre.drop j=d::r∧mD pre nm.toList=fZ d:=by
 unfold zq mD;rcases pW (λd:De=>d.nm.toList==nm.toList) pre 0 with⟨h1,h2,h3⟩|⟨j,d,r,h0,h1,h2,h3,h4⟩
 ·exact Or.inl ⟨h1,by rw[h2];rfl⟩
 ·exact Or.inr ⟨j,d,r,h0,by rw[h1,aV],h2,by rw[h3];rfl⟩
theorem RL {d:De} :(fZ d != 4)=(d.kind != 3):=ahb
def aq0 (ds:List De) (w:World) (res:Int×Int) (g:Nat) (s4 s5 s6 s7 s8:Value) (wr:World):Prop:=
 ∃(k:Nat) (pre R:List De) (c l n f:Int),g=R.length∧s8= .int .i64 k∧pre++R=ds∧pre.length=k∧s4= .int .i64 c∧s5= .int .i64 l∧s6= .int .i64 n∧s7= .int .i64 f∧
  (0<=c∧c<=12∧0<=l∧l<=4∧0<=n∧n<=2∧0<=f∧f<=2)∧res=lV R pre c l n f∧Below w.heap.size w wr
theorem Pv (ds:List De) (w:World) (ao:Option Addr) (cap:Nat) (hl:ds.length<=maxLen) (hcap:ds.length<=cap) (hat:iT w w.heap.size ds ao 0) (hsh: ∀d∈ds,iV d=true):
 Calls Tryz.prog 40 #[.slice ao ds.length cap] w λe w'=>e= .returned (.tuple #[.int .i64 (lV ds [] 0 0 0 0).1,.int .i64 (lV ds [] 0 0 0 0).2])∧Below w.heap.size w w':=by
 generalize hres:lV ds [] 0 0 0 0=res;have HR:=ah hres;have HAT:=ah hat;have xU:=ah hsh;have hl':=hl;unfold maxLen at hl;clear hres hat hsh;go_enter Tryz.func40,Tryz.ntmps40;go_wp2_with fail;go_loopg [4,5,6,7,8,9,10] ds.length (λg s4 s5 s6 s7 s8 _ _ wr=>aq0 ds w res g s4 s5 s6 s7 s8 wr)
 case atStart=>exact⟨0,[],ds,0,0,0,0,rfl,rfl,rfl,rfl,rfl,rfl,rfl,rfl,ahf,HR.o.symm,ak _ _⟩
 case round=>
  obtain⟨k,pre,R,c,l,n,f,rfl,rfl,hds,hk,rfl,rfl,rfl,rfl,⟨q1,q2,l1,l2,n1,n2,f1,f2⟩,hr,hB⟩:=hrel;have HE:=ah hr;have HB:=ah hB;clear hr hB HR;have hlen:k+R.length=ds.length:=afY
  have hrow:=(HAT.o.below HB.o).drop k;rw[aV,<- hds,<- hk,List.drop_left]at hrow;rw[hk]at hrow;cases R with
  |nil=>
   obtain rfl:k=ds.length:=afm
   have HF:=ah (HE.o.trans (rfl:_=((0:Int),(0:Int))));clear HE hds hk hrow;go_wp2_with fail
   go_ret2
   exact⟨jD (congrArg Prod.fst HF.o) (congrArg Prod.snd HF.o),HB.o⟩
  |cons d R=>
   have hsd:=vw (xU.o d (by rw[<- hds];simp));have rY:=ah hds;have HK:=ah hk;have wX:=ah ((hds ▸ HAT.o:iT w w.heap.size (pre++d::R) ao 0).take);clear hds hk;obtain⟨⟨b,off,rfl,jq,x0,x1,x2,x3,x4,x5,hok⟩,-⟩:=hrow;simp only[ay]at hlen;have hkl:k<ds.length:=ahe
   obtain⟨g1,g2,g3,g4⟩:=hsd;rw[Gs]at HE;go_upto_region 6 with fail;obtain⟨nb,hnb⟩: ∃n,wr.heap.size=n:=⟨_,rfl⟩;generalize hW2:World.alloc wr _=W2;have HB2:aj (Below w.heap.size w W2):=ah adW;have HY:aj (Sit wr W2 [(nb,0,.int .i64 d.kind),(nb,1,.int .i64 d.line),(nb,2,.string d.nm),(nb,3,.int .i64 d.size),(nb,4,.int .i64 d.init),(nb,5,.string d.on)]):=ah abR;rw[hnb];clear hW2 hnb x0 x1 x2 x3 x4 x5 HB;obtain⟨-,⟨-,c0⟩,⟨-,c1⟩,⟨-,c2⟩,⟨-,c3⟩,⟨-,c4⟩,⟨-,c5⟩,-⟩:=HY.o;have hpl:pre.length<=maxLen:=aio
   have xM:aj (∀(nm:ByteArray) (nq:Nat),Calls Tryz.prog 71 #[.slice (some ⟨b,off,none⟩) k cap,.string nm] (W2.drewN nq) λe w'=>e= .returned (.int .i64 (zq pre nm))∧W2.drewN nq=w'):=ah (λnm nq=>by have hb':=below_drewN (n:=nq) HB2.o;have:=oQ pre nm (W2.drewN nq) (some ⟨b,off,none⟩) cap hpl ((wX.o.below hb').mono hb'.size);rw[HK.o]at this;exact this);have hk0:(0:Int)<=k:=ahe
   have hk1:(k:Int)<=cap:=ahe
   have hk2:k<=cap:=ahe
   go_quiet ((go_at_call 71;exact nu (xM.o _ _)));have HZ:=ah (HY.o.draws nq);have HB3:=ah (below_drewN (n:=nq) HB2.o);clear HY HB2 xM c0 c1 c2 c3 c4 c5;generalize W2.drewN nq=w3 at *;obtain⟨-,⟨-,c0⟩,⟨-,c1⟩,⟨-,c2⟩,⟨-,c3⟩,⟨-,c4⟩,⟨-,c5⟩,-⟩:=HZ.o;rcases Tc pre d.nm with⟨e1,e2⟩|⟨j,d',r,e0,e1,-,e2⟩
   case inr=>
    as_aux_lemma=>
     rw[e1];have HF:=ah (HE.o.trans (if_pos (by rw[e2,bne_iff_ne];have:=tJ d';omega)));clear e1 e2;go_wp2_with fail;go_quiet (fail);go_wp2_with fail
     go_ret2
     exact⟨jD (congrArg Prod.fst HF.o) (congrArg Prod.snd HF.o),below_drewN HB3.o _⟩
   rw[e1];have h0:(mD pre d.nm.toList != 0)=false:=by rw[e2];rfl
   have HE2:=ah (HE.o.trans (if_neg (by rw[h0];decide)));clear HE e1 e2;go_upto_region 8 with fail;cases h1:decide (4<d.size)
   case true=>
    as_aux_lemma=>
     have HF:=ah (HE2.o.trans (if_pos h1));have h1':4<d.size:=ahl;go_wp2_with fail;go_quiet (fail);go_wp2_with fail
     go_ret2
     exact⟨jD (congrArg Prod.fst HF.o) (congrArg Prod.snd HF.o),below_drewN HB3.o _⟩
   have pO:=ah (HE2.o.trans (if_neg ahu));have h1':d.size<=4:=ahl
   clear HE2 h1;go_upto_region 10 with fail;go_upto_block 2 with(fail);go_cut [4,5,6,7,36] (λs4 s5 s6 s7 _ W3=>w3=W3∧s4= .int .i64 (dc d c)∧s5= .int .i64 (dl d l)∧s6= .int .i64 (dn d n)∧s7= .int .i64 (df d f))
   case first=>
    as_aux_lemma=>
     have hkd:d.kind=1∨d.kind=2∨d.kind=3∨d.kind=4∨d.kind=5∨d.kind=6:=ahe;have hmx:0<=max d.size 1∧max d.size 1<=4:=ahe;rcases hkd with hkd|hkd|hkd|hkd|hkd|hkd
     ·have HA:aj (dc d c=c+max d.size 1∧dl d l=l∧dn d n=n∧df d f=f):=ah aaY;have hk3:(d.kind==1)=true:=ahj;have hk4:(d.kind==2)=false:=ahj;have hk5:(d.kind==3)=false:=ahj;have Eo:(d.kind==4)=false:=ahj;have TG:(d.kind==5)=false:=ahj;clear hkd;go_wp2_with fail;go_meet;exact⟨rfl,ahx,ahv,ahs,ahr⟩
     ·have HA:aj (dc d c=c+max d.size 1∧dl d l=l∧dn d n=n∧df d f=f):=ah aaY;have hk3:(d.kind==1)=false:=ahj;have hk4:(d.kind==2)=true:=ahj;have hk5:(d.kind==3)=false:=ahj;have Eo:(d.kind==4)=false:=ahj;have TG:(d.kind==5)=false:=ahj;clear hkd;go_wp2_with fail;go_meet;exact⟨rfl,ahx,ahv,ahs,ahr⟩
     ·have HA:aj (dc d c=c∧dl d l=l+1∧dn d n=n∧df d f=f):=ah aaY;have hk3:(d.kind==1)=false:=ahj;have hk4:(d.kind==2)=false:=ahj;have hk5:(d.kind==3)=true:=ahj;have Eo:(d.kind==4)=false:=ahj;have TG:(d.kind==5)=false:=ahj;clear hkd;go_wp2_with fail;go_meet;exact⟨rfl,ahx,ahv,ahs,ahr⟩
     ·have HA:aj (dc d c=c∧dl d l=l+1∧dn d n=n∧df d f=f):=ah aaY;have hk3:(d.kind==1)=false:=ahj;have hk4:(d.kind==2)=false:=ahj;have hk5:(d.kind==3)=false:=ahj;have Eo:(d.kind==4)=true:=ahj;have TG:(d.kind==5)=false:=ahj;clear hkd;go_wp2_with fail;go_meet;exact⟨rfl,ahx,ahv,ahs,ahr⟩
     ·have HA:aj (dc d c=c∧dl d l=l∧dn d n=n+1∧df d f=f):=ah aaY;have hk3:(d.kind==1)=false:=ahj;have hk4:(d.kind==2)=false:=ahj;have hk5:(d.kind==3)=false:=ahj;have Eo:(d.kind==4)=false:=ahj;have TG:(d.kind==5)=true:=ahj;clear hkd;go_wp2_with fail;go_meet;exact⟨rfl,ahx,ahv,ahs,ahr⟩
     ·have HA:aj (dc d c=c∧dl d l=l∧dn d n=n∧df d f=f+1):=ah aaY;have hk3:(d.kind==1)=false:=ahj;have hk4:(d.kind==2)=false:=ahj;have hk5:(d.kind==3)=false:=ahj;have Eo:(d.kind==4)=false:=ahj;have TG:(d.kind==5)=false:=ahj;clear hkd;go_wp2_with fail;go_meet;exact⟨rfl,ahx,ahv,ahs,ahr⟩
   obtain⟨rfl,rfl,rfl,rfl,rfl⟩:=hcut;have hc':0<=dc d c∧dc d c<=16:=by unfold dc;split <;> omega
   have hl'':0<=dl d l∧dl d l<=5:=by unfold dl;split <;> omega
   have hn':0<=dn d n∧dn d n<=3:=by unfold dn;split <;> omega
   have hf':0<=df d f∧df d f<=3:=by unfold df;split <;> omega
   generalize hcc:dc d c=c' at *;generalize hll:dl d l=l' at *;generalize hnn:dn d n=n' at *;generalize TF:df d f=f' at *;clear hcc hll hnn TF;go_upto_region 20 with fail;go_cut [69] (λs' W3=>w3=W3∧s'= .bool (lim c' l' n' f'))
   case first=>
    as_aux_lemma=>
     have HF:aj (lim c' l' n' f'=(((decide (12<c')||decide (4<l'))||decide (2<n'))||decide (2<f'))):=ah rfl;go_wp2_with fail
     all_goals go_meet
     all_goals exact⟨rfl,abU⟩
   obtain⟨rfl,rfl⟩:=hcut;cases h2:lim c' l' n' f'
   case true=>
    as_aux_lemma=>
     have HF:=ah (pO.o.trans (if_pos h2));go_wp2_with fail;go_quiet (fail);go_wp2_with fail
     go_ret2
     exact⟨jD (congrArg Prod.fst HF.o) (congrArg Prod.snd HF.o),below_drewN HB3.o _⟩
   have Al:=ah (pO.o.trans (if_neg ahL));have hlim:c'<=12∧l'<=4∧n'<=2∧f'<=2:=aeR
   clear pO h2;go_upto_region 22 with fail;cases h5:(d.kind==5)
   ·have HF:=ah (Al.o.trans ((if_neg ahT).trans (if_neg ahT)));clear Al;go_wp2_with fail;go_roundg R.length
    case measure=>simp
    case rel=>exact⟨k+1,pre++[d],R,c',l',n',f',rfl,ahi,acT,afK,rfl,rfl,rfl,rfl,ahe,HF.o,HB3.o⟩
   ·go_wp2_with fail;have xM:aj (∀(nm:ByteArray) (nq:Nat),Calls Tryz.prog 71 #[.slice (some ⟨b,off,none⟩) k cap,.string nm] (w3.drewN nq) λe w'=>e= .returned (.int .i64 (zq pre nm))∧w3.drewN nq=w'):=ah (λnm nq=>by have hb':=below_drewN (n:=nq) HB3.o;have:=oQ pre nm (w3.drewN nq) (some ⟨b,off,none⟩) cap hpl ((wX.o.below hb').mono hb'.size);rw[HK.o]at this;exact this);go_quiet ((go_at_call 71;exact nu (xM.o _ _)));have HZ2:=ah (HZ.o.draws nq);have eF:=ah (below_drewN (n:=nq) HB3.o);clear HZ xM c0 c1 c2 c3 c4 c5 HB3;generalize w3.drewN nq=w5 at *;have HB3:=eF;clear eF;obtain⟨-,⟨-,c0⟩,⟨-,c1⟩,⟨-,c2⟩,⟨-,c3⟩,⟨-,c4⟩,⟨-,c5⟩,-⟩:=HZ2.o;rcases Tc pre d.on with⟨e1,e2⟩|⟨j,d',r,e0,e1,e3,e2⟩
    ·have HF:=ah (Al.o.trans (if_pos (by rw[h5,e2];rfl)));rw[e1];clear e1 e2;go_wp2_with fail;go_quiet (fail);go_wp2_with fail
     go_ret2
     exact⟨jD (congrArg Prod.fst HF.o) (congrArg Prod.snd HF.o),below_drewN HB3.o _⟩
    ·have MW:=ah (Al.o.trans (if_neg (by rw[h5,e2];have:=tJ d';simp;omega)));rw[e2,RL]at MW;have hrow:=(wX.o.below HB3.o).drop j;rw[e3,aV]at hrow;obtain⟨⟨b2,off2,hbe,bD7,z0,-⟩,-⟩:=hrow;obtain⟨rfl,rfl⟩:b=b2∧off=off2:=abt;have hjl:j<ds.length:=(by have:=HK.o;omega);rw[e1];clear e1 e2 e3 hbe Al;cases h8:(d'.kind != 3)
     case true=>
      as_aux_lemma=>
       have HF:=ah (MW.o.trans (if_pos (by rw[h5,h8];rfl)));go_wp2_with fail;go_quiet (fail);go_wp2_with fail
       go_ret2
       exact⟨jD (congrArg Prod.fst HF.o) (congrArg Prod.snd HF.o),below_drewN HB3.o _⟩
     have HF:=ah (MW.o.trans (if_neg (by rw[h5,h8];decide)));clear MW;go_wp2_with fail;go_roundg R.length
     case measure=>simp
     case rel=>exact⟨k+1,pre++[d],R,c',l',n',f',rfl,ahi,acT,afK,rfl,rfl,rfl,rfl,ahe,HF.o,HB3.o⟩
theorem QJ (s:ByteArray):kP s true=Tk.iZ s.data.toList:=rfl
theorem QI (s:ByteArray):kP s false=decide (s.toList=[]):=by unfold kP;rw[Lib.toList_data,Bool.eq_iff_iff];simp
theorem IL (d:De) (w:World) (hok:d.Ok):
 Calls Tryz.prog 68 #[.agg #[.int .i64 d.kind,.int .i64 d.line,.string d.nm,.int .i64 d.size,.int .i64 d.init,.string d.on]] w λe w'=>e= .returned (.bool (iV d))∧Below w.heap.size w w':=by
 obtain⟨⟨k1,k2⟩,-,hm,-,⟨i1,i2⟩,ho⟩:=hok;obtain⟨kind,line,nm,size,init,on⟩:=d;have HE:aj (iV ⟨kind,line,nm,size,init,on⟩=((((decide (1<=kind)&&decide (kind<=6))&&Tk.iZ nm.data.toList)&&(decide (0<=size)&&(decide (size=0)||decide (kind=1))))&&((!decide (init= -9223372036854775808)&&(decide (init=0)||(decide (kind=1)||decide (kind=2))))&&kP on (kind==5)))):=ah abW;dsimp only at *;generalize iV ⟨kind,line,nm,size,init,on⟩=res at *;go_enter Tryz.func68,Tryz.ntmps68;go_upto_region 1 with fail;generalize hW:World.alloc w _=W;generalize Value.agg #[_,_,_,_,_,_]=a0;have HX:=ah ((Sit.start w).PO rfl (.int .i64 kind) (.int .i64 line) (.string nm) (.int .i64 size) (.int .i64 init) (.string on) 55);rw[hW]at HX;clear hW;obtain⟨-,⟨-,c0⟩,⟨-,c1⟩,⟨-,c2⟩,⟨-,c3⟩,⟨-,c4⟩,⟨-,c5⟩,-⟩:=HX.o;go_cut [31] (λs W2=> ∃b,s= .bool b∧(!b)=(((decide (1<=kind)&&decide (kind<=6))&&Tk.iZ nm.data.toList)&&(decide (0<=size)&&(decide (size=0)||decide (kind=1))))∧Sit w W2 [(w.heap.size,0,.int .i64 kind),(w.heap.size,1,.int .i64 line),(w.heap.size,2,.string nm),(w.heap.size,3,.int .i64 size),(w.heap.size,4,.int .i64 init),(w.heap.size,5,.string on)])
 case first=>
  cases hr:decide (1<=kind∧kind<=6)
  ·have hr':kind<1∨(1<=kind∧6<kind):=by simp at hr;omega
   clear hr;rcases hr' with hr|⟨hr,hr'⟩
   all_goals go_wp2_with fail
   all_goals go_meet
   all_goals exact⟨_,rfl,ahB,HX.o⟩
  ·have hr':1<=kind∧kind<=6:=by simpa using hr
   obtain⟨g1,g2⟩:=hr';clear hr;go_wp2_with fail;refine(nG _ _ hm).mono ?_;rintro e w3 ⟨rfl,hb3⟩;have HZ:=ah (HX.o.next hb3);clear hb3 HX c0 c1 c2 c3 c4 c5;obtain⟨-,⟨-,c0⟩,⟨-,c1⟩,⟨-,c2⟩,⟨-,c3⟩,⟨-,c4⟩,⟨-,c5⟩,-⟩:=HZ.o;cases hq:Tk.iZ nm.data.toList
   all_goals go_wp2_with fail
   all_goals go_meet
   all_goals exact⟨_,rfl,by rw[hq];go_light;grind,HZ.o⟩
 obtain⟨b1,rfl,hb1,hX⟩:=hcut;have HY:=ah hX;have HB1:=ah hb1;clear hX HX hb1 c0 c1 c2 c3 c4 c5;rw[<- HB1.o]at HE;clear HB1;cases b1
 case true=>go_wp2_with fail;go_ret;exact⟨bZ (HE.o.trans ahg).symm,HY.o.1⟩
 obtain⟨-,⟨-,c0⟩,⟨-,c1⟩,⟨-,c2⟩,⟨-,c3⟩,⟨-,c4⟩,⟨-,c5⟩,-⟩:=HY.o;go_upto_region 3 with fail;go_cut [50] (λs W2=> ∃b,s= .bool b∧(!b)=kP on (kind==5)∧Sit w W2 [(w.heap.size,0,.int .i64 kind),(w.heap.size,1,.int .i64 line),(w.heap.size,2,.string nm),(w.heap.size,3,.int .i64 size),(w.heap.size,4,.int .i64 init),(w.heap.size,5,.string on)])
 case first=>
  cases h5:(kind==5)
  ·have h5':(kind != 5)=true:=by unfold bne;rw[h5];rfl
   have HN:=ah (QI on);go_wp2_with fail
   all_goals go_meet
   all_goals exact⟨_,rfl,by rw[h5,HN.o];first|(simp;done)|(go_light;grind),HY.o⟩
  ·have h5':(kind != 5)=false:=by unfold bne;rw[h5];rfl
   have HN:=ah (QJ on);go_wp2_with fail;refine(nG _ _ ho).mono ?_;rintro e w3 ⟨rfl,hb3⟩;have HZ:=ah (HY.o.next hb3);clear hb3 HY c0 c1 c2 c3 c4 c5;obtain⟨-,⟨-,c0⟩,⟨-,c1⟩,⟨-,c2⟩,⟨-,c3⟩,⟨-,c4⟩,⟨-,c5⟩,-⟩:=HZ.o;cases hq:Tk.iZ on.data.toList
   all_goals go_wp2_with fail
   all_goals go_meet
   all_goals exact⟨_,rfl,by rw[h5,HN.o,hq];rfl,HZ.o⟩
 obtain⟨b2,rfl,hb2,hX⟩:=hcut;have HZ:=ah hX;have HB2:=ah hb2;clear hX HY hb2 c0 c1 c2 c3 c4 c5;rw[<- HB2.o]at HE;clear HB2;cases b2
 case true=>go_wp2_with fail;go_ret;exact⟨bZ (HE.o.trans ahg).symm,HZ.o.1⟩
 obtain⟨-,⟨-,c0⟩,⟨-,c1⟩,⟨-,c2⟩,⟨-,c3⟩,⟨-,c4⟩,⟨-,c5⟩,-⟩:=HZ.o;go_wp2_with fail
 all_goals go_ret
 all_goals refine⟨bZ (HE.o.trans ?_).symm,HZ.o.1⟩
 all_goals (go_light;grind)
theorem WQ (op n:Int) (nm:ByteArray) (len cap:Nat) (ao:Option Addr) (w:World):
 Calls Tryz.prog 139 #[.agg #[.int .i64 op,.int .i64 n,.string nm,.slice ao len cap]] w λe w'=>e= .returned (.bool (qN op n nm len))∧Below w.heap.size w w':=by
 have HE:aj (qN op n nm len=(((decide (op=0)&&decide (n=0))&&decide (nm.toList=[]))&&decide (len=0))):=ah aej;generalize qN op n nm len=res at *;go_enter Tryz.func139,Tryz.ntmps139;go_wp2
 all_goals go_ret
 all_goals refine⟨bZ ?_,aA _ _⟩
 all_goals rw[HE.o]
 all_goals (go_light;grind)
def BO (h:dM) (b e:aY):Prop:=
 ∀(w:World) (s:Sl),Dm w h b e s->
  Calls Tryz.prog 100 #[jH h b e s] w λe' w'=>e'= .returned (.bool (Cn h b e))∧Below w.heap.size w w'
theorem zo (l:aY) (hall:l.All BO) (w:World) (ao:Option Addr) (cap:Nat) (hl:l.len<=maxLen) (hat:l.At w w.heap.size ao 0):
 Calls Tryz.prog 70 #[.slice ao l.len cap] w λe' w'=>e'= .returned (.bool (fT l))∧Below w.heap.size w w':=by
 unfold maxLen at hl;go_enter Tryz.func70,Tryz.ntmps70;go_wp2_with fail;go_loopw [3] (λs wr=> ∃(k:Nat) (R:aY),s= .int .i64 k∧k+R.len=l.len∧fT l=fT R∧R.All BO∧R.At wr wr.heap.size ao k∧Below w.heap.size w wr) (λs _=>l.len -(intOf s).toNat)
 case atStart=>exact⟨0,l,rfl,ahg,rfl,hall,hat,ak _ _⟩
 case round=>
  obtain⟨k,R,rfl,hlen,heq,pI,hrow,hB⟩:=hrel;have HE:=ah heq;clear heq;cases R with
  |nil=>
   obtain rfl:k=l.len:=afs
   go_wp2_with fail;go_ret;exact⟨bZ HE.o.symm,hB⟩
  |cons h b e R=>
   obtain⟨bl,off,s,rfl,hbl,hin,x0,x1,x2,x3,x4,x5,x6,x7,x8,x9,x10,hrest⟩:=aY.At.head hrow;obtain⟨iI,Cb⟩:=pI;have hkl:k<l.len:=acO
   clear hrow;go_wp2_with fail;refine(iI _ s hin).mono ?_;rintro e' w2 ⟨rfl,hb2⟩;have HB3:=ah hb2;clear hb2 x0 x1 x2 x3 x4 x5 x6 x7 x8 x9 x10 hin;cases hS:Cn h b e
   ·have HF:=ah (HE.o.trans (by rw[Bf,hS];rfl:fT (.cons h b e R)=false));go_wp2_with fail;go_ret;exact⟨bZ HF.o.symm,hB.trans (HB3.o.mono hB.size)⟩
   ·have HF:=ah (HE.o.trans (by rw[Bf,hS];rfl:fT (.cons h b e R)=fT R));go_wp2_with fail;go_roundw
    case rel=>exact⟨k+1,R,ahi,acO,HF.o,Cb,hrest.same HB3.o,hB.trans (HB3.o.mono hB.size)⟩
    case measure=>simp[intOf];omega
theorem aR6 {op:Int} (h1:1<=op) (h2:op<=15):fN op= !((op==2||op==3)||(op==7||op==8)):=by
 rw[Bool.eq_iff_iff];unfold fN;simp;omega
theorem Gd (h:dM) (b e:aY) (ihb:b.All BO) (XK:e.All BO):BO h b e:=by
 intro w s hin;obtain⟨fM,eU,fD,dS,dL,cK,gJ,fH⟩:=s;have HS:aj (Cn h b e=((((fO h.op&&(kP h.nm (fN h.op)&&kP h.arg (fA h.op)))&&((decide ((h.idx.len:Int)<=1)&&(!decide ((h.idx.len:Int)=1)||fI h.op))&&mJ h.idx))&&
  ((if fX h.op then jJ h.dQ h.xn h.dP h.bG else qN h.dQ h.xn h.dP h.bG.len)&&((fB h.op||decide ((b.len:Int)<=0))&&(fE h.op||decide ((e.len:Int)<=0)))))&&(fT b&&fT e))):=ah (by
  unfold Cn ou;rw[TK,TJ,Iu,Iu])
 generalize Cn h b e=res at *;have fF:=ah hin;have OQ:=ah ihb;have HIE:=ah XK;obtain⟨⟨⟨o1,o2⟩,-,hm,ha,hil,hxk,hbl,hel⟩,-⟩:=hin;clear ihb XK;have bp7:=hil;have ab4:=hbl;have ab6:=hel;have hxl:=hxk.2.2.2;unfold maxLen at hil hbl hel hxl;unfold jH;dsimp only;go_enter Tryz.func100,Tryz.ntmps100;go_upto_region 1 with fail;generalize hW:World.alloc w _=W;generalize Value.agg #[_,_,_,_,_,_,_,_,_,_,_]=a0;have HX:aj (Sit w W (qY w.heap.size h b e ⟨fM,eU,fD,dS,dL,cK,gJ,fH⟩ [])):=ah abx;clear hW;obtain⟨-,⟨-,c0⟩,⟨-,c1⟩,⟨-,c2⟩,⟨-,c3⟩,⟨-,c4⟩,⟨-,c5⟩,⟨-,c6⟩,⟨-,c7⟩,⟨-,c8⟩,⟨-,c9⟩,⟨-,c10⟩,-⟩:=HX.o;go_cut [13] (λs' W3=>W=W3∧∃t,s'= .bool t∧(!t)=(decide (1<=h.op)&&decide (h.op<=15)))
 case first=>
  as_aux_lemma=>
   go_wp2_with fail
   all_goals go_meet
   all_goals exact⟨rfl,_,rfl,ahB⟩
 obtain⟨rfl,t1,rfl,ht1⟩:=hcut;cases t1
 case true=>
  as_aux_lemma=>have HT:aj (fO h.op=false):=ah ht1.symm;rw[HT.o]at HS;go_wp2_with fail;go_ret;exact⟨bZ (HS.o.trans ahg).symm,HX.o.1⟩
 have hr:1<=h.op∧h.op<=15:=by simpa using ht1.symm
 obtain⟨g1,g2⟩:=hr;rw[show fO h.op=true from ht1.symm,aR6 g1 g2]at HS;clear ht1;go_upto_region 3 with fail;go_cut [3] (λs' W3=>W=W3∧s'= .bool ((h.op==2||h.op==3)||(h.op==7||h.op==8)))
 case first=>
  as_aux_lemma=>
   go_wp2_with fail
   all_goals go_meet
   all_goals exact⟨rfl,by congr 1;go_light;grind⟩
 obtain⟨rfl,rfl⟩:=hcut;generalize ((h.op==2||h.op==3)||(h.op==7||h.op==8))=bn at *;go_upto_region 4 with fail;go_cut [3,47] (λ_ s' W2=> ∃t,s'= .bool t∧(!t)=kP h.nm (!bn)∧Sit w W2 (qY w.heap.size h b e ⟨fM,eU,fD,dS,dL,cK,gJ,fH⟩ []))
 case first=>
  as_aux_lemma=>
   cases bn
   ·have HN:=ah (QJ h.nm);go_wp2_with fail;refine(nG _ _ hm).mono ?_;rintro e' w3 ⟨rfl,hb3⟩;have HZ:=ah (HX.o.next hb3);clear hb3 HX c0 c1 c2 c3 c4 c5 c6 c7 c8 c9 c10;obtain⟨-,⟨-,c0⟩,⟨-,c1⟩,⟨-,c2⟩,⟨-,c3⟩,⟨-,c4⟩,⟨-,c5⟩,⟨-,c6⟩,⟨-,c7⟩,⟨-,c8⟩,⟨-,c9⟩,⟨-,c10⟩,-⟩:=HZ.o;cases hq:Tk.iZ h.nm.data.toList
    all_goals go_wp2_with fail
    all_goals go_meet
    all_goals exact⟨_,rfl,(HN.o.trans hq).symm,HZ.o⟩
   ·have HN:=ah (QI h.nm);go_wp2_with fail
    all_goals go_meet
    all_goals exact⟨_,rfl,(show _=kP h.nm false by rw[HN.o];first|(simp;done)|(go_light;grind)),HX.o⟩
 obtain⟨t2,rfl,ht2,hX⟩:=hcut;have HY:=ah hX;have HT2:=ah ht2;clear hX ht2 HX c0 c1 c2 c3 c4 c5 c6 c7 c8 c9 c10;rw[<- HT2.o]at HS;clear HT2;cases t2
 case true=>
  as_aux_lemma=>go_wp2_with fail;go_ret;exact⟨bZ (HS.o.trans ahg).symm,HY.o.1⟩
 obtain⟨-,⟨-,c0⟩,⟨-,c1⟩,⟨-,c2⟩,⟨-,c3⟩,⟨-,c4⟩,⟨-,c5⟩,⟨-,c6⟩,⟨-,c7⟩,⟨-,c8⟩,⟨-,c9⟩,⟨-,c10⟩,-⟩:=HY.o;go_upto_region 6 with fail;go_cut [66] (λs' W2=> ∃t,s'= .bool t∧(!t)=kP h.arg (fA h.op)∧Sit w W2 (qY w.heap.size h b e ⟨fM,eU,fD,dS,dL,cK,gJ,fH⟩ []))
 case first=>
  as_aux_lemma=>
   cases uL:(h.op==15)
   ·have bp0:(h.op != 15)=true:=(by unfold bne;rw[uL];rfl);have HN:aj (kP h.arg (fA h.op)=decide (h.arg.toList=[])):=ah (by unfold fA;rw[uL];exact QI h.arg);go_wp2_with fail
    all_goals go_meet
    all_goals exact⟨_,rfl,(by rw[HN.o];first|(simp;done)|(go_light;grind)),HY.o⟩
   ·have bp0:(h.op != 15)=false:=(by unfold bne;rw[uL];rfl);have HN:aj (kP h.arg (fA h.op)=Tk.iZ h.arg.data.toList):=ah (by unfold fA;rw[uL];exact QJ h.arg);go_wp2_with fail;refine(nG _ _ ha).mono ?_;rintro e' w3 ⟨rfl,hb3⟩;have HZ:=ah (HY.o.next hb3);clear hb3 HY c0 c1 c2 c3 c4 c5 c6 c7 c8 c9 c10;obtain⟨-,⟨-,c0⟩,⟨-,c1⟩,⟨-,c2⟩,⟨-,c3⟩,⟨-,c4⟩,⟨-,c5⟩,⟨-,c6⟩,⟨-,c7⟩,⟨-,c8⟩,⟨-,c9⟩,⟨-,c10⟩,-⟩:=HZ.o;cases hq:Tk.iZ h.arg.data.toList
    all_goals go_wp2_with fail
    all_goals go_meet
    all_goals exact⟨_,rfl,(HN.o.trans hq).symm,HZ.o⟩
 obtain⟨t3,rfl,ht3,hX⟩:=hcut;have HZ:=ah hX;have HT3:=ah ht3;clear hX ht3 HY c0 c1 c2 c3 c4 c5 c6 c7 c8 c9 c10;rw[<- HT3.o]at HS;clear HT3;cases t3
 case true=>
  as_aux_lemma=>go_wp2_with fail;go_ret;exact⟨bZ (HS.o.trans ahg).symm,HZ.o.1⟩
 obtain⟨-,⟨-,c0⟩,⟨-,c1⟩,⟨-,c2⟩,⟨-,c3⟩,⟨-,c4⟩,⟨-,c5⟩,⟨-,c6⟩,⟨-,c7⟩,⟨-,c8⟩,⟨-,c9⟩,⟨-,c10⟩,-⟩:=HZ.o;go_upto_region 8 with fail;go_cut [95] (λs' W2=> ∃t,s'= .bool t∧(!t)=((decide ((h.idx.len:Int)<=1)&&(!decide ((h.idx.len:Int)=1)||fI h.op))&&mJ h.idx)∧Sit w W2 (qY w.heap.size h b e ⟨fM,eU,fD,dS,dL,cK,gJ,fH⟩ []))
 case first=>
  as_aux_lemma=>
   have hrow:=(fF.o.same HZ.o.1).2.1;generalize hix:h.idx=ix at hrow c4 hil;have IW:=ah hix;clear hix;cases ix with
   |nil=>
    simp only[bY.len]at c4;clear hrow;cases hI:(h.op==1)
    ·have hI':(h.op != 1)=true:=agk;go_wp2_with fail;go_meet;exact⟨_,rfl,by rw[IW.o];rfl,HZ.o⟩
    ·have hI':(h.op != 1)=false:=agk;go_wp2_with fail;go_meet;exact⟨_,rfl,by rw[IW.o];rfl,HZ.o⟩
   |cons op' n' nm' gM rest=>
    obtain⟨⟨b',off',kR,cap',rfl,jq,x0,x1,x2,x3,hok',lg⟩,hrest⟩:=hrow;cases rest with
    |nil=>
     simp only[bY.len,aV]at c4;simp only[Nat.zero_mul,Nat.add_zero]at x0 x1 x2 x3;cases hI:(h.op==1)
     ·have hI':(h.op != 1)=true:=agk;have HL:aj (fI h.op=false):=ah hI;go_wp2_with fail;go_meet;exact⟨_,rfl,by rw[IW.o,HL.o];rfl,HZ.o⟩
     ·have hI':(h.op != 1)=false:=agk;have HL:aj (fI h.op=true):=ah hI;go_wp2_with fail;refine(vK op' n' nm' gM _ _ _ hok' lg).mono ?_;rintro e' w3 ⟨rfl,hb3⟩;have HV:=ah (HZ.o.next hb3);clear hb3;cases hq:jJ op' n' nm' gM
      all_goals go_wp2_with fail
      all_goals go_meet
      all_goals exact⟨_,rfl,by rw[IW.o,HL.o,nM,hq];rfl,HV.o⟩
    |cons op2 n2 Ya Lr LJ=>have hl2:2<=(bY.cons op' n' nm' gM (bY.cons op2 n2 Ya Lr LJ)).len:=(by simp only[bY.len];omega);have HL:aj (((decide (((bY.cons op' n' nm' gM (bY.cons op2 n2 Ya Lr LJ)).len:Int)<=1)&&(!decide (((bY.cons op' n' nm' gM (bY.cons op2 n2 Ya Lr LJ)).len:Int)=1)||fI h.op))&&mJ (bY.cons op' n' nm' gM (bY.cons op2 n2 Ya Lr LJ)))=false):=ah (by rw[decide_eq_false ahe];rfl);clear x0 x1 x2 x3 hrest lg hok';generalize (bY.cons op' n' nm' gM (bY.cons op2 n2 Ya Lr LJ))=ix at *;have hl3:1<ix.len:=ahe;go_wp2_with fail;go_meet;exact⟨_,rfl,by rw[IW.o,HL.o];rfl,HZ.o⟩
 obtain⟨t4,rfl,XA,hX⟩:=hcut;have HU:=ah hX;have J3:=ah XA;clear hX XA HZ c0 c1 c2 c3 c4 c5 c6 c7 c8 c9 c10;rw[<- J3.o]at HS;clear J3;cases t4
 case true=>
  as_aux_lemma=>go_wp2_with fail;go_ret;exact⟨bZ (HS.o.trans ahg).symm,HU.o.1⟩
 obtain⟨-,⟨-,c0⟩,⟨-,c1⟩,⟨-,c2⟩,⟨-,c3⟩,⟨-,c4⟩,⟨-,c5⟩,⟨-,c6⟩,⟨-,c7⟩,⟨-,c8⟩,⟨-,c9⟩,⟨-,c10⟩,-⟩:=HU.o;go_upto_region 10 with fail;go_cut [4] (λs' W3=>wc=W3∧s'= .bool (fX h.op))
 case first=>
  as_aux_lemma=>
   have HF:aj (fX h.op=((h.op==1||h.op==2)||(h.op==3||h.op==14))):=ah rfl;go_wp2_with fail
   all_goals go_meet
   all_goals exact⟨rfl,aff⟩
 obtain⟨rfl,rfl⟩:=hcut;generalize fX h.op=bX at *;go_upto_region 11 with fail;go_cut [4,130] (λ_ s' W3=> ∃t,s'= .bool t∧(!t)=(if bX then jJ h.dQ h.xn h.dP h.bG else qN h.dQ h.xn h.dP h.bG.len)∧Sit w W3 (qY w.heap.size h b e ⟨fM,eU,fD,dS,dL,cK,gJ,fH⟩ []))
 case first=>
  as_aux_lemma=>
   cases bX
   ·go_wp2_with fail;refine(WQ _ _ _ _ _ _ _).mono ?_;rintro e' w3 ⟨rfl,hb3⟩;have HV:=ah (HU.o.next hb3);clear hb3;cases hq:qN h.dQ h.xn h.dP h.bG.len
    all_goals go_wp2_with fail
    all_goals go_meet
    all_goals exact⟨_,rfl,hq.symm,HV.o⟩
   ·go_wp2_with fail;refine(vK _ _ _ _ _ _ _ hxk (fF.o.same HU.o.1).2.2.1).mono ?_;rintro e' w3 ⟨rfl,hb3⟩;have HV:=ah (HU.o.next hb3);clear hb3 HU c0 c1 c2 c3 c4 c5 c6 c7 c8 c9 c10;obtain⟨-,⟨-,c0⟩,⟨-,c1⟩,⟨-,c2⟩,⟨-,c3⟩,⟨-,c4⟩,⟨-,c5⟩,⟨-,c6⟩,⟨-,c7⟩,⟨-,c8⟩,⟨-,c9⟩,⟨-,c10⟩,-⟩:=HV.o;cases hq:jJ h.dQ h.xn h.dP h.bG
    all_goals go_wp2_with fail
    all_goals go_meet
    all_goals exact⟨_,rfl,hq.symm,HV.o⟩
 obtain⟨t5,rfl,ht5,hX⟩:=hcut;have HV:=ah hX;have HT5:=ah ht5;clear hX ht5 HU c0 c1 c2 c3 c4 c5 c6 c7 c8 c9 c10;rw[<- HT5.o]at HS;clear HT5;cases t5
 case true=>
  as_aux_lemma=>go_wp2_with fail;go_ret;exact⟨bZ (HS.o.trans ahg).symm,HV.o.1⟩
 obtain⟨-,⟨-,c0⟩,⟨-,c1⟩,⟨-,c2⟩,⟨-,c3⟩,⟨-,c4⟩,⟨-,c5⟩,⟨-,c6⟩,⟨-,c7⟩,⟨-,c8⟩,⟨-,c9⟩,⟨-,c10⟩,-⟩:=HV.o;go_upto_region 13 with fail;go_cut [5] (λs' W3=>wc=W3∧s'= .bool (fB h.op))
 case first=>
  as_aux_lemma=>
   have HF:aj (fB h.op=(decide (2<=h.op)&&decide (h.op<=8))):=ah rfl;go_wp2_with fail
   all_goals go_meet
   all_goals exact⟨rfl,aff⟩
 obtain⟨rfl,rfl⟩:=hcut;generalize fB h.op=bB at *;go_upto_region 14 with fail;go_cut [5,157] (λ_ s' W3=>wc=W3∧∃t,s'= .bool t∧(!t)=((bB||decide ((b.len:Int)<=0))&&(fE h.op||decide ((e.len:Int)<=0))))
 case first=>
  as_aux_lemma=>
   have HF:aj (fE h.op=(h.op==2)):=ah rfl;cases bB
   all_goals cases h2:(h.op==2)
   all_goals try have h2':(h.op != 2)=true:=by unfold bne;rw[h2];rfl
   all_goals try have h2':(h.op != 2)=false:=by unfold bne;rw[h2];rfl
   all_goals go_wp2_with fail
   all_goals go_meet
   all_goals exact⟨rfl,_,rfl,by rw[HF.o,h2];go_light;grind⟩
 obtain⟨rfl,t6,rfl,ht6⟩:=hcut;have nZ:=ah ht6;rw[<- nZ.o]at HS;clear nZ ht6;cases t6
 case true=>
  as_aux_lemma=>go_wp2_with fail;go_ret;exact⟨bZ (HS.o.trans ahg).symm,HV.o.1⟩
 go_wp2_with fail;refine(zo b OQ.o _ _ _ ab4 (fF.o.same HV.o.1).2.2.2.1).mono ?_;rintro e' w4 ⟨rfl,hb4⟩;have HA:=ah (HV.o.next hb4);clear hb4 HV c0 c1 c2 c3 c4 c5 c6 c7 c8 c9 c10;obtain⟨-,⟨-,c0⟩,⟨-,c1⟩,⟨-,c2⟩,⟨-,c3⟩,⟨-,c4⟩,⟨-,c5⟩,⟨-,c6⟩,⟨-,c7⟩,⟨-,c8⟩,⟨-,c9⟩,⟨-,c10⟩,-⟩:=HA.o;cases hq:fT b
 ·rw[hq]at HS;go_wp2_with fail;go_ret;exact⟨bZ (HS.o.trans ahg).symm,HA.o.1⟩
 ·rw[hq]at HS;go_wp2_with fail;refine(zo e HIE.o _ _ _ ab6 (fF.o.same HA.o.1).2.2.2.2).mono ?_;rintro e' w5 ⟨rfl,hb5⟩;go_wp2_with fail;go_ret;exact⟨bZ (HS.o.trans ahg).symm,(HA.o.next hb5).1⟩
theorem Gf (l:aY) (w:World) (ao:Option Addr) (cap:Nat) (hl:l.len<=maxLen) (hat:l.At w w.heap.size ao 0):
 Calls Tryz.prog 70 #[.slice ao l.len cap] w λe' w'=>e'= .returned (.bool (fT l))∧Below w.heap.size w w':=
 zo l (aY.mW Gd l) w ao cap hl hat
theorem Og (p:Pr) (w:World) (aK aM:Option Addr) (aG aD:Nat) (hp:p.At w aK aM):
 Calls Tryz.prog 39 #[.agg #[.slice aK p.ds.length aG,.slice aM p.ts.length aD]] w λe w'=>e= .returned (.bool (qz p))∧Below w.heap.size w w':=by
 have HS:aj (qz p=((p.ds.all iV&&p.ts.all oU)&&decide ((0:Int)<p.ts.length))):=ah rfl;generalize qz p=res at *;have hld:=hp.1;have hlt:=hp.2.1;unfold maxLen at hld hlt;have HP:=ah hp;clear hp;go_enter Tryz.func39,Tryz.ntmps39;go_upto_region 1 with fail;generalize hW:World.alloc w _=W;generalize Value.agg #[_,_]=a0;have HX:=ah ((Sit.start w).wL rfl (.slice aK p.ds.length aG) (.slice aM p.ts.length aD) 26);rw[hW]at HX;clear hW;have hde:=(HP.o.same HX.o.1).2.2.1;go_wp2_with fail;go_loopw [3] (λs wr=> ∃(k:Nat) (R:List De),s= .int .i64 k∧k+R.length=p.ds.length∧p.ds.all iV=R.all iV∧iT wr wr.heap.size R aK k∧Sit w wr [(w.heap.size,0,(.slice aK p.ds.length aG)),(w.heap.size,1,(.slice aM p.ts.length aD))]) (λs _=>p.ds.length -(intOf s).toNat)
 case atStart=>exact⟨0,p.ds,rfl,ahg,rfl,hde,HX.o⟩
 case round=>
  obtain⟨k,R,rfl,hlen,heq,hrow,hsit⟩:=hrel;have HZ:=ah hsit;have HE:=ah heq;clear hsit HX hde heq;obtain⟨-,⟨-,c0⟩,⟨-,c1⟩,-⟩:=HZ.o;cases R with
  |cons d R=>
   obtain⟨⟨b,off,rfl,hB,x0,x1,x2,x3,x4,x5,hok⟩,hrest⟩:=hrow;simp only[ay]at hlen;have hkl:k<p.ds.length:=ahe
   have je:=ah hok;clear hok;go_wp2_with fail;refine(IL d _ je.o).mono ?_;rintro e' w2 ⟨rfl,hb2⟩;have HB3:=ah hb2;clear hb2 x0 x1 x2 x3 x4 x5 c0 c1;cases hS:iV d
   ·rw[HE.o,List.all_cons,hS]at HS;go_wp2_with fail;go_ret;exact⟨bZ (HS.o.trans ahg).symm,(HZ.o.next HB3.o).1⟩
   ·have HF:=ah (HE.o.trans (by rw[List.all_cons,hS];rfl:_=R.all iV));go_wp2_with fail;go_roundw
    case rel=>exact⟨k+1,R,ahi,ahe,HF.o,hrest.same HB3.o,HZ.o.next HB3.o⟩
    case measure=>simp[intOf];omega
  |nil=>
   obtain rfl:k=p.ds.length:=afm
   rw[HE.o]at HS;have hth:=(HP.o.same HZ.o.1).2.2.2;clear HE hrow hlen;go_wp2_with fail;go_loopg [4,5,6] p.ts.length (λg s _ _ wr=> ∃(k:Nat) (R:List Th),g=R.length∧s= .int .i64 k∧k+R.length=p.ts.length∧p.ts.all oU=R.all oU∧gY wr wr.heap.size R aM k∧Sit w wr [(w.heap.size,0,(.slice aK p.ds.length aG)),(w.heap.size,1,(.slice aM p.ts.length aD))])
   case atStart=>exact⟨0,p.ts,rfl,rfl,ahg,rfl,hth,HZ.o⟩
   case round=>
    obtain⟨k,R,rfl,rfl,hlen,heq,hrow,hsit⟩:=hrel;have HU:=ah hsit;have HE:=ah heq;clear hsit HZ c0 c1 hth heq;obtain⟨-,⟨-,c0⟩,⟨-,c1⟩,-⟩:=HU.o;cases R with
    |nil=>obtain rfl:k=p.ts.length:=afm;rw[HE.o]at HS;go_wp2_with fail;go_ret;exact⟨bZ (HS.o.trans ahg).symm,HU.o.1⟩
    |cons t R=>
     obtain⟨⟨b,off,gK,dW,dL,cK,rfl,hB,x0,x1,x2,x3,hok,htx,hst⟩,hrest⟩:=hrow;simp only[ay]at hlen;have hkl:k<p.ts.length:=ahe;have hll:=hok.2.2.1;have je:=ah hok;have BF:=ah htx;have HST:=ah hst;unfold maxLen at hll;clear hok htx hst;go_upto_region 10 with fail;clear c0 c1;obtain⟨n2,hn2⟩: ∃n,wr.heap.size=n:=⟨_,rfl⟩;generalize hW2:World.alloc wr _=W2;have HB2:aj (Below wr.heap.size wr W2):=ah afQ;have HV:aj (Sit w W2 ((n2,0,.string t.nm)::(n2,1,.int .i64 t.line)::(n2,2,.slice gK t.cu.length dW)::(n2,3,.slice dL t.body.len cK)::[(w.heap.size,0,(.slice aK p.ds.length aG)),(w.heap.size,1,(.slice (some ⟨b,off,none⟩) p.ts.length aD))])):=ah ads;rw[hn2];clear hW2 hn2 x0 x1 x2 x3;have hrow:=BF.o.same HB2.o;go_wp2_with fail;obtain⟨wo,rfl⟩: ∃wo:World,wo=wr:=⟨_,rfl⟩;go_loopw [6] (λs wr=> ∃(k:Nat) (R:List ByteArray),s= .int .i64 k∧k+R.length=t.cu.length∧t.cu.all (λs=>Tk.iZ s.data.toList)=R.all (λs=>Tk.iZ s.data.toList)∧fU wr wr.heap.size R gK k∧Below wo.heap.size wo wr∧Sit w wr ((n2,0,.string t.nm)::(n2,1,.int .i64 t.line)::(n2,2,.slice gK t.cu.length dW)::(n2,3,.slice dL t.body.len cK)::[(w.heap.size,0,(.slice aK p.ds.length aG)),(w.heap.size,1,(.slice (some ⟨b,off,none⟩) p.ts.length aD))])) (λs _=>t.cu.length -(intOf s).toNat)
     case atStart=>exact⟨0,t.cu,rfl,ahg,rfl,hrow,HB2.o,HV.o⟩
     case round=>
      obtain⟨k',R',rfl,hlen',heq',hrow',Xw,Li⟩:=hrel;have HC:=ah Li;have Ct:=ah Xw;have dJ:=ah heq';clear Li HV hrow heq' Xw HB2;obtain⟨-,⟨-,c0⟩,⟨-,c1⟩,⟨-,c2⟩,⟨-,c3⟩,⟨-,c4⟩,⟨-,c5⟩,-⟩:=HC.o;cases R' with
      |cons s R'=>
       obtain⟨⟨b',off',rfl,hB',y0,hs⟩,hrest'⟩:=hrow';simp only[ay]at hlen';have hkl':k'<t.cu.length:=ahe;go_wp2_with fail;refine(nG _ _ hs).mono ?_;rintro e' w3 ⟨rfl,hb3⟩;have eF:=ah hb3;clear hb3 c0 c1 c2 c3 c4 c5 y0;cases GA:Tk.iZ s.data.toList
       ·rw[HE.o,List.all_cons,show oU t=false by unfold oU;rw[dJ.o,List.all_cons,GA];simp]at HS;go_wp2_with fail;go_ret;exact⟨bZ (HS.o.trans ahg).symm,(HC.o.next eF.o).1⟩
       ·have HF:=ah (dJ.o.trans (by rw[List.all_cons,GA];rfl:_=R'.all (λs=>Tk.iZ s.data.toList)));go_wp2_with fail;go_roundw
        case rel=>exact⟨k'+1,R',ahi,ahe,HF.o,hrest'.same eF.o,Ct.o.trans (eF.o.mono Ct.o.size),HC.o.next eF.o⟩
        case measure=>simp[intOf];omega
      |nil=>
       obtain rfl:k'=t.cu.length:=afR;go_wp2_with fail;refine(nG _ _ je.o.1).mono ?_;rintro e' w3 ⟨rfl,hb3⟩;have eF:=ah (Ct.o.trans (hb3.mono Ct.o.size));have HD:=ah (HC.o.next hb3);clear hb3 c0 c1 c2 c3 c4 c5 HC Ct;cases hN:Tk.iZ t.nm.data.toList
       ·rw[HE.o,List.all_cons,show oU t=false by unfold oU;rw[hN];rfl]at HS;go_wp2_with fail;go_ret;exact⟨bZ (HS.o.trans ahg).symm,HD.o.1⟩
       ·obtain⟨-,⟨-,c0⟩,⟨-,c1⟩,⟨-,c2⟩,⟨-,c3⟩,⟨-,c4⟩,⟨-,c5⟩,-⟩:=HD.o;go_wp2_with fail;refine(Gf t.body _ _ _ je.o.2.2.2 (HST.o.1.same eF.o)).mono ?_;rintro e' w4 ⟨rfl,hb4⟩;have jF:=ah (eF.o.trans (hb4.mono eF.o.size));have Sw:=ah (HD.o.next hb4);clear hb4 c0 c1 c2 c3 c4 c5;have HT:aj (oU t=fT t.body):=ah (by unfold oU;rw[hN,dJ.o];rfl);cases GA:fT t.body
        ·rw[HE.o,List.all_cons,HT.o,GA]at HS;go_wp2_with fail;go_ret;exact⟨bZ (HS.o.trans ahg).symm,Sw.o.1⟩
        ·have HF:=ah (HE.o.trans (by rw[List.all_cons,HT.o,GA];rfl:_=R.all oU));go_wp2_with fail;go_roundg R.length
         case measure=>simp
         case rel=>exact⟨k+1,R,rfl,ahi,ahe,HF.o,hrest.same jF.o,HU.o.next jF.o⟩
end Go.Proofs.YtldapdcphphodaaGreatDoor
