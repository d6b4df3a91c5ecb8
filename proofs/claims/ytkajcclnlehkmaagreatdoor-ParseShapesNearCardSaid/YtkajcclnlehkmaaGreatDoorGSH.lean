/- Contracts of the reference's Operands and ShapedExpr. And what hangs on it. -/
import Derived.Test.YtkajcclnlehkmaaGreatDoorGMC
import Derived.Test.YtkajcclnlehkmaaGreatDoorGNA
import Derived.BigQuiet
import Derived.Deep.DeepCutAuto
set_option linter.unusedSimpArgs false
set_option linter.unusedVariables false
set_option maxHeartbeats 40000000
set_option maxRecDepth 1000000
namespace Go.Proofs.YtkajcclnlehkmaaGreatDoor
open Go.RowKit
open Md
theorem uR (op:Int) (w:World):
 Calls Tryz.prog 54 #[.int .i64 op] w fun e w'=>e= .returned (.int .i64 (opsOf op))∧w=w':=by
 unfold opsOf;go_enter Tryz.func54,Tryz.ntmps54;go_wp2
 all_goals go_ret
 all_goals refine ⟨zP ?_,rfl⟩
 all_goals first | (simp [*]; done) | ((repeat' split) <;> simp_all <;> omega)
def vX (op n:Int) (nm:ByteArray) (kids:aG):Prop:=
 ∀(w:World) (ao:Option Addr) (cap:Nat),lZ op n nm kids->kids.At w w.heap.size ao 0->
  Calls Tryz.prog 41 #[.agg #[.int .i64 op,.int .i64 n,.string nm,.slice ao kids.len cap]] w fun e w'=>e= .returned (.bool (fT op n nm kids))∧Below w.heap.size w w'
theorem Mv (op n:Int) (nm:ByteArray) (kids:aG):fT op n nm kids=(((decide (opsOf op=(kids.len:Int)) && (decide (0<=n) && (decide (op=1) || decide (n=0)))) && (if ((op == 2) || (op == 3)) then Tk.cO nm.data.toList else decide (nm.toList=[]))) && fD kids):=by
 have h1:((kids.len:Int) == opsOf op)=decide (opsOf op=(kids.len:Int)):=by rw [Bool.eq_iff_iff]; simp; exact eq_comm
 have h2:dV nm (named op)=if ((op == 2) || (op == 3)) then Tk.cO nm.data.toList else decide (nm.toList=[]):=by
  unfold dV named; split
  ·rfl
  ·rw [Lib.toList_data,Bool.eq_iff_iff]; simp
 have h3:(!(decide (n < 0) || (!(n == 0) && !(op == 1))))=(decide (0<=n) && (decide (op=1) || decide (n=0))):=by rw [Bool.eq_iff_iff]; simp; omega
 unfold fT rR;rw [h1,h2,h3];simp only [Bool.and_assoc]
theorem JC {nm:ByteArray} (h:nm.toList=[]):Tk.cO nm.data.toList=false:=by rw [<- Lib.toList_data,h]; rfl
theorem uS (op n:Int) (nm:ByteArray) (kids:aG) (ih:kids.All vX):vX op n nm kids:=by
 intro w ao cap hok hat;obtain ⟨⟨o1,o2⟩,⟨n1,n2⟩,hm,hl⟩:=hok;unfold maxLen at hl;have hl':kids.len<=9223372036854775807:=hl;have HS:=ah (Mv op n nm kids);have jk:=ah ih;have HAT:=ah hat;clear ih hat;go_enter Tryz.func41,Tryz.ntmps41;go_upto_region 1 with fail;generalize hW:World.alloc w _=W;generalize Value.agg #[_,_,_,_]=a0;have HX:=ah (lN.mk hW);clear hW;obtain ⟨-,hs,c0,c1,c2,c3⟩:=HX.o;go_cut [3] (fun s W2=>W=W2∧ ∃b,s= .bool b∧((op == 2) || (op == 3))=b)
 case first=>
  go_wp2_with fail
  all_goals go_meet
  all_goals exact ⟨rfl,_,rfl,by grind⟩
 obtain ⟨rfl,bn,rfl,hbn⟩:=hcut;rw [hbn] at HS;clear hbn;go_upto_region 2 with fail;go_cut [3,50] (fun _ s W2=> ∃b,s= .bool b∧fT op n nm kids=(!b && fD kids)∧lN w W2 (.int .i64 op) (.int .i64 n) (.string nm) (.slice ao kids.len cap))
 case first=>
  cases bn
  all_goals
   obtain ⟨T,F,T9,hst,hF,hnext⟩:=calm W;have HF:=ah hF;have kG:=ah hnext;clear hnext;have d0:=fun x=>((HF.o x).cell (p:=⟨w.heap.size,0,none⟩) hs).trans c0;have d1:=fun x=>((HF.o x).cell (p:=⟨w.heap.size,1,none⟩) hs).trans c1;have d2:=fun x=>((HF.o x).cell (p:=⟨w.heap.size,2,none⟩) hs).trans c2;have d3:=fun x=>((HF.o x).cell (p:=⟨w.heap.size,3,none⟩) hs).trans c3;clear hF c0 c1 c2 c3;refine wX F (by kernel_rfl) (by kernel_rfl) hst ?_
   repeat (any_goals (first | go_big_quiet_step (first | (go_at_call 54; refine (uR _ _).mono ?_; rintro e w' ⟨rfl,rfl⟩; exact ⟨rfl,_,rfl⟩) | (go_at_call 17; refine (gU _ _ hm).mono ?_; rintro e w' ⟨rfl,hb⟩; exact ⟨rfl,kG.o _ _ hb⟩)) | (refine wpQuiet_step (fun K hK=> ?_); go_simp; first | (refine hK _ ?_; clear hK K) | (split <;> first | (refine hK _ ?_; clear hK K) | (apply Exists.intro; refine ⟨fun _=> ?_,hK _ ?_⟩; (first | (go_at_call 54; refine (uR _ _).mono ?_; rintro e w' ⟨rfl,rfl⟩; exact ⟨rfl,_,rfl⟩) | (go_at_call 17; refine (gU _ _ hm).mono ?_; rintro e w' ⟨rfl,hb⟩; exact ⟨rfl,kG.o _ _ hb⟩)); clear hK K)))))
   all_goals (refine wpQuiet_nil ?_; rintro _ ⟨x,rfl⟩; go_wp2_with fail; go_meet)
   all_goals exact ⟨_,rfl,HS.o.trans (by go_light; grind [JC]),HX.o.next (HF.o _)⟩
 case rest=>
  obtain ⟨b,rfl,hR,BZ⟩:=hcut;have HZ:=ah BZ;have HR:=ah hR;clear HX BZ hR HS c0 c1 c2 c3 hs;cases b
  ·go_wp2_with fail;go_loopw [4] (fun i wr=> ∃k R,i= .int .i64 (k:Nat)∧Ej kids R k∧R.All vX∧R.At wr wr.heap.size ao k∧lN w wr (Value.int IntKind.i64 op) (Value.int IntKind.i64 n) (Value.string nm) (Value.slice ao kids.len cap)) (fun i _=>kids.len - (intOf i).toNat)
   case atStart=>exact ⟨0,kids,rfl,⟨Nat.zero_add _,rfl⟩,jk.o,HAT.o.same HZ.o.1,HZ.o⟩
   case round=>
    obtain ⟨k,R,rfl,⟨hlen,heq⟩,hall,hrow,oI⟩:=hrel;have HT:=ah (HR.o.trans (show (!false && fD kids)=fD R by rw [heq]; rfl));have iM:=ah oI;clear oI;obtain ⟨-,-,c0,c1,c2,c3⟩:=iM.o;cases R with
    | nil=>obtain rfl:k=kids.len:=(by simpa [aG.len] using hlen);go_wp2_with fail;go_ret;exact ⟨aI HT.o.symm,iM.o.1⟩
    | cons op' n' nm' bM rest=>
      obtain ⟨⟨b,off,dY,cap',rfl,EA,x0,x1,x2,x3,hok',mX⟩,hrest⟩:=hrow;obtain ⟨xK,tC⟩:=hall;have hlt:k < kids.len:=(by simp only [aG.len] at hlen; omega);go_wp2_with fail;refine (xK _ _ _ hok' mX).mono ?_;rintro e w2 ⟨rfl,hb2⟩;have nE:=ah (iM.o.next hb2);have hrest':=hrest.same hb2;clear hb2 iM hrest x0 x1 x2 x3 c0 c1 c2 c3 mX;cases hS:fT op' n' nm' bM
      ·have HF:=ah (HT.o.trans (by rw [lg,hS]; rfl:fD (.cons op' n' nm' bM rest)=false));go_wp2_with fail;go_ret;exact ⟨aI HF.o.symm,nE.o.1⟩
      ·have HF:=ah (heq.trans (by rw [lg,hS]; rfl:fD (.cons op' n' nm' bM rest)=fD rest));go_wp2_with fail;go_roundw
       case rel=>exact ⟨k + 1,rest,by go_num,⟨by simp only [aG.len] at hlen; omega,HF.o⟩,tC,hrest',nE.o⟩
       case measure=>simp [intOf]; omega
  ·go_wp2_with fail;go_ret;exact ⟨aI HR.o.symm,HZ.o.1⟩
theorem oV (op n:Int) (nm:ByteArray) (kids:aG):vX op n nm kids:=aG.D5 uS op n nm kids
theorem CZ (s:ByteArray):dV s true=Tk.cO s.data.toList:=rfl
theorem CY (s:ByteArray):dV s false=decide (s.toList=[]):=by unfold dV; rw [Lib.toList_data,Bool.eq_iff_iff]; simp
theorem wD (d:De) (w:World) (hok:d.Ok):
 Calls Tryz.prog 16 #[.agg #[.int .i64 d.kind,.int .i64 d.line,.string d.nm,.int .i64 d.size,.int .i64 d.init,.string d.on]] w fun e w'=>e= .returned (.bool (gu d))∧Below w.heap.size w w':=by
 obtain ⟨⟨k1,k2⟩,-,hm,-,⟨i1,i2⟩,ho⟩:=hok;obtain ⟨kind,line,nm,size,init,on⟩:=d;have HE:aj (gu ⟨kind,line,nm,size,init,on⟩=((((decide (1<=kind) && decide (kind<=6)) && Tk.cO nm.data.toList) && (decide (0<=size) && (decide (size=0) || decide (kind=1)))) && ((!decide (init= -9223372036854775808) && (decide (init=0) || (decide (kind=1) || decide (kind=2)))) && dV on (kind == 5)))):=ah (by unfold gu; simp only [bne]; rw [Bool.eq_iff_iff]; simp);dsimp only at *;generalize gu ⟨kind,line,nm,size,init,on⟩=res at *;go_enter Tryz.func16,Tryz.ntmps16;go_upto_region 1 with fail;generalize hW:World.alloc w _=W;generalize Value.agg #[_,_,_,_,_,_]=a0;have HX:=ah ((Sit.start w).Ji rfl (.int .i64 kind) (.int .i64 line) (.string nm) (.int .i64 size) (.int .i64 init) (.string on) 42);rw [hW] at HX;clear hW;obtain ⟨-,⟨-,c0⟩,⟨-,c1⟩,⟨-,c2⟩,⟨-,c3⟩,⟨-,c4⟩,⟨-,c5⟩,-⟩:=HX.o;go_cut [31] (fun s W2=> ∃b,s= .bool b∧(!b)=(((decide (1<=kind) && decide (kind<=6)) && Tk.cO nm.data.toList) && (decide (0<=size) && (decide (size=0) || decide (kind=1))))∧Sit w W2 [(w.heap.size,0,.int .i64 kind),(w.heap.size,1,.int .i64 line),(w.heap.size,2,.string nm),(w.heap.size,3,.int .i64 size),(w.heap.size,4,.int .i64 init),(w.heap.size,5,.string on)])
 case first=>
  cases hr:decide (1<=kind∧kind<=6)
  ·have hr':kind < 1∨(1<=kind∧6 < kind):=by simp at hr; omega
   clear hr;rcases hr' with hr | ⟨hr,hr'⟩
   all_goals go_wp2_with fail
   all_goals go_meet
   all_goals exact ⟨_,rfl,by go_light; grind,HX.o⟩
  ·have hr':1<=kind∧kind<=6:=by simpa using hr
   obtain ⟨g1,g2⟩:=hr';clear hr;go_wp2_with fail;refine (gU _ _ hm).mono ?_;rintro e w3 ⟨rfl,hb3⟩;have HZ:=ah (HX.o.next hb3);clear hb3 HX c0 c1 c2 c3 c4 c5;obtain ⟨-,⟨-,c0⟩,⟨-,c1⟩,⟨-,c2⟩,⟨-,c3⟩,⟨-,c4⟩,⟨-,c5⟩,-⟩:=HZ.o;cases hq:Tk.cO nm.data.toList
   all_goals go_wp2_with fail
   all_goals go_meet
   all_goals exact ⟨_,rfl,by rw [hq]; go_light; grind,HZ.o⟩
 obtain ⟨b1,rfl,hb1,hX⟩:=hcut;have HY:=ah hX;have HB1:=ah hb1;clear hX HX hb1 c0 c1 c2 c3 c4 c5;rw [<- HB1.o] at HE;clear HB1;cases b1
 case true=>go_wp2_with fail;go_ret;exact ⟨aI (HE.o.trans (by simp)).symm,HY.o.1⟩
 obtain ⟨-,⟨-,c0⟩,⟨-,c1⟩,⟨-,c2⟩,⟨-,c3⟩,⟨-,c4⟩,⟨-,c5⟩,-⟩:=HY.o;go_upto_region 3 with fail;go_cut [50] (fun s W2=> ∃b,s= .bool b∧(!b)=dV on (kind == 5)∧Sit w W2 [(w.heap.size,0,.int .i64 kind),(w.heap.size,1,.int .i64 line),(w.heap.size,2,.string nm),(w.heap.size,3,.int .i64 size),(w.heap.size,4,.int .i64 init),(w.heap.size,5,.string on)])
 case first=>
  cases h5:(kind == 5)
  ·have h5':(kind != 5)=true:=by unfold bne; rw [h5]; rfl
   have HN:=ah (CY on);go_wp2_with fail
   all_goals go_meet
   all_goals exact ⟨_,rfl,by rw [h5,HN.o]; first | (simp; done) | (go_light; grind),HY.o⟩
  ·have h5':(kind != 5)=false:=by unfold bne; rw [h5]; rfl
   have HN:=ah (CZ on);go_wp2_with fail;refine (gU _ _ ho).mono ?_;rintro e w3 ⟨rfl,hb3⟩;have HZ:=ah (HY.o.next hb3);clear hb3 HY c0 c1 c2 c3 c4 c5;obtain ⟨-,⟨-,c0⟩,⟨-,c1⟩,⟨-,c2⟩,⟨-,c3⟩,⟨-,c4⟩,⟨-,c5⟩,-⟩:=HZ.o;cases hq:Tk.cO on.data.toList
   all_goals go_wp2_with fail
   all_goals go_meet
   all_goals exact ⟨_,rfl,by rw [h5,HN.o,hq]; rfl,HZ.o⟩
 obtain ⟨b2,rfl,hb2,hX⟩:=hcut;have HZ:=ah hX;have HB2:=ah hb2;clear hX HY hb2 c0 c1 c2 c3 c4 c5;rw [<- HB2.o] at HE;clear HB2;cases b2
 case true=>go_wp2_with fail;go_ret;exact ⟨aI (HE.o.trans (by simp)).symm,HZ.o.1⟩
 obtain ⟨-,⟨-,c0⟩,⟨-,c1⟩,⟨-,c2⟩,⟨-,c3⟩,⟨-,c4⟩,⟨-,c5⟩,-⟩:=HZ.o;go_wp2_with fail
 all_goals go_ret
 all_goals refine ⟨aI (HE.o.trans ?_).symm,HZ.o.1⟩
 all_goals (go_light; grind)
theorem GI (op n:Int) (nm:ByteArray) (len cap:Nat) (ao:Option Addr) (w:World):
 Calls Tryz.prog 42 #[.agg #[.int .i64 op,.int .i64 n,.string nm,.slice ao len cap]] w fun e w'=>e= .returned (.bool (jB op n nm len))∧Below w.heap.size w w':=by
 have HE:aj (jB op n nm len=(((decide (op=0) && decide (n=0)) && decide (nm.toList=[])) && decide (len=0))):=ah (by unfold jB; rw [Bool.eq_iff_iff]; simp);generalize jB op n nm len=res at *;go_enter Tryz.func42,Tryz.ntmps42;go_wp2
 all_goals go_ret
 all_goals refine ⟨aI ?_,ak _ _⟩
 all_goals rw [HE.o]
 all_goals (go_light; grind)
def qh (h:bD) (b e:aL):Prop:=
 ∀(w:World) (s:Sl),zy w h b e s->
  Calls Tryz.prog 29 #[eY h b e s] w fun e' w'=>e'= .returned (.bool (mE h b e))∧Below w.heap.size w w'
theorem nN (l:aL) (hall:l.All qh) (w:World) (ao:Option Addr) (cap:Nat) (hl:l.len<=maxLen) (hat:l.At w w.heap.size ao 0):
 Calls Tryz.prog 18 #[.slice ao l.len cap] w fun e' w'=>e'= .returned (.bool (dX l))∧Below w.heap.size w w':=by
 unfold maxLen at hl;go_enter Tryz.func18,Tryz.ntmps18;go_wp2_with fail;go_loopw [3] (fun s wr=> ∃(k:Nat) (R:aL),s= .int .i64 k∧k + R.len=l.len∧dX l=dX R∧R.All qh∧R.At wr wr.heap.size ao k∧Below w.heap.size w wr) (fun s _=>l.len - (intOf s).toNat)
 case atStart=>exact ⟨0,l,rfl,by simp,rfl,hall,hat,Below.refl _ _⟩
 case round=>
  obtain ⟨k,R,rfl,hlen,heq,tC,hrow,hB⟩:=hrel;have HE:=ah heq;clear heq;cases R with
  | nil=>
    obtain rfl:k=l.len:=by simpa [aL.len] using hlen
    go_wp2_with fail;go_ret;exact ⟨aI HE.o.symm,hB⟩
  | cons h b e R=>
    obtain ⟨bl,off,s,rfl,hbl,hin,x0,x1,x2,x3,x4,x5,x6,x7,x8,x9,x10,hrest⟩:=aL.At.head hrow;obtain ⟨xK,Cz⟩:=tC;have hkl:k < l.len:=by simp only [aL.len] at hlen; omega
    clear hrow;go_wp2_with fail;refine (xK _ s hin).mono ?_;rintro e' w2 ⟨rfl,hb2⟩;have HB3:=ah hb2;clear hb2 x0 x1 x2 x3 x4 x5 x6 x7 x8 x9 x10 hin;cases hS:mE h b e
    ·have HF:=ah (HE.o.trans (by rw [pJ,hS]; rfl:dX (.cons h b e R)=false));go_wp2_with fail;go_ret;exact ⟨aI HF.o.symm,hB.trans (HB3.o.mono hB.size)⟩
    ·have HF:=ah (HE.o.trans (by rw [pJ,hS]; rfl:dX (.cons h b e R)=dX R));go_wp2_with fail;go_roundw
     case rel=>exact ⟨k + 1,R,by go_num,by simp only [aL.len] at hlen; omega,HF.o,Cz,hrest.same HB3.o,hB.trans (HB3.o.mono hB.size)⟩
     case measure=>simp [intOf]; omega
theorem Qe {op:Int} (h1:1<=op) (h2:op<=15):fN op= !((op == 2 || op == 3) || (op == 7 || op == 8)):=by
 rw [Bool.eq_iff_iff]; unfold fN; simp; omega
theorem uT (h:bD) (b e:aL) (ihb:b.All qh) (I7:e.All qh):qh h b e:=by
 intro w s hin;obtain ⟨eT,dO,eZ,dS,bg,aU,fG,dZ⟩:=s;have HS:aj (mE h b e=((((fO h.op && (dV h.nm (fN h.op) && dV h.arg (fA h.op))) && ((decide ((h.idx.len:Int)<=1) && (!decide ((h.idx.len:Int)=1) || fI h.op)) && fD h.idx)) &&
  ((if fX h.op then fT h.iJ h.xn h.iP h.dn else jB h.iJ h.xn h.iP h.dn.len) && ((fB h.op || decide ((b.len:Int)<=0)) && (fE h.op || decide ((e.len:Int)<=0))))) && (dX b && dX e))):=ah (by
  unfold mE kQ; rw [ED,EC,wh,wh])
 generalize mE h b e=res at *;have kM:=ah hin;have Nf:=ah ihb;have Ng:=ah I7;obtain ⟨⟨⟨o1,o2⟩,-,hm,ha,hil,hxk,hbl,hel⟩,-⟩:=hin;clear ihb I7;have SY:=hil;have Jq:=hbl;have Jr:=hel;have hxl:=hxk.2.2.2;unfold maxLen at hil hbl hel hxl;unfold eY;dsimp only;go_enter Tryz.func29,Tryz.ntmps29;go_upto_region 1 with fail;generalize hW:World.alloc w _=W;generalize Value.agg #[_,_,_,_,_,_,_,_,_,_,_]=a0;have HX:aj (Sit w W (wY w.heap.size h b e ⟨eT,dO,eZ,dS,bg,aU,fG,dZ⟩ [])):=ah (by rw [<- hW]; exact (Sit.start w).KT rfl _ _ _ _ _ _ _ _ _ _ _ _);clear hW;obtain ⟨-,⟨-,c0⟩,⟨-,c1⟩,⟨-,c2⟩,⟨-,c3⟩,⟨-,c4⟩,⟨-,c5⟩,⟨-,c6⟩,⟨-,c7⟩,⟨-,c8⟩,⟨-,c9⟩,⟨-,c10⟩,-⟩:=HX.o;go_cut [13] (fun s' W3=>W=W3∧ ∃t,s'= .bool t∧(!t)=(decide (1<=h.op) && decide (h.op<=15)))
 case first=>
  as_aux_lemma=>
   go_wp2_with fail
   all_goals go_meet
   all_goals exact ⟨rfl,_,rfl,by go_light; grind⟩
 obtain ⟨rfl,t1,rfl,ht1⟩:=hcut;cases t1
 case true=>
  as_aux_lemma=>have HT:aj (fO h.op=false):=ah ht1.symm;rw [HT.o] at HS;go_wp2_with fail;go_ret;exact ⟨aI (HS.o.trans (by simp)).symm,HX.o.1⟩
 have hr:1<=h.op∧h.op<=15:=by simpa using ht1.symm
 obtain ⟨g1,g2⟩:=hr;rw [show fO h.op=true from ht1.symm,Qe g1 g2] at HS;clear ht1;go_upto_region 3 with fail;go_cut [3] (fun s' W3=>W=W3∧s'= .bool ((h.op == 2 || h.op == 3) || (h.op == 7 || h.op == 8)))
 case first=>
  as_aux_lemma=>
   go_wp2_with fail
   all_goals go_meet
   all_goals exact ⟨rfl,by congr 1; go_light; grind⟩
 obtain ⟨rfl,rfl⟩:=hcut;generalize ((h.op == 2 || h.op == 3) || (h.op == 7 || h.op == 8))=bn at *;go_upto_region 4 with fail;go_cut [3,47] (fun _ s' W2=> ∃t,s'= .bool t∧(!t)=dV h.nm (!bn)∧Sit w W2 (wY w.heap.size h b e ⟨eT,dO,eZ,dS,bg,aU,fG,dZ⟩ []))
 case first=>
  as_aux_lemma=>
   cases bn
   ·have HN:=ah (CZ h.nm);go_wp2_with fail;refine (gU _ _ hm).mono ?_;rintro e' w3 ⟨rfl,hb3⟩;have HZ:=ah (HX.o.next hb3);clear hb3 HX c0 c1 c2 c3 c4 c5 c6 c7 c8 c9 c10;obtain ⟨-,⟨-,c0⟩,⟨-,c1⟩,⟨-,c2⟩,⟨-,c3⟩,⟨-,c4⟩,⟨-,c5⟩,⟨-,c6⟩,⟨-,c7⟩,⟨-,c8⟩,⟨-,c9⟩,⟨-,c10⟩,-⟩:=HZ.o;cases hq:Tk.cO h.nm.data.toList
    all_goals go_wp2_with fail
    all_goals go_meet
    all_goals exact ⟨_,rfl,(HN.o.trans hq).symm,HZ.o⟩
   ·have HN:=ah (CY h.nm);go_wp2_with fail
    all_goals go_meet
    all_goals exact ⟨_,rfl,(show _=dV h.nm false by rw [HN.o]; first | (simp; done) | (go_light; grind)),HX.o⟩
 obtain ⟨t2,rfl,ht2,hX⟩:=hcut;have HY:=ah hX;have HT2:=ah ht2;clear hX ht2 HX c0 c1 c2 c3 c4 c5 c6 c7 c8 c9 c10;rw [<- HT2.o] at HS;clear HT2;cases t2
 case true=>
  as_aux_lemma=>go_wp2_with fail;go_ret;exact ⟨aI (HS.o.trans (by simp)).symm,HY.o.1⟩
 obtain ⟨-,⟨-,c0⟩,⟨-,c1⟩,⟨-,c2⟩,⟨-,c3⟩,⟨-,c4⟩,⟨-,c5⟩,⟨-,c6⟩,⟨-,c7⟩,⟨-,c8⟩,⟨-,c9⟩,⟨-,c10⟩,-⟩:=HY.o;go_upto_region 6 with fail;go_cut [66] (fun s' W2=> ∃t,s'= .bool t∧(!t)=dV h.arg (fA h.op)∧Sit w W2 (wY w.heap.size h b e ⟨eT,dO,eZ,dS,bg,aU,fG,dZ⟩ []))
 case first=>
  as_aux_lemma=>
   cases vv:(h.op == 15)
   ·have SQ:(h.op != 15)=true:=(by unfold bne; rw [vv]; rfl);have HN:aj (dV h.arg (fA h.op)=decide (h.arg.toList=[])):=ah (by unfold fA; rw [vv]; exact CY h.arg);go_wp2_with fail
    all_goals go_meet
    all_goals exact ⟨_,rfl,(by rw [HN.o]; first | (simp; done) | (go_light; grind)),HY.o⟩
   ·have SQ:(h.op != 15)=false:=(by unfold bne; rw [vv]; rfl);have HN:aj (dV h.arg (fA h.op)=Tk.cO h.arg.data.toList):=ah (by unfold fA; rw [vv]; exact CZ h.arg);go_wp2_with fail;refine (gU _ _ ha).mono ?_;rintro e' w3 ⟨rfl,hb3⟩;have HZ:=ah (HY.o.next hb3);clear hb3 HY c0 c1 c2 c3 c4 c5 c6 c7 c8 c9 c10;obtain ⟨-,⟨-,c0⟩,⟨-,c1⟩,⟨-,c2⟩,⟨-,c3⟩,⟨-,c4⟩,⟨-,c5⟩,⟨-,c6⟩,⟨-,c7⟩,⟨-,c8⟩,⟨-,c9⟩,⟨-,c10⟩,-⟩:=HZ.o;cases hq:Tk.cO h.arg.data.toList
    all_goals go_wp2_with fail
    all_goals go_meet
    all_goals exact ⟨_,rfl,(HN.o.trans hq).symm,HZ.o⟩
 obtain ⟨t3,rfl,ht3,hX⟩:=hcut;have HZ:=ah hX;have HT3:=ah ht3;clear hX ht3 HY c0 c1 c2 c3 c4 c5 c6 c7 c8 c9 c10;rw [<- HT3.o] at HS;clear HT3;cases t3
 case true=>
  as_aux_lemma=>go_wp2_with fail;go_ret;exact ⟨aI (HS.o.trans (by simp)).symm,HZ.o.1⟩
 obtain ⟨-,⟨-,c0⟩,⟨-,c1⟩,⟨-,c2⟩,⟨-,c3⟩,⟨-,c4⟩,⟨-,c5⟩,⟨-,c6⟩,⟨-,c7⟩,⟨-,c8⟩,⟨-,c9⟩,⟨-,c10⟩,-⟩:=HZ.o;go_upto_region 8 with fail;go_cut [95] (fun s' W2=> ∃t,s'= .bool t∧(!t)=((decide ((h.idx.len:Int)<=1) && (!decide ((h.idx.len:Int)=1) || fI h.op)) && fD h.idx)∧Sit w W2 (wY w.heap.size h b e ⟨eT,dO,eZ,dS,bg,aU,fG,dZ⟩ []))
 case first=>
  as_aux_lemma=>
   have hrow:=(kM.o.same HZ.o.1).2.1;generalize hix:h.idx=ix at hrow c4 hil;have BM:=ah hix;clear hix;cases ix with
   | nil=>
     simp only [aG.len] at c4;clear hrow;cases hI:(h.op == 1)
     ·have hI':(h.op != 1)=true:=(by unfold bne; rw [hI]; rfl);go_wp2_with fail;go_meet;exact ⟨_,rfl,by rw [BM.o]; rfl,HZ.o⟩
     ·have hI':(h.op != 1)=false:=(by unfold bne; rw [hI]; rfl);go_wp2_with fail;go_meet;exact ⟨_,rfl,by rw [BM.o]; rfl,HZ.o⟩
   | cons op' n' nm' bM rest=>
     obtain ⟨⟨b',off',dY,cap',rfl,EA,x0,x1,x2,x3,hok',mX⟩,hrest⟩:=hrow;cases rest with
     | nil=>
       simp only [aG.len,Nat.zero_add] at c4;simp only [Nat.zero_mul,Nat.add_zero] at x0 x1 x2 x3;cases hI:(h.op == 1)
       ·have hI':(h.op != 1)=true:=(by unfold bne; rw [hI]; rfl);have HL:aj (fI h.op=false):=ah hI;go_wp2_with fail;go_meet;exact ⟨_,rfl,by rw [BM.o,HL.o]; rfl,HZ.o⟩
       ·have hI':(h.op != 1)=false:=(by unfold bne; rw [hI]; rfl);have HL:aj (fI h.op=true):=ah hI;go_wp2_with fail;refine (oV op' n' nm' bM _ _ _ hok' mX).mono ?_;rintro e' w3 ⟨rfl,hb3⟩;have HV:=ah (HZ.o.next hb3);clear hb3;cases hq:fT op' n' nm' bM
        all_goals go_wp2_with fail
        all_goals go_meet
        all_goals exact ⟨_,rfl,by rw [BM.o,HL.o,lg,hq]; rfl,HV.o⟩
     | cons op2 n2 Im yV za=>have hl2:2<=(aG.cons op' n' nm' bM (aG.cons op2 n2 Im yV za)).len:=(by simp only [aG.len]; omega);have HL:aj (((decide (((aG.cons op' n' nm' bM (aG.cons op2 n2 Im yV za)).len:Int)<=1) && (!decide (((aG.cons op' n' nm' bM (aG.cons op2 n2 Im yV za)).len:Int)=1) || fI h.op)) && fD (aG.cons op' n' nm' bM (aG.cons op2 n2 Im yV za)))=false):=ah (by rw [decide_eq_false (by omega)]; rfl);clear x0 x1 x2 x3 hrest mX hok';generalize (aG.cons op' n' nm' bM (aG.cons op2 n2 Im yV za))=ix at *;have hl3:1 < ix.len:=(by omega);go_wp2_with fail;go_meet;exact ⟨_,rfl,by rw [BM.o,HL.o]; rfl,HZ.o⟩
 obtain ⟨t4,rfl,I5,hX⟩:=hcut;have HU:=ah hX;have wN:=ah I5;clear hX I5 HZ c0 c1 c2 c3 c4 c5 c6 c7 c8 c9 c10;rw [<- wN.o] at HS;clear wN;cases t4
 case true=>
  as_aux_lemma=>go_wp2_with fail;go_ret;exact ⟨aI (HS.o.trans (by simp)).symm,HU.o.1⟩
 obtain ⟨-,⟨-,c0⟩,⟨-,c1⟩,⟨-,c2⟩,⟨-,c3⟩,⟨-,c4⟩,⟨-,c5⟩,⟨-,c6⟩,⟨-,c7⟩,⟨-,c8⟩,⟨-,c9⟩,⟨-,c10⟩,-⟩:=HU.o;go_upto_region 10 with fail;go_cut [4] (fun s' W3=>wc=W3∧s'= .bool (fX h.op))
 case first=>
  as_aux_lemma=>
   have HF:aj (fX h.op=((h.op == 1 || h.op == 2) || (h.op == 3 || h.op == 14))):=ah rfl;go_wp2_with fail
   all_goals go_meet
   all_goals exact ⟨rfl,by rw [HF.o]; congr 1; go_light; grind⟩
 obtain ⟨rfl,rfl⟩:=hcut;generalize fX h.op=bX at *;go_upto_region 11 with fail;go_cut [4,130] (fun _ s' W3=> ∃t,s'= .bool t∧(!t)=(if bX then fT h.iJ h.xn h.iP h.dn else jB h.iJ h.xn h.iP h.dn.len)∧Sit w W3 (wY w.heap.size h b e ⟨eT,dO,eZ,dS,bg,aU,fG,dZ⟩ []))
 case first=>
  as_aux_lemma=>
   cases bX
   ·go_wp2_with fail;refine (GI _ _ _ _ _ _ _).mono ?_;rintro e' w3 ⟨rfl,hb3⟩;have HV:=ah (HU.o.next hb3);clear hb3;cases hq:jB h.iJ h.xn h.iP h.dn.len
    all_goals go_wp2_with fail
    all_goals go_meet
    all_goals exact ⟨_,rfl,hq.symm,HV.o⟩
   ·go_wp2_with fail;refine (oV _ _ _ _ _ _ _ hxk (kM.o.same HU.o.1).2.2.1).mono ?_;rintro e' w3 ⟨rfl,hb3⟩;have HV:=ah (HU.o.next hb3);clear hb3 HU c0 c1 c2 c3 c4 c5 c6 c7 c8 c9 c10;obtain ⟨-,⟨-,c0⟩,⟨-,c1⟩,⟨-,c2⟩,⟨-,c3⟩,⟨-,c4⟩,⟨-,c5⟩,⟨-,c6⟩,⟨-,c7⟩,⟨-,c8⟩,⟨-,c9⟩,⟨-,c10⟩,-⟩:=HV.o;cases hq:fT h.iJ h.xn h.iP h.dn
    all_goals go_wp2_with fail
    all_goals go_meet
    all_goals exact ⟨_,rfl,hq.symm,HV.o⟩
 obtain ⟨t5,rfl,RD,hX⟩:=hcut;have HV:=ah hX;have QU:=ah RD;clear hX RD HU c0 c1 c2 c3 c4 c5 c6 c7 c8 c9 c10;rw [<- QU.o] at HS;clear QU;cases t5
 case true=>
  as_aux_lemma=>go_wp2_with fail;go_ret;exact ⟨aI (HS.o.trans (by simp)).symm,HV.o.1⟩
 obtain ⟨-,⟨-,c0⟩,⟨-,c1⟩,⟨-,c2⟩,⟨-,c3⟩,⟨-,c4⟩,⟨-,c5⟩,⟨-,c6⟩,⟨-,c7⟩,⟨-,c8⟩,⟨-,c9⟩,⟨-,c10⟩,-⟩:=HV.o;go_upto_region 13 with fail;go_cut [5] (fun s' W3=>wc=W3∧s'= .bool (fB h.op))
 case first=>
  as_aux_lemma=>
   have HF:aj (fB h.op=(decide (2<=h.op) && decide (h.op<=8))):=ah rfl;go_wp2_with fail
   all_goals go_meet
   all_goals exact ⟨rfl,by rw [HF.o]; congr 1; go_light; grind⟩
 obtain ⟨rfl,rfl⟩:=hcut;generalize fB h.op=bB at *;go_upto_region 14 with fail;go_cut [5,157] (fun _ s' W3=>wc=W3∧ ∃t,s'= .bool t∧(!t)=((bB || decide ((b.len:Int)<=0)) && (fE h.op || decide ((e.len:Int)<=0))))
 case first=>
  as_aux_lemma=>
   have HF:aj (fE h.op=(h.op == 2)):=ah rfl;cases bB
   all_goals cases h2:(h.op == 2)
   all_goals try have h2':(h.op != 2)=true:=by unfold bne; rw [h2]; rfl
   all_goals try have h2':(h.op != 2)=false:=by unfold bne; rw [h2]; rfl
   all_goals go_wp2_with fail
   all_goals go_meet
   all_goals exact ⟨rfl,_,rfl,by rw [HF.o,h2]; go_light; grind⟩
 obtain ⟨rfl,t6,rfl,RF⟩:=hcut;have lJ:=ah RF;rw [<- lJ.o] at HS;clear lJ RF;cases t6
 case true=>
  as_aux_lemma=>go_wp2_with fail;go_ret;exact ⟨aI (HS.o.trans (by simp)).symm,HV.o.1⟩
 go_wp2_with fail;refine (nN b Nf.o _ _ _ Jq (kM.o.same HV.o.1).2.2.2.1).mono ?_;rintro e' w4 ⟨rfl,hb4⟩;have HA:=ah (HV.o.next hb4);clear hb4 HV c0 c1 c2 c3 c4 c5 c6 c7 c8 c9 c10;obtain ⟨-,⟨-,c0⟩,⟨-,c1⟩,⟨-,c2⟩,⟨-,c3⟩,⟨-,c4⟩,⟨-,c5⟩,⟨-,c6⟩,⟨-,c7⟩,⟨-,c8⟩,⟨-,c9⟩,⟨-,c10⟩,-⟩:=HA.o;cases hq:dX b
 ·rw [hq] at HS;go_wp2_with fail;go_ret;exact ⟨aI (HS.o.trans (by simp)).symm,HA.o.1⟩
 ·rw [hq] at HS;go_wp2_with fail;refine (nN e Ng.o _ _ _ Jr (kM.o.same HA.o.1).2.2.2.2).mono ?_;rintro e' w5 ⟨rfl,hb5⟩;go_wp2_with fail;go_ret;exact ⟨aI (HS.o.trans (by simp)).symm,(HA.o.next hb5).1⟩
theorem uU (l:aL) (w:World) (ao:Option Addr) (cap:Nat) (hl:l.len<=maxLen) (hat:l.At w w.heap.size ao 0):
 Calls Tryz.prog 18 #[.slice ao l.len cap] w fun e' w'=>e'= .returned (.bool (dX l))∧Below w.heap.size w w':=
 nN l (aL.kU uT l) w ao cap hl hat
theorem um (p:Pr) (w:World) (aT aZ:Option Addr) (aM aN:Nat) (hp:p.At w aT aZ):
 Calls Tryz.prog 7 #[.agg #[.slice aT p.ds.length aM,.slice aZ p.ts.length aN]] w fun e w'=>e= .returned (.bool (oK p))∧Below w.heap.size w w':=by
 have HS:aj (oK p=((p.ds.all gu && p.ts.all iX) && decide ((0:Int) < p.ts.length))):=ah rfl;generalize oK p=res at *;have hld:=hp.1;have hlt:=hp.2.1;unfold maxLen at hld hlt;have HP:=ah hp;clear hp;go_enter Tryz.func7,Tryz.ntmps7;go_upto_region 1 with fail;generalize hW:World.alloc w _=W;generalize Value.agg #[_,_]=a0;have HX:=ah ((Sit.start w).NS rfl (.slice aT p.ds.length aM) (.slice aZ p.ts.length aN) 26);rw [hW] at HX;clear hW;have hde:=(HP.o.same HX.o.1).2.2.1;go_wp2_with fail;go_loopw [3] (fun s wr=> ∃(k:Nat) (R:List De),s= .int .i64 k∧k + R.length=p.ds.length∧p.ds.all gu=R.all gu∧fZ wr wr.heap.size R aT k∧Sit w wr [(w.heap.size,0,(.slice aT p.ds.length aM)),(w.heap.size,1,(.slice aZ p.ts.length aN))]) (fun s _=>p.ds.length - (intOf s).toNat)
 case atStart=>exact ⟨0,p.ds,rfl,by simp,rfl,hde,HX.o⟩
 case round=>
  obtain ⟨k,R,rfl,hlen,heq,hrow,hsit⟩:=hrel;have HZ:=ah hsit;have HE:=ah heq;clear hsit HX hde heq;obtain ⟨-,⟨-,c0⟩,⟨-,c1⟩,-⟩:=HZ.o;cases R with
  | cons d R=>
    obtain ⟨⟨b,off,rfl,hB,x0,x1,x2,x3,x4,x5,hok⟩,hrest⟩:=hrow;simp only [List.length_cons] at hlen;have hkl:k < p.ds.length:=by omega
    have eO:=ah hok;clear hok;go_wp2_with fail;refine (wD d _ eO.o).mono ?_;rintro e' w2 ⟨rfl,hb2⟩;have HB3:=ah hb2;clear hb2 x0 x1 x2 x3 x4 x5 c0 c1;cases hS:gu d
    ·rw [HE.o,List.all_cons,hS] at HS;go_wp2_with fail;go_ret;exact ⟨aI (HS.o.trans (by simp)).symm,(HZ.o.next HB3.o).1⟩
    ·have HF:=ah (HE.o.trans (by rw [List.all_cons,hS]; rfl:_=R.all gu));go_wp2_with fail;go_roundw
     case rel=>exact ⟨k + 1,R,by go_num,by omega,HF.o,hrest.same HB3.o,HZ.o.next HB3.o⟩
     case measure=>simp [intOf]; omega
  | nil=>
    obtain rfl:k=p.ds.length:=by simpa using hlen
    rw [HE.o] at HS;have hth:=(HP.o.same HZ.o.1).2.2.2;clear HE hrow hlen;go_wp2_with fail;go_loopg [4,5,6] p.ts.length (fun g s _ _ wr=> ∃(k:Nat) (R:List Th),g=R.length∧s= .int .i64 k∧k + R.length=p.ts.length∧p.ts.all iX=R.all iX∧gq wr wr.heap.size R aZ k∧Sit w wr [(w.heap.size,0,(.slice aT p.ds.length aM)),(w.heap.size,1,(.slice aZ p.ts.length aN))])
    case atStart=>exact ⟨0,p.ts,rfl,rfl,by simp,rfl,hth,HZ.o⟩
    case round=>
     obtain ⟨k,R,rfl,rfl,hlen,heq,hrow,hsit⟩:=hrel;have HU:=ah hsit;have HE:=ah heq;clear hsit HZ c0 c1 hth heq;obtain ⟨-,⟨-,c0⟩,⟨-,c1⟩,-⟩:=HU.o;cases R with
     | nil=>obtain rfl:k=p.ts.length:=(by simpa using hlen);rw [HE.o] at HS;go_wp2_with fail;go_ret;exact ⟨aI (HS.o.trans (by simp)).symm,HU.o.1⟩
     | cons t R=>
       obtain ⟨⟨b,off,dw,bG,bg,aU,rfl,hB,x0,x1,x2,x3,hok,htx,hst⟩,hrest⟩:=hrow;simp only [List.length_cons] at hlen;have hkl:k < p.ts.length:=(by omega);have hll:=hok.2.2.1;have eO:=ah hok;have yA:=ah htx;have HST:=ah hst;unfold maxLen at hll;clear hok htx hst;go_upto_region 10 with fail;clear c0 c1;obtain ⟨n2,hn2⟩: ∃n,wr.heap.size=n:=⟨_,rfl⟩;generalize hW2:World.alloc wr _=W2;have HB2:aj (Below wr.heap.size wr W2):=ah (by rw [<- hW2]; exact ak _ _);have HV:aj (Sit w W2 ((n2,0,.string t.nm) ::(n2,1,.int .i64 t.line) ::(n2,2,.slice dw t.cu.length bG) ::(n2,3,.slice bg t.body.len aU) ::[(w.heap.size,0,(.slice aT p.ds.length aM)),(w.heap.size,1,(.slice (some ⟨b,off,none⟩) p.ts.length aN))])):=ah (by rw [<- hW2]; exact HU.o.NT hn2 _ _ _ _ _);rw [hn2];clear hW2 hn2 x0 x1 x2 x3;have hrow:=yA.o.same HB2.o;go_wp2_with fail;obtain ⟨wo,rfl⟩: ∃wo:World,wo=wr:=⟨_,rfl⟩;go_loopw [6] (fun s wr=> ∃(k:Nat) (R:List ByteArray),s= .int .i64 k∧k + R.length=t.cu.length∧t.cu.all (fun s=>Tk.cO s.data.toList)=R.all (fun s=>Tk.cO s.data.toList)∧gX wr wr.heap.size R dw k∧Below wo.heap.size wo wr∧Sit w wr ((n2,0,.string t.nm) ::(n2,1,.int .i64 t.line) ::(n2,2,.slice dw t.cu.length bG) ::(n2,3,.slice bg t.body.len aU) ::[(w.heap.size,0,(.slice aT p.ds.length aM)),(w.heap.size,1,(.slice (some ⟨b,off,none⟩) p.ts.length aN))])) (fun s _=>t.cu.length - (intOf s).toNat)
       case atStart=>exact ⟨0,t.cu,rfl,by simp,rfl,hrow,HB2.o,HV.o⟩
       case round=>
        obtain ⟨k',R',rfl,hlen',heq',hrow',Hz,yS⟩:=hrel;have HC:=ah yS;have uG:=ah Hz;have BH:=ah heq';clear yS HV hrow heq' Hz HB2;obtain ⟨-,⟨-,c0⟩,⟨-,c1⟩,⟨-,c2⟩,⟨-,c3⟩,⟨-,c4⟩,⟨-,c5⟩,-⟩:=HC.o;cases R' with
        | cons s R'=>
          obtain ⟨⟨b',off',rfl,hB',y0,hs⟩,hrest'⟩:=hrow';simp only [List.length_cons] at hlen';have hkl':k' < t.cu.length:=(by omega);go_wp2_with fail;refine (gU _ _ hs).mono ?_;rintro e' w3 ⟨rfl,hb3⟩;have bT:=ah hb3;clear hb3 c0 c1 c2 c3 c4 c5 y0;cases vC:Tk.cO s.data.toList
          ·rw [HE.o,List.all_cons,show iX t=false by unfold iX; rw [BH.o,List.all_cons,vC]; simp] at HS;go_wp2_with fail;go_ret;exact ⟨aI (HS.o.trans (by simp)).symm,(HC.o.next bT.o).1⟩
          ·have HF:=ah (BH.o.trans (by rw [List.all_cons,vC]; rfl:_=R'.all (fun s=>Tk.cO s.data.toList)));go_wp2_with fail;go_roundw
           case rel=>exact ⟨k' + 1,R',by go_num,by omega,HF.o,hrest'.same bT.o,uG.o.trans (bT.o.mono uG.o.size),HC.o.next bT.o⟩
           case measure=>simp [intOf]; omega
        | nil=>
          obtain rfl:k'=t.cu.length:=(by simpa using hlen');go_wp2_with fail;refine (gU _ _ eO.o.1).mono ?_;rintro e' w3 ⟨rfl,hb3⟩;have bT:=ah (uG.o.trans (hb3.mono uG.o.size));have HD:=ah (HC.o.next hb3);clear hb3 c0 c1 c2 c3 c4 c5 HC uG;cases hN:Tk.cO t.nm.data.toList
          ·rw [HE.o,List.all_cons,show iX t=false by unfold iX; rw [hN]; rfl] at HS;go_wp2_with fail;go_ret;exact ⟨aI (HS.o.trans (by simp)).symm,HD.o.1⟩
          ·obtain ⟨-,⟨-,c0⟩,⟨-,c1⟩,⟨-,c2⟩,⟨-,c3⟩,⟨-,c4⟩,⟨-,c5⟩,-⟩:=HD.o;go_wp2_with fail;refine (uU t.body _ _ _ eO.o.2.2.2 (HST.o.1.same bT.o)).mono ?_;rintro e' w4 ⟨rfl,hb4⟩;have iq:=ah (bT.o.trans (hb4.mono bT.o.size));have Gb:=ah (HD.o.next hb4);clear hb4 c0 c1 c2 c3 c4 c5;have HT:aj (iX t=dX t.body):=ah (by unfold iX; rw [hN,BH.o]; rfl);cases vC:dX t.body
           ·rw [HE.o,List.all_cons,HT.o,vC] at HS;go_wp2_with fail;go_ret;exact ⟨aI (HS.o.trans (by simp)).symm,Gb.o.1⟩
           ·have HF:=ah (HE.o.trans (by rw [List.all_cons,HT.o,vC]; rfl:_=R.all iX));go_wp2_with fail;go_roundg R.length
            case measure=>simp
            case rel=>exact ⟨k + 1,R,rfl,by go_num,by omega,HF.o,hrest.same iq.o,HU.o.next iq.o⟩
end Go.Proofs.YtkajcclnlehkmaaGreatDoor
