/- Contracts of the reference's Operands and ShapedExpr. And what hangs on it. -/
import Derived.Test.YtfbbaiejbjdfbaaGreatDoorGMC
import Derived.Test.YtfbbaiejbjdfbaaGreatDoorGNA
import Derived.BigQuiet
import Derived.Deep.DeepCutAuto
import Derived.Test.YtfbbaiejbjdfbaaGreatDoorGRA
import Derived.Deep.CutBlock
import Derived.Test.YtfbbaiejbjdfbaaGreatDoorGME
import Derived.Test.YtfbbaiejbjdfbaaGreatDoorGML
set_option linter.unusedSimpArgs false
set_option linter.unusedVariables false
set_option maxHeartbeats 40000000
set_option maxRecDepth 1000000
namespace Go.Proofs.YtfbbaiejbjdfbaaGreatDoor
open Go.RowKit
open Md
theorem Ga (op:Int) (w:World):
 Calls Tryz.prog 133 #[.int .i64 op] w fun e w'=>e= .returned (.int .i64 (opsOf op))∧w=w':=by
 unfold opsOf;go_enter Tryz.func133,Tryz.ntmps133;go_wp2
 all_goals go_ret
 all_goals refine ⟨bF ?_,rfl⟩
 all_goals first | (simp [*]; done) | ((repeat' split) <;> simp_all <;> omega)
def Ig (op n:Int) (nm:ByteArray) (kids:aZ):Prop:=
 ∀(w:World) (ao:Option Addr) (cap:Nat),sG op n nm kids->kids.At w w.heap.size ao 0->
  Calls Tryz.prog 113 #[.agg #[.int .i64 op,.int .i64 n,.string nm,.slice ao kids.len cap]] w fun e w'=>e= .returned (.bool (jH op n nm kids))∧Below w.heap.size w w'
theorem al2 (op n:Int) (nm:ByteArray) (kids:aZ):jH op n nm kids=(((decide (opsOf op=(kids.len:Int)) && (decide (0<=n) && (decide (op=1) || decide (n=0)))) && (if ((op == 2) || (op == 3)) then Tk.gZ nm.data.toList else decide (nm.toList=[]))) && lI kids):=by
 have h1:((kids.len:Int) == opsOf op)=decide (opsOf op=(kids.len:Int)):=by rw [Bool.eq_iff_iff]; simp; exact eq_comm
 have h2:lH nm (named op)=if ((op == 2) || (op == 3)) then Tk.gZ nm.data.toList else decide (nm.toList=[]):=by
  unfold lH named; split
  ·rfl
  ·rw [Lib.toList_data,Bool.eq_iff_iff]; simp
 have h3:(!(decide (n < 0) || (!(n == 0) && !(op == 1))))=(decide (0<=n) && (decide (op=1) || decide (n=0))):=by rw [Bool.eq_iff_iff]; simp; omega
 unfold jH Bg;rw [h1,h2,h3];simp only [Bool.and_assoc]
theorem ZI {nm:ByteArray} (h:nm.toList=[]):Tk.gZ nm.data.toList=false:=by rw [<- Lib.toList_data,h]; rfl
theorem Gd (op n:Int) (nm:ByteArray) (kids:aZ) (ih:kids.All Ig):Ig op n nm kids:=by
 intro w ao cap hok hat;obtain ⟨⟨o1,o2⟩,⟨n1,n2⟩,hm,hl⟩:=hok;unfold maxLen at hl;have hl':kids.len<=9223372036854775807:=hl;have HS:=ah (al2 op n nm kids);have oP:=ah ih;have HAT:=ah hat;clear ih hat;go_enter Tryz.func113,Tryz.ntmps113;go_upto_region 1 with fail;generalize hW:World.alloc w _=W;generalize Value.agg #[_,_,_,_]=a0;have HX:=ah (xD.mk hW);clear hW;obtain ⟨-,hs,c0,c1,c2,c3⟩:=HX.o;go_cut [3] (fun s W2=>W=W2∧ ∃b,s= .bool b∧((op == 2) || (op == 3))=b)
 case first=>
  go_wp2_with fail
  all_goals go_meet
  all_goals exact ⟨rfl,_,rfl,by grind⟩
 obtain ⟨rfl,bn,rfl,hbn⟩:=hcut;rw [hbn] at HS;clear hbn;go_upto_region 2 with fail;go_cut [3,50] (fun _ s W2=> ∃b,s= .bool b∧jH op n nm kids=(!b && lI kids)∧xD w W2 (.int .i64 op) (.int .i64 n) (.string nm) (.slice ao kids.len cap))
 case first=>
  cases bn
  all_goals
   obtain ⟨T,F,Bc,hst,hF,hnext⟩:=calm W;have HF:=ah hF;have cO:=ah hnext;clear hnext;have d0:=fun x=>((HF.o x).cell (p:=⟨w.heap.size,0,none⟩) hs).trans c0;have d1:=fun x=>((HF.o x).cell (p:=⟨w.heap.size,1,none⟩) hs).trans c1;have d2:=fun x=>((HF.o x).cell (p:=⟨w.heap.size,2,none⟩) hs).trans c2;have d3:=fun x=>((HF.o x).cell (p:=⟨w.heap.size,3,none⟩) hs).trans c3;clear hF c0 c1 c2 c3;refine je F (by kernel_rfl) (by kernel_rfl) hst ?_
   repeat (any_goals (first | go_big_quiet_step (first | (go_at_call 133; refine (Ga _ _).mono ?_; rintro e w' ⟨rfl,rfl⟩; exact ⟨rfl,_,rfl⟩) | (go_at_call 59; refine (oC _ _ hm).mono ?_; rintro e w' ⟨rfl,hb⟩; exact ⟨rfl,cO.o _ _ hb⟩)) | (refine wpQuiet_step (fun K hK=> ?_); go_simp; first | (refine hK _ ?_; clear hK K) | (split <;> first | (refine hK _ ?_; clear hK K) | (apply Exists.intro; refine ⟨fun _=> ?_,hK _ ?_⟩; (first | (go_at_call 133; refine (Ga _ _).mono ?_; rintro e w' ⟨rfl,rfl⟩; exact ⟨rfl,_,rfl⟩) | (go_at_call 59; refine (oC _ _ hm).mono ?_; rintro e w' ⟨rfl,hb⟩; exact ⟨rfl,cO.o _ _ hb⟩)); clear hK K)))))
   all_goals (refine wpQuiet_nil ?_; rintro _ ⟨x,rfl⟩; go_wp2_with fail; go_meet)
   all_goals exact ⟨_,rfl,HS.o.trans (by go_light; grind [ZI]),HX.o.next (HF.o _)⟩
 case rest=>
  obtain ⟨b,rfl,hR,vN⟩:=hcut;have HZ:=ah vN;have HR:=ah hR;clear HX vN hR HS c0 c1 c2 c3 hs;cases b
  ·go_wp2_with fail;go_loopw [4] (fun i wr=> ∃k R,i= .int .i64 (k:Nat)∧Te kids R k∧R.All Ig∧R.At wr wr.heap.size ao k∧xD w wr (Value.int IntKind.i64 op) (Value.int IntKind.i64 n) (Value.string nm) (Value.slice ao kids.len cap)) (fun i _=>kids.len - (intOf i).toNat)
   case atStart=>exact ⟨0,kids,rfl,⟨Nat.zero_add _,rfl⟩,oP.o,HAT.o.same HZ.o.1,HZ.o⟩
   case round=>
    obtain ⟨k,R,rfl,⟨hlen,heq⟩,hall,hrow,CQ⟩:=hrel;have HT:=ah (HR.o.trans (show (!false && lI kids)=lI R by rw [heq]; rfl));have xJ:=ah CQ;clear CQ;obtain ⟨-,-,c0,c1,c2,c3⟩:=xJ.o;cases R with
    | nil=>obtain rfl:k=kids.len:=(by simpa [aZ.len] using hlen);go_wp2_with fail;go_ret;exact ⟨bK HT.o.symm,xJ.o.1⟩
    | cons op' n' nm' gL rest=>
      obtain ⟨⟨b,off,nk,cap',rfl,jD,x0,x1,x2,x3,hok',lY⟩,hrest⟩:=hrow;obtain ⟨iW,qp⟩:=hall;have hlt:k < kids.len:=(by simp only [aZ.len] at hlen; omega);go_wp2_with fail;refine (iW _ _ _ hok' lY).mono ?_;rintro e w2 ⟨rfl,hb2⟩;have Nt:=ah (xJ.o.next hb2);have hrest':=hrest.same hb2;clear hb2 xJ hrest x0 x1 x2 x3 c0 c1 c2 c3 lY;cases hS:jH op' n' nm' gL
      ·have HF:=ah (HT.o.trans (by rw [oF,hS]; rfl:lI (.cons op' n' nm' gL rest)=false));go_wp2_with fail;go_ret;exact ⟨bK HF.o.symm,Nt.o.1⟩
      ·have HF:=ah (heq.trans (by rw [oF,hS]; rfl:lI (.cons op' n' nm' gL rest)=lI rest));go_wp2_with fail;go_roundw
       case rel=>exact ⟨k + 1,rest,by go_num,⟨by simp only [aZ.len] at hlen; omega,HF.o⟩,qp,hrest',Nt.o⟩
       case measure=>simp [intOf]; omega
  ·go_wp2_with fail;go_ret;exact ⟨bK HR.o.symm,HZ.o.1⟩
theorem xG (op n:Int) (nm:ByteArray) (kids:aZ):Ig op n nm kids:=aZ.zu Gd op n nm kids
theorem iY (p:Pr) (i:Int) (nm:ByteArray) (a b:Int) (w:World) (aB aD:Option Addr) (aA ay:Nat) (hi:bS i) (hp:p.At w aB aD):
 Calls Tryz.prog 97 #[.agg #[.slice aB p.ds.length aA,.slice aD p.ts.length ay],.int .i64 i,.string nm,.int .i64 a,.int .i64 b] w fun e w'=>e= .returned (.int .i64 (gF (conv (mean p i nm)) a b))∧Below w.heap.size w w':=by
 have HP:=ah hp;clear hp;go_enter Tryz.func97,Tryz.ntmps97;go_wp2_with fail;refine (UK p i nm _ aB aD aA ay hi (HP.o.same (ak _ _))).mono ?_;rintro e w2 ⟨rfl,hb2⟩;have HB:=ah ((ak w (.cells #[.slice aB p.ds.length aA,.slice aD p.ts.length ay] 26)).trans (hb2.mono (by simp)));clear hb2;have HE:aj (gF (conv (mean p i nm)) a b=if conv (mean p i nm) == 0 then 5 else if (conv (mean p i nm) != a) && (conv (mean p i nm) != b) then 6 else 0):=ah rfl;generalize hmm:conv (mean p i nm)=m at *;have HM:=ah hmm;clear hmm;go_wp2_with fail
 all_goals go_ret
 all_goals refine ⟨bF ?_,HB.o⟩
 all_goals rw [HM.o,HE.o]
 all_goals (go_light; grind)
def Ie (op n:Int) (nm:ByteArray) (kids:aZ):Prop:=
 ∀(w:World) (ao:Option Addr) (cap:Nat),sG op n nm kids->kids.At w w.heap.size ao 0->
  Calls Tryz.prog 116 #[.agg #[.int .i64 op,.int .i64 n,.string nm,.slice ao kids.len cap]] w fun e w'=>e= .returned (.tuple #[.int .i64 (ext kids).1,.int .i64 (ext kids).2])∧Below w.heap.size w w'
theorem UL (op n:Int) (nm:ByteArray) (kids:aZ) (ih:kids.All Ie):Ie op n nm kids:=by
 intro w ao cap hok hat;obtain ⟨-,-,-,hl⟩:=hok;unfold maxLen at hl;have oP:=ah ih;have HAT:=ah hat;clear ih hat;go_enter Tryz.func116,Tryz.ntmps116;go_upto_region 2 with fail;generalize hW:World.alloc w _=W;generalize Value.agg #[_,_,_,_]=a0;have HX:=ah ((Sit.start w).Ae rfl (.int .i64 op) (.int .i64 n) (.string nm) (.slice ao kids.len cap) 66);rw [hW] at HX;clear hW;go_wp2_with fail;go_loopw [4,5,6,7,8] (fun s4 s5 s _ _ wr=> ∃(k:Nat) (R:aZ) (a d:Int),s= .int .i64 k∧s4= .int .i64 a∧s5= .int .i64 d∧k + R.len=kids.len∧zi kids 1 0=zi R a d∧R.All Ie∧R.At wr wr.heap.size ao k∧Sit w wr [(w.heap.size,0,.int .i64 op),(w.heap.size,1,.int .i64 n),(w.heap.size,2,.string nm),(w.heap.size,3,.slice ao kids.len cap)]) (fun _ _ s _ _ _=>kids.len - (intOf s).toNat)
 case atStart=>exact ⟨0,kids,1,0,rfl,rfl,rfl,by simp,rfl,oP.o,HAT.o.same HX.o.1,HX.o⟩
 case round=>
  obtain ⟨k,R,a,d,rfl,rfl,rfl,hlen,heq,hall,hrow,hB⟩:=hrel;have HE:=ah heq;have HY:=ah hB;clear heq hB HX;obtain ⟨-,⟨-,c0⟩,⟨-,c1⟩,⟨-,c2⟩,⟨-,c3⟩,-⟩:=HY.o;cases R with
  | nil=>
    obtain rfl:k=kids.len:=by simpa [aZ.len] using hlen
    go_wp2_with fail
    go_ret2
    exact ⟨jN (ext_nil HE.o).1 (ext_nil HE.o).2,HY.o.1⟩
  | cons op' n' nm' gL rest=>
    obtain ⟨⟨b,off,nk,cap',rfl,jD,x0,x1,x2,x3,hok',lY⟩,hrest⟩:=hrow;obtain ⟨iW,qp⟩:=hall;have hlt:k < kids.len:=by simp only [aZ.len] at hlen; omega
    go_wp2_with fail;refine (iW _ _ _ hok' lY).mono ?_;rintro e w2 ⟨rfl,hb2⟩;have HB3:=ah hb2;clear hb2 x0 x1 x2 x3 c0 c1 c2 c3 lY;go_wp2_with fail;go_roundw
    case rel=>exact ⟨k + 1,rest,_,_,by go_num,rfl,rfl,by simp only [aZ.len] at hlen; omega,HE.o,qp,hrest.same HB3.o,HY.o.next HB3.o⟩
    case measure=>simp [intOf]; omega
theorem PX (op n:Int) (nm:ByteArray) (kids:aZ):Ie op n nm kids:=aZ.zu UL op n nm kids
def BO (p:Pr) (i:Int) (op n:Int) (nm:ByteArray) (kids:aZ):Prop:=
 ∀(w:World) (aB aD ao:Option Addr) (aA ay cap:Nat),bS i->p.At w aB aD->sG op n nm kids->kids.At w w.heap.size ao 0->
  Calls Tryz.prog 117 #[.agg #[.slice aB p.ds.length aA,.slice aD p.ts.length ay],.int .i64 i,.agg #[.int .i64 op,.int .i64 n,.string nm,.slice ao kids.len cap]] w fun e w'=>e= .returned (.int .i64 (xH p i op nm kids))∧Below w.heap.size w w'
theorem Oz (p:Pr) (i:Int) (op n:Int) (nm:ByteArray) (kids:aZ) (ih:kids.All (BO p i)):BO p i op n nm kids:=by
 intro w aB aD ao aA ay cap hi hp hok hat;obtain ⟨-,-,-,hl⟩:=hok;unfold maxLen at hl;have oP:=ah ih;have HAT:=ah hat;have HP:=ah hp;clear ih hat hp;go_enter Tryz.func117,Tryz.ntmps117;go_upto_region 1 with fail;generalize hW:World.alloc (World.alloc w _) _=W;generalize Value.agg #[_,_]=a0;generalize Value.agg #[_,_,_,_]=a1;have HX:=ah (((Sit.start w).yg rfl (.slice aB p.ds.length aA) (.slice aD p.ts.length ay) 26).Ae (n:=w.heap.size + 1) (by simp) (.int .i64 op) (.int .i64 n) (.string nm) (.slice ao kids.len cap) 66);rw [hW] at HX;clear hW;obtain ⟨-,⟨-,c0⟩,⟨-,c1⟩,⟨-,c2⟩,⟨-,c3⟩,⟨-,c4⟩,⟨-,c5⟩,-⟩:=HX.o;go_upto_block 0 with (fail);go_cut [7,10] (fun s7 _ W2=>s7= .int .i64 (pW p i op nm)∧Sit w W2 [(w.heap.size + 1,0,.int .i64 op),(w.heap.size + 1,1,.int .i64 n),(w.heap.size + 1,2,.string nm),(w.heap.size + 1,3,.slice ao kids.len cap),(w.heap.size,0,.slice aB p.ds.length aA),(w.heap.size,1,.slice aD p.ts.length ay)])
 case first=>
  cases h2:(op == 2)
  ·cases h3:(op == 3)
   ·have HE:aj (pW p i op nm=0):=ah (by unfold pW; rw [h2,h3]; rfl);go_wp2_with fail;go_meet;exact ⟨by rw [HE.o],HX.o⟩
   ·have HE:aj (pW p i op nm=gF (conv (mean p i nm)) 2 2):=ah (by unfold pW; rw [h2,h3]; exact (RL _ 3 (BU p i nm) (by decide)).symm);go_wp2_with fail;refine (iY p i nm 2 2 _ aB aD aA ay hi (HP.o.same HX.o.1)).mono ?_;rintro e w2 ⟨rfl,hb2⟩;go_wp2_with fail;go_meet;exact ⟨by rw [HE.o],HX.o.next hb2⟩
  ·have HE:aj (pW p i op nm=gF (conv (mean p i nm)) 8 1):=ah (by unfold pW; rw [h2]; exact (RN _ 1 2 (BU p i nm) (by decide) (by decide)).symm);go_wp2_with fail;refine (iY p i nm 8 1 _ aB aD aA ay hi (HP.o.same HX.o.1)).mono ?_;rintro e w2 ⟨rfl,hb2⟩;go_wp2_with fail;go_meet;exact ⟨by rw [HE.o],HX.o.next hb2⟩
 case rest=>
  obtain ⟨rfl,hX⟩:=hcut;have HY:=ah hX;clear hX HX c0 c1 c2 c3 c4 c5;have HR:aj (xH p i op nm kids=if pW p i op nm == 0 then rJ p i kids else pW p i op nm):=ah rfl;generalize pW p i op nm=r0 at *;go_wp2_with fail;go_loopw [7,8] (fun s7 s8 wr=> ∃(k:Nat) (R:aZ) (r:Int),s8= .int .i64 k∧s7= .int .i64 r∧k + R.len=kids.len∧xH p i op nm kids=(if r == 0 then rJ p i R else r)∧R.All (BO p i)∧R.At wr wr.heap.size ao k∧Sit w wr [(w.heap.size + 1,0,.int .i64 op),(w.heap.size + 1,1,.int .i64 n),(w.heap.size + 1,2,.string nm),(w.heap.size + 1,3,.slice ao kids.len cap),(w.heap.size,0,.slice aB p.ds.length aA),(w.heap.size,1,.slice aD p.ts.length ay)]) (fun _ s _=>kids.len - (intOf s).toNat)
  case atStart=>exact ⟨0,kids,r0,rfl,rfl,by simp,HR.o,oP.o,HAT.o.same HY.o.1,HY.o⟩
  case round=>
   obtain ⟨k,R,r,rfl,rfl,hlen,heq,hall,hrow,hsit⟩:=hrel;have HE:=ah heq;have HZ:=ah hsit;clear heq hsit;obtain ⟨-,⟨-,c0⟩,⟨-,c1⟩,⟨-,c2⟩,⟨-,c3⟩,⟨-,c4⟩,⟨-,c5⟩,-⟩:=HZ.o;cases R with
   | nil=>obtain rfl:k=kids.len:=(by simpa [aZ.len] using hlen);go_wp2_with fail;go_ret;exact ⟨bF (HE.o.trans (by cases h:(r == 0) <;> simp_all [rJ])).symm,HZ.o.1⟩
   | cons op' n' nm' gL rest=>
     obtain ⟨⟨b,off,nk,cap',rfl,jD,x0,x1,x2,x3,hok',lY⟩,hrest⟩:=hrow;obtain ⟨iW,qp⟩:=hall;have hlt:k < kids.len:=(by simp only [aZ.len] at hlen; omega);cases hr:(r == 0)
     ·have cZ:=ah (HE.o.trans (by rw [hr]; rfl:_=r));go_wp2_with fail;go_ret;exact ⟨bF cZ.o.symm,HZ.o.1⟩
     ·have cZ:=ah (HE.o.trans (by rw [hr]; rfl:_=rJ p i (.cons op' n' nm' gL rest)));go_wp2_with fail;obtain ⟨T,F,Bc,hst,hF,hnext⟩:=calm wr;have HF:=ah hF;have cO:=ah hnext;clear hnext hF;have d0:=fun x=>(HZ.o.next (HF.o x)).2.1.2;have d1:=fun x=>(HZ.o.next (HF.o x)).2.2.1.2;have d2:=fun x=>(HZ.o.next (HF.o x)).2.2.2.1.2;have d3:=fun x=>(HZ.o.next (HF.o x)).2.2.2.2.1.2;have d4:=fun x=>(HZ.o.next (HF.o x)).2.2.2.2.2.1.2;have d5:=fun x=>(HZ.o.next (HF.o x)).2.2.2.2.2.2.1.2;have y0:=fun x=>((HF.o x).cell (p:=⟨b,off + k * 4,none⟩) jD).trans x0;have y1:=fun x=>((HF.o x).cell (p:=⟨b,off + k * 4 + 1,none⟩) jD).trans x1;have y2:=fun x=>((HF.o x).cell (p:=⟨b,off + k * 4 + 2,none⟩) jD).trans x2;have y3:=fun x=>((HF.o x).cell (p:=⟨b,off + k * 4 + 3,none⟩) jD).trans x3;clear c0 c1 c2 c3 c4 c5 x0 x1 x2 x3;have hk0:(0:Int)<=k:=(by omega);have hk1:(k:Int) < kids.len:=(by omega);refine je F (by kernel_rfl) (by kernel_rfl) hst ?_
      repeat (any_goals (first | go_big_quiet_step ((go_at_call 117; refine (iW _ aB aD nk aA ay cap' hi ((HP.o.same HZ.o.1).same (HF.o _)) hok' (lY.same (HF.o _))).mono ?_; rintro e w' ⟨rfl,hb⟩; exact ⟨rfl,cO.o _ _ hb⟩)) | (refine wpQuiet_step (fun K hK=> ?_); go_simp; first | (refine hK _ ?_; clear hK K) | (split <;> first | (refine hK _ ?_; clear hK K) | (apply Exists.intro; refine ⟨fun _=> ?_,hK _ ?_⟩; ((go_at_call 117; refine (iW _ aB aD nk aA ay cap' hi ((HP.o.same HZ.o.1).same (HF.o _)) hok' (lY.same (HF.o _))).mono ?_; rintro e w' ⟨rfl,hb⟩; exact ⟨rfl,cO.o _ _ hb⟩)); clear hK K)))))
      all_goals (refine wpQuiet_nil ?_; rintro _ ⟨x,rfl⟩)
      have HB2:=ah (HF.o x);clear d0 d1 d2 d3 d4 d5 y0 y1 y2 y3 HF cO hst;generalize F x=W2 at *;go_wp2_with fail;go_roundw
      case rel=>exact ⟨k + 1,rest,_,by go_num,rfl,by simp only [aZ.len] at hlen; omega,cZ.o.trans (Hf p i op' n' nm' gL rest),qp,hrest.same HB2.o,HZ.o.next HB2.o⟩
      case measure=>simp [intOf]; omega
theorem PW (p:Pr) (i:Int) (op n:Int) (nm:ByteArray) (kids:aZ):BO p i op n nm kids:=aZ.zu (Oz p i) op n nm kids
theorem jw (p:Pr) (i:Int) (op n:Int) (nm:ByteArray) (kids:aZ) (w:World) (aB aD ao:Option Addr) (aA ay cap:Nat) (hi:bS i) (hp:p.At w aB aD) (hok:sG op n nm kids) (hat:kids.At w w.heap.size ao 0):
 Calls Tryz.prog 98 #[.agg #[.slice aB p.ds.length aA,.slice aD p.ts.length ay],.int .i64 i,.agg #[.int .i64 op,.int .i64 n,.string nm,.slice ao kids.len cap]] w fun e w'=>e= .returned (.int .i64 (jT p i op n nm kids))∧Below w.heap.size w w':=by
 have HAT:=ah hat;have HP:=ah hp;clear hat hp;go_enter Tryz.func98,Tryz.ntmps98;go_upto_region 1 with fail;generalize hW:World.alloc (World.alloc w _) _=W;generalize Value.agg #[_,_]=a0;generalize Value.agg #[_,_,_,_]=a1;have HX:=ah (((Sit.start w).yg rfl (.slice aB p.ds.length aA) (.slice aD p.ts.length ay) 26).Ae (n:=w.heap.size + 1) (by simp) (.int .i64 op) (.int .i64 n) (.string nm) (.slice ao kids.len cap) 66);rw [hW] at HX;clear hW;obtain ⟨-,⟨-,c0⟩,⟨-,c1⟩,⟨-,c2⟩,⟨-,c3⟩,⟨-,c4⟩,⟨-,c5⟩,-⟩:=HX.o;go_wp2_with fail;refine (xG op n nm kids _ ao cap hok (HAT.o.same HX.o.1)).mono ?_;rintro e w1 ⟨rfl,hb1⟩;have HY:=ah (HX.o.next hb1);clear HX hb1 c0 c1 c2 c3 c4 c5;obtain ⟨-,⟨-,c0⟩,⟨-,c1⟩,⟨-,c2⟩,⟨-,c3⟩,⟨-,c4⟩,⟨-,c5⟩,-⟩:=HY.o;cases hS:jH op n nm kids
 ·have HE:aj (jT p i op n nm kids=3):=ah (by unfold jT; rw [hS]; rfl);go_wp2_with fail;go_ret;exact ⟨bF HE.o.symm,HY.o.1⟩
 ·have HE:aj (jT p i op n nm kids=if decide (24 < (ext kids).1) || decide (6 < (ext kids).2) then 2 else xH p i op nm kids):=ah (by unfold jT; rw [hS]; rfl);go_wp2_with fail;refine (PX op n nm kids _ ao cap hok (HAT.o.same HY.o.1)).mono ?_;rintro e w2 ⟨rfl,hb2⟩;have HZ:=ah (HY.o.next hb2);clear HY hb2 c0 c1 c2 c3 c4 c5;obtain ⟨-,⟨-,c0⟩,⟨-,c1⟩,⟨-,c2⟩,⟨-,c3⟩,⟨-,c4⟩,⟨-,c5⟩,-⟩:=HZ.o;generalize (ext kids).1=a at *;generalize (ext kids).2=d at *;cases h1:decide (24 < a)
  ·cases h2:decide (6 < d)
   ·have cZ:=ah (HE.o.trans (by rw [h1,h2]; rfl:_=xH p i op nm kids));have q1:a<=24:=(by simpa using h1);have q2:d<=6:=(by simpa using h2);go_wp2_with fail;refine (PW p i op n nm kids _ aB aD ao aA ay cap hi (HP.o.same HZ.o.1) hok (HAT.o.same HZ.o.1)).mono ?_;rintro e w3 ⟨rfl,hb3⟩;go_wp2_with fail;go_ret;exact ⟨bF cZ.o.symm,(HZ.o.next hb3).1⟩
   ·have cZ:=ah (HE.o.trans (if_pos (by rw [h1,h2]; rfl)));have q1:a<=24:=(by simpa using h1);have q2:6 < d:=(by simpa using h2);go_wp2_with fail;go_ret;exact ⟨bF cZ.o.symm,HZ.o.1⟩
  ·have cZ:=ah (HE.o.trans (if_pos (by rw [h1]; rfl)));have q1:24 < a:=by simpa using h1
   go_wp2_with fail;go_ret;exact ⟨bF cZ.o.symm,HZ.o.1⟩
theorem NT (ds:List De) (nm:ByteArray):(Ac ds nm= -1∧pz ds nm.toList=false)∨ ∃j:Nat,Ac ds nm=(j:Int)∧pz ds nm.toList=true:=by
 rcases qG (fun d:De=>d.nm.toList == nm.toList) ds 0 with ⟨h1,h2,h3⟩ | ⟨j,d,r,h0,h1,h2,h3,h4⟩
 ·exact Or.inl ⟨h1,h3⟩
 ·exact Or.inr ⟨j,by rw [<- Nat.zero_add j]; exact h1,h4⟩
theorem NU (ts:List Th) (nm:ByteArray):(rF ts nm= -1∧oJ ts nm.toList=false)∨ ∃j:Nat,rF ts nm=(j:Int)∧oJ ts nm.toList=true:=by
 rcases qG (fun d:Th=>d.nm.toList == nm.toList) ts 0 with ⟨h1,h2,h3⟩ | ⟨j,d,r,h0,h1,h2,h3,h4⟩
 ·exact Or.inl ⟨h1,h3⟩
 ·exact Or.inr ⟨j,by rw [<- Nat.zero_add j]; exact h1,h4⟩
theorem Gl (ts:List ByteArray) (nm:ByteArray):(JM ts nm= -1∧oH ts nm.toList=false)∨ ∃j:Nat,JM ts nm=(j:Int)∧oH ts nm.toList=true:=by
 rcases qG (fun d:ByteArray=>d.toList == nm.toList) ts 0 with ⟨h1,h2,h3⟩ | ⟨j,d,r,h0,h1,h2,h3,h4⟩
 ·exact Or.inl ⟨h1,h3⟩
 ·exact Or.inr ⟨j,by rw [<- Nat.zero_add j]; exact h1,h4⟩
theorem MG (p:Pr) (w:World) (aB aD:Option Addr) (aA ay:Nat) (hp:p.At w aB aD) (Li:p.ts.length<=ay):
 Calls Tryz.prog 33 #[.agg #[.slice aB p.ds.length aA,.slice aD p.ts.length ay]] w fun e w'=>e= .returned (.tuple #[.int .i64 (lW p).1,.int .i64 (lW p).2])∧Below w.heap.size w w':=by
 have HR:aj (lW p=match wG p.ds p.ts [] with | some l=>(4,l) | none=>Bh p.ds p.ts p.ts):=ah rfl;generalize lW p=res at *;have hld:=hp.1;have hlt:=hp.2.1;have Vj:=hp.1;have hlt':=hp.2.1;unfold maxLen at hld hlt;have HP:=ah hp;clear hp;go_enter Tryz.func33,Tryz.ntmps33;go_upto_region 1 with fail;generalize hW:World.alloc w _=W;generalize Value.agg #[_,_]=a0;have HX:=ah ((Sit.start w).yg rfl (.slice aB p.ds.length aA) (.slice aD p.ts.length ay) 26);rw [hW] at HX;clear hW;go_wp2_with fail;go_loopg [4,5] p.ts.length (fun g s _ wr=> ∃(k:Nat) (pre R:List Th),g=R.length∧s= .int .i64 k∧pre++R=p.ts∧pre.length=k∧wG p.ds p.ts []=wG p.ds R pre∧Sit w wr [(w.heap.size,0,(.slice aB p.ds.length aA)),(w.heap.size,1,(.slice aD p.ts.length ay))])
 case atStart=>exact ⟨0,[],p.ts,rfl,rfl,rfl,rfl,rfl,HX.o⟩
 case round=>
  obtain ⟨k,pre,R,rfl,rfl,hds,hk,heq,hsit⟩:=hrel;have HU:=ah hsit;have HE:=ah heq;clear hsit heq HX;have hlen:k + R.length=p.ts.length:=by rw [<- hds,List.length_append,hk]
  have hrow:=(HP.o.2.2.2.below HU.o.1).drop k;rw [Nat.zero_add,<- hds,<- hk,List.drop_left] at hrow;rw [hk] at hrow;have yE:=ah ((hds ▸ HP.o.2.2.2:iN w w.heap.size (pre++R) aD 0).take);have wT:=ah hds;have HK:=ah hk;clear hds hk;cases R with
  | cons t R=>
    obtain ⟨⟨b,off,iK,fq,cu,bJ,rfl,hB,x0,x1,x2,x3,hok,htx,hst⟩,-⟩:=hrow;simp only [List.length_cons] at hlen;have hkl:k < p.ts.length:=by omega
    clear htx hst;obtain ⟨-,⟨-,c0⟩,⟨-,c1⟩,-⟩:=HU.o;go_upto_region 5 with fail;clear c0 c1;obtain ⟨nb,hnb⟩: ∃n,wr.heap.size=n:=⟨_,rfl⟩;generalize hW2:World.alloc wr _=W2;have HY:aj (Sit w W2 ((nb,0,.string t.nm) ::(nb,1,.int .i64 t.line) ::(nb,2,.slice iK t.bM.length fq) ::(nb,3,.slice cu t.body.len bJ) ::[(w.heap.size,0,(.slice aB p.ds.length aA)),(w.heap.size,1,(.slice (some ⟨b,off,none⟩) p.ts.length ay))])):=ah (by rw [<- hW2]; exact HU.o.Ae hnb _ _ _ _ _);rw [hnb];clear hW2 hnb x0 x1 x2 x3 HU;obtain ⟨-,⟨-,c0⟩,⟨-,c1⟩,⟨-,c2⟩,⟨-,c3⟩,⟨-,c4⟩,⟨-,c5⟩,-⟩:=HY.o;have hpl:pre.length<=maxLen:=by rw [HK.o]; omega
    have yS:aj (∀nq:Nat,Calls Tryz.prog 61 #[.slice aB p.ds.length aA,.string t.nm] (W2.drewN nq) fun e w'=>e= .returned (.int .i64 (Ac p.ds t.nm))∧W2.drewN nq=w'):=ah (fun nq=>by have hb':=below_drewN (n:=nq) HY.o.1;exact qg p.ds t.nm (W2.drewN nq) aB aA Vj ((HP.o.2.2.1.below hb').mono hb'.size));have J8:aj (∀nq:Nat,Calls Tryz.prog 62 #[.slice (some ⟨b,off,none⟩) k ay,.string t.nm] (W2.drewN nq) fun e w'=>e= .returned (.int .i64 (rF pre t.nm))∧W2.drewN nq=w'):=ah (fun nq=>by have hb':=below_drewN (n:=nq) HY.o.1;have:=iT pre t.nm (W2.drewN nq) (some ⟨b,off,none⟩) ay hpl ((yE.o.below hb').mono hb'.size);rw [HK.o] at this;exact this);have hk0:(0:Int)<=k:=by omega
    have hk1:(k:Int)<=ay:=by omega
    have hk2:k<=ay:=by omega
    go_cut [37] (fun s' W3=>s'= .bool (pz p.ds t.nm.toList || oJ pre t.nm.toList)∧Sit w W3 ((nb,0,.string t.nm) ::(nb,1,.int .i64 t.line) ::(nb,2,.slice iK t.bM.length fq) ::(nb,3,.slice cu t.body.len bJ) ::[(w.heap.size,0,(.slice aB p.ds.length aA)),(w.heap.size,1,(.slice (some ⟨b,off,none⟩) p.ts.length ay))]))
    case first=>
     as_aux_lemma=>
      rcases NT p.ds t.nm with ⟨e1,e2⟩ | ⟨j,e1,e2⟩
      ·rw [e1] at yS;rcases NU pre t.nm with ⟨e3,e4⟩ | ⟨j',e3,e4⟩
       all_goals rw [e3] at J8;have HF:=ah e2;have HG:=ah e4;clear e1 e2 e3 e4;go_quiet (first | (go_at_call 61; exact ou (yS.o _)) | (go_at_call 62; exact ou (J8.o _)));go_wp2_with fail;go_meet;exact ⟨by rw [HF.o,HG.o]; rfl,HY.o.draws _⟩
      ·rw [e1] at yS;have HF:=ah e2;have hj:decide ((j:Int) ≥ 0)=true:=(by simp);clear e1 e2;go_quiet (first | (go_at_call 61; exact ou (yS.o _)) | (go_at_call 62; exact ou (J8.o _)));go_wp2_with fail;go_meet;exact ⟨by rw [HF.o]; rfl,HY.o.draws _⟩
    obtain ⟨rfl,hX⟩:=hcut;have HZ:=ah hX;have HB3:=ah hX.1;clear hX HY yS J8 c0 c1 c2 c3 c4 c5;cases vY:(pz p.ds t.nm.toList || oJ pre t.nm.toList)
    ·have cZ:=ah (HE.o.trans (if_neg (by rw [vY]; decide)));go_wp2_with fail;go_roundg R.length
     case measure=>simp
     case rel=>exact ⟨k + 1,pre++[t],R,rfl,by go_num,by rw [List.append_assoc]; exact wT.o,by rw [List.length_append,HK.o]; rfl,cZ.o,⟨HZ.o.1,HZ.o.2.2.2.2.2⟩⟩
    ·have HF:aj (res=(4,t.line)):=ah (HR.o.trans (by rw [HE.o.trans (if_pos vY)]));obtain ⟨-,⟨-,c0⟩,⟨-,c1⟩,⟨-,c2⟩,⟨-,c3⟩,⟨-,c4⟩,⟨-,c5⟩,-⟩:=HZ.o;go_wp2_with fail;go_quiet (fail);go_wp2_with fail
     go_ret2
     exact ⟨jN (congrArg Prod.fst HF.o) (congrArg Prod.snd HF.o),below_drewN HB3.o _⟩
  | nil=>
    obtain rfl:k=p.ts.length:=by simpa using hlen
    have HR2:aj (res=Bh p.ds p.ts p.ts):=ah (HR.o.trans (by rw [HE.o]; rfl));clear hrow hlen wT HK HE HR yE;have hth:=HP.o.2.2.2.below HU.o.1;obtain ⟨-,⟨-,c0⟩,⟨-,c1⟩,-⟩:=HU.o;go_wp2_with fail;go_loopg [6,7,8,9] p.ts.length (fun g s _ _ _ wr=> ∃(k:Nat) (R:List Th),g=R.length∧s= .int .i64 k∧k + R.length=p.ts.length∧Bh p.ds p.ts p.ts=Bh p.ds p.ts R∧iN wr w.heap.size R aD k∧Sit w wr [(w.heap.size,0,(.slice aB p.ds.length aA)),(w.heap.size,1,(.slice aD p.ts.length ay))])
    case atStart=>exact ⟨0,p.ts,rfl,rfl,by simp,rfl,hth,HU.o⟩
    case round=>
     obtain ⟨k,R,rfl,rfl,hlen,heq,hrow,hsit⟩:=hrel;have HV:=ah hsit;have HE:=ah (HR2.o.trans heq);have FR:=ah heq;clear hsit HU c0 c1 heq hth;obtain ⟨-,⟨-,c0⟩,⟨-,c1⟩,-⟩:=HV.o;cases R with
     | nil=>
       obtain rfl:k=p.ts.length:=(by simpa using hlen);have HF:=ah (HE.o.trans (rfl:_=((0:Int),(0:Int))));go_wp2_with fail
       go_ret2
       exact ⟨jN (congrArg Prod.fst HF.o) (congrArg Prod.snd HF.o),HV.o.1⟩
     | cons t R=>
       obtain ⟨⟨b,off,iK,fq,cu,bJ,rfl,hB,x0,x1,x2,x3,hok,htx,hst⟩,hrest⟩:=hrow;simp only [List.length_cons] at hlen;have hkl:k < p.ts.length:=(by omega);have bt5:=hok.2.2.1;have hll:=hok.2.2.1;have hcl:=hst.2;unfold maxLen at hll;clear hst hok;go_upto_region 11 with fail;clear c0 c1;obtain ⟨nb,hnb⟩: ∃n,wr.heap.size=n:=⟨_,rfl⟩;generalize hW2:World.alloc wr _=W2;have HY:aj (Sit w W2 ((nb,0,.string t.nm) ::(nb,1,.int .i64 t.line) ::(nb,2,.slice iK t.bM.length fq) ::(nb,3,.slice cu t.body.len bJ) ::[(w.heap.size,0,(.slice aB p.ds.length aA)),(w.heap.size,1,(.slice (some ⟨b,off,none⟩) p.ts.length ay))])):=ah (by rw [<- hW2]; exact HV.o.Ae hnb _ _ _ _ _);have mZ:aj (Below wr.heap.size wr W2):=ah (by rw [<- hW2]; exact ak _ _);have KI:=ah (htx.below (mZ.o.mono HV.o.1.size));have ko:=ah (hrest.below (mZ.o.mono HV.o.1.size));have HB3:=ah HY.o.1;rw [hnb];clear hW2 hnb x0 x1 x2 x3 HV htx hrest mZ;obtain ⟨-,⟨-,c0⟩,⟨-,c1⟩,⟨-,c2⟩,⟨-,c3⟩,⟨-,c4⟩,⟨-,c5⟩,-⟩:=HY.o;cases h1:decide ((4:Int) < t.bM.length)
       case true=>
        as_aux_lemma=>
         have HF:=ah (HE.o.trans (if_pos h1));have h1':4 < t.bM.length:=(by simp at h1; omega);clear h1;go_wp2_with fail;go_quiet (fail);go_wp2_with fail
         go_ret2
         exact ⟨jN (congrArg Prod.fst HF.o) (congrArg Prod.snd HF.o),below_drewN HB3.o _⟩
       have HE2:=ah (HE.o.trans (if_neg (by rw [h1]; decide)));have sS:=ah (FR.o.trans (if_neg (by rw [h1]; decide)));have h1':t.bM.length<=4:=(by simp at h1; omega);clear HE FR h1;go_wp2_with fail;go_loopg [8,9] t.bM.length (fun g s _ wx=>W2=wx∧ ∃(k':Nat) (pre R':List ByteArray),g=R'.length∧s= .int .i64 k'∧pre++R'=t.bM∧pre.length=k'∧uP p.ds p.ts t.bM []=uP p.ds p.ts R' pre)
       case atStart=>exact ⟨rfl,0,[],t.bM,rfl,rfl,rfl,rfl,rfl⟩
       case round=>
        obtain ⟨rfl,k',pre,R',rfl,rfl,hds,hk',heq'⟩:=hrel;have cZ:=ah heq';have hlen':k' + R'.length=t.bM.length:=(by rw [<- hds,List.length_append,hk']);have hrow:=KI.o.drop k';rw [Nat.zero_add,<- hds,<- hk',List.drop_left] at hrow;rw [hk'] at hrow;have yE:=ah ((hds ▸ KI.o:fP W2 w.heap.size (pre++R') iK 0).take);have wT:=ah hds;have HK:=ah hk';clear hds hk' heq';cases R' with
        | nil=>
          obtain rfl:k'=t.bM.length:=(by simpa using hlen');have HF:=ah (sS.o.trans (if_neg (by rw [cZ.o]; simp [uP])));go_wp2_with fail;go_roundg R.length
          case measure=>simp
          case rel=>exact ⟨k + 1,R,rfl,by go_num,by omega,HF.o,ko.o,⟨HY.o.1,HY.o.2.2.2.2.2⟩⟩
        | cons s R'=>
          obtain ⟨⟨b',off',rfl,hB',y0,hs⟩,-⟩:=hrow;simp only [List.length_cons] at hlen';have hkl':k' < t.bM.length:=(by omega);have HL:aj (uP p.ds p.ts t.bM []=((pz p.ds s.toList || oJ p.ts s.toList) || oH pre s.toList || uP p.ds p.ts R' (pre++[s]))):=ah (cZ.o.trans (by rw [uP]));have hpl:pre.length<=maxLen:=(by rw [HK.o]; omega);have yS:=ah (qg p.ds s W2 aB aA Vj ((HP.o.2.2.1.below HY.o.1).mono HY.o.1.size));have J8:=ah (iT p.ts s W2 (some ⟨b,off,none⟩) ay hlt' ((HP.o.2.2.2.below HY.o.1).mono HY.o.1.size));have Jb:=ah (jI pre s W2 (some ⟨b',off',none⟩) fq hpl (yE.o.mono HY.o.1.size));rw [HK.o] at Jb;have hk0:(0:Int)<=k':=(by omega);have hk1:(k':Int)<=fq:=(by omega);have hk2:k'<=fq:=(by omega);clear cZ;go_upto_region 17 with fail;go_cut [90] (fun s' W3=>W2=W3∧s'= .bool ((pz p.ds s.toList || oJ p.ts s.toList) || oH pre s.toList))
          case first=>
           as_aux_lemma=>
            rcases NT p.ds s with ⟨e1,e2⟩ | ⟨j,e1,e2⟩
            ·rcases NU p.ts s with ⟨e3,e4⟩ | ⟨j,e3,e4⟩
             ·rcases Gl pre s with ⟨e5,e6⟩ | ⟨j,e5,e6⟩
              all_goals rw [e1] at yS;rw [e3] at J8;rw [e5] at Jb;have HF:aj (pz p.ds s.toList=false∧oJ p.ts s.toList=false∧oH pre s.toList=_):=ah ⟨e2,e4,e6⟩;clear e1 e2 e3 e4 e5 e6;go_wp2_with (first | (go_at_call 61; refine yS.o.mono ?_; rintro e w' ⟨rfl,rfl⟩) | (go_at_call 62; refine J8.o.mono ?_; rintro e w' ⟨rfl,rfl⟩) | (go_at_call 63; refine Jb.o.mono ?_; rintro e w' ⟨rfl,rfl⟩));go_meet;exact ⟨rfl,by rw [HF.o.1,HF.o.2.1,HF.o.2.2]; rfl⟩
             ·rw [e1] at yS;rw [e3] at J8;have HF:aj (pz p.ds s.toList=false∧oJ p.ts s.toList=true):=ah ⟨e2,e4⟩;clear e1 e2 e3 e4;go_wp2_with (first | (go_at_call 61; refine yS.o.mono ?_; rintro e w' ⟨rfl,rfl⟩) | (go_at_call 62; refine J8.o.mono ?_; rintro e w' ⟨rfl,rfl⟩));go_meet;exact ⟨rfl,by rw [HF.o.1,HF.o.2]; rfl⟩
            ·rw [e1] at yS;have HF:=ah e2;clear e1 e2;go_wp2_with (go_at_call 61; refine yS.o.mono ?_; rintro e w' ⟨rfl,rfl⟩);go_meet;exact ⟨rfl,by rw [HF.o]; rfl⟩
          obtain ⟨rfl,rfl⟩:=hcut;clear yS J8 Jb;cases vY:((pz p.ds s.toList || oJ p.ts s.toList) || oH pre s.toList)
          ·have HF:aj (uP p.ds p.ts t.bM []=uP p.ds p.ts R' (pre++[s])):=ah (HL.o.trans (by rw [vY]; rfl));go_wp2_with fail;go_roundg R'.length
           case measure=>simp
           case rel=>exact ⟨rfl,k' + 1,pre++[s],R',rfl,by go_num,by rw [List.append_assoc]; exact wT.o,by rw [List.length_append,HK.o]; rfl,HF.o⟩
          ·have HF:=ah (HE2.o.trans (if_pos (by rw [HL.o,vY]; rfl)));go_wp2_with fail;go_quiet (fail);go_wp2_with fail
           go_ret2
           exact ⟨jN (congrArg Prod.fst HF.o) (congrArg Prod.snd HF.o),below_drewN HB3.o _⟩
def A8 (l:aH):Prop:= ∀(w:World) (ao:Option Addr) (cap:Nat),l.len<=maxLen->l.At w w.heap.size ao 0->
 Calls Tryz.prog 34 #[.slice ao l.len cap] w fun e w'=>e= .returned (.int .i64 (CG l))∧Below w.heap.size w w'
theorem DK (l:aH) (hall:l.All fun _ b e=>A8 b∧A8 e):A8 l:=by
 intro w ao cap hl hat;generalize hres:CG l=res;have HR:=ah hres;have HAT:=ah hat;have jA:=ah hall;unfold maxLen at hl;clear hres hat hall;go_enter Tryz.func34,Tryz.ntmps34;go_wp2_with fail;go_loopw [3,4] (fun s3 s wr=> ∃(k:Nat) (R:aH) (n:Int),s= .int .i64 k∧s3= .int .i64 n∧k + R.len=l.len∧res=yj R n∧(R.All fun _ b e=>A8 b∧A8 e)∧R.At wr wr.heap.size ao k∧Below w.heap.size w wr) (fun _ s _=>l.len - (intOf s).toNat)
 case atStart=>exact ⟨0,l,l.len,rfl,rfl,by simp,HR.o.symm,jA.o,HAT.o,Below.refl _ _⟩
 case round=>
  obtain ⟨k,R,n,rfl,rfl,hlen,heq,qp,hrow,hB⟩:=hrel;have HE:=ah heq;have HB:=ah hB;clear heq hB;cases R with
  | nil=>
    obtain rfl:k=l.len:=by simpa [aH.len] using hlen
    go_wp2_with fail;go_ret;exact ⟨bF HE.o.symm,HB.o⟩
  | cons h b e R=>
    obtain ⟨bl,off,s,rfl,hbl,hin,-,-,-,-,-,-,-,-,-,x9,x10,hrest⟩:=aH.At.head hrow;obtain ⟨⟨hsb,hse⟩,CP⟩:=qp;have dF:=ah hsb;have Eb:=ah hse;have fu:=ah hin;have hkl:k < l.len:=by simp only [aH.len] at hlen; omega
    have hk0:(0:Int)<=k:=by omega
    have hk1:(k:Int) < l.len:=by omega
    clear hrow hin hsb hse;go_wp2_with fail;obtain ⟨T,F,Bc,hst,hF,hnext⟩:=calm wr;have HF:=ah hF;have cO:=ah hnext;clear hF hnext;have y9:=fun x=>((HF.o x).cell (p:=⟨bl,off + k * 11 + 9,none⟩) hbl).trans x9;have jP:=fun x=>((HF.o x).cell (p:=⟨bl,off + k * 11 + 10,none⟩) hbl).trans x10;clear x9 x10;refine je F (by kernel_rfl) (by kernel_rfl) hst ?_
    repeat (any_goals (first | go_big_quiet_step ((first | (go_at_call_of 34 (Value.slice s.cu b.len s.bJ); refine (dF.o _ s.cu s.bJ fu.o.1.2.2.2.2.2.2.1 (fu.o.same (HF.o _)).2.2.2.1).mono ?_; rintro e w' ⟨rfl,hb⟩; exact ⟨rfl,cO.o _ _ hb⟩) | (go_at_call_of 34 (Value.slice s.gH e.len s.eB); refine (Eb.o _ s.gH s.eB fu.o.1.2.2.2.2.2.2.2 (fu.o.same (HF.o _)).2.2.2.2).mono ?_; rintro e w' ⟨rfl,hb⟩; exact ⟨rfl,cO.o _ _ hb⟩))) | (refine wpQuiet_step (fun K hK=> ?_); go_simp; first | (refine hK _ ?_; clear hK K) | (split <;> first | (refine hK _ ?_; clear hK K) | (apply Exists.intro; refine ⟨fun _=> ?_,hK _ ?_⟩; ((first | (go_at_call_of 34 (Value.slice s.cu b.len s.bJ); refine (dF.o _ s.cu s.bJ fu.o.1.2.2.2.2.2.2.1 (fu.o.same (HF.o _)).2.2.2.1).mono ?_; rintro e w' ⟨rfl,hb⟩; exact ⟨rfl,cO.o _ _ hb⟩) | (go_at_call_of 34 (Value.slice s.gH e.len s.eB); refine (Eb.o _ s.gH s.eB fu.o.1.2.2.2.2.2.2.2 (fu.o.same (HF.o _)).2.2.2.2).mono ?_; rintro e w' ⟨rfl,hb⟩; exact ⟨rfl,cO.o _ _ hb⟩))); clear hK K)))))
    all_goals (refine wpQuiet_nil ?_; rintro _ ⟨x,rfl⟩)
    have HB2:=ah (HF.o x);clear y9 jP HF cO hst;generalize F x=W3 at *;go_wp2_with fail;go_roundw
    case rel=>exact ⟨k + 1,R,_,by go_num,rfl,by simp only [aH.len] at hlen; omega,HE.o.trans (show yj R (wrap64 (n + (CG b + CG e)))=_ by rw [<- wrap_in']),CP,hrest.same HB2.o,HB.o.trans (HB2.o.mono HB.o.size)⟩
    case measure=>simp [intOf]; omega
theorem PU (l:aH):A8 l:=DK l (aH.nV (fun _ b e hb he=>⟨DK b hb,DK e he⟩) l)
theorem Tq (pre:List De) (nm:ByteArray):(Ac pre nm= -1∧mD pre nm.toList=0)∨ ∃(j:Nat) (d:De) (r:List De),j < pre.length∧Ac pre nm=(j:Int)∧pre.drop j=d ::r∧mD pre nm.toList=eH d:=by
 unfold Ac mD;rcases qG (fun d:De=>d.nm.toList == nm.toList) pre 0 with ⟨h1,h2,h3⟩ | ⟨j,d,r,h0,h1,h2,h3,h4⟩
 ·exact Or.inl ⟨h1,by rw [h2]; rfl⟩
 ·exact Or.inr ⟨j,d,r,h0,by rw [h1,Nat.zero_add],h2,by rw [h3]; rfl⟩
theorem RY {d:De} :(eH d != 4)=(d.kind != 3):=by unfold eH; grind
def ai6 (ds:List De) (w:World) (res:Int × Int) (g:Nat) (s4 s5 s6 s7 s8:Value) (wr:World):Prop:=
 ∃(k:Nat) (pre R:List De) (c l n f:Int),g=R.length∧s8= .int .i64 k∧pre++R=ds∧pre.length=k∧s4= .int .i64 c∧s5= .int .i64 l∧s6= .int .i64 n∧s7= .int .i64 f∧
  (0<=c∧c<=12∧0<=l∧l<=4∧0<=n∧n<=2∧0<=f∧f<=2)∧res=mW R pre c l n f∧Below w.heap.size w wr
theorem PV (ds:List De) (w:World) (ao:Option Addr) (cap:Nat) (hl:ds.length<=maxLen) (hcap:ds.length<=cap) (hat:jW w w.heap.size ds ao 0) (hsh: ∀d ∈ ds,jd d=true):
 Calls Tryz.prog 32 #[.slice ao ds.length cap] w fun e w'=>e= .returned (.tuple #[.int .i64 (mW ds [] 0 0 0 0).1,.int .i64 (mW ds [] 0 0 0 0).2])∧Below w.heap.size w w':=by
 generalize hres:mW ds [] 0 0 0 0=res;have HR:=ah hres;have HAT:=ah hat;have AA:=ah hsh;have hl':=hl;unfold maxLen at hl;clear hres hat hsh;go_enter Tryz.func32,Tryz.ntmps32;go_wp2_with fail;go_loopg [4,5,6,7,8,9,10] ds.length (fun g s4 s5 s6 s7 s8 _ _ wr=>ai6 ds w res g s4 s5 s6 s7 s8 wr)
 case atStart=>exact ⟨0,[],ds,0,0,0,0,rfl,rfl,rfl,rfl,rfl,rfl,rfl,rfl,by decide,HR.o.symm,Below.refl _ _⟩
 case round=>
  obtain ⟨k,pre,R,c,l,n,f,rfl,rfl,hds,hk,rfl,rfl,rfl,rfl,⟨q1,q2,l1,l2,n1,n2,f1,f2⟩,hr,hB⟩:=hrel;have HE:=ah hr;have HB:=ah hB;clear hr hB HR;have hlen:k + R.length=ds.length:=by rw [<- hds,List.length_append,hk]
  have hrow:=(HAT.o.below HB.o).drop k;rw [Nat.zero_add,<- hds,<- hk,List.drop_left] at hrow;rw [hk] at hrow;cases R with
  | nil=>
    obtain rfl:k=ds.length:=by simpa using hlen
    have HF:=ah (HE.o.trans (rfl:_=((0:Int),(0:Int))));clear HE hds hk hrow;go_wp2_with fail
    go_ret2
    exact ⟨jN (congrArg Prod.fst HF.o) (congrArg Prod.snd HF.o),HB.o⟩
  | cons d R=>
    have hsd:=wS (AA.o d (by rw [<- hds]; simp));have wT:=ah hds;have HK:=ah hk;have yE:=ah ((hds ▸ HAT.o:jW w w.heap.size (pre++d ::R) ao 0).take);clear hds hk;obtain ⟨⟨b,off,rfl,jD,x0,x1,x2,x3,x4,x5,hok⟩,-⟩:=hrow;simp only [List.length_cons] at hlen;have hkl:k < ds.length:=by omega
    obtain ⟨g1,g2,g3,g4⟩:=hsd;rw [Gu] at HE;go_upto_region 6 with fail;obtain ⟨nb,hnb⟩: ∃n,wr.heap.size=n:=⟨_,rfl⟩;generalize hW2:World.alloc wr _=W2;have HB2:aj (Below w.heap.size w W2):=ah (by rw [<- hW2]; exact HB.o.alloc HB.o.size _);have HY:aj (Sit wr W2 [(nb,0,.int .i64 d.kind),(nb,1,.int .i64 d.line),(nb,2,.string d.nm),(nb,3,.int .i64 d.size),(nb,4,.int .i64 d.init),(nb,5,.string d.on)]):=ah (by rw [<- hW2]; exact (Sit.start wr).Qc hnb _ _ _ _ _ _ _);rw [hnb];clear hW2 hnb x0 x1 x2 x3 x4 x5 HB;obtain ⟨-,⟨-,c0⟩,⟨-,c1⟩,⟨-,c2⟩,⟨-,c3⟩,⟨-,c4⟩,⟨-,c5⟩,-⟩:=HY.o;have hpl:pre.length<=maxLen:=by rw [HK.o]; omega
    have yS:aj (∀(nm:ByteArray) (nq:Nat),Calls Tryz.prog 61 #[.slice (some ⟨b,off,none⟩) k cap,.string nm] (W2.drewN nq) fun e w'=>e= .returned (.int .i64 (Ac pre nm))∧W2.drewN nq=w'):=ah (fun nm nq=>by have hb':=below_drewN (n:=nq) HB2.o;have:=qg pre nm (W2.drewN nq) (some ⟨b,off,none⟩) cap hpl ((yE.o.below hb').mono hb'.size);rw [HK.o] at this;exact this);have hk0:(0:Int)<=k:=by omega
    have hk1:(k:Int)<=cap:=by omega
    have hk2:k<=cap:=by omega
    go_quiet ((go_at_call 61; exact ou (yS.o _ _)));have HZ:=ah (HY.o.draws nq);have HB3:=ah (below_drewN (n:=nq) HB2.o);clear HY HB2 yS c0 c1 c2 c3 c4 c5;generalize W2.drewN nq=w3 at *;obtain ⟨-,⟨-,c0⟩,⟨-,c1⟩,⟨-,c2⟩,⟨-,c3⟩,⟨-,c4⟩,⟨-,c5⟩,-⟩:=HZ.o;rcases Tq pre d.nm with ⟨e1,e2⟩ | ⟨j,d',r,e0,e1,-,e2⟩
    case inr=>
     as_aux_lemma=>
      rw [e1];have HF:=ah (HE.o.trans (if_pos (by rw [e2,bne_iff_ne]; have:=uL d'; omega)));clear e1 e2;go_wp2_with fail;go_quiet (fail);go_wp2_with fail
      go_ret2
      exact ⟨jN (congrArg Prod.fst HF.o) (congrArg Prod.snd HF.o),below_drewN HB3.o _⟩
    rw [e1];have h0:(mD pre d.nm.toList != 0)=false:=by rw [e2]; rfl
    have HE2:=ah (HE.o.trans (if_neg (by rw [h0]; decide)));clear HE e1 e2;go_upto_region 8 with fail;cases h1:decide (4 < d.size)
    case true=>
     as_aux_lemma=>
      have HF:=ah (HE2.o.trans (if_pos h1));have h1':4 < d.size:=(by simpa using h1);go_wp2_with fail;go_quiet (fail);go_wp2_with fail
      go_ret2
      exact ⟨jN (congrArg Prod.fst HF.o) (congrArg Prod.snd HF.o),below_drewN HB3.o _⟩
    have sS:=ah (HE2.o.trans (if_neg (by rw [h1]; decide)));have h1':d.size<=4:=by simpa using h1
    clear HE2 h1;go_upto_region 10 with fail;go_upto_block 2 with (fail);go_cut [4,5,6,7,36] (fun s4 s5 s6 s7 _ W3=>w3=W3∧s4= .int .i64 (dc d c)∧s5= .int .i64 (dl d l)∧s6= .int .i64 (dn d n)∧s7= .int .i64 (df d f))
    case first=>
     as_aux_lemma=>
      have hkd:d.kind=1∨d.kind=2∨d.kind=3∨d.kind=4∨d.kind=5∨d.kind=6:=(by omega);have hmx:0<=max d.size 1∧max d.size 1<=4:=(by omega);rcases hkd with hkd | hkd | hkd | hkd | hkd | hkd
      ·have HA:aj (dc d c=c + max d.size 1∧dl d l=l∧dn d n=n∧df d f=f):=ah (by simp [dc,dl,dn,df,hkd] <;> first | rfl | omega);have hk3:(d.kind == 1)=true:=(by rw [hkd]; rfl);have hk4:(d.kind == 2)=false:=(by rw [hkd]; rfl);have hk5:(d.kind == 3)=false:=(by rw [hkd]; rfl);have QJ:(d.kind == 4)=false:=(by rw [hkd]; rfl);have Xl:(d.kind == 5)=false:=(by rw [hkd]; rfl);clear hkd;go_wp2_with fail;go_meet;exact ⟨rfl,by rw [HA.o.1],by rw [HA.o.2.1],by rw [HA.o.2.2.1],by rw [HA.o.2.2.2]⟩
      ·have HA:aj (dc d c=c + max d.size 1∧dl d l=l∧dn d n=n∧df d f=f):=ah (by simp [dc,dl,dn,df,hkd] <;> first | rfl | omega);have hk3:(d.kind == 1)=false:=(by rw [hkd]; rfl);have hk4:(d.kind == 2)=true:=(by rw [hkd]; rfl);have hk5:(d.kind == 3)=false:=(by rw [hkd]; rfl);have QJ:(d.kind == 4)=false:=(by rw [hkd]; rfl);have Xl:(d.kind == 5)=false:=(by rw [hkd]; rfl);clear hkd;go_wp2_with fail;go_meet;exact ⟨rfl,by rw [HA.o.1],by rw [HA.o.2.1],by rw [HA.o.2.2.1],by rw [HA.o.2.2.2]⟩
      ·have HA:aj (dc d c=c∧dl d l=l + 1∧dn d n=n∧df d f=f):=ah (by simp [dc,dl,dn,df,hkd] <;> first | rfl | omega);have hk3:(d.kind == 1)=false:=(by rw [hkd]; rfl);have hk4:(d.kind == 2)=false:=(by rw [hkd]; rfl);have hk5:(d.kind == 3)=true:=(by rw [hkd]; rfl);have QJ:(d.kind == 4)=false:=(by rw [hkd]; rfl);have Xl:(d.kind == 5)=false:=(by rw [hkd]; rfl);clear hkd;go_wp2_with fail;go_meet;exact ⟨rfl,by rw [HA.o.1],by rw [HA.o.2.1],by rw [HA.o.2.2.1],by rw [HA.o.2.2.2]⟩
      ·have HA:aj (dc d c=c∧dl d l=l + 1∧dn d n=n∧df d f=f):=ah (by simp [dc,dl,dn,df,hkd] <;> first | rfl | omega);have hk3:(d.kind == 1)=false:=(by rw [hkd]; rfl);have hk4:(d.kind == 2)=false:=(by rw [hkd]; rfl);have hk5:(d.kind == 3)=false:=(by rw [hkd]; rfl);have QJ:(d.kind == 4)=true:=(by rw [hkd]; rfl);have Xl:(d.kind == 5)=false:=(by rw [hkd]; rfl);clear hkd;go_wp2_with fail;go_meet;exact ⟨rfl,by rw [HA.o.1],by rw [HA.o.2.1],by rw [HA.o.2.2.1],by rw [HA.o.2.2.2]⟩
      ·have HA:aj (dc d c=c∧dl d l=l∧dn d n=n + 1∧df d f=f):=ah (by simp [dc,dl,dn,df,hkd] <;> first | rfl | omega);have hk3:(d.kind == 1)=false:=(by rw [hkd]; rfl);have hk4:(d.kind == 2)=false:=(by rw [hkd]; rfl);have hk5:(d.kind == 3)=false:=(by rw [hkd]; rfl);have QJ:(d.kind == 4)=false:=(by rw [hkd]; rfl);have Xl:(d.kind == 5)=true:=(by rw [hkd]; rfl);clear hkd;go_wp2_with fail;go_meet;exact ⟨rfl,by rw [HA.o.1],by rw [HA.o.2.1],by rw [HA.o.2.2.1],by rw [HA.o.2.2.2]⟩
      ·have HA:aj (dc d c=c∧dl d l=l∧dn d n=n∧df d f=f + 1):=ah (by simp [dc,dl,dn,df,hkd] <;> first | rfl | omega);have hk3:(d.kind == 1)=false:=(by rw [hkd]; rfl);have hk4:(d.kind == 2)=false:=(by rw [hkd]; rfl);have hk5:(d.kind == 3)=false:=(by rw [hkd]; rfl);have QJ:(d.kind == 4)=false:=(by rw [hkd]; rfl);have Xl:(d.kind == 5)=false:=(by rw [hkd]; rfl);clear hkd;go_wp2_with fail;go_meet;exact ⟨rfl,by rw [HA.o.1],by rw [HA.o.2.1],by rw [HA.o.2.2.1],by rw [HA.o.2.2.2]⟩
    obtain ⟨rfl,rfl,rfl,rfl,rfl⟩:=hcut;have hc':0<=dc d c∧dc d c<=16:=by unfold dc; split <;> omega
    have hl'':0<=dl d l∧dl d l<=5:=by unfold dl; split <;> omega
    have hn':0<=dn d n∧dn d n<=3:=by unfold dn; split <;> omega
    have hf':0<=df d f∧df d f<=3:=by unfold df; split <;> omega
    generalize hcc:dc d c=c' at *;generalize hll:dl d l=l' at *;generalize hnn:dn d n=n' at *;generalize TK:df d f=f' at *;clear hcc hll hnn TK;go_upto_region 20 with fail;go_cut [69] (fun s' W3=>w3=W3∧s'= .bool (lim c' l' n' f'))
    case first=>
     as_aux_lemma=>
      have HF:aj (lim c' l' n' f'=(((decide (12 < c') || decide (4 < l')) || decide (2 < n')) || decide (2 < f'))):=ah rfl;go_wp2_with fail
      all_goals go_meet
      all_goals exact ⟨rfl,by first | (rw [HF.o]; done) | (rw [HF.o]; congr 1; go_light; grind)⟩
    obtain ⟨rfl,rfl⟩:=hcut;cases h2:lim c' l' n' f'
    case true=>
     as_aux_lemma=>
      have HF:=ah (sS.o.trans (if_pos h2));go_wp2_with fail;go_quiet (fail);go_wp2_with fail
      go_ret2
      exact ⟨jN (congrArg Prod.fst HF.o) (congrArg Prod.snd HF.o),below_drewN HB3.o _⟩
    have Au:=ah (sS.o.trans (if_neg (by rw [h2]; decide)));have hlim:c'<=12∧l'<=4∧n'<=2∧f'<=2:=by unfold lim at h2; simp at h2; omega
    clear sS h2;go_upto_region 22 with fail;cases h5:(d.kind == 5)
    ·have HF:=ah (Au.o.trans ((if_neg (by rw [h5]; simp)).trans (if_neg (by rw [h5]; simp))));clear Au;go_wp2_with fail;go_roundg R.length
     case measure=>simp
     case rel=>exact ⟨k + 1,pre++[d],R,c',l',n',f',rfl,by go_num,by rw [List.append_assoc]; exact wT.o,by rw [List.length_append,HK.o]; rfl,rfl,rfl,rfl,rfl,by omega,HF.o,HB3.o⟩
    ·go_wp2_with fail;have yS:aj (∀(nm:ByteArray) (nq:Nat),Calls Tryz.prog 61 #[.slice (some ⟨b,off,none⟩) k cap,.string nm] (w3.drewN nq) fun e w'=>e= .returned (.int .i64 (Ac pre nm))∧w3.drewN nq=w'):=ah (fun nm nq=>by have hb':=below_drewN (n:=nq) HB3.o;have:=qg pre nm (w3.drewN nq) (some ⟨b,off,none⟩) cap hpl ((yE.o.below hb').mono hb'.size);rw [HK.o] at this;exact this);go_quiet ((go_at_call 61; exact ou (yS.o _ _)));have HZ2:=ah (HZ.o.draws nq);have dO:=ah (below_drewN (n:=nq) HB3.o);clear HZ yS c0 c1 c2 c3 c4 c5 HB3;generalize w3.drewN nq=w5 at *;have HB3:=dO;clear dO;obtain ⟨-,⟨-,c0⟩,⟨-,c1⟩,⟨-,c2⟩,⟨-,c3⟩,⟨-,c4⟩,⟨-,c5⟩,-⟩:=HZ2.o;rcases Tq pre d.on with ⟨e1,e2⟩ | ⟨j,d',r,e0,e1,e3,e2⟩
     ·have HF:=ah (Au.o.trans (if_pos (by rw [h5,e2]; rfl)));rw [e1];clear e1 e2;go_wp2_with fail;go_quiet (fail);go_wp2_with fail
      go_ret2
      exact ⟨jN (congrArg Prod.fst HF.o) (congrArg Prod.snd HF.o),below_drewN HB3.o _⟩
     ·have IZ:=ah (Au.o.trans (if_neg (by rw [h5,e2]; have:=uL d'; simp; omega)));rw [e2,RY] at IZ;have hrow:=(yE.o.below HB3.o).drop j;rw [e3,Nat.zero_add] at hrow;obtain ⟨⟨b2,off2,hbe,bt1,z0,-⟩,-⟩:=hrow;obtain ⟨rfl,rfl⟩:b=b2∧off=off2:=(by injection hbe with h; injection h with h1 h2; exact ⟨h1,h2⟩);have hjl:j < ds.length:=(by have:=HK.o; omega);rw [e1];clear e1 e2 e3 hbe Au;cases h8:(d'.kind != 3)
      case true=>
       as_aux_lemma=>
        have HF:=ah (IZ.o.trans (if_pos (by rw [h5,h8]; rfl)));go_wp2_with fail;go_quiet (fail);go_wp2_with fail
        go_ret2
        exact ⟨jN (congrArg Prod.fst HF.o) (congrArg Prod.snd HF.o),below_drewN HB3.o _⟩
      have HF:=ah (IZ.o.trans (if_neg (by rw [h5,h8]; decide)));clear IZ;go_wp2_with fail;go_roundg R.length
      case measure=>simp
      case rel=>exact ⟨k + 1,pre++[d],R,c',l',n',f',rfl,by go_num,by rw [List.append_assoc]; exact wT.o,by rw [List.length_append,HK.o]; rfl,rfl,rfl,rfl,rfl,by omega,HF.o,HB3.o⟩
end Go.Proofs.YtfbbaiejbjdfbaaGreatDoor
