/- Contracts of the reference's Operands and ShapedExpr. And what hangs on it. -/
import Derived.Test.YtkmllehjemjgpaaGreatDoorGMC
import Derived.Test.YtkmllehjemjgpaaGreatDoorGNA
import Derived.BigQuiet
import Derived.Deep.DeepCutAuto
import Derived.Test.YtkmllehjemjgpaaGreatDoorGR1
import Derived.Deep.CutBlock
import Derived.Test.YtkmllehjemjgpaaGreatDoorGME
import Derived.Test.YtkmllehjemjgpaaGreatDoorGML
set_option linter.unusedSimpArgs false
set_option linter.unusedVariables false
set_option maxHeartbeats 40000000
set_option maxRecDepth 1000000
namespace Go.Proofs.YtkmllehjemjgpaaGreatDoor
open Go.RowKit
open Md
theorem EA (op:Int) (w:World):
 Calls Tryz.prog 149 #[.int .i64 op] w λe w'=>e= .returned (.int .i64 (opsOf op))∧w=w':=by
 unfold opsOf;go_enter Tryz.func149,Tryz.ntmps149;go_wp2
 all_goals go_ret
 all_goals refine⟨aV ?_,rfl⟩
 all_goals first|(simp[*];done)|((repeat' split) <;> simp_all <;> omega)
def FR (op n:Int) (nm:ByteArray) (kids:bC):Prop:=
 ∀(w:World) (ao:Option Addr) (cap:Nat),sD op n nm kids->kids.At w w.heap.size ao 0->
  Calls Tryz.prog 128 #[.agg #[.int .i64 op,.int .i64 n,.string nm,.slice ao kids.len cap]] w λe w'=>e= .returned (.bool (iY op n nm kids))∧Below w.heap.size w w'
theorem ae5 (op n:Int) (nm:ByteArray) (kids:bC):iY op n nm kids=(((decide (opsOf op=(kids.len:Int))&&(decide (0<=n)&&(decide (op=1)||decide (n=0))))&&(if((op==2)||(op==3))then Tk.iC nm.data.toList else decide (nm.toList=[])))&&kZ kids):=by
 have h1:((kids.len:Int)==opsOf op)=decide (opsOf op=(kids.len:Int)):=by rw[Bool.eq_iff_iff];simp;exact eq_comm
 have h2:jQ nm (named op)=if((op==2)||(op==3))then Tk.iC nm.data.toList else decide (nm.toList=[]):=by
  unfold jQ named;split
  ·rfl
  ·rw[Lib.toList_data,Bool.eq_iff_iff];simp
 have h3:(!(decide (n<0)||(!(n==0)&& !(op==1))))=(decide (0<=n)&&(decide (op=1)||decide (n=0))):=by rw[Bool.eq_iff_iff];simp;omega
 unfold iY FH;rw[h1,h2,h3];simp only[Bool.and_assoc]
theorem Yb {nm:ByteArray} (h:nm.toList=[]):Tk.iC nm.data.toList=false:=by rw[<- Lib.toList_data,h];rfl
theorem EC (op n:Int) (nm:ByteArray) (kids:bC) (ih:kids.All FR):FR op n nm kids:=by
 intro w ao cap hok hat;obtain⟨⟨o1,o2⟩,⟨n1,n2⟩,hm,hl⟩:=hok;unfold maxLen at hl;have hl':kids.len<=9223372036854775807:=hl;have HS:=ah (ae5 op n nm kids);have qp:=ah ih;have HAT:=ah hat;clear ih hat;go_enter Tryz.func128,Tryz.ntmps128;go_upto_region 1 with fail;generalize hW:World.alloc w _=W;generalize Value.agg #[_,_,_,_]=a0;have HX:=ah (uw.mk hW);clear hW;obtain⟨-,hs,c0,c1,c2,c3⟩:=HX.o;go_cut [3] (λs W2=>W=W2∧∃b,s= .bool b∧((op==2)||(op==3))=b)
 case first=>
  go_wp2_with fail
  all_goals go_meet
  all_goals exact⟨rfl,_,rfl,by grind⟩
 obtain⟨rfl,bn,rfl,hbn⟩:=hcut;rw[hbn]at HS;clear hbn;go_upto_region 2 with fail;go_cut [3,50] (λ_ s W2=> ∃b,s= .bool b∧iY op n nm kids=(!b&&kZ kids)∧uw w W2 (.int .i64 op) (.int .i64 n) (.string nm) (.slice ao kids.len cap))
 case first=>
  cases bn
  all_goals
   obtain⟨T,F,yX,hst,hF,hnext⟩:=calm W;have HF:=ah hF;have dJ:=ah hnext;clear hnext;have d0:=λx=>((HF.o x).cell (p:=⟨w.heap.size,0,none⟩) hs).trans c0;have d1:=λx=>((HF.o x).cell (p:=⟨w.heap.size,1,none⟩) hs).trans c1;have d2:=λx=>((HF.o x).cell (p:=⟨w.heap.size,2,none⟩) hs).trans c2;have d3:=λx=>((HF.o x).cell (p:=⟨w.heap.size,3,none⟩) hs).trans c3;clear hF c0 c1 c2 c3;refine gZ F (by kernel_rfl) (by kernel_rfl) hst ?_
   repeat (any_goals (first|go_big_quiet_step (first|(go_at_call 149;refine(EA _ _).mono ?_;rintro e w' ⟨rfl,rfl⟩;exact⟨rfl,_,rfl⟩)|(go_at_call 61;refine(mq _ _ hm).mono ?_;rintro e w' ⟨rfl,hb⟩;exact⟨rfl,dJ.o _ _ hb⟩))|(refine wpQuiet_step (λK hK=> ?_);go_simp;first|(refine hK _ ?_;clear hK K)|(split <;> first|(refine hK _ ?_;clear hK K)|(apply Exists.intro;refine⟨λ_=> ?_,hK _ ?_⟩;(first|(go_at_call 149;refine(EA _ _).mono ?_;rintro e w' ⟨rfl,rfl⟩;exact⟨rfl,_,rfl⟩)|(go_at_call 61;refine(mq _ _ hm).mono ?_;rintro e w' ⟨rfl,hb⟩;exact⟨rfl,dJ.o _ _ hb⟩));clear hK K)))))
   all_goals (refine wpQuiet_nil ?_;rintro _ ⟨x,rfl⟩;go_wp2_with fail;go_meet)
   all_goals exact⟨_,rfl,HS.o.trans (by go_light;grind[Yb]),HX.o.next (HF.o _)⟩
 case rest=>
  obtain⟨b,rfl,hR,sI⟩:=hcut;have HZ:=ah sI;have HR:=ah hR;clear HX sI hR HS c0 c1 c2 c3 hs;cases b
  ·go_wp2_with fail;go_loopw [4] (λi wr=> ∃k R,i= .int .i64 (k:Nat)∧Qq kids R k∧R.All FR∧R.At wr wr.heap.size ao k∧uw w wr (Value.int IntKind.i64 op) (Value.int IntKind.i64 n) (Value.string nm) (Value.slice ao kids.len cap)) (λi _=>kids.len -(intOf i).toNat)
   case atStart=>exact⟨0,kids,rfl,⟨Nat.zero_add _,rfl⟩,qp.o,HAT.o.same HZ.o.1,HZ.o⟩
   case round=>
    obtain⟨k,R,rfl,⟨hlen,heq⟩,hall,hrow,Ih⟩:=hrel;have HT:=ah (HR.o.trans (show(!false&&kZ kids)=kZ R by rw[heq];rfl));have uF:=ah Ih;clear Ih;obtain⟨-,-,c0,c1,c2,c3⟩:=uF.o;cases R with
    |nil=>obtain rfl:k=kids.len:=(by simpa[bC.len]using hlen);go_wp2_with fail;go_ret;exact⟨aZ HT.o.symm,uF.o.1⟩
    |cons op' n' nm' iD rest=>
     obtain⟨⟨b,off,nR,cap',rfl,iL,x0,x1,x2,x3,hok',ko⟩,hrest⟩:=hrow;obtain⟨gP,nX⟩:=hall;have hlt:k<kids.len:=(by simp only[bC.len]at hlen;omega);go_wp2_with fail;refine(gP _ _ _ hok' ko).mono ?_;rintro e w2 ⟨rfl,hb2⟩;have HBY:=ah (uF.o.next hb2);have hrest':=hrest.same hb2;clear hb2 uF hrest x0 x1 x2 x3 c0 c1 c2 c3 ko;cases hS:iY op' n' nm' iD
     ·have HF:=ah (HT.o.trans (by rw[mG,hS];rfl:kZ (.cons op' n' nm' iD rest)=false));go_wp2_with fail;go_ret;exact⟨aZ HF.o.symm,HBY.o.1⟩
     ·have HF:=ah (heq.trans (by rw[mG,hS];rfl:kZ (.cons op' n' nm' iD rest)=kZ rest));go_wp2_with fail;go_roundw
      case rel=>exact⟨k+1,rest,by go_num,⟨by simp only[bC.len]at hlen;omega,HF.o⟩,nX,hrest',HBY.o⟩
      case measure=>simp[intOf];omega
  ·go_wp2_with fail;go_ret;exact⟨aZ HR.o.symm,HZ.o.1⟩
theorem uz (op n:Int) (nm:ByteArray) (kids:bC):FR op n nm kids:=bC.wY EC op n nm kids
theorem gU (p:Pr) (i:Int) (nm:ByteArray) (a b:Int) (w:World) (aB aD:Option Addr) (aA ay:Nat) (hi:fD i) (hp:p.At w aB aD):
 Calls Tryz.prog 93 #[.agg #[.slice aB p.ds.length aA,.slice aD p.ts.length ay],.int .i64 i,.string nm,.int .i64 a,.int .i64 b] w λe w'=>e= .returned (.int .i64 (eY (conv (mean p i nm)) a b))∧Below w.heap.size w w':=by
 have HP:=ah hp;clear hp;go_enter Tryz.func93,Tryz.ntmps93;go_wp2_with fail;refine(RH p i nm _ aB aD aA ay hi (HP.o.same (ak _ _))).mono ?_;rintro e w2 ⟨rfl,hb2⟩;have HB:=ah ((ak w (.cells #[.slice aB p.ds.length aA,.slice aD p.ts.length ay] 25)).trans (hb2.mono (by simp)));clear hb2;have HE:aj (eY (conv (mean p i nm)) a b=if conv (mean p i nm)==0 then 5 else if(conv (mean p i nm) != a)&&(conv (mean p i nm) != b)then 6 else 0):=ah rfl;generalize hmm:conv (mean p i nm)=m at *;have HM:=ah hmm;clear hmm;go_wp2_with fail
 all_goals go_ret
 all_goals refine⟨aV ?_,HB.o⟩
 all_goals rw[HM.o,HE.o]
 all_goals (go_light;grind)
def FQ (op n:Int) (nm:ByteArray) (kids:bC):Prop:=
 ∀(w:World) (ao:Option Addr) (cap:Nat),sD op n nm kids->kids.At w w.heap.size ao 0->
  Calls Tryz.prog 131 #[.agg #[.int .i64 op,.int .i64 n,.string nm,.slice ao kids.len cap]] w λe w'=>e= .returned (.tuple #[.int .i64 (ext kids).1,.int .i64 (ext kids).2])∧Below w.heap.size w w'
theorem RI (op n:Int) (nm:ByteArray) (kids:bC) (ih:kids.All FQ):FQ op n nm kids:=by
 intro w ao cap hok hat;obtain⟨-,-,-,hl⟩:=hok;unfold maxLen at hl;have qp:=ah ih;have HAT:=ah hat;clear ih hat;go_enter Tryz.func131,Tryz.ntmps131;go_upto_region 2 with fail;generalize hW:World.alloc w _=W;generalize Value.agg #[_,_,_,_]=a0;have HX:=ah ((Sit.start w).yh rfl (.int .i64 op) (.int .i64 n) (.string nm) (.slice ao kids.len cap) 88);rw[hW]at HX;clear hW;go_wp2_with fail;go_loopw [4,5,6,7,8] (λs4 s5 s _ _ wr=> ∃(k:Nat) (R:bC) (a d:Int),s= .int .i64 k∧s4= .int .i64 a∧s5= .int .i64 d∧k+R.len=kids.len∧Av kids 1 0=Av R a d∧R.All FQ∧R.At wr wr.heap.size ao k∧Sit w wr [(w.heap.size,0,.int .i64 op),(w.heap.size,1,.int .i64 n),(w.heap.size,2,.string nm),(w.heap.size,3,.slice ao kids.len cap)]) (λ_ _ s _ _ _=>kids.len -(intOf s).toNat)
 case atStart=>exact⟨0,kids,1,0,rfl,rfl,rfl,by simp,rfl,qp.o,HAT.o.same HX.o.1,HX.o⟩
 case round=>
  obtain⟨k,R,a,d,rfl,rfl,rfl,hlen,heq,hall,hrow,hB⟩:=hrel;have HE:=ah heq;have HY:=ah hB;clear heq hB HX;obtain⟨-,⟨-,c0⟩,⟨-,c1⟩,⟨-,c2⟩,⟨-,c3⟩,-⟩:=HY.o;cases R with
  |nil=>
   obtain rfl:k=kids.len:=by simpa[bC.len]using hlen
   go_wp2_with fail
   go_ret2
   exact⟨iU (ext_nil HE.o).1 (ext_nil HE.o).2,HY.o.1⟩
  |cons op' n' nm' iD rest=>
   obtain⟨⟨b,off,nR,cap',rfl,iL,x0,x1,x2,x3,hok',ko⟩,hrest⟩:=hrow;obtain⟨gP,nX⟩:=hall;have hlt:k<kids.len:=by simp only[bC.len]at hlen;omega
   go_wp2_with fail;refine(gP _ _ _ hok' ko).mono ?_;rintro e w2 ⟨rfl,hb2⟩;have HB3:=ah hb2;clear hb2 x0 x1 x2 x3 c0 c1 c2 c3 ko;go_wp2_with fail;go_roundw
   case rel=>exact⟨k+1,rest,_,_,by go_num,rfl,rfl,by simp only[bC.len]at hlen;omega,HE.o,nX,hrest.same HB3.o,HY.o.next HB3.o⟩
   case measure=>simp[intOf];omega
theorem Nq (op n:Int) (nm:ByteArray) (kids:bC):FQ op n nm kids:=bC.wY RI op n nm kids
def zJ (p:Pr) (i:Int) (op n:Int) (nm:ByteArray) (kids:bC):Prop:=
 ∀(w:World) (aB aD ao:Option Addr) (aA ay cap:Nat),fD i->p.At w aB aD->sD op n nm kids->kids.At w w.heap.size ao 0->
  Calls Tryz.prog 132 #[.agg #[.slice aB p.ds.length aA,.slice aD p.ts.length ay],.int .i64 i,.agg #[.int .i64 op,.int .i64 n,.string nm,.slice ao kids.len cap]] w λe w'=>e= .returned (.int .i64 (vB p i op nm kids))∧Below w.heap.size w w'
theorem M4 (p:Pr) (i:Int) (op n:Int) (nm:ByteArray) (kids:bC) (ih:kids.All (zJ p i)):zJ p i op n nm kids:=by
 intro w aB aD ao aA ay cap hi hp hok hat;obtain⟨-,-,-,hl⟩:=hok;unfold maxLen at hl;have qp:=ah ih;have HAT:=ah hat;have HP:=ah hp;clear ih hat hp;go_enter Tryz.func132,Tryz.ntmps132;go_upto_region 1 with fail;generalize hW:World.alloc (World.alloc w _) _=W;generalize Value.agg #[_,_]=a0;generalize Value.agg #[_,_,_,_]=a1;have HX:=ah (((Sit.start w).vg rfl (.slice aB p.ds.length aA) (.slice aD p.ts.length ay) 25).yh (n:=w.heap.size+1) (by simp) (.int .i64 op) (.int .i64 n) (.string nm) (.slice ao kids.len cap) 88);rw[hW]at HX;clear hW;obtain⟨-,⟨-,c0⟩,⟨-,c1⟩,⟨-,c2⟩,⟨-,c3⟩,⟨-,c4⟩,⟨-,c5⟩,-⟩:=HX.o;go_upto_block 0 with(fail);go_cut [7,10] (λs7 _ W2=>s7= .int .i64 (pQ p i op nm)∧Sit w W2 [(w.heap.size+1,0,.int .i64 op),(w.heap.size+1,1,.int .i64 n),(w.heap.size+1,2,.string nm),(w.heap.size+1,3,.slice ao kids.len cap),(w.heap.size,0,.slice aB p.ds.length aA),(w.heap.size,1,.slice aD p.ts.length ay)])
 case first=>
  cases h2:(op==2)
  ·cases h3:(op==3)
   ·have HE:aj (pQ p i op nm=0):=ah (by unfold pQ;rw[h2,h3];rfl);go_wp2_with fail;go_meet;exact⟨by rw[HE.o],HX.o⟩
   ·have HE:aj (pQ p i op nm=eY (conv (mean p i nm)) 2 2):=ah (by unfold pQ;rw[h2,h3];exact(Pj _ 3 (zP p i nm) (by decide)).symm);go_wp2_with fail;refine(gU p i nm 2 2 _ aB aD aA ay hi (HP.o.same HX.o.1)).mono ?_;rintro e w2 ⟨rfl,hb2⟩;go_wp2_with fail;go_meet;exact⟨by rw[HE.o],HX.o.next hb2⟩
  ·have HE:aj (pQ p i op nm=eY (conv (mean p i nm)) 8 1):=ah (by unfold pQ;rw[h2];exact(Pk _ 1 2 (zP p i nm) (by decide) (by decide)).symm);go_wp2_with fail;refine(gU p i nm 8 1 _ aB aD aA ay hi (HP.o.same HX.o.1)).mono ?_;rintro e w2 ⟨rfl,hb2⟩;go_wp2_with fail;go_meet;exact⟨by rw[HE.o],HX.o.next hb2⟩
 case rest=>
  obtain⟨rfl,hX⟩:=hcut;have HY:=ah hX;clear hX HX c0 c1 c2 c3 c4 c5;have HR:aj (vB p i op nm kids=if pQ p i op nm==0 then sW p i kids else pQ p i op nm):=ah rfl;generalize pQ p i op nm=r0 at *;go_wp2_with fail;go_loopw [7,8] (λs7 s8 wr=> ∃(k:Nat) (R:bC) (r:Int),s8= .int .i64 k∧s7= .int .i64 r∧k+R.len=kids.len∧vB p i op nm kids=(if r==0 then sW p i R else r)∧R.All (zJ p i)∧R.At wr wr.heap.size ao k∧Sit w wr [(w.heap.size+1,0,.int .i64 op),(w.heap.size+1,1,.int .i64 n),(w.heap.size+1,2,.string nm),(w.heap.size+1,3,.slice ao kids.len cap),(w.heap.size,0,.slice aB p.ds.length aA),(w.heap.size,1,.slice aD p.ts.length ay)]) (λ_ s _=>kids.len -(intOf s).toNat)
  case atStart=>exact⟨0,kids,r0,rfl,rfl,by simp,HR.o,qp.o,HAT.o.same HY.o.1,HY.o⟩
  case round=>
   obtain⟨k,R,r,rfl,rfl,hlen,heq,hall,hrow,hsit⟩:=hrel;have HE:=ah heq;have HZ:=ah hsit;clear heq hsit;obtain⟨-,⟨-,c0⟩,⟨-,c1⟩,⟨-,c2⟩,⟨-,c3⟩,⟨-,c4⟩,⟨-,c5⟩,-⟩:=HZ.o;cases R with
   |nil=>obtain rfl:k=kids.len:=(by simpa[bC.len]using hlen);go_wp2_with fail;go_ret;exact⟨aV (HE.o.trans (by cases h:(r==0) <;> simp_all[sW])).symm,HZ.o.1⟩
   |cons op' n' nm' iD rest=>
    obtain⟨⟨b,off,nR,cap',rfl,iL,x0,x1,x2,x3,hok',ko⟩,hrest⟩:=hrow;obtain⟨gP,nX⟩:=hall;have hlt:k<kids.len:=(by simp only[bC.len]at hlen;omega);cases hr:(r==0)
    ·have bV:=ah (HE.o.trans (by rw[hr];rfl:_=r));go_wp2_with fail;go_ret;exact⟨aV bV.o.symm,HZ.o.1⟩
    ·have bV:=ah (HE.o.trans (by rw[hr];rfl:_=sW p i (.cons op' n' nm' iD rest)));go_wp2_with fail;obtain⟨T,F,yX,hst,hF,hnext⟩:=calm wr;have HF:=ah hF;have dJ:=ah hnext;clear hnext hF;have d0:=λx=>(HZ.o.next (HF.o x)).2.1.2;have d1:=λx=>(HZ.o.next (HF.o x)).2.2.1.2;have d2:=λx=>(HZ.o.next (HF.o x)).2.2.2.1.2;have d3:=λx=>(HZ.o.next (HF.o x)).2.2.2.2.1.2;have d4:=λx=>(HZ.o.next (HF.o x)).2.2.2.2.2.1.2;have d5:=λx=>(HZ.o.next (HF.o x)).2.2.2.2.2.2.1.2;have y0:=λx=>((HF.o x).cell (p:=⟨b,off+k*4,none⟩) iL).trans x0;have y1:=λx=>((HF.o x).cell (p:=⟨b,off+k*4+1,none⟩) iL).trans x1;have y2:=λx=>((HF.o x).cell (p:=⟨b,off+k*4+2,none⟩) iL).trans x2;have y3:=λx=>((HF.o x).cell (p:=⟨b,off+k*4+3,none⟩) iL).trans x3;clear c0 c1 c2 c3 c4 c5 x0 x1 x2 x3;have hk0:(0:Int)<=k:=(by omega);have hk1:(k:Int)<kids.len:=(by omega);refine gZ F (by kernel_rfl) (by kernel_rfl) hst ?_
     repeat (any_goals (first|go_big_quiet_step ((go_at_call 132;refine(gP _ aB aD nR aA ay cap' hi ((HP.o.same HZ.o.1).same (HF.o _)) hok' (ko.same (HF.o _))).mono ?_;rintro e w' ⟨rfl,hb⟩;exact⟨rfl,dJ.o _ _ hb⟩))|(refine wpQuiet_step (λK hK=> ?_);go_simp;first|(refine hK _ ?_;clear hK K)|(split <;> first|(refine hK _ ?_;clear hK K)|(apply Exists.intro;refine⟨λ_=> ?_,hK _ ?_⟩;((go_at_call 132;refine(gP _ aB aD nR aA ay cap' hi ((HP.o.same HZ.o.1).same (HF.o _)) hok' (ko.same (HF.o _))).mono ?_;rintro e w' ⟨rfl,hb⟩;exact⟨rfl,dJ.o _ _ hb⟩));clear hK K)))))
     all_goals (refine wpQuiet_nil ?_;rintro _ ⟨x,rfl⟩)
     have HB2:=ah (HF.o x);clear d0 d1 d2 d3 d4 d5 y0 y1 y2 y3 HF dJ hst;generalize F x=W2 at *;go_wp2_with fail;go_roundw
     case rel=>exact⟨k+1,rest,_,by go_num,rfl,by simp only[bC.len]at hlen;omega,bV.o.trans (LH p i op' n' nm' iD rest),nX,hrest.same HB2.o,HZ.o.next HB2.o⟩
     case measure=>simp[intOf];omega
theorem Np (p:Pr) (i:Int) (op n:Int) (nm:ByteArray) (kids:bC):zJ p i op n nm kids:=bC.wY (M4 p i) op n nm kids
theorem iJ (p:Pr) (i:Int) (op n:Int) (nm:ByteArray) (kids:bC) (w:World) (aB aD ao:Option Addr) (aA ay cap:Nat) (hi:fD i) (hp:p.At w aB aD) (hok:sD op n nm kids) (hat:kids.At w w.heap.size ao 0):
 Calls Tryz.prog 94 #[.agg #[.slice aB p.ds.length aA,.slice aD p.ts.length ay],.int .i64 i,.agg #[.int .i64 op,.int .i64 n,.string nm,.slice ao kids.len cap]] w λe w'=>e= .returned (.int .i64 (kg p i op n nm kids))∧Below w.heap.size w w':=by
 have HAT:=ah hat;have HP:=ah hp;clear hat hp;go_enter Tryz.func94,Tryz.ntmps94;go_upto_region 1 with fail;generalize hW:World.alloc (World.alloc w _) _=W;generalize Value.agg #[_,_]=a0;generalize Value.agg #[_,_,_,_]=a1;have HX:=ah (((Sit.start w).vg rfl (.slice aB p.ds.length aA) (.slice aD p.ts.length ay) 25).yh (n:=w.heap.size+1) (by simp) (.int .i64 op) (.int .i64 n) (.string nm) (.slice ao kids.len cap) 88);rw[hW]at HX;clear hW;obtain⟨-,⟨-,c0⟩,⟨-,c1⟩,⟨-,c2⟩,⟨-,c3⟩,⟨-,c4⟩,⟨-,c5⟩,-⟩:=HX.o;go_wp2_with fail;refine(uz op n nm kids _ ao cap hok (HAT.o.same HX.o.1)).mono ?_;rintro e w1 ⟨rfl,hb1⟩;have HY:=ah (HX.o.next hb1);clear HX hb1 c0 c1 c2 c3 c4 c5;obtain⟨-,⟨-,c0⟩,⟨-,c1⟩,⟨-,c2⟩,⟨-,c3⟩,⟨-,c4⟩,⟨-,c5⟩,-⟩:=HY.o;cases hS:iY op n nm kids
 ·have HE:aj (kg p i op n nm kids=3):=ah (by unfold kg;rw[hS];rfl);go_wp2_with fail;go_ret;exact⟨aV HE.o.symm,HY.o.1⟩
 ·have HE:aj (kg p i op n nm kids=if decide (24<(ext kids).1)||decide (6<(ext kids).2)then 2 else vB p i op nm kids):=ah (by unfold kg;rw[hS];rfl);go_wp2_with fail;refine(Nq op n nm kids _ ao cap hok (HAT.o.same HY.o.1)).mono ?_;rintro e w2 ⟨rfl,hb2⟩;have HZ:=ah (HY.o.next hb2);clear HY hb2 c0 c1 c2 c3 c4 c5;obtain⟨-,⟨-,c0⟩,⟨-,c1⟩,⟨-,c2⟩,⟨-,c3⟩,⟨-,c4⟩,⟨-,c5⟩,-⟩:=HZ.o;generalize (ext kids).1=a at *;generalize (ext kids).2=d at *;cases h1:decide (24<a)
  ·cases h2:decide (6<d)
   ·have bV:=ah (HE.o.trans (by rw[h1,h2];rfl:_=vB p i op nm kids));have q1:a<=24:=(by simpa using h1);have q2:d<=6:=(by simpa using h2);go_wp2_with fail;refine(Np p i op n nm kids _ aB aD ao aA ay cap hi (HP.o.same HZ.o.1) hok (HAT.o.same HZ.o.1)).mono ?_;rintro e w3 ⟨rfl,hb3⟩;go_wp2_with fail;go_ret;exact⟨aV bV.o.symm,(HZ.o.next hb3).1⟩
   ·have bV:=ah (HE.o.trans (if_pos (by rw[h1,h2];rfl)));have q1:a<=24:=(by simpa using h1);have q2:6<d:=(by simpa using h2);go_wp2_with fail;go_ret;exact⟨aV bV.o.symm,HZ.o.1⟩
  ·have bV:=ah (HE.o.trans (if_pos (by rw[h1];rfl)));have q1:24<a:=by simpa using h1
   go_wp2_with fail;go_ret;exact⟨aV bV.o.symm,HZ.o.1⟩
theorem L9 (ds:List De) (nm:ByteArray):(xZ ds nm= -1∧mY ds nm.toList=false)∨∃j:Nat,xZ ds nm=(j:Int)∧mY ds nm.toList=true:=by
 rcases oF (λd:De=>d.nm.toList==nm.toList) ds 0 with⟨h1,h2,h3⟩|⟨j,d,r,h0,h1,h2,h3,h4⟩
 ·exact Or.inl ⟨h1,h3⟩
 ·exact Or.inr ⟨j,by rw[<- Nat.zero_add j];exact h1,h4⟩
theorem La (ts:List Th) (nm:ByteArray):(oQ ts nm= -1∧mJ ts nm.toList=false)∨∃j:Nat,oQ ts nm=(j:Int)∧mJ ts nm.toList=true:=by
 rcases oF (λd:Th=>d.nm.toList==nm.toList) ts 0 with⟨h1,h2,h3⟩|⟨j,d,r,h0,h1,h2,h3,h4⟩
 ·exact Or.inl ⟨h1,h3⟩
 ·exact Or.inr ⟨j,by rw[<- Nat.zero_add j];exact h1,h4⟩
theorem EJ (ts:List ByteArray) (nm:ByteArray):(Hw ts nm= -1∧mI ts nm.toList=false)∨∃j:Nat,Hw ts nm=(j:Int)∧mI ts nm.toList=true:=by
 rcases oF (λd:ByteArray=>d.toList==nm.toList) ts 0 with⟨h1,h2,h3⟩|⟨j,d,r,h0,h1,h2,h3,h4⟩
 ·exact Or.inl ⟨h1,h3⟩
 ·exact Or.inr ⟨j,by rw[<- Nat.zero_add j];exact h1,h4⟩
theorem K5 (p:Pr) (w:World) (aB aD:Option Addr) (aA ay:Nat) (hp:p.At w aB aD) (vV:p.ts.length<=ay):
 Calls Tryz.prog 35 #[.agg #[.slice aB p.ds.length aA,.slice aD p.ts.length ay]] w λe w'=>e= .returned (.tuple #[.int .i64 (jY p).1,.int .i64 (jY p).2])∧Below w.heap.size w w':=by
 have HR:aj (jY p=match tF p.ds p.ts []with|some l=>(4,l)|none=>ze p.ds p.ts p.ts):=ah rfl;generalize jY p=res at *;have hld:=hp.1;have hlt:=hp.2.1;have Sv:=hp.1;have hlt':=hp.2.1;unfold maxLen at hld hlt;have HP:=ah hp;clear hp;go_enter Tryz.func35,Tryz.ntmps35;go_upto_region 1 with fail;generalize hW:World.alloc w _=W;generalize Value.agg #[_,_]=a0;have HX:=ah ((Sit.start w).vg rfl (.slice aB p.ds.length aA) (.slice aD p.ts.length ay) 25);rw[hW]at HX;clear hW;go_wp2_with fail;go_loopg [4,5] p.ts.length (λg s _ wr=> ∃(k:Nat) (pre R:List Th),g=R.length∧s= .int .i64 k∧pre++R=p.ts∧pre.length=k∧tF p.ds p.ts []=tF p.ds R pre∧Sit w wr [(w.heap.size,0,(.slice aB p.ds.length aA)),(w.heap.size,1,(.slice aD p.ts.length ay))])
 case atStart=>exact⟨0,[],p.ts,rfl,rfl,rfl,rfl,rfl,HX.o⟩
 case round=>
  obtain⟨k,pre,R,rfl,rfl,hds,hk,heq,hsit⟩:=hrel;have HU:=ah hsit;have HE:=ah heq;clear hsit heq HX;have hlen:k+R.length=p.ts.length:=by rw[<- hds,List.length_append,hk]
  have hrow:=(HP.o.2.2.2.below HU.o.1).drop k;rw[Nat.zero_add,<- hds,<- hk,List.drop_left]at hrow;rw[hk]at hrow;have vK:=ah ((hds ▸ HP.o.2.2.2:fQ w w.heap.size (pre++R) aD 0).take);have tY:=ah hds;have HK:=ah hk;clear hds hk;cases R with
  |cons t R=>
   obtain⟨⟨b,off,fC,dw,bR,aY,rfl,hB,x0,x1,x2,x3,hok,htx,hst⟩,-⟩:=hrow;simp only[List.length_cons]at hlen;have hkl:k<p.ts.length:=by omega
   clear htx hst;obtain⟨-,⟨-,c0⟩,⟨-,c1⟩,-⟩:=HU.o;go_upto_region 5 with fail;clear c0 c1;obtain⟨nb,hnb⟩: ∃n,wr.heap.size=n:=⟨_,rfl⟩;generalize hW2:World.alloc wr _=W2;have HY:aj (Sit w W2 ((nb,0,.string t.nm)::(nb,1,.int .i64 t.line)::(nb,2,.slice fC t.bg.length dw)::(nb,3,.slice bR t.body.len aY)::[(w.heap.size,0,(.slice aB p.ds.length aA)),(w.heap.size,1,(.slice (some ⟨b,off,none⟩) p.ts.length ay))])):=ah (by rw[<- hW2];exact HU.o.yh hnb _ _ _ _ _);rw[hnb];clear hW2 hnb x0 x1 x2 x3 HU;obtain⟨-,⟨-,c0⟩,⟨-,c1⟩,⟨-,c2⟩,⟨-,c3⟩,⟨-,c4⟩,⟨-,c5⟩,-⟩:=HY.o;have hpl:pre.length<=maxLen:=by rw[HK.o];omega
   have wH:aj (∀nq:Nat,Calls Tryz.prog 63 #[.slice aB p.ds.length aA,.string t.nm] (W2.drewN nq) λe w'=>e= .returned (.int .i64 (xZ p.ds t.nm))∧W2.drewN nq=w'):=ah (λnq=>by have hb':=below_drewN (n:=nq) HY.o.1;exact nJ p.ds t.nm (W2.drewN nq) aB aA Sv ((HP.o.2.2.1.below hb').mono hb'.size));have Gv:aj (∀nq:Nat,Calls Tryz.prog 64 #[.slice (some ⟨b,off,none⟩) k ay,.string t.nm] (W2.drewN nq) λe w'=>e= .returned (.int .i64 (oQ pre t.nm))∧W2.drewN nq=w'):=ah (λnq=>by have hb':=below_drewN (n:=nq) HY.o.1;have:=gL pre t.nm (W2.drewN nq) (some ⟨b,off,none⟩) ay hpl ((vK.o.below hb').mono hb'.size);rw[HK.o]at this;exact this);have hk0:(0:Int)<=k:=by omega
   have hk1:(k:Int)<=ay:=by omega
   have hk2:k<=ay:=by omega
   go_cut [37] (λs' W3=>s'= .bool (mY p.ds t.nm.toList||mJ pre t.nm.toList)∧Sit w W3 ((nb,0,.string t.nm)::(nb,1,.int .i64 t.line)::(nb,2,.slice fC t.bg.length dw)::(nb,3,.slice bR t.body.len aY)::[(w.heap.size,0,(.slice aB p.ds.length aA)),(w.heap.size,1,(.slice (some ⟨b,off,none⟩) p.ts.length ay))]))
   case first=>
    as_aux_lemma=>
     rcases L9 p.ds t.nm with⟨e1,e2⟩|⟨j,e1,e2⟩
     ·rw[e1]at wH;rcases La pre t.nm with⟨e3,e4⟩|⟨j',e3,e4⟩
      all_goals rw[e3]at Gv;have HF:=ah e2;have HG:=ah e4;clear e1 e2 e3 e4;go_quiet (first|(go_at_call 63;exact lX (wH.o _))|(go_at_call 64;exact lX (Gv.o _)));go_wp2_with fail;go_meet;exact⟨by rw[HF.o,HG.o];rfl,HY.o.draws _⟩
     ·rw[e1]at wH;have HF:=ah e2;have hj:decide ((j:Int) ≥ 0)=true:=(by simp);clear e1 e2;go_quiet (first|(go_at_call 63;exact lX (wH.o _))|(go_at_call 64;exact lX (Gv.o _)));go_wp2_with fail;go_meet;exact⟨by rw[HF.o];rfl,HY.o.draws _⟩
   obtain⟨rfl,hX⟩:=hcut;have HZ:=ah hX;have HB3:=ah hX.1;clear hX HY wH Gv c0 c1 c2 c3 c4 c5;cases sQ:(mY p.ds t.nm.toList||mJ pre t.nm.toList)
   ·have bV:=ah (HE.o.trans (if_neg (by rw[sQ];decide)));go_wp2_with fail;go_roundg R.length
    case measure=>simp
    case rel=>exact⟨k+1,pre++[t],R,rfl,by go_num,by rw[List.append_assoc];exact tY.o,by rw[List.length_append,HK.o];rfl,bV.o,⟨HZ.o.1,HZ.o.2.2.2.2.2⟩⟩
   ·have HF:aj (res=(4,t.line)):=ah (HR.o.trans (by rw[HE.o.trans (if_pos sQ)]));obtain⟨-,⟨-,c0⟩,⟨-,c1⟩,⟨-,c2⟩,⟨-,c3⟩,⟨-,c4⟩,⟨-,c5⟩,-⟩:=HZ.o;go_wp2_with fail;go_quiet (fail);go_wp2_with fail
    go_ret2
    exact⟨iU (congrArg Prod.fst HF.o) (congrArg Prod.snd HF.o),below_drewN HB3.o _⟩
  |nil=>
   obtain rfl:k=p.ts.length:=by simpa using hlen
   have HR2:aj (res=ze p.ds p.ts p.ts):=ah (HR.o.trans (by rw[HE.o];rfl));clear hrow hlen tY HK HE HR vK;have hth:=HP.o.2.2.2.below HU.o.1;obtain⟨-,⟨-,c0⟩,⟨-,c1⟩,-⟩:=HU.o;go_wp2_with fail;go_loopg [6,7,8,9] p.ts.length (λg s _ _ _ wr=> ∃(k:Nat) (R:List Th),g=R.length∧s= .int .i64 k∧k+R.length=p.ts.length∧ze p.ds p.ts p.ts=ze p.ds p.ts R∧fQ wr w.heap.size R aD k∧Sit w wr [(w.heap.size,0,(.slice aB p.ds.length aA)),(w.heap.size,1,(.slice aD p.ts.length ay))])
   case atStart=>exact⟨0,p.ts,rfl,rfl,by simp,rfl,hth,HU.o⟩
   case round=>
    obtain⟨k,R,rfl,rfl,hlen,heq,hrow,hsit⟩:=hrel;have HV:=ah hsit;have HE:=ah (HR2.o.trans heq);have Eh:=ah heq;clear hsit HU c0 c1 heq hth;obtain⟨-,⟨-,c0⟩,⟨-,c1⟩,-⟩:=HV.o;cases R with
    |nil=>
     obtain rfl:k=p.ts.length:=(by simpa using hlen);have HF:=ah (HE.o.trans (rfl:_=((0:Int),(0:Int))));go_wp2_with fail
     go_ret2
     exact⟨iU (congrArg Prod.fst HF.o) (congrArg Prod.snd HF.o),HV.o.1⟩
    |cons t R=>
     obtain⟨⟨b,off,fC,dw,bR,aY,rfl,hB,x0,x1,x2,x3,hok,htx,hst⟩,hrest⟩:=hrow;simp only[List.length_cons]at hlen;have hkl:k<p.ts.length:=(by omega);have bk3:=hok.2.2.1;have hll:=hok.2.2.1;have hcl:=hst.2;unfold maxLen at hll;clear hst hok;go_upto_region 11 with fail;clear c0 c1;obtain⟨nb,hnb⟩: ∃n,wr.heap.size=n:=⟨_,rfl⟩;generalize hW2:World.alloc wr _=W2;have HY:aj (Sit w W2 ((nb,0,.string t.nm)::(nb,1,.int .i64 t.line)::(nb,2,.slice fC t.bg.length dw)::(nb,3,.slice bR t.body.len aY)::[(w.heap.size,0,(.slice aB p.ds.length aA)),(w.heap.size,1,(.slice (some ⟨b,off,none⟩) p.ts.length ay))])):=ah (by rw[<- hW2];exact HV.o.yh hnb _ _ _ _ _);have mh:aj (Below wr.heap.size wr W2):=ah (by rw[<- hW2];exact ak _ _);have Ah:=ah (htx.below (mh.o.mono HV.o.1.size));have jE:=ah (hrest.below (mh.o.mono HV.o.1.size));have HB3:=ah HY.o.1;rw[hnb];clear hW2 hnb x0 x1 x2 x3 HV htx hrest mh;obtain⟨-,⟨-,c0⟩,⟨-,c1⟩,⟨-,c2⟩,⟨-,c3⟩,⟨-,c4⟩,⟨-,c5⟩,-⟩:=HY.o;cases h1:decide ((4:Int)<t.bg.length)
     case true=>
      as_aux_lemma=>
       have HF:=ah (HE.o.trans (if_pos h1));have h1':4<t.bg.length:=(by simp at h1;omega);clear h1;go_wp2_with fail;go_quiet (fail);go_wp2_with fail
       go_ret2
       exact⟨iU (congrArg Prod.fst HF.o) (congrArg Prod.snd HF.o),below_drewN HB3.o _⟩
     have HE2:=ah (HE.o.trans (if_neg (by rw[h1];decide)));have om:=ah (Eh.o.trans (if_neg (by rw[h1];decide)));have h1':t.bg.length<=4:=(by simp at h1;omega);clear HE Eh h1;go_wp2_with fail;go_loopg [8,9] t.bg.length (λg s _ wx=>W2=wx∧∃(k':Nat) (pre R':List ByteArray),g=R'.length∧s= .int .i64 k'∧pre++R'=t.bg∧pre.length=k'∧rP p.ds p.ts t.bg []=rP p.ds p.ts R' pre)
     case atStart=>exact⟨rfl,0,[],t.bg,rfl,rfl,rfl,rfl,rfl⟩
     case round=>
      obtain⟨rfl,k',pre,R',rfl,rfl,hds,hk',heq'⟩:=hrel;have bV:=ah heq';have hlen':k'+R'.length=t.bg.length:=(by rw[<- hds,List.length_append,hk']);have hrow:=Ah.o.drop k';rw[Nat.zero_add,<- hds,<- hk',List.drop_left]at hrow;rw[hk']at hrow;have vK:=ah ((hds ▸ Ah.o:eD W2 w.heap.size (pre++R') fC 0).take);have tY:=ah hds;have HK:=ah hk';clear hds hk' heq';cases R' with
      |nil=>
       obtain rfl:k'=t.bg.length:=(by simpa using hlen');have HF:=ah (om.o.trans (if_neg (by rw[bV.o];simp[rP])));go_wp2_with fail;go_roundg R.length
       case measure=>simp
       case rel=>exact⟨k+1,R,rfl,by go_num,by omega,HF.o,jE.o,⟨HY.o.1,HY.o.2.2.2.2.2⟩⟩
      |cons s R'=>
       obtain⟨⟨b',off',rfl,hB',y0,hs⟩,-⟩:=hrow;simp only[List.length_cons]at hlen';have hkl':k'<t.bg.length:=(by omega);have HL:aj (rP p.ds p.ts t.bg []=((mY p.ds s.toList||mJ p.ts s.toList)||mI pre s.toList||rP p.ds p.ts R' (pre++[s]))):=ah (bV.o.trans (by rw[rP]));have hpl:pre.length<=maxLen:=(by rw[HK.o];omega);have wH:=ah (nJ p.ds s W2 aB aA Sv ((HP.o.2.2.1.below HY.o.1).mono HY.o.1.size));have Gv:=ah (gL p.ts s W2 (some ⟨b,off,none⟩) ay hlt' ((HP.o.2.2.2.below HY.o.1).mono HY.o.1.size));have Zo:=ah (je pre s W2 (some ⟨b',off',none⟩) dw hpl (vK.o.mono HY.o.1.size));rw[HK.o]at Zo;have hk0:(0:Int)<=k':=(by omega);have hk1:(k':Int)<=dw:=(by omega);have hk2:k'<=dw:=(by omega);clear bV;go_upto_region 17 with fail;go_cut [90] (λs' W3=>W2=W3∧s'= .bool ((mY p.ds s.toList||mJ p.ts s.toList)||mI pre s.toList))
       case first=>
        as_aux_lemma=>
         rcases L9 p.ds s with⟨e1,e2⟩|⟨j,e1,e2⟩
         ·rcases La p.ts s with⟨e3,e4⟩|⟨j,e3,e4⟩
          ·rcases EJ pre s with⟨e5,e6⟩|⟨j,e5,e6⟩
           all_goals rw[e1]at wH;rw[e3]at Gv;rw[e5]at Zo;have HF:aj (mY p.ds s.toList=false∧mJ p.ts s.toList=false∧mI pre s.toList=_):=ah ⟨e2,e4,e6⟩;clear e1 e2 e3 e4 e5 e6;go_wp2_with (first|(go_at_call 63;refine wH.o.mono ?_;rintro e w' ⟨rfl,rfl⟩)|(go_at_call 64;refine Gv.o.mono ?_;rintro e w' ⟨rfl,rfl⟩)|(go_at_call 65;refine Zo.o.mono ?_;rintro e w' ⟨rfl,rfl⟩));go_meet;exact⟨rfl,by rw[HF.o.1,HF.o.2.1,HF.o.2.2];rfl⟩
          ·rw[e1]at wH;rw[e3]at Gv;have HF:aj (mY p.ds s.toList=false∧mJ p.ts s.toList=true):=ah ⟨e2,e4⟩;clear e1 e2 e3 e4;go_wp2_with (first|(go_at_call 63;refine wH.o.mono ?_;rintro e w' ⟨rfl,rfl⟩)|(go_at_call 64;refine Gv.o.mono ?_;rintro e w' ⟨rfl,rfl⟩));go_meet;exact⟨rfl,by rw[HF.o.1,HF.o.2];rfl⟩
         ·rw[e1]at wH;have HF:=ah e2;clear e1 e2;go_wp2_with (go_at_call 63;refine wH.o.mono ?_;rintro e w' ⟨rfl,rfl⟩);go_meet;exact⟨rfl,by rw[HF.o];rfl⟩
       obtain⟨rfl,rfl⟩:=hcut;clear wH Gv Zo;cases sQ:((mY p.ds s.toList||mJ p.ts s.toList)||mI pre s.toList)
       ·have HF:aj (rP p.ds p.ts t.bg []=rP p.ds p.ts R' (pre++[s])):=ah (HL.o.trans (by rw[sQ];rfl));go_wp2_with fail;go_roundg R'.length
        case measure=>simp
        case rel=>exact⟨rfl,k'+1,pre++[s],R',rfl,by go_num,by rw[List.append_assoc];exact tY.o,by rw[List.length_append,HK.o];rfl,HF.o⟩
       ·have HF:=ah (HE2.o.trans (if_pos (by rw[HL.o,sQ];rfl)));go_wp2_with fail;go_quiet (fail);go_wp2_with fail
        go_ret2
        exact⟨iU (congrArg Prod.fst HF.o) (congrArg Prod.snd HF.o),below_drewN HB3.o _⟩
def xV (l:aH):Prop:= ∀(w:World) (ao:Option Addr) (cap:Nat),l.len<=maxLen->l.At w w.heap.size ao 0->
 Calls Tryz.prog 36 #[.slice ao l.len cap] w λe w'=>e= .returned (.int .i64 (Dh l))∧Below w.heap.size w w'
theorem BN (l:aH) (hall:l.All λ_ b e=>xV b∧xV e):xV l:=by
 intro w ao cap hl hat;generalize hres:Dh l=res;have HR:=ah hres;have HAT:=ah hat;have jd:=ah hall;unfold maxLen at hl;clear hres hat hall;go_enter Tryz.func36,Tryz.ntmps36;go_wp2_with fail;go_loopw [3,4] (λs3 s wr=> ∃(k:Nat) (R:aH) (n:Int),s= .int .i64 k∧s3= .int .i64 n∧k+R.len=l.len∧res=EP R n∧(R.All λ_ b e=>xV b∧xV e)∧R.At wr wr.heap.size ao k∧Below w.heap.size w wr) (λ_ s _=>l.len -(intOf s).toNat)
 case atStart=>exact⟨0,l,l.len,rfl,rfl,by simp,HR.o.symm,jd.o,HAT.o,Below.refl _ _⟩
 case round=>
  obtain⟨k,R,n,rfl,rfl,hlen,heq,nX,hrow,hB⟩:=hrel;have HE:=ah heq;have HB:=ah hB;clear heq hB;cases R with
  |nil=>
   obtain rfl:k=l.len:=by simpa[aH.len]using hlen
   go_wp2_with fail;go_ret;exact⟨aV HE.o.symm,HB.o⟩
  |cons h b e R=>
   obtain⟨bl,off,s,rfl,hbl,hin,-,-,-,-,-,-,-,-,-,x9,x10,hrest⟩:=aH.At.head hrow;obtain⟨⟨hsb,hse⟩,AB⟩:=nX;have N8:=ah hsb;have Ch:=ah hse;have dY:=ah hin;have hkl:k<l.len:=by simp only[aH.len]at hlen;omega
   have hk0:(0:Int)<=k:=by omega
   have hk1:(k:Int)<l.len:=by omega
   clear hrow hin hsb hse;go_wp2_with fail;obtain⟨T,F,yX,hst,hF,hnext⟩:=calm wr;have HF:=ah hF;have dJ:=ah hnext;clear hF hnext;have y9:=λx=>((HF.o x).cell (p:=⟨bl,off+k*11+9,none⟩) hbl).trans x9;have uq:=λx=>((HF.o x).cell (p:=⟨bl,off+k*11+10,none⟩) hbl).trans x10;clear x9 x10;refine gZ F (by kernel_rfl) (by kernel_rfl) hst ?_
   repeat (any_goals (first|go_big_quiet_step ((first|(go_at_call_of 36 (Value.slice s.bR b.len s.aY);refine(N8.o _ s.bR s.aY dY.o.1.2.2.2.2.2.2.1 (dY.o.same (HF.o _)).2.2.2.1).mono ?_;rintro e w' ⟨rfl,hb⟩;exact⟨rfl,dJ.o _ _ hb⟩)|(go_at_call_of 36 (Value.slice s.fH e.len s.dX);refine(Ch.o _ s.fH s.dX dY.o.1.2.2.2.2.2.2.2 (dY.o.same (HF.o _)).2.2.2.2).mono ?_;rintro e w' ⟨rfl,hb⟩;exact⟨rfl,dJ.o _ _ hb⟩)))|(refine wpQuiet_step (λK hK=> ?_);go_simp;first|(refine hK _ ?_;clear hK K)|(split <;> first|(refine hK _ ?_;clear hK K)|(apply Exists.intro;refine⟨λ_=> ?_,hK _ ?_⟩;((first|(go_at_call_of 36 (Value.slice s.bR b.len s.aY);refine(N8.o _ s.bR s.aY dY.o.1.2.2.2.2.2.2.1 (dY.o.same (HF.o _)).2.2.2.1).mono ?_;rintro e w' ⟨rfl,hb⟩;exact⟨rfl,dJ.o _ _ hb⟩)|(go_at_call_of 36 (Value.slice s.fH e.len s.dX);refine(Ch.o _ s.fH s.dX dY.o.1.2.2.2.2.2.2.2 (dY.o.same (HF.o _)).2.2.2.2).mono ?_;rintro e w' ⟨rfl,hb⟩;exact⟨rfl,dJ.o _ _ hb⟩)));clear hK K)))))
   all_goals (refine wpQuiet_nil ?_;rintro _ ⟨x,rfl⟩)
   have HB2:=ah (HF.o x);clear y9 uq HF dJ hst;generalize F x=W3 at *;go_wp2_with fail;go_roundw
   case rel=>exact⟨k+1,R,_,by go_num,rfl,by simp only[aH.len]at hlen;omega,HE.o.trans (show EP R (wrap64 (n+(Dh b+Dh e)))=_ by rw[<- wrap_in']),AB,hrest.same HB2.o,HB.o.trans (HB2.o.mono HB.o.size)⟩
   case measure=>simp[intOf];omega
theorem Nl (l:aH):xV l:=BN l (aH.lM (λ_ b e hb he=>⟨BN b hb,BN e he⟩) l)
theorem Qu (pre:List De) (nm:ByteArray):(xZ pre nm= -1∧mD pre nm.toList=0)∨∃(j:Nat) (d:De) (r:List De),j<pre.length∧xZ pre nm=(j:Int)∧pre.drop j=d::r∧mD pre nm.toList=eO d:=by
 unfold xZ mD;rcases oF (λd:De=>d.nm.toList==nm.toList) pre 0 with⟨h1,h2,h3⟩|⟨j,d,r,h0,h1,h2,h3,h4⟩
 ·exact Or.inl ⟨h1,by rw[h2];rfl⟩
 ·exact Or.inr ⟨j,d,r,h0,by rw[h1,Nat.zero_add],h2,by rw[h3];rfl⟩
theorem Py {d:De} :(eO d != 4)=(d.kind != 3):=by unfold eO;grind
def ab1 (ds:List De) (w:World) (res:Int×Int) (g:Nat) (s4 s5 s6 s7 s8:Value) (wr:World):Prop:=
 ∃(k:Nat) (pre R:List De) (c l n f:Int),g=R.length∧s8= .int .i64 k∧pre++R=ds∧pre.length=k∧s4= .int .i64 c∧s5= .int .i64 l∧s6= .int .i64 n∧s7= .int .i64 f∧
  (0<=c∧c<=12∧0<=l∧l<=4∧0<=n∧n<=2∧0<=f∧f<=2)∧res=kL R pre c l n f∧Below w.heap.size w wr
theorem Nn (ds:List De) (w:World) (ao:Option Addr) (cap:Nat) (hl:ds.length<=maxLen) (hcap:ds.length<=cap) (hat:gM w w.heap.size ds ao 0) (hsh: ∀d∈ds,iw d=true):
 Calls Tryz.prog 34 #[.slice ao ds.length cap] w λe w'=>e= .returned (.tuple #[.int .i64 (kL ds [] 0 0 0 0).1,.int .i64 (kL ds [] 0 0 0 0).2])∧Below w.heap.size w w':=by
 generalize hres:kL ds [] 0 0 0 0=res;have HR:=ah hres;have HAT:=ah hat;have yH:=ah hsh;have hl':=hl;unfold maxLen at hl;clear hres hat hsh;go_enter Tryz.func34,Tryz.ntmps34;go_wp2_with fail;go_loopg [4,5,6,7,8,9,10] ds.length (λg s4 s5 s6 s7 s8 _ _ wr=>ab1 ds w res g s4 s5 s6 s7 s8 wr)
 case atStart=>exact⟨0,[],ds,0,0,0,0,rfl,rfl,rfl,rfl,rfl,rfl,rfl,rfl,by decide,HR.o.symm,Below.refl _ _⟩
 case round=>
  obtain⟨k,pre,R,c,l,n,f,rfl,rfl,hds,hk,rfl,rfl,rfl,rfl,⟨q1,q2,l1,l2,n1,n2,f1,f2⟩,hr,hB⟩:=hrel;have HE:=ah hr;have HB:=ah hB;clear hr hB HR;have hlen:k+R.length=ds.length:=by rw[<- hds,List.length_append,hk]
  have hrow:=(HAT.o.below HB.o).drop k;rw[Nat.zero_add,<- hds,<- hk,List.drop_left]at hrow;rw[hk]at hrow;cases R with
  |nil=>
   obtain rfl:k=ds.length:=by simpa using hlen
   have HF:=ah (HE.o.trans (rfl:_=((0:Int),(0:Int))));clear HE hds hk hrow;go_wp2_with fail
   go_ret2
   exact⟨iU (congrArg Prod.fst HF.o) (congrArg Prod.snd HF.o),HB.o⟩
  |cons d R=>
   have hsd:=tT (yH.o d (by rw[<- hds];simp));have tY:=ah hds;have HK:=ah hk;have vK:=ah ((hds ▸ HAT.o:gM w w.heap.size (pre++d::R) ao 0).take);clear hds hk;obtain⟨⟨b,off,rfl,iL,x0,x1,x2,x3,x4,x5,hok⟩,-⟩:=hrow;simp only[List.length_cons]at hlen;have hkl:k<ds.length:=by omega
   obtain⟨g1,g2,g3,g4⟩:=hsd;rw[ER]at HE;go_upto_region 6 with fail;obtain⟨nb,hnb⟩: ∃n,wr.heap.size=n:=⟨_,rfl⟩;generalize hW2:World.alloc wr _=W2;have HB2:aj (Below w.heap.size w W2):=ah (by rw[<- hW2];exact HB.o.alloc HB.o.size _);have HY:aj (Sit wr W2 [(nb,0,.int .i64 d.kind),(nb,1,.int .i64 d.line),(nb,2,.string d.nm),(nb,3,.int .i64 d.size),(nb,4,.int .i64 d.init),(nb,5,.string d.on)]):=ah (by rw[<- hW2];exact(Sit.start wr).Ny hnb _ _ _ _ _ _ _);rw[hnb];clear hW2 hnb x0 x1 x2 x3 x4 x5 HB;obtain⟨-,⟨-,c0⟩,⟨-,c1⟩,⟨-,c2⟩,⟨-,c3⟩,⟨-,c4⟩,⟨-,c5⟩,-⟩:=HY.o;have hpl:pre.length<=maxLen:=by rw[HK.o];omega
   have wH:aj (∀(nm:ByteArray) (nq:Nat),Calls Tryz.prog 63 #[.slice (some ⟨b,off,none⟩) k cap,.string nm] (W2.drewN nq) λe w'=>e= .returned (.int .i64 (xZ pre nm))∧W2.drewN nq=w'):=ah (λnm nq=>by have hb':=below_drewN (n:=nq) HB2.o;have:=nJ pre nm (W2.drewN nq) (some ⟨b,off,none⟩) cap hpl ((vK.o.below hb').mono hb'.size);rw[HK.o]at this;exact this);have hk0:(0:Int)<=k:=by omega
   have hk1:(k:Int)<=cap:=by omega
   have hk2:k<=cap:=by omega
   go_quiet ((go_at_call 63;exact lX (wH.o _ _)));have HZ:=ah (HY.o.draws nq);have HB3:=ah (below_drewN (n:=nq) HB2.o);clear HY HB2 wH c0 c1 c2 c3 c4 c5;generalize W2.drewN nq=w3 at *;obtain⟨-,⟨-,c0⟩,⟨-,c1⟩,⟨-,c2⟩,⟨-,c3⟩,⟨-,c4⟩,⟨-,c5⟩,-⟩:=HZ.o;rcases Qu pre d.nm with⟨e1,e2⟩|⟨j,d',r,e0,e1,-,e2⟩
   case inr=>
    as_aux_lemma=>
     rw[e1];have HF:=ah (HE.o.trans (if_pos (by rw[e2,bne_iff_ne];have:=rG d';omega)));clear e1 e2;go_wp2_with fail;go_quiet (fail);go_wp2_with fail
     go_ret2
     exact⟨iU (congrArg Prod.fst HF.o) (congrArg Prod.snd HF.o),below_drewN HB3.o _⟩
   rw[e1];have h0:(mD pre d.nm.toList != 0)=false:=by rw[e2];rfl
   have HE2:=ah (HE.o.trans (if_neg (by rw[h0];decide)));clear HE e1 e2;go_upto_region 8 with fail;cases h1:decide (4<d.size)
   case true=>
    as_aux_lemma=>
     have HF:=ah (HE2.o.trans (if_pos h1));have h1':4<d.size:=(by simpa using h1);go_wp2_with fail;go_quiet (fail);go_wp2_with fail
     go_ret2
     exact⟨iU (congrArg Prod.fst HF.o) (congrArg Prod.snd HF.o),below_drewN HB3.o _⟩
   have om:=ah (HE2.o.trans (if_neg (by rw[h1];decide)));have h1':d.size<=4:=by simpa using h1
   clear HE2 h1;go_upto_region 10 with fail;go_upto_block 2 with(fail);go_cut [4,5,6,7,36] (λs4 s5 s6 s7 _ W3=>w3=W3∧s4= .int .i64 (dc d c)∧s5= .int .i64 (dl d l)∧s6= .int .i64 (dn d n)∧s7= .int .i64 (df d f))
   case first=>
    as_aux_lemma=>
     have hkd:d.kind=1∨d.kind=2∨d.kind=3∨d.kind=4∨d.kind=5∨d.kind=6:=(by omega);have hmx:0<=max d.size 1∧max d.size 1<=4:=(by omega);rcases hkd with hkd|hkd|hkd|hkd|hkd|hkd
     ·have HA:aj (dc d c=c+max d.size 1∧dl d l=l∧dn d n=n∧df d f=f):=ah (by simp[dc,dl,dn,df,hkd] <;> first|rfl|omega);have hk3:(d.kind==1)=true:=(by rw[hkd];rfl);have hk4:(d.kind==2)=false:=(by rw[hkd];rfl);have hk5:(d.kind==3)=false:=(by rw[hkd];rfl);have Oj:(d.kind==4)=false:=(by rw[hkd];rfl);have UZ:(d.kind==5)=false:=(by rw[hkd];rfl);clear hkd;go_wp2_with fail;go_meet;exact⟨rfl,by rw[HA.o.1],by rw[HA.o.2.1],by rw[HA.o.2.2.1],by rw[HA.o.2.2.2]⟩
     ·have HA:aj (dc d c=c+max d.size 1∧dl d l=l∧dn d n=n∧df d f=f):=ah (by simp[dc,dl,dn,df,hkd] <;> first|rfl|omega);have hk3:(d.kind==1)=false:=(by rw[hkd];rfl);have hk4:(d.kind==2)=true:=(by rw[hkd];rfl);have hk5:(d.kind==3)=false:=(by rw[hkd];rfl);have Oj:(d.kind==4)=false:=(by rw[hkd];rfl);have UZ:(d.kind==5)=false:=(by rw[hkd];rfl);clear hkd;go_wp2_with fail;go_meet;exact⟨rfl,by rw[HA.o.1],by rw[HA.o.2.1],by rw[HA.o.2.2.1],by rw[HA.o.2.2.2]⟩
     ·have HA:aj (dc d c=c∧dl d l=l+1∧dn d n=n∧df d f=f):=ah (by simp[dc,dl,dn,df,hkd] <;> first|rfl|omega);have hk3:(d.kind==1)=false:=(by rw[hkd];rfl);have hk4:(d.kind==2)=false:=(by rw[hkd];rfl);have hk5:(d.kind==3)=true:=(by rw[hkd];rfl);have Oj:(d.kind==4)=false:=(by rw[hkd];rfl);have UZ:(d.kind==5)=false:=(by rw[hkd];rfl);clear hkd;go_wp2_with fail;go_meet;exact⟨rfl,by rw[HA.o.1],by rw[HA.o.2.1],by rw[HA.o.2.2.1],by rw[HA.o.2.2.2]⟩
     ·have HA:aj (dc d c=c∧dl d l=l+1∧dn d n=n∧df d f=f):=ah (by simp[dc,dl,dn,df,hkd] <;> first|rfl|omega);have hk3:(d.kind==1)=false:=(by rw[hkd];rfl);have hk4:(d.kind==2)=false:=(by rw[hkd];rfl);have hk5:(d.kind==3)=false:=(by rw[hkd];rfl);have Oj:(d.kind==4)=true:=(by rw[hkd];rfl);have UZ:(d.kind==5)=false:=(by rw[hkd];rfl);clear hkd;go_wp2_with fail;go_meet;exact⟨rfl,by rw[HA.o.1],by rw[HA.o.2.1],by rw[HA.o.2.2.1],by rw[HA.o.2.2.2]⟩
     ·have HA:aj (dc d c=c∧dl d l=l∧dn d n=n+1∧df d f=f):=ah (by simp[dc,dl,dn,df,hkd] <;> first|rfl|omega);have hk3:(d.kind==1)=false:=(by rw[hkd];rfl);have hk4:(d.kind==2)=false:=(by rw[hkd];rfl);have hk5:(d.kind==3)=false:=(by rw[hkd];rfl);have Oj:(d.kind==4)=false:=(by rw[hkd];rfl);have UZ:(d.kind==5)=true:=(by rw[hkd];rfl);clear hkd;go_wp2_with fail;go_meet;exact⟨rfl,by rw[HA.o.1],by rw[HA.o.2.1],by rw[HA.o.2.2.1],by rw[HA.o.2.2.2]⟩
     ·have HA:aj (dc d c=c∧dl d l=l∧dn d n=n∧df d f=f+1):=ah (by simp[dc,dl,dn,df,hkd] <;> first|rfl|omega);have hk3:(d.kind==1)=false:=(by rw[hkd];rfl);have hk4:(d.kind==2)=false:=(by rw[hkd];rfl);have hk5:(d.kind==3)=false:=(by rw[hkd];rfl);have Oj:(d.kind==4)=false:=(by rw[hkd];rfl);have UZ:(d.kind==5)=false:=(by rw[hkd];rfl);clear hkd;go_wp2_with fail;go_meet;exact⟨rfl,by rw[HA.o.1],by rw[HA.o.2.1],by rw[HA.o.2.2.1],by rw[HA.o.2.2.2]⟩
   obtain⟨rfl,rfl,rfl,rfl,rfl⟩:=hcut;have hc':0<=dc d c∧dc d c<=16:=by unfold dc;split <;> omega
   have hl'':0<=dl d l∧dl d l<=5:=by unfold dl;split <;> omega
   have hn':0<=dn d n∧dn d n<=3:=by unfold dn;split <;> omega
   have hf':0<=df d f∧df d f<=3:=by unfold df;split <;> omega
   generalize hcc:dc d c=c' at *;generalize hll:dl d l=l' at *;generalize hnn:dn d n=n' at *;generalize QN:df d f=f' at *;clear hcc hll hnn QN;go_upto_region 20 with fail;go_cut [69] (λs' W3=>w3=W3∧s'= .bool (lim c' l' n' f'))
   case first=>
    as_aux_lemma=>
     have HF:aj (lim c' l' n' f'=(((decide (12<c')||decide (4<l'))||decide (2<n'))||decide (2<f'))):=ah rfl;go_wp2_with fail
     all_goals go_meet
     all_goals exact⟨rfl,by first|(rw[HF.o];done)|(rw[HF.o];congr 1;go_light;grind)⟩
   obtain⟨rfl,rfl⟩:=hcut;cases h2:lim c' l' n' f'
   case true=>
    as_aux_lemma=>
     have HF:=ah (om.o.trans (if_pos h2));go_wp2_with fail;go_quiet (fail);go_wp2_with fail
     go_ret2
     exact⟨iU (congrArg Prod.fst HF.o) (congrArg Prod.snd HF.o),below_drewN HB3.o _⟩
   have zh:=ah (om.o.trans (if_neg (by rw[h2];decide)));have hlim:c'<=12∧l'<=4∧n'<=2∧f'<=2:=by unfold lim at h2;simp at h2;omega
   clear om h2;go_upto_region 22 with fail;cases h5:(d.kind==5)
   ·have HF:=ah (zh.o.trans ((if_neg (by rw[h5];simp)).trans (if_neg (by rw[h5];simp))));clear zh;go_wp2_with fail;go_roundg R.length
    case measure=>simp
    case rel=>exact⟨k+1,pre++[d],R,c',l',n',f',rfl,by go_num,by rw[List.append_assoc];exact tY.o,by rw[List.length_append,HK.o];rfl,rfl,rfl,rfl,rfl,by omega,HF.o,HB3.o⟩
   ·go_wp2_with fail;have wH:aj (∀(nm:ByteArray) (nq:Nat),Calls Tryz.prog 63 #[.slice (some ⟨b,off,none⟩) k cap,.string nm] (w3.drewN nq) λe w'=>e= .returned (.int .i64 (xZ pre nm))∧w3.drewN nq=w'):=ah (λnm nq=>by have hb':=below_drewN (n:=nq) HB3.o;have:=nJ pre nm (w3.drewN nq) (some ⟨b,off,none⟩) cap hpl ((vK.o.below hb').mono hb'.size);rw[HK.o]at this;exact this);go_quiet ((go_at_call 63;exact lX (wH.o _ _)));have HZ2:=ah (HZ.o.draws nq);have dH:=ah (below_drewN (n:=nq) HB3.o);clear HZ wH c0 c1 c2 c3 c4 c5 HB3;generalize w3.drewN nq=w5 at *;have HB3:=dH;clear dH;obtain⟨-,⟨-,c0⟩,⟨-,c1⟩,⟨-,c2⟩,⟨-,c3⟩,⟨-,c4⟩,⟨-,c5⟩,-⟩:=HZ2.o;rcases Qu pre d.on with⟨e1,e2⟩|⟨j,d',r,e0,e1,e3,e2⟩
    ·have HF:=ah (zh.o.trans (if_pos (by rw[h5,e2];rfl)));rw[e1];clear e1 e2;go_wp2_with fail;go_quiet (fail);go_wp2_with fail
     go_ret2
     exact⟨iU (congrArg Prod.fst HF.o) (congrArg Prod.snd HF.o),below_drewN HB3.o _⟩
    ·have KH:=ah (zh.o.trans (if_neg (by rw[h5,e2];have:=rG d';simp;omega)));rw[e2,Py]at KH;have hrow:=(vK.o.below HB3.o).drop j;rw[e3,Nat.zero_add]at hrow;obtain⟨⟨b2,off2,hbe,bj7,z0,-⟩,-⟩:=hrow;obtain⟨rfl,rfl⟩:b=b2∧off=off2:=(by injection hbe with h;injection h with h1 h2;exact⟨h1,h2⟩);have hjl:j<ds.length:=(by have:=HK.o;omega);rw[e1];clear e1 e2 e3 hbe zh;cases h8:(d'.kind != 3)
     case true=>
      as_aux_lemma=>
       have HF:=ah (KH.o.trans (if_pos (by rw[h5,h8];rfl)));go_wp2_with fail;go_quiet (fail);go_wp2_with fail
       go_ret2
       exact⟨iU (congrArg Prod.fst HF.o) (congrArg Prod.snd HF.o),below_drewN HB3.o _⟩
     have HF:=ah (KH.o.trans (if_neg (by rw[h5,h8];decide)));clear KH;go_wp2_with fail;go_roundg R.length
     case measure=>simp
     case rel=>exact⟨k+1,pre++[d],R,c',l',n',f',rfl,by go_num,by rw[List.append_assoc];exact tY.o,by rw[List.length_append,HK.o];rfl,rfl,rfl,rfl,rfl,by omega,HF.o,HB3.o⟩
end Go.Proofs.YtkmllehjemjgpaaGreatDoor
