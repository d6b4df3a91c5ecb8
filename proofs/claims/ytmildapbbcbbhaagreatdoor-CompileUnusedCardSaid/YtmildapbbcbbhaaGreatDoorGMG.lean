/- Contract of the checker's statement: where nothing is noted. And what hangs on it. -/
import Derived.Test.YtmildapbbcbbhaaGreatDoorGME
set_option linter.unusedSimpArgs false
set_option linter.unusedVariables false
set_option maxHeartbeats 40000000
set_option maxRecDepth 1000000
namespace Go.Proofs.YtmildapbbcbbhaaGreatDoor
open Go.RowKit
open Md
section
variable (p:Pr) (w:World) (aK aM:Option Addr) (aH aD:Nat) (i:Int) (cK:Option Addr) (bQ bs bt bc:Nat)
theorem qR (h:dD) (b e ar:aY) (s:Sl) (hi:bW i) (hp:p.At w aK aM) (hin:DF w h b e s) (eH:eG w) (har:ar.len<=maxLen) (hat:ar.At w w.heap.size cK 0) (hh:Holds w (um bc p aK aM aH aD i cK ar.len bQ bs bt)) {res:Int} (hc:
 ((h.op<1∨15<h.op)∧0=res)∨
 (h.op=1∧Cg p i h=res)∨
 ((h.op=2∨h.op=3)∧jW p i h.dN h.xn h.dJ h.bG=res)∨
 (h.op=4∧gu [dQ (mean p i h.nm) [4],nest (fF ar [7]||qV ar h.nm [4])]=res)∨
 ((h.op=5∨h.op=6)∧gu [dQ (mean p i h.nm) [5],nest (fF ar [7]||qV ar h.nm [5,6])]=res)∨
 (h.op=7∧nest (fF ar [7])=res)∨
 (h.op=8∧nest (fF ar [7,8])=res)∨
 ((h.op=9∨h.op=10∨h.op=11)∧gu [dQ (mean p i h.nm) [6],nest ((fF ar [7]|| !qV ar (jY p.ds h.nm) [4])||(h.op==9&&fF ar [8]))]=res)∨
 (h.op=15∧gu [dQ (mean p i h.nm) [1],dQ (mean p i h.arg) [7],nest (fF ar [7])]=res)∨
 (h.op=13∧∃(j:Nat) (t:Th) (r:List Th),i=(j:Int)∧p.ts.drop j=t::r∧gu [dQ (mean p i h.nm) [8],nest (fF ar [7,8]||h.nm.toList==t.nm.toList)]=res)):
 Calls Tryz.prog 89 #[.pointer (some ⟨bc,0,none⟩),iy h b e s] w λe' w'=>e'= .returned (.int .i64 res)∧Below w.heap.size w w':=by
 have HH:=ah (show Sit w w _ from⟨ak _ _,hh⟩);obtain⟨fQ,eU,fT,eu,dH,cu,iC,gy⟩:=s;have hxk:=hin.1.2.2.2.2.2.1;have hns:=hin.1.2.2.1;have oN:=ah hin;have OJ:=ah hc;clear hc;unfold iy;dsimp only;go_enter Tryz.func89,Tryz.ntmps89;go_upto_region 1 with fail;generalize hW:World.alloc w _=W;generalize Value.agg #[_,_,_,_,_,_,_,_,_,_,_]=a0;have HX:aj (Sit w W (rA w.heap.size h b e ⟨fQ,eU,fT,eu,dH,cu,iC,gy⟩ (um bc p aK aM aH aD i cK ar.len bQ bs bt))):=ah (by rw[<- hW];exact HH.o.uW rfl _ _ _ _ _ _ _ _ _ _ _ _);clear hW HH;have HP:=ah (hp.same HX.o.1);have jK:=ah (eH.same HX.o.1);have OC:=ah (hin.2.2.1.same HX.o.1);have lQ:=ah (hat.same HX.o.1);have ku:=ah har;have HK:aj (∀w',Below W.heap.size W w'->Holds w' (um bc p aK aM aH aD i cK ar.len bQ bs bt)):=ah (λw' hb=>(HX.o.next hb).2.2.2.2.2.2.2.2.2.2.2.2);clear hp eH hh hin hat har;have L0: ∀w',Below W.heap.size W w'->w'.cell? ⟨w.heap.size,0,none⟩=some (.int .i64 h.op):=λw' hb=>(HX.o.next hb).2.1.2;have L2: ∀w',Below W.heap.size W w'->w'.cell? ⟨w.heap.size,2,none⟩=some (.string h.nm):=λw' hb=>(HX.o.next hb).2.2.2.1.2;have L3: ∀w',Below W.heap.size W w'->w'.cell? ⟨w.heap.size,3,none⟩=some (.string h.arg):=λw' hb=>(HX.o.next hb).2.2.2.2.1.2;have L5: ∀w',Below W.heap.size W w'->w'.cell? ⟨w.heap.size,5,none⟩=some (.int .i64 h.dN):=λw' hb=>(HX.o.next hb).2.2.2.2.2.2.1.2;have L6: ∀w',Below W.heap.size W w'->w'.cell? ⟨w.heap.size,6,none⟩=some (.int .i64 h.xn):=λw' hb=>(HX.o.next hb).2.2.2.2.2.2.2.1.2;have L7: ∀w',Below W.heap.size W w'->w'.cell? ⟨w.heap.size,7,none⟩=some (.string h.dJ):=λw' hb=>(HX.o.next hb).2.2.2.2.2.2.2.2.1.2;have L8: ∀w',Below W.heap.size W w'->w'.cell? ⟨w.heap.size,8,none⟩=some (.slice fT h.bG.len eu):=λw' hb=>(HX.o.next hb).2.2.2.2.2.2.2.2.2.1.2;have hB:Below W.heap.size W W:=ak _ _;have l0:=L0 W hB;rcases OJ.o with⟨hop,hr⟩|⟨hop,hr⟩|⟨hop,hr⟩|⟨hop,hr⟩|⟨hop,hr⟩|⟨hop,hr⟩|⟨hop,hr⟩|⟨hop,hr⟩|⟨hop,hr⟩|⟨hop,j,t,r,rfl,hd,hr⟩
 all_goals have HR:=ah hr;clear hr OJ
 ·have gg: ∀k:Int,1<=k->k<=15->(h.op==k)=false:=λk h1 h2=>by rw[beq_eq_false_iff_ne];omega
  have g1:=gg 1 (by decide) (by decide);have g2:=gg 2 (by decide) (by decide);have g3:=gg 3 (by decide) (by decide);have g4:=gg 4 (by decide) (by decide);have g5:=gg 5 (by decide) (by decide);have g6:=gg 6 (by decide) (by decide);have g7:=gg 7 (by decide) (by decide);have g8:=gg 8 (by decide) (by decide);have g9:=gg 9 (by decide) (by decide);have g10:=gg 10 (by decide) (by decide);have g11:=gg 11 (by decide) (by decide);have g12:=gg 12 (by decide) (by decide);have g13:=gg 13 (by decide) (by decide);have g14:=gg 14 (by decide) (by decide);have g15:=gg 15 (by decide) (by decide);clear hop gg;go_wp2_with fail;go_ret;exact⟨bV HR.o,HX.o.1⟩
 ·obtain⟨g1,g2,g3,g4,g5,g6,g7,g8,g9,g10,g11,g12,g13,g14,g15⟩:=op1 hop;clear hop;have lA:=(HX.o.2).2.1.2;have lB:=(HX.o.2).2.2.2.2.1.2;have lC:=(HX.o.2).2.2.2.2.2.2.2.2.2.1.2;have lD:=(HX.o.2).2.2.2.2.2.2.2.2.2.2.1.2;have l2:=L2 W hB;have l3:=L3 W hB;go_wp2_with fail;refine(Q0 p _ aK aM aH aD i cK ar.len bQ bs bt bc h b e ⟨fQ,eU,fT,eu,dH,cu,iC,gy⟩ hi (HP.o.same hB) (oN.o.same HX.o.1) (jK.o.same hB) (HK.o _ hB)).mono ?_;rintro e' w1 ⟨rfl,hb⟩;replace hB:=hB.trans (hb.mono hB.size);clear hb;go_wp2_with fail;go_ret;exact⟨bV (by first|exact HR.o|exact HR.o.symm|(rw[<- HR.o];first|rfl|simp_all)),by first|exact(HX.o.next hB).1|exact(HX.o.next (hB.alloc hB.size _)).1⟩
 ·rcases hop with hop|hop
  all_goals
   first|obtain⟨g1,g2,g3,g4,g5,g6,g7,g8,g9,g10,g11,g12,g13,g14,g15⟩:=op2 hop|obtain⟨g1,g2,g3,g4,g5,g6,g7,g8,g9,g10,g11,g12,g13,g14,g15⟩:=op3 hop
   clear hop;go_wp2_with fail;refine(xV p _ aK aM aH aD i cK ar.len bQ bs bt bc h.dN h.xn h.dJ h.bG fT eu hi (HP.o.same hB) hxk (OC.o.same hB) (jK.o.same hB) (HK.o _ hB)).mono ?_;rintro e' w1 ⟨rfl,hb⟩;replace hB:=hB.trans (hb.mono hB.size);clear hb;go_wp2_with fail;go_ret;exact⟨bV (by first|exact HR.o|exact HR.o.symm|(rw[<- HR.o];first|rfl|simp_all)),by first|exact(HX.o.next hB).1|exact(HX.o.next (hB.alloc hB.size _)).1⟩
 ·obtain⟨g1,g2,g3,g4,g5,g6,g7,g8,g9,g10,g11,g12,g13,g14,g15⟩:=op4 hop;clear hop;cases hq:fF ar [7] <;> cases hq2:qV ar h.nm [4]
  all_goals
   repeat
    go_wp2_with fail
    first
    |(go_at_call 123;refine(mW _ _).mono ?_;rintro e' wn ⟨rfl,rfl⟩)
    |(go_at_call 121;refine(kT [_,_] _ _ 2 (by simp[maxLen]) (mI _ _ _ _)).mono ?_;rintro e' wf ⟨rfl,rfl⟩)
    |(go_at_call 126;refine(sP p _ aK aM aH aD i cK ar.len bQ bs bt bc h.nm (HP.o.same hB) (HK.o _ hB)).mono ?_;rintro e' w1 ⟨rfl,hb⟩;replace hB:=hB.trans (hb.mono hB.size);clear hb)
    |(first
      |(go_at_call 122;refine(kX p _ aK aM aH aD i cK ar.len bQ bs bt bc h.nm [_] _ 1 hi (by decide) (HP.o.same (hB.alloc hB.size _)) (jq _ _ _) (HK.o _ (hB.alloc hB.size _))).mono ?_)
      |(go_at_call 124;refine(lZ p _ aK aM aH aD i cK bQ bs bt bc ar [_] _ 1 (by decide) (jq _ _ _) ku.o (lQ.o.same (hB.alloc hB.size _)) (HK.o _ (hB.alloc hB.size _))).mono ?_)
      |(go_at_call 125;refine(oP p _ aK aM aH aD i cK bQ bs bt bc ar _ [_] _ 1 (by decide) (jq _ _ _) ku.o (lQ.o.same (hB.alloc hB.size _)) (HK.o _ (hB.alloc hB.size _))).mono ?_)
      rintro e' w1 ⟨rfl,hb⟩;replace hB:=(hB.alloc hB.size _).trans (hb.mono (hB.alloc hB.size _).size);clear hb)
   go_wp2_with fail;go_ret;exact⟨bV (by first|exact HR.o|exact HR.o.symm|(rw[<- HR.o];first|rfl|simp_all)),by first|exact(HX.o.next hB).1|exact(HX.o.next (hB.alloc hB.size _)).1⟩
 ·rcases hop with hop|hop
  all_goals
   first|obtain⟨g1,g2,g3,g4,g5,g6,g7,g8,g9,g10,g11,g12,g13,g14,g15⟩:=op5 hop|obtain⟨g1,g2,g3,g4,g5,g6,g7,g8,g9,g10,g11,g12,g13,g14,g15⟩:=op6 hop
   clear hop;cases hq:fF ar [7] <;> cases hq2:qV ar h.nm [5,6]
  all_goals
   repeat
    go_wp2_with fail
    first
    |(go_at_call 123;refine(mW _ _).mono ?_;rintro e' wn ⟨rfl,rfl⟩)
    |(go_at_call 121;refine(kT [_,_] _ _ 2 (by simp[maxLen]) (mI _ _ _ _)).mono ?_;rintro e' wf ⟨rfl,rfl⟩)
    |(go_at_call 126;refine(sP p _ aK aM aH aD i cK ar.len bQ bs bt bc h.nm (HP.o.same hB) (HK.o _ hB)).mono ?_;rintro e' w1 ⟨rfl,hb⟩;replace hB:=hB.trans (hb.mono hB.size);clear hb)
    |(first
      |(go_at_call 122;refine(kX p _ aK aM aH aD i cK ar.len bQ bs bt bc h.nm [_] _ 1 hi (by decide) (HP.o.same (hB.alloc hB.size _)) (jq _ _ _) (HK.o _ (hB.alloc hB.size _))).mono ?_)
      |(go_at_call 124;refine(lZ p _ aK aM aH aD i cK bQ bs bt bc ar [_] _ 1 (by decide) (jq _ _ _) ku.o (lQ.o.same (hB.alloc hB.size _)) (HK.o _ (hB.alloc hB.size _))).mono ?_)
      |(go_at_call 125;refine(oP p _ aK aM aH aD i cK bQ bs bt bc ar _ [_,_] _ 2 (by decide) (mI _ _ _ _) ku.o (lQ.o.same (hB.alloc hB.size _)) (HK.o _ (hB.alloc hB.size _))).mono ?_)
      rintro e' w1 ⟨rfl,hb⟩;replace hB:=(hB.alloc hB.size _).trans (hb.mono (hB.alloc hB.size _).size);clear hb)
   go_wp2_with fail;go_ret;exact⟨bV (by first|exact HR.o|exact HR.o.symm|(rw[<- HR.o];first|rfl|simp_all)),by first|exact(HX.o.next hB).1|exact(HX.o.next (hB.alloc hB.size _)).1⟩
 ·obtain⟨g1,g2,g3,g4,g5,g6,g7,g8,g9,g10,g11,g12,g13,g14,g15⟩:=op7 hop;clear hop
  repeat
   go_wp2_with fail
   first
   |(go_at_call 123;refine(mW _ _).mono ?_;rintro e' wn ⟨rfl,rfl⟩)
   |(go_at_call 121;refine(kT [_,_] _ _ 2 (by simp[maxLen]) (mI _ _ _ _)).mono ?_;rintro e' wf ⟨rfl,rfl⟩)
   |(go_at_call 126;refine(sP p _ aK aM aH aD i cK ar.len bQ bs bt bc h.nm (HP.o.same hB) (HK.o _ hB)).mono ?_;rintro e' w1 ⟨rfl,hb⟩;replace hB:=hB.trans (hb.mono hB.size);clear hb)
   |(first
     |(go_at_call 122;refine(kX p _ aK aM aH aD i cK ar.len bQ bs bt bc h.nm [_] _ 1 hi (by decide) (HP.o.same (hB.alloc hB.size _)) (jq _ _ _) (HK.o _ (hB.alloc hB.size _))).mono ?_)
     |(go_at_call 124;refine(lZ p _ aK aM aH aD i cK bQ bs bt bc ar [_] _ 1 (by decide) (jq _ _ _) ku.o (lQ.o.same (hB.alloc hB.size _)) (HK.o _ (hB.alloc hB.size _))).mono ?_)
     |(go_at_call 125;refine(oP p _ aK aM aH aD i cK bQ bs bt bc ar _ [_] _ 1 (by decide) (jq _ _ _) ku.o (lQ.o.same (hB.alloc hB.size _)) (HK.o _ (hB.alloc hB.size _))).mono ?_)
     rintro e' w1 ⟨rfl,hb⟩;replace hB:=(hB.alloc hB.size _).trans (hb.mono (hB.alloc hB.size _).size);clear hb)
  go_wp2_with fail;go_ret;exact⟨bV (by first|exact HR.o|exact HR.o.symm|(rw[<- HR.o];first|rfl|simp_all)),by first|exact(HX.o.next hB).1|exact(HX.o.next (hB.alloc hB.size _)).1⟩
 ·obtain⟨g1,g2,g3,g4,g5,g6,g7,g8,g9,g10,g11,g12,g13,g14,g15⟩:=op8 hop;clear hop
  repeat
   go_wp2_with fail
   first
   |(go_at_call 123;refine(mW _ _).mono ?_;rintro e' wn ⟨rfl,rfl⟩)
   |(go_at_call 121;refine(kT [_,_] _ _ 2 (by simp[maxLen]) (mI _ _ _ _)).mono ?_;rintro e' wf ⟨rfl,rfl⟩)
   |(go_at_call 126;refine(sP p _ aK aM aH aD i cK ar.len bQ bs bt bc h.nm (HP.o.same hB) (HK.o _ hB)).mono ?_;rintro e' w1 ⟨rfl,hb⟩;replace hB:=hB.trans (hb.mono hB.size);clear hb)
   |(first
     |(go_at_call 122;refine(kX p _ aK aM aH aD i cK ar.len bQ bs bt bc h.nm [_] _ 1 hi (by decide) (HP.o.same (hB.alloc hB.size _)) (jq _ _ _) (HK.o _ (hB.alloc hB.size _))).mono ?_)
     |(go_at_call 124;refine(lZ p _ aK aM aH aD i cK bQ bs bt bc ar [_,_] _ 2 (by decide) (mI _ _ _ _) ku.o (lQ.o.same (hB.alloc hB.size _)) (HK.o _ (hB.alloc hB.size _))).mono ?_)
     |(go_at_call 125;refine(oP p _ aK aM aH aD i cK bQ bs bt bc ar _ [_] _ 1 (by decide) (jq _ _ _) ku.o (lQ.o.same (hB.alloc hB.size _)) (HK.o _ (hB.alloc hB.size _))).mono ?_)
     rintro e' w1 ⟨rfl,hb⟩;replace hB:=(hB.alloc hB.size _).trans (hb.mono (hB.alloc hB.size _).size);clear hb)
  go_wp2_with fail;go_ret;exact⟨bV (by first|exact HR.o|exact HR.o.symm|(rw[<- HR.o];first|rfl|simp_all)),by first|exact(HX.o.next hB).1|exact(HX.o.next (hB.alloc hB.size _)).1⟩
 ·rcases hop with hop|hop|hop
  all_goals
   first|obtain⟨g1,g2,g3,g4,g5,g6,g7,g8,g9,g10,g11,g12,g13,g14,g15⟩:=op9 hop|obtain⟨g1,g2,g3,g4,g5,g6,g7,g8,g9,g10,g11,g12,g13,g14,g15⟩:=ad2 hop|obtain⟨g1,g2,g3,g4,g5,g6,g7,g8,g9,g10,g11,g12,g13,g14,g15⟩:=ad3 hop
   clear hop;cases hq:fF ar [7] <;> cases hq2:qV ar (jY p.ds h.nm) [4] <;> cases hq3:fF ar [8]
  all_goals
   repeat
    go_wp2_with fail
    first
    |(go_at_call 123;refine(mW _ _).mono ?_;rintro e' wn ⟨rfl,rfl⟩)
    |(go_at_call 121;refine(kT [_,_] _ _ 2 (by simp[maxLen]) (mI _ _ _ _)).mono ?_;rintro e' wf ⟨rfl,rfl⟩)
    |(go_at_call 126;refine(sP p _ aK aM aH aD i cK ar.len bQ bs bt bc h.nm (HP.o.same hB) (HK.o _ hB)).mono ?_;rintro e' w1 ⟨rfl,hb⟩;replace hB:=hB.trans (hb.mono hB.size);clear hb)
    |(first
      |(go_at_call 122;refine(kX p _ aK aM aH aD i cK ar.len bQ bs bt bc h.nm [_] _ 1 hi (by decide) (HP.o.same (hB.alloc hB.size _)) (jq _ _ _) (HK.o _ (hB.alloc hB.size _))).mono ?_)
      |(go_at_call 124;refine(lZ p _ aK aM aH aD i cK bQ bs bt bc ar [_] _ 1 (by decide) (jq _ _ _) ku.o (lQ.o.same (hB.alloc hB.size _)) (HK.o _ (hB.alloc hB.size _))).mono ?_)
      |(go_at_call 125;refine(oP p _ aK aM aH aD i cK bQ bs bt bc ar _ [_] _ 1 (by decide) (jq _ _ _) ku.o (lQ.o.same (hB.alloc hB.size _)) (HK.o _ (hB.alloc hB.size _))).mono ?_)
      rintro e' w1 ⟨rfl,hb⟩;replace hB:=(hB.alloc hB.size _).trans (hb.mono (hB.alloc hB.size _).size);clear hb)
   go_wp2_with fail;go_ret;exact⟨bV (by first|exact HR.o|exact HR.o.symm|(rw[<- HR.o];first|rfl|simp_all)),by first|exact(HX.o.next hB).1|exact(HX.o.next (hB.alloc hB.size _)).1⟩
 ·obtain⟨g1,g2,g3,g4,g5,g6,g7,g8,g9,g10,g11,g12,g13,g14,g15⟩:=ad7 hop;clear hop;go_upto_region 27 with fail;refine rR (λw'=>Below W.heap.size W w') (λw w'=>Below w.heap.size w w') [193,194,195,196,197,198,199,200,201,202,203,204,205,206,207,208,4] (by kernel_rfl) (by kernel_rfl) (λ_=>ak _ _) (by rfl) (below_drewN (ak _ _) 1) ?_
  iterate 3
   apply fu.step
   case bg=>intro β A w' hβ hC hO hD;have e0:=hO 0 (by rfl);have e3:=hO 3 (by rfl);simp[Act.eval]at e0 e3;simp[Act.eval]at hD;simp[go_sem,gd,Oper.wp,e0,e3,hD,L2,hC];exact aR.mk (ak _ _) hC (bZ.mk _ _)
  refine fu.some (λv w'=> ∃b,v= .slice (some ⟨b,0,none⟩) 1 1∧gV w' w'.heap.size [1] (some ⟨b,0,none⟩) 0) ?_ ?_ ?_
  ·rintro v w w' hle ⟨b,rfl,hin⟩;exact⟨b,rfl,hin.same hle⟩
  ·intro β A w' hβ hC hO hD;simp[go_sem,gd,Oper.wp];exact aR.mk (d:=_) (v:= .slice (some ⟨_,0,none⟩) 1 1) (au _ _) (hC.trans ((au _ _).mono hC.size)) ⟨_,rfl,jq _ 1 _⟩
  apply fu.step
  case bg=>intro β A w' hβ hC hO hD;simp[Act.eval]at hD;obtain⟨br6,br7,bL3,br8,aK4⟩:=hD;simp[go_sem,gd,Oper.wp,br6,br7,br8];refine(kX p w' aK aM aH aD _ cK _ bQ bs bt bc h.nm [1] _ 1 hi (by decide) (HP.o.same hC) aK4 (HK.o _ hC)).mono ?_;rintro e' w2 ⟨rfl,hb⟩;exact aR.mk hb (hC.trans (hb.mono hC.size)) (bZ.mk _ _)
  iterate 3
   apply fu.step
   case bg=>intro β A w' hβ hC hO hD;have e0:=hO 0 (by rfl);have e3:=hO 3 (by rfl);simp[Act.eval]at e0 e3;simp[Act.eval]at hD;simp[go_sem,gd,Oper.wp,e0,e3,hD,L3,hC];exact aR.mk (ak _ _) hC (bZ.mk _ _)
  refine fu.some (λv w'=> ∃b,v= .slice (some ⟨b,0,none⟩) 1 1∧gV w' w'.heap.size [7] (some ⟨b,0,none⟩) 0) ?_ ?_ ?_
  ·rintro v w w' hle ⟨b,rfl,hin⟩;exact⟨b,rfl,hin.same hle⟩
  ·intro β A w' hβ hC hO hD;simp[go_sem,gd,Oper.wp];exact aR.mk (d:=_) (v:= .slice (some ⟨_,0,none⟩) 1 1) (au _ _) (hC.trans ((au _ _).mono hC.size)) ⟨_,rfl,jq _ 7 _⟩
  apply fu.step
  case bg=>intro β A w' hβ hC hO hD;simp[Act.eval]at hD;obtain⟨br9,bs0,⟨bL4,bs1,aK5⟩,-⟩:=hD;simp[go_sem,gd,Oper.wp,br9,bs0,bs1];refine(kX p w' aK aM aH aD _ cK _ bQ bs bt bc h.arg [7] _ 1 hi (by decide) (HP.o.same hC) aK5 (HK.o _ hC)).mono ?_;rintro e' w2 ⟨rfl,hb⟩;exact aR.mk hb (hC.trans (hb.mono hC.size)) (bZ.mk _ _)
  apply fu.step
  case bg=>intro β A w' hβ hC hO hD;have e0:=hO 0 (by rfl);have e3:=hO 3 (by rfl);simp[Act.eval]at e0 e3;simp[Act.eval]at hD;simp[go_sem,gd,Oper.wp,e0,e3,hD];exact aR.mk (ak _ _) hC (bZ.mk _ _)
  refine fu.some (λv w'=> ∃b,v= .slice (some ⟨b,0,none⟩) 1 1∧gV w' w'.heap.size [7] (some ⟨b,0,none⟩) 0) ?_ ?_ ?_
  ·rintro v w w' hle ⟨b,rfl,hin⟩;exact⟨b,rfl,hin.same hle⟩
  ·intro β A w' hβ hC hO hD;simp[go_sem,gd,Oper.wp];exact aR.mk (d:=_) (v:= .slice (some ⟨_,0,none⟩) 1 1) (au _ _) (hC.trans ((au _ _).mono hC.size)) ⟨_,rfl,jq _ 7 _⟩
  apply fu.step
  case bg=>intro β A w' hβ hC hO hD;simp[Act.eval]at hD;obtain⟨bs2,⟨bL5,bs3,aK6⟩,-⟩:=hD;simp[go_sem,gd,Oper.wp,bs2,bs3];refine(lZ p w' aK aM aH aD _ cK bQ bs bt bc ar [7] _ 1 (by decide) aK6 ku.o (lQ.o.same hC) (HK.o _ hC)).mono ?_;rintro e' w2 ⟨rfl,hb⟩;exact aR.mk hb (hC.trans (hb.mono hC.size)) (bZ.mk _ _)
  apply fu.step
  case bg=>intro β A w' hβ hC hO hD;simp[Act.eval]at hD;simp[go_sem,gd,Oper.wp,hD];refine(mW (fF ar [7]) w').mono ?_;rintro e' w2 ⟨rfl,rfl⟩;exact aR.mk (ak _ _) hC (bZ.mk _ _)
  refine fu.some (λv w'=> ∃b,v= .slice (some ⟨b,0,none⟩) 3 3∧gV w' w'.heap.size [dQ (mean p i h.nm) [1],dQ (mean p i h.arg) [7],nest (fF ar [7])] (some ⟨b,0,none⟩) 0) ?_ ?_ ?_
  ·rintro v w w' hle ⟨b,rfl,hin⟩;exact⟨b,rfl,hin.same hle⟩
  ·intro β A w' hβ hC hO hD;simp[Act.eval]at hD;simp[go_sem,gd,Oper.wp,hD];exact aR.mk (d:=_) (v:= .slice (some ⟨_,0,none⟩) 3 3) (au _ _) (hC.trans ((au _ _).mono hC.size)) ⟨_,rfl,Bg _ _ _ _ _⟩
  apply fu.step
  case bg=>intro β A w' hβ hC hO hD;simp[Act.eval]at hD;obtain⟨⟨bL6,bs4,aK7⟩,-⟩:=hD;simp[go_sem,gd,Oper.wp,bs4];refine(kT [dQ (mean p i h.nm) [1],dQ (mean p i h.arg) [7],nest (fF ar [7])] w' _ _ (by simp[maxLen]) aK7).mono ?_;rintro e' w2 ⟨rfl,rfl⟩;exact aR.mk (ak _ _) hC (bZ.mk _ _)
  apply fu.step
  case bg=>intro β A w' hβ hC hO hD;have e0:=hO 0 (by rfl);have e3:=hO 3 (by rfl);simp[Act.eval]at e0 e3;simp[Act.eval]at hD;simp[go_sem,gd,Oper.wp,e0,e3,hD];exact aR.mk (ak _ _) hC (bZ.mk _ _)
  intro wz dF;intro v0 h0 v1 h1 v2 h2 v3 h3 v4 h4 v5 h5 v6 h6 v7 h7 v8 h8 v9 h9 v10 h10 v11 h11 v12 h12 v13 zT v14 tN v15 AU v16 h16;have hl':v16=_:=h16;subst hl';clear h0 h1 h2 h3 h4 h5 h6 h7 h8 h9 h10 h11 h12 zT tN AU h16;refine dP.nil ?_;go_wp2_with fail;go_ret;exact⟨bV (by first|exact HR.o|exact HR.o.symm|(rw[<- HR.o];first|rfl|simp_all)),(HX.o.next dF).1⟩
 ·obtain⟨g1,g2,g3,g4,g5,g6,g7,g8,g9,g10,g11,g12,g13,g14,g15⟩:=ad5 hop;clear hop;go_upto_region 23 with fail;cases hq:fF ar [7,8]
  ·refine rR (λw'=>Below W.heap.size W w') (λw w'=>Below w.heap.size w w') [149,150,151,152,153,154,155,156,157,158,159,160,161,162,163,164,165,166,4] (by kernel_rfl) (by kernel_rfl) (λ_=>ak _ _) (by rfl) (below_drewN (ak _ _) 1) ?_
   iterate 3
    apply fu.step
    case bg=>intro β A w' hβ hC hO hD;have e0:=hO 0 (by rfl);have e3:=hO 3 (by rfl);simp[Act.eval]at e0 e3;simp[Act.eval]at hD;simp[go_sem,gd,Oper.wp,e0,e3,hD,L2,hC];exact aR.mk (ak _ _) hC (bZ.mk _ _)
   refine fu.some (λv w'=> ∃b,v= .slice (some ⟨b,0,none⟩) 1 1∧gV w' w'.heap.size [8] (some ⟨b,0,none⟩) 0) ?_ ?_ ?_
   ·rintro v w w' hle ⟨b,rfl,hin⟩;exact⟨b,rfl,hin.same hle⟩
   ·intro β A w' hβ hC hO hD;simp[go_sem,gd,Oper.wp];exact aR.mk (d:=_) (v:= .slice (some ⟨_,0,none⟩) 1 1) (au _ _) (hC.trans ((au _ _).mono hC.size)) ⟨_,rfl,jq _ 8 _⟩
   apply fu.step
   case bg=>intro β A w' hβ hC hO hD;simp[Act.eval]at hD;obtain⟨ZF,ZG,bp7,ZH,Qn⟩:=hD;simp[go_sem,gd,Oper.wp,ZF,ZG,ZH];refine(kX p w' aK aM aH aD _ cK _ bQ bs bt bc h.nm [8] _ 1 hi (by decide) (HP.o.same hC) Qn (HK.o _ hC)).mono ?_;rintro e' w2 ⟨rfl,hb⟩;exact aR.mk hb (hC.trans (hb.mono hC.size)) (bZ.mk _ _)
   apply fu.step
   case bg=>intro β A w' hβ hC hO hD;have e0:=hO 0 (by rfl);have e3:=hO 3 (by rfl);simp[Act.eval]at e0 e3;simp[Act.eval]at hD;simp[go_sem,gd,Oper.wp,e0,e3,hD];exact aR.mk (ak _ _) hC (bZ.mk _ _)
   refine fu.some (λv w'=> ∃b,v= .slice (some ⟨b,0,none⟩) 2 2∧gV w' w'.heap.size [7,8] (some ⟨b,0,none⟩) 0) ?_ ?_ ?_
   ·rintro v w w' hle ⟨b,rfl,hin⟩;exact⟨b,rfl,hin.same hle⟩
   ·intro β A w' hβ hC hO hD;simp[go_sem,gd,Oper.wp];exact aR.mk (d:=_) (v:= .slice (some ⟨_,0,none⟩) 2 2) (au _ _) (hC.trans ((au _ _).mono hC.size)) ⟨_,rfl,mI _ 7 8 _⟩
   apply fu.step
   case bg=>intro β A w' hβ hC hO hD;simp[Act.eval]at hD;obtain⟨ZI,⟨bp8,ZJ,Qo⟩,-⟩:=hD;simp[go_sem,gd,Oper.wp,ZI,ZJ];refine(hq ▸ lZ p w' aK aM aH aD (j:Int) cK bQ bs bt bc ar [7,8] _ 2 (by decide) Qo ku.o (lQ.o.same hC) (HK.o _ hC)).mono ?_;rintro e' w2 ⟨rfl,hb⟩;exact aR.mk hb (hC.trans (hb.mono hC.size)) (bZ.mk _ _)
   iterate 4
    apply fu.step
    case bg=>intro β A w' hβ hC hO hD;have e0:=hO 0 (by rfl);have e3:=hO 3 (by rfl);simp[Act.eval]at e0 e3;simp[Act.eval]at hD;simp[go_sem,gd,Oper.wp,e0,e3,hD,L2,hC];exact aR.mk (ak _ _) hC (bZ.mk _ _)
   apply fu.step
   case bg=>intro β A w' hβ hC hO hD;simp[Act.eval]at hD;simp[go_sem,gd,Oper.wp,hD];refine(Nl p w' aK aM aH aD cK ar.len bQ bs bt bc j t r hd (HP.o.same hC) (HK.o _ hC)).mono ?_;rintro e' w2 ⟨rfl,hb⟩;exact aR.mk hb (hC.trans (hb.mono hC.size)) (bZ.mk _ _)
   iterate 2
    apply fu.step
    case bg=>intro β A w' hβ hC hO hD;have e0:=hO 0 (by rfl);have e3:=hO 3 (by rfl);simp[Act.eval]at e0 e3;simp[Act.eval]at hD;simp[go_sem,gd,Oper.wp,e0,e3,hD];exact aR.mk (ak _ _) hC (bZ.mk _ _)
   apply fu.step
   case bg=>intro β A w' hβ hC hO hD;simp[Act.eval]at hD;simp[go_sem,gd,Oper.wp,hD];refine(mW (h.nm.toList==t.nm.toList) w').mono ?_;rintro e' w2 ⟨rfl,rfl⟩;exact aR.mk (ak _ _) hC (bZ.mk _ _)
   refine fu.some (λv w'=> ∃b,v= .slice (some ⟨b,0,none⟩) 2 2∧gV w' w'.heap.size [dQ (mean p (j:Int) h.nm) [8],nest (h.nm.toList==t.nm.toList)] (some ⟨b,0,none⟩) 0) ?_ ?_ ?_
   ·rintro v w w' hle ⟨b,rfl,hin⟩;exact⟨b,rfl,hin.same hle⟩
   ·intro β A w' hβ hC hO hD;simp[Act.eval]at hD;simp[go_sem,gd,Oper.wp,hD];exact aR.mk (d:=_) (v:= .slice (some ⟨_,0,none⟩) 2 2) (au _ _) (hC.trans ((au _ _).mono hC.size)) ⟨_,rfl,mI _ _ _ _⟩
   apply fu.step
   case bg=>intro β A w' hβ hC hO hD;simp[Act.eval]at hD;obtain⟨⟨bp9,ZK,Qp⟩,-⟩:=hD;simp[go_sem,gd,Oper.wp,ZK];refine(kT [dQ (mean p (j:Int) h.nm) [8],nest (h.nm.toList==t.nm.toList)] w' _ _ (by simp[maxLen]) Qp).mono ?_;rintro e' w2 ⟨rfl,rfl⟩;exact aR.mk (ak _ _) hC (bZ.mk _ _)
   apply fu.step
   case bg=>intro β A w' hβ hC hO hD;have e0:=hO 0 (by rfl);have e3:=hO 3 (by rfl);simp[Act.eval]at e0 e3;simp[Act.eval]at hD;simp[go_sem,gd,Oper.wp,e0,e3,hD];exact aR.mk (ak _ _) hC (bZ.mk _ _)
   intro wz dF;intro v0 h0 v1 h1 v2 h2 v3 h3 v4 h4 v5 h5 v6 h6 v7 h7 v8 h8 v9 h9 v10 h10 v11 h11 v12 h12 v13 zT v14 tN v15 AU v16 h16 v17 IZ v18 h18;have hl':v18=_:=h18;subst hl';clear h0 h1 h2 h3 h4 h5 h6 h7 h8 h9 h10 h11 h12 zT tN AU h16 IZ h18;refine dP.nil ?_;go_wp2_with fail;go_ret;exact⟨bV (by first|exact HR.o|exact HR.o.symm|(rw[<- HR.o];first|rfl|simp_all)),(HX.o.next dF).1⟩
  ·refine rR (λw'=>Below W.heap.size W w') (λw w'=>Below w.heap.size w w') [149,150,151,152,153,154,155,156,157,158,159,160,161,162,163,164,165,166,4] (by kernel_rfl) (by kernel_rfl) (λ_=>ak _ _) (by rfl) (below_drewN (ak _ _) 1) ?_
   iterate 3
    apply fu.step
    case bg=>intro β A w' hβ hC hO hD;have e0:=hO 0 (by rfl);have e3:=hO 3 (by rfl);simp[Act.eval]at e0 e3;simp[Act.eval]at hD;simp[go_sem,gd,Oper.wp,e0,e3,hD,L2,hC];exact aR.mk (ak _ _) hC (bZ.mk _ _)
   refine fu.some (λv w'=> ∃b,v= .slice (some ⟨b,0,none⟩) 1 1∧gV w' w'.heap.size [8] (some ⟨b,0,none⟩) 0) ?_ ?_ ?_
   ·rintro v w w' hle ⟨b,rfl,hin⟩;exact⟨b,rfl,hin.same hle⟩
   ·intro β A w' hβ hC hO hD;simp[go_sem,gd,Oper.wp];exact aR.mk (d:=_) (v:= .slice (some ⟨_,0,none⟩) 1 1) (au _ _) (hC.trans ((au _ _).mono hC.size)) ⟨_,rfl,jq _ 8 _⟩
   apply fu.step
   case bg=>intro β A w' hβ hC hO hD;simp[Act.eval]at hD;obtain⟨ZF,ZG,bp7,ZH,Qn⟩:=hD;simp[go_sem,gd,Oper.wp,ZF,ZG,ZH];refine(kX p w' aK aM aH aD _ cK _ bQ bs bt bc h.nm [8] _ 1 hi (by decide) (HP.o.same hC) Qn (HK.o _ hC)).mono ?_;rintro e' w2 ⟨rfl,hb⟩;exact aR.mk hb (hC.trans (hb.mono hC.size)) (bZ.mk _ _)
   apply fu.step
   case bg=>intro β A w' hβ hC hO hD;have e0:=hO 0 (by rfl);have e3:=hO 3 (by rfl);simp[Act.eval]at e0 e3;simp[Act.eval]at hD;simp[go_sem,gd,Oper.wp,e0,e3,hD];exact aR.mk (ak _ _) hC (bZ.mk _ _)
   refine fu.some (λv w'=> ∃b,v= .slice (some ⟨b,0,none⟩) 2 2∧gV w' w'.heap.size [7,8] (some ⟨b,0,none⟩) 0) ?_ ?_ ?_
   ·rintro v w w' hle ⟨b,rfl,hin⟩;exact⟨b,rfl,hin.same hle⟩
   ·intro β A w' hβ hC hO hD;simp[go_sem,gd,Oper.wp];exact aR.mk (d:=_) (v:= .slice (some ⟨_,0,none⟩) 2 2) (au _ _) (hC.trans ((au _ _).mono hC.size)) ⟨_,rfl,mI _ 7 8 _⟩
   apply fu.step
   case bg=>intro β A w' hβ hC hO hD;simp[Act.eval]at hD;obtain⟨ZI,⟨bp8,ZJ,Qo⟩,-⟩:=hD;simp[go_sem,gd,Oper.wp,ZI,ZJ];refine(hq ▸ lZ p w' aK aM aH aD (j:Int) cK bQ bs bt bc ar [7,8] _ 2 (by decide) Qo ku.o (lQ.o.same hC) (HK.o _ hC)).mono ?_;rintro e' w2 ⟨rfl,hb⟩;exact aR.mk hb (hC.trans (hb.mono hC.size)) (bZ.mk _ _)
   apply fu.step
   case bg=>intro β A w' hβ hC hO hD;have e0:=hO 0 (by rfl);have e3:=hO 3 (by rfl);simp[Act.eval]at e0 e3;simp[Act.eval]at hD;simp[go_sem,gd,Oper.wp,e0,e3,hD];exact aR.mk (ak _ _) hC (bZ.mk _ _)
   iterate 5
    refine fu.step (v:=undef) ?_ ?_
    ·intro β A w' hβ hC hO hD;simp[Act.eval]at hD;simp[gd,Act.eval,hD]
     first|done|exact bZ.mk _ _|exact⟨by rfl,bZ.mk _ _⟩
   apply fu.step
   case bg=>intro β A w' hβ hC hO hD;have e0:=hO 0 (by rfl);have e3:=hO 3 (by rfl);simp[Act.eval]at e0 e3;simp[Act.eval]at hD;simp[go_sem,gd,Oper.wp,e0,e3,hD];exact aR.mk (ak _ _) hC (bZ.mk _ _)
   apply fu.step
   case bg=>intro β A w' hβ hC hO hD;simp[Act.eval]at hD;simp[go_sem,gd,Oper.wp,hD];refine(mW true w').mono ?_;rintro e' w2 ⟨rfl,rfl⟩;exact aR.mk (ak _ _) hC (bZ.mk _ _)
   refine fu.some (λv w'=> ∃b,v= .slice (some ⟨b,0,none⟩) 2 2∧gV w' w'.heap.size [dQ (mean p (j:Int) h.nm) [8],nest true] (some ⟨b,0,none⟩) 0) ?_ ?_ ?_
   ·rintro v w w' hle ⟨b,rfl,hin⟩;exact⟨b,rfl,hin.same hle⟩
   ·intro β A w' hβ hC hO hD;simp[Act.eval]at hD;simp[go_sem,gd,Oper.wp,hD];exact aR.mk (d:=_) (v:= .slice (some ⟨_,0,none⟩) 2 2) (au _ _) (hC.trans ((au _ _).mono hC.size)) ⟨_,rfl,mI _ _ _ _⟩
   apply fu.step
   case bg=>intro β A w' hβ hC hO hD;simp[Act.eval]at hD;obtain⟨⟨bp9,ZK,Qp⟩,-⟩:=hD;simp[go_sem,gd,Oper.wp,ZK];refine(kT [dQ (mean p (j:Int) h.nm) [8],nest true] w' _ _ (by simp[maxLen]) Qp).mono ?_;rintro e' w2 ⟨rfl,rfl⟩;exact aR.mk (ak _ _) hC (bZ.mk _ _)
   apply fu.step
   case bg=>intro β A w' hβ hC hO hD;have e0:=hO 0 (by rfl);have e3:=hO 3 (by rfl);simp[Act.eval]at e0 e3;simp[Act.eval]at hD;simp[go_sem,gd,Oper.wp,e0,e3,hD];exact aR.mk (ak _ _) hC (bZ.mk _ _)
   intro wz dF;intro v0 h0 v1 h1 v2 h2 v3 h3 v4 h4 v5 h5 v6 h6 v7 h7 v8 h8 v9 h9 v10 h10 v11 h11 v12 h12 v13 zT v14 tN v15 AU v16 h16 v17 IZ v18 h18;have hl':v18=_:=h18;subst hl';clear h0 h1 h2 h3 h4 h5 h6 h7 h8 h9 h10 h11 h12 zT tN AU h16 IZ h18;refine dP.nil ?_;go_wp2_with fail;go_ret;exact⟨bV (by first|exact HR.o|exact HR.o.symm|(rw[<- HR.o];first|rfl|simp_all)),(HX.o.next dF).1⟩
end
theorem xX {b:Nat} {w1 w2 w3:World} (h:w1.grownBy w2 (some b)) (k:w2.grownBy w3 (some b)):w1.grownBy w3 (some b):=
 ⟨k.os.trans h.os,k.tape.trans h.tape,k.output.trans h.output,aP h.size k.size,λj hj hne=>(k.block j (aG hj h.size) hne).trans (h.block j hj hne)⟩
theorem jf {b:Nat} {w w':World} (h:Below w.heap.size w w'):w.grownBy w' (some b):=⟨h.os,h.tape,h.output,h.size,λk hk _=>h.block k hk⟩
theorem iL {b:Nat} (w:World):w.grownBy w (some b):=jf (ak _ _)
def MC (W:World) (bm n:Nat) (f f':List UInt8->Bool) (β:Bool) (w':World):Prop:=W.grownBy w' (some bm)∧jF w' bm (n+β.toNat) (if β then f' else f)
theorem MC.below {W:World} {bm n:Nat} {f f':List UInt8->Bool} {β:Bool} {w' w2:World} (h:MC W bm n f f' β w') (hb:Below w'.heap.size w' w2):MC W bm n f f' β w2:=⟨xX h.1 (jf hb),h.2.next hb⟩
theorem gV.grow {w w':World} {b bm:Nat} (hb:b≠bm) (hg:w.grownBy w' (some bm)): ∀ {l:List Int} {k:Nat},gV w w.heap.size l (some ⟨b,0,none⟩) k->gV w' w'.heap.size l (some ⟨b,0,none⟩) k
 | [],_,_=>trivial
 |_::_,_,⟨⟨b1,off,e,hB,c⟩,hr⟩=>by injection e with e;injection e with e1 e2;subst e1;subst e2;exact⟨⟨b,0,rfl,aG hB hg.size,(World.cell?_of_block (hg.block b hB (by simp;exact hb))).trans c⟩,gV.grow hb hg hr⟩
theorem Sit.mc {w W w':World} {fs:List (Nat×Nat×Value)} {bm:Nat} (h:Sit w W fs) (hg:W.grownBy w' (some bm)) (hne: ∀f∈fs,f.1≠bm):Holds w' fs:=h.2.grown hg hne
def LP (v:Int) (w:World) (bm n:Nat) (f:List UInt8->Bool) (e:Ending) (w':World):Prop:=e= .returned (.int .i64 v)∧jF w' bm n f∧w.grownBy w' (some bm)
theorem Li {v:Value} {res:Int} {w W wz:World} {bm n:Nat} {f f':List UInt8->Bool} (h:v= .int .i64 res) (hz:MC W bm n f f' true wz) (hg: ∀w',W.grownBy w' (some bm)->w.grownBy w' (some bm)):LP res w bm (n+1) f' (.returned v) wz:=
 ⟨by rw[h],hz.2,hg _ hz.1⟩
theorem XC (w:World) (a b c d:Int) (t:TypeId):gV (w.alloc (.cells #[.int .i64 a,.int .i64 b,.int .i64 c,.int .i64 d] t)) (w.alloc (.cells #[.int .i64 a,.int .i64 b,.int .i64 c,.int .i64 d] t)).heap.size [a,b,c,d] (some ⟨w.heap.size,0,none⟩) 0:=
 ⟨⟨_,_,rfl,by simp,dZ w [.int .i64 a,.int .i64 b,.int .i64 c,.int .i64 d] t 0⟩,⟨_,_,rfl,by simp,dZ w [.int .i64 a,.int .i64 b,.int .i64 c,.int .i64 d] t 1⟩,⟨_,_,rfl,by simp,dZ w [.int .i64 a,.int .i64 b,.int .i64 c,.int .i64 d] t 2⟩,⟨_,_,rfl,by simp,dZ w [.int .i64 a,.int .i64 b,.int .i64 c,.int .i64 d] t 3⟩,trivial⟩
section
variable (p:Pr) (w:World) (aK aM:Option Addr) (aH aD:Nat) (i:Int) (cK:Option Addr) (bQ bs bt bc:Nat)
theorem ZE (h:dD) (b e ar:aY) (s:Sl) (hi:bW i) (hp: ∀w',w.grownBy w' (some bt)->p.At w' aK aM) (hok:vK h b e) (hex: ∀w',w.grownBy w' (some bt)->h.bG.At w' w'.heap.size s.fT 0) (eH: ∀w',w.grownBy w' (some bt)->eG w') (har:ar.len<=maxLen) (hat: ∀w',w.grownBy w' (some bt)->ar.At w' w'.heap.size cK 0) (hh:Holds w (um bc p aK aM aH aD i cK ar.len bQ bs bt)) (hbc:bc≠bt) (n:Nat) (f:List UInt8->Bool) (hn:n<maxLen) (hmap:jF w bt n f) (hop:h.op=14):
 Calls Tryz.prog 89 #[.pointer (some ⟨bc,0,none⟩),iy h b e s] w (LP (gu [dQ (mean p i h.nm) [7],nest (fF ar [7,3]),(kY (f h.nm.toList)),jW p i h.dN h.xn h.dJ h.bG]) w bt (n+1) (zu f h.nm.toList)):=by
 have HH:=ah (show Sit w w _ from⟨ak _ _,hh⟩);obtain⟨fQ,eU,fT,eu,dH,cu,iC,gy⟩:=s;have hxk:=hok.2.2.2.2.2.1;have hns:=hok.2.2.1;generalize hres:gu [dQ (mean p i h.nm) [7],nest (fF ar [7,3]),(kY (f h.nm.toList)),jW p i h.dN h.xn h.dJ h.bG]=res;have HR:=ah hres;have iI:=ah hop;have HNS:=ah hns;have HN:=ah hn;have hlt:=hmap.lt;clear hres hop hn hns;unfold iy;dsimp only;dsimp only at hex;go_enter Tryz.func89,Tryz.ntmps89;go_upto_region 1 with fail;generalize hW:World.alloc w _=W;generalize Value.agg #[_,_,_,_,_,_,_,_,_,_,_]=a0;have HX:aj (Sit w W (rA w.heap.size h b e ⟨fQ,eU,fT,eu,dH,cu,iC,gy⟩ (um bc p aK aM aH aD i cK ar.len bQ bs bt))):=ah (by rw[<- hW];exact HH.o.uW rfl _ _ _ _ _ _ _ _ _ _ _ _);clear hW HH;have HG:aj (∀w',W.grownBy w' (some bt)->w.grownBy w' (some bt)):=ah (λw' hg=>xX (jf HX.o.1) hg);have HP:=ah (λw' hg=>hp w' (HG.o w' hg));have jK:=ah (λw' hg=>eH w' (HG.o w' hg));have OC:=ah (λw' hg=>hex w' (HG.o w' hg));have lQ:=ah (λw' hg=>hat w' (HG.o w' hg));have ku:=ah har;have HM:=ah (hmap.next HX.o.1);have HF:aj (∀w',W.grownBy w' (some bt)->Holds w' (rA w.heap.size h b e ⟨fQ,eU,fT,eu,dH,cu,iC,gy⟩ (um bc p aK aM aH aD i cK ar.len bQ bs bt))):=ah (λw' hg=>HX.o.mc hg (by intro x hx;simp only[rA,um,List.mem_cons,List.not_mem_nil,or_false]at hx;rcases hx with rfl|rfl|rfl|rfl|rfl|rfl|rfl|rfl|rfl|rfl|rfl|rfl|rfl|rfl|rfl|rfl|rfl <;> first|exact hbc|(show w.heap.size≠bt;omega)));have HK:aj (∀w',W.grownBy w' (some bt)->Holds w' (um bc p aK aM aH aD i cK ar.len bQ bs bt)):=ah (λw' hg=>(HF.o w' hg).2.2.2.2.2.2.2.2.2.2.2);clear hp eH hh hat har hex hmap hlt hbc;have L0: ∀w',W.grownBy w' (some bt)->w'.cell? ⟨w.heap.size,0,none⟩=some (.int .i64 h.op):=λw' hb=>(HF.o w' hb).1.2;have L2: ∀w',W.grownBy w' (some bt)->w'.cell? ⟨w.heap.size,2,none⟩=some (.string h.nm):=λw' hb=>(HF.o w' hb).2.2.1.2;have L5: ∀w',W.grownBy w' (some bt)->w'.cell? ⟨w.heap.size,5,none⟩=some (.int .i64 h.dN):=λw' hb=>(HF.o w' hb).2.2.2.2.2.1.2;have L6: ∀w',W.grownBy w' (some bt)->w'.cell? ⟨w.heap.size,6,none⟩=some (.int .i64 h.xn):=λw' hb=>(HF.o w' hb).2.2.2.2.2.2.1.2;have L7: ∀w',W.grownBy w' (some bt)->w'.cell? ⟨w.heap.size,7,none⟩=some (.string h.dJ):=λw' hb=>(HF.o w' hb).2.2.2.2.2.2.2.1.2;have L8: ∀w',W.grownBy w' (some bt)->w'.cell? ⟨w.heap.size,8,none⟩=some (.slice fT h.bG.len eu):=λw' hb=>(HF.o w' hb).2.2.2.2.2.2.2.2.1.2;have LM: ∀w',W.grownBy w' (some bt)->w'.cell? ⟨bc,5,none⟩=some (.map (some bt)):=λw' hb=>(HK.o w' hb).2.2.2.2.2.1.2;have l0:=L0 W (iL _);have hop:=iI.o;obtain⟨g1,g2,g3,g4,g5,g6,g7,g8,g9,g10,g11,g12,g13,g14,g15⟩:=ad6 hop;clear hop l0;have l0:=L0 W (iL _);go_upto_region 25 with fail;refine yK 15 (MC W bt n f (zu f h.nm.toList)) (λw w'=>w.grownBy w' (some bt)) [169,170,171,172,173,174,175,176,177,178,179,180,181,182,183,184,185,186,187,188,189,190,4] (by kernel_rfl) (by kernel_rfl) (λ_=>iL _) (by rfl) ⟨jf (below_drewN (ak _ _) 1),by simpa using HM.o.next (below_drewN (ak _ _) 1)⟩ ?_
 iterate 3
  apply fu.step
  case bg=>intro β A w' hβ hC hO hD;have e0:=hO 0 (by rfl);have e3:=hO 3 (by rfl);simp[Act.eval]at e0 e3;simp[Act.eval]at hD;simp[go_sem,gd,Oper.wp,e0,e3,hD,L2,hC.1];exact aR.mk (iL _) (by simpa using hC) (bZ.mk _ _)
 refine fu.some (λv w'=> ∃b,b≠bt∧v= .slice (some ⟨b,0,none⟩) 1 1∧gV w' w'.heap.size [7] (some ⟨b,0,none⟩) 0) ?_ ?_ ?_
 ·rintro v w w' hle ⟨b,hbn,rfl,hin⟩;exact⟨b,hbn,rfl,gV.grow hbn hle hin⟩
 ·intro β A w' hβ hC hO hD;simp[go_sem,gd,Oper.wp];exact aR.mk (d:=_) (v:= .slice (some ⟨_,0,none⟩) 1 1) (jf (au _ _)) (by simpa using hC.below (au _ _)) ⟨_,by have:=hC.2.lt;omega,rfl,jq _ 7 _⟩
 apply fu.step
 case bg=>intro β A w' hβ hC hO hD;simp[Act.eval]at hD;obtain⟨br0,br1,bL0,bK0,br2,aK1⟩:=hD;simp[go_sem,gd,Oper.wp,br0,br1,br2];refine(kX p w' aK aM aH aD _ cK _ bQ bs bt bc h.nm [7] _ 1 hi (by decide) (HP.o _ hC.1) aK1 (HK.o _ hC.1)).mono ?_;rintro e' w2 ⟨rfl,hb⟩;exact aR.mk (jf hb) (by simpa using hC.below hb) (bZ.mk _ _)
 apply fu.step
 case bg=>intro β A w' hβ hC hO hD;have e0:=hO 0 (by rfl);have e3:=hO 3 (by rfl);simp[Act.eval]at e0 e3;simp[Act.eval]at hD;simp[go_sem,gd,Oper.wp,e0,e3,hD];exact aR.mk (iL _) (by simpa using hC) (bZ.mk _ _)
 refine fu.some (λv w'=> ∃b,b≠bt∧v= .slice (some ⟨b,0,none⟩) 2 2∧gV w' w'.heap.size [7,3] (some ⟨b,0,none⟩) 0) ?_ ?_ ?_
 ·rintro v w w' hle ⟨b,hbn,rfl,hin⟩;exact⟨b,hbn,rfl,gV.grow hbn hle hin⟩
 ·intro β A w' hβ hC hO hD;simp[go_sem,gd,Oper.wp];exact aR.mk (d:=_) (v:= .slice (some ⟨_,0,none⟩) 2 2) (jf (au _ _)) (by simpa using hC.below (au _ _)) ⟨_,by have:=hC.2.lt;omega,rfl,mI _ 7 3 _⟩
 apply fu.step
 case bg=>intro β A w' hβ hC hO hD;simp[Act.eval]at hD;obtain⟨br3,⟨bL1,bK1,br4,aK2⟩,-⟩:=hD;simp[go_sem,gd,Oper.wp,br3,br4];refine(lZ p w' aK aM aH aD _ cK bQ bs bt bc ar [7,3] _ 2 (by decide) aK2 ku.o (lQ.o _ hC.1) (HK.o _ hC.1)).mono ?_;rintro e' w2 ⟨rfl,hb⟩;exact aR.mk (jf hb) (by simpa using hC.below hb) (bZ.mk _ _)
 apply fu.step
 case bg=>intro β A w' hβ hC hO hD;simp[Act.eval]at hD;simp[go_sem,gd,Oper.wp,hD];refine(mW (fF ar [7,3]) w').mono ?_;rintro e' w2 ⟨rfl,rfl⟩;exact aR.mk (iL _) (by simpa using hC) (bZ.mk _ _)
 iterate 6
  apply fu.step
  case bg=>intro β A w' hβ hC hO hD;have e0:=hO 0 (by rfl);have e3:=hO 3 (by rfl);simp[Act.eval]at e0 e3;simp[Act.eval]at hD;simp[go_sem,gd,Oper.wp,e0,e3,hD,LM,hC.1,L2];exact aR.mk (iL _) (by simpa using hC) (bZ.mk _ _)
 apply fu.step
 case bg=>intro β A w' hβ hC hO hD;obtain rfl:=hβ (by simp);simp[Act.eval]at hD;simp[go_sem,gd,Oper.wp,hD];refine(QL h.nm w' bt n f HN.o HNS.o (by simpa using hC.2)).mono ?_;rintro e' w2 ⟨rfl,hm2,hg2⟩;exact aR.mk hg2 ⟨xX hC.1 hg2,by simpa using hm2⟩ (bZ.mk _ _)
 iterate 3
  apply fu.step
  case bg=>intro β A w' hβ hC hO hD;have e0:=hO 0 (by rfl);have e3:=hO 3 (by rfl);simp[Act.eval]at e0 e3;simp[Act.eval]at hD;simp[go_sem,gd,Oper.wp,e0,e3,hD,L5,L6,L7,L8,hC.1];exact aR.mk (iL _) (by simpa using hC) (bZ.mk _ _)
 apply fu.step
 case bg=>intro β A w' hβ hC hO hD;simp[Act.eval]at hD;simp[go_sem,gd,Oper.wp,hD];refine(xV p w' aK aM aH aD _ cK _ bQ bs bt bc h.dN h.xn h.dJ h.bG fT eu hi (HP.o _ hC.1) hxk (OC.o _ hC.1) (jK.o _ hC.1) (HK.o _ hC.1)).mono ?_;rintro e' w2 ⟨rfl,hb⟩;exact aR.mk (jf hb) (by simpa using hC.below hb) (bZ.mk _ _)
 refine fu.some (λv w'=> ∃b,b≠bt∧v= .slice (some ⟨b,0,none⟩) 4 4∧gV w' w'.heap.size [dQ (mean p i h.nm) [7],nest (fF ar [7,3]),(kY (f h.nm.toList)),jW p i h.dN h.xn h.dJ h.bG] (some ⟨b,0,none⟩) 0) ?_ ?_ ?_
 ·rintro v w w' hle ⟨b,hbn,rfl,hin⟩;exact⟨b,hbn,rfl,gV.grow hbn hle hin⟩
 ·intro β A w' hβ hC hO hD;simp[Act.eval]at hD;simp[go_sem,gd,Oper.wp,hD];exact aR.mk (d:=_) (v:= .slice (some ⟨_,0,none⟩) 4 4) (jf (au _ _)) (by simpa using hC.below (au _ _)) ⟨_,by have:=hC.2.lt;omega,rfl,XC _ _ _ _ _ _⟩
 apply fu.step
 case bg=>intro β A w' hβ hC hO hD;simp[Act.eval]at hD;obtain⟨⟨bL2,bK2,br5,aK3⟩,-⟩:=hD;simp[go_sem,gd,Oper.wp,br5];refine(kT [dQ (mean p i h.nm) [7],nest (fF ar [7,3]),(kY (f h.nm.toList)),jW p i h.dN h.xn h.dJ h.bG] w' _ _ (by simp[maxLen]) aK3).mono ?_;rintro e' w2 ⟨rfl,rfl⟩;exact aR.mk (iL _) (by simpa using hC) (bZ.mk _ _)
 apply fu.step
 case bg=>intro β A w' hβ hC hO hD;have e0:=hO 0 (by rfl);have e3:=hO 3 (by rfl);simp[Act.eval]at e0 e3;simp[Act.eval]at hD;simp[go_sem,gd,Oper.wp,e0,e3,hD];exact aR.mk (iL _) (by simpa using hC) (bZ.mk _ _)
 simp only[dR];intro wz dF;intro v0 h0 v1 h1 v2 h2 v3 h3 v4 h4 v5 h5 v6 h6 v7 h7 v8 h8 v9 h9 v10 h10 v11 h11 v12 h12 v13 zT v14 tN v15 AU v16 h16 v17 IZ v18 h18 v19 h19 v20 h20 v21 h21 v22 h22;have hl':v22=_:=h22;subst hl';clear h0 h1 h2 h3 h4 h5 h6 h7 h8 h9 h10 h11 h12 zT tN AU h16 IZ h18 h19 h20 h21 h22;refine dP.nil ?_;have HZ:aj (MC W bt n f (zu f h.nm.toList) true wz):=ah (by simpa using dF);clear dF;go_simp;go_wp2_with fail;go_ret;refine Li ?_ HZ.o HG.o;rw[<- HR.o];rfl
end
theorem af9 {w:World} {B b off:Nat} {t:Th} {r:List Th} (h:iJ w B (t::r) (some ⟨b,off,none⟩) 0):w.cell? ⟨b,off,none⟩=some (.string t.nm):=by
 obtain⟨⟨b1,off1,iR,eX,dH,cu,e,-,x0,-⟩,-⟩:=h;injection e with e;injection e with e1 e2;subst e1;subst e2;simpa using x0
section
variable (p:Pr) (w:World) (aK aM:Option Addr) (aH aD:Nat) (cK:Option Addr) (bQ bs bt bc:Nat)
theorem ZC (j:Nat) (t t0:Th) (r r0:List Th) (hd:p.ts.drop j=t::r) (hts:p.ts=t0::r0) (h:dD) (b e ar:aY) (s:Sl) (hi:bW (j:Int)) (hp: ∀w',w.grownBy w' (some bs)->p.At w' aK aM) (hok:vK h b e) (hex: ∀w',w.grownBy w' (some bs)->h.bG.At w' w'.heap.size s.fT 0) (eH: ∀w',w.grownBy w' (some bs)->eG w') (har:ar.len<=maxLen) (hat: ∀w',w.grownBy w' (some bs)->ar.At w' w'.heap.size cK 0) (hh:Holds w (um bc p aK aM aH aD (j:Int) cK ar.len bQ bs bt)) (hbc:bc≠bs) (n:Nat) (f:List UInt8->Bool) (hn:n<maxLen) (hmap:jF w bs n f) (hop:h.op=12):
 Calls Tryz.prog 89 #[.pointer (some ⟨bc,0,none⟩),iy h b e s] w (LP (gu [dQ (mean p (j:Int) h.nm) [8],nest (fF ar [7,8,3]||(h.nm.toList==t.nm.toList||h.nm.toList==t0.nm.toList)),(kY (f h.nm.toList))]) w bs (n+1) (zu f h.nm.toList)):=by
 have HH:=ah (show Sit w w _ from⟨ak _ _,hh⟩);obtain⟨fQ,eU,fT,eu,dH,cu,iC,gy⟩:=s;have hxk:=hok.2.2.2.2.2.1;have hns:=hok.2.2.1;generalize hres:gu [dQ (mean p (j:Int) h.nm) [8],nest (fF ar [7,8,3]||(h.nm.toList==t.nm.toList||h.nm.toList==t0.nm.toList)),(kY (f h.nm.toList))]=res;have HR:=ah hres;have iI:=ah hop;have HNS:=ah hns;have HN:=ah hn;have hlt:=hmap.lt;clear hres hop hn hns;unfold iy;dsimp only;dsimp only at hex;go_enter Tryz.func89,Tryz.ntmps89;go_upto_region 1 with fail;generalize hW:World.alloc w _=W;generalize Value.agg #[_,_,_,_,_,_,_,_,_,_,_]=a0;have HX:aj (Sit w W (rA w.heap.size h b e ⟨fQ,eU,fT,eu,dH,cu,iC,gy⟩ (um bc p aK aM aH aD (j:Int) cK ar.len bQ bs bt))):=ah (by rw[<- hW];exact HH.o.uW rfl _ _ _ _ _ _ _ _ _ _ _ _);clear hW HH;have HG:aj (∀w',W.grownBy w' (some bs)->w.grownBy w' (some bs)):=ah (λw' hg=>xX (jf HX.o.1) hg);have HP:=ah (λw' hg=>hp w' (HG.o w' hg));have jK:=ah (λw' hg=>eH w' (HG.o w' hg));have OC:=ah (λw' hg=>hex w' (HG.o w' hg));have lQ:=ah (λw' hg=>hat w' (HG.o w' hg));have ku:=ah har;have HM:=ah (hmap.next HX.o.1);have HF:aj (∀w',W.grownBy w' (some bs)->Holds w' (rA w.heap.size h b e ⟨fQ,eU,fT,eu,dH,cu,iC,gy⟩ (um bc p aK aM aH aD (j:Int) cK ar.len bQ bs bt))):=ah (λw' hg=>HX.o.mc hg (by intro x hx;simp only[rA,um,List.mem_cons,List.not_mem_nil,or_false]at hx;rcases hx with rfl|rfl|rfl|rfl|rfl|rfl|rfl|rfl|rfl|rfl|rfl|rfl|rfl|rfl|rfl|rfl|rfl <;> first|exact hbc|(show w.heap.size≠bs;omega)));have HK:aj (∀w',W.grownBy w' (some bs)->Holds w' (um bc p aK aM aH aD (j:Int) cK ar.len bQ bs bt)):=ah (λw' hg=>(HF.o w' hg).2.2.2.2.2.2.2.2.2.2.2);clear hp eH hh hat har hex hmap hlt hbc;have L0: ∀w',W.grownBy w' (some bs)->w'.cell? ⟨w.heap.size,0,none⟩=some (.int .i64 h.op):=λw' hb=>(HF.o w' hb).1.2;have L2: ∀w',W.grownBy w' (some bs)->w'.cell? ⟨w.heap.size,2,none⟩=some (.string h.nm):=λw' hb=>(HF.o w' hb).2.2.1.2;have L5: ∀w',W.grownBy w' (some bs)->w'.cell? ⟨w.heap.size,5,none⟩=some (.int .i64 h.dN):=λw' hb=>(HF.o w' hb).2.2.2.2.2.1.2;have L6: ∀w',W.grownBy w' (some bs)->w'.cell? ⟨w.heap.size,6,none⟩=some (.int .i64 h.xn):=λw' hb=>(HF.o w' hb).2.2.2.2.2.2.1.2;have L7: ∀w',W.grownBy w' (some bs)->w'.cell? ⟨w.heap.size,7,none⟩=some (.string h.dJ):=λw' hb=>(HF.o w' hb).2.2.2.2.2.2.2.1.2;have L8: ∀w',W.grownBy w' (some bs)->w'.cell? ⟨w.heap.size,8,none⟩=some (.slice fT h.bG.len eu):=λw' hb=>(HF.o w' hb).2.2.2.2.2.2.2.2.1.2;have LM: ∀w',W.grownBy w' (some bs)->w'.cell? ⟨bc,4,none⟩=some (.map (some bs)):=λw' hb=>(HK.o w' hb).2.2.2.2.1.2;have l0:=L0 W (iL _);have hop:=iI.o;obtain⟨g1,g2,g3,g4,g5,g6,g7,g8,g9,g10,g11,g12,g13,g14,g15⟩:=ad4 hop;clear hop l0;have l0:=L0 W (iL _);go_upto_region 21 with fail;have hpos:0<p.ts.length:=by rw[hts];simp
 have aU7:(0:Int)<p.ts.length:=by omega
 obtain⟨b0,Ah,eT⟩: ∃b0 Ah,aM=some ⟨b0,Ah,none⟩:=by have:=(HP.o W (iL _)).2.2.2;rw[hts]at this;obtain⟨⟨b1,off1,iR,eX,dH,cu,e,-⟩,-⟩:=this;exact⟨b1,off1,e⟩
 subst eT;have LN: ∀w',W.grownBy w' (some bs)->w'.cell? ⟨b0,Ah,none⟩=some (.string t0.nm):=λw' hb=>by have:=(HP.o w' hb).2.2.2;rw[hts]at this;exact af9 this
 have LT: ∀w',W.grownBy w' (some bs)->w'.cell? ⟨bc,1,none⟩=some (.slice (some ⟨b0,Ah,none⟩) p.ts.length aD):=λw' hb=>(HK.o w' hb).2.1.2;cases hq:fF ar [7,8,3] <;> cases ho:(h.nm.toList==t.nm.toList)
 all_goals
  refine yK 35 (MC W bs n f (zu f h.nm.toList)) (λw w'=>w.grownBy w' (some bs)) [109,110,111,112,113,114,115,116,117,118,119,120,121,122,123,124,125,126,127,128,129,130,131,132,133,134,135,136,137,138,139,140,141,142,143,144,145,146,4] (by kernel_rfl) (by kernel_rfl) (λ_=>iL _) (by rfl) ⟨jf (below_drewN (ak _ _) 1),by simpa using HM.o.next (below_drewN (ak _ _) 1)⟩ ?_
  iterate 3
   apply fu.step
   case bg=>intro β A w' hβ hC hO hD;have e0:=hO 0 (by rfl);have e3:=hO 3 (by rfl);simp[Act.eval]at e0 e3;simp[Act.eval]at hD;simp[go_sem,gd,Oper.wp,e0,e3,hD,L2,hC.1];exact aR.mk (iL _) (by simpa using hC) (bZ.mk _ _)
   try simp only[dR]
  refine fu.some (λv w'=> ∃b,b≠bs∧v= .slice (some ⟨b,0,none⟩) 1 1∧gV w' w'.heap.size [8] (some ⟨b,0,none⟩) 0) ?_ ?_ ?_
  ·rintro v w w' hle ⟨b,hbn,rfl,hin⟩;exact⟨b,hbn,rfl,gV.grow hbn hle hin⟩
  ·intro β A w' hβ hC hO hD;simp[go_sem,gd,Oper.wp];exact aR.mk (d:=_) (v:= .slice (some ⟨_,0,none⟩) 1 1) (jf (au _ _)) (by simpa using hC.below (au _ _)) ⟨_,by have:=hC.2.lt;omega,rfl,jq _ 8 _⟩
  simp only[dR];apply fu.step
  case bg=>intro β A w' hβ hC hO hD;simp[Act.eval]at hD;obtain⟨bq4,bq5,bK7,bJ7,bq6,aJ8⟩:=hD;simp[go_sem,gd,Oper.wp,bq4,bq5,bq6];refine(kX p w' aK (some ⟨b0,Ah,none⟩) aH aD _ cK _ bQ bs bt bc h.nm [8] _ 1 hi (by decide) (HP.o _ hC.1) aJ8 (HK.o _ hC.1)).mono ?_;rintro e' w2 ⟨rfl,hb⟩;exact aR.mk (jf hb) (by simpa using hC.below hb) (bZ.mk _ _)
  simp only[dR];apply fu.step
  case bg=>intro β A w' hβ hC hO hD;have e0:=hO 0 (by rfl);have e3:=hO 3 (by rfl);simp[Act.eval]at e0 e3;simp[Act.eval]at hD;simp[go_sem,gd,Oper.wp,e0,e3,hD];exact aR.mk (iL _) (by simpa using hC) (bZ.mk _ _)
  simp only[dR];refine fu.some (λv w'=> ∃b,b≠bs∧v= .slice (some ⟨b,0,none⟩) 3 3∧gV w' w'.heap.size [7,8,3] (some ⟨b,0,none⟩) 0) ?_ ?_ ?_
  ·rintro v w w' hle ⟨b,hbn,rfl,hin⟩;exact⟨b,hbn,rfl,gV.grow hbn hle hin⟩
  ·intro β A w' hβ hC hO hD;simp[go_sem,gd,Oper.wp];exact aR.mk (d:=_) (v:= .slice (some ⟨_,0,none⟩) 3 3) (jf (au _ _)) (by simpa using hC.below (au _ _)) ⟨_,by have:=hC.2.lt;omega,rfl,Bg _ 7 8 3 _⟩
  simp only[dR];apply fu.step
  case bg=>intro β A w' hβ hC hO hD;simp[Act.eval]at hD;obtain⟨bq7,⟨bK8,bJ8,bq8,aJ9⟩,-⟩:=hD;simp[go_sem,gd,Oper.wp,bq7,bq8];refine(hq ▸ lZ p w' aK (some ⟨b0,Ah,none⟩) aH aD (j:Int) cK bQ bs bt bc ar [7,8,3] _ 3 (by decide) aJ9 ku.o (lQ.o _ hC.1) (HK.o _ hC.1)).mono ?_;rintro e' w2 ⟨rfl,hb⟩;exact aR.mk (jf hb) (by simpa using hC.below hb) (bZ.mk _ _)
  simp only[dR];apply fu.step
  case bg=>intro β A w' hβ hC hO hD;have e0:=hO 0 (by rfl);have e3:=hO 3 (by rfl);simp[Act.eval]at e0 e3;simp[Act.eval]at hD;simp[go_sem,gd,Oper.wp,e0,e3,hD];exact aR.mk (iL _) (by simpa using hC) (bZ.mk _ _)
  simp only[dR]
  iterate 3
   first
   |(apply fu.step
     case bg=>intro β A w' hβ hC hO hD;have e0:=hO 0 (by rfl);have e3:=hO 3 (by rfl);simp[Act.eval]at e0 e3;simp[Act.eval]at hD;simp[go_sem,gd,Oper.wp,e0,e3,hD,L2,hC.1];exact aR.mk (iL _) (by simpa using hC) (bZ.mk _ _))
   |(refine fu.step (v:=undef) ?_ ?_
     ·intro β A w' hβ hC hO hD;simp[Act.eval]at hD;simp[gd,Act.eval,hD]
      first|done|exact bZ.mk _ _|exact⟨by rfl,bZ.mk _ _⟩)
   try simp only[dR]
  first
  |(apply fu.step
    case bg=>intro β A w' hβ hC hO hD;simp[Act.eval]at hD;simp[go_sem,gd,Oper.wp,hD];refine(Nl p w' aK (some ⟨b0,Ah,none⟩) aH aD cK ar.len bQ bs bt bc j t r hd (HP.o _ hC.1) (HK.o _ hC.1)).mono ?_;rintro e' w2 ⟨rfl,hb⟩;exact aR.mk (jf hb) (by simpa using hC.below hb) (bZ.mk _ _))
  |(refine fu.step (v:=undef) ?_ ?_
    ·intro β A w' hβ hC hO hD;simp[Act.eval]at hD;simp[gd,Act.eval,hD]
     first|done|exact bZ.mk _ _|exact⟨by rfl,bZ.mk _ _⟩)
  try simp only[dR]
  iterate 15
   first
   |(apply fu.step
     case bg=>intro β A w' hβ hC hO hD;have e0:=hO 0 (by rfl);have e3:=hO 3 (by rfl);simp[Act.eval]at e0 e3;simp[Act.eval]at hD;simp[go_sem,gd,Oper.wp,e0,e3,hD,ho,L2,hC.1,LT,hpos,aU7,LN];exact aR.mk (iL _) (by simpa using hC) (bZ.mk _ _))
   |(refine fu.step (v:=undef) ?_ ?_
     ·intro β A w' hβ hC hO hD;simp[Act.eval]at hD;simp[gd,Act.eval,hD]
      first|done|exact bZ.mk _ _|exact⟨by rfl,bZ.mk _ _⟩)
   try simp only[dR]
  apply fu.step
  case bg=>intro β A w' hβ hC hO hD;simp[Act.eval]at hD;simp[go_sem,gd,Oper.wp,hD];refine(mW _ w').mono ?_;rintro e' w2 ⟨rfl,rfl⟩;exact aR.mk (iL _) (by simpa using hC) (bZ.mk _ _)
  simp only[dR]
  iterate 6
   apply fu.step
   case bg=>intro β A w' hβ hC hO hD;have e0:=hO 0 (by rfl);have e3:=hO 3 (by rfl);simp[Act.eval]at e0 e3;simp[Act.eval]at hD;simp[go_sem,gd,Oper.wp,e0,e3,hD,LM,hC.1,L2];exact aR.mk (iL _) (by simpa using hC) (bZ.mk _ _)
   try simp only[dR]
  apply fu.step
  case bg=>intro β A w' hβ hC hO hD;obtain rfl:=hβ (by simp);simp[Act.eval]at hD;simp[go_sem,gd,Oper.wp,hD];refine(QL h.nm w' bs n f HN.o HNS.o (by simpa using hC.2)).mono ?_;rintro e' w2 ⟨rfl,hm2,hg2⟩;exact aR.mk hg2 ⟨xX hC.1 hg2,by simpa using hm2⟩ (bZ.mk _ _)
  simp only[dR];refine fu.some (λv w'=> ∃b,b≠bs∧v= .slice (some ⟨b,0,none⟩) 3 3∧gV w' w'.heap.size [dQ (mean p (j:Int) h.nm) [8],nest (fF ar [7,8,3]||(h.nm.toList==t.nm.toList||h.nm.toList==t0.nm.toList)),(kY (f h.nm.toList))] (some ⟨b,0,none⟩) 0) ?_ ?_ ?_
  ·rintro v w w' hle ⟨b,hbn,rfl,hin⟩;exact⟨b,hbn,rfl,gV.grow hbn hle hin⟩
  ·intro β A w' hβ hC hO hD;simp[Act.eval]at hD;simp[go_sem,gd,Oper.wp,hD];exact aR.mk (d:=_) (v:= .slice (some ⟨_,0,none⟩) 3 3) (jf (au _ _)) (by simpa using hC.below (au _ _)) ⟨_,by have:=hC.2.lt;omega,rfl,by rw[hq,ho];exact Bg _ _ _ _ _⟩
  simp only[dR];apply fu.step
  case bg=>intro β A w' hβ hC hO hD;simp[Act.eval]at hD;obtain⟨⟨bK9,bJ9,bq9,aK0⟩,-⟩:=hD;simp[go_sem,gd,Oper.wp,bq9];refine(kT [dQ (mean p (j:Int) h.nm) [8],nest (fF ar [7,8,3]||(h.nm.toList==t.nm.toList||h.nm.toList==t0.nm.toList)),(kY (f h.nm.toList))] w' _ _ (by simp[maxLen]) aK0).mono ?_;rintro e' w2 ⟨rfl,rfl⟩;exact aR.mk (iL _) (by simpa using hC) (bZ.mk _ _)
  simp only[dR];apply fu.step
  case bg=>intro β A w' hβ hC hO hD;have e0:=hO 0 (by rfl);have e3:=hO 3 (by rfl);simp[Act.eval]at e0 e3;simp[Act.eval]at hD;simp[go_sem,gd,Oper.wp,e0,e3,hD];exact aR.mk (iL _) (by simpa using hC) (bZ.mk _ _)
  simp only[dR];intro wz dF
  iterate 38 intro _ _
  intro v38 h38;have hl':v38=_:=h38;subst hl';clear h38;refine dP.nil ?_;have HZ:aj (MC W bs n f (zu f h.nm.toList) true wz):=ah (by simpa using dF);clear dF;go_simp;go_wp2_with fail;go_ret;refine Li ?_ HZ.o HG.o
  first|exact congrArg (Value.int .i64) HR.o.symm|(rw[<- HR.o];done)|(rw[<- HR.o,hq];rfl)|(rw[<- HR.o,hq,ho];rfl)|(rw[<- HR.o];simp[hq,ho])
end
end Go.Proofs.YtmildapbbcbbhaaGreatDoor
