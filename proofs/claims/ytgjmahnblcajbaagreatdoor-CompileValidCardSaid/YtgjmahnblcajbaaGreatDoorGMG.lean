/- Contract of the checker's statement: where nothing is noted. -/
import Derived.Test.YtgjmahnblcajbaaGreatDoorGMF
set_option linter.unusedSimpArgs false
set_option linter.unusedVariables false
set_option maxHeartbeats 40000000
set_option maxRecDepth 1000000
namespace Go.Proofs.YtgjmahnblcajbaaGreatDoor
open Go.RowKit
open Md
section
variable (p:Pr) (w:World) (aG aH:Option Addr) (aB aD:Nat) (i:Int) (cO:Option Addr) (bC bs bt bc:Nat)
theorem nG (h:aX) (b e ar:aJ) (s:Sl) (hi:bV i) (hp:p.At w aG aH) (hin:Em w h b e s) (dH:cB w) (har:ar.len<=maxLen) (hat:ar.At w w.heap.size cO 0) (hh:Holds w (qM bc p aG aH aB aD i cO ar.len bC bs bt)) {res:Int} (hc:
 ((h.op < 1∨15 < h.op)∧0=res)∨
 (h.op=1∧JG p i h=res)∨
 ((h.op=2∨h.op=3)∧mI p i h.dP h.xn h.dO h.aO=res)∨
 (h.op=4∧gu [dF (mean p i h.nm) [4],nest (gH ar [7] || rY ar h.nm [4])]=res)∨
 ((h.op=5∨h.op=6)∧gu [dF (mean p i h.nm) [5],nest (gH ar [7] || rY ar h.nm [5,6])]=res)∨
 (h.op=7∧nest (gH ar [7])=res)∨
 (h.op=8∧nest (gH ar [7,8])=res)∨
 ((h.op=9∨h.op=10∨h.op=11)∧gu [dF (mean p i h.nm) [6],nest ((gH ar [7] || !rY ar (vF p.ds h.nm) [4]) || (h.op == 9 && gH ar [8]))]=res)∨
 (h.op=15∧gu [dF (mean p i h.nm) [1],dF (mean p i h.arg) [7],nest (gH ar [7])]=res)∨
 (h.op=13∧ ∃(j:Nat) (t:Th) (r:List Th),i=(j:Int)∧p.ts.drop j=t ::r∧gu [dF (mean p i h.nm) [8],nest (gH ar [7,8] || h.nm.toList == t.nm.toList)]=res)):
 Calls Tryz.prog 112 #[.pointer (some ⟨bc,0,none⟩),fK h b e s] w fun e' w'=>e'= .returned (.int .i64 res)∧Below w.heap.size w w':=by
 have HH:=ah (show Sit w w _ from ⟨Below.refl _ _,hh⟩);obtain ⟨dw,bJ,dZ,dI,cK,aZ,fF,dX⟩:=s;have hxk:=hin.1.2.2.2.2.2.1;have hns:=hin.1.2.2.1;have vX:=ah hin;have XQ:=ah hc;clear hc;unfold fK;dsimp only;go_enter Tryz.func112,Tryz.ntmps112;go_upto_region 1 with fail;generalize hW:World.alloc w _=W;generalize Value.agg #[_,_,_,_,_,_,_,_,_,_,_]=a0;have HX:aj (Sit w W (yH w.heap.size h b e ⟨dw,bJ,dZ,dI,cK,aZ,fF,dX⟩ (qM bc p aG aH aB aD i cO ar.len bC bs bt))):=ah (by rw [<- hW]; exact HH.o.Aq rfl _ _ _ _ _ _ _ _ _ _ _ _);clear hW HH;have HP:=ah (hp.same HX.o.1);have gV:=ah (dH.same HX.o.1);have Mc:=ah (hin.2.2.1.same HX.o.1);have qC:=ah (hat.same HX.o.1);have kX:=ah har;have HK:aj (∀w',Below W.heap.size W w'->Holds w' (qM bc p aG aH aB aD i cO ar.len bC bs bt)):=ah (fun w' hb=>(HX.o.next hb).2.2.2.2.2.2.2.2.2.2.2.2);clear hp dH hh hin hat har;have L0: ∀w',Below W.heap.size W w'->w'.cell? ⟨w.heap.size,0,none⟩=some (.int .i64 h.op):=fun w' hb=>(HX.o.next hb).2.1.2;have L2: ∀w',Below W.heap.size W w'->w'.cell? ⟨w.heap.size,2,none⟩=some (.string h.nm):=fun w' hb=>(HX.o.next hb).2.2.2.1.2;have L3: ∀w',Below W.heap.size W w'->w'.cell? ⟨w.heap.size,3,none⟩=some (.string h.arg):=fun w' hb=>(HX.o.next hb).2.2.2.2.1.2;have L5: ∀w',Below W.heap.size W w'->w'.cell? ⟨w.heap.size,5,none⟩=some (.int .i64 h.dP):=fun w' hb=>(HX.o.next hb).2.2.2.2.2.2.1.2;have L6: ∀w',Below W.heap.size W w'->w'.cell? ⟨w.heap.size,6,none⟩=some (.int .i64 h.xn):=fun w' hb=>(HX.o.next hb).2.2.2.2.2.2.2.1.2;have L7: ∀w',Below W.heap.size W w'->w'.cell? ⟨w.heap.size,7,none⟩=some (.string h.dO):=fun w' hb=>(HX.o.next hb).2.2.2.2.2.2.2.2.1.2;have L8: ∀w',Below W.heap.size W w'->w'.cell? ⟨w.heap.size,8,none⟩=some (.slice dZ h.aO.len dI):=fun w' hb=>(HX.o.next hb).2.2.2.2.2.2.2.2.2.1.2;have hB:Below W.heap.size W W:=Below.refl _ _;have l0:=L0 W hB;rcases XQ.o with ⟨hop,hr⟩ | ⟨hop,hr⟩ | ⟨hop,hr⟩ | ⟨hop,hr⟩ | ⟨hop,hr⟩ | ⟨hop,hr⟩ | ⟨hop,hr⟩ | ⟨hop,hr⟩ | ⟨hop,hr⟩ | ⟨hop,j,t,r,rfl,hd,hr⟩
 all_goals have HR:=ah hr;clear hr XQ
 ·have gg: ∀k:Int,1<=k->k<=15->(h.op == k)=false:=fun k h1 h2=>by rw [beq_eq_false_iff_ne]; omega
  have g1:=gg 1 (by decide) (by decide);have g2:=gg 2 (by decide) (by decide);have g3:=gg 3 (by decide) (by decide);have g4:=gg 4 (by decide) (by decide);have g5:=gg 5 (by decide) (by decide);have g6:=gg 6 (by decide) (by decide);have g7:=gg 7 (by decide) (by decide);have g8:=gg 8 (by decide) (by decide);have g9:=gg 9 (by decide) (by decide);have g10:=gg 10 (by decide) (by decide);have g11:=gg 11 (by decide) (by decide);have g12:=gg 12 (by decide) (by decide);have g13:=gg 13 (by decide) (by decide);have g14:=gg 14 (by decide) (by decide);have g15:=gg 15 (by decide) (by decide);clear hop gg;go_wp2_with fail;go_ret;exact ⟨dB HR.o,HX.o.1⟩
 ·obtain ⟨g1,g2,g3,g4,g5,g6,g7,g8,g9,g10,g11,g12,g13,g14,g15⟩:=op1 hop;clear hop;have lA:=(HX.o.2).2.1.2;have lB:=(HX.o.2).2.2.2.2.1.2;have lC:=(HX.o.2).2.2.2.2.2.2.2.2.2.1.2;have lD:=(HX.o.2).2.2.2.2.2.2.2.2.2.2.1.2;have l2:=L2 W hB;have l3:=L3 W hB;go_wp2_with fail;refine (Nr p _ aG aH aB aD i cO ar.len bC bs bt bc h b e ⟨dw,bJ,dZ,dI,cK,aZ,fF,dX⟩ hi (HP.o.same hB) (vX.o.same HX.o.1) (gV.o.same hB) (HK.o _ hB)).mono ?_;rintro e' w1 ⟨rfl,hb⟩;replace hB:=hB.trans (hb.mono hB.size);clear hb;go_wp2_with fail;go_ret;exact ⟨dB (by first | exact HR.o | exact HR.o.symm | (rw [<- HR.o]; first | rfl | simp_all)),by first | exact (HX.o.next hB).1 | exact (HX.o.next (hB.alloc hB.size _)).1⟩
 ·rcases hop with hop | hop
  all_goals
   first | obtain ⟨g1,g2,g3,g4,g5,g6,g7,g8,g9,g10,g11,g12,g13,g14,g15⟩:=op2 hop | obtain ⟨g1,g2,g3,g4,g5,g6,g7,g8,g9,g10,g11,g12,g13,g14,g15⟩:=op3 hop
   clear hop;go_wp2_with fail;refine (uS p _ aG aH aB aD i cO ar.len bC bs bt bc h.dP h.xn h.dO h.aO dZ dI hi (HP.o.same hB) hxk (Mc.o.same hB) (gV.o.same hB) (HK.o _ hB)).mono ?_;rintro e' w1 ⟨rfl,hb⟩;replace hB:=hB.trans (hb.mono hB.size);clear hb;go_wp2_with fail;go_ret;exact ⟨dB (by first | exact HR.o | exact HR.o.symm | (rw [<- HR.o]; first | rfl | simp_all)),by first | exact (HX.o.next hB).1 | exact (HX.o.next (hB.alloc hB.size _)).1⟩
 ·obtain ⟨g1,g2,g3,g4,g5,g6,g7,g8,g9,g10,g11,g12,g13,g14,g15⟩:=op4 hop;clear hop;cases hq:gH ar [7] <;> cases hq2:rY ar h.nm [4]
  all_goals
   repeat
    go_wp2_with fail
    first
    | (go_at_call 144; refine (jH _ _).mono ?_; rintro e' wn ⟨rfl,rfl⟩)
    | (go_at_call 142; refine (iV [_,_] _ _ 2 (by simp [maxLen]) (jw _ _ _ _)).mono ?_; rintro e' wf ⟨rfl,rfl⟩)
    | (go_at_call 147; refine (pU p _ aG aH aB aD i cO ar.len bC bs bt bc h.nm (HP.o.same hB) (HK.o _ hB)).mono ?_; rintro e' w1 ⟨rfl,hb⟩; replace hB:=hB.trans (hb.mono hB.size); clear hb)
    | (first
       | (go_at_call 143; refine (iY p _ aG aH aB aD i cO ar.len bC bs bt bc h.nm [_] _ 1 hi (by decide) (HP.o.same (hB.alloc hB.size _)) (gG _ _ _) (HK.o _ (hB.alloc hB.size _))).mono ?_)
       | (go_at_call 145; refine (jk p _ aG aH aB aD i cO bC bs bt bc ar [_] _ 1 (by decide) (gG _ _ _) kX.o (qC.o.same (hB.alloc hB.size _)) (HK.o _ (hB.alloc hB.size _))).mono ?_)
       | (go_at_call 146; refine (lu p _ aG aH aB aD i cO bC bs bt bc ar _ [_] _ 1 (by decide) (gG _ _ _) kX.o (qC.o.same (hB.alloc hB.size _)) (HK.o _ (hB.alloc hB.size _))).mono ?_)
       rintro e' w1 ⟨rfl,hb⟩;replace hB:=(hB.alloc hB.size _).trans (hb.mono (hB.alloc hB.size _).size);clear hb)
   go_wp2_with fail;go_ret;exact ⟨dB (by first | exact HR.o | exact HR.o.symm | (rw [<- HR.o]; first | rfl | simp_all)),by first | exact (HX.o.next hB).1 | exact (HX.o.next (hB.alloc hB.size _)).1⟩
 ·rcases hop with hop | hop
  all_goals
   first | obtain ⟨g1,g2,g3,g4,g5,g6,g7,g8,g9,g10,g11,g12,g13,g14,g15⟩:=op5 hop | obtain ⟨g1,g2,g3,g4,g5,g6,g7,g8,g9,g10,g11,g12,g13,g14,g15⟩:=op6 hop
   clear hop;cases hq:gH ar [7] <;> cases hq2:rY ar h.nm [5,6]
  all_goals
   repeat
    go_wp2_with fail
    first
    | (go_at_call 144; refine (jH _ _).mono ?_; rintro e' wn ⟨rfl,rfl⟩)
    | (go_at_call 142; refine (iV [_,_] _ _ 2 (by simp [maxLen]) (jw _ _ _ _)).mono ?_; rintro e' wf ⟨rfl,rfl⟩)
    | (go_at_call 147; refine (pU p _ aG aH aB aD i cO ar.len bC bs bt bc h.nm (HP.o.same hB) (HK.o _ hB)).mono ?_; rintro e' w1 ⟨rfl,hb⟩; replace hB:=hB.trans (hb.mono hB.size); clear hb)
    | (first
       | (go_at_call 143; refine (iY p _ aG aH aB aD i cO ar.len bC bs bt bc h.nm [_] _ 1 hi (by decide) (HP.o.same (hB.alloc hB.size _)) (gG _ _ _) (HK.o _ (hB.alloc hB.size _))).mono ?_)
       | (go_at_call 145; refine (jk p _ aG aH aB aD i cO bC bs bt bc ar [_] _ 1 (by decide) (gG _ _ _) kX.o (qC.o.same (hB.alloc hB.size _)) (HK.o _ (hB.alloc hB.size _))).mono ?_)
       | (go_at_call 146; refine (lu p _ aG aH aB aD i cO bC bs bt bc ar _ [_,_] _ 2 (by decide) (jw _ _ _ _) kX.o (qC.o.same (hB.alloc hB.size _)) (HK.o _ (hB.alloc hB.size _))).mono ?_)
       rintro e' w1 ⟨rfl,hb⟩;replace hB:=(hB.alloc hB.size _).trans (hb.mono (hB.alloc hB.size _).size);clear hb)
   go_wp2_with fail;go_ret;exact ⟨dB (by first | exact HR.o | exact HR.o.symm | (rw [<- HR.o]; first | rfl | simp_all)),by first | exact (HX.o.next hB).1 | exact (HX.o.next (hB.alloc hB.size _)).1⟩
 ·obtain ⟨g1,g2,g3,g4,g5,g6,g7,g8,g9,g10,g11,g12,g13,g14,g15⟩:=op7 hop;clear hop
  repeat
   go_wp2_with fail
   first
   | (go_at_call 144; refine (jH _ _).mono ?_; rintro e' wn ⟨rfl,rfl⟩)
   | (go_at_call 142; refine (iV [_,_] _ _ 2 (by simp [maxLen]) (jw _ _ _ _)).mono ?_; rintro e' wf ⟨rfl,rfl⟩)
   | (go_at_call 147; refine (pU p _ aG aH aB aD i cO ar.len bC bs bt bc h.nm (HP.o.same hB) (HK.o _ hB)).mono ?_; rintro e' w1 ⟨rfl,hb⟩; replace hB:=hB.trans (hb.mono hB.size); clear hb)
   | (first
      | (go_at_call 143; refine (iY p _ aG aH aB aD i cO ar.len bC bs bt bc h.nm [_] _ 1 hi (by decide) (HP.o.same (hB.alloc hB.size _)) (gG _ _ _) (HK.o _ (hB.alloc hB.size _))).mono ?_)
      | (go_at_call 145; refine (jk p _ aG aH aB aD i cO bC bs bt bc ar [_] _ 1 (by decide) (gG _ _ _) kX.o (qC.o.same (hB.alloc hB.size _)) (HK.o _ (hB.alloc hB.size _))).mono ?_)
      | (go_at_call 146; refine (lu p _ aG aH aB aD i cO bC bs bt bc ar _ [_] _ 1 (by decide) (gG _ _ _) kX.o (qC.o.same (hB.alloc hB.size _)) (HK.o _ (hB.alloc hB.size _))).mono ?_)
      rintro e' w1 ⟨rfl,hb⟩;replace hB:=(hB.alloc hB.size _).trans (hb.mono (hB.alloc hB.size _).size);clear hb)
  go_wp2_with fail;go_ret;exact ⟨dB (by first | exact HR.o | exact HR.o.symm | (rw [<- HR.o]; first | rfl | simp_all)),by first | exact (HX.o.next hB).1 | exact (HX.o.next (hB.alloc hB.size _)).1⟩
 ·obtain ⟨g1,g2,g3,g4,g5,g6,g7,g8,g9,g10,g11,g12,g13,g14,g15⟩:=op8 hop;clear hop
  repeat
   go_wp2_with fail
   first
   | (go_at_call 144; refine (jH _ _).mono ?_; rintro e' wn ⟨rfl,rfl⟩)
   | (go_at_call 142; refine (iV [_,_] _ _ 2 (by simp [maxLen]) (jw _ _ _ _)).mono ?_; rintro e' wf ⟨rfl,rfl⟩)
   | (go_at_call 147; refine (pU p _ aG aH aB aD i cO ar.len bC bs bt bc h.nm (HP.o.same hB) (HK.o _ hB)).mono ?_; rintro e' w1 ⟨rfl,hb⟩; replace hB:=hB.trans (hb.mono hB.size); clear hb)
   | (first
      | (go_at_call 143; refine (iY p _ aG aH aB aD i cO ar.len bC bs bt bc h.nm [_] _ 1 hi (by decide) (HP.o.same (hB.alloc hB.size _)) (gG _ _ _) (HK.o _ (hB.alloc hB.size _))).mono ?_)
      | (go_at_call 145; refine (jk p _ aG aH aB aD i cO bC bs bt bc ar [_,_] _ 2 (by decide) (jw _ _ _ _) kX.o (qC.o.same (hB.alloc hB.size _)) (HK.o _ (hB.alloc hB.size _))).mono ?_)
      | (go_at_call 146; refine (lu p _ aG aH aB aD i cO bC bs bt bc ar _ [_] _ 1 (by decide) (gG _ _ _) kX.o (qC.o.same (hB.alloc hB.size _)) (HK.o _ (hB.alloc hB.size _))).mono ?_)
      rintro e' w1 ⟨rfl,hb⟩;replace hB:=(hB.alloc hB.size _).trans (hb.mono (hB.alloc hB.size _).size);clear hb)
  go_wp2_with fail;go_ret;exact ⟨dB (by first | exact HR.o | exact HR.o.symm | (rw [<- HR.o]; first | rfl | simp_all)),by first | exact (HX.o.next hB).1 | exact (HX.o.next (hB.alloc hB.size _)).1⟩
 ·rcases hop with hop | hop | hop
  all_goals
   first | obtain ⟨g1,g2,g3,g4,g5,g6,g7,g8,g9,g10,g11,g12,g13,g14,g15⟩:=op9 hop | obtain ⟨g1,g2,g3,g4,g5,g6,g7,g8,g9,g10,g11,g12,g13,g14,g15⟩:=an7 hop | obtain ⟨g1,g2,g3,g4,g5,g6,g7,g8,g9,g10,g11,g12,g13,g14,g15⟩:=an8 hop
   clear hop;cases hq:gH ar [7] <;> cases hq2:rY ar (vF p.ds h.nm) [4] <;> cases hq3:gH ar [8]
  all_goals
   repeat
    go_wp2_with fail
    first
    | (go_at_call 144; refine (jH _ _).mono ?_; rintro e' wn ⟨rfl,rfl⟩)
    | (go_at_call 142; refine (iV [_,_] _ _ 2 (by simp [maxLen]) (jw _ _ _ _)).mono ?_; rintro e' wf ⟨rfl,rfl⟩)
    | (go_at_call 147; refine (pU p _ aG aH aB aD i cO ar.len bC bs bt bc h.nm (HP.o.same hB) (HK.o _ hB)).mono ?_; rintro e' w1 ⟨rfl,hb⟩; replace hB:=hB.trans (hb.mono hB.size); clear hb)
    | (first
       | (go_at_call 143; refine (iY p _ aG aH aB aD i cO ar.len bC bs bt bc h.nm [_] _ 1 hi (by decide) (HP.o.same (hB.alloc hB.size _)) (gG _ _ _) (HK.o _ (hB.alloc hB.size _))).mono ?_)
       | (go_at_call 145; refine (jk p _ aG aH aB aD i cO bC bs bt bc ar [_] _ 1 (by decide) (gG _ _ _) kX.o (qC.o.same (hB.alloc hB.size _)) (HK.o _ (hB.alloc hB.size _))).mono ?_)
       | (go_at_call 146; refine (lu p _ aG aH aB aD i cO bC bs bt bc ar _ [_] _ 1 (by decide) (gG _ _ _) kX.o (qC.o.same (hB.alloc hB.size _)) (HK.o _ (hB.alloc hB.size _))).mono ?_)
       rintro e' w1 ⟨rfl,hb⟩;replace hB:=(hB.alloc hB.size _).trans (hb.mono (hB.alloc hB.size _).size);clear hb)
   go_wp2_with fail;go_ret;exact ⟨dB (by first | exact HR.o | exact HR.o.symm | (rw [<- HR.o]; first | rfl | simp_all)),by first | exact (HX.o.next hB).1 | exact (HX.o.next (hB.alloc hB.size _)).1⟩
 ·obtain ⟨g1,g2,g3,g4,g5,g6,g7,g8,g9,g10,g11,g12,g13,g14,g15⟩:=ao6 hop;clear hop;go_upto_region 27 with fail;refine ow (fun w'=>Below W.heap.size W w') (fun w w'=>Below w.heap.size w w') [193,194,195,196,197,198,199,200,201,202,203,204,205,206,207,208,4] (by kernel_rfl) (by kernel_rfl) (fun _=>Below.refl _ _) (by rfl) (below_drewN (Below.refl _ _) 1) ?_
  iterate 3
   apply dA.step
   case aP=>intro β A w' hβ hC hO hD;have e0:=hO 0 (by rfl);have e3:=hO 3 (by rfl);simp [Act.eval] at e0 e3;simp [Act.eval] at hD;simp [go_sem,gd,Oper.wp,e0,e3,hD,L2,hC];exact aI.mk (Below.refl _ _) hC (bG.mk _ _)
  refine dA.some (fun v w'=> ∃b,v= .slice (some ⟨b,0,none⟩) 1 1∧dS w' w'.heap.size [1] (some ⟨b,0,none⟩) 0) ?_ ?_ ?_
  ·rintro v w w' hle ⟨b,rfl,hin⟩;exact ⟨b,rfl,hin.same hle⟩
  ·intro β A w' hβ hC hO hD;simp [go_sem,gd,Oper.wp];exact aI.mk (d:=_) (v:= .slice (some ⟨_,0,none⟩) 1 1) (au _ _) (hC.trans ((au _ _).mono hC.size)) ⟨_,rfl,gG _ 1 _⟩
  apply dA.step
  case aP=>intro β A w' hβ hC hO hD;simp [Act.eval] at hD;obtain ⟨aJ8,aJ9,ba7,aK0,ak1⟩:=hD;simp [go_sem,gd,Oper.wp,aJ8,aJ9,aK0];refine (iY p w' aG aH aB aD _ cO _ bC bs bt bc h.nm [1] _ 1 hi (by decide) (HP.o.same hC) ak1 (HK.o _ hC)).mono ?_;rintro e' w2 ⟨rfl,hb⟩;exact aI.mk hb (hC.trans (hb.mono hC.size)) (bG.mk _ _)
  iterate 3
   apply dA.step
   case aP=>intro β A w' hβ hC hO hD;have e0:=hO 0 (by rfl);have e3:=hO 3 (by rfl);simp [Act.eval] at e0 e3;simp [Act.eval] at hD;simp [go_sem,gd,Oper.wp,e0,e3,hD,L3,hC];exact aI.mk (Below.refl _ _) hC (bG.mk _ _)
  refine dA.some (fun v w'=> ∃b,v= .slice (some ⟨b,0,none⟩) 1 1∧dS w' w'.heap.size [7] (some ⟨b,0,none⟩) 0) ?_ ?_ ?_
  ·rintro v w w' hle ⟨b,rfl,hin⟩;exact ⟨b,rfl,hin.same hle⟩
  ·intro β A w' hβ hC hO hD;simp [go_sem,gd,Oper.wp];exact aI.mk (d:=_) (v:= .slice (some ⟨_,0,none⟩) 1 1) (au _ _) (hC.trans ((au _ _).mono hC.size)) ⟨_,rfl,gG _ 7 _⟩
  apply dA.step
  case aP=>intro β A w' hβ hC hO hD;simp [Act.eval] at hD;obtain ⟨aK1,aK2,⟨ba8,aK3,ak2⟩,-⟩:=hD;simp [go_sem,gd,Oper.wp,aK1,aK2,aK3];refine (iY p w' aG aH aB aD _ cO _ bC bs bt bc h.arg [7] _ 1 hi (by decide) (HP.o.same hC) ak2 (HK.o _ hC)).mono ?_;rintro e' w2 ⟨rfl,hb⟩;exact aI.mk hb (hC.trans (hb.mono hC.size)) (bG.mk _ _)
  apply dA.step
  case aP=>intro β A w' hβ hC hO hD;have e0:=hO 0 (by rfl);have e3:=hO 3 (by rfl);simp [Act.eval] at e0 e3;simp [Act.eval] at hD;simp [go_sem,gd,Oper.wp,e0,e3,hD];exact aI.mk (Below.refl _ _) hC (bG.mk _ _)
  refine dA.some (fun v w'=> ∃b,v= .slice (some ⟨b,0,none⟩) 1 1∧dS w' w'.heap.size [7] (some ⟨b,0,none⟩) 0) ?_ ?_ ?_
  ·rintro v w w' hle ⟨b,rfl,hin⟩;exact ⟨b,rfl,hin.same hle⟩
  ·intro β A w' hβ hC hO hD;simp [go_sem,gd,Oper.wp];exact aI.mk (d:=_) (v:= .slice (some ⟨_,0,none⟩) 1 1) (au _ _) (hC.trans ((au _ _).mono hC.size)) ⟨_,rfl,gG _ 7 _⟩
  apply dA.step
  case aP=>intro β A w' hβ hC hO hD;simp [Act.eval] at hD;obtain ⟨aK4,⟨ba9,aK5,ak3⟩,-⟩:=hD;simp [go_sem,gd,Oper.wp,aK4,aK5];refine (jk p w' aG aH aB aD _ cO bC bs bt bc ar [7] _ 1 (by decide) ak3 kX.o (qC.o.same hC) (HK.o _ hC)).mono ?_;rintro e' w2 ⟨rfl,hb⟩;exact aI.mk hb (hC.trans (hb.mono hC.size)) (bG.mk _ _)
  apply dA.step
  case aP=>intro β A w' hβ hC hO hD;simp [Act.eval] at hD;simp [go_sem,gd,Oper.wp,hD];refine (jH (gH ar [7]) w').mono ?_;rintro e' w2 ⟨rfl,rfl⟩;exact aI.mk (Below.refl _ _) hC (bG.mk _ _)
  refine dA.some (fun v w'=> ∃b,v= .slice (some ⟨b,0,none⟩) 3 3∧dS w' w'.heap.size [dF (mean p i h.nm) [1],dF (mean p i h.arg) [7],nest (gH ar [7])] (some ⟨b,0,none⟩) 0) ?_ ?_ ?_
  ·rintro v w w' hle ⟨b,rfl,hin⟩;exact ⟨b,rfl,hin.same hle⟩
  ·intro β A w' hβ hC hO hD;simp [Act.eval] at hD;simp [go_sem,gd,Oper.wp,hD];exact aI.mk (d:=_) (v:= .slice (some ⟨_,0,none⟩) 3 3) (au _ _) (hC.trans ((au _ _).mono hC.size)) ⟨_,rfl,yO _ _ _ _ _⟩
  apply dA.step
  case aP=>intro β A w' hβ hC hO hD;simp [Act.eval] at hD;obtain ⟨⟨bb4,aK6,ak4⟩,-⟩:=hD;simp [go_sem,gd,Oper.wp,aK6];refine (iV [dF (mean p i h.nm) [1],dF (mean p i h.arg) [7],nest (gH ar [7])] w' _ _ (by simp [maxLen]) ak4).mono ?_;rintro e' w2 ⟨rfl,rfl⟩;exact aI.mk (Below.refl _ _) hC (bG.mk _ _)
  apply dA.step
  case aP=>intro β A w' hβ hC hO hD;have e0:=hO 0 (by rfl);have e3:=hO 3 (by rfl);simp [Act.eval] at e0 e3;simp [Act.eval] at hD;simp [go_sem,gd,Oper.wp,e0,e3,hD];exact aI.mk (Below.refl _ _) hC (bG.mk _ _)
  intro wz gy;intro v0 h0 v1 h1 v2 h2 v3 h3 v4 h4 v5 h5 v6 h6 v7 h7 v8 h8 v9 h9 v10 h10 v11 h11 v12 h12 v13 DF v14 uf v15 IQ v16 h16;have hl':v16=_:=h16;subst hl';clear h0 h1 h2 h3 h4 h5 h6 h7 h8 h9 h10 h11 h12 DF uf IQ h16;refine eu.nil ?_;go_wp2_with fail;go_ret;exact ⟨dB (by first | exact HR.o | exact HR.o.symm | (rw [<- HR.o]; first | rfl | simp_all)),(HX.o.next gy).1⟩
 ·obtain ⟨g1,g2,g3,g4,g5,g6,g7,g8,g9,g10,g11,g12,g13,g14,g15⟩:=ao4 hop;clear hop;go_upto_region 23 with fail;cases hq:gH ar [7,8]
  ·refine ow (fun w'=>Below W.heap.size W w') (fun w w'=>Below w.heap.size w w') [149,150,151,152,153,154,155,156,157,158,159,160,161,162,163,164,165,166,4] (by kernel_rfl) (by kernel_rfl) (fun _=>Below.refl _ _) (by rfl) (below_drewN (Below.refl _ _) 1) ?_
   iterate 3
    apply dA.step
    case aP=>intro β A w' hβ hC hO hD;have e0:=hO 0 (by rfl);have e3:=hO 3 (by rfl);simp [Act.eval] at e0 e3;simp [Act.eval] at hD;simp [go_sem,gd,Oper.wp,e0,e3,hD,L2,hC];exact aI.mk (Below.refl _ _) hC (bG.mk _ _)
   refine dA.some (fun v w'=> ∃b,v= .slice (some ⟨b,0,none⟩) 1 1∧dS w' w'.heap.size [8] (some ⟨b,0,none⟩) 0) ?_ ?_ ?_
   ·rintro v w w' hle ⟨b,rfl,hin⟩;exact ⟨b,rfl,hin.same hle⟩
   ·intro β A w' hβ hC hO hD;simp [go_sem,gd,Oper.wp];exact aI.mk (d:=_) (v:= .slice (some ⟨_,0,none⟩) 1 1) (au _ _) (hC.trans ((au _ _).mono hC.size)) ⟨_,rfl,gG _ 8 _⟩
   apply dA.step
   case aP=>intro β A w' hβ hC hO hD;simp [Act.eval] at hD;obtain ⟨Wn,Wp,aI1,Wq,NU⟩:=hD;simp [go_sem,gd,Oper.wp,Wn,Wp,Wq];refine (iY p w' aG aH aB aD _ cO _ bC bs bt bc h.nm [8] _ 1 hi (by decide) (HP.o.same hC) NU (HK.o _ hC)).mono ?_;rintro e' w2 ⟨rfl,hb⟩;exact aI.mk hb (hC.trans (hb.mono hC.size)) (bG.mk _ _)
   apply dA.step
   case aP=>intro β A w' hβ hC hO hD;have e0:=hO 0 (by rfl);have e3:=hO 3 (by rfl);simp [Act.eval] at e0 e3;simp [Act.eval] at hD;simp [go_sem,gd,Oper.wp,e0,e3,hD];exact aI.mk (Below.refl _ _) hC (bG.mk _ _)
   refine dA.some (fun v w'=> ∃b,v= .slice (some ⟨b,0,none⟩) 2 2∧dS w' w'.heap.size [7,8] (some ⟨b,0,none⟩) 0) ?_ ?_ ?_
   ·rintro v w w' hle ⟨b,rfl,hin⟩;exact ⟨b,rfl,hin.same hle⟩
   ·intro β A w' hβ hC hO hD;simp [go_sem,gd,Oper.wp];exact aI.mk (d:=_) (v:= .slice (some ⟨_,0,none⟩) 2 2) (au _ _) (hC.trans ((au _ _).mono hC.size)) ⟨_,rfl,jw _ 7 8 _⟩
   apply dA.step
   case aP=>intro β A w' hβ hC hO hD;simp [Act.eval] at hD;obtain ⟨Ws,⟨aI2,Wt,NV⟩,-⟩:=hD;simp [go_sem,gd,Oper.wp,Ws,Wt];refine (hq ▸ jk p w' aG aH aB aD (j:Int) cO bC bs bt bc ar [7,8] _ 2 (by decide) NV kX.o (qC.o.same hC) (HK.o _ hC)).mono ?_;rintro e' w2 ⟨rfl,hb⟩;exact aI.mk hb (hC.trans (hb.mono hC.size)) (bG.mk _ _)
   iterate 4
    apply dA.step
    case aP=>intro β A w' hβ hC hO hD;have e0:=hO 0 (by rfl);have e3:=hO 3 (by rfl);simp [Act.eval] at e0 e3;simp [Act.eval] at hD;simp [go_sem,gd,Oper.wp,e0,e3,hD,L2,hC];exact aI.mk (Below.refl _ _) hC (bG.mk _ _)
   apply dA.step
   case aP=>intro β A w' hβ hC hO hD;simp [Act.eval] at hD;simp [go_sem,gd,Oper.wp,hD];refine (KZ p w' aG aH aB aD cO ar.len bC bs bt bc j t r hd (HP.o.same hC) (HK.o _ hC)).mono ?_;rintro e' w2 ⟨rfl,hb⟩;exact aI.mk hb (hC.trans (hb.mono hC.size)) (bG.mk _ _)
   iterate 2
    apply dA.step
    case aP=>intro β A w' hβ hC hO hD;have e0:=hO 0 (by rfl);have e3:=hO 3 (by rfl);simp [Act.eval] at e0 e3;simp [Act.eval] at hD;simp [go_sem,gd,Oper.wp,e0,e3,hD];exact aI.mk (Below.refl _ _) hC (bG.mk _ _)
   apply dA.step
   case aP=>intro β A w' hβ hC hO hD;simp [Act.eval] at hD;simp [go_sem,gd,Oper.wp,hD];refine (jH (h.nm.toList == t.nm.toList) w').mono ?_;rintro e' w2 ⟨rfl,rfl⟩;exact aI.mk (Below.refl _ _) hC (bG.mk _ _)
   refine dA.some (fun v w'=> ∃b,v= .slice (some ⟨b,0,none⟩) 2 2∧dS w' w'.heap.size [dF (mean p (j:Int) h.nm) [8],nest (h.nm.toList == t.nm.toList)] (some ⟨b,0,none⟩) 0) ?_ ?_ ?_
   ·rintro v w w' hle ⟨b,rfl,hin⟩;exact ⟨b,rfl,hin.same hle⟩
   ·intro β A w' hβ hC hO hD;simp [Act.eval] at hD;simp [go_sem,gd,Oper.wp,hD];exact aI.mk (d:=_) (v:= .slice (some ⟨_,0,none⟩) 2 2) (au _ _) (hC.trans ((au _ _).mono hC.size)) ⟨_,rfl,jw _ _ _ _⟩
   apply dA.step
   case aP=>intro β A w' hβ hC hO hD;simp [Act.eval] at hD;obtain ⟨⟨aI3,Wu,NW⟩,-⟩:=hD;simp [go_sem,gd,Oper.wp,Wu];refine (iV [dF (mean p (j:Int) h.nm) [8],nest (h.nm.toList == t.nm.toList)] w' _ _ (by simp [maxLen]) NW).mono ?_;rintro e' w2 ⟨rfl,rfl⟩;exact aI.mk (Below.refl _ _) hC (bG.mk _ _)
   apply dA.step
   case aP=>intro β A w' hβ hC hO hD;have e0:=hO 0 (by rfl);have e3:=hO 3 (by rfl);simp [Act.eval] at e0 e3;simp [Act.eval] at hD;simp [go_sem,gd,Oper.wp,e0,e3,hD];exact aI.mk (Below.refl _ _) hC (bG.mk _ _)
   intro wz gy;intro v0 h0 v1 h1 v2 h2 v3 h3 v4 h4 v5 h5 v6 h6 v7 h7 v8 h8 v9 h9 v10 h10 v11 h11 v12 h12 v13 DF v14 uf v15 IQ v16 h16 v17 Ll v18 h18;have hl':v18=_:=h18;subst hl';clear h0 h1 h2 h3 h4 h5 h6 h7 h8 h9 h10 h11 h12 DF uf IQ h16 Ll h18;refine eu.nil ?_;go_wp2_with fail;go_ret;exact ⟨dB (by first | exact HR.o | exact HR.o.symm | (rw [<- HR.o]; first | rfl | simp_all)),(HX.o.next gy).1⟩
  ·refine ow (fun w'=>Below W.heap.size W w') (fun w w'=>Below w.heap.size w w') [149,150,151,152,153,154,155,156,157,158,159,160,161,162,163,164,165,166,4] (by kernel_rfl) (by kernel_rfl) (fun _=>Below.refl _ _) (by rfl) (below_drewN (Below.refl _ _) 1) ?_
   iterate 3
    apply dA.step
    case aP=>intro β A w' hβ hC hO hD;have e0:=hO 0 (by rfl);have e3:=hO 3 (by rfl);simp [Act.eval] at e0 e3;simp [Act.eval] at hD;simp [go_sem,gd,Oper.wp,e0,e3,hD,L2,hC];exact aI.mk (Below.refl _ _) hC (bG.mk _ _)
   refine dA.some (fun v w'=> ∃b,v= .slice (some ⟨b,0,none⟩) 1 1∧dS w' w'.heap.size [8] (some ⟨b,0,none⟩) 0) ?_ ?_ ?_
   ·rintro v w w' hle ⟨b,rfl,hin⟩;exact ⟨b,rfl,hin.same hle⟩
   ·intro β A w' hβ hC hO hD;simp [go_sem,gd,Oper.wp];exact aI.mk (d:=_) (v:= .slice (some ⟨_,0,none⟩) 1 1) (au _ _) (hC.trans ((au _ _).mono hC.size)) ⟨_,rfl,gG _ 8 _⟩
   apply dA.step
   case aP=>intro β A w' hβ hC hO hD;simp [Act.eval] at hD;obtain ⟨Wn,Wp,aI1,Wq,NU⟩:=hD;simp [go_sem,gd,Oper.wp,Wn,Wp,Wq];refine (iY p w' aG aH aB aD _ cO _ bC bs bt bc h.nm [8] _ 1 hi (by decide) (HP.o.same hC) NU (HK.o _ hC)).mono ?_;rintro e' w2 ⟨rfl,hb⟩;exact aI.mk hb (hC.trans (hb.mono hC.size)) (bG.mk _ _)
   apply dA.step
   case aP=>intro β A w' hβ hC hO hD;have e0:=hO 0 (by rfl);have e3:=hO 3 (by rfl);simp [Act.eval] at e0 e3;simp [Act.eval] at hD;simp [go_sem,gd,Oper.wp,e0,e3,hD];exact aI.mk (Below.refl _ _) hC (bG.mk _ _)
   refine dA.some (fun v w'=> ∃b,v= .slice (some ⟨b,0,none⟩) 2 2∧dS w' w'.heap.size [7,8] (some ⟨b,0,none⟩) 0) ?_ ?_ ?_
   ·rintro v w w' hle ⟨b,rfl,hin⟩;exact ⟨b,rfl,hin.same hle⟩
   ·intro β A w' hβ hC hO hD;simp [go_sem,gd,Oper.wp];exact aI.mk (d:=_) (v:= .slice (some ⟨_,0,none⟩) 2 2) (au _ _) (hC.trans ((au _ _).mono hC.size)) ⟨_,rfl,jw _ 7 8 _⟩
   apply dA.step
   case aP=>intro β A w' hβ hC hO hD;simp [Act.eval] at hD;obtain ⟨Ws,⟨aI2,Wt,NV⟩,-⟩:=hD;simp [go_sem,gd,Oper.wp,Ws,Wt];refine (hq ▸ jk p w' aG aH aB aD (j:Int) cO bC bs bt bc ar [7,8] _ 2 (by decide) NV kX.o (qC.o.same hC) (HK.o _ hC)).mono ?_;rintro e' w2 ⟨rfl,hb⟩;exact aI.mk hb (hC.trans (hb.mono hC.size)) (bG.mk _ _)
   apply dA.step
   case aP=>intro β A w' hβ hC hO hD;have e0:=hO 0 (by rfl);have e3:=hO 3 (by rfl);simp [Act.eval] at e0 e3;simp [Act.eval] at hD;simp [go_sem,gd,Oper.wp,e0,e3,hD];exact aI.mk (Below.refl _ _) hC (bG.mk _ _)
   iterate 5
    refine dA.step (v:=undef) ?_ ?_
    ·intro β A w' hβ hC hO hD;simp [Act.eval] at hD;simp [gd,Act.eval,hD]
     first | done | exact bG.mk _ _ | exact ⟨by rfl,bG.mk _ _⟩
   apply dA.step
   case aP=>intro β A w' hβ hC hO hD;have e0:=hO 0 (by rfl);have e3:=hO 3 (by rfl);simp [Act.eval] at e0 e3;simp [Act.eval] at hD;simp [go_sem,gd,Oper.wp,e0,e3,hD];exact aI.mk (Below.refl _ _) hC (bG.mk _ _)
   apply dA.step
   case aP=>intro β A w' hβ hC hO hD;simp [Act.eval] at hD;simp [go_sem,gd,Oper.wp,hD];refine (jH true w').mono ?_;rintro e' w2 ⟨rfl,rfl⟩;exact aI.mk (Below.refl _ _) hC (bG.mk _ _)
   refine dA.some (fun v w'=> ∃b,v= .slice (some ⟨b,0,none⟩) 2 2∧dS w' w'.heap.size [dF (mean p (j:Int) h.nm) [8],nest true] (some ⟨b,0,none⟩) 0) ?_ ?_ ?_
   ·rintro v w w' hle ⟨b,rfl,hin⟩;exact ⟨b,rfl,hin.same hle⟩
   ·intro β A w' hβ hC hO hD;simp [Act.eval] at hD;simp [go_sem,gd,Oper.wp,hD];exact aI.mk (d:=_) (v:= .slice (some ⟨_,0,none⟩) 2 2) (au _ _) (hC.trans ((au _ _).mono hC.size)) ⟨_,rfl,jw _ _ _ _⟩
   apply dA.step
   case aP=>intro β A w' hβ hC hO hD;simp [Act.eval] at hD;obtain ⟨⟨aI3,Wu,NW⟩,-⟩:=hD;simp [go_sem,gd,Oper.wp,Wu];refine (iV [dF (mean p (j:Int) h.nm) [8],nest true] w' _ _ (by simp [maxLen]) NW).mono ?_;rintro e' w2 ⟨rfl,rfl⟩;exact aI.mk (Below.refl _ _) hC (bG.mk _ _)
   apply dA.step
   case aP=>intro β A w' hβ hC hO hD;have e0:=hO 0 (by rfl);have e3:=hO 3 (by rfl);simp [Act.eval] at e0 e3;simp [Act.eval] at hD;simp [go_sem,gd,Oper.wp,e0,e3,hD];exact aI.mk (Below.refl _ _) hC (bG.mk _ _)
   intro wz gy;intro v0 h0 v1 h1 v2 h2 v3 h3 v4 h4 v5 h5 v6 h6 v7 h7 v8 h8 v9 h9 v10 h10 v11 h11 v12 h12 v13 DF v14 uf v15 IQ v16 h16 v17 Ll v18 h18;have hl':v18=_:=h18;subst hl';clear h0 h1 h2 h3 h4 h5 h6 h7 h8 h9 h10 h11 h12 DF uf IQ h16 Ll h18;refine eu.nil ?_;go_wp2_with fail;go_ret;exact ⟨dB (by first | exact HR.o | exact HR.o.symm | (rw [<- HR.o]; first | rfl | simp_all)),(HX.o.next gy).1⟩
end
end Go.Proofs.YtgjmahnblcajbaaGreatDoor
