/- Contract of the checker's statement: where nothing is noted. -/
import Derived.Test.YtfbbaiejbjdfbaaGreatDoorGMF
set_option linter.unusedSimpArgs false
set_option linter.unusedVariables false
set_option maxHeartbeats 40000000
set_option maxRecDepth 1000000
namespace Go.Proofs.YtfbbaiejbjdfbaaGreatDoor
open Go.RowKit
open Md
section
variable (p:Pr) (w:World) (aB aD:Option Addr) (aA ay:Nat) (i:Int) (bR:Option Addr) (bf bs bt bc:Nat)
theorem sJ (h:dL) (b e ar:aH) (s:Sl) (hi:bS i) (hp:p.At w aB aD) (hin:DL w h b e s) (fK:fC w) (har:ar.len<=maxLen) (hat:ar.At w w.heap.size bR 0) (hh:Holds w (vQ bc p aB aD aA ay i bR ar.len bf bs bt)) {res:Int} (hc:
 ((h.op < 1∨15 < h.op)∧0=res)∨
 (h.op=1∧CB p i h=res)∨
 ((h.op=2∨h.op=3)∧jT p i h.bY h.xn h.bW h.aI=res)∨
 (h.op=4∧dN [cB (mean p i h.nm) [4],nest (eY ar [7] || sK ar h.nm [4])]=res)∨
 ((h.op=5∨h.op=6)∧dN [cB (mean p i h.nm) [5],nest (eY ar [7] || sK ar h.nm [5,6])]=res)∨
 (h.op=7∧nest (eY ar [7])=res)∨
 (h.op=8∧nest (eY ar [7,8])=res)∨
 ((h.op=9∨h.op=10∨h.op=11)∧dN [cB (mean p i h.nm) [6],nest ((eY ar [7] || !sK ar (qm p.ds h.nm) [4]) || (h.op == 9 && eY ar [8]))]=res)∨
 (h.op=15∧dN [cB (mean p i h.nm) [1],cB (mean p i h.arg) [7],nest (eY ar [7])]=res)∨
 (h.op=13∧ ∃(j:Nat) (t:Th) (r:List Th),i=(j:Int)∧p.ts.drop j=t ::r∧dN [cB (mean p i h.nm) [8],nest (eY ar [7,8] || h.nm.toList == t.nm.toList)]=res)):
 Calls Tryz.prog 103 #[.pointer (some ⟨bc,0,none⟩),dS h b e s] w fun e' w'=>e'= .returned (.int .i64 res)∧Below w.heap.size w w':=by
 have HH:=ah (show Sit w w _ from ⟨Below.refl _ _,hh⟩);obtain ⟨dU,dG,dX,dA,cu,bJ,gH,eB⟩:=s;have hxk:=hin.1.2.2.2.2.2.1;have hns:=hin.1.2.2.1;have ni:=ah hin;have Ky:=ah hc;clear hc;unfold dS;dsimp only;go_enter Tryz.func103,Tryz.ntmps103;go_upto_region 1 with fail;generalize hW:World.alloc w _=W;generalize Value.agg #[_,_,_,_,_,_,_,_,_,_,_]=a0;have HX:aj (Sit w W (sQ w.heap.size h b e ⟨dU,dG,dX,dA,cu,bJ,gH,eB⟩ (vQ bc p aB aD aA ay i bR ar.len bf bs bt))):=ah (by rw [<- hW]; exact HH.o.wK rfl _ _ _ _ _ _ _ _ _ _ _ _);clear hW HH;have HP:=ah (hp.same HX.o.1);have kD:=ah (fK.same HX.o.1);have OW:=ah (hin.2.2.1.same HX.o.1);have kG:=ah (hat.same HX.o.1);have jA:=ah har;have HK:aj (∀w',Below W.heap.size W w'->Holds w' (vQ bc p aB aD aA ay i bR ar.len bf bs bt)):=ah (fun w' hb=>(HX.o.next hb).2.2.2.2.2.2.2.2.2.2.2.2);clear hp fK hh hin hat har;have L0: ∀w',Below W.heap.size W w'->w'.cell? ⟨w.heap.size,0,none⟩=some (.int .i64 h.op):=fun w' hb=>(HX.o.next hb).2.1.2;have L2: ∀w',Below W.heap.size W w'->w'.cell? ⟨w.heap.size,2,none⟩=some (.string h.nm):=fun w' hb=>(HX.o.next hb).2.2.2.1.2;have L3: ∀w',Below W.heap.size W w'->w'.cell? ⟨w.heap.size,3,none⟩=some (.string h.arg):=fun w' hb=>(HX.o.next hb).2.2.2.2.1.2;have L5: ∀w',Below W.heap.size W w'->w'.cell? ⟨w.heap.size,5,none⟩=some (.int .i64 h.bY):=fun w' hb=>(HX.o.next hb).2.2.2.2.2.2.1.2;have L6: ∀w',Below W.heap.size W w'->w'.cell? ⟨w.heap.size,6,none⟩=some (.int .i64 h.xn):=fun w' hb=>(HX.o.next hb).2.2.2.2.2.2.2.1.2;have L7: ∀w',Below W.heap.size W w'->w'.cell? ⟨w.heap.size,7,none⟩=some (.string h.bW):=fun w' hb=>(HX.o.next hb).2.2.2.2.2.2.2.2.1.2;have L8: ∀w',Below W.heap.size W w'->w'.cell? ⟨w.heap.size,8,none⟩=some (.slice dX h.aI.len dA):=fun w' hb=>(HX.o.next hb).2.2.2.2.2.2.2.2.2.1.2;have hB:Below W.heap.size W W:=Below.refl _ _;have l0:=L0 W hB;rcases Ky.o with ⟨hop,hr⟩ | ⟨hop,hr⟩ | ⟨hop,hr⟩ | ⟨hop,hr⟩ | ⟨hop,hr⟩ | ⟨hop,hr⟩ | ⟨hop,hr⟩ | ⟨hop,hr⟩ | ⟨hop,hr⟩ | ⟨hop,j,t,r,rfl,hd,hr⟩
 all_goals have HR:=ah hr;clear hr Ky
 ·have gg: ∀k:Int,1<=k->k<=15->(h.op == k)=false:=fun k h1 h2=>by rw [beq_eq_false_iff_ne]; omega
  have g1:=gg 1 (by decide) (by decide);have g2:=gg 2 (by decide) (by decide);have g3:=gg 3 (by decide) (by decide);have g4:=gg 4 (by decide) (by decide);have g5:=gg 5 (by decide) (by decide);have g6:=gg 6 (by decide) (by decide);have g7:=gg 7 (by decide) (by decide);have g8:=gg 8 (by decide) (by decide);have g9:=gg 9 (by decide) (by decide);have g10:=gg 10 (by decide) (by decide);have g11:=gg 11 (by decide) (by decide);have g12:=gg 12 (by decide) (by decide);have g13:=gg 13 (by decide) (by decide);have g14:=gg 14 (by decide) (by decide);have g15:=gg 15 (by decide) (by decide);clear hop gg;go_wp2_with fail;go_ret;exact ⟨bF HR.o,HX.o.1⟩
 ·obtain ⟨g1,g2,g3,g4,g5,g6,g7,g8,g9,g10,g11,g12,g13,g14,g15⟩:=op1 hop;clear hop;have lA:=(HX.o.2).2.1.2;have lB:=(HX.o.2).2.2.2.2.1.2;have lC:=(HX.o.2).2.2.2.2.2.2.2.2.2.1.2;have lD:=(HX.o.2).2.2.2.2.2.2.2.2.2.2.1.2;have l2:=L2 W hB;have l3:=L3 W hB;go_wp2_with fail;refine (Qf p _ aB aD aA ay i bR ar.len bf bs bt bc h b e ⟨dU,dG,dX,dA,cu,bJ,gH,eB⟩ hi (HP.o.same hB) (ni.o.same HX.o.1) (kD.o.same hB) (HK.o _ hB)).mono ?_;rintro e' w1 ⟨rfl,hb⟩;replace hB:=hB.trans (hb.mono hB.size);clear hb;go_wp2_with fail;go_ret;exact ⟨bF (by first | exact HR.o | exact HR.o.symm | (rw [<- HR.o]; first | rfl | simp_all)),by first | exact (HX.o.next hB).1 | exact (HX.o.next (hB.alloc hB.size _)).1⟩
 ·rcases hop with hop | hop
  all_goals
   first | obtain ⟨g1,g2,g3,g4,g5,g6,g7,g8,g9,g10,g11,g12,g13,g14,g15⟩:=op2 hop | obtain ⟨g1,g2,g3,g4,g5,g6,g7,g8,g9,g10,g11,g12,g13,g14,g15⟩:=op3 hop
   clear hop;go_wp2_with fail;refine (zh p _ aB aD aA ay i bR ar.len bf bs bt bc h.bY h.xn h.bW h.aI dX dA hi (HP.o.same hB) hxk (OW.o.same hB) (kD.o.same hB) (HK.o _ hB)).mono ?_;rintro e' w1 ⟨rfl,hb⟩;replace hB:=hB.trans (hb.mono hB.size);clear hb;go_wp2_with fail;go_ret;exact ⟨bF (by first | exact HR.o | exact HR.o.symm | (rw [<- HR.o]; first | rfl | simp_all)),by first | exact (HX.o.next hB).1 | exact (HX.o.next (hB.alloc hB.size _)).1⟩
 ·obtain ⟨g1,g2,g3,g4,g5,g6,g7,g8,g9,g10,g11,g12,g13,g14,g15⟩:=op4 hop;clear hop;cases hq:eY ar [7] <;> cases hq2:sK ar h.nm [4]
  all_goals
   repeat
    go_wp2_with fail
    first
    | (go_at_call 125; refine (nO _ _).mono ?_; rintro e' wn ⟨rfl,rfl⟩)
    | (go_at_call 123; refine (lg [_,_] _ _ 2 (by simp [maxLen]) (mX _ _ _ _)).mono ?_; rintro e' wf ⟨rfl,rfl⟩)
    | (go_at_call 128; refine (uJ p _ aB aD aA ay i bR ar.len bf bs bt bc h.nm (HP.o.same hB) (HK.o _ hB)).mono ?_; rintro e' w1 ⟨rfl,hb⟩; replace hB:=hB.trans (hb.mono hB.size); clear hb)
    | (first
       | (go_at_call 124; refine (lG p _ aB aD aA ay i bR ar.len bf bs bt bc h.nm [_] _ 1 hi (by decide) (HP.o.same (hB.alloc hB.size _)) (jh _ _ _) (HK.o _ (hB.alloc hB.size _))).mono ?_)
       | (go_at_call 126; refine (mI p _ aB aD aA ay i bR bf bs bt bc ar [_] _ 1 (by decide) (jh _ _ _) jA.o (kG.o.same (hB.alloc hB.size _)) (HK.o _ (hB.alloc hB.size _))).mono ?_)
       | (go_at_call 127; refine (ql p _ aB aD aA ay i bR bf bs bt bc ar _ [_] _ 1 (by decide) (jh _ _ _) jA.o (kG.o.same (hB.alloc hB.size _)) (HK.o _ (hB.alloc hB.size _))).mono ?_)
       rintro e' w1 ⟨rfl,hb⟩;replace hB:=(hB.alloc hB.size _).trans (hb.mono (hB.alloc hB.size _).size);clear hb)
   go_wp2_with fail;go_ret;exact ⟨bF (by first | exact HR.o | exact HR.o.symm | (rw [<- HR.o]; first | rfl | simp_all)),by first | exact (HX.o.next hB).1 | exact (HX.o.next (hB.alloc hB.size _)).1⟩
 ·rcases hop with hop | hop
  all_goals
   first | obtain ⟨g1,g2,g3,g4,g5,g6,g7,g8,g9,g10,g11,g12,g13,g14,g15⟩:=op5 hop | obtain ⟨g1,g2,g3,g4,g5,g6,g7,g8,g9,g10,g11,g12,g13,g14,g15⟩:=op6 hop
   clear hop;cases hq:eY ar [7] <;> cases hq2:sK ar h.nm [5,6]
  all_goals
   repeat
    go_wp2_with fail
    first
    | (go_at_call 125; refine (nO _ _).mono ?_; rintro e' wn ⟨rfl,rfl⟩)
    | (go_at_call 123; refine (lg [_,_] _ _ 2 (by simp [maxLen]) (mX _ _ _ _)).mono ?_; rintro e' wf ⟨rfl,rfl⟩)
    | (go_at_call 128; refine (uJ p _ aB aD aA ay i bR ar.len bf bs bt bc h.nm (HP.o.same hB) (HK.o _ hB)).mono ?_; rintro e' w1 ⟨rfl,hb⟩; replace hB:=hB.trans (hb.mono hB.size); clear hb)
    | (first
       | (go_at_call 124; refine (lG p _ aB aD aA ay i bR ar.len bf bs bt bc h.nm [_] _ 1 hi (by decide) (HP.o.same (hB.alloc hB.size _)) (jh _ _ _) (HK.o _ (hB.alloc hB.size _))).mono ?_)
       | (go_at_call 126; refine (mI p _ aB aD aA ay i bR bf bs bt bc ar [_] _ 1 (by decide) (jh _ _ _) jA.o (kG.o.same (hB.alloc hB.size _)) (HK.o _ (hB.alloc hB.size _))).mono ?_)
       | (go_at_call 127; refine (ql p _ aB aD aA ay i bR bf bs bt bc ar _ [_,_] _ 2 (by decide) (mX _ _ _ _) jA.o (kG.o.same (hB.alloc hB.size _)) (HK.o _ (hB.alloc hB.size _))).mono ?_)
       rintro e' w1 ⟨rfl,hb⟩;replace hB:=(hB.alloc hB.size _).trans (hb.mono (hB.alloc hB.size _).size);clear hb)
   go_wp2_with fail;go_ret;exact ⟨bF (by first | exact HR.o | exact HR.o.symm | (rw [<- HR.o]; first | rfl | simp_all)),by first | exact (HX.o.next hB).1 | exact (HX.o.next (hB.alloc hB.size _)).1⟩
 ·obtain ⟨g1,g2,g3,g4,g5,g6,g7,g8,g9,g10,g11,g12,g13,g14,g15⟩:=op7 hop;clear hop
  repeat
   go_wp2_with fail
   first
   | (go_at_call 125; refine (nO _ _).mono ?_; rintro e' wn ⟨rfl,rfl⟩)
   | (go_at_call 123; refine (lg [_,_] _ _ 2 (by simp [maxLen]) (mX _ _ _ _)).mono ?_; rintro e' wf ⟨rfl,rfl⟩)
   | (go_at_call 128; refine (uJ p _ aB aD aA ay i bR ar.len bf bs bt bc h.nm (HP.o.same hB) (HK.o _ hB)).mono ?_; rintro e' w1 ⟨rfl,hb⟩; replace hB:=hB.trans (hb.mono hB.size); clear hb)
   | (first
      | (go_at_call 124; refine (lG p _ aB aD aA ay i bR ar.len bf bs bt bc h.nm [_] _ 1 hi (by decide) (HP.o.same (hB.alloc hB.size _)) (jh _ _ _) (HK.o _ (hB.alloc hB.size _))).mono ?_)
      | (go_at_call 126; refine (mI p _ aB aD aA ay i bR bf bs bt bc ar [_] _ 1 (by decide) (jh _ _ _) jA.o (kG.o.same (hB.alloc hB.size _)) (HK.o _ (hB.alloc hB.size _))).mono ?_)
      | (go_at_call 127; refine (ql p _ aB aD aA ay i bR bf bs bt bc ar _ [_] _ 1 (by decide) (jh _ _ _) jA.o (kG.o.same (hB.alloc hB.size _)) (HK.o _ (hB.alloc hB.size _))).mono ?_)
      rintro e' w1 ⟨rfl,hb⟩;replace hB:=(hB.alloc hB.size _).trans (hb.mono (hB.alloc hB.size _).size);clear hb)
  go_wp2_with fail;go_ret;exact ⟨bF (by first | exact HR.o | exact HR.o.symm | (rw [<- HR.o]; first | rfl | simp_all)),by first | exact (HX.o.next hB).1 | exact (HX.o.next (hB.alloc hB.size _)).1⟩
 ·obtain ⟨g1,g2,g3,g4,g5,g6,g7,g8,g9,g10,g11,g12,g13,g14,g15⟩:=op8 hop;clear hop
  repeat
   go_wp2_with fail
   first
   | (go_at_call 125; refine (nO _ _).mono ?_; rintro e' wn ⟨rfl,rfl⟩)
   | (go_at_call 123; refine (lg [_,_] _ _ 2 (by simp [maxLen]) (mX _ _ _ _)).mono ?_; rintro e' wf ⟨rfl,rfl⟩)
   | (go_at_call 128; refine (uJ p _ aB aD aA ay i bR ar.len bf bs bt bc h.nm (HP.o.same hB) (HK.o _ hB)).mono ?_; rintro e' w1 ⟨rfl,hb⟩; replace hB:=hB.trans (hb.mono hB.size); clear hb)
   | (first
      | (go_at_call 124; refine (lG p _ aB aD aA ay i bR ar.len bf bs bt bc h.nm [_] _ 1 hi (by decide) (HP.o.same (hB.alloc hB.size _)) (jh _ _ _) (HK.o _ (hB.alloc hB.size _))).mono ?_)
      | (go_at_call 126; refine (mI p _ aB aD aA ay i bR bf bs bt bc ar [_,_] _ 2 (by decide) (mX _ _ _ _) jA.o (kG.o.same (hB.alloc hB.size _)) (HK.o _ (hB.alloc hB.size _))).mono ?_)
      | (go_at_call 127; refine (ql p _ aB aD aA ay i bR bf bs bt bc ar _ [_] _ 1 (by decide) (jh _ _ _) jA.o (kG.o.same (hB.alloc hB.size _)) (HK.o _ (hB.alloc hB.size _))).mono ?_)
      rintro e' w1 ⟨rfl,hb⟩;replace hB:=(hB.alloc hB.size _).trans (hb.mono (hB.alloc hB.size _).size);clear hb)
  go_wp2_with fail;go_ret;exact ⟨bF (by first | exact HR.o | exact HR.o.symm | (rw [<- HR.o]; first | rfl | simp_all)),by first | exact (HX.o.next hB).1 | exact (HX.o.next (hB.alloc hB.size _)).1⟩
 ·rcases hop with hop | hop | hop
  all_goals
   first | obtain ⟨g1,g2,g3,g4,g5,g6,g7,g8,g9,g10,g11,g12,g13,g14,g15⟩:=op9 hop | obtain ⟨g1,g2,g3,g4,g5,g6,g7,g8,g9,g10,g11,g12,g13,g14,g15⟩:=VB hop | obtain ⟨g1,g2,g3,g4,g5,g6,g7,g8,g9,g10,g11,g12,g13,g14,g15⟩:=VD hop
   clear hop;cases hq:eY ar [7] <;> cases hq2:sK ar (qm p.ds h.nm) [4] <;> cases hq3:eY ar [8]
  all_goals
   repeat
    go_wp2_with fail
    first
    | (go_at_call 125; refine (nO _ _).mono ?_; rintro e' wn ⟨rfl,rfl⟩)
    | (go_at_call 123; refine (lg [_,_] _ _ 2 (by simp [maxLen]) (mX _ _ _ _)).mono ?_; rintro e' wf ⟨rfl,rfl⟩)
    | (go_at_call 128; refine (uJ p _ aB aD aA ay i bR ar.len bf bs bt bc h.nm (HP.o.same hB) (HK.o _ hB)).mono ?_; rintro e' w1 ⟨rfl,hb⟩; replace hB:=hB.trans (hb.mono hB.size); clear hb)
    | (first
       | (go_at_call 124; refine (lG p _ aB aD aA ay i bR ar.len bf bs bt bc h.nm [_] _ 1 hi (by decide) (HP.o.same (hB.alloc hB.size _)) (jh _ _ _) (HK.o _ (hB.alloc hB.size _))).mono ?_)
       | (go_at_call 126; refine (mI p _ aB aD aA ay i bR bf bs bt bc ar [_] _ 1 (by decide) (jh _ _ _) jA.o (kG.o.same (hB.alloc hB.size _)) (HK.o _ (hB.alloc hB.size _))).mono ?_)
       | (go_at_call 127; refine (ql p _ aB aD aA ay i bR bf bs bt bc ar _ [_] _ 1 (by decide) (jh _ _ _) jA.o (kG.o.same (hB.alloc hB.size _)) (HK.o _ (hB.alloc hB.size _))).mono ?_)
       rintro e' w1 ⟨rfl,hb⟩;replace hB:=(hB.alloc hB.size _).trans (hb.mono (hB.alloc hB.size _).size);clear hb)
   go_wp2_with fail;go_ret;exact ⟨bF (by first | exact HR.o | exact HR.o.symm | (rw [<- HR.o]; first | rfl | simp_all)),by first | exact (HX.o.next hB).1 | exact (HX.o.next (hB.alloc hB.size _)).1⟩
 ·obtain ⟨g1,g2,g3,g4,g5,g6,g7,g8,g9,g10,g11,g12,g13,g14,g15⟩:=VH hop;clear hop;go_upto_region 27 with fail;refine tJ (fun w'=>Below W.heap.size W w') (fun w w'=>Below w.heap.size w w') [193,194,195,196,197,198,199,200,201,202,203,204,205,206,207,208,4] (by kernel_rfl) (by kernel_rfl) (fun _=>Below.refl _ _) (by rfl) (below_drewN (Below.refl _ _) 1) ?_
  iterate 3
   apply eO.step
   case aM=>intro β A w' hβ hC hO hD;have e0:=hO 0 (by rfl);have e3:=hO 3 (by rfl);simp [Act.eval] at e0 e3;simp [Act.eval] at hD;simp [go_sem,gd,Oper.wp,e0,e3,hD,L2,hC];exact aG.mk (Below.refl _ _) hC (bH.mk _ _)
  refine eO.some (fun v w'=> ∃b,v= .slice (some ⟨b,0,none⟩) 1 1∧fM w' w'.heap.size [1] (some ⟨b,0,none⟩) 0) ?_ ?_ ?_
  ·rintro v w w' hle ⟨b,rfl,hin⟩;exact ⟨b,rfl,hin.same hle⟩
  ·intro β A w' hβ hC hO hD;simp [go_sem,gd,Oper.wp];exact aG.mk (d:=_) (v:= .slice (some ⟨_,0,none⟩) 1 1) (ak _ _) (hC.trans ((ak _ _).mono hC.size)) ⟨_,rfl,jh _ 1 _⟩
  apply eO.step
  case aM=>intro β A w' hβ hC hO hD;simp [Act.eval] at hD;obtain ⟨bd7,bd8,bs2,bd9,aC2⟩:=hD;simp [go_sem,gd,Oper.wp,bd7,bd8,bd9];refine (lG p w' aB aD aA ay _ bR _ bf bs bt bc h.nm [1] _ 1 hi (by decide) (HP.o.same hC) aC2 (HK.o _ hC)).mono ?_;rintro e' w2 ⟨rfl,hb⟩;exact aG.mk hb (hC.trans (hb.mono hC.size)) (bH.mk _ _)
  iterate 3
   apply eO.step
   case aM=>intro β A w' hβ hC hO hD;have e0:=hO 0 (by rfl);have e3:=hO 3 (by rfl);simp [Act.eval] at e0 e3;simp [Act.eval] at hD;simp [go_sem,gd,Oper.wp,e0,e3,hD,L3,hC];exact aG.mk (Below.refl _ _) hC (bH.mk _ _)
  refine eO.some (fun v w'=> ∃b,v= .slice (some ⟨b,0,none⟩) 1 1∧fM w' w'.heap.size [7] (some ⟨b,0,none⟩) 0) ?_ ?_ ?_
  ·rintro v w w' hle ⟨b,rfl,hin⟩;exact ⟨b,rfl,hin.same hle⟩
  ·intro β A w' hβ hC hO hD;simp [go_sem,gd,Oper.wp];exact aG.mk (d:=_) (v:= .slice (some ⟨_,0,none⟩) 1 1) (ak _ _) (hC.trans ((ak _ _).mono hC.size)) ⟨_,rfl,jh _ 7 _⟩
  apply eO.step
  case aM=>intro β A w' hβ hC hO hD;simp [Act.eval] at hD;obtain ⟨be0,be1,⟨bs3,be2,aC3⟩,-⟩:=hD;simp [go_sem,gd,Oper.wp,be0,be1,be2];refine (lG p w' aB aD aA ay _ bR _ bf bs bt bc h.arg [7] _ 1 hi (by decide) (HP.o.same hC) aC3 (HK.o _ hC)).mono ?_;rintro e' w2 ⟨rfl,hb⟩;exact aG.mk hb (hC.trans (hb.mono hC.size)) (bH.mk _ _)
  apply eO.step
  case aM=>intro β A w' hβ hC hO hD;have e0:=hO 0 (by rfl);have e3:=hO 3 (by rfl);simp [Act.eval] at e0 e3;simp [Act.eval] at hD;simp [go_sem,gd,Oper.wp,e0,e3,hD];exact aG.mk (Below.refl _ _) hC (bH.mk _ _)
  refine eO.some (fun v w'=> ∃b,v= .slice (some ⟨b,0,none⟩) 1 1∧fM w' w'.heap.size [7] (some ⟨b,0,none⟩) 0) ?_ ?_ ?_
  ·rintro v w w' hle ⟨b,rfl,hin⟩;exact ⟨b,rfl,hin.same hle⟩
  ·intro β A w' hβ hC hO hD;simp [go_sem,gd,Oper.wp];exact aG.mk (d:=_) (v:= .slice (some ⟨_,0,none⟩) 1 1) (ak _ _) (hC.trans ((ak _ _).mono hC.size)) ⟨_,rfl,jh _ 7 _⟩
  apply eO.step
  case aM=>intro β A w' hβ hC hO hD;simp [Act.eval] at hD;obtain ⟨be3,⟨bs4,be4,aC4⟩,-⟩:=hD;simp [go_sem,gd,Oper.wp,be3,be4];refine (mI p w' aB aD aA ay _ bR bf bs bt bc ar [7] _ 1 (by decide) aC4 jA.o (kG.o.same hC) (HK.o _ hC)).mono ?_;rintro e' w2 ⟨rfl,hb⟩;exact aG.mk hb (hC.trans (hb.mono hC.size)) (bH.mk _ _)
  apply eO.step
  case aM=>intro β A w' hβ hC hO hD;simp [Act.eval] at hD;simp [go_sem,gd,Oper.wp,hD];refine (nO (eY ar [7]) w').mono ?_;rintro e' w2 ⟨rfl,rfl⟩;exact aG.mk (Below.refl _ _) hC (bH.mk _ _)
  refine eO.some (fun v w'=> ∃b,v= .slice (some ⟨b,0,none⟩) 3 3∧fM w' w'.heap.size [cB (mean p i h.nm) [1],cB (mean p i h.arg) [7],nest (eY ar [7])] (some ⟨b,0,none⟩) 0) ?_ ?_ ?_
  ·rintro v w w' hle ⟨b,rfl,hin⟩;exact ⟨b,rfl,hin.same hle⟩
  ·intro β A w' hβ hC hO hD;simp [Act.eval] at hD;simp [go_sem,gd,Oper.wp,hD];exact aG.mk (d:=_) (v:= .slice (some ⟨_,0,none⟩) 3 3) (ak _ _) (hC.trans ((ak _ _).mono hC.size)) ⟨_,rfl,BP _ _ _ _ _⟩
  apply eO.step
  case aM=>intro β A w' hβ hC hO hD;simp [Act.eval] at hD;obtain ⟨⟨bs5,be5,aC5⟩,-⟩:=hD;simp [go_sem,gd,Oper.wp,be5];refine (lg [cB (mean p i h.nm) [1],cB (mean p i h.arg) [7],nest (eY ar [7])] w' _ _ (by simp [maxLen]) aC5).mono ?_;rintro e' w2 ⟨rfl,rfl⟩;exact aG.mk (Below.refl _ _) hC (bH.mk _ _)
  apply eO.step
  case aM=>intro β A w' hβ hC hO hD;have e0:=hO 0 (by rfl);have e3:=hO 3 (by rfl);simp [Act.eval] at e0 e3;simp [Act.eval] at hD;simp [go_sem,gd,Oper.wp,e0,e3,hD];exact aG.mk (Below.refl _ _) hC (bH.mk _ _)
  intro wz bC;intro v0 h0 v1 h1 v2 h2 v3 h3 v4 h4 v5 h5 v6 h6 v7 h7 v8 h8 v9 h9 v10 h10 v11 h11 v12 h12 v13 zl v14 uY v15 zO v16 h16;have hl':v16=_:=h16;subst hl';clear h0 h1 h2 h3 h4 h5 h6 h7 h8 h9 h10 h11 h12 zl uY zO h16;refine dJ.nil ?_;go_wp2_with fail;go_ret;exact ⟨bF (by first | exact HR.o | exact HR.o.symm | (rw [<- HR.o]; first | rfl | simp_all)),(HX.o.next bC).1⟩
 ·obtain ⟨g1,g2,g3,g4,g5,g6,g7,g8,g9,g10,g11,g12,g13,g14,g15⟩:=VF hop;clear hop;go_upto_region 23 with fail;cases hq:eY ar [7,8]
  ·refine tJ (fun w'=>Below W.heap.size W w') (fun w w'=>Below w.heap.size w w') [149,150,151,152,153,154,155,156,157,158,159,160,161,162,163,164,165,166,4] (by kernel_rfl) (by kernel_rfl) (fun _=>Below.refl _ _) (by rfl) (below_drewN (Below.refl _ _) 1) ?_
   iterate 3
    apply eO.step
    case aM=>intro β A w' hβ hC hO hD;have e0:=hO 0 (by rfl);have e3:=hO 3 (by rfl);simp [Act.eval] at e0 e3;simp [Act.eval] at hD;simp [go_sem,gd,Oper.wp,e0,e3,hD,L2,hC];exact aG.mk (Below.refl _ _) hC (bH.mk _ _)
   refine eO.some (fun v w'=> ∃b,v= .slice (some ⟨b,0,none⟩) 1 1∧fM w' w'.heap.size [8] (some ⟨b,0,none⟩) 0) ?_ ?_ ?_
   ·rintro v w w' hle ⟨b,rfl,hin⟩;exact ⟨b,rfl,hin.same hle⟩
   ·intro β A w' hβ hC hO hD;simp [go_sem,gd,Oper.wp];exact aG.mk (d:=_) (v:= .slice (some ⟨_,0,none⟩) 1 1) (ak _ _) (hC.trans ((ak _ _).mono hC.size)) ⟨_,rfl,jh _ 8 _⟩
   apply eO.step
   case aM=>intro β A w' hβ hC hO hD;simp [Act.eval] at hD;obtain ⟨Zl,Zm,bb8,Zn,QG⟩:=hD;simp [go_sem,gd,Oper.wp,Zl,Zm,Zn];refine (lG p w' aB aD aA ay _ bR _ bf bs bt bc h.nm [8] _ 1 hi (by decide) (HP.o.same hC) QG (HK.o _ hC)).mono ?_;rintro e' w2 ⟨rfl,hb⟩;exact aG.mk hb (hC.trans (hb.mono hC.size)) (bH.mk _ _)
   apply eO.step
   case aM=>intro β A w' hβ hC hO hD;have e0:=hO 0 (by rfl);have e3:=hO 3 (by rfl);simp [Act.eval] at e0 e3;simp [Act.eval] at hD;simp [go_sem,gd,Oper.wp,e0,e3,hD];exact aG.mk (Below.refl _ _) hC (bH.mk _ _)
   refine eO.some (fun v w'=> ∃b,v= .slice (some ⟨b,0,none⟩) 2 2∧fM w' w'.heap.size [7,8] (some ⟨b,0,none⟩) 0) ?_ ?_ ?_
   ·rintro v w w' hle ⟨b,rfl,hin⟩;exact ⟨b,rfl,hin.same hle⟩
   ·intro β A w' hβ hC hO hD;simp [go_sem,gd,Oper.wp];exact aG.mk (d:=_) (v:= .slice (some ⟨_,0,none⟩) 2 2) (ak _ _) (hC.trans ((ak _ _).mono hC.size)) ⟨_,rfl,mX _ 7 8 _⟩
   apply eO.step
   case aM=>intro β A w' hβ hC hO hD;simp [Act.eval] at hD;obtain ⟨Zo,⟨bb9,Zp,QH⟩,-⟩:=hD;simp [go_sem,gd,Oper.wp,Zo,Zp];refine (hq ▸ mI p w' aB aD aA ay (j:Int) bR bf bs bt bc ar [7,8] _ 2 (by decide) QH jA.o (kG.o.same hC) (HK.o _ hC)).mono ?_;rintro e' w2 ⟨rfl,hb⟩;exact aG.mk hb (hC.trans (hb.mono hC.size)) (bH.mk _ _)
   iterate 4
    apply eO.step
    case aM=>intro β A w' hβ hC hO hD;have e0:=hO 0 (by rfl);have e3:=hO 3 (by rfl);simp [Act.eval] at e0 e3;simp [Act.eval] at hD;simp [go_sem,gd,Oper.wp,e0,e3,hD,L2,hC];exact aG.mk (Below.refl _ _) hC (bH.mk _ _)
   apply eO.step
   case aM=>intro β A w' hβ hC hO hD;simp [Act.eval] at hD;simp [go_sem,gd,Oper.wp,hD];refine (O4 p w' aB aD aA ay bR ar.len bf bs bt bc j t r hd (HP.o.same hC) (HK.o _ hC)).mono ?_;rintro e' w2 ⟨rfl,hb⟩;exact aG.mk hb (hC.trans (hb.mono hC.size)) (bH.mk _ _)
   iterate 2
    apply eO.step
    case aM=>intro β A w' hβ hC hO hD;have e0:=hO 0 (by rfl);have e3:=hO 3 (by rfl);simp [Act.eval] at e0 e3;simp [Act.eval] at hD;simp [go_sem,gd,Oper.wp,e0,e3,hD];exact aG.mk (Below.refl _ _) hC (bH.mk _ _)
   apply eO.step
   case aM=>intro β A w' hβ hC hO hD;simp [Act.eval] at hD;simp [go_sem,gd,Oper.wp,hD];refine (nO (h.nm.toList == t.nm.toList) w').mono ?_;rintro e' w2 ⟨rfl,rfl⟩;exact aG.mk (Below.refl _ _) hC (bH.mk _ _)
   refine eO.some (fun v w'=> ∃b,v= .slice (some ⟨b,0,none⟩) 2 2∧fM w' w'.heap.size [cB (mean p (j:Int) h.nm) [8],nest (h.nm.toList == t.nm.toList)] (some ⟨b,0,none⟩) 0) ?_ ?_ ?_
   ·rintro v w w' hle ⟨b,rfl,hin⟩;exact ⟨b,rfl,hin.same hle⟩
   ·intro β A w' hβ hC hO hD;simp [Act.eval] at hD;simp [go_sem,gd,Oper.wp,hD];exact aG.mk (d:=_) (v:= .slice (some ⟨_,0,none⟩) 2 2) (ak _ _) (hC.trans ((ak _ _).mono hC.size)) ⟨_,rfl,mX _ _ _ _⟩
   apply eO.step
   case aM=>intro β A w' hβ hC hO hD;simp [Act.eval] at hD;obtain ⟨⟨bc4,Zq,QI⟩,-⟩:=hD;simp [go_sem,gd,Oper.wp,Zq];refine (lg [cB (mean p (j:Int) h.nm) [8],nest (h.nm.toList == t.nm.toList)] w' _ _ (by simp [maxLen]) QI).mono ?_;rintro e' w2 ⟨rfl,rfl⟩;exact aG.mk (Below.refl _ _) hC (bH.mk _ _)
   apply eO.step
   case aM=>intro β A w' hβ hC hO hD;have e0:=hO 0 (by rfl);have e3:=hO 3 (by rfl);simp [Act.eval] at e0 e3;simp [Act.eval] at hD;simp [go_sem,gd,Oper.wp,e0,e3,hD];exact aG.mk (Below.refl _ _) hC (bH.mk _ _)
   intro wz bC;intro v0 h0 v1 h1 v2 h2 v3 h3 v4 h4 v5 h5 v6 h6 v7 h7 v8 h8 v9 h9 v10 h10 v11 h11 v12 h12 v13 zl v14 uY v15 zO v16 h16 v17 Jk v18 h18;have hl':v18=_:=h18;subst hl';clear h0 h1 h2 h3 h4 h5 h6 h7 h8 h9 h10 h11 h12 zl uY zO h16 Jk h18;refine dJ.nil ?_;go_wp2_with fail;go_ret;exact ⟨bF (by first | exact HR.o | exact HR.o.symm | (rw [<- HR.o]; first | rfl | simp_all)),(HX.o.next bC).1⟩
  ·refine tJ (fun w'=>Below W.heap.size W w') (fun w w'=>Below w.heap.size w w') [149,150,151,152,153,154,155,156,157,158,159,160,161,162,163,164,165,166,4] (by kernel_rfl) (by kernel_rfl) (fun _=>Below.refl _ _) (by rfl) (below_drewN (Below.refl _ _) 1) ?_
   iterate 3
    apply eO.step
    case aM=>intro β A w' hβ hC hO hD;have e0:=hO 0 (by rfl);have e3:=hO 3 (by rfl);simp [Act.eval] at e0 e3;simp [Act.eval] at hD;simp [go_sem,gd,Oper.wp,e0,e3,hD,L2,hC];exact aG.mk (Below.refl _ _) hC (bH.mk _ _)
   refine eO.some (fun v w'=> ∃b,v= .slice (some ⟨b,0,none⟩) 1 1∧fM w' w'.heap.size [8] (some ⟨b,0,none⟩) 0) ?_ ?_ ?_
   ·rintro v w w' hle ⟨b,rfl,hin⟩;exact ⟨b,rfl,hin.same hle⟩
   ·intro β A w' hβ hC hO hD;simp [go_sem,gd,Oper.wp];exact aG.mk (d:=_) (v:= .slice (some ⟨_,0,none⟩) 1 1) (ak _ _) (hC.trans ((ak _ _).mono hC.size)) ⟨_,rfl,jh _ 8 _⟩
   apply eO.step
   case aM=>intro β A w' hβ hC hO hD;simp [Act.eval] at hD;obtain ⟨Zl,Zm,bb8,Zn,QG⟩:=hD;simp [go_sem,gd,Oper.wp,Zl,Zm,Zn];refine (lG p w' aB aD aA ay _ bR _ bf bs bt bc h.nm [8] _ 1 hi (by decide) (HP.o.same hC) QG (HK.o _ hC)).mono ?_;rintro e' w2 ⟨rfl,hb⟩;exact aG.mk hb (hC.trans (hb.mono hC.size)) (bH.mk _ _)
   apply eO.step
   case aM=>intro β A w' hβ hC hO hD;have e0:=hO 0 (by rfl);have e3:=hO 3 (by rfl);simp [Act.eval] at e0 e3;simp [Act.eval] at hD;simp [go_sem,gd,Oper.wp,e0,e3,hD];exact aG.mk (Below.refl _ _) hC (bH.mk _ _)
   refine eO.some (fun v w'=> ∃b,v= .slice (some ⟨b,0,none⟩) 2 2∧fM w' w'.heap.size [7,8] (some ⟨b,0,none⟩) 0) ?_ ?_ ?_
   ·rintro v w w' hle ⟨b,rfl,hin⟩;exact ⟨b,rfl,hin.same hle⟩
   ·intro β A w' hβ hC hO hD;simp [go_sem,gd,Oper.wp];exact aG.mk (d:=_) (v:= .slice (some ⟨_,0,none⟩) 2 2) (ak _ _) (hC.trans ((ak _ _).mono hC.size)) ⟨_,rfl,mX _ 7 8 _⟩
   apply eO.step
   case aM=>intro β A w' hβ hC hO hD;simp [Act.eval] at hD;obtain ⟨Zo,⟨bb9,Zp,QH⟩,-⟩:=hD;simp [go_sem,gd,Oper.wp,Zo,Zp];refine (hq ▸ mI p w' aB aD aA ay (j:Int) bR bf bs bt bc ar [7,8] _ 2 (by decide) QH jA.o (kG.o.same hC) (HK.o _ hC)).mono ?_;rintro e' w2 ⟨rfl,hb⟩;exact aG.mk hb (hC.trans (hb.mono hC.size)) (bH.mk _ _)
   apply eO.step
   case aM=>intro β A w' hβ hC hO hD;have e0:=hO 0 (by rfl);have e3:=hO 3 (by rfl);simp [Act.eval] at e0 e3;simp [Act.eval] at hD;simp [go_sem,gd,Oper.wp,e0,e3,hD];exact aG.mk (Below.refl _ _) hC (bH.mk _ _)
   iterate 5
    refine eO.step (v:=undef) ?_ ?_
    ·intro β A w' hβ hC hO hD;simp [Act.eval] at hD;simp [gd,Act.eval,hD]
     first | done | exact bH.mk _ _ | exact ⟨by rfl,bH.mk _ _⟩
   apply eO.step
   case aM=>intro β A w' hβ hC hO hD;have e0:=hO 0 (by rfl);have e3:=hO 3 (by rfl);simp [Act.eval] at e0 e3;simp [Act.eval] at hD;simp [go_sem,gd,Oper.wp,e0,e3,hD];exact aG.mk (Below.refl _ _) hC (bH.mk _ _)
   apply eO.step
   case aM=>intro β A w' hβ hC hO hD;simp [Act.eval] at hD;simp [go_sem,gd,Oper.wp,hD];refine (nO true w').mono ?_;rintro e' w2 ⟨rfl,rfl⟩;exact aG.mk (Below.refl _ _) hC (bH.mk _ _)
   refine eO.some (fun v w'=> ∃b,v= .slice (some ⟨b,0,none⟩) 2 2∧fM w' w'.heap.size [cB (mean p (j:Int) h.nm) [8],nest true] (some ⟨b,0,none⟩) 0) ?_ ?_ ?_
   ·rintro v w w' hle ⟨b,rfl,hin⟩;exact ⟨b,rfl,hin.same hle⟩
   ·intro β A w' hβ hC hO hD;simp [Act.eval] at hD;simp [go_sem,gd,Oper.wp,hD];exact aG.mk (d:=_) (v:= .slice (some ⟨_,0,none⟩) 2 2) (ak _ _) (hC.trans ((ak _ _).mono hC.size)) ⟨_,rfl,mX _ _ _ _⟩
   apply eO.step
   case aM=>intro β A w' hβ hC hO hD;simp [Act.eval] at hD;obtain ⟨⟨bc4,Zq,QI⟩,-⟩:=hD;simp [go_sem,gd,Oper.wp,Zq];refine (lg [cB (mean p (j:Int) h.nm) [8],nest true] w' _ _ (by simp [maxLen]) QI).mono ?_;rintro e' w2 ⟨rfl,rfl⟩;exact aG.mk (Below.refl _ _) hC (bH.mk _ _)
   apply eO.step
   case aM=>intro β A w' hβ hC hO hD;have e0:=hO 0 (by rfl);have e3:=hO 3 (by rfl);simp [Act.eval] at e0 e3;simp [Act.eval] at hD;simp [go_sem,gd,Oper.wp,e0,e3,hD];exact aG.mk (Below.refl _ _) hC (bH.mk _ _)
   intro wz bC;intro v0 h0 v1 h1 v2 h2 v3 h3 v4 h4 v5 h5 v6 h6 v7 h7 v8 h8 v9 h9 v10 h10 v11 h11 v12 h12 v13 zl v14 uY v15 zO v16 h16 v17 Jk v18 h18;have hl':v18=_:=h18;subst hl';clear h0 h1 h2 h3 h4 h5 h6 h7 h8 h9 h10 h11 h12 zl uY zO h16 Jk h18;refine dJ.nil ?_;go_wp2_with fail;go_ret;exact ⟨bF (by first | exact HR.o | exact HR.o.symm | (rw [<- HR.o]; first | rfl | simp_all)),(HX.o.next bC).1⟩
end
end Go.Proofs.YtfbbaiejbjdfbaaGreatDoor
