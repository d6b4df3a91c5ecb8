/-
  Contract of the checker's statement at an operator that is none.
  Contract of the checker's statement, operator by operator.
  Contract of the checker's statement at join and get.
-/
import Derived.Test.YtdajkddgnfgijaaGreatDoorGMF
section
set_option linter.unusedSimpArgs false
set_option linter.unusedVariables false
namespace Go.Proofs.YtdajkddgnfgijaaGreatDoor
open Go.RowKit
open Md
section
variable (p:Pr) (w:World) (aK aM:Option Addr) (aG aH:Nat) (i:Int) (bn:Option Addr) (aV bs bt bc:Nat)
set_option maxHeartbeats 4000000 in
set_option maxRecDepth 100000 in
theorem Ub (h:aX) (b e ar:aP) (s:Sl) (hi:dR i) (hp:p.At w aK aM) (hin:pK w h b e s) (dI:dw w) (har:ar.len≤maxLen) (hat:ar.At w w.heap.size bn 0) (hh:Holds w (gW bc p aK aM aG aH i bn ar.len aV bs bt)) (hop:h.op < 1∨15 < h.op):
 Calls Tryz.prog 151 #[.pointer (some ⟨bc,0,none⟩),cO h b e s] w fun e' w'=>e'= .returned (.int .i64 (0))∧Below w.heap.size w w':=by
 have HH:=Lib.hid (show Sit w w _ from ⟨Below.refl _ _,hh⟩)
 obtain ⟨dZ,dG,dH,bR,bV,bC,eB,dK⟩:=s
 have hxk:=hin.1.2.2.2.2.2.1
 have hns:=hin.1.2.2.1
 generalize hres:0=res
 have HR:=Lib.hid hres
 have bY:=Lib.hid hop
 have yD:=Lib.hid hin
 clear hres hop
 unfold cO
 dsimp only
 go_enter Tryz.func151,Tryz.ntmps151
 go_upto_region 1 with fail
 generalize hW:World.alloc w _=W
 generalize Value.agg #[_,_,_,_,_,_,_,_,_,_,_]=a0
 have HX:Hid (Sit w W (ow w.heap.size h b e ⟨dZ,dG,dH,bR,bV,bC,eB,dK⟩ (gW bc p aK aM aG aH i bn ar.len aV bs bt))):=Lib.hid (by rw [← hW]; exact HH.out.lU rfl _ _ _ _ _ _ _ _ _ _ _ _)
 clear hW HH
 have HP:=Lib.hid (hp.same HX.out.1)
 have gU:=Lib.hid (dI.same HX.out.1)
 have uJ:=Lib.hid (hin.2.2.1.same HX.out.1)
 have jk:=Lib.hid (hat.same HX.out.1)
 have iZ:=Lib.hid har
 have HK:Hid (∀w',Below W.heap.size W w'→Holds w' (gW bc p aK aM aG aH i bn ar.len aV bs bt)):=Lib.hid (fun w' hb=>(HX.out.next hb).2.2.2.2.2.2.2.2.2.2.2.2)
 clear hp dI hh hin hat har
 have L0: ∀w',Below W.heap.size W w'→w'.cell? ⟨w.heap.size,0,none⟩=some (.int .i64 h.op):=fun w' hb=>(HX.out.next hb).2.1.2
 have L2: ∀w',Below W.heap.size W w'→w'.cell? ⟨w.heap.size,2,none⟩=some (.string h.nm):=fun w' hb=>(HX.out.next hb).2.2.2.1.2
 have L3: ∀w',Below W.heap.size W w'→w'.cell? ⟨w.heap.size,3,none⟩=some (.string h.arg):=fun w' hb=>(HX.out.next hb).2.2.2.2.1.2
 have L5: ∀w',Below W.heap.size W w'→w'.cell? ⟨w.heap.size,5,none⟩=some (.int .i64 h.dN):=fun w' hb=>(HX.out.next hb).2.2.2.2.2.2.1.2
 have L6: ∀w',Below W.heap.size W w'→w'.cell? ⟨w.heap.size,6,none⟩=some (.int .i64 h.xn):=fun w' hb=>(HX.out.next hb).2.2.2.2.2.2.2.1.2
 have L7: ∀w',Below W.heap.size W w'→w'.cell? ⟨w.heap.size,7,none⟩=some (.string h.dM):=fun w' hb=>(HX.out.next hb).2.2.2.2.2.2.2.2.1.2
 have L8: ∀w',Below W.heap.size W w'→w'.cell? ⟨w.heap.size,8,none⟩=some (.slice dH h.aR.len bR):=fun w' hb=>(HX.out.next hb).2.2.2.2.2.2.2.2.2.1.2
 have hB0:Below W.heap.size W W:=Below.refl _ _
 have l0:=L0 W hB0
 have hop:=bY.out
 have g1:(h.op == 1)=false:=by rw [beq_eq_false_iff_ne]; omega
 have g2:(h.op == 2)=false:=by rw [beq_eq_false_iff_ne]; omega
 have g3:(h.op == 3)=false:=by rw [beq_eq_false_iff_ne]; omega
 have g4:(h.op == 4)=false:=by rw [beq_eq_false_iff_ne]; omega
 have g5:(h.op == 5)=false:=by rw [beq_eq_false_iff_ne]; omega
 have g6:(h.op == 6)=false:=by rw [beq_eq_false_iff_ne]; omega
 have g7:(h.op == 7)=false:=by rw [beq_eq_false_iff_ne]; omega
 have g8:(h.op == 8)=false:=by rw [beq_eq_false_iff_ne]; omega
 have g9:(h.op == 9)=false:=by rw [beq_eq_false_iff_ne]; omega
 have g10:(h.op == 10)=false:=by rw [beq_eq_false_iff_ne]; omega
 have g11:(h.op == 11)=false:=by rw [beq_eq_false_iff_ne]; omega
 have g12:(h.op == 12)=false:=by rw [beq_eq_false_iff_ne]; omega
 have g13:(h.op == 13)=false:=by rw [beq_eq_false_iff_ne]; omega
 have g14:(h.op == 14)=false:=by rw [beq_eq_false_iff_ne]; omega
 have g15:(h.op == 15)=false:=by rw [beq_eq_false_iff_ne]; omega
 clear hop
 go_wp2_with fail
 go_ret
 exact ⟨rfl,HX.out.1⟩
end
end Go.Proofs.YtdajkddgnfgijaaGreatDoor
end
section
set_option linter.unusedSimpArgs false
set_option linter.unusedVariables false
namespace Go.Proofs.YtdajkddgnfgijaaGreatDoor
open Go.RowKit
open Md
section
variable (p:Pr) (w:World) (aK aM:Option Addr) (aG aH:Nat) (i:Int) (bn:Option Addr) (aV bs bt bc:Nat)
set_option maxHeartbeats 4000000 in
set_option maxRecDepth 100000 in
theorem Tq (h:aX) (b e ar:aP) (s:Sl) (hi:dR i) (hp:p.At w aK aM) (hin:pK w h b e s) (dI:dw w) (har:ar.len≤maxLen) (hat:ar.At w w.heap.size bn 0) (hh:Holds w (gW bc p aK aM aG aH i bn ar.len aV bs bt)) (hop:h.op=4):
 Calls Tryz.prog 151 #[.pointer (some ⟨bc,0,none⟩),cO h b e s] w fun e' w'=>e'= .returned (.int .i64 (eP [bD (mean p i h.nm) [4],nest (eO ar [7] || lu ar h.nm [4])]))∧Below w.heap.size w w':=by
 have HH:=Lib.hid (show Sit w w _ from ⟨Below.refl _ _,hh⟩)
 obtain ⟨dZ,dG,dH,bR,bV,bC,eB,dK⟩:=s
 have hxk:=hin.1.2.2.2.2.2.1
 have hns:=hin.1.2.2.1
 generalize hres:eP [bD (mean p i h.nm) [4],nest (eO ar [7] || lu ar h.nm [4])]=res
 have HR:=Lib.hid hres
 have bY:=Lib.hid hop
 have yD:=Lib.hid hin
 clear hres hop
 unfold cO
 dsimp only
 go_enter Tryz.func151,Tryz.ntmps151
 go_upto_region 1 with fail
 generalize hW:World.alloc w _=W
 generalize Value.agg #[_,_,_,_,_,_,_,_,_,_,_]=a0
 have HX:Hid (Sit w W (ow w.heap.size h b e ⟨dZ,dG,dH,bR,bV,bC,eB,dK⟩ (gW bc p aK aM aG aH i bn ar.len aV bs bt))):=Lib.hid (by rw [← hW]; exact HH.out.lU rfl _ _ _ _ _ _ _ _ _ _ _ _)
 clear hW HH
 have HP:=Lib.hid (hp.same HX.out.1)
 have gU:=Lib.hid (dI.same HX.out.1)
 have uJ:=Lib.hid (hin.2.2.1.same HX.out.1)
 have jk:=Lib.hid (hat.same HX.out.1)
 have iZ:=Lib.hid har
 have HK:Hid (∀w',Below W.heap.size W w'→Holds w' (gW bc p aK aM aG aH i bn ar.len aV bs bt)):=Lib.hid (fun w' hb=>(HX.out.next hb).2.2.2.2.2.2.2.2.2.2.2.2)
 clear hp dI hh hin hat har
 have L0: ∀w',Below W.heap.size W w'→w'.cell? ⟨w.heap.size,0,none⟩=some (.int .i64 h.op):=fun w' hb=>(HX.out.next hb).2.1.2
 have L2: ∀w',Below W.heap.size W w'→w'.cell? ⟨w.heap.size,2,none⟩=some (.string h.nm):=fun w' hb=>(HX.out.next hb).2.2.2.1.2
 have L3: ∀w',Below W.heap.size W w'→w'.cell? ⟨w.heap.size,3,none⟩=some (.string h.arg):=fun w' hb=>(HX.out.next hb).2.2.2.2.1.2
 have L5: ∀w',Below W.heap.size W w'→w'.cell? ⟨w.heap.size,5,none⟩=some (.int .i64 h.dN):=fun w' hb=>(HX.out.next hb).2.2.2.2.2.2.1.2
 have L6: ∀w',Below W.heap.size W w'→w'.cell? ⟨w.heap.size,6,none⟩=some (.int .i64 h.xn):=fun w' hb=>(HX.out.next hb).2.2.2.2.2.2.2.1.2
 have L7: ∀w',Below W.heap.size W w'→w'.cell? ⟨w.heap.size,7,none⟩=some (.string h.dM):=fun w' hb=>(HX.out.next hb).2.2.2.2.2.2.2.2.1.2
 have L8: ∀w',Below W.heap.size W w'→w'.cell? ⟨w.heap.size,8,none⟩=some (.slice dH h.aR.len bR):=fun w' hb=>(HX.out.next hb).2.2.2.2.2.2.2.2.2.1.2
 have hB0:Below W.heap.size W W:=Below.refl _ _
 have l0:=L0 W hB0
 have hop:=bY.out
 have g1:(h.op == 1)=false:=by rw [hop]; rfl
 have g2:(h.op == 2)=false:=by rw [hop]; rfl
 have g3:(h.op == 3)=false:=by rw [hop]; rfl
 have g4:(h.op == 4)=true:=by rw [hop]; rfl
 have g5:(h.op == 5)=false:=by rw [hop]; rfl
 have g6:(h.op == 6)=false:=by rw [hop]; rfl
 have g7:(h.op == 7)=false:=by rw [hop]; rfl
 have g8:(h.op == 8)=false:=by rw [hop]; rfl
 have g9:(h.op == 9)=false:=by rw [hop]; rfl
 have g10:(h.op == 10)=false:=by rw [hop]; rfl
 have g11:(h.op == 11)=false:=by rw [hop]; rfl
 have g12:(h.op == 12)=false:=by rw [hop]; rfl
 have g13:(h.op == 13)=false:=by rw [hop]; rfl
 have g14:(h.op == 14)=false:=by rw [hop]; rfl
 have g15:(h.op == 15)=false:=by rw [hop]; rfl
 clear hop
 go_wp2_with fail
 refine (gI p _ aK aM aG aH i bn ar.len aV bs bt bc h.nm [4] _ 1 hi (by decide) (HP.out.same (hB0.alloc hB0.size _)) (eD _ 4 _) (HK.out _ (hB0.alloc hB0.size _))).mono ?_
 rintro e' w1 ⟨rfl,hb⟩
 have hB1:=(hB0.alloc hB0.size _).trans (hb.mono (hB0.alloc hB0.size _).size)
 clear hb
 go_wp2_with fail
 refine (eZ p _ aK aM aG aH i bn aV bs bt bc ar [7] _ 1 (by decide) (eD _ 7 _) iZ.out (jk.out.same (hB1.alloc hB1.size _)) (HK.out _ (hB1.alloc hB1.size _))).mono ?_
 rintro e' w2 ⟨rfl,hb⟩
 have hB2:=(hB1.alloc hB1.size _).trans (hb.mono (hB1.alloc hB1.size _).size)
 clear hb
 cases hq:eO ar [7]
 ·go_wp2_with fail
  refine (jv p _ aK aM aG aH i bn aV bs bt bc ar h.nm [4] _ 1 (by decide) (eD _ 4 _) iZ.out (jk.out.same (hB2.alloc hB2.size _)) (HK.out _ (hB2.alloc hB2.size _))).mono ?_
  rintro e' w3 ⟨rfl,hb⟩
  have hB3:=(hB2.alloc hB2.size _).trans (hb.mono (hB2.alloc hB2.size _).size)
  clear hb
  cases hq2:lu ar h.nm [4]
  ·go_wp2_with fail
   refine (dD _ _).mono ?_
   rintro e' wn ⟨rfl,rfl⟩
   go_wp2_with fail
   refine (dF [bD (mean p i h.nm) [4],nest false] _ _ 2 (by simp [maxLen]) (eu _ _ _ _)).mono ?_
   rintro e' wf ⟨rfl,rfl⟩
   have sH:=hB3.alloc hB3.size (.cells #[] 0)
   go_wp2_with fail
   go_ret
   exact ⟨bG (by first | exact HR.out | exact HR.out.symm | (rw [← HR.out]; first | rfl | simp_all)),(HX.out.next (hB3.alloc hB3.size _)).1⟩
  ·go_wp2_with fail
   refine (dD _ _).mono ?_
   rintro e' wn ⟨rfl,rfl⟩
   go_wp2_with fail
   refine (dF [bD (mean p i h.nm) [4],nest true] _ _ 2 (by simp [maxLen]) (eu _ _ _ _)).mono ?_
   rintro e' wf ⟨rfl,rfl⟩
   have sH:=hB3.alloc hB3.size (.cells #[] 0)
   go_wp2_with fail
   go_ret
   exact ⟨bG (by first | exact HR.out | exact HR.out.symm | (rw [← HR.out]; first | rfl | simp_all)),(HX.out.next (hB3.alloc hB3.size _)).1⟩
 ·go_wp2_with fail
  refine (dD _ _).mono ?_
  rintro e' wn ⟨rfl,rfl⟩
  go_wp2_with fail
  refine (dF [bD (mean p i h.nm) [4],nest true] _ _ 2 (by simp [maxLen]) (eu _ _ _ _)).mono ?_
  rintro e' wf ⟨rfl,rfl⟩
  have sH:=hB2.alloc hB2.size (.cells #[] 0)
  go_wp2_with fail
  go_ret
  exact ⟨bG (by first | exact HR.out | exact HR.out.symm | (rw [← HR.out]; first | rfl | simp_all)),(HX.out.next (hB2.alloc hB2.size _)).1⟩
set_option maxHeartbeats 4000000 in
set_option maxRecDepth 100000 in
theorem SY (h:aX) (b e ar:aP) (s:Sl) (hi:dR i) (hp:p.At w aK aM) (hin:pK w h b e s) (dI:dw w) (har:ar.len≤maxLen) (hat:ar.At w w.heap.size bn 0) (hh:Holds w (gW bc p aK aM aG aH i bn ar.len aV bs bt)) (hop:h.op=7):
 Calls Tryz.prog 151 #[.pointer (some ⟨bc,0,none⟩),cO h b e s] w fun e' w'=>e'= .returned (.int .i64 (nest (eO ar [7])))∧Below w.heap.size w w':=by
 have HH:=Lib.hid (show Sit w w _ from ⟨Below.refl _ _,hh⟩)
 obtain ⟨dZ,dG,dH,bR,bV,bC,eB,dK⟩:=s
 have hxk:=hin.1.2.2.2.2.2.1
 have hns:=hin.1.2.2.1
 generalize hres:nest (eO ar [7])=res
 have HR:=Lib.hid hres
 have bY:=Lib.hid hop
 have yD:=Lib.hid hin
 clear hres hop
 unfold cO
 dsimp only
 go_enter Tryz.func151,Tryz.ntmps151
 go_upto_region 1 with fail
 generalize hW:World.alloc w _=W
 generalize Value.agg #[_,_,_,_,_,_,_,_,_,_,_]=a0
 have HX:Hid (Sit w W (ow w.heap.size h b e ⟨dZ,dG,dH,bR,bV,bC,eB,dK⟩ (gW bc p aK aM aG aH i bn ar.len aV bs bt))):=Lib.hid (by rw [← hW]; exact HH.out.lU rfl _ _ _ _ _ _ _ _ _ _ _ _)
 clear hW HH
 have HP:=Lib.hid (hp.same HX.out.1)
 have gU:=Lib.hid (dI.same HX.out.1)
 have uJ:=Lib.hid (hin.2.2.1.same HX.out.1)
 have jk:=Lib.hid (hat.same HX.out.1)
 have iZ:=Lib.hid har
 have HK:Hid (∀w',Below W.heap.size W w'→Holds w' (gW bc p aK aM aG aH i bn ar.len aV bs bt)):=Lib.hid (fun w' hb=>(HX.out.next hb).2.2.2.2.2.2.2.2.2.2.2.2)
 clear hp dI hh hin hat har
 have L0: ∀w',Below W.heap.size W w'→w'.cell? ⟨w.heap.size,0,none⟩=some (.int .i64 h.op):=fun w' hb=>(HX.out.next hb).2.1.2
 have L2: ∀w',Below W.heap.size W w'→w'.cell? ⟨w.heap.size,2,none⟩=some (.string h.nm):=fun w' hb=>(HX.out.next hb).2.2.2.1.2
 have L3: ∀w',Below W.heap.size W w'→w'.cell? ⟨w.heap.size,3,none⟩=some (.string h.arg):=fun w' hb=>(HX.out.next hb).2.2.2.2.1.2
 have L5: ∀w',Below W.heap.size W w'→w'.cell? ⟨w.heap.size,5,none⟩=some (.int .i64 h.dN):=fun w' hb=>(HX.out.next hb).2.2.2.2.2.2.1.2
 have L6: ∀w',Below W.heap.size W w'→w'.cell? ⟨w.heap.size,6,none⟩=some (.int .i64 h.xn):=fun w' hb=>(HX.out.next hb).2.2.2.2.2.2.2.1.2
 have L7: ∀w',Below W.heap.size W w'→w'.cell? ⟨w.heap.size,7,none⟩=some (.string h.dM):=fun w' hb=>(HX.out.next hb).2.2.2.2.2.2.2.2.1.2
 have L8: ∀w',Below W.heap.size W w'→w'.cell? ⟨w.heap.size,8,none⟩=some (.slice dH h.aR.len bR):=fun w' hb=>(HX.out.next hb).2.2.2.2.2.2.2.2.2.1.2
 have hB0:Below W.heap.size W W:=Below.refl _ _
 have l0:=L0 W hB0
 have hop:=bY.out
 have g1:(h.op == 1)=false:=by rw [hop]; rfl
 have g2:(h.op == 2)=false:=by rw [hop]; rfl
 have g3:(h.op == 3)=false:=by rw [hop]; rfl
 have g4:(h.op == 4)=false:=by rw [hop]; rfl
 have g5:(h.op == 5)=false:=by rw [hop]; rfl
 have g6:(h.op == 6)=false:=by rw [hop]; rfl
 have g7:(h.op == 7)=true:=by rw [hop]; rfl
 have g8:(h.op == 8)=false:=by rw [hop]; rfl
 have g9:(h.op == 9)=false:=by rw [hop]; rfl
 have g10:(h.op == 10)=false:=by rw [hop]; rfl
 have g11:(h.op == 11)=false:=by rw [hop]; rfl
 have g12:(h.op == 12)=false:=by rw [hop]; rfl
 have g13:(h.op == 13)=false:=by rw [hop]; rfl
 have g14:(h.op == 14)=false:=by rw [hop]; rfl
 have g15:(h.op == 15)=false:=by rw [hop]; rfl
 clear hop
 go_wp2_with fail
 refine (eZ p _ aK aM aG aH i bn aV bs bt bc ar [7] _ 1 (by decide) (eD _ 7 _) iZ.out (jk.out.same (hB0.alloc hB0.size _)) (HK.out _ (hB0.alloc hB0.size _))).mono ?_
 rintro e' w1 ⟨rfl,hb⟩
 have hB1:=(hB0.alloc hB0.size _).trans (hb.mono (hB0.alloc hB0.size _).size)
 clear hb
 go_wp2_with fail
 refine (dD _ _).mono ?_
 rintro e' wn ⟨rfl,rfl⟩
 go_wp2_with fail
 go_ret
 exact ⟨bG (by first | exact HR.out | exact HR.out.symm | (rw [← HR.out]; first | rfl | simp_all)),(HX.out.next hB1).1⟩
set_option maxHeartbeats 4000000 in
set_option maxRecDepth 100000 in
theorem TY (h:aX) (b e ar:aP) (s:Sl) (hi:dR i) (hp:p.At w aK aM) (hin:pK w h b e s) (dI:dw w) (har:ar.len≤maxLen) (hat:ar.At w w.heap.size bn 0) (hh:Holds w (gW bc p aK aM aG aH i bn ar.len aV bs bt)) (hop:h.op=8):
 Calls Tryz.prog 151 #[.pointer (some ⟨bc,0,none⟩),cO h b e s] w fun e' w'=>e'= .returned (.int .i64 (nest (eO ar [7,8])))∧Below w.heap.size w w':=by
 have HH:=Lib.hid (show Sit w w _ from ⟨Below.refl _ _,hh⟩)
 obtain ⟨dZ,dG,dH,bR,bV,bC,eB,dK⟩:=s
 have hxk:=hin.1.2.2.2.2.2.1
 have hns:=hin.1.2.2.1
 generalize hres:nest (eO ar [7,8])=res
 have HR:=Lib.hid hres
 have bY:=Lib.hid hop
 have yD:=Lib.hid hin
 clear hres hop
 unfold cO
 dsimp only
 go_enter Tryz.func151,Tryz.ntmps151
 go_upto_region 1 with fail
 generalize hW:World.alloc w _=W
 generalize Value.agg #[_,_,_,_,_,_,_,_,_,_,_]=a0
 have HX:Hid (Sit w W (ow w.heap.size h b e ⟨dZ,dG,dH,bR,bV,bC,eB,dK⟩ (gW bc p aK aM aG aH i bn ar.len aV bs bt))):=Lib.hid (by rw [← hW]; exact HH.out.lU rfl _ _ _ _ _ _ _ _ _ _ _ _)
 clear hW HH
 have HP:=Lib.hid (hp.same HX.out.1)
 have gU:=Lib.hid (dI.same HX.out.1)
 have uJ:=Lib.hid (hin.2.2.1.same HX.out.1)
 have jk:=Lib.hid (hat.same HX.out.1)
 have iZ:=Lib.hid har
 have HK:Hid (∀w',Below W.heap.size W w'→Holds w' (gW bc p aK aM aG aH i bn ar.len aV bs bt)):=Lib.hid (fun w' hb=>(HX.out.next hb).2.2.2.2.2.2.2.2.2.2.2.2)
 clear hp dI hh hin hat har
 have L0: ∀w',Below W.heap.size W w'→w'.cell? ⟨w.heap.size,0,none⟩=some (.int .i64 h.op):=fun w' hb=>(HX.out.next hb).2.1.2
 have L2: ∀w',Below W.heap.size W w'→w'.cell? ⟨w.heap.size,2,none⟩=some (.string h.nm):=fun w' hb=>(HX.out.next hb).2.2.2.1.2
 have L3: ∀w',Below W.heap.size W w'→w'.cell? ⟨w.heap.size,3,none⟩=some (.string h.arg):=fun w' hb=>(HX.out.next hb).2.2.2.2.1.2
 have L5: ∀w',Below W.heap.size W w'→w'.cell? ⟨w.heap.size,5,none⟩=some (.int .i64 h.dN):=fun w' hb=>(HX.out.next hb).2.2.2.2.2.2.1.2
 have L6: ∀w',Below W.heap.size W w'→w'.cell? ⟨w.heap.size,6,none⟩=some (.int .i64 h.xn):=fun w' hb=>(HX.out.next hb).2.2.2.2.2.2.2.1.2
 have L7: ∀w',Below W.heap.size W w'→w'.cell? ⟨w.heap.size,7,none⟩=some (.string h.dM):=fun w' hb=>(HX.out.next hb).2.2.2.2.2.2.2.2.1.2
 have L8: ∀w',Below W.heap.size W w'→w'.cell? ⟨w.heap.size,8,none⟩=some (.slice dH h.aR.len bR):=fun w' hb=>(HX.out.next hb).2.2.2.2.2.2.2.2.2.1.2
 have hB0:Below W.heap.size W W:=Below.refl _ _
 have l0:=L0 W hB0
 have hop:=bY.out
 have g1:(h.op == 1)=false:=by rw [hop]; rfl
 have g2:(h.op == 2)=false:=by rw [hop]; rfl
 have g3:(h.op == 3)=false:=by rw [hop]; rfl
 have g4:(h.op == 4)=false:=by rw [hop]; rfl
 have g5:(h.op == 5)=false:=by rw [hop]; rfl
 have g6:(h.op == 6)=false:=by rw [hop]; rfl
 have g7:(h.op == 7)=false:=by rw [hop]; rfl
 have g8:(h.op == 8)=true:=by rw [hop]; rfl
 have g9:(h.op == 9)=false:=by rw [hop]; rfl
 have g10:(h.op == 10)=false:=by rw [hop]; rfl
 have g11:(h.op == 11)=false:=by rw [hop]; rfl
 have g12:(h.op == 12)=false:=by rw [hop]; rfl
 have g13:(h.op == 13)=false:=by rw [hop]; rfl
 have g14:(h.op == 14)=false:=by rw [hop]; rfl
 have g15:(h.op == 15)=false:=by rw [hop]; rfl
 clear hop
 go_wp2_with fail
 refine (eZ p _ aK aM aG aH i bn aV bs bt bc ar [7,8] _ 2 (by decide) (eu _ 7 8 _) iZ.out (jk.out.same (hB0.alloc hB0.size _)) (HK.out _ (hB0.alloc hB0.size _))).mono ?_
 rintro e' w1 ⟨rfl,hb⟩
 have hB1:=(hB0.alloc hB0.size _).trans (hb.mono (hB0.alloc hB0.size _).size)
 clear hb
 go_wp2_with fail
 refine (dD _ _).mono ?_
 rintro e' wn ⟨rfl,rfl⟩
 go_wp2_with fail
 go_ret
 exact ⟨bG (by first | exact HR.out | exact HR.out.symm | (rw [← HR.out]; first | rfl | simp_all)),(HX.out.next hB1).1⟩
set_option maxHeartbeats 4000000 in
set_option maxRecDepth 100000 in
theorem OY (h:aX) (b e ar:aP) (s:Sl) (hi:dR i) (hp:p.At w aK aM) (hin:pK w h b e s) (dI:dw w) (har:ar.len≤maxLen) (hat:ar.At w w.heap.size bn 0) (hh:Holds w (gW bc p aK aM aG aH i bn ar.len aV bs bt)) (hop:h.op=5∨h.op=6):
 Calls Tryz.prog 151 #[.pointer (some ⟨bc,0,none⟩),cO h b e s] w fun e' w'=>e'= .returned (.int .i64 (eP [bD (mean p i h.nm) [5],nest (eO ar [7] || lu ar h.nm [5,6])]))∧Below w.heap.size w w':=by
 have HH:=Lib.hid (show Sit w w _ from ⟨Below.refl _ _,hh⟩)
 obtain ⟨dZ,dG,dH,bR,bV,bC,eB,dK⟩:=s
 have hxk:=hin.1.2.2.2.2.2.1
 have hns:=hin.1.2.2.1
 generalize hres:eP [bD (mean p i h.nm) [5],nest (eO ar [7] || lu ar h.nm [5,6])]=res
 have HR:=Lib.hid hres
 have bY:=Lib.hid hop
 have yD:=Lib.hid hin
 clear hres hop
 unfold cO
 dsimp only
 go_enter Tryz.func151,Tryz.ntmps151
 go_upto_region 1 with fail
 generalize hW:World.alloc w _=W
 generalize Value.agg #[_,_,_,_,_,_,_,_,_,_,_]=a0
 have HX:Hid (Sit w W (ow w.heap.size h b e ⟨dZ,dG,dH,bR,bV,bC,eB,dK⟩ (gW bc p aK aM aG aH i bn ar.len aV bs bt))):=Lib.hid (by rw [← hW]; exact HH.out.lU rfl _ _ _ _ _ _ _ _ _ _ _ _)
 clear hW HH
 have HP:=Lib.hid (hp.same HX.out.1)
 have gU:=Lib.hid (dI.same HX.out.1)
 have uJ:=Lib.hid (hin.2.2.1.same HX.out.1)
 have jk:=Lib.hid (hat.same HX.out.1)
 have iZ:=Lib.hid har
 have HK:Hid (∀w',Below W.heap.size W w'→Holds w' (gW bc p aK aM aG aH i bn ar.len aV bs bt)):=Lib.hid (fun w' hb=>(HX.out.next hb).2.2.2.2.2.2.2.2.2.2.2.2)
 clear hp dI hh hin hat har
 have L0: ∀w',Below W.heap.size W w'→w'.cell? ⟨w.heap.size,0,none⟩=some (.int .i64 h.op):=fun w' hb=>(HX.out.next hb).2.1.2
 have L2: ∀w',Below W.heap.size W w'→w'.cell? ⟨w.heap.size,2,none⟩=some (.string h.nm):=fun w' hb=>(HX.out.next hb).2.2.2.1.2
 have L3: ∀w',Below W.heap.size W w'→w'.cell? ⟨w.heap.size,3,none⟩=some (.string h.arg):=fun w' hb=>(HX.out.next hb).2.2.2.2.1.2
 have L5: ∀w',Below W.heap.size W w'→w'.cell? ⟨w.heap.size,5,none⟩=some (.int .i64 h.dN):=fun w' hb=>(HX.out.next hb).2.2.2.2.2.2.1.2
 have L6: ∀w',Below W.heap.size W w'→w'.cell? ⟨w.heap.size,6,none⟩=some (.int .i64 h.xn):=fun w' hb=>(HX.out.next hb).2.2.2.2.2.2.2.1.2
 have L7: ∀w',Below W.heap.size W w'→w'.cell? ⟨w.heap.size,7,none⟩=some (.string h.dM):=fun w' hb=>(HX.out.next hb).2.2.2.2.2.2.2.2.1.2
 have L8: ∀w',Below W.heap.size W w'→w'.cell? ⟨w.heap.size,8,none⟩=some (.slice dH h.aR.len bR):=fun w' hb=>(HX.out.next hb).2.2.2.2.2.2.2.2.2.1.2
 have hB0:Below W.heap.size W W:=Below.refl _ _
 have l0:=L0 W hB0
 have hop:=bY.out
 rcases hop with hop | hop
 ·have g1:(h.op == 1)=false:=by rw [hop]; rfl
  have g2:(h.op == 2)=false:=by rw [hop]; rfl
  have g3:(h.op == 3)=false:=by rw [hop]; rfl
  have g4:(h.op == 4)=false:=by rw [hop]; rfl
  have g5:(h.op == 5)=true:=by rw [hop]; rfl
  have g6:(h.op == 6)=false:=by rw [hop]; rfl
  have g7:(h.op == 7)=false:=by rw [hop]; rfl
  have g8:(h.op == 8)=false:=by rw [hop]; rfl
  have g9:(h.op == 9)=false:=by rw [hop]; rfl
  have g10:(h.op == 10)=false:=by rw [hop]; rfl
  have g11:(h.op == 11)=false:=by rw [hop]; rfl
  have g12:(h.op == 12)=false:=by rw [hop]; rfl
  have g13:(h.op == 13)=false:=by rw [hop]; rfl
  have g14:(h.op == 14)=false:=by rw [hop]; rfl
  have g15:(h.op == 15)=false:=by rw [hop]; rfl
  clear hop
  go_wp2_with fail
  refine (gI p _ aK aM aG aH i bn ar.len aV bs bt bc h.nm [5] _ 1 hi (by decide) (HP.out.same (hB0.alloc hB0.size _)) (eD _ 5 _) (HK.out _ (hB0.alloc hB0.size _))).mono ?_
  rintro e' w1 ⟨rfl,hb⟩
  have hB1:=(hB0.alloc hB0.size _).trans (hb.mono (hB0.alloc hB0.size _).size)
  clear hb
  go_wp2_with fail
  refine (eZ p _ aK aM aG aH i bn aV bs bt bc ar [7] _ 1 (by decide) (eD _ 7 _) iZ.out (jk.out.same (hB1.alloc hB1.size _)) (HK.out _ (hB1.alloc hB1.size _))).mono ?_
  rintro e' w2 ⟨rfl,hb⟩
  have hB2:=(hB1.alloc hB1.size _).trans (hb.mono (hB1.alloc hB1.size _).size)
  clear hb
  cases hq:eO ar [7]
  ·go_wp2_with fail
   refine (jv p _ aK aM aG aH i bn aV bs bt bc ar h.nm [5,6] _ 2 (by decide) (eu _ 5 6 _) iZ.out (jk.out.same (hB2.alloc hB2.size _)) (HK.out _ (hB2.alloc hB2.size _))).mono ?_
   rintro e' w3 ⟨rfl,hb⟩
   have hB3:=(hB2.alloc hB2.size _).trans (hb.mono (hB2.alloc hB2.size _).size)
   clear hb
   cases hq2:lu ar h.nm [5,6]
   ·go_wp2_with fail
    refine (dD _ _).mono ?_
    rintro e' wn ⟨rfl,rfl⟩
    go_wp2_with fail
    refine (dF [bD (mean p i h.nm) [5],nest false] _ _ 2 (by simp [maxLen]) (eu _ _ _ _)).mono ?_
    rintro e' wf ⟨rfl,rfl⟩
    have sH:=hB3.alloc hB3.size (.cells #[] 0)
    go_wp2_with fail
    go_ret
    exact ⟨bG (by first | exact HR.out | exact HR.out.symm | (rw [← HR.out]; first | rfl | simp_all)),(HX.out.next (hB3.alloc hB3.size _)).1⟩
   ·go_wp2_with fail
    refine (dD _ _).mono ?_
    rintro e' wn ⟨rfl,rfl⟩
    go_wp2_with fail
    refine (dF [bD (mean p i h.nm) [5],nest true] _ _ 2 (by simp [maxLen]) (eu _ _ _ _)).mono ?_
    rintro e' wf ⟨rfl,rfl⟩
    have sH:=hB3.alloc hB3.size (.cells #[] 0)
    go_wp2_with fail
    go_ret
    exact ⟨bG (by first | exact HR.out | exact HR.out.symm | (rw [← HR.out]; first | rfl | simp_all)),(HX.out.next (hB3.alloc hB3.size _)).1⟩
  ·go_wp2_with fail
   refine (dD _ _).mono ?_
   rintro e' wn ⟨rfl,rfl⟩
   go_wp2_with fail
   refine (dF [bD (mean p i h.nm) [5],nest true] _ _ 2 (by simp [maxLen]) (eu _ _ _ _)).mono ?_
   rintro e' wf ⟨rfl,rfl⟩
   have sH:=hB2.alloc hB2.size (.cells #[] 0)
   go_wp2_with fail
   go_ret
   exact ⟨bG (by first | exact HR.out | exact HR.out.symm | (rw [← HR.out]; first | rfl | simp_all)),(HX.out.next (hB2.alloc hB2.size _)).1⟩
 ·have g1:(h.op == 1)=false:=by rw [hop]; rfl
  have g2:(h.op == 2)=false:=by rw [hop]; rfl
  have g3:(h.op == 3)=false:=by rw [hop]; rfl
  have g4:(h.op == 4)=false:=by rw [hop]; rfl
  have g5:(h.op == 5)=false:=by rw [hop]; rfl
  have g6:(h.op == 6)=true:=by rw [hop]; rfl
  have g7:(h.op == 7)=false:=by rw [hop]; rfl
  have g8:(h.op == 8)=false:=by rw [hop]; rfl
  have g9:(h.op == 9)=false:=by rw [hop]; rfl
  have g10:(h.op == 10)=false:=by rw [hop]; rfl
  have g11:(h.op == 11)=false:=by rw [hop]; rfl
  have g12:(h.op == 12)=false:=by rw [hop]; rfl
  have g13:(h.op == 13)=false:=by rw [hop]; rfl
  have g14:(h.op == 14)=false:=by rw [hop]; rfl
  have g15:(h.op == 15)=false:=by rw [hop]; rfl
  clear hop
  go_wp2_with fail
  refine (gI p _ aK aM aG aH i bn ar.len aV bs bt bc h.nm [5] _ 1 hi (by decide) (HP.out.same (hB0.alloc hB0.size _)) (eD _ 5 _) (HK.out _ (hB0.alloc hB0.size _))).mono ?_
  rintro e' w1 ⟨rfl,hb⟩
  have hB1:=(hB0.alloc hB0.size _).trans (hb.mono (hB0.alloc hB0.size _).size)
  clear hb
  go_wp2_with fail
  refine (eZ p _ aK aM aG aH i bn aV bs bt bc ar [7] _ 1 (by decide) (eD _ 7 _) iZ.out (jk.out.same (hB1.alloc hB1.size _)) (HK.out _ (hB1.alloc hB1.size _))).mono ?_
  rintro e' w2 ⟨rfl,hb⟩
  have hB2:=(hB1.alloc hB1.size _).trans (hb.mono (hB1.alloc hB1.size _).size)
  clear hb
  cases hq:eO ar [7]
  ·go_wp2_with fail
   refine (jv p _ aK aM aG aH i bn aV bs bt bc ar h.nm [5,6] _ 2 (by decide) (eu _ 5 6 _) iZ.out (jk.out.same (hB2.alloc hB2.size _)) (HK.out _ (hB2.alloc hB2.size _))).mono ?_
   rintro e' w3 ⟨rfl,hb⟩
   have hB3:=(hB2.alloc hB2.size _).trans (hb.mono (hB2.alloc hB2.size _).size)
   clear hb
   cases hq2:lu ar h.nm [5,6]
   ·go_wp2_with fail
    refine (dD _ _).mono ?_
    rintro e' wn ⟨rfl,rfl⟩
    go_wp2_with fail
    refine (dF [bD (mean p i h.nm) [5],nest false] _ _ 2 (by simp [maxLen]) (eu _ _ _ _)).mono ?_
    rintro e' wf ⟨rfl,rfl⟩
    have sH:=hB3.alloc hB3.size (.cells #[] 0)
    go_wp2_with fail
    go_ret
    exact ⟨bG (by first | exact HR.out | exact HR.out.symm | (rw [← HR.out]; first | rfl | simp_all)),(HX.out.next (hB3.alloc hB3.size _)).1⟩
   ·go_wp2_with fail
    refine (dD _ _).mono ?_
    rintro e' wn ⟨rfl,rfl⟩
    go_wp2_with fail
    refine (dF [bD (mean p i h.nm) [5],nest true] _ _ 2 (by simp [maxLen]) (eu _ _ _ _)).mono ?_
    rintro e' wf ⟨rfl,rfl⟩
    have sH:=hB3.alloc hB3.size (.cells #[] 0)
    go_wp2_with fail
    go_ret
    exact ⟨bG (by first | exact HR.out | exact HR.out.symm | (rw [← HR.out]; first | rfl | simp_all)),(HX.out.next (hB3.alloc hB3.size _)).1⟩
  ·go_wp2_with fail
   refine (dD _ _).mono ?_
   rintro e' wn ⟨rfl,rfl⟩
   go_wp2_with fail
   refine (dF [bD (mean p i h.nm) [5],nest true] _ _ 2 (by simp [maxLen]) (eu _ _ _ _)).mono ?_
   rintro e' wf ⟨rfl,rfl⟩
   have sH:=hB2.alloc hB2.size (.cells #[] 0)
   go_wp2_with fail
   go_ret
   exact ⟨bG (by first | exact HR.out | exact HR.out.symm | (rw [← HR.out]; first | rfl | simp_all)),(HX.out.next (hB2.alloc hB2.size _)).1⟩
set_option maxHeartbeats 4000000 in
set_option maxRecDepth 100000 in
theorem Qa (h:aX) (b e ar:aP) (s:Sl) (hi:dR i) (hp:p.At w aK aM) (hin:pK w h b e s) (dI:dw w) (har:ar.len≤maxLen) (hat:ar.At w w.heap.size bn 0) (hh:Holds w (gW bc p aK aM aG aH i bn ar.len aV bs bt)) (hop:h.op=2∨h.op=3):
 Calls Tryz.prog 151 #[.pointer (some ⟨bc,0,none⟩),cO h b e s] w fun e' w'=>e'= .returned (.int .i64 (kU p i h.dN h.xn h.dM h.aR))∧Below w.heap.size w w':=by
 have HH:=Lib.hid (show Sit w w _ from ⟨Below.refl _ _,hh⟩)
 obtain ⟨dZ,dG,dH,bR,bV,bC,eB,dK⟩:=s
 have hxk:=hin.1.2.2.2.2.2.1
 have hns:=hin.1.2.2.1
 generalize hres:kU p i h.dN h.xn h.dM h.aR=res
 have HR:=Lib.hid hres
 have bY:=Lib.hid hop
 have yD:=Lib.hid hin
 clear hres hop
 unfold cO
 dsimp only
 go_enter Tryz.func151,Tryz.ntmps151
 go_upto_region 1 with fail
 generalize hW:World.alloc w _=W
 generalize Value.agg #[_,_,_,_,_,_,_,_,_,_,_]=a0
 have HX:Hid (Sit w W (ow w.heap.size h b e ⟨dZ,dG,dH,bR,bV,bC,eB,dK⟩ (gW bc p aK aM aG aH i bn ar.len aV bs bt))):=Lib.hid (by rw [← hW]; exact HH.out.lU rfl _ _ _ _ _ _ _ _ _ _ _ _)
 clear hW HH
 have HP:=Lib.hid (hp.same HX.out.1)
 have gU:=Lib.hid (dI.same HX.out.1)
 have uJ:=Lib.hid (hin.2.2.1.same HX.out.1)
 have jk:=Lib.hid (hat.same HX.out.1)
 have iZ:=Lib.hid har
 have HK:Hid (∀w',Below W.heap.size W w'→Holds w' (gW bc p aK aM aG aH i bn ar.len aV bs bt)):=Lib.hid (fun w' hb=>(HX.out.next hb).2.2.2.2.2.2.2.2.2.2.2.2)
 clear hp dI hh hin hat har
 have L0: ∀w',Below W.heap.size W w'→w'.cell? ⟨w.heap.size,0,none⟩=some (.int .i64 h.op):=fun w' hb=>(HX.out.next hb).2.1.2
 have L2: ∀w',Below W.heap.size W w'→w'.cell? ⟨w.heap.size,2,none⟩=some (.string h.nm):=fun w' hb=>(HX.out.next hb).2.2.2.1.2
 have L3: ∀w',Below W.heap.size W w'→w'.cell? ⟨w.heap.size,3,none⟩=some (.string h.arg):=fun w' hb=>(HX.out.next hb).2.2.2.2.1.2
 have L5: ∀w',Below W.heap.size W w'→w'.cell? ⟨w.heap.size,5,none⟩=some (.int .i64 h.dN):=fun w' hb=>(HX.out.next hb).2.2.2.2.2.2.1.2
 have L6: ∀w',Below W.heap.size W w'→w'.cell? ⟨w.heap.size,6,none⟩=some (.int .i64 h.xn):=fun w' hb=>(HX.out.next hb).2.2.2.2.2.2.2.1.2
 have L7: ∀w',Below W.heap.size W w'→w'.cell? ⟨w.heap.size,7,none⟩=some (.string h.dM):=fun w' hb=>(HX.out.next hb).2.2.2.2.2.2.2.2.1.2
 have L8: ∀w',Below W.heap.size W w'→w'.cell? ⟨w.heap.size,8,none⟩=some (.slice dH h.aR.len bR):=fun w' hb=>(HX.out.next hb).2.2.2.2.2.2.2.2.2.1.2
 have hB0:Below W.heap.size W W:=Below.refl _ _
 have l0:=L0 W hB0
 have hop:=bY.out
 rcases hop with hop | hop
 ·have g1:(h.op == 1)=false:=by rw [hop]; rfl
  have g2:(h.op == 2)=true:=by rw [hop]; rfl
  have g3:(h.op == 3)=false:=by rw [hop]; rfl
  have g4:(h.op == 4)=false:=by rw [hop]; rfl
  have g5:(h.op == 5)=false:=by rw [hop]; rfl
  have g6:(h.op == 6)=false:=by rw [hop]; rfl
  have g7:(h.op == 7)=false:=by rw [hop]; rfl
  have g8:(h.op == 8)=false:=by rw [hop]; rfl
  have g9:(h.op == 9)=false:=by rw [hop]; rfl
  have g10:(h.op == 10)=false:=by rw [hop]; rfl
  have g11:(h.op == 11)=false:=by rw [hop]; rfl
  have g12:(h.op == 12)=false:=by rw [hop]; rfl
  have g13:(h.op == 13)=false:=by rw [hop]; rfl
  have g14:(h.op == 14)=false:=by rw [hop]; rfl
  have g15:(h.op == 15)=false:=by rw [hop]; rfl
  clear hop
  go_wp2_with fail
  refine (pY p _ aK aM aG aH i bn ar.len aV bs bt bc h.dN h.xn h.dM h.aR dH bR hi (HP.out.same hB0) hxk (uJ.out.same hB0) (gU.out.same hB0) (HK.out _ hB0)).mono ?_
  rintro e' w1 ⟨rfl,hb⟩
  have hB1:=hB0.trans (hb.mono hB0.size)
  clear hb
  go_wp2_with fail
  go_ret
  exact ⟨bG (by first | exact HR.out | exact HR.out.symm | (rw [← HR.out]; first | rfl | simp_all)),(HX.out.next hB1).1⟩
 ·have g1:(h.op == 1)=false:=by rw [hop]; rfl
  have g2:(h.op == 2)=false:=by rw [hop]; rfl
  have g3:(h.op == 3)=true:=by rw [hop]; rfl
  have g4:(h.op == 4)=false:=by rw [hop]; rfl
  have g5:(h.op == 5)=false:=by rw [hop]; rfl
  have g6:(h.op == 6)=false:=by rw [hop]; rfl
  have g7:(h.op == 7)=false:=by rw [hop]; rfl
  have g8:(h.op == 8)=false:=by rw [hop]; rfl
  have g9:(h.op == 9)=false:=by rw [hop]; rfl
  have g10:(h.op == 10)=false:=by rw [hop]; rfl
  have g11:(h.op == 11)=false:=by rw [hop]; rfl
  have g12:(h.op == 12)=false:=by rw [hop]; rfl
  have g13:(h.op == 13)=false:=by rw [hop]; rfl
  have g14:(h.op == 14)=false:=by rw [hop]; rfl
  have g15:(h.op == 15)=false:=by rw [hop]; rfl
  clear hop
  go_wp2_with fail
  refine (pY p _ aK aM aG aH i bn ar.len aV bs bt bc h.dN h.xn h.dM h.aR dH bR hi (HP.out.same hB0) hxk (uJ.out.same hB0) (gU.out.same hB0) (HK.out _ hB0)).mono ?_
  rintro e' w1 ⟨rfl,hb⟩
  have hB1:=hB0.trans (hb.mono hB0.size)
  clear hb
  go_wp2_with fail
  go_ret
  exact ⟨bG (by first | exact HR.out | exact HR.out.symm | (rw [← HR.out]; first | rfl | simp_all)),(HX.out.next hB1).1⟩
set_option maxHeartbeats 4000000 in
set_option maxRecDepth 100000 in
theorem SG (h:aX) (b e ar:aP) (s:Sl) (hi:dR i) (hp:p.At w aK aM) (hin:pK w h b e s) (dI:dw w) (har:ar.len≤maxLen) (hat:ar.At w w.heap.size bn 0) (hh:Holds w (gW bc p aK aM aG aH i bn ar.len aV bs bt)) (hop:h.op=1):
 Calls Tryz.prog 151 #[.pointer (some ⟨bc,0,none⟩),cO h b e s] w fun e' w'=>e'= .returned (.int .i64 (CO p i h))∧Below w.heap.size w w':=by
 have HH:=Lib.hid (show Sit w w _ from ⟨Below.refl _ _,hh⟩)
 obtain ⟨dZ,dG,dH,bR,bV,bC,eB,dK⟩:=s
 have hxk:=hin.1.2.2.2.2.2.1
 have hns:=hin.1.2.2.1
 generalize hres:CO p i h=res
 have HR:=Lib.hid hres
 have bY:=Lib.hid hop
 have yD:=Lib.hid hin
 clear hres hop
 unfold cO
 dsimp only
 go_enter Tryz.func151,Tryz.ntmps151
 go_upto_region 1 with fail
 generalize hW:World.alloc w _=W
 generalize Value.agg #[_,_,_,_,_,_,_,_,_,_,_]=a0
 have HX:Hid (Sit w W (ow w.heap.size h b e ⟨dZ,dG,dH,bR,bV,bC,eB,dK⟩ (gW bc p aK aM aG aH i bn ar.len aV bs bt))):=Lib.hid (by rw [← hW]; exact HH.out.lU rfl _ _ _ _ _ _ _ _ _ _ _ _)
 clear hW HH
 have HP:=Lib.hid (hp.same HX.out.1)
 have gU:=Lib.hid (dI.same HX.out.1)
 have uJ:=Lib.hid (hin.2.2.1.same HX.out.1)
 have jk:=Lib.hid (hat.same HX.out.1)
 have iZ:=Lib.hid har
 have HK:Hid (∀w',Below W.heap.size W w'→Holds w' (gW bc p aK aM aG aH i bn ar.len aV bs bt)):=Lib.hid (fun w' hb=>(HX.out.next hb).2.2.2.2.2.2.2.2.2.2.2.2)
 clear hp dI hh hin hat har
 have L0: ∀w',Below W.heap.size W w'→w'.cell? ⟨w.heap.size,0,none⟩=some (.int .i64 h.op):=fun w' hb=>(HX.out.next hb).2.1.2
 have L2: ∀w',Below W.heap.size W w'→w'.cell? ⟨w.heap.size,2,none⟩=some (.string h.nm):=fun w' hb=>(HX.out.next hb).2.2.2.1.2
 have L3: ∀w',Below W.heap.size W w'→w'.cell? ⟨w.heap.size,3,none⟩=some (.string h.arg):=fun w' hb=>(HX.out.next hb).2.2.2.2.1.2
 have L5: ∀w',Below W.heap.size W w'→w'.cell? ⟨w.heap.size,5,none⟩=some (.int .i64 h.dN):=fun w' hb=>(HX.out.next hb).2.2.2.2.2.2.1.2
 have L6: ∀w',Below W.heap.size W w'→w'.cell? ⟨w.heap.size,6,none⟩=some (.int .i64 h.xn):=fun w' hb=>(HX.out.next hb).2.2.2.2.2.2.2.1.2
 have L7: ∀w',Below W.heap.size W w'→w'.cell? ⟨w.heap.size,7,none⟩=some (.string h.dM):=fun w' hb=>(HX.out.next hb).2.2.2.2.2.2.2.2.1.2
 have L8: ∀w',Below W.heap.size W w'→w'.cell? ⟨w.heap.size,8,none⟩=some (.slice dH h.aR.len bR):=fun w' hb=>(HX.out.next hb).2.2.2.2.2.2.2.2.2.1.2
 have lA:=(HX.out.2).2.1.2
 have lB:=(HX.out.2).2.2.2.2.1.2
 have lC:=(HX.out.2).2.2.2.2.2.2.2.2.2.1.2
 have lD:=(HX.out.2).2.2.2.2.2.2.2.2.2.2.1.2
 have hB0:Below W.heap.size W W:=Below.refl _ _
 have l0:=L0 W hB0
 have hop:=bY.out
 have g1:(h.op == 1)=true:=by rw [hop]; rfl
 have g2:(h.op == 2)=false:=by rw [hop]; rfl
 have g3:(h.op == 3)=false:=by rw [hop]; rfl
 have g4:(h.op == 4)=false:=by rw [hop]; rfl
 have g5:(h.op == 5)=false:=by rw [hop]; rfl
 have g6:(h.op == 6)=false:=by rw [hop]; rfl
 have g7:(h.op == 7)=false:=by rw [hop]; rfl
 have g8:(h.op == 8)=false:=by rw [hop]; rfl
 have g9:(h.op == 9)=false:=by rw [hop]; rfl
 have g10:(h.op == 10)=false:=by rw [hop]; rfl
 have g11:(h.op == 11)=false:=by rw [hop]; rfl
 have g12:(h.op == 12)=false:=by rw [hop]; rfl
 have g13:(h.op == 13)=false:=by rw [hop]; rfl
 have g14:(h.op == 14)=false:=by rw [hop]; rfl
 have g15:(h.op == 15)=false:=by rw [hop]; rfl
 clear hop
 have l2:=L2 W hB0
 have l3:=L3 W hB0
 go_wp2_with fail
 refine (Hw p _ aK aM aG aH i bn ar.len aV bs bt bc h b e ⟨dZ,dG,dH,bR,bV,bC,eB,dK⟩ hi (HP.out.same hB0) (yD.out.same HX.out.1) (gU.out.same hB0) (HK.out _ hB0)).mono ?_
 rintro e' w1 ⟨rfl,hb⟩
 have hB1:=hB0.trans (hb.mono hB0.size)
 clear hb
 go_wp2_with fail
 go_ret
 exact ⟨bG (by first | exact HR.out | exact HR.out.symm | (rw [← HR.out]; first | rfl | simp_all)),(HX.out.next hB1).1⟩
set_option maxHeartbeats 4000000 in
set_option maxRecDepth 100000 in
theorem Tf (h:aX) (b e ar:aP) (s:Sl) (hi:dR i) (hp:p.At w aK aM) (hin:pK w h b e s) (dI:dw w) (har:ar.len≤maxLen) (hat:ar.At w w.heap.size bn 0) (hh:Holds w (gW bc p aK aM aG aH i bn ar.len aV bs bt)) (hop:h.op=9∨h.op=10∨h.op=11):
 Calls Tryz.prog 151 #[.pointer (some ⟨bc,0,none⟩),cO h b e s] w fun e' w'=>e'= .returned (.int .i64 (eP [bD (mean p i h.nm) [6],nest ((eO ar [7] || !lu ar (kS p.ds h.nm) [4]) || (h.op == 9 && eO ar [8]))]))∧Below w.heap.size w w':=by
 have HH:=Lib.hid (show Sit w w _ from ⟨Below.refl _ _,hh⟩)
 obtain ⟨dZ,dG,dH,bR,bV,bC,eB,dK⟩:=s
 have hxk:=hin.1.2.2.2.2.2.1
 have hns:=hin.1.2.2.1
 generalize hres:eP [bD (mean p i h.nm) [6],nest ((eO ar [7] || !lu ar (kS p.ds h.nm) [4]) || (h.op == 9 && eO ar [8]))]=res
 have HR:=Lib.hid hres
 have bY:=Lib.hid hop
 have yD:=Lib.hid hin
 clear hres hop
 unfold cO
 dsimp only
 go_enter Tryz.func151,Tryz.ntmps151
 go_upto_region 1 with fail
 generalize hW:World.alloc w _=W
 generalize Value.agg #[_,_,_,_,_,_,_,_,_,_,_]=a0
 have HX:Hid (Sit w W (ow w.heap.size h b e ⟨dZ,dG,dH,bR,bV,bC,eB,dK⟩ (gW bc p aK aM aG aH i bn ar.len aV bs bt))):=Lib.hid (by rw [← hW]; exact HH.out.lU rfl _ _ _ _ _ _ _ _ _ _ _ _)
 clear hW HH
 have HP:=Lib.hid (hp.same HX.out.1)
 have gU:=Lib.hid (dI.same HX.out.1)
 have uJ:=Lib.hid (hin.2.2.1.same HX.out.1)
 have jk:=Lib.hid (hat.same HX.out.1)
 have iZ:=Lib.hid har
 have HK:Hid (∀w',Below W.heap.size W w'→Holds w' (gW bc p aK aM aG aH i bn ar.len aV bs bt)):=Lib.hid (fun w' hb=>(HX.out.next hb).2.2.2.2.2.2.2.2.2.2.2.2)
 clear hp dI hh hin hat har
 have L0: ∀w',Below W.heap.size W w'→w'.cell? ⟨w.heap.size,0,none⟩=some (.int .i64 h.op):=fun w' hb=>(HX.out.next hb).2.1.2
 have L2: ∀w',Below W.heap.size W w'→w'.cell? ⟨w.heap.size,2,none⟩=some (.string h.nm):=fun w' hb=>(HX.out.next hb).2.2.2.1.2
 have L3: ∀w',Below W.heap.size W w'→w'.cell? ⟨w.heap.size,3,none⟩=some (.string h.arg):=fun w' hb=>(HX.out.next hb).2.2.2.2.1.2
 have L5: ∀w',Below W.heap.size W w'→w'.cell? ⟨w.heap.size,5,none⟩=some (.int .i64 h.dN):=fun w' hb=>(HX.out.next hb).2.2.2.2.2.2.1.2
 have L6: ∀w',Below W.heap.size W w'→w'.cell? ⟨w.heap.size,6,none⟩=some (.int .i64 h.xn):=fun w' hb=>(HX.out.next hb).2.2.2.2.2.2.2.1.2
 have L7: ∀w',Below W.heap.size W w'→w'.cell? ⟨w.heap.size,7,none⟩=some (.string h.dM):=fun w' hb=>(HX.out.next hb).2.2.2.2.2.2.2.2.1.2
 have L8: ∀w',Below W.heap.size W w'→w'.cell? ⟨w.heap.size,8,none⟩=some (.slice dH h.aR.len bR):=fun w' hb=>(HX.out.next hb).2.2.2.2.2.2.2.2.2.1.2
 have hB0:Below W.heap.size W W:=Below.refl _ _
 have l0:=L0 W hB0
 have hop:=bY.out
 rcases hop with hop | hop | hop
 ·have g1:(h.op == 1)=false:=by rw [hop]; rfl
  have g2:(h.op == 2)=false:=by rw [hop]; rfl
  have g3:(h.op == 3)=false:=by rw [hop]; rfl
  have g4:(h.op == 4)=false:=by rw [hop]; rfl
  have g5:(h.op == 5)=false:=by rw [hop]; rfl
  have g6:(h.op == 6)=false:=by rw [hop]; rfl
  have g7:(h.op == 7)=false:=by rw [hop]; rfl
  have g8:(h.op == 8)=false:=by rw [hop]; rfl
  have g9:(h.op == 9)=true:=by rw [hop]; rfl
  have g10:(h.op == 10)=false:=by rw [hop]; rfl
  have g11:(h.op == 11)=false:=by rw [hop]; rfl
  have g12:(h.op == 12)=false:=by rw [hop]; rfl
  have g13:(h.op == 13)=false:=by rw [hop]; rfl
  have g14:(h.op == 14)=false:=by rw [hop]; rfl
  have g15:(h.op == 15)=false:=by rw [hop]; rfl
  clear hop
  go_wp2_with fail
  refine (gI p _ aK aM aG aH i bn ar.len aV bs bt bc h.nm [6] _ 1 hi (by decide) (HP.out.same (hB0.alloc hB0.size _)) (eD _ 6 _) (HK.out _ (hB0.alloc hB0.size _))).mono ?_
  rintro e' w1 ⟨rfl,hb⟩
  have hB1:=(hB0.alloc hB0.size _).trans (hb.mono (hB0.alloc hB0.size _).size)
  clear hb
  go_wp2_with fail
  refine (eZ p _ aK aM aG aH i bn aV bs bt bc ar [7] _ 1 (by decide) (eD _ 7 _) iZ.out (jk.out.same (hB1.alloc hB1.size _)) (HK.out _ (hB1.alloc hB1.size _))).mono ?_
  rintro e' w2 ⟨rfl,hb⟩
  have hB2:=(hB1.alloc hB1.size _).trans (hb.mono (hB1.alloc hB1.size _).size)
  clear hb
  cases hq:eO ar [7]
  ·go_wp2_with fail
   refine (uR p _ aK aM aG aH i bn ar.len aV bs bt bc h.nm (HP.out.same hB2) (HK.out _ hB2)).mono ?_
   rintro e' w3 ⟨rfl,hb⟩
   have hB3:=hB2.trans (hb.mono hB2.size)
   clear hb
   go_wp2_with fail
   refine (jv p _ aK aM aG aH i bn aV bs bt bc ar (kS p.ds h.nm) [4] _ 1 (by decide) (eD _ 4 _) iZ.out (jk.out.same (hB3.alloc hB3.size _)) (HK.out _ (hB3.alloc hB3.size _))).mono ?_
   rintro e' w4 ⟨rfl,hb⟩
   have hB4:=(hB3.alloc hB3.size _).trans (hb.mono (hB3.alloc hB3.size _).size)
   clear hb
   cases hq2:lu ar (kS p.ds h.nm) [4]
   ·go_wp2_with fail
    refine (dD _ _).mono ?_
    rintro e' wn ⟨rfl,rfl⟩
    go_wp2_with fail
    refine (dF [bD (mean p i h.nm) [6],nest true] _ _ 2 (by simp [maxLen]) (eu _ _ _ _)).mono ?_
    rintro e' wf ⟨rfl,rfl⟩
    have sH:=hB4.alloc hB4.size (.cells #[] 0)
    go_wp2_with fail
    go_ret
    exact ⟨bG (by first | exact HR.out | exact HR.out.symm | (rw [← HR.out]; first | rfl | simp_all)),(HX.out.next (hB4.alloc hB4.size _)).1⟩
   ·go_wp2_with fail
    refine (eZ p _ aK aM aG aH i bn aV bs bt bc ar [8] _ 1 (by decide) (eD _ 8 _) iZ.out (jk.out.same (hB4.alloc hB4.size _)) (HK.out _ (hB4.alloc hB4.size _))).mono ?_
    rintro e' w5 ⟨rfl,hb⟩
    have FX:=(hB4.alloc hB4.size _).trans (hb.mono (hB4.alloc hB4.size _).size)
    clear hb
    cases hq3:eO ar [8]
    ·go_wp2_with fail
     refine (dD _ _).mono ?_
     rintro e' wn ⟨rfl,rfl⟩
     go_wp2_with fail
     refine (dF [bD (mean p i h.nm) [6],nest false] _ _ 2 (by simp [maxLen]) (eu _ _ _ _)).mono ?_
     rintro e' wf ⟨rfl,rfl⟩
     have sH:=FX.alloc FX.size (.cells #[] 0)
     go_wp2_with fail
     go_ret
     exact ⟨bG (by first | exact HR.out | exact HR.out.symm | (rw [← HR.out]; first | rfl | simp_all)),(HX.out.next (FX.alloc FX.size _)).1⟩
    ·go_wp2_with fail
     refine (dD _ _).mono ?_
     rintro e' wn ⟨rfl,rfl⟩
     go_wp2_with fail
     refine (dF [bD (mean p i h.nm) [6],nest true] _ _ 2 (by simp [maxLen]) (eu _ _ _ _)).mono ?_
     rintro e' wf ⟨rfl,rfl⟩
     have sH:=FX.alloc FX.size (.cells #[] 0)
     go_wp2_with fail
     go_ret
     exact ⟨bG (by first | exact HR.out | exact HR.out.symm | (rw [← HR.out]; first | rfl | simp_all)),(HX.out.next (FX.alloc FX.size _)).1⟩
  ·go_wp2_with fail
   refine (dD _ _).mono ?_
   rintro e' wn ⟨rfl,rfl⟩
   go_wp2_with fail
   refine (dF [bD (mean p i h.nm) [6],nest true] _ _ 2 (by simp [maxLen]) (eu _ _ _ _)).mono ?_
   rintro e' wf ⟨rfl,rfl⟩
   have sH:=hB2.alloc hB2.size (.cells #[] 0)
   go_wp2_with fail
   go_ret
   exact ⟨bG (by first | exact HR.out | exact HR.out.symm | (rw [← HR.out]; first | rfl | simp_all)),(HX.out.next (hB2.alloc hB2.size _)).1⟩
 ·have g1:(h.op == 1)=false:=by rw [hop]; rfl
  have g2:(h.op == 2)=false:=by rw [hop]; rfl
  have g3:(h.op == 3)=false:=by rw [hop]; rfl
  have g4:(h.op == 4)=false:=by rw [hop]; rfl
  have g5:(h.op == 5)=false:=by rw [hop]; rfl
  have g6:(h.op == 6)=false:=by rw [hop]; rfl
  have g7:(h.op == 7)=false:=by rw [hop]; rfl
  have g8:(h.op == 8)=false:=by rw [hop]; rfl
  have g9:(h.op == 9)=false:=by rw [hop]; rfl
  have g10:(h.op == 10)=true:=by rw [hop]; rfl
  have g11:(h.op == 11)=false:=by rw [hop]; rfl
  have g12:(h.op == 12)=false:=by rw [hop]; rfl
  have g13:(h.op == 13)=false:=by rw [hop]; rfl
  have g14:(h.op == 14)=false:=by rw [hop]; rfl
  have g15:(h.op == 15)=false:=by rw [hop]; rfl
  clear hop
  go_wp2_with fail
  refine (gI p _ aK aM aG aH i bn ar.len aV bs bt bc h.nm [6] _ 1 hi (by decide) (HP.out.same (hB0.alloc hB0.size _)) (eD _ 6 _) (HK.out _ (hB0.alloc hB0.size _))).mono ?_
  rintro e' w1 ⟨rfl,hb⟩
  have hB1:=(hB0.alloc hB0.size _).trans (hb.mono (hB0.alloc hB0.size _).size)
  clear hb
  go_wp2_with fail
  refine (eZ p _ aK aM aG aH i bn aV bs bt bc ar [7] _ 1 (by decide) (eD _ 7 _) iZ.out (jk.out.same (hB1.alloc hB1.size _)) (HK.out _ (hB1.alloc hB1.size _))).mono ?_
  rintro e' w2 ⟨rfl,hb⟩
  have hB2:=(hB1.alloc hB1.size _).trans (hb.mono (hB1.alloc hB1.size _).size)
  clear hb
  cases hq:eO ar [7]
  ·go_wp2_with fail
   refine (uR p _ aK aM aG aH i bn ar.len aV bs bt bc h.nm (HP.out.same hB2) (HK.out _ hB2)).mono ?_
   rintro e' w3 ⟨rfl,hb⟩
   have hB3:=hB2.trans (hb.mono hB2.size)
   clear hb
   go_wp2_with fail
   refine (jv p _ aK aM aG aH i bn aV bs bt bc ar (kS p.ds h.nm) [4] _ 1 (by decide) (eD _ 4 _) iZ.out (jk.out.same (hB3.alloc hB3.size _)) (HK.out _ (hB3.alloc hB3.size _))).mono ?_
   rintro e' w4 ⟨rfl,hb⟩
   have hB4:=(hB3.alloc hB3.size _).trans (hb.mono (hB3.alloc hB3.size _).size)
   clear hb
   cases hq2:lu ar (kS p.ds h.nm) [4]
   ·go_wp2_with fail
    refine (dD _ _).mono ?_
    rintro e' wn ⟨rfl,rfl⟩
    go_wp2_with fail
    refine (dF [bD (mean p i h.nm) [6],nest true] _ _ 2 (by simp [maxLen]) (eu _ _ _ _)).mono ?_
    rintro e' wf ⟨rfl,rfl⟩
    have sH:=hB4.alloc hB4.size (.cells #[] 0)
    go_wp2_with fail
    go_ret
    exact ⟨bG (by first | exact HR.out | exact HR.out.symm | (rw [← HR.out]; first | rfl | simp_all)),(HX.out.next (hB4.alloc hB4.size _)).1⟩
   ·go_wp2_with fail
    refine (dD _ _).mono ?_
    rintro e' wn ⟨rfl,rfl⟩
    go_wp2_with fail
    refine (dF [bD (mean p i h.nm) [6],nest false] _ _ 2 (by simp [maxLen]) (eu _ _ _ _)).mono ?_
    rintro e' wf ⟨rfl,rfl⟩
    have sH:=hB4.alloc hB4.size (.cells #[] 0)
    go_wp2_with fail
    go_ret
    exact ⟨bG (by first | exact HR.out | exact HR.out.symm | (rw [← HR.out]; first | rfl | simp_all)),(HX.out.next (hB4.alloc hB4.size _)).1⟩
  ·go_wp2_with fail
   refine (dD _ _).mono ?_
   rintro e' wn ⟨rfl,rfl⟩
   go_wp2_with fail
   refine (dF [bD (mean p i h.nm) [6],nest true] _ _ 2 (by simp [maxLen]) (eu _ _ _ _)).mono ?_
   rintro e' wf ⟨rfl,rfl⟩
   have sH:=hB2.alloc hB2.size (.cells #[] 0)
   go_wp2_with fail
   go_ret
   exact ⟨bG (by first | exact HR.out | exact HR.out.symm | (rw [← HR.out]; first | rfl | simp_all)),(HX.out.next (hB2.alloc hB2.size _)).1⟩
 ·have g1:(h.op == 1)=false:=by rw [hop]; rfl
  have g2:(h.op == 2)=false:=by rw [hop]; rfl
  have g3:(h.op == 3)=false:=by rw [hop]; rfl
  have g4:(h.op == 4)=false:=by rw [hop]; rfl
  have g5:(h.op == 5)=false:=by rw [hop]; rfl
  have g6:(h.op == 6)=false:=by rw [hop]; rfl
  have g7:(h.op == 7)=false:=by rw [hop]; rfl
  have g8:(h.op == 8)=false:=by rw [hop]; rfl
  have g9:(h.op == 9)=false:=by rw [hop]; rfl
  have g10:(h.op == 10)=false:=by rw [hop]; rfl
  have g11:(h.op == 11)=true:=by rw [hop]; rfl
  have g12:(h.op == 12)=false:=by rw [hop]; rfl
  have g13:(h.op == 13)=false:=by rw [hop]; rfl
  have g14:(h.op == 14)=false:=by rw [hop]; rfl
  have g15:(h.op == 15)=false:=by rw [hop]; rfl
  clear hop
  go_wp2_with fail
  refine (gI p _ aK aM aG aH i bn ar.len aV bs bt bc h.nm [6] _ 1 hi (by decide) (HP.out.same (hB0.alloc hB0.size _)) (eD _ 6 _) (HK.out _ (hB0.alloc hB0.size _))).mono ?_
  rintro e' w1 ⟨rfl,hb⟩
  have hB1:=(hB0.alloc hB0.size _).trans (hb.mono (hB0.alloc hB0.size _).size)
  clear hb
  go_wp2_with fail
  refine (eZ p _ aK aM aG aH i bn aV bs bt bc ar [7] _ 1 (by decide) (eD _ 7 _) iZ.out (jk.out.same (hB1.alloc hB1.size _)) (HK.out _ (hB1.alloc hB1.size _))).mono ?_
  rintro e' w2 ⟨rfl,hb⟩
  have hB2:=(hB1.alloc hB1.size _).trans (hb.mono (hB1.alloc hB1.size _).size)
  clear hb
  cases hq:eO ar [7]
  ·go_wp2_with fail
   refine (uR p _ aK aM aG aH i bn ar.len aV bs bt bc h.nm (HP.out.same hB2) (HK.out _ hB2)).mono ?_
   rintro e' w3 ⟨rfl,hb⟩
   have hB3:=hB2.trans (hb.mono hB2.size)
   clear hb
   go_wp2_with fail
   refine (jv p _ aK aM aG aH i bn aV bs bt bc ar (kS p.ds h.nm) [4] _ 1 (by decide) (eD _ 4 _) iZ.out (jk.out.same (hB3.alloc hB3.size _)) (HK.out _ (hB3.alloc hB3.size _))).mono ?_
   rintro e' w4 ⟨rfl,hb⟩
   have hB4:=(hB3.alloc hB3.size _).trans (hb.mono (hB3.alloc hB3.size _).size)
   clear hb
   cases hq2:lu ar (kS p.ds h.nm) [4]
   ·go_wp2_with fail
    refine (dD _ _).mono ?_
    rintro e' wn ⟨rfl,rfl⟩
    go_wp2_with fail
    refine (dF [bD (mean p i h.nm) [6],nest true] _ _ 2 (by simp [maxLen]) (eu _ _ _ _)).mono ?_
    rintro e' wf ⟨rfl,rfl⟩
    have sH:=hB4.alloc hB4.size (.cells #[] 0)
    go_wp2_with fail
    go_ret
    exact ⟨bG (by first | exact HR.out | exact HR.out.symm | (rw [← HR.out]; first | rfl | simp_all)),(HX.out.next (hB4.alloc hB4.size _)).1⟩
   ·go_wp2_with fail
    refine (dD _ _).mono ?_
    rintro e' wn ⟨rfl,rfl⟩
    go_wp2_with fail
    refine (dF [bD (mean p i h.nm) [6],nest false] _ _ 2 (by simp [maxLen]) (eu _ _ _ _)).mono ?_
    rintro e' wf ⟨rfl,rfl⟩
    have sH:=hB4.alloc hB4.size (.cells #[] 0)
    go_wp2_with fail
    go_ret
    exact ⟨bG (by first | exact HR.out | exact HR.out.symm | (rw [← HR.out]; first | rfl | simp_all)),(HX.out.next (hB4.alloc hB4.size _)).1⟩
  ·go_wp2_with fail
   refine (dD _ _).mono ?_
   rintro e' wn ⟨rfl,rfl⟩
   go_wp2_with fail
   refine (dF [bD (mean p i h.nm) [6],nest true] _ _ 2 (by simp [maxLen]) (eu _ _ _ _)).mono ?_
   rintro e' wf ⟨rfl,rfl⟩
   have sH:=hB2.alloc hB2.size (.cells #[] 0)
   go_wp2_with fail
   go_ret
   exact ⟨bG (by first | exact HR.out | exact HR.out.symm | (rw [← HR.out]; first | rfl | simp_all)),(HX.out.next (hB2.alloc hB2.size _)).1⟩
end
end Go.Proofs.YtdajkddgnfgijaaGreatDoor
end
section
set_option linter.unusedSimpArgs false
set_option linter.unusedVariables false
namespace Go.Proofs.YtdajkddgnfgijaaGreatDoor
open Go.RowKit
open Md
section
variable (p:Pr) (w:World) (aK aM:Option Addr) (aG aH:Nat) (bn:Option Addr) (aV bs bt bc:Nat)
set_option maxHeartbeats 4000000 in
set_option maxRecDepth 100000 in
theorem Pf (i:Int) (h:aX) (b e ar:aP) (s:Sl) (hi:dR i) (hp:p.At w aK aM) (hin:pK w h b e s) (dI:dw w) (har:ar.len≤maxLen) (hat:ar.At w w.heap.size bn 0) (hh:Holds w (gW bc p aK aM aG aH i bn ar.len aV bs bt)) (hop:h.op=15):
 Calls Tryz.prog 151 #[.pointer (some ⟨bc,0,none⟩),cO h b e s] w fun e' w'=>e'= .returned (.int .i64 (eP [bD (mean p i h.nm) [1],bD (mean p i h.arg) [7],nest (eO ar [7])]))∧Below w.heap.size w w':=by
 have HH:=Lib.hid (show Sit w w _ from ⟨Below.refl _ _,hh⟩)
 obtain ⟨dZ,dG,dH,bR,bV,bC,eB,dK⟩:=s
 have hxk:=hin.1.2.2.2.2.2.1
 have hns:=hin.1.2.2.1
 generalize hres:eP [bD (mean p i h.nm) [1],bD (mean p i h.arg) [7],nest (eO ar [7])]=res
 have HR:=Lib.hid hres
 have bY:=Lib.hid hop
 have yD:=Lib.hid hin
 clear hres hop
 unfold cO
 dsimp only
 go_enter Tryz.func151,Tryz.ntmps151
 go_upto_region 1 with fail
 generalize hW:World.alloc w _=W
 generalize Value.agg #[_,_,_,_,_,_,_,_,_,_,_]=a0
 have HX:Hid (Sit w W (ow w.heap.size h b e ⟨dZ,dG,dH,bR,bV,bC,eB,dK⟩ (gW bc p aK aM aG aH i bn ar.len aV bs bt))):=Lib.hid (by rw [← hW]; exact HH.out.lU rfl _ _ _ _ _ _ _ _ _ _ _ _)
 clear hW HH
 have HP:=Lib.hid (hp.same HX.out.1)
 have gU:=Lib.hid (dI.same HX.out.1)
 have uJ:=Lib.hid (hin.2.2.1.same HX.out.1)
 have jk:=Lib.hid (hat.same HX.out.1)
 have iZ:=Lib.hid har
 have HK:Hid (∀w',Below W.heap.size W w'→Holds w' (gW bc p aK aM aG aH i bn ar.len aV bs bt)):=Lib.hid (fun w' hb=>(HX.out.next hb).2.2.2.2.2.2.2.2.2.2.2.2)
 clear hp dI hh hin hat har
 have L0: ∀w',Below W.heap.size W w'→w'.cell? ⟨w.heap.size,0,none⟩=some (.int .i64 h.op):=fun w' hb=>(HX.out.next hb).2.1.2
 have L2: ∀w',Below W.heap.size W w'→w'.cell? ⟨w.heap.size,2,none⟩=some (.string h.nm):=fun w' hb=>(HX.out.next hb).2.2.2.1.2
 have L3: ∀w',Below W.heap.size W w'→w'.cell? ⟨w.heap.size,3,none⟩=some (.string h.arg):=fun w' hb=>(HX.out.next hb).2.2.2.2.1.2
 have L5: ∀w',Below W.heap.size W w'→w'.cell? ⟨w.heap.size,5,none⟩=some (.int .i64 h.dN):=fun w' hb=>(HX.out.next hb).2.2.2.2.2.2.1.2
 have L6: ∀w',Below W.heap.size W w'→w'.cell? ⟨w.heap.size,6,none⟩=some (.int .i64 h.xn):=fun w' hb=>(HX.out.next hb).2.2.2.2.2.2.2.1.2
 have L7: ∀w',Below W.heap.size W w'→w'.cell? ⟨w.heap.size,7,none⟩=some (.string h.dM):=fun w' hb=>(HX.out.next hb).2.2.2.2.2.2.2.2.1.2
 have L8: ∀w',Below W.heap.size W w'→w'.cell? ⟨w.heap.size,8,none⟩=some (.slice dH h.aR.len bR):=fun w' hb=>(HX.out.next hb).2.2.2.2.2.2.2.2.2.1.2
 have hB0:Below W.heap.size W W:=Below.refl _ _
 have l0:=L0 W hB0
 have hop:=bY.out
 have g1:(h.op == 1)=false:=by rw [hop]; rfl
 have g2:(h.op == 2)=false:=by rw [hop]; rfl
 have g3:(h.op == 3)=false:=by rw [hop]; rfl
 have g4:(h.op == 4)=false:=by rw [hop]; rfl
 have g5:(h.op == 5)=false:=by rw [hop]; rfl
 have g6:(h.op == 6)=false:=by rw [hop]; rfl
 have g7:(h.op == 7)=false:=by rw [hop]; rfl
 have g8:(h.op == 8)=false:=by rw [hop]; rfl
 have g9:(h.op == 9)=false:=by rw [hop]; rfl
 have g10:(h.op == 10)=false:=by rw [hop]; rfl
 have g11:(h.op == 11)=false:=by rw [hop]; rfl
 have g12:(h.op == 12)=false:=by rw [hop]; rfl
 have g13:(h.op == 13)=false:=by rw [hop]; rfl
 have g14:(h.op == 14)=false:=by rw [hop]; rfl
 have g15:(h.op == 15)=true:=by rw [hop]; rfl
 clear hop
 go_upto_region 27 with fail
 refine mV (fun w'=>Below W.heap.size W w') (fun w w'=>Below w.heap.size w w') [193,194,195,196,197,198,199,200,201,202,203,204,205,206,207,208,4] (by kernel_rfl) (by kernel_rfl) (fun _=>Below.refl _ _) (by rfl) (below_drewN (Below.refl _ _) 1) ?_
 apply aQ.step
 case aD=>
  intro β A w' hβ hC hO hD
  have e0:=hO 0 (by rfl)
  have e3:=hO 3 (by rfl)
  simp [Act.eval] at e0 e3
  simp [ay,ak,au,Act.eval,Region.binds] at hD
  simp [go_sem,gd,Oper.wp,e0,e3,hD]
  exact aA.mk (Below.refl _ _) hC (ak.mk _ _)
 apply aQ.step
 case aD=>
  intro β A w' hβ hC hO hD
  have e0:=hO 0 (by rfl)
  have e3:=hO 3 (by rfl)
  simp [Act.eval] at e0 e3
  simp [ay,ak,au,Act.eval,Region.binds] at hD
  simp [go_sem,gd,Oper.wp,e0,e3,hD]
  exact aA.mk (Below.refl _ _) hC (ak.mk _ _)
 apply aQ.step
 case aD=>
  intro β A w' hβ hC hO hD
  have e0:=hO 0 (by rfl)
  have e3:=hO 3 (by rfl)
  simp [Act.eval] at e0 e3
  simp [ay,ak,au,Act.eval,Region.binds] at hD
  simp [go_sem,gd,Oper.wp,e0,e3,hD,L2,hC]
  exact aA.mk (Below.refl _ _) hC (ak.mk _ _)
 refine aQ.some (fun v w'=> ∃b,v= .slice (some ⟨b,0,none⟩) 1 1∧dP w' w'.heap.size [1] (some ⟨b,0,none⟩) 0) ?_ ?_ ?_
 ·rintro v w w' hle ⟨b,rfl,hin⟩
  exact ⟨b,rfl,hin.same hle⟩
 ·intro β A w' hβ hC hO hD
  simp [go_sem,gd,Oper.wp]
  exact aA.mk (d:=_) (v:= .slice (some ⟨_,0,none⟩) 1 1) (aj _ _) (hC.trans ((aj _ _).mono hC.size)) ⟨_,rfl,eD _ 1 _⟩
 apply aQ.step
 case aD=>
  intro β A w' hβ hC hO hD
  simp [ay,ak,au,Act.eval,Region.binds] at hD
  obtain ⟨Zy,ZB,ao6,Zk,Un⟩:=hD
  simp [go_sem,gd,Oper.wp,Zy,ZB,Zk]
  refine (gI p w' aK aM aG aH _ bn _ aV bs bt bc h.nm [1] _ 1 hi (by decide) (HP.out.same hC) Un (HK.out _ hC)).mono ?_
  rintro e' w2 ⟨rfl,hb⟩
  exact aA.mk hb (hC.trans (hb.mono hC.size)) (ak.mk _ _)
 apply aQ.step
 case aD=>
  intro β A w' hβ hC hO hD
  have e0:=hO 0 (by rfl)
  have e3:=hO 3 (by rfl)
  simp [Act.eval] at e0 e3
  simp [ay,ak,au,Act.eval,Region.binds] at hD
  simp [go_sem,gd,Oper.wp,e0,e3,hD]
  exact aA.mk (Below.refl _ _) hC (ak.mk _ _)
 apply aQ.step
 case aD=>
  intro β A w' hβ hC hO hD
  have e0:=hO 0 (by rfl)
  have e3:=hO 3 (by rfl)
  simp [Act.eval] at e0 e3
  simp [ay,ak,au,Act.eval,Region.binds] at hD
  simp [go_sem,gd,Oper.wp,e0,e3,hD]
  exact aA.mk (Below.refl _ _) hC (ak.mk _ _)
 apply aQ.step
 case aD=>
  intro β A w' hβ hC hO hD
  have e0:=hO 0 (by rfl)
  have e3:=hO 3 (by rfl)
  simp [Act.eval] at e0 e3
  simp [ay,ak,au,Act.eval,Region.binds] at hD
  simp [go_sem,gd,Oper.wp,e0,e3,hD,L3,hC]
  exact aA.mk (Below.refl _ _) hC (ak.mk _ _)
 refine aQ.some (fun v w'=> ∃b,v= .slice (some ⟨b,0,none⟩) 1 1∧dP w' w'.heap.size [7] (some ⟨b,0,none⟩) 0) ?_ ?_ ?_
 ·rintro v w w' hle ⟨b,rfl,hin⟩
  exact ⟨b,rfl,hin.same hle⟩
 ·intro β A w' hβ hC hO hD
  simp [go_sem,gd,Oper.wp]
  exact aA.mk (d:=_) (v:= .slice (some ⟨_,0,none⟩) 1 1) (aj _ _) (hC.trans ((aj _ _).mono hC.size)) ⟨_,rfl,eD _ 7 _⟩
 apply aQ.step
 case aD=>
  intro β A w' hβ hC hO hD
  simp [ay,ak,au,Act.eval,Region.binds] at hD
  obtain ⟨Zp,aa5,⟨ap6,Zx,UQ⟩,-⟩:=hD
  simp [go_sem,gd,Oper.wp,Zp,aa5,Zx]
  refine (gI p w' aK aM aG aH _ bn _ aV bs bt bc h.arg [7] _ 1 hi (by decide) (HP.out.same hC) UQ (HK.out _ hC)).mono ?_
  rintro e' w2 ⟨rfl,hb⟩
  exact aA.mk hb (hC.trans (hb.mono hC.size)) (ak.mk _ _)
 apply aQ.step
 case aD=>
  intro β A w' hβ hC hO hD
  have e0:=hO 0 (by rfl)
  have e3:=hO 3 (by rfl)
  simp [Act.eval] at e0 e3
  simp [ay,ak,au,Act.eval,Region.binds] at hD
  simp [go_sem,gd,Oper.wp,e0,e3,hD]
  exact aA.mk (Below.refl _ _) hC (ak.mk _ _)
 refine aQ.some (fun v w'=> ∃b,v= .slice (some ⟨b,0,none⟩) 1 1∧dP w' w'.heap.size [7] (some ⟨b,0,none⟩) 0) ?_ ?_ ?_
 ·rintro v w w' hle ⟨b,rfl,hin⟩
  exact ⟨b,rfl,hin.same hle⟩
 ·intro β A w' hβ hC hO hD
  simp [go_sem,gd,Oper.wp]
  exact aA.mk (d:=_) (v:= .slice (some ⟨_,0,none⟩) 1 1) (aj _ _) (hC.trans ((aj _ _).mono hC.size)) ⟨_,rfl,eD _ 7 _⟩
 apply aQ.step
 case aD=>
  intro β A w' hβ hC hO hD
  simp [ay,ak,au,Act.eval,Region.binds] at hD
  obtain ⟨aa6,⟨ap7,ZV,UR⟩,-⟩:=hD
  simp [go_sem,gd,Oper.wp,aa6,ZV]
  refine (eZ p w' aK aM aG aH _ bn aV bs bt bc ar [7] _ 1 (by decide) UR iZ.out (jk.out.same hC) (HK.out _ hC)).mono ?_
  rintro e' w2 ⟨rfl,hb⟩
  exact aA.mk hb (hC.trans (hb.mono hC.size)) (ak.mk _ _)
 apply aQ.step
 case aD=>
  intro β A w' hβ hC hO hD
  simp [ay,ak,au,Act.eval,Region.binds] at hD
  simp [go_sem,gd,Oper.wp,hD]
  refine (dD (eO ar [7]) w').mono ?_
  rintro e' w2 ⟨rfl,rfl⟩
  exact aA.mk (Below.refl _ _) hC (ak.mk _ _)
 refine aQ.some (fun v w'=> ∃b,v= .slice (some ⟨b,0,none⟩) 3 3∧dP w' w'.heap.size [bD (mean p i h.nm) [1],bD (mean p i h.arg) [7],nest (eO ar [7])] (some ⟨b,0,none⟩) 0) ?_ ?_ ?_
 ·rintro v w w' hle ⟨b,rfl,hin⟩
  exact ⟨b,rfl,hin.same hle⟩
 ·intro β A w' hβ hC hO hD
  simp [ay,ak,au,Act.eval,Region.binds] at hD
  simp [go_sem,gd,Oper.wp,hD]
  exact aA.mk (d:=_) (v:= .slice (some ⟨_,0,none⟩) 3 3) (aj _ _) (hC.trans ((aj _ _).mono hC.size)) ⟨_,rfl,lX _ _ _ _ _⟩
 apply aQ.step
 case aD=>
  intro β A w' hβ hC hO hD
  simp [ay,ak,au,Act.eval,Region.binds] at hD
  obtain ⟨⟨an6,ad3,WI⟩,-⟩:=hD
  simp [go_sem,gd,Oper.wp,ad3]
  refine (dF [bD (mean p i h.nm) [1],bD (mean p i h.arg) [7],nest (eO ar [7])] w' _ _ (by simp [maxLen]) WI).mono ?_
  rintro e' w2 ⟨rfl,rfl⟩
  exact aA.mk (Below.refl _ _) hC (ak.mk _ _)
 apply aQ.step
 case aD=>
  intro β A w' hβ hC hO hD
  have e0:=hO 0 (by rfl)
  have e3:=hO 3 (by rfl)
  simp [Act.eval] at e0 e3
  simp [ay,ak,au,Act.eval,Region.binds] at hD
  simp [go_sem,gd,Oper.wp,e0,e3,hD]
  exact aA.mk (Below.refl _ _) hC (ak.mk _ _)
 intro wz fH
 intro v0 h0 v1 h1 v2 h2 v3 h3 v4 h4 v5 h5 v6 h6 v7 h7 v8 h8 v9 h9 v10 h10 v11 h11 v12 h12 v13 sJ v14 nD v15 wF v16 h16
 have hl':v16=_:=h16
 subst hl'
 clear h0 h1 h2 h3 h4 h5 h6 h7 h8 h9 h10 h11 h12 sJ nD wF h16
 refine eG.nil ?_
 go_wp2_with fail
 go_ret
 exact ⟨bG (by first | exact HR.out | exact HR.out.symm | (rw [← HR.out]; first | rfl | simp_all)),(HX.out.next fH).1⟩
set_option maxHeartbeats 4000000 in
set_option maxRecDepth 100000 in
theorem Pv (j:Nat) (t:Th) (r:List Th) (hd:p.ts.drop j=t ::r) (h:aX) (b e ar:aP) (s:Sl) (hi:dR (j:Int)) (hp:p.At w aK aM) (hin:pK w h b e s) (dI:dw w) (har:ar.len≤maxLen) (hat:ar.At w w.heap.size bn 0) (hh:Holds w (gW bc p aK aM aG aH (j:Int) bn ar.len aV bs bt)) (hop:h.op=13):
 Calls Tryz.prog 151 #[.pointer (some ⟨bc,0,none⟩),cO h b e s] w fun e' w'=>e'= .returned (.int .i64 (eP [bD (mean p (j:Int) h.nm) [8],nest (eO ar [7,8] || h.nm.toList == t.nm.toList)]))∧Below w.heap.size w w':=by
 have HH:=Lib.hid (show Sit w w _ from ⟨Below.refl _ _,hh⟩)
 obtain ⟨dZ,dG,dH,bR,bV,bC,eB,dK⟩:=s
 have hxk:=hin.1.2.2.2.2.2.1
 have hns:=hin.1.2.2.1
 generalize hres:eP [bD (mean p (j:Int) h.nm) [8],nest (eO ar [7,8] || h.nm.toList == t.nm.toList)]=res
 have HR:=Lib.hid hres
 have bY:=Lib.hid hop
 have yD:=Lib.hid hin
 clear hres hop
 unfold cO
 dsimp only
 go_enter Tryz.func151,Tryz.ntmps151
 go_upto_region 1 with fail
 generalize hW:World.alloc w _=W
 generalize Value.agg #[_,_,_,_,_,_,_,_,_,_,_]=a0
 have HX:Hid (Sit w W (ow w.heap.size h b e ⟨dZ,dG,dH,bR,bV,bC,eB,dK⟩ (gW bc p aK aM aG aH (j:Int) bn ar.len aV bs bt))):=Lib.hid (by rw [← hW]; exact HH.out.lU rfl _ _ _ _ _ _ _ _ _ _ _ _)
 clear hW HH
 have HP:=Lib.hid (hp.same HX.out.1)
 have gU:=Lib.hid (dI.same HX.out.1)
 have uJ:=Lib.hid (hin.2.2.1.same HX.out.1)
 have jk:=Lib.hid (hat.same HX.out.1)
 have iZ:=Lib.hid har
 have HK:Hid (∀w',Below W.heap.size W w'→Holds w' (gW bc p aK aM aG aH (j:Int) bn ar.len aV bs bt)):=Lib.hid (fun w' hb=>(HX.out.next hb).2.2.2.2.2.2.2.2.2.2.2.2)
 clear hp dI hh hin hat har
 have L0: ∀w',Below W.heap.size W w'→w'.cell? ⟨w.heap.size,0,none⟩=some (.int .i64 h.op):=fun w' hb=>(HX.out.next hb).2.1.2
 have L2: ∀w',Below W.heap.size W w'→w'.cell? ⟨w.heap.size,2,none⟩=some (.string h.nm):=fun w' hb=>(HX.out.next hb).2.2.2.1.2
 have L3: ∀w',Below W.heap.size W w'→w'.cell? ⟨w.heap.size,3,none⟩=some (.string h.arg):=fun w' hb=>(HX.out.next hb).2.2.2.2.1.2
 have L5: ∀w',Below W.heap.size W w'→w'.cell? ⟨w.heap.size,5,none⟩=some (.int .i64 h.dN):=fun w' hb=>(HX.out.next hb).2.2.2.2.2.2.1.2
 have L6: ∀w',Below W.heap.size W w'→w'.cell? ⟨w.heap.size,6,none⟩=some (.int .i64 h.xn):=fun w' hb=>(HX.out.next hb).2.2.2.2.2.2.2.1.2
 have L7: ∀w',Below W.heap.size W w'→w'.cell? ⟨w.heap.size,7,none⟩=some (.string h.dM):=fun w' hb=>(HX.out.next hb).2.2.2.2.2.2.2.2.1.2
 have L8: ∀w',Below W.heap.size W w'→w'.cell? ⟨w.heap.size,8,none⟩=some (.slice dH h.aR.len bR):=fun w' hb=>(HX.out.next hb).2.2.2.2.2.2.2.2.2.1.2
 have hB0:Below W.heap.size W W:=Below.refl _ _
 have l0:=L0 W hB0
 have hop:=bY.out
 have g1:(h.op == 1)=false:=by rw [hop]; rfl
 have g2:(h.op == 2)=false:=by rw [hop]; rfl
 have g3:(h.op == 3)=false:=by rw [hop]; rfl
 have g4:(h.op == 4)=false:=by rw [hop]; rfl
 have g5:(h.op == 5)=false:=by rw [hop]; rfl
 have g6:(h.op == 6)=false:=by rw [hop]; rfl
 have g7:(h.op == 7)=false:=by rw [hop]; rfl
 have g8:(h.op == 8)=false:=by rw [hop]; rfl
 have g9:(h.op == 9)=false:=by rw [hop]; rfl
 have g10:(h.op == 10)=false:=by rw [hop]; rfl
 have g11:(h.op == 11)=false:=by rw [hop]; rfl
 have g12:(h.op == 12)=false:=by rw [hop]; rfl
 have g13:(h.op == 13)=true:=by rw [hop]; rfl
 have g14:(h.op == 14)=false:=by rw [hop]; rfl
 have g15:(h.op == 15)=false:=by rw [hop]; rfl
 clear hop
 go_upto_region 23 with fail
 cases hq:eO ar [7,8]
 ·refine mV (fun w'=>Below W.heap.size W w') (fun w w'=>Below w.heap.size w w') [149,150,151,152,153,154,155,156,157,158,159,160,161,162,163,164,165,166,4] (by kernel_rfl) (by kernel_rfl) (fun _=>Below.refl _ _) (by rfl) (below_drewN (Below.refl _ _) 1) ?_
  apply aQ.step
  case aD=>
   intro β A w' hβ hC hO hD
   have e0:=hO 0 (by rfl)
   have e3:=hO 3 (by rfl)
   simp [Act.eval] at e0 e3
   simp [ay,ak,au,Act.eval,Region.binds] at hD
   simp [go_sem,gd,Oper.wp,e0,e3,hD]
   exact aA.mk (Below.refl _ _) hC (ak.mk _ _)
  apply aQ.step
  case aD=>
   intro β A w' hβ hC hO hD
   have e0:=hO 0 (by rfl)
   have e3:=hO 3 (by rfl)
   simp [Act.eval] at e0 e3
   simp [ay,ak,au,Act.eval,Region.binds] at hD
   simp [go_sem,gd,Oper.wp,e0,e3,hD]
   exact aA.mk (Below.refl _ _) hC (ak.mk _ _)
  apply aQ.step
  case aD=>
   intro β A w' hβ hC hO hD
   have e0:=hO 0 (by rfl)
   have e3:=hO 3 (by rfl)
   simp [Act.eval] at e0 e3
   simp [ay,ak,au,Act.eval,Region.binds] at hD
   simp [go_sem,gd,Oper.wp,e0,e3,hD,L2,hC]
   exact aA.mk (Below.refl _ _) hC (ak.mk _ _)
  refine aQ.some (fun v w'=> ∃b,v= .slice (some ⟨b,0,none⟩) 1 1∧dP w' w'.heap.size [8] (some ⟨b,0,none⟩) 0) ?_ ?_ ?_
  ·rintro v w w' hle ⟨b,rfl,hin⟩
   exact ⟨b,rfl,hin.same hle⟩
  ·intro β A w' hβ hC hO hD
   simp [go_sem,gd,Oper.wp]
   exact aA.mk (d:=_) (v:= .slice (some ⟨_,0,none⟩) 1 1) (aj _ _) (hC.trans ((aj _ _).mono hC.size)) ⟨_,rfl,eD _ 8 _⟩
  apply aQ.step
  case aD=>
   intro β A w' hβ hC hO hD
   simp [ay,ak,au,Act.eval,Region.binds] at hD
   obtain ⟨QX,QW,Zt,Px,Ht⟩:=hD
   simp [go_sem,gd,Oper.wp,QX,QW,Px]
   refine (gI p w' aK aM aG aH _ bn _ aV bs bt bc h.nm [8] _ 1 hi (by decide) (HP.out.same hC) Ht (HK.out _ hC)).mono ?_
   rintro e' w2 ⟨rfl,hb⟩
   exact aA.mk hb (hC.trans (hb.mono hC.size)) (ak.mk _ _)
  apply aQ.step
  case aD=>
   intro β A w' hβ hC hO hD
   have e0:=hO 0 (by rfl)
   have e3:=hO 3 (by rfl)
   simp [Act.eval] at e0 e3
   simp [ay,ak,au,Act.eval,Region.binds] at hD
   simp [go_sem,gd,Oper.wp,e0,e3,hD]
   exact aA.mk (Below.refl _ _) hC (ak.mk _ _)
  refine aQ.some (fun v w'=> ∃b,v= .slice (some ⟨b,0,none⟩) 2 2∧dP w' w'.heap.size [7,8] (some ⟨b,0,none⟩) 0) ?_ ?_ ?_
  ·rintro v w w' hle ⟨b,rfl,hin⟩
   exact ⟨b,rfl,hin.same hle⟩
  ·intro β A w' hβ hC hO hD
   simp [go_sem,gd,Oper.wp]
   exact aA.mk (d:=_) (v:= .slice (some ⟨_,0,none⟩) 2 2) (aj _ _) (hC.trans ((aj _ _).mono hC.size)) ⟨_,rfl,eu _ 7 8 _⟩
  apply aQ.step
  case aD=>
   intro β A w' hβ hC hO hD
   simp [ay,ak,au,Act.eval,Region.binds] at hD
   obtain ⟨QJ,⟨ZU,P6,IW⟩,-⟩:=hD
   simp [go_sem,gd,Oper.wp,QJ,P6]
   refine (hq ▸ eZ p w' aK aM aG aH (j:Int) bn aV bs bt bc ar [7,8] _ 2 (by decide) IW iZ.out (jk.out.same hC) (HK.out _ hC)).mono ?_
   rintro e' w2 ⟨rfl,hb⟩
   exact aA.mk hb (hC.trans (hb.mono hC.size)) (ak.mk _ _)
  apply aQ.step
  case aD=>
   intro β A w' hβ hC hO hD
   have e0:=hO 0 (by rfl)
   have e3:=hO 3 (by rfl)
   simp [Act.eval] at e0 e3
   simp [ay,ak,au,Act.eval,Region.binds] at hD
   simp [go_sem,gd,Oper.wp,e0,e3,hD]
   exact aA.mk (Below.refl _ _) hC (ak.mk _ _)
  apply aQ.step
  case aD=>
   intro β A w' hβ hC hO hD
   have e0:=hO 0 (by rfl)
   have e3:=hO 3 (by rfl)
   simp [Act.eval] at e0 e3
   simp [ay,ak,au,Act.eval,Region.binds] at hD
   simp [go_sem,gd,Oper.wp,e0,e3,hD]
   exact aA.mk (Below.refl _ _) hC (ak.mk _ _)
  apply aQ.step
  case aD=>
   intro β A w' hβ hC hO hD
   have e0:=hO 0 (by rfl)
   have e3:=hO 3 (by rfl)
   simp [Act.eval] at e0 e3
   simp [ay,ak,au,Act.eval,Region.binds] at hD
   simp [go_sem,gd,Oper.wp,e0,e3,hD,L2,hC]
   exact aA.mk (Below.refl _ _) hC (ak.mk _ _)
  apply aQ.step
  case aD=>
   intro β A w' hβ hC hO hD
   have e0:=hO 0 (by rfl)
   have e3:=hO 3 (by rfl)
   simp [Act.eval] at e0 e3
   simp [ay,ak,au,Act.eval,Region.binds] at hD
   simp [go_sem,gd,Oper.wp,e0,e3,hD]
   exact aA.mk (Below.refl _ _) hC (ak.mk _ _)
  apply aQ.step
  case aD=>
   intro β A w' hβ hC hO hD
   simp [ay,ak,au,Act.eval,Region.binds] at hD
   simp [go_sem,gd,Oper.wp,hD]
   refine (Ad p w' aK aM aG aH bn ar.len aV bs bt bc j t r hd (HP.out.same hC) (HK.out _ hC)).mono ?_
   rintro e' w2 ⟨rfl,hb⟩
   exact aA.mk hb (hC.trans (hb.mono hC.size)) (ak.mk _ _)
  apply aQ.step
  case aD=>
   intro β A w' hβ hC hO hD
   have e0:=hO 0 (by rfl)
   have e3:=hO 3 (by rfl)
   simp [Act.eval] at e0 e3
   simp [ay,ak,au,Act.eval,Region.binds] at hD
   simp [go_sem,gd,Oper.wp,e0,e3,hD]
   exact aA.mk (Below.refl _ _) hC (ak.mk _ _)
  apply aQ.step
  case aD=>
   intro β A w' hβ hC hO hD
   have e0:=hO 0 (by rfl)
   have e3:=hO 3 (by rfl)
   simp [Act.eval] at e0 e3
   simp [ay,ak,au,Act.eval,Region.binds] at hD
   simp [go_sem,gd,Oper.wp,e0,e3,hD]
   exact aA.mk (Below.refl _ _) hC (ak.mk _ _)
  apply aQ.step
  case aD=>
   intro β A w' hβ hC hO hD
   simp [ay,ak,au,Act.eval,Region.binds] at hD
   simp [go_sem,gd,Oper.wp,hD]
   refine (dD (h.nm.toList == t.nm.toList) w').mono ?_
   rintro e' w2 ⟨rfl,rfl⟩
   exact aA.mk (Below.refl _ _) hC (ak.mk _ _)
  refine aQ.some (fun v w'=> ∃b,v= .slice (some ⟨b,0,none⟩) 2 2∧dP w' w'.heap.size [bD (mean p (j:Int) h.nm) [8],nest (h.nm.toList == t.nm.toList)] (some ⟨b,0,none⟩) 0) ?_ ?_ ?_
  ·rintro v w w' hle ⟨b,rfl,hin⟩
   exact ⟨b,rfl,hin.same hle⟩
  ·intro β A w' hβ hC hO hD
   simp [ay,ak,au,Act.eval,Region.binds] at hD
   simp [go_sem,gd,Oper.wp,hD]
   exact aA.mk (d:=_) (v:= .slice (some ⟨_,0,none⟩) 2 2) (aj _ _) (hC.trans ((aj _ _).mono hC.size)) ⟨_,rfl,eu _ _ _ _⟩
  apply aQ.step
  case aD=>
   intro β A w' hβ hC hO hD
   simp [ay,ak,au,Act.eval,Region.binds] at hD
   obtain ⟨⟨ac1,Qd,GZ⟩,-⟩:=hD
   simp [go_sem,gd,Oper.wp,Qd]
   refine (dF [bD (mean p (j:Int) h.nm) [8],nest (h.nm.toList == t.nm.toList)] w' _ _ (by simp [maxLen]) GZ).mono ?_
   rintro e' w2 ⟨rfl,rfl⟩
   exact aA.mk (Below.refl _ _) hC (ak.mk _ _)
  apply aQ.step
  case aD=>
   intro β A w' hβ hC hO hD
   have e0:=hO 0 (by rfl)
   have e3:=hO 3 (by rfl)
   simp [Act.eval] at e0 e3
   simp [ay,ak,au,Act.eval,Region.binds] at hD
   simp [go_sem,gd,Oper.wp,e0,e3,hD]
   exact aA.mk (Below.refl _ _) hC (ak.mk _ _)
  intro wz fH
  intro v0 h0 v1 h1 v2 h2 v3 h3 v4 h4 v5 h5 v6 h6 v7 h7 v8 h8 v9 h9 v10 h10 v11 h11 v12 h12 v13 sJ v14 nD v15 wF v16 h16 v17 xB v18 h18
  have hl':v18=_:=h18
  subst hl'
  clear h0 h1 h2 h3 h4 h5 h6 h7 h8 h9 h10 h11 h12 sJ nD wF h16 xB h18
  refine eG.nil ?_
  go_wp2_with fail
  go_ret
  exact ⟨bG (by first | exact HR.out | exact HR.out.symm | (rw [← HR.out]; first | rfl | simp_all)),(HX.out.next fH).1⟩
 ·refine mV (fun w'=>Below W.heap.size W w') (fun w w'=>Below w.heap.size w w') [149,150,151,152,153,154,155,156,157,158,159,160,161,162,163,164,165,166,4] (by kernel_rfl) (by kernel_rfl) (fun _=>Below.refl _ _) (by rfl) (below_drewN (Below.refl _ _) 1) ?_
  apply aQ.step
  case aD=>
   intro β A w' hβ hC hO hD
   have e0:=hO 0 (by rfl)
   have e3:=hO 3 (by rfl)
   simp [Act.eval] at e0 e3
   simp [ay,ak,au,Act.eval,Region.binds] at hD
   simp [go_sem,gd,Oper.wp,e0,e3,hD]
   exact aA.mk (Below.refl _ _) hC (ak.mk _ _)
  apply aQ.step
  case aD=>
   intro β A w' hβ hC hO hD
   have e0:=hO 0 (by rfl)
   have e3:=hO 3 (by rfl)
   simp [Act.eval] at e0 e3
   simp [ay,ak,au,Act.eval,Region.binds] at hD
   simp [go_sem,gd,Oper.wp,e0,e3,hD]
   exact aA.mk (Below.refl _ _) hC (ak.mk _ _)
  apply aQ.step
  case aD=>
   intro β A w' hβ hC hO hD
   have e0:=hO 0 (by rfl)
   have e3:=hO 3 (by rfl)
   simp [Act.eval] at e0 e3
   simp [ay,ak,au,Act.eval,Region.binds] at hD
   simp [go_sem,gd,Oper.wp,e0,e3,hD,L2,hC]
   exact aA.mk (Below.refl _ _) hC (ak.mk _ _)
  refine aQ.some (fun v w'=> ∃b,v= .slice (some ⟨b,0,none⟩) 1 1∧dP w' w'.heap.size [8] (some ⟨b,0,none⟩) 0) ?_ ?_ ?_
  ·rintro v w w' hle ⟨b,rfl,hin⟩
   exact ⟨b,rfl,hin.same hle⟩
  ·intro β A w' hβ hC hO hD
   simp [go_sem,gd,Oper.wp]
   exact aA.mk (d:=_) (v:= .slice (some ⟨_,0,none⟩) 1 1) (aj _ _) (hC.trans ((aj _ _).mono hC.size)) ⟨_,rfl,eD _ 8 _⟩
  apply aQ.step
  case aD=>
   intro β A w' hβ hC hO hD
   simp [ay,ak,au,Act.eval,Region.binds] at hD
   obtain ⟨QX,QW,Zt,Px,Ht⟩:=hD
   simp [go_sem,gd,Oper.wp,QX,QW,Px]
   refine (gI p w' aK aM aG aH _ bn _ aV bs bt bc h.nm [8] _ 1 hi (by decide) (HP.out.same hC) Ht (HK.out _ hC)).mono ?_
   rintro e' w2 ⟨rfl,hb⟩
   exact aA.mk hb (hC.trans (hb.mono hC.size)) (ak.mk _ _)
  apply aQ.step
  case aD=>
   intro β A w' hβ hC hO hD
   have e0:=hO 0 (by rfl)
   have e3:=hO 3 (by rfl)
   simp [Act.eval] at e0 e3
   simp [ay,ak,au,Act.eval,Region.binds] at hD
   simp [go_sem,gd,Oper.wp,e0,e3,hD]
   exact aA.mk (Below.refl _ _) hC (ak.mk _ _)
  refine aQ.some (fun v w'=> ∃b,v= .slice (some ⟨b,0,none⟩) 2 2∧dP w' w'.heap.size [7,8] (some ⟨b,0,none⟩) 0) ?_ ?_ ?_
  ·rintro v w w' hle ⟨b,rfl,hin⟩
   exact ⟨b,rfl,hin.same hle⟩
  ·intro β A w' hβ hC hO hD
   simp [go_sem,gd,Oper.wp]
   exact aA.mk (d:=_) (v:= .slice (some ⟨_,0,none⟩) 2 2) (aj _ _) (hC.trans ((aj _ _).mono hC.size)) ⟨_,rfl,eu _ 7 8 _⟩
  apply aQ.step
  case aD=>
   intro β A w' hβ hC hO hD
   simp [ay,ak,au,Act.eval,Region.binds] at hD
   obtain ⟨QJ,⟨ZU,P6,IW⟩,-⟩:=hD
   simp [go_sem,gd,Oper.wp,QJ,P6]
   refine (hq ▸ eZ p w' aK aM aG aH (j:Int) bn aV bs bt bc ar [7,8] _ 2 (by decide) IW iZ.out (jk.out.same hC) (HK.out _ hC)).mono ?_
   rintro e' w2 ⟨rfl,hb⟩
   exact aA.mk hb (hC.trans (hb.mono hC.size)) (ak.mk _ _)
  apply aQ.step
  case aD=>
   intro β A w' hβ hC hO hD
   have e0:=hO 0 (by rfl)
   have e3:=hO 3 (by rfl)
   simp [Act.eval] at e0 e3
   simp [ay,ak,au,Act.eval,Region.binds] at hD
   simp [go_sem,gd,Oper.wp,e0,e3,hD]
   exact aA.mk (Below.refl _ _) hC (ak.mk _ _)
  refine aQ.step (v:=undef) ?_ ?_
  ·intro β A w' hβ hC hO hD
   simp [ay,ak,au,Act.eval,Region.binds] at hD
   simp [gd,Act.eval,hD]
   first | exact ak.mk _ _ | exact ⟨by rfl,ak.mk _ _⟩
  refine aQ.step (v:=undef) ?_ ?_
  ·intro β A w' hβ hC hO hD
   simp [ay,ak,au,Act.eval,Region.binds] at hD
   simp [gd,Act.eval,hD]
   first | exact ak.mk _ _ | exact ⟨by rfl,ak.mk _ _⟩
  refine aQ.step (v:=undef) ?_ ?_
  ·intro β A w' hβ hC hO hD
   simp [ay,ak,au,Act.eval,Region.binds] at hD
   simp [gd,Act.eval,hD]
   first | exact ak.mk _ _ | exact ⟨by rfl,ak.mk _ _⟩
  refine aQ.step (v:=undef) ?_ ?_
  ·intro β A w' hβ hC hO hD
   simp [ay,ak,au,Act.eval,Region.binds] at hD
   simp [gd,Act.eval,hD]
   first | exact ak.mk _ _ | exact ⟨by rfl,ak.mk _ _⟩
  refine aQ.step (v:=undef) ?_ ?_
  ·intro β A w' hβ hC hO hD
   simp [ay,ak,au,Act.eval,Region.binds] at hD
   simp [gd,Act.eval,hD]
   first | exact ak.mk _ _ | exact ⟨by rfl,ak.mk _ _⟩
  apply aQ.step
  case aD=>
   intro β A w' hβ hC hO hD
   have e0:=hO 0 (by rfl)
   have e3:=hO 3 (by rfl)
   simp [Act.eval] at e0 e3
   simp [ay,ak,au,Act.eval,Region.binds] at hD
   simp [go_sem,gd,Oper.wp,e0,e3,hD]
   exact aA.mk (Below.refl _ _) hC (ak.mk _ _)
  apply aQ.step
  case aD=>
   intro β A w' hβ hC hO hD
   simp [ay,ak,au,Act.eval,Region.binds] at hD
   simp [go_sem,gd,Oper.wp,hD]
   refine (dD true w').mono ?_
   rintro e' w2 ⟨rfl,rfl⟩
   exact aA.mk (Below.refl _ _) hC (ak.mk _ _)
  refine aQ.some (fun v w'=> ∃b,v= .slice (some ⟨b,0,none⟩) 2 2∧dP w' w'.heap.size [bD (mean p (j:Int) h.nm) [8],nest true] (some ⟨b,0,none⟩) 0) ?_ ?_ ?_
  ·rintro v w w' hle ⟨b,rfl,hin⟩
   exact ⟨b,rfl,hin.same hle⟩
  ·intro β A w' hβ hC hO hD
   simp [ay,ak,au,Act.eval,Region.binds] at hD
   simp [go_sem,gd,Oper.wp,hD]
   exact aA.mk (d:=_) (v:= .slice (some ⟨_,0,none⟩) 2 2) (aj _ _) (hC.trans ((aj _ _).mono hC.size)) ⟨_,rfl,eu _ _ _ _⟩
  apply aQ.step
  case aD=>
   intro β A w' hβ hC hO hD
   simp [ay,ak,au,Act.eval,Region.binds] at hD
   obtain ⟨⟨ac1,Qd,GZ⟩,-⟩:=hD
   simp [go_sem,gd,Oper.wp,Qd]
   refine (dF [bD (mean p (j:Int) h.nm) [8],nest true] w' _ _ (by simp [maxLen]) GZ).mono ?_
   rintro e' w2 ⟨rfl,rfl⟩
   exact aA.mk (Below.refl _ _) hC (ak.mk _ _)
  apply aQ.step
  case aD=>
   intro β A w' hβ hC hO hD
   have e0:=hO 0 (by rfl)
   have e3:=hO 3 (by rfl)
   simp [Act.eval] at e0 e3
   simp [ay,ak,au,Act.eval,Region.binds] at hD
   simp [go_sem,gd,Oper.wp,e0,e3,hD]
   exact aA.mk (Below.refl _ _) hC (ak.mk _ _)
  intro wz fH
  intro v0 h0 v1 h1 v2 h2 v3 h3 v4 h4 v5 h5 v6 h6 v7 h7 v8 h8 v9 h9 v10 h10 v11 h11 v12 h12 v13 sJ v14 nD v15 wF v16 h16 v17 xB v18 h18
  have hl':v18=_:=h18
  subst hl'
  clear h0 h1 h2 h3 h4 h5 h6 h7 h8 h9 h10 h11 h12 sJ nD wF h16 xB h18
  refine eG.nil ?_
  go_wp2_with fail
  go_ret
  exact ⟨bG (by first | exact HR.out | exact HR.out.symm | (rw [← HR.out]; first | rfl | simp_all)),(HX.out.next fH).1⟩
end
end Go.Proofs.YtdajkddgnfgijaaGreatDoor
end
