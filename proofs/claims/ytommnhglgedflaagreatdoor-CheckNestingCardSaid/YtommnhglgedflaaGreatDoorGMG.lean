/-
  Contract of the checker's statement at an operator that is none.
  Contract of the checker's statement, operator by operator.
-/
import Derived.Test.YtommnhglgedflaaGreatDoorGMF
section
set_option linter.unusedSimpArgs false
set_option linter.unusedVariables false
namespace Go.Proofs.YtommnhglgedflaaGreatDoor
open Go.RowKit
open Md
section
variable (p : Pr) (w : World) (aoD aoT : Option Addr) (capD capT : Nat) (i : Int) (aoA : Option Addr) (capA bs bt bc : Nat)

set_option maxHeartbeats 4000000 in
set_option maxRecDepth 100000 in
theorem ckStmt0 (h : StH) (b e ar : StL) (s : Sl) (hi : I64 i) (hp : p.At w aoD aoT) (hin : StIn w h b e s) (hkw : KwLaid w) (har : ar.len ≤ maxLen) (hat : ar.At w w.heap.size aoA 0) (hh : Holds w (ckF bc p aoD aoT capD capT i aoA ar.len capA bs bt)) (hop : h.op < 1 ∨ 15 < h.op) :
    Calls Tryz.prog 136 #[.pointer (some ⟨bc, 0, none⟩), stV h b e s] w fun e' w' => e' = .returned (.int .i64 (0)) ∧ Below w.heap.size w w' := by
  have HH := Lib.hid (show Sit w w _ from ⟨Below.refl _ _, hh⟩)
  obtain ⟨aoi, capi, aox, capx, aob, capb, aoe, cape⟩ := s
  have hxk := hin.1.2.2.2.2.2.1
  have hns := hin.1.2.2.1
  generalize hres : 0 = res
  have HR := Lib.hid hres
  have HOP := Lib.hid hop
  have HSI := Lib.hid hin
  clear hres hop
  unfold stV
  dsimp only
  go_enter Tryz.func136, Tryz.ntmps136
  go_upto_region 1 with fail
  generalize hW : World.alloc w _ = W
  generalize Value.agg #[_, _, _, _, _, _, _, _, _, _, _] = a0
  have HX : Hid (Sit w W (stF w.heap.size h b e ⟨aoi, capi, aox, capx, aob, capb, aoe, cape⟩ (ckF bc p aoD aoT capD capT i aoA ar.len capA bs bt))) := Lib.hid (by rw [← hW]; exact HH.out.box11 rfl _ _ _ _ _ _ _ _ _ _ _ _)
  clear hW HH
  have HP := Lib.hid (hp.same HX.out.1)
  have HKW := Lib.hid (hkw.same HX.out.1)
  have HAX := Lib.hid (hin.2.2.1.same HX.out.1)
  have HAR := Lib.hid (hat.same HX.out.1)
  have HAL := Lib.hid har
  have HK : Hid (∀ w', Below W.heap.size W w' → Holds w' (ckF bc p aoD aoT capD capT i aoA ar.len capA bs bt)) := Lib.hid (fun w' hb => (HX.out.next hb).2.2.2.2.2.2.2.2.2.2.2.2)
  clear hp hkw hh hin hat har
  have L0 : ∀ w', Below W.heap.size W w' → w'.cell? ⟨w.heap.size, 0, none⟩ = some (.int .i64 h.op) := fun w' hb => (HX.out.next hb).2.1.2
  have L2 : ∀ w', Below W.heap.size W w' → w'.cell? ⟨w.heap.size, 2, none⟩ = some (.string h.nm) := fun w' hb => (HX.out.next hb).2.2.2.1.2
  have L3 : ∀ w', Below W.heap.size W w' → w'.cell? ⟨w.heap.size, 3, none⟩ = some (.string h.arg) := fun w' hb => (HX.out.next hb).2.2.2.2.1.2
  have L5 : ∀ w', Below W.heap.size W w' → w'.cell? ⟨w.heap.size, 5, none⟩ = some (.int .i64 h.xop) := fun w' hb => (HX.out.next hb).2.2.2.2.2.2.1.2
  have L6 : ∀ w', Below W.heap.size W w' → w'.cell? ⟨w.heap.size, 6, none⟩ = some (.int .i64 h.xn) := fun w' hb => (HX.out.next hb).2.2.2.2.2.2.2.1.2
  have L7 : ∀ w', Below W.heap.size W w' → w'.cell? ⟨w.heap.size, 7, none⟩ = some (.string h.xnm) := fun w' hb => (HX.out.next hb).2.2.2.2.2.2.2.2.1.2
  have L8 : ∀ w', Below W.heap.size W w' → w'.cell? ⟨w.heap.size, 8, none⟩ = some (.slice aox h.xkids.len capx) := fun w' hb => (HX.out.next hb).2.2.2.2.2.2.2.2.2.1.2
  have hB0 : Below W.heap.size W W := Below.refl _ _
  have l0 := L0 W hB0
  have hop := HOP.out
  have g1 : (h.op == 1) = false := by rw [beq_eq_false_iff_ne]; omega
  have g2 : (h.op == 2) = false := by rw [beq_eq_false_iff_ne]; omega
  have g3 : (h.op == 3) = false := by rw [beq_eq_false_iff_ne]; omega
  have g4 : (h.op == 4) = false := by rw [beq_eq_false_iff_ne]; omega
  have g5 : (h.op == 5) = false := by rw [beq_eq_false_iff_ne]; omega
  have g6 : (h.op == 6) = false := by rw [beq_eq_false_iff_ne]; omega
  have g7 : (h.op == 7) = false := by rw [beq_eq_false_iff_ne]; omega
  have g8 : (h.op == 8) = false := by rw [beq_eq_false_iff_ne]; omega
  have g9 : (h.op == 9) = false := by rw [beq_eq_false_iff_ne]; omega
  have g10 : (h.op == 10) = false := by rw [beq_eq_false_iff_ne]; omega
  have g11 : (h.op == 11) = false := by rw [beq_eq_false_iff_ne]; omega
  have g12 : (h.op == 12) = false := by rw [beq_eq_false_iff_ne]; omega
  have g13 : (h.op == 13) = false := by rw [beq_eq_false_iff_ne]; omega
  have g14 : (h.op == 14) = false := by rw [beq_eq_false_iff_ne]; omega
  have g15 : (h.op == 15) = false := by rw [beq_eq_false_iff_ne]; omega
  clear hop
  go_wp2_with fail
  go_ret
  exact ⟨rfl, HX.out.1⟩
end
end Go.Proofs.YtommnhglgedflaaGreatDoor
end
section
set_option linter.unusedSimpArgs false
set_option linter.unusedVariables false
namespace Go.Proofs.YtommnhglgedflaaGreatDoor
open Go.RowKit
open Md
section
variable (p : Pr) (w : World) (aoD aoT : Option Addr) (capD capT : Nat) (i : Int) (aoA : Option Addr) (capA bs bt bc : Nat)

set_option maxHeartbeats 4000000 in
set_option maxRecDepth 100000 in
theorem ckStmt4 (h : StH) (b e ar : StL) (s : Sl) (hi : I64 i) (hp : p.At w aoD aoT) (hin : StIn w h b e s) (hkw : KwLaid w) (har : ar.len ≤ maxLen) (hat : ar.At w w.heap.size aoA 0) (hh : Holds w (ckF bc p aoD aoT capD capT i aoA ar.len capA bs bt)) (hop : h.op = 4) :
    Calls Tryz.prog 136 #[.pointer (some ⟨bc, 0, none⟩), stV h b e s] w fun e' w' => e' = .returned (.int .i64 (firstE [kindE (mean p i h.nm) [4], nest (insP ar [7] || insN ar h.nm [4])])) ∧ Below w.heap.size w w' := by
  have HH := Lib.hid (show Sit w w _ from ⟨Below.refl _ _, hh⟩)
  obtain ⟨aoi, capi, aox, capx, aob, capb, aoe, cape⟩ := s
  have hxk := hin.1.2.2.2.2.2.1
  have hns := hin.1.2.2.1
  generalize hres : firstE [kindE (mean p i h.nm) [4], nest (insP ar [7] || insN ar h.nm [4])] = res
  have HR := Lib.hid hres
  have HOP := Lib.hid hop
  have HSI := Lib.hid hin
  clear hres hop
  unfold stV
  dsimp only
  go_enter Tryz.func136, Tryz.ntmps136
  go_upto_region 1 with fail
  generalize hW : World.alloc w _ = W
  generalize Value.agg #[_, _, _, _, _, _, _, _, _, _, _] = a0
  have HX : Hid (Sit w W (stF w.heap.size h b e ⟨aoi, capi, aox, capx, aob, capb, aoe, cape⟩ (ckF bc p aoD aoT capD capT i aoA ar.len capA bs bt))) := Lib.hid (by rw [← hW]; exact HH.out.box11 rfl _ _ _ _ _ _ _ _ _ _ _ _)
  clear hW HH
  have HP := Lib.hid (hp.same HX.out.1)
  have HKW := Lib.hid (hkw.same HX.out.1)
  have HAX := Lib.hid (hin.2.2.1.same HX.out.1)
  have HAR := Lib.hid (hat.same HX.out.1)
  have HAL := Lib.hid har
  have HK : Hid (∀ w', Below W.heap.size W w' → Holds w' (ckF bc p aoD aoT capD capT i aoA ar.len capA bs bt)) := Lib.hid (fun w' hb => (HX.out.next hb).2.2.2.2.2.2.2.2.2.2.2.2)
  clear hp hkw hh hin hat har
  have L0 : ∀ w', Below W.heap.size W w' → w'.cell? ⟨w.heap.size, 0, none⟩ = some (.int .i64 h.op) := fun w' hb => (HX.out.next hb).2.1.2
  have L2 : ∀ w', Below W.heap.size W w' → w'.cell? ⟨w.heap.size, 2, none⟩ = some (.string h.nm) := fun w' hb => (HX.out.next hb).2.2.2.1.2
  have L3 : ∀ w', Below W.heap.size W w' → w'.cell? ⟨w.heap.size, 3, none⟩ = some (.string h.arg) := fun w' hb => (HX.out.next hb).2.2.2.2.1.2
  have L5 : ∀ w', Below W.heap.size W w' → w'.cell? ⟨w.heap.size, 5, none⟩ = some (.int .i64 h.xop) := fun w' hb => (HX.out.next hb).2.2.2.2.2.2.1.2
  have L6 : ∀ w', Below W.heap.size W w' → w'.cell? ⟨w.heap.size, 6, none⟩ = some (.int .i64 h.xn) := fun w' hb => (HX.out.next hb).2.2.2.2.2.2.2.1.2
  have L7 : ∀ w', Below W.heap.size W w' → w'.cell? ⟨w.heap.size, 7, none⟩ = some (.string h.xnm) := fun w' hb => (HX.out.next hb).2.2.2.2.2.2.2.2.1.2
  have L8 : ∀ w', Below W.heap.size W w' → w'.cell? ⟨w.heap.size, 8, none⟩ = some (.slice aox h.xkids.len capx) := fun w' hb => (HX.out.next hb).2.2.2.2.2.2.2.2.2.1.2
  have hB0 : Below W.heap.size W W := Below.refl _ _
  have l0 := L0 W hB0
  have hop := HOP.out
  have g1 : (h.op == 1) = false := by rw [hop]; rfl
  have g2 : (h.op == 2) = false := by rw [hop]; rfl
  have g3 : (h.op == 3) = false := by rw [hop]; rfl
  have g4 : (h.op == 4) = true := by rw [hop]; rfl
  have g5 : (h.op == 5) = false := by rw [hop]; rfl
  have g6 : (h.op == 6) = false := by rw [hop]; rfl
  have g7 : (h.op == 7) = false := by rw [hop]; rfl
  have g8 : (h.op == 8) = false := by rw [hop]; rfl
  have g9 : (h.op == 9) = false := by rw [hop]; rfl
  have g10 : (h.op == 10) = false := by rw [hop]; rfl
  have g11 : (h.op == 11) = false := by rw [hop]; rfl
  have g12 : (h.op == 12) = false := by rw [hop]; rfl
  have g13 : (h.op == 13) = false := by rw [hop]; rfl
  have g14 : (h.op == 14) = false := by rw [hop]; rfl
  have g15 : (h.op == 15) = false := by rw [hop]; rfl
  clear hop
  go_wp2_with fail
  refine (ckKind_any p _ aoD aoT capD capT i aoA ar.len capA bs bt bc h.nm [4] _ 1 hi (by decide) (HP.out.same (hB0.alloc hB0.size _)) (inAt_one _ 4 _) (HK.out _ (hB0.alloc hB0.size _))).mono ?_
  rintro e' w1 ⟨rfl, hb⟩
  have hB1 := (hB0.alloc hB0.size _).trans (hb.mono (hB0.alloc hB0.size _).size)
  clear hb
  go_wp2_with fail
  refine (ckInside_any p _ aoD aoT capD capT i aoA capA bs bt bc ar [7] _ 1 (by decide) (inAt_one _ 7 _) HAL.out (HAR.out.same (hB1.alloc hB1.size _)) (HK.out _ (hB1.alloc hB1.size _))).mono ?_
  rintro e' w2 ⟨rfl, hb⟩
  have hB2 := (hB1.alloc hB1.size _).trans (hb.mono (hB1.alloc hB1.size _).size)
  clear hb
  cases hq : insP ar [7]
  · go_wp2_with fail
    refine (ckInsideNamed_any p _ aoD aoT capD capT i aoA capA bs bt bc ar h.nm [4] _ 1 (by decide) (inAt_one _ 4 _) HAL.out (HAR.out.same (hB2.alloc hB2.size _)) (HK.out _ (hB2.alloc hB2.size _))).mono ?_
    rintro e' w3 ⟨rfl, hb⟩
    have hB3 := (hB2.alloc hB2.size _).trans (hb.mono (hB2.alloc hB2.size _).size)
    clear hb
    cases hq2 : insN ar h.nm [4]
    · go_wp2_with fail
      refine (nesting_any _ _).mono ?_
      rintro e' wn ⟨rfl, rfl⟩
      go_wp2_with fail
      refine (ckFirst_any [kindE (mean p i h.nm) [4], nest false] _ _ 2 (by simp [maxLen]) (inAt_two _ _ _ _)).mono ?_
      rintro e' wf ⟨rfl, rfl⟩
      have hBf := hB3.alloc hB3.size (.cells #[] 0)
      go_wp2_with fail
      go_ret
      exact ⟨ret_int (by first | exact HR.out | exact HR.out.symm | (rw [← HR.out]; first | rfl | simp_all)), (HX.out.next (hB3.alloc hB3.size _)).1⟩
    · go_wp2_with fail
      refine (nesting_any _ _).mono ?_
      rintro e' wn ⟨rfl, rfl⟩
      go_wp2_with fail
      refine (ckFirst_any [kindE (mean p i h.nm) [4], nest true] _ _ 2 (by simp [maxLen]) (inAt_two _ _ _ _)).mono ?_
      rintro e' wf ⟨rfl, rfl⟩
      have hBf := hB3.alloc hB3.size (.cells #[] 0)
      go_wp2_with fail
      go_ret
      exact ⟨ret_int (by first | exact HR.out | exact HR.out.symm | (rw [← HR.out]; first | rfl | simp_all)), (HX.out.next (hB3.alloc hB3.size _)).1⟩
  · go_wp2_with fail
    refine (nesting_any _ _).mono ?_
    rintro e' wn ⟨rfl, rfl⟩
    go_wp2_with fail
    refine (ckFirst_any [kindE (mean p i h.nm) [4], nest true] _ _ 2 (by simp [maxLen]) (inAt_two _ _ _ _)).mono ?_
    rintro e' wf ⟨rfl, rfl⟩
    have hBf := hB2.alloc hB2.size (.cells #[] 0)
    go_wp2_with fail
    go_ret
    exact ⟨ret_int (by first | exact HR.out | exact HR.out.symm | (rw [← HR.out]; first | rfl | simp_all)), (HX.out.next (hB2.alloc hB2.size _)).1⟩

set_option maxHeartbeats 4000000 in
set_option maxRecDepth 100000 in
theorem ckStmt7 (h : StH) (b e ar : StL) (s : Sl) (hi : I64 i) (hp : p.At w aoD aoT) (hin : StIn w h b e s) (hkw : KwLaid w) (har : ar.len ≤ maxLen) (hat : ar.At w w.heap.size aoA 0) (hh : Holds w (ckF bc p aoD aoT capD capT i aoA ar.len capA bs bt)) (hop : h.op = 7) :
    Calls Tryz.prog 136 #[.pointer (some ⟨bc, 0, none⟩), stV h b e s] w fun e' w' => e' = .returned (.int .i64 (nest (insP ar [7]))) ∧ Below w.heap.size w w' := by
  have HH := Lib.hid (show Sit w w _ from ⟨Below.refl _ _, hh⟩)
  obtain ⟨aoi, capi, aox, capx, aob, capb, aoe, cape⟩ := s
  have hxk := hin.1.2.2.2.2.2.1
  have hns := hin.1.2.2.1
  generalize hres : nest (insP ar [7]) = res
  have HR := Lib.hid hres
  have HOP := Lib.hid hop
  have HSI := Lib.hid hin
  clear hres hop
  unfold stV
  dsimp only
  go_enter Tryz.func136, Tryz.ntmps136
  go_upto_region 1 with fail
  generalize hW : World.alloc w _ = W
  generalize Value.agg #[_, _, _, _, _, _, _, _, _, _, _] = a0
  have HX : Hid (Sit w W (stF w.heap.size h b e ⟨aoi, capi, aox, capx, aob, capb, aoe, cape⟩ (ckF bc p aoD aoT capD capT i aoA ar.len capA bs bt))) := Lib.hid (by rw [← hW]; exact HH.out.box11 rfl _ _ _ _ _ _ _ _ _ _ _ _)
  clear hW HH
  have HP := Lib.hid (hp.same HX.out.1)
  have HKW := Lib.hid (hkw.same HX.out.1)
  have HAX := Lib.hid (hin.2.2.1.same HX.out.1)
  have HAR := Lib.hid (hat.same HX.out.1)
  have HAL := Lib.hid har
  have HK : Hid (∀ w', Below W.heap.size W w' → Holds w' (ckF bc p aoD aoT capD capT i aoA ar.len capA bs bt)) := Lib.hid (fun w' hb => (HX.out.next hb).2.2.2.2.2.2.2.2.2.2.2.2)
  clear hp hkw hh hin hat har
  have L0 : ∀ w', Below W.heap.size W w' → w'.cell? ⟨w.heap.size, 0, none⟩ = some (.int .i64 h.op) := fun w' hb => (HX.out.next hb).2.1.2
  have L2 : ∀ w', Below W.heap.size W w' → w'.cell? ⟨w.heap.size, 2, none⟩ = some (.string h.nm) := fun w' hb => (HX.out.next hb).2.2.2.1.2
  have L3 : ∀ w', Below W.heap.size W w' → w'.cell? ⟨w.heap.size, 3, none⟩ = some (.string h.arg) := fun w' hb => (HX.out.next hb).2.2.2.2.1.2
  have L5 : ∀ w', Below W.heap.size W w' → w'.cell? ⟨w.heap.size, 5, none⟩ = some (.int .i64 h.xop) := fun w' hb => (HX.out.next hb).2.2.2.2.2.2.1.2
  have L6 : ∀ w', Below W.heap.size W w' → w'.cell? ⟨w.heap.size, 6, none⟩ = some (.int .i64 h.xn) := fun w' hb => (HX.out.next hb).2.2.2.2.2.2.2.1.2
  have L7 : ∀ w', Below W.heap.size W w' → w'.cell? ⟨w.heap.size, 7, none⟩ = some (.string h.xnm) := fun w' hb => (HX.out.next hb).2.2.2.2.2.2.2.2.1.2
  have L8 : ∀ w', Below W.heap.size W w' → w'.cell? ⟨w.heap.size, 8, none⟩ = some (.slice aox h.xkids.len capx) := fun w' hb => (HX.out.next hb).2.2.2.2.2.2.2.2.2.1.2
  have hB0 : Below W.heap.size W W := Below.refl _ _
  have l0 := L0 W hB0
  have hop := HOP.out
  have g1 : (h.op == 1) = false := by rw [hop]; rfl
  have g2 : (h.op == 2) = false := by rw [hop]; rfl
  have g3 : (h.op == 3) = false := by rw [hop]; rfl
  have g4 : (h.op == 4) = false := by rw [hop]; rfl
  have g5 : (h.op == 5) = false := by rw [hop]; rfl
  have g6 : (h.op == 6) = false := by rw [hop]; rfl
  have g7 : (h.op == 7) = true := by rw [hop]; rfl
  have g8 : (h.op == 8) = false := by rw [hop]; rfl
  have g9 : (h.op == 9) = false := by rw [hop]; rfl
  have g10 : (h.op == 10) = false := by rw [hop]; rfl
  have g11 : (h.op == 11) = false := by rw [hop]; rfl
  have g12 : (h.op == 12) = false := by rw [hop]; rfl
  have g13 : (h.op == 13) = false := by rw [hop]; rfl
  have g14 : (h.op == 14) = false := by rw [hop]; rfl
  have g15 : (h.op == 15) = false := by rw [hop]; rfl
  clear hop
  go_wp2_with fail
  refine (ckInside_any p _ aoD aoT capD capT i aoA capA bs bt bc ar [7] _ 1 (by decide) (inAt_one _ 7 _) HAL.out (HAR.out.same (hB0.alloc hB0.size _)) (HK.out _ (hB0.alloc hB0.size _))).mono ?_
  rintro e' w1 ⟨rfl, hb⟩
  have hB1 := (hB0.alloc hB0.size _).trans (hb.mono (hB0.alloc hB0.size _).size)
  clear hb
  go_wp2_with fail
  refine (nesting_any _ _).mono ?_
  rintro e' wn ⟨rfl, rfl⟩
  go_wp2_with fail
  go_ret
  exact ⟨ret_int (by first | exact HR.out | exact HR.out.symm | (rw [← HR.out]; first | rfl | simp_all)), (HX.out.next hB1).1⟩

set_option maxHeartbeats 4000000 in
set_option maxRecDepth 100000 in
theorem ckStmt8 (h : StH) (b e ar : StL) (s : Sl) (hi : I64 i) (hp : p.At w aoD aoT) (hin : StIn w h b e s) (hkw : KwLaid w) (har : ar.len ≤ maxLen) (hat : ar.At w w.heap.size aoA 0) (hh : Holds w (ckF bc p aoD aoT capD capT i aoA ar.len capA bs bt)) (hop : h.op = 8) :
    Calls Tryz.prog 136 #[.pointer (some ⟨bc, 0, none⟩), stV h b e s] w fun e' w' => e' = .returned (.int .i64 (nest (insP ar [7, 8]))) ∧ Below w.heap.size w w' := by
  have HH := Lib.hid (show Sit w w _ from ⟨Below.refl _ _, hh⟩)
  obtain ⟨aoi, capi, aox, capx, aob, capb, aoe, cape⟩ := s
  have hxk := hin.1.2.2.2.2.2.1
  have hns := hin.1.2.2.1
  generalize hres : nest (insP ar [7, 8]) = res
  have HR := Lib.hid hres
  have HOP := Lib.hid hop
  have HSI := Lib.hid hin
  clear hres hop
  unfold stV
  dsimp only
  go_enter Tryz.func136, Tryz.ntmps136
  go_upto_region 1 with fail
  generalize hW : World.alloc w _ = W
  generalize Value.agg #[_, _, _, _, _, _, _, _, _, _, _] = a0
  have HX : Hid (Sit w W (stF w.heap.size h b e ⟨aoi, capi, aox, capx, aob, capb, aoe, cape⟩ (ckF bc p aoD aoT capD capT i aoA ar.len capA bs bt))) := Lib.hid (by rw [← hW]; exact HH.out.box11 rfl _ _ _ _ _ _ _ _ _ _ _ _)
  clear hW HH
  have HP := Lib.hid (hp.same HX.out.1)
  have HKW := Lib.hid (hkw.same HX.out.1)
  have HAX := Lib.hid (hin.2.2.1.same HX.out.1)
  have HAR := Lib.hid (hat.same HX.out.1)
  have HAL := Lib.hid har
  have HK : Hid (∀ w', Below W.heap.size W w' → Holds w' (ckF bc p aoD aoT capD capT i aoA ar.len capA bs bt)) := Lib.hid (fun w' hb => (HX.out.next hb).2.2.2.2.2.2.2.2.2.2.2.2)
  clear hp hkw hh hin hat har
  have L0 : ∀ w', Below W.heap.size W w' → w'.cell? ⟨w.heap.size, 0, none⟩ = some (.int .i64 h.op) := fun w' hb => (HX.out.next hb).2.1.2
  have L2 : ∀ w', Below W.heap.size W w' → w'.cell? ⟨w.heap.size, 2, none⟩ = some (.string h.nm) := fun w' hb => (HX.out.next hb).2.2.2.1.2
  have L3 : ∀ w', Below W.heap.size W w' → w'.cell? ⟨w.heap.size, 3, none⟩ = some (.string h.arg) := fun w' hb => (HX.out.next hb).2.2.2.2.1.2
  have L5 : ∀ w', Below W.heap.size W w' → w'.cell? ⟨w.heap.size, 5, none⟩ = some (.int .i64 h.xop) := fun w' hb => (HX.out.next hb).2.2.2.2.2.2.1.2
  have L6 : ∀ w', Below W.heap.size W w' → w'.cell? ⟨w.heap.size, 6, none⟩ = some (.int .i64 h.xn) := fun w' hb => (HX.out.next hb).2.2.2.2.2.2.2.1.2
  have L7 : ∀ w', Below W.heap.size W w' → w'.cell? ⟨w.heap.size, 7, none⟩ = some (.string h.xnm) := fun w' hb => (HX.out.next hb).2.2.2.2.2.2.2.2.1.2
  have L8 : ∀ w', Below W.heap.size W w' → w'.cell? ⟨w.heap.size, 8, none⟩ = some (.slice aox h.xkids.len capx) := fun w' hb => (HX.out.next hb).2.2.2.2.2.2.2.2.2.1.2
  have hB0 : Below W.heap.size W W := Below.refl _ _
  have l0 := L0 W hB0
  have hop := HOP.out
  have g1 : (h.op == 1) = false := by rw [hop]; rfl
  have g2 : (h.op == 2) = false := by rw [hop]; rfl
  have g3 : (h.op == 3) = false := by rw [hop]; rfl
  have g4 : (h.op == 4) = false := by rw [hop]; rfl
  have g5 : (h.op == 5) = false := by rw [hop]; rfl
  have g6 : (h.op == 6) = false := by rw [hop]; rfl
  have g7 : (h.op == 7) = false := by rw [hop]; rfl
  have g8 : (h.op == 8) = true := by rw [hop]; rfl
  have g9 : (h.op == 9) = false := by rw [hop]; rfl
  have g10 : (h.op == 10) = false := by rw [hop]; rfl
  have g11 : (h.op == 11) = false := by rw [hop]; rfl
  have g12 : (h.op == 12) = false := by rw [hop]; rfl
  have g13 : (h.op == 13) = false := by rw [hop]; rfl
  have g14 : (h.op == 14) = false := by rw [hop]; rfl
  have g15 : (h.op == 15) = false := by rw [hop]; rfl
  clear hop
  go_wp2_with fail
  refine (ckInside_any p _ aoD aoT capD capT i aoA capA bs bt bc ar [7, 8] _ 2 (by decide) (inAt_two _ 7 8 _) HAL.out (HAR.out.same (hB0.alloc hB0.size _)) (HK.out _ (hB0.alloc hB0.size _))).mono ?_
  rintro e' w1 ⟨rfl, hb⟩
  have hB1 := (hB0.alloc hB0.size _).trans (hb.mono (hB0.alloc hB0.size _).size)
  clear hb
  go_wp2_with fail
  refine (nesting_any _ _).mono ?_
  rintro e' wn ⟨rfl, rfl⟩
  go_wp2_with fail
  go_ret
  exact ⟨ret_int (by first | exact HR.out | exact HR.out.symm | (rw [← HR.out]; first | rfl | simp_all)), (HX.out.next hB1).1⟩

set_option maxHeartbeats 4000000 in
set_option maxRecDepth 100000 in
theorem ckStmt56 (h : StH) (b e ar : StL) (s : Sl) (hi : I64 i) (hp : p.At w aoD aoT) (hin : StIn w h b e s) (hkw : KwLaid w) (har : ar.len ≤ maxLen) (hat : ar.At w w.heap.size aoA 0) (hh : Holds w (ckF bc p aoD aoT capD capT i aoA ar.len capA bs bt)) (hop : h.op = 5 ∨ h.op = 6) :
    Calls Tryz.prog 136 #[.pointer (some ⟨bc, 0, none⟩), stV h b e s] w fun e' w' => e' = .returned (.int .i64 (firstE [kindE (mean p i h.nm) [5], nest (insP ar [7] || insN ar h.nm [5, 6])])) ∧ Below w.heap.size w w' := by
  have HH := Lib.hid (show Sit w w _ from ⟨Below.refl _ _, hh⟩)
  obtain ⟨aoi, capi, aox, capx, aob, capb, aoe, cape⟩ := s
  have hxk := hin.1.2.2.2.2.2.1
  have hns := hin.1.2.2.1
  generalize hres : firstE [kindE (mean p i h.nm) [5], nest (insP ar [7] || insN ar h.nm [5, 6])] = res
  have HR := Lib.hid hres
  have HOP := Lib.hid hop
  have HSI := Lib.hid hin
  clear hres hop
  unfold stV
  dsimp only
  go_enter Tryz.func136, Tryz.ntmps136
  go_upto_region 1 with fail
  generalize hW : World.alloc w _ = W
  generalize Value.agg #[_, _, _, _, _, _, _, _, _, _, _] = a0
  have HX : Hid (Sit w W (stF w.heap.size h b e ⟨aoi, capi, aox, capx, aob, capb, aoe, cape⟩ (ckF bc p aoD aoT capD capT i aoA ar.len capA bs bt))) := Lib.hid (by rw [← hW]; exact HH.out.box11 rfl _ _ _ _ _ _ _ _ _ _ _ _)
  clear hW HH
  have HP := Lib.hid (hp.same HX.out.1)
  have HKW := Lib.hid (hkw.same HX.out.1)
  have HAX := Lib.hid (hin.2.2.1.same HX.out.1)
  have HAR := Lib.hid (hat.same HX.out.1)
  have HAL := Lib.hid har
  have HK : Hid (∀ w', Below W.heap.size W w' → Holds w' (ckF bc p aoD aoT capD capT i aoA ar.len capA bs bt)) := Lib.hid (fun w' hb => (HX.out.next hb).2.2.2.2.2.2.2.2.2.2.2.2)
  clear hp hkw hh hin hat har
  have L0 : ∀ w', Below W.heap.size W w' → w'.cell? ⟨w.heap.size, 0, none⟩ = some (.int .i64 h.op) := fun w' hb => (HX.out.next hb).2.1.2
  have L2 : ∀ w', Below W.heap.size W w' → w'.cell? ⟨w.heap.size, 2, none⟩ = some (.string h.nm) := fun w' hb => (HX.out.next hb).2.2.2.1.2
  have L3 : ∀ w', Below W.heap.size W w' → w'.cell? ⟨w.heap.size, 3, none⟩ = some (.string h.arg) := fun w' hb => (HX.out.next hb).2.2.2.2.1.2
  have L5 : ∀ w', Below W.heap.size W w' → w'.cell? ⟨w.heap.size, 5, none⟩ = some (.int .i64 h.xop) := fun w' hb => (HX.out.next hb).2.2.2.2.2.2.1.2
  have L6 : ∀ w', Below W.heap.size W w' → w'.cell? ⟨w.heap.size, 6, none⟩ = some (.int .i64 h.xn) := fun w' hb => (HX.out.next hb).2.2.2.2.2.2.2.1.2
  have L7 : ∀ w', Below W.heap.size W w' → w'.cell? ⟨w.heap.size, 7, none⟩ = some (.string h.xnm) := fun w' hb => (HX.out.next hb).2.2.2.2.2.2.2.2.1.2
  have L8 : ∀ w', Below W.heap.size W w' → w'.cell? ⟨w.heap.size, 8, none⟩ = some (.slice aox h.xkids.len capx) := fun w' hb => (HX.out.next hb).2.2.2.2.2.2.2.2.2.1.2
  have hB0 : Below W.heap.size W W := Below.refl _ _
  have l0 := L0 W hB0
  have hop := HOP.out
  rcases hop with hop | hop
  · have g1 : (h.op == 1) = false := by rw [hop]; rfl
    have g2 : (h.op == 2) = false := by rw [hop]; rfl
    have g3 : (h.op == 3) = false := by rw [hop]; rfl
    have g4 : (h.op == 4) = false := by rw [hop]; rfl
    have g5 : (h.op == 5) = true := by rw [hop]; rfl
    have g6 : (h.op == 6) = false := by rw [hop]; rfl
    have g7 : (h.op == 7) = false := by rw [hop]; rfl
    have g8 : (h.op == 8) = false := by rw [hop]; rfl
    have g9 : (h.op == 9) = false := by rw [hop]; rfl
    have g10 : (h.op == 10) = false := by rw [hop]; rfl
    have g11 : (h.op == 11) = false := by rw [hop]; rfl
    have g12 : (h.op == 12) = false := by rw [hop]; rfl
    have g13 : (h.op == 13) = false := by rw [hop]; rfl
    have g14 : (h.op == 14) = false := by rw [hop]; rfl
    have g15 : (h.op == 15) = false := by rw [hop]; rfl
    clear hop
    go_wp2_with fail
    refine (ckKind_any p _ aoD aoT capD capT i aoA ar.len capA bs bt bc h.nm [5] _ 1 hi (by decide) (HP.out.same (hB0.alloc hB0.size _)) (inAt_one _ 5 _) (HK.out _ (hB0.alloc hB0.size _))).mono ?_
    rintro e' w1 ⟨rfl, hb⟩
    have hB1 := (hB0.alloc hB0.size _).trans (hb.mono (hB0.alloc hB0.size _).size)
    clear hb
    go_wp2_with fail
    refine (ckInside_any p _ aoD aoT capD capT i aoA capA bs bt bc ar [7] _ 1 (by decide) (inAt_one _ 7 _) HAL.out (HAR.out.same (hB1.alloc hB1.size _)) (HK.out _ (hB1.alloc hB1.size _))).mono ?_
    rintro e' w2 ⟨rfl, hb⟩
    have hB2 := (hB1.alloc hB1.size _).trans (hb.mono (hB1.alloc hB1.size _).size)
    clear hb
    cases hq : insP ar [7]
    · go_wp2_with fail
      refine (ckInsideNamed_any p _ aoD aoT capD capT i aoA capA bs bt bc ar h.nm [5, 6] _ 2 (by decide) (inAt_two _ 5 6 _) HAL.out (HAR.out.same (hB2.alloc hB2.size _)) (HK.out _ (hB2.alloc hB2.size _))).mono ?_
      rintro e' w3 ⟨rfl, hb⟩
      have hB3 := (hB2.alloc hB2.size _).trans (hb.mono (hB2.alloc hB2.size _).size)
      clear hb
      cases hq2 : insN ar h.nm [5, 6]
      · go_wp2_with fail
        refine (nesting_any _ _).mono ?_
        rintro e' wn ⟨rfl, rfl⟩
        go_wp2_with fail
        refine (ckFirst_any [kindE (mean p i h.nm) [5], nest false] _ _ 2 (by simp [maxLen]) (inAt_two _ _ _ _)).mono ?_
        rintro e' wf ⟨rfl, rfl⟩
        have hBf := hB3.alloc hB3.size (.cells #[] 0)
        go_wp2_with fail
        go_ret
        exact ⟨ret_int (by first | exact HR.out | exact HR.out.symm | (rw [← HR.out]; first | rfl | simp_all)), (HX.out.next (hB3.alloc hB3.size _)).1⟩
      · go_wp2_with fail
        refine (nesting_any _ _).mono ?_
        rintro e' wn ⟨rfl, rfl⟩
        go_wp2_with fail
        refine (ckFirst_any [kindE (mean p i h.nm) [5], nest true] _ _ 2 (by simp [maxLen]) (inAt_two _ _ _ _)).mono ?_
        rintro e' wf ⟨rfl, rfl⟩
        have hBf := hB3.alloc hB3.size (.cells #[] 0)
        go_wp2_with fail
        go_ret
        exact ⟨ret_int (by first | exact HR.out | exact HR.out.symm | (rw [← HR.out]; first | rfl | simp_all)), (HX.out.next (hB3.alloc hB3.size _)).1⟩
    · go_wp2_with fail
      refine (nesting_any _ _).mono ?_
      rintro e' wn ⟨rfl, rfl⟩
      go_wp2_with fail
      refine (ckFirst_any [kindE (mean p i h.nm) [5], nest true] _ _ 2 (by simp [maxLen]) (inAt_two _ _ _ _)).mono ?_
      rintro e' wf ⟨rfl, rfl⟩
      have hBf := hB2.alloc hB2.size (.cells #[] 0)
      go_wp2_with fail
      go_ret
      exact ⟨ret_int (by first | exact HR.out | exact HR.out.symm | (rw [← HR.out]; first | rfl | simp_all)), (HX.out.next (hB2.alloc hB2.size _)).1⟩
  · have g1 : (h.op == 1) = false := by rw [hop]; rfl
    have g2 : (h.op == 2) = false := by rw [hop]; rfl
    have g3 : (h.op == 3) = false := by rw [hop]; rfl
    have g4 : (h.op == 4) = false := by rw [hop]; rfl
    have g5 : (h.op == 5) = false := by rw [hop]; rfl
    have g6 : (h.op == 6) = true := by rw [hop]; rfl
    have g7 : (h.op == 7) = false := by rw [hop]; rfl
    have g8 : (h.op == 8) = false := by rw [hop]; rfl
    have g9 : (h.op == 9) = false := by rw [hop]; rfl
    have g10 : (h.op == 10) = false := by rw [hop]; rfl
    have g11 : (h.op == 11) = false := by rw [hop]; rfl
    have g12 : (h.op == 12) = false := by rw [hop]; rfl
    have g13 : (h.op == 13) = false := by rw [hop]; rfl
    have g14 : (h.op == 14) = false := by rw [hop]; rfl
    have g15 : (h.op == 15) = false := by rw [hop]; rfl
    clear hop
    go_wp2_with fail
    refine (ckKind_any p _ aoD aoT capD capT i aoA ar.len capA bs bt bc h.nm [5] _ 1 hi (by decide) (HP.out.same (hB0.alloc hB0.size _)) (inAt_one _ 5 _) (HK.out _ (hB0.alloc hB0.size _))).mono ?_
    rintro e' w1 ⟨rfl, hb⟩
    have hB1 := (hB0.alloc hB0.size _).trans (hb.mono (hB0.alloc hB0.size _).size)
    clear hb
    go_wp2_with fail
    refine (ckInside_any p _ aoD aoT capD capT i aoA capA bs bt bc ar [7] _ 1 (by decide) (inAt_one _ 7 _) HAL.out (HAR.out.same (hB1.alloc hB1.size _)) (HK.out _ (hB1.alloc hB1.size _))).mono ?_
    rintro e' w2 ⟨rfl, hb⟩
    have hB2 := (hB1.alloc hB1.size _).trans (hb.mono (hB1.alloc hB1.size _).size)
    clear hb
    cases hq : insP ar [7]
    · go_wp2_with fail
      refine (ckInsideNamed_any p _ aoD aoT capD capT i aoA capA bs bt bc ar h.nm [5, 6] _ 2 (by decide) (inAt_two _ 5 6 _) HAL.out (HAR.out.same (hB2.alloc hB2.size _)) (HK.out _ (hB2.alloc hB2.size _))).mono ?_
      rintro e' w3 ⟨rfl, hb⟩
      have hB3 := (hB2.alloc hB2.size _).trans (hb.mono (hB2.alloc hB2.size _).size)
      clear hb
      cases hq2 : insN ar h.nm [5, 6]
      · go_wp2_with fail
        refine (nesting_any _ _).mono ?_
        rintro e' wn ⟨rfl, rfl⟩
        go_wp2_with fail
        refine (ckFirst_any [kindE (mean p i h.nm) [5], nest false] _ _ 2 (by simp [maxLen]) (inAt_two _ _ _ _)).mono ?_
        rintro e' wf ⟨rfl, rfl⟩
        have hBf := hB3.alloc hB3.size (.cells #[] 0)
        go_wp2_with fail
        go_ret
        exact ⟨ret_int (by first | exact HR.out | exact HR.out.symm | (rw [← HR.out]; first | rfl | simp_all)), (HX.out.next (hB3.alloc hB3.size _)).1⟩
      · go_wp2_with fail
        refine (nesting_any _ _).mono ?_
        rintro e' wn ⟨rfl, rfl⟩
        go_wp2_with fail
        refine (ckFirst_any [kindE (mean p i h.nm) [5], nest true] _ _ 2 (by simp [maxLen]) (inAt_two _ _ _ _)).mono ?_
        rintro e' wf ⟨rfl, rfl⟩
        have hBf := hB3.alloc hB3.size (.cells #[] 0)
        go_wp2_with fail
        go_ret
        exact ⟨ret_int (by first | exact HR.out | exact HR.out.symm | (rw [← HR.out]; first | rfl | simp_all)), (HX.out.next (hB3.alloc hB3.size _)).1⟩
    · go_wp2_with fail
      refine (nesting_any _ _).mono ?_
      rintro e' wn ⟨rfl, rfl⟩
      go_wp2_with fail
      refine (ckFirst_any [kindE (mean p i h.nm) [5], nest true] _ _ 2 (by simp [maxLen]) (inAt_two _ _ _ _)).mono ?_
      rintro e' wf ⟨rfl, rfl⟩
      have hBf := hB2.alloc hB2.size (.cells #[] 0)
      go_wp2_with fail
      go_ret
      exact ⟨ret_int (by first | exact HR.out | exact HR.out.symm | (rw [← HR.out]; first | rfl | simp_all)), (HX.out.next (hB2.alloc hB2.size _)).1⟩

set_option maxHeartbeats 4000000 in
set_option maxRecDepth 100000 in
theorem ckStmt23 (h : StH) (b e ar : StL) (s : Sl) (hi : I64 i) (hp : p.At w aoD aoT) (hin : StIn w h b e s) (hkw : KwLaid w) (har : ar.len ≤ maxLen) (hat : ar.At w w.heap.size aoA 0) (hh : Holds w (ckF bc p aoD aoT capD capT i aoA ar.len capA bs bt)) (hop : h.op = 2 ∨ h.op = 3) :
    Calls Tryz.prog 136 #[.pointer (some ⟨bc, 0, none⟩), stV h b e s] w fun e' w' => e' = .returned (.int .i64 (exE p i h.xop h.xn h.xnm h.xkids)) ∧ Below w.heap.size w w' := by
  have HH := Lib.hid (show Sit w w _ from ⟨Below.refl _ _, hh⟩)
  obtain ⟨aoi, capi, aox, capx, aob, capb, aoe, cape⟩ := s
  have hxk := hin.1.2.2.2.2.2.1
  have hns := hin.1.2.2.1
  generalize hres : exE p i h.xop h.xn h.xnm h.xkids = res
  have HR := Lib.hid hres
  have HOP := Lib.hid hop
  have HSI := Lib.hid hin
  clear hres hop
  unfold stV
  dsimp only
  go_enter Tryz.func136, Tryz.ntmps136
  go_upto_region 1 with fail
  generalize hW : World.alloc w _ = W
  generalize Value.agg #[_, _, _, _, _, _, _, _, _, _, _] = a0
  have HX : Hid (Sit w W (stF w.heap.size h b e ⟨aoi, capi, aox, capx, aob, capb, aoe, cape⟩ (ckF bc p aoD aoT capD capT i aoA ar.len capA bs bt))) := Lib.hid (by rw [← hW]; exact HH.out.box11 rfl _ _ _ _ _ _ _ _ _ _ _ _)
  clear hW HH
  have HP := Lib.hid (hp.same HX.out.1)
  have HKW := Lib.hid (hkw.same HX.out.1)
  have HAX := Lib.hid (hin.2.2.1.same HX.out.1)
  have HAR := Lib.hid (hat.same HX.out.1)
  have HAL := Lib.hid har
  have HK : Hid (∀ w', Below W.heap.size W w' → Holds w' (ckF bc p aoD aoT capD capT i aoA ar.len capA bs bt)) := Lib.hid (fun w' hb => (HX.out.next hb).2.2.2.2.2.2.2.2.2.2.2.2)
  clear hp hkw hh hin hat har
  have L0 : ∀ w', Below W.heap.size W w' → w'.cell? ⟨w.heap.size, 0, none⟩ = some (.int .i64 h.op) := fun w' hb => (HX.out.next hb).2.1.2
  have L2 : ∀ w', Below W.heap.size W w' → w'.cell? ⟨w.heap.size, 2, none⟩ = some (.string h.nm) := fun w' hb => (HX.out.next hb).2.2.2.1.2
  have L3 : ∀ w', Below W.heap.size W w' → w'.cell? ⟨w.heap.size, 3, none⟩ = some (.string h.arg) := fun w' hb => (HX.out.next hb).2.2.2.2.1.2
  have L5 : ∀ w', Below W.heap.size W w' → w'.cell? ⟨w.heap.size, 5, none⟩ = some (.int .i64 h.xop) := fun w' hb => (HX.out.next hb).2.2.2.2.2.2.1.2
  have L6 : ∀ w', Below W.heap.size W w' → w'.cell? ⟨w.heap.size, 6, none⟩ = some (.int .i64 h.xn) := fun w' hb => (HX.out.next hb).2.2.2.2.2.2.2.1.2
  have L7 : ∀ w', Below W.heap.size W w' → w'.cell? ⟨w.heap.size, 7, none⟩ = some (.string h.xnm) := fun w' hb => (HX.out.next hb).2.2.2.2.2.2.2.2.1.2
  have L8 : ∀ w', Below W.heap.size W w' → w'.cell? ⟨w.heap.size, 8, none⟩ = some (.slice aox h.xkids.len capx) := fun w' hb => (HX.out.next hb).2.2.2.2.2.2.2.2.2.1.2
  have hB0 : Below W.heap.size W W := Below.refl _ _
  have l0 := L0 W hB0
  have hop := HOP.out
  rcases hop with hop | hop
  · have g1 : (h.op == 1) = false := by rw [hop]; rfl
    have g2 : (h.op == 2) = true := by rw [hop]; rfl
    have g3 : (h.op == 3) = false := by rw [hop]; rfl
    have g4 : (h.op == 4) = false := by rw [hop]; rfl
    have g5 : (h.op == 5) = false := by rw [hop]; rfl
    have g6 : (h.op == 6) = false := by rw [hop]; rfl
    have g7 : (h.op == 7) = false := by rw [hop]; rfl
    have g8 : (h.op == 8) = false := by rw [hop]; rfl
    have g9 : (h.op == 9) = false := by rw [hop]; rfl
    have g10 : (h.op == 10) = false := by rw [hop]; rfl
    have g11 : (h.op == 11) = false := by rw [hop]; rfl
    have g12 : (h.op == 12) = false := by rw [hop]; rfl
    have g13 : (h.op == 13) = false := by rw [hop]; rfl
    have g14 : (h.op == 14) = false := by rw [hop]; rfl
    have g15 : (h.op == 15) = false := by rw [hop]; rfl
    clear hop
    go_wp2_with fail
    refine (ckExpr_any p _ aoD aoT capD capT i aoA ar.len capA bs bt bc h.xop h.xn h.xnm h.xkids aox capx hi (HP.out.same hB0) hxk (HAX.out.same hB0) (HKW.out.same hB0) (HK.out _ hB0)).mono ?_
    rintro e' w1 ⟨rfl, hb⟩
    have hB1 := hB0.trans (hb.mono hB0.size)
    clear hb
    go_wp2_with fail
    go_ret
    exact ⟨ret_int (by first | exact HR.out | exact HR.out.symm | (rw [← HR.out]; first | rfl | simp_all)), (HX.out.next hB1).1⟩
  · have g1 : (h.op == 1) = false := by rw [hop]; rfl
    have g2 : (h.op == 2) = false := by rw [hop]; rfl
    have g3 : (h.op == 3) = true := by rw [hop]; rfl
    have g4 : (h.op == 4) = false := by rw [hop]; rfl
    have g5 : (h.op == 5) = false := by rw [hop]; rfl
    have g6 : (h.op == 6) = false := by rw [hop]; rfl
    have g7 : (h.op == 7) = false := by rw [hop]; rfl
    have g8 : (h.op == 8) = false := by rw [hop]; rfl
    have g9 : (h.op == 9) = false := by rw [hop]; rfl
    have g10 : (h.op == 10) = false := by rw [hop]; rfl
    have g11 : (h.op == 11) = false := by rw [hop]; rfl
    have g12 : (h.op == 12) = false := by rw [hop]; rfl
    have g13 : (h.op == 13) = false := by rw [hop]; rfl
    have g14 : (h.op == 14) = false := by rw [hop]; rfl
    have g15 : (h.op == 15) = false := by rw [hop]; rfl
    clear hop
    go_wp2_with fail
    refine (ckExpr_any p _ aoD aoT capD capT i aoA ar.len capA bs bt bc h.xop h.xn h.xnm h.xkids aox capx hi (HP.out.same hB0) hxk (HAX.out.same hB0) (HKW.out.same hB0) (HK.out _ hB0)).mono ?_
    rintro e' w1 ⟨rfl, hb⟩
    have hB1 := hB0.trans (hb.mono hB0.size)
    clear hb
    go_wp2_with fail
    go_ret
    exact ⟨ret_int (by first | exact HR.out | exact HR.out.symm | (rw [← HR.out]; first | rfl | simp_all)), (HX.out.next hB1).1⟩

set_option maxHeartbeats 4000000 in
set_option maxRecDepth 100000 in
theorem ckStmt1 (h : StH) (b e ar : StL) (s : Sl) (hi : I64 i) (hp : p.At w aoD aoT) (hin : StIn w h b e s) (hkw : KwLaid w) (har : ar.len ≤ maxLen) (hat : ar.At w w.heap.size aoA 0) (hh : Holds w (ckF bc p aoD aoT capD capT i aoA ar.len capA bs bt)) (hop : h.op = 1) :
    Calls Tryz.prog 136 #[.pointer (some ⟨bc, 0, none⟩), stV h b e s] w fun e' w' => e' = .returned (.int .i64 (asgE p i h)) ∧ Below w.heap.size w w' := by
  have HH := Lib.hid (show Sit w w _ from ⟨Below.refl _ _, hh⟩)
  obtain ⟨aoi, capi, aox, capx, aob, capb, aoe, cape⟩ := s
  have hxk := hin.1.2.2.2.2.2.1
  have hns := hin.1.2.2.1
  generalize hres : asgE p i h = res
  have HR := Lib.hid hres
  have HOP := Lib.hid hop
  have HSI := Lib.hid hin
  clear hres hop
  unfold stV
  dsimp only
  go_enter Tryz.func136, Tryz.ntmps136
  go_upto_region 1 with fail
  generalize hW : World.alloc w _ = W
  generalize Value.agg #[_, _, _, _, _, _, _, _, _, _, _] = a0
  have HX : Hid (Sit w W (stF w.heap.size h b e ⟨aoi, capi, aox, capx, aob, capb, aoe, cape⟩ (ckF bc p aoD aoT capD capT i aoA ar.len capA bs bt))) := Lib.hid (by rw [← hW]; exact HH.out.box11 rfl _ _ _ _ _ _ _ _ _ _ _ _)
  clear hW HH
  have HP := Lib.hid (hp.same HX.out.1)
  have HKW := Lib.hid (hkw.same HX.out.1)
  have HAX := Lib.hid (hin.2.2.1.same HX.out.1)
  have HAR := Lib.hid (hat.same HX.out.1)
  have HAL := Lib.hid har
  have HK : Hid (∀ w', Below W.heap.size W w' → Holds w' (ckF bc p aoD aoT capD capT i aoA ar.len capA bs bt)) := Lib.hid (fun w' hb => (HX.out.next hb).2.2.2.2.2.2.2.2.2.2.2.2)
  clear hp hkw hh hin hat har
  have L0 : ∀ w', Below W.heap.size W w' → w'.cell? ⟨w.heap.size, 0, none⟩ = some (.int .i64 h.op) := fun w' hb => (HX.out.next hb).2.1.2
  have L2 : ∀ w', Below W.heap.size W w' → w'.cell? ⟨w.heap.size, 2, none⟩ = some (.string h.nm) := fun w' hb => (HX.out.next hb).2.2.2.1.2
  have L3 : ∀ w', Below W.heap.size W w' → w'.cell? ⟨w.heap.size, 3, none⟩ = some (.string h.arg) := fun w' hb => (HX.out.next hb).2.2.2.2.1.2
  have L5 : ∀ w', Below W.heap.size W w' → w'.cell? ⟨w.heap.size, 5, none⟩ = some (.int .i64 h.xop) := fun w' hb => (HX.out.next hb).2.2.2.2.2.2.1.2
  have L6 : ∀ w', Below W.heap.size W w' → w'.cell? ⟨w.heap.size, 6, none⟩ = some (.int .i64 h.xn) := fun w' hb => (HX.out.next hb).2.2.2.2.2.2.2.1.2
  have L7 : ∀ w', Below W.heap.size W w' → w'.cell? ⟨w.heap.size, 7, none⟩ = some (.string h.xnm) := fun w' hb => (HX.out.next hb).2.2.2.2.2.2.2.2.1.2
  have L8 : ∀ w', Below W.heap.size W w' → w'.cell? ⟨w.heap.size, 8, none⟩ = some (.slice aox h.xkids.len capx) := fun w' hb => (HX.out.next hb).2.2.2.2.2.2.2.2.2.1.2
  have lA := (HX.out.2).2.1.2
  have lB := (HX.out.2).2.2.2.2.1.2
  have lC := (HX.out.2).2.2.2.2.2.2.2.2.2.1.2
  have lD := (HX.out.2).2.2.2.2.2.2.2.2.2.2.1.2
  have hB0 : Below W.heap.size W W := Below.refl _ _
  have l0 := L0 W hB0
  have hop := HOP.out
  have g1 : (h.op == 1) = true := by rw [hop]; rfl
  have g2 : (h.op == 2) = false := by rw [hop]; rfl
  have g3 : (h.op == 3) = false := by rw [hop]; rfl
  have g4 : (h.op == 4) = false := by rw [hop]; rfl
  have g5 : (h.op == 5) = false := by rw [hop]; rfl
  have g6 : (h.op == 6) = false := by rw [hop]; rfl
  have g7 : (h.op == 7) = false := by rw [hop]; rfl
  have g8 : (h.op == 8) = false := by rw [hop]; rfl
  have g9 : (h.op == 9) = false := by rw [hop]; rfl
  have g10 : (h.op == 10) = false := by rw [hop]; rfl
  have g11 : (h.op == 11) = false := by rw [hop]; rfl
  have g12 : (h.op == 12) = false := by rw [hop]; rfl
  have g13 : (h.op == 13) = false := by rw [hop]; rfl
  have g14 : (h.op == 14) = false := by rw [hop]; rfl
  have g15 : (h.op == 15) = false := by rw [hop]; rfl
  clear hop
  have l2 := L2 W hB0
  have l3 := L3 W hB0
  go_wp2_with fail
  refine (ckAssign_any p _ aoD aoT capD capT i aoA ar.len capA bs bt bc h b e ⟨aoi, capi, aox, capx, aob, capb, aoe, cape⟩ hi (HP.out.same hB0) (HSI.out.same HX.out.1) (HKW.out.same hB0) (HK.out _ hB0)).mono ?_
  rintro e' w1 ⟨rfl, hb⟩
  have hB1 := hB0.trans (hb.mono hB0.size)
  clear hb
  go_wp2_with fail
  go_ret
  exact ⟨ret_int (by first | exact HR.out | exact HR.out.symm | (rw [← HR.out]; first | rfl | simp_all)), (HX.out.next hB1).1⟩

set_option maxHeartbeats 4000000 in
set_option maxRecDepth 100000 in
theorem ckStmt9 (h : StH) (b e ar : StL) (s : Sl) (hi : I64 i) (hp : p.At w aoD aoT) (hin : StIn w h b e s) (hkw : KwLaid w) (har : ar.len ≤ maxLen) (hat : ar.At w w.heap.size aoA 0) (hh : Holds w (ckF bc p aoD aoT capD capT i aoA ar.len capA bs bt)) (hop : h.op = 9 ∨ h.op = 10 ∨ h.op = 11) :
    Calls Tryz.prog 136 #[.pointer (some ⟨bc, 0, none⟩), stV h b e s] w fun e' w' => e' = .returned (.int .i64 (firstE [kindE (mean p i h.nm) [6], nest ((insP ar [7] || !insN ar (mutexP p.ds h.nm) [4]) || (h.op == 9 && insP ar [8]))])) ∧ Below w.heap.size w w' := by
  have HH := Lib.hid (show Sit w w _ from ⟨Below.refl _ _, hh⟩)
  obtain ⟨aoi, capi, aox, capx, aob, capb, aoe, cape⟩ := s
  have hxk := hin.1.2.2.2.2.2.1
  have hns := hin.1.2.2.1
  generalize hres : firstE [kindE (mean p i h.nm) [6], nest ((insP ar [7] || !insN ar (mutexP p.ds h.nm) [4]) || (h.op == 9 && insP ar [8]))] = res
  have HR := Lib.hid hres
  have HOP := Lib.hid hop
  have HSI := Lib.hid hin
  clear hres hop
  unfold stV
  dsimp only
  go_enter Tryz.func136, Tryz.ntmps136
  go_upto_region 1 with fail
  generalize hW : World.alloc w _ = W
  generalize Value.agg #[_, _, _, _, _, _, _, _, _, _, _] = a0
  have HX : Hid (Sit w W (stF w.heap.size h b e ⟨aoi, capi, aox, capx, aob, capb, aoe, cape⟩ (ckF bc p aoD aoT capD capT i aoA ar.len capA bs bt))) := Lib.hid (by rw [← hW]; exact HH.out.box11 rfl _ _ _ _ _ _ _ _ _ _ _ _)
  clear hW HH
  have HP := Lib.hid (hp.same HX.out.1)
  have HKW := Lib.hid (hkw.same HX.out.1)
  have HAX := Lib.hid (hin.2.2.1.same HX.out.1)
  have HAR := Lib.hid (hat.same HX.out.1)
  have HAL := Lib.hid har
  have HK : Hid (∀ w', Below W.heap.size W w' → Holds w' (ckF bc p aoD aoT capD capT i aoA ar.len capA bs bt)) := Lib.hid (fun w' hb => (HX.out.next hb).2.2.2.2.2.2.2.2.2.2.2.2)
  clear hp hkw hh hin hat har
  have L0 : ∀ w', Below W.heap.size W w' → w'.cell? ⟨w.heap.size, 0, none⟩ = some (.int .i64 h.op) := fun w' hb => (HX.out.next hb).2.1.2
  have L2 : ∀ w', Below W.heap.size W w' → w'.cell? ⟨w.heap.size, 2, none⟩ = some (.string h.nm) := fun w' hb => (HX.out.next hb).2.2.2.1.2
  have L3 : ∀ w', Below W.heap.size W w' → w'.cell? ⟨w.heap.size, 3, none⟩ = some (.string h.arg) := fun w' hb => (HX.out.next hb).2.2.2.2.1.2
  have L5 : ∀ w', Below W.heap.size W w' → w'.cell? ⟨w.heap.size, 5, none⟩ = some (.int .i64 h.xop) := fun w' hb => (HX.out.next hb).2.2.2.2.2.2.1.2
  have L6 : ∀ w', Below W.heap.size W w' → w'.cell? ⟨w.heap.size, 6, none⟩ = some (.int .i64 h.xn) := fun w' hb => (HX.out.next hb).2.2.2.2.2.2.2.1.2
  have L7 : ∀ w', Below W.heap.size W w' → w'.cell? ⟨w.heap.size, 7, none⟩ = some (.string h.xnm) := fun w' hb => (HX.out.next hb).2.2.2.2.2.2.2.2.1.2
  have L8 : ∀ w', Below W.heap.size W w' → w'.cell? ⟨w.heap.size, 8, none⟩ = some (.slice aox h.xkids.len capx) := fun w' hb => (HX.out.next hb).2.2.2.2.2.2.2.2.2.1.2
  have hB0 : Below W.heap.size W W := Below.refl _ _
  have l0 := L0 W hB0
  have hop := HOP.out
  rcases hop with hop | hop | hop
  · have g1 : (h.op == 1) = false := by rw [hop]; rfl
    have g2 : (h.op == 2) = false := by rw [hop]; rfl
    have g3 : (h.op == 3) = false := by rw [hop]; rfl
    have g4 : (h.op == 4) = false := by rw [hop]; rfl
    have g5 : (h.op == 5) = false := by rw [hop]; rfl
    have g6 : (h.op == 6) = false := by rw [hop]; rfl
    have g7 : (h.op == 7) = false := by rw [hop]; rfl
    have g8 : (h.op == 8) = false := by rw [hop]; rfl
    have g9 : (h.op == 9) = true := by rw [hop]; rfl
    have g10 : (h.op == 10) = false := by rw [hop]; rfl
    have g11 : (h.op == 11) = false := by rw [hop]; rfl
    have g12 : (h.op == 12) = false := by rw [hop]; rfl
    have g13 : (h.op == 13) = false := by rw [hop]; rfl
    have g14 : (h.op == 14) = false := by rw [hop]; rfl
    have g15 : (h.op == 15) = false := by rw [hop]; rfl
    clear hop
    go_wp2_with fail
    refine (ckKind_any p _ aoD aoT capD capT i aoA ar.len capA bs bt bc h.nm [6] _ 1 hi (by decide) (HP.out.same (hB0.alloc hB0.size _)) (inAt_one _ 6 _) (HK.out _ (hB0.alloc hB0.size _))).mono ?_
    rintro e' w1 ⟨rfl, hb⟩
    have hB1 := (hB0.alloc hB0.size _).trans (hb.mono (hB0.alloc hB0.size _).size)
    clear hb
    go_wp2_with fail
    refine (ckInside_any p _ aoD aoT capD capT i aoA capA bs bt bc ar [7] _ 1 (by decide) (inAt_one _ 7 _) HAL.out (HAR.out.same (hB1.alloc hB1.size _)) (HK.out _ (hB1.alloc hB1.size _))).mono ?_
    rintro e' w2 ⟨rfl, hb⟩
    have hB2 := (hB1.alloc hB1.size _).trans (hb.mono (hB1.alloc hB1.size _).size)
    clear hb
    cases hq : insP ar [7]
    · go_wp2_with fail
      refine (ckMutexOf_any p _ aoD aoT capD capT i aoA ar.len capA bs bt bc h.nm (HP.out.same hB2) (HK.out _ hB2)).mono ?_
      rintro e' w3 ⟨rfl, hb⟩
      have hB3 := hB2.trans (hb.mono hB2.size)
      clear hb
      go_wp2_with fail
      refine (ckInsideNamed_any p _ aoD aoT capD capT i aoA capA bs bt bc ar (mutexP p.ds h.nm) [4] _ 1 (by decide) (inAt_one _ 4 _) HAL.out (HAR.out.same (hB3.alloc hB3.size _)) (HK.out _ (hB3.alloc hB3.size _))).mono ?_
      rintro e' w4 ⟨rfl, hb⟩
      have hB4 := (hB3.alloc hB3.size _).trans (hb.mono (hB3.alloc hB3.size _).size)
      clear hb
      cases hq2 : insN ar (mutexP p.ds h.nm) [4]
      · go_wp2_with fail
        refine (nesting_any _ _).mono ?_
        rintro e' wn ⟨rfl, rfl⟩
        go_wp2_with fail
        refine (ckFirst_any [kindE (mean p i h.nm) [6], nest true] _ _ 2 (by simp [maxLen]) (inAt_two _ _ _ _)).mono ?_
        rintro e' wf ⟨rfl, rfl⟩
        have hBf := hB4.alloc hB4.size (.cells #[] 0)
        go_wp2_with fail
        go_ret
        exact ⟨ret_int (by first | exact HR.out | exact HR.out.symm | (rw [← HR.out]; first | rfl | simp_all)), (HX.out.next (hB4.alloc hB4.size _)).1⟩
      · go_wp2_with fail
        refine (ckInside_any p _ aoD aoT capD capT i aoA capA bs bt bc ar [8] _ 1 (by decide) (inAt_one _ 8 _) HAL.out (HAR.out.same (hB4.alloc hB4.size _)) (HK.out _ (hB4.alloc hB4.size _))).mono ?_
        rintro e' w5 ⟨rfl, hb⟩
        have hB5 := (hB4.alloc hB4.size _).trans (hb.mono (hB4.alloc hB4.size _).size)
        clear hb
        cases hq3 : insP ar [8]
        · go_wp2_with fail
          refine (nesting_any _ _).mono ?_
          rintro e' wn ⟨rfl, rfl⟩
          go_wp2_with fail
          refine (ckFirst_any [kindE (mean p i h.nm) [6], nest false] _ _ 2 (by simp [maxLen]) (inAt_two _ _ _ _)).mono ?_
          rintro e' wf ⟨rfl, rfl⟩
          have hBf := hB5.alloc hB5.size (.cells #[] 0)
          go_wp2_with fail
          go_ret
          exact ⟨ret_int (by first | exact HR.out | exact HR.out.symm | (rw [← HR.out]; first | rfl | simp_all)), (HX.out.next (hB5.alloc hB5.size _)).1⟩
        · go_wp2_with fail
          refine (nesting_any _ _).mono ?_
          rintro e' wn ⟨rfl, rfl⟩
          go_wp2_with fail
          refine (ckFirst_any [kindE (mean p i h.nm) [6], nest true] _ _ 2 (by simp [maxLen]) (inAt_two _ _ _ _)).mono ?_
          rintro e' wf ⟨rfl, rfl⟩
          have hBf := hB5.alloc hB5.size (.cells #[] 0)
          go_wp2_with fail
          go_ret
          exact ⟨ret_int (by first | exact HR.out | exact HR.out.symm | (rw [← HR.out]; first | rfl | simp_all)), (HX.out.next (hB5.alloc hB5.size _)).1⟩
    · go_wp2_with fail
      refine (nesting_any _ _).mono ?_
      rintro e' wn ⟨rfl, rfl⟩
      go_wp2_with fail
      refine (ckFirst_any [kindE (mean p i h.nm) [6], nest true] _ _ 2 (by simp [maxLen]) (inAt_two _ _ _ _)).mono ?_
      rintro e' wf ⟨rfl, rfl⟩
      have hBf := hB2.alloc hB2.size (.cells #[] 0)
      go_wp2_with fail
      go_ret
      exact ⟨ret_int (by first | exact HR.out | exact HR.out.symm | (rw [← HR.out]; first | rfl | simp_all)), (HX.out.next (hB2.alloc hB2.size _)).1⟩
  · have g1 : (h.op == 1) = false := by rw [hop]; rfl
    have g2 : (h.op == 2) = false := by rw [hop]; rfl
    have g3 : (h.op == 3) = false := by rw [hop]; rfl
    have g4 : (h.op == 4) = false := by rw [hop]; rfl
    have g5 : (h.op == 5) = false := by rw [hop]; rfl
    have g6 : (h.op == 6) = false := by rw [hop]; rfl
    have g7 : (h.op == 7) = false := by rw [hop]; rfl
    have g8 : (h.op == 8) = false := by rw [hop]; rfl
    have g9 : (h.op == 9) = false := by rw [hop]; rfl
    have g10 : (h.op == 10) = true := by rw [hop]; rfl
    have g11 : (h.op == 11) = false := by rw [hop]; rfl
    have g12 : (h.op == 12) = false := by rw [hop]; rfl
    have g13 : (h.op == 13) = false := by rw [hop]; rfl
    have g14 : (h.op == 14) = false := by rw [hop]; rfl
    have g15 : (h.op == 15) = false := by rw [hop]; rfl
    clear hop
    go_wp2_with fail
    refine (ckKind_any p _ aoD aoT capD capT i aoA ar.len capA bs bt bc h.nm [6] _ 1 hi (by decide) (HP.out.same (hB0.alloc hB0.size _)) (inAt_one _ 6 _) (HK.out _ (hB0.alloc hB0.size _))).mono ?_
    rintro e' w1 ⟨rfl, hb⟩
    have hB1 := (hB0.alloc hB0.size _).trans (hb.mono (hB0.alloc hB0.size _).size)
    clear hb
    go_wp2_with fail
    refine (ckInside_any p _ aoD aoT capD capT i aoA capA bs bt bc ar [7] _ 1 (by decide) (inAt_one _ 7 _) HAL.out (HAR.out.same (hB1.alloc hB1.size _)) (HK.out _ (hB1.alloc hB1.size _))).mono ?_
    rintro e' w2 ⟨rfl, hb⟩
    have hB2 := (hB1.alloc hB1.size _).trans (hb.mono (hB1.alloc hB1.size _).size)
    clear hb
    cases hq : insP ar [7]
    · go_wp2_with fail
      refine (ckMutexOf_any p _ aoD aoT capD capT i aoA ar.len capA bs bt bc h.nm (HP.out.same hB2) (HK.out _ hB2)).mono ?_
      rintro e' w3 ⟨rfl, hb⟩
      have hB3 := hB2.trans (hb.mono hB2.size)
      clear hb
      go_wp2_with fail
      refine (ckInsideNamed_any p _ aoD aoT capD capT i aoA capA bs bt bc ar (mutexP p.ds h.nm) [4] _ 1 (by decide) (inAt_one _ 4 _) HAL.out (HAR.out.same (hB3.alloc hB3.size _)) (HK.out _ (hB3.alloc hB3.size _))).mono ?_
      rintro e' w4 ⟨rfl, hb⟩
      have hB4 := (hB3.alloc hB3.size _).trans (hb.mono (hB3.alloc hB3.size _).size)
      clear hb
      cases hq2 : insN ar (mutexP p.ds h.nm) [4]
      · go_wp2_with fail
        refine (nesting_any _ _).mono ?_
        rintro e' wn ⟨rfl, rfl⟩
        go_wp2_with fail
        refine (ckFirst_any [kindE (mean p i h.nm) [6], nest true] _ _ 2 (by simp [maxLen]) (inAt_two _ _ _ _)).mono ?_
        rintro e' wf ⟨rfl, rfl⟩
        have hBf := hB4.alloc hB4.size (.cells #[] 0)
        go_wp2_with fail
        go_ret
        exact ⟨ret_int (by first | exact HR.out | exact HR.out.symm | (rw [← HR.out]; first | rfl | simp_all)), (HX.out.next (hB4.alloc hB4.size _)).1⟩
      · go_wp2_with fail
        refine (nesting_any _ _).mono ?_
        rintro e' wn ⟨rfl, rfl⟩
        go_wp2_with fail
        refine (ckFirst_any [kindE (mean p i h.nm) [6], nest false] _ _ 2 (by simp [maxLen]) (inAt_two _ _ _ _)).mono ?_
        rintro e' wf ⟨rfl, rfl⟩
        have hBf := hB4.alloc hB4.size (.cells #[] 0)
        go_wp2_with fail
        go_ret
        exact ⟨ret_int (by first | exact HR.out | exact HR.out.symm | (rw [← HR.out]; first | rfl | simp_all)), (HX.out.next (hB4.alloc hB4.size _)).1⟩
    · go_wp2_with fail
      refine (nesting_any _ _).mono ?_
      rintro e' wn ⟨rfl, rfl⟩
      go_wp2_with fail
      refine (ckFirst_any [kindE (mean p i h.nm) [6], nest true] _ _ 2 (by simp [maxLen]) (inAt_two _ _ _ _)).mono ?_
      rintro e' wf ⟨rfl, rfl⟩
      have hBf := hB2.alloc hB2.size (.cells #[] 0)
      go_wp2_with fail
      go_ret
      exact ⟨ret_int (by first | exact HR.out | exact HR.out.symm | (rw [← HR.out]; first | rfl | simp_all)), (HX.out.next (hB2.alloc hB2.size _)).1⟩
  · have g1 : (h.op == 1) = false := by rw [hop]; rfl
    have g2 : (h.op == 2) = false := by rw [hop]; rfl
    have g3 : (h.op == 3) = false := by rw [hop]; rfl
    have g4 : (h.op == 4) = false := by rw [hop]; rfl
    have g5 : (h.op == 5) = false := by rw [hop]; rfl
    have g6 : (h.op == 6) = false := by rw [hop]; rfl
    have g7 : (h.op == 7) = false := by rw [hop]; rfl
    have g8 : (h.op == 8) = false := by rw [hop]; rfl
    have g9 : (h.op == 9) = false := by rw [hop]; rfl
    have g10 : (h.op == 10) = false := by rw [hop]; rfl
    have g11 : (h.op == 11) = true := by rw [hop]; rfl
    have g12 : (h.op == 12) = false := by rw [hop]; rfl
    have g13 : (h.op == 13) = false := by rw [hop]; rfl
    have g14 : (h.op == 14) = false := by rw [hop]; rfl
    have g15 : (h.op == 15) = false := by rw [hop]; rfl
    clear hop
    go_wp2_with fail
    refine (ckKind_any p _ aoD aoT capD capT i aoA ar.len capA bs bt bc h.nm [6] _ 1 hi (by decide) (HP.out.same (hB0.alloc hB0.size _)) (inAt_one _ 6 _) (HK.out _ (hB0.alloc hB0.size _))).mono ?_
    rintro e' w1 ⟨rfl, hb⟩
    have hB1 := (hB0.alloc hB0.size _).trans (hb.mono (hB0.alloc hB0.size _).size)
    clear hb
    go_wp2_with fail
    refine (ckInside_any p _ aoD aoT capD capT i aoA capA bs bt bc ar [7] _ 1 (by decide) (inAt_one _ 7 _) HAL.out (HAR.out.same (hB1.alloc hB1.size _)) (HK.out _ (hB1.alloc hB1.size _))).mono ?_
    rintro e' w2 ⟨rfl, hb⟩
    have hB2 := (hB1.alloc hB1.size _).trans (hb.mono (hB1.alloc hB1.size _).size)
    clear hb
    cases hq : insP ar [7]
    · go_wp2_with fail
      refine (ckMutexOf_any p _ aoD aoT capD capT i aoA ar.len capA bs bt bc h.nm (HP.out.same hB2) (HK.out _ hB2)).mono ?_
      rintro e' w3 ⟨rfl, hb⟩
      have hB3 := hB2.trans (hb.mono hB2.size)
      clear hb
      go_wp2_with fail
      refine (ckInsideNamed_any p _ aoD aoT capD capT i aoA capA bs bt bc ar (mutexP p.ds h.nm) [4] _ 1 (by decide) (inAt_one _ 4 _) HAL.out (HAR.out.same (hB3.alloc hB3.size _)) (HK.out _ (hB3.alloc hB3.size _))).mono ?_
      rintro e' w4 ⟨rfl, hb⟩
      have hB4 := (hB3.alloc hB3.size _).trans (hb.mono (hB3.alloc hB3.size _).size)
      clear hb
      cases hq2 : insN ar (mutexP p.ds h.nm) [4]
      · go_wp2_with fail
        refine (nesting_any _ _).mono ?_
        rintro e' wn ⟨rfl, rfl⟩
        go_wp2_with fail
        refine (ckFirst_any [kindE (mean p i h.nm) [6], nest true] _ _ 2 (by simp [maxLen]) (inAt_two _ _ _ _)).mono ?_
        rintro e' wf ⟨rfl, rfl⟩
        have hBf := hB4.alloc hB4.size (.cells #[] 0)
        go_wp2_with fail
        go_ret
        exact ⟨ret_int (by first | exact HR.out | exact HR.out.symm | (rw [← HR.out]; first | rfl | simp_all)), (HX.out.next (hB4.alloc hB4.size _)).1⟩
      · go_wp2_with fail
        refine (nesting_any _ _).mono ?_
        rintro e' wn ⟨rfl, rfl⟩
        go_wp2_with fail
        refine (ckFirst_any [kindE (mean p i h.nm) [6], nest false] _ _ 2 (by simp [maxLen]) (inAt_two _ _ _ _)).mono ?_
        rintro e' wf ⟨rfl, rfl⟩
        have hBf := hB4.alloc hB4.size (.cells #[] 0)
        go_wp2_with fail
        go_ret
        exact ⟨ret_int (by first | exact HR.out | exact HR.out.symm | (rw [← HR.out]; first | rfl | simp_all)), (HX.out.next (hB4.alloc hB4.size _)).1⟩
    · go_wp2_with fail
      refine (nesting_any _ _).mono ?_
      rintro e' wn ⟨rfl, rfl⟩
      go_wp2_with fail
      refine (ckFirst_any [kindE (mean p i h.nm) [6], nest true] _ _ 2 (by simp [maxLen]) (inAt_two _ _ _ _)).mono ?_
      rintro e' wf ⟨rfl, rfl⟩
      have hBf := hB2.alloc hB2.size (.cells #[] 0)
      go_wp2_with fail
      go_ret
      exact ⟨ret_int (by first | exact HR.out | exact HR.out.symm | (rw [← HR.out]; first | rfl | simp_all)), (HX.out.next (hB2.alloc hB2.size _)).1⟩
end
end Go.Proofs.YtommnhglgedflaaGreatDoor
end
