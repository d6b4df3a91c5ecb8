/-
  Contract of the checker's statement at join and get.
-/
import Derived.Test.YtommnhglgedflaaGreatDoorGMG
set_option linter.unusedSimpArgs false
set_option linter.unusedVariables false
namespace Go.Proofs.YtommnhglgedflaaGreatDoor
open Go.RowKit
open Md
section
variable (p : Pr) (w : World) (aoD aoT : Option Addr) (capD capT : Nat) (aoA : Option Addr) (capA bs bt bc : Nat)

set_option maxHeartbeats 4000000 in
set_option maxRecDepth 100000 in
theorem ckStmt15 (i : Int) (h : StH) (b e ar : StL) (s : Sl) (hi : I64 i) (hp : p.At w aoD aoT) (hin : StIn w h b e s) (hkw : KwLaid w) (har : ar.len ≤ maxLen) (hat : ar.At w w.heap.size aoA 0) (hh : Holds w (ckF bc p aoD aoT capD capT i aoA ar.len capA bs bt)) (hop : h.op = 15) :
    Calls Tryz.prog 136 #[.pointer (some ⟨bc, 0, none⟩), stV h b e s] w fun e' w' => e' = .returned (.int .i64 (firstE [kindE (mean p i h.nm) [1], kindE (mean p i h.arg) [7], nest (insP ar [7])])) ∧ Below w.heap.size w w' := by
  have HH := Lib.hid (show Sit w w _ from ⟨Below.refl _ _, hh⟩)
  obtain ⟨aoi, capi, aox, capx, aob, capb, aoe, cape⟩ := s
  have hxk := hin.1.2.2.2.2.2.1
  have hns := hin.1.2.2.1
  generalize hres : firstE [kindE (mean p i h.nm) [1], kindE (mean p i h.arg) [7], nest (insP ar [7])] = res
  have HR := Lib.hid hres
  have HOP := Lib.hid hop
  have HSI := Lib.hid hin
  clear hres hop
  unfold stV
  dsimp only
  go_enter Tryz.func136, Tryz.ntmps136
  go_upto_region 1 with fail
  generalize hW : World.alloc w _ = W
  generalize Value.agg #[_, _, _, _, _, _, _, _, _, _, _] = a0
  have HX : Hid (Sit w W (stF w.heap.size h b e ⟨aoi, capi, aox, capx, aob, capb, aoe, cape⟩ (ckF bc p aoD aoT capD capT i aoA ar.len capA bs bt))) := Lib.hid (by rw [← hW]; exact HH.out.box11 rfl _ _ _ _ _ _ _ _ _ _ _ _)
  clear hW HH
  have HP := Lib.hid (hp.same HX.out.1)
  have HKW := Lib.hid (hkw.same HX.out.1)
  have HAX := Lib.hid (hin.2.2.1.same HX.out.1)
  have HAR := Lib.hid (hat.same HX.out.1)
  have HAL := Lib.hid har
  have HK : Hid (∀ w', Below W.heap.size W w' → Holds w' (ckF bc p aoD aoT capD capT i aoA ar.len capA bs bt)) := Lib.hid (fun w' hb => (HX.out.next hb).2.2.2.2.2.2.2.2.2.2.2.2)
  clear hp hkw hh hin hat har
  have L0 : ∀ w', Below W.heap.size W w' → w'.cell? ⟨w.heap.size, 0, none⟩ = some (.int .i64 h.op) := fun w' hb => (HX.out.next hb).2.1.2
  have L2 : ∀ w', Below W.heap.size W w' → w'.cell? ⟨w.heap.size, 2, none⟩ = some (.string h.nm) := fun w' hb => (HX.out.next hb).2.2.2.1.2
  have L3 : ∀ w', Below W.heap.size W w' → w'.cell? ⟨w.heap.size, 3, none⟩ = some (.string h.arg) := fun w' hb => (HX.out.next hb).2.2.2.2.1.2
  have L5 : ∀ w', Below W.heap.size W w' → w'.cell? ⟨w.heap.size, 5, none⟩ = some (.int .i64 h.xop) := fun w' hb => (HX.out.next hb).2.2.2.2.2.2.1.2
  have L6 : ∀ w', Below W.heap.size W w' → w'.cell? ⟨w.heap.size, 6, none⟩ = some (.int .i64 h.xn) := fun w' hb => (HX.out.next hb).2.2.2.2.2.2.2.1.2
  have L7 : ∀ w', Below W.heap.size W w' → w'.cell? ⟨w.heap.size, 7, none⟩ = some (.string h.xnm) := fun w' hb => (HX.out.next hb).2.2.2.2.2.2.2.2.1.2
  have L8 : ∀ w', Below W.heap.size W w' → w'.cell? ⟨w.heap.size, 8, none⟩ = some (.slice aox h.xkids.len capx) := fun w' hb => (HX.out.next hb).2.2.2.2.2.2.2.2.2.1.2
  have hB0 : Below W.heap.size W W := Below.refl _ _
  have l0 := L0 W hB0
  have hop := HOP.out
  have g1 : (h.op == 1) = false := by rw [hop]; rfl
  have g2 : (h.op == 2) = false := by rw [hop]; rfl
  have g3 : (h.op == 3) = false := by rw [hop]; rfl
  have g4 : (h.op == 4) = false := by rw [hop]; rfl
  have g5 : (h.op == 5) = false := by rw [hop]; rfl
  have g6 : (h.op == 6) = false := by rw [hop]; rfl
  have g7 : (h.op == 7) = false := by rw [hop]; rfl
  have g8 : (h.op == 8) = false := by rw [hop]; rfl
  have g9 : (h.op == 9) = false := by rw [hop]; rfl
  have g10 : (h.op == 10) = false := by rw [hop]; rfl
  have g11 : (h.op == 11) = false := by rw [hop]; rfl
  have g12 : (h.op == 12) = false := by rw [hop]; rfl
  have g13 : (h.op == 13) = false := by rw [hop]; rfl
  have g14 : (h.op == 14) = false := by rw [hop]; rfl
  have g15 : (h.op == 15) = true := by rw [hop]; rfl
  clear hop
  go_upto_region 27 with fail
  refine wp_region_wild (fun w' => Below W.heap.size W w') (fun w w' => Below w.heap.size w w') [193, 194, 195, 196, 197, 198, 199, 200, 201, 202, 203, 204, 205, 206, 207, 208, 4] (by kernel_rfl) (by kernel_rfl) (fun _ => Below.refl _ _) (by rfl) (below_drewN (Below.refl _ _) 1) ?_
  
  apply ObE.step
  case hobl =>
    intro β A w' hβ hC hO hD
    have e0 := hO 0 (by rfl)
    have e3 := hO 3 (by rfl)
    simp [Act.eval] at e0 e3
    simp [depsL, IsV, slotv, Act.eval, Region.binds] at hD
    simp [go_sem, gd, Oper.wp, e0, e3, hD]
    exact WPost.mk (Below.refl _ _) hC (IsV.mk _ _)
  apply ObE.step
  case hobl =>
    intro β A w' hβ hC hO hD
    have e0 := hO 0 (by rfl)
    have e3 := hO 3 (by rfl)
    simp [Act.eval] at e0 e3
    simp [depsL, IsV, slotv, Act.eval, Region.binds] at hD
    simp [go_sem, gd, Oper.wp, e0, e3, hD]
    exact WPost.mk (Below.refl _ _) hC (IsV.mk _ _)
  apply ObE.step
  case hobl =>
    intro β A w' hβ hC hO hD
    have e0 := hO 0 (by rfl)
    have e3 := hO 3 (by rfl)
    simp [Act.eval] at e0 e3
    simp [depsL, IsV, slotv, Act.eval, Region.binds] at hD
    simp [go_sem, gd, Oper.wp, e0, e3, hD, L2, hC]
    exact WPost.mk (Below.refl _ _) hC (IsV.mk _ _)
  refine ObE.some (fun v w' => ∃ b, v = .slice (some ⟨b, 0, none⟩) 1 1 ∧ InAt w' w'.heap.size [1] (some ⟨b, 0, none⟩) 0) ?_ ?_ ?_
  · rintro v w w' hle ⟨b, rfl, hin⟩
    exact ⟨b, rfl, hin.same hle⟩
  · intro β A w' hβ hC hO hD
    simp [go_sem, gd, Oper.wp]
    exact WPost.mk (d := _) (v := .slice (some ⟨_, 0, none⟩) 1 1) (alloc_below _ _) (hC.trans ((alloc_below _ _).mono hC.size)) ⟨_, rfl, inAt_one _ 1 _⟩
  apply ObE.step
  case hobl =>
    intro β A w' hβ hC hO hD
    simp [depsL, IsV, slotv, Act.eval, Region.binds] at hD
    obtain ⟨d193, d195, b196, d196, hin196⟩ := hD
    simp [go_sem, gd, Oper.wp, d193, d195, d196]
    refine (ckKind_any p w' aoD aoT capD capT _ aoA _ capA bs bt bc h.nm [1] _ 1 hi (by decide) (HP.out.same hC) hin196 (HK.out _ hC)).mono ?_
    rintro e' w2 ⟨rfl, hb⟩
    exact WPost.mk hb (hC.trans (hb.mono hC.size)) (IsV.mk _ _)
  apply ObE.step
  case hobl =>
    intro β A w' hβ hC hO hD
    have e0 := hO 0 (by rfl)
    have e3 := hO 3 (by rfl)
    simp [Act.eval] at e0 e3
    simp [depsL, IsV, slotv, Act.eval, Region.binds] at hD
    simp [go_sem, gd, Oper.wp, e0, e3, hD]
    exact WPost.mk (Below.refl _ _) hC (IsV.mk _ _)
  apply ObE.step
  case hobl =>
    intro β A w' hβ hC hO hD
    have e0 := hO 0 (by rfl)
    have e3 := hO 3 (by rfl)
    simp [Act.eval] at e0 e3
    simp [depsL, IsV, slotv, Act.eval, Region.binds] at hD
    simp [go_sem, gd, Oper.wp, e0, e3, hD]
    exact WPost.mk (Below.refl _ _) hC (IsV.mk _ _)
  apply ObE.step
  case hobl =>
    intro β A w' hβ hC hO hD
    have e0 := hO 0 (by rfl)
    have e3 := hO 3 (by rfl)
    simp [Act.eval] at e0 e3
    simp [depsL, IsV, slotv, Act.eval, Region.binds] at hD
    simp [go_sem, gd, Oper.wp, e0, e3, hD, L3, hC]
    exact WPost.mk (Below.refl _ _) hC (IsV.mk _ _)
  refine ObE.some (fun v w' => ∃ b, v = .slice (some ⟨b, 0, none⟩) 1 1 ∧ InAt w' w'.heap.size [7] (some ⟨b, 0, none⟩) 0) ?_ ?_ ?_
  · rintro v w w' hle ⟨b, rfl, hin⟩
    exact ⟨b, rfl, hin.same hle⟩
  · intro β A w' hβ hC hO hD
    simp [go_sem, gd, Oper.wp]
    exact WPost.mk (d := _) (v := .slice (some ⟨_, 0, none⟩) 1 1) (alloc_below _ _) (hC.trans ((alloc_below _ _).mono hC.size)) ⟨_, rfl, inAt_one _ 7 _⟩
  apply ObE.step
  case hobl =>
    intro β A w' hβ hC hO hD
    simp [depsL, IsV, slotv, Act.eval, Region.binds] at hD
    obtain ⟨d198, d200, ⟨b201, d201, hin201⟩, -⟩ := hD
    simp [go_sem, gd, Oper.wp, d198, d200, d201]
    refine (ckKind_any p w' aoD aoT capD capT _ aoA _ capA bs bt bc h.arg [7] _ 1 hi (by decide) (HP.out.same hC) hin201 (HK.out _ hC)).mono ?_
    rintro e' w2 ⟨rfl, hb⟩
    exact WPost.mk hb (hC.trans (hb.mono hC.size)) (IsV.mk _ _)
  apply ObE.step
  case hobl =>
    intro β A w' hβ hC hO hD
    have e0 := hO 0 (by rfl)
    have e3 := hO 3 (by rfl)
    simp [Act.eval] at e0 e3
    simp [depsL, IsV, slotv, Act.eval, Region.binds] at hD
    simp [go_sem, gd, Oper.wp, e0, e3, hD]
    exact WPost.mk (Below.refl _ _) hC (IsV.mk _ _)
  refine ObE.some (fun v w' => ∃ b, v = .slice (some ⟨b, 0, none⟩) 1 1 ∧ InAt w' w'.heap.size [7] (some ⟨b, 0, none⟩) 0) ?_ ?_ ?_
  · rintro v w w' hle ⟨b, rfl, hin⟩
    exact ⟨b, rfl, hin.same hle⟩
  · intro β A w' hβ hC hO hD
    simp [go_sem, gd, Oper.wp]
    exact WPost.mk (d := _) (v := .slice (some ⟨_, 0, none⟩) 1 1) (alloc_below _ _) (hC.trans ((alloc_below _ _).mono hC.size)) ⟨_, rfl, inAt_one _ 7 _⟩
  apply ObE.step
  case hobl =>
    intro β A w' hβ hC hO hD
    simp [depsL, IsV, slotv, Act.eval, Region.binds] at hD
    obtain ⟨d203, ⟨b204, d204, hin204⟩, -⟩ := hD
    simp [go_sem, gd, Oper.wp, d203, d204]
    refine (ckInside_any p w' aoD aoT capD capT _ aoA capA bs bt bc ar [7] _ 1 (by decide) hin204 HAL.out (HAR.out.same hC) (HK.out _ hC)).mono ?_
    rintro e' w2 ⟨rfl, hb⟩
    exact WPost.mk hb (hC.trans (hb.mono hC.size)) (IsV.mk _ _)
  apply ObE.step
  case hobl =>
    intro β A w' hβ hC hO hD
    simp [depsL, IsV, slotv, Act.eval, Region.binds] at hD
    simp [go_sem, gd, Oper.wp, hD]
    refine (nesting_any (insP ar [7]) w').mono ?_
    rintro e' w2 ⟨rfl, rfl⟩
    exact WPost.mk (Below.refl _ _) hC (IsV.mk _ _)
  refine ObE.some (fun v w' => ∃ b, v = .slice (some ⟨b, 0, none⟩) 3 3 ∧ InAt w' w'.heap.size [kindE (mean p i h.nm) [1], kindE (mean p i h.arg) [7], nest (insP ar [7])] (some ⟨b, 0, none⟩) 0) ?_ ?_ ?_
  · rintro v w w' hle ⟨b, rfl, hin⟩
    exact ⟨b, rfl, hin.same hle⟩
  · intro β A w' hβ hC hO hD
    simp [depsL, IsV, slotv, Act.eval, Region.binds] at hD
    simp [go_sem, gd, Oper.wp, hD]
    exact WPost.mk (d := _) (v := .slice (some ⟨_, 0, none⟩) 3 3) (alloc_below _ _) (hC.trans ((alloc_below _ _).mono hC.size)) ⟨_, rfl, inAt_three _ _ _ _ _⟩
  apply ObE.step
  case hobl =>
    intro β A w' hβ hC hO hD
    simp [depsL, IsV, slotv, Act.eval, Region.binds] at hD
    obtain ⟨⟨b207, d207, hin207⟩, -⟩ := hD
    simp [go_sem, gd, Oper.wp, d207]
    refine (ckFirst_any [kindE (mean p i h.nm) [1], kindE (mean p i h.arg) [7], nest (insP ar [7])] w' _ _ (by simp [maxLen]) hin207).mono ?_
    rintro e' w2 ⟨rfl, rfl⟩
    exact WPost.mk (Below.refl _ _) hC (IsV.mk _ _)
  apply ObE.step
  case hobl =>
    intro β A w' hβ hC hO hD
    have e0 := hO 0 (by rfl)
    have e3 := hO 3 (by rfl)
    simp [Act.eval] at e0 e3
    simp [depsL, IsV, slotv, Act.eval, Region.binds] at hD
    simp [go_sem, gd, Oper.wp, e0, e3, hD]
    exact WPost.mk (Below.refl _ _) hC (IsV.mk _ _)
  intro wz hCz
  intro v0 h0 v1 h1 v2 h2 v3 h3 v4 h4 v5 h5 v6 h6 v7 h7 v8 h8 v9 h9 v10 h10 v11 h11 v12 h12 v13 h13 v14 h14 v15 h15 v16 h16
  have hl' : v16 = _ := h16
  subst hl'
  clear h0 h1 h2 h3 h4 h5 h6 h7 h8 h9 h10 h11 h12 h13 h14 h15 h16
  refine AllVals.nil ?_
  go_wp2_with fail
  go_ret
  exact ⟨ret_int (by first | exact HR.out | exact HR.out.symm | (rw [← HR.out]; first | rfl | simp_all)), (HX.out.next hCz).1⟩

set_option maxHeartbeats 4000000 in
set_option maxRecDepth 100000 in
theorem ckStmt13 (j : Nat) (t : Th) (r : List Th) (hd : p.ts.drop j = t :: r) (h : StH) (b e ar : StL) (s : Sl) (hi : I64 (j : Int)) (hp : p.At w aoD aoT) (hin : StIn w h b e s) (hkw : KwLaid w) (har : ar.len ≤ maxLen) (hat : ar.At w w.heap.size aoA 0) (hh : Holds w (ckF bc p aoD aoT capD capT (j : Int) aoA ar.len capA bs bt)) (hop : h.op = 13) :
    Calls Tryz.prog 136 #[.pointer (some ⟨bc, 0, none⟩), stV h b e s] w fun e' w' => e' = .returned (.int .i64 (firstE [kindE (mean p (j : Int) h.nm) [8], nest (insP ar [7, 8] || h.nm.toList == t.nm.toList)])) ∧ Below w.heap.size w w' := by
  have HH := Lib.hid (show Sit w w _ from ⟨Below.refl _ _, hh⟩)
  obtain ⟨aoi, capi, aox, capx, aob, capb, aoe, cape⟩ := s
  have hxk := hin.1.2.2.2.2.2.1
  have hns := hin.1.2.2.1
  generalize hres : firstE [kindE (mean p (j : Int) h.nm) [8], nest (insP ar [7, 8] || h.nm.toList == t.nm.toList)] = res
  have HR := Lib.hid hres
  have HOP := Lib.hid hop
  have HSI := Lib.hid hin
  clear hres hop
  unfold stV
  dsimp only
  go_enter Tryz.func136, Tryz.ntmps136
  go_upto_region 1 with fail
  generalize hW : World.alloc w _ = W
  generalize Value.agg #[_, _, _, _, _, _, _, _, _, _, _] = a0
  have HX : Hid (Sit w W (stF w.heap.size h b e ⟨aoi, capi, aox, capx, aob, capb, aoe, cape⟩ (ckF bc p aoD aoT capD capT (j : Int) aoA ar.len capA bs bt))) := Lib.hid (by rw [← hW]; exact HH.out.box11 rfl _ _ _ _ _ _ _ _ _ _ _ _)
  clear hW HH
  have HP := Lib.hid (hp.same HX.out.1)
  have HKW := Lib.hid (hkw.same HX.out.1)
  have HAX := Lib.hid (hin.2.2.1.same HX.out.1)
  have HAR := Lib.hid (hat.same HX.out.1)
  have HAL := Lib.hid har
  have HK : Hid (∀ w', Below W.heap.size W w' → Holds w' (ckF bc p aoD aoT capD capT (j : Int) aoA ar.len capA bs bt)) := Lib.hid (fun w' hb => (HX.out.next hb).2.2.2.2.2.2.2.2.2.2.2.2)
  clear hp hkw hh hin hat har
  have L0 : ∀ w', Below W.heap.size W w' → w'.cell? ⟨w.heap.size, 0, none⟩ = some (.int .i64 h.op) := fun w' hb => (HX.out.next hb).2.1.2
  have L2 : ∀ w', Below W.heap.size W w' → w'.cell? ⟨w.heap.size, 2, none⟩ = some (.string h.nm) := fun w' hb => (HX.out.next hb).2.2.2.1.2
  have L3 : ∀ w', Below W.heap.size W w' → w'.cell? ⟨w.heap.size, 3, none⟩ = some (.string h.arg) := fun w' hb => (HX.out.next hb).2.2.2.2.1.2
  have L5 : ∀ w', Below W.heap.size W w' → w'.cell? ⟨w.heap.size, 5, none⟩ = some (.int .i64 h.xop) := fun w' hb => (HX.out.next hb).2.2.2.2.2.2.1.2
  have L6 : ∀ w', Below W.heap.size W w' → w'.cell? ⟨w.heap.size, 6, none⟩ = some (.int .i64 h.xn) := fun w' hb => (HX.out.next hb).2.2.2.2.2.2.2.1.2
  have L7 : ∀ w', Below W.heap.size W w' → w'.cell? ⟨w.heap.size, 7, none⟩ = some (.string h.xnm) := fun w' hb => (HX.out.next hb).2.2.2.2.2.2.2.2.1.2
  have L8 : ∀ w', Below W.heap.size W w' → w'.cell? ⟨w.heap.size, 8, none⟩ = some (.slice aox h.xkids.len capx) := fun w' hb => (HX.out.next hb).2.2.2.2.2.2.2.2.2.1.2
  have hB0 : Below W.heap.size W W := Below.refl _ _
  have l0 := L0 W hB0
  have hop := HOP.out
  have g1 : (h.op == 1) = false := by rw [hop]; rfl
  have g2 : (h.op == 2) = false := by rw [hop]; rfl
  have g3 : (h.op == 3) = false := by rw [hop]; rfl
  have g4 : (h.op == 4) = false := by rw [hop]; rfl
  have g5 : (h.op == 5) = false := by rw [hop]; rfl
  have g6 : (h.op == 6) = false := by rw [hop]; rfl
  have g7 : (h.op == 7) = false := by rw [hop]; rfl
  have g8 : (h.op == 8) = false := by rw [hop]; rfl
  have g9 : (h.op == 9) = false := by rw [hop]; rfl
  have g10 : (h.op == 10) = false := by rw [hop]; rfl
  have g11 : (h.op == 11) = false := by rw [hop]; rfl
  have g12 : (h.op == 12) = false := by rw [hop]; rfl
  have g13 : (h.op == 13) = true := by rw [hop]; rfl
  have g14 : (h.op == 14) = false := by rw [hop]; rfl
  have g15 : (h.op == 15) = false := by rw [hop]; rfl
  clear hop
  go_upto_region 23 with fail
  cases hq : insP ar [7, 8]
  · refine wp_region_wild (fun w' => Below W.heap.size W w') (fun w w' => Below w.heap.size w w') [149, 150, 151, 152, 153, 154, 155, 156, 157, 158, 159, 160, 161, 162, 163, 164, 165, 166, 4] (by kernel_rfl) (by kernel_rfl) (fun _ => Below.refl _ _) (by rfl) (below_drewN (Below.refl _ _) 1) ?_
    
    apply ObE.step
    case hobl =>
      intro β A w' hβ hC hO hD
      have e0 := hO 0 (by rfl)
      have e3 := hO 3 (by rfl)
      simp [Act.eval] at e0 e3
      simp [depsL, IsV, slotv, Act.eval, Region.binds] at hD
      simp [go_sem, gd, Oper.wp, e0, e3, hD]
      exact WPost.mk (Below.refl _ _) hC (IsV.mk _ _)
    apply ObE.step
    case hobl =>
      intro β A w' hβ hC hO hD
      have e0 := hO 0 (by rfl)
      have e3 := hO 3 (by rfl)
      simp [Act.eval] at e0 e3
      simp [depsL, IsV, slotv, Act.eval, Region.binds] at hD
      simp [go_sem, gd, Oper.wp, e0, e3, hD]
      exact WPost.mk (Below.refl _ _) hC (IsV.mk _ _)
    apply ObE.step
    case hobl =>
      intro β A w' hβ hC hO hD
      have e0 := hO 0 (by rfl)
      have e3 := hO 3 (by rfl)
      simp [Act.eval] at e0 e3
      simp [depsL, IsV, slotv, Act.eval, Region.binds] at hD
      simp [go_sem, gd, Oper.wp, e0, e3, hD, L2, hC]
      exact WPost.mk (Below.refl _ _) hC (IsV.mk _ _)
    refine ObE.some (fun v w' => ∃ b, v = .slice (some ⟨b, 0, none⟩) 1 1 ∧ InAt w' w'.heap.size [8] (some ⟨b, 0, none⟩) 0) ?_ ?_ ?_
    · rintro v w w' hle ⟨b, rfl, hin⟩
      exact ⟨b, rfl, hin.same hle⟩
    · intro β A w' hβ hC hO hD
      simp [go_sem, gd, Oper.wp]
      exact WPost.mk (d := _) (v := .slice (some ⟨_, 0, none⟩) 1 1) (alloc_below _ _) (hC.trans ((alloc_below _ _).mono hC.size)) ⟨_, rfl, inAt_one _ 8 _⟩
    apply ObE.step
    case hobl =>
      intro β A w' hβ hC hO hD
      simp [depsL, IsV, slotv, Act.eval, Region.binds] at hD
      obtain ⟨d149, d151, b152, d152, hin152⟩ := hD
      simp [go_sem, gd, Oper.wp, d149, d151, d152]
      refine (ckKind_any p w' aoD aoT capD capT _ aoA _ capA bs bt bc h.nm [8] _ 1 hi (by decide) (HP.out.same hC) hin152 (HK.out _ hC)).mono ?_
      rintro e' w2 ⟨rfl, hb⟩
      exact WPost.mk hb (hC.trans (hb.mono hC.size)) (IsV.mk _ _)
    apply ObE.step
    case hobl =>
      intro β A w' hβ hC hO hD
      have e0 := hO 0 (by rfl)
      have e3 := hO 3 (by rfl)
      simp [Act.eval] at e0 e3
      simp [depsL, IsV, slotv, Act.eval, Region.binds] at hD
      simp [go_sem, gd, Oper.wp, e0, e3, hD]
      exact WPost.mk (Below.refl _ _) hC (IsV.mk _ _)
    refine ObE.some (fun v w' => ∃ b, v = .slice (some ⟨b, 0, none⟩) 2 2 ∧ InAt w' w'.heap.size [7, 8] (some ⟨b, 0, none⟩) 0) ?_ ?_ ?_
    · rintro v w w' hle ⟨b, rfl, hin⟩
      exact ⟨b, rfl, hin.same hle⟩
    · intro β A w' hβ hC hO hD
      simp [go_sem, gd, Oper.wp]
      exact WPost.mk (d := _) (v := .slice (some ⟨_, 0, none⟩) 2 2) (alloc_below _ _) (hC.trans ((alloc_below _ _).mono hC.size)) ⟨_, rfl, inAt_two _ 7 8 _⟩
    apply ObE.step
    case hobl =>
      intro β A w' hβ hC hO hD
      simp [depsL, IsV, slotv, Act.eval, Region.binds] at hD
      obtain ⟨d154, ⟨b155, d155, hin155⟩, -⟩ := hD
      simp [go_sem, gd, Oper.wp, d154, d155]
      refine (hq ▸ ckInside_any p w' aoD aoT capD capT (j : Int) aoA capA bs bt bc ar [7, 8] _ 2 (by decide) hin155 HAL.out (HAR.out.same hC) (HK.out _ hC)).mono ?_
      rintro e' w2 ⟨rfl, hb⟩
      exact WPost.mk hb (hC.trans (hb.mono hC.size)) (IsV.mk _ _)
    apply ObE.step
    case hobl =>
      intro β A w' hβ hC hO hD
      have e0 := hO 0 (by rfl)
      have e3 := hO 3 (by rfl)
      simp [Act.eval] at e0 e3
      simp [depsL, IsV, slotv, Act.eval, Region.binds] at hD
      simp [go_sem, gd, Oper.wp, e0, e3, hD]
      exact WPost.mk (Below.refl _ _) hC (IsV.mk _ _)
    apply ObE.step
    case hobl =>
      intro β A w' hβ hC hO hD
      have e0 := hO 0 (by rfl)
      have e3 := hO 3 (by rfl)
      simp [Act.eval] at e0 e3
      simp [depsL, IsV, slotv, Act.eval, Region.binds] at hD
      simp [go_sem, gd, Oper.wp, e0, e3, hD]
      exact WPost.mk (Below.refl _ _) hC (IsV.mk _ _)
    apply ObE.step
    case hobl =>
      intro β A w' hβ hC hO hD
      have e0 := hO 0 (by rfl)
      have e3 := hO 3 (by rfl)
      simp [Act.eval] at e0 e3
      simp [depsL, IsV, slotv, Act.eval, Region.binds] at hD
      simp [go_sem, gd, Oper.wp, e0, e3, hD, L2, hC]
      exact WPost.mk (Below.refl _ _) hC (IsV.mk _ _)
    apply ObE.step
    case hobl =>
      intro β A w' hβ hC hO hD
      have e0 := hO 0 (by rfl)
      have e3 := hO 3 (by rfl)
      simp [Act.eval] at e0 e3
      simp [depsL, IsV, slotv, Act.eval, Region.binds] at hD
      simp [go_sem, gd, Oper.wp, e0, e3, hD]
      exact WPost.mk (Below.refl _ _) hC (IsV.mk _ _)
    apply ObE.step
    case hobl =>
      intro β A w' hβ hC hO hD
      simp [depsL, IsV, slotv, Act.eval, Region.binds] at hD
      simp [go_sem, gd, Oper.wp, hD]
      refine (ckOwn_any p w' aoD aoT capD capT aoA ar.len capA bs bt bc j t r hd (HP.out.same hC) (HK.out _ hC)).mono ?_
      rintro e' w2 ⟨rfl, hb⟩
      exact WPost.mk hb (hC.trans (hb.mono hC.size)) (IsV.mk _ _)
    apply ObE.step
    case hobl =>
      intro β A w' hβ hC hO hD
      have e0 := hO 0 (by rfl)
      have e3 := hO 3 (by rfl)
      simp [Act.eval] at e0 e3
      simp [depsL, IsV, slotv, Act.eval, Region.binds] at hD
      simp [go_sem, gd, Oper.wp, e0, e3, hD]
      exact WPost.mk (Below.refl _ _) hC (IsV.mk _ _)
    apply ObE.step
    case hobl =>
      intro β A w' hβ hC hO hD
      have e0 := hO 0 (by rfl)
      have e3 := hO 3 (by rfl)
      simp [Act.eval] at e0 e3
      simp [depsL, IsV, slotv, Act.eval, Region.binds] at hD
      simp [go_sem, gd, Oper.wp, e0, e3, hD]
      exact WPost.mk (Below.refl _ _) hC (IsV.mk _ _)
    apply ObE.step
    case hobl =>
      intro β A w' hβ hC hO hD
      simp [depsL, IsV, slotv, Act.eval, Region.binds] at hD
      simp [go_sem, gd, Oper.wp, hD]
      refine (nesting_any (h.nm.toList == t.nm.toList) w').mono ?_
      rintro e' w2 ⟨rfl, rfl⟩
      exact WPost.mk (Below.refl _ _) hC (IsV.mk _ _)
    refine ObE.some (fun v w' => ∃ b, v = .slice (some ⟨b, 0, none⟩) 2 2 ∧ InAt w' w'.heap.size [kindE (mean p (j : Int) h.nm) [8], nest (h.nm.toList == t.nm.toList)] (some ⟨b, 0, none⟩) 0) ?_ ?_ ?_
    · rintro v w w' hle ⟨b, rfl, hin⟩
      exact ⟨b, rfl, hin.same hle⟩
    · intro β A w' hβ hC hO hD
      simp [depsL, IsV, slotv, Act.eval, Region.binds] at hD
      simp [go_sem, gd, Oper.wp, hD]
      exact WPost.mk (d := _) (v := .slice (some ⟨_, 0, none⟩) 2 2) (alloc_below _ _) (hC.trans ((alloc_below _ _).mono hC.size)) ⟨_, rfl, inAt_two _ _ _ _⟩
    apply ObE.step
    case hobl =>
      intro β A w' hβ hC hO hD
      simp [depsL, IsV, slotv, Act.eval, Region.binds] at hD
      obtain ⟨⟨b165, d165, hin165⟩, -⟩ := hD
      simp [go_sem, gd, Oper.wp, d165]
      refine (ckFirst_any [kindE (mean p (j : Int) h.nm) [8], nest (h.nm.toList == t.nm.toList)] w' _ _ (by simp [maxLen]) hin165).mono ?_
      rintro e' w2 ⟨rfl, rfl⟩
      exact WPost.mk (Below.refl _ _) hC (IsV.mk _ _)
    apply ObE.step
    case hobl =>
      intro β A w' hβ hC hO hD
      have e0 := hO 0 (by rfl)
      have e3 := hO 3 (by rfl)
      simp [Act.eval] at e0 e3
      simp [depsL, IsV, slotv, Act.eval, Region.binds] at hD
      simp [go_sem, gd, Oper.wp, e0, e3, hD]
      exact WPost.mk (Below.refl _ _) hC (IsV.mk _ _)
    intro wz hCz
    intro v0 h0 v1 h1 v2 h2 v3 h3 v4 h4 v5 h5 v6 h6 v7 h7 v8 h8 v9 h9 v10 h10 v11 h11 v12 h12 v13 h13 v14 h14 v15 h15 v16 h16 v17 h17 v18 h18
    have hl' : v18 = _ := h18
    subst hl'
    clear h0 h1 h2 h3 h4 h5 h6 h7 h8 h9 h10 h11 h12 h13 h14 h15 h16 h17 h18
    refine AllVals.nil ?_
    go_wp2_with fail
    go_ret
    exact ⟨ret_int (by first | exact HR.out | exact HR.out.symm | (rw [← HR.out]; first | rfl | simp_all)), (HX.out.next hCz).1⟩
  · refine wp_region_wild (fun w' => Below W.heap.size W w') (fun w w' => Below w.heap.size w w') [149, 150, 151, 152, 153, 154, 155, 156, 157, 158, 159, 160, 161, 162, 163, 164, 165, 166, 4] (by kernel_rfl) (by kernel_rfl) (fun _ => Below.refl _ _) (by rfl) (below_drewN (Below.refl _ _) 1) ?_
    
    apply ObE.step
    case hobl =>
      intro β A w' hβ hC hO hD
      have e0 := hO 0 (by rfl)
      have e3 := hO 3 (by rfl)
      simp [Act.eval] at e0 e3
      simp [depsL, IsV, slotv, Act.eval, Region.binds] at hD
      simp [go_sem, gd, Oper.wp, e0, e3, hD]
      exact WPost.mk (Below.refl _ _) hC (IsV.mk _ _)
    apply ObE.step
    case hobl =>
      intro β A w' hβ hC hO hD
      have e0 := hO 0 (by rfl)
      have e3 := hO 3 (by rfl)
      simp [Act.eval] at e0 e3
      simp [depsL, IsV, slotv, Act.eval, Region.binds] at hD
      simp [go_sem, gd, Oper.wp, e0, e3, hD]
      exact WPost.mk (Below.refl _ _) hC (IsV.mk _ _)
    apply ObE.step
    case hobl =>
      intro β A w' hβ hC hO hD
      have e0 := hO 0 (by rfl)
      have e3 := hO 3 (by rfl)
      simp [Act.eval] at e0 e3
      simp [depsL, IsV, slotv, Act.eval, Region.binds] at hD
      simp [go_sem, gd, Oper.wp, e0, e3, hD, L2, hC]
      exact WPost.mk (Below.refl _ _) hC (IsV.mk _ _)
    refine ObE.some (fun v w' => ∃ b, v = .slice (some ⟨b, 0, none⟩) 1 1 ∧ InAt w' w'.heap.size [8] (some ⟨b, 0, none⟩) 0) ?_ ?_ ?_
    · rintro v w w' hle ⟨b, rfl, hin⟩
      exact ⟨b, rfl, hin.same hle⟩
    · intro β A w' hβ hC hO hD
      simp [go_sem, gd, Oper.wp]
      exact WPost.mk (d := _) (v := .slice (some ⟨_, 0, none⟩) 1 1) (alloc_below _ _) (hC.trans ((alloc_below _ _).mono hC.size)) ⟨_, rfl, inAt_one _ 8 _⟩
    apply ObE.step
    case hobl =>
      intro β A w' hβ hC hO hD
      simp [depsL, IsV, slotv, Act.eval, Region.binds] at hD
      obtain ⟨d149, d151, b152, d152, hin152⟩ := hD
      simp [go_sem, gd, Oper.wp, d149, d151, d152]
      refine (ckKind_any p w' aoD aoT capD capT _ aoA _ capA bs bt bc h.nm [8] _ 1 hi (by decide) (HP.out.same hC) hin152 (HK.out _ hC)).mono ?_
      rintro e' w2 ⟨rfl, hb⟩
      exact WPost.mk hb (hC.trans (hb.mono hC.size)) (IsV.mk _ _)
    apply ObE.step
    case hobl =>
      intro β A w' hβ hC hO hD
      have e0 := hO 0 (by rfl)
      have e3 := hO 3 (by rfl)
      simp [Act.eval] at e0 e3
      simp [depsL, IsV, slotv, Act.eval, Region.binds] at hD
      simp [go_sem, gd, Oper.wp, e0, e3, hD]
      exact WPost.mk (Below.refl _ _) hC (IsV.mk _ _)
    refine ObE.some (fun v w' => ∃ b, v = .slice (some ⟨b, 0, none⟩) 2 2 ∧ InAt w' w'.heap.size [7, 8] (some ⟨b, 0, none⟩) 0) ?_ ?_ ?_
    · rintro v w w' hle ⟨b, rfl, hin⟩
      exact ⟨b, rfl, hin.same hle⟩
    · intro β A w' hβ hC hO hD
      simp [go_sem, gd, Oper.wp]
      exact WPost.mk (d := _) (v := .slice (some ⟨_, 0, none⟩) 2 2) (alloc_below _ _) (hC.trans ((alloc_below _ _).mono hC.size)) ⟨_, rfl, inAt_two _ 7 8 _⟩
    apply ObE.step
    case hobl =>
      intro β A w' hβ hC hO hD
      simp [depsL, IsV, slotv, Act.eval, Region.binds] at hD
      obtain ⟨d154, ⟨b155, d155, hin155⟩, -⟩ := hD
      simp [go_sem, gd, Oper.wp, d154, d155]
      refine (hq ▸ ckInside_any p w' aoD aoT capD capT (j : Int) aoA capA bs bt bc ar [7, 8] _ 2 (by decide) hin155 HAL.out (HAR.out.same hC) (HK.out _ hC)).mono ?_
      rintro e' w2 ⟨rfl, hb⟩
      exact WPost.mk hb (hC.trans (hb.mono hC.size)) (IsV.mk _ _)
    apply ObE.step
    case hobl =>
      intro β A w' hβ hC hO hD
      have e0 := hO 0 (by rfl)
      have e3 := hO 3 (by rfl)
      simp [Act.eval] at e0 e3
      simp [depsL, IsV, slotv, Act.eval, Region.binds] at hD
      simp [go_sem, gd, Oper.wp, e0, e3, hD]
      exact WPost.mk (Below.refl _ _) hC (IsV.mk _ _)
    refine ObE.step (v := undef) ?_ ?_
    · intro β A w' hβ hC hO hD
      simp [depsL, IsV, slotv, Act.eval, Region.binds] at hD
      simp [gd, Act.eval, hD]
      first | exact IsV.mk _ _ | exact ⟨by rfl, IsV.mk _ _⟩
    refine ObE.step (v := undef) ?_ ?_
    · intro β A w' hβ hC hO hD
      simp [depsL, IsV, slotv, Act.eval, Region.binds] at hD
      simp [gd, Act.eval, hD]
      first | exact IsV.mk _ _ | exact ⟨by rfl, IsV.mk _ _⟩
    refine ObE.step (v := undef) ?_ ?_
    · intro β A w' hβ hC hO hD
      simp [depsL, IsV, slotv, Act.eval, Region.binds] at hD
      simp [gd, Act.eval, hD]
      first | exact IsV.mk _ _ | exact ⟨by rfl, IsV.mk _ _⟩
    refine ObE.step (v := undef) ?_ ?_
    · intro β A w' hβ hC hO hD
      simp [depsL, IsV, slotv, Act.eval, Region.binds] at hD
      simp [gd, Act.eval, hD]
      first | exact IsV.mk _ _ | exact ⟨by rfl, IsV.mk _ _⟩
    refine ObE.step (v := undef) ?_ ?_
    · intro β A w' hβ hC hO hD
      simp [depsL, IsV, slotv, Act.eval, Region.binds] at hD
      simp [gd, Act.eval, hD]
      first | exact IsV.mk _ _ | exact ⟨by rfl, IsV.mk _ _⟩
    apply ObE.step
    case hobl =>
      intro β A w' hβ hC hO hD
      have e0 := hO 0 (by rfl)
      have e3 := hO 3 (by rfl)
      simp [Act.eval] at e0 e3
      simp [depsL, IsV, slotv, Act.eval, Region.binds] at hD
      simp [go_sem, gd, Oper.wp, e0, e3, hD]
      exact WPost.mk (Below.refl _ _) hC (IsV.mk _ _)
    apply ObE.step
    case hobl =>
      intro β A w' hβ hC hO hD
      simp [depsL, IsV, slotv, Act.eval, Region.binds] at hD
      simp [go_sem, gd, Oper.wp, hD]
      refine (nesting_any true w').mono ?_
      rintro e' w2 ⟨rfl, rfl⟩
      exact WPost.mk (Below.refl _ _) hC (IsV.mk _ _)
    refine ObE.some (fun v w' => ∃ b, v = .slice (some ⟨b, 0, none⟩) 2 2 ∧ InAt w' w'.heap.size [kindE (mean p (j : Int) h.nm) [8], nest true] (some ⟨b, 0, none⟩) 0) ?_ ?_ ?_
    · rintro v w w' hle ⟨b, rfl, hin⟩
      exact ⟨b, rfl, hin.same hle⟩
    · intro β A w' hβ hC hO hD
      simp [depsL, IsV, slotv, Act.eval, Region.binds] at hD
      simp [go_sem, gd, Oper.wp, hD]
      exact WPost.mk (d := _) (v := .slice (some ⟨_, 0, none⟩) 2 2) (alloc_below _ _) (hC.trans ((alloc_below _ _).mono hC.size)) ⟨_, rfl, inAt_two _ _ _ _⟩
    apply ObE.step
    case hobl =>
      intro β A w' hβ hC hO hD
      simp [depsL, IsV, slotv, Act.eval, Region.binds] at hD
      obtain ⟨⟨b165, d165, hin165⟩, -⟩ := hD
      simp [go_sem, gd, Oper.wp, d165]
      refine (ckFirst_any [kindE (mean p (j : Int) h.nm) [8], nest true] w' _ _ (by simp [maxLen]) hin165).mono ?_
      rintro e' w2 ⟨rfl, rfl⟩
      exact WPost.mk (Below.refl _ _) hC (IsV.mk _ _)
    apply ObE.step
    case hobl =>
      intro β A w' hβ hC hO hD
      have e0 := hO 0 (by rfl)
      have e3 := hO 3 (by rfl)
      simp [Act.eval] at e0 e3
      simp [depsL, IsV, slotv, Act.eval, Region.binds] at hD
      simp [go_sem, gd, Oper.wp, e0, e3, hD]
      exact WPost.mk (Below.refl _ _) hC (IsV.mk _ _)
    intro wz hCz
    intro v0 h0 v1 h1 v2 h2 v3 h3 v4 h4 v5 h5 v6 h6 v7 h7 v8 h8 v9 h9 v10 h10 v11 h11 v12 h12 v13 h13 v14 h14 v15 h15 v16 h16 v17 h17 v18 h18
    have hl' : v18 = _ := h18
    subst hl'
    clear h0 h1 h2 h3 h4 h5 h6 h7 h8 h9 h10 h11 h12 h13 h14 h15 h16 h17 h18
    refine AllVals.nil ?_
    go_wp2_with fail
    go_ret
    exact ⟨ret_int (by first | exact HR.out | exact HR.out.symm | (rw [← HR.out]; first | rfl | simp_all)), (HX.out.next hCz).1⟩
end
end Go.Proofs.YtommnhglgedflaaGreatDoor
