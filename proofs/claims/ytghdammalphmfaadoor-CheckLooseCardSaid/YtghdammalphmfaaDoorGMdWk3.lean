/-
  Contract of the reference walk's one: where nothing is appended.
-/
import Derived.Test.YtghdammalphmfaaDoorGM
import Derived.Test.YtghdammalphmfaaDoorGD
import Derived.IntWalk
import Derived.Deep.RegionWith
set_option linter.unusedSimpArgs false
set_option linter.unusedVariables false
namespace Go.Proofs.YtghdammalphmfaaDoor
open Go.RowKit
open Md
section
variable (p : Pr) (w : World) (aoD aoT : Option Addr) (capD capT : Nat) (i : Int) (aoA : Option Addr) (capA bc : Nat) (aoS : Option Addr) (lenS capS : Nat) (aoE : Option Addr) (lenE capE : Nat)
set_option maxHeartbeats 4000000 in
set_option maxRecDepth 100000 in
theorem wkOne7 (h : StH) (b e ar : StL) (s : Sl) (hi : I64 i) (hp : p.At w aoD aoT) (hin : StIn w h b e s) (har : ar.len ≤ maxLen) (hat : ar.At w w.heap.size aoA 0) (hh : Holds w (wkF bc p aoD aoT capD capT i aoA ar.len capA aoS lenS capS aoE lenE capE)) (hop : h.op = 7) :
    Calls Tryd.prog 58 #[.pointer (some ⟨bc, 0, none⟩), stV h b e s] w fun e' w' => e' = .returned (.int .i64 (nest (insR ar 7 7 ⟨#[]⟩))) ∧ Below w.heap.size w w' := by
  generalize hres : (nest (insR ar 7 7 ⟨#[]⟩)) = res
  have HR : Hid (res = (nest (insR ar 7 7 ⟨#[]⟩))) := Lib.hid (by rw [← hres])
  have HOP := Lib.hid hop
  clear hres hop
  have HH := Lib.hid (show Sit w w _ from ⟨Below.refl _ _, hh⟩)
  have HSI := Lib.hid hin
  have HAR := Lib.hid hat
  have HAL := Lib.hid har
  have HP := Lib.hid hp
  unfold stV
  clear hh hin hat har hp
  go_enter Tryd.func58, Tryd.ntmps58
  go_upto_region 1 with fail
  generalize hW : World.alloc w _ = W
  generalize Value.agg #[_, _, _, _, _, _, _, _, _, _, _] = a0
  have HX : Hid (Sit w W (stF w.heap.size h b e s (wkF bc p aoD aoT capD capT i aoA ar.len capA aoS lenS capS aoE lenE capE))) := Lib.hid (by rw [← hW]; exact HH.out.box11 rfl _ _ _ _ _ _ _ _ _ _ _ _)
  clear hW HH
  have K0 : ∀ w', Below W.heap.size W w' → w'.cell? ⟨bc, 0, none⟩ = some (.slice aoD p.ds.length capD) := fun w' hb => (HX.out.next hb).2.2.2.2.2.2.2.2.2.2.2.2.1.2
  have K1 : ∀ w', Below W.heap.size W w' → w'.cell? ⟨bc, 1, none⟩ = some (.slice aoT p.ts.length capT) := fun w' hb => (HX.out.next hb).2.2.2.2.2.2.2.2.2.2.2.2.2.1.2
  have K2 : ∀ w', Below W.heap.size W w' → w'.cell? ⟨bc, 2, none⟩ = some (.int .i64 i) := fun w' hb => (HX.out.next hb).2.2.2.2.2.2.2.2.2.2.2.2.2.2.1.2
  have HD1 : Below W.heap.size W (W.drewN 1) := below_drewN (Below.refl _ _) 1
  refine wpAny_start (by kernel_rfl) rfl ?_
  generalize W.drewN 1 = W1 at *
  refine wpAny_phase 0 11 [8, 9] [[], [0], [0, 1], [0, 1, 2], [], [4], [4, 5], [4, 5, 6], [], [0, 1, 2, 3, 8], [0, 1, 2, 3, 4, 5, 6, 7, 8, 9]] [[none, some false], [none, some false], [none, some false], [none, some false], [none, none], [none, none], [none, none], [none, none], [some false, some false], [some true, some false], [some true, some true]] (AC W1 (.cells #[.slice none 0 0, .slice none 0 0] 29) (.cells #[.slice aoD p.ds.length capD, .slice aoT p.ts.length capT] 29)) (fun _ _ => True) [15, 16, 17, 18, 19, 20, 21, 22, 5, 6] rfl rfl (by rfl) (by kernel_rfl) (by kernel_rfl) (by kernel_rfl) (by kernel_rfl) (by kernel_rfl) (by rfl) (fun _ => trivial) (by rfl) rfl ?_
  simp only [List.take_succ_cons, List.take_zero, List.drop_zero, List.drop_succ_cons, dumE, List.map_cons, List.map_nil]
  apply ObP.step
  case hobl =>
    intro c A w' hok hC hO hD
    have e0 := hO 0 (by rfl)
    simp [Act.eval] at e0
    simp [depsL, IsV, slotv, Act.eval, Region.binds] at hD
    simp [go_sem, gd, Oper.wp, hD, e0]
    exact WPost.mk trivial (AC.skip (by rfl) (by rfl) hC) (IsV.mk _ _)
  apply ObP.step
  case hobl =>
    intro c A w' hok hC hO hD
    simp [depsL, IsV, slotv, Act.eval, Region.binds] at hD
    simp [go_sem, gd, Oper.wp, hD]
    exact WPost.mk trivial (AC.skip (by rfl) (by rfl) hC) (IsV.mk _ _)
  apply ObP.step
  case hobl =>
    intro c A w' hok hC hO hD
    simp [depsL, IsV, slotv, Act.eval, Region.binds] at hD
    simp [go_sem, gd, Oper.wp, hD]
    exact WPost.mk trivial (AC.skip (by rfl) (by rfl) hC) (IsV.mk _ _)
  apply ObP.step
  case hobl =>
    intro c A w' hok hC hO hD
    simp [depsL, IsV, slotv, Act.eval, Region.binds] at hD
    simp [go_sem, gd, Oper.wp, hD, K0, K1, AC.below HD1 hC]
    exact WPost.mk trivial (AC.skip (by rfl) (by rfl) hC) (IsV.mk _ _)
  apply ObP.step
  case hobl =>
    intro c A w' hok hC hO hD
    have e0 := hO 0 (by rfl)
    simp [Act.eval] at e0
    simp [depsL, IsV, slotv, Act.eval, Region.binds] at hD
    simp [go_sem, gd, Oper.wp, hD, e0]
    exact WPost.mk trivial (AC.skip (by rfl) (by rfl) hC) (IsV.mk _ _)
  simp only [List.nil_append, List.cons_append]
  apply ObP.step
  case hobl =>
    intro c A w' hok hC hO hD
    simp [depsL, IsV, slotv, Act.eval, Region.binds] at hD
    simp [go_sem, gd, Oper.wp, hD]
    exact WPost.mk trivial (AC.skip (by rfl) (by rfl) hC) (IsV.mk _ _)
  apply ObP.step
  case hobl =>
    intro c A w' hok hC hO hD
    simp [depsL, IsV, slotv, Act.eval, Region.binds] at hD
    simp [go_sem, gd, Oper.wp, hD]
    exact WPost.mk trivial (AC.skip (by rfl) (by rfl) hC) (IsV.mk _ _)
  apply ObP.step
  case hobl =>
    intro c A w' hok hC hO hD
    simp [depsL, IsV, slotv, Act.eval, Region.binds] at hD
    simp [go_sem, gd, Oper.wp, hD, K2, AC.below HD1 hC]
    exact WPost.mk trivial (AC.skip (by rfl) (by rfl) hC) (IsV.mk _ _)
  simp only [List.nil_append, List.cons_append]
  apply ObP.step
  case hobl =>
    intro c A w' hok hC hO hD
    obtain ⟨x, y, rfl⟩ := hC.bits
    obtain ⟨rfl, rfl, -⟩ := hok
    have hw : w' = W1 := hC
    subst hw
    simp [go_sem, gd, Oper.wp]
    exact WPost.mk trivial (AC.lay (by rfl) (by rfl)) (IsV.mk _ _)
  refine ObP.some (fun _ _ => True) (fun _ _ _ _ _ => trivial) ?_ ?_
  · intro c A w' hok hC hO hD
    obtain ⟨x, y, rfl⟩ := hC.bits
    obtain ⟨rfl, rfl, -⟩ := hok
    have hw : w' = W1.alloc _ := hC
    subst hw
    simp [depsL, IsV, slotv, Act.eval, Region.binds] at hD
    simp [go_sem, gd, Oper.wp, hD]
    exact WPost.mk0 (v := undef) trivial (AC.fill (by rfl) (by rfl)) trivial
  simp only [List.nil_append, List.cons_append]
  apply ObP.step
  case hobl =>
    intro c A w' hok hC hO hD
    simp [depsL, IsV, slotv, Act.eval, Region.binds] at hD
    simp [go_sem, gd, Oper.wp, hD]
    exact WPost.mk trivial (AC.skip (by rfl) (by rfl) hC) (IsV.mk _ _)
  simp only [List.nil_append, List.cons_append]
  refine ObP.done ?_
  intro wz hCz
  simp only [List.drop_zero]
  intro v0 h0 v1 h1 v2 h2 v3 h3 v4 h4 v5 h5 v6 h6 v7 h7 v8 h8 v9 h9 v10 h10
  have h8' : v8 = _ := h8
  have h10' : v10 = _ := h10
  subst h8' h10'
  clear h0 h1 h2 h3 h4 h5 h6 h7 h8 h9 h10
  refine AllVals.nil ?_
  refine wpAny_end rfl ?_
  have hCz' : wz = W1.alloc _ := hCz
  generalize hn1 : W1.heap.size = n1 at *
  have HY := Lib.hid ((HX.out.next HD1).box2 hn1 (.slice aoD p.ds.length capD) (.slice aoT p.ts.length capT) 29)
  rw [← hCz'] at HY
  clear hCz hCz' HX K0 K1 K2 HD1 hn1
  go_simp
  obtain ⟨-, ⟨-, c0⟩, ⟨-, c1⟩, ⟨-, c2⟩, ⟨-, c3⟩, ⟨-, c4⟩, ⟨-, c5⟩, ⟨-, c6⟩, ⟨-, c7⟩, ⟨-, c8⟩, ⟨-, c9⟩, ⟨-, c10⟩, ⟨-, c11⟩, ⟨-, c12⟩, ⟨-, c13⟩, ⟨-, c14⟩, ⟨-, c15⟩, ⟨-, c16⟩, ⟨-, c17⟩, ⟨-, c18⟩, -⟩ := HY.out
  go_wp2_with fail
  refine (wkInside_any p _ aoD aoT capD capT i aoA capA bc aoS lenS capS aoE lenE capE ar 7 7 ⟨#[]⟩ HAL.out (HAR.out.same HY.out.1) (wkHolds HY.out)).mono ?_
  rintro e' W ⟨rfl, hb⟩
  replace HY := Lib.hid (HY.out.next hb)
  clear hb c0 c1 c2 c3 c4 c5 c6 c7 c8 c9 c10 c11 c12 c13 c14 c15 c16 c17 c18
  obtain ⟨-, ⟨-, c0⟩, ⟨-, c1⟩, ⟨-, c2⟩, ⟨-, c3⟩, ⟨-, c4⟩, ⟨-, c5⟩, ⟨-, c6⟩, ⟨-, c7⟩, ⟨-, c8⟩, ⟨-, c9⟩, ⟨-, c10⟩, ⟨-, c11⟩, ⟨-, c12⟩, ⟨-, c13⟩, ⟨-, c14⟩, ⟨-, c15⟩, ⟨-, c16⟩, ⟨-, c17⟩, ⟨-, c18⟩, -⟩ := HY.out
  go_wp2_with fail
  refine (wkInside_any p _ aoD aoT capD capT i aoA capA bc aoS lenS capS aoE lenE capE ar 8 8 ⟨#[]⟩ HAL.out (HAR.out.same HY.out.1) (wkHolds HY.out)).mono ?_
  rintro e' W ⟨rfl, hb⟩
  replace HY := Lib.hid (HY.out.next hb)
  clear hb c0 c1 c2 c3 c4 c5 c6 c7 c8 c9 c10 c11 c12 c13 c14 c15 c16 c17 c18
  obtain ⟨-, ⟨-, c0⟩, ⟨-, c1⟩, ⟨-, c2⟩, ⟨-, c3⟩, ⟨-, c4⟩, ⟨-, c5⟩, ⟨-, c6⟩, ⟨-, c7⟩, ⟨-, c8⟩, ⟨-, c9⟩, ⟨-, c10⟩, ⟨-, c11⟩, ⟨-, c12⟩, ⟨-, c13⟩, ⟨-, c14⟩, ⟨-, c15⟩, ⟨-, c16⟩, ⟨-, c17⟩, ⟨-, c18⟩, -⟩ := HY.out
  go_wp2_with fail
  refine (wkInside_any p _ aoD aoT capD capT i aoA capA bc aoS lenS capS aoE lenE capE ar 3 3 ⟨#[]⟩ HAL.out (HAR.out.same HY.out.1) (wkHolds HY.out)).mono ?_
  rintro e' W ⟨rfl, hb⟩
  replace HY := Lib.hid (HY.out.next hb)
  clear hb c0 c1 c2 c3 c4 c5 c6 c7 c8 c9 c10 c11 c12 c13 c14 c15 c16 c17 c18
  obtain ⟨-, ⟨-, c0⟩, ⟨-, c1⟩, ⟨-, c2⟩, ⟨-, c3⟩, ⟨-, c4⟩, ⟨-, c5⟩, ⟨-, c6⟩, ⟨-, c7⟩, ⟨-, c8⟩, ⟨-, c9⟩, ⟨-, c10⟩, ⟨-, c11⟩, ⟨-, c12⟩, ⟨-, c13⟩, ⟨-, c14⟩, ⟨-, c15⟩, ⟨-, c16⟩, ⟨-, c17⟩, ⟨-, c18⟩, -⟩ := HY.out
  generalize htx : insR ar 7 7 ⟨#[]⟩ = tx at *
  generalize hat' : insR ar 8 8 ⟨#[]⟩ = atm at *
  generalize hlo : insR ar 3 3 ⟨#[]⟩ = lop at *
  clear htx hat' hlo
  have hop := HOP.out
  have g1 : (h.op == 1) = false := by rw [hop]; rfl
  have g2 : (h.op == 2) = false := by rw [hop]; rfl
  have g3 : (h.op == 3) = false := by rw [hop]; rfl
  have g4 : (h.op == 4) = false := by rw [hop]; rfl
  have g5 : (h.op == 5) = false := by rw [hop]; rfl
  have g6 : (h.op == 6) = false := by rw [hop]; rfl
  have g7 : (h.op == 7) = true := by rw [hop]; rfl
  have g8 : (h.op == 8) = false := by rw [hop]; rfl
  have g9 : (h.op == 9) = false := by rw [hop]; rfl
  have g10 : (h.op == 10) = false := by rw [hop]; rfl
  have g11 : (h.op == 11) = false := by rw [hop]; rfl
  have g12 : (h.op == 12) = false := by rw [hop]; rfl
  have g13 : (h.op == 13) = false := by rw [hop]; rfl
  have g14 : (h.op == 14) = false := by rw [hop]; rfl
  have g15 : (h.op == 15) = false := by rw [hop]; rfl
  clear hop
  go_wp2_with fail
  refine (RefNesting_any _ _).mono ?_
  rintro e' W' ⟨rfl, rfl⟩
  go_wp2_with fail
  go_ret
  exact ⟨ret_int (by first | exact HR.out.symm | (rw [HR.out]; first | done | rfl | simp [orE, nest])), HY.out.1⟩
set_option maxHeartbeats 4000000 in
set_option maxRecDepth 100000 in
theorem wkOne8 (h : StH) (b e ar : StL) (s : Sl) (hi : I64 i) (hp : p.At w aoD aoT) (hin : StIn w h b e s) (har : ar.len ≤ maxLen) (hat : ar.At w w.heap.size aoA 0) (hh : Holds w (wkF bc p aoD aoT capD capT i aoA ar.len capA aoS lenS capS aoE lenE capE)) (hop : h.op = 8) :
    Calls Tryd.prog 58 #[.pointer (some ⟨bc, 0, none⟩), stV h b e s] w fun e' w' => e' = .returned (.int .i64 (nest (insR ar 7 7 ⟨#[]⟩ || insR ar 8 8 ⟨#[]⟩))) ∧ Below w.heap.size w w' := by
  generalize hres : (nest (insR ar 7 7 ⟨#[]⟩ || insR ar 8 8 ⟨#[]⟩)) = res
  have HR : Hid (res = (nest (insR ar 7 7 ⟨#[]⟩ || insR ar 8 8 ⟨#[]⟩))) := Lib.hid (by rw [← hres])
  have HOP := Lib.hid hop
  clear hres hop
  have HH := Lib.hid (show Sit w w _ from ⟨Below.refl _ _, hh⟩)
  have HSI := Lib.hid hin
  have HAR := Lib.hid hat
  have HAL := Lib.hid har
  have HP := Lib.hid hp
  unfold stV
  clear hh hin hat har hp
  go_enter Tryd.func58, Tryd.ntmps58
  go_upto_region 1 with fail
  generalize hW : World.alloc w _ = W
  generalize Value.agg #[_, _, _, _, _, _, _, _, _, _, _] = a0
  have HX : Hid (Sit w W (stF w.heap.size h b e s (wkF bc p aoD aoT capD capT i aoA ar.len capA aoS lenS capS aoE lenE capE))) := Lib.hid (by rw [← hW]; exact HH.out.box11 rfl _ _ _ _ _ _ _ _ _ _ _ _)
  clear hW HH
  have K0 : ∀ w', Below W.heap.size W w' → w'.cell? ⟨bc, 0, none⟩ = some (.slice aoD p.ds.length capD) := fun w' hb => (HX.out.next hb).2.2.2.2.2.2.2.2.2.2.2.2.1.2
  have K1 : ∀ w', Below W.heap.size W w' → w'.cell? ⟨bc, 1, none⟩ = some (.slice aoT p.ts.length capT) := fun w' hb => (HX.out.next hb).2.2.2.2.2.2.2.2.2.2.2.2.2.1.2
  have K2 : ∀ w', Below W.heap.size W w' → w'.cell? ⟨bc, 2, none⟩ = some (.int .i64 i) := fun w' hb => (HX.out.next hb).2.2.2.2.2.2.2.2.2.2.2.2.2.2.1.2
  have HD1 : Below W.heap.size W (W.drewN 1) := below_drewN (Below.refl _ _) 1
  refine wpAny_start (by kernel_rfl) rfl ?_
  generalize W.drewN 1 = W1 at *
  refine wpAny_phase 0 11 [8, 9] [[], [0], [0, 1], [0, 1, 2], [], [4], [4, 5], [4, 5, 6], [], [0, 1, 2, 3, 8], [0, 1, 2, 3, 4, 5, 6, 7, 8, 9]] [[none, some false], [none, some false], [none, some false], [none, some false], [none, none], [none, none], [none, none], [none, none], [some false, some false], [some true, some false], [some true, some true]] (AC W1 (.cells #[.slice none 0 0, .slice none 0 0] 29) (.cells #[.slice aoD p.ds.length capD, .slice aoT p.ts.length capT] 29)) (fun _ _ => True) [15, 16, 17, 18, 19, 20, 21, 22, 5, 6] rfl rfl (by rfl) (by kernel_rfl) (by kernel_rfl) (by kernel_rfl) (by kernel_rfl) (by kernel_rfl) (by rfl) (fun _ => trivial) (by rfl) rfl ?_
  simp only [List.take_succ_cons, List.take_zero, List.drop_zero, List.drop_succ_cons, dumE, List.map_cons, List.map_nil]
  apply ObP.step
  case hobl =>
    intro c A w' hok hC hO hD
    have e0 := hO 0 (by rfl)
    simp [Act.eval] at e0
    simp [depsL, IsV, slotv, Act.eval, Region.binds] at hD
    simp [go_sem, gd, Oper.wp, hD, e0]
    exact WPost.mk trivial (AC.skip (by rfl) (by rfl) hC) (IsV.mk _ _)
  apply ObP.step
  case hobl =>
    intro c A w' hok hC hO hD
    simp [depsL, IsV, slotv, Act.eval, Region.binds] at hD
    simp [go_sem, gd, Oper.wp, hD]
    exact WPost.mk trivial (AC.skip (by rfl) (by rfl) hC) (IsV.mk _ _)
  apply ObP.step
  case hobl =>
    intro c A w' hok hC hO hD
    simp [depsL, IsV, slotv, Act.eval, Region.binds] at hD
    simp [go_sem, gd, Oper.wp, hD]
    exact WPost.mk trivial (AC.skip (by rfl) (by rfl) hC) (IsV.mk _ _)
  apply ObP.step
  case hobl =>
    intro c A w' hok hC hO hD
    simp [depsL, IsV, slotv, Act.eval, Region.binds] at hD
    simp [go_sem, gd, Oper.wp, hD, K0, K1, AC.below HD1 hC]
    exact WPost.mk trivial (AC.skip (by rfl) (by rfl) hC) (IsV.mk _ _)
  apply ObP.step
  case hobl =>
    intro c A w' hok hC hO hD
    have e0 := hO 0 (by rfl)
    simp [Act.eval] at e0
    simp [depsL, IsV, slotv, Act.eval, Region.binds] at hD
    simp [go_sem, gd, Oper.wp, hD, e0]
    exact WPost.mk trivial (AC.skip (by rfl) (by rfl) hC) (IsV.mk _ _)
  simp only [List.nil_append, List.cons_append]
  apply ObP.step
  case hobl =>
    intro c A w' hok hC hO hD
    simp [depsL, IsV, slotv, Act.eval, Region.binds] at hD
    simp [go_sem, gd, Oper.wp, hD]
    exact WPost.mk trivial (AC.skip (by rfl) (by rfl) hC) (IsV.mk _ _)
  apply ObP.step
  case hobl =>
    intro c A w' hok hC hO hD
    simp [depsL, IsV, slotv, Act.eval, Region.binds] at hD
    simp [go_sem, gd, Oper.wp, hD]
    exact WPost.mk trivial (AC.skip (by rfl) (by rfl) hC) (IsV.mk _ _)
  apply ObP.step
  case hobl =>
    intro c A w' hok hC hO hD
    simp [depsL, IsV, slotv, Act.eval, Region.binds] at hD
    simp [go_sem, gd, Oper.wp, hD, K2, AC.below HD1 hC]
    exact WPost.mk trivial (AC.skip (by rfl) (by rfl) hC) (IsV.mk _ _)
  simp only [List.nil_append, List.cons_append]
  apply ObP.step
  case hobl =>
    intro c A w' hok hC hO hD
    obtain ⟨x, y, rfl⟩ := hC.bits
    obtain ⟨rfl, rfl, -⟩ := hok
    have hw : w' = W1 := hC
    subst hw
    simp [go_sem, gd, Oper.wp]
    exact WPost.mk trivial (AC.lay (by rfl) (by rfl)) (IsV.mk _ _)
  refine ObP.some (fun _ _ => True) (fun _ _ _ _ _ => trivial) ?_ ?_
  · intro c A w' hok hC hO hD
    obtain ⟨x, y, rfl⟩ := hC.bits
    obtain ⟨rfl, rfl, -⟩ := hok
    have hw : w' = W1.alloc _ := hC
    subst hw
    simp [depsL, IsV, slotv, Act.eval, Region.binds] at hD
    simp [go_sem, gd, Oper.wp, hD]
    exact WPost.mk0 (v := undef) trivial (AC.fill (by rfl) (by rfl)) trivial
  simp only [List.nil_append, List.cons_append]
  apply ObP.step
  case hobl =>
    intro c A w' hok hC hO hD
    simp [depsL, IsV, slotv, Act.eval, Region.binds] at hD
    simp [go_sem, gd, Oper.wp, hD]
    exact WPost.mk trivial (AC.skip (by rfl) (by rfl) hC) (IsV.mk _ _)
  simp only [List.nil_append, List.cons_append]
  refine ObP.done ?_
  intro wz hCz
  simp only [List.drop_zero]
  intro v0 h0 v1 h1 v2 h2 v3 h3 v4 h4 v5 h5 v6 h6 v7 h7 v8 h8 v9 h9 v10 h10
  have h8' : v8 = _ := h8
  have h10' : v10 = _ := h10
  subst h8' h10'
  clear h0 h1 h2 h3 h4 h5 h6 h7 h8 h9 h10
  refine AllVals.nil ?_
  refine wpAny_end rfl ?_
  have hCz' : wz = W1.alloc _ := hCz
  generalize hn1 : W1.heap.size = n1 at *
  have HY := Lib.hid ((HX.out.next HD1).box2 hn1 (.slice aoD p.ds.length capD) (.slice aoT p.ts.length capT) 29)
  rw [← hCz'] at HY
  clear hCz hCz' HX K0 K1 K2 HD1 hn1
  go_simp
  obtain ⟨-, ⟨-, c0⟩, ⟨-, c1⟩, ⟨-, c2⟩, ⟨-, c3⟩, ⟨-, c4⟩, ⟨-, c5⟩, ⟨-, c6⟩, ⟨-, c7⟩, ⟨-, c8⟩, ⟨-, c9⟩, ⟨-, c10⟩, ⟨-, c11⟩, ⟨-, c12⟩, ⟨-, c13⟩, ⟨-, c14⟩, ⟨-, c15⟩, ⟨-, c16⟩, ⟨-, c17⟩, ⟨-, c18⟩, -⟩ := HY.out
  go_wp2_with fail
  refine (wkInside_any p _ aoD aoT capD capT i aoA capA bc aoS lenS capS aoE lenE capE ar 7 7 ⟨#[]⟩ HAL.out (HAR.out.same HY.out.1) (wkHolds HY.out)).mono ?_
  rintro e' W ⟨rfl, hb⟩
  replace HY := Lib.hid (HY.out.next hb)
  clear hb c0 c1 c2 c3 c4 c5 c6 c7 c8 c9 c10 c11 c12 c13 c14 c15 c16 c17 c18
  obtain ⟨-, ⟨-, c0⟩, ⟨-, c1⟩, ⟨-, c2⟩, ⟨-, c3⟩, ⟨-, c4⟩, ⟨-, c5⟩, ⟨-, c6⟩, ⟨-, c7⟩, ⟨-, c8⟩, ⟨-, c9⟩, ⟨-, c10⟩, ⟨-, c11⟩, ⟨-, c12⟩, ⟨-, c13⟩, ⟨-, c14⟩, ⟨-, c15⟩, ⟨-, c16⟩, ⟨-, c17⟩, ⟨-, c18⟩, -⟩ := HY.out
  go_wp2_with fail
  refine (wkInside_any p _ aoD aoT capD capT i aoA capA bc aoS lenS capS aoE lenE capE ar 8 8 ⟨#[]⟩ HAL.out (HAR.out.same HY.out.1) (wkHolds HY.out)).mono ?_
  rintro e' W ⟨rfl, hb⟩
  replace HY := Lib.hid (HY.out.next hb)
  clear hb c0 c1 c2 c3 c4 c5 c6 c7 c8 c9 c10 c11 c12 c13 c14 c15 c16 c17 c18
  obtain ⟨-, ⟨-, c0⟩, ⟨-, c1⟩, ⟨-, c2⟩, ⟨-, c3⟩, ⟨-, c4⟩, ⟨-, c5⟩, ⟨-, c6⟩, ⟨-, c7⟩, ⟨-, c8⟩, ⟨-, c9⟩, ⟨-, c10⟩, ⟨-, c11⟩, ⟨-, c12⟩, ⟨-, c13⟩, ⟨-, c14⟩, ⟨-, c15⟩, ⟨-, c16⟩, ⟨-, c17⟩, ⟨-, c18⟩, -⟩ := HY.out
  go_wp2_with fail
  refine (wkInside_any p _ aoD aoT capD capT i aoA capA bc aoS lenS capS aoE lenE capE ar 3 3 ⟨#[]⟩ HAL.out (HAR.out.same HY.out.1) (wkHolds HY.out)).mono ?_
  rintro e' W ⟨rfl, hb⟩
  replace HY := Lib.hid (HY.out.next hb)
  clear hb c0 c1 c2 c3 c4 c5 c6 c7 c8 c9 c10 c11 c12 c13 c14 c15 c16 c17 c18
  obtain ⟨-, ⟨-, c0⟩, ⟨-, c1⟩, ⟨-, c2⟩, ⟨-, c3⟩, ⟨-, c4⟩, ⟨-, c5⟩, ⟨-, c6⟩, ⟨-, c7⟩, ⟨-, c8⟩, ⟨-, c9⟩, ⟨-, c10⟩, ⟨-, c11⟩, ⟨-, c12⟩, ⟨-, c13⟩, ⟨-, c14⟩, ⟨-, c15⟩, ⟨-, c16⟩, ⟨-, c17⟩, ⟨-, c18⟩, -⟩ := HY.out
  generalize htx : insR ar 7 7 ⟨#[]⟩ = tx at *
  generalize hat' : insR ar 8 8 ⟨#[]⟩ = atm at *
  generalize hlo : insR ar 3 3 ⟨#[]⟩ = lop at *
  clear htx hat' hlo
  have hop := HOP.out
  have g1 : (h.op == 1) = false := by rw [hop]; rfl
  have g2 : (h.op == 2) = false := by rw [hop]; rfl
  have g3 : (h.op == 3) = false := by rw [hop]; rfl
  have g4 : (h.op == 4) = false := by rw [hop]; rfl
  have g5 : (h.op == 5) = false := by rw [hop]; rfl
  have g6 : (h.op == 6) = false := by rw [hop]; rfl
  have g7 : (h.op == 7) = false := by rw [hop]; rfl
  have g8 : (h.op == 8) = true := by rw [hop]; rfl
  have g9 : (h.op == 9) = false := by rw [hop]; rfl
  have g10 : (h.op == 10) = false := by rw [hop]; rfl
  have g11 : (h.op == 11) = false := by rw [hop]; rfl
  have g12 : (h.op == 12) = false := by rw [hop]; rfl
  have g13 : (h.op == 13) = false := by rw [hop]; rfl
  have g14 : (h.op == 14) = false := by rw [hop]; rfl
  have g15 : (h.op == 15) = false := by rw [hop]; rfl
  clear hop
  cases tx
  · go_wp2_with fail
    refine (RefNesting_any _ _).mono ?_
    rintro e' W' ⟨rfl, rfl⟩
    go_wp2_with fail
    go_ret
    exact ⟨ret_int (by first | exact HR.out.symm | (rw [HR.out]; first | done | rfl | simp [orE, nest])), HY.out.1⟩
  · go_wp2_with fail
    refine (RefNesting_any _ _).mono ?_
    rintro e' W' ⟨rfl, rfl⟩
    go_wp2_with fail
    go_ret
    exact ⟨ret_int (by first | exact HR.out.symm | (rw [HR.out]; first | done | rfl | simp [orE, nest])), HY.out.1⟩
set_option maxHeartbeats 4000000 in
set_option maxRecDepth 100000 in
theorem wkOne4 (h : StH) (b e ar : StL) (s : Sl) (hi : I64 i) (hp : p.At w aoD aoT) (hin : StIn w h b e s) (har : ar.len ≤ maxLen) (hat : ar.At w w.heap.size aoA 0) (hh : Holds w (wkF bc p aoD aoT capD capT i aoA ar.len capA aoS lenS capS aoE lenE capE)) (hop : h.op = 4) :
    Calls Tryd.prog 58 #[.pointer (some ⟨bc, 0, none⟩), stV h b e s] w fun e' w' => e' = .returned (.int .i64 (orE (wantE (conv (mean p i h.nm)) 3 3) (nest (insR ar 7 7 ⟨#[]⟩ || insR ar 4 4 h.nm)))) ∧ Below w.heap.size w w' := by
  generalize hres : (orE (wantE (conv (mean p i h.nm)) 3 3) (nest (insR ar 7 7 ⟨#[]⟩ || insR ar 4 4 h.nm))) = res
  have HR : Hid (res = (orE (wantE (conv (mean p i h.nm)) 3 3) (nest (insR ar 7 7 ⟨#[]⟩ || insR ar 4 4 h.nm)))) := Lib.hid (by rw [← hres])
  have HOP := Lib.hid hop
  clear hres hop
  have HH := Lib.hid (show Sit w w _ from ⟨Below.refl _ _, hh⟩)
  have HSI := Lib.hid hin
  have HAR := Lib.hid hat
  have HAL := Lib.hid har
  have HP := Lib.hid hp
  unfold stV
  clear hh hin hat har hp
  go_enter Tryd.func58, Tryd.ntmps58
  go_upto_region 1 with fail
  generalize hW : World.alloc w _ = W
  generalize Value.agg #[_, _, _, _, _, _, _, _, _, _, _] = a0
  have HX : Hid (Sit w W (stF w.heap.size h b e s (wkF bc p aoD aoT capD capT i aoA ar.len capA aoS lenS capS aoE lenE capE))) := Lib.hid (by rw [← hW]; exact HH.out.box11 rfl _ _ _ _ _ _ _ _ _ _ _ _)
  clear hW HH
  have K0 : ∀ w', Below W.heap.size W w' → w'.cell? ⟨bc, 0, none⟩ = some (.slice aoD p.ds.length capD) := fun w' hb => (HX.out.next hb).2.2.2.2.2.2.2.2.2.2.2.2.1.2
  have K1 : ∀ w', Below W.heap.size W w' → w'.cell? ⟨bc, 1, none⟩ = some (.slice aoT p.ts.length capT) := fun w' hb => (HX.out.next hb).2.2.2.2.2.2.2.2.2.2.2.2.2.1.2
  have K2 : ∀ w', Below W.heap.size W w' → w'.cell? ⟨bc, 2, none⟩ = some (.int .i64 i) := fun w' hb => (HX.out.next hb).2.2.2.2.2.2.2.2.2.2.2.2.2.2.1.2
  have HD1 : Below W.heap.size W (W.drewN 1) := below_drewN (Below.refl _ _) 1
  refine wpAny_start (by kernel_rfl) rfl ?_
  generalize W.drewN 1 = W1 at *
  refine wpAny_phase 0 11 [8, 9] [[], [0], [0, 1], [0, 1, 2], [], [4], [4, 5], [4, 5, 6], [], [0, 1, 2, 3, 8], [0, 1, 2, 3, 4, 5, 6, 7, 8, 9]] [[none, some false], [none, some false], [none, some false], [none, some false], [none, none], [none, none], [none, none], [none, none], [some false, some false], [some true, some false], [some true, some true]] (AC W1 (.cells #[.slice none 0 0, .slice none 0 0] 29) (.cells #[.slice aoD p.ds.length capD, .slice aoT p.ts.length capT] 29)) (fun _ _ => True) [15, 16, 17, 18, 19, 20, 21, 22, 5, 6] rfl rfl (by rfl) (by kernel_rfl) (by kernel_rfl) (by kernel_rfl) (by kernel_rfl) (by kernel_rfl) (by rfl) (fun _ => trivial) (by rfl) rfl ?_
  simp only [List.take_succ_cons, List.take_zero, List.drop_zero, List.drop_succ_cons, dumE, List.map_cons, List.map_nil]
  apply ObP.step
  case hobl =>
    intro c A w' hok hC hO hD
    have e0 := hO 0 (by rfl)
    simp [Act.eval] at e0
    simp [depsL, IsV, slotv, Act.eval, Region.binds] at hD
    simp [go_sem, gd, Oper.wp, hD, e0]
    exact WPost.mk trivial (AC.skip (by rfl) (by rfl) hC) (IsV.mk _ _)
  apply ObP.step
  case hobl =>
    intro c A w' hok hC hO hD
    simp [depsL, IsV, slotv, Act.eval, Region.binds] at hD
    simp [go_sem, gd, Oper.wp, hD]
    exact WPost.mk trivial (AC.skip (by rfl) (by rfl) hC) (IsV.mk _ _)
  apply ObP.step
  case hobl =>
    intro c A w' hok hC hO hD
    simp [depsL, IsV, slotv, Act.eval, Region.binds] at hD
    simp [go_sem, gd, Oper.wp, hD]
    exact WPost.mk trivial (AC.skip (by rfl) (by rfl) hC) (IsV.mk _ _)
  apply ObP.step
  case hobl =>
    intro c A w' hok hC hO hD
    simp [depsL, IsV, slotv, Act.eval, Region.binds] at hD
    simp [go_sem, gd, Oper.wp, hD, K0, K1, AC.below HD1 hC]
    exact WPost.mk trivial (AC.skip (by rfl) (by rfl) hC) (IsV.mk _ _)
  apply ObP.step
  case hobl =>
    intro c A w' hok hC hO hD
    have e0 := hO 0 (by rfl)
    simp [Act.eval] at e0
    simp [depsL, IsV, slotv, Act.eval, Region.binds] at hD
    simp [go_sem, gd, Oper.wp, hD, e0]
    exact WPost.mk trivial (AC.skip (by rfl) (by rfl) hC) (IsV.mk _ _)
  simp only [List.nil_append, List.cons_append]
  apply ObP.step
  case hobl =>
    intro c A w' hok hC hO hD
    simp [depsL, IsV, slotv, Act.eval, Region.binds] at hD
    simp [go_sem, gd, Oper.wp, hD]
    exact WPost.mk trivial (AC.skip (by rfl) (by rfl) hC) (IsV.mk _ _)
  apply ObP.step
  case hobl =>
    intro c A w' hok hC hO hD
    simp [depsL, IsV, slotv, Act.eval, Region.binds] at hD
    simp [go_sem, gd, Oper.wp, hD]
    exact WPost.mk trivial (AC.skip (by rfl) (by rfl) hC) (IsV.mk _ _)
  apply ObP.step
  case hobl =>
    intro c A w' hok hC hO hD
    simp [depsL, IsV, slotv, Act.eval, Region.binds] at hD
    simp [go_sem, gd, Oper.wp, hD, K2, AC.below HD1 hC]
    exact WPost.mk trivial (AC.skip (by rfl) (by rfl) hC) (IsV.mk _ _)
  simp only [List.nil_append, List.cons_append]
  apply ObP.step
  case hobl =>
    intro c A w' hok hC hO hD
    obtain ⟨x, y, rfl⟩ := hC.bits
    obtain ⟨rfl, rfl, -⟩ := hok
    have hw : w' = W1 := hC
    subst hw
    simp [go_sem, gd, Oper.wp]
    exact WPost.mk trivial (AC.lay (by rfl) (by rfl)) (IsV.mk _ _)
  refine ObP.some (fun _ _ => True) (fun _ _ _ _ _ => trivial) ?_ ?_
  · intro c A w' hok hC hO hD
    obtain ⟨x, y, rfl⟩ := hC.bits
    obtain ⟨rfl, rfl, -⟩ := hok
    have hw : w' = W1.alloc _ := hC
    subst hw
    simp [depsL, IsV, slotv, Act.eval, Region.binds] at hD
    simp [go_sem, gd, Oper.wp, hD]
    exact WPost.mk0 (v := undef) trivial (AC.fill (by rfl) (by rfl)) trivial
  simp only [List.nil_append, List.cons_append]
  apply ObP.step
  case hobl =>
    intro c A w' hok hC hO hD
    simp [depsL, IsV, slotv, Act.eval, Region.binds] at hD
    simp [go_sem, gd, Oper.wp, hD]
    exact WPost.mk trivial (AC.skip (by rfl) (by rfl) hC) (IsV.mk _ _)
  simp only [List.nil_append, List.cons_append]
  refine ObP.done ?_
  intro wz hCz
  simp only [List.drop_zero]
  intro v0 h0 v1 h1 v2 h2 v3 h3 v4 h4 v5 h5 v6 h6 v7 h7 v8 h8 v9 h9 v10 h10
  have h8' : v8 = _ := h8
  have h10' : v10 = _ := h10
  subst h8' h10'
  clear h0 h1 h2 h3 h4 h5 h6 h7 h8 h9 h10
  refine AllVals.nil ?_
  refine wpAny_end rfl ?_
  have hCz' : wz = W1.alloc _ := hCz
  generalize hn1 : W1.heap.size = n1 at *
  have HY := Lib.hid ((HX.out.next HD1).box2 hn1 (.slice aoD p.ds.length capD) (.slice aoT p.ts.length capT) 29)
  rw [← hCz'] at HY
  clear hCz hCz' HX K0 K1 K2 HD1 hn1
  go_simp
  obtain ⟨-, ⟨-, c0⟩, ⟨-, c1⟩, ⟨-, c2⟩, ⟨-, c3⟩, ⟨-, c4⟩, ⟨-, c5⟩, ⟨-, c6⟩, ⟨-, c7⟩, ⟨-, c8⟩, ⟨-, c9⟩, ⟨-, c10⟩, ⟨-, c11⟩, ⟨-, c12⟩, ⟨-, c13⟩, ⟨-, c14⟩, ⟨-, c15⟩, ⟨-, c16⟩, ⟨-, c17⟩, ⟨-, c18⟩, -⟩ := HY.out
  go_wp2_with fail
  refine (wkInside_any p _ aoD aoT capD capT i aoA capA bc aoS lenS capS aoE lenE capE ar 7 7 ⟨#[]⟩ HAL.out (HAR.out.same HY.out.1) (wkHolds HY.out)).mono ?_
  rintro e' W ⟨rfl, hb⟩
  replace HY := Lib.hid (HY.out.next hb)
  clear hb c0 c1 c2 c3 c4 c5 c6 c7 c8 c9 c10 c11 c12 c13 c14 c15 c16 c17 c18
  obtain ⟨-, ⟨-, c0⟩, ⟨-, c1⟩, ⟨-, c2⟩, ⟨-, c3⟩, ⟨-, c4⟩, ⟨-, c5⟩, ⟨-, c6⟩, ⟨-, c7⟩, ⟨-, c8⟩, ⟨-, c9⟩, ⟨-, c10⟩, ⟨-, c11⟩, ⟨-, c12⟩, ⟨-, c13⟩, ⟨-, c14⟩, ⟨-, c15⟩, ⟨-, c16⟩, ⟨-, c17⟩, ⟨-, c18⟩, -⟩ := HY.out
  go_wp2_with fail
  refine (wkInside_any p _ aoD aoT capD capT i aoA capA bc aoS lenS capS aoE lenE capE ar 8 8 ⟨#[]⟩ HAL.out (HAR.out.same HY.out.1) (wkHolds HY.out)).mono ?_
  rintro e' W ⟨rfl, hb⟩
  replace HY := Lib.hid (HY.out.next hb)
  clear hb c0 c1 c2 c3 c4 c5 c6 c7 c8 c9 c10 c11 c12 c13 c14 c15 c16 c17 c18
  obtain ⟨-, ⟨-, c0⟩, ⟨-, c1⟩, ⟨-, c2⟩, ⟨-, c3⟩, ⟨-, c4⟩, ⟨-, c5⟩, ⟨-, c6⟩, ⟨-, c7⟩, ⟨-, c8⟩, ⟨-, c9⟩, ⟨-, c10⟩, ⟨-, c11⟩, ⟨-, c12⟩, ⟨-, c13⟩, ⟨-, c14⟩, ⟨-, c15⟩, ⟨-, c16⟩, ⟨-, c17⟩, ⟨-, c18⟩, -⟩ := HY.out
  go_wp2_with fail
  refine (wkInside_any p _ aoD aoT capD capT i aoA capA bc aoS lenS capS aoE lenE capE ar 3 3 ⟨#[]⟩ HAL.out (HAR.out.same HY.out.1) (wkHolds HY.out)).mono ?_
  rintro e' W ⟨rfl, hb⟩
  replace HY := Lib.hid (HY.out.next hb)
  clear hb c0 c1 c2 c3 c4 c5 c6 c7 c8 c9 c10 c11 c12 c13 c14 c15 c16 c17 c18
  obtain ⟨-, ⟨-, c0⟩, ⟨-, c1⟩, ⟨-, c2⟩, ⟨-, c3⟩, ⟨-, c4⟩, ⟨-, c5⟩, ⟨-, c6⟩, ⟨-, c7⟩, ⟨-, c8⟩, ⟨-, c9⟩, ⟨-, c10⟩, ⟨-, c11⟩, ⟨-, c12⟩, ⟨-, c13⟩, ⟨-, c14⟩, ⟨-, c15⟩, ⟨-, c16⟩, ⟨-, c17⟩, ⟨-, c18⟩, -⟩ := HY.out
  generalize htx : insR ar 7 7 ⟨#[]⟩ = tx at *
  generalize hat' : insR ar 8 8 ⟨#[]⟩ = atm at *
  generalize hlo : insR ar 3 3 ⟨#[]⟩ = lop at *
  clear htx hat' hlo
  have hop := HOP.out
  have g1 : (h.op == 1) = false := by rw [hop]; rfl
  have g2 : (h.op == 2) = false := by rw [hop]; rfl
  have g3 : (h.op == 3) = false := by rw [hop]; rfl
  have g4 : (h.op == 4) = true := by rw [hop]; rfl
  have g5 : (h.op == 5) = false := by rw [hop]; rfl
  have g6 : (h.op == 6) = false := by rw [hop]; rfl
  have g7 : (h.op == 7) = false := by rw [hop]; rfl
  have g8 : (h.op == 8) = false := by rw [hop]; rfl
  have g9 : (h.op == 9) = false := by rw [hop]; rfl
  have g10 : (h.op == 10) = false := by rw [hop]; rfl
  have g11 : (h.op == 11) = false := by rw [hop]; rfl
  have g12 : (h.op == 12) = false := by rw [hop]; rfl
  have g13 : (h.op == 13) = false := by rw [hop]; rfl
  have g14 : (h.op == 14) = false := by rw [hop]; rfl
  have g15 : (h.op == 15) = false := by rw [hop]; rfl
  clear hop
  cases tx
  · go_wp2_with fail
    refine (want_any p i h.nm 3 3 _ aoD aoT capD capT hi (HP.out.same HY.out.1)).mono ?_
    rintro e' W ⟨rfl, hb⟩
    replace HY := Lib.hid (HY.out.next hb)
    clear hb c0 c1 c2 c3 c4 c5 c6 c7 c8 c9 c10 c11 c12 c13 c14 c15 c16 c17 c18
    obtain ⟨-, ⟨-, c0⟩, ⟨-, c1⟩, ⟨-, c2⟩, ⟨-, c3⟩, ⟨-, c4⟩, ⟨-, c5⟩, ⟨-, c6⟩, ⟨-, c7⟩, ⟨-, c8⟩, ⟨-, c9⟩, ⟨-, c10⟩, ⟨-, c11⟩, ⟨-, c12⟩, ⟨-, c13⟩, ⟨-, c14⟩, ⟨-, c15⟩, ⟨-, c16⟩, ⟨-, c17⟩, ⟨-, c18⟩, -⟩ := HY.out
    go_wp2_with fail
    refine (wkInside_any p _ aoD aoT capD capT i aoA capA bc aoS lenS capS aoE lenE capE ar 4 4 h.nm HAL.out (HAR.out.same HY.out.1) (wkHolds HY.out)).mono ?_
    rintro e' W ⟨rfl, hb⟩
    replace HY := Lib.hid (HY.out.next hb)
    clear hb c0 c1 c2 c3 c4 c5 c6 c7 c8 c9 c10 c11 c12 c13 c14 c15 c16 c17 c18
    obtain ⟨-, ⟨-, c0⟩, ⟨-, c1⟩, ⟨-, c2⟩, ⟨-, c3⟩, ⟨-, c4⟩, ⟨-, c5⟩, ⟨-, c6⟩, ⟨-, c7⟩, ⟨-, c8⟩, ⟨-, c9⟩, ⟨-, c10⟩, ⟨-, c11⟩, ⟨-, c12⟩, ⟨-, c13⟩, ⟨-, c14⟩, ⟨-, c15⟩, ⟨-, c16⟩, ⟨-, c17⟩, ⟨-, c18⟩, -⟩ := HY.out
    go_wp2_with fail
    refine (RefNesting_any _ _).mono ?_
    rintro e' W' ⟨rfl, rfl⟩
    go_wp2_with fail
    refine (RefOr_any _ _ _).mono ?_
    rintro e' W' ⟨rfl, rfl⟩
    go_wp2_with fail
    go_ret
    exact ⟨ret_int (by first | exact HR.out.symm | (rw [HR.out]; first | done | rfl | simp [orE, nest])), HY.out.1⟩
  · go_wp2_with fail
    refine (want_any p i h.nm 3 3 _ aoD aoT capD capT hi (HP.out.same HY.out.1)).mono ?_
    rintro e' W ⟨rfl, hb⟩
    replace HY := Lib.hid (HY.out.next hb)
    clear hb c0 c1 c2 c3 c4 c5 c6 c7 c8 c9 c10 c11 c12 c13 c14 c15 c16 c17 c18
    obtain ⟨-, ⟨-, c0⟩, ⟨-, c1⟩, ⟨-, c2⟩, ⟨-, c3⟩, ⟨-, c4⟩, ⟨-, c5⟩, ⟨-, c6⟩, ⟨-, c7⟩, ⟨-, c8⟩, ⟨-, c9⟩, ⟨-, c10⟩, ⟨-, c11⟩, ⟨-, c12⟩, ⟨-, c13⟩, ⟨-, c14⟩, ⟨-, c15⟩, ⟨-, c16⟩, ⟨-, c17⟩, ⟨-, c18⟩, -⟩ := HY.out
    go_wp2_with fail
    refine (RefNesting_any _ _).mono ?_
    rintro e' W' ⟨rfl, rfl⟩
    go_wp2_with fail
    refine (RefOr_any _ _ _).mono ?_
    rintro e' W' ⟨rfl, rfl⟩
    go_wp2_with fail
    go_ret
    exact ⟨ret_int (by first | exact HR.out.symm | (rw [HR.out]; first | done | rfl | simp [orE, nest])), HY.out.1⟩
set_option maxHeartbeats 4000000 in
set_option maxRecDepth 100000 in
theorem wkOne5 (h : StH) (b e ar : StL) (s : Sl) (hi : I64 i) (hp : p.At w aoD aoT) (hin : StIn w h b e s) (har : ar.len ≤ maxLen) (hat : ar.At w w.heap.size aoA 0) (hh : Holds w (wkF bc p aoD aoT capD capT i aoA ar.len capA aoS lenS capS aoE lenE capE)) (hop : h.op = 5) :
    Calls Tryd.prog 58 #[.pointer (some ⟨bc, 0, none⟩), stV h b e s] w fun e' w' => e' = .returned (.int .i64 (orE (wantE (conv (mean p i h.nm)) 4 4) (nest (insR ar 7 7 ⟨#[]⟩ || insR ar 5 6 h.nm)))) ∧ Below w.heap.size w w' := by
  generalize hres : (orE (wantE (conv (mean p i h.nm)) 4 4) (nest (insR ar 7 7 ⟨#[]⟩ || insR ar 5 6 h.nm))) = res
  have HR : Hid (res = (orE (wantE (conv (mean p i h.nm)) 4 4) (nest (insR ar 7 7 ⟨#[]⟩ || insR ar 5 6 h.nm)))) := Lib.hid (by rw [← hres])
  have HOP := Lib.hid hop
  clear hres hop
  have HH := Lib.hid (show Sit w w _ from ⟨Below.refl _ _, hh⟩)
  have HSI := Lib.hid hin
  have HAR := Lib.hid hat
  have HAL := Lib.hid har
  have HP := Lib.hid hp
  unfold stV
  clear hh hin hat har hp
  go_enter Tryd.func58, Tryd.ntmps58
  go_upto_region 1 with fail
  generalize hW : World.alloc w _ = W
  generalize Value.agg #[_, _, _, _, _, _, _, _, _, _, _] = a0
  have HX : Hid (Sit w W (stF w.heap.size h b e s (wkF bc p aoD aoT capD capT i aoA ar.len capA aoS lenS capS aoE lenE capE))) := Lib.hid (by rw [← hW]; exact HH.out.box11 rfl _ _ _ _ _ _ _ _ _ _ _ _)
  clear hW HH
  have K0 : ∀ w', Below W.heap.size W w' → w'.cell? ⟨bc, 0, none⟩ = some (.slice aoD p.ds.length capD) := fun w' hb => (HX.out.next hb).2.2.2.2.2.2.2.2.2.2.2.2.1.2
  have K1 : ∀ w', Below W.heap.size W w' → w'.cell? ⟨bc, 1, none⟩ = some (.slice aoT p.ts.length capT) := fun w' hb => (HX.out.next hb).2.2.2.2.2.2.2.2.2.2.2.2.2.1.2
  have K2 : ∀ w', Below W.heap.size W w' → w'.cell? ⟨bc, 2, none⟩ = some (.int .i64 i) := fun w' hb => (HX.out.next hb).2.2.2.2.2.2.2.2.2.2.2.2.2.2.1.2
  have HD1 : Below W.heap.size W (W.drewN 1) := below_drewN (Below.refl _ _) 1
  refine wpAny_start (by kernel_rfl) rfl ?_
  generalize W.drewN 1 = W1 at *
  refine wpAny_phase 0 11 [8, 9] [[], [0], [0, 1], [0, 1, 2], [], [4], [4, 5], [4, 5, 6], [], [0, 1, 2, 3, 8], [0, 1, 2, 3, 4, 5, 6, 7, 8, 9]] [[none, some false], [none, some false], [none, some false], [none, some false], [none, none], [none, none], [none, none], [none, none], [some false, some false], [some true, some false], [some true, some true]] (AC W1 (.cells #[.slice none 0 0, .slice none 0 0] 29) (.cells #[.slice aoD p.ds.length capD, .slice aoT p.ts.length capT] 29)) (fun _ _ => True) [15, 16, 17, 18, 19, 20, 21, 22, 5, 6] rfl rfl (by rfl) (by kernel_rfl) (by kernel_rfl) (by kernel_rfl) (by kernel_rfl) (by kernel_rfl) (by rfl) (fun _ => trivial) (by rfl) rfl ?_
  simp only [List.take_succ_cons, List.take_zero, List.drop_zero, List.drop_succ_cons, dumE, List.map_cons, List.map_nil]
  apply ObP.step
  case hobl =>
    intro c A w' hok hC hO hD
    have e0 := hO 0 (by rfl)
    simp [Act.eval] at e0
    simp [depsL, IsV, slotv, Act.eval, Region.binds] at hD
    simp [go_sem, gd, Oper.wp, hD, e0]
    exact WPost.mk trivial (AC.skip (by rfl) (by rfl) hC) (IsV.mk _ _)
  apply ObP.step
  case hobl =>
    intro c A w' hok hC hO hD
    simp [depsL, IsV, slotv, Act.eval, Region.binds] at hD
    simp [go_sem, gd, Oper.wp, hD]
    exact WPost.mk trivial (AC.skip (by rfl) (by rfl) hC) (IsV.mk _ _)
  apply ObP.step
  case hobl =>
    intro c A w' hok hC hO hD
    simp [depsL, IsV, slotv, Act.eval, Region.binds] at hD
    simp [go_sem, gd, Oper.wp, hD]
    exact WPost.mk trivial (AC.skip (by rfl) (by rfl) hC) (IsV.mk _ _)
  apply ObP.step
  case hobl =>
    intro c A w' hok hC hO hD
    simp [depsL, IsV, slotv, Act.eval, Region.binds] at hD
    simp [go_sem, gd, Oper.wp, hD, K0, K1, AC.below HD1 hC]
    exact WPost.mk trivial (AC.skip (by rfl) (by rfl) hC) (IsV.mk _ _)
  apply ObP.step
  case hobl =>
    intro c A w' hok hC hO hD
    have e0 := hO 0 (by rfl)
    simp [Act.eval] at e0
    simp [depsL, IsV, slotv, Act.eval, Region.binds] at hD
    simp [go_sem, gd, Oper.wp, hD, e0]
    exact WPost.mk trivial (AC.skip (by rfl) (by rfl) hC) (IsV.mk _ _)
  simp only [List.nil_append, List.cons_append]
  apply ObP.step
  case hobl =>
    intro c A w' hok hC hO hD
    simp [depsL, IsV, slotv, Act.eval, Region.binds] at hD
    simp [go_sem, gd, Oper.wp, hD]
    exact WPost.mk trivial (AC.skip (by rfl) (by rfl) hC) (IsV.mk _ _)
  apply ObP.step
  case hobl =>
    intro c A w' hok hC hO hD
    simp [depsL, IsV, slotv, Act.eval, Region.binds] at hD
    simp [go_sem, gd, Oper.wp, hD]
    exact WPost.mk trivial (AC.skip (by rfl) (by rfl) hC) (IsV.mk _ _)
  apply ObP.step
  case hobl =>
    intro c A w' hok hC hO hD
    simp [depsL, IsV, slotv, Act.eval, Region.binds] at hD
    simp [go_sem, gd, Oper.wp, hD, K2, AC.below HD1 hC]
    exact WPost.mk trivial (AC.skip (by rfl) (by rfl) hC) (IsV.mk _ _)
  simp only [List.nil_append, List.cons_append]
  apply ObP.step
  case hobl =>
    intro c A w' hok hC hO hD
    obtain ⟨x, y, rfl⟩ := hC.bits
    obtain ⟨rfl, rfl, -⟩ := hok
    have hw : w' = W1 := hC
    subst hw
    simp [go_sem, gd, Oper.wp]
    exact WPost.mk trivial (AC.lay (by rfl) (by rfl)) (IsV.mk _ _)
  refine ObP.some (fun _ _ => True) (fun _ _ _ _ _ => trivial) ?_ ?_
  · intro c A w' hok hC hO hD
    obtain ⟨x, y, rfl⟩ := hC.bits
    obtain ⟨rfl, rfl, -⟩ := hok
    have hw : w' = W1.alloc _ := hC
    subst hw
    simp [depsL, IsV, slotv, Act.eval, Region.binds] at hD
    simp [go_sem, gd, Oper.wp, hD]
    exact WPost.mk0 (v := undef) trivial (AC.fill (by rfl) (by rfl)) trivial
  simp only [List.nil_append, List.cons_append]
  apply ObP.step
  case hobl =>
    intro c A w' hok hC hO hD
    simp [depsL, IsV, slotv, Act.eval, Region.binds] at hD
    simp [go_sem, gd, Oper.wp, hD]
    exact WPost.mk trivial (AC.skip (by rfl) (by rfl) hC) (IsV.mk _ _)
  simp only [List.nil_append, List.cons_append]
  refine ObP.done ?_
  intro wz hCz
  simp only [List.drop_zero]
  intro v0 h0 v1 h1 v2 h2 v3 h3 v4 h4 v5 h5 v6 h6 v7 h7 v8 h8 v9 h9 v10 h10
  have h8' : v8 = _ := h8
  have h10' : v10 = _ := h10
  subst h8' h10'
  clear h0 h1 h2 h3 h4 h5 h6 h7 h8 h9 h10
  refine AllVals.nil ?_
  refine wpAny_end rfl ?_
  have hCz' : wz = W1.alloc _ := hCz
  generalize hn1 : W1.heap.size = n1 at *
  have HY := Lib.hid ((HX.out.next HD1).box2 hn1 (.slice aoD p.ds.length capD) (.slice aoT p.ts.length capT) 29)
  rw [← hCz'] at HY
  clear hCz hCz' HX K0 K1 K2 HD1 hn1
  go_simp
  obtain ⟨-, ⟨-, c0⟩, ⟨-, c1⟩, ⟨-, c2⟩, ⟨-, c3⟩, ⟨-, c4⟩, ⟨-, c5⟩, ⟨-, c6⟩, ⟨-, c7⟩, ⟨-, c8⟩, ⟨-, c9⟩, ⟨-, c10⟩, ⟨-, c11⟩, ⟨-, c12⟩, ⟨-, c13⟩, ⟨-, c14⟩, ⟨-, c15⟩, ⟨-, c16⟩, ⟨-, c17⟩, ⟨-, c18⟩, -⟩ := HY.out
  go_wp2_with fail
  refine (wkInside_any p _ aoD aoT capD capT i aoA capA bc aoS lenS capS aoE lenE capE ar 7 7 ⟨#[]⟩ HAL.out (HAR.out.same HY.out.1) (wkHolds HY.out)).mono ?_
  rintro e' W ⟨rfl, hb⟩
  replace HY := Lib.hid (HY.out.next hb)
  clear hb c0 c1 c2 c3 c4 c5 c6 c7 c8 c9 c10 c11 c12 c13 c14 c15 c16 c17 c18
  obtain ⟨-, ⟨-, c0⟩, ⟨-, c1⟩, ⟨-, c2⟩, ⟨-, c3⟩, ⟨-, c4⟩, ⟨-, c5⟩, ⟨-, c6⟩, ⟨-, c7⟩, ⟨-, c8⟩, ⟨-, c9⟩, ⟨-, c10⟩, ⟨-, c11⟩, ⟨-, c12⟩, ⟨-, c13⟩, ⟨-, c14⟩, ⟨-, c15⟩, ⟨-, c16⟩, ⟨-, c17⟩, ⟨-, c18⟩, -⟩ := HY.out
  go_wp2_with fail
  refine (wkInside_any p _ aoD aoT capD capT i aoA capA bc aoS lenS capS aoE lenE capE ar 8 8 ⟨#[]⟩ HAL.out (HAR.out.same HY.out.1) (wkHolds HY.out)).mono ?_
  rintro e' W ⟨rfl, hb⟩
  replace HY := Lib.hid (HY.out.next hb)
  clear hb c0 c1 c2 c3 c4 c5 c6 c7 c8 c9 c10 c11 c12 c13 c14 c15 c16 c17 c18
  obtain ⟨-, ⟨-, c0⟩, ⟨-, c1⟩, ⟨-, c2⟩, ⟨-, c3⟩, ⟨-, c4⟩, ⟨-, c5⟩, ⟨-, c6⟩, ⟨-, c7⟩, ⟨-, c8⟩, ⟨-, c9⟩, ⟨-, c10⟩, ⟨-, c11⟩, ⟨-, c12⟩, ⟨-, c13⟩, ⟨-, c14⟩, ⟨-, c15⟩, ⟨-, c16⟩, ⟨-, c17⟩, ⟨-, c18⟩, -⟩ := HY.out
  go_wp2_with fail
  refine (wkInside_any p _ aoD aoT capD capT i aoA capA bc aoS lenS capS aoE lenE capE ar 3 3 ⟨#[]⟩ HAL.out (HAR.out.same HY.out.1) (wkHolds HY.out)).mono ?_
  rintro e' W ⟨rfl, hb⟩
  replace HY := Lib.hid (HY.out.next hb)
  clear hb c0 c1 c2 c3 c4 c5 c6 c7 c8 c9 c10 c11 c12 c13 c14 c15 c16 c17 c18
  obtain ⟨-, ⟨-, c0⟩, ⟨-, c1⟩, ⟨-, c2⟩, ⟨-, c3⟩, ⟨-, c4⟩, ⟨-, c5⟩, ⟨-, c6⟩, ⟨-, c7⟩, ⟨-, c8⟩, ⟨-, c9⟩, ⟨-, c10⟩, ⟨-, c11⟩, ⟨-, c12⟩, ⟨-, c13⟩, ⟨-, c14⟩, ⟨-, c15⟩, ⟨-, c16⟩, ⟨-, c17⟩, ⟨-, c18⟩, -⟩ := HY.out
  generalize htx : insR ar 7 7 ⟨#[]⟩ = tx at *
  generalize hat' : insR ar 8 8 ⟨#[]⟩ = atm at *
  generalize hlo : insR ar 3 3 ⟨#[]⟩ = lop at *
  clear htx hat' hlo
  have hop := HOP.out
  have g1 : (h.op == 1) = false := by rw [hop]; rfl
  have g2 : (h.op == 2) = false := by rw [hop]; rfl
  have g3 : (h.op == 3) = false := by rw [hop]; rfl
  have g4 : (h.op == 4) = false := by rw [hop]; rfl
  have g5 : (h.op == 5) = true := by rw [hop]; rfl
  have g6 : (h.op == 6) = false := by rw [hop]; rfl
  have g7 : (h.op == 7) = false := by rw [hop]; rfl
  have g8 : (h.op == 8) = false := by rw [hop]; rfl
  have g9 : (h.op == 9) = false := by rw [hop]; rfl
  have g10 : (h.op == 10) = false := by rw [hop]; rfl
  have g11 : (h.op == 11) = false := by rw [hop]; rfl
  have g12 : (h.op == 12) = false := by rw [hop]; rfl
  have g13 : (h.op == 13) = false := by rw [hop]; rfl
  have g14 : (h.op == 14) = false := by rw [hop]; rfl
  have g15 : (h.op == 15) = false := by rw [hop]; rfl
  clear hop
  cases tx
  · go_wp2_with fail
    refine (want_any p i h.nm 4 4 _ aoD aoT capD capT hi (HP.out.same HY.out.1)).mono ?_
    rintro e' W ⟨rfl, hb⟩
    replace HY := Lib.hid (HY.out.next hb)
    clear hb c0 c1 c2 c3 c4 c5 c6 c7 c8 c9 c10 c11 c12 c13 c14 c15 c16 c17 c18
    obtain ⟨-, ⟨-, c0⟩, ⟨-, c1⟩, ⟨-, c2⟩, ⟨-, c3⟩, ⟨-, c4⟩, ⟨-, c5⟩, ⟨-, c6⟩, ⟨-, c7⟩, ⟨-, c8⟩, ⟨-, c9⟩, ⟨-, c10⟩, ⟨-, c11⟩, ⟨-, c12⟩, ⟨-, c13⟩, ⟨-, c14⟩, ⟨-, c15⟩, ⟨-, c16⟩, ⟨-, c17⟩, ⟨-, c18⟩, -⟩ := HY.out
    go_wp2_with fail
    refine (wkInside_any p _ aoD aoT capD capT i aoA capA bc aoS lenS capS aoE lenE capE ar 5 6 h.nm HAL.out (HAR.out.same HY.out.1) (wkHolds HY.out)).mono ?_
    rintro e' W ⟨rfl, hb⟩
    replace HY := Lib.hid (HY.out.next hb)
    clear hb c0 c1 c2 c3 c4 c5 c6 c7 c8 c9 c10 c11 c12 c13 c14 c15 c16 c17 c18
    obtain ⟨-, ⟨-, c0⟩, ⟨-, c1⟩, ⟨-, c2⟩, ⟨-, c3⟩, ⟨-, c4⟩, ⟨-, c5⟩, ⟨-, c6⟩, ⟨-, c7⟩, ⟨-, c8⟩, ⟨-, c9⟩, ⟨-, c10⟩, ⟨-, c11⟩, ⟨-, c12⟩, ⟨-, c13⟩, ⟨-, c14⟩, ⟨-, c15⟩, ⟨-, c16⟩, ⟨-, c17⟩, ⟨-, c18⟩, -⟩ := HY.out
    go_wp2_with fail
    refine (RefNesting_any _ _).mono ?_
    rintro e' W' ⟨rfl, rfl⟩
    go_wp2_with fail
    refine (RefOr_any _ _ _).mono ?_
    rintro e' W' ⟨rfl, rfl⟩
    go_wp2_with fail
    go_ret
    exact ⟨ret_int (by first | exact HR.out.symm | (rw [HR.out]; first | done | rfl | simp [orE, nest])), HY.out.1⟩
  · go_wp2_with fail
    refine (want_any p i h.nm 4 4 _ aoD aoT capD capT hi (HP.out.same HY.out.1)).mono ?_
    rintro e' W ⟨rfl, hb⟩
    replace HY := Lib.hid (HY.out.next hb)
    clear hb c0 c1 c2 c3 c4 c5 c6 c7 c8 c9 c10 c11 c12 c13 c14 c15 c16 c17 c18
    obtain ⟨-, ⟨-, c0⟩, ⟨-, c1⟩, ⟨-, c2⟩, ⟨-, c3⟩, ⟨-, c4⟩, ⟨-, c5⟩, ⟨-, c6⟩, ⟨-, c7⟩, ⟨-, c8⟩, ⟨-, c9⟩, ⟨-, c10⟩, ⟨-, c11⟩, ⟨-, c12⟩, ⟨-, c13⟩, ⟨-, c14⟩, ⟨-, c15⟩, ⟨-, c16⟩, ⟨-, c17⟩, ⟨-, c18⟩, -⟩ := HY.out
    go_wp2_with fail
    refine (RefNesting_any _ _).mono ?_
    rintro e' W' ⟨rfl, rfl⟩
    go_wp2_with fail
    refine (RefOr_any _ _ _).mono ?_
    rintro e' W' ⟨rfl, rfl⟩
    go_wp2_with fail
    go_ret
    exact ⟨ret_int (by first | exact HR.out.symm | (rw [HR.out]; first | done | rfl | simp [orE, nest])), HY.out.1⟩
set_option maxHeartbeats 4000000 in
set_option maxRecDepth 100000 in
theorem wkOne6 (h : StH) (b e ar : StL) (s : Sl) (hi : I64 i) (hp : p.At w aoD aoT) (hin : StIn w h b e s) (har : ar.len ≤ maxLen) (hat : ar.At w w.heap.size aoA 0) (hh : Holds w (wkF bc p aoD aoT capD capT i aoA ar.len capA aoS lenS capS aoE lenE capE)) (hop : h.op = 6) :
    Calls Tryd.prog 58 #[.pointer (some ⟨bc, 0, none⟩), stV h b e s] w fun e' w' => e' = .returned (.int .i64 (orE (wantE (conv (mean p i h.nm)) 4 4) (nest (insR ar 7 7 ⟨#[]⟩ || insR ar 5 6 h.nm)))) ∧ Below w.heap.size w w' := by
  generalize hres : (orE (wantE (conv (mean p i h.nm)) 4 4) (nest (insR ar 7 7 ⟨#[]⟩ || insR ar 5 6 h.nm))) = res
  have HR : Hid (res = (orE (wantE (conv (mean p i h.nm)) 4 4) (nest (insR ar 7 7 ⟨#[]⟩ || insR ar 5 6 h.nm)))) := Lib.hid (by rw [← hres])
  have HOP := Lib.hid hop
  clear hres hop
  have HH := Lib.hid (show Sit w w _ from ⟨Below.refl _ _, hh⟩)
  have HSI := Lib.hid hin
  have HAR := Lib.hid hat
  have HAL := Lib.hid har
  have HP := Lib.hid hp
  unfold stV
  clear hh hin hat har hp
  go_enter Tryd.func58, Tryd.ntmps58
  go_upto_region 1 with fail
  generalize hW : World.alloc w _ = W
  generalize Value.agg #[_, _, _, _, _, _, _, _, _, _, _] = a0
  have HX : Hid (Sit w W (stF w.heap.size h b e s (wkF bc p aoD aoT capD capT i aoA ar.len capA aoS lenS capS aoE lenE capE))) := Lib.hid (by rw [← hW]; exact HH.out.box11 rfl _ _ _ _ _ _ _ _ _ _ _ _)
  clear hW HH
  have K0 : ∀ w', Below W.heap.size W w' → w'.cell? ⟨bc, 0, none⟩ = some (.slice aoD p.ds.length capD) := fun w' hb => (HX.out.next hb).2.2.2.2.2.2.2.2.2.2.2.2.1.2
  have K1 : ∀ w', Below W.heap.size W w' → w'.cell? ⟨bc, 1, none⟩ = some (.slice aoT p.ts.length capT) := fun w' hb => (HX.out.next hb).2.2.2.2.2.2.2.2.2.2.2.2.2.1.2
  have K2 : ∀ w', Below W.heap.size W w' → w'.cell? ⟨bc, 2, none⟩ = some (.int .i64 i) := fun w' hb => (HX.out.next hb).2.2.2.2.2.2.2.2.2.2.2.2.2.2.1.2
  have HD1 : Below W.heap.size W (W.drewN 1) := below_drewN (Below.refl _ _) 1
  refine wpAny_start (by kernel_rfl) rfl ?_
  generalize W.drewN 1 = W1 at *
  refine wpAny_phase 0 11 [8, 9] [[], [0], [0, 1], [0, 1, 2], [], [4], [4, 5], [4, 5, 6], [], [0, 1, 2, 3, 8], [0, 1, 2, 3, 4, 5, 6, 7, 8, 9]] [[none, some false], [none, some false], [none, some false], [none, some false], [none, none], [none, none], [none, none], [none, none], [some false, some false], [some true, some false], [some true, some true]] (AC W1 (.cells #[.slice none 0 0, .slice none 0 0] 29) (.cells #[.slice aoD p.ds.length capD, .slice aoT p.ts.length capT] 29)) (fun _ _ => True) [15, 16, 17, 18, 19, 20, 21, 22, 5, 6] rfl rfl (by rfl) (by kernel_rfl) (by kernel_rfl) (by kernel_rfl) (by kernel_rfl) (by kernel_rfl) (by rfl) (fun _ => trivial) (by rfl) rfl ?_
  simp only [List.take_succ_cons, List.take_zero, List.drop_zero, List.drop_succ_cons, dumE, List.map_cons, List.map_nil]
  apply ObP.step
  case hobl =>
    intro c A w' hok hC hO hD
    have e0 := hO 0 (by rfl)
    simp [Act.eval] at e0
    simp [depsL, IsV, slotv, Act.eval, Region.binds] at hD
    simp [go_sem, gd, Oper.wp, hD, e0]
    exact WPost.mk trivial (AC.skip (by rfl) (by rfl) hC) (IsV.mk _ _)
  apply ObP.step
  case hobl =>
    intro c A w' hok hC hO hD
    simp [depsL, IsV, slotv, Act.eval, Region.binds] at hD
    simp [go_sem, gd, Oper.wp, hD]
    exact WPost.mk trivial (AC.skip (by rfl) (by rfl) hC) (IsV.mk _ _)
  apply ObP.step
  case hobl =>
    intro c A w' hok hC hO hD
    simp [depsL, IsV, slotv, Act.eval, Region.binds] at hD
    simp [go_sem, gd, Oper.wp, hD]
    exact WPost.mk trivial (AC.skip (by rfl) (by rfl) hC) (IsV.mk _ _)
  apply ObP.step
  case hobl =>
    intro c A w' hok hC hO hD
    simp [depsL, IsV, slotv, Act.eval, Region.binds] at hD
    simp [go_sem, gd, Oper.wp, hD, K0, K1, AC.below HD1 hC]
    exact WPost.mk trivial (AC.skip (by rfl) (by rfl) hC) (IsV.mk _ _)
  apply ObP.step
  case hobl =>
    intro c A w' hok hC hO hD
    have e0 := hO 0 (by rfl)
    simp [Act.eval] at e0
    simp [depsL, IsV, slotv, Act.eval, Region.binds] at hD
    simp [go_sem, gd, Oper.wp, hD, e0]
    exact WPost.mk trivial (AC.skip (by rfl) (by rfl) hC) (IsV.mk _ _)
  simp only [List.nil_append, List.cons_append]
  apply ObP.step
  case hobl =>
    intro c A w' hok hC hO hD
    simp [depsL, IsV, slotv, Act.eval, Region.binds] at hD
    simp [go_sem, gd, Oper.wp, hD]
    exact WPost.mk trivial (AC.skip (by rfl) (by rfl) hC) (IsV.mk _ _)
  apply ObP.step
  case hobl =>
    intro c A w' hok hC hO hD
    simp [depsL, IsV, slotv, Act.eval, Region.binds] at hD
    simp [go_sem, gd, Oper.wp, hD]
    exact WPost.mk trivial (AC.skip (by rfl) (by rfl) hC) (IsV.mk _ _)
  apply ObP.step
  case hobl =>
    intro c A w' hok hC hO hD
    simp [depsL, IsV, slotv, Act.eval, Region.binds] at hD
    simp [go_sem, gd, Oper.wp, hD, K2, AC.below HD1 hC]
    exact WPost.mk trivial (AC.skip (by rfl) (by rfl) hC) (IsV.mk _ _)
  simp only [List.nil_append, List.cons_append]
  apply ObP.step
  case hobl =>
    intro c A w' hok hC hO hD
    obtain ⟨x, y, rfl⟩ := hC.bits
    obtain ⟨rfl, rfl, -⟩ := hok
    have hw : w' = W1 := hC
    subst hw
    simp [go_sem, gd, Oper.wp]
    exact WPost.mk trivial (AC.lay (by rfl) (by rfl)) (IsV.mk _ _)
  refine ObP.some (fun _ _ => True) (fun _ _ _ _ _ => trivial) ?_ ?_
  · intro c A w' hok hC hO hD
    obtain ⟨x, y, rfl⟩ := hC.bits
    obtain ⟨rfl, rfl, -⟩ := hok
    have hw : w' = W1.alloc _ := hC
    subst hw
    simp [depsL, IsV, slotv, Act.eval, Region.binds] at hD
    simp [go_sem, gd, Oper.wp, hD]
    exact WPost.mk0 (v := undef) trivial (AC.fill (by rfl) (by rfl)) trivial
  simp only [List.nil_append, List.cons_append]
  apply ObP.step
  case hobl =>
    intro c A w' hok hC hO hD
    simp [depsL, IsV, slotv, Act.eval, Region.binds] at hD
    simp [go_sem, gd, Oper.wp, hD]
    exact WPost.mk trivial (AC.skip (by rfl) (by rfl) hC) (IsV.mk _ _)
  simp only [List.nil_append, List.cons_append]
  refine ObP.done ?_
  intro wz hCz
  simp only [List.drop_zero]
  intro v0 h0 v1 h1 v2 h2 v3 h3 v4 h4 v5 h5 v6 h6 v7 h7 v8 h8 v9 h9 v10 h10
  have h8' : v8 = _ := h8
  have h10' : v10 = _ := h10
  subst h8' h10'
  clear h0 h1 h2 h3 h4 h5 h6 h7 h8 h9 h10
  refine AllVals.nil ?_
  refine wpAny_end rfl ?_
  have hCz' : wz = W1.alloc _ := hCz
  generalize hn1 : W1.heap.size = n1 at *
  have HY := Lib.hid ((HX.out.next HD1).box2 hn1 (.slice aoD p.ds.length capD) (.slice aoT p.ts.length capT) 29)
  rw [← hCz'] at HY
  clear hCz hCz' HX K0 K1 K2 HD1 hn1
  go_simp
  obtain ⟨-, ⟨-, c0⟩, ⟨-, c1⟩, ⟨-, c2⟩, ⟨-, c3⟩, ⟨-, c4⟩, ⟨-, c5⟩, ⟨-, c6⟩, ⟨-, c7⟩, ⟨-, c8⟩, ⟨-, c9⟩, ⟨-, c10⟩, ⟨-, c11⟩, ⟨-, c12⟩, ⟨-, c13⟩, ⟨-, c14⟩, ⟨-, c15⟩, ⟨-, c16⟩, ⟨-, c17⟩, ⟨-, c18⟩, -⟩ := HY.out
  go_wp2_with fail
  refine (wkInside_any p _ aoD aoT capD capT i aoA capA bc aoS lenS capS aoE lenE capE ar 7 7 ⟨#[]⟩ HAL.out (HAR.out.same HY.out.1) (wkHolds HY.out)).mono ?_
  rintro e' W ⟨rfl, hb⟩
  replace HY := Lib.hid (HY.out.next hb)
  clear hb c0 c1 c2 c3 c4 c5 c6 c7 c8 c9 c10 c11 c12 c13 c14 c15 c16 c17 c18
  obtain ⟨-, ⟨-, c0⟩, ⟨-, c1⟩, ⟨-, c2⟩, ⟨-, c3⟩, ⟨-, c4⟩, ⟨-, c5⟩, ⟨-, c6⟩, ⟨-, c7⟩, ⟨-, c8⟩, ⟨-, c9⟩, ⟨-, c10⟩, ⟨-, c11⟩, ⟨-, c12⟩, ⟨-, c13⟩, ⟨-, c14⟩, ⟨-, c15⟩, ⟨-, c16⟩, ⟨-, c17⟩, ⟨-, c18⟩, -⟩ := HY.out
  go_wp2_with fail
  refine (wkInside_any p _ aoD aoT capD capT i aoA capA bc aoS lenS capS aoE lenE capE ar 8 8 ⟨#[]⟩ HAL.out (HAR.out.same HY.out.1) (wkHolds HY.out)).mono ?_
  rintro e' W ⟨rfl, hb⟩
  replace HY := Lib.hid (HY.out.next hb)
  clear hb c0 c1 c2 c3 c4 c5 c6 c7 c8 c9 c10 c11 c12 c13 c14 c15 c16 c17 c18
  obtain ⟨-, ⟨-, c0⟩, ⟨-, c1⟩, ⟨-, c2⟩, ⟨-, c3⟩, ⟨-, c4⟩, ⟨-, c5⟩, ⟨-, c6⟩, ⟨-, c7⟩, ⟨-, c8⟩, ⟨-, c9⟩, ⟨-, c10⟩, ⟨-, c11⟩, ⟨-, c12⟩, ⟨-, c13⟩, ⟨-, c14⟩, ⟨-, c15⟩, ⟨-, c16⟩, ⟨-, c17⟩, ⟨-, c18⟩, -⟩ := HY.out
  go_wp2_with fail
  refine (wkInside_any p _ aoD aoT capD capT i aoA capA bc aoS lenS capS aoE lenE capE ar 3 3 ⟨#[]⟩ HAL.out (HAR.out.same HY.out.1) (wkHolds HY.out)).mono ?_
  rintro e' W ⟨rfl, hb⟩
  replace HY := Lib.hid (HY.out.next hb)
  clear hb c0 c1 c2 c3 c4 c5 c6 c7 c8 c9 c10 c11 c12 c13 c14 c15 c16 c17 c18
  obtain ⟨-, ⟨-, c0⟩, ⟨-, c1⟩, ⟨-, c2⟩, ⟨-, c3⟩, ⟨-, c4⟩, ⟨-, c5⟩, ⟨-, c6⟩, ⟨-, c7⟩, ⟨-, c8⟩, ⟨-, c9⟩, ⟨-, c10⟩, ⟨-, c11⟩, ⟨-, c12⟩, ⟨-, c13⟩, ⟨-, c14⟩, ⟨-, c15⟩, ⟨-, c16⟩, ⟨-, c17⟩, ⟨-, c18⟩, -⟩ := HY.out
  generalize htx : insR ar 7 7 ⟨#[]⟩ = tx at *
  generalize hat' : insR ar 8 8 ⟨#[]⟩ = atm at *
  generalize hlo : insR ar 3 3 ⟨#[]⟩ = lop at *
  clear htx hat' hlo
  have hop := HOP.out
  have g1 : (h.op == 1) = false := by rw [hop]; rfl
  have g2 : (h.op == 2) = false := by rw [hop]; rfl
  have g3 : (h.op == 3) = false := by rw [hop]; rfl
  have g4 : (h.op == 4) = false := by rw [hop]; rfl
  have g5 : (h.op == 5) = false := by rw [hop]; rfl
  have g6 : (h.op == 6) = true := by rw [hop]; rfl
  have g7 : (h.op == 7) = false := by rw [hop]; rfl
  have g8 : (h.op == 8) = false := by rw [hop]; rfl
  have g9 : (h.op == 9) = false := by rw [hop]; rfl
  have g10 : (h.op == 10) = false := by rw [hop]; rfl
  have g11 : (h.op == 11) = false := by rw [hop]; rfl
  have g12 : (h.op == 12) = false := by rw [hop]; rfl
  have g13 : (h.op == 13) = false := by rw [hop]; rfl
  have g14 : (h.op == 14) = false := by rw [hop]; rfl
  have g15 : (h.op == 15) = false := by rw [hop]; rfl
  clear hop
  cases tx
  · go_wp2_with fail
    refine (want_any p i h.nm 4 4 _ aoD aoT capD capT hi (HP.out.same HY.out.1)).mono ?_
    rintro e' W ⟨rfl, hb⟩
    replace HY := Lib.hid (HY.out.next hb)
    clear hb c0 c1 c2 c3 c4 c5 c6 c7 c8 c9 c10 c11 c12 c13 c14 c15 c16 c17 c18
    obtain ⟨-, ⟨-, c0⟩, ⟨-, c1⟩, ⟨-, c2⟩, ⟨-, c3⟩, ⟨-, c4⟩, ⟨-, c5⟩, ⟨-, c6⟩, ⟨-, c7⟩, ⟨-, c8⟩, ⟨-, c9⟩, ⟨-, c10⟩, ⟨-, c11⟩, ⟨-, c12⟩, ⟨-, c13⟩, ⟨-, c14⟩, ⟨-, c15⟩, ⟨-, c16⟩, ⟨-, c17⟩, ⟨-, c18⟩, -⟩ := HY.out
    go_wp2_with fail
    refine (wkInside_any p _ aoD aoT capD capT i aoA capA bc aoS lenS capS aoE lenE capE ar 5 6 h.nm HAL.out (HAR.out.same HY.out.1) (wkHolds HY.out)).mono ?_
    rintro e' W ⟨rfl, hb⟩
    replace HY := Lib.hid (HY.out.next hb)
    clear hb c0 c1 c2 c3 c4 c5 c6 c7 c8 c9 c10 c11 c12 c13 c14 c15 c16 c17 c18
    obtain ⟨-, ⟨-, c0⟩, ⟨-, c1⟩, ⟨-, c2⟩, ⟨-, c3⟩, ⟨-, c4⟩, ⟨-, c5⟩, ⟨-, c6⟩, ⟨-, c7⟩, ⟨-, c8⟩, ⟨-, c9⟩, ⟨-, c10⟩, ⟨-, c11⟩, ⟨-, c12⟩, ⟨-, c13⟩, ⟨-, c14⟩, ⟨-, c15⟩, ⟨-, c16⟩, ⟨-, c17⟩, ⟨-, c18⟩, -⟩ := HY.out
    go_wp2_with fail
    refine (RefNesting_any _ _).mono ?_
    rintro e' W' ⟨rfl, rfl⟩
    go_wp2_with fail
    refine (RefOr_any _ _ _).mono ?_
    rintro e' W' ⟨rfl, rfl⟩
    go_wp2_with fail
    go_ret
    exact ⟨ret_int (by first | exact HR.out.symm | (rw [HR.out]; first | done | rfl | simp [orE, nest])), HY.out.1⟩
  · go_wp2_with fail
    refine (want_any p i h.nm 4 4 _ aoD aoT capD capT hi (HP.out.same HY.out.1)).mono ?_
    rintro e' W ⟨rfl, hb⟩
    replace HY := Lib.hid (HY.out.next hb)
    clear hb c0 c1 c2 c3 c4 c5 c6 c7 c8 c9 c10 c11 c12 c13 c14 c15 c16 c17 c18
    obtain ⟨-, ⟨-, c0⟩, ⟨-, c1⟩, ⟨-, c2⟩, ⟨-, c3⟩, ⟨-, c4⟩, ⟨-, c5⟩, ⟨-, c6⟩, ⟨-, c7⟩, ⟨-, c8⟩, ⟨-, c9⟩, ⟨-, c10⟩, ⟨-, c11⟩, ⟨-, c12⟩, ⟨-, c13⟩, ⟨-, c14⟩, ⟨-, c15⟩, ⟨-, c16⟩, ⟨-, c17⟩, ⟨-, c18⟩, -⟩ := HY.out
    go_wp2_with fail
    refine (RefNesting_any _ _).mono ?_
    rintro e' W' ⟨rfl, rfl⟩
    go_wp2_with fail
    refine (RefOr_any _ _ _).mono ?_
    rintro e' W' ⟨rfl, rfl⟩
    go_wp2_with fail
    go_ret
    exact ⟨ret_int (by first | exact HR.out.symm | (rw [HR.out]; first | done | rfl | simp [orE, nest])), HY.out.1⟩
set_option maxHeartbeats 4000000 in
set_option maxRecDepth 100000 in
theorem wkOne2 (h : StH) (b e ar : StL) (s : Sl) (hi : I64 i) (hp : p.At w aoD aoT) (hin : StIn w h b e s) (har : ar.len ≤ maxLen) (hat : ar.At w w.heap.size aoA 0) (hh : Holds w (wkF bc p aoD aoT capD capT i aoA ar.len capA aoS lenS capS aoE lenE capE)) (hop : h.op = 2) :
    Calls Tryd.prog 58 #[.pointer (some ⟨bc, 0, none⟩), stV h b e s] w fun e' w' => e' = .returned (.int .i64 (exE p i h.xop h.xn h.xnm h.xkids)) ∧ Below w.heap.size w w' := by
  generalize hres : (exE p i h.xop h.xn h.xnm h.xkids) = res
  have HR : Hid (res = (exE p i h.xop h.xn h.xnm h.xkids)) := Lib.hid (by rw [← hres])
  have HOP := Lib.hid hop
  clear hres hop
  have HH := Lib.hid (show Sit w w _ from ⟨Below.refl _ _, hh⟩)
  have HSI := Lib.hid hin
  have HAR := Lib.hid hat
  have HAL := Lib.hid har
  have HP := Lib.hid hp
  unfold stV
  clear hh hin hat har hp
  go_enter Tryd.func58, Tryd.ntmps58
  go_upto_region 1 with fail
  generalize hW : World.alloc w _ = W
  generalize Value.agg #[_, _, _, _, _, _, _, _, _, _, _] = a0
  have HX : Hid (Sit w W (stF w.heap.size h b e s (wkF bc p aoD aoT capD capT i aoA ar.len capA aoS lenS capS aoE lenE capE))) := Lib.hid (by rw [← hW]; exact HH.out.box11 rfl _ _ _ _ _ _ _ _ _ _ _ _)
  clear hW HH
  have K0 : ∀ w', Below W.heap.size W w' → w'.cell? ⟨bc, 0, none⟩ = some (.slice aoD p.ds.length capD) := fun w' hb => (HX.out.next hb).2.2.2.2.2.2.2.2.2.2.2.2.1.2
  have K1 : ∀ w', Below W.heap.size W w' → w'.cell? ⟨bc, 1, none⟩ = some (.slice aoT p.ts.length capT) := fun w' hb => (HX.out.next hb).2.2.2.2.2.2.2.2.2.2.2.2.2.1.2
  have K2 : ∀ w', Below W.heap.size W w' → w'.cell? ⟨bc, 2, none⟩ = some (.int .i64 i) := fun w' hb => (HX.out.next hb).2.2.2.2.2.2.2.2.2.2.2.2.2.2.1.2
  have HD1 : Below W.heap.size W (W.drewN 1) := below_drewN (Below.refl _ _) 1
  refine wpAny_start (by kernel_rfl) rfl ?_
  generalize W.drewN 1 = W1 at *
  refine wpAny_phase 0 11 [8, 9] [[], [0], [0, 1], [0, 1, 2], [], [4], [4, 5], [4, 5, 6], [], [0, 1, 2, 3, 8], [0, 1, 2, 3, 4, 5, 6, 7, 8, 9]] [[none, some false], [none, some false], [none, some false], [none, some false], [none, none], [none, none], [none, none], [none, none], [some false, some false], [some true, some false], [some true, some true]] (AC W1 (.cells #[.slice none 0 0, .slice none 0 0] 29) (.cells #[.slice aoD p.ds.length capD, .slice aoT p.ts.length capT] 29)) (fun _ _ => True) [15, 16, 17, 18, 19, 20, 21, 22, 5, 6] rfl rfl (by rfl) (by kernel_rfl) (by kernel_rfl) (by kernel_rfl) (by kernel_rfl) (by kernel_rfl) (by rfl) (fun _ => trivial) (by rfl) rfl ?_
  simp only [List.take_succ_cons, List.take_zero, List.drop_zero, List.drop_succ_cons, dumE, List.map_cons, List.map_nil]
  apply ObP.step
  case hobl =>
    intro c A w' hok hC hO hD
    have e0 := hO 0 (by rfl)
    simp [Act.eval] at e0
    simp [depsL, IsV, slotv, Act.eval, Region.binds] at hD
    simp [go_sem, gd, Oper.wp, hD, e0]
    exact WPost.mk trivial (AC.skip (by rfl) (by rfl) hC) (IsV.mk _ _)
  apply ObP.step
  case hobl =>
    intro c A w' hok hC hO hD
    simp [depsL, IsV, slotv, Act.eval, Region.binds] at hD
    simp [go_sem, gd, Oper.wp, hD]
    exact WPost.mk trivial (AC.skip (by rfl) (by rfl) hC) (IsV.mk _ _)
  apply ObP.step
  case hobl =>
    intro c A w' hok hC hO hD
    simp [depsL, IsV, slotv, Act.eval, Region.binds] at hD
    simp [go_sem, gd, Oper.wp, hD]
    exact WPost.mk trivial (AC.skip (by rfl) (by rfl) hC) (IsV.mk _ _)
  apply ObP.step
  case hobl =>
    intro c A w' hok hC hO hD
    simp [depsL, IsV, slotv, Act.eval, Region.binds] at hD
    simp [go_sem, gd, Oper.wp, hD, K0, K1, AC.below HD1 hC]
    exact WPost.mk trivial (AC.skip (by rfl) (by rfl) hC) (IsV.mk _ _)
  apply ObP.step
  case hobl =>
    intro c A w' hok hC hO hD
    have e0 := hO 0 (by rfl)
    simp [Act.eval] at e0
    simp [depsL, IsV, slotv, Act.eval, Region.binds] at hD
    simp [go_sem, gd, Oper.wp, hD, e0]
    exact WPost.mk trivial (AC.skip (by rfl) (by rfl) hC) (IsV.mk _ _)
  simp only [List.nil_append, List.cons_append]
  apply ObP.step
  case hobl =>
    intro c A w' hok hC hO hD
    simp [depsL, IsV, slotv, Act.eval, Region.binds] at hD
    simp [go_sem, gd, Oper.wp, hD]
    exact WPost.mk trivial (AC.skip (by rfl) (by rfl) hC) (IsV.mk _ _)
  apply ObP.step
  case hobl =>
    intro c A w' hok hC hO hD
    simp [depsL, IsV, slotv, Act.eval, Region.binds] at hD
    simp [go_sem, gd, Oper.wp, hD]
    exact WPost.mk trivial (AC.skip (by rfl) (by rfl) hC) (IsV.mk _ _)
  apply ObP.step
  case hobl =>
    intro c A w' hok hC hO hD
    simp [depsL, IsV, slotv, Act.eval, Region.binds] at hD
    simp [go_sem, gd, Oper.wp, hD, K2, AC.below HD1 hC]
    exact WPost.mk trivial (AC.skip (by rfl) (by rfl) hC) (IsV.mk _ _)
  simp only [List.nil_append, List.cons_append]
  apply ObP.step
  case hobl =>
    intro c A w' hok hC hO hD
    obtain ⟨x, y, rfl⟩ := hC.bits
    obtain ⟨rfl, rfl, -⟩ := hok
    have hw : w' = W1 := hC
    subst hw
    simp [go_sem, gd, Oper.wp]
    exact WPost.mk trivial (AC.lay (by rfl) (by rfl)) (IsV.mk _ _)
  refine ObP.some (fun _ _ => True) (fun _ _ _ _ _ => trivial) ?_ ?_
  · intro c A w' hok hC hO hD
    obtain ⟨x, y, rfl⟩ := hC.bits
    obtain ⟨rfl, rfl, -⟩ := hok
    have hw : w' = W1.alloc _ := hC
    subst hw
    simp [depsL, IsV, slotv, Act.eval, Region.binds] at hD
    simp [go_sem, gd, Oper.wp, hD]
    exact WPost.mk0 (v := undef) trivial (AC.fill (by rfl) (by rfl)) trivial
  simp only [List.nil_append, List.cons_append]
  apply ObP.step
  case hobl =>
    intro c A w' hok hC hO hD
    simp [depsL, IsV, slotv, Act.eval, Region.binds] at hD
    simp [go_sem, gd, Oper.wp, hD]
    exact WPost.mk trivial (AC.skip (by rfl) (by rfl) hC) (IsV.mk _ _)
  simp only [List.nil_append, List.cons_append]
  refine ObP.done ?_
  intro wz hCz
  simp only [List.drop_zero]
  intro v0 h0 v1 h1 v2 h2 v3 h3 v4 h4 v5 h5 v6 h6 v7 h7 v8 h8 v9 h9 v10 h10
  have h8' : v8 = _ := h8
  have h10' : v10 = _ := h10
  subst h8' h10'
  clear h0 h1 h2 h3 h4 h5 h6 h7 h8 h9 h10
  refine AllVals.nil ?_
  refine wpAny_end rfl ?_
  have hCz' : wz = W1.alloc _ := hCz
  generalize hn1 : W1.heap.size = n1 at *
  have HY := Lib.hid ((HX.out.next HD1).box2 hn1 (.slice aoD p.ds.length capD) (.slice aoT p.ts.length capT) 29)
  rw [← hCz'] at HY
  clear hCz hCz' HX K0 K1 K2 HD1 hn1
  go_simp
  obtain ⟨-, ⟨-, c0⟩, ⟨-, c1⟩, ⟨-, c2⟩, ⟨-, c3⟩, ⟨-, c4⟩, ⟨-, c5⟩, ⟨-, c6⟩, ⟨-, c7⟩, ⟨-, c8⟩, ⟨-, c9⟩, ⟨-, c10⟩, ⟨-, c11⟩, ⟨-, c12⟩, ⟨-, c13⟩, ⟨-, c14⟩, ⟨-, c15⟩, ⟨-, c16⟩, ⟨-, c17⟩, ⟨-, c18⟩, -⟩ := HY.out
  go_wp2_with fail
  refine (wkInside_any p _ aoD aoT capD capT i aoA capA bc aoS lenS capS aoE lenE capE ar 7 7 ⟨#[]⟩ HAL.out (HAR.out.same HY.out.1) (wkHolds HY.out)).mono ?_
  rintro e' W ⟨rfl, hb⟩
  replace HY := Lib.hid (HY.out.next hb)
  clear hb c0 c1 c2 c3 c4 c5 c6 c7 c8 c9 c10 c11 c12 c13 c14 c15 c16 c17 c18
  obtain ⟨-, ⟨-, c0⟩, ⟨-, c1⟩, ⟨-, c2⟩, ⟨-, c3⟩, ⟨-, c4⟩, ⟨-, c5⟩, ⟨-, c6⟩, ⟨-, c7⟩, ⟨-, c8⟩, ⟨-, c9⟩, ⟨-, c10⟩, ⟨-, c11⟩, ⟨-, c12⟩, ⟨-, c13⟩, ⟨-, c14⟩, ⟨-, c15⟩, ⟨-, c16⟩, ⟨-, c17⟩, ⟨-, c18⟩, -⟩ := HY.out
  go_wp2_with fail
  refine (wkInside_any p _ aoD aoT capD capT i aoA capA bc aoS lenS capS aoE lenE capE ar 8 8 ⟨#[]⟩ HAL.out (HAR.out.same HY.out.1) (wkHolds HY.out)).mono ?_
  rintro e' W ⟨rfl, hb⟩
  replace HY := Lib.hid (HY.out.next hb)
  clear hb c0 c1 c2 c3 c4 c5 c6 c7 c8 c9 c10 c11 c12 c13 c14 c15 c16 c17 c18
  obtain ⟨-, ⟨-, c0⟩, ⟨-, c1⟩, ⟨-, c2⟩, ⟨-, c3⟩, ⟨-, c4⟩, ⟨-, c5⟩, ⟨-, c6⟩, ⟨-, c7⟩, ⟨-, c8⟩, ⟨-, c9⟩, ⟨-, c10⟩, ⟨-, c11⟩, ⟨-, c12⟩, ⟨-, c13⟩, ⟨-, c14⟩, ⟨-, c15⟩, ⟨-, c16⟩, ⟨-, c17⟩, ⟨-, c18⟩, -⟩ := HY.out
  go_wp2_with fail
  refine (wkInside_any p _ aoD aoT capD capT i aoA capA bc aoS lenS capS aoE lenE capE ar 3 3 ⟨#[]⟩ HAL.out (HAR.out.same HY.out.1) (wkHolds HY.out)).mono ?_
  rintro e' W ⟨rfl, hb⟩
  replace HY := Lib.hid (HY.out.next hb)
  clear hb c0 c1 c2 c3 c4 c5 c6 c7 c8 c9 c10 c11 c12 c13 c14 c15 c16 c17 c18
  obtain ⟨-, ⟨-, c0⟩, ⟨-, c1⟩, ⟨-, c2⟩, ⟨-, c3⟩, ⟨-, c4⟩, ⟨-, c5⟩, ⟨-, c6⟩, ⟨-, c7⟩, ⟨-, c8⟩, ⟨-, c9⟩, ⟨-, c10⟩, ⟨-, c11⟩, ⟨-, c12⟩, ⟨-, c13⟩, ⟨-, c14⟩, ⟨-, c15⟩, ⟨-, c16⟩, ⟨-, c17⟩, ⟨-, c18⟩, -⟩ := HY.out
  generalize htx : insR ar 7 7 ⟨#[]⟩ = tx at *
  generalize hat' : insR ar 8 8 ⟨#[]⟩ = atm at *
  generalize hlo : insR ar 3 3 ⟨#[]⟩ = lop at *
  clear htx hat' hlo
  have hop := HOP.out
  have g1 : (h.op == 1) = false := by rw [hop]; rfl
  have g2 : (h.op == 2) = true := by rw [hop]; rfl
  have g3 : (h.op == 3) = false := by rw [hop]; rfl
  have g4 : (h.op == 4) = false := by rw [hop]; rfl
  have g5 : (h.op == 5) = false := by rw [hop]; rfl
  have g6 : (h.op == 6) = false := by rw [hop]; rfl
  have g7 : (h.op == 7) = false := by rw [hop]; rfl
  have g8 : (h.op == 8) = false := by rw [hop]; rfl
  have g9 : (h.op == 9) = false := by rw [hop]; rfl
  have g10 : (h.op == 10) = false := by rw [hop]; rfl
  have g11 : (h.op == 11) = false := by rw [hop]; rfl
  have g12 : (h.op == 12) = false := by rw [hop]; rfl
  have g13 : (h.op == 13) = false := by rw [hop]; rfl
  have g14 : (h.op == 14) = false := by rw [hop]; rfl
  have g15 : (h.op == 15) = false := by rw [hop]; rfl
  clear hop
  go_wp2_with fail
  refine (RefExpr_any p i h.xop h.xn h.xnm h.xkids _ aoD aoT s.aox capD capT s.capx hi (HP.out.same HY.out.1) HSI.out.1.2.2.2.2.2.1 (HSI.out.2.2.1.same HY.out.1)).mono ?_
  rintro e' W ⟨rfl, hb⟩
  replace HY := Lib.hid (HY.out.next hb)
  clear hb c0 c1 c2 c3 c4 c5 c6 c7 c8 c9 c10 c11 c12 c13 c14 c15 c16 c17 c18
  obtain ⟨-, ⟨-, c0⟩, ⟨-, c1⟩, ⟨-, c2⟩, ⟨-, c3⟩, ⟨-, c4⟩, ⟨-, c5⟩, ⟨-, c6⟩, ⟨-, c7⟩, ⟨-, c8⟩, ⟨-, c9⟩, ⟨-, c10⟩, ⟨-, c11⟩, ⟨-, c12⟩, ⟨-, c13⟩, ⟨-, c14⟩, ⟨-, c15⟩, ⟨-, c16⟩, ⟨-, c17⟩, ⟨-, c18⟩, -⟩ := HY.out
  go_wp2_with fail
  go_ret
  exact ⟨ret_int (by first | exact HR.out.symm | (rw [HR.out]; first | done | rfl | simp [orE, nest])), HY.out.1⟩
set_option maxHeartbeats 4000000 in
set_option maxRecDepth 100000 in
theorem wkOne3 (h : StH) (b e ar : StL) (s : Sl) (hi : I64 i) (hp : p.At w aoD aoT) (hin : StIn w h b e s) (har : ar.len ≤ maxLen) (hat : ar.At w w.heap.size aoA 0) (hh : Holds w (wkF bc p aoD aoT capD capT i aoA ar.len capA aoS lenS capS aoE lenE capE)) (hop : h.op = 3) :
    Calls Tryd.prog 58 #[.pointer (some ⟨bc, 0, none⟩), stV h b e s] w fun e' w' => e' = .returned (.int .i64 (exE p i h.xop h.xn h.xnm h.xkids)) ∧ Below w.heap.size w w' := by
  generalize hres : (exE p i h.xop h.xn h.xnm h.xkids) = res
  have HR : Hid (res = (exE p i h.xop h.xn h.xnm h.xkids)) := Lib.hid (by rw [← hres])
  have HOP := Lib.hid hop
  clear hres hop
  have HH := Lib.hid (show Sit w w _ from ⟨Below.refl _ _, hh⟩)
  have HSI := Lib.hid hin
  have HAR := Lib.hid hat
  have HAL := Lib.hid har
  have HP := Lib.hid hp
  unfold stV
  clear hh hin hat har hp
  go_enter Tryd.func58, Tryd.ntmps58
  go_upto_region 1 with fail
  generalize hW : World.alloc w _ = W
  generalize Value.agg #[_, _, _, _, _, _, _, _, _, _, _] = a0
  have HX : Hid (Sit w W (stF w.heap.size h b e s (wkF bc p aoD aoT capD capT i aoA ar.len capA aoS lenS capS aoE lenE capE))) := Lib.hid (by rw [← hW]; exact HH.out.box11 rfl _ _ _ _ _ _ _ _ _ _ _ _)
  clear hW HH
  have K0 : ∀ w', Below W.heap.size W w' → w'.cell? ⟨bc, 0, none⟩ = some (.slice aoD p.ds.length capD) := fun w' hb => (HX.out.next hb).2.2.2.2.2.2.2.2.2.2.2.2.1.2
  have K1 : ∀ w', Below W.heap.size W w' → w'.cell? ⟨bc, 1, none⟩ = some (.slice aoT p.ts.length capT) := fun w' hb => (HX.out.next hb).2.2.2.2.2.2.2.2.2.2.2.2.2.1.2
  have K2 : ∀ w', Below W.heap.size W w' → w'.cell? ⟨bc, 2, none⟩ = some (.int .i64 i) := fun w' hb => (HX.out.next hb).2.2.2.2.2.2.2.2.2.2.2.2.2.2.1.2
  have HD1 : Below W.heap.size W (W.drewN 1) := below_drewN (Below.refl _ _) 1
  refine wpAny_start (by kernel_rfl) rfl ?_
  generalize W.drewN 1 = W1 at *
  refine wpAny_phase 0 11 [8, 9] [[], [0], [0, 1], [0, 1, 2], [], [4], [4, 5], [4, 5, 6], [], [0, 1, 2, 3, 8], [0, 1, 2, 3, 4, 5, 6, 7, 8, 9]] [[none, some false], [none, some false], [none, some false], [none, some false], [none, none], [none, none], [none, none], [none, none], [some false, some false], [some true, some false], [some true, some true]] (AC W1 (.cells #[.slice none 0 0, .slice none 0 0] 29) (.cells #[.slice aoD p.ds.length capD, .slice aoT p.ts.length capT] 29)) (fun _ _ => True) [15, 16, 17, 18, 19, 20, 21, 22, 5, 6] rfl rfl (by rfl) (by kernel_rfl) (by kernel_rfl) (by kernel_rfl) (by kernel_rfl) (by kernel_rfl) (by rfl) (fun _ => trivial) (by rfl) rfl ?_
  simp only [List.take_succ_cons, List.take_zero, List.drop_zero, List.drop_succ_cons, dumE, List.map_cons, List.map_nil]
  apply ObP.step
  case hobl =>
    intro c A w' hok hC hO hD
    have e0 := hO 0 (by rfl)
    simp [Act.eval] at e0
    simp [depsL, IsV, slotv, Act.eval, Region.binds] at hD
    simp [go_sem, gd, Oper.wp, hD, e0]
    exact WPost.mk trivial (AC.skip (by rfl) (by rfl) hC) (IsV.mk _ _)
  apply ObP.step
  case hobl =>
    intro c A w' hok hC hO hD
    simp [depsL, IsV, slotv, Act.eval, Region.binds] at hD
    simp [go_sem, gd, Oper.wp, hD]
    exact WPost.mk trivial (AC.skip (by rfl) (by rfl) hC) (IsV.mk _ _)
  apply ObP.step
  case hobl =>
    intro c A w' hok hC hO hD
    simp [depsL, IsV, slotv, Act.eval, Region.binds] at hD
    simp [go_sem, gd, Oper.wp, hD]
    exact WPost.mk trivial (AC.skip (by rfl) (by rfl) hC) (IsV.mk _ _)
  apply ObP.step
  case hobl =>
    intro c A w' hok hC hO hD
    simp [depsL, IsV, slotv, Act.eval, Region.binds] at hD
    simp [go_sem, gd, Oper.wp, hD, K0, K1, AC.below HD1 hC]
    exact WPost.mk trivial (AC.skip (by rfl) (by rfl) hC) (IsV.mk _ _)
  apply ObP.step
  case hobl =>
    intro c A w' hok hC hO hD
    have e0 := hO 0 (by rfl)
    simp [Act.eval] at e0
    simp [depsL, IsV, slotv, Act.eval, Region.binds] at hD
    simp [go_sem, gd, Oper.wp, hD, e0]
    exact WPost.mk trivial (AC.skip (by rfl) (by rfl) hC) (IsV.mk _ _)
  simp only [List.nil_append, List.cons_append]
  apply ObP.step
  case hobl =>
    intro c A w' hok hC hO hD
    simp [depsL, IsV, slotv, Act.eval, Region.binds] at hD
    simp [go_sem, gd, Oper.wp, hD]
    exact WPost.mk trivial (AC.skip (by rfl) (by rfl) hC) (IsV.mk _ _)
  apply ObP.step
  case hobl =>
    intro c A w' hok hC hO hD
    simp [depsL, IsV, slotv, Act.eval, Region.binds] at hD
    simp [go_sem, gd, Oper.wp, hD]
    exact WPost.mk trivial (AC.skip (by rfl) (by rfl) hC) (IsV.mk _ _)
  apply ObP.step
  case hobl =>
    intro c A w' hok hC hO hD
    simp [depsL, IsV, slotv, Act.eval, Region.binds] at hD
    simp [go_sem, gd, Oper.wp, hD, K2, AC.below HD1 hC]
    exact WPost.mk trivial (AC.skip (by rfl) (by rfl) hC) (IsV.mk _ _)
  simp only [List.nil_append, List.cons_append]
  apply ObP.step
  case hobl =>
    intro c A w' hok hC hO hD
    obtain ⟨x, y, rfl⟩ := hC.bits
    obtain ⟨rfl, rfl, -⟩ := hok
    have hw : w' = W1 := hC
    subst hw
    simp [go_sem, gd, Oper.wp]
    exact WPost.mk trivial (AC.lay (by rfl) (by rfl)) (IsV.mk _ _)
  refine ObP.some (fun _ _ => True) (fun _ _ _ _ _ => trivial) ?_ ?_
  · intro c A w' hok hC hO hD
    obtain ⟨x, y, rfl⟩ := hC.bits
    obtain ⟨rfl, rfl, -⟩ := hok
    have hw : w' = W1.alloc _ := hC
    subst hw
    simp [depsL, IsV, slotv, Act.eval, Region.binds] at hD
    simp [go_sem, gd, Oper.wp, hD]
    exact WPost.mk0 (v := undef) trivial (AC.fill (by rfl) (by rfl)) trivial
  simp only [List.nil_append, List.cons_append]
  apply ObP.step
  case hobl =>
    intro c A w' hok hC hO hD
    simp [depsL, IsV, slotv, Act.eval, Region.binds] at hD
    simp [go_sem, gd, Oper.wp, hD]
    exact WPost.mk trivial (AC.skip (by rfl) (by rfl) hC) (IsV.mk _ _)
  simp only [List.nil_append, List.cons_append]
  refine ObP.done ?_
  intro wz hCz
  simp only [List.drop_zero]
  intro v0 h0 v1 h1 v2 h2 v3 h3 v4 h4 v5 h5 v6 h6 v7 h7 v8 h8 v9 h9 v10 h10
  have h8' : v8 = _ := h8
  have h10' : v10 = _ := h10
  subst h8' h10'
  clear h0 h1 h2 h3 h4 h5 h6 h7 h8 h9 h10
  refine AllVals.nil ?_
  refine wpAny_end rfl ?_
  have hCz' : wz = W1.alloc _ := hCz
  generalize hn1 : W1.heap.size = n1 at *
  have HY := Lib.hid ((HX.out.next HD1).box2 hn1 (.slice aoD p.ds.length capD) (.slice aoT p.ts.length capT) 29)
  rw [← hCz'] at HY
  clear hCz hCz' HX K0 K1 K2 HD1 hn1
  go_simp
  obtain ⟨-, ⟨-, c0⟩, ⟨-, c1⟩, ⟨-, c2⟩, ⟨-, c3⟩, ⟨-, c4⟩, ⟨-, c5⟩, ⟨-, c6⟩, ⟨-, c7⟩, ⟨-, c8⟩, ⟨-, c9⟩, ⟨-, c10⟩, ⟨-, c11⟩, ⟨-, c12⟩, ⟨-, c13⟩, ⟨-, c14⟩, ⟨-, c15⟩, ⟨-, c16⟩, ⟨-, c17⟩, ⟨-, c18⟩, -⟩ := HY.out
  go_wp2_with fail
  refine (wkInside_any p _ aoD aoT capD capT i aoA capA bc aoS lenS capS aoE lenE capE ar 7 7 ⟨#[]⟩ HAL.out (HAR.out.same HY.out.1) (wkHolds HY.out)).mono ?_
  rintro e' W ⟨rfl, hb⟩
  replace HY := Lib.hid (HY.out.next hb)
  clear hb c0 c1 c2 c3 c4 c5 c6 c7 c8 c9 c10 c11 c12 c13 c14 c15 c16 c17 c18
  obtain ⟨-, ⟨-, c0⟩, ⟨-, c1⟩, ⟨-, c2⟩, ⟨-, c3⟩, ⟨-, c4⟩, ⟨-, c5⟩, ⟨-, c6⟩, ⟨-, c7⟩, ⟨-, c8⟩, ⟨-, c9⟩, ⟨-, c10⟩, ⟨-, c11⟩, ⟨-, c12⟩, ⟨-, c13⟩, ⟨-, c14⟩, ⟨-, c15⟩, ⟨-, c16⟩, ⟨-, c17⟩, ⟨-, c18⟩, -⟩ := HY.out
  go_wp2_with fail
  refine (wkInside_any p _ aoD aoT capD capT i aoA capA bc aoS lenS capS aoE lenE capE ar 8 8 ⟨#[]⟩ HAL.out (HAR.out.same HY.out.1) (wkHolds HY.out)).mono ?_
  rintro e' W ⟨rfl, hb⟩
  replace HY := Lib.hid (HY.out.next hb)
  clear hb c0 c1 c2 c3 c4 c5 c6 c7 c8 c9 c10 c11 c12 c13 c14 c15 c16 c17 c18
  obtain ⟨-, ⟨-, c0⟩, ⟨-, c1⟩, ⟨-, c2⟩, ⟨-, c3⟩, ⟨-, c4⟩, ⟨-, c5⟩, ⟨-, c6⟩, ⟨-, c7⟩, ⟨-, c8⟩, ⟨-, c9⟩, ⟨-, c10⟩, ⟨-, c11⟩, ⟨-, c12⟩, ⟨-, c13⟩, ⟨-, c14⟩, ⟨-, c15⟩, ⟨-, c16⟩, ⟨-, c17⟩, ⟨-, c18⟩, -⟩ := HY.out
  go_wp2_with fail
  refine (wkInside_any p _ aoD aoT capD capT i aoA capA bc aoS lenS capS aoE lenE capE ar 3 3 ⟨#[]⟩ HAL.out (HAR.out.same HY.out.1) (wkHolds HY.out)).mono ?_
  rintro e' W ⟨rfl, hb⟩
  replace HY := Lib.hid (HY.out.next hb)
  clear hb c0 c1 c2 c3 c4 c5 c6 c7 c8 c9 c10 c11 c12 c13 c14 c15 c16 c17 c18
  obtain ⟨-, ⟨-, c0⟩, ⟨-, c1⟩, ⟨-, c2⟩, ⟨-, c3⟩, ⟨-, c4⟩, ⟨-, c5⟩, ⟨-, c6⟩, ⟨-, c7⟩, ⟨-, c8⟩, ⟨-, c9⟩, ⟨-, c10⟩, ⟨-, c11⟩, ⟨-, c12⟩, ⟨-, c13⟩, ⟨-, c14⟩, ⟨-, c15⟩, ⟨-, c16⟩, ⟨-, c17⟩, ⟨-, c18⟩, -⟩ := HY.out
  generalize htx : insR ar 7 7 ⟨#[]⟩ = tx at *
  generalize hat' : insR ar 8 8 ⟨#[]⟩ = atm at *
  generalize hlo : insR ar 3 3 ⟨#[]⟩ = lop at *
  clear htx hat' hlo
  have hop := HOP.out
  have g1 : (h.op == 1) = false := by rw [hop]; rfl
  have g2 : (h.op == 2) = false := by rw [hop]; rfl
  have g3 : (h.op == 3) = true := by rw [hop]; rfl
  have g4 : (h.op == 4) = false := by rw [hop]; rfl
  have g5 : (h.op == 5) = false := by rw [hop]; rfl
  have g6 : (h.op == 6) = false := by rw [hop]; rfl
  have g7 : (h.op == 7) = false := by rw [hop]; rfl
  have g8 : (h.op == 8) = false := by rw [hop]; rfl
  have g9 : (h.op == 9) = false := by rw [hop]; rfl
  have g10 : (h.op == 10) = false := by rw [hop]; rfl
  have g11 : (h.op == 11) = false := by rw [hop]; rfl
  have g12 : (h.op == 12) = false := by rw [hop]; rfl
  have g13 : (h.op == 13) = false := by rw [hop]; rfl
  have g14 : (h.op == 14) = false := by rw [hop]; rfl
  have g15 : (h.op == 15) = false := by rw [hop]; rfl
  clear hop
  go_wp2_with fail
  refine (RefExpr_any p i h.xop h.xn h.xnm h.xkids _ aoD aoT s.aox capD capT s.capx hi (HP.out.same HY.out.1) HSI.out.1.2.2.2.2.2.1 (HSI.out.2.2.1.same HY.out.1)).mono ?_
  rintro e' W ⟨rfl, hb⟩
  replace HY := Lib.hid (HY.out.next hb)
  clear hb c0 c1 c2 c3 c4 c5 c6 c7 c8 c9 c10 c11 c12 c13 c14 c15 c16 c17 c18
  obtain ⟨-, ⟨-, c0⟩, ⟨-, c1⟩, ⟨-, c2⟩, ⟨-, c3⟩, ⟨-, c4⟩, ⟨-, c5⟩, ⟨-, c6⟩, ⟨-, c7⟩, ⟨-, c8⟩, ⟨-, c9⟩, ⟨-, c10⟩, ⟨-, c11⟩, ⟨-, c12⟩, ⟨-, c13⟩, ⟨-, c14⟩, ⟨-, c15⟩, ⟨-, c16⟩, ⟨-, c17⟩, ⟨-, c18⟩, -⟩ := HY.out
  go_wp2_with fail
  go_ret
  exact ⟨ret_int (by first | exact HR.out.symm | (rw [HR.out]; first | done | rfl | simp [orE, nest])), HY.out.1⟩
set_option maxHeartbeats 4000000 in
set_option maxRecDepth 100000 in
theorem wkOne13 (h : StH) (b e ar : StL) (s : Sl) (hi : I64 i) (hp : p.At w aoD aoT) (hin : StIn w h b e s) (har : ar.len ≤ maxLen) (hat : ar.At w w.heap.size aoA 0) (hh : Holds w (wkF bc p aoD aoT capD capT i aoA ar.len capA aoS lenS capS aoE lenE capE)) (hop : h.op = 13) :
    Calls Tryd.prog 58 #[.pointer (some ⟨bc, 0, none⟩), stV h b e s] w fun e' w' => e' = .returned (.int .i64 (orE (wantE (conv (mean p i h.nm)) 7 7) (nest ((insR ar 7 7 ⟨#[]⟩ || insR ar 8 8 ⟨#[]⟩) || atTh p.ts h.nm == i)))) ∧ Below w.heap.size w w' := by
  generalize hres : (orE (wantE (conv (mean p i h.nm)) 7 7) (nest ((insR ar 7 7 ⟨#[]⟩ || insR ar 8 8 ⟨#[]⟩) || atTh p.ts h.nm == i))) = res
  have HR : Hid (res = (orE (wantE (conv (mean p i h.nm)) 7 7) (nest ((insR ar 7 7 ⟨#[]⟩ || insR ar 8 8 ⟨#[]⟩) || atTh p.ts h.nm == i)))) := Lib.hid (by rw [← hres])
  have HOP := Lib.hid hop
  clear hres hop
  have HH := Lib.hid (show Sit w w _ from ⟨Below.refl _ _, hh⟩)
  have HSI := Lib.hid hin
  have HAR := Lib.hid hat
  have HAL := Lib.hid har
  have HP := Lib.hid hp
  unfold stV
  clear hh hin hat har hp
  go_enter Tryd.func58, Tryd.ntmps58
  go_upto_region 1 with fail
  generalize hW : World.alloc w _ = W
  generalize Value.agg #[_, _, _, _, _, _, _, _, _, _, _] = a0
  have HX : Hid (Sit w W (stF w.heap.size h b e s (wkF bc p aoD aoT capD capT i aoA ar.len capA aoS lenS capS aoE lenE capE))) := Lib.hid (by rw [← hW]; exact HH.out.box11 rfl _ _ _ _ _ _ _ _ _ _ _ _)
  clear hW HH
  have K0 : ∀ w', Below W.heap.size W w' → w'.cell? ⟨bc, 0, none⟩ = some (.slice aoD p.ds.length capD) := fun w' hb => (HX.out.next hb).2.2.2.2.2.2.2.2.2.2.2.2.1.2
  have K1 : ∀ w', Below W.heap.size W w' → w'.cell? ⟨bc, 1, none⟩ = some (.slice aoT p.ts.length capT) := fun w' hb => (HX.out.next hb).2.2.2.2.2.2.2.2.2.2.2.2.2.1.2
  have K2 : ∀ w', Below W.heap.size W w' → w'.cell? ⟨bc, 2, none⟩ = some (.int .i64 i) := fun w' hb => (HX.out.next hb).2.2.2.2.2.2.2.2.2.2.2.2.2.2.1.2
  have HD1 : Below W.heap.size W (W.drewN 1) := below_drewN (Below.refl _ _) 1
  refine wpAny_start (by kernel_rfl) rfl ?_
  generalize W.drewN 1 = W1 at *
  refine wpAny_phase 0 11 [8, 9] [[], [0], [0, 1], [0, 1, 2], [], [4], [4, 5], [4, 5, 6], [], [0, 1, 2, 3, 8], [0, 1, 2, 3, 4, 5, 6, 7, 8, 9]] [[none, some false], [none, some false], [none, some false], [none, some false], [none, none], [none, none], [none, none], [none, none], [some false, some false], [some true, some false], [some true, some true]] (AC W1 (.cells #[.slice none 0 0, .slice none 0 0] 29) (.cells #[.slice aoD p.ds.length capD, .slice aoT p.ts.length capT] 29)) (fun _ _ => True) [15, 16, 17, 18, 19, 20, 21, 22, 5, 6] rfl rfl (by rfl) (by kernel_rfl) (by kernel_rfl) (by kernel_rfl) (by kernel_rfl) (by kernel_rfl) (by rfl) (fun _ => trivial) (by rfl) rfl ?_
  simp only [List.take_succ_cons, List.take_zero, List.drop_zero, List.drop_succ_cons, dumE, List.map_cons, List.map_nil]
  apply ObP.step
  case hobl =>
    intro c A w' hok hC hO hD
    have e0 := hO 0 (by rfl)
    simp [Act.eval] at e0
    simp [depsL, IsV, slotv, Act.eval, Region.binds] at hD
    simp [go_sem, gd, Oper.wp, hD, e0]
    exact WPost.mk trivial (AC.skip (by rfl) (by rfl) hC) (IsV.mk _ _)
  apply ObP.step
  case hobl =>
    intro c A w' hok hC hO hD
    simp [depsL, IsV, slotv, Act.eval, Region.binds] at hD
    simp [go_sem, gd, Oper.wp, hD]
    exact WPost.mk trivial (AC.skip (by rfl) (by rfl) hC) (IsV.mk _ _)
  apply ObP.step
  case hobl =>
    intro c A w' hok hC hO hD
    simp [depsL, IsV, slotv, Act.eval, Region.binds] at hD
    simp [go_sem, gd, Oper.wp, hD]
    exact WPost.mk trivial (AC.skip (by rfl) (by rfl) hC) (IsV.mk _ _)
  apply ObP.step
  case hobl =>
    intro c A w' hok hC hO hD
    simp [depsL, IsV, slotv, Act.eval, Region.binds] at hD
    simp [go_sem, gd, Oper.wp, hD, K0, K1, AC.below HD1 hC]
    exact WPost.mk trivial (AC.skip (by rfl) (by rfl) hC) (IsV.mk _ _)
  apply ObP.step
  case hobl =>
    intro c A w' hok hC hO hD
    have e0 := hO 0 (by rfl)
    simp [Act.eval] at e0
    simp [depsL, IsV, slotv, Act.eval, Region.binds] at hD
    simp [go_sem, gd, Oper.wp, hD, e0]
    exact WPost.mk trivial (AC.skip (by rfl) (by rfl) hC) (IsV.mk _ _)
  simp only [List.nil_append, List.cons_append]
  apply ObP.step
  case hobl =>
    intro c A w' hok hC hO hD
    simp [depsL, IsV, slotv, Act.eval, Region.binds] at hD
    simp [go_sem, gd, Oper.wp, hD]
    exact WPost.mk trivial (AC.skip (by rfl) (by rfl) hC) (IsV.mk _ _)
  apply ObP.step
  case hobl =>
    intro c A w' hok hC hO hD
    simp [depsL, IsV, slotv, Act.eval, Region.binds] at hD
    simp [go_sem, gd, Oper.wp, hD]
    exact WPost.mk trivial (AC.skip (by rfl) (by rfl) hC) (IsV.mk _ _)
  apply ObP.step
  case hobl =>
    intro c A w' hok hC hO hD
    simp [depsL, IsV, slotv, Act.eval, Region.binds] at hD
    simp [go_sem, gd, Oper.wp, hD, K2, AC.below HD1 hC]
    exact WPost.mk trivial (AC.skip (by rfl) (by rfl) hC) (IsV.mk _ _)
  simp only [List.nil_append, List.cons_append]
  apply ObP.step
  case hobl =>
    intro c A w' hok hC hO hD
    obtain ⟨x, y, rfl⟩ := hC.bits
    obtain ⟨rfl, rfl, -⟩ := hok
    have hw : w' = W1 := hC
    subst hw
    simp [go_sem, gd, Oper.wp]
    exact WPost.mk trivial (AC.lay (by rfl) (by rfl)) (IsV.mk _ _)
  refine ObP.some (fun _ _ => True) (fun _ _ _ _ _ => trivial) ?_ ?_
  · intro c A w' hok hC hO hD
    obtain ⟨x, y, rfl⟩ := hC.bits
    obtain ⟨rfl, rfl, -⟩ := hok
    have hw : w' = W1.alloc _ := hC
    subst hw
    simp [depsL, IsV, slotv, Act.eval, Region.binds] at hD
    simp [go_sem, gd, Oper.wp, hD]
    exact WPost.mk0 (v := undef) trivial (AC.fill (by rfl) (by rfl)) trivial
  simp only [List.nil_append, List.cons_append]
  apply ObP.step
  case hobl =>
    intro c A w' hok hC hO hD
    simp [depsL, IsV, slotv, Act.eval, Region.binds] at hD
    simp [go_sem, gd, Oper.wp, hD]
    exact WPost.mk trivial (AC.skip (by rfl) (by rfl) hC) (IsV.mk _ _)
  simp only [List.nil_append, List.cons_append]
  refine ObP.done ?_
  intro wz hCz
  simp only [List.drop_zero]
  intro v0 h0 v1 h1 v2 h2 v3 h3 v4 h4 v5 h5 v6 h6 v7 h7 v8 h8 v9 h9 v10 h10
  have h8' : v8 = _ := h8
  have h10' : v10 = _ := h10
  subst h8' h10'
  clear h0 h1 h2 h3 h4 h5 h6 h7 h8 h9 h10
  refine AllVals.nil ?_
  refine wpAny_end rfl ?_
  have hCz' : wz = W1.alloc _ := hCz
  generalize hn1 : W1.heap.size = n1 at *
  have HY := Lib.hid ((HX.out.next HD1).box2 hn1 (.slice aoD p.ds.length capD) (.slice aoT p.ts.length capT) 29)
  rw [← hCz'] at HY
  clear hCz hCz' HX K0 K1 K2 HD1 hn1
  go_simp
  obtain ⟨-, ⟨-, c0⟩, ⟨-, c1⟩, ⟨-, c2⟩, ⟨-, c3⟩, ⟨-, c4⟩, ⟨-, c5⟩, ⟨-, c6⟩, ⟨-, c7⟩, ⟨-, c8⟩, ⟨-, c9⟩, ⟨-, c10⟩, ⟨-, c11⟩, ⟨-, c12⟩, ⟨-, c13⟩, ⟨-, c14⟩, ⟨-, c15⟩, ⟨-, c16⟩, ⟨-, c17⟩, ⟨-, c18⟩, -⟩ := HY.out
  go_wp2_with fail
  refine (wkInside_any p _ aoD aoT capD capT i aoA capA bc aoS lenS capS aoE lenE capE ar 7 7 ⟨#[]⟩ HAL.out (HAR.out.same HY.out.1) (wkHolds HY.out)).mono ?_
  rintro e' W ⟨rfl, hb⟩
  replace HY := Lib.hid (HY.out.next hb)
  clear hb c0 c1 c2 c3 c4 c5 c6 c7 c8 c9 c10 c11 c12 c13 c14 c15 c16 c17 c18
  obtain ⟨-, ⟨-, c0⟩, ⟨-, c1⟩, ⟨-, c2⟩, ⟨-, c3⟩, ⟨-, c4⟩, ⟨-, c5⟩, ⟨-, c6⟩, ⟨-, c7⟩, ⟨-, c8⟩, ⟨-, c9⟩, ⟨-, c10⟩, ⟨-, c11⟩, ⟨-, c12⟩, ⟨-, c13⟩, ⟨-, c14⟩, ⟨-, c15⟩, ⟨-, c16⟩, ⟨-, c17⟩, ⟨-, c18⟩, -⟩ := HY.out
  go_wp2_with fail
  refine (wkInside_any p _ aoD aoT capD capT i aoA capA bc aoS lenS capS aoE lenE capE ar 8 8 ⟨#[]⟩ HAL.out (HAR.out.same HY.out.1) (wkHolds HY.out)).mono ?_
  rintro e' W ⟨rfl, hb⟩
  replace HY := Lib.hid (HY.out.next hb)
  clear hb c0 c1 c2 c3 c4 c5 c6 c7 c8 c9 c10 c11 c12 c13 c14 c15 c16 c17 c18
  obtain ⟨-, ⟨-, c0⟩, ⟨-, c1⟩, ⟨-, c2⟩, ⟨-, c3⟩, ⟨-, c4⟩, ⟨-, c5⟩, ⟨-, c6⟩, ⟨-, c7⟩, ⟨-, c8⟩, ⟨-, c9⟩, ⟨-, c10⟩, ⟨-, c11⟩, ⟨-, c12⟩, ⟨-, c13⟩, ⟨-, c14⟩, ⟨-, c15⟩, ⟨-, c16⟩, ⟨-, c17⟩, ⟨-, c18⟩, -⟩ := HY.out
  go_wp2_with fail
  refine (wkInside_any p _ aoD aoT capD capT i aoA capA bc aoS lenS capS aoE lenE capE ar 3 3 ⟨#[]⟩ HAL.out (HAR.out.same HY.out.1) (wkHolds HY.out)).mono ?_
  rintro e' W ⟨rfl, hb⟩
  replace HY := Lib.hid (HY.out.next hb)
  clear hb c0 c1 c2 c3 c4 c5 c6 c7 c8 c9 c10 c11 c12 c13 c14 c15 c16 c17 c18
  obtain ⟨-, ⟨-, c0⟩, ⟨-, c1⟩, ⟨-, c2⟩, ⟨-, c3⟩, ⟨-, c4⟩, ⟨-, c5⟩, ⟨-, c6⟩, ⟨-, c7⟩, ⟨-, c8⟩, ⟨-, c9⟩, ⟨-, c10⟩, ⟨-, c11⟩, ⟨-, c12⟩, ⟨-, c13⟩, ⟨-, c14⟩, ⟨-, c15⟩, ⟨-, c16⟩, ⟨-, c17⟩, ⟨-, c18⟩, -⟩ := HY.out
  generalize htx : insR ar 7 7 ⟨#[]⟩ = tx at *
  generalize hat' : insR ar 8 8 ⟨#[]⟩ = atm at *
  generalize hlo : insR ar 3 3 ⟨#[]⟩ = lop at *
  clear htx hat' hlo
  have hop := HOP.out
  have g1 : (h.op == 1) = false := by rw [hop]; rfl
  have g2 : (h.op == 2) = false := by rw [hop]; rfl
  have g3 : (h.op == 3) = false := by rw [hop]; rfl
  have g4 : (h.op == 4) = false := by rw [hop]; rfl
  have g5 : (h.op == 5) = false := by rw [hop]; rfl
  have g6 : (h.op == 6) = false := by rw [hop]; rfl
  have g7 : (h.op == 7) = false := by rw [hop]; rfl
  have g8 : (h.op == 8) = false := by rw [hop]; rfl
  have g9 : (h.op == 9) = false := by rw [hop]; rfl
  have g10 : (h.op == 10) = false := by rw [hop]; rfl
  have g11 : (h.op == 11) = false := by rw [hop]; rfl
  have g12 : (h.op == 12) = false := by rw [hop]; rfl
  have g13 : (h.op == 13) = true := by rw [hop]; rfl
  have g14 : (h.op == 14) = false := by rw [hop]; rfl
  have g15 : (h.op == 15) = false := by rw [hop]; rfl
  clear hop
  have HTA : Hid (∃ z : Int, atTh p.ts h.nm = z) := Lib.hid ⟨_, rfl⟩
  obtain ⟨kk, hkk⟩ := HTA.out
  have HKK := Lib.hid hkk
  rw [hkk] at HR
  clear hkk HTA
  cases tx
  · cases atm
    · cases hki : (kk == i)
      · go_wp2_with fail
        refine (want_any p i h.nm 7 7 _ aoD aoT capD capT hi (HP.out.same HY.out.1)).mono ?_
        rintro e' W ⟨rfl, hb⟩
        replace HY := Lib.hid (HY.out.next hb)
        clear hb c0 c1 c2 c3 c4 c5 c6 c7 c8 c9 c10 c11 c12 c13 c14 c15 c16 c17 c18
        obtain ⟨-, ⟨-, c0⟩, ⟨-, c1⟩, ⟨-, c2⟩, ⟨-, c3⟩, ⟨-, c4⟩, ⟨-, c5⟩, ⟨-, c6⟩, ⟨-, c7⟩, ⟨-, c8⟩, ⟨-, c9⟩, ⟨-, c10⟩, ⟨-, c11⟩, ⟨-, c12⟩, ⟨-, c13⟩, ⟨-, c14⟩, ⟨-, c15⟩, ⟨-, c16⟩, ⟨-, c17⟩, ⟨-, c18⟩, -⟩ := HY.out
        go_wp2_with fail
        refine (RefThreadAt_any p.ts h.nm _ aoT capT HP.out.2.1 (HP.out.same HY.out.1).2.2.2).mono ?_
        rintro e' W' ⟨rfl, rfl⟩
        rw [HKK.out]
        go_wp2_with fail
        refine (RefNesting_any _ _).mono ?_
        rintro e' W' ⟨rfl, rfl⟩
        go_wp2_with fail
        refine (RefOr_any _ _ _).mono ?_
        rintro e' W' ⟨rfl, rfl⟩
        go_wp2_with fail
        go_ret
        exact ⟨ret_int (by rw [HR.out, hki]; first | done | rfl | simp [orE, nest]), HY.out.1⟩
      · go_wp2_with fail
        refine (want_any p i h.nm 7 7 _ aoD aoT capD capT hi (HP.out.same HY.out.1)).mono ?_
        rintro e' W ⟨rfl, hb⟩
        replace HY := Lib.hid (HY.out.next hb)
        clear hb c0 c1 c2 c3 c4 c5 c6 c7 c8 c9 c10 c11 c12 c13 c14 c15 c16 c17 c18
        obtain ⟨-, ⟨-, c0⟩, ⟨-, c1⟩, ⟨-, c2⟩, ⟨-, c3⟩, ⟨-, c4⟩, ⟨-, c5⟩, ⟨-, c6⟩, ⟨-, c7⟩, ⟨-, c8⟩, ⟨-, c9⟩, ⟨-, c10⟩, ⟨-, c11⟩, ⟨-, c12⟩, ⟨-, c13⟩, ⟨-, c14⟩, ⟨-, c15⟩, ⟨-, c16⟩, ⟨-, c17⟩, ⟨-, c18⟩, -⟩ := HY.out
        go_wp2_with fail
        refine (RefThreadAt_any p.ts h.nm _ aoT capT HP.out.2.1 (HP.out.same HY.out.1).2.2.2).mono ?_
        rintro e' W' ⟨rfl, rfl⟩
        rw [HKK.out]
        go_wp2_with fail
        refine (RefNesting_any _ _).mono ?_
        rintro e' W' ⟨rfl, rfl⟩
        go_wp2_with fail
        refine (RefOr_any _ _ _).mono ?_
        rintro e' W' ⟨rfl, rfl⟩
        go_wp2_with fail
        go_ret
        exact ⟨ret_int (by rw [HR.out, hki]; first | done | rfl | simp [orE, nest]), HY.out.1⟩
    · go_wp2_with fail
      refine (want_any p i h.nm 7 7 _ aoD aoT capD capT hi (HP.out.same HY.out.1)).mono ?_
      rintro e' W ⟨rfl, hb⟩
      replace HY := Lib.hid (HY.out.next hb)
      clear hb c0 c1 c2 c3 c4 c5 c6 c7 c8 c9 c10 c11 c12 c13 c14 c15 c16 c17 c18
      obtain ⟨-, ⟨-, c0⟩, ⟨-, c1⟩, ⟨-, c2⟩, ⟨-, c3⟩, ⟨-, c4⟩, ⟨-, c5⟩, ⟨-, c6⟩, ⟨-, c7⟩, ⟨-, c8⟩, ⟨-, c9⟩, ⟨-, c10⟩, ⟨-, c11⟩, ⟨-, c12⟩, ⟨-, c13⟩, ⟨-, c14⟩, ⟨-, c15⟩, ⟨-, c16⟩, ⟨-, c17⟩, ⟨-, c18⟩, -⟩ := HY.out
      go_wp2_with fail
      refine (RefNesting_any _ _).mono ?_
      rintro e' W' ⟨rfl, rfl⟩
      go_wp2_with fail
      refine (RefOr_any _ _ _).mono ?_
      rintro e' W' ⟨rfl, rfl⟩
      go_wp2_with fail
      go_ret
      exact ⟨ret_int (by first | exact HR.out.symm | (rw [HR.out]; first | done | rfl | simp [orE, nest])), HY.out.1⟩
  · go_wp2_with fail
    refine (want_any p i h.nm 7 7 _ aoD aoT capD capT hi (HP.out.same HY.out.1)).mono ?_
    rintro e' W ⟨rfl, hb⟩
    replace HY := Lib.hid (HY.out.next hb)
    clear hb c0 c1 c2 c3 c4 c5 c6 c7 c8 c9 c10 c11 c12 c13 c14 c15 c16 c17 c18
    obtain ⟨-, ⟨-, c0⟩, ⟨-, c1⟩, ⟨-, c2⟩, ⟨-, c3⟩, ⟨-, c4⟩, ⟨-, c5⟩, ⟨-, c6⟩, ⟨-, c7⟩, ⟨-, c8⟩, ⟨-, c9⟩, ⟨-, c10⟩, ⟨-, c11⟩, ⟨-, c12⟩, ⟨-, c13⟩, ⟨-, c14⟩, ⟨-, c15⟩, ⟨-, c16⟩, ⟨-, c17⟩, ⟨-, c18⟩, -⟩ := HY.out
    go_wp2_with fail
    refine (RefNesting_any _ _).mono ?_
    rintro e' W' ⟨rfl, rfl⟩
    go_wp2_with fail
    refine (RefOr_any _ _ _).mono ?_
    rintro e' W' ⟨rfl, rfl⟩
    go_wp2_with fail
    go_ret
    exact ⟨ret_int (by first | exact HR.out.symm | (rw [HR.out]; first | done | rfl | simp [orE, nest])), HY.out.1⟩
end
end Go.Proofs.YtghdammalphmfaaDoor
