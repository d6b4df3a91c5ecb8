/-
  Contract of the reference walk's one: where nothing is appended.
-/
import Derived.Test.YtghdammalphmfaaDoorGM
import Derived.Test.YtghdammalphmfaaDoorGD
import Derived.IntWalk
import Derived.Deep.RegionWith
set_option linter.unusedSimpArgs false
set_option linter.unusedVariables false
namespace Go.Proofs.YtghdammalphmfaaDoor
open Go.RowKit
open Md
section
variable (p : Pr) (w : World) (aoD aoT : Option Addr) (capD capT : Nat) (i : Int) (aoA : Option Addr) (capA bc : Nat) (aoS : Option Addr) (lenS capS : Nat) (aoE : Option Addr) (lenE capE : Nat)
set_option maxHeartbeats 4000000 in
set_option maxRecDepth 100000 in
theorem wkOne1a (h : StH) (b e ar : StL) (s : Sl) (hi : I64 i) (hp : p.At w aoD aoT) (hin : StIn w h b e s) (har : ar.len ≤ maxLen) (hat : ar.At w w.heap.size aoA 0) (hh : Holds w (wkF bc p aoD aoT capD capT i aoA ar.len capA aoS lenS capS aoE lenE capE)) (hop : h.op = 1) (hx : h.idx.len = 0) :
    Calls Tryd.prog 58 #[.pointer (some ⟨bc, 0, none⟩), stV h b e s] w fun e' w' => e' = .returned (.int .i64 (orE (wantE (conv (mean p i h.nm)) 8 1) (exE p i h.xop h.xn h.xnm h.xkids))) ∧ Below w.heap.size w w' := by
  generalize hres : (orE (wantE (conv (mean p i h.nm)) 8 1) (exE p i h.xop h.xn h.xnm h.xkids)) = res
  have HR : Hid (res = (orE (wantE (conv (mean p i h.nm)) 8 1) (exE p i h.xop h.xn h.xnm h.xkids))) := Lib.hid (by rw [← hres])
  have HOP := Lib.hid hop
  clear hres hop
  have HX0 := Lib.hid hx
  clear hx
  have HH := Lib.hid (show Sit w w _ from ⟨Below.refl _ _, hh⟩)
  have HSI := Lib.hid hin
  have HAR := Lib.hid hat
  have HAL := Lib.hid har
  have HP := Lib.hid hp
  unfold stV
  clear hh hin hat har hp
  go_enter Tryd.func58, Tryd.ntmps58
  go_upto_region 1 with fail
  generalize hW : World.alloc w _ = W
  generalize Value.agg #[_, _, _, _, _, _, _, _, _, _, _] = a0
  have HX : Hid (Sit w W (stF w.heap.size h b e s (wkF bc p aoD aoT capD capT i aoA ar.len capA aoS lenS capS aoE lenE capE))) := Lib.hid (by rw [← hW]; exact HH.out.box11 rfl _ _ _ _ _ _ _ _ _ _ _ _)
  clear hW HH
  have K0 : ∀ w', Below W.heap.size W w' → w'.cell? ⟨bc, 0, none⟩ = some (.slice aoD p.ds.length capD) := fun w' hb => (HX.out.next hb).2.2.2.2.2.2.2.2.2.2.2.2.1.2
  have K1 : ∀ w', Below W.heap.size W w' → w'.cell? ⟨bc, 1, none⟩ = some (.slice aoT p.ts.length capT) := fun w' hb => (HX.out.next hb).2.2.2.2.2.2.2.2.2.2.2.2.2.1.2
  have K2 : ∀ w', Below W.heap.size W w' → w'.cell? ⟨bc, 2, none⟩ = some (.int .i64 i) := fun w' hb => (HX.out.next hb).2.2.2.2.2.2.2.2.2.2.2.2.2.2.1.2
  have HD1 : Below W.heap.size W (W.drewN 1) := below_drewN (Below.refl _ _) 1
  refine wpAny_start (by kernel_rfl) rfl ?_
  generalize W.drewN 1 = W1 at *
  refine wpAny_phase 0 11 [8, 9] [[], [0], [0, 1], [0, 1, 2], [], [4], [4, 5], [4, 5, 6], [], [0, 1, 2, 3, 8], [0, 1, 2, 3, 4, 5, 6, 7, 8, 9]] [[none, some false], [none, some false], [none, some false], [none, some false], [none, none], [none, none], [none, none], [none, none], [some false, some false], [some true, some false], [some true, some true]] (AC W1 (.cells #[.slice none 0 0, .slice none 0 0] 29) (.cells #[.slice aoD p.ds.length capD, .slice aoT p.ts.length capT] 29)) (fun _ _ => True) [15, 16, 17, 18, 19, 20, 21, 22, 5, 6] rfl rfl (by rfl) (by kernel_rfl) (by kernel_rfl) (by kernel_rfl) (by kernel_rfl) (by kernel_rfl) (by rfl) (fun _ => trivial) (by rfl) rfl ?_
  simp only [List.take_succ_cons, List.take_zero, List.drop_zero, List.drop_succ_cons, dumE, List.map_cons, List.map_nil]
  apply ObP.step
  case hobl =>
    intro c A w' hok hC hO hD
    have e0 := hO 0 (by rfl)
    simp [Act.eval] at e0
    simp [depsL, IsV, slotv, Act.eval, Region.binds] at hD
    simp [go_sem, gd, Oper.wp, hD, e0]
    exact WPost.mk trivial (AC.skip (by rfl) (by rfl) hC) (IsV.mk _ _)
  apply ObP.step
  case hobl =>
    intro c A w' hok hC hO hD
    simp [depsL, IsV, slotv, Act.eval, Region.binds] at hD
    simp [go_sem, gd, Oper.wp, hD]
    exact WPost.mk trivial (AC.skip (by rfl) (by rfl) hC) (IsV.mk _ _)
  apply ObP.step
  case hobl =>
    intro c A w' hok hC hO hD
    simp [depsL, IsV, slotv, Act.eval, Region.binds] at hD
    simp [go_sem, gd, Oper.wp, hD]
    exact WPost.mk trivial (AC.skip (by rfl) (by rfl) hC) (IsV.mk _ _)
  apply ObP.step
  case hobl =>
    intro c A w' hok hC hO hD
    simp [depsL, IsV, slotv, Act.eval, Region.binds] at hD
    simp [go_sem, gd, Oper.wp, hD, K0, K1, AC.below HD1 hC]
    exact WPost.mk trivial (AC.skip (by rfl) (by rfl) hC) (IsV.mk _ _)
  apply ObP.step
  case hobl =>
    intro c A w' hok hC hO hD
    have e0 := hO 0 (by rfl)
    simp [Act.eval] at e0
    simp [depsL, IsV, slotv, Act.eval, Region.binds] at hD
    simp [go_sem, gd, Oper.wp, hD, e0]
    exact WPost.mk trivial (AC.skip (by rfl) (by rfl) hC) (IsV.mk _ _)
  simp only [List.nil_append, List.cons_append]
  apply ObP.step
  case hobl =>
    intro c A w' hok hC hO hD
    simp [depsL, IsV, slotv, Act.eval, Region.binds] at hD
    simp [go_sem, gd, Oper.wp, hD]
    exact WPost.mk trivial (AC.skip (by rfl) (by rfl) hC) (IsV.mk _ _)
  apply ObP.step
  case hobl =>
    intro c A w' hok hC hO hD
    simp [depsL, IsV, slotv, Act.eval, Region.binds] at hD
    simp [go_sem, gd, Oper.wp, hD]
    exact WPost.mk trivial (AC.skip (by rfl) (by rfl) hC) (IsV.mk _ _)
  apply ObP.step
  case hobl =>
    intro c A w' hok hC hO hD
    simp [depsL, IsV, slotv, Act.eval, Region.binds] at hD
    simp [go_sem, gd, Oper.wp, hD, K2, AC.below HD1 hC]
    exact WPost.mk trivial (AC.skip (by rfl) (by rfl) hC) (IsV.mk _ _)
  simp only [List.nil_append, List.cons_append]
  apply ObP.step
  case hobl =>
    intro c A w' hok hC hO hD
    obtain ⟨x, y, rfl⟩ := hC.bits
    obtain ⟨rfl, rfl, -⟩ := hok
    have hw : w' = W1 := hC
    subst hw
    simp [go_sem, gd, Oper.wp]
    exact WPost.mk trivial (AC.lay (by rfl) (by rfl)) (IsV.mk _ _)
  refine ObP.some (fun _ _ => True) (fun _ _ _ _ _ => trivial) ?_ ?_
  · intro c A w' hok hC hO hD
    obtain ⟨x, y, rfl⟩ := hC.bits
    obtain ⟨rfl, rfl, -⟩ := hok
    have hw : w' = W1.alloc _ := hC
    subst hw
    simp [depsL, IsV, slotv, Act.eval, Region.binds] at hD
    simp [go_sem, gd, Oper.wp, hD]
    exact WPost.mk0 (v := undef) trivial (AC.fill (by rfl) (by rfl)) trivial
  simp only [List.nil_append, List.cons_append]
  apply ObP.step
  case hobl =>
    intro c A w' hok hC hO hD
    simp [depsL, IsV, slotv, Act.eval, Region.binds] at hD
    simp [go_sem, gd, Oper.wp, hD]
    exact WPost.mk trivial (AC.skip (by rfl) (by rfl) hC) (IsV.mk _ _)
  simp only [List.nil_append, List.cons_append]
  refine ObP.done ?_
  intro wz hCz
  simp only [List.drop_zero]
  intro v0 h0 v1 h1 v2 h2 v3 h3 v4 h4 v5 h5 v6 h6 v7 h7 v8 h8 v9 h9 v10 h10
  have h8' : v8 = _ := h8
  have h10' : v10 = _ := h10
  subst h8' h10'
  clear h0 h1 h2 h3 h4 h5 h6 h7 h8 h9 h10
  refine AllVals.nil ?_
  refine wpAny_end rfl ?_
  have hCz' : wz = W1.alloc _ := hCz
  generalize hn1 : W1.heap.size = n1 at *
  have HY := Lib.hid ((HX.out.next HD1).box2 hn1 (.slice aoD p.ds.length capD) (.slice aoT p.ts.length capT) 29)
  rw [← hCz'] at HY
  clear hCz hCz' HX K0 K1 K2 HD1 hn1
  go_simp
  obtain ⟨-, ⟨-, c0⟩, ⟨-, c1⟩, ⟨-, c2⟩, ⟨-, c3⟩, ⟨-, c4⟩, ⟨-, c5⟩, ⟨-, c6⟩, ⟨-, c7⟩, ⟨-, c8⟩, ⟨-, c9⟩, ⟨-, c10⟩, ⟨-, c11⟩, ⟨-, c12⟩, ⟨-, c13⟩, ⟨-, c14⟩, ⟨-, c15⟩, ⟨-, c16⟩, ⟨-, c17⟩, ⟨-, c18⟩, -⟩ := HY.out
  go_wp2_with fail
  refine (wkInside_any p _ aoD aoT capD capT i aoA capA bc aoS lenS capS aoE lenE capE ar 7 7 ⟨#[]⟩ HAL.out (HAR.out.same HY.out.1) (wkHolds HY.out)).mono ?_
  rintro e' W ⟨rfl, hb⟩
  replace HY := Lib.hid (HY.out.next hb)
  clear hb c0 c1 c2 c3 c4 c5 c6 c7 c8 c9 c10 c11 c12 c13 c14 c15 c16 c17 c18
  obtain ⟨-, ⟨-, c0⟩, ⟨-, c1⟩, ⟨-, c2⟩, ⟨-, c3⟩, ⟨-, c4⟩, ⟨-, c5⟩, ⟨-, c6⟩, ⟨-, c7⟩, ⟨-, c8⟩, ⟨-, c9⟩, ⟨-, c10⟩, ⟨-, c11⟩, ⟨-, c12⟩, ⟨-, c13⟩, ⟨-, c14⟩, ⟨-, c15⟩, ⟨-, c16⟩, ⟨-, c17⟩, ⟨-, c18⟩, -⟩ := HY.out
  go_wp2_with fail
  refine (wkInside_any p _ aoD aoT capD capT i aoA capA bc aoS lenS capS aoE lenE capE ar 8 8 ⟨#[]⟩ HAL.out (HAR.out.same HY.out.1) (wkHolds HY.out)).mono ?_
  rintro e' W ⟨rfl, hb⟩
  replace HY := Lib.hid (HY.out.next hb)
  clear hb c0 c1 c2 c3 c4 c5 c6 c7 c8 c9 c10 c11 c12 c13 c14 c15 c16 c17 c18
  obtain ⟨-, ⟨-, c0⟩, ⟨-, c1⟩, ⟨-, c2⟩, ⟨-, c3⟩, ⟨-, c4⟩, ⟨-, c5⟩, ⟨-, c6⟩, ⟨-, c7⟩, ⟨-, c8⟩, ⟨-, c9⟩, ⟨-, c10⟩, ⟨-, c11⟩, ⟨-, c12⟩, ⟨-, c13⟩, ⟨-, c14⟩, ⟨-, c15⟩, ⟨-, c16⟩, ⟨-, c17⟩, ⟨-, c18⟩, -⟩ := HY.out
  go_wp2_with fail
  refine (wkInside_any p _ aoD aoT capD capT i aoA capA bc aoS lenS capS aoE lenE capE ar 3 3 ⟨#[]⟩ HAL.out (HAR.out.same HY.out.1) (wkHolds HY.out)).mono ?_
  rintro e' W ⟨rfl, hb⟩
  replace HY := Lib.hid (HY.out.next hb)
  clear hb c0 c1 c2 c3 c4 c5 c6 c7 c8 c9 c10 c11 c12 c13 c14 c15 c16 c17 c18
  obtain ⟨-, ⟨-, c0⟩, ⟨-, c1⟩, ⟨-, c2⟩, ⟨-, c3⟩, ⟨-, c4⟩, ⟨-, c5⟩, ⟨-, c6⟩, ⟨-, c7⟩, ⟨-, c8⟩, ⟨-, c9⟩, ⟨-, c10⟩, ⟨-, c11⟩, ⟨-, c12⟩, ⟨-, c13⟩, ⟨-, c14⟩, ⟨-, c15⟩, ⟨-, c16⟩, ⟨-, c17⟩, ⟨-, c18⟩, -⟩ := HY.out
  generalize htx : insR ar 7 7 ⟨#[]⟩ = tx at *
  generalize hat' : insR ar 8 8 ⟨#[]⟩ = atm at *
  generalize hlo : insR ar 3 3 ⟨#[]⟩ = lop at *
  clear htx hat' hlo
  have hop := HOP.out
  have g1 : (h.op == 1) = true := by rw [hop]; rfl
  have g2 : (h.op == 2) = false := by rw [hop]; rfl
  have g3 : (h.op == 3) = false := by rw [hop]; rfl
  have g4 : (h.op == 4) = false := by rw [hop]; rfl
  have g5 : (h.op == 5) = false := by rw [hop]; rfl
  have g6 : (h.op == 6) = false := by rw [hop]; rfl
  have g7 : (h.op == 7) = false := by rw [hop]; rfl
  have g8 : (h.op == 8) = false := by rw [hop]; rfl
  have g9 : (h.op == 9) = false := by rw [hop]; rfl
  have g10 : (h.op == 10) = false := by rw [hop]; rfl
  have g11 : (h.op == 11) = false := by rw [hop]; rfl
  have g12 : (h.op == 12) = false := by rw [hop]; rfl
  have g13 : (h.op == 13) = false := by rw [hop]; rfl
  have g14 : (h.op == 14) = false := by rw [hop]; rfl
  have g15 : (h.op == 15) = false := by rw [hop]; rfl
  clear hop
  rw [HX0.out] at c6
  go_upto_region 8 with fail
  obtain ⟨T, F, hinh, hst, hF, hnext⟩ := calm W
  have HF := Lib.hid hF
  have HNX := Lib.hid hnext
  clear hnext hF
  have d0 := fun x => (HY.out.next (HF.out x)).2.1.2
  have d1 := fun x => (HY.out.next (HF.out x)).2.2.1.2
  have d2 := fun x => (HY.out.next (HF.out x)).2.2.2.1.2
  have d3 := fun x => (HY.out.next (HF.out x)).2.2.2.2.1.2
  have d4 := fun x => (HY.out.next (HF.out x)).2.2.2.2.2.1.2
  have d5 := fun x => (HY.out.next (HF.out x)).2.2.2.2.2.2.1.2
  have d6 := fun x => (HY.out.next (HF.out x)).2.2.2.2.2.2.2.1.2
  have d7 := fun x => (HY.out.next (HF.out x)).2.2.2.2.2.2.2.2.1.2
  have d8 := fun x => (HY.out.next (HF.out x)).2.2.2.2.2.2.2.2.2.1.2
  have d9 := fun x => (HY.out.next (HF.out x)).2.2.2.2.2.2.2.2.2.2.1.2
  have d10 := fun x => (HY.out.next (HF.out x)).2.2.2.2.2.2.2.2.2.2.2.1.2
  have d11 := fun x => (HY.out.next (HF.out x)).2.2.2.2.2.2.2.2.2.2.2.2.1.2
  have d12 := fun x => (HY.out.next (HF.out x)).2.2.2.2.2.2.2.2.2.2.2.2.2.1.2
  have d13 := fun x => (HY.out.next (HF.out x)).2.2.2.2.2.2.2.2.2.2.2.2.2.2.1.2
  have d14 := fun x => (HY.out.next (HF.out x)).2.2.2.2.2.2.2.2.2.2.2.2.2.2.2.1.2
  have d15 := fun x => (HY.out.next (HF.out x)).2.2.2.2.2.2.2.2.2.2.2.2.2.2.2.2.1.2
  have d16 := fun x => (HY.out.next (HF.out x)).2.2.2.2.2.2.2.2.2.2.2.2.2.2.2.2.2.1.2
  have d17 := fun x => (HY.out.next (HF.out x)).2.2.2.2.2.2.2.2.2.2.2.2.2.2.2.2.2.2.1.2
  have d18 := fun x => (HY.out.next (HF.out x)).2.2.2.2.2.2.2.2.2.2.2.2.2.2.2.2.2.2.2.1.2
  clear c0 c1 c2 c3 c4 c5 c6 c7 c8 c9 c10 c11 c12 c13 c14 c15 c16 c17 c18
  refine region_calm F (by kernel_rfl) (by kernel_rfl) hst ?_
  repeat (any_goals (first | go_big_quiet_step ((first | (go_at_call 47; refine (want_any p i h.nm 8 1 _ aoD aoT capD capT hi ((HP.out.same HY.out.1).same (HF.out _))).mono ?_; rintro e w' ⟨rfl, hb⟩; exact ⟨rfl, HNX.out _ _ hb⟩) | (go_at_call 10; refine (RefExpr_any p i h.xop h.xn h.xnm h.xkids _ aoD aoT s.aox capD capT s.capx hi ((HP.out.same HY.out.1).same (HF.out _)) HSI.out.1.2.2.2.2.2.1 ((HSI.out.2.2.1.same HY.out.1).same (HF.out _))).mono ?_; rintro e w' ⟨rfl, hb⟩; exact ⟨rfl, HNX.out _ _ hb⟩) | (go_at_call 71; refine (RefOr_any _ _ _).mono ?_; rintro e w' ⟨rfl, rfl⟩; exact ⟨rfl, HNX.out _ _ (Below.refl _ _)⟩))) | (refine wpQuiet_step (fun K hK => ?_); go_simp; first | (refine hK _ ?_; clear hK K) | (split <;> first | (refine hK _ ?_; clear hK K) | (apply Exists.intro; refine ⟨fun _ => ?_, hK _ ?_⟩; ((first | (go_at_call 47; refine (want_any p i h.nm 8 1 _ aoD aoT capD capT hi ((HP.out.same HY.out.1).same (HF.out _))).mono ?_; rintro e w' ⟨rfl, hb⟩; exact ⟨rfl, HNX.out _ _ hb⟩) | (go_at_call 10; refine (RefExpr_any p i h.xop h.xn h.xnm h.xkids _ aoD aoT s.aox capD capT s.capx hi ((HP.out.same HY.out.1).same (HF.out _)) HSI.out.1.2.2.2.2.2.1 ((HSI.out.2.2.1.same HY.out.1).same (HF.out _))).mono ?_; rintro e w' ⟨rfl, hb⟩; exact ⟨rfl, HNX.out _ _ hb⟩) | (go_at_call 71; refine (RefOr_any _ _ _).mono ?_; rintro e w' ⟨rfl, rfl⟩; exact ⟨rfl, HNX.out _ _ (Below.refl _ _)⟩))); clear hK K)))))
  all_goals (refine wpQuiet_nil ?_; rintro _ ⟨x, rfl⟩)
  replace HY := Lib.hid (HY.out.next (HF.out x))
  clear d0 d1 d2 d3 d4 d5 d6 d7 d8 d9 d10 d11 d12 d13 d14 d15 d16 d17 d18 HF HNX hst
  generalize F x = W2 at *
  go_wp2_with fail
  go_ret
  exact ⟨ret_int (by first | exact HR.out.symm | (rw [HR.out]; first | done | rfl | simp [orE, nest])), HY.out.1⟩
set_option maxHeartbeats 4000000 in
set_option maxRecDepth 100000 in
theorem wkOne1b (h : StH) (b e ar : StL) (s : Sl) (hi : I64 i) (hp : p.At w aoD aoT) (hin : StIn w h b e s) (har : ar.len ≤ maxLen) (hat : ar.At w w.heap.size aoA 0) (hh : Holds w (wkF bc p aoD aoT capD capT i aoA ar.len capA aoS lenS capS aoE lenE capE)) (hop : h.op = 1) (op0 n0 : Int) (nm0 : ByteArray) (kids0 rest0 : ExL) (hix : h.idx = .cons op0 n0 nm0 kids0 rest0) :
    Calls Tryd.prog 58 #[.pointer (some ⟨bc, 0, none⟩), stV h b e s] w fun e' w' => e' = .returned (.int .i64 (orE (wantE (conv (mean p i h.nm)) 2 2) (orE (exE p i op0 n0 nm0 kids0) (exE p i h.xop h.xn h.xnm h.xkids)))) ∧ Below w.heap.size w w' := by
  generalize hres : (orE (wantE (conv (mean p i h.nm)) 2 2) (orE (exE p i op0 n0 nm0 kids0) (exE p i h.xop h.xn h.xnm h.xkids))) = res
  have HR : Hid (res = (orE (wantE (conv (mean p i h.nm)) 2 2) (orE (exE p i op0 n0 nm0 kids0) (exE p i h.xop h.xn h.xnm h.xkids)))) := Lib.hid (by rw [← hres])
  have HOP := Lib.hid hop
  clear hres hop
  obtain ⟨⟨b0, off0, ao0, cap0, hao, hbB, x0, x1, x2, x3, hok0, hk0⟩, -⟩ := (hix ▸ hin.2.1 : (ExL.cons op0 n0 nm0 kids0 rest0).At w w.heap.size s.aoi 0)
  have HO0 := Lib.hid (And.intro hok0 hk0)
  have HXC := Lib.hid (And.intro hbB (And.intro x0 (And.intro x1 (And.intro x2 x3))))
  have HAO := Lib.hid hao
  have HIX := Lib.hid hix
  clear hok0 hk0 hbB x0 x1 x2 x3 hao hix
  have HH := Lib.hid (show Sit w w _ from ⟨Below.refl _ _, hh⟩)
  have HSI := Lib.hid hin
  have HAR := Lib.hid hat
  have HAL := Lib.hid har
  have HP := Lib.hid hp
  unfold stV
  clear hh hin hat har hp
  go_enter Tryd.func58, Tryd.ntmps58
  go_upto_region 1 with fail
  generalize hW : World.alloc w _ = W
  generalize Value.agg #[_, _, _, _, _, _, _, _, _, _, _] = a0
  have HX : Hid (Sit w W (stF w.heap.size h b e s (wkF bc p aoD aoT capD capT i aoA ar.len capA aoS lenS capS aoE lenE capE))) := Lib.hid (by rw [← hW]; exact HH.out.box11 rfl _ _ _ _ _ _ _ _ _ _ _ _)
  clear hW HH
  have K0 : ∀ w', Below W.heap.size W w' → w'.cell? ⟨bc, 0, none⟩ = some (.slice aoD p.ds.length capD) := fun w' hb => (HX.out.next hb).2.2.2.2.2.2.2.2.2.2.2.2.1.2
  have K1 : ∀ w', Below W.heap.size W w' → w'.cell? ⟨bc, 1, none⟩ = some (.slice aoT p.ts.length capT) := fun w' hb => (HX.out.next hb).2.2.2.2.2.2.2.2.2.2.2.2.2.1.2
  have K2 : ∀ w', Below W.heap.size W w' → w'.cell? ⟨bc, 2, none⟩ = some (.int .i64 i) := fun w' hb => (HX.out.next hb).2.2.2.2.2.2.2.2.2.2.2.2.2.2.1.2
  have HD1 : Below W.heap.size W (W.drewN 1) := below_drewN (Below.refl _ _) 1
  refine wpAny_start (by kernel_rfl) rfl ?_
  generalize W.drewN 1 = W1 at *
  refine wpAny_phase 0 11 [8, 9] [[], [0], [0, 1], [0, 1, 2], [], [4], [4, 5], [4, 5, 6], [], [0, 1, 2, 3, 8], [0, 1, 2, 3, 4, 5, 6, 7, 8, 9]] [[none, some false], [none, some false], [none, some false], [none, some false], [none, none], [none, none], [none, none], [none, none], [some false, some false], [some true, some false], [some true, some true]] (AC W1 (.cells #[.slice none 0 0, .slice none 0 0] 29) (.cells #[.slice aoD p.ds.length capD, .slice aoT p.ts.length capT] 29)) (fun _ _ => True) [15, 16, 17, 18, 19, 20, 21, 22, 5, 6] rfl rfl (by rfl) (by kernel_rfl) (by kernel_rfl) (by kernel_rfl) (by kernel_rfl) (by kernel_rfl) (by rfl) (fun _ => trivial) (by rfl) rfl ?_
  simp only [List.take_succ_cons, List.take_zero, List.drop_zero, List.drop_succ_cons, dumE, List.map_cons, List.map_nil]
  apply ObP.step
  case hobl =>
    intro c A w' hok hC hO hD
    have e0 := hO 0 (by rfl)
    simp [Act.eval] at e0
    simp [depsL, IsV, slotv, Act.eval, Region.binds] at hD
    simp [go_sem, gd, Oper.wp, hD, e0]
    exact WPost.mk trivial (AC.skip (by rfl) (by rfl) hC) (IsV.mk _ _)
  apply ObP.step
  case hobl =>
    intro c A w' hok hC hO hD
    simp [depsL, IsV, slotv, Act.eval, Region.binds] at hD
    simp [go_sem, gd, Oper.wp, hD]
    exact WPost.mk trivial (AC.skip (by rfl) (by rfl) hC) (IsV.mk _ _)
  apply ObP.step
  case hobl =>
    intro c A w' hok hC hO hD
    simp [depsL, IsV, slotv, Act.eval, Region.binds] at hD
    simp [go_sem, gd, Oper.wp, hD]
    exact WPost.mk trivial (AC.skip (by rfl) (by rfl) hC) (IsV.mk _ _)
  apply ObP.step
  case hobl =>
    intro c A w' hok hC hO hD
    simp [depsL, IsV, slotv, Act.eval, Region.binds] at hD
    simp [go_sem, gd, Oper.wp, hD, K0, K1, AC.below HD1 hC]
    exact WPost.mk trivial (AC.skip (by rfl) (by rfl) hC) (IsV.mk _ _)
  apply ObP.step
  case hobl =>
    intro c A w' hok hC hO hD
    have e0 := hO 0 (by rfl)
    simp [Act.eval] at e0
    simp [depsL, IsV, slotv, Act.eval, Region.binds] at hD
    simp [go_sem, gd, Oper.wp, hD, e0]
    exact WPost.mk trivial (AC.skip (by rfl) (by rfl) hC) (IsV.mk _ _)
  simp only [List.nil_append, List.cons_append]
  apply ObP.step
  case hobl =>
    intro c A w' hok hC hO hD
    simp [depsL, IsV, slotv, Act.eval, Region.binds] at hD
    simp [go_sem, gd, Oper.wp, hD]
    exact WPost.mk trivial (AC.skip (by rfl) (by rfl) hC) (IsV.mk _ _)
  apply ObP.step
  case hobl =>
    intro c A w' hok hC hO hD
    simp [depsL, IsV, slotv, Act.eval, Region.binds] at hD
    simp [go_sem, gd, Oper.wp, hD]
    exact WPost.mk trivial (AC.skip (by rfl) (by rfl) hC) (IsV.mk _ _)
  apply ObP.step
  case hobl =>
    intro c A w' hok hC hO hD
    simp [depsL, IsV, slotv, Act.eval, Region.binds] at hD
    simp [go_sem, gd, Oper.wp, hD, K2, AC.below HD1 hC]
    exact WPost.mk trivial (AC.skip (by rfl) (by rfl) hC) (IsV.mk _ _)
  simp only [List.nil_append, List.cons_append]
  apply ObP.step
  case hobl =>
    intro c A w' hok hC hO hD
    obtain ⟨x, y, rfl⟩ := hC.bits
    obtain ⟨rfl, rfl, -⟩ := hok
    have hw : w' = W1 := hC
    subst hw
    simp [go_sem, gd, Oper.wp]
    exact WPost.mk trivial (AC.lay (by rfl) (by rfl)) (IsV.mk _ _)
  refine ObP.some (fun _ _ => True) (fun _ _ _ _ _ => trivial) ?_ ?_
  · intro c A w' hok hC hO hD
    obtain ⟨x, y, rfl⟩ := hC.bits
    obtain ⟨rfl, rfl, -⟩ := hok
    have hw : w' = W1.alloc _ := hC
    subst hw
    simp [depsL, IsV, slotv, Act.eval, Region.binds] at hD
    simp [go_sem, gd, Oper.wp, hD]
    exact WPost.mk0 (v := undef) trivial (AC.fill (by rfl) (by rfl)) trivial
  simp only [List.nil_append, List.cons_append]
  apply ObP.step
  case hobl =>
    intro c A w' hok hC hO hD
    simp [depsL, IsV, slotv, Act.eval, Region.binds] at hD
    simp [go_sem, gd, Oper.wp, hD]
    exact WPost.mk trivial (AC.skip (by rfl) (by rfl) hC) (IsV.mk _ _)
  simp only [List.nil_append, List.cons_append]
  refine ObP.done ?_
  intro wz hCz
  simp only [List.drop_zero]
  intro v0 h0 v1 h1 v2 h2 v3 h3 v4 h4 v5 h5 v6 h6 v7 h7 v8 h8 v9 h9 v10 h10
  have h8' : v8 = _ := h8
  have h10' : v10 = _ := h10
  subst h8' h10'
  clear h0 h1 h2 h3 h4 h5 h6 h7 h8 h9 h10
  refine AllVals.nil ?_
  refine wpAny_end rfl ?_
  have hCz' : wz = W1.alloc _ := hCz
  generalize hn1 : W1.heap.size = n1 at *
  have HY := Lib.hid ((HX.out.next HD1).box2 hn1 (.slice aoD p.ds.length capD) (.slice aoT p.ts.length capT) 29)
  rw [← hCz'] at HY
  clear hCz hCz' HX K0 K1 K2 HD1 hn1
  go_simp
  obtain ⟨-, ⟨-, c0⟩, ⟨-, c1⟩, ⟨-, c2⟩, ⟨-, c3⟩, ⟨-, c4⟩, ⟨-, c5⟩, ⟨-, c6⟩, ⟨-, c7⟩, ⟨-, c8⟩, ⟨-, c9⟩, ⟨-, c10⟩, ⟨-, c11⟩, ⟨-, c12⟩, ⟨-, c13⟩, ⟨-, c14⟩, ⟨-, c15⟩, ⟨-, c16⟩, ⟨-, c17⟩, ⟨-, c18⟩, -⟩ := HY.out
  go_wp2_with fail
  refine (wkInside_any p _ aoD aoT capD capT i aoA capA bc aoS lenS capS aoE lenE capE ar 7 7 ⟨#[]⟩ HAL.out (HAR.out.same HY.out.1) (wkHolds HY.out)).mono ?_
  rintro e' W ⟨rfl, hb⟩
  replace HY := Lib.hid (HY.out.next hb)
  clear hb c0 c1 c2 c3 c4 c5 c6 c7 c8 c9 c10 c11 c12 c13 c14 c15 c16 c17 c18
  obtain ⟨-, ⟨-, c0⟩, ⟨-, c1⟩, ⟨-, c2⟩, ⟨-, c3⟩, ⟨-, c4⟩, ⟨-, c5⟩, ⟨-, c6⟩, ⟨-, c7⟩, ⟨-, c8⟩, ⟨-, c9⟩, ⟨-, c10⟩, ⟨-, c11⟩, ⟨-, c12⟩, ⟨-, c13⟩, ⟨-, c14⟩, ⟨-, c15⟩, ⟨-, c16⟩, ⟨-, c17⟩, ⟨-, c18⟩, -⟩ := HY.out
  go_wp2_with fail
  refine (wkInside_any p _ aoD aoT capD capT i aoA capA bc aoS lenS capS aoE lenE capE ar 8 8 ⟨#[]⟩ HAL.out (HAR.out.same HY.out.1) (wkHolds HY.out)).mono ?_
  rintro e' W ⟨rfl, hb⟩
  replace HY := Lib.hid (HY.out.next hb)
  clear hb c0 c1 c2 c3 c4 c5 c6 c7 c8 c9 c10 c11 c12 c13 c14 c15 c16 c17 c18
  obtain ⟨-, ⟨-, c0⟩, ⟨-, c1⟩, ⟨-, c2⟩, ⟨-, c3⟩, ⟨-, c4⟩, ⟨-, c5⟩, ⟨-, c6⟩, ⟨-, c7⟩, ⟨-, c8⟩, ⟨-, c9⟩, ⟨-, c10⟩, ⟨-, c11⟩, ⟨-, c12⟩, ⟨-, c13⟩, ⟨-, c14⟩, ⟨-, c15⟩, ⟨-, c16⟩, ⟨-, c17⟩, ⟨-, c18⟩, -⟩ := HY.out
  go_wp2_with fail
  refine (wkInside_any p _ aoD aoT capD capT i aoA capA bc aoS lenS capS aoE lenE capE ar 3 3 ⟨#[]⟩ HAL.out (HAR.out.same HY.out.1) (wkHolds HY.out)).mono ?_
  rintro e' W ⟨rfl, hb⟩
  replace HY := Lib.hid (HY.out.next hb)
  clear hb c0 c1 c2 c3 c4 c5 c6 c7 c8 c9 c10 c11 c12 c13 c14 c15 c16 c17 c18
  obtain ⟨-, ⟨-, c0⟩, ⟨-, c1⟩, ⟨-, c2⟩, ⟨-, c3⟩, ⟨-, c4⟩, ⟨-, c5⟩, ⟨-, c6⟩, ⟨-, c7⟩, ⟨-, c8⟩, ⟨-, c9⟩, ⟨-, c10⟩, ⟨-, c11⟩, ⟨-, c12⟩, ⟨-, c13⟩, ⟨-, c14⟩, ⟨-, c15⟩, ⟨-, c16⟩, ⟨-, c17⟩, ⟨-, c18⟩, -⟩ := HY.out
  generalize htx : insR ar 7 7 ⟨#[]⟩ = tx at *
  generalize hat' : insR ar 8 8 ⟨#[]⟩ = atm at *
  generalize hlo : insR ar 3 3 ⟨#[]⟩ = lop at *
  clear htx hat' hlo
  have hop := HOP.out
  have g1 : (h.op == 1) = true := by rw [hop]; rfl
  have g2 : (h.op == 2) = false := by rw [hop]; rfl
  have g3 : (h.op == 3) = false := by rw [hop]; rfl
  have g4 : (h.op == 4) = false := by rw [hop]; rfl
  have g5 : (h.op == 5) = false := by rw [hop]; rfl
  have g6 : (h.op == 6) = false := by rw [hop]; rfl
  have g7 : (h.op == 7) = false := by rw [hop]; rfl
  have g8 : (h.op == 8) = false := by rw [hop]; rfl
  have g9 : (h.op == 9) = false := by rw [hop]; rfl
  have g10 : (h.op == 10) = false := by rw [hop]; rfl
  have g11 : (h.op == 11) = false := by rw [hop]; rfl
  have g12 : (h.op == 12) = false := by rw [hop]; rfl
  have g13 : (h.op == 13) = false := by rw [hop]; rfl
  have g14 : (h.op == 14) = false := by rw [hop]; rfl
  have g15 : (h.op == 15) = false := by rw [hop]; rfl
  clear hop
  rw [HIX.out, HAO.out] at c6
  simp only [ExL.len] at c6
  go_upto_region 9 with fail
  obtain ⟨T, F, hinh, hst, hF, hnext⟩ := calm W
  have HF := Lib.hid hF
  have HNX := Lib.hid hnext
  clear hnext hF
  have d0 := fun x => (HY.out.next (HF.out x)).2.1.2
  have d1 := fun x => (HY.out.next (HF.out x)).2.2.1.2
  have d2 := fun x => (HY.out.next (HF.out x)).2.2.2.1.2
  have d3 := fun x => (HY.out.next (HF.out x)).2.2.2.2.1.2
  have d4 := fun x => (HY.out.next (HF.out x)).2.2.2.2.2.1.2
  have d5 := fun x => (HY.out.next (HF.out x)).2.2.2.2.2.2.1.2
  have d6 := fun x => (HY.out.next (HF.out x)).2.2.2.2.2.2.2.1.2
  have d7 := fun x => (HY.out.next (HF.out x)).2.2.2.2.2.2.2.2.1.2
  have d8 := fun x => (HY.out.next (HF.out x)).2.2.2.2.2.2.2.2.2.1.2
  have d9 := fun x => (HY.out.next (HF.out x)).2.2.2.2.2.2.2.2.2.2.1.2
  have d10 := fun x => (HY.out.next (HF.out x)).2.2.2.2.2.2.2.2.2.2.2.1.2
  have d11 := fun x => (HY.out.next (HF.out x)).2.2.2.2.2.2.2.2.2.2.2.2.1.2
  have d12 := fun x => (HY.out.next (HF.out x)).2.2.2.2.2.2.2.2.2.2.2.2.2.1.2
  have d13 := fun x => (HY.out.next (HF.out x)).2.2.2.2.2.2.2.2.2.2.2.2.2.2.1.2
  have d14 := fun x => (HY.out.next (HF.out x)).2.2.2.2.2.2.2.2.2.2.2.2.2.2.2.1.2
  have d15 := fun x => (HY.out.next (HF.out x)).2.2.2.2.2.2.2.2.2.2.2.2.2.2.2.2.1.2
  have d16 := fun x => (HY.out.next (HF.out x)).2.2.2.2.2.2.2.2.2.2.2.2.2.2.2.2.2.1.2
  have d17 := fun x => (HY.out.next (HF.out x)).2.2.2.2.2.2.2.2.2.2.2.2.2.2.2.2.2.2.1.2
  have d18 := fun x => (HY.out.next (HF.out x)).2.2.2.2.2.2.2.2.2.2.2.2.2.2.2.2.2.2.2.1.2
  clear c0 c1 c2 c3 c4 c5 c6 c7 c8 c9 c10 c11 c12 c13 c14 c15 c16 c17 c18
  have y0 := fun x => (((HY.out.1.trans ((HF.out x).mono HY.out.1.size)).cell (p := ⟨b0, off0 + 0 * 4, none⟩) HXC.out.1)).trans HXC.out.2.1
  have y1 := fun x => (((HY.out.1.trans ((HF.out x).mono HY.out.1.size)).cell (p := ⟨b0, off0 + 0 * 4 + 1, none⟩) HXC.out.1)).trans HXC.out.2.2.1
  have y2 := fun x => (((HY.out.1.trans ((HF.out x).mono HY.out.1.size)).cell (p := ⟨b0, off0 + 0 * 4 + 2, none⟩) HXC.out.1)).trans HXC.out.2.2.2.1
  have y3 := fun x => (((HY.out.1.trans ((HF.out x).mono HY.out.1.size)).cell (p := ⟨b0, off0 + 0 * 4 + 3, none⟩) HXC.out.1)).trans HXC.out.2.2.2.2
  simp only [Nat.zero_mul, Nat.add_zero] at y0 y1 y2 y3
  simp only [HIX.out, HAO.out, ExL.len] at d6
  have hz0 : (0 : Int) < (rest0.len : Int) + 1 := by omega
  have hz1 : (0 : Int) < ((rest0.len + 1 : Nat) : Int) := by omega
  refine region_calm F (by kernel_rfl) (by kernel_rfl) hst ?_
  repeat (any_goals (first | go_big_quiet_step ((first | (go_at_call 47; refine (want_any p i h.nm 2 2 _ aoD aoT capD capT hi ((HP.out.same HY.out.1).same (HF.out _))).mono ?_; rintro e w' ⟨rfl, hb⟩; exact ⟨rfl, HNX.out _ _ hb⟩) | (go_at_call_of 10 (Value.agg #[.int .i64 op0, .int .i64 n0, .string nm0, .slice ao0 kids0.len cap0]); refine (RefExpr_any p i op0 n0 nm0 kids0 _ aoD aoT ao0 capD capT cap0 hi ((HP.out.same HY.out.1).same (HF.out _)) HO0.out.1 ((HO0.out.2.same HY.out.1).same (HF.out _))).mono ?_; rintro e w' ⟨rfl, hb⟩; exact ⟨rfl, HNX.out _ _ hb⟩) | (go_at_call_of 10 (Value.agg #[.int .i64 h.xop, .int .i64 h.xn, .string h.xnm, .slice s.aox h.xkids.len s.capx]); refine (RefExpr_any p i h.xop h.xn h.xnm h.xkids _ aoD aoT s.aox capD capT s.capx hi ((HP.out.same HY.out.1).same (HF.out _)) HSI.out.1.2.2.2.2.2.1 ((HSI.out.2.2.1.same HY.out.1).same (HF.out _))).mono ?_; rintro e w' ⟨rfl, hb⟩; exact ⟨rfl, HNX.out _ _ hb⟩) | (go_at_call 71; refine (RefOr_any _ _ _).mono ?_; rintro e w' ⟨rfl, rfl⟩; exact ⟨rfl, HNX.out _ _ (Below.refl _ _)⟩))) | (refine wpQuiet_step (fun K hK => ?_); go_simp; first | (refine hK _ ?_; clear hK K) | (split <;> first | (refine hK _ ?_; clear hK K) | (apply Exists.intro; refine ⟨fun _ => ?_, hK _ ?_⟩; ((first | (go_at_call 47; refine (want_any p i h.nm 2 2 _ aoD aoT capD capT hi ((HP.out.same HY.out.1).same (HF.out _))).mono ?_; rintro e w' ⟨rfl, hb⟩; exact ⟨rfl, HNX.out _ _ hb⟩) | (go_at_call_of 10 (Value.agg #[.int .i64 op0, .int .i64 n0, .string nm0, .slice ao0 kids0.len cap0]); refine (RefExpr_any p i op0 n0 nm0 kids0 _ aoD aoT ao0 capD capT cap0 hi ((HP.out.same HY.out.1).same (HF.out _)) HO0.out.1 ((HO0.out.2.same HY.out.1).same (HF.out _))).mono ?_; rintro e w' ⟨rfl, hb⟩; exact ⟨rfl, HNX.out _ _ hb⟩) | (go_at_call_of 10 (Value.agg #[.int .i64 h.xop, .int .i64 h.xn, .string h.xnm, .slice s.aox h.xkids.len s.capx]); refine (RefExpr_any p i h.xop h.xn h.xnm h.xkids _ aoD aoT s.aox capD capT s.capx hi ((HP.out.same HY.out.1).same (HF.out _)) HSI.out.1.2.2.2.2.2.1 ((HSI.out.2.2.1.same HY.out.1).same (HF.out _))).mono ?_; rintro e w' ⟨rfl, hb⟩; exact ⟨rfl, HNX.out _ _ hb⟩) | (go_at_call 71; refine (RefOr_any _ _ _).mono ?_; rintro e w' ⟨rfl, rfl⟩; exact ⟨rfl, HNX.out _ _ (Below.refl _ _)⟩))); clear hK K)))))
  all_goals (refine wpQuiet_nil ?_; rintro _ ⟨x, rfl⟩)
  replace HY := Lib.hid (HY.out.next (HF.out x))
  clear d0 d1 d2 d3 d4 d5 d6 d7 d8 d9 d10 d11 d12 d13 d14 d15 d16 d17 d18 y0 y1 y2 y3 HF HNX hst
  generalize F x = W2 at *
  go_wp2_with fail
  go_ret
  exact ⟨ret_int (by first | exact HR.out.symm | (rw [HR.out]; first | done | rfl | simp [orE, nest])), HY.out.1⟩
set_option maxHeartbeats 4000000 in
set_option maxRecDepth 100000 in
theorem wkOne15 (h : StH) (b e ar : StL) (s : Sl) (hi : I64 i) (hp : p.At w aoD aoT) (hin : StIn w h b e s) (har : ar.len ≤ maxLen) (hat : ar.At w w.heap.size aoA 0) (hh : Holds w (wkF bc p aoD aoT capD capT i aoA ar.len capA aoS lenS capS aoE lenE capE)) (hop : h.op = 15) :
    Calls Tryd.prog 58 #[.pointer (some ⟨bc, 0, none⟩), stV h b e s] w fun e' w' => e' = .returned (.int .i64 (orE (wantE (conv (mean p i h.nm)) 8 8) (orE (wantE (conv (mean p i h.arg)) 6 6) (nest (insR ar 7 7 ⟨#[]⟩))))) ∧ Below w.heap.size w w' := by
  generalize hres : (orE (wantE (conv (mean p i h.nm)) 8 8) (orE (wantE (conv (mean p i h.arg)) 6 6) (nest (insR ar 7 7 ⟨#[]⟩)))) = res
  have HR : Hid (res = (orE (wantE (conv (mean p i h.nm)) 8 8) (orE (wantE (conv (mean p i h.arg)) 6 6) (nest (insR ar 7 7 ⟨#[]⟩))))) := Lib.hid (by rw [← hres])
  have HOP := Lib.hid hop
  clear hres hop
  have HH := Lib.hid (show Sit w w _ from ⟨Below.refl _ _, hh⟩)
  have HSI := Lib.hid hin
  have HAR := Lib.hid hat
  have HAL := Lib.hid har
  have HP := Lib.hid hp
  unfold stV
  clear hh hin hat har hp
  go_enter Tryd.func58, Tryd.ntmps58
  go_upto_region 1 with fail
  generalize hW : World.alloc w _ = W
  generalize Value.agg #[_, _, _, _, _, _, _, _, _, _, _] = a0
  have HX : Hid (Sit w W (stF w.heap.size h b e s (wkF bc p aoD aoT capD capT i aoA ar.len capA aoS lenS capS aoE lenE capE))) := Lib.hid (by rw [← hW]; exact HH.out.box11 rfl _ _ _ _ _ _ _ _ _ _ _ _)
  clear hW HH
  have K0 : ∀ w', Below W.heap.size W w' → w'.cell? ⟨bc, 0, none⟩ = some (.slice aoD p.ds.length capD) := fun w' hb => (HX.out.next hb).2.2.2.2.2.2.2.2.2.2.2.2.1.2
  have K1 : ∀ w', Below W.heap.size W w' → w'.cell? ⟨bc, 1, none⟩ = some (.slice aoT p.ts.length capT) := fun w' hb => (HX.out.next hb).2.2.2.2.2.2.2.2.2.2.2.2.2.1.2
  have K2 : ∀ w', Below W.heap.size W w' → w'.cell? ⟨bc, 2, none⟩ = some (.int .i64 i) := fun w' hb => (HX.out.next hb).2.2.2.2.2.2.2.2.2.2.2.2.2.2.1.2
  have HD1 : Below W.heap.size W (W.drewN 1) := below_drewN (Below.refl _ _) 1
  refine wpAny_start (by kernel_rfl) rfl ?_
  generalize W.drewN 1 = W1 at *
  refine wpAny_phase 0 11 [8, 9] [[], [0], [0, 1], [0, 1, 2], [], [4], [4, 5], [4, 5, 6], [], [0, 1, 2, 3, 8], [0, 1, 2, 3, 4, 5, 6, 7, 8, 9]] [[none, some false], [none, some false], [none, some false], [none, some false], [none, none], [none, none], [none, none], [none, none], [some false, some false], [some true, some false], [some true, some true]] (AC W1 (.cells #[.slice none 0 0, .slice none 0 0] 29) (.cells #[.slice aoD p.ds.length capD, .slice aoT p.ts.length capT] 29)) (fun _ _ => True) [15, 16, 17, 18, 19, 20, 21, 22, 5, 6] rfl rfl (by rfl) (by kernel_rfl) (by kernel_rfl) (by kernel_rfl) (by kernel_rfl) (by kernel_rfl) (by rfl) (fun _ => trivial) (by rfl) rfl ?_
  simp only [List.take_succ_cons, List.take_zero, List.drop_zero, List.drop_succ_cons, dumE, List.map_cons, List.map_nil]
  apply ObP.step
  case hobl =>
    intro c A w' hok hC hO hD
    have e0 := hO 0 (by rfl)
    simp [Act.eval] at e0
    simp [depsL, IsV, slotv, Act.eval, Region.binds] at hD
    simp [go_sem, gd, Oper.wp, hD, e0]
    exact WPost.mk trivial (AC.skip (by rfl) (by rfl) hC) (IsV.mk _ _)
  apply ObP.step
  case hobl =>
    intro c A w' hok hC hO hD
    simp [depsL, IsV, slotv, Act.eval, Region.binds] at hD
    simp [go_sem, gd, Oper.wp, hD]
    exact WPost.mk trivial (AC.skip (by rfl) (by rfl) hC) (IsV.mk _ _)
  apply ObP.step
  case hobl =>
    intro c A w' hok hC hO hD
    simp [depsL, IsV, slotv, Act.eval, Region.binds] at hD
    simp [go_sem, gd, Oper.wp, hD]
    exact WPost.mk trivial (AC.skip (by rfl) (by rfl) hC) (IsV.mk _ _)
  apply ObP.step
  case hobl =>
    intro c A w' hok hC hO hD
    simp [depsL, IsV, slotv, Act.eval, Region.binds] at hD
    simp [go_sem, gd, Oper.wp, hD, K0, K1, AC.below HD1 hC]
    exact WPost.mk trivial (AC.skip (by rfl) (by rfl) hC) (IsV.mk _ _)
  apply ObP.step
  case hobl =>
    intro c A w' hok hC hO hD
    have e0 := hO 0 (by rfl)
    simp [Act.eval] at e0
    simp [depsL, IsV, slotv, Act.eval, Region.binds] at hD
    simp [go_sem, gd, Oper.wp, hD, e0]
    exact WPost.mk trivial (AC.skip (by rfl) (by rfl) hC) (IsV.mk _ _)
  simp only [List.nil_append, List.cons_append]
  apply ObP.step
  case hobl =>
    intro c A w' hok hC hO hD
    simp [depsL, IsV, slotv, Act.eval, Region.binds] at hD
    simp [go_sem, gd, Oper.wp, hD]
    exact WPost.mk trivial (AC.skip (by rfl) (by rfl) hC) (IsV.mk _ _)
  apply ObP.step
  case hobl =>
    intro c A w' hok hC hO hD
    simp [depsL, IsV, slotv, Act.eval, Region.binds] at hD
    simp [go_sem, gd, Oper.wp, hD]
    exact WPost.mk trivial (AC.skip (by rfl) (by rfl) hC) (IsV.mk _ _)
  apply ObP.step
  case hobl =>
    intro c A w' hok hC hO hD
    simp [depsL, IsV, slotv, Act.eval, Region.binds] at hD
    simp [go_sem, gd, Oper.wp, hD, K2, AC.below HD1 hC]
    exact WPost.mk trivial (AC.skip (by rfl) (by rfl) hC) (IsV.mk _ _)
  simp only [List.nil_append, List.cons_append]
  apply ObP.step
  case hobl =>
    intro c A w' hok hC hO hD
    obtain ⟨x, y, rfl⟩ := hC.bits
    obtain ⟨rfl, rfl, -⟩ := hok
    have hw : w' = W1 := hC
    subst hw
    simp [go_sem, gd, Oper.wp]
    exact WPost.mk trivial (AC.lay (by rfl) (by rfl)) (IsV.mk _ _)
  refine ObP.some (fun _ _ => True) (fun _ _ _ _ _ => trivial) ?_ ?_
  · intro c A w' hok hC hO hD
    obtain ⟨x, y, rfl⟩ := hC.bits
    obtain ⟨rfl, rfl, -⟩ := hok
    have hw : w' = W1.alloc _ := hC
    subst hw
    simp [depsL, IsV, slotv, Act.eval, Region.binds] at hD
    simp [go_sem, gd, Oper.wp, hD]
    exact WPost.mk0 (v := undef) trivial (AC.fill (by rfl) (by rfl)) trivial
  simp only [List.nil_append, List.cons_append]
  apply ObP.step
  case hobl =>
    intro c A w' hok hC hO hD
    simp [depsL, IsV, slotv, Act.eval, Region.binds] at hD
    simp [go_sem, gd, Oper.wp, hD]
    exact WPost.mk trivial (AC.skip (by rfl) (by rfl) hC) (IsV.mk _ _)
  simp only [List.nil_append, List.cons_append]
  refine ObP.done ?_
  intro wz hCz
  simp only [List.drop_zero]
  intro v0 h0 v1 h1 v2 h2 v3 h3 v4 h4 v5 h5 v6 h6 v7 h7 v8 h8 v9 h9 v10 h10
  have h8' : v8 = _ := h8
  have h10' : v10 = _ := h10
  subst h8' h10'
  clear h0 h1 h2 h3 h4 h5 h6 h7 h8 h9 h10
  refine AllVals.nil ?_
  refine wpAny_end rfl ?_
  have hCz' : wz = W1.alloc _ := hCz
  generalize hn1 : W1.heap.size = n1 at *
  have HY := Lib.hid ((HX.out.next HD1).box2 hn1 (.slice aoD p.ds.length capD) (.slice aoT p.ts.length capT) 29)
  rw [← hCz'] at HY
  clear hCz hCz' HX K0 K1 K2 HD1 hn1
  go_simp
  obtain ⟨-, ⟨-, c0⟩, ⟨-, c1⟩, ⟨-, c2⟩, ⟨-, c3⟩, ⟨-, c4⟩, ⟨-, c5⟩, ⟨-, c6⟩, ⟨-, c7⟩, ⟨-, c8⟩, ⟨-, c9⟩, ⟨-, c10⟩, ⟨-, c11⟩, ⟨-, c12⟩, ⟨-, c13⟩, ⟨-, c14⟩, ⟨-, c15⟩, ⟨-, c16⟩, ⟨-, c17⟩, ⟨-, c18⟩, -⟩ := HY.out
  go_wp2_with fail
  refine (wkInside_any p _ aoD aoT capD capT i aoA capA bc aoS lenS capS aoE lenE capE ar 7 7 ⟨#[]⟩ HAL.out (HAR.out.same HY.out.1) (wkHolds HY.out)).mono ?_
  rintro e' W ⟨rfl, hb⟩
  replace HY := Lib.hid (HY.out.next hb)
  clear hb c0 c1 c2 c3 c4 c5 c6 c7 c8 c9 c10 c11 c12 c13 c14 c15 c16 c17 c18
  obtain ⟨-, ⟨-, c0⟩, ⟨-, c1⟩, ⟨-, c2⟩, ⟨-, c3⟩, ⟨-, c4⟩, ⟨-, c5⟩, ⟨-, c6⟩, ⟨-, c7⟩, ⟨-, c8⟩, ⟨-, c9⟩, ⟨-, c10⟩, ⟨-, c11⟩, ⟨-, c12⟩, ⟨-, c13⟩, ⟨-, c14⟩, ⟨-, c15⟩, ⟨-, c16⟩, ⟨-, c17⟩, ⟨-, c18⟩, -⟩ := HY.out
  go_wp2_with fail
  refine (wkInside_any p _ aoD aoT capD capT i aoA capA bc aoS lenS capS aoE lenE capE ar 8 8 ⟨#[]⟩ HAL.out (HAR.out.same HY.out.1) (wkHolds HY.out)).mono ?_
  rintro e' W ⟨rfl, hb⟩
  replace HY := Lib.hid (HY.out.next hb)
  clear hb c0 c1 c2 c3 c4 c5 c6 c7 c8 c9 c10 c11 c12 c13 c14 c15 c16 c17 c18
  obtain ⟨-, ⟨-, c0⟩, ⟨-, c1⟩, ⟨-, c2⟩, ⟨-, c3⟩, ⟨-, c4⟩, ⟨-, c5⟩, ⟨-, c6⟩, ⟨-, c7⟩, ⟨-, c8⟩, ⟨-, c9⟩, ⟨-, c10⟩, ⟨-, c11⟩, ⟨-, c12⟩, ⟨-, c13⟩, ⟨-, c14⟩, ⟨-, c15⟩, ⟨-, c16⟩, ⟨-, c17⟩, ⟨-, c18⟩, -⟩ := HY.out
  go_wp2_with fail
  refine (wkInside_any p _ aoD aoT capD capT i aoA capA bc aoS lenS capS aoE lenE capE ar 3 3 ⟨#[]⟩ HAL.out (HAR.out.same HY.out.1) (wkHolds HY.out)).mono ?_
  rintro e' W ⟨rfl, hb⟩
  replace HY := Lib.hid (HY.out.next hb)
  clear hb c0 c1 c2 c3 c4 c5 c6 c7 c8 c9 c10 c11 c12 c13 c14 c15 c16 c17 c18
  obtain ⟨-, ⟨-, c0⟩, ⟨-, c1⟩, ⟨-, c2⟩, ⟨-, c3⟩, ⟨-, c4⟩, ⟨-, c5⟩, ⟨-, c6⟩, ⟨-, c7⟩, ⟨-, c8⟩, ⟨-, c9⟩, ⟨-, c10⟩, ⟨-, c11⟩, ⟨-, c12⟩, ⟨-, c13⟩, ⟨-, c14⟩, ⟨-, c15⟩, ⟨-, c16⟩, ⟨-, c17⟩, ⟨-, c18⟩, -⟩ := HY.out
  generalize htx : insR ar 7 7 ⟨#[]⟩ = tx at *
  generalize hat' : insR ar 8 8 ⟨#[]⟩ = atm at *
  generalize hlo : insR ar 3 3 ⟨#[]⟩ = lop at *
  clear htx hat' hlo
  have hop := HOP.out
  have g1 : (h.op == 1) = false := by rw [hop]; rfl
  have g2 : (h.op == 2) = false := by rw [hop]; rfl
  have g3 : (h.op == 3) = false := by rw [hop]; rfl
  have g4 : (h.op == 4) = false := by rw [hop]; rfl
  have g5 : (h.op == 5) = false := by rw [hop]; rfl
  have g6 : (h.op == 6) = false := by rw [hop]; rfl
  have g7 : (h.op == 7) = false := by rw [hop]; rfl
  have g8 : (h.op == 8) = false := by rw [hop]; rfl
  have g9 : (h.op == 9) = false := by rw [hop]; rfl
  have g10 : (h.op == 10) = false := by rw [hop]; rfl
  have g11 : (h.op == 11) = false := by rw [hop]; rfl
  have g12 : (h.op == 12) = false := by rw [hop]; rfl
  have g13 : (h.op == 13) = false := by rw [hop]; rfl
  have g14 : (h.op == 14) = false := by rw [hop]; rfl
  have g15 : (h.op == 15) = true := by rw [hop]; rfl
  clear hop
  go_upto_region 49 with fail
  obtain ⟨T, F, hinh, hst, hF, hnext⟩ := calm W
  have HF := Lib.hid hF
  have HNX := Lib.hid hnext
  clear hnext hF
  have d0 := fun x => (HY.out.next (HF.out x)).2.1.2
  have d1 := fun x => (HY.out.next (HF.out x)).2.2.1.2
  have d2 := fun x => (HY.out.next (HF.out x)).2.2.2.1.2
  have d3 := fun x => (HY.out.next (HF.out x)).2.2.2.2.1.2
  have d4 := fun x => (HY.out.next (HF.out x)).2.2.2.2.2.1.2
  have d5 := fun x => (HY.out.next (HF.out x)).2.2.2.2.2.2.1.2
  have d6 := fun x => (HY.out.next (HF.out x)).2.2.2.2.2.2.2.1.2
  have d7 := fun x => (HY.out.next (HF.out x)).2.2.2.2.2.2.2.2.1.2
  have d8 := fun x => (HY.out.next (HF.out x)).2.2.2.2.2.2.2.2.2.1.2
  have d9 := fun x => (HY.out.next (HF.out x)).2.2.2.2.2.2.2.2.2.2.1.2
  have d10 := fun x => (HY.out.next (HF.out x)).2.2.2.2.2.2.2.2.2.2.2.1.2
  have d11 := fun x => (HY.out.next (HF.out x)).2.2.2.2.2.2.2.2.2.2.2.2.1.2
  have d12 := fun x => (HY.out.next (HF.out x)).2.2.2.2.2.2.2.2.2.2.2.2.2.1.2
  have d13 := fun x => (HY.out.next (HF.out x)).2.2.2.2.2.2.2.2.2.2.2.2.2.2.1.2
  have d14 := fun x => (HY.out.next (HF.out x)).2.2.2.2.2.2.2.2.2.2.2.2.2.2.2.1.2
  have d15 := fun x => (HY.out.next (HF.out x)).2.2.2.2.2.2.2.2.2.2.2.2.2.2.2.2.1.2
  have d16 := fun x => (HY.out.next (HF.out x)).2.2.2.2.2.2.2.2.2.2.2.2.2.2.2.2.2.1.2
  have d17 := fun x => (HY.out.next (HF.out x)).2.2.2.2.2.2.2.2.2.2.2.2.2.2.2.2.2.2.1.2
  have d18 := fun x => (HY.out.next (HF.out x)).2.2.2.2.2.2.2.2.2.2.2.2.2.2.2.2.2.2.2.1.2
  clear c0 c1 c2 c3 c4 c5 c6 c7 c8 c9 c10 c11 c12 c13 c14 c15 c16 c17 c18
  refine region_calm F (by kernel_rfl) (by kernel_rfl) hst ?_
  repeat (any_goals (first | go_big_quiet_step ((first | (go_at_call_of 47 (Value.int .i64 8); refine (want_any p i h.nm 8 8 _ aoD aoT capD capT hi ((HP.out.same HY.out.1).same (HF.out _))).mono ?_; rintro e w' ⟨rfl, hb⟩; exact ⟨rfl, HNX.out _ _ hb⟩) | (go_at_call_of 47 (Value.int .i64 6); refine (want_any p i h.arg 6 6 _ aoD aoT capD capT hi ((HP.out.same HY.out.1).same (HF.out _))).mono ?_; rintro e w' ⟨rfl, hb⟩; exact ⟨rfl, HNX.out _ _ hb⟩) | (go_at_call 71; refine (RefOr_any _ _ _).mono ?_; rintro e w' ⟨rfl, rfl⟩; exact ⟨rfl, HNX.out _ _ (Below.refl _ _)⟩) | (go_at_call 72; refine (RefNesting_any _ _).mono ?_; rintro e w' ⟨rfl, rfl⟩; exact ⟨rfl, HNX.out _ _ (Below.refl _ _)⟩))) | (refine wpQuiet_step (fun K hK => ?_); go_simp; first | (refine hK _ ?_; clear hK K) | (split <;> first | (refine hK _ ?_; clear hK K) | (apply Exists.intro; refine ⟨fun _ => ?_, hK _ ?_⟩; ((first | (go_at_call_of 47 (Value.int .i64 8); refine (want_any p i h.nm 8 8 _ aoD aoT capD capT hi ((HP.out.same HY.out.1).same (HF.out _))).mono ?_; rintro e w' ⟨rfl, hb⟩; exact ⟨rfl, HNX.out _ _ hb⟩) | (go_at_call_of 47 (Value.int .i64 6); refine (want_any p i h.arg 6 6 _ aoD aoT capD capT hi ((HP.out.same HY.out.1).same (HF.out _))).mono ?_; rintro e w' ⟨rfl, hb⟩; exact ⟨rfl, HNX.out _ _ hb⟩) | (go_at_call 71; refine (RefOr_any _ _ _).mono ?_; rintro e w' ⟨rfl, rfl⟩; exact ⟨rfl, HNX.out _ _ (Below.refl _ _)⟩) | (go_at_call 72; refine (RefNesting_any _ _).mono ?_; rintro e w' ⟨rfl, rfl⟩; exact ⟨rfl, HNX.out _ _ (Below.refl _ _)⟩))); clear hK K)))))
  all_goals (refine wpQuiet_nil ?_; rintro _ ⟨x, rfl⟩)
  replace HY := Lib.hid (HY.out.next (HF.out x))
  clear d0 d1 d2 d3 d4 d5 d6 d7 d8 d9 d10 d11 d12 d13 d14 d15 d16 d17 d18 HF HNX hst
  generalize F x = W2 at *
  go_wp2_with fail
  go_ret
  exact ⟨ret_int (by first | exact HR.out.symm | (rw [HR.out]; first | done | rfl | simp [orE, nest])), HY.out.1⟩
set_option maxHeartbeats 4000000 in
set_option maxRecDepth 100000 in
theorem wkOne9 (h : StH) (b e ar : StL) (s : Sl) (hi : I64 i) (hp : p.At w aoD aoT) (hin : StIn w h b e s) (har : ar.len ≤ maxLen) (hat : ar.At w w.heap.size aoA 0) (hh : Holds w (wkF bc p aoD aoT capD capT i aoA ar.len capA aoS lenS capS aoE lenE capE)) (hop : h.op = 9) :
    Calls Tryd.prog 58 #[.pointer (some ⟨bc, 0, none⟩), stV h b e s] w fun e' w' => e' = .returned (.int .i64 (if wantE (conv (mean p i h.nm)) 5 5 != 0 then wantE (conv (mean p i h.nm)) 5 5 else nest ((insR ar 7 7 ⟨#[]⟩ || !insR ar 4 4 (mutexP p.ds h.nm)) || (true && insR ar 8 8 ⟨#[]⟩)))) ∧ Below w.heap.size w w' := by
  generalize hres : (if wantE (conv (mean p i h.nm)) 5 5 != 0 then wantE (conv (mean p i h.nm)) 5 5 else nest ((insR ar 7 7 ⟨#[]⟩ || !insR ar 4 4 (mutexP p.ds h.nm)) || (true && insR ar 8 8 ⟨#[]⟩))) = res
  have HR : Hid (res = (if wantE (conv (mean p i h.nm)) 5 5 != 0 then wantE (conv (mean p i h.nm)) 5 5 else nest ((insR ar 7 7 ⟨#[]⟩ || !insR ar 4 4 (mutexP p.ds h.nm)) || (true && insR ar 8 8 ⟨#[]⟩)))) := Lib.hid (by rw [← hres])
  have HOP := Lib.hid hop
  clear hres hop
  have HH := Lib.hid (show Sit w w _ from ⟨Below.refl _ _, hh⟩)
  have HSI := Lib.hid hin
  have HAR := Lib.hid hat
  have HAL := Lib.hid har
  have HP := Lib.hid hp
  unfold stV
  clear hh hin hat har hp
  go_enter Tryd.func58, Tryd.ntmps58
  go_upto_region 1 with fail
  generalize hW : World.alloc w _ = W
  generalize Value.agg #[_, _, _, _, _, _, _, _, _, _, _] = a0
  have HX : Hid (Sit w W (stF w.heap.size h b e s (wkF bc p aoD aoT capD capT i aoA ar.len capA aoS lenS capS aoE lenE capE))) := Lib.hid (by rw [← hW]; exact HH.out.box11 rfl _ _ _ _ _ _ _ _ _ _ _ _)
  clear hW HH
  have K0 : ∀ w', Below W.heap.size W w' → w'.cell? ⟨bc, 0, none⟩ = some (.slice aoD p.ds.length capD) := fun w' hb => (HX.out.next hb).2.2.2.2.2.2.2.2.2.2.2.2.1.2
  have K1 : ∀ w', Below W.heap.size W w' → w'.cell? ⟨bc, 1, none⟩ = some (.slice aoT p.ts.length capT) := fun w' hb => (HX.out.next hb).2.2.2.2.2.2.2.2.2.2.2.2.2.1.2
  have K2 : ∀ w', Below W.heap.size W w' → w'.cell? ⟨bc, 2, none⟩ = some (.int .i64 i) := fun w' hb => (HX.out.next hb).2.2.2.2.2.2.2.2.2.2.2.2.2.2.1.2
  have HD1 : Below W.heap.size W (W.drewN 1) := below_drewN (Below.refl _ _) 1
  refine wpAny_start (by kernel_rfl) rfl ?_
  generalize W.drewN 1 = W1 at *
  refine wpAny_phase 0 11 [8, 9] [[], [0], [0, 1], [0, 1, 2], [], [4], [4, 5], [4, 5, 6], [], [0, 1, 2, 3, 8], [0, 1, 2, 3, 4, 5, 6, 7, 8, 9]] [[none, some false], [none, some false], [none, some false], [none, some false], [none, none], [none, none], [none, none], [none, none], [some false, some false], [some true, some false], [some true, some true]] (AC W1 (.cells #[.slice none 0 0, .slice none 0 0] 29) (.cells #[.slice aoD p.ds.length capD, .slice aoT p.ts.length capT] 29)) (fun _ _ => True) [15, 16, 17, 18, 19, 20, 21, 22, 5, 6] rfl rfl (by rfl) (by kernel_rfl) (by kernel_rfl) (by kernel_rfl) (by kernel_rfl) (by kernel_rfl) (by rfl) (fun _ => trivial) (by rfl) rfl ?_
  simp only [List.take_succ_cons, List.take_zero, List.drop_zero, List.drop_succ_cons, dumE, List.map_cons, List.map_nil]
  apply ObP.step
  case hobl =>
    intro c A w' hok hC hO hD
    have e0 := hO 0 (by rfl)
    simp [Act.eval] at e0
    simp [depsL, IsV, slotv, Act.eval, Region.binds] at hD
    simp [go_sem, gd, Oper.wp, hD, e0]
    exact WPost.mk trivial (AC.skip (by rfl) (by rfl) hC) (IsV.mk _ _)
  apply ObP.step
  case hobl =>
    intro c A w' hok hC hO hD
    simp [depsL, IsV, slotv, Act.eval, Region.binds] at hD
    simp [go_sem, gd, Oper.wp, hD]
    exact WPost.mk trivial (AC.skip (by rfl) (by rfl) hC) (IsV.mk _ _)
  apply ObP.step
  case hobl =>
    intro c A w' hok hC hO hD
    simp [depsL, IsV, slotv, Act.eval, Region.binds] at hD
    simp [go_sem, gd, Oper.wp, hD]
    exact WPost.mk trivial (AC.skip (by rfl) (by rfl) hC) (IsV.mk _ _)
  apply ObP.step
  case hobl =>
    intro c A w' hok hC hO hD
    simp [depsL, IsV, slotv, Act.eval, Region.binds] at hD
    simp [go_sem, gd, Oper.wp, hD, K0, K1, AC.below HD1 hC]
    exact WPost.mk trivial (AC.skip (by rfl) (by rfl) hC) (IsV.mk _ _)
  apply ObP.step
  case hobl =>
    intro c A w' hok hC hO hD
    have e0 := hO 0 (by rfl)
    simp [Act.eval] at e0
    simp [depsL, IsV, slotv, Act.eval, Region.binds] at hD
    simp [go_sem, gd, Oper.wp, hD, e0]
    exact WPost.mk trivial (AC.skip (by rfl) (by rfl) hC) (IsV.mk _ _)
  simp only [List.nil_append, List.cons_append]
  apply ObP.step
  case hobl =>
    intro c A w' hok hC hO hD
    simp [depsL, IsV, slotv, Act.eval, Region.binds] at hD
    simp [go_sem, gd, Oper.wp, hD]
    exact WPost.mk trivial (AC.skip (by rfl) (by rfl) hC) (IsV.mk _ _)
  apply ObP.step
  case hobl =>
    intro c A w' hok hC hO hD
    simp [depsL, IsV, slotv, Act.eval, Region.binds] at hD
    simp [go_sem, gd, Oper.wp, hD]
    exact WPost.mk trivial (AC.skip (by rfl) (by rfl) hC) (IsV.mk _ _)
  apply ObP.step
  case hobl =>
    intro c A w' hok hC hO hD
    simp [depsL, IsV, slotv, Act.eval, Region.binds] at hD
    simp [go_sem, gd, Oper.wp, hD, K2, AC.below HD1 hC]
    exact WPost.mk trivial (AC.skip (by rfl) (by rfl) hC) (IsV.mk _ _)
  simp only [List.nil_append, List.cons_append]
  apply ObP.step
  case hobl =>
    intro c A w' hok hC hO hD
    obtain ⟨x, y, rfl⟩ := hC.bits
    obtain ⟨rfl, rfl, -⟩ := hok
    have hw : w' = W1 := hC
    subst hw
    simp [go_sem, gd, Oper.wp]
    exact WPost.mk trivial (AC.lay (by rfl) (by rfl)) (IsV.mk _ _)
  refine ObP.some (fun _ _ => True) (fun _ _ _ _ _ => trivial) ?_ ?_
  · intro c A w' hok hC hO hD
    obtain ⟨x, y, rfl⟩ := hC.bits
    obtain ⟨rfl, rfl, -⟩ := hok
    have hw : w' = W1.alloc _ := hC
    subst hw
    simp [depsL, IsV, slotv, Act.eval, Region.binds] at hD
    simp [go_sem, gd, Oper.wp, hD]
    exact WPost.mk0 (v := undef) trivial (AC.fill (by rfl) (by rfl)) trivial
  simp only [List.nil_append, List.cons_append]
  apply ObP.step
  case hobl =>
    intro c A w' hok hC hO hD
    simp [depsL, IsV, slotv, Act.eval, Region.binds] at hD
    simp [go_sem, gd, Oper.wp, hD]
    exact WPost.mk trivial (AC.skip (by rfl) (by rfl) hC) (IsV.mk _ _)
  simp only [List.nil_append, List.cons_append]
  refine ObP.done ?_
  intro wz hCz
  simp only [List.drop_zero]
  intro v0 h0 v1 h1 v2 h2 v3 h3 v4 h4 v5 h5 v6 h6 v7 h7 v8 h8 v9 h9 v10 h10
  have h8' : v8 = _ := h8
  have h10' : v10 = _ := h10
  subst h8' h10'
  clear h0 h1 h2 h3 h4 h5 h6 h7 h8 h9 h10
  refine AllVals.nil ?_
  refine wpAny_end rfl ?_
  have hCz' : wz = W1.alloc _ := hCz
  generalize hn1 : W1.heap.size = n1 at *
  have HY := Lib.hid ((HX.out.next HD1).box2 hn1 (.slice aoD p.ds.length capD) (.slice aoT p.ts.length capT) 29)
  rw [← hCz'] at HY
  clear hCz hCz' HX K0 K1 K2 HD1 hn1
  go_simp
  obtain ⟨-, ⟨-, c0⟩, ⟨-, c1⟩, ⟨-, c2⟩, ⟨-, c3⟩, ⟨-, c4⟩, ⟨-, c5⟩, ⟨-, c6⟩, ⟨-, c7⟩, ⟨-, c8⟩, ⟨-, c9⟩, ⟨-, c10⟩, ⟨-, c11⟩, ⟨-, c12⟩, ⟨-, c13⟩, ⟨-, c14⟩, ⟨-, c15⟩, ⟨-, c16⟩, ⟨-, c17⟩, ⟨-, c18⟩, -⟩ := HY.out
  go_wp2_with fail
  refine (wkInside_any p _ aoD aoT capD capT i aoA capA bc aoS lenS capS aoE lenE capE ar 7 7 ⟨#[]⟩ HAL.out (HAR.out.same HY.out.1) (wkHolds HY.out)).mono ?_
  rintro e' W ⟨rfl, hb⟩
  replace HY := Lib.hid (HY.out.next hb)
  clear hb c0 c1 c2 c3 c4 c5 c6 c7 c8 c9 c10 c11 c12 c13 c14 c15 c16 c17 c18
  obtain ⟨-, ⟨-, c0⟩, ⟨-, c1⟩, ⟨-, c2⟩, ⟨-, c3⟩, ⟨-, c4⟩, ⟨-, c5⟩, ⟨-, c6⟩, ⟨-, c7⟩, ⟨-, c8⟩, ⟨-, c9⟩, ⟨-, c10⟩, ⟨-, c11⟩, ⟨-, c12⟩, ⟨-, c13⟩, ⟨-, c14⟩, ⟨-, c15⟩, ⟨-, c16⟩, ⟨-, c17⟩, ⟨-, c18⟩, -⟩ := HY.out
  go_wp2_with fail
  refine (wkInside_any p _ aoD aoT capD capT i aoA capA bc aoS lenS capS aoE lenE capE ar 8 8 ⟨#[]⟩ HAL.out (HAR.out.same HY.out.1) (wkHolds HY.out)).mono ?_
  rintro e' W ⟨rfl, hb⟩
  replace HY := Lib.hid (HY.out.next hb)
  clear hb c0 c1 c2 c3 c4 c5 c6 c7 c8 c9 c10 c11 c12 c13 c14 c15 c16 c17 c18
  obtain ⟨-, ⟨-, c0⟩, ⟨-, c1⟩, ⟨-, c2⟩, ⟨-, c3⟩, ⟨-, c4⟩, ⟨-, c5⟩, ⟨-, c6⟩, ⟨-, c7⟩, ⟨-, c8⟩, ⟨-, c9⟩, ⟨-, c10⟩, ⟨-, c11⟩, ⟨-, c12⟩, ⟨-, c13⟩, ⟨-, c14⟩, ⟨-, c15⟩, ⟨-, c16⟩, ⟨-, c17⟩, ⟨-, c18⟩, -⟩ := HY.out
  go_wp2_with fail
  refine (wkInside_any p _ aoD aoT capD capT i aoA capA bc aoS lenS capS aoE lenE capE ar 3 3 ⟨#[]⟩ HAL.out (HAR.out.same HY.out.1) (wkHolds HY.out)).mono ?_
  rintro e' W ⟨rfl, hb⟩
  replace HY := Lib.hid (HY.out.next hb)
  clear hb c0 c1 c2 c3 c4 c5 c6 c7 c8 c9 c10 c11 c12 c13 c14 c15 c16 c17 c18
  obtain ⟨-, ⟨-, c0⟩, ⟨-, c1⟩, ⟨-, c2⟩, ⟨-, c3⟩, ⟨-, c4⟩, ⟨-, c5⟩, ⟨-, c6⟩, ⟨-, c7⟩, ⟨-, c8⟩, ⟨-, c9⟩, ⟨-, c10⟩, ⟨-, c11⟩, ⟨-, c12⟩, ⟨-, c13⟩, ⟨-, c14⟩, ⟨-, c15⟩, ⟨-, c16⟩, ⟨-, c17⟩, ⟨-, c18⟩, -⟩ := HY.out
  generalize htx : insR ar 7 7 ⟨#[]⟩ = tx at *
  generalize hat' : insR ar 8 8 ⟨#[]⟩ = atm at *
  generalize hlo : insR ar 3 3 ⟨#[]⟩ = lop at *
  clear htx hat' hlo
  have hop := HOP.out
  have g1 : (h.op == 1) = false := by rw [hop]; rfl
  have g2 : (h.op == 2) = false := by rw [hop]; rfl
  have g3 : (h.op == 3) = false := by rw [hop]; rfl
  have g4 : (h.op == 4) = false := by rw [hop]; rfl
  have g5 : (h.op == 5) = false := by rw [hop]; rfl
  have g6 : (h.op == 6) = false := by rw [hop]; rfl
  have g7 : (h.op == 7) = false := by rw [hop]; rfl
  have g8 : (h.op == 8) = false := by rw [hop]; rfl
  have g9 : (h.op == 9) = true := by rw [hop]; rfl
  have g10 : (h.op == 10) = false := by rw [hop]; rfl
  have g11 : (h.op == 11) = false := by rw [hop]; rfl
  have g12 : (h.op == 12) = false := by rw [hop]; rfl
  have g13 : (h.op == 13) = false := by rw [hop]; rfl
  have g14 : (h.op == 14) = false := by rw [hop]; rfl
  have g15 : (h.op == 15) = false := by rw [hop]; rfl
  clear hop
  go_wp2_with fail
  refine (want_any p i h.nm 5 5 _ aoD aoT capD capT hi (HP.out.same HY.out.1)).mono ?_
  rintro e' W ⟨rfl, hb⟩
  replace HY := Lib.hid (HY.out.next hb)
  clear hb c0 c1 c2 c3 c4 c5 c6 c7 c8 c9 c10 c11 c12 c13 c14 c15 c16 c17 c18
  obtain ⟨-, ⟨-, c0⟩, ⟨-, c1⟩, ⟨-, c2⟩, ⟨-, c3⟩, ⟨-, c4⟩, ⟨-, c5⟩, ⟨-, c6⟩, ⟨-, c7⟩, ⟨-, c8⟩, ⟨-, c9⟩, ⟨-, c10⟩, ⟨-, c11⟩, ⟨-, c12⟩, ⟨-, c13⟩, ⟨-, c14⟩, ⟨-, c15⟩, ⟨-, c16⟩, ⟨-, c17⟩, ⟨-, c18⟩, -⟩ := HY.out
  have HDF := Lib.hid (decl_first (p := p) (i := i) (nm := h.nm))
  generalize wantE (conv (mean p i h.nm)) 5 5 = q at *
  cases hq : (q != 0)
  case true =>
    have HR' : Hid (res = q) := Lib.hid (HR.out.trans (if_pos hq))
    clear HDF HR
    go_wp2_with fail
    go_ret
    exact ⟨ret_int HR'.out.symm, HY.out.1⟩
  obtain ⟨k, d, r, hk, hfx, hdr, -, -, hmu⟩ := HDF.out (by simpa using hq)
  have HR' : Hid (res = nest ((tx || !insR ar 4 4 d.on) || (true && atm))) := Lib.hid (HR.out.trans ((if_neg (by rw [hq]; decide)).trans (by rw [hmu])))
  have HFX : Hid (atDe p.ds h.nm = (k : Int)) := Lib.hid hfx
  have hrow := (HP.out.same HY.out.1).2.2.1.drop k
  rw [hdr, Nat.zero_add] at hrow
  obtain ⟨⟨bD, offD, rfl, hbD, -, -, -, -, -, x5, -⟩, -⟩ := hrow
  have hk0 : (0 : Int) ≤ (k : Int) := by omega
  have hk1 : (k : Int) < (p.ds.length : Int) := by omega
  clear HR HDF hfx hmu hdr
  go_upto_region 28 with fail
  obtain ⟨T, F, hinh, hst, hF, hnext⟩ := calm W
  have HF := Lib.hid hF
  have HNX := Lib.hid hnext
  clear hnext hF
  have d0 := fun x => (HY.out.next (HF.out x)).2.1.2
  have d1 := fun x => (HY.out.next (HF.out x)).2.2.1.2
  have d2 := fun x => (HY.out.next (HF.out x)).2.2.2.1.2
  have d3 := fun x => (HY.out.next (HF.out x)).2.2.2.2.1.2
  have d4 := fun x => (HY.out.next (HF.out x)).2.2.2.2.2.1.2
  have d5 := fun x => (HY.out.next (HF.out x)).2.2.2.2.2.2.1.2
  have d6 := fun x => (HY.out.next (HF.out x)).2.2.2.2.2.2.2.1.2
  have d7 := fun x => (HY.out.next (HF.out x)).2.2.2.2.2.2.2.2.1.2
  have d8 := fun x => (HY.out.next (HF.out x)).2.2.2.2.2.2.2.2.2.1.2
  have d9 := fun x => (HY.out.next (HF.out x)).2.2.2.2.2.2.2.2.2.2.1.2
  have d10 := fun x => (HY.out.next (HF.out x)).2.2.2.2.2.2.2.2.2.2.2.1.2
  have d11 := fun x => (HY.out.next (HF.out x)).2.2.2.2.2.2.2.2.2.2.2.2.1.2
  have d12 := fun x => (HY.out.next (HF.out x)).2.2.2.2.2.2.2.2.2.2.2.2.2.1.2
  have d13 := fun x => (HY.out.next (HF.out x)).2.2.2.2.2.2.2.2.2.2.2.2.2.2.1.2
  have d14 := fun x => (HY.out.next (HF.out x)).2.2.2.2.2.2.2.2.2.2.2.2.2.2.2.1.2
  have d15 := fun x => (HY.out.next (HF.out x)).2.2.2.2.2.2.2.2.2.2.2.2.2.2.2.2.1.2
  have d16 := fun x => (HY.out.next (HF.out x)).2.2.2.2.2.2.2.2.2.2.2.2.2.2.2.2.2.1.2
  have d17 := fun x => (HY.out.next (HF.out x)).2.2.2.2.2.2.2.2.2.2.2.2.2.2.2.2.2.2.1.2
  have d18 := fun x => (HY.out.next (HF.out x)).2.2.2.2.2.2.2.2.2.2.2.2.2.2.2.2.2.2.2.1.2
  clear c0 c1 c2 c3 c4 c5 c6 c7 c8 c9 c10 c11 c12 c13 c14 c15 c16 c17 c18
  have y5 := fun x => ((HF.out x).cell (p := ⟨bD, offD + k * 6 + 5, none⟩) hbD).trans x5
  clear x5
  refine region_calm F (by kernel_rfl) (by kernel_rfl) hst ?_
  repeat (any_goals (first | go_big_quiet_step ((first | (go_at_call 55; refine (RefDeclAt_any p.ds h.nm _ _ capD HP.out.1 ((HP.out.same HY.out.1).same (HF.out _)).2.2.1).mono ?_; rintro e w' ⟨rfl, rfl⟩; rw [HFX.out]; exact ⟨rfl, HNX.out _ _ (Below.refl _ _)⟩) | (go_at_call 70; refine (wkInside_any p _ _ aoT capD capT i aoA capA bc aoS lenS capS aoE lenE capE ar 4 4 d.on HAL.out ((HAR.out.same HY.out.1).same (HF.out _)) ((wkHolds HY.out).next (HF.out _))).mono ?_; rintro e w' ⟨rfl, hb⟩; exact ⟨rfl, HNX.out _ _ hb⟩))) | (refine wpQuiet_step (fun K hK => ?_); go_simp; first | (refine hK _ ?_; clear hK K) | (split <;> first | (refine hK _ ?_; clear hK K) | (apply Exists.intro; refine ⟨fun _ => ?_, hK _ ?_⟩; ((first | (go_at_call 55; refine (RefDeclAt_any p.ds h.nm _ _ capD HP.out.1 ((HP.out.same HY.out.1).same (HF.out _)).2.2.1).mono ?_; rintro e w' ⟨rfl, rfl⟩; rw [HFX.out]; exact ⟨rfl, HNX.out _ _ (Below.refl _ _)⟩) | (go_at_call 70; refine (wkInside_any p _ _ aoT capD capT i aoA capA bc aoS lenS capS aoE lenE capE ar 4 4 d.on HAL.out ((HAR.out.same HY.out.1).same (HF.out _)) ((wkHolds HY.out).next (HF.out _))).mono ?_; rintro e w' ⟨rfl, hb⟩; exact ⟨rfl, HNX.out _ _ hb⟩))); clear hK K)))))
  all_goals (refine wpQuiet_nil ?_; rintro _ ⟨x, rfl⟩)
  replace HY := Lib.hid (HY.out.next (HF.out x))
  clear d0 d1 d2 d3 d4 d5 d6 d7 d8 d9 d10 d11 d12 d13 d14 d15 d16 d17 d18 y5 HF HNX hst
  generalize F x = W2 at *
  generalize insR ar 4 4 d.on = hel at *
  obtain ⟨-, ⟨-, c0⟩, ⟨-, c1⟩, ⟨-, c2⟩, ⟨-, c3⟩, ⟨-, c4⟩, ⟨-, c5⟩, ⟨-, c6⟩, ⟨-, c7⟩, ⟨-, c8⟩, ⟨-, c9⟩, ⟨-, c10⟩, ⟨-, c11⟩, ⟨-, c12⟩, ⟨-, c13⟩, ⟨-, c14⟩, ⟨-, c15⟩, ⟨-, c16⟩, ⟨-, c17⟩, ⟨-, c18⟩, -⟩ := HY.out
  cases tx <;> cases hel <;> cases atm
  all_goals
    go_wp2_with fail
    refine (RefNesting_any _ _).mono ?_
    rintro e' W' ⟨rfl, rfl⟩
    go_wp2_with fail
    go_ret
    exact ⟨ret_int (by first | exact HR'.out.symm | (rw [HR'.out]; first | done | rfl | simp [nest])), HY.out.1⟩
set_option maxHeartbeats 4000000 in
set_option maxRecDepth 100000 in
theorem wkOne10 (h : StH) (b e ar : StL) (s : Sl) (hi : I64 i) (hp : p.At w aoD aoT) (hin : StIn w h b e s) (har : ar.len ≤ maxLen) (hat : ar.At w w.heap.size aoA 0) (hh : Holds w (wkF bc p aoD aoT capD capT i aoA ar.len capA aoS lenS capS aoE lenE capE)) (hop : h.op = 10) :
    Calls Tryd.prog 58 #[.pointer (some ⟨bc, 0, none⟩), stV h b e s] w fun e' w' => e' = .returned (.int .i64 (if wantE (conv (mean p i h.nm)) 5 5 != 0 then wantE (conv (mean p i h.nm)) 5 5 else nest ((insR ar 7 7 ⟨#[]⟩ || !insR ar 4 4 (mutexP p.ds h.nm)) || (false && insR ar 8 8 ⟨#[]⟩)))) ∧ Below w.heap.size w w' := by
  generalize hres : (if wantE (conv (mean p i h.nm)) 5 5 != 0 then wantE (conv (mean p i h.nm)) 5 5 else nest ((insR ar 7 7 ⟨#[]⟩ || !insR ar 4 4 (mutexP p.ds h.nm)) || (false && insR ar 8 8 ⟨#[]⟩))) = res
  have HR : Hid (res = (if wantE (conv (mean p i h.nm)) 5 5 != 0 then wantE (conv (mean p i h.nm)) 5 5 else nest ((insR ar 7 7 ⟨#[]⟩ || !insR ar 4 4 (mutexP p.ds h.nm)) || (false && insR ar 8 8 ⟨#[]⟩)))) := Lib.hid (by rw [← hres])
  have HOP := Lib.hid hop
  clear hres hop
  have HH := Lib.hid (show Sit w w _ from ⟨Below.refl _ _, hh⟩)
  have HSI := Lib.hid hin
  have HAR := Lib.hid hat
  have HAL := Lib.hid har
  have HP := Lib.hid hp
  unfold stV
  clear hh hin hat har hp
  go_enter Tryd.func58, Tryd.ntmps58
  go_upto_region 1 with fail
  generalize hW : World.alloc w _ = W
  generalize Value.agg #[_, _, _, _, _, _, _, _, _, _, _] = a0
  have HX : Hid (Sit w W (stF w.heap.size h b e s (wkF bc p aoD aoT capD capT i aoA ar.len capA aoS lenS capS aoE lenE capE))) := Lib.hid (by rw [← hW]; exact HH.out.box11 rfl _ _ _ _ _ _ _ _ _ _ _ _)
  clear hW HH
  have K0 : ∀ w', Below W.heap.size W w' → w'.cell? ⟨bc, 0, none⟩ = some (.slice aoD p.ds.length capD) := fun w' hb => (HX.out.next hb).2.2.2.2.2.2.2.2.2.2.2.2.1.2
  have K1 : ∀ w', Below W.heap.size W w' → w'.cell? ⟨bc, 1, none⟩ = some (.slice aoT p.ts.length capT) := fun w' hb => (HX.out.next hb).2.2.2.2.2.2.2.2.2.2.2.2.2.1.2
  have K2 : ∀ w', Below W.heap.size W w' → w'.cell? ⟨bc, 2, none⟩ = some (.int .i64 i) := fun w' hb => (HX.out.next hb).2.2.2.2.2.2.2.2.2.2.2.2.2.2.1.2
  have HD1 : Below W.heap.size W (W.drewN 1) := below_drewN (Below.refl _ _) 1
  refine wpAny_start (by kernel_rfl) rfl ?_
  generalize W.drewN 1 = W1 at *
  refine wpAny_phase 0 11 [8, 9] [[], [0], [0, 1], [0, 1, 2], [], [4], [4, 5], [4, 5, 6], [], [0, 1, 2, 3, 8], [0, 1, 2, 3, 4, 5, 6, 7, 8, 9]] [[none, some false], [none, some false], [none, some false], [none, some false], [none, none], [none, none], [none, none], [none, none], [some false, some false], [some true, some false], [some true, some true]] (AC W1 (.cells #[.slice none 0 0, .slice none 0 0] 29) (.cells #[.slice aoD p.ds.length capD, .slice aoT p.ts.length capT] 29)) (fun _ _ => True) [15, 16, 17, 18, 19, 20, 21, 22, 5, 6] rfl rfl (by rfl) (by kernel_rfl) (by kernel_rfl) (by kernel_rfl) (by kernel_rfl) (by kernel_rfl) (by rfl) (fun _ => trivial) (by rfl) rfl ?_
  simp only [List.take_succ_cons, List.take_zero, List.drop_zero, List.drop_succ_cons, dumE, List.map_cons, List.map_nil]
  apply ObP.step
  case hobl =>
    intro c A w' hok hC hO hD
    have e0 := hO 0 (by rfl)
    simp [Act.eval] at e0
    simp [depsL, IsV, slotv, Act.eval, Region.binds] at hD
    simp [go_sem, gd, Oper.wp, hD, e0]
    exact WPost.mk trivial (AC.skip (by rfl) (by rfl) hC) (IsV.mk _ _)
  apply ObP.step
  case hobl =>
    intro c A w' hok hC hO hD
    simp [depsL, IsV, slotv, Act.eval, Region.binds] at hD
    simp [go_sem, gd, Oper.wp, hD]
    exact WPost.mk trivial (AC.skip (by rfl) (by rfl) hC) (IsV.mk _ _)
  apply ObP.step
  case hobl =>
    intro c A w' hok hC hO hD
    simp [depsL, IsV, slotv, Act.eval, Region.binds] at hD
    simp [go_sem, gd, Oper.wp, hD]
    exact WPost.mk trivial (AC.skip (by rfl) (by rfl) hC) (IsV.mk _ _)
  apply ObP.step
  case hobl =>
    intro c A w' hok hC hO hD
    simp [depsL, IsV, slotv, Act.eval, Region.binds] at hD
    simp [go_sem, gd, Oper.wp, hD, K0, K1, AC.below HD1 hC]
    exact WPost.mk trivial (AC.skip (by rfl) (by rfl) hC) (IsV.mk _ _)
  apply ObP.step
  case hobl =>
    intro c A w' hok hC hO hD
    have e0 := hO 0 (by rfl)
    simp [Act.eval] at e0
    simp [depsL, IsV, slotv, Act.eval, Region.binds] at hD
    simp [go_sem, gd, Oper.wp, hD, e0]
    exact WPost.mk trivial (AC.skip (by rfl) (by rfl) hC) (IsV.mk _ _)
  simp only [List.nil_append, List.cons_append]
  apply ObP.step
  case hobl =>
    intro c A w' hok hC hO hD
    simp [depsL, IsV, slotv, Act.eval, Region.binds] at hD
    simp [go_sem, gd, Oper.wp, hD]
    exact WPost.mk trivial (AC.skip (by rfl) (by rfl) hC) (IsV.mk _ _)
  apply ObP.step
  case hobl =>
    intro c A w' hok hC hO hD
    simp [depsL, IsV, slotv, Act.eval, Region.binds] at hD
    simp [go_sem, gd, Oper.wp, hD]
    exact WPost.mk trivial (AC.skip (by rfl) (by rfl) hC) (IsV.mk _ _)
  apply ObP.step
  case hobl =>
    intro c A w' hok hC hO hD
    simp [depsL, IsV, slotv, Act.eval, Region.binds] at hD
    simp [go_sem, gd, Oper.wp, hD, K2, AC.below HD1 hC]
    exact WPost.mk trivial (AC.skip (by rfl) (by rfl) hC) (IsV.mk _ _)
  simp only [List.nil_append, List.cons_append]
  apply ObP.step
  case hobl =>
    intro c A w' hok hC hO hD
    obtain ⟨x, y, rfl⟩ := hC.bits
    obtain ⟨rfl, rfl, -⟩ := hok
    have hw : w' = W1 := hC
    subst hw
    simp [go_sem, gd, Oper.wp]
    exact WPost.mk trivial (AC.lay (by rfl) (by rfl)) (IsV.mk _ _)
  refine ObP.some (fun _ _ => True) (fun _ _ _ _ _ => trivial) ?_ ?_
  · intro c A w' hok hC hO hD
    obtain ⟨x, y, rfl⟩ := hC.bits
    obtain ⟨rfl, rfl, -⟩ := hok
    have hw : w' = W1.alloc _ := hC
    subst hw
    simp [depsL, IsV, slotv, Act.eval, Region.binds] at hD
    simp [go_sem, gd, Oper.wp, hD]
    exact WPost.mk0 (v := undef) trivial (AC.fill (by rfl) (by rfl)) trivial
  simp only [List.nil_append, List.cons_append]
  apply ObP.step
  case hobl =>
    intro c A w' hok hC hO hD
    simp [depsL, IsV, slotv, Act.eval, Region.binds] at hD
    simp [go_sem, gd, Oper.wp, hD]
    exact WPost.mk trivial (AC.skip (by rfl) (by rfl) hC) (IsV.mk _ _)
  simp only [List.nil_append, List.cons_append]
  refine ObP.done ?_
  intro wz hCz
  simp only [List.drop_zero]
  intro v0 h0 v1 h1 v2 h2 v3 h3 v4 h4 v5 h5 v6 h6 v7 h7 v8 h8 v9 h9 v10 h10
  have h8' : v8 = _ := h8
  have h10' : v10 = _ := h10
  subst h8' h10'
  clear h0 h1 h2 h3 h4 h5 h6 h7 h8 h9 h10
  refine AllVals.nil ?_
  refine wpAny_end rfl ?_
  have hCz' : wz = W1.alloc _ := hCz
  generalize hn1 : W1.heap.size = n1 at *
  have HY := Lib.hid ((HX.out.next HD1).box2 hn1 (.slice aoD p.ds.length capD) (.slice aoT p.ts.length capT) 29)
  rw [← hCz'] at HY
  clear hCz hCz' HX K0 K1 K2 HD1 hn1
  go_simp
  obtain ⟨-, ⟨-, c0⟩, ⟨-, c1⟩, ⟨-, c2⟩, ⟨-, c3⟩, ⟨-, c4⟩, ⟨-, c5⟩, ⟨-, c6⟩, ⟨-, c7⟩, ⟨-, c8⟩, ⟨-, c9⟩, ⟨-, c10⟩, ⟨-, c11⟩, ⟨-, c12⟩, ⟨-, c13⟩, ⟨-, c14⟩, ⟨-, c15⟩, ⟨-, c16⟩, ⟨-, c17⟩, ⟨-, c18⟩, -⟩ := HY.out
  go_wp2_with fail
  refine (wkInside_any p _ aoD aoT capD capT i aoA capA bc aoS lenS capS aoE lenE capE ar 7 7 ⟨#[]⟩ HAL.out (HAR.out.same HY.out.1) (wkHolds HY.out)).mono ?_
  rintro e' W ⟨rfl, hb⟩
  replace HY := Lib.hid (HY.out.next hb)
  clear hb c0 c1 c2 c3 c4 c5 c6 c7 c8 c9 c10 c11 c12 c13 c14 c15 c16 c17 c18
  obtain ⟨-, ⟨-, c0⟩, ⟨-, c1⟩, ⟨-, c2⟩, ⟨-, c3⟩, ⟨-, c4⟩, ⟨-, c5⟩, ⟨-, c6⟩, ⟨-, c7⟩, ⟨-, c8⟩, ⟨-, c9⟩, ⟨-, c10⟩, ⟨-, c11⟩, ⟨-, c12⟩, ⟨-, c13⟩, ⟨-, c14⟩, ⟨-, c15⟩, ⟨-, c16⟩, ⟨-, c17⟩, ⟨-, c18⟩, -⟩ := HY.out
  go_wp2_with fail
  refine (wkInside_any p _ aoD aoT capD capT i aoA capA bc aoS lenS capS aoE lenE capE ar 8 8 ⟨#[]⟩ HAL.out (HAR.out.same HY.out.1) (wkHolds HY.out)).mono ?_
  rintro e' W ⟨rfl, hb⟩
  replace HY := Lib.hid (HY.out.next hb)
  clear hb c0 c1 c2 c3 c4 c5 c6 c7 c8 c9 c10 c11 c12 c13 c14 c15 c16 c17 c18
  obtain ⟨-, ⟨-, c0⟩, ⟨-, c1⟩, ⟨-, c2⟩, ⟨-, c3⟩, ⟨-, c4⟩, ⟨-, c5⟩, ⟨-, c6⟩, ⟨-, c7⟩, ⟨-, c8⟩, ⟨-, c9⟩, ⟨-, c10⟩, ⟨-, c11⟩, ⟨-, c12⟩, ⟨-, c13⟩, ⟨-, c14⟩, ⟨-, c15⟩, ⟨-, c16⟩, ⟨-, c17⟩, ⟨-, c18⟩, -⟩ := HY.out
  go_wp2_with fail
  refine (wkInside_any p _ aoD aoT capD capT i aoA capA bc aoS lenS capS aoE lenE capE ar 3 3 ⟨#[]⟩ HAL.out (HAR.out.same HY.out.1) (wkHolds HY.out)).mono ?_
  rintro e' W ⟨rfl, hb⟩
  replace HY := Lib.hid (HY.out.next hb)
  clear hb c0 c1 c2 c3 c4 c5 c6 c7 c8 c9 c10 c11 c12 c13 c14 c15 c16 c17 c18
  obtain ⟨-, ⟨-, c0⟩, ⟨-, c1⟩, ⟨-, c2⟩, ⟨-, c3⟩, ⟨-, c4⟩, ⟨-, c5⟩, ⟨-, c6⟩, ⟨-, c7⟩, ⟨-, c8⟩, ⟨-, c9⟩, ⟨-, c10⟩, ⟨-, c11⟩, ⟨-, c12⟩, ⟨-, c13⟩, ⟨-, c14⟩, ⟨-, c15⟩, ⟨-, c16⟩, ⟨-, c17⟩, ⟨-, c18⟩, -⟩ := HY.out
  generalize htx : insR ar 7 7 ⟨#[]⟩ = tx at *
  generalize hat' : insR ar 8 8 ⟨#[]⟩ = atm at *
  generalize hlo : insR ar 3 3 ⟨#[]⟩ = lop at *
  clear htx hat' hlo
  have hop := HOP.out
  have g1 : (h.op == 1) = false := by rw [hop]; rfl
  have g2 : (h.op == 2) = false := by rw [hop]; rfl
  have g3 : (h.op == 3) = false := by rw [hop]; rfl
  have g4 : (h.op == 4) = false := by rw [hop]; rfl
  have g5 : (h.op == 5) = false := by rw [hop]; rfl
  have g6 : (h.op == 6) = false := by rw [hop]; rfl
  have g7 : (h.op == 7) = false := by rw [hop]; rfl
  have g8 : (h.op == 8) = false := by rw [hop]; rfl
  have g9 : (h.op == 9) = false := by rw [hop]; rfl
  have g10 : (h.op == 10) = true := by rw [hop]; rfl
  have g11 : (h.op == 11) = false := by rw [hop]; rfl
  have g12 : (h.op == 12) = false := by rw [hop]; rfl
  have g13 : (h.op == 13) = false := by rw [hop]; rfl
  have g14 : (h.op == 14) = false := by rw [hop]; rfl
  have g15 : (h.op == 15) = false := by rw [hop]; rfl
  clear hop
  go_wp2_with fail
  refine (want_any p i h.nm 5 5 _ aoD aoT capD capT hi (HP.out.same HY.out.1)).mono ?_
  rintro e' W ⟨rfl, hb⟩
  replace HY := Lib.hid (HY.out.next hb)
  clear hb c0 c1 c2 c3 c4 c5 c6 c7 c8 c9 c10 c11 c12 c13 c14 c15 c16 c17 c18
  obtain ⟨-, ⟨-, c0⟩, ⟨-, c1⟩, ⟨-, c2⟩, ⟨-, c3⟩, ⟨-, c4⟩, ⟨-, c5⟩, ⟨-, c6⟩, ⟨-, c7⟩, ⟨-, c8⟩, ⟨-, c9⟩, ⟨-, c10⟩, ⟨-, c11⟩, ⟨-, c12⟩, ⟨-, c13⟩, ⟨-, c14⟩, ⟨-, c15⟩, ⟨-, c16⟩, ⟨-, c17⟩, ⟨-, c18⟩, -⟩ := HY.out
  have HDF := Lib.hid (decl_first (p := p) (i := i) (nm := h.nm))
  generalize wantE (conv (mean p i h.nm)) 5 5 = q at *
  cases hq : (q != 0)
  case true =>
    have HR' : Hid (res = q) := Lib.hid (HR.out.trans (if_pos hq))
    clear HDF HR
    go_wp2_with fail
    go_ret
    exact ⟨ret_int HR'.out.symm, HY.out.1⟩
  obtain ⟨k, d, r, hk, hfx, hdr, -, -, hmu⟩ := HDF.out (by simpa using hq)
  have HR' : Hid (res = nest ((tx || !insR ar 4 4 d.on) || (false && atm))) := Lib.hid (HR.out.trans ((if_neg (by rw [hq]; decide)).trans (by rw [hmu])))
  have HFX : Hid (atDe p.ds h.nm = (k : Int)) := Lib.hid hfx
  have hrow := (HP.out.same HY.out.1).2.2.1.drop k
  rw [hdr, Nat.zero_add] at hrow
  obtain ⟨⟨bD, offD, rfl, hbD, -, -, -, -, -, x5, -⟩, -⟩ := hrow
  have hk0 : (0 : Int) ≤ (k : Int) := by omega
  have hk1 : (k : Int) < (p.ds.length : Int) := by omega
  clear HR HDF hfx hmu hdr
  go_upto_region 28 with fail
  obtain ⟨T, F, hinh, hst, hF, hnext⟩ := calm W
  have HF := Lib.hid hF
  have HNX := Lib.hid hnext
  clear hnext hF
  have d0 := fun x => (HY.out.next (HF.out x)).2.1.2
  have d1 := fun x => (HY.out.next (HF.out x)).2.2.1.2
  have d2 := fun x => (HY.out.next (HF.out x)).2.2.2.1.2
  have d3 := fun x => (HY.out.next (HF.out x)).2.2.2.2.1.2
  have d4 := fun x => (HY.out.next (HF.out x)).2.2.2.2.2.1.2
  have d5 := fun x => (HY.out.next (HF.out x)).2.2.2.2.2.2.1.2
  have d6 := fun x => (HY.out.next (HF.out x)).2.2.2.2.2.2.2.1.2
  have d7 := fun x => (HY.out.next (HF.out x)).2.2.2.2.2.2.2.2.1.2
  have d8 := fun x => (HY.out.next (HF.out x)).2.2.2.2.2.2.2.2.2.1.2
  have d9 := fun x => (HY.out.next (HF.out x)).2.2.2.2.2.2.2.2.2.2.1.2
  have d10 := fun x => (HY.out.next (HF.out x)).2.2.2.2.2.2.2.2.2.2.2.1.2
  have d11 := fun x => (HY.out.next (HF.out x)).2.2.2.2.2.2.2.2.2.2.2.2.1.2
  have d12 := fun x => (HY.out.next (HF.out x)).2.2.2.2.2.2.2.2.2.2.2.2.2.1.2
  have d13 := fun x => (HY.out.next (HF.out x)).2.2.2.2.2.2.2.2.2.2.2.2.2.2.1.2
  have d14 := fun x => (HY.out.next (HF.out x)).2.2.2.2.2.2.2.2.2.2.2.2.2.2.2.1.2
  have d15 := fun x => (HY.out.next (HF.out x)).2.2.2.2.2.2.2.2.2.2.2.2.2.2.2.2.1.2
  have d16 := fun x => (HY.out.next (HF.out x)).2.2.2.2.2.2.2.2.2.2.2.2.2.2.2.2.2.1.2
  have d17 := fun x => (HY.out.next (HF.out x)).2.2.2.2.2.2.2.2.2.2.2.2.2.2.2.2.2.2.1.2
  have d18 := fun x => (HY.out.next (HF.out x)).2.2.2.2.2.2.2.2.2.2.2.2.2.2.2.2.2.2.2.1.2
  clear c0 c1 c2 c3 c4 c5 c6 c7 c8 c9 c10 c11 c12 c13 c14 c15 c16 c17 c18
  have y5 := fun x => ((HF.out x).cell (p := ⟨bD, offD + k * 6 + 5, none⟩) hbD).trans x5
  clear x5
  refine region_calm F (by kernel_rfl) (by kernel_rfl) hst ?_
  repeat (any_goals (first | go_big_quiet_step ((first | (go_at_call 55; refine (RefDeclAt_any p.ds h.nm _ _ capD HP.out.1 ((HP.out.same HY.out.1).same (HF.out _)).2.2.1).mono ?_; rintro e w' ⟨rfl, rfl⟩; rw [HFX.out]; exact ⟨rfl, HNX.out _ _ (Below.refl _ _)⟩) | (go_at_call 70; refine (wkInside_any p _ _ aoT capD capT i aoA capA bc aoS lenS capS aoE lenE capE ar 4 4 d.on HAL.out ((HAR.out.same HY.out.1).same (HF.out _)) ((wkHolds HY.out).next (HF.out _))).mono ?_; rintro e w' ⟨rfl, hb⟩; exact ⟨rfl, HNX.out _ _ hb⟩))) | (refine wpQuiet_step (fun K hK => ?_); go_simp; first | (refine hK _ ?_; clear hK K) | (split <;> first | (refine hK _ ?_; clear hK K) | (apply Exists.intro; refine ⟨fun _ => ?_, hK _ ?_⟩; ((first | (go_at_call 55; refine (RefDeclAt_any p.ds h.nm _ _ capD HP.out.1 ((HP.out.same HY.out.1).same (HF.out _)).2.2.1).mono ?_; rintro e w' ⟨rfl, rfl⟩; rw [HFX.out]; exact ⟨rfl, HNX.out _ _ (Below.refl _ _)⟩) | (go_at_call 70; refine (wkInside_any p _ _ aoT capD capT i aoA capA bc aoS lenS capS aoE lenE capE ar 4 4 d.on HAL.out ((HAR.out.same HY.out.1).same (HF.out _)) ((wkHolds HY.out).next (HF.out _))).mono ?_; rintro e w' ⟨rfl, hb⟩; exact ⟨rfl, HNX.out _ _ hb⟩))); clear hK K)))))
  all_goals (refine wpQuiet_nil ?_; rintro _ ⟨x, rfl⟩)
  replace HY := Lib.hid (HY.out.next (HF.out x))
  clear d0 d1 d2 d3 d4 d5 d6 d7 d8 d9 d10 d11 d12 d13 d14 d15 d16 d17 d18 y5 HF HNX hst
  generalize F x = W2 at *
  generalize insR ar 4 4 d.on = hel at *
  obtain ⟨-, ⟨-, c0⟩, ⟨-, c1⟩, ⟨-, c2⟩, ⟨-, c3⟩, ⟨-, c4⟩, ⟨-, c5⟩, ⟨-, c6⟩, ⟨-, c7⟩, ⟨-, c8⟩, ⟨-, c9⟩, ⟨-, c10⟩, ⟨-, c11⟩, ⟨-, c12⟩, ⟨-, c13⟩, ⟨-, c14⟩, ⟨-, c15⟩, ⟨-, c16⟩, ⟨-, c17⟩, ⟨-, c18⟩, -⟩ := HY.out
  cases tx <;> cases hel <;> cases atm
  all_goals
    go_wp2_with fail
    refine (RefNesting_any _ _).mono ?_
    rintro e' W' ⟨rfl, rfl⟩
    go_wp2_with fail
    go_ret
    exact ⟨ret_int (by first | exact HR'.out.symm | (rw [HR'.out]; first | done | rfl | simp [nest])), HY.out.1⟩
set_option maxHeartbeats 4000000 in
set_option maxRecDepth 100000 in
theorem wkOne11 (h : StH) (b e ar : StL) (s : Sl) (hi : I64 i) (hp : p.At w aoD aoT) (hin : StIn w h b e s) (har : ar.len ≤ maxLen) (hat : ar.At w w.heap.size aoA 0) (hh : Holds w (wkF bc p aoD aoT capD capT i aoA ar.len capA aoS lenS capS aoE lenE capE)) (hop : h.op = 11) :
    Calls Tryd.prog 58 #[.pointer (some ⟨bc, 0, none⟩), stV h b e s] w fun e' w' => e' = .returned (.int .i64 (if wantE (conv (mean p i h.nm)) 5 5 != 0 then wantE (conv (mean p i h.nm)) 5 5 else nest ((insR ar 7 7 ⟨#[]⟩ || !insR ar 4 4 (mutexP p.ds h.nm)) || (false && insR ar 8 8 ⟨#[]⟩)))) ∧ Below w.heap.size w w' := by
  generalize hres : (if wantE (conv (mean p i h.nm)) 5 5 != 0 then wantE (conv (mean p i h.nm)) 5 5 else nest ((insR ar 7 7 ⟨#[]⟩ || !insR ar 4 4 (mutexP p.ds h.nm)) || (false && insR ar 8 8 ⟨#[]⟩))) = res
  have HR : Hid (res = (if wantE (conv (mean p i h.nm)) 5 5 != 0 then wantE (conv (mean p i h.nm)) 5 5 else nest ((insR ar 7 7 ⟨#[]⟩ || !insR ar 4 4 (mutexP p.ds h.nm)) || (false && insR ar 8 8 ⟨#[]⟩)))) := Lib.hid (by rw [← hres])
  have HOP := Lib.hid hop
  clear hres hop
  have HH := Lib.hid (show Sit w w _ from ⟨Below.refl _ _, hh⟩)
  have HSI := Lib.hid hin
  have HAR := Lib.hid hat
  have HAL := Lib.hid har
  have HP := Lib.hid hp
  unfold stV
  clear hh hin hat har hp
  go_enter Tryd.func58, Tryd.ntmps58
  go_upto_region 1 with fail
  generalize hW : World.alloc w _ = W
  generalize Value.agg #[_, _, _, _, _, _, _, _, _, _, _] = a0
  have HX : Hid (Sit w W (stF w.heap.size h b e s (wkF bc p aoD aoT capD capT i aoA ar.len capA aoS lenS capS aoE lenE capE))) := Lib.hid (by rw [← hW]; exact HH.out.box11 rfl _ _ _ _ _ _ _ _ _ _ _ _)
  clear hW HH
  have K0 : ∀ w', Below W.heap.size W w' → w'.cell? ⟨bc, 0, none⟩ = some (.slice aoD p.ds.length capD) := fun w' hb => (HX.out.next hb).2.2.2.2.2.2.2.2.2.2.2.2.1.2
  have K1 : ∀ w', Below W.heap.size W w' → w'.cell? ⟨bc, 1, none⟩ = some (.slice aoT p.ts.length capT) := fun w' hb => (HX.out.next hb).2.2.2.2.2.2.2.2.2.2.2.2.2.1.2
  have K2 : ∀ w', Below W.heap.size W w' → w'.cell? ⟨bc, 2, none⟩ = some (.int .i64 i) := fun w' hb => (HX.out.next hb).2.2.2.2.2.2.2.2.2.2.2.2.2.2.1.2
  have HD1 : Below W.heap.size W (W.drewN 1) := below_drewN (Below.refl _ _) 1
  refine wpAny_start (by kernel_rfl) rfl ?_
  generalize W.drewN 1 = W1 at *
  refine wpAny_phase 0 11 [8, 9] [[], [0], [0, 1], [0, 1, 2], [], [4], [4, 5], [4, 5, 6], [], [0, 1, 2, 3, 8], [0, 1, 2, 3, 4, 5, 6, 7, 8, 9]] [[none, some false], [none, some false], [none, some false], [none, some false], [none, none], [none, none], [none, none], [none, none], [some false, some false], [some true, some false], [some true, some true]] (AC W1 (.cells #[.slice none 0 0, .slice none 0 0] 29) (.cells #[.slice aoD p.ds.length capD, .slice aoT p.ts.length capT] 29)) (fun _ _ => True) [15, 16, 17, 18, 19, 20, 21, 22, 5, 6] rfl rfl (by rfl) (by kernel_rfl) (by kernel_rfl) (by kernel_rfl) (by kernel_rfl) (by kernel_rfl) (by rfl) (fun _ => trivial) (by rfl) rfl ?_
  simp only [List.take_succ_cons, List.take_zero, List.drop_zero, List.drop_succ_cons, dumE, List.map_cons, List.map_nil]
  apply ObP.step
  case hobl =>
    intro c A w' hok hC hO hD
    have e0 := hO 0 (by rfl)
    simp [Act.eval] at e0
    simp [depsL, IsV, slotv, Act.eval, Region.binds] at hD
    simp [go_sem, gd, Oper.wp, hD, e0]
    exact WPost.mk trivial (AC.skip (by rfl) (by rfl) hC) (IsV.mk _ _)
  apply ObP.step
  case hobl =>
    intro c A w' hok hC hO hD
    simp [depsL, IsV, slotv, Act.eval, Region.binds] at hD
    simp [go_sem, gd, Oper.wp, hD]
    exact WPost.mk trivial (AC.skip (by rfl) (by rfl) hC) (IsV.mk _ _)
  apply ObP.step
  case hobl =>
    intro c A w' hok hC hO hD
    simp [depsL, IsV, slotv, Act.eval, Region.binds] at hD
    simp [go_sem, gd, Oper.wp, hD]
    exact WPost.mk trivial (AC.skip (by rfl) (by rfl) hC) (IsV.mk _ _)
  apply ObP.step
  case hobl =>
    intro c A w' hok hC hO hD
    simp [depsL, IsV, slotv, Act.eval, Region.binds] at hD
    simp [go_sem, gd, Oper.wp, hD, K0, K1, AC.below HD1 hC]
    exact WPost.mk trivial (AC.skip (by rfl) (by rfl) hC) (IsV.mk _ _)
  apply ObP.step
  case hobl =>
    intro c A w' hok hC hO hD
    have e0 := hO 0 (by rfl)
    simp [Act.eval] at e0
    simp [depsL, IsV, slotv, Act.eval, Region.binds] at hD
    simp [go_sem, gd, Oper.wp, hD, e0]
    exact WPost.mk trivial (AC.skip (by rfl) (by rfl) hC) (IsV.mk _ _)
  simp only [List.nil_append, List.cons_append]
  apply ObP.step
  case hobl =>
    intro c A w' hok hC hO hD
    simp [depsL, IsV, slotv, Act.eval, Region.binds] at hD
    simp [go_sem, gd, Oper.wp, hD]
    exact WPost.mk trivial (AC.skip (by rfl) (by rfl) hC) (IsV.mk _ _)
  apply ObP.step
  case hobl =>
    intro c A w' hok hC hO hD
    simp [depsL, IsV, slotv, Act.eval, Region.binds] at hD
    simp [go_sem, gd, Oper.wp, hD]
    exact WPost.mk trivial (AC.skip (by rfl) (by rfl) hC) (IsV.mk _ _)
  apply ObP.step
  case hobl =>
    intro c A w' hok hC hO hD
    simp [depsL, IsV, slotv, Act.eval, Region.binds] at hD
    simp [go_sem, gd, Oper.wp, hD, K2, AC.below HD1 hC]
    exact WPost.mk trivial (AC.skip (by rfl) (by rfl) hC) (IsV.mk _ _)
  simp only [List.nil_append, List.cons_append]
  apply ObP.step
  case hobl =>
    intro c A w' hok hC hO hD
    obtain ⟨x, y, rfl⟩ := hC.bits
    obtain ⟨rfl, rfl, -⟩ := hok
    have hw : w' = W1 := hC
    subst hw
    simp [go_sem, gd, Oper.wp]
    exact WPost.mk trivial (AC.lay (by rfl) (by rfl)) (IsV.mk _ _)
  refine ObP.some (fun _ _ => True) (fun _ _ _ _ _ => trivial) ?_ ?_
  · intro c A w' hok hC hO hD
    obtain ⟨x, y, rfl⟩ := hC.bits
    obtain ⟨rfl, rfl, -⟩ := hok
    have hw : w' = W1.alloc _ := hC
    subst hw
    simp [depsL, IsV, slotv, Act.eval, Region.binds] at hD
    simp [go_sem, gd, Oper.wp, hD]
    exact WPost.mk0 (v := undef) trivial (AC.fill (by rfl) (by rfl)) trivial
  simp only [List.nil_append, List.cons_append]
  apply ObP.step
  case hobl =>
    intro c A w' hok hC hO hD
    simp [depsL, IsV, slotv, Act.eval, Region.binds] at hD
    simp [go_sem, gd, Oper.wp, hD]
    exact WPost.mk trivial (AC.skip (by rfl) (by rfl) hC) (IsV.mk _ _)
  simp only [List.nil_append, List.cons_append]
  refine ObP.done ?_
  intro wz hCz
  simp only [List.drop_zero]
  intro v0 h0 v1 h1 v2 h2 v3 h3 v4 h4 v5 h5 v6 h6 v7 h7 v8 h8 v9 h9 v10 h10
  have h8' : v8 = _ := h8
  have h10' : v10 = _ := h10
  subst h8' h10'
  clear h0 h1 h2 h3 h4 h5 h6 h7 h8 h9 h10
  refine AllVals.nil ?_
  refine wpAny_end rfl ?_
  have hCz' : wz = W1.alloc _ := hCz
  generalize hn1 : W1.heap.size = n1 at *
  have HY := Lib.hid ((HX.out.next HD1).box2 hn1 (.slice aoD p.ds.length capD) (.slice aoT p.ts.length capT) 29)
  rw [← hCz'] at HY
  clear hCz hCz' HX K0 K1 K2 HD1 hn1
  go_simp
  obtain ⟨-, ⟨-, c0⟩, ⟨-, c1⟩, ⟨-, c2⟩, ⟨-, c3⟩, ⟨-, c4⟩, ⟨-, c5⟩, ⟨-, c6⟩, ⟨-, c7⟩, ⟨-, c8⟩, ⟨-, c9⟩, ⟨-, c10⟩, ⟨-, c11⟩, ⟨-, c12⟩, ⟨-, c13⟩, ⟨-, c14⟩, ⟨-, c15⟩, ⟨-, c16⟩, ⟨-, c17⟩, ⟨-, c18⟩, -⟩ := HY.out
  go_wp2_with fail
  refine (wkInside_any p _ aoD aoT capD capT i aoA capA bc aoS lenS capS aoE lenE capE ar 7 7 ⟨#[]⟩ HAL.out (HAR.out.same HY.out.1) (wkHolds HY.out)).mono ?_
  rintro e' W ⟨rfl, hb⟩
  replace HY := Lib.hid (HY.out.next hb)
  clear hb c0 c1 c2 c3 c4 c5 c6 c7 c8 c9 c10 c11 c12 c13 c14 c15 c16 c17 c18
  obtain ⟨-, ⟨-, c0⟩, ⟨-, c1⟩, ⟨-, c2⟩, ⟨-, c3⟩, ⟨-, c4⟩, ⟨-, c5⟩, ⟨-, c6⟩, ⟨-, c7⟩, ⟨-, c8⟩, ⟨-, c9⟩, ⟨-, c10⟩, ⟨-, c11⟩, ⟨-, c12⟩, ⟨-, c13⟩, ⟨-, c14⟩, ⟨-, c15⟩, ⟨-, c16⟩, ⟨-, c17⟩, ⟨-, c18⟩, -⟩ := HY.out
  go_wp2_with fail
  refine (wkInside_any p _ aoD aoT capD capT i aoA capA bc aoS lenS capS aoE lenE capE ar 8 8 ⟨#[]⟩ HAL.out (HAR.out.same HY.out.1) (wkHolds HY.out)).mono ?_
  rintro e' W ⟨rfl, hb⟩
  replace HY := Lib.hid (HY.out.next hb)
  clear hb c0 c1 c2 c3 c4 c5 c6 c7 c8 c9 c10 c11 c12 c13 c14 c15 c16 c17 c18
  obtain ⟨-, ⟨-, c0⟩, ⟨-, c1⟩, ⟨-, c2⟩, ⟨-, c3⟩, ⟨-, c4⟩, ⟨-, c5⟩, ⟨-, c6⟩, ⟨-, c7⟩, ⟨-, c8⟩, ⟨-, c9⟩, ⟨-, c10⟩, ⟨-, c11⟩, ⟨-, c12⟩, ⟨-, c13⟩, ⟨-, c14⟩, ⟨-, c15⟩, ⟨-, c16⟩, ⟨-, c17⟩, ⟨-, c18⟩, -⟩ := HY.out
  go_wp2_with fail
  refine (wkInside_any p _ aoD aoT capD capT i aoA capA bc aoS lenS capS aoE lenE capE ar 3 3 ⟨#[]⟩ HAL.out (HAR.out.same HY.out.1) (wkHolds HY.out)).mono ?_
  rintro e' W ⟨rfl, hb⟩
  replace HY := Lib.hid (HY.out.next hb)
  clear hb c0 c1 c2 c3 c4 c5 c6 c7 c8 c9 c10 c11 c12 c13 c14 c15 c16 c17 c18
  obtain ⟨-, ⟨-, c0⟩, ⟨-, c1⟩, ⟨-, c2⟩, ⟨-, c3⟩, ⟨-, c4⟩, ⟨-, c5⟩, ⟨-, c6⟩, ⟨-, c7⟩, ⟨-, c8⟩, ⟨-, c9⟩, ⟨-, c10⟩, ⟨-, c11⟩, ⟨-, c12⟩, ⟨-, c13⟩, ⟨-, c14⟩, ⟨-, c15⟩, ⟨-, c16⟩, ⟨-, c17⟩, ⟨-, c18⟩, -⟩ := HY.out
  generalize htx : insR ar 7 7 ⟨#[]⟩ = tx at *
  generalize hat' : insR ar 8 8 ⟨#[]⟩ = atm at *
  generalize hlo : insR ar 3 3 ⟨#[]⟩ = lop at *
  clear htx hat' hlo
  have hop := HOP.out
  have g1 : (h.op == 1) = false := by rw [hop]; rfl
  have g2 : (h.op == 2) = false := by rw [hop]; rfl
  have g3 : (h.op == 3) = false := by rw [hop]; rfl
  have g4 : (h.op == 4) = false := by rw [hop]; rfl
  have g5 : (h.op == 5) = false := by rw [hop]; rfl
  have g6 : (h.op == 6) = false := by rw [hop]; rfl
  have g7 : (h.op == 7) = false := by rw [hop]; rfl
  have g8 : (h.op == 8) = false := by rw [hop]; rfl
  have g9 : (h.op == 9) = false := by rw [hop]; rfl
  have g10 : (h.op == 10) = false := by rw [hop]; rfl
  have g11 : (h.op == 11) = true := by rw [hop]; rfl
  have g12 : (h.op == 12) = false := by rw [hop]; rfl
  have g13 : (h.op == 13) = false := by rw [hop]; rfl
  have g14 : (h.op == 14) = false := by rw [hop]; rfl
  have g15 : (h.op == 15) = false := by rw [hop]; rfl
  clear hop
  go_wp2_with fail
  refine (want_any p i h.nm 5 5 _ aoD aoT capD capT hi (HP.out.same HY.out.1)).mono ?_
  rintro e' W ⟨rfl, hb⟩
  replace HY := Lib.hid (HY.out.next hb)
  clear hb c0 c1 c2 c3 c4 c5 c6 c7 c8 c9 c10 c11 c12 c13 c14 c15 c16 c17 c18
  obtain ⟨-, ⟨-, c0⟩, ⟨-, c1⟩, ⟨-, c2⟩, ⟨-, c3⟩, ⟨-, c4⟩, ⟨-, c5⟩, ⟨-, c6⟩, ⟨-, c7⟩, ⟨-, c8⟩, ⟨-, c9⟩, ⟨-, c10⟩, ⟨-, c11⟩, ⟨-, c12⟩, ⟨-, c13⟩, ⟨-, c14⟩, ⟨-, c15⟩, ⟨-, c16⟩, ⟨-, c17⟩, ⟨-, c18⟩, -⟩ := HY.out
  have HDF := Lib.hid (decl_first (p := p) (i := i) (nm := h.nm))
  generalize wantE (conv (mean p i h.nm)) 5 5 = q at *
  cases hq : (q != 0)
  case true =>
    have HR' : Hid (res = q) := Lib.hid (HR.out.trans (if_pos hq))
    clear HDF HR
    go_wp2_with fail
    go_ret
    exact ⟨ret_int HR'.out.symm, HY.out.1⟩
  obtain ⟨k, d, r, hk, hfx, hdr, -, -, hmu⟩ := HDF.out (by simpa using hq)
  have HR' : Hid (res = nest ((tx || !insR ar 4 4 d.on) || (false && atm))) := Lib.hid (HR.out.trans ((if_neg (by rw [hq]; decide)).trans (by rw [hmu])))
  have HFX : Hid (atDe p.ds h.nm = (k : Int)) := Lib.hid hfx
  have hrow := (HP.out.same HY.out.1).2.2.1.drop k
  rw [hdr, Nat.zero_add] at hrow
  obtain ⟨⟨bD, offD, rfl, hbD, -, -, -, -, -, x5, -⟩, -⟩ := hrow
  have hk0 : (0 : Int) ≤ (k : Int) := by omega
  have hk1 : (k : Int) < (p.ds.length : Int) := by omega
  clear HR HDF hfx hmu hdr
  go_upto_region 28 with fail
  obtain ⟨T, F, hinh, hst, hF, hnext⟩ := calm W
  have HF := Lib.hid hF
  have HNX := Lib.hid hnext
  clear hnext hF
  have d0 := fun x => (HY.out.next (HF.out x)).2.1.2
  have d1 := fun x => (HY.out.next (HF.out x)).2.2.1.2
  have d2 := fun x => (HY.out.next (HF.out x)).2.2.2.1.2
  have d3 := fun x => (HY.out.next (HF.out x)).2.2.2.2.1.2
  have d4 := fun x => (HY.out.next (HF.out x)).2.2.2.2.2.1.2
  have d5 := fun x => (HY.out.next (HF.out x)).2.2.2.2.2.2.1.2
  have d6 := fun x => (HY.out.next (HF.out x)).2.2.2.2.2.2.2.1.2
  have d7 := fun x => (HY.out.next (HF.out x)).2.2.2.2.2.2.2.2.1.2
  have d8 := fun x => (HY.out.next (HF.out x)).2.2.2.2.2.2.2.2.2.1.2
  have d9 := fun x => (HY.out.next (HF.out x)).2.2.2.2.2.2.2.2.2.2.1.2
  have d10 := fun x => (HY.out.next (HF.out x)).2.2.2.2.2.2.2.2.2.2.2.1.2
  have d11 := fun x => (HY.out.next (HF.out x)).2.2.2.2.2.2.2.2.2.2.2.2.1.2
  have d12 := fun x => (HY.out.next (HF.out x)).2.2.2.2.2.2.2.2.2.2.2.2.2.1.2
  have d13 := fun x => (HY.out.next (HF.out x)).2.2.2.2.2.2.2.2.2.2.2.2.2.2.1.2
  have d14 := fun x => (HY.out.next (HF.out x)).2.2.2.2.2.2.2.2.2.2.2.2.2.2.2.1.2
  have d15 := fun x => (HY.out.next (HF.out x)).2.2.2.2.2.2.2.2.2.2.2.2.2.2.2.2.1.2
  have d16 := fun x => (HY.out.next (HF.out x)).2.2.2.2.2.2.2.2.2.2.2.2.2.2.2.2.2.1.2
  have d17 := fun x => (HY.out.next (HF.out x)).2.2.2.2.2.2.2.2.2.2.2.2.2.2.2.2.2.2.1.2
  have d18 := fun x => (HY.out.next (HF.out x)).2.2.2.2.2.2.2.2.2.2.2.2.2.2.2.2.2.2.2.1.2
  clear c0 c1 c2 c3 c4 c5 c6 c7 c8 c9 c10 c11 c12 c13 c14 c15 c16 c17 c18
  have y5 := fun x => ((HF.out x).cell (p := ⟨bD, offD + k * 6 + 5, none⟩) hbD).trans x5
  clear x5
  refine region_calm F (by kernel_rfl) (by kernel_rfl) hst ?_
  repeat (any_goals (first | go_big_quiet_step ((first | (go_at_call 55; refine (RefDeclAt_any p.ds h.nm _ _ capD HP.out.1 ((HP.out.same HY.out.1).same (HF.out _)).2.2.1).mono ?_; rintro e w' ⟨rfl, rfl⟩; rw [HFX.out]; exact ⟨rfl, HNX.out _ _ (Below.refl _ _)⟩) | (go_at_call 70; refine (wkInside_any p _ _ aoT capD capT i aoA capA bc aoS lenS capS aoE lenE capE ar 4 4 d.on HAL.out ((HAR.out.same HY.out.1).same (HF.out _)) ((wkHolds HY.out).next (HF.out _))).mono ?_; rintro e w' ⟨rfl, hb⟩; exact ⟨rfl, HNX.out _ _ hb⟩))) | (refine wpQuiet_step (fun K hK => ?_); go_simp; first | (refine hK _ ?_; clear hK K) | (split <;> first | (refine hK _ ?_; clear hK K) | (apply Exists.intro; refine ⟨fun _ => ?_, hK _ ?_⟩; ((first | (go_at_call 55; refine (RefDeclAt_any p.ds h.nm _ _ capD HP.out.1 ((HP.out.same HY.out.1).same (HF.out _)).2.2.1).mono ?_; rintro e w' ⟨rfl, rfl⟩; rw [HFX.out]; exact ⟨rfl, HNX.out _ _ (Below.refl _ _)⟩) | (go_at_call 70; refine (wkInside_any p _ _ aoT capD capT i aoA capA bc aoS lenS capS aoE lenE capE ar 4 4 d.on HAL.out ((HAR.out.same HY.out.1).same (HF.out _)) ((wkHolds HY.out).next (HF.out _))).mono ?_; rintro e w' ⟨rfl, hb⟩; exact ⟨rfl, HNX.out _ _ hb⟩))); clear hK K)))))
  all_goals (refine wpQuiet_nil ?_; rintro _ ⟨x, rfl⟩)
  replace HY := Lib.hid (HY.out.next (HF.out x))
  clear d0 d1 d2 d3 d4 d5 d6 d7 d8 d9 d10 d11 d12 d13 d14 d15 d16 d17 d18 y5 HF HNX hst
  generalize F x = W2 at *
  generalize insR ar 4 4 d.on = hel at *
  obtain ⟨-, ⟨-, c0⟩, ⟨-, c1⟩, ⟨-, c2⟩, ⟨-, c3⟩, ⟨-, c4⟩, ⟨-, c5⟩, ⟨-, c6⟩, ⟨-, c7⟩, ⟨-, c8⟩, ⟨-, c9⟩, ⟨-, c10⟩, ⟨-, c11⟩, ⟨-, c12⟩, ⟨-, c13⟩, ⟨-, c14⟩, ⟨-, c15⟩, ⟨-, c16⟩, ⟨-, c17⟩, ⟨-, c18⟩, -⟩ := HY.out
  cases tx <;> cases hel <;> cases atm
  all_goals
    go_wp2_with fail
    refine (RefNesting_any _ _).mono ?_
    rintro e' W' ⟨rfl, rfl⟩
    go_wp2_with fail
    go_ret
    exact ⟨ret_int (by first | exact HR'.out.symm | (rw [HR'.out]; first | done | rfl | simp [nest])), HY.out.1⟩
end
end Go.Proofs.YtghdammalphmfaaDoor
