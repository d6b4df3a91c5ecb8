/-
  Contract of the checker's statement at set.
  Contract of the checker's statement at spawn.
-/
import Derived.Test.YtommnhglgedflaaGreatDoorGMF
section
set_option linter.unusedSimpArgs false
set_option linter.unusedVariables false
namespace Go.Proofs.YtommnhglgedflaaGreatDoor
open Go.RowKit
open Md
theorem grow_trans {b : Nat} {w1 w2 w3 : World} (h : w1.grownBy w2 (some b)) (k : w2.grownBy w3 (some b)) : w1.grownBy w3 (some b) :=
  ⟨k.os.trans h.os, k.tape.trans h.tape, k.output.trans h.output, Nat.le_trans h.size k.size, fun j hj hne => (k.block j (Nat.lt_of_lt_of_le hj h.size) hne).trans (h.block j hj hne)⟩
theorem grow_below {b : Nat} {w w' : World} (h : Below w.heap.size w w') : w.grownBy w' (some b) := ⟨h.os, h.tape, h.output, h.size, fun k hk _ => h.block k hk⟩
theorem grow_refl {b : Nat} (w : World) : w.grownBy w (some b) := grow_below (Below.refl _ _)
/-- The map's block alone is written. -/
def MC (W : World) (bm n : Nat) (f f' : List UInt8 → Bool) (β : Bool) (w' : World) : Prop := W.grownBy w' (some bm) ∧ MapB w' bm (n + β.toNat) (if β then f' else f)
theorem MC.below {W : World} {bm n : Nat} {f f' : List UInt8 → Bool} {β : Bool} {w' w2 : World} (h : MC W bm n f f' β w') (hb : Below w'.heap.size w' w2) : MC W bm n f f' β w2 := ⟨grow_trans h.1 (grow_below hb), h.2.next hb⟩
theorem InAt.grow {w w' : World} {b bm : Nat} (hb : b ≠ bm) (hg : w.grownBy w' (some bm)) : ∀ {l : List Int} {k : Nat}, InAt w w.heap.size l (some ⟨b, 0, none⟩) k → InAt w' w'.heap.size l (some ⟨b, 0, none⟩) k
  | [], _, _ => trivial
  | _ :: _, _, ⟨⟨b1, off, e, hB, c⟩, hr⟩ => by
    injection e with e; injection e with e1 e2; subst e1; subst e2
    exact ⟨⟨b, 0, rfl, Nat.lt_of_lt_of_le hB hg.size, (World.cell?_of_block (hg.block b hB (by simp; exact hb))).trans c⟩, InAt.grow hb hg hr⟩
theorem Sit.mc {w W w' : World} {fs : List (Nat × Nat × Value)} {bm : Nat} (h : Sit w W fs) (hg : W.grownBy w' (some bm)) (hne : ∀ f ∈ fs, f.1 ≠ bm) : Holds w' fs := h.2.grown hg hne
/-- What a statement that sets leaves. -/
def SetPost (v : Int) (w : World) (bm n : Nat) (f : List UInt8 → Bool) (e : Ending) (w' : World) : Prop := e = .returned (.int .i64 v) ∧ MapB w' bm n f ∧ w.grownBy w' (some bm)
theorem setPost_mk {v : Value} {res : Int} {w W wz : World} {bm n : Nat} {f f' : List UInt8 → Bool} (h : v = .int .i64 res) (hz : MC W bm n f f' true wz) (hg : ∀ w', W.grownBy w' (some bm) → w.grownBy w' (some bm)) : SetPost res w bm (n + 1) f' (.returned v) wz :=
  ⟨by rw [h], hz.2, hg _ hz.1⟩
theorem inAt_four (w : World) (a b c d : Int) (t : TypeId) : InAt (w.alloc (.cells #[.int .i64 a, .int .i64 b, .int .i64 c, .int .i64 d] t)) (w.alloc (.cells #[.int .i64 a, .int .i64 b, .int .i64 c, .int .i64 d] t)).heap.size [a, b, c, d] (some ⟨w.heap.size, 0, none⟩) 0 :=
  ⟨⟨_, _, rfl, by simp, box_cells w [.int .i64 a, .int .i64 b, .int .i64 c, .int .i64 d] t 0⟩, ⟨_, _, rfl, by simp, box_cells w [.int .i64 a, .int .i64 b, .int .i64 c, .int .i64 d] t 1⟩, ⟨_, _, rfl, by simp, box_cells w [.int .i64 a, .int .i64 b, .int .i64 c, .int .i64 d] t 2⟩, ⟨_, _, rfl, by simp, box_cells w [.int .i64 a, .int .i64 b, .int .i64 c, .int .i64 d] t 3⟩, trivial⟩
section
variable (p : Pr) (w : World) (aoD aoT : Option Addr) (capD capT : Nat) (i : Int) (aoA : Option Addr) (capA bs bt bc : Nat)

set_option maxHeartbeats 4000000 in
set_option maxRecDepth 100000 in
theorem ckStmt14 (h : StH) (b e ar : StL) (s : Sl) (hi : I64 i) (hp : ∀ w', w.grownBy w' (some bt) → p.At w' aoD aoT) (hok : StOk h b e) (hex : ∀ w', w.grownBy w' (some bt) → h.xkids.At w' w'.heap.size s.aox 0) (hkw : ∀ w', w.grownBy w' (some bt) → KwLaid w') (har : ar.len ≤ maxLen) (hat : ∀ w', w.grownBy w' (some bt) → ar.At w' w'.heap.size aoA 0) (hh : Holds w (ckF bc p aoD aoT capD capT i aoA ar.len capA bs bt)) (hbc : bc ≠ bt) (n : Nat) (f : List UInt8 → Bool) (hn : n < maxLen) (hmap : MapB w bt n f) (hop : h.op = 14) :
    Calls Tryz.prog 136 #[.pointer (some ⟨bc, 0, none⟩), stV h b e s] w (SetPost (firstE [kindE (mean p i h.nm) [7], nest (insP ar [7, 3]), (onceE (f h.nm.toList)), exE p i h.xop h.xn h.xnm h.xkids]) w bt (n + 1) (setP f h.nm.toList)) := by
  have HH := Lib.hid (show Sit w w _ from ⟨Below.refl _ _, hh⟩)
  obtain ⟨aoi, capi, aox, capx, aob, capb, aoe, cape⟩ := s
  have hxk := hok.2.2.2.2.2.1
  have hns := hok.2.2.1
  generalize hres : firstE [kindE (mean p i h.nm) [7], nest (insP ar [7, 3]), (onceE (f h.nm.toList)), exE p i h.xop h.xn h.xnm h.xkids] = res
  have HR := Lib.hid hres
  have HOP := Lib.hid hop
  have HNS := Lib.hid hns
  have HN := Lib.hid hn
  have hlt := hmap.lt
  clear hres hop hn hns
  unfold stV
  dsimp only
  dsimp only at hex
  go_enter Tryz.func136, Tryz.ntmps136
  go_upto_region 1 with fail
  generalize hW : World.alloc w _ = W
  generalize Value.agg #[_, _, _, _, _, _, _, _, _, _, _] = a0
  have HX : Hid (Sit w W (stF w.heap.size h b e ⟨aoi, capi, aox, capx, aob, capb, aoe, cape⟩ (ckF bc p aoD aoT capD capT i aoA ar.len capA bs bt))) := Lib.hid (by rw [← hW]; exact HH.out.box11 rfl _ _ _ _ _ _ _ _ _ _ _ _)
  clear hW HH
  have HG : Hid (∀ w', W.grownBy w' (some bt) → w.grownBy w' (some bt)) := Lib.hid (fun w' hg => grow_trans (grow_below HX.out.1) hg)
  have HP := Lib.hid (fun w' hg => hp w' (HG.out w' hg))
  have HKW := Lib.hid (fun w' hg => hkw w' (HG.out w' hg))
  have HAX := Lib.hid (fun w' hg => hex w' (HG.out w' hg))
  have HAR := Lib.hid (fun w' hg => hat w' (HG.out w' hg))
  have HAL := Lib.hid har
  have HM := Lib.hid (hmap.next HX.out.1)
  have HF : Hid (∀ w', W.grownBy w' (some bt) → Holds w' (stF w.heap.size h b e ⟨aoi, capi, aox, capx, aob, capb, aoe, cape⟩ (ckF bc p aoD aoT capD capT i aoA ar.len capA bs bt))) := Lib.hid (fun w' hg => HX.out.mc hg (by
    intro x hx
    simp only [stF, ckF, List.mem_cons, List.not_mem_nil, or_false] at hx
    rcases hx with rfl | rfl | rfl | rfl | rfl | rfl | rfl | rfl | rfl | rfl | rfl | rfl | rfl | rfl | rfl | rfl | rfl <;> first | exact hbc | (show w.heap.size ≠ bt; omega)))
  have HK : Hid (∀ w', W.grownBy w' (some bt) → Holds w' (ckF bc p aoD aoT capD capT i aoA ar.len capA bs bt)) := Lib.hid (fun w' hg => (HF.out w' hg).2.2.2.2.2.2.2.2.2.2.2)
  clear hp hkw hh hat har hex hmap hlt hbc
  have L0 : ∀ w', W.grownBy w' (some bt) → w'.cell? ⟨w.heap.size, 0, none⟩ = some (.int .i64 h.op) := fun w' hb => (HF.out w' hb).1.2
  have L2 : ∀ w', W.grownBy w' (some bt) → w'.cell? ⟨w.heap.size, 2, none⟩ = some (.string h.nm) := fun w' hb => (HF.out w' hb).2.2.1.2
  have L5 : ∀ w', W.grownBy w' (some bt) → w'.cell? ⟨w.heap.size, 5, none⟩ = some (.int .i64 h.xop) := fun w' hb => (HF.out w' hb).2.2.2.2.2.1.2
  have L6 : ∀ w', W.grownBy w' (some bt) → w'.cell? ⟨w.heap.size, 6, none⟩ = some (.int .i64 h.xn) := fun w' hb => (HF.out w' hb).2.2.2.2.2.2.1.2
  have L7 : ∀ w', W.grownBy w' (some bt) → w'.cell? ⟨w.heap.size, 7, none⟩ = some (.string h.xnm) := fun w' hb => (HF.out w' hb).2.2.2.2.2.2.2.1.2
  have L8 : ∀ w', W.grownBy w' (some bt) → w'.cell? ⟨w.heap.size, 8, none⟩ = some (.slice aox h.xkids.len capx) := fun w' hb => (HF.out w' hb).2.2.2.2.2.2.2.2.1.2
  have LM : ∀ w', W.grownBy w' (some bt) → w'.cell? ⟨bc, 5, none⟩ = some (.map (some bt)) := fun w' hb => (HK.out w' hb).2.2.2.2.2.1.2
  have l0 := L0 W (grow_refl _)
  have hop := HOP.out
  have g1 : (h.op == 1) = false := by rw [hop]; rfl
  have g2 : (h.op == 2) = false := by rw [hop]; rfl
  have g3 : (h.op == 3) = false := by rw [hop]; rfl
  have g4 : (h.op == 4) = false := by rw [hop]; rfl
  have g5 : (h.op == 5) = false := by rw [hop]; rfl
  have g6 : (h.op == 6) = false := by rw [hop]; rfl
  have g7 : (h.op == 7) = false := by rw [hop]; rfl
  have g8 : (h.op == 8) = false := by rw [hop]; rfl
  have g9 : (h.op == 9) = false := by rw [hop]; rfl
  have g10 : (h.op == 10) = false := by rw [hop]; rfl
  have g11 : (h.op == 11) = false := by rw [hop]; rfl
  have g12 : (h.op == 12) = false := by rw [hop]; rfl
  have g13 : (h.op == 13) = false := by rw [hop]; rfl
  have g14 : (h.op == 14) = true := by rw [hop]; rfl
  have g15 : (h.op == 15) = false := by rw [hop]; rfl
  clear hop l0
  have l0 := L0 W (grow_refl _)
  go_upto_region 25 with fail
  refine wp_region_wildK 15 (MC W bt n f (setP f h.nm.toList)) (fun w w' => w.grownBy w' (some bt)) [169, 170, 171, 172, 173, 174, 175, 176, 177, 178, 179, 180, 181, 182, 183, 184, 185, 186, 187, 188, 189, 190, 4] (by kernel_rfl) (by kernel_rfl) (fun _ => grow_refl _) (by rfl) ⟨grow_below (below_drewN (Below.refl _ _) 1), by simpa using HM.out.next (below_drewN (Below.refl _ _) 1)⟩ ?_
  apply ObE.step
  case hobl =>
    intro β A w' hβ hC hO hD
    have e0 := hO 0 (by rfl)
    have e3 := hO 3 (by rfl)
    simp [Act.eval] at e0 e3
    simp [depsL, IsV, slotv, Act.eval, Region.binds] at hD
    simp [go_sem, gd, Oper.wp, e0, e3, hD]
    exact WPost.mk (grow_refl _) (by simpa using hC) (IsV.mk _ _)
  apply ObE.step
  case hobl =>
    intro β A w' hβ hC hO hD
    have e0 := hO 0 (by rfl)
    have e3 := hO 3 (by rfl)
    simp [Act.eval] at e0 e3
    simp [depsL, IsV, slotv, Act.eval, Region.binds] at hD
    simp [go_sem, gd, Oper.wp, e0, e3, hD]
    exact WPost.mk (grow_refl _) (by simpa using hC) (IsV.mk _ _)
  apply ObE.step
  case hobl =>
    intro β A w' hβ hC hO hD
    have e0 := hO 0 (by rfl)
    have e3 := hO 3 (by rfl)
    simp [Act.eval] at e0 e3
    simp [depsL, IsV, slotv, Act.eval, Region.binds] at hD
    simp [go_sem, gd, Oper.wp, e0, e3, hD, L2, hC.1]
    exact WPost.mk (grow_refl _) (by simpa using hC) (IsV.mk _ _)
  refine ObE.some (fun v w' => ∃ b, b ≠ bt ∧ v = .slice (some ⟨b, 0, none⟩) 1 1 ∧ InAt w' w'.heap.size [7] (some ⟨b, 0, none⟩) 0) ?_ ?_ ?_
  · rintro v w w' hle ⟨b, hbn, rfl, hin⟩
    exact ⟨b, hbn, rfl, InAt.grow hbn hle hin⟩
  · intro β A w' hβ hC hO hD
    simp [go_sem, gd, Oper.wp]
    exact WPost.mk (d := _) (v := .slice (some ⟨_, 0, none⟩) 1 1) (grow_below (alloc_below _ _)) (by simpa using hC.below (alloc_below _ _)) ⟨_, by have := hC.2.lt; omega, rfl, inAt_one _ 7 _⟩
  apply ObE.step
  case hobl =>
    intro β A w' hβ hC hO hD
    simp [depsL, IsV, slotv, Act.eval, Region.binds] at hD
    obtain ⟨d169, d171, b172, hn172, d172, hin172⟩ := hD
    simp [go_sem, gd, Oper.wp, d169, d171, d172]
    refine (ckKind_any p w' aoD aoT capD capT _ aoA _ capA bs bt bc h.nm [7] _ 1 hi (by decide) (HP.out _ hC.1) hin172 (HK.out _ hC.1)).mono ?_
    rintro e' w2 ⟨rfl, hb⟩
    exact WPost.mk (grow_below hb) (by simpa using hC.below hb) (IsV.mk _ _)
  apply ObE.step
  case hobl =>
    intro β A w' hβ hC hO hD
    have e0 := hO 0 (by rfl)
    have e3 := hO 3 (by rfl)
    simp [Act.eval] at e0 e3
    simp [depsL, IsV, slotv, Act.eval, Region.binds] at hD
    simp [go_sem, gd, Oper.wp, e0, e3, hD]
    exact WPost.mk (grow_refl _) (by simpa using hC) (IsV.mk _ _)
  refine ObE.some (fun v w' => ∃ b, b ≠ bt ∧ v = .slice (some ⟨b, 0, none⟩) 2 2 ∧ InAt w' w'.heap.size [7, 3] (some ⟨b, 0, none⟩) 0) ?_ ?_ ?_
  · rintro v w w' hle ⟨b, hbn, rfl, hin⟩
    exact ⟨b, hbn, rfl, InAt.grow hbn hle hin⟩
  · intro β A w' hβ hC hO hD
    simp [go_sem, gd, Oper.wp]
    exact WPost.mk (d := _) (v := .slice (some ⟨_, 0, none⟩) 2 2) (grow_below (alloc_below _ _)) (by simpa using hC.below (alloc_below _ _)) ⟨_, by have := hC.2.lt; omega, rfl, inAt_two _ 7 3 _⟩
  apply ObE.step
  case hobl =>
    intro β A w' hβ hC hO hD
    simp [depsL, IsV, slotv, Act.eval, Region.binds] at hD
    obtain ⟨d174, ⟨b175, hn175, d175, hin175⟩, -⟩ := hD
    simp [go_sem, gd, Oper.wp, d174, d175]
    refine (ckInside_any p w' aoD aoT capD capT _ aoA capA bs bt bc ar [7, 3] _ 2 (by decide) hin175 HAL.out (HAR.out _ hC.1) (HK.out _ hC.1)).mono ?_
    rintro e' w2 ⟨rfl, hb⟩
    exact WPost.mk (grow_below hb) (by simpa using hC.below hb) (IsV.mk _ _)
  apply ObE.step
  case hobl =>
    intro β A w' hβ hC hO hD
    simp [depsL, IsV, slotv, Act.eval, Region.binds] at hD
    simp [go_sem, gd, Oper.wp, hD]
    refine (nesting_any (insP ar [7, 3]) w').mono ?_
    rintro e' w2 ⟨rfl, rfl⟩
    exact WPost.mk (grow_refl _) (by simpa using hC) (IsV.mk _ _)
  apply ObE.step
  case hobl =>
    intro β A w' hβ hC hO hD
    have e0 := hO 0 (by rfl)
    have e3 := hO 3 (by rfl)
    simp [Act.eval] at e0 e3
    simp [depsL, IsV, slotv, Act.eval, Region.binds] at hD
    simp [go_sem, gd, Oper.wp, e0, e3, hD]
    exact WPost.mk (grow_refl _) (by simpa using hC) (IsV.mk _ _)
  apply ObE.step
  case hobl =>
    intro β A w' hβ hC hO hD
    have e0 := hO 0 (by rfl)
    have e3 := hO 3 (by rfl)
    simp [Act.eval] at e0 e3
    simp [depsL, IsV, slotv, Act.eval, Region.binds] at hD
    simp [go_sem, gd, Oper.wp, e0, e3, hD]
    exact WPost.mk (grow_refl _) (by simpa using hC) (IsV.mk _ _)
  apply ObE.step
  case hobl =>
    intro β A w' hβ hC hO hD
    have e0 := hO 0 (by rfl)
    have e3 := hO 3 (by rfl)
    simp [Act.eval] at e0 e3
    simp [depsL, IsV, slotv, Act.eval, Region.binds] at hD
    simp [go_sem, gd, Oper.wp, e0, e3, hD]
    exact WPost.mk (grow_refl _) (by simpa using hC) (IsV.mk _ _)
  apply ObE.step
  case hobl =>
    intro β A w' hβ hC hO hD
    have e0 := hO 0 (by rfl)
    have e3 := hO 3 (by rfl)
    simp [Act.eval] at e0 e3
    simp [depsL, IsV, slotv, Act.eval, Region.binds] at hD
    simp [go_sem, gd, Oper.wp, e0, e3, hD, LM, hC.1]
    exact WPost.mk (grow_refl _) (by simpa using hC) (IsV.mk _ _)
  apply ObE.step
  case hobl =>
    intro β A w' hβ hC hO hD
    have e0 := hO 0 (by rfl)
    have e3 := hO 3 (by rfl)
    simp [Act.eval] at e0 e3
    simp [depsL, IsV, slotv, Act.eval, Region.binds] at hD
    simp [go_sem, gd, Oper.wp, e0, e3, hD]
    exact WPost.mk (grow_refl _) (by simpa using hC) (IsV.mk _ _)
  apply ObE.step
  case hobl =>
    intro β A w' hβ hC hO hD
    have e0 := hO 0 (by rfl)
    have e3 := hO 3 (by rfl)
    simp [Act.eval] at e0 e3
    simp [depsL, IsV, slotv, Act.eval, Region.binds] at hD
    simp [go_sem, gd, Oper.wp, e0, e3, hD, L2, hC.1]
    exact WPost.mk (grow_refl _) (by simpa using hC) (IsV.mk _ _)
  apply ObE.step
  case hobl =>
    intro β A w' hβ hC hO hD
    obtain rfl := hβ (by simp)
    simp [depsL, IsV, slotv, Act.eval, Region.binds] at hD
    simp [go_sem, gd, Oper.wp, hD]
    refine (once_any h.nm w' bt n f HN.out HNS.out (by simpa using hC.2)).mono ?_
    rintro e' w2 ⟨rfl, hm2, hg2⟩
    exact WPost.mk hg2 ⟨grow_trans hC.1 hg2, by simpa using hm2⟩ (IsV.mk _ _)
  apply ObE.step
  case hobl =>
    intro β A w' hβ hC hO hD
    have e0 := hO 0 (by rfl)
    have e3 := hO 3 (by rfl)
    simp [Act.eval] at e0 e3
    simp [depsL, IsV, slotv, Act.eval, Region.binds] at hD
    simp [go_sem, gd, Oper.wp, e0, e3, hD]
    exact WPost.mk (grow_refl _) (by simpa using hC) (IsV.mk _ _)
  apply ObE.step
  case hobl =>
    intro β A w' hβ hC hO hD
    have e0 := hO 0 (by rfl)
    have e3 := hO 3 (by rfl)
    simp [Act.eval] at e0 e3
    simp [depsL, IsV, slotv, Act.eval, Region.binds] at hD
    simp [go_sem, gd, Oper.wp, e0, e3, hD]
    exact WPost.mk (grow_refl _) (by simpa using hC) (IsV.mk _ _)
  apply ObE.step
  case hobl =>
    intro β A w' hβ hC hO hD
    have e0 := hO 0 (by rfl)
    have e3 := hO 3 (by rfl)
    simp [Act.eval] at e0 e3
    simp [depsL, IsV, slotv, Act.eval, Region.binds] at hD
    simp [go_sem, gd, Oper.wp, e0, e3, hD, L5, L6, L7, L8, hC.1]
    exact WPost.mk (grow_refl _) (by simpa using hC) (IsV.mk _ _)
  apply ObE.step
  case hobl =>
    intro β A w' hβ hC hO hD
    simp [depsL, IsV, slotv, Act.eval, Region.binds] at hD
    simp [go_sem, gd, Oper.wp, hD]
    refine (ckExpr_any p w' aoD aoT capD capT _ aoA _ capA bs bt bc h.xop h.xn h.xnm h.xkids aox capx hi (HP.out _ hC.1) hxk (HAX.out _ hC.1) (HKW.out _ hC.1) (HK.out _ hC.1)).mono ?_
    rintro e' w2 ⟨rfl, hb⟩
    exact WPost.mk (grow_below hb) (by simpa using hC.below hb) (IsV.mk _ _)
  refine ObE.some (fun v w' => ∃ b, b ≠ bt ∧ v = .slice (some ⟨b, 0, none⟩) 4 4 ∧ InAt w' w'.heap.size [kindE (mean p i h.nm) [7], nest (insP ar [7, 3]), (onceE (f h.nm.toList)), exE p i h.xop h.xn h.xnm h.xkids] (some ⟨b, 0, none⟩) 0) ?_ ?_ ?_
  · rintro v w w' hle ⟨b, hbn, rfl, hin⟩
    exact ⟨b, hbn, rfl, InAt.grow hbn hle hin⟩
  · intro β A w' hβ hC hO hD
    simp [depsL, IsV, slotv, Act.eval, Region.binds] at hD
    simp [go_sem, gd, Oper.wp, hD]
    exact WPost.mk (d := _) (v := .slice (some ⟨_, 0, none⟩) 4 4) (grow_below (alloc_below _ _)) (by simpa using hC.below (alloc_below _ _)) ⟨_, by have := hC.2.lt; omega, rfl, inAt_four _ _ _ _ _ _⟩
  apply ObE.step
  case hobl =>
    intro β A w' hβ hC hO hD
    simp [depsL, IsV, slotv, Act.eval, Region.binds] at hD
    obtain ⟨⟨b189, hn189, d189, hin189⟩, -⟩ := hD
    simp [go_sem, gd, Oper.wp, d189]
    refine (ckFirst_any [kindE (mean p i h.nm) [7], nest (insP ar [7, 3]), (onceE (f h.nm.toList)), exE p i h.xop h.xn h.xnm h.xkids] w' _ _ (by simp [maxLen]) hin189).mono ?_
    rintro e' w2 ⟨rfl, rfl⟩
    exact WPost.mk (grow_refl _) (by simpa using hC) (IsV.mk _ _)
  apply ObE.step
  case hobl =>
    intro β A w' hβ hC hO hD
    have e0 := hO 0 (by rfl)
    have e3 := hO 3 (by rfl)
    simp [Act.eval] at e0 e3
    simp [depsL, IsV, slotv, Act.eval, Region.binds] at hD
    simp [go_sem, gd, Oper.wp, e0, e3, hD]
    exact WPost.mk (grow_refl _) (by simpa using hC) (IsV.mk _ _)
  simp only [List.nil_append, List.cons_append]
  intro wz hCz
  intro v0 h0 v1 h1 v2 h2 v3 h3 v4 h4 v5 h5 v6 h6 v7 h7 v8 h8 v9 h9 v10 h10 v11 h11 v12 h12 v13 h13 v14 h14 v15 h15 v16 h16 v17 h17 v18 h18 v19 h19 v20 h20 v21 h21 v22 h22
  have hl' : v22 = _ := h22
  subst hl'
  clear h0 h1 h2 h3 h4 h5 h6 h7 h8 h9 h10 h11 h12 h13 h14 h15 h16 h17 h18 h19 h20 h21 h22
  refine AllVals.nil ?_
  have HZ : Hid (MC W bt n f (setP f h.nm.toList) true wz) := Lib.hid (by simpa using hCz)
  clear hCz
  go_simp
  go_wp2_with fail
  go_ret
  refine setPost_mk ?_ HZ.out HG.out
  rw [← HR.out]
  rfl
end
end Go.Proofs.YtommnhglgedflaaGreatDoor
end
section
set_option linter.unusedSimpArgs false
set_option linter.unusedVariables false
namespace Go.Proofs.YtommnhglgedflaaGreatDoor
open Go.RowKit
open Md
theorem th0_cell {w : World} {B b off : Nat} {t : Th} {r : List Th} (h : ThAt w B (t :: r) (some ⟨b, off, none⟩) 0) : w.cell? ⟨b, off, none⟩ = some (.string t.nm) := by
  obtain ⟨⟨b1, off1, aol, capl, aob, capb, e, -, x0, -⟩, -⟩ := h
  injection e with e; injection e with e1 e2; subst e1; subst e2
  simpa using x0
section
variable (p : Pr) (w : World) (aoD aoT : Option Addr) (capD capT : Nat) (aoA : Option Addr) (capA bs bt bc : Nat)

set_option maxHeartbeats 4000000 in
set_option maxRecDepth 100000 in
theorem ckStmt12 (j : Nat) (t t0 : Th) (r r0 : List Th) (hd : p.ts.drop j = t :: r) (hts : p.ts = t0 :: r0) (h : StH) (b e ar : StL) (s : Sl) (hi : I64 (j : Int)) (hp : ∀ w', w.grownBy w' (some bs) → p.At w' aoD aoT) (hok : StOk h b e) (hex : ∀ w', w.grownBy w' (some bs) → h.xkids.At w' w'.heap.size s.aox 0) (hkw : ∀ w', w.grownBy w' (some bs) → KwLaid w') (har : ar.len ≤ maxLen) (hat : ∀ w', w.grownBy w' (some bs) → ar.At w' w'.heap.size aoA 0) (hh : Holds w (ckF bc p aoD aoT capD capT (j : Int) aoA ar.len capA bs bt)) (hbc : bc ≠ bs) (n : Nat) (f : List UInt8 → Bool) (hn : n < maxLen) (hmap : MapB w bs n f) (hop : h.op = 12) :
    Calls Tryz.prog 136 #[.pointer (some ⟨bc, 0, none⟩), stV h b e s] w (SetPost (firstE [kindE (mean p (j : Int) h.nm) [8], nest (insP ar [7, 8, 3] || (h.nm.toList == t.nm.toList || h.nm.toList == t0.nm.toList)), (onceE (f h.nm.toList))]) w bs (n + 1) (setP f h.nm.toList)) := by
  have HH := Lib.hid (show Sit w w _ from ⟨Below.refl _ _, hh⟩)
  obtain ⟨aoi, capi, aox, capx, aob, capb, aoe, cape⟩ := s
  have hxk := hok.2.2.2.2.2.1
  have hns := hok.2.2.1
  generalize hres : firstE [kindE (mean p (j : Int) h.nm) [8], nest (insP ar [7, 8, 3] || (h.nm.toList == t.nm.toList || h.nm.toList == t0.nm.toList)), (onceE (f h.nm.toList))] = res
  have HR := Lib.hid hres
  have HOP := Lib.hid hop
  have HNS := Lib.hid hns
  have HN := Lib.hid hn
  have hlt := hmap.lt
  clear hres hop hn hns
  unfold stV
  dsimp only
  dsimp only at hex
  go_enter Tryz.func136, Tryz.ntmps136
  go_upto_region 1 with fail
  generalize hW : World.alloc w _ = W
  generalize Value.agg #[_, _, _, _, _, _, _, _, _, _, _] = a0
  have HX : Hid (Sit w W (stF w.heap.size h b e ⟨aoi, capi, aox, capx, aob, capb, aoe, cape⟩ (ckF bc p aoD aoT capD capT (j : Int) aoA ar.len capA bs bt))) := Lib.hid (by rw [← hW]; exact HH.out.box11 rfl _ _ _ _ _ _ _ _ _ _ _ _)
  clear hW HH
  have HG : Hid (∀ w', W.grownBy w' (some bs) → w.grownBy w' (some bs)) := Lib.hid (fun w' hg => grow_trans (grow_below HX.out.1) hg)
  have HP := Lib.hid (fun w' hg => hp w' (HG.out w' hg))
  have HKW := Lib.hid (fun w' hg => hkw w' (HG.out w' hg))
  have HAX := Lib.hid (fun w' hg => hex w' (HG.out w' hg))
  have HAR := Lib.hid (fun w' hg => hat w' (HG.out w' hg))
  have HAL := Lib.hid har
  have HM := Lib.hid (hmap.next HX.out.1)
  have HF : Hid (∀ w', W.grownBy w' (some bs) → Holds w' (stF w.heap.size h b e ⟨aoi, capi, aox, capx, aob, capb, aoe, cape⟩ (ckF bc p aoD aoT capD capT (j : Int) aoA ar.len capA bs bt))) := Lib.hid (fun w' hg => HX.out.mc hg (by
    intro x hx
    simp only [stF, ckF, List.mem_cons, List.not_mem_nil, or_false] at hx
    rcases hx with rfl | rfl | rfl | rfl | rfl | rfl | rfl | rfl | rfl | rfl | rfl | rfl | rfl | rfl | rfl | rfl | rfl <;> first | exact hbc | (show w.heap.size ≠ bs; omega)))
  have HK : Hid (∀ w', W.grownBy w' (some bs) → Holds w' (ckF bc p aoD aoT capD capT (j : Int) aoA ar.len capA bs bt)) := Lib.hid (fun w' hg => (HF.out w' hg).2.2.2.2.2.2.2.2.2.2.2)
  clear hp hkw hh hat har hex hmap hlt hbc
  have L0 : ∀ w', W.grownBy w' (some bs) → w'.cell? ⟨w.heap.size, 0, none⟩ = some (.int .i64 h.op) := fun w' hb => (HF.out w' hb).1.2
  have L2 : ∀ w', W.grownBy w' (some bs) → w'.cell? ⟨w.heap.size, 2, none⟩ = some (.string h.nm) := fun w' hb => (HF.out w' hb).2.2.1.2
  have L5 : ∀ w', W.grownBy w' (some bs) → w'.cell? ⟨w.heap.size, 5, none⟩ = some (.int .i64 h.xop) := fun w' hb => (HF.out w' hb).2.2.2.2.2.1.2
  have L6 : ∀ w', W.grownBy w' (some bs) → w'.cell? ⟨w.heap.size, 6, none⟩ = some (.int .i64 h.xn) := fun w' hb => (HF.out w' hb).2.2.2.2.2.2.1.2
  have L7 : ∀ w', W.grownBy w' (some bs) → w'.cell? ⟨w.heap.size, 7, none⟩ = some (.string h.xnm) := fun w' hb => (HF.out w' hb).2.2.2.2.2.2.2.1.2
  have L8 : ∀ w', W.grownBy w' (some bs) → w'.cell? ⟨w.heap.size, 8, none⟩ = some (.slice aox h.xkids.len capx) := fun w' hb => (HF.out w' hb).2.2.2.2.2.2.2.2.1.2
  have LM : ∀ w', W.grownBy w' (some bs) → w'.cell? ⟨bc, 4, none⟩ = some (.map (some bs)) := fun w' hb => (HK.out w' hb).2.2.2.2.1.2
  have l0 := L0 W (grow_refl _)
  have hop := HOP.out
  have g1 : (h.op == 1) = false := by rw [hop]; rfl
  have g2 : (h.op == 2) = false := by rw [hop]; rfl
  have g3 : (h.op == 3) = false := by rw [hop]; rfl
  have g4 : (h.op == 4) = false := by rw [hop]; rfl
  have g5 : (h.op == 5) = false := by rw [hop]; rfl
  have g6 : (h.op == 6) = false := by rw [hop]; rfl
  have g7 : (h.op == 7) = false := by rw [hop]; rfl
  have g8 : (h.op == 8) = false := by rw [hop]; rfl
  have g9 : (h.op == 9) = false := by rw [hop]; rfl
  have g10 : (h.op == 10) = false := by rw [hop]; rfl
  have g11 : (h.op == 11) = false := by rw [hop]; rfl
  have g12 : (h.op == 12) = true := by rw [hop]; rfl
  have g13 : (h.op == 13) = false := by rw [hop]; rfl
  have g14 : (h.op == 14) = false := by rw [hop]; rfl
  have g15 : (h.op == 15) = false := by rw [hop]; rfl
  clear hop l0
  have l0 := L0 W (grow_refl _)
  go_upto_region 21 with fail
  have hpos : 0 < p.ts.length := by rw [hts]; simp
  have hpos2 : (0 : Int) < p.ts.length := by omega
  obtain ⟨b0, off0, eT⟩ : ∃ b0 off0, aoT = some ⟨b0, off0, none⟩ := by
    have := (HP.out W (grow_refl _)).2.2.2
    rw [hts] at this
    obtain ⟨⟨b1, off1, aol, capl, aob, capb, e, -⟩, -⟩ := this
    exact ⟨b1, off1, e⟩
  subst eT
  have LN : ∀ w', W.grownBy w' (some bs) → w'.cell? ⟨b0, off0, none⟩ = some (.string t0.nm) := fun w' hb => by
    have := (HP.out w' hb).2.2.2
    rw [hts] at this
    exact th0_cell this
  have LT : ∀ w', W.grownBy w' (some bs) → w'.cell? ⟨bc, 1, none⟩ = some (.slice (some ⟨b0, off0, none⟩) p.ts.length capT) := fun w' hb => (HK.out w' hb).2.1.2
  cases hq : insP ar [7, 8, 3]
  · cases ho : (h.nm.toList == t.nm.toList)
    · refine wp_region_wildK 35 (MC W bs n f (setP f h.nm.toList)) (fun w w' => w.grownBy w' (some bs)) [109, 110, 111, 112, 113, 114, 115, 116, 117, 118, 119, 120, 121, 122, 123, 124, 125, 126, 127, 128, 129, 130, 131, 132, 133, 134, 135, 136, 137, 138, 139, 140, 141, 142, 143, 144, 145, 146, 4] (by kernel_rfl) (by kernel_rfl) (fun _ => grow_refl _) (by rfl) ⟨grow_below (below_drewN (Below.refl _ _) 1), by simpa using HM.out.next (below_drewN (Below.refl _ _) 1)⟩ ?_
      apply ObE.step
      case hobl =>
        intro β A w' hβ hC hO hD
        have e0 := hO 0 (by rfl)
        have e3 := hO 3 (by rfl)
        simp [Act.eval] at e0 e3
        simp [depsL, IsV, slotv, Act.eval, Region.binds] at hD
        simp [go_sem, gd, Oper.wp, e0, e3, hD]
        exact WPost.mk (grow_refl _) (by simpa using hC) (IsV.mk _ _)
      apply ObE.step
      case hobl =>
        intro β A w' hβ hC hO hD
        have e0 := hO 0 (by rfl)
        have e3 := hO 3 (by rfl)
        simp [Act.eval] at e0 e3
        simp [depsL, IsV, slotv, Act.eval, Region.binds] at hD
        simp [go_sem, gd, Oper.wp, e0, e3, hD]
        exact WPost.mk (grow_refl _) (by simpa using hC) (IsV.mk _ _)
      simp only [List.nil_append, List.cons_append]
      apply ObE.step
      case hobl =>
        intro β A w' hβ hC hO hD
        have e0 := hO 0 (by rfl)
        have e3 := hO 3 (by rfl)
        simp [Act.eval] at e0 e3
        simp [depsL, IsV, slotv, Act.eval, Region.binds] at hD
        simp [go_sem, gd, Oper.wp, e0, e3, hD, L2, hC.1]
        exact WPost.mk (grow_refl _) (by simpa using hC) (IsV.mk _ _)
      simp only [List.nil_append, List.cons_append]
      refine ObE.some (fun v w' => ∃ b, b ≠ bs ∧ v = .slice (some ⟨b, 0, none⟩) 1 1 ∧ InAt w' w'.heap.size [8] (some ⟨b, 0, none⟩) 0) ?_ ?_ ?_
      · rintro v w w' hle ⟨b, hbn, rfl, hin⟩
        exact ⟨b, hbn, rfl, InAt.grow hbn hle hin⟩
      · intro β A w' hβ hC hO hD
        simp [go_sem, gd, Oper.wp]
        exact WPost.mk (d := _) (v := .slice (some ⟨_, 0, none⟩) 1 1) (grow_below (alloc_below _ _)) (by simpa using hC.below (alloc_below _ _)) ⟨_, by have := hC.2.lt; omega, rfl, inAt_one _ 8 _⟩
      simp only [List.nil_append, List.cons_append]
      apply ObE.step
      case hobl =>
        intro β A w' hβ hC hO hD
        simp [depsL, IsV, slotv, Act.eval, Region.binds] at hD
        obtain ⟨d109, d111, b112, hn112, d112, hin112⟩ := hD
        simp [go_sem, gd, Oper.wp, d109, d111, d112]
        refine (ckKind_any p w' aoD (some ⟨b0, off0, none⟩) capD capT _ aoA _ capA bs bt bc h.nm [8] _ 1 hi (by decide) (HP.out _ hC.1) hin112 (HK.out _ hC.1)).mono ?_
        rintro e' w2 ⟨rfl, hb⟩
        exact WPost.mk (grow_below hb) (by simpa using hC.below hb) (IsV.mk _ _)
      simp only [List.nil_append, List.cons_append]
      apply ObE.step
      case hobl =>
        intro β A w' hβ hC hO hD
        have e0 := hO 0 (by rfl)
        have e3 := hO 3 (by rfl)
        simp [Act.eval] at e0 e3
        simp [depsL, IsV, slotv, Act.eval, Region.binds] at hD
        simp [go_sem, gd, Oper.wp, e0, e3, hD]
        exact WPost.mk (grow_refl _) (by simpa using hC) (IsV.mk _ _)
      simp only [List.nil_append, List.cons_append]
      refine ObE.some (fun v w' => ∃ b, b ≠ bs ∧ v = .slice (some ⟨b, 0, none⟩) 3 3 ∧ InAt w' w'.heap.size [7, 8, 3] (some ⟨b, 0, none⟩) 0) ?_ ?_ ?_
      · rintro v w w' hle ⟨b, hbn, rfl, hin⟩
        exact ⟨b, hbn, rfl, InAt.grow hbn hle hin⟩
      · intro β A w' hβ hC hO hD
        simp [go_sem, gd, Oper.wp]
        exact WPost.mk (d := _) (v := .slice (some ⟨_, 0, none⟩) 3 3) (grow_below (alloc_below _ _)) (by simpa using hC.below (alloc_below _ _)) ⟨_, by have := hC.2.lt; omega, rfl, inAt_three _ 7 8 3 _⟩
      simp only [List.nil_append, List.cons_append]
      apply ObE.step
      case hobl =>
        intro β A w' hβ hC hO hD
        simp [depsL, IsV, slotv, Act.eval, Region.binds] at hD
        obtain ⟨d114, ⟨b115, hn115, d115, hin115⟩, -⟩ := hD
        simp [go_sem, gd, Oper.wp, d114, d115]
        refine (hq ▸ ckInside_any p w' aoD (some ⟨b0, off0, none⟩) capD capT (j : Int) aoA capA bs bt bc ar [7, 8, 3] _ 3 (by decide) hin115 HAL.out (HAR.out _ hC.1) (HK.out _ hC.1)).mono ?_
        rintro e' w2 ⟨rfl, hb⟩
        exact WPost.mk (grow_below hb) (by simpa using hC.below hb) (IsV.mk _ _)
      simp only [List.nil_append, List.cons_append]
      apply ObE.step
      case hobl =>
        intro β A w' hβ hC hO hD
        have e0 := hO 0 (by rfl)
        have e3 := hO 3 (by rfl)
        simp [Act.eval] at e0 e3
        simp [depsL, IsV, slotv, Act.eval, Region.binds] at hD
        simp [go_sem, gd, Oper.wp, e0, e3, hD]
        exact WPost.mk (grow_refl _) (by simpa using hC) (IsV.mk _ _)
      simp only [List.nil_append, List.cons_append]
      apply ObE.step
      case hobl =>
        intro β A w' hβ hC hO hD
        have e0 := hO 0 (by rfl)
        have e3 := hO 3 (by rfl)
        simp [Act.eval] at e0 e3
        simp [depsL, IsV, slotv, Act.eval, Region.binds] at hD
        simp [go_sem, gd, Oper.wp, e0, e3, hD]
        exact WPost.mk (grow_refl _) (by simpa using hC) (IsV.mk _ _)
      simp only [List.nil_append, List.cons_append]
      apply ObE.step
      case hobl =>
        intro β A w' hβ hC hO hD
        have e0 := hO 0 (by rfl)
        have e3 := hO 3 (by rfl)
        simp [Act.eval] at e0 e3
        simp [depsL, IsV, slotv, Act.eval, Region.binds] at hD
        simp [go_sem, gd, Oper.wp, e0, e3, hD, L2, hC.1]
        exact WPost.mk (grow_refl _) (by simpa using hC) (IsV.mk _ _)
      simp only [List.nil_append, List.cons_append]
      apply ObE.step
      case hobl =>
        intro β A w' hβ hC hO hD
        have e0 := hO 0 (by rfl)
        have e3 := hO 3 (by rfl)
        simp [Act.eval] at e0 e3
        simp [depsL, IsV, slotv, Act.eval, Region.binds] at hD
        simp [go_sem, gd, Oper.wp, e0, e3, hD]
        exact WPost.mk (grow_refl _) (by simpa using hC) (IsV.mk _ _)
      simp only [List.nil_append, List.cons_append]
      apply ObE.step
      case hobl =>
        intro β A w' hβ hC hO hD
        simp [depsL, IsV, slotv, Act.eval, Region.binds] at hD
        simp [go_sem, gd, Oper.wp, hD]
        refine (ckOwn_any p w' aoD (some ⟨b0, off0, none⟩) capD capT aoA ar.len capA bs bt bc j t r hd (HP.out _ hC.1) (HK.out _ hC.1)).mono ?_
        rintro e' w2 ⟨rfl, hb⟩
        exact WPost.mk (grow_below hb) (by simpa using hC.below hb) (IsV.mk _ _)
      simp only [List.nil_append, List.cons_append]
      apply ObE.step
      case hobl =>
        intro β A w' hβ hC hO hD
        have e0 := hO 0 (by rfl)
        have e3 := hO 3 (by rfl)
        simp [Act.eval] at e0 e3
        simp [depsL, IsV, slotv, Act.eval, Region.binds] at hD
        simp [go_sem, gd, Oper.wp, e0, e3, hD, ho]
        exact WPost.mk (grow_refl _) (by simpa using hC) (IsV.mk _ _)
      simp only [List.nil_append, List.cons_append]
      apply ObE.step
      case hobl =>
        intro β A w' hβ hC hO hD
        have e0 := hO 0 (by rfl)
        have e3 := hO 3 (by rfl)
        simp [Act.eval] at e0 e3
        simp [depsL, IsV, slotv, Act.eval, Region.binds] at hD
        simp [go_sem, gd, Oper.wp, e0, e3, hD]
        exact WPost.mk (grow_refl _) (by simpa using hC) (IsV.mk _ _)
      simp only [List.nil_append, List.cons_append]
      apply ObE.step
      case hobl =>
        intro β A w' hβ hC hO hD
        have e0 := hO 0 (by rfl)
        have e3 := hO 3 (by rfl)
        simp [Act.eval] at e0 e3
        simp [depsL, IsV, slotv, Act.eval, Region.binds] at hD
        simp [go_sem, gd, Oper.wp, e0, e3, hD]
        exact WPost.mk (grow_refl _) (by simpa using hC) (IsV.mk _ _)
      simp only [List.nil_append, List.cons_append]
      apply ObE.step
      case hobl =>
        intro β A w' hβ hC hO hD
        have e0 := hO 0 (by rfl)
        have e3 := hO 3 (by rfl)
        simp [Act.eval] at e0 e3
        simp [depsL, IsV, slotv, Act.eval, Region.binds] at hD
        simp [go_sem, gd, Oper.wp, e0, e3, hD]
        exact WPost.mk (grow_refl _) (by simpa using hC) (IsV.mk _ _)
      simp only [List.nil_append, List.cons_append]
      apply ObE.step
      case hobl =>
        intro β A w' hβ hC hO hD
        have e0 := hO 0 (by rfl)
        have e3 := hO 3 (by rfl)
        simp [Act.eval] at e0 e3
        simp [depsL, IsV, slotv, Act.eval, Region.binds] at hD
        simp [go_sem, gd, Oper.wp, e0, e3, hD, L2, hC.1]
        exact WPost.mk (grow_refl _) (by simpa using hC) (IsV.mk _ _)
      simp only [List.nil_append, List.cons_append]
      apply ObE.step
      case hobl =>
        intro β A w' hβ hC hO hD
        have e0 := hO 0 (by rfl)
        have e3 := hO 3 (by rfl)
        simp [Act.eval] at e0 e3
        simp [depsL, IsV, slotv, Act.eval, Region.binds] at hD
        simp [go_sem, gd, Oper.wp, e0, e3, hD]
        exact WPost.mk (grow_refl _) (by simpa using hC) (IsV.mk _ _)
      simp only [List.nil_append, List.cons_append]
      apply ObE.step
      case hobl =>
        intro β A w' hβ hC hO hD
        have e0 := hO 0 (by rfl)
        have e3 := hO 3 (by rfl)
        simp [Act.eval] at e0 e3
        simp [depsL, IsV, slotv, Act.eval, Region.binds] at hD
        simp [go_sem, gd, Oper.wp, e0, e3, hD]
        exact WPost.mk (grow_refl _) (by simpa using hC) (IsV.mk _ _)
      simp only [List.nil_append, List.cons_append]
      apply ObE.step
      case hobl =>
        intro β A w' hβ hC hO hD
        have e0 := hO 0 (by rfl)
        have e3 := hO 3 (by rfl)
        simp [Act.eval] at e0 e3
        simp [depsL, IsV, slotv, Act.eval, Region.binds] at hD
        simp [go_sem, gd, Oper.wp, e0, e3, hD]
        exact WPost.mk (grow_refl _) (by simpa using hC) (IsV.mk _ _)
      simp only [List.nil_append, List.cons_append]
      apply ObE.step
      case hobl =>
        intro β A w' hβ hC hO hD
        have e0 := hO 0 (by rfl)
        have e3 := hO 3 (by rfl)
        simp [Act.eval] at e0 e3
        simp [depsL, IsV, slotv, Act.eval, Region.binds] at hD
        simp [go_sem, gd, Oper.wp, e0, e3, hD]
        exact WPost.mk (grow_refl _) (by simpa using hC) (IsV.mk _ _)
      simp only [List.nil_append, List.cons_append]
      apply ObE.step
      case hobl =>
        intro β A w' hβ hC hO hD
        have e0 := hO 0 (by rfl)
        have e3 := hO 3 (by rfl)
        simp [Act.eval] at e0 e3
        simp [depsL, IsV, slotv, Act.eval, Region.binds] at hD
        simp [go_sem, gd, Oper.wp, e0, e3, hD, LT, hC.1]
        exact WPost.mk (grow_refl _) (by simpa using hC) (IsV.mk _ _)
      simp only [List.nil_append, List.cons_append]
      apply ObE.step
      case hobl =>
        intro β A w' hβ hC hO hD
        have e0 := hO 0 (by rfl)
        have e3 := hO 3 (by rfl)
        simp [Act.eval] at e0 e3
        simp [depsL, IsV, slotv, Act.eval, Region.binds] at hD
        simp [go_sem, gd, Oper.wp, e0, e3, hD, hpos, hpos2]
        exact WPost.mk (grow_refl _) (by simpa using hC) (IsV.mk _ _)
      simp only [List.nil_append, List.cons_append]
      apply ObE.step
      case hobl =>
        intro β A w' hβ hC hO hD
        have e0 := hO 0 (by rfl)
        have e3 := hO 3 (by rfl)
        simp [Act.eval] at e0 e3
        simp [depsL, IsV, slotv, Act.eval, Region.binds] at hD
        simp [go_sem, gd, Oper.wp, e0, e3, hD]
        exact WPost.mk (grow_refl _) (by simpa using hC) (IsV.mk _ _)
      simp only [List.nil_append, List.cons_append]
      apply ObE.step
      case hobl =>
        intro β A w' hβ hC hO hD
        have e0 := hO 0 (by rfl)
        have e3 := hO 3 (by rfl)
        simp [Act.eval] at e0 e3
        simp [depsL, IsV, slotv, Act.eval, Region.binds] at hD
        simp [go_sem, gd, Oper.wp, e0, e3, hD, LN, hC.1]
        exact WPost.mk (grow_refl _) (by simpa using hC) (IsV.mk _ _)
      simp only [List.nil_append, List.cons_append]
      apply ObE.step
      case hobl =>
        intro β A w' hβ hC hO hD
        have e0 := hO 0 (by rfl)
        have e3 := hO 3 (by rfl)
        simp [Act.eval] at e0 e3
        simp [depsL, IsV, slotv, Act.eval, Region.binds] at hD
        simp [go_sem, gd, Oper.wp, e0, e3, hD]
        exact WPost.mk (grow_refl _) (by simpa using hC) (IsV.mk _ _)
      simp only [List.nil_append, List.cons_append]
      apply ObE.step
      case hobl =>
        intro β A w' hβ hC hO hD
        have e0 := hO 0 (by rfl)
        have e3 := hO 3 (by rfl)
        simp [Act.eval] at e0 e3
        simp [depsL, IsV, slotv, Act.eval, Region.binds] at hD
        simp [go_sem, gd, Oper.wp, e0, e3, hD]
        exact WPost.mk (grow_refl _) (by simpa using hC) (IsV.mk _ _)
      simp only [List.nil_append, List.cons_append]
      apply ObE.step
      case hobl =>
        intro β A w' hβ hC hO hD
        simp [depsL, IsV, slotv, Act.eval, Region.binds] at hD
        simp [go_sem, gd, Oper.wp, hD]
        refine (nesting_any (h.nm.toList == t0.nm.toList) w').mono ?_
        rintro e' w2 ⟨rfl, rfl⟩
        exact WPost.mk (grow_refl _) (by simpa using hC) (IsV.mk _ _)
      simp only [List.nil_append, List.cons_append]
      apply ObE.step
      case hobl =>
        intro β A w' hβ hC hO hD
        have e0 := hO 0 (by rfl)
        have e3 := hO 3 (by rfl)
        simp [Act.eval] at e0 e3
        simp [depsL, IsV, slotv, Act.eval, Region.binds] at hD
        simp [go_sem, gd, Oper.wp, e0, e3, hD]
        exact WPost.mk (grow_refl _) (by simpa using hC) (IsV.mk _ _)
      simp only [List.nil_append, List.cons_append]
      apply ObE.step
      case hobl =>
        intro β A w' hβ hC hO hD
        have e0 := hO 0 (by rfl)
        have e3 := hO 3 (by rfl)
        simp [Act.eval] at e0 e3
        simp [depsL, IsV, slotv, Act.eval, Region.binds] at hD
        simp [go_sem, gd, Oper.wp, e0, e3, hD]
        exact WPost.mk (grow_refl _) (by simpa using hC) (IsV.mk _ _)
      simp only [List.nil_append, List.cons_append]
      apply ObE.step
      case hobl =>
        intro β A w' hβ hC hO hD
        have e0 := hO 0 (by rfl)
        have e3 := hO 3 (by rfl)
        simp [Act.eval] at e0 e3
        simp [depsL, IsV, slotv, Act.eval, Region.binds] at hD
        simp [go_sem, gd, Oper.wp, e0, e3, hD]
        exact WPost.mk (grow_refl _) (by simpa using hC) (IsV.mk _ _)
      simp only [List.nil_append, List.cons_append]
      apply ObE.step
      case hobl =>
        intro β A w' hβ hC hO hD
        have e0 := hO 0 (by rfl)
        have e3 := hO 3 (by rfl)
        simp [Act.eval] at e0 e3
        simp [depsL, IsV, slotv, Act.eval, Region.binds] at hD
        simp [go_sem, gd, Oper.wp, e0, e3, hD, LM, hC.1]
        exact WPost.mk (grow_refl _) (by simpa using hC) (IsV.mk _ _)
      simp only [List.nil_append, List.cons_append]
      apply ObE.step
      case hobl =>
        intro β A w' hβ hC hO hD
        have e0 := hO 0 (by rfl)
        have e3 := hO 3 (by rfl)
        simp [Act.eval] at e0 e3
        simp [depsL, IsV, slotv, Act.eval, Region.binds] at hD
        simp [go_sem, gd, Oper.wp, e0, e3, hD]
        exact WPost.mk (grow_refl _) (by simpa using hC) (IsV.mk _ _)
      simp only [List.nil_append, List.cons_append]
      apply ObE.step
      case hobl =>
        intro β A w' hβ hC hO hD
        have e0 := hO 0 (by rfl)
        have e3 := hO 3 (by rfl)
        simp [Act.eval] at e0 e3
        simp [depsL, IsV, slotv, Act.eval, Region.binds] at hD
        simp [go_sem, gd, Oper.wp, e0, e3, hD, L2, hC.1]
        exact WPost.mk (grow_refl _) (by simpa using hC) (IsV.mk _ _)
      simp only [List.nil_append, List.cons_append]
      apply ObE.step
      case hobl =>
        intro β A w' hβ hC hO hD
        obtain rfl := hβ (by simp)
        simp [depsL, IsV, slotv, Act.eval, Region.binds] at hD
        simp [go_sem, gd, Oper.wp, hD]
        refine (once_any h.nm w' bs n f HN.out HNS.out (by simpa using hC.2)).mono ?_
        rintro e' w2 ⟨rfl, hm2, hg2⟩
        exact WPost.mk hg2 ⟨grow_trans hC.1 hg2, by simpa using hm2⟩ (IsV.mk _ _)
      simp only [List.nil_append, List.cons_append]
      refine ObE.some (fun v w' => ∃ b, b ≠ bs ∧ v = .slice (some ⟨b, 0, none⟩) 3 3 ∧ InAt w' w'.heap.size [kindE (mean p (j : Int) h.nm) [8], nest (h.nm.toList == t0.nm.toList), (onceE (f h.nm.toList))] (some ⟨b, 0, none⟩) 0) ?_ ?_ ?_
      · rintro v w w' hle ⟨b, hbn, rfl, hin⟩
        exact ⟨b, hbn, rfl, InAt.grow hbn hle hin⟩
      · intro β A w' hβ hC hO hD
        simp [depsL, IsV, slotv, Act.eval, Region.binds] at hD
        simp [go_sem, gd, Oper.wp, hD]
        exact WPost.mk (d := _) (v := .slice (some ⟨_, 0, none⟩) 3 3) (grow_below (alloc_below _ _)) (by simpa using hC.below (alloc_below _ _)) ⟨_, by have := hC.2.lt; omega, rfl, inAt_three _ _ _ _ _⟩
      simp only [List.nil_append, List.cons_append]
      apply ObE.step
      case hobl =>
        intro β A w' hβ hC hO hD
        simp [depsL, IsV, slotv, Act.eval, Region.binds] at hD
        obtain ⟨⟨b145, hn145, d145, hin145⟩, -⟩ := hD
        simp [go_sem, gd, Oper.wp, d145]
        refine (ckFirst_any [kindE (mean p (j : Int) h.nm) [8], nest (h.nm.toList == t0.nm.toList), (onceE (f h.nm.toList))] w' _ _ (by simp [maxLen]) hin145).mono ?_
        rintro e' w2 ⟨rfl, rfl⟩
        exact WPost.mk (grow_refl _) (by simpa using hC) (IsV.mk _ _)
      simp only [List.nil_append, List.cons_append]
      apply ObE.step
      case hobl =>
        intro β A w' hβ hC hO hD
        have e0 := hO 0 (by rfl)
        have e3 := hO 3 (by rfl)
        simp [Act.eval] at e0 e3
        simp [depsL, IsV, slotv, Act.eval, Region.binds] at hD
        simp [go_sem, gd, Oper.wp, e0, e3, hD]
        exact WPost.mk (grow_refl _) (by simpa using hC) (IsV.mk _ _)
      simp only [List.nil_append, List.cons_append]
      intro wz hCz
      intro v0 h0 v1 h1 v2 h2 v3 h3 v4 h4 v5 h5 v6 h6 v7 h7 v8 h8 v9 h9 v10 h10 v11 h11 v12 h12 v13 h13 v14 h14 v15 h15 v16 h16 v17 h17 v18 h18 v19 h19 v20 h20 v21 h21 v22 h22 v23 h23 v24 h24 v25 h25 v26 h26 v27 h27 v28 h28 v29 h29 v30 h30 v31 h31 v32 h32 v33 h33 v34 h34 v35 h35 v36 h36 v37 h37 v38 h38
      have hl' : v38 = _ := h38
      subst hl'
      clear h0 h1 h2 h3 h4 h5 h6 h7 h8 h9 h10 h11 h12 h13 h14 h15 h16 h17 h18 h19 h20 h21 h22 h23 h24 h25 h26 h27 h28 h29 h30 h31 h32 h33 h34 h35 h36 h37 h38
      refine AllVals.nil ?_
      have HZ : Hid (MC W bs n f (setP f h.nm.toList) true wz) := Lib.hid (by simpa using hCz)
      clear hCz
      go_simp
      go_wp2_with fail
      go_ret
      refine setPost_mk ?_ HZ.out HG.out
      rw [← HR.out, hq, ho]
      try rfl
    · refine wp_region_wildK 35 (MC W bs n f (setP f h.nm.toList)) (fun w w' => w.grownBy w' (some bs)) [109, 110, 111, 112, 113, 114, 115, 116, 117, 118, 119, 120, 121, 122, 123, 124, 125, 126, 127, 128, 129, 130, 131, 132, 133, 134, 135, 136, 137, 138, 139, 140, 141, 142, 143, 144, 145, 146, 4] (by kernel_rfl) (by kernel_rfl) (fun _ => grow_refl _) (by rfl) ⟨grow_below (below_drewN (Below.refl _ _) 1), by simpa using HM.out.next (below_drewN (Below.refl _ _) 1)⟩ ?_
      apply ObE.step
      case hobl =>
        intro β A w' hβ hC hO hD
        have e0 := hO 0 (by rfl)
        have e3 := hO 3 (by rfl)
        simp [Act.eval] at e0 e3
        simp [depsL, IsV, slotv, Act.eval, Region.binds] at hD
        simp [go_sem, gd, Oper.wp, e0, e3, hD]
        exact WPost.mk (grow_refl _) (by simpa using hC) (IsV.mk _ _)
      apply ObE.step
      case hobl =>
        intro β A w' hβ hC hO hD
        have e0 := hO 0 (by rfl)
        have e3 := hO 3 (by rfl)
        simp [Act.eval] at e0 e3
        simp [depsL, IsV, slotv, Act.eval, Region.binds] at hD
        simp [go_sem, gd, Oper.wp, e0, e3, hD]
        exact WPost.mk (grow_refl _) (by simpa using hC) (IsV.mk _ _)
      simp only [List.nil_append, List.cons_append]
      apply ObE.step
      case hobl =>
        intro β A w' hβ hC hO hD
        have e0 := hO 0 (by rfl)
        have e3 := hO 3 (by rfl)
        simp [Act.eval] at e0 e3
        simp [depsL, IsV, slotv, Act.eval, Region.binds] at hD
        simp [go_sem, gd, Oper.wp, e0, e3, hD, L2, hC.1]
        exact WPost.mk (grow_refl _) (by simpa using hC) (IsV.mk _ _)
      simp only [List.nil_append, List.cons_append]
      refine ObE.some (fun v w' => ∃ b, b ≠ bs ∧ v = .slice (some ⟨b, 0, none⟩) 1 1 ∧ InAt w' w'.heap.size [8] (some ⟨b, 0, none⟩) 0) ?_ ?_ ?_
      · rintro v w w' hle ⟨b, hbn, rfl, hin⟩
        exact ⟨b, hbn, rfl, InAt.grow hbn hle hin⟩
      · intro β A w' hβ hC hO hD
        simp [go_sem, gd, Oper.wp]
        exact WPost.mk (d := _) (v := .slice (some ⟨_, 0, none⟩) 1 1) (grow_below (alloc_below _ _)) (by simpa using hC.below (alloc_below _ _)) ⟨_, by have := hC.2.lt; omega, rfl, inAt_one _ 8 _⟩
      simp only [List.nil_append, List.cons_append]
      apply ObE.step
      case hobl =>
        intro β A w' hβ hC hO hD
        simp [depsL, IsV, slotv, Act.eval, Region.binds] at hD
        obtain ⟨d109, d111, b112, hn112, d112, hin112⟩ := hD
        simp [go_sem, gd, Oper.wp, d109, d111, d112]
        refine (ckKind_any p w' aoD (some ⟨b0, off0, none⟩) capD capT _ aoA _ capA bs bt bc h.nm [8] _ 1 hi (by decide) (HP.out _ hC.1) hin112 (HK.out _ hC.1)).mono ?_
        rintro e' w2 ⟨rfl, hb⟩
        exact WPost.mk (grow_below hb) (by simpa using hC.below hb) (IsV.mk _ _)
      simp only [List.nil_append, List.cons_append]
      apply ObE.step
      case hobl =>
        intro β A w' hβ hC hO hD
        have e0 := hO 0 (by rfl)
        have e3 := hO 3 (by rfl)
        simp [Act.eval] at e0 e3
        simp [depsL, IsV, slotv, Act.eval, Region.binds] at hD
        simp [go_sem, gd, Oper.wp, e0, e3, hD]
        exact WPost.mk (grow_refl _) (by simpa using hC) (IsV.mk _ _)
      simp only [List.nil_append, List.cons_append]
      refine ObE.some (fun v w' => ∃ b, b ≠ bs ∧ v = .slice (some ⟨b, 0, none⟩) 3 3 ∧ InAt w' w'.heap.size [7, 8, 3] (some ⟨b, 0, none⟩) 0) ?_ ?_ ?_
      · rintro v w w' hle ⟨b, hbn, rfl, hin⟩
        exact ⟨b, hbn, rfl, InAt.grow hbn hle hin⟩
      · intro β A w' hβ hC hO hD
        simp [go_sem, gd, Oper.wp]
        exact WPost.mk (d := _) (v := .slice (some ⟨_, 0, none⟩) 3 3) (grow_below (alloc_below _ _)) (by simpa using hC.below (alloc_below _ _)) ⟨_, by have := hC.2.lt; omega, rfl, inAt_three _ 7 8 3 _⟩
      simp only [List.nil_append, List.cons_append]
      apply ObE.step
      case hobl =>
        intro β A w' hβ hC hO hD
        simp [depsL, IsV, slotv, Act.eval, Region.binds] at hD
        obtain ⟨d114, ⟨b115, hn115, d115, hin115⟩, -⟩ := hD
        simp [go_sem, gd, Oper.wp, d114, d115]
        refine (hq ▸ ckInside_any p w' aoD (some ⟨b0, off0, none⟩) capD capT (j : Int) aoA capA bs bt bc ar [7, 8, 3] _ 3 (by decide) hin115 HAL.out (HAR.out _ hC.1) (HK.out _ hC.1)).mono ?_
        rintro e' w2 ⟨rfl, hb⟩
        exact WPost.mk (grow_below hb) (by simpa using hC.below hb) (IsV.mk _ _)
      simp only [List.nil_append, List.cons_append]
      apply ObE.step
      case hobl =>
        intro β A w' hβ hC hO hD
        have e0 := hO 0 (by rfl)
        have e3 := hO 3 (by rfl)
        simp [Act.eval] at e0 e3
        simp [depsL, IsV, slotv, Act.eval, Region.binds] at hD
        simp [go_sem, gd, Oper.wp, e0, e3, hD]
        exact WPost.mk (grow_refl _) (by simpa using hC) (IsV.mk _ _)
      simp only [List.nil_append, List.cons_append]
      apply ObE.step
      case hobl =>
        intro β A w' hβ hC hO hD
        have e0 := hO 0 (by rfl)
        have e3 := hO 3 (by rfl)
        simp [Act.eval] at e0 e3
        simp [depsL, IsV, slotv, Act.eval, Region.binds] at hD
        simp [go_sem, gd, Oper.wp, e0, e3, hD]
        exact WPost.mk (grow_refl _) (by simpa using hC) (IsV.mk _ _)
      simp only [List.nil_append, List.cons_append]
      apply ObE.step
      case hobl =>
        intro β A w' hβ hC hO hD
        have e0 := hO 0 (by rfl)
        have e3 := hO 3 (by rfl)
        simp [Act.eval] at e0 e3
        simp [depsL, IsV, slotv, Act.eval, Region.binds] at hD
        simp [go_sem, gd, Oper.wp, e0, e3, hD, L2, hC.1]
        exact WPost.mk (grow_refl _) (by simpa using hC) (IsV.mk _ _)
      simp only [List.nil_append, List.cons_append]
      apply ObE.step
      case hobl =>
        intro β A w' hβ hC hO hD
        have e0 := hO 0 (by rfl)
        have e3 := hO 3 (by rfl)
        simp [Act.eval] at e0 e3
        simp [depsL, IsV, slotv, Act.eval, Region.binds] at hD
        simp [go_sem, gd, Oper.wp, e0, e3, hD]
        exact WPost.mk (grow_refl _) (by simpa using hC) (IsV.mk _ _)
      simp only [List.nil_append, List.cons_append]
      apply ObE.step
      case hobl =>
        intro β A w' hβ hC hO hD
        simp [depsL, IsV, slotv, Act.eval, Region.binds] at hD
        simp [go_sem, gd, Oper.wp, hD]
        refine (ckOwn_any p w' aoD (some ⟨b0, off0, none⟩) capD capT aoA ar.len capA bs bt bc j t r hd (HP.out _ hC.1) (HK.out _ hC.1)).mono ?_
        rintro e' w2 ⟨rfl, hb⟩
        exact WPost.mk (grow_below hb) (by simpa using hC.below hb) (IsV.mk _ _)
      simp only [List.nil_append, List.cons_append]
      apply ObE.step
      case hobl =>
        intro β A w' hβ hC hO hD
        have e0 := hO 0 (by rfl)
        have e3 := hO 3 (by rfl)
        simp [Act.eval] at e0 e3
        simp [depsL, IsV, slotv, Act.eval, Region.binds] at hD
        simp [go_sem, gd, Oper.wp, e0, e3, hD, ho]
        exact WPost.mk (grow_refl _) (by simpa using hC) (IsV.mk _ _)
      simp only [List.nil_append, List.cons_append]
      apply ObE.step
      case hobl =>
        intro β A w' hβ hC hO hD
        have e0 := hO 0 (by rfl)
        have e3 := hO 3 (by rfl)
        simp [Act.eval] at e0 e3
        simp [depsL, IsV, slotv, Act.eval, Region.binds] at hD
        simp [go_sem, gd, Oper.wp, e0, e3, hD]
        exact WPost.mk (grow_refl _) (by simpa using hC) (IsV.mk _ _)
      simp only [List.nil_append, List.cons_append]
      apply ObE.step
      case hobl =>
        intro β A w' hβ hC hO hD
        have e0 := hO 0 (by rfl)
        have e3 := hO 3 (by rfl)
        simp [Act.eval] at e0 e3
        simp [depsL, IsV, slotv, Act.eval, Region.binds] at hD
        simp [go_sem, gd, Oper.wp, e0, e3, hD]
        exact WPost.mk (grow_refl _) (by simpa using hC) (IsV.mk _ _)
      simp only [List.nil_append, List.cons_append]
      refine ObE.step (v := undef) ?_ ?_
      · intro β A w' hβ hC hO hD
        simp [depsL, IsV, slotv, Act.eval, Region.binds] at hD
        simp [gd, Act.eval, hD]
        first | exact IsV.mk _ _ | exact ⟨by rfl, IsV.mk _ _⟩
      simp only [List.nil_append, List.cons_append]
      refine ObE.step (v := undef) ?_ ?_
      · intro β A w' hβ hC hO hD
        simp [depsL, IsV, slotv, Act.eval, Region.binds] at hD
        simp [gd, Act.eval, hD]
        first | exact IsV.mk _ _ | exact ⟨by rfl, IsV.mk _ _⟩
      simp only [List.nil_append, List.cons_append]
      refine ObE.step (v := undef) ?_ ?_
      · intro β A w' hβ hC hO hD
        simp [depsL, IsV, slotv, Act.eval, Region.binds] at hD
        simp [gd, Act.eval, hD]
        first | exact IsV.mk _ _ | exact ⟨by rfl, IsV.mk _ _⟩
      simp only [List.nil_append, List.cons_append]
      refine ObE.step (v := undef) ?_ ?_
      · intro β A w' hβ hC hO hD
        simp [depsL, IsV, slotv, Act.eval, Region.binds] at hD
        simp [gd, Act.eval, hD]
        first | exact IsV.mk _ _ | exact ⟨by rfl, IsV.mk _ _⟩
      simp only [List.nil_append, List.cons_append]
      refine ObE.step (v := undef) ?_ ?_
      · intro β A w' hβ hC hO hD
        simp [depsL, IsV, slotv, Act.eval, Region.binds] at hD
        simp [gd, Act.eval, hD]
        first | exact IsV.mk _ _ | exact ⟨by rfl, IsV.mk _ _⟩
      simp only [List.nil_append, List.cons_append]
      refine ObE.step (v := undef) ?_ ?_
      · intro β A w' hβ hC hO hD
        simp [depsL, IsV, slotv, Act.eval, Region.binds] at hD
        simp [gd, Act.eval, hD]
        first | exact IsV.mk _ _ | exact ⟨by rfl, IsV.mk _ _⟩
      simp only [List.nil_append, List.cons_append]
      refine ObE.step (v := undef) ?_ ?_
      · intro β A w' hβ hC hO hD
        simp [depsL, IsV, slotv, Act.eval, Region.binds] at hD
        simp [gd, Act.eval, hD]
        first | exact IsV.mk _ _ | exact ⟨by rfl, IsV.mk _ _⟩
      simp only [List.nil_append, List.cons_append]
      refine ObE.step (v := undef) ?_ ?_
      · intro β A w' hβ hC hO hD
        simp [depsL, IsV, slotv, Act.eval, Region.binds] at hD
        simp [gd, Act.eval, hD]
        first | exact IsV.mk _ _ | exact ⟨by rfl, IsV.mk _ _⟩
      simp only [List.nil_append, List.cons_append]
      refine ObE.step (v := undef) ?_ ?_
      · intro β A w' hβ hC hO hD
        simp [depsL, IsV, slotv, Act.eval, Region.binds] at hD
        simp [gd, Act.eval, hD]
        first | exact IsV.mk _ _ | exact ⟨by rfl, IsV.mk _ _⟩
      simp only [List.nil_append, List.cons_append]
      refine ObE.step (v := undef) ?_ ?_
      · intro β A w' hβ hC hO hD
        simp [depsL, IsV, slotv, Act.eval, Region.binds] at hD
        simp [gd, Act.eval, hD]
        first | exact IsV.mk _ _ | exact ⟨by rfl, IsV.mk _ _⟩
      simp only [List.nil_append, List.cons_append]
      refine ObE.step (v := undef) ?_ ?_
      · intro β A w' hβ hC hO hD
        simp [depsL, IsV, slotv, Act.eval, Region.binds] at hD
        simp [gd, Act.eval, hD]
        first | exact IsV.mk _ _ | exact ⟨by rfl, IsV.mk _ _⟩
      simp only [List.nil_append, List.cons_append]
      apply ObE.step
      case hobl =>
        intro β A w' hβ hC hO hD
        have e0 := hO 0 (by rfl)
        have e3 := hO 3 (by rfl)
        simp [Act.eval] at e0 e3
        simp [depsL, IsV, slotv, Act.eval, Region.binds] at hD
        simp [go_sem, gd, Oper.wp, e0, e3, hD]
        exact WPost.mk (grow_refl _) (by simpa using hC) (IsV.mk _ _)
      simp only [List.nil_append, List.cons_append]
      apply ObE.step
      case hobl =>
        intro β A w' hβ hC hO hD
        simp [depsL, IsV, slotv, Act.eval, Region.binds] at hD
        simp [go_sem, gd, Oper.wp, hD]
        refine (nesting_any true w').mono ?_
        rintro e' w2 ⟨rfl, rfl⟩
        exact WPost.mk (grow_refl _) (by simpa using hC) (IsV.mk _ _)
      simp only [List.nil_append, List.cons_append]
      apply ObE.step
      case hobl =>
        intro β A w' hβ hC hO hD
        have e0 := hO 0 (by rfl)
        have e3 := hO 3 (by rfl)
        simp [Act.eval] at e0 e3
        simp [depsL, IsV, slotv, Act.eval, Region.binds] at hD
        simp [go_sem, gd, Oper.wp, e0, e3, hD]
        exact WPost.mk (grow_refl _) (by simpa using hC) (IsV.mk _ _)
      simp only [List.nil_append, List.cons_append]
      apply ObE.step
      case hobl =>
        intro β A w' hβ hC hO hD
        have e0 := hO 0 (by rfl)
        have e3 := hO 3 (by rfl)
        simp [Act.eval] at e0 e3
        simp [depsL, IsV, slotv, Act.eval, Region.binds] at hD
        simp [go_sem, gd, Oper.wp, e0, e3, hD]
        exact WPost.mk (grow_refl _) (by simpa using hC) (IsV.mk _ _)
      simp only [List.nil_append, List.cons_append]
      apply ObE.step
      case hobl =>
        intro β A w' hβ hC hO hD
        have e0 := hO 0 (by rfl)
        have e3 := hO 3 (by rfl)
        simp [Act.eval] at e0 e3
        simp [depsL, IsV, slotv, Act.eval, Region.binds] at hD
        simp [go_sem, gd, Oper.wp, e0, e3, hD]
        exact WPost.mk (grow_refl _) (by simpa using hC) (IsV.mk _ _)
      simp only [List.nil_append, List.cons_append]
      apply ObE.step
      case hobl =>
        intro β A w' hβ hC hO hD
        have e0 := hO 0 (by rfl)
        have e3 := hO 3 (by rfl)
        simp [Act.eval] at e0 e3
        simp [depsL, IsV, slotv, Act.eval, Region.binds] at hD
        simp [go_sem, gd, Oper.wp, e0, e3, hD, LM, hC.1]
        exact WPost.mk (grow_refl _) (by simpa using hC) (IsV.mk _ _)
      simp only [List.nil_append, List.cons_append]
      apply ObE.step
      case hobl =>
        intro β A w' hβ hC hO hD
        have e0 := hO 0 (by rfl)
        have e3 := hO 3 (by rfl)
        simp [Act.eval] at e0 e3
        simp [depsL, IsV, slotv, Act.eval, Region.binds] at hD
        simp [go_sem, gd, Oper.wp, e0, e3, hD]
        exact WPost.mk (grow_refl _) (by simpa using hC) (IsV.mk _ _)
      simp only [List.nil_append, List.cons_append]
      apply ObE.step
      case hobl =>
        intro β A w' hβ hC hO hD
        have e0 := hO 0 (by rfl)
        have e3 := hO 3 (by rfl)
        simp [Act.eval] at e0 e3
        simp [depsL, IsV, slotv, Act.eval, Region.binds] at hD
        simp [go_sem, gd, Oper.wp, e0, e3, hD, L2, hC.1]
        exact WPost.mk (grow_refl _) (by simpa using hC) (IsV.mk _ _)
      simp only [List.nil_append, List.cons_append]
      apply ObE.step
      case hobl =>
        intro β A w' hβ hC hO hD
        obtain rfl := hβ (by simp)
        simp [depsL, IsV, slotv, Act.eval, Region.binds] at hD
        simp [go_sem, gd, Oper.wp, hD]
        refine (once_any h.nm w' bs n f HN.out HNS.out (by simpa using hC.2)).mono ?_
        rintro e' w2 ⟨rfl, hm2, hg2⟩
        exact WPost.mk hg2 ⟨grow_trans hC.1 hg2, by simpa using hm2⟩ (IsV.mk _ _)
      simp only [List.nil_append, List.cons_append]
      refine ObE.some (fun v w' => ∃ b, b ≠ bs ∧ v = .slice (some ⟨b, 0, none⟩) 3 3 ∧ InAt w' w'.heap.size [kindE (mean p (j : Int) h.nm) [8], nest true, (onceE (f h.nm.toList))] (some ⟨b, 0, none⟩) 0) ?_ ?_ ?_
      · rintro v w w' hle ⟨b, hbn, rfl, hin⟩
        exact ⟨b, hbn, rfl, InAt.grow hbn hle hin⟩
      · intro β A w' hβ hC hO hD
        simp [depsL, IsV, slotv, Act.eval, Region.binds] at hD
        simp [go_sem, gd, Oper.wp, hD]
        exact WPost.mk (d := _) (v := .slice (some ⟨_, 0, none⟩) 3 3) (grow_below (alloc_below _ _)) (by simpa using hC.below (alloc_below _ _)) ⟨_, by have := hC.2.lt; omega, rfl, inAt_three _ _ _ _ _⟩
      simp only [List.nil_append, List.cons_append]
      apply ObE.step
      case hobl =>
        intro β A w' hβ hC hO hD
        simp [depsL, IsV, slotv, Act.eval, Region.binds] at hD
        obtain ⟨⟨b145, hn145, d145, hin145⟩, -⟩ := hD
        simp [go_sem, gd, Oper.wp, d145]
        refine (ckFirst_any [kindE (mean p (j : Int) h.nm) [8], nest true, (onceE (f h.nm.toList))] w' _ _ (by simp [maxLen]) hin145).mono ?_
        rintro e' w2 ⟨rfl, rfl⟩
        exact WPost.mk (grow_refl _) (by simpa using hC) (IsV.mk _ _)
      simp only [List.nil_append, List.cons_append]
      apply ObE.step
      case hobl =>
        intro β A w' hβ hC hO hD
        have e0 := hO 0 (by rfl)
        have e3 := hO 3 (by rfl)
        simp [Act.eval] at e0 e3
        simp [depsL, IsV, slotv, Act.eval, Region.binds] at hD
        simp [go_sem, gd, Oper.wp, e0, e3, hD]
        exact WPost.mk (grow_refl _) (by simpa using hC) (IsV.mk _ _)
      simp only [List.nil_append, List.cons_append]
      intro wz hCz
      intro v0 h0 v1 h1 v2 h2 v3 h3 v4 h4 v5 h5 v6 h6 v7 h7 v8 h8 v9 h9 v10 h10 v11 h11 v12 h12 v13 h13 v14 h14 v15 h15 v16 h16 v17 h17 v18 h18 v19 h19 v20 h20 v21 h21 v22 h22 v23 h23 v24 h24 v25 h25 v26 h26 v27 h27 v28 h28 v29 h29 v30 h30 v31 h31 v32 h32 v33 h33 v34 h34 v35 h35 v36 h36 v37 h37 v38 h38
      have hl' : v38 = _ := h38
      subst hl'
      clear h0 h1 h2 h3 h4 h5 h6 h7 h8 h9 h10 h11 h12 h13 h14 h15 h16 h17 h18 h19 h20 h21 h22 h23 h24 h25 h26 h27 h28 h29 h30 h31 h32 h33 h34 h35 h36 h37 h38
      refine AllVals.nil ?_
      have HZ : Hid (MC W bs n f (setP f h.nm.toList) true wz) := Lib.hid (by simpa using hCz)
      clear hCz
      go_simp
      go_wp2_with fail
      go_ret
      refine setPost_mk ?_ HZ.out HG.out
      rw [← HR.out, hq, ho]
      try rfl
  · refine wp_region_wildK 35 (MC W bs n f (setP f h.nm.toList)) (fun w w' => w.grownBy w' (some bs)) [109, 110, 111, 112, 113, 114, 115, 116, 117, 118, 119, 120, 121, 122, 123, 124, 125, 126, 127, 128, 129, 130, 131, 132, 133, 134, 135, 136, 137, 138, 139, 140, 141, 142, 143, 144, 145, 146, 4] (by kernel_rfl) (by kernel_rfl) (fun _ => grow_refl _) (by rfl) ⟨grow_below (below_drewN (Below.refl _ _) 1), by simpa using HM.out.next (below_drewN (Below.refl _ _) 1)⟩ ?_
    apply ObE.step
    case hobl =>
      intro β A w' hβ hC hO hD
      have e0 := hO 0 (by rfl)
      have e3 := hO 3 (by rfl)
      simp [Act.eval] at e0 e3
      simp [depsL, IsV, slotv, Act.eval, Region.binds] at hD
      simp [go_sem, gd, Oper.wp, e0, e3, hD]
      exact WPost.mk (grow_refl _) (by simpa using hC) (IsV.mk _ _)
    apply ObE.step
    case hobl =>
      intro β A w' hβ hC hO hD
      have e0 := hO 0 (by rfl)
      have e3 := hO 3 (by rfl)
      simp [Act.eval] at e0 e3
      simp [depsL, IsV, slotv, Act.eval, Region.binds] at hD
      simp [go_sem, gd, Oper.wp, e0, e3, hD]
      exact WPost.mk (grow_refl _) (by simpa using hC) (IsV.mk _ _)
    simp only [List.nil_append, List.cons_append]
    apply ObE.step
    case hobl =>
      intro β A w' hβ hC hO hD
      have e0 := hO 0 (by rfl)
      have e3 := hO 3 (by rfl)
      simp [Act.eval] at e0 e3
      simp [depsL, IsV, slotv, Act.eval, Region.binds] at hD
      simp [go_sem, gd, Oper.wp, e0, e3, hD, L2, hC.1]
      exact WPost.mk (grow_refl _) (by simpa using hC) (IsV.mk _ _)
    simp only [List.nil_append, List.cons_append]
    refine ObE.some (fun v w' => ∃ b, b ≠ bs ∧ v = .slice (some ⟨b, 0, none⟩) 1 1 ∧ InAt w' w'.heap.size [8] (some ⟨b, 0, none⟩) 0) ?_ ?_ ?_
    · rintro v w w' hle ⟨b, hbn, rfl, hin⟩
      exact ⟨b, hbn, rfl, InAt.grow hbn hle hin⟩
    · intro β A w' hβ hC hO hD
      simp [go_sem, gd, Oper.wp]
      exact WPost.mk (d := _) (v := .slice (some ⟨_, 0, none⟩) 1 1) (grow_below (alloc_below _ _)) (by simpa using hC.below (alloc_below _ _)) ⟨_, by have := hC.2.lt; omega, rfl, inAt_one _ 8 _⟩
    simp only [List.nil_append, List.cons_append]
    apply ObE.step
    case hobl =>
      intro β A w' hβ hC hO hD
      simp [depsL, IsV, slotv, Act.eval, Region.binds] at hD
      obtain ⟨d109, d111, b112, hn112, d112, hin112⟩ := hD
      simp [go_sem, gd, Oper.wp, d109, d111, d112]
      refine (ckKind_any p w' aoD (some ⟨b0, off0, none⟩) capD capT _ aoA _ capA bs bt bc h.nm [8] _ 1 hi (by decide) (HP.out _ hC.1) hin112 (HK.out _ hC.1)).mono ?_
      rintro e' w2 ⟨rfl, hb⟩
      exact WPost.mk (grow_below hb) (by simpa using hC.below hb) (IsV.mk _ _)
    simp only [List.nil_append, List.cons_append]
    apply ObE.step
    case hobl =>
      intro β A w' hβ hC hO hD
      have e0 := hO 0 (by rfl)
      have e3 := hO 3 (by rfl)
      simp [Act.eval] at e0 e3
      simp [depsL, IsV, slotv, Act.eval, Region.binds] at hD
      simp [go_sem, gd, Oper.wp, e0, e3, hD]
      exact WPost.mk (grow_refl _) (by simpa using hC) (IsV.mk _ _)
    simp only [List.nil_append, List.cons_append]
    refine ObE.some (fun v w' => ∃ b, b ≠ bs ∧ v = .slice (some ⟨b, 0, none⟩) 3 3 ∧ InAt w' w'.heap.size [7, 8, 3] (some ⟨b, 0, none⟩) 0) ?_ ?_ ?_
    · rintro v w w' hle ⟨b, hbn, rfl, hin⟩
      exact ⟨b, hbn, rfl, InAt.grow hbn hle hin⟩
    · intro β A w' hβ hC hO hD
      simp [go_sem, gd, Oper.wp]
      exact WPost.mk (d := _) (v := .slice (some ⟨_, 0, none⟩) 3 3) (grow_below (alloc_below _ _)) (by simpa using hC.below (alloc_below _ _)) ⟨_, by have := hC.2.lt; omega, rfl, inAt_three _ 7 8 3 _⟩
    simp only [List.nil_append, List.cons_append]
    apply ObE.step
    case hobl =>
      intro β A w' hβ hC hO hD
      simp [depsL, IsV, slotv, Act.eval, Region.binds] at hD
      obtain ⟨d114, ⟨b115, hn115, d115, hin115⟩, -⟩ := hD
      simp [go_sem, gd, Oper.wp, d114, d115]
      refine (hq ▸ ckInside_any p w' aoD (some ⟨b0, off0, none⟩) capD capT (j : Int) aoA capA bs bt bc ar [7, 8, 3] _ 3 (by decide) hin115 HAL.out (HAR.out _ hC.1) (HK.out _ hC.1)).mono ?_
      rintro e' w2 ⟨rfl, hb⟩
      exact WPost.mk (grow_below hb) (by simpa using hC.below hb) (IsV.mk _ _)
    simp only [List.nil_append, List.cons_append]
    apply ObE.step
    case hobl =>
      intro β A w' hβ hC hO hD
      have e0 := hO 0 (by rfl)
      have e3 := hO 3 (by rfl)
      simp [Act.eval] at e0 e3
      simp [depsL, IsV, slotv, Act.eval, Region.binds] at hD
      simp [go_sem, gd, Oper.wp, e0, e3, hD]
      exact WPost.mk (grow_refl _) (by simpa using hC) (IsV.mk _ _)
    simp only [List.nil_append, List.cons_append]
    refine ObE.step (v := undef) ?_ ?_
    · intro β A w' hβ hC hO hD
      simp [depsL, IsV, slotv, Act.eval, Region.binds] at hD
      simp [gd, Act.eval, hD]
      first | exact IsV.mk _ _ | exact ⟨by rfl, IsV.mk _ _⟩
    simp only [List.nil_append, List.cons_append]
    refine ObE.step (v := undef) ?_ ?_
    · intro β A w' hβ hC hO hD
      simp [depsL, IsV, slotv, Act.eval, Region.binds] at hD
      simp [gd, Act.eval, hD]
      first | exact IsV.mk _ _ | exact ⟨by rfl, IsV.mk _ _⟩
    simp only [List.nil_append, List.cons_append]
    refine ObE.step (v := undef) ?_ ?_
    · intro β A w' hβ hC hO hD
      simp [depsL, IsV, slotv, Act.eval, Region.binds] at hD
      simp [gd, Act.eval, hD]
      first | exact IsV.mk _ _ | exact ⟨by rfl, IsV.mk _ _⟩
    simp only [List.nil_append, List.cons_append]
    refine ObE.step (v := undef) ?_ ?_
    · intro β A w' hβ hC hO hD
      simp [depsL, IsV, slotv, Act.eval, Region.binds] at hD
      simp [gd, Act.eval, hD]
      first | exact IsV.mk _ _ | exact ⟨by rfl, IsV.mk _ _⟩
    simp only [List.nil_append, List.cons_append]
    refine ObE.step (v := undef) ?_ ?_
    · intro β A w' hβ hC hO hD
      simp [depsL, IsV, slotv, Act.eval, Region.binds] at hD
      simp [gd, Act.eval, hD]
      first | exact IsV.mk _ _ | exact ⟨by rfl, IsV.mk _ _⟩
    simp only [List.nil_append, List.cons_append]
    apply ObE.step
    case hobl =>
      intro β A w' hβ hC hO hD
      have e0 := hO 0 (by rfl)
      have e3 := hO 3 (by rfl)
      simp [Act.eval] at e0 e3
      simp [depsL, IsV, slotv, Act.eval, Region.binds] at hD
      simp [go_sem, gd, Oper.wp, e0, e3, hD]
      exact WPost.mk (grow_refl _) (by simpa using hC) (IsV.mk _ _)
    simp only [List.nil_append, List.cons_append]
    apply ObE.step
    case hobl =>
      intro β A w' hβ hC hO hD
      have e0 := hO 0 (by rfl)
      have e3 := hO 3 (by rfl)
      simp [Act.eval] at e0 e3
      simp [depsL, IsV, slotv, Act.eval, Region.binds] at hD
      simp [go_sem, gd, Oper.wp, e0, e3, hD]
      exact WPost.mk (grow_refl _) (by simpa using hC) (IsV.mk _ _)
    simp only [List.nil_append, List.cons_append]
    refine ObE.step (v := undef) ?_ ?_
    · intro β A w' hβ hC hO hD
      simp [depsL, IsV, slotv, Act.eval, Region.binds] at hD
      simp [gd, Act.eval, hD]
      first | exact IsV.mk _ _ | exact ⟨by rfl, IsV.mk _ _⟩
    simp only [List.nil_append, List.cons_append]
    refine ObE.step (v := undef) ?_ ?_
    · intro β A w' hβ hC hO hD
      simp [depsL, IsV, slotv, Act.eval, Region.binds] at hD
      simp [gd, Act.eval, hD]
      first | exact IsV.mk _ _ | exact ⟨by rfl, IsV.mk _ _⟩
    simp only [List.nil_append, List.cons_append]
    refine ObE.step (v := undef) ?_ ?_
    · intro β A w' hβ hC hO hD
      simp [depsL, IsV, slotv, Act.eval, Region.binds] at hD
      simp [gd, Act.eval, hD]
      first | exact IsV.mk _ _ | exact ⟨by rfl, IsV.mk _ _⟩
    simp only [List.nil_append, List.cons_append]
    refine ObE.step (v := undef) ?_ ?_
    · intro β A w' hβ hC hO hD
      simp [depsL, IsV, slotv, Act.eval, Region.binds] at hD
      simp [gd, Act.eval, hD]
      first | exact IsV.mk _ _ | exact ⟨by rfl, IsV.mk _ _⟩
    simp only [List.nil_append, List.cons_append]
    refine ObE.step (v := undef) ?_ ?_
    · intro β A w' hβ hC hO hD
      simp [depsL, IsV, slotv, Act.eval, Region.binds] at hD
      simp [gd, Act.eval, hD]
      first | exact IsV.mk _ _ | exact ⟨by rfl, IsV.mk _ _⟩
    simp only [List.nil_append, List.cons_append]
    refine ObE.step (v := undef) ?_ ?_
    · intro β A w' hβ hC hO hD
      simp [depsL, IsV, slotv, Act.eval, Region.binds] at hD
      simp [gd, Act.eval, hD]
      first | exact IsV.mk _ _ | exact ⟨by rfl, IsV.mk _ _⟩
    simp only [List.nil_append, List.cons_append]
    refine ObE.step (v := undef) ?_ ?_
    · intro β A w' hβ hC hO hD
      simp [depsL, IsV, slotv, Act.eval, Region.binds] at hD
      simp [gd, Act.eval, hD]
      first | exact IsV.mk _ _ | exact ⟨by rfl, IsV.mk _ _⟩
    simp only [List.nil_append, List.cons_append]
    refine ObE.step (v := undef) ?_ ?_
    · intro β A w' hβ hC hO hD
      simp [depsL, IsV, slotv, Act.eval, Region.binds] at hD
      simp [gd, Act.eval, hD]
      first | exact IsV.mk _ _ | exact ⟨by rfl, IsV.mk _ _⟩
    simp only [List.nil_append, List.cons_append]
    refine ObE.step (v := undef) ?_ ?_
    · intro β A w' hβ hC hO hD
      simp [depsL, IsV, slotv, Act.eval, Region.binds] at hD
      simp [gd, Act.eval, hD]
      first | exact IsV.mk _ _ | exact ⟨by rfl, IsV.mk _ _⟩
    simp only [List.nil_append, List.cons_append]
    refine ObE.step (v := undef) ?_ ?_
    · intro β A w' hβ hC hO hD
      simp [depsL, IsV, slotv, Act.eval, Region.binds] at hD
      simp [gd, Act.eval, hD]
      first | exact IsV.mk _ _ | exact ⟨by rfl, IsV.mk _ _⟩
    simp only [List.nil_append, List.cons_append]
    refine ObE.step (v := undef) ?_ ?_
    · intro β A w' hβ hC hO hD
      simp [depsL, IsV, slotv, Act.eval, Region.binds] at hD
      simp [gd, Act.eval, hD]
      first | exact IsV.mk _ _ | exact ⟨by rfl, IsV.mk _ _⟩
    simp only [List.nil_append, List.cons_append]
    apply ObE.step
    case hobl =>
      intro β A w' hβ hC hO hD
      have e0 := hO 0 (by rfl)
      have e3 := hO 3 (by rfl)
      simp [Act.eval] at e0 e3
      simp [depsL, IsV, slotv, Act.eval, Region.binds] at hD
      simp [go_sem, gd, Oper.wp, e0, e3, hD]
      exact WPost.mk (grow_refl _) (by simpa using hC) (IsV.mk _ _)
    simp only [List.nil_append, List.cons_append]
    apply ObE.step
    case hobl =>
      intro β A w' hβ hC hO hD
      simp [depsL, IsV, slotv, Act.eval, Region.binds] at hD
      simp [go_sem, gd, Oper.wp, hD]
      refine (nesting_any true w').mono ?_
      rintro e' w2 ⟨rfl, rfl⟩
      exact WPost.mk (grow_refl _) (by simpa using hC) (IsV.mk _ _)
    simp only [List.nil_append, List.cons_append]
    apply ObE.step
    case hobl =>
      intro β A w' hβ hC hO hD
      have e0 := hO 0 (by rfl)
      have e3 := hO 3 (by rfl)
      simp [Act.eval] at e0 e3
      simp [depsL, IsV, slotv, Act.eval, Region.binds] at hD
      simp [go_sem, gd, Oper.wp, e0, e3, hD]
      exact WPost.mk (grow_refl _) (by simpa using hC) (IsV.mk _ _)
    simp only [List.nil_append, List.cons_append]
    apply ObE.step
    case hobl =>
      intro β A w' hβ hC hO hD
      have e0 := hO 0 (by rfl)
      have e3 := hO 3 (by rfl)
      simp [Act.eval] at e0 e3
      simp [depsL, IsV, slotv, Act.eval, Region.binds] at hD
      simp [go_sem, gd, Oper.wp, e0, e3, hD]
      exact WPost.mk (grow_refl _) (by simpa using hC) (IsV.mk _ _)
    simp only [List.nil_append, List.cons_append]
    apply ObE.step
    case hobl =>
      intro β A w' hβ hC hO hD
      have e0 := hO 0 (by rfl)
      have e3 := hO 3 (by rfl)
      simp [Act.eval] at e0 e3
      simp [depsL, IsV, slotv, Act.eval, Region.binds] at hD
      simp [go_sem, gd, Oper.wp, e0, e3, hD]
      exact WPost.mk (grow_refl _) (by simpa using hC) (IsV.mk _ _)
    simp only [List.nil_append, List.cons_append]
    apply ObE.step
    case hobl =>
      intro β A w' hβ hC hO hD
      have e0 := hO 0 (by rfl)
      have e3 := hO 3 (by rfl)
      simp [Act.eval] at e0 e3
      simp [depsL, IsV, slotv, Act.eval, Region.binds] at hD
      simp [go_sem, gd, Oper.wp, e0, e3, hD, LM, hC.1]
      exact WPost.mk (grow_refl _) (by simpa using hC) (IsV.mk _ _)
    simp only [List.nil_append, List.cons_append]
    apply ObE.step
    case hobl =>
      intro β A w' hβ hC hO hD
      have e0 := hO 0 (by rfl)
      have e3 := hO 3 (by rfl)
      simp [Act.eval] at e0 e3
      simp [depsL, IsV, slotv, Act.eval, Region.binds] at hD
      simp [go_sem, gd, Oper.wp, e0, e3, hD]
      exact WPost.mk (grow_refl _) (by simpa using hC) (IsV.mk _ _)
    simp only [List.nil_append, List.cons_append]
    apply ObE.step
    case hobl =>
      intro β A w' hβ hC hO hD
      have e0 := hO 0 (by rfl)
      have e3 := hO 3 (by rfl)
      simp [Act.eval] at e0 e3
      simp [depsL, IsV, slotv, Act.eval, Region.binds] at hD
      simp [go_sem, gd, Oper.wp, e0, e3, hD, L2, hC.1]
      exact WPost.mk (grow_refl _) (by simpa using hC) (IsV.mk _ _)
    simp only [List.nil_append, List.cons_append]
    apply ObE.step
    case hobl =>
      intro β A w' hβ hC hO hD
      obtain rfl := hβ (by simp)
      simp [depsL, IsV, slotv, Act.eval, Region.binds] at hD
      simp [go_sem, gd, Oper.wp, hD]
      refine (once_any h.nm w' bs n f HN.out HNS.out (by simpa using hC.2)).mono ?_
      rintro e' w2 ⟨rfl, hm2, hg2⟩
      exact WPost.mk hg2 ⟨grow_trans hC.1 hg2, by simpa using hm2⟩ (IsV.mk _ _)
    simp only [List.nil_append, List.cons_append]
    refine ObE.some (fun v w' => ∃ b, b ≠ bs ∧ v = .slice (some ⟨b, 0, none⟩) 3 3 ∧ InAt w' w'.heap.size [kindE (mean p (j : Int) h.nm) [8], nest true, (onceE (f h.nm.toList))] (some ⟨b, 0, none⟩) 0) ?_ ?_ ?_
    · rintro v w w' hle ⟨b, hbn, rfl, hin⟩
      exact ⟨b, hbn, rfl, InAt.grow hbn hle hin⟩
    · intro β A w' hβ hC hO hD
      simp [depsL, IsV, slotv, Act.eval, Region.binds] at hD
      simp [go_sem, gd, Oper.wp, hD]
      exact WPost.mk (d := _) (v := .slice (some ⟨_, 0, none⟩) 3 3) (grow_below (alloc_below _ _)) (by simpa using hC.below (alloc_below _ _)) ⟨_, by have := hC.2.lt; omega, rfl, inAt_three _ _ _ _ _⟩
    simp only [List.nil_append, List.cons_append]
    apply ObE.step
    case hobl =>
      intro β A w' hβ hC hO hD
      simp [depsL, IsV, slotv, Act.eval, Region.binds] at hD
      obtain ⟨⟨b145, hn145, d145, hin145⟩, -⟩ := hD
      simp [go_sem, gd, Oper.wp, d145]
      refine (ckFirst_any [kindE (mean p (j : Int) h.nm) [8], nest true, (onceE (f h.nm.toList))] w' _ _ (by simp [maxLen]) hin145).mono ?_
      rintro e' w2 ⟨rfl, rfl⟩
      exact WPost.mk (grow_refl _) (by simpa using hC) (IsV.mk _ _)
    simp only [List.nil_append, List.cons_append]
    apply ObE.step
    case hobl =>
      intro β A w' hβ hC hO hD
      have e0 := hO 0 (by rfl)
      have e3 := hO 3 (by rfl)
      simp [Act.eval] at e0 e3
      simp [depsL, IsV, slotv, Act.eval, Region.binds] at hD
      simp [go_sem, gd, Oper.wp, e0, e3, hD]
      exact WPost.mk (grow_refl _) (by simpa using hC) (IsV.mk _ _)
    simp only [List.nil_append, List.cons_append]
    intro wz hCz
    intro v0 h0 v1 h1 v2 h2 v3 h3 v4 h4 v5 h5 v6 h6 v7 h7 v8 h8 v9 h9 v10 h10 v11 h11 v12 h12 v13 h13 v14 h14 v15 h15 v16 h16 v17 h17 v18 h18 v19 h19 v20 h20 v21 h21 v22 h22 v23 h23 v24 h24 v25 h25 v26 h26 v27 h27 v28 h28 v29 h29 v30 h30 v31 h31 v32 h32 v33 h33 v34 h34 v35 h35 v36 h36 v37 h37 v38 h38
    have hl' : v38 = _ := h38
    subst hl'
    clear h0 h1 h2 h3 h4 h5 h6 h7 h8 h9 h10 h11 h12 h13 h14 h15 h16 h17 h18 h19 h20 h21 h22 h23 h24 h25 h26 h27 h28 h29 h30 h31 h32 h33 h34 h35 h36 h37 h38
    refine AllVals.nil ?_
    have HZ : Hid (MC W bs n f (setP f h.nm.toList) true wz) := Lib.hid (by simpa using hCz)
    clear hCz
    go_simp
    go_wp2_with fail
    go_ret
    refine setPost_mk ?_ HZ.out HG.out
    rw [← HR.out, hq]
    try rfl
end
end Go.Proofs.YtommnhglgedflaaGreatDoor
end
