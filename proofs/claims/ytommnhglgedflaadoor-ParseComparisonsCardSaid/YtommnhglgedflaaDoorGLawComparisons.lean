/-
  The walk of the law ParseComparisons.
-/
import Derived.Test.YtommnhglgedflaaDoorGRF
set_option linter.unusedSimpArgs false
set_option linter.unusedVariables false
namespace Go.Proofs.YtommnhglgedflaaDoor
open Go.RowKit
open Md Pz
def cmT1 : List UInt8 := [97, 32, 60, 32, 98, 32, 60, 32, 99]
def cmT2 : List UInt8 := [97, 32, 43, 32, 49, 32, 60, 32, 98, 32, 38, 38, 32, 99]
def cmK : ExL → Bool
  | .cons o _ _ k _ => o == 13 && (k.len == 2 && match k with | .cons o' _ _ _ _ => o' == 6 | .nil => false)
  | .nil => false
def cmB : Bool := (parseE cmT1).2.1 == 3 && ((parseE cmT1).2.2 == 1 && ((parseE cmT2).2.1 == 0 && ((parseE cmT2).1.op == 17 && ((parseE cmT2).1.kids.len == 2 && cmK (parseE cmT2).1.kids))))
theorem cm_b : cmB = true := by decide +kernel
theorem cm_k {l : ExL} (h : cmK l = true) : ∃ n nm n' nm' k' r' r, l = .cons 13 n nm (.cons 6 n' nm' k' r') r ∧ (ExL.cons 6 n' nm' k' r').len = 2 := by
  cases l with
  | nil => cases h
  | cons o n nm k r =>
    unfold cmK at h
    cases k with
    | nil => simp at h
    | cons o' n' nm' k' r' =>
      simp only [Bool.and_eq_true, beq_iff_eq] at h
      obtain ⟨rfl, h2, rfl⟩ := h
      exact ⟨n, nm, n', nm', k', r', r, rfl, h2⟩
theorem cm_facts : (∃ x1, parseE cmT1 = (x1, 3, 1)) ∧ ∃ x n nm n' nm' k' r' r l, parseE cmT2 = (x, 0, l) ∧ x.op = 17 ∧ x.kids.len = 2 ∧ x.kids = .cons 13 n nm (.cons 6 n' nm' k' r') r ∧ (ExL.cons 6 n' nm' k' r').len = 2 := by
  have h := cm_b
  unfold cmB at h
  generalize parseE cmT1 = r1 at h
  generalize parseE cmT2 = r2 at h
  obtain ⟨x1, e1, l1⟩ := r1
  obtain ⟨x2, e2, l2⟩ := r2
  simp only [Bool.and_eq_true, beq_iff_eq] at h
  obtain ⟨rfl, rfl, rfl, h1, h2, h3⟩ := h
  obtain ⟨n, nm, n', nm', k', r', r, e, he⟩ := cm_k h3
  exact ⟨⟨x1, rfl⟩, x2, n, nm, n', nm', k', r', r, l2, rfl, h1, h2, e, he⟩
/-- What Expr leaves at the second text. -/
def CmP (w : World) (e : Ending) (w' : World) : Prop :=
  ∃ (n : Int) (nm : ByteArray) (b off cap b' off' cap' : Nat) (l : Int), e = .returned (.tuple #[.agg #[.int .i64 17, .int .i64 n, .string nm, .slice (some ⟨b, off, none⟩) 2 cap], .int .i64 0, .int .i64 l]) ∧ b < w'.heap.size ∧ b' < w'.heap.size ∧
    w'.cell? ⟨b, off, none⟩ = some (.int .i64 13) ∧ w'.cell? ⟨b, off + 3, none⟩ = some (.slice (some ⟨b', off', none⟩) 2 cap') ∧ w'.cell? ⟨b', off', none⟩ = some (.int .i64 6) ∧ Below w.heap.size w w'
set_option maxHeartbeats 4000000 in
set_option maxRecDepth 100000 in
theorem ParseComparisons_walk (w : World) (hkw : KwLaid w) :
    Calls Tryd.prog 5 #[] w fun e w' => e = .returned (.bool true) ∧ Below w.heap.size w w' := by
  obtain ⟨⟨x1, h1⟩, x, n, nm, n', nm', k', r', r, l, h2, hop, hlen, hk, hkl⟩ := cm_facts
  have HX1 : Hid (∀ w, KwLaid w → Calls Tryd.prog 7 #[.string ⟨#[97, 32, 60, 32, 98, 32, 60, 32, 99]⟩] w (ExpE w (x1, 3, 1))) := Lib.hid (fun w h => by
    have h3 := Expr_any ⟨#[97, 32, 60, 32, 98, 32, 60, 32, 99]⟩ w h (by decide)
    have e : parseE (⟨#[97, 32, 60, 32, 98, 32, 60, 32, 99]⟩ : ByteArray).data.toList = (x1, 3, 1) := h1
    rw [e] at h3
    exact h3)
  have HX2 : Hid (∀ w, KwLaid w → Calls Tryd.prog 7 #[.string ⟨#[97, 32, 43, 32, 49, 32, 60, 32, 98, 32, 38, 38, 32, 99]⟩] w (CmP w)) := Lib.hid (fun w h => by
    have h3 := Expr_any ⟨#[97, 32, 43, 32, 49, 32, 60, 32, 98, 32, 38, 38, 32, 99]⟩ w h (by decide)
    have e : parseE (⟨#[97, 32, 43, 32, 49, 32, 60, 32, 98, 32, 38, 38, 32, 99]⟩ : ByteArray).data.toList = (x, 0, l) := h2
    rw [e] at h3
    refine h3.mono ?_
    rintro e w' ⟨ao, cap, rfl, -, hat, hb⟩
    dsimp only at hat ⊢
    unfold exV
    rw [hlen, hop]
    rw [hk] at hat
    obtain ⟨⟨b, off, ao', cap', rfl, hlt, c0, -, -, c3, -, hk2⟩, -⟩ := hat
    obtain ⟨⟨b', off', ao'', cap'', rfl, hlt', d0, -⟩, -⟩ := hk2
    rw [hkl] at c3
    rw [Nat.zero_mul, Nat.add_zero] at c0 c3 d0
    exact ⟨_, _, b, off, cap, b', off', cap', l, rfl, hlt, hlt', c0, c3, d0, hb⟩)
  have HKW := Lib.hid hkw
  clear h1 h2 hop hlen hk hkl hkw
  go_enter Tryd.func5, Tryd.ntmps5
  go_wp2_with fail
  refine (HX1.out _ HKW.out).mono ?_
  rintro e w1 ⟨ao1, cap1, rfl, -, -, hb1⟩
  unfold exV
  go_upto_region 2 with fail
  generalize hW : World.alloc w1 _ = W1
  have HB1 : Hid (Below w.heap.size w W1) := Lib.hid (by rw [← hW]; exact hb1.trans ((alloc_below w1 _).mono hb1.size))
  clear hW hb1
  go_wp2_with fail
  refine (HX2.out _ (HKW.out.same HB1.out)).mono ?_
  rintro e w2 ⟨n, nm, b, off, cap, b', off', cap', l, rfl, hlt, hlt', c0, c3, d0, hb2⟩
  go_upto_region 3 with fail
  generalize hW : World.alloc w2 _ = W2
  have HB2 : Hid (Below w.heap.size w W2) := Lib.hid (by rw [← hW]; exact HB1.out.trans ((hb2.trans ((alloc_below w2 _).mono hb2.size)).mono HB1.out.size))
  have HX : Hid (W2.heap[w2.heap.size]? = some (.cells #[.int .i64 17, .int .i64 n, .string nm, .slice (some ⟨b, off, none⟩) 2 cap] 26 (0, 0))) := Lib.hid (by rw [← hW]; exact heap_alloc_new _ _)
  have e0 : W2.cell? ⟨b, off, none⟩ = some (.int .i64 13) := by rw [← hW]; exact ((alloc_below w2 _).cell hlt).trans c0
  have e3 : W2.cell? ⟨b, off + 3, none⟩ = some (.slice (some ⟨b', off', none⟩) 2 cap') := by rw [← hW]; exact ((alloc_below w2 _).cell hlt).trans c3
  have g0 : W2.cell? ⟨b', off', none⟩ = some (.int .i64 6) := by rw [← hW]; exact ((alloc_below w2 _).cell hlt').trans d0
  have x0 : W2.cell? ⟨w2.heap.size, 0, none⟩ = some (.int .i64 17) := cellb HX.out rfl
  have x3 : W2.cell? ⟨w2.heap.size, 3, none⟩ = some (.slice (some ⟨b, off, none⟩) 2 cap) := cellb HX.out rfl
  clear hW hb2 c0 c3 d0 HX1 HX2
  go_wp2_with fail
  refine (awake_any W2 (HKW.out.same HB2.out)).mono ?_
  rintro e w3 ⟨rfl, hb3⟩
  go_wp2_with fail
  go_ret
  exact ⟨rfl, HB2.out.trans (hb3.mono HB2.out.size)⟩
end Go.Proofs.YtommnhglgedflaaDoor
