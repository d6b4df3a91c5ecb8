/-
  The walk of the law CompileTexts.
-/
import Derived.Test.YtmijlhhaogmeeaaDoorCmpRef
namespace Go.Proofs.YtmijlhhaogmeeaaDoor
open Go.RowKit

theorem WordsLaid.below {B : Nat} {w w' : World} (h : WordsLaid w) (hb : Below B w w') (hB : 0 < B) : WordsLaid w' := fun i hi => (hb.cell (by exact hB)).trans (h i hi)

theorem Text_any (op a b c n s : Int) (w : World) (hw : WordsLaid w) (hp : PowLaid w) (hz : 3 < w.heap.size)
    (a0 : -9223372036854775808 ≤ a) (a1 : a ≤ 9223372036854775807) (b0 : -9223372036854775808 ≤ b) (b1 : b ≤ 9223372036854775807) (c0 : -9223372036854775808 ≤ c) (c1 : c ≤ 9223372036854775807) (n0 : -9223372036854775808 ≤ n) (n1 : n ≤ 9223372036854775807) :
    Calls Tryd.prog 4 #[.agg #[.int .i64 op, .int .i64 a, .int .i64 b, .int .i64 c, .int .i64 n, .int .i64 s]] w fun e w' => e = .returned (.string (txB (opN op) a b c n)) ∧ Below w.heap.size w w' := by
  unfold opN
  by_cases h1 : 0 ≤ op
  · by_cases h2 : op < 29
    · rw [if_pos ⟨h1, h2⟩]; exact Text_in op a b c n s w h1 h2 hw hp hz a0 a1 b0 b1 c0 c1 n0 n1
    · rw [if_neg (fun h => h2 h.2)]; exact Text_big op a b c n s w (by omega) hw hp hz a0 a1 b0 b1 c0 c1 n0 n1
  · rw [if_neg (fun h => h1 h.1)]; exact Text_neg op a b c n s w (by omega) hw hp hz a0 a1 b0 b1 c0 c1 n0 n1
theorem RefText_any (op a b c n s : Int) (w : World) (hp : PowLaid w) (hz : 3 < w.heap.size)
    (a0 : -9223372036854775808 ≤ a) (a1 : a ≤ 9223372036854775807) (b0 : -9223372036854775808 ≤ b) (b1 : b ≤ 9223372036854775807) (c0 : -9223372036854775808 ≤ c) (c1 : c ≤ 9223372036854775807) (n0 : -9223372036854775808 ≤ n) (n1 : n ≤ 9223372036854775807) :
    Calls Tryd.prog 5 #[.agg #[.int .i64 op, .int .i64 a, .int .i64 b, .int .i64 c, .int .i64 n, .int .i64 s]] w fun e w' => e = .returned (.string (txB (opN op) a b c n)) ∧ Below w.heap.size w w' := by
  unfold opN
  by_cases h1 : 1 ≤ op
  · by_cases h2 : op < 29
    · rw [if_pos ⟨by omega, h2⟩]; exact RefText_in op a b c n s w h1 h2 hp hz a0 a1 b0 b1 c0 c1 n0 n1
    · rw [if_neg (fun h => h2 h.2)]; exact RefText_big op a b c n s w (by omega) hp hz a0 a1 b0 b1 c0 c1 n0 n1
  · by_cases h2 : op = 0
    · subst h2
      exact RefText_neg 0 a b c n s w (by omega) hp hz a0 a1 b0 b1 c0 c1 n0 n1
    · rw [if_neg (fun h => h1 (by omega))]; exact RefText_neg op a b c n s w (by omega) hp hz a0 a1 b0 b1 c0 c1 n0 n1

/-- What the law's region keeps. -/
theorem keepL {W w w' : World} {g : Nat} {o a b c n s : Int} (hg : g < W.heap.size)
    (h : w.cell? ⟨g, 0, none⟩ = some (.int .i64 o) ∧ w.cell? ⟨g, 1, none⟩ = some (.int .i64 a) ∧ w.cell? ⟨g, 2, none⟩ = some (.int .i64 b) ∧ w.cell? ⟨g, 3, none⟩ = some (.int .i64 c) ∧ w.cell? ⟨g, 4, none⟩ = some (.int .i64 n) ∧ w.cell? ⟨g, 5, none⟩ = some (.int .i64 s) ∧ Below W.heap.size W w)
    (hb : Below w.heap.size w w') :
    w'.cell? ⟨g, 0, none⟩ = some (.int .i64 o) ∧ w'.cell? ⟨g, 1, none⟩ = some (.int .i64 a) ∧ w'.cell? ⟨g, 2, none⟩ = some (.int .i64 b) ∧ w'.cell? ⟨g, 3, none⟩ = some (.int .i64 c) ∧ w'.cell? ⟨g, 4, none⟩ = some (.int .i64 n) ∧ w'.cell? ⟨g, 5, none⟩ = some (.int .i64 s) ∧ Below W.heap.size W w' := by
  obtain ⟨h0, h1, h2, h3, h4, h5, h6⟩ := h
  have hs := h6.size
  have e : ∀ (q k : Nat), q < W.heap.size → w'.cell? ⟨q, k, none⟩ = w.cell? ⟨q, k, none⟩ := fun q k hq => hb.cell (p := ⟨q, k, none⟩) (by show q < _; omega)
  exact ⟨(e _ _ hg).trans h0, (e _ _ hg).trans h1, (e _ _ hg).trans h2, (e _ _ hg).trans h3, (e _ _ hg).trans h4, (e _ _ hg).trans h5, h6.trans (hb.mono hs)⟩

set_option maxHeartbeats 1000000 in
theorem CompileTexts_walk (op a b c n s : Int) (w : World) (hw : WordsLaid w) (hp : PowLaid w) (hz : 3 < w.heap.size)
    (a0 : -9223372036854775808 ≤ a) (a1 : a ≤ 9223372036854775807) (b0 : -9223372036854775808 ≤ b) (b1 : b ≤ 9223372036854775807) (c0 : -9223372036854775808 ≤ c) (c1 : c ≤ 9223372036854775807) (n0 : -9223372036854775808 ≤ n) (n1 : n ≤ 9223372036854775807) :
    Calls Tryd.prog 3 #[.agg #[.int .i64 op, .int .i64 a, .int .i64 b, .int .i64 c, .int .i64 n, .int .i64 s]] w fun e w' => e = .returned (.bool true) ∧ Below w.heap.size w w' := by
  have HW := Lib.hid hw
  have HP := Lib.hid hp
  clear hw hp
  go_enter Tryd.func3, Tryd.ntmps3
  go_wp2
  generalize hW : World.alloc w _ = W
  have hB0 : Below w.heap.size w W := by rw [← hW]; exact (Below.refl _ _).alloc (Nat.le_refl _) _
  have x0 : W.cell? ⟨w.heap.size, 0, none⟩ = some (.int .i64 op) := by rw [← hW]; simp
  have x1 : W.cell? ⟨w.heap.size, 1, none⟩ = some (.int .i64 a) := by rw [← hW]; simp
  have x2 : W.cell? ⟨w.heap.size, 2, none⟩ = some (.int .i64 b) := by rw [← hW]; simp
  have x3 : W.cell? ⟨w.heap.size, 3, none⟩ = some (.int .i64 c) := by rw [← hW]; simp
  have x4 : W.cell? ⟨w.heap.size, 4, none⟩ = some (.int .i64 n) := by rw [← hW]; simp
  have x5 : W.cell? ⟨w.heap.size, 5, none⟩ = some (.int .i64 s) := by rw [← hW]; simp
  have hzW : w.heap.size < W.heap.size := by rw [← hW]; simp
  have HB0 := Lib.hid hB0
  have hS : Hid (∀ W' : World, Below W.heap.size W W' → PowLaid W' ∧ WordsLaid W' ∧ 3 < W'.heap.size) := Lib.hid fun W' h => by
    have h1 := HB0.out.trans (h.mono HB0.out.size)
    exact ⟨HP.out.below h1 (by omega), HW.out.below h1 (by omega), by have := h1.size; omega⟩
  clear hW hB0
  go_region_held3 (fun w' => w'.cell? ⟨w.heap.size, 0, none⟩ = some (.int .i64 op) ∧ w'.cell? ⟨w.heap.size, 1, none⟩ = some (.int .i64 a) ∧ w'.cell? ⟨w.heap.size, 2, none⟩ = some (.int .i64 b) ∧ w'.cell? ⟨w.heap.size, 3, none⟩ = some (.int .i64 c) ∧ w'.cell? ⟨w.heap.size, 4, none⟩ = some (.int .i64 n) ∧ w'.cell? ⟨w.heap.size, 5, none⟩ = some (.int .i64 s) ∧ Below W.heap.size W w')
    (first | (exact keepL hzW (by assumption) (by assumption)) | (exact ⟨x0, x1, x2, x3, x4, x5, (Below.refl _ _).drew⟩) | go_keep)
    (first | (go_at_call 4; have hq := hS.out _ (by assumption : _ ∧ _ ∧ _ ∧ _ ∧ _ ∧ _ ∧ Below W.heap.size W _).2.2.2.2.2.2; refine (Text_any _ _ _ _ _ _ _ hq.2.1 hq.1 hq.2.2 (by assumption) (by assumption) (by assumption) (by assumption) (by assumption) (by assumption) (by assumption) (by assumption)).mono ?_; clear hq; rintro e w' ⟨rfl, hb⟩) | (go_at_call 5; have hq := hS.out _ (by assumption : _ ∧ _ ∧ _ ∧ _ ∧ _ ∧ _ ∧ Below W.heap.size W _).2.2.2.2.2.2; refine (RefText_any _ _ _ _ _ _ _ hq.1 hq.2.2 (by assumption) (by assumption) (by assumption) (by assumption) (by assumption) (by assumption) (by assumption) (by assumption)).mono ?_; clear hq; rintro e w' ⟨rfl, hb⟩))
  have hfin := (by assumption : _ ∧ _ ∧ _ ∧ _ ∧ _ ∧ _ ∧ Below W.heap.size W _).2.2.2.2.2.2
  have HF := Lib.hid hfin
  clear hfin
  go_wp2
  go_ret
  exact ⟨rfl, HB0.out.trans (HF.out.mono HB0.out.size)⟩
end Go.Proofs.YtmijlhhaogmeeaaDoor
