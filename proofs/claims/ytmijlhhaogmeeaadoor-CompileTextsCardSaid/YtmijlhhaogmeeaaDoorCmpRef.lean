/-
  Contract of the reference's Text, and the walk of the law CompileTexts.
-/
import Derived.Test.YtmijlhhaogmeeaaDoorCmpText
import Derived.Deep.DeepCutAuto
namespace Go.Proofs.YtmijlhhaogmeeaaDoor
open Go.RowKit

def rwCells : List Value := (wds.drop 1).map fun l => Value.string ⟨l.toArray⟩
theorem rw_cell (w : World) (t : TypeId) (k : Nat) (h : k < 28) : (w.alloc (.cells rwCells.toArray t)).cell? ⟨w.heap.size, k, none⟩ = some (.string (wdAt (k + 1))) := by
  rw [cell_of_row _ w.heap.size k rwCells.toArray t (0, 0) (heap_alloc_new w _)]
  have hl : wds.length = 29 := rfl
  have h1 : k < (wds.drop 1).length := by rw [List.length_drop, hl]; omega
  unfold rwCells wdAt
  rw [List.getElem?_toArray, List.getElem?_map, List.getElem?_eq_getElem h1, List.getElem_drop]
  have e : wds.getD (k + 1) [] = wds[1 + k]'(by omega) := by simp [show k + 1 < 29 from by omega, hl, Nat.add_comm]
  rw [e]
  rfl
theorem keepR {W w w' : World} {g : Nat} {a b c n : Int} (hg : g < W.heap.size)
    (h : w.cell? ⟨g, 1, none⟩ = some (.int .i64 a) ∧ w.cell? ⟨g, 2, none⟩ = some (.int .i64 b) ∧ w.cell? ⟨g, 3, none⟩ = some (.int .i64 c) ∧ w.cell? ⟨g, 4, none⟩ = some (.int .i64 n) ∧ Below W.heap.size W w)
    (hb : Below w.heap.size w w') :
    w'.cell? ⟨g, 1, none⟩ = some (.int .i64 a) ∧ w'.cell? ⟨g, 2, none⟩ = some (.int .i64 b) ∧ w'.cell? ⟨g, 3, none⟩ = some (.int .i64 c) ∧ w'.cell? ⟨g, 4, none⟩ = some (.int .i64 n) ∧ Below W.heap.size W w' := by
  obtain ⟨h1, h2, h3, h4, h6⟩ := h
  have hs := h6.size
  have e : ∀ (q k : Nat), q < W.heap.size → w'.cell? ⟨q, k, none⟩ = w.cell? ⟨q, k, none⟩ := fun q k hq => hb.cell (p := ⟨q, k, none⟩) (by show q < _; omega)
  exact ⟨(e _ _ hg).trans h1, (e _ _ hg).trans h2, (e _ _ hg).trans h3, (e _ _ hg).trans h4, h6.trans (hb.mono hs)⟩

set_option maxRecDepth 100000 in
set_option maxHeartbeats 1000000 in
theorem RefText_neg (op a b c n s : Int) (w : World) (hop : op < 1) (hp : PowLaid w) (hz : 3 < w.heap.size)
    (a0 : -9223372036854775808 ≤ a) (a1 : a ≤ 9223372036854775807) (b0 : -9223372036854775808 ≤ b) (b1 : b ≤ 9223372036854775807) (c0 : -9223372036854775808 ≤ c) (c1 : c ≤ 9223372036854775807) (n0 : -9223372036854775808 ≤ n) (n1 : n ≤ 9223372036854775807) :
    Calls Tryd.prog 5 #[.agg #[.int .i64 op, .int .i64 a, .int .i64 b, .int .i64 c, .int .i64 n, .int .i64 s]] w fun e w' => e = .returned (.string (txB (0) a b c n)) ∧ Below w.heap.size w w' := by
  have z1 := wdAt_size (0)
  have za := itB_size a a0 a1
  have zb := itB_size b b0 b1
  have zc := itB_size c c0 c1
  have zn := itB_size n n0 n1
  have HP := Lib.hid hp
  clear hp
  go_enter Tryd.func5, Tryd.ntmps5
  go_wp2
  rw [show (⟨#[110, 111, 110, 101]⟩ : ByteArray) = wdAt 0 from rfl]
  generalize hW : World.alloc (World.alloc w _) _ = W
  have hB0 : Below w.heap.size w W := by rw [← hW]; exact ((Below.refl _ _).alloc (Nat.le_refl _) _).alloc (by simp) _
  have x1 : W.cell? ⟨w.heap.size, 1, none⟩ = some (.int .i64 a) := by rw [← hW]; simp
  have x2 : W.cell? ⟨w.heap.size, 2, none⟩ = some (.int .i64 b) := by rw [← hW]; simp
  have x3 : W.cell? ⟨w.heap.size, 3, none⟩ = some (.int .i64 c) := by rw [← hW]; simp
  have x4 : W.cell? ⟨w.heap.size, 4, none⟩ = some (.int .i64 n) := by rw [← hW]; simp
  have hzW : w.heap.size < W.heap.size := by rw [← hW]; simp; omega
  have HPW : Hid (PowLaid W) := Lib.hid (HP.out.below hB0 (by omega))
  have HB0 := Lib.hid hB0
  have hS : Hid (∀ W' : World, Below W.heap.size W W' → PowLaid W') := Lib.hid fun W' h => HPW.out.below h (by omega)
  clear hW hB0
  have m1 : ¬ 9223372036854775807 < (wdAt 0).size + 1 := by omega
  have m2 : ¬ 9223372036854775807 < (wdAt 0).size + 1 + (itB a).size := by omega
  have m3 : ¬ 9223372036854775807 < (wdAt 0).size + 1 + (itB a).size + 1 := by omega
  have m4 : ¬ 9223372036854775807 < (wdAt 0).size + 1 + (itB a).size + 1 + (itB b).size := by omega
  have m5 : ¬ 9223372036854775807 < (wdAt 0).size + 1 + (itB a).size + 1 + (itB b).size + 1 := by omega
  have m6 : ¬ 9223372036854775807 < (wdAt 0).size + 1 + (itB a).size + 1 + (itB b).size + 1 + (itB c).size := by omega
  have m7 : ¬ 9223372036854775807 < (wdAt 0).size + 1 + (itB a).size + 1 + (itB b).size + 1 + (itB c).size + 1 := by omega
  have m8 : ¬ 9223372036854775807 < (wdAt 0).size + 1 + (itB a).size + 1 + (itB b).size + 1 + (itB c).size + 1 + (itB n).size := by omega
  clear z1 za zb zc zn
  go_region_held3 (fun w' => w'.cell? ⟨w.heap.size, 1, none⟩ = some (.int .i64 a) ∧ w'.cell? ⟨w.heap.size, 2, none⟩ = some (.int .i64 b) ∧ w'.cell? ⟨w.heap.size, 3, none⟩ = some (.int .i64 c) ∧ w'.cell? ⟨w.heap.size, 4, none⟩ = some (.int .i64 n) ∧ Below W.heap.size W w')
    (first | (exact keepR hzW (by assumption) (by assumption)) | (exact ⟨x1, x2, x3, x4, (Below.refl _ _).drew⟩) | go_keep)
    (first | (go_at_call 7; refine (Itoa_b _ (by assumption) (by assumption) _ (hS.out _ (by assumption : _ ∧ _ ∧ _ ∧ _ ∧ Below W.heap.size W _).2.2.2.2)).mono ?_; rintro e w' ⟨rfl, hb⟩) | (go_at_call 8; refine (FormatInt_b _ (by assumption) (by assumption) _ (hS.out _ (by assumption : _ ∧ _ ∧ _ ∧ _ ∧ Below W.heap.size W _).2.2.2.2)).mono ?_; rintro e w' ⟨rfl, hb⟩))
  have hfin := (by assumption : _ ∧ _ ∧ _ ∧ _ ∧ Below W.heap.size W _).2.2.2.2
  have HF := Lib.hid hfin
  clear m1 m2 m3 m4 m5 m6 m7 m8 hfin
  go_wp2
  go_ret
  exact ⟨rfl, HB0.out.trans (HF.out.mono HB0.out.size)⟩

set_option maxRecDepth 100000 in
set_option maxHeartbeats 1000000 in
theorem RefText_big (op a b c n s : Int) (w : World) (hop : 29 ≤ op) (hp : PowLaid w) (hz : 3 < w.heap.size)
    (a0 : -9223372036854775808 ≤ a) (a1 : a ≤ 9223372036854775807) (b0 : -9223372036854775808 ≤ b) (b1 : b ≤ 9223372036854775807) (c0 : -9223372036854775808 ≤ c) (c1 : c ≤ 9223372036854775807) (n0 : -9223372036854775808 ≤ n) (n1 : n ≤ 9223372036854775807) :
    Calls Tryd.prog 5 #[.agg #[.int .i64 op, .int .i64 a, .int .i64 b, .int .i64 c, .int .i64 n, .int .i64 s]] w fun e w' => e = .returned (.string (txB (0) a b c n)) ∧ Below w.heap.size w w' := by
  have z1 := wdAt_size (0)
  have za := itB_size a a0 a1
  have zb := itB_size b b0 b1
  have zc := itB_size c c0 c1
  have zn := itB_size n n0 n1
  have HP := Lib.hid hp
  clear hp
  go_enter Tryd.func5, Tryd.ntmps5
  go_wp2
  rw [show (⟨#[110, 111, 110, 101]⟩ : ByteArray) = wdAt 0 from rfl]
  generalize hW : World.alloc (World.alloc w _) _ = W
  have hB0 : Below w.heap.size w W := by rw [← hW]; exact ((Below.refl _ _).alloc (Nat.le_refl _) _).alloc (by simp) _
  have x1 : W.cell? ⟨w.heap.size, 1, none⟩ = some (.int .i64 a) := by rw [← hW]; simp
  have x2 : W.cell? ⟨w.heap.size, 2, none⟩ = some (.int .i64 b) := by rw [← hW]; simp
  have x3 : W.cell? ⟨w.heap.size, 3, none⟩ = some (.int .i64 c) := by rw [← hW]; simp
  have x4 : W.cell? ⟨w.heap.size, 4, none⟩ = some (.int .i64 n) := by rw [← hW]; simp
  have hzW : w.heap.size < W.heap.size := by rw [← hW]; simp; omega
  have HPW : Hid (PowLaid W) := Lib.hid (HP.out.below hB0 (by omega))
  have HB0 := Lib.hid hB0
  have hS : Hid (∀ W' : World, Below W.heap.size W W' → PowLaid W') := Lib.hid fun W' h => HPW.out.below h (by omega)
  clear hW hB0
  have m1 : ¬ 9223372036854775807 < (wdAt 0).size + 1 := by omega
  have m2 : ¬ 9223372036854775807 < (wdAt 0).size + 1 + (itB a).size := by omega
  have m3 : ¬ 9223372036854775807 < (wdAt 0).size + 1 + (itB a).size + 1 := by omega
  have m4 : ¬ 9223372036854775807 < (wdAt 0).size + 1 + (itB a).size + 1 + (itB b).size := by omega
  have m5 : ¬ 9223372036854775807 < (wdAt 0).size + 1 + (itB a).size + 1 + (itB b).size + 1 := by omega
  have m6 : ¬ 9223372036854775807 < (wdAt 0).size + 1 + (itB a).size + 1 + (itB b).size + 1 + (itB c).size := by omega
  have m7 : ¬ 9223372036854775807 < (wdAt 0).size + 1 + (itB a).size + 1 + (itB b).size + 1 + (itB c).size + 1 := by omega
  have m8 : ¬ 9223372036854775807 < (wdAt 0).size + 1 + (itB a).size + 1 + (itB b).size + 1 + (itB c).size + 1 + (itB n).size := by omega
  clear z1 za zb zc zn
  go_region_held3 (fun w' => w'.cell? ⟨w.heap.size, 1, none⟩ = some (.int .i64 a) ∧ w'.cell? ⟨w.heap.size, 2, none⟩ = some (.int .i64 b) ∧ w'.cell? ⟨w.heap.size, 3, none⟩ = some (.int .i64 c) ∧ w'.cell? ⟨w.heap.size, 4, none⟩ = some (.int .i64 n) ∧ Below W.heap.size W w')
    (first | (exact keepR hzW (by assumption) (by assumption)) | (exact ⟨x1, x2, x3, x4, (Below.refl _ _).drew⟩) | go_keep)
    (first | (go_at_call 7; refine (Itoa_b _ (by assumption) (by assumption) _ (hS.out _ (by assumption : _ ∧ _ ∧ _ ∧ _ ∧ Below W.heap.size W _).2.2.2.2)).mono ?_; rintro e w' ⟨rfl, hb⟩) | (go_at_call 8; refine (FormatInt_b _ (by assumption) (by assumption) _ (hS.out _ (by assumption : _ ∧ _ ∧ _ ∧ _ ∧ Below W.heap.size W _).2.2.2.2)).mono ?_; rintro e w' ⟨rfl, hb⟩))
  have hfin := (by assumption : _ ∧ _ ∧ _ ∧ _ ∧ Below W.heap.size W _).2.2.2.2
  have HF := Lib.hid hfin
  clear m1 m2 m3 m4 m5 m6 m7 m8 hfin
  go_wp2
  go_ret
  exact ⟨rfl, HB0.out.trans (HF.out.mono HB0.out.size)⟩

set_option maxRecDepth 100000 in
set_option maxHeartbeats 1000000 in
theorem RefText_in (op a b c n s : Int) (w : World) (hop : 1 ≤ op) (hop2 : op < 29) (hp : PowLaid w) (hz : 3 < w.heap.size)
    (a0 : -9223372036854775808 ≤ a) (a1 : a ≤ 9223372036854775807) (b0 : -9223372036854775808 ≤ b) (b1 : b ≤ 9223372036854775807) (c0 : -9223372036854775808 ≤ c) (c1 : c ≤ 9223372036854775807) (n0 : -9223372036854775808 ≤ n) (n1 : n ≤ 9223372036854775807) :
    Calls Tryd.prog 5 #[.agg #[.int .i64 op, .int .i64 a, .int .i64 b, .int .i64 c, .int .i64 n, .int .i64 s]] w fun e w' => e = .returned (.string (txB (op.toNat) a b c n)) ∧ Below w.heap.size w w' := by
  obtain ⟨k, rfl⟩ := Int.eq_ofNat_of_zero_le (show 0 ≤ op by omega)
  have z1 := wdAt_size (k)
  have za := itB_size a a0 a1
  have zb := itB_size b b0 b1
  have zc := itB_size c c0 c1
  have zn := itB_size n n0 n1
  have HP := Lib.hid hp
  clear hp
  go_enter Tryd.func5, Tryd.ntmps5
  go_upto_region 4 with (fail)
  generalize hW : World.alloc (World.alloc w _) _ = W
  have x0 : W.cell? ⟨w.heap.size, 0, none⟩ = some (.int .i64 (k : Int)) := by rw [← hW]; simp
  have xw : W.cell? ⟨w.heap.size + 1, k - 1, none⟩ = some (.string (wdAt k)) := by
    rw [← hW]
    have := rw_cell (w.alloc (.cells #[.int .i64 k, .int .i64 a, .int .i64 b, .int .i64 c, .int .i64 n, .int .i64 s] 23)) 9 (k - 1) (by omega)
    rw [World.size_alloc, show k - 1 + 1 = k from by omega] at this
    exact this
  have hB0 : Below w.heap.size w W := by rw [← hW]; exact ((Below.refl _ _).alloc (Nat.le_refl _) _).alloc (by simp) _
  have x1 : W.cell? ⟨w.heap.size, 1, none⟩ = some (.int .i64 a) := by rw [← hW]; simp
  have x2 : W.cell? ⟨w.heap.size, 2, none⟩ = some (.int .i64 b) := by rw [← hW]; simp
  have x3 : W.cell? ⟨w.heap.size, 3, none⟩ = some (.int .i64 c) := by rw [← hW]; simp
  have x4 : W.cell? ⟨w.heap.size, 4, none⟩ = some (.int .i64 n) := by rw [← hW]; simp
  have hzW : w.heap.size < W.heap.size := by rw [← hW]; simp; omega
  have HPW : Hid (PowLaid W) := Lib.hid (HP.out.below hB0 (by omega))
  have HB0 := Lib.hid hB0
  have hS : Hid (∀ W' : World, Below W.heap.size W W' → PowLaid W') := Lib.hid fun W' h => HPW.out.below h (by omega)
  clear hW hB0
  go_wp2
  clear x0 xw
  have m1 : ¬ 9223372036854775807 < (wdAt k).size + 1 := by omega
  have m2 : ¬ 9223372036854775807 < (wdAt k).size + 1 + (itB a).size := by omega
  have m3 : ¬ 9223372036854775807 < (wdAt k).size + 1 + (itB a).size + 1 := by omega
  have m4 : ¬ 9223372036854775807 < (wdAt k).size + 1 + (itB a).size + 1 + (itB b).size := by omega
  have m5 : ¬ 9223372036854775807 < (wdAt k).size + 1 + (itB a).size + 1 + (itB b).size + 1 := by omega
  have m6 : ¬ 9223372036854775807 < (wdAt k).size + 1 + (itB a).size + 1 + (itB b).size + 1 + (itB c).size := by omega
  have m7 : ¬ 9223372036854775807 < (wdAt k).size + 1 + (itB a).size + 1 + (itB b).size + 1 + (itB c).size + 1 := by omega
  have m8 : ¬ 9223372036854775807 < (wdAt k).size + 1 + (itB a).size + 1 + (itB b).size + 1 + (itB c).size + 1 + (itB n).size := by omega
  clear z1 za zb zc zn
  go_region_held3 (fun w' => w'.cell? ⟨w.heap.size, 1, none⟩ = some (.int .i64 a) ∧ w'.cell? ⟨w.heap.size, 2, none⟩ = some (.int .i64 b) ∧ w'.cell? ⟨w.heap.size, 3, none⟩ = some (.int .i64 c) ∧ w'.cell? ⟨w.heap.size, 4, none⟩ = some (.int .i64 n) ∧ Below W.heap.size W w')
    (first | (exact keepR hzW (by assumption) (by assumption)) | (exact ⟨x1, x2, x3, x4, (Below.refl _ _).drew⟩) | go_keep)
    (first | (go_at_call 7; refine (Itoa_b _ (by assumption) (by assumption) _ (hS.out _ (by assumption : _ ∧ _ ∧ _ ∧ _ ∧ Below W.heap.size W _).2.2.2.2)).mono ?_; rintro e w' ⟨rfl, hb⟩) | (go_at_call 8; refine (FormatInt_b _ (by assumption) (by assumption) _ (hS.out _ (by assumption : _ ∧ _ ∧ _ ∧ _ ∧ Below W.heap.size W _).2.2.2.2)).mono ?_; rintro e w' ⟨rfl, hb⟩))
  have hfin := (by assumption : _ ∧ _ ∧ _ ∧ _ ∧ Below W.heap.size W _).2.2.2.2
  have HF := Lib.hid hfin
  clear m1 m2 m3 m4 m5 m6 m7 m8 hfin
  go_wp2
  go_ret
  exact ⟨rfl, HB0.out.trans (HF.out.mono HB0.out.size)⟩

end Go.Proofs.YtmijlhhaogmeeaaDoor
