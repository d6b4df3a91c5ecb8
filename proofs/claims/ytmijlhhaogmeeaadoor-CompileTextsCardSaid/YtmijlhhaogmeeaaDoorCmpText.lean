/-
  Contracts of compile.Text, the reference's Text, and the walk of the law CompileTexts.
-/
import Derived.Test.YtmijlhhaogmeeaaDoorChecked
import Derived.Test.YtmijlhhaogmeeaaDoorShelf
import Derived.WalkKit
import Derived.WalkSpells
import Derived.WalkLawsBesides
import Derived.Lib.Hide
import Derived.Lib.ItoaLen
import Derived.Lib.AppendIntMem
import Derived.Lib.Strings
import Derived.Deep.RegionHeld3
import Derived.BigRegion
namespace Go.Proofs.YtmijlhhaogmeeaaDoor
open Go.RowKit

/-- The words of the instructions. -/
def wds : List (List UInt8) := [[110, 111, 110, 101], [99, 111, 110, 115, 116], [109, 111, 118, 101], [117, 110, 97, 114, 121], [98, 105, 110, 97, 114, 121], [106, 117, 109, 112], [108, 111, 97, 100], [108, 111, 97, 100, 97, 116], [115, 116, 111, 114, 101], [115, 116, 111, 114, 101, 97, 116], [98, 114, 97, 110, 99, 104], [97, 99, 113, 117, 105, 114, 101], [114, 101, 108, 101, 97, 115, 101], [114, 101, 97, 100, 97, 99, 113, 117, 105, 114, 101], [114, 101, 97, 100, 114, 101, 108, 101, 97, 115, 101], [119, 114, 105, 116, 101, 97, 99, 113, 117, 105, 114, 101], [119, 114, 105, 116, 101, 114, 101, 108, 101, 97, 115, 101], [116, 120, 98, 101, 103, 105, 110], [116, 120, 101, 110, 100], [97, 116, 111, 109, 105, 99, 98, 101, 103, 105, 110], [97, 116, 111, 109, 105, 99, 101, 110, 100], [119, 97, 105, 116], [110, 111, 116, 105, 102, 121], [110, 111, 116, 105, 102, 121, 97, 108, 108], [115, 112, 97, 119, 110], [106, 111, 105, 110], [115, 101, 116], [103, 101, 116], [101, 110, 100]]
def wdAt (k : Nat) : ByteArray := ⟨(wds.getD k []).toArray⟩
theorem wdAt_size (k : Nat) : (wdAt k).size ≤ 100 := by
  unfold wdAt
  rw [show (⟨(wds.getD k []).toArray⟩ : ByteArray).size = (wds.getD k []).length from by simp [ByteArray.size]]
  by_cases h : k < wds.length
  · have e : wds.getD k [] = wds[k] := by simp [h]
    rw [e]
    have : ∀ g ∈ wds, g.length ≤ 100 := by decide
    exact this _ (List.getElem_mem h)
  · have e : wds.getD k [] = [] := by simp [List.getElem?_eq_none (by omega : wds.length ≤ k)]
    rw [e]; exact Nat.zero_le _

/-- The numeral of a number, behind a name. -/
def itB (n : Int) : ByteArray := ⟨(Lib.itoa n).toArray⟩
theorem itB_size (n : Int) (h0 : -9223372036854775808 ≤ n) (h1 : n ≤ 9223372036854775807) : (itB n).size ≤ 21 := by
  have := Lib.itoa_length_le n h0 h1
  unfold itB
  rw [show (⟨(Lib.itoa n).toArray⟩ : ByteArray).size = (Lib.itoa n).length from by simp [ByteArray.size]]
  exact this
def PowLaid (w : World) : Prop := Lib.TabIs Tryd.prog w "internal/strconv.uint64pow10" .u64 Lib.pow10Tab
def WordsLaid (w : World) : Prop := ∀ i, i < 29 → w.cell? ⟨0, i, none⟩ = some (.string (wdAt i))
theorem gPow : Tryd.prog.globalNamed "internal/strconv.uint64pow10" = some 1 := by kernel_rfl
theorem PowLaid.below {B : Nat} {w w' : World} (h : PowLaid w) (hb : Below B w w') (hB : 1 < B) : PowLaid w' := by
  unfold PowLaid Lib.TabIs World.var? at *
  rw [gPow] at *
  simp only [Option.bind_some] at *
  rw [hb.block _ hB]
  exact h
theorem Itoa_b (n : Int) (h0 : -9223372036854775808 ≤ n) (h1 : n ≤ 9223372036854775807) (w : World) (ht : PowLaid w) :
    Calls Tryd.prog 7 #[.int .i64 n] w fun e w' => e = .returned (.string (itB n)) ∧ Below w.heap.size w w' :=
  (Tryd.strconv_Itoa n h0 h1 w ht).mono fun _ _ ⟨he, k, os, hw⟩ => ⟨he, hw ▸ Lib.below_grow _ w (Nat.le_refl _) k os⟩
theorem FormatInt_b (n : Int) (h0 : -9223372036854775808 ≤ n) (h1 : n ≤ 9223372036854775807) (w : World) (ht : PowLaid w) :
    Calls Tryd.prog 8 #[.int .i64 n, .int .i64 10] w fun e w' => e = .returned (.string (itB n)) ∧ Below w.heap.size w w' :=
  (Tryd.strconv_FormatInt_10 n h0 h1 w ht).mono fun _ _ ⟨he, k, os, hw⟩ => ⟨he, hw ▸ Lib.below_grow _ w (Nat.le_refl _) k os⟩

def sp : ByteArray := ⟨#[32]⟩
/-- The text. -/
def txB (k : Nat) (a b c n : Int) : ByteArray := wdAt k ++ sp ++ itB a ++ sp ++ itB b ++ sp ++ itB c ++ sp ++ itB n
def opN (op : Int) : Nat := if 0 ≤ op ∧ op < 29 then op.toNat else 0

/-- What the region keeps: the struct's fields, the word, all that was there. -/
def Kp (W : World) (g j : Nat) (x : ByteArray) (a b c n : Int) (w : World) : Prop :=
  w.cell? ⟨g, 1, none⟩ = some (.int .i64 a) ∧ w.cell? ⟨g, 2, none⟩ = some (.int .i64 b) ∧ w.cell? ⟨g, 3, none⟩ = some (.int .i64 c) ∧ w.cell? ⟨g, 4, none⟩ = some (.int .i64 n) ∧ w.cell? ⟨0, j, none⟩ = some (.string x) ∧ Below W.heap.size W w

theorem keepK {W w w' : World} {g j : Nat} {x : ByteArray} {a b c n : Int} (hg : g < W.heap.size) (h0 : 0 < W.heap.size)
    (h : w.cell? ⟨g, 1, none⟩ = some (.int .i64 a) ∧ w.cell? ⟨g, 2, none⟩ = some (.int .i64 b) ∧ w.cell? ⟨g, 3, none⟩ = some (.int .i64 c) ∧ w.cell? ⟨g, 4, none⟩ = some (.int .i64 n) ∧ w.cell? ⟨0, j, none⟩ = some (.string x) ∧ Below W.heap.size W w)
    (hb : Below w.heap.size w w') :
    w'.cell? ⟨g, 1, none⟩ = some (.int .i64 a) ∧ w'.cell? ⟨g, 2, none⟩ = some (.int .i64 b) ∧ w'.cell? ⟨g, 3, none⟩ = some (.int .i64 c) ∧ w'.cell? ⟨g, 4, none⟩ = some (.int .i64 n) ∧ w'.cell? ⟨0, j, none⟩ = some (.string x) ∧ Below W.heap.size W w' := by
  obtain ⟨h1, h2, h3, h4, h5, h6⟩ := h
  have hs := h6.size
  have e : ∀ (q k : Nat), q < W.heap.size → w'.cell? ⟨q, k, none⟩ = w.cell? ⟨q, k, none⟩ := fun q k hq => hb.cell (p := ⟨q, k, none⟩) (by show q < _; omega)
  exact ⟨(e _ _ hg).trans h1, (e _ _ hg).trans h2, (e _ _ hg).trans h3, (e _ _ hg).trans h4, (e _ _ h0).trans h5, h6.trans (hb.mono hs)⟩

theorem within_any (a b : Int) (w : World) :
    Calls Tryd.prog 6 #[.int .i64 a, .int .i64 b] w fun e w' => e = .returned (.bool (decide (0 ≤ a) && decide (a < b))) ∧ w = w' := by
  go_enter Tryd.func6, Tryd.ntmps6
  go_wp2
  all_goals go_ret
  all_goals first | (simp [*]; done) | (simp [*]; omega)

set_option maxHeartbeats 1000000 in
theorem Text_in (op a b c n s : Int) (w : World) (hop : 0 ≤ op) (hop2 : op < 29) (hw : WordsLaid w) (hp : PowLaid w) (hz : 3 < w.heap.size)
    (a0 : -9223372036854775808 ≤ a) (a1 : a ≤ 9223372036854775807) (b0 : -9223372036854775808 ≤ b) (b1 : b ≤ 9223372036854775807) (c0 : -9223372036854775808 ≤ c) (c1 : c ≤ 9223372036854775807) (n0 : -9223372036854775808 ≤ n) (n1 : n ≤ 9223372036854775807) :
    Calls Tryd.prog 4 #[.agg #[.int .i64 op, .int .i64 a, .int .i64 b, .int .i64 c, .int .i64 n, .int .i64 s]] w fun e w' => e = .returned (.string (txB (op.toNat) a b c n)) ∧ Below w.heap.size w w' := by
  obtain ⟨k, rfl⟩ := Int.eq_ofNat_of_zero_le hop
  have hcell := hw k (by omega)
  have z1 := wdAt_size (k)
  have za := itB_size a a0 a1
  have zb := itB_size b b0 b1
  have zc := itB_size c c0 c1
  have zn := itB_size n n0 n1
  have HP := Lib.hid hp
  have q1 : decide (0 ≤ (k : Int)) = true := by simp
  have q2 : decide ((k : Int) < 29) = true := by simp; omega
  clear hw hp
  go_enter Tryd.func4, Tryd.ntmps4
  go_wp2_with (go_at_call 6; refine (within_any _ _ _).mono ?_; rintro e w' ⟨rfl, rfl⟩)
  generalize hW : World.alloc w _ = W
  have hB0 : Below w.heap.size w W := by rw [← hW]; exact (Below.refl _ _).alloc (Nat.le_refl _) _
  have x1 : W.cell? ⟨w.heap.size, 1, none⟩ = some (.int .i64 a) := by rw [← hW]; simp
  have x2 : W.cell? ⟨w.heap.size, 2, none⟩ = some (.int .i64 b) := by rw [← hW]; simp
  have x3 : W.cell? ⟨w.heap.size, 3, none⟩ = some (.int .i64 c) := by rw [← hW]; simp
  have x4 : W.cell? ⟨w.heap.size, 4, none⟩ = some (.int .i64 n) := by rw [← hW]; simp
  have hzW : w.heap.size < W.heap.size := by rw [← hW]; simp
  have x5 : W.cell? ⟨0, k, none⟩ = some (.string (wdAt k)) := (hB0.cell (by show 0 < _; omega)).trans hcell
  have h0W : 0 < W.heap.size := by omega
  have HPW : Hid (PowLaid W) := Lib.hid (HP.out.below hB0 (by omega))
  have HB0 := Lib.hid hB0
  have hS : Hid (∀ W' : World, Below W.heap.size W W' → PowLaid W') := Lib.hid fun W' h => HPW.out.below h (by omega)
  clear hW hcell hB0 q1 q2
  have m1 : ¬ 9223372036854775807 < (wdAt k).size + 1 := by omega
  have m2 : ¬ 9223372036854775807 < (wdAt k).size + 1 + (itB a).size := by omega
  have m3 : ¬ 9223372036854775807 < (wdAt k).size + 1 + (itB a).size + 1 := by omega
  have m4 : ¬ 9223372036854775807 < (wdAt k).size + 1 + (itB a).size + 1 + (itB b).size := by omega
  have m5 : ¬ 9223372036854775807 < (wdAt k).size + 1 + (itB a).size + 1 + (itB b).size + 1 := by omega
  have m6 : ¬ 9223372036854775807 < (wdAt k).size + 1 + (itB a).size + 1 + (itB b).size + 1 + (itB c).size := by omega
  have m7 : ¬ 9223372036854775807 < (wdAt k).size + 1 + (itB a).size + 1 + (itB b).size + 1 + (itB c).size + 1 := by omega
  have m8 : ¬ 9223372036854775807 < (wdAt k).size + 1 + (itB a).size + 1 + (itB b).size + 1 + (itB c).size + 1 + (itB n).size := by omega
  clear z1 za zb zc zn
  go_region_held3 (fun w' => w'.cell? ⟨w.heap.size, 1, none⟩ = some (.int .i64 a) ∧ w'.cell? ⟨w.heap.size, 2, none⟩ = some (.int .i64 b) ∧ w'.cell? ⟨w.heap.size, 3, none⟩ = some (.int .i64 c) ∧ w'.cell? ⟨w.heap.size, 4, none⟩ = some (.int .i64 n) ∧ w'.cell? ⟨0, k, none⟩ = some (.string (wdAt k)) ∧ Below W.heap.size W w')
    (first | (exact keepK hzW h0W (by assumption) (by assumption)) | (exact ⟨x1, x2, x3, x4, x5, (Below.refl _ _).drew⟩) | go_keep)
    (first | (go_at_call 7; refine (Itoa_b _ (by assumption) (by assumption) _ (hS.out _ (by assumption : _ ∧ _ ∧ _ ∧ _ ∧ _ ∧ Below W.heap.size W _).2.2.2.2.2)).mono ?_; rintro e w' ⟨rfl, hb⟩) | (go_at_call 8; refine (FormatInt_b _ (by assumption) (by assumption) _ (hS.out _ (by assumption : _ ∧ _ ∧ _ ∧ _ ∧ _ ∧ Below W.heap.size W _).2.2.2.2.2)).mono ?_; rintro e w' ⟨rfl, hb⟩))
  have hfin := (by assumption : _ ∧ _ ∧ _ ∧ _ ∧ _ ∧ Below W.heap.size W _).2.2.2.2.2
  have HF := Lib.hid hfin
  clear m1 m2 m3 m4 m5 m6 m7 m8 hfin
  go_wp2
  go_ret
  exact ⟨rfl, HB0.out.trans (HF.out.mono HB0.out.size)⟩

set_option maxHeartbeats 1000000 in
theorem Text_neg (op a b c n s : Int) (w : World) (hop : op < 0) (hw : WordsLaid w) (hp : PowLaid w) (hz : 3 < w.heap.size)
    (a0 : -9223372036854775808 ≤ a) (a1 : a ≤ 9223372036854775807) (b0 : -9223372036854775808 ≤ b) (b1 : b ≤ 9223372036854775807) (c0 : -9223372036854775808 ≤ c) (c1 : c ≤ 9223372036854775807) (n0 : -9223372036854775808 ≤ n) (n1 : n ≤ 9223372036854775807) :
    Calls Tryd.prog 4 #[.agg #[.int .i64 op, .int .i64 a, .int .i64 b, .int .i64 c, .int .i64 n, .int .i64 s]] w fun e w' => e = .returned (.string (txB (0) a b c n)) ∧ Below w.heap.size w w' := by
  have hcell := hw 0 (by omega)
  have z1 := wdAt_size (0)
  have za := itB_size a a0 a1
  have zb := itB_size b b0 b1
  have zc := itB_size c c0 c1
  have zn := itB_size n n0 n1
  have HP := Lib.hid hp
  have q1 : decide (0 ≤ op) = false := by simp; omega
  have q2 : decide (op < 29) = true := by simp; omega
  clear hw hp
  go_enter Tryd.func4, Tryd.ntmps4
  go_wp2_with (go_at_call 6; refine (within_any _ _ _).mono ?_; rintro e w' ⟨rfl, rfl⟩)
  generalize hW : World.alloc w _ = W
  have hB0 : Below w.heap.size w W := by rw [← hW]; exact (Below.refl _ _).alloc (Nat.le_refl _) _
  have x1 : W.cell? ⟨w.heap.size, 1, none⟩ = some (.int .i64 a) := by rw [← hW]; simp
  have x2 : W.cell? ⟨w.heap.size, 2, none⟩ = some (.int .i64 b) := by rw [← hW]; simp
  have x3 : W.cell? ⟨w.heap.size, 3, none⟩ = some (.int .i64 c) := by rw [← hW]; simp
  have x4 : W.cell? ⟨w.heap.size, 4, none⟩ = some (.int .i64 n) := by rw [← hW]; simp
  have hzW : w.heap.size < W.heap.size := by rw [← hW]; simp
  have x5 : W.cell? ⟨0, 0, none⟩ = some (.string (wdAt 0)) := (hB0.cell (by show 0 < _; omega)).trans hcell
  have h0W : 0 < W.heap.size := by omega
  have HPW : Hid (PowLaid W) := Lib.hid (HP.out.below hB0 (by omega))
  have HB0 := Lib.hid hB0
  have hS : Hid (∀ W' : World, Below W.heap.size W W' → PowLaid W') := Lib.hid fun W' h => HPW.out.below h (by omega)
  clear hW hcell hB0 q1 q2
  have m1 : ¬ 9223372036854775807 < (wdAt 0).size + 1 := by omega
  have m2 : ¬ 9223372036854775807 < (wdAt 0).size + 1 + (itB a).size := by omega
  have m3 : ¬ 9223372036854775807 < (wdAt 0).size + 1 + (itB a).size + 1 := by omega
  have m4 : ¬ 9223372036854775807 < (wdAt 0).size + 1 + (itB a).size + 1 + (itB b).size := by omega
  have m5 : ¬ 9223372036854775807 < (wdAt 0).size + 1 + (itB a).size + 1 + (itB b).size + 1 := by omega
  have m6 : ¬ 9223372036854775807 < (wdAt 0).size + 1 + (itB a).size + 1 + (itB b).size + 1 + (itB c).size := by omega
  have m7 : ¬ 9223372036854775807 < (wdAt 0).size + 1 + (itB a).size + 1 + (itB b).size + 1 + (itB c).size + 1 := by omega
  have m8 : ¬ 9223372036854775807 < (wdAt 0).size + 1 + (itB a).size + 1 + (itB b).size + 1 + (itB c).size + 1 + (itB n).size := by omega
  clear z1 za zb zc zn
  go_region_held3 (fun w' => w'.cell? ⟨w.heap.size, 1, none⟩ = some (.int .i64 a) ∧ w'.cell? ⟨w.heap.size, 2, none⟩ = some (.int .i64 b) ∧ w'.cell? ⟨w.heap.size, 3, none⟩ = some (.int .i64 c) ∧ w'.cell? ⟨w.heap.size, 4, none⟩ = some (.int .i64 n) ∧ w'.cell? ⟨0, 0, none⟩ = some (.string (wdAt 0)) ∧ Below W.heap.size W w')
    (first | (exact keepK hzW h0W (by assumption) (by assumption)) | (exact ⟨x1, x2, x3, x4, x5, (Below.refl _ _).drew⟩) | go_keep)
    (first | (go_at_call 7; refine (Itoa_b _ (by assumption) (by assumption) _ (hS.out _ (by assumption : _ ∧ _ ∧ _ ∧ _ ∧ _ ∧ Below W.heap.size W _).2.2.2.2.2)).mono ?_; rintro e w' ⟨rfl, hb⟩) | (go_at_call 8; refine (FormatInt_b _ (by assumption) (by assumption) _ (hS.out _ (by assumption : _ ∧ _ ∧ _ ∧ _ ∧ _ ∧ Below W.heap.size W _).2.2.2.2.2)).mono ?_; rintro e w' ⟨rfl, hb⟩))
  have hfin := (by assumption : _ ∧ _ ∧ _ ∧ _ ∧ _ ∧ Below W.heap.size W _).2.2.2.2.2
  have HF := Lib.hid hfin
  clear m1 m2 m3 m4 m5 m6 m7 m8 hfin
  go_wp2
  go_ret
  exact ⟨rfl, HB0.out.trans (HF.out.mono HB0.out.size)⟩

set_option maxHeartbeats 1000000 in
theorem Text_big (op a b c n s : Int) (w : World) (hop : 29 ≤ op) (hw : WordsLaid w) (hp : PowLaid w) (hz : 3 < w.heap.size)
    (a0 : -9223372036854775808 ≤ a) (a1 : a ≤ 9223372036854775807) (b0 : -9223372036854775808 ≤ b) (b1 : b ≤ 9223372036854775807) (c0 : -9223372036854775808 ≤ c) (c1 : c ≤ 9223372036854775807) (n0 : -9223372036854775808 ≤ n) (n1 : n ≤ 9223372036854775807) :
    Calls Tryd.prog 4 #[.agg #[.int .i64 op, .int .i64 a, .int .i64 b, .int .i64 c, .int .i64 n, .int .i64 s]] w fun e w' => e = .returned (.string (txB (0) a b c n)) ∧ Below w.heap.size w w' := by
  have hcell := hw 0 (by omega)
  have z1 := wdAt_size (0)
  have za := itB_size a a0 a1
  have zb := itB_size b b0 b1
  have zc := itB_size c c0 c1
  have zn := itB_size n n0 n1
  have HP := Lib.hid hp
  have q1 : decide (0 ≤ op) = true := by simp; omega
  have q2 : decide (op < 29) = false := by simp; omega
  clear hw hp
  go_enter Tryd.func4, Tryd.ntmps4
  go_wp2_with (go_at_call 6; refine (within_any _ _ _).mono ?_; rintro e w' ⟨rfl, rfl⟩)
  generalize hW : World.alloc w _ = W
  have hB0 : Below w.heap.size w W := by rw [← hW]; exact (Below.refl _ _).alloc (Nat.le_refl _) _
  have x1 : W.cell? ⟨w.heap.size, 1, none⟩ = some (.int .i64 a) := by rw [← hW]; simp
  have x2 : W.cell? ⟨w.heap.size, 2, none⟩ = some (.int .i64 b) := by rw [← hW]; simp
  have x3 : W.cell? ⟨w.heap.size, 3, none⟩ = some (.int .i64 c) := by rw [← hW]; simp
  have x4 : W.cell? ⟨w.heap.size, 4, none⟩ = some (.int .i64 n) := by rw [← hW]; simp
  have hzW : w.heap.size < W.heap.size := by rw [← hW]; simp
  have x5 : W.cell? ⟨0, 0, none⟩ = some (.string (wdAt 0)) := (hB0.cell (by show 0 < _; omega)).trans hcell
  have h0W : 0 < W.heap.size := by omega
  have HPW : Hid (PowLaid W) := Lib.hid (HP.out.below hB0 (by omega))
  have HB0 := Lib.hid hB0
  have hS : Hid (∀ W' : World, Below W.heap.size W W' → PowLaid W') := Lib.hid fun W' h => HPW.out.below h (by omega)
  clear hW hcell hB0 q1 q2
  have m1 : ¬ 9223372036854775807 < (wdAt 0).size + 1 := by omega
  have m2 : ¬ 9223372036854775807 < (wdAt 0).size + 1 + (itB a).size := by omega
  have m3 : ¬ 9223372036854775807 < (wdAt 0).size + 1 + (itB a).size + 1 := by omega
  have m4 : ¬ 9223372036854775807 < (wdAt 0).size + 1 + (itB a).size + 1 + (itB b).size := by omega
  have m5 : ¬ 9223372036854775807 < (wdAt 0).size + 1 + (itB a).size + 1 + (itB b).size + 1 := by omega
  have m6 : ¬ 9223372036854775807 < (wdAt 0).size + 1 + (itB a).size + 1 + (itB b).size + 1 + (itB c).size := by omega
  have m7 : ¬ 9223372036854775807 < (wdAt 0).size + 1 + (itB a).size + 1 + (itB b).size + 1 + (itB c).size + 1 := by omega
  have m8 : ¬ 9223372036854775807 < (wdAt 0).size + 1 + (itB a).size + 1 + (itB b).size + 1 + (itB c).size + 1 + (itB n).size := by omega
  clear z1 za zb zc zn
  go_region_held3 (fun w' => w'.cell? ⟨w.heap.size, 1, none⟩ = some (.int .i64 a) ∧ w'.cell? ⟨w.heap.size, 2, none⟩ = some (.int .i64 b) ∧ w'.cell? ⟨w.heap.size, 3, none⟩ = some (.int .i64 c) ∧ w'.cell? ⟨w.heap.size, 4, none⟩ = some (.int .i64 n) ∧ w'.cell? ⟨0, 0, none⟩ = some (.string (wdAt 0)) ∧ Below W.heap.size W w')
    (first | (exact keepK hzW h0W (by assumption) (by assumption)) | (exact ⟨x1, x2, x3, x4, x5, (Below.refl _ _).drew⟩) | go_keep)
    (first | (go_at_call 7; refine (Itoa_b _ (by assumption) (by assumption) _ (hS.out _ (by assumption : _ ∧ _ ∧ _ ∧ _ ∧ _ ∧ Below W.heap.size W _).2.2.2.2.2)).mono ?_; rintro e w' ⟨rfl, hb⟩) | (go_at_call 8; refine (FormatInt_b _ (by assumption) (by assumption) _ (hS.out _ (by assumption : _ ∧ _ ∧ _ ∧ _ ∧ _ ∧ Below W.heap.size W _).2.2.2.2.2)).mono ?_; rintro e w' ⟨rfl, hb⟩))
  have hfin := (by assumption : _ ∧ _ ∧ _ ∧ _ ∧ _ ∧ Below W.heap.size W _).2.2.2.2.2
  have HF := Lib.hid hfin
  clear m1 m2 m3 m4 m5 m6 m7 m8 hfin
  go_wp2
  go_ret
  exact ⟨rfl, HB0.out.trans (HF.out.mono HB0.out.size)⟩

end Go.Proofs.YtmijlhhaogmeeaaDoor
