/-
  The walk of the law TokenNumbers.
-/
import Derived.Test.YtmnacfdbjlfooaaDoorTokScan
namespace Go.Proofs.YtmnacfdbjlfooaaDoor
open Go.RowKit

theorem scan_const (bs : Array UInt8) (r : List Tk.Tok × Nat × Nat) (hr : Tk.scan bs.toList = r) (hm : bs.size ≤ 4096) (w : World) (hkw : KwLaid w) :
    Calls Tryd.prog 11 #[.string ⟨bs⟩] w (ScanPost w r) := by
  rw [← hr]
  exact Scan_any ⟨bs⟩ w hkw (by show bs.size ≤ maxLen; unfold maxLen; omega)

theorem own_form {w : World} {base : Nat} {e : TypeId} {size : Nat} {v : Value} {n : Nat} {xs : List Value} (h : w.ownsRow base e size v n xs) (hn : 0 < n) :
    ∃ g cap, v = .slice (some ⟨g, 0, none⟩) n cap ∧ base ≤ g ∧ g < w.heap.size ∧ ∀ j, j < n * size → w.cell? ⟨g, j, none⟩ = xs[j]? := by
  rcases h.2 with ⟨_, h0⟩ | ⟨g, cap, cur, rfl, hb, hg, _⟩
  · omega
  · exact ⟨g, cap, rfl, hb, (Array.getElem?_eq_some_iff.1 hg).1, fun j hj => h.cellAt j hj⟩

theorem numbers1 : Tk.scan [57, 50, 50, 51, 51, 55, 50, 48, 51, 54, 56, 53, 52, 55, 55, 53, 56, 48, 55, 32, 48, 48, 55] = ([⟨2, [57, 50, 50, 51, 51, 55, 50, 48, 51, 54, 56, 53, 52, 55, 55, 53, 56, 48, 55], 1⟩, ⟨2, [48, 48, 55], 1⟩], 0, 0) := by kernel_rfl
theorem numbers2 : Tk.scan [10, 57, 50, 50, 51, 51, 55, 50, 48, 51, 54, 56, 53, 52, 55, 55, 53, 56, 48, 56] = ([], 3, 2) := by kernel_rfl
theorem numbers3 : Tk.scan [49, 120] = ([], 3, 1) := by kernel_rfl
theorem numbers4 : Tk.scan [49, 95] = ([], 3, 1) := by kernel_rfl

set_option maxHeartbeats 1000000 in
theorem TokenNumbers_walk (w : World) (hkw : KwLaid w) :
    Calls Tryd.prog 3 #[] w fun e w' => e = .returned (.bool true) ∧ Below w.heap.size w w' := by
  have k0 := hkw.lt
  go_enter Tryd.func3, Tryd.ntmps3
  go_wp2_with fail
  refine (scan_const _ _ numbers1 (by decide) w hkw).mono ?_
  rintro e w1 ⟨v1, rfl, hown, hb1⟩
  obtain ⟨g, cap, hv, _, hlt, hcell⟩ := own_form hown (by decide)
  rw [hv]
  have c0 := hcell 0 (by decide)
  have c4 := hcell 4 (by decide)
  have kw1 := hkw.same hb1
  clear hown hv hcell
  go_wp2_with fail
  refine (scan_const _ _ numbers2 (by decide) w1 kw1).mono ?_
  rintro e w2 ⟨v2, rfl, _, hb2⟩
  have kw2 := kw1.same hb2
  go_wp2_with fail
  refine (scan_const _ _ numbers3 (by decide) w2 kw2).mono ?_
  rintro e w3 ⟨v3, rfl, _, hb3⟩
  have kw3 := kw2.same hb3
  go_wp2_with fail
  refine (scan_const _ _ numbers4 (by decide) w3 kw3).mono ?_
  rintro e w4 ⟨v4, rfl, _, hb4⟩
  have s1 := hb1.size
  have s2 := hb2.size
  have s3 := hb3.size
  have hbb := (((hb1.trans (hb2.mono s1)).trans (hb3.mono (by omega))).trans (hb4.mono (by omega)))
  have d0 : w4.cell? ⟨g, 0, none⟩ = some (.int .i64 2) := by
    rw [hb4.cell (by show g < _; omega), hb3.cell (by show g < _; omega), hb2.cell (by show g < _; omega)]; exact c0
  have d4 : w4.cell? ⟨g, 4, none⟩ = some (.string ⟨#[48, 48, 55]⟩) := by
    rw [hb4.cell (by show g < _; omega), hb3.cell (by show g < _; omega), hb2.cell (by show g < _; omega)]; exact c4
  clear c0 c4 kw1 kw2 kw3 hb1 hb2 hb3 hb4
  have HB := Lib.hid hbb
  clear hbb
  go_wp2
  go_ret
  exact ⟨rfl, HB.out⟩
end Go.Proofs.YtmnacfdbjlfooaaDoor
