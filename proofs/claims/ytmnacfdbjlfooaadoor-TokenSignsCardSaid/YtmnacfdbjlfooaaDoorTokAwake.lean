/-
  Contracts of the law package's awake and of the reference's SameTokens at equal lists.
-/
import Derived.Test.YtmnacfdbjlfooaaDoorLawNumbers
import Derived.Test.YtmnacfdbjlfooaaDoorTokName
import Derived.RegionTactic
import Derived.Deep.QuietTactic
import Derived.BigQuiet
namespace Go.Proofs.YtmnacfdbjlfooaaDoor
open Go.RowKit

theorem awake_scan : Tk.scan [97, 61, 49] = ([⟨1, [97], 1⟩, ⟨4, [61], 1⟩, ⟨2, [49], 1⟩], 0, 0) := by kernel_rfl

set_option maxHeartbeats 1000000 in
theorem awake_any (w : World) (hkw : KwLaid w) :
    Calls Tryd.prog 14 #[] w fun e w' => e = .returned (.bool true) ∧ Below w.heap.size w w' := by
  have hn : Tk.isNm [97] = true := by decide
  have hk : Tk.isKw [118, 97, 114] = true := by decide
  go_enter Tryd.func14, Tryd.ntmps14
  go_wp2_with fail
  refine (scan_const _ _ awake_scan (by decide) w hkw).mono ?_
  rintro e w1 ⟨v1, rfl, hown, hb1⟩
  obtain ⟨g, cap, hv, _, hlt, hcell⟩ := own_form hown (by decide)
  rw [hv]
  have c1 : w1.cell? ⟨g, 1, none⟩ = some (.string ⟨#[97]⟩) := hcell 1 (by decide)
  have c3 : w1.cell? ⟨g, 3, none⟩ = some (.int .i64 4) := hcell 3 (by decide)
  have kw1 := hkw.same hb1
  have s1 := hb1.size
  clear hown hv hcell
  go_wp2_with (first | (go_at_call 15; refine (IsName_any _ _ kw1 (by decide)).mono ?_; rintro e w2 ⟨rfl, hb2⟩; have kw2 := kw1.same hb2; have HB := Lib.hid (hb1.trans (hb2.mono s1)); clear hb2) | (go_at_call 17; refine (IsKeyword_any _ _ kw2).mono ?_; rintro e w' ⟨rfl, rfl⟩))
  go_ret
  exact ⟨rfl, HB.out⟩

theorem own_any {w : World} {base : Nat} {e : TypeId} {size : Nat} {v : Value} {n : Nat} {xs : List Value} (h : w.ownsRow base e size v n xs) :
    ∃ ao cap, v = .slice ao n cap ∧ ∀ k, k < n → ∃ g, ao = some ⟨g, 0, none⟩ ∧ base ≤ g ∧ g < w.heap.size ∧ ∀ j, j < n * size → w.cell? ⟨g, j, none⟩ = xs[j]? := by
  rcases h.2 with ⟨rfl, h0⟩ | ⟨g, cap, cur, rfl, hb, hg, _⟩
  · subst h0
    exact ⟨none, 0, rfl, fun k hk => absurd hk (by omega)⟩
  · exact ⟨_, cap, rfl, fun _ _ => ⟨g, rfl, hb, (Array.getElem?_eq_some_iff.1 hg).1, fun j hj => h.cellAt j hj⟩⟩

theorem cells_at (ts : List Tk.Tok) (k : Nat) (hk : k < ts.length) : (Tk.cellsOf ts)[k * 3]? = some (.int .i64 ts[k].kind) ∧ (Tk.cellsOf ts)[k * 3 + 1]? = some (.string ⟨ts[k].text.toArray⟩) ∧ (Tk.cellsOf ts)[k * 3 + 2]? = some (.int .i64 ts[k].line) := by
  induction ts generalizing k with
  | nil => simp at hk
  | cons t ts ih =>
    have e : Tk.cellsOf (t :: ts) = t.cells ++ Tk.cellsOf ts := rfl
    rw [e]
    cases k with
    | zero => exact ⟨rfl, rfl, rfl⟩
    | succ k =>
      have := ih k (by simpa using hk)
      have hl : t.cells.length = 3 := rfl
      rw [show (k + 1) * 3 = t.cells.length + k * 3 from by rw [hl]; omega, Nat.add_assoc, Nat.add_assoc, List.getElem?_append_right (by omega), List.getElem?_append_right (by omega), List.getElem?_append_right (by omega)]
      simpa using this

set_option maxHeartbeats 1000000 in
theorem SameTokens_same (ts : List Tk.Tok) (v1 v2 : Value) (B1 B2 : Nat) (w : World) (hm : ts.length ≤ 100000)
    (h1 : w.ownsRow B1 27 3 v1 ts.length (Tk.cellsOf ts)) (h2 : w.ownsRow B2 27 3 v2 ts.length (Tk.cellsOf ts)) :
    Calls Tryd.prog 13 #[v1, v2] w fun e w' => e = .returned (.bool true) ∧ ∃ n, w' = w.drewN n := by
  obtain ⟨a1, c1, rfl, hc1⟩ := own_any h1
  obtain ⟨a2, c2, rfl, hc2⟩ := own_any h2
  clear h1 h2
  generalize hn : ts.length = n at *
  have Hn := Lib.hid hn
  clear hn
  go_enter Tryd.func13, Tryd.ntmps13
  go_wp2
  go_loopw [5] (fun i wr => ∃ k m : Nat, k ≤ n ∧ i = .int .i64 k ∧ wr = w.drewN m) (fun i _ => n - (intOf i).toNat)
  case atStart => exact ⟨0, 0, Nat.zero_le _, rfl, rfl⟩
  case round =>
    obtain ⟨k, m, hk, rfl, rfl⟩ := hrel
    by_cases hlt : k < n
    · obtain ⟨g1, rfl, _, _, hg1⟩ := hc1 k hlt
      obtain ⟨g2, rfl, _, _, hg2⟩ := hc2 k hlt
      have hca := cells_at ts k (by rw [Hn.out]; exact hlt)
      have x0 := (hg1 (k * 3) (by omega)).trans hca.1
      have x1 := (hg1 (k * 3 + 1) (by omega)).trans hca.2.1
      have x2 := (hg1 (k * 3 + 2) (by omega)).trans hca.2.2
      have y0 := (hg2 (k * 3) (by omega)).trans hca.1
      have y1 := (hg2 (k * 3 + 1) (by omega)).trans hca.2.1
      have y2 := (hg2 (k * 3 + 2) (by omega)).trans hca.2.2
      clear hca hc1 hc2 hg1 hg2
      generalize ts[k]'_ = t at *
      go_wp2
      go_quiet (fail)
      go_wp2
      go_roundw
      case rel => exact ⟨k + 1, _, by omega, by go_num, rfl⟩
      case measure => simp [intOf]; omega
    · clear hc1 hc2
      go_wp2
      go_ret
      exact ⟨rfl, _, rfl⟩
end Go.Proofs.YtmnacfdbjlfooaaDoor
