/-
  The walk of the law TokenComments.
-/
import Derived.Test.YtmnacfdbjlfooaaDoorTokTail
import Derived.Test.YtmnacfdbjlfooaaDoorLawScans
namespace Go.Proofs.YtmnacfdbjlfooaaDoor
open Go.RowKit

def NoLf (s : ByteArray) (k : Nat) : Prop := ∀ j (h : j < s.size), j < k → s[j] ≠ 10
theorem NoLf.step {s : ByteArray} {k : Nat} (h : NoLf s k) (hk : k < s.size) (hp : s[k] ≠ 10) : NoLf s (k + 1) := by
  intro j hj hjk
  by_cases e : j = k
  · subst e; exact hp
  · exact h j hj (by omega)
theorem NoLf.done {s : ByteArray} (h : NoLf s s.size) : Tk.nls s.data.toList = 0 := by
  unfold Tk.nls
  rw [List.count_eq_zero]
  intro hm
  obtain ⟨j, hj, e⟩ := List.getElem_of_mem hm
  have hj' : j < s.size := by rw [Lib.size_eq]; exact hj
  exact h j hj' hj' e

theorem Scan_at (x : ByteArray) (R : List Tk.Tok × Nat × Nat) (w : World) (hR : Tk.scan x.data.toList = R) (hkw : KwLaid w) (hm : x.size ≤ maxLen) :
    Calls Tryd.prog 11 #[.string x] w (ScanPost w R) := by
  rw [← hR]; exact Scan_any x w hkw hm

set_option maxHeartbeats 1000000 in
theorem TokenComments_walk (s : ByteArray) (hs : s.size ≤ maxLen) (c : ByteArray) (hc : c.size ≤ maxLen) (w : World) (hkw : KwLaid w) :
    Calls Tryd.prog 8 #[.string s, .string c] w fun e w' => e = .returned (.bool true) ∧ Below w.heap.size w w' := by
  have hm := hs
  have hm2 := hc
  unfold maxLen at hm hm2
  by_cases hbig : 500 < s.size
  · go_enter Tryd.func8, Tryd.ntmps8
    go_wp2
    go_ret
    exact ⟨rfl, Below.refl _ _⟩
  · by_cases hbig2 : 500 < c.size
    · go_enter Tryd.func8, Tryd.ntmps8
      go_wp2
      go_ret
      exact ⟨rfl, Below.refl _ _⟩
    · go_enter Tryd.func8, Tryd.ntmps8
      go_wp2
      go_loop [5] (fun i => ∃ k : Nat, k ≤ c.size ∧ i = .int .i64 k ∧ NoLf c k) (fun i => c.size - (intOf i).toNat)
      case atStart => exact ⟨0, Nat.zero_le _, rfl, fun j hj h => absurd h (by omega)⟩
      case round =>
        obtain ⟨k, hk, rfl, hno⟩ := hrel
        by_cases hlt : k < c.size
        · by_cases h10 : c[k] = 10
          · have hb : ((c[k].toNat : Int) == 10) = true := by rw [h10]; rfl
            clear h10
            go_wp2
            go_ret
            exact ⟨rfl, Below.refl _ _⟩
          · have hb := not10 _ h10
            have hst := hno.step hlt h10
            clear h10
            go_wp2
            go_round
            case rel => exact ⟨k + 1, by omega, by go_num, hst⟩
            case measure => simp [intOf]; omega
        · obtain rfl : k = c.size := by omega
          have hnl := Lib.hid hno.done
          go_wp2_with fail
          refine (Scan_any s w hkw hs).mono ?_
          rintro e w1 ⟨v1, rfl, hown1, hb1⟩
          go_wp2_with fail
          have hR : Tk.scan (s ++ (⟨#[32, 47, 47]⟩ : ByteArray) ++ c).data.toList = Tk.scan s.data.toList := by
            rw [ByteArray.data_append, ByteArray.data_append, Array.toList_append, Array.toList_append, List.append_assoc]
            exact Tk.scan_comment _ c.data.toList (by rw [← Lib.size_eq]; omega) (by rw [← Lib.size_eq]; omega) hnl.out
          refine (Scan_at _ _ w1 hR (hkw.same hb1) (by rw [ByteArray.size_append, ByteArray.size_append]; show s.size + 3 + c.size ≤ _; unfold maxLen; omega)).mono ?_
          rintro e w2 ⟨v2, rfl, hown2, hb2⟩
          have hown1' := own_below hown1 hb2
          have kw2 := (hkw.same hb1).same hb2
          have HB := Lib.hid (hb1.trans (hb2.mono hb1.size))
          have hlen := scan_len s.data.toList
          clear hR
          generalize Tk.scan s.data.toList = R at *
          clear hb1 hb2 hown1
          go_wp2_with (go_at_call 13; refine (SameTokens_same R.1 _ _ _ _ _ (by omega) hown1' hown2).mono ?_; rintro e w3 ⟨rfl, n, rfl⟩)
          refine (awake_any _ (kw2.same (below_drewN (Below.refl _ _) n))).mono ?_
          rintro e w4 ⟨rfl, hb4⟩
          go_wp2
          go_ret
          refine ⟨rfl, ?_⟩
          have h2 := (below_drewN HB.out n)
          exact h2.trans (hb4.mono h2.size)
end Go.Proofs.YtmnacfdbjlfooaaDoor
