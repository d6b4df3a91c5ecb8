/-
  The walks of the laws TokenScans and TokenWords.
-/
import Derived.Test.YtmnacfdbjlfooaaDoorRefScan
namespace Go.Proofs.YtmnacfdbjlfooaaDoor
open Go.RowKit

theorem scanA_len (l : List UInt8) (R : List Tk.Tok × Nat × Nat) : ∀ (f : Nat) (k line : Nat) (acc : List Tk.Tok), Tk.SP l R k line acc → l.length - k ≤ f → R.1.length ≤ l.length := by
  intro f
  induction f with
  | zero =>
    intro k line acc h hf
    have := h.done (by have := h.1; omega)
    rw [this]
    have h1 := h.1
    have h2 := h.2.2.1
    show acc.length ≤ _
    omega
  | succ f ih =>
    intro k line acc h hf
    by_cases hk : k < l.length
    · by_cases h10 : l[k] = 10
      · exact ih _ _ _ (h.nl hk h10) (by omega)
      · by_cases hb : l[k] = 32 ∨ l[k] = 9 ∨ l[k] = 13
        · exact ih _ _ _ (h.blank hk hb) (by omega)
        · cases hp : [47, 47].isPrefixOf (l.drop k)
          · by_cases he : (Tk.first (l.drop k)).1 = 0
            · obtain ⟨h1, h2⟩ := h.tok hk h10 hb hp he
              exact ih _ _ _ h1 (by omega)
            · rw [h.err hk h10 hb hp he]; exact Nat.zero_le _
          · obtain ⟨h1, h2⟩ := h.cmt hk h10 hb hp
            exact ih _ _ _ h1 (by omega)
    · rw [h.done hk]
      have h1 := h.1
      have h2 := h.2.2.1
      show acc.length ≤ _
      omega
theorem scan_len (l : List UInt8) : (Tk.scan l).1.length ≤ 4096 := by
  unfold Tk.scan
  split
  · exact Nat.zero_le _
  · have := scanA_len l _ l.length 0 1 [] (Tk.SP.start l) (by omega)
    omega

set_option maxHeartbeats 1000000 in
theorem TokenScans_walk (s : ByteArray) (hs : s.size ≤ maxLen) (w : World) (hkw : KwLaid w) :
    Calls Tryd.prog 4 #[.string s] w fun e w' => e = .returned (.bool true) ∧ Below w.heap.size w w' := by
  have hm := hs
  unfold maxLen at hm
  have hlen := scan_len s.data.toList
  by_cases hbig : 5000 < s.size
  · go_enter Tryd.func4, Tryd.ntmps4
    go_wp2
    go_ret
    exact ⟨rfl, Below.refl _ _⟩
  · go_enter Tryd.func4, Tryd.ntmps4
    go_wp2_with fail
    refine (Scan_any s w hkw hs).mono ?_
    rintro e w1 ⟨v1, rfl, hown1, hb1⟩
    go_wp2_with fail
    refine (RefScan_any s w1 hs).mono ?_
    rintro e w2 ⟨v2, rfl, hown2, hb2⟩
    have hown1' := own_below hown1 hb2
    have kw2 := (hkw.same hb1).same hb2
    have HB := Lib.hid (hb1.trans (hb2.mono hb1.size))
    generalize Tk.scan s.data.toList = R at *
    clear hb1 hb2 hown1
    go_wp2_with (go_at_call 13; refine (SameTokens_same R.1 _ _ _ _ _ (by omega) hown1' hown2).mono ?_; rintro e w3 ⟨rfl, n, rfl⟩)
    refine (awake_any _ (kw2.same (below_drewN (Below.refl _ _) n))).mono ?_
    rintro e w4 ⟨rfl, hb4⟩
    go_wp2
    go_ret
    refine ⟨rfl, ?_⟩
    have h2 := (below_drewN HB.out n)
    exact h2.trans (hb4.mono h2.size)

set_option maxHeartbeats 1000000 in
theorem TokenWords_walk (s : ByteArray) (hs : s.size ≤ maxLen) (w : World) (hkw : KwLaid w) :
    Calls Tryd.prog 5 #[.string s] w fun e w' => e = .returned (.bool true) ∧ Below w.heap.size w w' := by
  have hm := hs
  unfold maxLen at hm
  by_cases hbig : 100 < s.size
  · go_enter Tryd.func5, Tryd.ntmps5
    go_wp2
    go_ret
    exact ⟨rfl, Below.refl _ _⟩
  · cases hN : Tk.isNm s.data.toList <;> cases hK : Tk.isKw s.data.toList
    all_goals
      go_enter Tryd.func5, Tryd.ntmps5
      go_wp2_with fail
      refine (IsName_any s w hkw hs).mono ?_
      rintro e w1 ⟨rfl, hb1⟩
      go_wp2_with fail
      refine (RefIsName_any s w1 hs).mono ?_
      rintro e w2 ⟨rfl, hb2⟩
      have kw2 := (hkw.same hb1).same hb2
      go_wp2_with fail
      refine (IsKeyword_any s w2 kw2).mono ?_
      rintro e w3 ⟨rfl, rfl⟩
      go_wp2_with fail
      refine (RefIsKeyword_any s w2).mono ?_
      rintro e w4 ⟨rfl, hb4⟩
      go_wp2_with fail
      refine (awake_any w4 (kw2.same hb4)).mono ?_
      rintro e w5 ⟨rfl, hb5⟩
      have HB := hb1.trans (hb2.mono hb1.size)
      have HC := HB.trans (hb4.mono HB.size)
      have HD := Lib.hid (HC.trans (hb5.mono HC.size))
      clear HB HC hb1 hb2 hb4 hb5
      go_wp2
      go_ret
      exact ⟨rfl, HD.out⟩
end Go.Proofs.YtmnacfdbjlfooaaDoor
