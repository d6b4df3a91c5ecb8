/-
  Contracts of the reference's IsName and Number.
-/
import Derived.Test.YtmnacfdbjlfooaaDoorRefTok
namespace Go.Proofs.YtmnacfdbjlfooaaDoor
open Go.RowKit

theorem inner_b (c : UInt8) (b : Bool) (h : Tk.isI c = b) : Tk.innI (c.toNat : Int) = b := h

def Alli (s : ByteArray) (k : Nat) : Prop := ∀ j (h : j < s.size), j < k → Tk.isI s[j] = true
theorem alli_yes (s : ByteArray) (h : Alli s s.size) : s.data.toList.all Tk.isI = true := by
  rw [List.all_eq_true]
  intro c hc
  obtain ⟨j, hj, rfl⟩ := List.getElem_of_mem hc
  have hj' : j < s.size := by rw [Lib.size_eq]; exact hj
  exact h j hj' hj'
theorem alli_no (s : ByteArray) (k : Nat) (hk : k < s.size) (h : Tk.isI s[k] = false) : s.data.toList.all Tk.isI = false := by
  rw [List.all_eq_false]
  exact ⟨s[k], List.getElem_mem (by rw [← Lib.size_eq]; exact hk), by rw [h]; decide⟩
theorem Alli.step {s : ByteArray} {k : Nat} (h : Alli s k) (hk : k < s.size) (hp : Tk.isI s[k] = true) : Alli s (k + 1) := by
  intro j hj hjk
  by_cases e : j = k
  · subst e; exact hp
  · exact h j hj (by omega)

set_option maxHeartbeats 2000000 in
theorem RefIsName_any (s : ByteArray) (w : World) (hm : s.size ≤ maxLen) :
    Calls Tryd.prog 16 #[.string s] w fun e w' => e = .returned (.bool (Tk.isNm s.data.toList)) ∧ Below w.heap.size w w' := by
  have HN := Lib.hid (isNm_eq s.data.toList)
  rw [← Lib.size_eq] at HN
  unfold maxLen at hm
  by_cases h1 : s.size < 1
  · have HR : Hid (Tk.isNm s.data.toList = false) := by
      apply Lib.hid; rw [HN.out, show decide (1 ≤ s.size) = false from decide_eq_false (by omega)]; rfl
    clear HN
    go_enter Tryd.func16, Tryd.ntmps16
    go_wp2
    go_ret
    exact ⟨ret_bool HR.out.symm, Below.refl _ _⟩
  · by_cases h2 : 12 < s.size
    · have HR : Hid (Tk.isNm s.data.toList = false) := by
        apply Lib.hid; rw [HN.out, show decide (s.size ≤ 12) = false from decide_eq_false (by omega)]; simp
      clear HN
      go_enter Tryd.func16, Tryd.ntmps16
      go_wp2
      go_ret
      exact ⟨ret_bool HR.out.symm, Below.refl _ _⟩
    · have h0 : 0 < s.size := by omega
      have hhd : s.data.toList.head?.any Tk.isL = Tk.isL s[0] := by rw [Tk.data_cons s h0]; rfl
      cases hL : Tk.isL s[0]
      · have HR : Hid (Tk.isNm s.data.toList = false) := by
          apply Lib.hid; rw [HN.out]; unfold nmB; rw [hhd, hL]; simp
        have hL' : Tk.lttI (s[0].toNat : Int) = false := hL
        clear HN hhd
        go_enter Tryd.func16, Tryd.ntmps16
        go_wp2_with (go_at_call 22; refine (Letter_any _ _).mono ?_; rintro e w' ⟨rfl, rfl⟩)
        go_ret
        exact ⟨ret_bool HR.out.symm, Below.refl _ _⟩
      · have hL' : Tk.lttI (s[0].toNat : Int) = true := hL
        cases hK : Tk.isKw s.data.toList
        · have HR : Hid (Tk.isNm s.data.toList = s.data.toList.all Tk.isI) := by
            apply Lib.hid; rw [HN.out]; unfold nmB; rw [hhd, hL, hK, show decide (s.size ≤ 12) = true from by simp; omega, show decide (1 ≤ s.size) = true from by simp; omega]; rfl
          clear HN hhd hL
          go_enter Tryd.func16, Tryd.ntmps16
          go_wp2_with (first | (go_at_call 22; refine (Letter_any _ _).mono ?_; rintro e w' ⟨rfl, rfl⟩) | (go_at_call 18; refine (RefIsKeyword_any _ _).mono ?_; rintro e w1 ⟨rfl, hb1⟩))
          have HB := Lib.hid hb1
          clear hb1
          go_loop [3] (fun i => ∃ k : Nat, k ≤ s.size ∧ i = .int .i64 k ∧ Alli s k) (fun i => s.size - (intOf i).toNat)
          case atStart => exact ⟨0, Nat.zero_le _, rfl, fun j hj h => absurd h (by omega)⟩
          case round =>
            obtain ⟨k, hk, rfl, hok⟩ := hrel
            by_cases hlt : k < s.size
            · cases hi : Tk.isI s[k]
              · have hi' : Tk.innI (s[k].toNat : Int) = false := hi
                have HF := Lib.hid (alli_no s k hlt hi)
                clear hi
                go_wp2_with (go_at_call 23; refine (inner_any _ _).mono ?_; rintro e w' ⟨rfl, rfl⟩)
                go_ret
                exact ⟨ret_bool (HR.out.trans HF.out).symm, HB.out⟩
              · have hi' : Tk.innI (s[k].toNat : Int) = true := hi
                have hst := hok.step hlt hi
                clear hi
                go_wp2_with (go_at_call 23; refine (inner_any _ _).mono ?_; rintro e w' ⟨rfl, rfl⟩)
                go_round
                case rel => exact ⟨k + 1, by omega, by go_num, hst⟩
                case measure => simp [intOf]; omega
            · obtain rfl : k = s.size := by omega
              have HT := Lib.hid (alli_yes s hok)
              go_wp2
              go_ret
              exact ⟨ret_bool (HR.out.trans HT.out).symm, HB.out⟩
        · have HR : Hid (Tk.isNm s.data.toList = false) := by
            apply Lib.hid; rw [HN.out, hK]; simp
          clear HN hhd hL
          go_enter Tryd.func16, Tryd.ntmps16
          go_wp2_with (first | (go_at_call 22; refine (Letter_any _ _).mono ?_; rintro e w' ⟨rfl, rfl⟩) | (go_at_call 18; refine (RefIsKeyword_any _ _).mono ?_; rintro e w1 ⟨rfl, hb1⟩))
          go_ret
          exact ⟨ret_bool HR.out.symm, hb1⟩

/-- The value of digits, and whether there are digits alone, and at least one, and not too great a value. -/
def numV (l : List UInt8) : Nat × Bool := if l.all Tk.isD && Tk.numOk l then (Tk.val l, !l.isEmpty) else (0, false)
theorem val_snoc (l : List UInt8) (c : UInt8) : Tk.val (l ++ [c]) = 10 * Tk.val l + (c.toNat - 48) := by unfold Tk.val; rw [List.foldl_append]; rfl
theorem val_prefix (l m : List UInt8) : Tk.val l ≤ Tk.val (l ++ m) := by
  have := Tk.foldl_val m (Tk.val l)
  unfold Tk.val at *
  rw [List.foldl_append, this]
  have h : List.foldl (fun n (c : UInt8) => 10 * n + (c.toNat - 48)) 0 l * 1 ≤ List.foldl (fun n (c : UInt8) => 10 * n + (c.toNat - 48)) 0 l * 10 ^ m.length := Nat.mul_le_mul_left _ (Nat.pow_pos (by omega))
  omega
/-- Where the reading of a number stands. -/
def NumAt (s : ByteArray) (k n : Nat) : Prop := n = Tk.val (s.data.toList.take k) ∧ n ≤ 9223372036854775807 ∧ (s.data.toList.take k).all Tk.isD = true
theorem take_snoc (s : ByteArray) (k : Nat) (h : k < s.size) : s.data.toList.take (k + 1) = s.data.toList.take k ++ [s[k]] := by
  rw [List.take_succ_eq_append_getElem (by rw [← Lib.size_eq]; exact h)]; rfl
theorem NumAt.step {s : ByteArray} {k n : Nat} (h : NumAt s k n) (hk : k < s.size) (hd : Tk.isD s[k] = true) (hle : 10 * n + (s[k].toNat - 48) ≤ 9223372036854775807) : NumAt s (k + 1) (10 * n + (s[k].toNat - 48)) := by
  obtain ⟨rfl, _, h3⟩ := h
  refine ⟨?_, hle, ?_⟩
  · rw [take_snoc s k hk, val_snoc]
  · rw [take_snoc s k hk, List.all_append, h3]
    simp [hd]
theorem numV_big {s : ByteArray} {k n : Nat} (h : NumAt s k n) (hk : k < s.size) (hgt : 9223372036854775807 < 10 * n + (s[k].toNat - 48)) : numV s.data.toList = (0, false) := by
  have hv : ¬ Tk.val s.data.toList ≤ 9223372036854775807 := by
    have := val_prefix (s.data.toList.take (k + 1)) (s.data.toList.drop (k + 1))
    rw [List.take_append_drop, take_snoc s k hk, val_snoc, ← h.1] at this
    omega
  unfold numV Tk.numOk
  rw [decide_eq_false hv, Bool.and_false]
  rfl
theorem numV_bad {s : ByteArray} {k : Nat} (hk : k < s.size) (hd : Tk.isD s[k] = false) : numV s.data.toList = (0, false) := by
  have : s.data.toList.all Tk.isD = false := by
    rw [List.all_eq_false]
    exact ⟨s[k], List.getElem_mem (by rw [← Lib.size_eq]; exact hk), by rw [hd]; decide⟩
  unfold numV
  rw [this]
  rfl
theorem numV_done {s : ByteArray} {n : Nat} (h : NumAt s s.size n) : numV s.data.toList = (n, decide (0 < s.size)) := by
  obtain ⟨h1, h2, h3⟩ := h
  rw [Lib.size_eq, List.take_length] at h1 h3
  unfold numV Tk.numOk
  rw [h3, ← h1, decide_eq_true h2]
  have : (!s.data.toList.isEmpty) = decide (0 < s.size) := by
    rw [Lib.size_eq]
    cases s.data.toList <;> simp
  rw [this]
  rfl

set_option maxHeartbeats 1000000 in
theorem Number_any (s : ByteArray) (w : World) (hm : s.size ≤ maxLen) :
    Calls Tryd.prog 25 #[.string s] w fun e w' => e = .returned (.tuple #[.int .i64 (numV s.data.toList).1, .bool (numV s.data.toList).2]) ∧ w = w' := by
  unfold maxLen at hm
  have hst : NumAt s 0 0 := ⟨rfl, by omega, rfl⟩
  go_enter Tryd.func25, Tryd.ntmps25
  go_wp2
  go_loop [4, 5] (fun v i => ∃ k n : Nat, k ≤ s.size ∧ i = .int .i64 k ∧ v = .int .i64 n ∧ NumAt s k n) (fun _ i => s.size - (intOf i).toNat)
  case atStart => exact ⟨0, 0, Nat.zero_le _, rfl, rfl, hst⟩
  case round =>
    obtain ⟨k, n, hk, rfl, rfl, hat⟩ := hrel
    clear hst
    have hn := hat.2.1
    by_cases hlt : k < s.size
    · cases hd : Tk.isD s[k]
      · have hd' : Tk.digI (s[k].toNat : Int) = false := hd
        have HF := Lib.hid (numV_bad hlt hd)
        clear hd
        go_wp2_with (go_at_call 24; refine (Digit_any _ _).mono ?_; rintro e w' ⟨rfl, rfl⟩)
        go_ret2
        exact ⟨by rw [HF.out]; rfl, rfl⟩
      · have hd' : Tk.digI (s[k].toNat : Int) = true := hd
        have hdd := (Tk.isD_iff _).1 hd
        have hst := fun hle => hat.step hlt hd hle
        have hbig := fun hgt => numV_big hat hlt hgt
        clear hd hat
        by_cases hgt : (9223372036854775807 - ((s[k].toNat : Int) - 48)) / 10 < (n : Int)
        · have HF := Lib.hid (hbig (by omega))
          clear hst hbig
          go_wp2_with (go_at_call 24; refine (Digit_any _ _).mono ?_; rintro e w' ⟨rfl, rfl⟩)
          go_ret2
          exact ⟨by rw [HF.out]; rfl, rfl⟩
        · have hst' := hst (by omega)
          clear hst hbig
          go_wp2_with (go_at_call 24; refine (Digit_any _ _).mono ?_; rintro e w' ⟨rfl, rfl⟩)
          go_round
          case rel => exact ⟨k + 1, _, by omega, by go_num, by go_num, hst'⟩
          case measure => simp [intOf]; omega
    · obtain rfl : k = s.size := by omega
      have HT := Lib.hid (numV_done hat)
      go_wp2
      go_ret2
      exact ⟨by rw [HT.out]; rfl, rfl⟩
end Go.Proofs.YtmnacfdbjlfooaaDoor
