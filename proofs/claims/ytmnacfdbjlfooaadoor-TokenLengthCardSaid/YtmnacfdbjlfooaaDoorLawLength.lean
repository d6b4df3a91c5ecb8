/-
  The walk of the law TokenLength.
-/
import Derived.Test.YtmnacfdbjlfooaaDoorLawComments
import Derived.OpenShut
namespace Go.Proofs.YtmnacfdbjlfooaaDoor
open Go.RowKit

theorem scanA_lf (f : Nat) (l : List UInt8) (acc : List Tk.Tok) : ∀ (m line : Nat), Tk.scanA (f + m) (List.replicate m 10 ++ l) line acc = Tk.scanA f l (line + m) acc := by
  intro m
  induction m with
  | zero => intro line; rfl
  | succ m ih =>
    intro line
    rw [List.replicate_succ, List.cons_append, show f + (m + 1) = (f + m) + 1 from by omega, Tk.scanA_nl, ih, show line + 1 + m = line + (m + 1) from by omega]
theorem tw_xs : ∀ n : Nat, (List.replicate n (120 : UInt8)).takeWhile Tk.isI = List.replicate n 120
  | 0 => rfl
  | n + 1 => by rw [List.replicate_succ, List.takeWhile_cons, if_pos (by decide), tw_xs n]
theorem kw_xs (n : Nat) : Tk.isKw (List.replicate (n + 1) 120) = false := by
  unfold Tk.isKw
  rw [Bool.eq_false_iff]
  intro h
  rw [List.contains_iff_mem] at h
  have : ∀ k ∈ Tk.kws, k.headD 0 ≠ 120 := by decide
  exact this _ h rfl
theorem first_xs (n : Nat) : Tk.first (List.replicate (n + 1) 120) = if 12 < n + 1 then (2, 0, []) else (0, 1, List.replicate (n + 1) 120) := by
  unfold Tk.first Tk.wordR
  have h0 : (List.replicate (n + 1) (120 : UInt8)).headD 0 = 120 := rfl
  rw [h0, if_pos (by decide), tw_xs, kw_xs, List.length_replicate]
  rfl
theorem scan_xs (m n : Nat) (hm : m ≤ 255) (hn : n ≤ 255) : Tk.scan (List.replicate m 10 ++ List.replicate (n + 1) 120) = if 12 < n + 1 then ([], 2, m + 1) else ([⟨1, List.replicate (n + 1) 120, m + 1⟩], 0, 0) := by
  unfold Tk.scan
  rw [if_neg (by simp; omega), List.length_append, List.length_replicate, List.length_replicate, Nat.add_comm m, scanA_lf]
  have hp : [47, 47].isPrefixOf (120 :: List.replicate n (120 : UInt8)) = false := by simp [List.isPrefixOf]
  have hf := first_xs n
  rw [List.replicate_succ] at hf ⊢
  by_cases h12 : 12 < n + 1
  · rw [if_pos h12] at hf ⊢
    rw [Tk.scanA_err _ _ _ _ _ (by decide) (by decide) hp (by rw [hf]; decide), hf, Nat.add_comm]
  · rw [if_neg h12] at hf ⊢
    rw [Tk.scanA_tok _ _ _ _ _ (by decide) (by decide) hp (by rw [hf]), hf]
    rw [List.drop_of_length_le (by exact Nat.le_refl _), Tk.scanA_nil, List.nil_append, Nat.add_comm]
theorem isNm_xs (n : Nat) : Tk.isNm (List.replicate (n + 1) 120) = decide (n + 1 ≤ 12) := by
  unfold Tk.isNm
  rw [kw_xs, List.length_replicate]
  have h1 : (List.replicate (n + 1) (120 : UInt8)).head?.any Tk.isL = true := rfl
  have h2 : (List.replicate (n + 1) (120 : UInt8)).all Tk.isI = true := by
    rw [List.all_eq_true]; intro x hx; rw [List.eq_of_mem_replicate hx]; decide
  rw [h1, h2]
  simp

/-- A string of so many equal bytes. -/
def repS (c : UInt8) (k : Nat) : ByteArray := ⟨(List.replicate k c).toArray⟩
theorem repS_data (c : UInt8) (k : Nat) : (repS c k).data.toList = List.replicate k c := rfl
theorem repS_size (c : UInt8) (k : Nat) : (repS c k).size = k := by unfold repS; rw [Lib.size_mk, List.length_replicate]
theorem repS_snoc (c : UInt8) (k : Nat) : repS c k ++ ⟨#[c]⟩ = repS c (k + 1) := by
  unfold repS
  rw [List.replicate_succ', ByteArray.mk_append_mk]
theorem repS_zero (c : UInt8) : (⟨#[]⟩ : ByteArray) = repS c 0 := rfl

set_option maxHeartbeats 1000000 in
theorem TokenLength_walk (n : Int) (wn : (Lit.int .u8 n).wf = true) (m : Int) (wm : (Lit.int .u8 m).wf = true) (w : World) (hkw : KwLaid w) :
    Calls Tryd.prog 10 #[.int .u8 n, .int .u8 m] w fun e w' => e = .returned (.bool true) ∧ Below w.heap.size w w' := by
  obtain ⟨hn0, hn1⟩ := bounds_u8 wn
  obtain ⟨hm0, hm1⟩ := bounds_u8 wm
  obtain ⟨n, rfl⟩ := Int.eq_ofNat_of_zero_le hn0
  obtain ⟨m, rfl⟩ := Int.eq_ofNat_of_zero_le hm0
  clear wn wm
  go_enter Tryd.func10, Tryd.ntmps10
  go_wp2
  go_loop [5, 6] (fun v i => ∃ k : Nat, k ≤ n + 1 ∧ i = .int .i64 k ∧ v = .string (repS 120 k)) (fun _ i => n + 1 - (intOf i).toNat)
  case atStart => exact ⟨0, Nat.zero_le _, rfl, rfl⟩
  case round =>
    obtain ⟨k, hk, rfl, rfl⟩ := hrel
    have z1 := repS_size 120 k
    by_cases hlt : k < n + 1
    · have hsn := Lib.hid (repS_snoc 120 k)
      have z2 : (repS 120 k).size + (⟨#[120]⟩ : ByteArray).size ≤ 9223372036854775807 := by rw [z1]; show k + 1 ≤ _; omega
      clear z1
      go_wp2
      go_round
      case rel => exact ⟨k + 1, by omega, by go_num, congrArg Value.string hsn.out⟩
      case measure => simp [intOf]; omega
    · obtain rfl : k = n + 1 := by omega
      clear hlt hk
      go_wp2
      go_loop [7, 8] (fun v i => ∃ k : Nat, k ≤ m ∧ i = .int .i64 k ∧ v = .string (repS 10 k)) (fun _ i => m - (intOf i).toNat)
      case atStart => exact ⟨0, Nat.zero_le _, rfl, rfl⟩
      case round =>
        obtain ⟨k, hk, rfl, rfl⟩ := hrel
        have y1 := repS_size 10 k
        by_cases hlt : k < m
        · have hsn := Lib.hid (repS_snoc 10 k)
          have z2 : (repS 10 k).size + (⟨#[10]⟩ : ByteArray).size ≤ 9223372036854775807 := by rw [y1]; show k + 1 ≤ _; omega
          clear y1
          go_wp2
          go_round
          case rel => exact ⟨k + 1, by omega, by go_num, congrArg Value.string hsn.out⟩
          case measure => simp [intOf]; omega
        · obtain rfl : k = m := by omega
          have hR : Tk.scan (repS 10 k ++ repS 120 (n + 1)).data.toList = if 12 < n + 1 then ([], 2, k + 1) else ([⟨1, List.replicate (n + 1) 120, k + 1⟩], 0, 0) := by
            rw [ByteArray.data_append, Array.toList_append]
            exact scan_xs k n (by omega) (by omega)
          have hsz : (repS 10 k ++ repS 120 (n + 1)).size ≤ maxLen := by
            rw [ByteArray.size_append, z1, y1]; unfold maxLen; omega
          have hsz2 : (repS 120 (n + 1)).size ≤ maxLen := by rw [z1]; unfold maxLen; omega
          have hnm : Tk.isNm (repS 120 (n + 1)).data.toList = decide (n + 1 ≤ 12) := isNm_xs n
          by_cases h12 : 12 < n + 1
          · rw [if_pos h12] at hR
            rw [decide_eq_false (by omega)] at hnm
            go_wp2_with fail
            refine (Scan_at _ _ w hR hkw hsz).mono ?_
            rintro e w1 ⟨v, rfl, hown, hb1⟩
            obtain ⟨ao, cap, hv, _⟩ := own_any hown
            rw [hv]
            clear hR hsz hown hv
            go_wp2_with (go_at_call 15; refine (IsName_any _ _ (hkw.same hb1) hsz2).mono ?_; rintro e w2 ⟨rfl, hb2⟩)
            go_ret
            exact ⟨rfl, hb1.trans (hb2.mono hb1.size)⟩
          · rw [if_neg h12] at hR
            rw [decide_eq_true (by omega)] at hnm
            go_wp2_with fail
            refine (Scan_at _ _ w hR hkw hsz).mono ?_
            rintro e w1 ⟨v, rfl, hown, hb1⟩
            obtain ⟨g, cap, hv, _, _, hcell⟩ := own_form hown (by show 0 < 1; omega)
            rw [hv]
            have c0 : w1.cell? ⟨g, 0, none⟩ = some (.int .i64 1) := hcell 0 (by show 0 < 1 * 3; omega)
            have c1 : w1.cell? ⟨g, 1, none⟩ = some (.string (repS 120 (n + 1))) := hcell 1 (by show 1 < 1 * 3; omega)
            have c2 : w1.cell? ⟨g, 2, none⟩ = some (.int .i64 ((k : Int) + 1)) := by
              rw [hcell 2 (by show 2 < 1 * 3; omega)]; rfl
            clear hR hsz hown hv hcell
            go_wp2_with (go_at_call 15; refine (IsName_any _ _ (hkw.same hb1) hsz2).mono ?_; rintro e w2 ⟨rfl, hb2⟩)
            go_ret
            exact ⟨rfl, hb1.trans (hb2.mono hb1.size)⟩
end Go.Proofs.YtmnacfdbjlfooaaDoor
