/-
  Contracts of the reference's Keywords, Signs, IsKeyword, IsName, Number, signAt.
-/
import Derived.Test.YtommnhglgedflaaGreatDoorGNA
namespace Go.Proofs.YtommnhglgedflaaGreatDoor
open Go.RowKit

def kwCellsL : List Value := Tk.kws.map fun l => Value.string ⟨l.toArray⟩
theorem kwCellsL_at (k : Nat) (h : k < 22) : kwCellsL[k]? = some (.string (kwAt k)) := by
  have hl : Tk.kws.length = 22 := rfl
  unfold kwCellsL kwAt
  rw [List.getElem?_map, List.getElem?_eq_getElem (by omega), kwL_eq k (by omega)]
  rfl

set_option maxRecDepth 100000 in
theorem Keywords_any (w : World) :
    Calls Tryz.prog 110 #[] w fun e w' => e = .returned (.slice (some ⟨w.heap.size, 0, none⟩) 22 22) ∧ w.alloc (.cells kwCellsL.toArray 9) = w' := by
  go_enter Tryz.func110, Tryz.ntmps110
  go_wp2
  go_ret
  exact ⟨rfl, rfl⟩
set_option maxHeartbeats 400000 in
theorem RefIsKeyword_any (s : ByteArray) (w : World) :
    Calls Tryz.prog 71 #[.string s] w fun e w' => e = .returned (.bool (Tk.isKw s.data.toList)) ∧ Below w.heap.size w w' := by
  rw [← Lib.toList_data]
  go_enter Tryz.func71, Tryz.ntmps71
  go_wp2_with fail
  refine (Keywords_any _).mono ?_
  rintro e w1 ⟨rfl, hw⟩
  have hcell : ∀ k, k < 22 → w1.cell? ⟨w.heap.size, k, none⟩ = some (.string (kwAt k)) := fun k hk => by
    rw [← hw, laid_cell, kwCellsL_at k hk]
  have HB : Hid (Below w.heap.size w w1) := Lib.hid (by rw [← hw]; exact (Below.refl _ _).alloc (Nat.le_refl _) _)
  have HC := Lib.hid hcell
  clear hw hcell
  go_wp2
  go_loop [4] (fun i => ∃ k : Nat, k ≤ 22 ∧ i = .int .i64 k ∧ NoKw s.toList k) (fun i => 22 - (intOf i).toNat)
  case atStart => exact ⟨0, Nat.zero_le _, rfl, fun j hj => absurd hj (by omega)⟩
  case round =>
    obtain ⟨k, hk, rfl, hno⟩ := hrel
    by_cases hlt : k < 22
    · have hix := HC.out k hlt
      have hat := kwAt_toList k
      by_cases he : (s.toList == kwL k) = true
      · have he2 : (kwL k == s.toList) = true := by rw [beq_iff_eq] at he ⊢; exact he.symm
        have HY := Lib.hid (kw_yes k hlt _ he)
        clear he
        go_wp2
        go_ret
        exact ⟨ret_bool HY.out.symm, HB.out⟩
      · have he' : (s.toList == kwL k) = false := by simpa using he
        have he2 : (kwL k == s.toList) = false := by rw [beq_eq_false_iff_ne] at he' ⊢; exact he'.symm
        have hst := hno.step he'
        clear he he'
        go_wp2
        go_round
        case rel => exact ⟨k + 1, by omega, by go_num, hst⟩
        case measure => simp [intOf]; omega
    · obtain rfl : k = 22 := by omega
      go_wp2
      go_ret
      exact ⟨ret_bool (kw_no _ hno).symm, HB.out⟩

theorem inner_b (c : UInt8) (b : Bool) (h : Tk.isI c = b) : Tk.innI (c.toNat : Int) = b := h

def Alli (s : ByteArray) (k : Nat) : Prop := ∀ j (h : j < s.size), j < k → Tk.isI s[j] = true
theorem alli_yes (s : ByteArray) (h : Alli s s.size) : s.data.toList.all Tk.isI = true := by
  rw [List.all_eq_true]
  intro c hc
  obtain ⟨j, hj, rfl⟩ := List.getElem_of_mem hc
  have hj' : j < s.size := by rw [Lib.size_eq]; exact hj
  exact h j hj' hj'
theorem alli_no (s : ByteArray) (k : Nat) (hk : k < s.size) (h : Tk.isI s[k] = false) : s.data.toList.all Tk.isI = false := by
  rw [List.all_eq_false]
  exact ⟨s[k], List.getElem_mem (by rw [← Lib.size_eq]; exact hk), by rw [h]; decide⟩
theorem Alli.step {s : ByteArray} {k : Nat} (h : Alli s k) (hk : k < s.size) (hp : Tk.isI s[k] = true) : Alli s (k + 1) := by
  intro j hj hjk
  by_cases e : j = k
  · subst e; exact hp
  · exact h j hj (by omega)

set_option maxHeartbeats 2000000 in
theorem RefIsName_any (s : ByteArray) (w : World) (hm : s.size ≤ maxLen) :
    Calls Tryz.prog 50 #[.string s] w fun e w' => e = .returned (.bool (Tk.isNm s.data.toList)) ∧ Below w.heap.size w w' := by
  have HN := Lib.hid (isNm_eq s.data.toList)
  rw [← Lib.size_eq] at HN
  unfold maxLen at hm
  by_cases h1 : s.size < 1
  · have HR : Hid (Tk.isNm s.data.toList = false) := by
      apply Lib.hid; rw [HN.out, show decide (1 ≤ s.size) = false from decide_eq_false (by omega)]; rfl
    clear HN
    go_enter Tryz.func50, Tryz.ntmps50
    go_wp2
    go_ret
    exact ⟨ret_bool HR.out.symm, Below.refl _ _⟩
  · by_cases h2 : 12 < s.size
    · have HR : Hid (Tk.isNm s.data.toList = false) := by
        apply Lib.hid; rw [HN.out, show decide (s.size ≤ 12) = false from decide_eq_false (by omega)]; simp
      clear HN
      go_enter Tryz.func50, Tryz.ntmps50
      go_wp2
      go_ret
      exact ⟨ret_bool HR.out.symm, Below.refl _ _⟩
    · have h0 : 0 < s.size := by omega
      have hhd : s.data.toList.head?.any Tk.isL = Tk.isL s[0] := by rw [Tk.data_cons s h0]; rfl
      cases hL : Tk.isL s[0]
      · have HR : Hid (Tk.isNm s.data.toList = false) := by
          apply Lib.hid; rw [HN.out]; unfold nmB; rw [hhd, hL]; simp
        have hL' : Tk.lttI (s[0].toNat : Int) = false := hL
        clear HN hhd
        go_enter Tryz.func50, Tryz.ntmps50
        go_wp2_with (go_at_call 69; refine (Letter_any _ _).mono ?_; rintro e w' ⟨rfl, rfl⟩)
        go_ret
        exact ⟨ret_bool HR.out.symm, Below.refl _ _⟩
      · have hL' : Tk.lttI (s[0].toNat : Int) = true := hL
        cases hK : Tk.isKw s.data.toList
        · have HR : Hid (Tk.isNm s.data.toList = s.data.toList.all Tk.isI) := by
            apply Lib.hid; rw [HN.out]; unfold nmB; rw [hhd, hL, hK, show decide (s.size ≤ 12) = true from by simp; omega, show decide (1 ≤ s.size) = true from by simp; omega]; rfl
          clear HN hhd hL
          go_enter Tryz.func50, Tryz.ntmps50
          go_wp2_with (first | (go_at_call 69; refine (Letter_any _ _).mono ?_; rintro e w' ⟨rfl, rfl⟩) | (go_at_call 71; refine (RefIsKeyword_any _ _).mono ?_; rintro e w1 ⟨rfl, hb1⟩))
          have HB := Lib.hid hb1
          clear hb1
          go_loop [3] (fun i => ∃ k : Nat, k ≤ s.size ∧ i = .int .i64 k ∧ Alli s k) (fun i => s.size - (intOf i).toNat)
          case atStart => exact ⟨0, Nat.zero_le _, rfl, fun j hj h => absurd h (by omega)⟩
          case round =>
            obtain ⟨k, hk, rfl, hok⟩ := hrel
            by_cases hlt : k < s.size
            · cases hi : Tk.isI s[k]
              · have hi' : Tk.innI (s[k].toNat : Int) = false := hi
                have HF := Lib.hid (alli_no s k hlt hi)
                clear hi
                go_wp2_with (go_at_call 70; refine (inner_any _ _).mono ?_; rintro e w' ⟨rfl, rfl⟩)
                go_ret
                exact ⟨ret_bool (HR.out.trans HF.out).symm, HB.out⟩
              · have hi' : Tk.innI (s[k].toNat : Int) = true := hi
                have hst := hok.step hlt hi
                clear hi
                go_wp2_with (go_at_call 70; refine (inner_any _ _).mono ?_; rintro e w' ⟨rfl, rfl⟩)
                go_round
                case rel => exact ⟨k + 1, by omega, by go_num, hst⟩
                case measure => simp [intOf]; omega
            · obtain rfl : k = s.size := by omega
              have HT := Lib.hid (alli_yes s hok)
              go_wp2
              go_ret
              exact ⟨ret_bool (HR.out.trans HT.out).symm, HB.out⟩
        · have HR : Hid (Tk.isNm s.data.toList = false) := by
            apply Lib.hid; rw [HN.out, hK]; simp
          clear HN hhd hL
          go_enter Tryz.func50, Tryz.ntmps50
          go_wp2_with (first | (go_at_call 69; refine (Letter_any _ _).mono ?_; rintro e w' ⟨rfl, rfl⟩) | (go_at_call 71; refine (RefIsKeyword_any _ _).mono ?_; rintro e w1 ⟨rfl, hb1⟩))
          go_ret
          exact ⟨ret_bool HR.out.symm, hb1⟩

end Go.Proofs.YtommnhglgedflaaGreatDoor
