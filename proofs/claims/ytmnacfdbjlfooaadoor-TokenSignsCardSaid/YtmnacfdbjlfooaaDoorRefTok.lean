/-
  Contracts of the reference's Keywords, Signs, IsKeyword, IsName, Number, signAt.
-/
import Derived.Test.YtmnacfdbjlfooaaDoorTokAwake
namespace Go.Proofs.YtmnacfdbjlfooaaDoor
open Go.RowKit

def sgAt (k : Nat) : ByteArray := ⟨(Tk.sgs.getD k []).toArray⟩
def kwCellsL : List Value := Tk.kws.map fun l => Value.string ⟨l.toArray⟩
def sgCellsL : List Value := Tk.sgs.map fun l => Value.string ⟨l.toArray⟩
theorem kwCellsL_at (k : Nat) (h : k < 22) : kwCellsL[k]? = some (.string (kwAt k)) := by
  have hl : Tk.kws.length = 22 := rfl
  unfold kwCellsL kwAt
  rw [List.getElem?_map, List.getElem?_eq_getElem (by omega), kwL_eq k (by omega)]
  rfl
theorem sgCellsL_at (k : Nat) (h : k < 23) : sgCellsL[k]? = some (.string (sgAt k)) := by
  have hl : Tk.sgs.length = 23 := rfl
  unfold sgCellsL sgAt
  rw [List.getElem?_map, List.getElem?_eq_getElem (by omega)]
  simp [h, hl]

set_option maxRecDepth 100000 in
theorem Keywords_any (w : World) :
    Calls Tryd.prog 27 #[] w fun e w' => e = .returned (.slice (some ⟨w.heap.size, 0, none⟩) 22 22) ∧ w.alloc (.cells kwCellsL.toArray 9) = w' := by
  go_enter Tryd.func27, Tryd.ntmps27
  go_wp2
  go_ret
  exact ⟨rfl, rfl⟩
set_option maxRecDepth 100000 in
theorem Signs_any (w : World) :
    Calls Tryd.prog 35 #[] w fun e w' => e = .returned (.slice (some ⟨w.heap.size, 0, none⟩) 23 23) ∧ w.alloc (.cells sgCellsL.toArray 9) = w' := by
  go_enter Tryd.func35, Tryd.ntmps35
  go_wp2
  go_ret
  exact ⟨rfl, rfl⟩

theorem laid_cell (w : World) (cs : List Value) (t : TypeId) (k : Nat) : (w.alloc (.cells cs.toArray t)).cell? ⟨w.heap.size, k, none⟩ = cs[k]? := by
  rw [cell_of_row _ w.heap.size k cs.toArray t (0, 0) (heap_alloc_new w _)]
  simp

set_option maxHeartbeats 400000 in
theorem RefIsKeyword_any (s : ByteArray) (w : World) :
    Calls Tryd.prog 18 #[.string s] w fun e w' => e = .returned (.bool (Tk.isKw s.data.toList)) ∧ Below w.heap.size w w' := by
  rw [← Lib.toList_data]
  go_enter Tryd.func18, Tryd.ntmps18
  go_wp2_with fail
  refine (Keywords_any _).mono ?_
  rintro e w1 ⟨rfl, hw⟩
  have hcell : ∀ k, k < 22 → w1.cell? ⟨w.heap.size, k, none⟩ = some (.string (kwAt k)) := fun k hk => by
    rw [← hw, laid_cell, kwCellsL_at k hk]
  have HB : Hid (Below w.heap.size w w1) := Lib.hid (by rw [← hw]; exact (Below.refl _ _).alloc (Nat.le_refl _) _)
  have HC := Lib.hid hcell
  clear hw hcell
  go_wp2
  go_loop [4] (fun i => ∃ k : Nat, k ≤ 22 ∧ i = .int .i64 k ∧ NoKw s.toList k) (fun i => 22 - (intOf i).toNat)
  case atStart => exact ⟨0, Nat.zero_le _, rfl, fun j hj => absurd hj (by omega)⟩
  case round =>
    obtain ⟨k, hk, rfl, hno⟩ := hrel
    by_cases hlt : k < 22
    · have hix := HC.out k hlt
      have hat := kwAt_toList k
      by_cases he : (s.toList == kwL k) = true
      · have he2 : (kwL k == s.toList) = true := by rw [beq_iff_eq] at he ⊢; exact he.symm
        have HY := Lib.hid (kw_yes k hlt _ he)
        clear he
        go_wp2
        go_ret
        exact ⟨ret_bool HY.out.symm, HB.out⟩
      · have he' : (s.toList == kwL k) = false := by simpa using he
        have he2 : (kwL k == s.toList) = false := by rw [beq_eq_false_iff_ne] at he' ⊢; exact he'.symm
        have hst := hno.step he'
        clear he he'
        go_wp2
        go_round
        case rel => exact ⟨k + 1, by omega, by go_num, hst⟩
        case measure => simp [intOf]; omega
    · obtain rfl : k = 22 := by omega
      go_wp2
      go_ret
      exact ⟨ret_bool (kw_no _ hno).symm, HB.out⟩
end Go.Proofs.YtmnacfdbjlfooaaDoor
