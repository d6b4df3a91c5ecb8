/-
  Contract of the reference's signAt.
-/
import Derived.Test.YtmnacfdbjlfooaaDoorRefNum
namespace Go.Proofs.YtmnacfdbjlfooaaDoor
open Go.RowKit

def sgL (k : Nat) : List UInt8 := Tk.sgs.getD k []
theorem sgL_eq (k : Nat) (h : k < Tk.sgs.length) : sgL k = Tk.sgs[k] := by unfold sgL; simp [h]
theorem sgAt_toList (k : Nat) : (sgAt k).toList = sgL k := by unfold sgAt; rw [Lib.toList_data]; rfl
theorem sgAt_size (k : Nat) : (sgAt k).size = (sgL k).length := by unfold sgAt; exact Lib.size_mk _
theorem sg_bound (k : Nat) (h : k < 23) : 1 ≤ (sgAt k).size ∧ (sgAt k).size ≤ 2 := by
  rw [sgAt_size, sgL_eq k h]
  have : ∀ g ∈ Tk.sgs, 1 ≤ g.length ∧ g.length ≤ 2 := by decide
  exact this _ (List.getElem_mem _)
/-- No sign ahead of the k-th begins the text. -/
def NoSg (l : List UInt8) (k : Nat) : Prop := ∀ j < k, (sgL j).isPrefixOf l = false
theorem NoSg.step {l : List UInt8} {k : Nat} (h : NoSg l k) (hk : (sgL k).isPrefixOf l = false) : NoSg l (k + 1) := by
  intro j hj
  by_cases e : j = k
  · subst e; exact hk
  · exact h j (by omega)
theorem find_at (l : List UInt8) : ∀ (gs : List (List UInt8)) (k : Nat) (hk : k < gs.length), (∀ j (h : j < gs.length), j < k → gs[j].isPrefixOf l = false) → gs[k].isPrefixOf l = true → (gs.find? fun g => g.isPrefixOf l) = some gs[k]
  | [], k, hk, _, _ => by simp at hk
  | g :: gs, 0, _, _, h => by
    simp only [List.getElem_cons_zero] at h ⊢
    rw [List.find?_cons, h]
  | g :: gs, k + 1, hk, hno, h => by
    have h0 := hno 0 (by simp) (by omega)
    simp only [List.getElem_cons_zero] at h0
    rw [List.find?_cons, h0]
    simp only [List.getElem_cons_succ] at h ⊢
    exact find_at l gs k (by simpa using hk) (fun j hj hjk => by
      have := hno (j + 1) (by simpa using hj) (by omega)
      simpa using this) h
theorem sgOf_at (l : List UInt8) (k : Nat) (hk : k < 23) (hno : NoSg l k) (h : (sgL k).isPrefixOf l = true) : Tk.sgOf l = sgL k := by
  unfold Tk.sgOf
  rw [sgL_eq k hk] at h ⊢
  rw [find_at l Tk.sgs k hk (fun j hj hjk => by have := hno j hjk; rw [sgL_eq j hj] at this; exact this) h]
  rfl
theorem sgOf_none (l : List UInt8) (hno : NoSg l 23) : Tk.sgOf l = [] := by
  unfold Tk.sgOf
  have : (Tk.sgs.find? fun g => g.isPrefixOf l) = none := by
    rw [List.find?_eq_none]
    intro g hg
    obtain ⟨j, hj, rfl⟩ := List.getElem_of_mem hg
    have := hno j hj
    rw [sgL_eq j hj] at this
    rw [this]
    decide
  rw [this]
  rfl
/-- The tests of a sign, as the walk asks them. -/
theorem sg_parts (s : ByteArray) (i k : Nat) (hi : i ≤ s.size) : ((sgL k).isPrefixOf (s.data.toList.drop i) = true ∧ i + (sgAt k).size ≤ s.size ∧ ((s.extract i (i + (sgAt k).size)).toList == sgL k) = true) ∨
    ((sgL k).isPrefixOf (s.data.toList.drop i) = false ∧ i + (sgAt k).size ≤ s.size ∧ ((s.extract i (i + (sgAt k).size)).toList == sgL k) = false) ∨
    ((sgL k).isPrefixOf (s.data.toList.drop i) = false ∧ ¬ i + (sgAt k).size ≤ s.size) := by
  have e : (s.extract i (i + (sgAt k).size)).toList = (s.data.toList.drop i).take (sgL k).length := by
    rw [Lib.extract_toList, sgAt_size]
    congr 1
    omega
  rw [e, sgAt_size]
  cases hp : (sgL k).isPrefixOf (s.data.toList.drop i)
  · by_cases hle : i + (sgL k).length ≤ s.size
    · right; left
      refine ⟨rfl, hle, ?_⟩
      rw [beq_eq_false_iff_ne]
      intro h
      have : (sgL k).isPrefixOf (s.data.toList.drop i) = true := List.isPrefixOf_iff_prefix.2 (h ▸ List.take_prefix _ _)
      rw [hp] at this
      cases this
    · right; right; exact ⟨rfl, hle⟩
  · left
    obtain ⟨r, hr⟩ := List.isPrefixOf_iff_prefix.1 hp
    refine ⟨rfl, ?_, ?_⟩
    · have := congrArg List.length hr
      rw [List.length_append, List.length_drop, ← Lib.size_eq] at this
      omega
    · rw [← hr, beq_iff_eq]; simp

set_option maxHeartbeats 1000000 in
theorem signAt_any (s : ByteArray) (i : Nat) (w : World) (hs : s.size ≤ 5000) (hi : i ≤ s.size) :
    Calls Tryd.prog 26 #[.string s, .int .i64 i] w fun e w' => e = .returned (.string ⟨(Tk.sgOf (s.data.toList.drop i)).toArray⟩) ∧ Below w.heap.size w w' := by
  go_enter Tryd.func26, Tryd.ntmps26
  go_wp2_with fail
  refine (Signs_any _).mono ?_
  rintro e w1 ⟨rfl, hw⟩
  have hcell : ∀ k, k < 23 → w1.cell? ⟨w.heap.size, k, none⟩ = some (.string (sgAt k)) := fun k hk => by
    rw [← hw, laid_cell, sgCellsL_at k hk]
  have HB : Hid (∀ m, Below w.heap.size w (w1.drewN m)) := Lib.hid (fun m => below_drewN (by rw [← hw]; exact (Below.refl _ _).alloc (Nat.le_refl _) _) m)
  have HC := Lib.hid hcell
  clear hw hcell
  go_wp2
  go_loopw [6] (fun v wr => ∃ k m : Nat, k ≤ 23 ∧ v = .int .i64 k ∧ NoSg (s.data.toList.drop i) k ∧ wr = w1.drewN m) (fun v _ => 23 - (intOf v).toNat)
  case atStart => exact ⟨0, 0, Nat.zero_le _, rfl, fun j hj => absurd hj (by omega), rfl⟩
  case round =>
    obtain ⟨k, m, hk, rfl, hno, rfl⟩ := hrel
    by_cases hlt : k < 23
    · have hix := HC.out k hlt
      have hat := sgAt_toList k
      obtain ⟨z1, z2⟩ := sg_bound k hlt
      rcases sg_parts s i k hi with ⟨hp, hle, he⟩ | ⟨hp, hle, he⟩ | ⟨hp, hle⟩
      · have HS : Hid (sgAt k = ⟨(Tk.sgOf (s.data.toList.drop i)).toArray⟩) := Lib.hid (by rw [sgOf_at _ k hlt hno hp]; rfl)
        have q1 : decide (((sgAt k).size : Int) ≤ (s.size : Int) - (i : Int)) = true := by simp; omega
        have q2 : IntKind.i64.wrap ((s.size : Int) - (i : Int)) = (s.size : Int) - (i : Int) := IntWalk.i64_in _ (by omega)
        have q3 : IntKind.i64.wrap ((i : Int) + ((sgAt k).size : Int)) = (i : Int) + ((sgAt k).size : Int) := IntWalk.i64_in _ (by omega)
        have q4 : ((i : Int) + ((sgAt k).size : Int)).toNat = i + (sgAt k).size := by omega
        have q5 : 0 ≤ (i : Int) + ((sgAt k).size : Int) := by omega
        have q6 : (i : Int) ≤ (i : Int) + ((sgAt k).size : Int) := by omega
        have q7 : (i : Int) + ((sgAt k).size : Int) ≤ (s.size : Int) := by omega
        clear hp hno
        go_wp2
        go_quiet (fail)
        clear q1 q2 q3 q4 q5 q6 q7
        go_wp2
        go_ret
        refine ⟨congrArg (fun x => Ending.returned (.string x)) HS.out, ?_⟩
        first | exact HB.out _ | (rw [World.drewN_drewN]; exact HB.out _)
      · have hst := hno.step hp
        have q1 : decide (((sgAt k).size : Int) ≤ (s.size : Int) - (i : Int)) = true := by simp; omega
        have q2 : IntKind.i64.wrap ((s.size : Int) - (i : Int)) = (s.size : Int) - (i : Int) := IntWalk.i64_in _ (by omega)
        have q3 : IntKind.i64.wrap ((i : Int) + ((sgAt k).size : Int)) = (i : Int) + ((sgAt k).size : Int) := IntWalk.i64_in _ (by omega)
        have q4 : ((i : Int) + ((sgAt k).size : Int)).toNat = i + (sgAt k).size := by omega
        have q5 : 0 ≤ (i : Int) + ((sgAt k).size : Int) := by omega
        have q6 : (i : Int) ≤ (i : Int) + ((sgAt k).size : Int) := by omega
        have q7 : (i : Int) + ((sgAt k).size : Int) ≤ (s.size : Int) := by omega
        clear hp hno
        go_wp2
        go_quiet (fail)
        clear q1 q2 q3 q4 q5 q6 q7
        go_wp2
        go_roundw
        case rel => exact ⟨k + 1, _, by omega, by go_num, hst, rfl⟩
        case measure => simp [intOf]; omega
      · have hst := hno.step hp
        have q1 : decide (((sgAt k).size : Int) ≤ (s.size : Int) - (i : Int)) = false := by simp; omega
        have q2 : IntKind.i64.wrap ((s.size : Int) - (i : Int)) = (s.size : Int) - (i : Int) := IntWalk.i64_in _ (by omega)
        clear hp hno
        go_wp2
        go_quiet (fail)
        clear q1 q2
        go_wp2
        go_roundw
        case rel => exact ⟨k + 1, _, by omega, by go_num, hst, rfl⟩
        case measure => simp [intOf]; omega
    · obtain rfl : k = 23 := by omega
      have HT : Hid (Tk.sgOf (s.data.toList.drop i) = []) := Lib.hid (sgOf_none _ hno)
      clear hno
      go_wp2
      go_ret
      exact ⟨by rw [HT.out]; rfl, HB.out m⟩
end Go.Proofs.YtmnacfdbjlfooaaDoor
