/-
  The table of keywords in memory, and token.IsKeyword's contract.
-/
import Derived.Test.YtmnacfdbjlfooaaDoorTokLeaf
namespace Go.Proofs.YtmnacfdbjlfooaaDoor
open Go.RowKit

def kwL (k : Nat) : List UInt8 := Tk.kws.getD k []
def kwAt (k : Nat) : ByteArray := ⟨(kwL k).toArray⟩
theorem kwL_eq (k : Nat) (h : k < Tk.kws.length) : kwL k = Tk.kws[k] := by unfold kwL; simp [h]
theorem ret_bool {a b : Bool} (h : a = b) : Ending.returned (.bool a) = .returned (.bool b) := by rw [h]
theorem ret_int {k : IntKind} {a b : Int} (h : a = b) : Ending.returned (.int k a) = .returned (.int k b) := by rw [h]
def kwCells : Array Value := (Tk.kws.map fun l => Value.string ⟨l.toArray⟩).toArray
/-- The variable holds the keywords. -/
def KwLaid (w : World) : Prop := ∃ t fr, w.heap[0]? = some (.cells kwCells t fr)

theorem KwLaid.below {B : Nat} {w w' : World} (h : KwLaid w) (hb : Below B w w') (hB : 0 < B) : KwLaid w' := by
  obtain ⟨t, fr, h⟩ := h
  exact ⟨t, fr, (hb.block _ hB).trans h⟩
theorem KwLaid.lt {w : World} (h : KwLaid w) : 0 < w.heap.size := by
  obtain ⟨t, fr, h⟩ := h
  exact (Array.getElem?_eq_some_iff.1 h).1
theorem KwLaid.same {w w' : World} (h : KwLaid w) (hb : Below w.heap.size w w') : KwLaid w' := h.below hb h.lt
theorem KwLaid.alloc {w : World} (h : KwLaid w) (o : Obj) : KwLaid (w.alloc o) := h.same ((Below.refl _ _).alloc (Nat.le_refl _) o)

theorem kw_index (k : Nat) (hk : k < 22) (w : World) : (Instr.index 43 (.agg kwCells) (.int .i64 (k : Int))).run Tryd.prog w = .ok (.string (kwAt k)) w := by
  rcases (show k = 0 ∨ k = 1 ∨ k = 2 ∨ k = 3 ∨ k = 4 ∨ k = 5 ∨ k = 6 ∨ k = 7 ∨ k = 8 ∨ k = 9 ∨ k = 10 ∨ k = 11 ∨ k = 12 ∨ k = 13 ∨ k = 14 ∨ k = 15 ∨ k = 16 ∨ k = 17 ∨ k = 18 ∨ k = 19 ∨ k = 20 ∨ k = 21 by omega) with rfl | rfl | rfl | rfl | rfl | rfl | rfl | rfl | rfl | rfl | rfl | rfl | rfl | rfl | rfl | rfl | rfl | rfl | rfl | rfl | rfl | rfl <;> kernel_rfl

theorem kwAt_toList (k : Nat) : (kwAt k).toList = kwL k := by
  unfold kwAt; rw [Lib.toList_data]
theorem kw_yes (k : Nat) (hk : k < 22) (l : List UInt8) (h : (l == kwL k) = true) : Tk.isKw l = true := by
  have hl : Tk.kws.length = 22 := rfl
  unfold Tk.isKw
  rw [List.contains_iff_mem, show l = kwL k from by simpa using h, kwL_eq _ (by omega)]
  exact List.getElem_mem _
theorem kw_no (l : List UInt8) (h : ∀ k < 22, (l == kwL k) = false) : Tk.isKw l = false := by
  have hl : Tk.kws.length = 22 := rfl
  unfold Tk.isKw
  rw [Bool.eq_false_iff]
  intro hc
  rw [List.contains_iff_mem] at hc
  obtain ⟨k, hk, e⟩ := List.getElem_of_mem hc
  have := h k (by omega)
  rw [kwL_eq _ hk, e] at this
  simp at this

def NoKw (l : List UInt8) (k : Nat) : Prop := ∀ j < k, (l == kwL j) = false
theorem NoKw.step {l : List UInt8} {k : Nat} (h : NoKw l k) (hk : (l == kwL k) = false) : NoKw l (k + 1) := by
  intro j hj
  by_cases e : j = k
  · subst e; exact hk
  · exact h j (by omega)

set_option maxHeartbeats 400000 in
theorem IsKeyword_any (s : ByteArray) (w : World) (h : KwLaid w) :
    Calls Tryd.prog 17 #[.string s] w fun e w' => e = .returned (.bool (Tk.isKw s.data.toList)) ∧ w = w' := by
  obtain ⟨t, fr, hg⟩ := h
  rw [← Lib.toList_data]
  go_enter Tryd.func17, Tryd.ntmps17
  go_wp2_with (refine wpList_load_row rfl 43 _ rfl 0 rfl t _ fr _ hg Tryd.underlying43 rfl (by kernel_rfl) ?_)
  clear hg
  go_loop [6] (fun i => ∃ k : Nat, k ≤ 22 ∧ i = .int .i64 k ∧ NoKw s.toList k) (fun i => 22 - (intOf i).toNat)
  case atStart => exact ⟨0, Nat.zero_le _, rfl, fun j hj => absurd hj (by omega)⟩
  case round =>
    obtain ⟨k, hk, rfl, hno⟩ := hrel
    by_cases hlt : k < 22
    · have hix := kw_index k hlt
      have hat := kwAt_toList k
      by_cases he : (s.toList == kwL k) = true
      · go_wp2
        go_ret
        exact ⟨ret_bool (kw_yes k hlt _ he).symm, rfl⟩
      · have he' : (s.toList == kwL k) = false := by simpa using he
        clear he
        go_wp2
        go_round
        case rel => exact ⟨k + 1, by omega, by go_num, hno.step he'⟩
        case measure => simp [intOf]; omega
    · obtain rfl : k = 22 := by omega
      go_wp2
      go_ret
      exact ⟨ret_bool (kw_no _ hno).symm, rfl⟩
end Go.Proofs.YtmnacfdbjlfooaaDoor
