/-
  The texts of the law ParsePrecedence, and what is parsed from them. No program in sight.
-/
import Derived.Test.YtommnhglgedflaaDoorGZA
namespace Go.Proofs.YtommnhglgedflaaDoor.Pz
open Go.RowKit Md Tk
def eqL : ExL → ExL → Bool
  | .nil, .nil => true
  | .cons o n m k r, .cons o' n' m' k' r' => ((o == o' && n == n') && m.data.toList == m'.data.toList) && (eqL k k' && eqL r r')
  | _, _ => false
theorem bytes_eq {a b : ByteArray} (h : a.data.toList = b.data.toList) : a = b := by
  cases a; cases b; simp only [ByteArray.mk.injEq]; exact Array.toList_inj.1 h
theorem eqL_eq : ∀ a b : ExL, eqL a b = true → a = b
  | .nil, .nil, _ => rfl
  | .nil, .cons .., h => by simp [eqL] at h
  | .cons .., .nil, h => by simp [eqL] at h
  | .cons o n m k r, .cons o' n' m' k' r', h => by
    simp only [eqL, Bool.and_eq_true, beq_iff_eq] at h
    obtain ⟨⟨⟨rfl, rfl⟩, hm⟩, hk, hr⟩ := h
    rw [bytes_eq hm, eqL_eq k k' hk, eqL_eq r r' hr]
def eqE (a b : E) : Bool := ((a.op == b.op && a.n == b.n) && a.nm.data.toList == b.nm.data.toList) && eqL a.kids b.kids
theorem eqE_eq {a b : E} (h : eqE a b = true) : a = b := by
  cases a; cases b
  simp only [eqE, Bool.and_eq_true, beq_iff_eq] at h
  obtain ⟨⟨⟨rfl, rfl⟩, hm⟩, hk⟩ := h
  rw [bytes_eq hm, eqL_eq _ _ hk]
/-- The sign, the operator and the level of a number. -/
def sgT : Nat → List UInt8
  | 0 => [124, 124]
  | 1 => [38, 38]
  | 2 => [43]
  | 3 => [45]
  | 4 => [42]
  | _ => [37]
def sgO : Nat → Int
  | 0 => 18
  | 1 => 17
  | 2 => 6
  | 3 => 7
  | 4 => 8
  | _ => 10
def sgL : Nat → Int
  | 0 => 1
  | 1 => 2
  | 2 => 4
  | 3 => 4
  | 4 => 5
  | _ => 5
def nmE (l : List UInt8) : E := ⟨2, 0, tx l, .nil⟩
def prT (s t : List UInt8) : List UInt8 := [97, 32] ++ s ++ [32, 98, 32] ++ t ++ [32, 99]
def prW (op oq x y : Int) : E := if decide (x < y) then mk2 op (nmE [97]) (mk2 oq (nmE [98]) (nmE [99])) else mk2 oq (mk2 op (nmE [97]) (nmE [98])) (nmE [99])
def precB : Bool := (List.range 6).all fun k => (List.range 6).all fun j =>
  (parseE (prT (sgT k) (sgT j))).2.1 == 0 && ((parseE (prT (sgT k) (sgT j))).2.2 == 0 && eqE (parseE (prT (sgT k) (sgT j))).1 (prW (sgO k) (sgO j) (sgL k) (sgL j)))
theorem prec_b : precB = true := by decide +kernel
theorem prec_all {k j : Nat} (hk : k < 6) (hj : j < 6) : parseE (prT (sgT k) (sgT j)) = (prW (sgO k) (sgO j) (sgL k) (sgL j), 0, 0) := by
  have h := prec_b
  unfold precB at h
  rw [List.all_eq_true] at h
  have h := h k (List.mem_range.2 hk)
  rw [List.all_eq_true] at h
  have h := h j (List.mem_range.2 hj)
  generalize parseE (prT (sgT k) (sgT j)) = r at h
  obtain ⟨p, e, l⟩ := r
  simp only [Bool.and_eq_true, beq_iff_eq] at h
  obtain ⟨h1, h2, h3⟩ := h
  rw [h1, h2, eqE_eq h3]
theorem sg_size (k : Nat) : (sgT k).length ≤ 2 := by unfold sgT; split <;> decide
theorem sg_lev (k : Nat) : 1 ≤ sgL k ∧ sgL k ≤ 5 := by unfold sgL; split <;> decide
theorem sg_op (k : Nat) : 1 ≤ sgO k ∧ sgO k ≤ 18 := by unfold sgO; split <;> decide
end Go.Proofs.YtommnhglgedflaaDoor.Pz
