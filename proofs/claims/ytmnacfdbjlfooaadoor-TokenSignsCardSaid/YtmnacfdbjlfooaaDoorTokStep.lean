/-
  The rounds of a scan, as plain laws.
-/
import Derived.Test.YtmnacfdbjlfooaaDoorTokNum
namespace Go.Proofs.YtmnacfdbjlfooaaDoor.Tk

theorem scanA_nil (f line : Nat) (acc : List Tok) : scanA f [] line acc = (acc, 0, 0) := by cases f <;> rfl

/-- The length of a first token. -/
theorem tw_pos (p : UInt8 → Bool) (c : UInt8) (r : List UInt8) (h : p c = true) : 1 ≤ ((c :: r).takeWhile p).length := by
  rw [List.takeWhile_cons, if_pos h]; simp
theorem isL_isI (c : UInt8) (h : isL c = true) : isI c = true := by
  have e : isI c = ((isL c || isD c) || ((c.toNat : Int) == 95)) := rfl
  rw [e, h]; rfl
theorem first_len (c : UInt8) (r : List UInt8) (h : (first (c :: r)).1 = 0) : 1 ≤ (first (c :: r)).2.2.length ∧ (first (c :: r)).2.2.length ≤ (c :: r).length ∧ (c :: r).take (first (c :: r)).2.2.length = (first (c :: r)).2.2 := by
  have hh : (c :: r).headD 0 = c := rfl
  unfold first at h ⊢
  rw [hh] at h ⊢
  by_cases hL : isL c = true
  · rw [if_pos hL] at h ⊢
    unfold wordR at h ⊢
    by_cases h12 : 12 < ((c :: r).takeWhile isI).length
    · rw [if_pos h12] at h; cases h
    · rw [if_neg h12]
      exact ⟨tw_pos _ _ _ (isL_isI c hL), length_tw _ _, take_takeWhile _ _⟩
  · rw [if_neg hL] at h ⊢
    by_cases hD : isD c = true
    · rw [if_pos hD] at h ⊢
      unfold numR at h ⊢
      split at h
      · cases h
      · rename_i h2
        rw [if_neg h2]
        exact ⟨tw_pos _ _ _ hD, length_tw _ _, take_takeWhile _ _⟩
    · rw [if_neg hD] at h ⊢
      unfold sgnR at h ⊢
      split at h
      · cases h
      · rename_i h2
        rw [if_neg h2]
        have hlen : sgOf (c :: r) ≠ [] := fun e => h2 (by rw [e]; rfl)
        refine ⟨?_, ?_, ?_⟩
        · cases hs : sgOf (c :: r) with
          | nil => exact absurd hs hlen
          | cons a b => simp
        · show (sgOf (c :: r)).length ≤ _
          rw [sgOf_eq]; split
          · rw [List.length_take]; omega
          · split
            · rw [List.length_take]; omega
            · simp
        · show (c :: r).take (sgOf (c :: r)).length = sgOf (c :: r)
          rw [sgOf_eq]; split
          · rw [List.length_take, List.take_eq_take_iff]; omega
          · split
            · rw [List.length_take, List.take_eq_take_iff]; omega
            · rfl

theorem scanA_nl (f : Nat) (r : List UInt8) (line : Nat) (acc : List Tok) : scanA (f + 1) (10 :: r) line acc = scanA f r (line + 1) acc := by
  rw [scanA, if_pos rfl]
theorem scanA_blank (f : Nat) (c : UInt8) (r : List UInt8) (line : Nat) (acc : List Tok) (h : c = 32 ∨ c = 9 ∨ c = 13) : scanA (f + 1) (c :: r) line acc = scanA f r line acc := by
  have h1 : c ≠ 10 := by rcases h with rfl | rfl | rfl <;> decide
  rw [scanA, if_neg h1, if_pos h]
theorem scanA_cmt (f : Nat) (c : UInt8) (r : List UInt8) (line : Nat) (acc : List Tok) (h1 : c ≠ 10) (h2 : ¬ (c = 32 ∨ c = 9 ∨ c = 13)) (h3 : [47, 47].isPrefixOf (c :: r) = true) : scanA (f + 1) (c :: r) line acc = scanA f ((c :: r).dropWhile (· != 10)) line acc := by
  rw [scanA, if_neg h1, if_neg h2, if_pos h3]
theorem scanA_tok (f : Nat) (c : UInt8) (r : List UInt8) (line : Nat) (acc : List Tok) (h1 : c ≠ 10) (h2 : ¬ (c = 32 ∨ c = 9 ∨ c = 13)) (h3 : [47, 47].isPrefixOf (c :: r) = false) (h4 : (first (c :: r)).1 = 0) :
    scanA (f + 1) (c :: r) line acc = scanA f ((c :: r).drop (first (c :: r)).2.2.length) line (acc ++ [⟨(first (c :: r)).2.1, (first (c :: r)).2.2, line⟩]) := by
  rw [scanA, if_neg h1, if_neg h2, if_neg (by rw [h3]; decide), if_pos h4]
theorem scanA_err (f : Nat) (c : UInt8) (r : List UInt8) (line : Nat) (acc : List Tok) (h1 : c ≠ 10) (h2 : ¬ (c = 32 ∨ c = 9 ∨ c = 13)) (h3 : [47, 47].isPrefixOf (c :: r) = false) (h4 : (first (c :: r)).1 ≠ 0) :
    scanA (f + 1) (c :: r) line acc = ([], (first (c :: r)).1, line) := by
  rw [scanA, if_neg h1, if_neg h2, if_neg (by rw [h3]; decide), if_neg h4]

/-- Where a scan stands at place k. -/
def SP (l : List UInt8) (R : List Tok × Nat × Nat) (k line : Nat) (acc : List Tok) : Prop :=
  k ≤ l.length ∧ line ≤ k + 1 ∧ acc.length ≤ k ∧ ∃ f, (l.drop k).length ≤ f ∧ scanA f (l.drop k) line acc = R

theorem SP.start (l : List UInt8) : SP l (scanA l.length l 1 []) 0 1 [] := ⟨Nat.zero_le _, Nat.le_refl _, Nat.le_refl _, l.length, Nat.le_refl _, rfl⟩
section
variable {l : List UInt8} {R : List Tok × Nat × Nat} {k line : Nat} {acc : List Tok}
theorem SP.cut (h : SP l R k line acc) (hk : k < l.length) : ∃ f, (l.drop (k + 1)).length ≤ f ∧ scanA (f + 1) (l[k] :: l.drop (k + 1)) line acc = R := by
  obtain ⟨_, _, _, f, hf, hR⟩ := h
  rw [List.drop_eq_getElem_cons hk] at hf hR
  cases f with
  | zero => simp at hf; omega
  | succ f => exact ⟨f, by rw [List.length_cons] at hf; omega, hR⟩
theorem SP.nl (h : SP l R k line acc) (hk : k < l.length) (hc : l[k] = 10) : SP l R (k + 1) (line + 1) acc := by
  obtain ⟨f, hf, hR⟩ := h.cut hk
  rw [hc, scanA_nl] at hR
  exact ⟨hk, by have := h.2.1; omega, by have := h.2.2.1; omega, f, hf, hR⟩
theorem SP.blank (h : SP l R k line acc) (hk : k < l.length) (hc : l[k] = 32 ∨ l[k] = 9 ∨ l[k] = 13) : SP l R (k + 1) line acc := by
  obtain ⟨f, hf, hR⟩ := h.cut hk
  rw [scanA_blank _ _ _ _ _ hc] at hR
  exact ⟨hk, by have := h.2.1; omega, by have := h.2.2.1; omega, f, hf, hR⟩
theorem SP.cmt (h : SP l R k line acc) (hk : k < l.length) (h1 : l[k] ≠ 10) (h2 : ¬ (l[k] = 32 ∨ l[k] = 9 ∨ l[k] = 13)) (h3 : [47, 47].isPrefixOf (l.drop k) = true) : SP l R (k + Tk.cmt (l.drop k)) line acc ∧ 1 ≤ Tk.cmt (l.drop k) := by
  obtain ⟨f, hf, hR⟩ := h.cut hk
  have e := List.drop_eq_getElem_cons hk
  rw [e] at h3
  rw [scanA_cmt _ _ _ _ _ h1 h2 h3, ← e, ← drop_takeWhile, List.drop_drop] at hR
  have hle := cmt_le (l.drop k)
  rw [List.length_drop] at hle
  have h1' : 1 ≤ Tk.cmt (l.drop k) := by
    unfold Tk.cmt; rw [e]
    exact tw_pos (· != 10) _ _ (by simpa using h1)
  refine ⟨⟨by omega, by have := h.2.1; omega, by have := h.2.2.1; omega, f, ?_, hR⟩, h1'⟩
  rw [List.length_drop] at hf ⊢
  omega
theorem SP.tok (h : SP l R k line acc) (hk : k < l.length) (h1 : l[k] ≠ 10) (h2 : ¬ (l[k] = 32 ∨ l[k] = 9 ∨ l[k] = 13)) (h3 : [47, 47].isPrefixOf (l.drop k) = false) (h4 : (first (l.drop k)).1 = 0) :
    SP l R (k + (first (l.drop k)).2.2.length) line (acc ++ [⟨(first (l.drop k)).2.1, (first (l.drop k)).2.2, line⟩]) ∧ 1 ≤ (first (l.drop k)).2.2.length := by
  obtain ⟨f, hf, hR⟩ := h.cut hk
  have e := List.drop_eq_getElem_cons hk
  rw [e] at h3 h4
  have hl := first_len _ _ h4
  rw [scanA_tok _ _ _ _ _ h1 h2 h3 h4, ← e, List.drop_drop] at hR
  rw [← e] at hl h4
  rw [List.length_drop] at hl
  refine ⟨⟨by omega, by have := h.2.1; omega, ?_, f, ?_, hR⟩, hl.1⟩
  · rw [List.length_append]; have := h.2.2.1; simp; omega
  · rw [List.length_drop] at hf ⊢
    omega
theorem SP.err (h : SP l R k line acc) (hk : k < l.length) (h1 : l[k] ≠ 10) (h2 : ¬ (l[k] = 32 ∨ l[k] = 9 ∨ l[k] = 13)) (h3 : [47, 47].isPrefixOf (l.drop k) = false) (h4 : (first (l.drop k)).1 ≠ 0) :
    R = ([], (first (l.drop k)).1, line) := by
  obtain ⟨f, hf, hR⟩ := h.cut hk
  have e := List.drop_eq_getElem_cons hk
  rw [e] at h3 h4
  rw [scanA_err _ _ _ _ _ h1 h2 h3 h4, ← e] at hR
  exact hR.symm
theorem SP.done (h : SP l R k line acc) (hk : ¬ k < l.length) : R = (acc, 0, 0) := by
  obtain ⟨_, _, _, f, hf, hR⟩ := h
  rw [List.drop_of_length_le (by omega), scanA_nil] at hR
  exact hR.symm
end
theorem cells_len (l : List Tok) : (cellsOf l).length = l.length * 3 := by
  unfold cellsOf
  induction l with
  | nil => rfl
  | cons a l ih => rw [List.flatMap_cons, List.length_append, ih, List.length_cons]; simp [Tok.cells]; omega
theorem cells_append (l m : List Tok) : cellsOf (l ++ m) = cellsOf l ++ cellsOf m := by unfold cellsOf; rw [List.flatMap_append]
theorem cells_one (t : Tok) : cellsOf [t] = t.cells := by unfold cellsOf; simp
end Go.Proofs.YtmnacfdbjlfooaaDoor.Tk
