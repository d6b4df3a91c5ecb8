/-
  Plain laws: tokens written with spaces between them are scanned as themselves. No program in sight.
-/
import Derived.Test.YtmnacfdbjlfooaaDoorTokTail
namespace Go.Proofs.YtmnacfdbjlfooaaDoor.Tk

/-- A kind and a text that are scanned as themselves. -/
def Good (kind : Nat) (x : List UInt8) : Prop := first x = (0, kind, x) ∧ (∃ c r, x = c :: r ∧ c ≠ 10 ∧ ¬ (c = 32 ∨ c = 9 ∨ c = 13)) ∧ [47, 47].isPrefixOf x = false

theorem tw_tw (p : UInt8 → Bool) : ∀ l : List UInt8, (l.takeWhile p).takeWhile p = l.takeWhile p
  | [] => rfl
  | c :: l => by
    rw [List.takeWhile_cons]
    split
    · rename_i h
      rw [List.takeWhile_cons, if_pos h, tw_tw p l]
    · rfl
theorem dw_tw (p : UInt8 → Bool) : ∀ l : List UInt8, (l.takeWhile p).dropWhile p = []
  | [] => rfl
  | c :: l => by
    rw [List.takeWhile_cons]
    split
    · rename_i h
      rw [List.dropWhile_cons, if_pos h, dw_tw p l]
    · rfl
theorem tw_head (p : UInt8 → Bool) (c : UInt8) (l : List UInt8) (h : p c = true) : (c :: l).takeWhile p = c :: l.takeWhile p := by rw [List.takeWhile_cons, if_pos h]

theorem signs_good : ∀ g ∈ sgs, first g = (0, 4, g) ∧ g ≠ [] ∧ (g.headD 0 ≠ 10 ∧ ¬ (g.headD 0 = 32 ∨ g.headD 0 = 9 ∨ g.headD 0 = 13)) ∧ [47, 47].isPrefixOf g = false := by decide
theorem good_sign (g : List UInt8) (h : g ∈ sgs) : Good 4 g := by
  obtain ⟨h1, h2, h3, h4⟩ := signs_good g h
  cases g with
  | nil => exact absurd rfl h2
  | cons c r => exact ⟨h1, ⟨c, r, rfl, h3.1, h3.2⟩, h4⟩
theorem isI_not47 (c : UInt8) (h : isI c = true) : (47 == c) = false := by
  rw [beq_eq_false_iff_ne]; rintro rfl; revert h; decide
theorem pre_of_head (c : UInt8) (r : List UInt8) (h : (47 == c) = false) : [47, 47].isPrefixOf (c :: r) = false := by simp [List.isPrefixOf, h]

theorem first_good (c : UInt8) (r : List UInt8) (h10 : c ≠ 10) (hbl : ¬ (c = 32 ∨ c = 9 ∨ c = 13)) (h : (first (c :: r)).1 = 0) : Good (first (c :: r)).2.1 (first (c :: r)).2.2 := by
  have key : first (c :: r) = if isL c then wordR (c :: r) else if isD c then numR (c :: r) else sgnR (c :: r) := rfl
  rw [key] at h ⊢
  by_cases hL' : isL c = true
  · have hL := hL'
    rw [if_pos hL'] at h ⊢
    unfold wordR at h ⊢
    split at h
    · cases h
    · rename_i h2
      rw [if_neg h2]
      show Good (if isKw ((c :: r).takeWhile isI) then 3 else 1) ((c :: r).takeWhile isI)
      have hi := isL_isI c hL
      refine ⟨?_, ⟨c, r.takeWhile isI, tw_head _ _ _ hi, h10, hbl⟩, ?_⟩
      · unfold first wordR
        rw [tw_tw]
        have h3 : ((c :: r).takeWhile isI).headD 0 = c := by rw [tw_head _ _ _ hi]; rfl
        rw [h3, hL, if_pos rfl, if_neg h2]
      · rw [tw_head _ _ _ hi]; exact pre_of_head _ _ (isI_not47 c hi)
  · have hL : isL c = false := by simpa using hL'
    rw [if_neg hL'] at h ⊢
    by_cases hD' : isD c = true
    · have hD := hD'
      rw [if_pos hD'] at h ⊢
      unfold numR at h ⊢
      split at h
      · cases h
      · rename_i h2
        rw [if_neg h2]
        show Good 2 ((c :: r).takeWhile isD)
        have hi : isI c = true := by
          have e : isI c = ((isL c || isD c) || ((c.toNat : Int) == 95)) := rfl
          rw [e, hD]; simp
        refine ⟨?_, ⟨c, r.takeWhile isD, tw_head _ _ _ hD, h10, hbl⟩, ?_⟩
        · unfold first numR
          rw [tw_tw, dw_tw]
          have h3 : ((c :: r).takeWhile isD).headD 0 = c := by rw [tw_head _ _ _ hD]; rfl
          have h4 : numOk ((c :: r).takeWhile isD) = true := by
            simp only [Bool.not_eq_true, Bool.or_eq_false_iff, Bool.not_eq_false'] at h2
            exact h2.2
          rw [h3, hL, hD, h4]
          rfl
        · rw [tw_head _ _ _ hD]; exact pre_of_head _ _ (isI_not47 c hi)
    · rw [if_neg hD'] at h ⊢
      unfold sgnR at h ⊢
      split at h
      · cases h
      · rename_i h2
        rw [if_neg h2]
        show Good 4 (sgOf (c :: r))
        unfold sgOf at h2 ⊢
        cases hf : sgs.find? fun g => g.isPrefixOf (c :: r) with
        | none => rw [hf] at h2; exact absurd rfl h2
        | some g => exact good_sign g (List.mem_of_find?_eq_some hf)

/-- How long the texts are together. -/
def tlen (l : List Tok) : Nat := (l.map fun t => t.text.length).sum
theorem tlen_append (l m : List Tok) : tlen (l ++ m) = tlen l + tlen m := by unfold tlen; rw [List.map_append, List.sum_append]
theorem tlen_one (t : Tok) : tlen [t] = t.text.length := by simp [tlen]

theorem scanA_goods (l : List UInt8) (R : List Tok × Nat × Nat) : ∀ (f : Nat) (k line : Nat) (acc : List Tok), SP l R k line acc → (∀ t ∈ acc, Good t.kind t.text) → tlen acc ≤ k → l.length - k ≤ f →
    (∀ t ∈ R.1, Good t.kind t.text) ∧ tlen R.1 ≤ l.length := by
  intro f
  induction f with
  | zero =>
    intro k line acc h ha hl hf
    have := h.done (by have := h.1; omega)
    rw [this]
    exact ⟨ha, by have := h.1; show tlen acc ≤ _; omega⟩
  | succ f ih =>
    intro k line acc h ha hl hf
    by_cases hk : k < l.length
    · by_cases h10 : l[k] = 10
      · exact ih _ _ _ (h.nl hk h10) ha (by omega) (by omega)
      · by_cases hb : l[k] = 32 ∨ l[k] = 9 ∨ l[k] = 13
        · exact ih _ _ _ (h.blank hk hb) ha (by omega) (by omega)
        · cases hp : [47, 47].isPrefixOf (l.drop k)
          · by_cases he : (first (l.drop k)).1 = 0
            · obtain ⟨h1, h2⟩ := h.tok hk h10 hb hp he
              refine ih _ _ _ h1 (fun t ht => ?_) (by rw [tlen_append, tlen_one]; show tlen acc + (first (l.drop k)).2.2.length ≤ _; omega) (by omega)
              rw [List.mem_append] at ht
              rcases ht with ht | ht
              · exact ha t ht
              · rw [List.mem_singleton] at ht
                subst ht
                have e := List.drop_eq_getElem_cons hk
                rw [e] at he ⊢
                exact first_good _ _ h10 hb he
            · rw [h.err hk h10 hb hp he]
              exact ⟨fun t ht => (by cases ht), Nat.zero_le _⟩
          · obtain ⟨h1, h2⟩ := h.cmt hk h10 hb hp
            exact ih _ _ _ h1 ha (by omega) (by omega)
    · rw [h.done hk]
      exact ⟨ha, by have := h.1; show tlen acc ≤ _; omega⟩
theorem scan_goods (l : List UInt8) : (∀ t ∈ (scan l).1, Good t.kind t.text) ∧ tlen (scan l).1 ≤ l.length := by
  unfold scan
  split
  · exact ⟨fun t ht => (by cases ht), Nat.zero_le _⟩
  · exact scanA_goods l _ l.length 0 1 [] (SP.start l) (fun t ht => by cases ht) (Nat.le_refl _) (by omega)

/-- The texts with a space behind each. -/
def join (l : List (List UInt8)) : List UInt8 := l.flatMap fun x => x ++ [32]
theorem join_cons (x : List UInt8) (l : List (List UInt8)) : join (x :: l) = x ++ 32 :: join l := by unfold join; simp
theorem join_snoc (l : List (List UInt8)) (x : List UInt8) : join (l ++ [x]) = join l ++ x ++ [32] := by unfold join; simp
def mk1 (p : Nat × List UInt8) : Tok := ⟨p.1, p.2, 1⟩
theorem scanA_join : ∀ (l : List (Nat × List UInt8)) (f : Nat) (acc : List Tok), (∀ p ∈ l, Good p.1 p.2) → (join (l.map (·.2))).length ≤ f → scanA f (join (l.map (·.2))) 1 acc = (acc ++ l.map mk1, 0, 0)
  | [], f, acc, _, _ => by rw [show join (([] : List (Nat × List UInt8)).map (·.2)) = [] from rfl, scanA_nil]; simp
  | p :: l, f, acc, h, hf => by
    obtain ⟨h1, ⟨c, r, hx, h10, hbl⟩, hp⟩ := h p (List.mem_cons_self ..)
    rw [List.map_cons, join_cons] at hf ⊢
    rw [hx] at h1 hp hf ⊢
    have hf2 : (join (l.map (·.2))).length + 2 ≤ f := by rw [List.length_append] at hf; simp at hf ⊢; omega
    obtain ⟨f', rfl⟩ : ∃ f', f = f' + 2 := ⟨f - 2, by omega⟩
    rw [scanA_word c r _ f' 1 p.1 acc h10 hbl hp h1, scanA_join l f' _ (fun q hq => h q (List.mem_cons_of_mem _ hq)) (by omega)]
    have : mk1 p = ⟨p.1, c :: r, 1⟩ := by unfold mk1; rw [hx]
    simp [this]
theorem scan_join (l : List (Nat × List UInt8)) (h : ∀ p ∈ l, Good p.1 p.2) (hl : (join (l.map (·.2))).length ≤ 4096) : scan (join (l.map (·.2))) = (l.map mk1, 0, 0) := by
  unfold scan
  rw [if_neg (by omega), scanA_join l _ [] h (Nat.le_refl _)]
  rfl
theorem join_len : ∀ l : List (List UInt8), (join l).length = (l.map List.length).sum + l.length
  | [] => rfl
  | x :: l => by rw [join_cons, List.length_append, List.length_cons, join_len l]; simp; omega
end Go.Proofs.YtmnacfdbjlfooaaDoor.Tk
