/-
  Plain laws of scans of texts that are put together. No program in sight.
-/
import Derived.Test.YtmnacfdbjlfooaaDoorTokStep
namespace Go.Proofs.YtmnacfdbjlfooaaDoor.Tk

/-- A byte that ends every token ahead of it. -/
def Sep (b : UInt8) : Prop := isI b = false ∧ b ≠ 61 ∧ b ≠ 124 ∧ b ≠ 38 ∧ b ≠ 47
theorem sep32 : Sep 32 := by unfold Sep; decide
theorem sep10 : Sep 10 := by unfold Sep; decide
theorem Sep.notD {b : UInt8} (h : Sep b) : isD b = false := by
  have := h.1
  have e : isI b = ((isL b || isD b) || ((b.toNat : Int) == 95)) := rfl
  rw [e] at this
  cases hd : isD b
  · rfl
  · rw [hd] at this; simp at this

theorem tw_sep (p : UInt8 → Bool) (b : UInt8) (t : List UInt8) (hb : p b = false) : ∀ l : List UInt8, (l ++ b :: t).takeWhile p = l.takeWhile p
  | [] => by rw [List.nil_append, List.takeWhile_cons, hb]; rfl
  | c :: l => by
    rw [List.cons_append, List.takeWhile_cons, List.takeWhile_cons, tw_sep p b t hb l]
theorem dw_head (p q : UInt8 → Bool) (b : UInt8) (t : List UInt8) (hb : p b = false) (hq : q b = false) : ∀ l : List UInt8, ((l ++ b :: t).dropWhile p).head?.any q = (l.dropWhile p).head?.any q
  | [] => by rw [List.nil_append, List.dropWhile_cons, hb]; simp [hq]
  | c :: l => by
    rw [List.cons_append, List.dropWhile_cons, List.dropWhile_cons]
    split
    · exact dw_head p q b t hb hq l
    · rfl
theorem sgOf_sep (c : UInt8) (r : List UInt8) (b : UInt8) (t : List UInt8) (hb : Sep b) : sgOf (c :: r ++ b :: t) = sgOf (c :: r) := by
  rw [sgOf_eq, sgOf_eq]
  cases r with
  | nil =>
    have h1 : twos.contains ([c] ++ b :: t |>.take 2) = false := by
      obtain ⟨_, h61, h124, h38, _⟩ := hb
      simp [twos, h61, h124, h38]
    have h2 : twos.contains ([c].take 2) = false := by simp [twos]
    rw [h1, h2]
    rfl
  | cons d r => rfl
theorem first_sep (c : UInt8) (r : List UInt8) (b : UInt8) (t : List UInt8) (hb : Sep b) : first (c :: r ++ b :: t) = first (c :: r) := by
  unfold first wordR numR sgnR
  rw [tw_sep isI b t hb.1, tw_sep isD b t hb.notD, dw_head isD isI b t hb.notD hb.1, sgOf_sep c r b t hb]
  rfl

/-- How many line feeds. -/
def nls (l : List UInt8) : Nat := l.count 10
theorem nls_cons (c : UInt8) (l : List UInt8) : nls (c :: l) = nls l + if c = 10 then 1 else 0 := by
  unfold nls; rw [List.count_cons]; simp
theorem nls_append (l m : List UInt8) : nls (l ++ m) = nls l + nls m := by unfold nls; rw [List.count_append]
theorem nls_dw : ∀ l : List UInt8, nls (l.dropWhile (· != 10)) = nls l
  | [] => rfl
  | c :: l => by
    rw [List.dropWhile_cons]
    by_cases h : c = 10
    · subst h; rfl
    · rw [if_pos (by simpa using h), nls_dw l, nls_cons, if_neg h]; rfl
theorem nls_tw0 (p : UInt8 → Bool) (hp : p 10 = false) : ∀ l : List UInt8, nls (l.takeWhile p) = 0
  | [] => rfl
  | c :: l => by
    rw [List.takeWhile_cons]
    split
    · rename_i h
      rw [nls_cons, nls_tw0 p hp l, if_neg (fun e => by rw [e, hp] at h; cases h)]
    · rfl
theorem nls_first (c : UInt8) (r : List UInt8) : nls (first (c :: r)).2.2 = 0 := by
  unfold first wordR numR sgnR
  split
  · split
    · rfl
    · exact nls_tw0 isI (by decide) _
  · split
    · split
      · rfl
      · exact nls_tw0 isD (by decide) _
    · split
      · rfl
      · show nls (sgOf _) = 0
        unfold sgOf
        have : ∀ g ∈ sgs, nls g = 0 := by decide
        cases hf : sgs.find? fun g => g.isPrefixOf (c :: r) with
        | none => rfl
        | some g => exact this g (List.mem_of_find?_eq_some hf)

theorem dw_all (p : UInt8 → Bool) (t : List UInt8) : ∀ l : List UInt8, l.dropWhile p = [] → (l ++ t).dropWhile p = t.dropWhile p
  | [], _ => rfl
  | c :: l, h => by
    rw [List.dropWhile_cons] at h
    split at h
    · rename_i hc
      rw [List.cons_append, List.dropWhile_cons, if_pos hc]
      exact dw_all p t l h
    · cases h
theorem dw_some (p : UInt8 → Bool) (t : List UInt8) : ∀ l : List UInt8, l.dropWhile p ≠ [] → (l ++ t).dropWhile p = l.dropWhile p ++ t
  | [], h => absurd rfl h
  | c :: l, h => by
    rw [List.dropWhile_cons] at h
    rw [List.cons_append, List.dropWhile_cons, List.dropWhile_cons]
    split
    · rename_i hc
      rw [if_pos hc] at h
      exact dw_some p t l h
    · rfl
theorem dw_len (p : UInt8 → Bool) : ∀ l : List UInt8, (l.dropWhile p).length ≤ l.length
  | [] => Nat.le_refl _
  | c :: l => by
    rw [List.dropWhile_cons]
    have := dw_len p l
    split <;> simp <;> omega

/-- A SCAN OF A TEXT WITH A TAIL BEHIND IT: what the tail does is told by K. -/
theorem scanA_tail (b : UInt8) (t : List UInt8) (K : Nat → List Tok → List Tok × Nat × Nat) (hb : Sep b)
    (hK1 : ∀ f line acc, (b :: t).length ≤ f → scanA f (b :: t) line acc = K line acc)
    (hK2 : ∀ f line acc, ((b :: t).dropWhile (· != 10)).length ≤ f → scanA f ((b :: t).dropWhile (· != 10)) line acc = K line acc) :
    ∀ (f g : Nat) (l : List UInt8) (line : Nat) (acc : List Tok), (l ++ b :: t).length ≤ f → l.length ≤ g →
      scanA f (l ++ b :: t) line acc = if (scanA g l line acc).2.1 = 0 then K (line + nls l) (scanA g l line acc).1 else scanA g l line acc := by
  intro f
  induction f with
  | zero => intro g l line acc hf; simp at hf
  | succ f ih =>
    intro g l line acc hf hg
    match l, hf, hg with
    | [], hf, _ =>
      rw [scanA_nil, if_pos rfl]
      exact hK1 _ _ _ hf
    | c :: r, hf, hg =>
      cases g with
      | zero => simp at hg
      | succ g =>
        have hf' : (r ++ b :: t).length ≤ f := by simpa using hf
        have hg' : r.length ≤ g := by simpa using hg
        have happ : (c :: r) ++ b :: t = c :: (r ++ b :: t) := rfl
        by_cases h10 : c = 10
        · subst h10
          rw [happ, scanA_nl, scanA_nl, ih g r (line + 1) acc hf' hg', nls_cons, if_pos rfl]
          have e : line + 1 + nls r = line + (nls r + 1) := by omega
          rw [e]
        · by_cases hbl : c = 32 ∨ c = 9 ∨ c = 13
          · rw [happ, scanA_blank _ _ _ _ _ hbl, scanA_blank _ _ _ _ _ hbl, ih g r line acc hf' hg', nls_cons, if_neg h10]
            rfl
          · have hpre : [47, 47].isPrefixOf (c :: (r ++ b :: t)) = [47, 47].isPrefixOf (c :: r) := by
              cases r with
              | nil =>
                have : (47 == b) = false := by rw [beq_eq_false_iff_ne]; exact fun e => hb.2.2.2.2 e.symm
                simp [List.isPrefixOf, this]
              | cons d r => simp [List.isPrefixOf]
            cases hp : [47, 47].isPrefixOf (c :: r)
            · rw [hp] at hpre
              have hfe := first_sep c r b t hb
              rw [happ] at hfe
              by_cases he : (first (c :: r)).1 = 0
              · have hl := first_len c r he
                rw [happ, scanA_tok _ _ _ _ _ h10 hbl hpre (by rw [hfe]; exact he), scanA_tok _ _ _ _ _ h10 hbl hp he, hfe, ← happ, List.drop_append_of_le_length hl.2.1]
                have hnl : nls (c :: r) = nls ((c :: r).drop (first (c :: r)).2.2.length) := by
                  have h1 := nls_append ((c :: r).take (first (c :: r)).2.2.length) ((c :: r).drop (first (c :: r)).2.2.length)
                  rw [List.take_append_drop, hl.2.2, nls_first] at h1
                  omega
                rw [hnl]
                have hlen : ((c :: r).drop (first (c :: r)).2.2.length).length ≤ r.length := by
                  rw [List.length_drop]; simp; omega
                refine ih g _ line _ ?_ (by omega)
                rw [List.length_append] at hf' ⊢
                omega
              · rw [happ, scanA_err _ _ _ _ _ h10 hbl hpre (by rw [hfe]; exact he), scanA_err _ _ _ _ _ h10 hbl hp he, hfe, if_neg he]
            · rw [hp] at hpre
              rw [happ, scanA_cmt _ _ _ _ _ h10 hbl hpre, scanA_cmt _ _ _ _ _ h10 hbl hp, ← happ]
              have hne : (c != 10) = true := by simpa using h10
              by_cases hd : (c :: r).dropWhile (· != 10) = []
              · rw [dw_all _ _ _ hd, hd, scanA_nil, if_pos rfl, ← nls_dw (c :: r), hd]
                refine hK2 f line acc ?_
                have := dw_len (· != 10) (b :: t)
                rw [List.length_append] at hf'
                omega
              · rw [dw_some _ _ _ hd, ← nls_dw (c :: r)]
                have hlen : ((c :: r).dropWhile (· != 10)).length ≤ r.length := by
                  rw [List.dropWhile_cons, if_pos hne]; exact dw_len _ _
                refine ih g _ line acc ?_ (by omega)
                rw [List.length_append] at hf' ⊢
                omega

theorem scanA_fuel : ∀ (f g : Nat) (l : List UInt8) (line : Nat) (acc : List Tok), l.length ≤ f → l.length ≤ g → scanA f l line acc = scanA g l line acc := by
  intro f
  induction f with
  | zero =>
    intro g l line acc hf _
    have : l = [] := List.eq_nil_of_length_eq_zero (by omega)
    rw [this, scanA_nil, scanA_nil]
  | succ f ih =>
    intro g l line acc hf hg
    match l, hf, hg with
    | [], _, _ => rw [scanA_nil, scanA_nil]
    | c :: r, hf, hg =>
      cases g with
      | zero => simp at hg
      | succ g =>
        have hf' : r.length ≤ f := by simpa using hf
        have hg' : r.length ≤ g := by simpa using hg
        by_cases h10 : c = 10
        · subst h10
          rw [scanA_nl, scanA_nl, ih g r (line + 1) acc hf' hg']
        · by_cases hbl : c = 32 ∨ c = 9 ∨ c = 13
          · rw [scanA_blank _ _ _ _ _ hbl, scanA_blank _ _ _ _ _ hbl, ih g r line acc hf' hg']
          · cases hp : [47, 47].isPrefixOf (c :: r)
            · by_cases he : (first (c :: r)).1 = 0
              · have hl := first_len c r he
                rw [scanA_tok _ _ _ _ _ h10 hbl hp he, scanA_tok _ _ _ _ _ h10 hbl hp he]
                have hlen : ((c :: r).drop (first (c :: r)).2.2.length).length ≤ r.length := by
                  rw [List.length_drop]; simp; omega
                exact ih g _ line _ (by omega) (by omega)
              · rw [scanA_err _ _ _ _ _ h10 hbl hp he, scanA_err _ _ _ _ _ h10 hbl hp he]
            · rw [scanA_cmt _ _ _ _ _ h10 hbl hp, scanA_cmt _ _ _ _ _ h10 hbl hp]
              have hne : (c != 10) = true := by simpa using h10
              have hlen : ((c :: r).dropWhile (· != 10)).length ≤ r.length := by
                rw [List.dropWhile_cons, if_pos hne]; exact dw_len _ _
              exact ih g _ line acc (by omega) (by omega)

/-- A token some lines further down. -/
def sh (d : Nat) (t : Tok) : Tok := ⟨t.kind, t.text, t.line + d⟩
theorem scanA_shift : ∀ (f : Nat) (l : List UInt8) (line : Nat), ∃ (toks : List Tok) (e el : Nat), ∀ (acc : List Tok) (d : Nat), scanA f l (line + d) acc = if e = 0 then (acc ++ toks.map (sh d), 0, 0) else ([], e, el + d) := by
  intro f
  induction f with
  | zero =>
    intro l line
    refine ⟨[], 0, 0, fun acc d => ?_⟩
    cases l <;> simp [scanA]
  | succ f ih =>
    intro l line
    match l with
    | [] => exact ⟨[], 0, 0, fun acc d => by simp [scanA]⟩
    | c :: r =>
      by_cases h10 : c = 10
      · subst h10
        obtain ⟨toks, e, el, h⟩ := ih r (line + 1)
        refine ⟨toks, e, el, fun acc d => ?_⟩
        rw [scanA_nl, show line + d + 1 = line + 1 + d from by omega, h]
      · by_cases hbl : c = 32 ∨ c = 9 ∨ c = 13
        · obtain ⟨toks, e, el, h⟩ := ih r line
          exact ⟨toks, e, el, fun acc d => by rw [scanA_blank _ _ _ _ _ hbl, h]⟩
        · cases hp : [47, 47].isPrefixOf (c :: r)
          · by_cases he : (first (c :: r)).1 = 0
            · obtain ⟨toks, e, el, h⟩ := ih ((c :: r).drop (first (c :: r)).2.2.length) line
              refine ⟨⟨(first (c :: r)).2.1, (first (c :: r)).2.2, line⟩ :: toks, e, el, fun acc d => ?_⟩
              rw [scanA_tok _ _ _ _ _ h10 hbl hp he, h]
              simp [sh]
            · refine ⟨[], (first (c :: r)).1, line, fun acc d => ?_⟩
              rw [scanA_err _ _ _ _ _ h10 hbl hp he, if_neg he]
          · obtain ⟨toks, e, el, h⟩ := ih ((c :: r).dropWhile (· != 10)) line
            exact ⟨toks, e, el, fun acc d => by rw [scanA_cmt _ _ _ _ _ h10 hbl hp, h]⟩
theorem sh0 (l : List Tok) : l.map (sh 0) = l := by
  induction l with
  | nil => rfl
  | cons a l ih => rw [List.map_cons, ih]; rfl

/-- The law of comments. -/
theorem scan_comment (s c : List UInt8) (hs : s.length ≤ 500) (hc : c.length ≤ 500) (hn : nls c = 0) : scan (s ++ 32 :: 47 :: 47 :: c) = scan s := by
  have hd : (32 :: 47 :: 47 :: c : List UInt8).dropWhile (· != 10) = [] := by
    have : ∀ l : List UInt8, nls l = 0 → l.dropWhile (· != 10) = [] := by
      intro l
      induction l with
      | nil => intro _; rfl
      | cons a l ih =>
        intro h
        rw [nls_cons] at h
        have ha : a ≠ 10 := fun e => by rw [if_pos e] at h; omega
        rw [List.dropWhile_cons, if_pos (by simpa using ha)]
        exact ih (by omega)
    refine this _ ?_
    rw [nls_cons, nls_cons, nls_cons, hn]
    decide
  have hd2 : (47 :: 47 :: c : List UInt8).dropWhile (· != 10) = [] := by
    rw [List.dropWhile_cons, if_pos (by decide)] at hd; exact hd
  have hT := scanA_tail 32 (47 :: 47 :: c) (fun _ acc => (acc, 0, 0)) sep32 (fun f line acc hf => by
      match f, hf with
      | f + 2, _ =>
        rw [scanA_blank _ _ _ _ _ (.inl rfl), scanA_cmt _ _ _ _ _ (by decide) (by decide) (by simp [List.isPrefixOf]), hd2, scanA_nil]) (fun f line acc _ => by rw [hd, scanA_nil])
    (s ++ 32 :: 47 :: 47 :: c).length s.length s 1 [] (Nat.le_refl _) (Nat.le_refl _)
  unfold scan
  rw [if_neg (show ¬ 4096 < (s ++ 32 :: 47 :: 47 :: c).length by rw [List.length_append]; simp; omega), if_neg (show ¬ 4096 < s.length by omega), hT]
  obtain ⟨toks, e, el, h⟩ := scanA_shift s.length s 1
  have h0 := h [] 0
  rw [Nat.add_zero, sh0, List.nil_append, Nat.add_zero] at h0
  rw [h0]
  by_cases he : e = 0
  · rw [if_pos he]; rfl
  · rw [if_neg he, if_neg he]

/-- The law of lines. -/
theorem scan_lines (a b : List UInt8) (ha : a.length ≤ 500) (hb : b.length ≤ 500) : scan (a ++ 10 :: b) =
    if (scan a).2.1 = 0 then (if (scan b).2.1 = 0 then ((scan a).1 ++ (scan b).1.map (sh (nls a + 1)), 0, 0) else ([], (scan b).2.1, (scan b).2.2 + (nls a + 1))) else scan a := by
  have hT := scanA_tail 10 b (fun line acc => scanA b.length b (line + 1) acc) sep10 (fun f line acc hf => by
      match f, hf with
      | f + 1, hf => rw [scanA_nl, scanA_fuel f b.length b _ _ (by simpa using hf) (Nat.le_refl _)]) (fun f line acc hf => by
      rw [List.dropWhile_cons, if_neg (by decide)] at hf ⊢
      match f, hf with
      | f + 1, hf => rw [scanA_nl, scanA_fuel f b.length b _ _ (by simpa using hf) (Nat.le_refl _)])
    (a ++ 10 :: b).length a.length a 1 [] (Nat.le_refl _) (Nat.le_refl _)
  unfold scan
  rw [if_neg (show ¬ 4096 < (a ++ 10 :: b).length by rw [List.length_append]; simp; omega), if_neg (show ¬ 4096 < a.length by omega), if_neg (show ¬ 4096 < b.length by omega), hT]
  obtain ⟨toks, e, el, h⟩ := scanA_shift b.length b 1
  have h0 := h [] 0
  rw [Nat.add_zero, sh0, List.nil_append, Nat.add_zero] at h0
  have h1 := h (scanA a.length a 1 []).1 (nls a + 1)
  rw [show 1 + nls a + 1 = 1 + (nls a + 1) from by omega, h1, h0]
  by_cases he : e = 0
  · simp [he]
  · simp [he]

/-- A word or a sign and a space ahead of a text. -/
theorem scanA_word (c : UInt8) (x : List UInt8) (t : List UInt8) (f line kind : Nat) (acc : List Tok) (h10 : c ≠ 10) (hbl : ¬ (c = 32 ∨ c = 9 ∨ c = 13)) (hp : [47, 47].isPrefixOf (c :: x) = false) (hf : first (c :: x) = (0, kind, c :: x)) :
    scanA (f + 2) (c :: x ++ 32 :: t) line acc = scanA f t line (acc ++ [⟨kind, c :: x, line⟩]) := by
  have hpre : [47, 47].isPrefixOf (c :: (x ++ 32 :: t)) = false := by
    cases x with
    | nil => simp [List.isPrefixOf]
    | cons d x => simpa [List.isPrefixOf] using hp
  have hfe := first_sep c x 32 t sep32
  rw [hf, List.cons_append] at hfe
  rw [List.cons_append, scanA_tok _ _ _ _ _ h10 hbl hpre (by rw [hfe]), hfe]
  have : (c :: (x ++ 32 :: t)).drop (c :: x).length = 32 :: t := by simp
  rw [this, scanA_blank _ _ _ _ _ (.inl rfl)]
end Go.Proofs.YtmnacfdbjlfooaaDoor.Tk
