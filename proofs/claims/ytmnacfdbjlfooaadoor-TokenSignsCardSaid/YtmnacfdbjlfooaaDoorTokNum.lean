/-
  Plain laws on decimal digits and signs.
-/
import Derived.Test.YtmnacfdbjlfooaaDoorTokLaws
import Derived.Laws.Strings2
namespace Go.Proofs.YtmnacfdbjlfooaaDoor.Tk

theorem isD_iff (c : UInt8) : isD c = true ↔ 48 ≤ c.toNat ∧ c.toNat ≤ 57 := by
  unfold isD digI
  simp only [Bool.and_eq_true, decide_eq_true_eq]
  omega

theorem foldl_val (l : List UInt8) : ∀ n : Nat, l.foldl (fun n c => 10 * n + (c.toNat - 48)) n = n * 10 ^ l.length + val l := by
  induction l with
  | nil => intro n; simp [val]
  | cons c l ih =>
    intro n
    have h0 := ih (10 * 0 + (c.toNat - 48))
    have h1 := ih (10 * n + (c.toNat - 48))
    unfold val
    simp only [List.foldl_cons]
    rw [h1, h0, List.length_cons, Nat.pow_succ]
    simp only [Nat.mul_zero, Nat.zero_add, Nat.add_mul]
    rw [Nat.add_assoc, Nat.mul_comm 10 n, Nat.mul_assoc, Nat.mul_comm 10]
theorem val_cons (c : UInt8) (l : List UInt8) : val (c :: l) = (c.toNat - 48) * 10 ^ l.length + val l := by
  have := foldl_val l (10 * 0 + (c.toNat - 48))
  unfold val at *
  simp only [List.foldl_cons]
  rw [this]
  simp
theorem val_lt : ∀ (l : List UInt8), l.all isD = true → val l < 10 ^ l.length
  | [], _ => by simp [val]
  | c :: l, h => by
    rw [List.all_cons, Bool.and_eq_true, isD_iff] at h
    have := val_lt l h.2
    rw [val_cons, List.length_cons, Nat.pow_succ]
    have h9 : (c.toNat - 48) * 10 ^ l.length ≤ 9 * 10 ^ l.length := Nat.mul_le_mul_right _ (by omega)
    omega
theorem val_ge (c : UInt8) (l : List UInt8) (h : isD c = true) (h0 : c ≠ 48) : 10 ^ l.length ≤ val (c :: l) := by
  rw [isD_iff] at h
  have hc : c.toNat ≠ 48 := fun e => h0 (UInt8.toNat_inj.1 e)
  rw [val_cons]
  have : 1 * 10 ^ l.length ≤ (c.toNat - 48) * 10 ^ l.length := Nat.mul_le_mul_right _ (by omega)
  omega
theorem val_trim : ∀ l : List UInt8, val (l.dropWhile (· == 48)) = val l
  | [] => rfl
  | c :: l => by
    rw [List.dropWhile_cons]
    split
    · rename_i h
      have : c = 48 := by simpa using h
      subst this
      rw [val_trim l, val_cons]
      simp
    · rfl
theorem all_drop (p q : UInt8 → Bool) : ∀ l : List UInt8, l.all p = true → (l.dropWhile q).all p = true
  | [], _ => rfl
  | c :: l, h => by
    rw [List.dropWhile_cons]
    split
    · rw [List.all_cons, Bool.and_eq_true] at h
      exact all_drop p q l h.2
    · exact h
theorem less_val : ∀ (a b : List UInt8), a.all isD = true → b.all isD = true → a.length = b.length → Op.bytesLess a b = decide (val a < val b)
  | [], [], _, _, _ => rfl
  | a :: x, b :: y, ha, hb, hl => by
    rw [List.all_cons, Bool.and_eq_true] at ha hb
    have hl' : x.length = y.length := by simpa using hl
    have ih := less_val x y ha.2 hb.2 hl'
    have hx := val_lt x ha.2
    have hy := val_lt y hb.2
    have h1 := (isD_iff a).1 ha.1
    have h2 := (isD_iff b).1 hb.1
    unfold Op.bytesLess
    rw [ih, val_cons, val_cons, hl']
    rw [hl'] at hx
    generalize 10 ^ y.length = T at *
    rcases Nat.lt_trichotomy a.toNat b.toNat with h | h | h
    · have e1 : a < b := UInt8.lt_iff_toNat_lt.2 h
      have : (a.toNat - 48) * T + T ≤ (b.toNat - 48) * T := by
        have := Nat.mul_le_mul_right T (show a.toNat - 48 + 1 ≤ b.toNat - 48 by omega)
        rwa [Nat.add_mul, Nat.one_mul] at this
      have e2 : (a.toNat - 48) * T + val x < (b.toNat - 48) * T + val y := by omega
      simp [e1, e2]
    · have e1 : a = b := UInt8.toNat_inj.1 h
      subst e1
      have e2 : ¬ a < a := by rw [UInt8.lt_iff_toNat_lt]; omega
      simp
    · have e1 : ¬ a < b := by rw [UInt8.lt_iff_toNat_lt]; omega
      have e2 : a ≠ b := fun e => by rw [e] at h; omega
      have : (b.toNat - 48) * T + T ≤ (a.toNat - 48) * T := by
        have := Nat.mul_le_mul_right T (show b.toNat - 48 + 1 ≤ a.toNat - 48 by omega)
        rwa [Nat.add_mul, Nat.one_mul] at this
      have e3 : ¬ (a.toNat - 48) * T + val x < (b.toNat - 48) * T + val y := by omega
      simp [e1, e2, e3]
  | [], _ :: _, _, _, h => by simp at h
  | _ :: _, [], _, _, h => by simp at h
theorem val_inj : ∀ (a b : List UInt8), a.all isD = true → b.all isD = true → a.length = b.length → val a = val b → a = b
  | [], [], _, _, _, _ => rfl
  | a :: x, b :: y, ha, hb, hl, hv => by
    rw [List.all_cons, Bool.and_eq_true] at ha hb
    have hl' : x.length = y.length := by simpa using hl
    have hx := val_lt x ha.2
    have hy := val_lt y hb.2
    have h1 := (isD_iff a).1 ha.1
    have h2 := (isD_iff b).1 hb.1
    have hv' := hv
    rw [val_cons, val_cons, hl'] at hv
    rw [hl'] at hx
    have hab : a.toNat = b.toNat := by
      generalize 10 ^ y.length = T at *
      rcases Nat.lt_trichotomy a.toNat b.toNat with h | h | h
      · have := Nat.mul_le_mul_right T (show a.toNat - 48 + 1 ≤ b.toNat - 48 by omega)
        rw [Nat.add_mul, Nat.one_mul] at this
        omega
      · exact h
      · have := Nat.mul_le_mul_right T (show b.toNat - 48 + 1 ≤ a.toNat - 48 by omega)
        rw [Nat.add_mul, Nat.one_mul] at this
        omega
    obtain rfl : a = b := UInt8.toNat_inj.1 hab
    rw [val_inj x y ha.2 hb.2 hl' (by omega)]
  | [], _ :: _, _, _, h, _ => by simp at h
  | _ :: _, [], _, _, h, _ => by simp at h

def great : List UInt8 := [57, 50, 50, 51, 51, 55, 50, 48, 51, 54, 56, 53, 52, 55, 55, 53, 56, 48, 55]
theorem great_val : val great = 9223372036854775807 := by decide
theorem great_all : great.all isD = true := by decide
theorem great_len : great.length = 19 := rfl

theorem numOk_long (l : List UInt8) (h : l.all isD = true) (hl : 19 < (l.dropWhile (· == 48)).length) : numOk l = false := by
  have ht := all_drop isD (· == 48) l h
  unfold numOk
  rw [← val_trim l]
  have hh : ∀ c r, l.dropWhile (· == 48) = c :: r → c ≠ 48 := by
    intro c r e
    have := List.head?_dropWhile_not (· == 48) l
    rw [e] at this
    simpa using this
  generalize l.dropWhile (· == 48) = t at *
  match t, hl, ht, hh with
  | c :: r, hl, ht, hh =>
    rw [List.all_cons, Bool.and_eq_true] at ht
    have h1 := val_ge c r ht.1 (hh c r rfl)
    have h2 : 10 ^ 19 ≤ 10 ^ r.length := Nat.pow_le_pow_right (by omega) (by simp at hl; omega)
    have h3 : (10 : Nat) ^ 19 = 10000000000000000000 := rfl
    rw [h3] at h2
    simp only [decide_eq_false_iff_not]
    omega
theorem numOk_short (l : List UInt8) (h : l.all isD = true) (hl : (l.dropWhile (· == 48)).length < 19) : numOk l = true := by
  have ht := all_drop isD (· == 48) l h
  unfold numOk
  rw [← val_trim l]
  generalize l.dropWhile (· == 48) = t at *
  have h1 := val_lt t ht
  have h2 : 10 ^ t.length ≤ 10 ^ 18 := Nat.pow_le_pow_right (by omega) (by omega)
  have h3 : (10 : Nat) ^ 18 = 1000000000000000000 := rfl
  rw [h3] at h2
  simp only [decide_eq_true_eq]
  omega
theorem numOk_eq (l : List UInt8) (h : l.all isD = true) (hl : (l.dropWhile (· == 48)).length = 19) :
    (!(Op.bytesLess (l.dropWhile (· == 48)) great || (l.dropWhile (· == 48)) == great)) = !numOk l := by
  have ht := all_drop isD (· == 48) l h
  unfold numOk
  rw [← val_trim l]
  generalize l.dropWhile (· == 48) = t at *
  rw [less_val t great ht great_all (by rw [hl, great_len]), great_val]
  congr 1
  by_cases e : val t = 9223372036854775807
  · have : t = great := val_inj t great ht great_all (by rw [hl, great_len]) (by rw [e, great_val])
    rw [this, great_val]
    simp
  · have hne : (t == great) = false := by
      rw [beq_eq_false_iff_ne]
      intro e'
      rw [e', great_val] at e
      exact e rfl
    rw [hne, Bool.or_false, decide_eq_decide]
    omega

/-- The signs. -/
def twos : List (List UInt8) := [[124, 124], [38, 38], [61, 61], [33, 61], [60, 61], [62, 61]]
def chs : List UInt8 := [60, 62, 43, 45, 42, 47, 37, 33, 61, 40, 41, 91, 93, 123, 125, 44, 59]
theorem sgs_eq : sgs = twos ++ chs.map fun c => [c] := rfl
theorem find_pre (n : Nat) (l : List UInt8) : ∀ gs : List (List UInt8), (∀ g ∈ gs, g.length = n) → gs.find? (fun g => g.isPrefixOf l) = if gs.contains (l.take n) then some (l.take n) else none
  | [], _ => rfl
  | g :: gs, h => by
    have hg : g.length = n := h g (List.mem_cons_self ..)
    have ih := find_pre n l gs fun x hx => h x (List.mem_cons_of_mem _ hx)
    rw [List.find?_cons, ih, List.contains_cons]
    by_cases e : g.isPrefixOf l = true
    · have e1 : l.take n = g := by
        obtain ⟨r, rfl⟩ := List.isPrefixOf_iff_prefix.1 e
        rw [← hg]; simp
      rw [e, e1]
      simp
    · have e0 : g.isPrefixOf l = false := Bool.eq_false_iff.2 e
      have e1 : (l.take n == g) = false := by
        rw [beq_eq_false_iff_ne]
        intro e2
        exact e (List.isPrefixOf_iff_prefix.2 (e2 ▸ List.take_prefix _ _))
      rw [e0, e1]
      simp
theorem sgOf_eq (l : List UInt8) : sgOf l = if twos.contains (l.take 2) then l.take 2 else if (chs.map fun c => [c]).contains (l.take 1) then l.take 1 else [] := by
  unfold sgOf
  rw [sgs_eq, List.find?_append, find_pre 2 l twos (by decide), find_pre 1 l (chs.map fun c => [c]) (by decide)]
  split
  · rfl
  · split <;> rfl
theorem chs_contains (a : UInt8) : (chs.map fun c => [c]).contains [a] = chs.contains a := by
  simp [chs]
theorem contains_index (c : UInt8) : ∀ l : List UInt8, l.contains c = decide (0 ≤ Lib.indexByte l c)
  | [] => rfl
  | b :: l => by
    have ih := contains_index c l
    have hg := Lib.indexByte_ge l c
    have hc : Lib.indexByte (b :: l) c = if b == c then 0 else if Lib.indexByte l c == -1 then -1 else Lib.indexByte l c + 1 := rfl
    rw [List.contains_cons, ih, hc]
    by_cases h : b = c
    · subst h; simp
    · have h1 : (b == c) = false := by simpa using h
      have h2 : (c == b) = false := by simpa using Ne.symm h
      rw [h1, h2]
      simp only [Bool.false_or, Bool.false_eq_true, if_false, decide_eq_decide]
      by_cases h3 : Lib.indexByte l c = -1
      · simp [h3]
      · rw [if_neg (by simpa using h3)]
        omega
end Go.Proofs.YtmnacfdbjlfooaaDoor.Tk
