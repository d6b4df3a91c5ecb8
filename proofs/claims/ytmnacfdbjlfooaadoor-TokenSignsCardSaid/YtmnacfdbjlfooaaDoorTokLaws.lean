/-
  Plain laws of the token layer's functions over lists of bytes. No program in sight.
-/
import Derived.Test.YtmnacfdbjlfooaaDoorTokPlain
import Derived.Laws.Strings
namespace Go.Proofs.YtmnacfdbjlfooaaDoor.Tk

theorem takeWhile_len (p : UInt8 → Bool) : ∀ (l : List UInt8) (n : Nat), n ≤ l.length → (∀ j (h : j < l.length), j < n → p l[j] = true) → (∀ h : n < l.length, p l[n] = false) → (l.takeWhile p).length = n
  | [], n, hn, _, _ => by simp at hn; simp [hn]
  | c :: l, 0, _, _, h2 => by
    have := h2 (by simp)
    simp only [List.getElem_cons_zero] at this
    simp [this]
  | c :: l, n + 1, hn, h1, h2 => by
    have h0 := h1 0 (by simp) (by omega)
    simp only [List.getElem_cons_zero] at h0
    rw [List.takeWhile_cons, if_pos h0, List.length_cons]
    congr 1
    refine takeWhile_len p l n (by simpa using hn) (fun j h hj => ?_) (fun h => ?_)
    · have := h1 (j + 1) (by simpa using h) (by omega)
      simpa using this
    · have := h2 (by simpa using h)
      simpa using this

theorem take_takeWhile (p : UInt8 → Bool) : ∀ (l : List UInt8), l.take (l.takeWhile p).length = l.takeWhile p
  | [] => rfl
  | c :: l => by
    rw [List.takeWhile_cons]
    split
    · simp [take_takeWhile p l]
    · rfl
theorem drop_takeWhile (p : UInt8 → Bool) : ∀ (l : List UInt8), l.drop (l.takeWhile p).length = l.dropWhile p
  | [] => rfl
  | c :: l => by
    rw [List.takeWhile_cons, List.dropWhile_cons]
    split
    · simp [drop_takeWhile p l]
    · rfl

theorem length_tw (p : UInt8 → Bool) : ∀ l : List UInt8, (l.takeWhile p).length ≤ l.length
  | [] => Nat.le_refl _
  | c :: l => by
    rw [List.takeWhile_cons]
    have := length_tw p l
    split <;> simp <;> omega

theorem indexByte_eq (c : UInt8) : ∀ l : List UInt8, Lib.indexByte l c = if (l.takeWhile (· != c)).length < l.length then ((l.takeWhile (· != c)).length : Int) else -1
  | [] => rfl
  | b :: l => by
    unfold Lib.indexByte
    rw [indexByte_eq c l, List.takeWhile_cons]
    by_cases h : b = c
    · subst h; simp
    · have h1 : (b == c) = false := by simpa using h
      have h2 : (b != c) = true := by simpa using h
      rw [h1, h2, if_pos rfl, if_neg (by simp), List.length_cons, List.length_cons]
      generalize (l.takeWhile (· != c)).length = n
      by_cases h3 : n < l.length
      · have h4 : n + 1 < l.length + 1 := by omega
        have h5 : ((n : Int) == -1) = false := by simp
        simp [h3, h5]
      · have h4 : ¬ n + 1 < l.length + 1 := by omega
        simp [h3]

/-- Where a comment ends. -/
def cmt (l : List UInt8) : Nat := (l.takeWhile (· != 10)).length
theorem cmt_le (l : List UInt8) : cmt l ≤ l.length := length_tw _ _
theorem cmt_ge (l : List UInt8) (h : 0 ≤ Lib.indexByte l 10) : Lib.indexByte l 10 = cmt l := by
  rw [indexByte_eq] at h ⊢
  by_cases h3 : (l.takeWhile (· != 10)).length < l.length
  · rw [if_pos h3]; rfl
  · rw [if_neg h3] at h; omega
theorem cmt_lt (l : List UInt8) (h : Lib.indexByte l 10 < 0) : l.length = cmt l := by
  rw [indexByte_eq] at h
  by_cases h3 : (l.takeWhile (· != 10)).length < l.length
  · rw [if_pos h3] at h; omega
  · have := length_tw (· != 10) l
    unfold cmt; omega

/-- Leading zeros cut off. -/
def SameTrim (t s : ByteArray) : Prop := t.data.toList.dropWhile (· == 48) = s.data.toList.dropWhile (· == 48)
theorem SameTrim.refl (s : ByteArray) : SameTrim s s := rfl
theorem data_cons (t : ByteArray) (h : 0 < t.size) : t.data.toList = t[0] :: t.data.toList.drop 1 := by
  have h' : 0 < t.data.toList.length := by rw [← Lib.size_eq]; exact h
  have := List.drop_eq_getElem_cons h'
  rw [List.drop_zero] at this
  exact this
theorem SameTrim.step {t s : ByteArray} (h : SameTrim t s) (h0 : 0 < t.size) (he : t[0] = 48) : SameTrim (t.extract 1 t.size) s := by
  unfold SameTrim at h ⊢
  rw [Lib.extract_data, ← h]
  conv => rhs; rw [data_cons t h0]
  rw [List.dropWhile_cons, if_pos (by rw [he]; rfl), List.take_of_length_le (by simp)]
theorem SameTrim.done {t s : ByteArray} (h : SameTrim t s) (he : ∀ h0 : 0 < t.size, t[0] ≠ 48) : t = ⟨(s.data.toList.dropWhile (· == 48)).toArray⟩ := by
  unfold SameTrim at h
  rw [← h]
  have e : t.data.toList.dropWhile (· == 48) = t.data.toList := by
    by_cases h0 : 0 < t.size
    · rw [data_cons t h0, List.dropWhile_cons, if_neg (by simpa using he h0)]
    · have : t.data.toList.length = 0 := by rw [← Lib.size_eq]; omega
      rw [List.eq_nil_of_length_eq_zero this]; rfl
  rw [e]
end Go.Proofs.YtmnacfdbjlfooaaDoor.Tk
