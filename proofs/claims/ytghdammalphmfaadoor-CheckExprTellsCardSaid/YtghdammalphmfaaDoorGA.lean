/-
  Plain functions of the token layer: what a text's tokens are, over lists of bytes. No program in sight.
  Plain laws of the token layer's functions over lists of bytes. No program in sight.
  Contracts of the leaf functions of the token layer and of what of package strings it calls.
  The table of keywords in memory, and token.IsKeyword's contract.
  Contract of token.IsName.
  Contracts of the reference's Keywords, Signs, IsKeyword, IsName, Number, signAt.
-/
import Derived.Lib.Strings
import Derived.Lib.Bytealg
import Derived.Lib.TrimByte
import Derived.Laws.Strings
import Derived.Test.YtghdammalphmfaaDoorChecked
import Derived.WalkKit
import Derived.WalkSpells
import Derived.WalkLawsBesides
import Derived.Lib.Walk
import Derived.Lib.Hide
import Derived.Deep.Light
import Derived.Deep.QuietTactic
import Derived.BigQuiet
import Derived.Laws.RangeAny
section
namespace Go.Proofs.YtghdammalphmfaaDoor.Tk

/-- A letter, a digit, an inner sign of a word: of a byte's number. -/
def lttI (c : Int) : Bool := (decide (97 ≤ c) && decide (c ≤ 122)) || (decide (65 ≤ c) && decide (c ≤ 90))
def digI (c : Int) : Bool := decide (48 ≤ c) && decide (c ≤ 57)
def innI (c : Int) : Bool := (lttI c || digI c) || c == 95
def isL (c : UInt8) : Bool := lttI c.toNat
def isD (c : UInt8) : Bool := digI c.toNat
def isI (c : UInt8) : Bool := innI c.toNat

/-- The keywords. -/
def kws : List (List UInt8) := [[118, 97, 114], [118, 111, 108, 97, 116, 105, 108, 101], [109, 117, 116, 101, 120], [114, 119, 108, 111, 99, 107], [99, 111, 110, 100], [102, 117, 116, 117, 114, 101], [116, 104, 114, 101, 97, 100], [105, 102], [101, 108, 115, 101], [119, 104, 105, 108, 101], [108, 111, 99, 107], [114, 101, 97, 100], [119, 114, 105, 116, 101], [116, 114, 97, 110, 115, 97, 99, 116, 105, 111, 110], [97, 116, 111, 109, 105, 99], [119, 97, 105, 116], [110, 111, 116, 105, 102, 121], [110, 111, 116, 105, 102, 121, 97, 108, 108], [115, 112, 97, 119, 110], [106, 111, 105, 110], [115, 101, 116], [103, 101, 116]]
def isKw (l : List UInt8) : Bool := kws.contains l

/-- The signs, the longer ones first. -/
def sgs : List (List UInt8) := [[124, 124], [38, 38], [61, 61], [33, 61], [60, 61], [62, 61], [60], [62], [43], [45], [42], [47], [37], [33], [61], [40], [41], [91], [93], [123], [125], [44], [59]]
def sgOf (l : List UInt8) : List UInt8 := (sgs.find? fun g => g.isPrefixOf l).getD []

/-- The value of decimal digits. -/
def val (l : List UInt8) : Nat := l.foldl (fun n c => 10 * n + (c.toNat - 48)) 0
def numOk (l : List UInt8) : Bool := decide (val l ≤ 9223372036854775807)

/-- A name. -/
def isNm (l : List UInt8) : Bool := (decide (1 ≤ l.length) && decide (l.length ≤ 12) && !isKw l) && (l.head?.any isL && l.all isI)

/-- A token: its kind, its text, its line. -/
structure Tok where
  kind : Nat
  text : List UInt8
  line : Nat

/-- The first token of a text that begins with none of the blanks: an error, or a kind and a text. -/
def wordR (l : List UInt8) : Nat × Nat × List UInt8 :=
  if 12 < (l.takeWhile isI).length then (2, 0, []) else (0, if isKw (l.takeWhile isI) then 3 else 1, l.takeWhile isI)
def numR (l : List UInt8) : Nat × Nat × List UInt8 :=
  if ((l.dropWhile isD).head?.any isI) || !numOk (l.takeWhile isD) then (3, 0, []) else (0, 2, l.takeWhile isD)
def sgnR (l : List UInt8) : Nat × Nat × List UInt8 :=
  if (sgOf l).isEmpty then (3, 0, []) else (0, 4, sgOf l)
def first (l : List UInt8) : Nat × Nat × List UInt8 :=
  if isL (l.headD 0) then wordR l else if isD (l.headD 0) then numR l else sgnR l

/-- The tokens of a text from a line on, behind those that were read: the tokens, the error, its line. -/
def scanA : Nat → List UInt8 → Nat → List Tok → List Tok × Nat × Nat
  | _, [], _, acc => (acc, 0, 0)
  | 0, _ :: _, _, acc => (acc, 0, 0)
  | f + 1, c :: r, line, acc =>
    if c = 10 then scanA f r (line + 1) acc
    else if c = 32 ∨ c = 9 ∨ c = 13 then scanA f r line acc
    else if [47, 47].isPrefixOf (c :: r) then scanA f ((c :: r).dropWhile (· != 10)) line acc
    else if (first (c :: r)).1 = 0 then scanA f ((c :: r).drop (first (c :: r)).2.2.length) line (acc ++ [⟨(first (c :: r)).2.1, (first (c :: r)).2.2, line⟩])
    else ([], (first (c :: r)).1, line)

def scan (l : List UInt8) : List Tok × Nat × Nat :=
  if 4096 < l.length then ([], 2, 0) else scanA l.length l 1 []

/-- The cells of tokens in memory. -/
def Tok.cells (t : Tok) : List Value := [.int .i64 t.kind, .string ⟨t.text.toArray⟩, .int .i64 t.line]
def cellsOf (l : List Tok) : List Value := l.flatMap Tok.cells

end Go.Proofs.YtghdammalphmfaaDoor.Tk
end
section
namespace Go.Proofs.YtghdammalphmfaaDoor.Tk

theorem takeWhile_len (p : UInt8 → Bool) : ∀ (l : List UInt8) (n : Nat), n ≤ l.length → (∀ j (h : j < l.length), j < n → p l[j] = true) → (∀ h : n < l.length, p l[n] = false) → (l.takeWhile p).length = n
  | [], n, hn, _, _ => by simp at hn; simp [hn]
  | c :: l, 0, _, _, h2 => by
    have := h2 (by simp)
    simp only [List.getElem_cons_zero] at this
    simp [this]
  | c :: l, n + 1, hn, h1, h2 => by
    have h0 := h1 0 (by simp) (by omega)
    simp only [List.getElem_cons_zero] at h0
    rw [List.takeWhile_cons, if_pos h0, List.length_cons]
    congr 1
    refine takeWhile_len p l n (by simpa using hn) (fun j h hj => ?_) (fun h => ?_)
    · have := h1 (j + 1) (by simpa using h) (by omega)
      simpa using this
    · have := h2 (by simpa using h)
      simpa using this

theorem take_takeWhile (p : UInt8 → Bool) : ∀ (l : List UInt8), l.take (l.takeWhile p).length = l.takeWhile p
  | [] => rfl
  | c :: l => by
    rw [List.takeWhile_cons]
    split
    · simp [take_takeWhile p l]
    · rfl
theorem drop_takeWhile (p : UInt8 → Bool) : ∀ (l : List UInt8), l.drop (l.takeWhile p).length = l.dropWhile p
  | [] => rfl
  | c :: l => by
    rw [List.takeWhile_cons, List.dropWhile_cons]
    split
    · simp [drop_takeWhile p l]
    · rfl

theorem length_tw (p : UInt8 → Bool) : ∀ l : List UInt8, (l.takeWhile p).length ≤ l.length
  | [] => Nat.le_refl _
  | c :: l => by
    rw [List.takeWhile_cons]
    have := length_tw p l
    split <;> simp <;> omega

theorem indexByte_eq (c : UInt8) : ∀ l : List UInt8, Lib.indexByte l c = if (l.takeWhile (· != c)).length < l.length then ((l.takeWhile (· != c)).length : Int) else -1
  | [] => rfl
  | b :: l => by
    unfold Lib.indexByte
    rw [indexByte_eq c l, List.takeWhile_cons]
    by_cases h : b = c
    · subst h; simp
    · have h1 : (b == c) = false := by simpa using h
      have h2 : (b != c) = true := by simpa using h
      rw [h1, h2, if_pos rfl, if_neg (by simp), List.length_cons, List.length_cons]
      generalize (l.takeWhile (· != c)).length = n
      by_cases h3 : n < l.length
      · have h4 : n + 1 < l.length + 1 := by omega
        have h5 : ((n : Int) == -1) = false := by simp
        simp [h3, h5]
      · have h4 : ¬ n + 1 < l.length + 1 := by omega
        simp [h3]

/-- Where a comment ends. -/
def cmt (l : List UInt8) : Nat := (l.takeWhile (· != 10)).length
theorem cmt_le (l : List UInt8) : cmt l ≤ l.length := length_tw _ _
theorem cmt_ge (l : List UInt8) (h : 0 ≤ Lib.indexByte l 10) : Lib.indexByte l 10 = cmt l := by
  rw [indexByte_eq] at h ⊢
  by_cases h3 : (l.takeWhile (· != 10)).length < l.length
  · rw [if_pos h3]; rfl
  · rw [if_neg h3] at h; omega
theorem cmt_lt (l : List UInt8) (h : Lib.indexByte l 10 < 0) : l.length = cmt l := by
  rw [indexByte_eq] at h
  by_cases h3 : (l.takeWhile (· != 10)).length < l.length
  · rw [if_pos h3] at h; omega
  · have := length_tw (· != 10) l
    unfold cmt; omega

/-- Leading zeros cut off. -/
def SameTrim (t s : ByteArray) : Prop := t.data.toList.dropWhile (· == 48) = s.data.toList.dropWhile (· == 48)
theorem SameTrim.refl (s : ByteArray) : SameTrim s s := rfl
theorem data_cons (t : ByteArray) (h : 0 < t.size) : t.data.toList = t[0] :: t.data.toList.drop 1 := by
  have h' : 0 < t.data.toList.length := by rw [← Lib.size_eq]; exact h
  have := List.drop_eq_getElem_cons h'
  rw [List.drop_zero] at this
  exact this
theorem SameTrim.step {t s : ByteArray} (h : SameTrim t s) (h0 : 0 < t.size) (he : t[0] = 48) : SameTrim (t.extract 1 t.size) s := by
  unfold SameTrim at h ⊢
  rw [Lib.extract_data, ← h]
  conv => rhs; rw [data_cons t h0]
  rw [List.dropWhile_cons, if_pos (by rw [he]; rfl), List.take_of_length_le (by simp)]
theorem SameTrim.done {t s : ByteArray} (h : SameTrim t s) (he : ∀ h0 : 0 < t.size, t[0] ≠ 48) : t = ⟨(s.data.toList.dropWhile (· == 48)).toArray⟩ := by
  unfold SameTrim at h
  rw [← h]
  have e : t.data.toList.dropWhile (· == 48) = t.data.toList := by
    by_cases h0 : 0 < t.size
    · rw [data_cons t h0, List.dropWhile_cons, if_neg (by simpa using he h0)]
    · have : t.data.toList.length = 0 := by rw [← Lib.size_eq]; omega
      rw [List.eq_nil_of_length_eq_zero this]; rfl
  rw [e]
end Go.Proofs.YtghdammalphmfaaDoor.Tk
end
section
namespace Go.Proofs.YtghdammalphmfaaDoor
open Go.RowKit

theorem Letter_any (c : Int) (w : World) :
    Calls Tryd.prog 62 #[.int .u8 c] w fun e w' => e = .returned (.bool (Tk.lttI c)) ∧ w = w' := by
  unfold Tk.lttI
  go_enter Tryd.func62, Tryd.ntmps62
  go_wp2
  all_goals go_ret
  all_goals first | (simp [*]; done) | (simp [*]; omega)

theorem Digit_any (c : Int) (w : World) :
    Calls Tryd.prog 77 #[.int .u8 c] w fun e w' => e = .returned (.bool (Tk.digI c)) ∧ w = w' := by
  unfold Tk.digI
  go_enter Tryd.func77, Tryd.ntmps77
  go_wp2
  all_goals go_ret
  all_goals first | (simp [*]; done) | (simp [*]; omega)

theorem inner_any (c : Int) (w : World) :
    Calls Tryd.prog 64 #[.int .u8 c] w fun e w' => e = .returned (.bool (Tk.innI c)) ∧ w = w' := by
  unfold Tk.innI
  go_enter Tryd.func64, Tryd.ntmps64
  go_wp2_with (first | (go_at_call 62; refine (Letter_any _ _).mono ?_; rintro e w' ⟨rfl, rfl⟩) | (go_at_call 77; refine (Digit_any _ _).mono ?_; rintro e w' ⟨rfl, rfl⟩))
  all_goals go_ret
  all_goals first | (simp [*]; done) | (simp [*]; omega)

end Go.Proofs.YtghdammalphmfaaDoor
end
section
namespace Go.Proofs.YtghdammalphmfaaDoor
open Go.RowKit

def kwL (k : Nat) : List UInt8 := Tk.kws.getD k []
def kwAt (k : Nat) : ByteArray := ⟨(kwL k).toArray⟩
theorem kwL_eq (k : Nat) (h : k < Tk.kws.length) : kwL k = Tk.kws[k] := by unfold kwL; simp [h]
theorem ret_bool {a b : Bool} (h : a = b) : Ending.returned (.bool a) = .returned (.bool b) := by rw [h]
theorem ret_int {k : IntKind} {a b : Int} (h : a = b) : Ending.returned (.int k a) = .returned (.int k b) := by rw [h]
def kwCells : Array Value := (Tk.kws.map fun l => Value.string ⟨l.toArray⟩).toArray
/-- The variable holds the keywords. -/
def KwLaid (w : World) : Prop := ∃ t fr, w.heap[0]? = some (.cells kwCells t fr)

theorem KwLaid.below {B : Nat} {w w' : World} (h : KwLaid w) (hb : Below B w w') (hB : 0 < B) : KwLaid w' := by
  obtain ⟨t, fr, h⟩ := h
  exact ⟨t, fr, (hb.block _ hB).trans h⟩
theorem KwLaid.lt {w : World} (h : KwLaid w) : 0 < w.heap.size := by
  obtain ⟨t, fr, h⟩ := h
  exact (Array.getElem?_eq_some_iff.1 h).1
theorem KwLaid.same {w w' : World} (h : KwLaid w) (hb : Below w.heap.size w w') : KwLaid w' := h.below hb h.lt
theorem KwLaid.alloc {w : World} (h : KwLaid w) (o : Obj) : KwLaid (w.alloc o) := h.same ((Below.refl _ _).alloc (Nat.le_refl _) o)

theorem kw_index (k : Nat) (hk : k < 22) (w : World) : (Instr.index 104 (.agg kwCells) (.int .i64 (k : Int))).run Tryd.prog w = .ok (.string (kwAt k)) w := by
  rcases (show k = 0 ∨ k = 1 ∨ k = 2 ∨ k = 3 ∨ k = 4 ∨ k = 5 ∨ k = 6 ∨ k = 7 ∨ k = 8 ∨ k = 9 ∨ k = 10 ∨ k = 11 ∨ k = 12 ∨ k = 13 ∨ k = 14 ∨ k = 15 ∨ k = 16 ∨ k = 17 ∨ k = 18 ∨ k = 19 ∨ k = 20 ∨ k = 21 by omega) with rfl | rfl | rfl | rfl | rfl | rfl | rfl | rfl | rfl | rfl | rfl | rfl | rfl | rfl | rfl | rfl | rfl | rfl | rfl | rfl | rfl | rfl <;> kernel_rfl

theorem kwAt_toList (k : Nat) : (kwAt k).toList = kwL k := by
  unfold kwAt; rw [Lib.toList_data]
theorem kw_yes (k : Nat) (hk : k < 22) (l : List UInt8) (h : (l == kwL k) = true) : Tk.isKw l = true := by
  have hl : Tk.kws.length = 22 := rfl
  unfold Tk.isKw
  rw [List.contains_iff_mem, show l = kwL k from by simpa using h, kwL_eq _ (by omega)]
  exact List.getElem_mem _
theorem kw_no (l : List UInt8) (h : ∀ k < 22, (l == kwL k) = false) : Tk.isKw l = false := by
  have hl : Tk.kws.length = 22 := rfl
  unfold Tk.isKw
  rw [Bool.eq_false_iff]
  intro hc
  rw [List.contains_iff_mem] at hc
  obtain ⟨k, hk, e⟩ := List.getElem_of_mem hc
  have := h k (by omega)
  rw [kwL_eq _ hk, e] at this
  simp at this

def NoKw (l : List UInt8) (k : Nat) : Prop := ∀ j < k, (l == kwL j) = false
theorem NoKw.step {l : List UInt8} {k : Nat} (h : NoKw l k) (hk : (l == kwL k) = false) : NoKw l (k + 1) := by
  intro j hj
  by_cases e : j = k
  · subst e; exact hk
  · exact h j (by omega)

set_option maxHeartbeats 400000 in
theorem IsKeyword_any (s : ByteArray) (w : World) (h : KwLaid w) :
    Calls Tryd.prog 66 #[.string s] w fun e w' => e = .returned (.bool (Tk.isKw s.data.toList)) ∧ w = w' := by
  obtain ⟨t, fr, hg⟩ := h
  rw [← Lib.toList_data]
  go_enter Tryd.func66, Tryd.ntmps66
  go_wp2_with (refine wpList_load_row rfl 104 _ rfl 0 rfl t _ fr _ hg Tryd.underlying104 rfl (by kernel_rfl) ?_)
  clear hg
  go_loop [6] (fun i => ∃ k : Nat, k ≤ 22 ∧ i = .int .i64 k ∧ NoKw s.toList k) (fun i => 22 - (intOf i).toNat)
  case atStart => exact ⟨0, Nat.zero_le _, rfl, fun j hj => absurd hj (by omega)⟩
  case round =>
    obtain ⟨k, hk, rfl, hno⟩ := hrel
    by_cases hlt : k < 22
    · have hix := kw_index k hlt
      have hat := kwAt_toList k
      by_cases he : (s.toList == kwL k) = true
      · go_wp2
        go_ret
        exact ⟨ret_bool (kw_yes k hlt _ he).symm, rfl⟩
      · have he' : (s.toList == kwL k) = false := by simpa using he
        clear he
        go_wp2
        go_round
        case rel => exact ⟨k + 1, by omega, by go_num, hno.step he'⟩
        case measure => simp [intOf]; omega
    · obtain rfl : k = 22 := by omega
      go_wp2
      go_ret
      exact ⟨ret_bool (kw_no _ hno).symm, rfl⟩
end Go.Proofs.YtghdammalphmfaaDoor
end
section
namespace Go.Proofs.YtghdammalphmfaaDoor
open Go.RowKit

theorem isL_at (c : UInt8) (b : Bool) (h : Tk.isL c = b) : Tk.lttI (c.toNat : Int) = b := h
theorem isD_at (c : UInt8) (b : Bool) (h : Tk.isD c = b) : Tk.digI (c.toNat : Int) = b := h
theorem isI_or (c : UInt8) : Tk.isI c = ((Tk.isL c || Tk.isD c) || ((c.toNat : Int) == 95)) := rfl
theorem isI_of_L (c : UInt8) (h : Tk.isL c = true) : Tk.isI c = true := by rw [isI_or, h]; rfl
theorem isI_parts (c : UInt8) : (Tk.isI c = true ∧ Tk.lttI (c.toNat : Int) = true) ∨ (Tk.isI c = true ∧ Tk.lttI (c.toNat : Int) = false ∧ Tk.digI (c.toNat : Int) = true) ∨
    (Tk.isI c = true ∧ Tk.lttI (c.toNat : Int) = false ∧ Tk.digI (c.toNat : Int) = false ∧ ((c.toNat : Int) == 95) = true) ∨
    (Tk.isI c = false ∧ Tk.lttI (c.toNat : Int) = false ∧ Tk.digI (c.toNat : Int) = false ∧ ((c.toNat : Int) == 95) = false) := by
  have e : Tk.isI c = ((Tk.lttI (c.toNat : Int) || Tk.digI (c.toNat : Int)) || ((c.toNat : Int) == 95)) := rfl
  rw [e]
  cases Tk.lttI (c.toNat : Int) <;> cases Tk.digI (c.toNat : Int) <;> cases ((c.toNat : Int) == 95) <;> simp
/-- A sign of a name at a place. -/
def nmAt (s : ByteArray) (j : Nat) (h : j < s.size) : Bool := if j = 0 then Tk.isL s[j] else Tk.isI s[j]
def NmOk (s : ByteArray) (k : Nat) : Prop := ∀ j (h : j < s.size), j < k → nmAt s j h = true
theorem NmOk.step {s : ByteArray} {k : Nat} (h : NmOk s k) (hk : k < s.size) (hp : nmAt s k hk = true) : NmOk s (k + 1) := by
  intro j hj hjk
  by_cases e : j = k
  · subst e; exact hp
  · exact h j hj (by omega)
def nmB (l : List UInt8) : Bool := l.head?.any Tk.isL && l.all Tk.isI
theorem nm_yes (s : ByteArray) (h0 : 0 < s.size) (h : NmOk s s.size) : nmB s.data.toList = true := by
  unfold nmB
  rw [Bool.and_eq_true]
  constructor
  · have := h 0 h0 h0
    unfold nmAt at this
    rw [if_pos rfl] at this
    rw [Tk.data_cons s h0]
    exact this
  · rw [List.all_eq_true]
    intro c hc
    obtain ⟨j, hj, rfl⟩ := List.getElem_of_mem hc
    have hj' : j < s.size := by rw [Lib.size_eq]; exact hj
    have := h j hj' hj'
    unfold nmAt at this
    split at this
    · exact isI_of_L _ this
    · exact this
theorem nm_no (s : ByteArray) (k : Nat) (hk : k < s.size) (h : nmAt s k hk = false) : nmB s.data.toList = false := by
  unfold nmB
  unfold nmAt at h
  split at h
  · rename_i e
    subst e
    have h1 : s.data.toList.head?.any Tk.isL = false := by rw [Tk.data_cons s hk]; exact h
    rw [h1]; rfl
  · have h1 : s.data.toList.all Tk.isI = false := by
      rw [List.all_eq_false]
      exact ⟨s[k], List.getElem_mem (by rw [← Lib.size_eq]; exact hk), by rw [h]; decide⟩
    rw [h1, Bool.and_false]
theorem isNm_eq (l : List UInt8) : Tk.isNm l = ((decide (1 ≤ l.length) && decide (l.length ≤ 12) && !Tk.isKw l) && nmB l) := rfl

/-- The tests of a place, as the walk asks them of the rune there. -/
theorem nm_parts (s : ByteArray) (k : Nat) (hk : k < s.size) (r : Int) (hr : (s[k].toNat < 128 ∧ r = (s[k].toNat : Int)) ∨ (128 ≤ s[k].toNat ∧ 128 ≤ r)) :
    (nmAt s k hk = true ∧ s[k].toNat < 128 ∧ ((97 ≤ r ∧ r ≤ 122) ∨ (65 ≤ r ∧ r ≤ 90))) ∨
    (nmAt s k hk = true ∧ s[k].toNat < 128 ∧ 0 < k ∧ (r = 95 ∨ (48 ≤ r ∧ r ≤ 57))) ∨
    (nmAt s k hk = false ∧ ¬ (97 ≤ r ∧ r ≤ 122) ∧ ¬ (65 ≤ r ∧ r ≤ 90) ∧ (k = 0 ∨ (0 < k ∧ r ≠ 95 ∧ ¬ (48 ≤ r ∧ r ≤ 57)))) := by
  unfold nmAt Tk.isI Tk.isL Tk.innI Tk.lttI Tk.digI
  have hc := s[k].toNat_lt
  generalize s[k].toNat = c at *
  by_cases h1 : 97 ≤ (c : Int) ∧ (c : Int) ≤ 122
  · left; simp [h1]; omega
  · by_cases h2 : 65 ≤ (c : Int) ∧ (c : Int) ≤ 90
    · left; simp [h2]; omega
    · by_cases h0 : k = 0
      · right; right; simp [h0]; omega
      · by_cases h3 : (c : Int) = 95 ∨ (48 ≤ (c : Int) ∧ (c : Int) ≤ 57)
        · right; left
          rw [if_neg h0]
          refine ⟨?_, by omega, by omega, by omega⟩
          simp only [Bool.or_eq_true, Bool.and_eq_true, decide_eq_true_eq, beq_iff_eq]
          omega
        · right; right
          rw [if_neg h0]
          refine ⟨?_, by omega, by omega, by omega⟩
          rw [Bool.eq_false_iff]
          simp only [ne_eq, Bool.or_eq_true, Bool.and_eq_true, decide_eq_true_eq, beq_iff_eq]
          omega

def IterAt (w : World) (s : ByteArray) (k : Nat) (wr : World) : Prop := wr = w.iter s k
theorem iter_below (w : World) (s : ByteArray) (k : Nat) : Below w.heap.size w (w.iter s k) := (Below.refl _ _).alloc (Nat.le_refl _) _

set_option maxHeartbeats 2000000 in
theorem IsName_any (s : ByteArray) (w : World) (hkw : KwLaid w) (hm : s.size ≤ maxLen) :
    Calls Tryd.prog 49 #[.string s] w fun e w' => e = .returned (.bool (Tk.isNm s.data.toList)) ∧ Below w.heap.size w w' := by
  have HN := Lib.hid (isNm_eq s.data.toList)
  rw [← Lib.size_eq] at HN
  unfold maxLen at hm
  by_cases h1 : s.size < 1
  · have HR : Hid (Tk.isNm s.data.toList = false) := by
      apply Lib.hid; rw [HN.out, show decide (1 ≤ s.size) = false from decide_eq_false (by omega)]; rfl
    clear HN
    go_enter Tryd.func49, Tryd.ntmps49
    go_wp2
    go_ret
    exact ⟨ret_bool HR.out.symm, Below.refl _ _⟩
  · by_cases h2 : 12 < s.size
    · have HR : Hid (Tk.isNm s.data.toList = false) := by
        apply Lib.hid; rw [HN.out, show decide (s.size ≤ 12) = false from by simp; omega]; simp
      clear HN
      go_enter Tryd.func49, Tryd.ntmps49
      go_wp2
      go_ret
      exact ⟨ret_bool HR.out.symm, Below.refl _ _⟩
    · cases hK : Tk.isKw s.data.toList
      · have HR : Hid (Tk.isNm s.data.toList = nmB s.data.toList) := by
          apply Lib.hid; rw [HN.out, hK, show decide (s.size ≤ 12) = true from by simp; omega, show decide (1 ≤ s.size) = true from by simp; omega]; rfl
        clear HN
        go_enter Tryd.func49, Tryd.ntmps49
        go_wp2_with (go_at_call 66; refine (IsKeyword_any _ _ hkw).mono ?_; rintro e w' ⟨rfl, rfl⟩)
        go_loopw [3] (fun _ wr => ∃ k : Nat, k ≤ s.size ∧ IterAt w s k wr ∧ NmOk s k) (fun _ wr => s.size - wr.iterPos w.heap.size)
        case atStart => exact ⟨0, Nat.zero_le _, rfl, fun j hj h => absurd h (by omega)⟩
        case round =>
          obtain ⟨k, hk, hit, hok⟩ := hrel
          obtain rfl : wr = w.iter s k := hit
          by_cases hlt : k < s.size
          · have hnx := fun ty => run_next_any (P := Tryd.prog) w s k ty hlt
            have hrr : (s[k].toNat < 128 ∧ ((Utf8.decode s k).1 : Int) = (s[k].toNat : Int)) ∨ (128 ≤ s[k].toNat ∧ 128 ≤ ((Utf8.decode s k).1 : Int)) := by
              by_cases ha : s[k].toNat < 128
              · left; exact ⟨ha, by rw [decode_ascii s k hlt ha]⟩
              · right; have := decode_high s k hlt (by omega); omega
            have hle := decode_le s k
            have HD : Hid (s[k].toNat < 128 → (Utf8.decode s k).2 = 1) := Lib.hid fun ha => by rw [decode_ascii s k hlt ha]
            have parts := nm_parts s k hlt _ hrr
            clear hrr hK
            generalize (Utf8.decode s k).1 = r at *
            generalize (Utf8.decode s k).2 = z at *
            rcases parts with ⟨hn, ha, hc⟩ | ⟨hn, ha, hk0, hc⟩ | ⟨hn, hA, hB, hC⟩
            · have hst := hok.step hlt hn
              obtain rfl : z = 1 := HD.out ha
              clear hn HD
              rcases hc with ⟨q1, q2⟩ | ⟨q1, q2⟩
              all_goals
                go_wp2
                go_roundw
                case rel => exact ⟨k + 1, by omega, rfl, hst⟩
                case measure => simp; omega
            · have hst := hok.step hlt hn
              obtain rfl : z = 1 := HD.out ha
              clear hn HD
              rcases hc with q1 | ⟨q1, q2⟩
              · have q3 : ((r : Int) == 95) = true := by rw [q1]; rfl
                have q4 : 95 ≤ (r : Int) := by omega
                have q5 : (r : Int) ≤ 95 := by omega
                clear q1
                go_wp2
                go_roundw
                case rel => exact ⟨k + 1, by omega, rfl, hst⟩
                case measure => simp; omega
              · have q3 : ((r : Int) == 95) = false := by rw [beq_eq_false_iff_ne]; omega
                go_wp2
                go_roundw
                case rel => exact ⟨k + 1, by omega, rfl, hst⟩
                case measure => simp; omega
            · have HF := Lib.hid (nm_no s k hlt hn)
              clear hn HD
              rcases hC with h0 | ⟨hk0, q1, q2⟩
              · obtain rfl : k = 0 := h0
                go_wp2
                all_goals go_ret
                all_goals exact ⟨ret_bool (HR.out.trans HF.out).symm, iter_below _ _ _⟩
              · have q3 : ((r : Int) == 95) = false := by rw [beq_eq_false_iff_ne]; exact q1
                clear q1
                go_wp2
                all_goals go_ret
                all_goals exact ⟨ret_bool (HR.out.trans HF.out).symm, iter_below _ _ _⟩
          · obtain rfl : k = s.size := by omega
            have hnx := fun ty => run_next_end (P := Tryd.prog) w s s.size ty (by omega)
            have HT := Lib.hid (nm_yes s (by omega) hok)
            go_wp2
            go_ret
            exact ⟨ret_bool (HR.out.trans HT.out).symm, iter_below _ _ _⟩
      · have HR : Hid (Tk.isNm s.data.toList = false) := by
          apply Lib.hid; rw [HN.out, hK]; simp
        clear HN
        go_enter Tryd.func49, Tryd.ntmps49
        go_wp2_with (go_at_call 66; refine (IsKeyword_any _ _ hkw).mono ?_; rintro e w' ⟨rfl, rfl⟩)
        go_ret
        exact ⟨ret_bool HR.out.symm, Below.refl _ _⟩
end Go.Proofs.YtghdammalphmfaaDoor
end
section
namespace Go.Proofs.YtghdammalphmfaaDoor
open Go.RowKit

def kwCellsL : List Value := Tk.kws.map fun l => Value.string ⟨l.toArray⟩
theorem kwCellsL_at (k : Nat) (h : k < 22) : kwCellsL[k]? = some (.string (kwAt k)) := by
  have hl : Tk.kws.length = 22 := rfl
  unfold kwCellsL kwAt
  rw [List.getElem?_map, List.getElem?_eq_getElem (by omega), kwL_eq k (by omega)]
  rfl

set_option maxRecDepth 100000 in
theorem Keywords_any (w : World) :
    Calls Tryd.prog 76 #[] w fun e w' => e = .returned (.slice (some ⟨w.heap.size, 0, none⟩) 22 22) ∧ w.alloc (.cells kwCellsL.toArray 9) = w' := by
  go_enter Tryd.func76, Tryd.ntmps76
  go_wp2
  go_ret
  exact ⟨rfl, rfl⟩
theorem laid_cell (w : World) (cs : List Value) (t : TypeId) (k : Nat) : (w.alloc (.cells cs.toArray t)).cell? ⟨w.heap.size, k, none⟩ = cs[k]? := by
  rw [cell_of_row _ w.heap.size k cs.toArray t (0, 0) (heap_alloc_new w _)]
  simp

set_option maxHeartbeats 400000 in
theorem RefIsKeyword_any (s : ByteArray) (w : World) :
    Calls Tryd.prog 63 #[.string s] w fun e w' => e = .returned (.bool (Tk.isKw s.data.toList)) ∧ Below w.heap.size w w' := by
  rw [← Lib.toList_data]
  go_enter Tryd.func63, Tryd.ntmps63
  go_wp2_with fail
  refine (Keywords_any _).mono ?_
  rintro e w1 ⟨rfl, hw⟩
  have hcell : ∀ k, k < 22 → w1.cell? ⟨w.heap.size, k, none⟩ = some (.string (kwAt k)) := fun k hk => by
    rw [← hw, laid_cell, kwCellsL_at k hk]
  have HB : Hid (Below w.heap.size w w1) := Lib.hid (by rw [← hw]; exact (Below.refl _ _).alloc (Nat.le_refl _) _)
  have HC := Lib.hid hcell
  clear hw hcell
  go_wp2
  go_loop [4] (fun i => ∃ k : Nat, k ≤ 22 ∧ i = .int .i64 k ∧ NoKw s.toList k) (fun i => 22 - (intOf i).toNat)
  case atStart => exact ⟨0, Nat.zero_le _, rfl, fun j hj => absurd hj (by omega)⟩
  case round =>
    obtain ⟨k, hk, rfl, hno⟩ := hrel
    by_cases hlt : k < 22
    · have hix := HC.out k hlt
      have hat := kwAt_toList k
      by_cases he : (s.toList == kwL k) = true
      · have he2 : (kwL k == s.toList) = true := by rw [beq_iff_eq] at he ⊢; exact he.symm
        have HY := Lib.hid (kw_yes k hlt _ he)
        clear he
        go_wp2
        go_ret
        exact ⟨ret_bool HY.out.symm, HB.out⟩
      · have he' : (s.toList == kwL k) = false := by simpa using he
        have he2 : (kwL k == s.toList) = false := by rw [beq_eq_false_iff_ne] at he' ⊢; exact he'.symm
        have hst := hno.step he'
        clear he he'
        go_wp2
        go_round
        case rel => exact ⟨k + 1, by omega, by go_num, hst⟩
        case measure => simp [intOf]; omega
    · obtain rfl : k = 22 := by omega
      go_wp2
      go_ret
      exact ⟨ret_bool (kw_no _ hno).symm, HB.out⟩

theorem inner_b (c : UInt8) (b : Bool) (h : Tk.isI c = b) : Tk.innI (c.toNat : Int) = b := h

def Alli (s : ByteArray) (k : Nat) : Prop := ∀ j (h : j < s.size), j < k → Tk.isI s[j] = true
theorem alli_yes (s : ByteArray) (h : Alli s s.size) : s.data.toList.all Tk.isI = true := by
  rw [List.all_eq_true]
  intro c hc
  obtain ⟨j, hj, rfl⟩ := List.getElem_of_mem hc
  have hj' : j < s.size := by rw [Lib.size_eq]; exact hj
  exact h j hj' hj'
theorem alli_no (s : ByteArray) (k : Nat) (hk : k < s.size) (h : Tk.isI s[k] = false) : s.data.toList.all Tk.isI = false := by
  rw [List.all_eq_false]
  exact ⟨s[k], List.getElem_mem (by rw [← Lib.size_eq]; exact hk), by rw [h]; decide⟩
theorem Alli.step {s : ByteArray} {k : Nat} (h : Alli s k) (hk : k < s.size) (hp : Tk.isI s[k] = true) : Alli s (k + 1) := by
  intro j hj hjk
  by_cases e : j = k
  · subst e; exact hp
  · exact h j hj (by omega)

set_option maxHeartbeats 2000000 in
theorem RefIsName_any (s : ByteArray) (w : World) (hm : s.size ≤ maxLen) :
    Calls Tryd.prog 46 #[.string s] w fun e w' => e = .returned (.bool (Tk.isNm s.data.toList)) ∧ Below w.heap.size w w' := by
  have HN := Lib.hid (isNm_eq s.data.toList)
  rw [← Lib.size_eq] at HN
  unfold maxLen at hm
  by_cases h1 : s.size < 1
  · have HR : Hid (Tk.isNm s.data.toList = false) := by
      apply Lib.hid; rw [HN.out, show decide (1 ≤ s.size) = false from decide_eq_false (by omega)]; rfl
    clear HN
    go_enter Tryd.func46, Tryd.ntmps46
    go_wp2
    go_ret
    exact ⟨ret_bool HR.out.symm, Below.refl _ _⟩
  · by_cases h2 : 12 < s.size
    · have HR : Hid (Tk.isNm s.data.toList = false) := by
        apply Lib.hid; rw [HN.out, show decide (s.size ≤ 12) = false from decide_eq_false (by omega)]; simp
      clear HN
      go_enter Tryd.func46, Tryd.ntmps46
      go_wp2
      go_ret
      exact ⟨ret_bool HR.out.symm, Below.refl _ _⟩
    · have h0 : 0 < s.size := by omega
      have hhd : s.data.toList.head?.any Tk.isL = Tk.isL s[0] := by rw [Tk.data_cons s h0]; rfl
      cases hL : Tk.isL s[0]
      · have HR : Hid (Tk.isNm s.data.toList = false) := by
          apply Lib.hid; rw [HN.out]; unfold nmB; rw [hhd, hL]; simp
        have hL' : Tk.lttI (s[0].toNat : Int) = false := hL
        clear HN hhd
        go_enter Tryd.func46, Tryd.ntmps46
        go_wp2_with (go_at_call 62; refine (Letter_any _ _).mono ?_; rintro e w' ⟨rfl, rfl⟩)
        go_ret
        exact ⟨ret_bool HR.out.symm, Below.refl _ _⟩
      · have hL' : Tk.lttI (s[0].toNat : Int) = true := hL
        cases hK : Tk.isKw s.data.toList
        · have HR : Hid (Tk.isNm s.data.toList = s.data.toList.all Tk.isI) := by
            apply Lib.hid; rw [HN.out]; unfold nmB; rw [hhd, hL, hK, show decide (s.size ≤ 12) = true from by simp; omega, show decide (1 ≤ s.size) = true from by simp; omega]; rfl
          clear HN hhd hL
          go_enter Tryd.func46, Tryd.ntmps46
          go_wp2_with (first | (go_at_call 62; refine (Letter_any _ _).mono ?_; rintro e w' ⟨rfl, rfl⟩) | (go_at_call 63; refine (RefIsKeyword_any _ _).mono ?_; rintro e w1 ⟨rfl, hb1⟩))
          have HB := Lib.hid hb1
          clear hb1
          go_loop [3] (fun i => ∃ k : Nat, k ≤ s.size ∧ i = .int .i64 k ∧ Alli s k) (fun i => s.size - (intOf i).toNat)
          case atStart => exact ⟨0, Nat.zero_le _, rfl, fun j hj h => absurd h (by omega)⟩
          case round =>
            obtain ⟨k, hk, rfl, hok⟩ := hrel
            by_cases hlt : k < s.size
            · cases hi : Tk.isI s[k]
              · have hi' : Tk.innI (s[k].toNat : Int) = false := hi
                have HF := Lib.hid (alli_no s k hlt hi)
                clear hi
                go_wp2_with (go_at_call 64; refine (inner_any _ _).mono ?_; rintro e w' ⟨rfl, rfl⟩)
                go_ret
                exact ⟨ret_bool (HR.out.trans HF.out).symm, HB.out⟩
              · have hi' : Tk.innI (s[k].toNat : Int) = true := hi
                have hst := hok.step hlt hi
                clear hi
                go_wp2_with (go_at_call 64; refine (inner_any _ _).mono ?_; rintro e w' ⟨rfl, rfl⟩)
                go_round
                case rel => exact ⟨k + 1, by omega, by go_num, hst⟩
                case measure => simp [intOf]; omega
            · obtain rfl : k = s.size := by omega
              have HT := Lib.hid (alli_yes s hok)
              go_wp2
              go_ret
              exact ⟨ret_bool (HR.out.trans HT.out).symm, HB.out⟩
        · have HR : Hid (Tk.isNm s.data.toList = false) := by
            apply Lib.hid; rw [HN.out, hK]; simp
          clear HN hhd hL
          go_enter Tryd.func46, Tryd.ntmps46
          go_wp2_with (first | (go_at_call 62; refine (Letter_any _ _).mono ?_; rintro e w' ⟨rfl, rfl⟩) | (go_at_call 63; refine (RefIsKeyword_any _ _).mono ?_; rintro e w1 ⟨rfl, hb1⟩))
          go_ret
          exact ⟨ret_bool HR.out.symm, hb1⟩

end Go.Proofs.YtghdammalphmfaaDoor
end
