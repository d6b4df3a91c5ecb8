/-
  Contracts of the reference's Signs and Number.
  Contract of the reference's signAt.
  Contract of the reference's Scan.
-/
import Derived.Test.YtommnhglgedflaaGreatDoorGSA
import Derived.Test.YtommnhglgedflaaGreatDoorGTC
section
namespace Go.Proofs.YtommnhglgedflaaGreatDoor
open Go.RowKit

def sgAt (k : Nat) : ByteArray := ⟨(Tk.sgs.getD k []).toArray⟩
def sgCellsL : List Value := Tk.sgs.map fun l => Value.string ⟨l.toArray⟩
theorem sgCellsL_at (k : Nat) (h : k < 23) : sgCellsL[k]? = some (.string (sgAt k)) := by
  have hl : Tk.sgs.length = 23 := rfl
  unfold sgCellsL sgAt
  rw [List.getElem?_map, List.getElem?_eq_getElem (by omega)]
  simp [h, hl]

set_option maxRecDepth 100000 in
theorem Signs_any (w : World) :
    Calls Tryz.prog 111 #[] w fun e w' => e = .returned (.slice (some ⟨w.heap.size, 0, none⟩) 23 23) ∧ w.alloc (.cells sgCellsL.toArray 9) = w' := by
  go_enter Tryz.func111, Tryz.ntmps111
  go_wp2
  go_ret
  exact ⟨rfl, rfl⟩

/-- The value of digits, and whether there are digits alone, and at least one, and not too great a value. -/
def numV (l : List UInt8) : Nat × Bool := if l.all Tk.isD && Tk.numOk l then (Tk.val l, !l.isEmpty) else (0, false)
theorem val_snoc (l : List UInt8) (c : UInt8) : Tk.val (l ++ [c]) = 10 * Tk.val l + (c.toNat - 48) := by unfold Tk.val; rw [List.foldl_append]; rfl
theorem val_prefix (l m : List UInt8) : Tk.val l ≤ Tk.val (l ++ m) := by
  have := Tk.foldl_val m (Tk.val l)
  unfold Tk.val at *
  rw [List.foldl_append, this]
  have h : List.foldl (fun n (c : UInt8) => 10 * n + (c.toNat - 48)) 0 l * 1 ≤ List.foldl (fun n (c : UInt8) => 10 * n + (c.toNat - 48)) 0 l * 10 ^ m.length := Nat.mul_le_mul_left _ (Nat.pow_pos (by omega))
  omega
/-- Where the reading of a number stands. -/
def NumAt (s : ByteArray) (k n : Nat) : Prop := n = Tk.val (s.data.toList.take k) ∧ n ≤ 9223372036854775807 ∧ (s.data.toList.take k).all Tk.isD = true
theorem take_snoc (s : ByteArray) (k : Nat) (h : k < s.size) : s.data.toList.take (k + 1) = s.data.toList.take k ++ [s[k]] := by
  rw [List.take_succ_eq_append_getElem (by rw [← Lib.size_eq]; exact h)]; rfl
theorem NumAt.step {s : ByteArray} {k n : Nat} (h : NumAt s k n) (hk : k < s.size) (hd : Tk.isD s[k] = true) (hle : 10 * n + (s[k].toNat - 48) ≤ 9223372036854775807) : NumAt s (k + 1) (10 * n + (s[k].toNat - 48)) := by
  obtain ⟨rfl, _, h3⟩ := h
  refine ⟨?_, hle, ?_⟩
  · rw [take_snoc s k hk, val_snoc]
  · rw [take_snoc s k hk, List.all_append, h3]
    simp [hd]
theorem numV_big {s : ByteArray} {k n : Nat} (h : NumAt s k n) (hk : k < s.size) (hgt : 9223372036854775807 < 10 * n + (s[k].toNat - 48)) : numV s.data.toList = (0, false) := by
  have hv : ¬ Tk.val s.data.toList ≤ 9223372036854775807 := by
    have := val_prefix (s.data.toList.take (k + 1)) (s.data.toList.drop (k + 1))
    rw [List.take_append_drop, take_snoc s k hk, val_snoc, ← h.1] at this
    omega
  unfold numV Tk.numOk
  rw [decide_eq_false hv, Bool.and_false]
  rfl
theorem numV_bad {s : ByteArray} {k : Nat} (hk : k < s.size) (hd : Tk.isD s[k] = false) : numV s.data.toList = (0, false) := by
  have : s.data.toList.all Tk.isD = false := by
    rw [List.all_eq_false]
    exact ⟨s[k], List.getElem_mem (by rw [← Lib.size_eq]; exact hk), by rw [hd]; decide⟩
  unfold numV
  rw [this]
  rfl
theorem numV_done {s : ByteArray} {n : Nat} (h : NumAt s s.size n) : numV s.data.toList = (n, decide (0 < s.size)) := by
  obtain ⟨h1, h2, h3⟩ := h
  rw [Lib.size_eq, List.take_length] at h1 h3
  unfold numV Tk.numOk
  rw [h3, ← h1, decide_eq_true h2]
  have : (!s.data.toList.isEmpty) = decide (0 < s.size) := by
    rw [Lib.size_eq]
    cases s.data.toList <;> simp
  rw [this]
  rfl

set_option maxHeartbeats 1000000 in
theorem Number_any (s : ByteArray) (w : World) (hm : s.size ≤ maxLen) :
    Calls Tryz.prog 73 #[.string s] w fun e w' => e = .returned (.tuple #[.int .i64 (numV s.data.toList).1, .bool (numV s.data.toList).2]) ∧ w = w' := by
  unfold maxLen at hm
  have hst : NumAt s 0 0 := ⟨rfl, by omega, rfl⟩
  go_enter Tryz.func73, Tryz.ntmps73
  go_wp2
  go_loop [4, 5] (fun v i => ∃ k n : Nat, k ≤ s.size ∧ i = .int .i64 k ∧ v = .int .i64 n ∧ NumAt s k n) (fun _ i => s.size - (intOf i).toNat)
  case atStart => exact ⟨0, 0, Nat.zero_le _, rfl, rfl, hst⟩
  case round =>
    obtain ⟨k, n, hk, rfl, rfl, hat⟩ := hrel
    clear hst
    have hn := hat.2.1
    by_cases hlt : k < s.size
    · cases hd : Tk.isD s[k]
      · have hd' : Tk.digI (s[k].toNat : Int) = false := hd
        have HF := Lib.hid (numV_bad hlt hd)
        clear hd
        go_wp2_with (go_at_call 72; refine (Digit_any _ _).mono ?_; rintro e w' ⟨rfl, rfl⟩)
        go_ret2
        exact ⟨by rw [HF.out]; rfl, rfl⟩
      · have hd' : Tk.digI (s[k].toNat : Int) = true := hd
        have hdd := (Tk.isD_iff _).1 hd
        have hst := fun hle => hat.step hlt hd hle
        have hbig := fun hgt => numV_big hat hlt hgt
        clear hd hat
        by_cases hgt : (9223372036854775807 - ((s[k].toNat : Int) - 48)) / 10 < (n : Int)
        · have HF := Lib.hid (hbig (by omega))
          clear hst hbig
          go_wp2_with (go_at_call 72; refine (Digit_any _ _).mono ?_; rintro e w' ⟨rfl, rfl⟩)
          go_ret2
          exact ⟨by rw [HF.out]; rfl, rfl⟩
        · have hst' := hst (by omega)
          clear hst hbig
          go_wp2_with (go_at_call 72; refine (Digit_any _ _).mono ?_; rintro e w' ⟨rfl, rfl⟩)
          go_round
          case rel => exact ⟨k + 1, _, by omega, by go_num, by go_num, hst'⟩
          case measure => simp [intOf]; omega
    · obtain rfl : k = s.size := by omega
      have HT := Lib.hid (numV_done hat)
      go_wp2
      go_ret2
      exact ⟨by rw [HT.out]; rfl, rfl⟩
end Go.Proofs.YtommnhglgedflaaGreatDoor
end
section
namespace Go.Proofs.YtommnhglgedflaaGreatDoor
open Go.RowKit

def sgL (k : Nat) : List UInt8 := Tk.sgs.getD k []
theorem sgL_eq (k : Nat) (h : k < Tk.sgs.length) : sgL k = Tk.sgs[k] := by unfold sgL; simp [h]
theorem sgAt_toList (k : Nat) : (sgAt k).toList = sgL k := by unfold sgAt; rw [Lib.toList_data]; rfl
theorem sgAt_size (k : Nat) : (sgAt k).size = (sgL k).length := by unfold sgAt; exact Lib.size_mk _
theorem sg_bound (k : Nat) (h : k < 23) : 1 ≤ (sgAt k).size ∧ (sgAt k).size ≤ 2 := by
  rw [sgAt_size, sgL_eq k h]
  have : ∀ g ∈ Tk.sgs, 1 ≤ g.length ∧ g.length ≤ 2 := by decide
  exact this _ (List.getElem_mem _)
/-- No sign ahead of the k-th begins the text. -/
def NoSg (l : List UInt8) (k : Nat) : Prop := ∀ j < k, (sgL j).isPrefixOf l = false
theorem NoSg.step {l : List UInt8} {k : Nat} (h : NoSg l k) (hk : (sgL k).isPrefixOf l = false) : NoSg l (k + 1) := by
  intro j hj
  by_cases e : j = k
  · subst e; exact hk
  · exact h j (by omega)
theorem find_at (l : List UInt8) : ∀ (gs : List (List UInt8)) (k : Nat) (hk : k < gs.length), (∀ j (h : j < gs.length), j < k → gs[j].isPrefixOf l = false) → gs[k].isPrefixOf l = true → (gs.find? fun g => g.isPrefixOf l) = some gs[k]
  | [], k, hk, _, _ => by simp at hk
  | g :: gs, 0, _, _, h => by
    simp only [List.getElem_cons_zero] at h ⊢
    rw [List.find?_cons, h]
  | g :: gs, k + 1, hk, hno, h => by
    have h0 := hno 0 (by simp) (by omega)
    simp only [List.getElem_cons_zero] at h0
    rw [List.find?_cons, h0]
    simp only [List.getElem_cons_succ] at h ⊢
    exact find_at l gs k (by simpa using hk) (fun j hj hjk => by
      have := hno (j + 1) (by simpa using hj) (by omega)
      simpa using this) h
theorem sgOf_at (l : List UInt8) (k : Nat) (hk : k < 23) (hno : NoSg l k) (h : (sgL k).isPrefixOf l = true) : Tk.sgOf l = sgL k := by
  unfold Tk.sgOf
  rw [sgL_eq k hk] at h ⊢
  rw [find_at l Tk.sgs k hk (fun j hj hjk => by have := hno j hjk; rw [sgL_eq j hj] at this; exact this) h]
  rfl
theorem sgOf_none (l : List UInt8) (hno : NoSg l 23) : Tk.sgOf l = [] := by
  unfold Tk.sgOf
  have : (Tk.sgs.find? fun g => g.isPrefixOf l) = none := by
    rw [List.find?_eq_none]
    intro g hg
    obtain ⟨j, hj, rfl⟩ := List.getElem_of_mem hg
    have := hno j hj
    rw [sgL_eq j hj] at this
    rw [this]
    decide
  rw [this]
  rfl
/-- The tests of a sign, as the walk asks them. -/
theorem sg_parts (s : ByteArray) (i k : Nat) (hi : i ≤ s.size) : ((sgL k).isPrefixOf (s.data.toList.drop i) = true ∧ i + (sgAt k).size ≤ s.size ∧ ((s.extract i (i + (sgAt k).size)).toList == sgL k) = true) ∨
    ((sgL k).isPrefixOf (s.data.toList.drop i) = false ∧ i + (sgAt k).size ≤ s.size ∧ ((s.extract i (i + (sgAt k).size)).toList == sgL k) = false) ∨
    ((sgL k).isPrefixOf (s.data.toList.drop i) = false ∧ ¬ i + (sgAt k).size ≤ s.size) := by
  have e : (s.extract i (i + (sgAt k).size)).toList = (s.data.toList.drop i).take (sgL k).length := by
    rw [Lib.extract_toList, sgAt_size]
    congr 1
    omega
  rw [e, sgAt_size]
  cases hp : (sgL k).isPrefixOf (s.data.toList.drop i)
  · by_cases hle : i + (sgL k).length ≤ s.size
    · right; left
      refine ⟨rfl, hle, ?_⟩
      rw [beq_eq_false_iff_ne]
      intro h
      have : (sgL k).isPrefixOf (s.data.toList.drop i) = true := List.isPrefixOf_iff_prefix.2 (h ▸ List.take_prefix _ _)
      rw [hp] at this
      cases this
    · right; right; exact ⟨rfl, hle⟩
  · left
    obtain ⟨r, hr⟩ := List.isPrefixOf_iff_prefix.1 hp
    refine ⟨rfl, ?_, ?_⟩
    · have := congrArg List.length hr
      rw [List.length_append, List.length_drop, ← Lib.size_eq] at this
      omega
    · rw [← hr, beq_iff_eq]; simp

set_option maxHeartbeats 1000000 in
theorem signAt_any (s : ByteArray) (i : Nat) (w : World) (hs : s.size ≤ 5000) (hi : i ≤ s.size) :
    Calls Tryz.prog 74 #[.string s, .int .i64 i] w fun e w' => e = .returned (.string ⟨(Tk.sgOf (s.data.toList.drop i)).toArray⟩) ∧ Below w.heap.size w w' := by
  go_enter Tryz.func74, Tryz.ntmps74
  go_wp2_with fail
  refine (Signs_any _).mono ?_
  rintro e w1 ⟨rfl, hw⟩
  have hcell : ∀ k, k < 23 → w1.cell? ⟨w.heap.size, k, none⟩ = some (.string (sgAt k)) := fun k hk => by
    rw [← hw, laid_cell, sgCellsL_at k hk]
  have HB : Hid (∀ m, Below w.heap.size w (w1.drewN m)) := Lib.hid (fun m => below_drewN (by rw [← hw]; exact (Below.refl _ _).alloc (Nat.le_refl _) _) m)
  have HC := Lib.hid hcell
  clear hw hcell
  go_wp2
  go_loopw [6] (fun v wr => ∃ k m : Nat, k ≤ 23 ∧ v = .int .i64 k ∧ NoSg (s.data.toList.drop i) k ∧ wr = w1.drewN m) (fun v _ => 23 - (intOf v).toNat)
  case atStart => exact ⟨0, 0, Nat.zero_le _, rfl, fun j hj => absurd hj (by omega), rfl⟩
  case round =>
    obtain ⟨k, m, hk, rfl, hno, rfl⟩ := hrel
    by_cases hlt : k < 23
    · have hix := HC.out k hlt
      have hat := sgAt_toList k
      obtain ⟨z1, z2⟩ := sg_bound k hlt
      rcases sg_parts s i k hi with ⟨hp, hle, he⟩ | ⟨hp, hle, he⟩ | ⟨hp, hle⟩
      · have HS : Hid (sgAt k = ⟨(Tk.sgOf (s.data.toList.drop i)).toArray⟩) := Lib.hid (by rw [sgOf_at _ k hlt hno hp]; rfl)
        have q1 : decide (((sgAt k).size : Int) ≤ (s.size : Int) - (i : Int)) = true := by simp; omega
        have q2 : IntKind.i64.wrap ((s.size : Int) - (i : Int)) = (s.size : Int) - (i : Int) := IntWalk.i64_in _ (by omega)
        have q3 : IntKind.i64.wrap ((i : Int) + ((sgAt k).size : Int)) = (i : Int) + ((sgAt k).size : Int) := IntWalk.i64_in _ (by omega)
        have q4 : ((i : Int) + ((sgAt k).size : Int)).toNat = i + (sgAt k).size := by omega
        have q5 : 0 ≤ (i : Int) + ((sgAt k).size : Int) := by omega
        have q6 : (i : Int) ≤ (i : Int) + ((sgAt k).size : Int) := by omega
        have q7 : (i : Int) + ((sgAt k).size : Int) ≤ (s.size : Int) := by omega
        clear hp hno
        go_wp2
        go_quiet (fail)
        clear q1 q2 q3 q4 q5 q6 q7
        go_wp2
        go_ret
        refine ⟨congrArg (fun x => Ending.returned (.string x)) HS.out, ?_⟩
        first | exact HB.out _ | (rw [World.drewN_drewN]; exact HB.out _)
      · have hst := hno.step hp
        have q1 : decide (((sgAt k).size : Int) ≤ (s.size : Int) - (i : Int)) = true := by simp; omega
        have q2 : IntKind.i64.wrap ((s.size : Int) - (i : Int)) = (s.size : Int) - (i : Int) := IntWalk.i64_in _ (by omega)
        have q3 : IntKind.i64.wrap ((i : Int) + ((sgAt k).size : Int)) = (i : Int) + ((sgAt k).size : Int) := IntWalk.i64_in _ (by omega)
        have q4 : ((i : Int) + ((sgAt k).size : Int)).toNat = i + (sgAt k).size := by omega
        have q5 : 0 ≤ (i : Int) + ((sgAt k).size : Int) := by omega
        have q6 : (i : Int) ≤ (i : Int) + ((sgAt k).size : Int) := by omega
        have q7 : (i : Int) + ((sgAt k).size : Int) ≤ (s.size : Int) := by omega
        clear hp hno
        go_wp2
        go_quiet (fail)
        clear q1 q2 q3 q4 q5 q6 q7
        go_wp2
        go_roundw
        case rel => exact ⟨k + 1, _, by omega, by go_num, hst, rfl⟩
        case measure => simp [intOf]; omega
      · have hst := hno.step hp
        have q1 : decide (((sgAt k).size : Int) ≤ (s.size : Int) - (i : Int)) = false := by simp; omega
        have q2 : IntKind.i64.wrap ((s.size : Int) - (i : Int)) = (s.size : Int) - (i : Int) := IntWalk.i64_in _ (by omega)
        clear hp hno
        go_wp2
        go_quiet (fail)
        clear q1 q2
        go_wp2
        go_roundw
        case rel => exact ⟨k + 1, _, by omega, by go_num, hst, rfl⟩
        case measure => simp [intOf]; omega
    · obtain rfl : k = 23 := by omega
      have HT : Hid (Tk.sgOf (s.data.toList.drop i) = []) := Lib.hid (sgOf_none _ hno)
      clear hno
      go_wp2
      go_ret
      exact ⟨by rw [HT.out]; rfl, HB.out m⟩
end Go.Proofs.YtommnhglgedflaaGreatDoor
end
section
namespace Go.Proofs.YtommnhglgedflaaGreatDoor
open Go.RowKit

/-- The tests of a comment, as the walk asks them. -/
theorem slash_parts (s : ByteArray) (k : Nat) (hk : k < s.size) :
    ([47, 47].isPrefixOf (s.data.toList.drop k) = true ∧ ((s[k].toNat : Int) == 47) = true ∧ ∃ h : k + 1 < s.size, ((s[k + 1].toNat : Int) == 47) = true) ∨
    ([47, 47].isPrefixOf (s.data.toList.drop k) = false ∧ (((s[k].toNat : Int) == 47) = false ∨ (((s[k].toNat : Int) == 47) = true ∧ ¬ k + 1 < s.size) ∨ (((s[k].toNat : Int) == 47) = true ∧ ∃ h : k + 1 < s.size, ((s[k + 1].toNat : Int) == 47) = false))) := by
  have hb : ∀ c : UInt8, ((c.toNat : Int) == 47) = (47 == c) := by
    intro c
    rw [Bool.eq_iff_iff, beq_iff_eq, beq_iff_eq]
    constructor
    · intro h; exact (UInt8.toNat_inj.1 (by rw [show c.toNat = 47 from by omega]; rfl)).symm
    · rintro rfl; rfl
  have hk' : k < s.data.toList.length := by rw [← Lib.size_eq]; exact hk
  rw [List.drop_eq_getElem_cons hk', data_get s k hk', hb]
  by_cases h1 : k + 1 < s.size
  · have h1' : k + 1 < s.data.toList.length := by rw [← Lib.size_eq]; exact h1
    rw [List.drop_eq_getElem_cons h1', data_get s (k + 1) h1']
    have e : [47, 47].isPrefixOf (s[k] :: s[k + 1] :: s.data.toList.drop (k + 1 + 1)) = ((47 == s[k]) && ((47 == s[k + 1]) && true)) := by simp [List.isPrefixOf]
    rw [e]
    cases h2 : (47 == s[k])
    · right; exact ⟨rfl, .inl rfl⟩
    · cases h3 : (47 == s[k + 1])
      · right; exact ⟨rfl, .inr (.inr ⟨rfl, h1, by rw [hb]; exact h3⟩)⟩
      · left; exact ⟨rfl, rfl, h1, by rw [hb]; exact h3⟩
  · have e : s.data.toList.drop (k + 1) = [] := List.drop_of_length_le (by rw [← Lib.size_eq]; omega)
    rw [e]
    right
    refine ⟨by simp [List.isPrefixOf], ?_⟩
    cases h2 : (47 == s[k])
    · exact .inl rfl
    · exact .inr (.inl ⟨rfl, h1⟩)

def InF (p : UInt8 → Bool) (s : ByteArray) (a b : Nat) : Prop := ∀ j (h : j < s.size), a ≤ j → j < b → p s[j] = true
theorem InF.start (p : UInt8 → Bool) (s : ByteArray) (a : Nat) : InF p s a a := fun j _ h1 h2 => absurd h1 (by omega)
theorem InF.step {p : UInt8 → Bool} {s : ByteArray} {a b : Nat} (h : InF p s a b) (hb : b < s.size) (he : p s[b] = true) : InF p s a (b + 1) := by
  intro j hj h1 h2
  by_cases e : j = b
  · subst e; exact he
  · exact h j hj h1 (by omega)
theorem InF.len {p : UInt8 → Bool} {s : ByteArray} {a b : Nat} (h : InF p s a b) (hab : a ≤ b) (hb : b ≤ s.size) (he : ∀ h : b < s.size, p s[b] = false) : ((s.data.toList.drop a).takeWhile p).length = b - a := by
  refine Tk.takeWhile_len p _ (b - a) (by rw [List.length_drop, ← Lib.size_eq]; omega) (fun j hj hjk => ?_) (fun hj => ?_)
  · rw [List.getElem_drop]
    exact h (a + j) (by rw [List.length_drop, ← Lib.size_eq] at hj; omega) (by omega) (by omega)
  · rw [List.getElem_drop]
    have e : a + (b - a) = b := by omega
    have hh := he (by rw [List.length_drop, ← Lib.size_eq] at hj; omega)
    simp only [e]
    exact hh
theorem InF.text {p : UInt8 → Bool} {s : ByteArray} {a b : Nat} (h : ((s.data.toList.drop a).takeWhile p).length = b - a) : s.extract a b = ⟨((s.data.toList.drop a).takeWhile p).toArray⟩ := by
  rw [Lib.extract_eq, ← h, Tk.take_takeWhile]
theorem bne10 (c : UInt8) : ((c.toNat : Int) != 10) = (c != 10) := by
  rw [Bool.eq_iff_iff, bne_iff_ne, bne_iff_ne]
  constructor
  · intro h e; exact h (by rw [e]; rfl)
  · intro h e; exact h (UInt8.toNat_inj.1 (by rw [show c.toNat = 10 from by omega]; rfl))

/-- Behind names, so that the walk does not look inside. -/
def kwB (s : ByteArray) : Bool := Tk.isKw s.data.toList
def numB (s : ByteArray) : Bool := (numV s.data.toList).2
def numN (s : ByteArray) : Nat := (numV s.data.toList).1
def sgB (s : ByteArray) (k : Nat) : ByteArray := ⟨(Tk.sgOf (s.data.toList.drop k)).toArray⟩
theorem RefIsKeyword_b (s : ByteArray) (w : World) :
    Calls Tryz.prog 71 #[.string s] w fun e w' => e = .returned (.bool (kwB s)) ∧ Below w.heap.size w w' := RefIsKeyword_any s w
theorem Number_b (s : ByteArray) (w : World) (hm : s.size ≤ maxLen) :
    Calls Tryz.prog 73 #[.string s] w fun e w' => e = .returned (.tuple #[.int .i64 (numN s), .bool (numB s)]) ∧ w = w' := Number_any s w hm
theorem signAt_b (s : ByteArray) (i : Nat) (w : World) (hs : s.size ≤ 5000) (hi : i ≤ s.size) :
    Calls Tryz.prog 74 #[.string s, .int .i64 i] w fun e w' => e = .returned (.string (sgB s i)) ∧ Below w.heap.size w w' := signAt_any s i w hs hi

theorem head_drop (s : ByteArray) (k : Nat) (hk : k < s.size) : (s.data.toList.drop k).headD 0 = s[k] := by
  rw [List.drop_eq_getElem_cons (by rw [← Lib.size_eq]; exact hk)]; rfl
/-- The first token at a place, in the reference's words. -/
theorem first_word (s : ByteArray) (k b : Nat) (hk : k < s.size) (hL : Tk.isL s[k] = true) (h : ((s.data.toList.drop k).takeWhile Tk.isI).length = b - k) :
    Tk.first (s.data.toList.drop k) = if 12 < b - k then (2, 0, []) else (0, if kwB (s.extract k b) then 3 else 1, (s.data.toList.drop k).takeWhile Tk.isI) := by
  unfold Tk.first Tk.wordR kwB
  rw [head_drop s k hk, if_pos hL, h, InF.text h]
theorem first_num (s : ByteArray) (k b : Nat) (hk : k < s.size) (_hb : b ≤ s.size) (hkb : k < b) (hL : Tk.isL s[k] = false) (hD : Tk.isD s[k] = true) (h : ((s.data.toList.drop k).takeWhile Tk.isD).length = b - k) :
    ((numB (s.extract k b) = false ∨ (numB (s.extract k b) = true ∧ ∃ hlt : b < s.size, Tk.isI s[b] = true)) ∧ Tk.first (s.data.toList.drop k) = (3, 0, [])) ∨
    ((numB (s.extract k b) = true ∧ ∀ hlt : b < s.size, Tk.isI s[b] = false) ∧ Tk.first (s.data.toList.drop k) = (0, 2, (s.data.toList.drop k).takeWhile Tk.isD)) := by
  have hall := all_tw Tk.isD (s.data.toList.drop k)
  have hne : ((s.data.toList.drop k).takeWhile Tk.isD).isEmpty = false := by
    cases hc : (s.data.toList.drop k).takeWhile Tk.isD with
    | nil => rw [hc] at h; simp at h; omega
    | cons a r => rfl
  have hB : numB (s.extract k b) = Tk.numOk ((s.data.toList.drop k).takeWhile Tk.isD) := by
    unfold numB numV
    rw [InF.text h]
    show (if (((s.data.toList.drop k).takeWhile Tk.isD).all Tk.isD && Tk.numOk ((s.data.toList.drop k).takeWhile Tk.isD)) = true then (Tk.val ((s.data.toList.drop k).takeWhile Tk.isD), !((s.data.toList.drop k).takeWhile Tk.isD).isEmpty) else (0, false)).2 = _
    rw [hall, hne, Bool.true_and]
    cases Tk.numOk ((s.data.toList.drop k).takeWhile Tk.isD) <;> rfl
  have hdw : ((s.data.toList.drop k).dropWhile Tk.isD) = s.data.toList.drop b := by
    rw [← Tk.drop_takeWhile, h, List.drop_drop]; congr 1; omega
  have hf : Tk.first (s.data.toList.drop k) = if ((s.data.toList.drop b).head?.any Tk.isI) || !numB (s.extract k b) then (3, 0, []) else (0, 2, (s.data.toList.drop k).takeWhile Tk.isD) := by
    unfold Tk.first Tk.numR
    rw [head_drop s k hk, hL, hD, hdw, hB]
    rfl
  rw [hf]
  by_cases hlt : b < s.size
  · have e : (s.data.toList.drop b).head?.any Tk.isI = Tk.isI s[b] := by
      rw [List.drop_eq_getElem_cons (by rw [← Lib.size_eq]; exact hlt)]; rfl
    rw [e]
    cases hn : numB (s.extract k b)
    · left; exact ⟨.inl rfl, by simp⟩
    · cases hi : Tk.isI s[b]
      · right; exact ⟨⟨rfl, fun _ => hi⟩, by simp⟩
      · left; exact ⟨.inr ⟨rfl, hlt, hi⟩, by simp⟩
  · have e : s.data.toList.drop b = [] := List.drop_of_length_le (by rw [← Lib.size_eq]; omega)
    rw [e]
    cases hn : numB (s.extract k b)
    · left; exact ⟨.inl rfl, by simp⟩
    · right; exact ⟨⟨rfl, fun h => absurd h hlt⟩, by simp⟩
theorem first_sign (s : ByteArray) (k : Nat) (hk : k < s.size) (hL : Tk.isL s[k] = false) (hD : Tk.isD s[k] = false) :
    Tk.first (s.data.toList.drop k) = if (sgB s k).toList.isEmpty then (3, 0, []) else (0, 4, Tk.sgOf (s.data.toList.drop k)) := by
  unfold Tk.first Tk.sgnR sgB
  rw [head_drop s k hk, hL, hD, Lib.toList_data]
  rfl
theorem ltt_not47 (c : Int) (h : Tk.lttI c = true) : (c == 47) = false := by
  rw [beq_eq_false_iff_ne]; rintro rfl; revert h; decide
theorem dig_not47 (c : Int) (h : Tk.digI c = true) : (c == 47) = false := by
  rw [beq_eq_false_iff_ne]; rintro rfl; revert h; decide

theorem news3 {x : World} {g : Nat} (hz : x.heap.size = g) (t : TypeId) (a b c : Value) : ∀ j u, [a, b, c][j]? = some u → (x.alloc (.cells #[a, b, c] t)).cell? ((⟨g, 0, none⟩ : Addr).add j) = some u := by
  subst hz
  intro j u hj
  match j, hj with
  | 0, hj => simp at hj; subst hj; simp [Addr.add]
  | 1, hj => simp at hj; subst hj; simp [Addr.add]
  | 2, hj => simp at hj; subst hj; simp [Addr.add]
theorem one3 (a : Int) (b : ByteArray) (c : Int) : ∀ u ∈ [Value.int .i64 a, .string b, .int .i64 c], u.oneCell' = true := by
  intro u hu; simp at hu; rcases hu with rfl | rfl | rfl <;> rfl
theorem size_set (w : World) (p : Addr) (u : Value) : (w.setCell p u).heap.size = w.heap.size := by simp [World.setCell]
theorem own_snoc {x : World} {B : Nat} {e : TypeId} {v : Value} {acc : List Tk.Tok} {kind line : Nat} {text : List UInt8} {b : ByteArray} (hb : b = ⟨text.toArray⟩)
    (h : x.ownsRow B e 3 v (acc.length + 1) (Tk.cellsOf acc ++ [.int .i64 kind, .string b, .int .i64 line])) : x.ownsRow B e 3 v (acc ++ [(⟨kind, text, line⟩ : Tk.Tok)]).length (Tk.cellsOf (acc ++ [(⟨kind, text, line⟩ : Tk.Tok)])) := by
  rw [Tk.cells_append, Tk.cells_one, List.length_append]; subst hb; exact h
theorem below_append {B : Nat} {w x w2 : World} {e : TypeId} {size : Nat} {v : Value} {n : Nat} {xs : List Value} (h : x.ownsRow B e size v n xs) (hb : Below B w x) (hB : B ≤ x.heap.size) (hg : x.grownBy w2 v.ownBlock) : Below B w w2 :=
  hb.grown hg hB (fun _ hk => (h.lt _ hk).1)
theorem own_set {x : World} {B : Nat} {e : TypeId} {size : Nat} {v : Value} {n : Nat} {xs : List Value} (h : x.ownsRow B e size v n xs) {wo : World} (ho : wo.ownsRow B e size v n xs) (j : Nat) (u : Value) : (x.setCell ⟨wo.heap.size, j, none⟩ u).ownsRow B e size v n xs :=
  ownsRow_setCell_other h (fun e => by have := (ho.lt _ e).2; simp at this) u

set_option maxRecDepth 100000 in
set_option maxHeartbeats 8000000 in
theorem RefScan_any (s : ByteArray) (w : World) (hm : s.size ≤ maxLen) :
    Calls Tryz.prog 39 #[.string s] w (ScanPost w (Tk.scan s.data.toList)) := by
  have hsz := Lib.size_eq s
  unfold maxLen at hm
  by_cases hbig : 4096 < s.size
  · have HR : Hid (Tk.scan s.data.toList = ([], 2, 0)) := by apply Lib.hid; unfold Tk.scan; rw [if_pos (by omega)]
    clear hsz
    go_enter Tryz.func39, Tryz.ntmps39
    go_wp2
    go_ret3
    rw [HR.out]
    exact ⟨_, rfl, World.ownsRow_nil _ _ _ _, Below.refl _ _⟩
  · have HR : Hid (Tk.scan s.data.toList = Tk.scanA s.data.toList.length s.data.toList 1 []) := by apply Lib.hid; unfold Tk.scan; rw [if_neg (by omega)]
    have hst := Tk.SP.start s.data.toList
    rw [← HR.out] at hst
    generalize Tk.scan s.data.toList = R at *
    clear HR hsz
    obtain ⟨i0, hi, hz0, hz1, hz2⟩ := info_parts Tryz.infoTok
    have hs : s.size ≤ 4096 := by omega
    clear hbig hm
    go_enter Tryz.func39, Tryz.ntmps39
    go_wp2
    go_loopw [5, 6, 7] (fun v ln i wr => ∃ (k line : Nat) (acc : List Tk.Tok), i = .int .i64 k ∧ ln = .int .i64 line ∧ Tk.SP s.data.toList R k line acc ∧
      wr.ownsRow w.heap.size 104 3 v acc.length (Tk.cellsOf acc) ∧ Below w.heap.size w wr) (fun _ _ i _ => s.size - (intOf i).toNat)
    case atStart => exact ⟨0, 1, [], rfl, rfl, hst, World.ownsRow_nil _ _ _ _, Below.refl _ _⟩
    case round =>
      obtain ⟨k, line, acc, rfl, rfl, hsp, hown, hbel⟩ := hrel
      clear hst
      have hk : k ≤ s.size := by rw [Lib.size_eq]; exact hsp.1
      have hline : line ≤ k + 1 := hsp.2.1
      by_cases hlt : k < s.size
      · have hlt' : k < s.data.toList.length := by rw [← Lib.size_eq]; exact hlt
        have hget : s.data.toList[k] = s[k] := rfl
        by_cases h10 : s[k] = 10
        · have hnx := hsp.nl hlt' h10
          have hb : ((s[k].toNat : Int) == 10) = true := by rw [h10]; rfl
          have hb1 : ((s[k].toNat : Int) == 32) = false := by rw [h10]; rfl
          have hb2 : ((s[k].toNat : Int) == 9) = false := by rw [h10]; rfl
          have hb3 : ((s[k].toNat : Int) == 13) = false := by rw [h10]; rfl
          clear h10 hget
          go_wp2
          go_roundw
          case rel => exact ⟨k + 1, line + 1, acc, by go_num, by go_num, hnx, hown, hbel⟩
          case measure => simp [intOf]; omega
        · have hb := not10 _ h10
          rcases blank_parts s[k] with ⟨hbl, hcase⟩ | ⟨hbl, t1, t2, t3⟩
          · have hnx := hsp.blank hlt' hbl
            clear h10 hget hbl
            rcases hcase with t1 | ⟨t1, t2⟩ | ⟨t1, t2, t3⟩
            all_goals
              go_wp2
              go_roundw
              case rel => exact ⟨k + 1, line, acc, by go_num, rfl, hnx, hown, hbel⟩
              case measure => simp [intOf]; omega
          · rcases slash_parts s k hlt with ⟨hp, p1, hk1, p2⟩ | ⟨hp, pcase⟩
            · obtain ⟨hnx, hc1⟩ := hsp.cmt hlt' h10 hbl hp
              have hn0 := InF.start (· != 10) s k
              clear hbl hp hget
              obtain ⟨wo, rfl⟩ : ∃ wo : World, wo = wr := ⟨_, rfl⟩
              go_wp2
              go_loop [7] (fun i => ∃ b : Nat, k ≤ b ∧ b ≤ s.size ∧ i = .int .i64 b ∧ InF (· != 10) s k b) (fun i => s.size - (intOf i).toNat)
              case atStart => exact ⟨k, Nat.le_refl _, by omega, rfl, hn0⟩
              case round =>
                obtain ⟨b, hkb, hbs, rfl, hno⟩ := hrel
                have hfin : (∀ h : b < s.size, (s[b] != 10) = false) → Tk.SP s.data.toList R b line acc ∧ k < b := fun he => by
                  have e : Tk.cmt (s.data.toList.drop k) = b - k := hno.len hkb hbs he
                  rw [e, show k + (b - k) = b from by omega] at hnx
                  exact ⟨hnx, by omega⟩
                clear hnx hc1
                by_cases hbl : b < s.size
                · have hbn := bne10 s[b]
                  cases hb10 : (s[b] != 10)
                  · rw [hb10] at hbn
                    obtain ⟨hnx, hkb'⟩ := hfin (fun _ => hb10)
                    clear hfin hb10
                    go_wp2
                    go_roundw
                    case rel => exact ⟨b, line, acc, rfl, rfl, hnx, hown, hbel⟩
                    case measure => simp [intOf]; omega
                  · rw [hb10] at hbn
                    have hst := hno.step hbl hb10
                    clear hfin hb10
                    go_wp2
                    go_round
                    case rel => exact ⟨b + 1, by omega, by omega, by go_num, hst⟩
                    case measure => simp [intOf]; omega
                · obtain ⟨hnx, hkb'⟩ := hfin (fun h => absurd h hbl)
                  clear hfin
                  go_wp2
                  go_roundw
                  case rel => exact ⟨b, line, acc, rfl, rfl, hnx, hown, hbel⟩
                  case measure => simp [intOf]; omega
            · have hok := fun h4 => hsp.tok hlt' h10 hbl hp h4
              have herr := fun h4 => hsp.err hlt' h10 hbl hp h4
              clear h10 hget hbl hp
              have hbs2 := hbel.size
              have hacc : acc.length ≤ 4096 := by have := hsp.2.2.1; omega
              have hc3 : acc.length + 1 ≤ maxLen := by unfold maxLen; omega
              have hc4 : (acc.length + 1) * 32 ≤ 140737488355328 := by omega
              cases hL : Tk.isL s[k]
              · have l1 : Tk.lttI (s[k].toNat : Int) = false := hL
                cases hD : Tk.isD s[k]
                · have l2 : Tk.digI (s[k].toNat : Int) = false := hD
                  have hf := first_sign s k hlt hL hD
                  clear hL hD
                  have hgz : (sgB s k).size = (Tk.sgOf (s.data.toList.drop k)).length := Lib.size_mk _
                  cases hE : (sgB s k).toList.isEmpty
                  · rw [hE, if_neg (by decide)] at hf
                    rw [hf] at hok
                    obtain ⟨hnx, htl⟩ := hok rfl
                    simp only [] at hnx htl
                    rw [← hgz] at hnx htl
                    have hle : k + (sgB s k).size ≤ s.size := by have := hnx.1; rw [← Lib.size_eq] at this; exact this
                    have EX : Hid (sgB s k = ⟨(Tk.sgOf (s.data.toList.drop k)).toArray⟩) := Lib.hid rfl
                    clear hf hok herr hgz
                    obtain ⟨wo, rfl⟩ : ∃ wo : World, wo = wr := ⟨_, rfl⟩
                    rcases pcase with p1 | ⟨p1, p2⟩ | ⟨p1, hk1, p2⟩
                    all_goals
                      go_wp2_with (first | (go_at_call 69; refine (Letter_any _ _).mono ?_; rintro e w' ⟨rfl, rfl⟩) | (go_at_call 72; refine (Digit_any _ _).mono ?_; rintro e w' ⟨rfl, rfl⟩))
                      refine (signAt_b _ _ _ (by omega) hk).mono ?_
                      rintro e w1 ⟨rfl, hb1⟩
                      have hz := hb1.size
                      have hown1 := own_below hown hb1
                      have hownA := hown1.alloc (.cells #[.int .i64 4, .string (sgB s k), .int .i64 line] 104)
                      have hbelA := (hbel.trans (hb1.mono hbs2)).alloc (by omega) (.cells #[.int .i64 4, .string (sgB s k), .int .i64 line] 104)
                      have hc5 : w.heap.size ≤ (w1.alloc (.cells #[.int .i64 4, .string (sgB s k), .int .i64 line] 104)).heap.size := by simp; omega
                      go_wp2_with (at_builtin; refine wpList_append_own _ rfl _ _ 67 rfl w.heap.size 104 i0 _ 3 32 Tryz.underlying67 hi hz0 hz1 hz2 rfl (by decide) _ _ _ rfl hownA ⟨w1.heap.size, 0, none⟩ 1 1 [.int .i64 4, .string (sgB s k), .int .i64 line] rfl rfl (news3 rfl _ _ _ _) (one3 _ _ _) hc3 hc4 hc5 ?_; intro v' w2 hown2 hgrow2 _)
                      have hbel2 := below_append hownA hbelA hc5 hgrow2
                      have hown3 := own_snoc EX.out hown2
                      clear hown2 hgrow2 hownA hbelA hc5 hown1 hown hb1 hbel hi hz0 hz1 hz2 hc3 hc4
                      go_wp2
                      go_roundw
                      case rel => exact ⟨k + (sgB s k).size, line, _, by go_num, rfl, hnx, hown3, hbel2⟩
                      case measure => simp [intOf]; omega
                  · rw [hE, if_pos rfl] at hf
                    rw [hf] at herr
                    have HR := Lib.hid (herr (by decide))
                    clear hf hok herr hgz
                    obtain ⟨wo, rfl⟩ : ∃ wo : World, wo = wr := ⟨_, rfl⟩
                    rcases pcase with p1 | ⟨p1, p2⟩ | ⟨p1, hk1, p2⟩
                    all_goals
                      go_wp2_with (first | (go_at_call 69; refine (Letter_any _ _).mono ?_; rintro e w' ⟨rfl, rfl⟩) | (go_at_call 72; refine (Digit_any _ _).mono ?_; rintro e w' ⟨rfl, rfl⟩))
                      refine (signAt_b _ _ _ (by omega) hk).mono ?_
                      rintro e w1 ⟨rfl, hb1⟩
                      go_wp2
                      go_ret3
                      rw [HR.out]
                      exact ⟨_, rfl, World.ownsRow_nil _ _ _ _, hbel.trans (hb1.mono hbs2)⟩
                · have l2 : Tk.digI (s[k].toNat : Int) = true := hD
                  have l3 := dig_not47 _ l2
                  have hfn := fun b h1 h2 h => first_num s k b hlt h1 h2 hL hD h
                  clear pcase hL
                  have hn0 := (InF.start Tk.isD s k).step hlt hD
                  have hn00 := InF.start Tk.isD s k
                  obtain ⟨wo, rfl⟩ : ∃ wo : World, wo = wr := ⟨_, rfl⟩
                  go_wp2_with (first | (go_at_call 69; refine (Letter_any _ _).mono ?_; rintro e w' ⟨rfl, rfl⟩) | (go_at_call 72; refine (Digit_any _ _).mono ?_; rintro e w' ⟨rfl, rfl⟩))
                  go_loop [9] (fun i => ∃ b : Nat, k ≤ b ∧ b ≤ s.size ∧ i = .int .i64 b ∧ InF Tk.isD s k b) (fun i => s.size - (intOf i).toNat)
                  case atStart => exact ⟨k, Nat.le_refl _, by omega, rfl, hn00⟩
                  case round =>
                    obtain ⟨b, hkb, hbs, rfl, hno⟩ := hrel
                    clear hn0 hn00
                    by_cases hc : ∃ h : b < s.size, Tk.isD s[b] = true
                    · obtain ⟨hbl, hi1⟩ := hc
                      have hi2 : Tk.digI (s[b].toNat : Int) = true := hi1
                      have hst := hno.step hbl hi1
                      clear hi1 hfn hok herr hD
                      go_wp2_with (go_at_call 72; refine (Digit_any _ _).mono ?_; rintro e w' ⟨rfl, rfl⟩)
                      go_round
                      case rel => exact ⟨b + 1, by omega, by omega, by go_num, hst⟩
                      case measure => simp [intOf]; omega
                    · have hkb' : k < b := by
                        rcases Nat.lt_or_ge k b with h | h
                        · exact h
                        · obtain rfl : b = k := by omega
                          exact absurd ⟨hlt, hD⟩ hc
                      have hlen := hno.len hkb hbs (fun h => by rw [Bool.eq_false_iff]; exact fun e => hc ⟨h, e⟩)
                      have EX := Lib.hid (InF.text hlen)
                      have hxs : (s.extract k b).size ≤ maxLen := by unfold maxLen; simp; omega
                      have hnD : ∀ h : b < s.size, Tk.digI (s[b].toNat : Int) = false := fun h => by
                        show Tk.isD s[b] = false
                        rw [Bool.eq_false_iff]; exact fun e => hc ⟨h, e⟩
                      rcases hfn b hbs hkb' hlen with ⟨hcase, hf⟩ | ⟨⟨hN, hI⟩, hf⟩
                      · rw [hf] at herr
                        have HR := Lib.hid (herr (by decide))
                        clear hfn hok herr hf hlen hc hD
                        have go : ∀ Z : Prop, (numB (s.extract k b) = false → (hbl : b < s.size) → Tk.digI (s[b].toNat : Int) = false → Z) → (numB (s.extract k b) = false → ¬ b < s.size → Z) → (numB (s.extract k b) = true → (hbl : b < s.size) → Tk.digI (s[b].toNat : Int) = false → Tk.innI (s[b].toNat : Int) = true → Z) → Z := by
                          intro Z h1 h2 h3
                          rcases hcase with hN | ⟨hN, hbl, hI⟩
                          · by_cases hbl : b < s.size
                            · exact h1 hN hbl (hnD hbl)
                            · exact h2 hN hbl
                          · exact h3 hN hbl (hnD hbl) hI
                        clear hcase hnD
                        refine go _ (fun hN hbl t4 => ?_) (fun hN hbl => ?_) (fun hN hbl t4 t5 => ?_)
                        all_goals
                          clear go
                          go_wp2_with (first | (go_at_call 72; refine (Digit_any _ _).mono ?_; rintro e w' ⟨rfl, rfl⟩) | (go_at_call 73; refine (Number_b _ _ hxs).mono ?_; rintro e w' ⟨rfl, rfl⟩) | (go_at_call 70; refine (inner_any _ _).mono ?_; rintro e w' ⟨rfl, rfl⟩))
                          go_ret3
                          rw [HR.out]
                          exact ⟨_, rfl, World.ownsRow_nil _ _ _ _, hbel⟩
                      · rw [hf] at hok
                        obtain ⟨hnx, htl⟩ := hok rfl
                        simp only [hlen] at hnx htl
                        rw [show k + (b - k) = b from by omega] at hnx
                        clear hfn hok herr hf hlen hc hD
                        have go : ∀ Z : Prop, ((hbl : b < s.size) → Tk.digI (s[b].toNat : Int) = false → Tk.innI (s[b].toNat : Int) = false → Z) → (¬ b < s.size → Z) → Z := by
                          intro Z h1 h2
                          by_cases hbl : b < s.size
                          · exact h1 hbl (hnD hbl) (hI hbl)
                          · exact h2 hbl
                        clear hI hnD
                        have hownA := hown.alloc (.cells #[.int .i64 2, .string (s.extract k b), .int .i64 line] 104)
                        have hbelA := hbel.alloc hbs2 (.cells #[.int .i64 2, .string (s.extract k b), .int .i64 line] 104)
                        have hc5 : w.heap.size ≤ (wo.alloc (.cells #[.int .i64 2, .string (s.extract k b), .int .i64 line] 104)).heap.size := by simp; omega
                        refine go _ (fun hbl t4 t5 => ?_) (fun hbl => ?_)
                        all_goals
                          clear go
                          go_wp2_with (first | (go_at_call 72; refine (Digit_any _ _).mono ?_; rintro e w' ⟨rfl, rfl⟩) | (go_at_call 73; refine (Number_b _ _ hxs).mono ?_; rintro e w' ⟨rfl, rfl⟩) | (go_at_call 70; refine (inner_any _ _).mono ?_; rintro e w' ⟨rfl, rfl⟩) | (at_builtin; refine wpList_append_own _ rfl _ _ 67 rfl w.heap.size 104 i0 _ 3 32 Tryz.underlying67 hi hz0 hz1 hz2 rfl (by decide) _ _ _ rfl hownA ⟨wo.heap.size, 0, none⟩ 1 1 [.int .i64 2, .string (s.extract k b), .int .i64 line] rfl rfl (news3 rfl _ _ _ _) (one3 _ _ _) hc3 hc4 hc5 ?_; intro v' w2 hown2 hgrow2 _))
                          have hbel2 := below_append hownA hbelA hc5 (by assumption)
                          have hown3 := own_snoc EX.out (by assumption)
                          go_roundw
                          case rel => exact ⟨b, line, _, rfl, rfl, hnx, hown3, hbel2⟩
                          case measure => simp [intOf]; omega
              · have l1 : Tk.lttI (s[k].toNat : Int) = true := hL
                have l2 := ltt_not47 _ l1
                have hfw := fun b h => first_word s k b hlt hL h
                clear pcase
                have hn0 := InF.start Tk.isI s k
                obtain ⟨wo, rfl⟩ : ∃ wo : World, wo = wr := ⟨_, rfl⟩
                go_wp2_with (go_at_call 69; refine (Letter_any _ _).mono ?_; rintro e w' ⟨rfl, rfl⟩)
                go_loop [9] (fun i => ∃ b : Nat, k ≤ b ∧ b ≤ s.size ∧ i = .int .i64 b ∧ InF Tk.isI s k b) (fun i => s.size - (intOf i).toNat)
                case atStart => exact ⟨k, Nat.le_refl _, by omega, rfl, hn0⟩
                case round =>
                  obtain ⟨b, hkb, hbs, rfl, hno⟩ := hrel
                  by_cases hc : ∃ h : b < s.size, Tk.isI s[b] = true
                  · obtain ⟨hbl, hi1⟩ := hc
                    have hi2 : Tk.innI (s[b].toNat : Int) = true := hi1
                    have hst := hno.step hbl hi1
                    clear hi1 hfw hok herr
                    go_wp2_with (go_at_call 70; refine (inner_any _ _).mono ?_; rintro e w' ⟨rfl, rfl⟩)
                    go_round
                    case rel => exact ⟨b + 1, by omega, by omega, by go_num, hst⟩
                    case measure => simp [intOf]; omega
                  · have hlen := hno.len hkb hbs (fun h => by rw [Bool.eq_false_iff]; exact fun e => hc ⟨h, e⟩)
                    have hf := hfw b hlen
                    have EX := Lib.hid (InF.text hlen)
                    have go : ∀ Z : Prop, ((hbl : b < s.size) → Tk.innI (s[b].toNat : Int) = false → Z) → (¬ b < s.size → Z) → Z := by
                      intro Z h1 h2
                      by_cases hbl : b < s.size
                      · exact h1 hbl (by show Tk.isI s[b] = false; rw [Bool.eq_false_iff]; exact fun e => hc ⟨hbl, e⟩)
                      · exact h2 hbl
                    clear hc hfw
                    by_cases h12 : 12 < b - k
                    · rw [if_pos h12] at hf
                      rw [hf] at herr
                      have HR := Lib.hid (herr (by decide))
                      clear hok herr hf hlen
                      refine go _ (fun hbl t4 => ?_) (fun hbl => ?_)
                      all_goals
                        clear go
                        go_wp2_with (go_at_call 70; refine (inner_any _ _).mono ?_; rintro e w' ⟨rfl, rfl⟩)
                        go_ret3
                        rw [HR.out]
                        exact ⟨_, rfl, World.ownsRow_nil _ _ _ _, hbel⟩
                    · rw [if_neg h12] at hf
                      rw [hf] at hok
                      obtain ⟨hnx, htl⟩ := hok rfl
                      simp only [hlen] at hnx htl
                      rw [show k + (b - k) = b from by omega] at hnx
                      clear hok herr hf hlen
                      cases hK : kwB (s.extract k b)
                      · rw [hK, if_neg (by decide)] at hnx
                        refine go _ (fun hbl t4 => ?_) (fun hbl => ?_)
                        all_goals
                          clear go
                          go_wp2_with (go_at_call 70; refine (inner_any _ _).mono ?_; rintro e w' ⟨rfl, rfl⟩)
                          refine (RefIsKeyword_b _ _).mono ?_
                          rintro e w1 ⟨rfl, hb1⟩
                          obtain ⟨hc, hf⟩ := bcell hb1
                          have hz : wo.heap.size < w1.heap.size := by have := hb1.size; simp at this; omega
                          have hown1 := own_below (hown.alloc (.cells #[.int .i64 1, .string (s.extract k b), .int .i64 line] 104)) hb1
                          have hownA := hown1.alloc (.cells #[.int .i64 1, .string (s.extract k b), .int .i64 line] 104)
                          have hbelA := ((hbel.alloc hbs2 (.cells #[.int .i64 1, .string (s.extract k b), .int .i64 line] 104)).trans (hb1.mono (by simp; omega))).alloc (by omega) (.cells #[.int .i64 1, .string (s.extract k b), .int .i64 line] 104)
                          have hc5 : w.heap.size ≤ (w1.alloc (.cells #[.int .i64 1, .string (s.extract k b), .int .i64 line] 104)).heap.size := by simp; omega
                          go_wp2_with (at_builtin; refine wpList_append_own _ rfl _ _ 67 rfl w.heap.size 104 i0 _ 3 32 Tryz.underlying67 hi hz0 hz1 hz2 rfl (by decide) _ _ _ rfl hownA ⟨w1.heap.size, 0, none⟩ 1 1 [.int .i64 1, .string (s.extract k b), .int .i64 line] rfl rfl (news3 rfl _ _ _ _) (one3 _ _ _) hc3 hc4 hc5 ?_; intro v' w2 hown2 hgrow2 _)
                          have hbel2 := below_append hownA hbelA hc5 hgrow2
                          have hown3 := own_snoc EX.out hown2
                          clear hown2 hgrow2 hownA hbelA hc5 hown1 hown hb1 hbel hi hz0 hz1 hz2 hc hf hc3 hc4
                          go_wp2
                          go_roundw
                          case rel => exact ⟨b, line, _, rfl, rfl, hnx, hown3, hbel2⟩
                          case measure => simp [intOf]; omega
                      · rw [hK, if_pos rfl] at hnx
                        refine go _ (fun hbl t4 => ?_) (fun hbl => ?_)
                        all_goals
                          clear go
                          go_wp2_with (go_at_call 70; refine (inner_any _ _).mono ?_; rintro e w' ⟨rfl, rfl⟩)
                          refine (RefIsKeyword_b _ _).mono ?_
                          rintro e w1 ⟨rfl, hb1⟩
                          obtain ⟨hc, hf⟩ := bcell hb1
                          have hz : wo.heap.size < w1.heap.size := by have := hb1.size; simp at this; omega
                          have hown1 := own_below (hown.alloc (.cells #[.int .i64 1, .string (s.extract k b), .int .i64 line] 104)) hb1
                          have hownA := (own_set hown1 hown 0 (.int .i64 3)).alloc (.cells #[.int .i64 3, .string (s.extract k b), .int .i64 line] 104)
                          have hzs := size_set w1 ⟨wo.heap.size, 0, none⟩ (.int .i64 3)
                          have hbelA := (((hbel.alloc hbs2 (.cells #[.int .i64 1, .string (s.extract k b), .int .i64 line] 104)).trans (hb1.mono (by simp; omega))).setCell (p := ⟨wo.heap.size, 0, none⟩) hbs2 (.int .i64 3)).alloc (by omega) (.cells #[.int .i64 3, .string (s.extract k b), .int .i64 line] 104)
                          have hc5 : w.heap.size ≤ ((w1.setCell ⟨wo.heap.size, 0, none⟩ (.int .i64 3)).alloc (.cells #[.int .i64 3, .string (s.extract k b), .int .i64 line] 104)).heap.size := by simp; omega
                          have hnews := news3 hzs 104 (.int .i64 3) (.string (s.extract k b)) (.int .i64 line)
                          have HNW := Lib.hid hnews
                          clear hzs hnews
                          go_wp2_with (at_builtin; refine wpList_append_own _ rfl _ _ 67 rfl w.heap.size 104 i0 _ 3 32 Tryz.underlying67 hi hz0 hz1 hz2 rfl (by decide) _ _ _ rfl hownA ⟨w1.heap.size, 0, none⟩ 1 1 [.int .i64 3, .string (s.extract k b), .int .i64 line] rfl rfl HNW.out (one3 _ _ _) hc3 hc4 hc5 ?_; intro v' w2 hown2 hgrow2 _)
                          have hbel2 := below_append hownA hbelA hc5 hgrow2
                          have hown3 := own_snoc EX.out hown2
                          clear hown2 hgrow2 hownA hbelA hc5 hown1 hown hb1 hbel hi hz0 hz1 hz2 hc hf hc3 hc4
                          go_wp2
                          go_roundw
                          case rel => exact ⟨b, line, _, rfl, rfl, hnx, hown3, hbel2⟩
                          case measure => simp [intOf]; omega
      · have hR := Lib.hid (hsp.done (by rw [← Lib.size_eq]; exact hlt))
        go_wp2
        go_ret3
        rw [hR.out]
        exact ⟨_, rfl, hown, hbel⟩
end Go.Proofs.YtommnhglgedflaaGreatDoor
end
