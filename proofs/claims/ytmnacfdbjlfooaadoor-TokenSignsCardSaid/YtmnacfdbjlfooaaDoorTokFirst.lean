/-
  Contracts of token.number and token.first.
-/
import Derived.Test.YtmnacfdbjlfooaaDoorTokWord
namespace Go.Proofs.YtmnacfdbjlfooaaDoor
open Go.RowKit

def zcut (s : ByteArray) : ByteArray := ⟨(s.data.toList.dropWhile (· == 48)).toArray⟩
theorem zcut_toList (s : ByteArray) : (zcut s).toList = s.data.toList.dropWhile (· == 48) := by unfold zcut; rw [Lib.toList_data]
theorem zcut_size (s : ByteArray) : (zcut s).size = (s.data.toList.dropWhile (· == 48)).length := by unfold zcut; exact Lib.size_mk _
theorem TrimLeft_z (s : ByteArray) (w : World) (h : s.toList.isEmpty = false) :
    Calls Tryd.prog 37 #[.string s, .string ⟨#[48]⟩] w fun e w' => e = .returned (.string (zcut s)) ∧ w = w' := TrimLeft_zero s w h

/-- What the tests of a number come to, as the walk asks them: the way through the last one. -/
def NumWay (z : ByteArray) (R : Nat × Nat × List UInt8) (k : Nat) (l : List UInt8) : Prop :=
  (19 < z.size ∧ R = (3, 0, [])) ∨ (z.size < 19 ∧ R = (0, 2, l)) ∨
  (z.size = 19 ∧ Op.bytesLess z.toList [57, 50, 50, 51, 51, 55, 50, 48, 51, 54, 56, 53, 52, 55, 55, 53, 56, 48, 55] = true ∧ R = (0, 2, l)) ∨
  (z.size = 19 ∧ Op.bytesLess z.toList [57, 50, 50, 51, 51, 55, 50, 48, 51, 54, 56, 53, 52, 55, 55, 53, 56, 48, 55] = false ∧ (z.toList == [57, 50, 50, 51, 51, 55, 50, 48, 51, 54, 56, 53, 52, 55, 55, 53, 56, 48, 55]) = true ∧ R = (0, 2, l)) ∨
  (z.size = 19 ∧ Op.bytesLess z.toList [57, 50, 50, 51, 51, 55, 50, 48, 51, 54, 56, 53, 52, 55, 55, 53, 56, 48, 55] = false ∧ (z.toList == [57, 50, 50, 51, 51, 55, 50, 48, 51, 54, 56, 53, 52, 55, 55, 53, 56, 48, 55]) = false ∧ R = (3, 0, [])) ∧ 0 ≤ k

theorem all_tw (p : UInt8 → Bool) : ∀ l : List UInt8, (l.takeWhile p).all p = true
  | [] => rfl
  | c :: l => by
    rw [List.takeWhile_cons]
    split
    · rename_i h; rw [List.all_cons, h, all_tw p l]; rfl
    · rfl

theorem numR_err (l : List UInt8) (h : (l.dropWhile Tk.isD).head?.any Tk.isI = true) : Tk.numR l = (3, 0, []) := by
  unfold Tk.numR; rw [h]; rfl
theorem numWay (s : ByteArray) (k : Nat) (hlen : (s.data.toList.takeWhile Tk.isD).length = k) (h : (s.data.toList.dropWhile Tk.isD).head?.any Tk.isI = false) :
    NumWay (zcut (s.extract 0 k)) (Tk.numR s.data.toList) k (s.data.toList.takeWhile Tk.isD) := by
  have ha := all_tw Tk.isD s.data.toList
  unfold NumWay Tk.numR
  rw [zcut_toList, zcut_size, extract_tw_data hlen, h, Bool.false_or]
  generalize s.data.toList.takeWhile Tk.isD = d at *
  rcases Nat.lt_trichotomy 19 (d.dropWhile (· == 48)).length with h1 | h1 | h1
  · left; refine ⟨h1, ?_⟩
    rw [Tk.numOk_long d ha h1]; rfl
  · right; right
    have hq := Tk.numOk_eq d ha h1.symm
    unfold Tk.great at hq
    generalize Op.bytesLess (d.dropWhile (· == 48)) [57, 50, 50, 51, 51, 55, 50, 48, 51, 54, 56, 53, 52, 55, 55, 53, 56, 48, 55] = a at *
    generalize (d.dropWhile (· == 48) == [57, 50, 50, 51, 51, 55, 50, 48, 51, 54, 56, 53, 52, 55, 55, 53, 56, 48, 55]) = b at *
    rw [← hq]
    cases a <;> cases b <;> simp [h1.symm]
  · right; left; refine ⟨h1, ?_⟩
    rw [Tk.numOk_short d ha h1]; rfl

theorem head_dw {p q : UInt8 → Bool} {s : ByteArray} {k : Nat} (h : (s.data.toList.takeWhile p).length = k) (hlt : k < s.size) : (s.data.toList.dropWhile p).head?.any q = q s[k] := by
  have e : s.data.toList.dropWhile p = s.data.toList.drop k := by rw [← h, Tk.drop_takeWhile]
  have hl : k < s.data.toList.length := by rw [← Lib.size_eq]; exact hlt
  rw [e, List.drop_eq_getElem_cons hl]
  rfl
theorem head_dw_none {p q : UInt8 → Bool} {s : ByteArray} {k : Nat} (h : (s.data.toList.takeWhile p).length = k) (hlt : ¬ k < s.size) : (s.data.toList.dropWhile p).head?.any q = false := by
  have e : s.data.toList.dropWhile p = s.data.toList.drop k := by rw [← h, Tk.drop_takeWhile]
  rw [e, List.drop_of_length_le (by rw [← Lib.size_eq]; omega)]
  rfl

set_option maxHeartbeats 4000000 in
theorem number_any (s : ByteArray) (w : World) (hs : s.size ≤ 4096) (h0 : 0 < s.size) (hD : Tk.isD s[0] = true) :
    Calls Tryd.prog 33 #[.string s] w fun e w' => e = .returned (tokV (Tk.numR s.data.toList)) ∧ Below w.heap.size w w' := by
  have hin1 : Inn Tk.isD s 1 := Inn.one h0 hD
  clear hD
  go_enter Tryd.func33, Tryd.ntmps33
  go_wp2
  go_loop [4] (fun i => ∃ k : Nat, 1 ≤ k ∧ k ≤ s.size ∧ i = .int .i64 k ∧ Inn Tk.isD s k) (fun i => s.size - (intOf i).toNat)
  case atStart => exact ⟨1, Nat.le_refl _, h0, rfl, hin1⟩
  case round =>
    obtain ⟨k, hk1, hk, rfl, hin⟩ := hrel
    clear hin1
    by_cases hc : ∃ h : k < s.size, Tk.isD s[k] = true
    · obtain ⟨hlt, hi⟩ := hc
      have hst := hin.step hlt hi
      have h1 : Tk.digI (s[k].toNat : Int) = true := hi
      clear hi
      go_wp2_with (go_at_call 32; refine (isDigit_any _ _).mono ?_; rintro e w' ⟨rfl, rfl⟩)
      go_round
      case rel => exact ⟨k + 1, by omega, by omega, by go_num, hst⟩
      case measure => simp [intOf]; omega
    · have hlen : (s.data.toList.takeWhile Tk.isD).length = k := hin.len hk (fun h => by
        rw [Bool.eq_false_iff]; exact fun e => hc ⟨h, e⟩)
      have EX := Lib.hid (extract_tw hlen)
      have hne : (s.extract 0 k).toList.isEmpty = false := by
        rw [Lib.extract_toList]
        have : 0 < s.data.toList.length := by rw [← Lib.size_eq]; exact h0
        cases hd : s.data.toList with
        | nil => rw [hd] at this; simp at this
        | cons a r => simp; omega
      by_cases hA : ∃ h : k < s.size, Tk.isI s[k] = true
      · obtain ⟨hlt, hi⟩ := hA
        have h2 : Tk.digI (s[k].toNat : Int) = false := by
          show Tk.isD s[k] = false
          rw [Bool.eq_false_iff]; exact fun e => hc ⟨hlt, e⟩
        have HR : Hid (Tk.numR s.data.toList = (3, 0, [])) := Lib.hid (numR_err _ (by rw [head_dw hlen hlt]; exact hi))
        clear hc hlen
        rcases isI_parts s[k] with ⟨_, h1⟩ | ⟨_, _, h3⟩ | ⟨_, h1, _, h3⟩ | ⟨h4, _⟩
        case inr.inr.inr => rw [hi] at h4; cases h4
        case inr.inl => rw [h2] at h3; cases h3
        all_goals
          clear hi
          go_wp2_with (first | (go_at_call 30; refine (isLetter_any _ _).mono ?_; rintro e w' ⟨rfl, rfl⟩) | (go_at_call 32; refine (isDigit_any _ _).mono ?_; rintro e w' ⟨rfl, rfl⟩))
          exact bodyPost_ret (v := .tuple #[.agg #[.int .i64 0, .string ⟨#[]⟩, .int .i64 0], .int .i64 3]) (by simp [results, Tryd.results33, go_sem]) rfl ⟨by rw [HR.out]; rfl, (Below.refl _ _).alloc (Nat.le_refl _) _⟩
      · have HN : Hid (NumWay (zcut (s.extract 0 k)) (Tk.numR s.data.toList) k (s.data.toList.takeWhile Tk.isD)) := by
          refine Lib.hid (numWay s k hlen ?_)
          by_cases hlt : k < s.size
          · rw [head_dw hlen hlt, Bool.eq_false_iff]; exact fun e => hA ⟨hlt, e⟩
          · exact head_dw_none hlen hlt
        have go : ∀ Z : Prop, ((hlt : k < s.size) → Tk.lttI (s[k].toNat : Int) = false → Tk.digI (s[k].toNat : Int) = false → ((s[k].toNat : Int) == 95) = false → Z) → (¬ k < s.size → Z) → Z := by
          intro Z h1 h2
          by_cases hlt : k < s.size
          · rcases isI_parts s[k] with ⟨h, _⟩ | ⟨h, _⟩ | ⟨h, _⟩ | ⟨_, ha, hb, hcc⟩
            · exact absurd ⟨hlt, h⟩ hA
            · exact absurd ⟨hlt, h⟩ hA
            · exact absurd ⟨hlt, h⟩ hA
            · exact h1 hlt ha hb hcc
          · exact h2 hlt
        clear hc hA hlen
        rcases HN.out with ⟨z1, hR⟩ | ⟨z1, hR⟩ | ⟨z1, z2, hR⟩ | ⟨z1, z2, z3, hR⟩ | ⟨⟨z1, z2, z3, hR⟩, _⟩
        all_goals
          have HRR := Lib.hid hR
          have zb : (((zcut (s.extract 0 k)).size : Int) == 19) = decide ((zcut (s.extract 0 k)).size = 19) := by
            rw [Bool.eq_iff_iff]; simp; omega
          clear hR HN
          refine go _ (fun hlt t1 t2 t3 => ?_) (fun hlt => ?_)
        all_goals
          clear go
          go_wp2_with (first | (go_at_call 30; refine (isLetter_any _ _).mono ?_; rintro e w' ⟨rfl, rfl⟩) | (go_at_call 32; refine (isDigit_any _ _).mono ?_; rintro e w' ⟨rfl, rfl⟩) | (go_at_call 37; refine (TrimLeft_z _ _ hne).mono ?_; rintro e w' ⟨rfl, rfl⟩))
        all_goals first
          | exact bodyPost_ret (v := .tuple #[.agg #[.int .i64 0, .string ⟨#[]⟩, .int .i64 0], .int .i64 3]) (by simp [results, Tryd.results33, go_sem]) rfl ⟨by rw [HRR.out]; rfl, (Below.refl _ _).alloc (Nat.le_refl _) _⟩
          | exact bodyPost_ret (v := .tuple #[.agg #[.int .i64 2, .string (s.extract 0 k), .int .i64 0], .int .i64 0]) (by simp [results, Tryd.results33, go_sem]) rfl ⟨by rw [HRR.out, EX.out]; rfl, (Below.refl _ _).alloc (Nat.le_refl _) _⟩
end Go.Proofs.YtmnacfdbjlfooaaDoor
