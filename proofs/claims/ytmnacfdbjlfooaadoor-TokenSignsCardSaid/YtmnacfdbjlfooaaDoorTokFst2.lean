/-
  Contract of token.first.
-/
import Derived.Test.YtmnacfdbjlfooaaDoorTokFirst
namespace Go.Proofs.YtmnacfdbjlfooaaDoor
open Go.RowKit

theorem bcell {W w1 : World} (hb : Below W.heap.size W w1) : (∀ b o, b < W.heap.size → w1.cell? ⟨b, o, none⟩ = W.cell? ⟨b, o, none⟩) ∧ (∀ b o, b < W.heap.size → w1.frozen? ⟨b, o, none⟩ = W.frozen? ⟨b, o, none⟩) :=
  ⟨fun b o h => hb.cell (p := ⟨b, o, none⟩) h, fun b o h => hb.frozen (p := ⟨b, o, none⟩) h⟩

theorem sg_le (l : List UInt8) : (Tk.sgOf l).length ≤ l.length := by
  rw [Tk.sgOf_eq]; split
  · rw [List.length_take]; omega
  · split
    · rw [List.length_take]; omega
    · simp
theorem sg_take (l : List UInt8) : l.take (Tk.sgOf l).length = Tk.sgOf l := by
  rw [Tk.sgOf_eq]; split
  · rw [List.length_take, List.take_eq_take_iff]; omega
  · split
    · rw [List.length_take, List.take_eq_take_iff]; omega
    · rfl

set_option maxHeartbeats 1000000 in
theorem first_any (s : ByteArray) (w : World) (hs : s.size ≤ 4096) (h0 : 0 < s.size) (hkw : KwLaid w) :
    Calls Tryd.prog 21 #[.string s] w fun e w' => e = .returned (tokV (Tk.first s.data.toList)) ∧ Below w.heap.size w w' := by
  have hhd := head_at s h0
  cases hL : Tk.isL s[0]
  · have h1 : Tk.lttI (s[0].toNat : Int) = false := hL
    cases hD : Tk.isD s[0]
    · have h2 : Tk.digI (s[0].toNat : Int) = false := hD
      have HR : Hid (Tk.first s.data.toList = Tk.sgnR s.data.toList) := by
        apply Lib.hid; unfold Tk.first; rw [hhd, hL, hD]; rfl
      clear hhd hL hD
      have HE : Hid (s.extract 0 (Tk.sgOf s.data.toList).length = ⟨(Tk.sgOf s.data.toList).toArray⟩) := by
        apply Lib.hid
        rw [Lib.extract_upto, sg_take]
      have hle : (Tk.sgOf s.data.toList).length ≤ s.size := by rw [Lib.size_eq]; exact sg_le _
      have HS : Hid (Tk.sgnR s.data.toList = if (Tk.sgOf s.data.toList).isEmpty then (3, 0, []) else (0, 4, Tk.sgOf s.data.toList)) := Lib.hid rfl
      by_cases hn : (Tk.sgOf s.data.toList).length = 0
      · have hn0 : Tk.sgOf s.data.toList = [] := List.eq_nil_of_length_eq_zero hn
        have HS2 : Hid (Tk.sgnR s.data.toList = (3, 0, [])) := by apply Lib.hid; rw [HS.out, hn0]; rfl
        have hb0 : (((Tk.sgOf s.data.toList).length : Int) == 0) = true := by rw [hn]; rfl
        clear HS HE hn hn0
        go_enter Tryd.func21, Tryd.ntmps21
        go_wp2_with (first | (go_at_call 30; refine (isLetter_any _ _).mono ?_; rintro e w' ⟨rfl, rfl⟩) | (go_at_call 32; refine (isDigit_any _ _).mono ?_; rintro e w' ⟨rfl, rfl⟩) | (go_at_call 34; refine (sign_any _ _ h0).mono ?_; rintro e w' ⟨rfl, rfl⟩))
        exact bodyPost_ret (v := .tuple #[.agg #[.int .i64 0, .string ⟨#[]⟩, .int .i64 0], .int .i64 3]) (by simp [results, Tryd.results21, go_sem]) rfl ⟨by rw [HR.out, HS2.out]; rfl, (Below.refl _ _).alloc (Nat.le_refl _) _⟩
      · have HS2 : Hid (Tk.sgnR s.data.toList = (0, 4, Tk.sgOf s.data.toList)) := by
          apply Lib.hid; rw [HS.out, if_neg]
          intro h; exact hn (by rw [List.isEmpty_iff] at h; rw [h]; rfl)
        have hb0 : (((Tk.sgOf s.data.toList).length : Int) == 0) = false := by rw [beq_eq_false_iff_ne]; omega
        clear HS
        go_enter Tryd.func21, Tryd.ntmps21
        go_wp2_with (first | (go_at_call 30; refine (isLetter_any _ _).mono ?_; rintro e w' ⟨rfl, rfl⟩) | (go_at_call 32; refine (isDigit_any _ _).mono ?_; rintro e w' ⟨rfl, rfl⟩) | (go_at_call 34; refine (sign_any _ _ h0).mono ?_; rintro e w' ⟨rfl, rfl⟩))
        exact bodyPost_ret (v := .tuple #[.agg #[.int .i64 4, .string (s.extract 0 (Tk.sgOf s.data.toList).length), .int .i64 0], .int .i64 0]) (by simp [results, Tryd.results21, go_sem]) rfl ⟨by rw [HR.out, HS2.out, HE.out]; rfl, (Below.refl _ _).alloc (Nat.le_refl _) _⟩
    · have h2 : Tk.digI (s[0].toNat : Int) = true := hD
      have HR : Hid (Tk.first s.data.toList = Tk.numR s.data.toList) := by
        apply Lib.hid; unfold Tk.first; rw [hhd, hL, hD]; rfl
      clear hhd
      generalize hr : Tk.numR s.data.toList = r at *
      have Hr := Lib.hid hr
      clear hr
      go_enter Tryd.func21, Tryd.ntmps21
      go_wp2_with (first | (go_at_call 30; refine (isLetter_any _ _).mono ?_; rintro e w' ⟨rfl, rfl⟩) | (go_at_call 32; refine (isDigit_any _ _).mono ?_; rintro e w' ⟨rfl, rfl⟩))
      refine (number_any s _ hs h0 hD).mono ?_
      rintro e w1 ⟨rfl, hb⟩
      rw [Hr.out]
      obtain ⟨hc, hf⟩ := bcell hb
      have hz : w.heap.size < w1.heap.size := by have := hb.size; simp at this; omega
      unfold tokV
      go_wp2
      refine bodyPost_ret (v := tokV r) (by simp [results, Tryd.results21, go_sem, tokV, hc]) rfl ⟨by rw [HR.out], ?_⟩
      exact (((((Below.refl _ _).alloc (Nat.le_refl _) _).trans (hb.mono (by simp))).setCell (by simp) _).setCell (by simp) _).setCell (by simp) _
  · have HR : Hid (Tk.first s.data.toList = Tk.wordR s.data.toList) := by
      apply Lib.hid; unfold Tk.first; rw [hhd, if_pos hL]
    have h1 : Tk.lttI (s[0].toNat : Int) = true := hL
    clear hhd
    generalize hr : Tk.wordR s.data.toList = r at *
    have Hr := Lib.hid hr
    clear hr
    go_enter Tryd.func21, Tryd.ntmps21
    go_wp2_with (first | (go_at_call 30; refine (isLetter_any _ _).mono ?_; rintro e w' ⟨rfl, rfl⟩) | (go_at_call 32; refine (isDigit_any _ _).mono ?_; rintro e w' ⟨rfl, rfl⟩))
    refine (word_any s _ hs h0 hL (hkw.alloc _)).mono ?_
    rintro e w1 ⟨rfl, hb⟩
    rw [Hr.out]
    obtain ⟨hc, hf⟩ := bcell hb
    have hz : w.heap.size < w1.heap.size := by have := hb.size; simp at this; omega
    unfold tokV
    go_wp2
    refine bodyPost_ret (v := tokV r) (by simp [results, Tryd.results21, go_sem, tokV, hc]) rfl ⟨by rw [HR.out], ?_⟩
    exact (((((Below.refl _ _).alloc (Nat.le_refl _) _).trans (hb.mono (by simp))).setCell (by simp) _).setCell (by simp) _).setCell (by simp) _
end Go.Proofs.YtmnacfdbjlfooaaDoor
