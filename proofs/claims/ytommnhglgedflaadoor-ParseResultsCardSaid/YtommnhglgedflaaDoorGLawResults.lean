/-
  The walk of the law ParseResults.
-/
import Derived.Test.YtommnhglgedflaaDoorGRF
set_option linter.unusedSimpArgs false
set_option linter.unusedVariables false
namespace Go.Proofs.YtommnhglgedflaaDoor
open Go.RowKit
open Md Pz
theorem parse_zero (s : List UInt8) (h : (parse s).2.1 ≠ 0) : (parse s).1 = ⟨[], []⟩ := by
  unfold parse at h ⊢
  by_cases h0 : (Tk.scan s).2.1 = 0
  · rw [if_pos h0] at h ⊢
    cases hp : prog (Tk.scan s).1 with
    | no r => rfl
    | ok p r =>
      rw [hp] at h
      dsimp only at h ⊢
      by_cases hq : (p.ts.isEmpty || !r.isEmpty) = true
      · rw [if_pos hq]
      · rw [if_neg hq] at h; exact absurd rfl h
  · rw [if_neg h0]
set_option maxHeartbeats 4000000 in
set_option maxRecDepth 100000 in
theorem ParseResults_walk (s : ByteArray) (hm : s.size ≤ maxLen) (w : World) (hkw : KwLaid w) :
    Calls Tryd.prog 4 #[.string s] w fun e w' => e = .returned (.bool true) ∧ Below w.heap.size w w' := by
  have HKW := Lib.hid hkw
  have HM := Lib.hid hm
  have HPZ := Lib.hid (parse_zero s.data.toList)
  have HPS := Lib.hid (parse_sh s.data.toList)
  have HP := Lib.hid (Parse_any s w hkw hm)
  generalize parse s.data.toList = res at *
  obtain ⟨p, er, ln⟩ := res
  unfold maxLen at hm
  clear hkw
  by_cases hbig : 2000 < s.size
  · go_enter Tryd.func4, Tryd.ntmps4
    go_wp2_with fail
    go_ret
    exact ⟨rfl, Below.refl _ _⟩
  · go_enter Tryd.func4, Tryd.ntmps4
    go_wp2_with fail
    refine HP.out.mono ?_
    rintro e w1 ⟨aoD, capD, aoT, capT, rfl, hl, hat, hb1, hln⟩
    dsimp only at hl hat hln
    have HL := Lib.hid hl
    have HAT := Lib.hid hat
    have HLN := Lib.hid (hln (by omega))
    clear hl hat hln HP
    go_upto_region 4 with fail
    generalize hW : World.alloc w1 _ = W1
    have HB1 : Hid (Below w.heap.size w W1) := Lib.hid (by rw [← hW]; exact hb1.trans ((alloc_below w1 _).mono hb1.size))
    have HA1 : Hid (DeAt W1 W1.heap.size p.ds aoD 0 ∧ ThAt W1 W1.heap.size p.ts aoT 0) := Lib.hid (by rw [← hW]; exact ⟨HAT.out.1.same (alloc_below w1 _), HAT.out.2.same (alloc_below w1 _)⟩)
    have HZ1 : Hid (W1.heap[w1.heap.size]? = some (.cells #[.slice aoD p.ds.length capD, .slice aoT p.ts.length capT] 35 (0, 0))) := Lib.hid (by rw [← hW]; exact heap_alloc_new _ _)
    have y0 : W1.cell? ⟨w1.heap.size, 0, none⟩ = some (.slice aoD p.ds.length capD) := cellb HZ1.out rfl
    have y1 : W1.cell? ⟨w1.heap.size, 1, none⟩ = some (.slice aoT p.ts.length capT) := cellb HZ1.out rfl
    have HAW : Hid (∀ W, Below W1.heap.size W1 W → Calls Tryd.prog 10 #[] W fun e w' => e = .returned (.bool true) ∧ Below W.heap.size W w') := Lib.hid (fun W hb => awake_any W (HKW.out.same (HB1.out.trans (hb.mono HB1.out.size))))
    clear hW hb1 HAT
    by_cases he : er = 0
    · subst he
      obtain ⟨hsh, hl0⟩ := HPS.out rfl
      subst hl0
      have HSH : Hid (Calls Tryd.prog 11 #[.agg #[.slice aoD p.ds.length capD, .slice aoT p.ts.length capT]] W1 fun e w' => e = .returned (.bool true) ∧ Below W1.heap.size W1 w') := Lib.hid (by
        have h := Shaped_any p W1 aoD aoT capD capT ⟨by have := HL.out; unfold maxLen; omega, by have := HL.out; unfold maxLen; omega, HA1.out.1, HA1.out.2⟩ (HKW.out.same HB1.out)
        rw [hsh] at h
        exact h)
      clear hsh
      go_wp2_with fail
      refine HSH.out.mono ?_
      rintro e w2 ⟨rfl, hb2⟩
      have HB2 := Lib.hid hb2
      clear hb2 y0 y1
      go_wp2_with fail
      refine (HAW.out _ HB2.out).mono ?_
      rintro e w3 ⟨rfl, hb3⟩
      go_wp2_with fail
      go_ret
      exact ⟨rfl, HB1.out.trans ((HB2.out.trans (hb3.mono HB2.out.size)).mono HB1.out.size)⟩
    · have hz := HPZ.out he
      subst hz
      have hq : (er == 0) = false := by rw [beq_eq_false_iff_ne]; exact he
      have hln := HLN.out he
      have hq2 : decide ((1 : Int) ≤ ln) = true := decide_eq_true hln
      have y0 : W1.cell? ⟨w1.heap.size, 0, none⟩ = some (.slice aoD 0 capD) := y0
      have y1 : W1.cell? ⟨w1.heap.size, 1, none⟩ = some (.slice aoT 0 capT) := y1
      go_wp2_with fail
      refine (HAW.out _ (Below.refl _ _)).mono ?_
      rintro e w3 ⟨rfl, hb3⟩
      go_wp2_with fail
      go_ret
      exact ⟨rfl, HB1.out.trans (hb3.mono HB1.out.size)⟩
end Go.Proofs.YtommnhglgedflaaDoor
