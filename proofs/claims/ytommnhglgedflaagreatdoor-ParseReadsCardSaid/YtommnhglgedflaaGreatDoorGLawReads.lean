/-
  The walk of the law ParseReads.
-/
import Derived.Test.YtommnhglgedflaaGreatDoorGRF
import Derived.Test.YtommnhglgedflaaGreatDoorGUH
import Derived.Test.YtommnhglgedflaaGreatDoorGUI
set_option linter.unusedSimpArgs false
set_option linter.unusedVariables false
namespace Go.Proofs.YtommnhglgedflaaGreatDoor
open Go.RowKit
open Md Pz
theorem four_max {n : Nat} (h : n ≤ 4096) : n ≤ maxLen := Nat.le_trans h (by unfold maxLen; decide)
set_option maxHeartbeats 4000000 in
set_option maxRecDepth 100000 in
theorem ParseReads_walk (s : ByteArray) (hm : s.size ≤ maxLen) (w : World) (hkw : KwLaid w) :
    Calls Tryz.prog 4 #[.string s] w fun e w' => e = .returned (.bool true) ∧ Below w.heap.size w w' := by
  have HKW := Lib.hid hkw
  have HP := Lib.hid (Parse_any s w hkw hm)
  have HR := Lib.hid (fun w => RefParse_any s w hm)
  generalize parse s.data.toList = res at *
  obtain ⟨p, er, ln⟩ := res
  unfold maxLen at hm
  clear hkw
  by_cases hbig : 2000 < s.size
  · go_enter Tryz.func4, Tryz.ntmps4
    go_wp2_with fail
    go_ret
    exact ⟨rfl, Below.refl _ _⟩
  · go_enter Tryz.func4, Tryz.ntmps4
    go_wp2_with fail
    refine HP.out.mono ?_
    rintro e w1 ⟨aoD, capD, aoT, capT, rfl, hl, hat, hb, -⟩
    have HL := Lib.hid hl
    have HAT := Lib.hid hat
    have HB := Lib.hid hb
    clear hl hat hb HP
    dsimp only at HL HAT ⊢
    go_upto_region 4 with fail
    have HE := Lib.hid ((Sit.start w1).box2 (n := w1.heap.size) rfl (.slice aoD p.ds.length capD) (.slice aoT p.ts.length capT) 26)
    generalize hW : World.alloc w1 _ = W1
    rw [hW] at HE
    clear hW
    go_wp2_with fail
    refine (HR.out _).mono ?_
    rintro e w2 ⟨aoD2, capD2, aoT2, capT2, rfl, hl, hat, hb, -⟩
    have HAT2 := Lib.hid hat
    have HE2 := Lib.hid (HE.out.next hb)
    clear hl hat hb HR HE
    dsimp only at HAT2 ⊢
    go_upto_region 5 with fail
    have HE3 := Lib.hid (HE2.out.box2 (n := w2.heap.size) rfl (.slice aoD2 p.ds.length capD2) (.slice aoT2 p.ts.length capT2) 26)
    have HA3 : Hid (∀ W, w2.alloc (.cells #[.slice aoD2 p.ds.length capD2, .slice aoT2 p.ts.length capT2] 26) = W → p.At W aoD aoT ∧ p.At W aoD2 aoT2) := Lib.hid (fun W hW => by
      subst hW
      exact ⟨⟨four_max HL.out.1, four_max HL.out.2.1, HAT.out.1.same HE3.out.1, HAT.out.2.same HE3.out.1⟩, four_max HL.out.1, four_max HL.out.2.1, HAT2.out.1.same (alloc_below _ _), HAT2.out.2.same (alloc_below _ _)⟩)
    generalize hW : World.alloc w2 _ = W3
    rw [hW] at HE3
    have HA := Lib.hid (HA3.out _ hW)
    clear hW HA3 HE2
    obtain ⟨-, ⟨-, c0⟩, ⟨-, c1⟩, ⟨-, c2⟩, ⟨-, c3⟩, -⟩ := HE3.out
    go_wp2_with fail
    refine (Same_any p p true _ aoD aoT capD capT aoD2 aoT2 capD2 capT2 (Pr.Alk.refl p) HA.out.1 HA.out.2).mono ?_
    rintro e w4 ⟨rfl, hb⟩
    have HB4 := Lib.hid ((HB.out.trans (HE3.out.1.mono HB.out.size)).trans (hb.mono (Nat.le_trans HB.out.size HE3.out.1.size)))
    clear hb c0 c1 c2 c3 HE3 HA HAT HAT2 HL HB
    go_wp2_with fail
    refine (awake_any _ (HKW.out.same HB4.out)).mono ?_
    rintro e w5 ⟨rfl, hb⟩
    go_wp2_with fail
    go_ret
    exact ⟨rfl, HB4.out.trans (hb.mono HB4.out.size)⟩
end Go.Proofs.YtommnhglgedflaaGreatDoor
