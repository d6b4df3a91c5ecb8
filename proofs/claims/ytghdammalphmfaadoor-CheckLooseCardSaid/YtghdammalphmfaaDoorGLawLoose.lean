/-
  The law CheckLoose, walked: it returns true for every input.
-/
import Derived.Test.YtghdammalphmfaaDoorGR
import Derived.Test.YtghdammalphmfaaDoorGME
set_option linter.unusedSimpArgs false
set_option linter.unusedVariables false
namespace Go.Proofs.YtghdammalphmfaaDoor
open Go.RowKit
open Md
set_option maxHeartbeats 1000000 in
theorem CheckLoose_walk (ao : Option Addr) (len cap : Nat) (zs : List Int) (hlen : zs.length = len) (hcap : len ≤ maxLen) (w : World) (hz : Byt w w.heap.size zs ao) (hkw : KwLaid w) :
    Calls Tryd.prog 5 #[.slice ao len cap] w fun e w' => e = .returned (.bool true) ∧ Below w.heap.size w w' := by
  subst hlen
  have HZ := Lib.hid hz
  have HKW := Lib.hid hkw
  unfold maxLen at hcap
  clear hz hkw
  by_cases h300 : 300 < zs.length
  · go_enter Tryd.func5, Tryd.ntmps5
    go_wp2_with fail
    go_ret
    exact ⟨rfl, Below.refl _ _⟩
  · go_enter Tryd.func5, Tryd.ntmps5
    go_wp2_with fail
    refine (Loose_any w zs ao cap HZ.out (by omega)).mono ?_
    rintro e w1 ⟨p, aoD, aoT, capD, capT, rfl, hp, hcD, hcT, -, hb⟩
    have HP := Lib.hid hp
    have HCD := Lib.hid hcD
    have HCT := Lib.hid hcT
    have HB := Lib.hid hb
    have HKW1 := Lib.hid (HKW.out.same hb)
    clear hp hcD hcT hb
    go_upto_region 4 with fail
    generalize hW : World.alloc w1 _ = W
    generalize Value.agg #[_, _] = a0
    have HX := Lib.hid ((Sit.start w1).box2 rfl (.slice aoD p.ds.length capD) (.slice aoT p.ts.length capT) 29)
    rw [hW] at HX
    clear hW
    obtain ⟨-, ⟨-, c0⟩, ⟨-, c1⟩, -⟩ := HX.out
    go_wp2_with fail
    refine (Program_any p _ aoD aoT capD capT (HP.out.same HX.out.1) (HKW1.out.same HX.out.1)).mono ?_
    rintro e w3 ⟨rfl, hb1⟩
    have HY := Lib.hid (HX.out.next hb1)
    clear HX hb1 c0 c1
    obtain ⟨-, ⟨-, c0⟩, ⟨-, c1⟩, -⟩ := HY.out
    go_wp2_with fail
    refine (RefProgram_any p _ aoD aoT capD capT (HP.out.same HY.out.1) HCD.out HCT.out).mono ?_
    rintro e w4 ⟨rfl, hb2⟩
    have HZ2 := Lib.hid (HY.out.next hb2)
    clear HY hb2 c0 c1
    generalize prgE p = res
    go_wp2_with fail
    refine (awake_any _ (HKW1.out.same HZ2.out.1)).mono ?_
    rintro e w5 ⟨rfl, hb3⟩
    have HV := Lib.hid (HZ2.out.next hb3)
    clear HZ2 hb3
    go_wp2_with fail
    go_ret
    exact ⟨rfl, HB.out.trans (HV.out.1.mono HB.out.size)⟩
end Go.Proofs.YtghdammalphmfaaDoor
