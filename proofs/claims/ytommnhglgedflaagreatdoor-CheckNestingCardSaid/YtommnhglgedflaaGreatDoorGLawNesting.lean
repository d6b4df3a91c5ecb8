/-
  The walk of the law CheckNesting.
-/
import Derived.Test.YtommnhglgedflaaGreatDoorGWC
set_option linter.unusedSimpArgs false
set_option linter.unusedVariables false
namespace Go.Proofs.YtommnhglgedflaaGreatDoor
open Go.RowKit
open Md Pz
set_option maxHeartbeats 4000000 in
set_option maxRecDepth 100000 in
theorem CheckNesting_walk (w : World) (hkw : KwLaid w) :
    Calls Tryz.prog 10 #[] w fun e w' => e = .returned (.bool true) ∧ Below w.heap.size w w' := by
  have HKW := Lib.hid hkw
  have HB := Lib.hid (Below.refl w.heap.size w)
  clear hkw
  go_enter Tryz.func10, Tryz.ntmps10
  go_wp2_with fail
  refine (accepts_any [108, 111, 99, 107, 32, 109, 32, 123, 32, 108, 111, 99, 107, 32, 110, 32, 123, 32, 119, 97, 105, 116, 32, 99, 59, 32, 125, 32, 110, 111, 116, 105, 102, 121, 32, 99, 59, 32, 125] [114, 101, 97, 100, 32, 114, 32, 123, 32, 116, 114, 97, 110, 115, 97, 99, 116, 105, 111, 110, 32, 123, 32, 120, 32, 61, 32, 49, 59, 32, 125, 32, 125] (by decide) (by decide) CheckNesting0 _ (HKW.out.same HB.out)).mono ?_
  rintro e w1 ⟨rfl, hb⟩
  replace HB := Lib.hid (HB.out.trans (hb.mono HB.out.size))
  clear hb
  go_wp2_with fail
  refine (refuses_any [108, 111, 99, 107, 32, 109, 32, 123, 32, 108, 111, 99, 107, 32, 109, 32, 123, 32, 125, 32, 125] [] 7 3 (by decide) (by decide) CheckNesting1 _ (HKW.out.same HB.out)).mono ?_
  rintro e w1 ⟨rfl, hb⟩
  replace HB := Lib.hid (HB.out.trans (hb.mono HB.out.size))
  clear hb
  go_wp2_with fail
  refine (refuses_any [114, 101, 97, 100, 32, 114, 32, 123, 32, 119, 114, 105, 116, 101, 32, 114, 32, 123, 32, 125, 32, 125] [] 7 3 (by decide) (by decide) CheckNesting2 _ (HKW.out.same HB.out)).mono ?_
  rintro e w1 ⟨rfl, hb⟩
  replace HB := Lib.hid (HB.out.trans (hb.mono HB.out.size))
  clear hb
  go_wp2_with fail
  refine (refuses_any [119, 97, 105, 116, 32, 99, 59] [] 7 3 (by decide) (by decide) CheckNesting3 _ (HKW.out.same HB.out)).mono ?_
  rintro e w1 ⟨rfl, hb⟩
  replace HB := Lib.hid (HB.out.trans (hb.mono HB.out.size))
  clear hb
  go_wp2_with fail
  refine (refuses_any [108, 111, 99, 107, 32, 110, 32, 123, 32, 110, 111, 116, 105, 102, 121, 32, 99, 59, 32, 125] [] 7 3 (by decide) (by decide) CheckNesting4 _ (HKW.out.same HB.out)).mono ?_
  rintro e w1 ⟨rfl, hb⟩
  replace HB := Lib.hid (HB.out.trans (hb.mono HB.out.size))
  clear hb
  go_wp2_with fail
  refine (refuses_any [97, 116, 111, 109, 105, 99, 32, 123, 32, 108, 111, 99, 107, 32, 109, 32, 123, 32, 119, 97, 105, 116, 32, 99, 59, 32, 125, 32, 125] [] 7 3 (by decide) (by decide) CheckNesting5 _ (HKW.out.same HB.out)).mono ?_
  rintro e w1 ⟨rfl, hb⟩
  replace HB := Lib.hid (HB.out.trans (hb.mono HB.out.size))
  clear hb
  go_wp2_with fail
  refine (accepts_any [97, 116, 111, 109, 105, 99, 32, 123, 32, 108, 111, 99, 107, 32, 109, 32, 123, 32, 110, 111, 116, 105, 102, 121, 97, 108, 108, 32, 99, 59, 32, 125, 32, 125] [] (by decide) (by decide) CheckNesting6 _ (HKW.out.same HB.out)).mono ?_
  rintro e w1 ⟨rfl, hb⟩
  replace HB := Lib.hid (HB.out.trans (hb.mono HB.out.size))
  clear hb
  go_wp2_with fail
  refine (refuses_any [116, 114, 97, 110, 115, 97, 99, 116, 105, 111, 110, 32, 123, 32, 108, 111, 99, 107, 32, 109, 32, 123, 32, 125, 32, 125] [] 7 3 (by decide) (by decide) CheckNesting7 _ (HKW.out.same HB.out)).mono ?_
  rintro e w1 ⟨rfl, hb⟩
  replace HB := Lib.hid (HB.out.trans (hb.mono HB.out.size))
  clear hb
  go_wp2_with fail
  refine (refuses_any [116, 114, 97, 110, 115, 97, 99, 116, 105, 111, 110, 32, 123, 32, 116, 114, 97, 110, 115, 97, 99, 116, 105, 111, 110, 32, 123, 32, 125, 32, 125] [] 7 3 (by decide) (by decide) CheckNesting8 _ (HKW.out.same HB.out)).mono ?_
  rintro e w1 ⟨rfl, hb⟩
  replace HB := Lib.hid (HB.out.trans (hb.mono HB.out.size))
  clear hb
  go_wp2_with fail
  refine (refuses_any [97, 116, 111, 109, 105, 99, 32, 123, 32, 97, 116, 111, 109, 105, 99, 32, 123, 32, 125, 32, 125] [] 7 3 (by decide) (by decide) CheckNesting9 _ (HKW.out.same HB.out)).mono ?_
  rintro e w1 ⟨rfl, hb⟩
  replace HB := Lib.hid (HB.out.trans (hb.mono HB.out.size))
  clear hb
  go_wp2_with fail
  refine (refuses_any [] [97, 116, 111, 109, 105, 99, 32, 123, 32, 106, 111, 105, 110, 32, 119, 59, 32, 125] 7 6 (by decide) (by decide) CheckNesting10 _ (HKW.out.same HB.out)).mono ?_
  rintro e w1 ⟨rfl, hb⟩
  replace HB := Lib.hid (HB.out.trans (hb.mono HB.out.size))
  clear hb
  go_wp2_with fail
  refine (refuses_any [116, 114, 97, 110, 115, 97, 99, 116, 105, 111, 110, 32, 123, 32, 103, 101, 116, 32, 97, 32, 102, 59, 32, 125] [] 7 3 (by decide) (by decide) CheckNesting11 _ (HKW.out.same HB.out)).mono ?_
  rintro e w1 ⟨rfl, hb⟩
  replace HB := Lib.hid (HB.out.trans (hb.mono HB.out.size))
  clear hb
  go_wp2_with fail
  go_ret
  exact ⟨rfl, HB.out⟩
end Go.Proofs.YtommnhglgedflaaGreatDoor
