/-
  The walk of the law CheckNames.
-/
import Derived.Test.YtommnhglgedflaaGreatDoorGWC
set_option linter.unusedSimpArgs false
set_option linter.unusedVariables false
namespace Go.Proofs.YtommnhglgedflaaGreatDoor
open Go.RowKit
open Md Pz
set_option maxHeartbeats 4000000 in
set_option maxRecDepth 100000 in
theorem CheckNames_walk (w : World) (hkw : KwLaid w) :
    Calls Tryz.prog 9 #[] w fun e w' => e = .returned (.bool true) ∧ Below w.heap.size w w' := by
  have HKW := Lib.hid hkw
  have HB := Lib.hid (Below.refl w.heap.size w)
  clear hkw
  go_enter Tryz.func9, Tryz.ntmps9
  go_wp2_with fail
  refine (accepts_any [120, 32, 61, 32, 97, 59, 32, 118, 32, 61, 32, 113, 91, 120, 93, 59, 32, 97, 32, 61, 32, 49, 59, 32, 113, 91, 48, 93, 32, 61, 32, 118, 59] [98, 32, 61, 32, 120, 59] (by decide) (by decide) CheckNames0 _ (HKW.out.same HB.out)).mono ?_
  rintro e w1 ⟨rfl, hb⟩
  replace HB := Lib.hid (HB.out.trans (hb.mono HB.out.size))
  clear hb
  go_wp2_with fail
  refine (refuses_any [121, 32, 61, 32, 49, 59] [] 5 3 (by decide) (by decide) CheckNames1 _ (HKW.out.same HB.out)).mono ?_
  rintro e w1 ⟨rfl, hb⟩
  replace HB := Lib.hid (HB.out.trans (hb.mono HB.out.size))
  clear hb
  go_wp2_with fail
  refine (refuses_any [109, 32, 61, 32, 49, 59] [] 6 3 (by decide) (by decide) CheckNames2 _ (HKW.out.same HB.out)).mono ?_
  rintro e w1 ⟨rfl, hb⟩
  replace HB := Lib.hid (HB.out.trans (hb.mono HB.out.size))
  clear hb
  go_wp2_with fail
  refine (refuses_any [113, 32, 61, 32, 49, 59] [] 6 3 (by decide) (by decide) CheckNames3 _ (HKW.out.same HB.out)).mono ?_
  rintro e w1 ⟨rfl, hb⟩
  replace HB := Lib.hid (HB.out.trans (hb.mono HB.out.size))
  clear hb
  go_wp2_with fail
  refine (refuses_any [120, 91, 48, 93, 32, 61, 32, 49, 59] [] 6 3 (by decide) (by decide) CheckNames4 _ (HKW.out.same HB.out)).mono ?_
  rintro e w1 ⟨rfl, hb⟩
  replace HB := Lib.hid (HB.out.trans (hb.mono HB.out.size))
  clear hb
  go_wp2_with fail
  refine (refuses_any [] [98, 32, 61, 32, 97, 59] 5 6 (by decide) (by decide) CheckNames5 _ (HKW.out.same HB.out)).mono ?_
  rintro e w1 ⟨rfl, hb⟩
  replace HB := Lib.hid (HB.out.trans (hb.mono HB.out.size))
  clear hb
  go_wp2_with fail
  refine (refuses_any [120, 32, 61, 32, 113, 59] [] 6 3 (by decide) (by decide) CheckNames6 _ (HKW.out.same HB.out)).mono ?_
  rintro e w1 ⟨rfl, hb⟩
  replace HB := Lib.hid (HB.out.trans (hb.mono HB.out.size))
  clear hb
  go_wp2_with fail
  refine (refuses_any [108, 111, 99, 107, 32, 114, 32, 123, 32, 125] [] 6 3 (by decide) (by decide) CheckNames7 _ (HKW.out.same HB.out)).mono ?_
  rintro e w1 ⟨rfl, hb⟩
  replace HB := Lib.hid (HB.out.trans (hb.mono HB.out.size))
  clear hb
  go_wp2_with fail
  refine (refuses_any [114, 101, 97, 100, 32, 109, 32, 123, 32, 125] [] 6 3 (by decide) (by decide) CheckNames8 _ (HKW.out.same HB.out)).mono ?_
  rintro e w1 ⟨rfl, hb⟩
  replace HB := Lib.hid (HB.out.trans (hb.mono HB.out.size))
  clear hb
  go_wp2_with fail
  refine (refuses_any [119, 97, 105, 116, 32, 109, 59] [] 6 3 (by decide) (by decide) CheckNames9 _ (HKW.out.same HB.out)).mono ?_
  rintro e w1 ⟨rfl, hb⟩
  replace HB := Lib.hid (HB.out.trans (hb.mono HB.out.size))
  clear hb
  go_wp2_with fail
  refine (refuses_any [103, 101, 116, 32, 120, 32, 102, 59] [] 6 3 (by decide) (by decide) CheckNames10 _ (HKW.out.same HB.out)).mono ?_
  rintro e w1 ⟨rfl, hb⟩
  replace HB := Lib.hid (HB.out.trans (hb.mono HB.out.size))
  clear hb
  go_wp2_with fail
  refine (refuses_any [103, 101, 116, 32, 97, 32, 109, 59] [] 6 3 (by decide) (by decide) CheckNames11 _ (HKW.out.same HB.out)).mono ?_
  rintro e w1 ⟨rfl, hb⟩
  replace HB := Lib.hid (HB.out.trans (hb.mono HB.out.size))
  clear hb
  go_wp2_with fail
  refine (refuses_any [108, 111, 99, 107, 32, 97, 32, 123, 32, 125] [] 6 3 (by decide) (by decide) CheckNames12 _ (HKW.out.same HB.out)).mono ?_
  rintro e w1 ⟨rfl, hb⟩
  replace HB := Lib.hid (HB.out.trans (hb.mono HB.out.size))
  clear hb
  go_wp2_with fail
  go_ret
  exact ⟨rfl, HB.out⟩
end Go.Proofs.YtommnhglgedflaaGreatDoor
