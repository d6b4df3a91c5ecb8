/-
  The walk of the law CheckOnce.
-/
import Derived.Test.YtommnhglgedflaaGreatDoorGWC
set_option linter.unusedSimpArgs false
set_option linter.unusedVariables false
namespace Go.Proofs.YtommnhglgedflaaGreatDoor
open Go.RowKit
open Md Pz
set_option maxHeartbeats 4000000 in
set_option maxRecDepth 100000 in
theorem CheckOnce_walk (w : World) (hkw : KwLaid w) :
    Calls Tryz.prog 11 #[] w fun e w' => e = .returned (.bool true) ∧ Below w.heap.size w w' := by
  have HKW := Lib.hid hkw
  have HB := Lib.hid (Below.refl w.heap.size w)
  clear hkw
  go_enter Tryz.func11, Tryz.ntmps11
  go_wp2_with fail
  refine (accepts_any [115, 112, 97, 119, 110, 32, 117, 59, 32, 115, 101, 116, 32, 102, 32, 49, 59] [115, 112, 97, 119, 110, 32, 119, 59, 32, 106, 111, 105, 110, 32, 116, 59] (by decide) (by decide) CheckOnce0 _ (HKW.out.same HB.out)).mono ?_
  rintro e w1 ⟨rfl, hb⟩
  replace HB := Lib.hid (HB.out.trans (hb.mono HB.out.size))
  clear hb
  go_wp2_with fail
  refine (refuses_any [115, 112, 97, 119, 110, 32, 117, 59] [115, 112, 97, 119, 110, 32, 117, 59] 7 6 (by decide) (by decide) CheckOnce1 _ (HKW.out.same HB.out)).mono ?_
  rintro e w1 ⟨rfl, hb⟩
  replace HB := Lib.hid (HB.out.trans (hb.mono HB.out.size))
  clear hb
  go_wp2_with fail
  refine (refuses_any [115, 112, 97, 119, 110, 32, 119, 59] [115, 112, 97, 119, 110, 32, 119, 59] 8 6 (by decide) (by decide) CheckOnce2 _ (HKW.out.same HB.out)).mono ?_
  rintro e w1 ⟨rfl, hb⟩
  replace HB := Lib.hid (HB.out.trans (hb.mono HB.out.size))
  clear hb
  go_wp2_with fail
  refine (refuses_any [115, 112, 97, 119, 110, 32, 116, 59] [] 7 3 (by decide) (by decide) CheckOnce3 _ (HKW.out.same HB.out)).mono ?_
  rintro e w1 ⟨rfl, hb⟩
  replace HB := Lib.hid (HB.out.trans (hb.mono HB.out.size))
  clear hb
  go_wp2_with fail
  refine (refuses_any [] [115, 112, 97, 119, 110, 32, 116, 59] 7 6 (by decide) (by decide) CheckOnce4 _ (HKW.out.same HB.out)).mono ?_
  rintro e w1 ⟨rfl, hb⟩
  replace HB := Lib.hid (HB.out.trans (hb.mono HB.out.size))
  clear hb
  go_wp2_with fail
  refine (refuses_any [119, 104, 105, 108, 101, 32, 120, 32, 123, 32, 115, 112, 97, 119, 110, 32, 117, 59, 32, 125] [] 7 3 (by decide) (by decide) CheckOnce5 _ (HKW.out.same HB.out)).mono ?_
  rintro e w1 ⟨rfl, hb⟩
  replace HB := Lib.hid (HB.out.trans (hb.mono HB.out.size))
  clear hb
  go_wp2_with fail
  refine (refuses_any [115, 101, 116, 32, 102, 32, 49, 59, 32, 115, 101, 116, 32, 102, 32, 50, 59] [] 8 3 (by decide) (by decide) CheckOnce6 _ (HKW.out.same HB.out)).mono ?_
  rintro e w1 ⟨rfl, hb⟩
  replace HB := Lib.hid (HB.out.trans (hb.mono HB.out.size))
  clear hb
  go_wp2_with fail
  refine (refuses_any [119, 104, 105, 108, 101, 32, 120, 32, 123, 32, 115, 101, 116, 32, 102, 32, 49, 59, 32, 125] [] 7 3 (by decide) (by decide) CheckOnce7 _ (HKW.out.same HB.out)).mono ?_
  rintro e w1 ⟨rfl, hb⟩
  replace HB := Lib.hid (HB.out.trans (hb.mono HB.out.size))
  clear hb
  go_wp2_with fail
  refine (refuses_any [106, 111, 105, 110, 32, 116, 59] [] 7 3 (by decide) (by decide) CheckOnce8 _ (HKW.out.same HB.out)).mono ?_
  rintro e w1 ⟨rfl, hb⟩
  replace HB := Lib.hid (HB.out.trans (hb.mono HB.out.size))
  clear hb
  go_wp2_with fail
  go_ret
  exact ⟨rfl, HB.out⟩
end Go.Proofs.YtommnhglgedflaaGreatDoor
