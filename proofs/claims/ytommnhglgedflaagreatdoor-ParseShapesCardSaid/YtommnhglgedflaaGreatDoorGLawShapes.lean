/-
  The walk of the law ParseShapes.
-/
import Derived.Test.YtommnhglgedflaaGreatDoorGRF
import Derived.Test.YtommnhglgedflaaGreatDoorGSB
set_option linter.unusedSimpArgs false
set_option linter.unusedVariables false
namespace Go.Proofs.YtommnhglgedflaaGreatDoor
open Go.RowKit
open Md Pz
set_option maxHeartbeats 4000000 in
set_option maxRecDepth 100000 in
theorem ParseShapes_walk (p : Pr) (aoD aoT : Option Addr) (capD capT : Nat) {w : World} (hat : p.At w aoD aoT) (_ : p.ds.length ≤ capD) (_ : p.ts.length ≤ capT) (hkw : KwLaid w) :
    Calls Tryz.prog 7 #[.agg #[.slice aoD p.ds.length capD, .slice aoT p.ts.length capT]] w fun e w' => e = .returned (.bool true) ∧ Below w.heap.size w w' := by
  have HAT := Lib.hid hat
  have HKW := Lib.hid hkw
  obtain ⟨b, HB⟩ : ∃ b, Hid (shpP p = b) := ⟨_, Lib.hid rfl⟩
  clear hat hkw
  cases b
  all_goals
    go_enter Tryz.func7, Tryz.ntmps7
    go_upto_region 1 with fail
    have HX := Lib.hid ((Sit.start w).box2 rfl (.slice aoD p.ds.length capD) (.slice aoT p.ts.length capT) 26)
    generalize hW : World.alloc w _ = W at *
    have HKW1 := Lib.hid (HKW.out.same HX.out.1)
    have HAT1 := Lib.hid (HAT.out.same HX.out.1)
    clear hW
    obtain ⟨T, F, hinh, hst, hF, hnext⟩ := calm W
    have HF := Lib.hid hF
    have HNX := Lib.hid hnext
    clear hnext hF
    have d0 := fun x => (HX.out.next (HF.out x)).2.1.2
    have d1 := fun x => (HX.out.next (HF.out x)).2.2.1.2
    refine region_calm F (by kernel_rfl) (by kernel_rfl) hst ?_
    repeat (any_goals (first | go_big_quiet_step ((first | (go_at_call 21; refine (Shaped_any p _ aoD aoT capD capT (HAT1.out.same (HF.out _)) (HKW1.out.same (HF.out _))).mono ?_; rw [HB.out]; rintro e w' ⟨rfl, hb⟩; exact ⟨rfl, HNX.out _ _ hb⟩) | (go_at_call 23; refine (RefShaped_any p _ aoD aoT capD capT (HAT1.out.same (HF.out _))).mono ?_; rw [HB.out]; rintro e w' ⟨rfl, hb⟩; exact ⟨rfl, HNX.out _ _ hb⟩) | (go_at_call 17; refine (awake_any _ (HKW1.out.same (HF.out _))).mono ?_; rintro e w' ⟨rfl, hb⟩; exact ⟨rfl, HNX.out _ _ hb⟩))) | (refine wpQuiet_step (fun K hK => ?_); go_simp; first | (refine hK _ ?_; clear hK K) | (split <;> first | (refine hK _ ?_; clear hK K) | (apply Exists.intro; refine ⟨fun _ => ?_, hK _ ?_⟩; ((first | (go_at_call 21; refine (Shaped_any p _ aoD aoT capD capT (HAT1.out.same (HF.out _)) (HKW1.out.same (HF.out _))).mono ?_; rw [HB.out]; rintro e w' ⟨rfl, hb⟩; exact ⟨rfl, HNX.out _ _ hb⟩) | (go_at_call 23; refine (RefShaped_any p _ aoD aoT capD capT (HAT1.out.same (HF.out _))).mono ?_; rw [HB.out]; rintro e w' ⟨rfl, hb⟩; exact ⟨rfl, HNX.out _ _ hb⟩) | (go_at_call 17; refine (awake_any _ (HKW1.out.same (HF.out _))).mono ?_; rintro e w' ⟨rfl, hb⟩; exact ⟨rfl, HNX.out _ _ hb⟩))); clear hK K)))))
    all_goals (refine wpQuiet_nil ?_; rintro _ ⟨x, rfl⟩)
    go_wp2_with fail
    go_ret
    exact ⟨rfl, HX.out.1.trans ((HF.out x).mono HX.out.1.size)⟩
end Go.Proofs.YtommnhglgedflaaGreatDoor
