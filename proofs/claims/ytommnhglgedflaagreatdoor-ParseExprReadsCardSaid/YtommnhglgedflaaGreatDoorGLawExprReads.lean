/-
  The walk of the law ParseExprReads.
-/
import Derived.Test.YtommnhglgedflaaGreatDoorGRF
import Derived.Test.YtommnhglgedflaaGreatDoorGUE
set_option linter.unusedSimpArgs false
set_option linter.unusedVariables false
namespace Go.Proofs.YtommnhglgedflaaGreatDoor
open Go.RowKit
open Md Pz
set_option maxHeartbeats 4000000 in
set_option maxRecDepth 100000 in
theorem ParseExprReads_walk (s : ByteArray) (hm : s.size ≤ maxLen) (w : World) (hkw : KwLaid w) :
    Calls Tryz.prog 5 #[.string s] w fun e w' => e = .returned (.bool true) ∧ Below w.heap.size w w' := by
  have HKW := Lib.hid hkw
  have HP := Lib.hid (Expr_any s w hkw hm)
  have HR := Lib.hid (fun w => RefExpr_any s w hm)
  generalize parseE s.data.toList = res at *
  obtain ⟨x, er, ln⟩ := res
  unfold maxLen at hm
  clear hkw
  by_cases hbig : 1000 < s.size
  · go_enter Tryz.func5, Tryz.ntmps5
    go_wp2_with fail
    go_ret
    exact ⟨rfl, Below.refl _ _⟩
  · go_enter Tryz.func5, Tryz.ntmps5
    go_wp2_with fail
    refine HP.out.mono ?_
    rintro e w1 ⟨ao, cap, rfl, hok, hat, hb⟩
    have HOK := Lib.hid hok
    have HAT := Lib.hid hat
    have HB := Lib.hid hb
    clear hok hat hb HP
    unfold exV
    go_upto_region 4 with fail
    have HE := Lib.hid ((Sit.start w1).box4 (n := w1.heap.size) rfl (.int .i64 x.op) (.int .i64 x.n) (.string x.nm) (.slice ao x.kids.len cap) 38)
    generalize hW : World.alloc w1 _ = W1
    rw [hW] at HE
    clear hW
    go_wp2_with fail
    refine (HR.out _).mono ?_
    rintro e w2 ⟨ao2, cap2, rfl, hok, hat, hb⟩
    have HAT2 := Lib.hid hat
    have HE2 := Lib.hid (HE.out.next hb)
    clear hok hat hb HR HE
    unfold exV
    go_upto_region 5 with fail
    have HE3 := Lib.hid (HE2.out.box4 (n := w2.heap.size) rfl (.int .i64 x.op) (.int .i64 x.n) (.string x.nm) (.slice ao2 x.kids.len cap2) 38)
    have HA3 : Hid (∀ W, w2.alloc (.cells #[.int .i64 x.op, .int .i64 x.n, .string x.nm, .slice ao2 x.kids.len cap2] 38) = W → x.kids.At W W.heap.size ao 0 ∧ x.kids.At W W.heap.size ao2 0) := Lib.hid (fun W hW => by
      subst hW
      exact ⟨HAT.out.same HE3.out.1, HAT2.out.same (alloc_below _ _)⟩)
    generalize hW : World.alloc w2 _ = W3
    rw [hW] at HE3
    have HA := Lib.hid (HA3.out _ hW)
    clear hW HA3 HE2
    obtain ⟨-, ⟨-, c0⟩, ⟨-, c1⟩, ⟨-, c2⟩, ⟨-, c3⟩, ⟨-, c4⟩, ⟨-, c5⟩, ⟨-, c6⟩, ⟨-, c7⟩, -⟩ := HE3.out
    go_wp2_with fail
    refine (SameExpr_any _ _ _ _ _ ao cap ao2 cap2 HOK.out HA.out.1 HA.out.2).mono ?_
    rintro e w4 ⟨rfl, hb⟩
    have HB4 := Lib.hid ((HB.out.trans (HE3.out.1.mono HB.out.size)).trans (hb.mono (Nat.le_trans HB.out.size HE3.out.1.size)))
    clear hb c0 c1 c2 c3 c4 c5 c6 c7 HE3 HA HAT HAT2 HOK HB
    go_wp2_with fail
    refine (awake_any _ (HKW.out.same HB4.out)).mono ?_
    rintro e w5 ⟨rfl, hb⟩
    go_wp2_with fail
    go_ret
    exact ⟨rfl, HB4.out.trans (hb.mono HB4.out.size)⟩
end Go.Proofs.YtommnhglgedflaaGreatDoor
