/-
  The law CheckExprTells, walked: it returns true for every input.
-/
import Derived.Test.YtghdammalphmfaaDoorGD
import Derived.Test.YtghdammalphmfaaDoorGME
set_option linter.unusedSimpArgs false
set_option linter.unusedVariables false
namespace Go.Proofs.YtghdammalphmfaaDoor
open Go.RowKit
open Md
theorem Byt.same {w w' : World} {zs : List Int} {ao : Option Addr} (h : Byt w w.heap.size zs ao) (hb : Below w.heap.size w w') : Byt w' w'.heap.size zs ao := fun k hk => by
  obtain ⟨b, off, e, hB, hc, hz⟩ := h k hk
  exact ⟨b, off, e, Nat.lt_of_lt_of_le hB hb.size, (hb.cell hB).trans hc, hz⟩
set_option maxHeartbeats 2000000 in
set_option maxRecDepth 100000 in
theorem CheckExprTells_walk (ao : Option Addr) (len cap : Nat) (zs : List Int) (hlen : zs.length = len) (hcap : len ≤ maxLen) (ao1 : Option Addr) (len1 cap1 : Nat) (zs1 : List Int) (hlen1 : zs1.length = len1) (hcap1 : len1 ≤ maxLen) (x2 : Int) (wx : (Lit.int .i64 x2).wf = true)
    (op n : Int) (nm : ByteArray) (kids : ExL) (ao3 : Option Addr) (cap3 : Nat) {w : World} (hok : ExOk op n nm kids) (hat : kids.At w w.heap.size ao3 0) (hz : Byt w w.heap.size zs ao) (hz1 : Byt w w.heap.size zs1 ao1) (hkw : KwLaid w) :
    Calls Tryd.prog 3 #[.slice ao len cap, .slice ao1 len1 cap1, (.int .i64 x2), .agg #[.int .i64 op, .int .i64 n, .string nm, .slice ao3 kids.len cap3]] w fun e w' => e = .returned (.bool true) ∧ Below w.heap.size w w' := by
  subst hlen hlen1
  have HZ := Lib.hid hz
  have HZ1 := Lib.hid hz1
  have HKW := Lib.hid hkw
  have HOK := Lib.hid hok
  have HAT := Lib.hid hat
  have HXI : Hid (I64 x2) := Lib.hid (by have := bounds_i64 wx; unfold I64; omega)
  unfold maxLen at hcap hcap1
  clear hz hkw hok hat hz1 wx
  by_cases h300 : 300 < zs.length ∨ 300 < zs1.length
  · go_enter Tryd.func3, Tryd.ntmps3
    go_wp2_with fail
    all_goals first | (go_ret; exact ⟨rfl, alloc_below _ _⟩) | (exfalso; omega)
  · have h1 : zs.length ≤ 300 := by omega
    have h2 : zs1.length ≤ 300 := by omega
    clear h300
    go_enter Tryd.func3, Tryd.ntmps3
    go_upto_region 3 with fail
    generalize hW : World.alloc w _ = W0
    generalize Value.agg #[_, _, _, _] = a0
    have HX0 := Lib.hid ((Sit.start w).box4 rfl (.int .i64 op) (.int .i64 n) (.string nm) (.slice ao3 kids.len cap3) 25)
    rw [hW] at HX0
    clear hW
    have HB0 := Lib.hid HX0.out.1
    go_wp2_with fail
    refine (Loose_any W0 zs ao cap (HZ.out.same HB0.out) (by omega)).mono ?_
    rintro e W1 ⟨p, aoD, aoT, capD, capT, rfl, hp, hcD, hcT, hlen5, hb⟩
    have HP1 := Lib.hid hp
    have HB1 := Lib.hid (HB0.out.trans (hb.mono HB0.out.size))
    have HX1 := Lib.hid (HX0.out.next hb)
    have HPL : Hid (p.ts.length ≤ maxLen) := Lib.hid hp.2.1
    have HL5 := Lib.hid hlen5.2
    clear hp hcD hcT hb HX0 HB0 hlen5
    go_wp2_with fail
    refine (MExpr_any W1 zs1 ao1 cap1 (HZ1.out.same HB1.out) (by omega)).mono ?_
    rintro e W2 ⟨op', n', nm', kids', ao', cap', rfl, hok', hat', hb⟩
    have HP2 := Lib.hid (HP1.out.same hb)
    have HX2 := Lib.hid (HX1.out.next hb)
    have HOK' := Lib.hid hok'.1
    have HAT' := Lib.hid hat'
    have HB2 := Lib.hid (HB1.out.trans (hb.mono HB1.out.size))
    clear hok' hat' hb HX1 HP1 HB1
    unfold exV
    go_upto_region 4 with fail
    obtain ⟨b2, hb2⟩ : ∃ b, W2.heap.size = b := ⟨_, rfl⟩
    have HX3 := Lib.hid ((HX2.out.box2 hb2 (.slice aoD p.ds.length capD) (.slice aoT p.ts.length capT) 29).box4 (n := b2 + 1) (by simp [hb2]) (.int .i64 op') (.int .i64 n') (.string nm') (.slice ao' kids'.len cap') 25)
    rw [hb2]
    generalize hW3 : World.alloc (World.alloc W2 _) _ = W3 at *
    have HW23 : Hid (Below W2.heap.size W2 W3) := Lib.hid (by rw [← hW3]; exact (alloc_below _ _).alloc (by simp) _)
    have HP3 := Lib.hid (HP2.out.same HW23.out)
    have HAT3 := Lib.hid (HAT'.out.same HW23.out)
    clear hb2 hW3 HP2 HAT' HX2
    have HKW3 := Lib.hid (HKW.out.same HX3.out.1)
    have HAT0 := Lib.hid (HAT.out.same HX3.out.1)
    have hln := HL5.out
    go_wp2_with fail
    go_loopw [11] (fun v11 wr => ∃ i : Int, v11 = .int .i64 i ∧ -1 ≤ i ∧ i ≤ (p.ts.length : Int) + 1 ∧ Below W3.heap.size W3 wr) (fun i _ => ((p.ts.length : Int) + 1 - intOf i).toNat)
    case atStart => exact ⟨-1, rfl, by omega, by omega, Below.refl _ _⟩
    case round =>
      obtain ⟨i, rfl, hi1, hi2, hb⟩ := hrel
      have HB := Lib.hid hb
      have HX := Lib.hid (HX3.out.next hb)
      have HP := Lib.hid (HP3.out.same hb)
      have HATx := Lib.hid (HAT3.out.same hb)
      have HAT1 := Lib.hid (HAT0.out.same hb)
      have HKW4 := Lib.hid (HKW3.out.same hb)
      clear hb
      obtain ⟨-, ⟨-, c0⟩, ⟨-, c1⟩, ⟨-, c2⟩, ⟨-, c3⟩, ⟨-, c4⟩, ⟨-, c5⟩, ⟨-, c6⟩, ⟨-, c7⟩, ⟨-, c8⟩, ⟨-, c9⟩, -⟩ := HX.out
      by_cases hle : i ≤ (p.ts.length : Int)
      · have HI : Hid (I64 i) := Lib.hid (by unfold I64; omega)
        clear c0 c1 c2 c3 c6 c7 c8 c9
        go_upto_region 7 with fail
        clear c4 c5
        obtain ⟨T, F, hinh, hst, hF, hnext⟩ := calm wr
        have HF := Lib.hid hF
        have HNX := Lib.hid hnext
        clear hnext hF
        have d0 := fun x => (HX.out.next (HF.out x)).2.1.2
        have d1 := fun x => (HX.out.next (HF.out x)).2.2.1.2
        have d2 := fun x => (HX.out.next (HF.out x)).2.2.2.1.2
        have d3 := fun x => (HX.out.next (HF.out x)).2.2.2.2.1.2
        have d4 := fun x => (HX.out.next (HF.out x)).2.2.2.2.2.1.2
        have d5 := fun x => (HX.out.next (HF.out x)).2.2.2.2.2.2.1.2
        have d6 := fun x => (HX.out.next (HF.out x)).2.2.2.2.2.2.2.1.2
        have d7 := fun x => (HX.out.next (HF.out x)).2.2.2.2.2.2.2.2.1.2
        have d8 := fun x => (HX.out.next (HF.out x)).2.2.2.2.2.2.2.2.2.1.2
        have d9 := fun x => (HX.out.next (HF.out x)).2.2.2.2.2.2.2.2.2.2.1.2
        refine region_calm F (by kernel_rfl) (by kernel_rfl) hst ?_
        repeat (any_goals (first | go_big_quiet_step ((first | (go_at_call 9; refine (CheckExpr_any p i op' n' nm' kids' _ aoD aoT ao' capD capT cap' HI.out (HP.out.same (HF.out _)) HOK'.out (HATx.out.same (HF.out _)) (HKW4.out.same (HF.out _))).mono ?_; rintro e w' ⟨rfl, hb⟩; exact ⟨rfl, HNX.out _ _ hb⟩) | (go_at_call 10; refine (RefExpr_any p i op' n' nm' kids' _ aoD aoT ao' capD capT cap' HI.out (HP.out.same (HF.out _)) HOK'.out (HATx.out.same (HF.out _))).mono ?_; rintro e w' ⟨rfl, hb⟩; exact ⟨rfl, HNX.out _ _ hb⟩))) | (refine wpQuiet_step (fun K hK => ?_); go_simp; first | (refine hK _ ?_; clear hK K) | (split <;> first | (refine hK _ ?_; clear hK K) | (apply Exists.intro; refine ⟨fun _ => ?_, hK _ ?_⟩; ((first | (go_at_call 9; refine (CheckExpr_any p i op' n' nm' kids' _ aoD aoT ao' capD capT cap' HI.out (HP.out.same (HF.out _)) HOK'.out (HATx.out.same (HF.out _)) (HKW4.out.same (HF.out _))).mono ?_; rintro e w' ⟨rfl, hb⟩; exact ⟨rfl, HNX.out _ _ hb⟩) | (go_at_call 10; refine (RefExpr_any p i op' n' nm' kids' _ aoD aoT ao' capD capT cap' HI.out (HP.out.same (HF.out _)) HOK'.out (HATx.out.same (HF.out _))).mono ?_; rintro e w' ⟨rfl, hb⟩; exact ⟨rfl, HNX.out _ _ hb⟩))); clear hK K)))))
        all_goals (refine wpQuiet_nil ?_; rintro _ ⟨x, rfl⟩)
        go_wp2_with fail
        go_roundw
        case rel => exact ⟨i + 1, by go_num, by omega, by omega, HB.out.trans ((HF.out x).mono HB.out.size)⟩
        case measure => simp [intOf]; omega
      · have E3 : Hid (exE p 0 0 0 ⟨#[]⟩ .nil = 3) := Lib.hid rfl
        clear c0 c1 c2 c3 c6 c7 c8 c9
        go_upto_region 9 with fail
        clear c4 c5
        obtain ⟨T, F, hinh, hst, hF, hnext⟩ := calm wr
        have HF := Lib.hid hF
        have HNX := Lib.hid hnext
        clear hnext hF
        have d0 := fun x => (HX.out.next (HF.out x)).2.1.2
        have d1 := fun x => (HX.out.next (HF.out x)).2.2.1.2
        have d2 := fun x => (HX.out.next (HF.out x)).2.2.2.1.2
        have d3 := fun x => (HX.out.next (HF.out x)).2.2.2.2.1.2
        have d4 := fun x => (HX.out.next (HF.out x)).2.2.2.2.2.1.2
        have d5 := fun x => (HX.out.next (HF.out x)).2.2.2.2.2.2.1.2
        have d6 := fun x => (HX.out.next (HF.out x)).2.2.2.2.2.2.2.1.2
        have d7 := fun x => (HX.out.next (HF.out x)).2.2.2.2.2.2.2.2.1.2
        have d8 := fun x => (HX.out.next (HF.out x)).2.2.2.2.2.2.2.2.2.1.2
        have d9 := fun x => (HX.out.next (HF.out x)).2.2.2.2.2.2.2.2.2.2.1.2
        refine region_calm F (by kernel_rfl) (by kernel_rfl) hst ?_
        repeat (any_goals (first | go_big_quiet_step ((first | (go_at_call_of 9 (Value.int IntKind.i64 0); refine (CheckExpr_any p 0 0 0 ⟨#[]⟩ .nil _ aoD aoT none capD capT 0 (by unfold I64; decide) (HP.out.same (HF.out _)) ⟨by unfold I64; decide, by unfold I64; decide, Nat.zero_le _, Nat.zero_le _⟩ trivial (HKW4.out.same (HF.out _))).mono ?_; rintro e w' ⟨rfl, hb⟩; exact ⟨rfl, HNX.out _ _ hb⟩) | (go_at_call 9; refine (CheckExpr_any p x2 op n nm kids _ aoD aoT ao3 capD capT cap3 HXI.out (HP.out.same (HF.out _)) HOK.out (HAT1.out.same (HF.out _)) (HKW4.out.same (HF.out _))).mono ?_; rintro e w' ⟨rfl, hb⟩; exact ⟨rfl, HNX.out _ _ hb⟩) | (go_at_call 10; refine (RefExpr_any p x2 op n nm kids _ aoD aoT ao3 capD capT cap3 HXI.out (HP.out.same (HF.out _)) HOK.out (HAT1.out.same (HF.out _))).mono ?_; rintro e w' ⟨rfl, hb⟩; exact ⟨rfl, HNX.out _ _ hb⟩))) | (refine wpQuiet_step (fun K hK => ?_); go_simp; first | (refine hK _ ?_; clear hK K) | (split <;> first | (refine hK _ ?_; clear hK K) | (apply Exists.intro; refine ⟨fun _ => ?_, hK _ ?_⟩; ((first | (go_at_call_of 9 (Value.int IntKind.i64 0); refine (CheckExpr_any p 0 0 0 ⟨#[]⟩ .nil _ aoD aoT none capD capT 0 (by unfold I64; decide) (HP.out.same (HF.out _)) ⟨by unfold I64; decide, by unfold I64; decide, Nat.zero_le _, Nat.zero_le _⟩ trivial (HKW4.out.same (HF.out _))).mono ?_; rintro e w' ⟨rfl, hb⟩; exact ⟨rfl, HNX.out _ _ hb⟩) | (go_at_call 9; refine (CheckExpr_any p x2 op n nm kids _ aoD aoT ao3 capD capT cap3 HXI.out (HP.out.same (HF.out _)) HOK.out (HAT1.out.same (HF.out _)) (HKW4.out.same (HF.out _))).mono ?_; rintro e w' ⟨rfl, hb⟩; exact ⟨rfl, HNX.out _ _ hb⟩) | (go_at_call 10; refine (RefExpr_any p x2 op n nm kids _ aoD aoT ao3 capD capT cap3 HXI.out (HP.out.same (HF.out _)) HOK.out (HAT1.out.same (HF.out _))).mono ?_; rintro e w' ⟨rfl, hb⟩; exact ⟨rfl, HNX.out _ _ hb⟩))); clear hK K)))))
        all_goals (refine wpQuiet_nil ?_; rintro _ ⟨x, rfl⟩)
        go_wp2_with fail
        go_ret
        refine ⟨ret_bool ?_, HX.out.1.trans ((HF.out x).mono HX.out.1.size)⟩
        rw [E3.out]; rfl
end Go.Proofs.YtghdammalphmfaaDoor
