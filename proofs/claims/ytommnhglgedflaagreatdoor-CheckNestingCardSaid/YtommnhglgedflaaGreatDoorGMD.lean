/-
  Contracts of parse.shapedStmt, shapedList, Shaped.
  Contract of parse.Shaped.
-/
import Derived.Test.YtommnhglgedflaaGreatDoorGMC
section
namespace Go.Proofs.YtommnhglgedflaaGreatDoor
open Go.RowKit
open Md
/-- What parse.shapedStmt answers. -/
def ShSSays (h : StH) (b e : StL) : Prop :=
  ∀ (w : World) (s : Sl), StIn w h b e s → KwLaid w →
    Calls Tryz.prog 86 #[stV h b e s] w fun e' w' => e' = .returned (.bool (shpS h b e)) ∧ Below w.heap.size w w'

set_option maxHeartbeats 2000000 in
set_option maxRecDepth 100000 in
theorem shapedList_of (l : StL) (hall : l.All ShSSays) (w : World) (ao : Option Addr) (cap : Nat) (hl : l.len ≤ maxLen) (hat : l.At w w.heap.size ao 0) (hkw : KwLaid w) :
    Calls Tryz.prog 48 #[.slice ao l.len cap] w fun e' w' => e' = .returned (.bool (shpSL l)) ∧ Below w.heap.size w w' := by
  unfold maxLen at hl
  go_enter Tryz.func48, Tryz.ntmps48
  go_wp2_with fail
  go_loopw [4, 7] (fun _ s wr => ∃ (k : Nat) (R : StL), s = .int .i64 k ∧ k + R.len = l.len ∧ shpSL l = shpSL R ∧ R.All ShSSays ∧ R.At wr wr.heap.size ao k ∧ Below w.heap.size w wr) (fun _ s _ => l.len - (intOf s).toNat)
  case atStart => exact ⟨0, l, rfl, by simp, rfl, hall, hat, Below.refl _ _⟩
  case round =>
    obtain ⟨k, R, rfl, hlen, heq, hall', hrow, hB⟩ := hrel
    have HE := Lib.hid heq
    clear heq
    cases R with
    | nil =>
      obtain rfl : k = l.len := by simpa [StL.len] using hlen
      go_wp2_with fail
      go_ret
      exact ⟨ret_bool HE.out.symm, hB⟩
    | cons h b e R =>
      obtain ⟨bl, off, s, rfl, hbl, hin, x0, x1, x2, x3, x4, x5, x6, x7, x8, x9, x10, hrest⟩ := StL.At.head hrow
      obtain ⟨hsay, hall''⟩ := hall'
      have hkl : k < l.len := by simp only [StL.len] at hlen; omega
      clear hrow
      go_wp2_with fail
      have hba := alloc_below wr (.cells #[.int .i64 h.op, .int .i64 h.line, .string h.nm, .string h.arg, .slice s.aoi h.idx.len s.capi, .int .i64 h.xop, .int .i64 h.xn, .string h.xnm, .slice s.aox h.xkids.len s.capx, .slice s.aob b.len s.capb, .slice s.aoe e.len s.cape] 91)
      refine (hsay _ s (hin.same hba) (hkw.same (hB.trans (hba.mono hB.size)))).mono ?_
      rintro e' w2 ⟨rfl, hb2⟩
      have HB3 := Lib.hid (hba.trans (hb2.mono (by simp)))
      clear hba hb2 x0 x1 x2 x3 x4 x5 x6 x7 x8 x9 x10 hin
      cases hS : shpS h b e
      · have HF := Lib.hid (HE.out.trans (by rw [shpSL_cons, hS]; rfl : shpSL (.cons h b e R) = false))
        go_wp2_with fail
        go_ret
        exact ⟨ret_bool HF.out.symm, hB.trans (HB3.out.mono hB.size)⟩
      · have HF := Lib.hid (HE.out.trans (by rw [shpSL_cons, hS]; rfl : shpSL (.cons h b e R) = shpSL R))
        go_wp2_with fail
        go_roundw
        case rel => exact ⟨k + 1, R, by go_num, by simp only [StL.len] at hlen; omega, HF.out, hall'', hrest.same HB3.out, hB.trans (HB3.out.mono hB.size)⟩
        case measure => simp [intOf]; omega

set_option maxHeartbeats 4000000 in
set_option maxRecDepth 100000 in
theorem shapedStmt_step (h : StH) (b e : StL) (ihb : b.All ShSSays) (ihe : e.All ShSSays) : ShSSays h b e := by
  intro w s hin hkw
  obtain ⟨aoi, capi, aox, capx, aob, capb, aoe, cape⟩ := s
  have HS : Hid (shpS h b e = ((((fO h.op && (nmOr h.nm (fN h.op) && nmOr h.arg (fA h.op))) && ((decide ((h.idx.len : Int) ≤ 1) && (!decide ((h.idx.len : Int) = 1) || fI h.op)) && shpL h.idx)) &&
    ((if fX h.op then shpE h.xop h.xn h.xnm h.xkids else zeroX h.xop h.xn h.xnm h.xkids.len) && ((fB h.op || decide ((b.len : Int) ≤ 0)) && (fE h.op || decide ((e.len : Int) ≤ 0))))) && (shpSL b && shpSL e))) := Lib.hid (by
    unfold shpS shpS1; rw [int_le1, int_eq1, int_le0, int_le0])
  generalize shpS h b e = res at *
  have HIN := Lib.hid hin
  have HKW := Lib.hid hkw
  have HIB := Lib.hid ihb
  have HIE := Lib.hid ihe
  obtain ⟨⟨⟨o1, o2⟩, -, hm, ha, hil, hxk, hbl, hel⟩, -⟩ := hin
  clear hkw ihb ihe
  have hil' := hil
  have hbl' := hbl
  have hel' := hel
  have hxl := hxk.2.2.2
  unfold maxLen at hil hbl hel hxl
  unfold stV
  dsimp only
  go_enter Tryz.func86, Tryz.ntmps86
  go_upto_region 1 with fail
  generalize hW : World.alloc w _ = W
  generalize Value.agg #[_, _, _, _, _, _, _, _, _, _, _] = a0
  have HX : Hid (Sit w W (stF w.heap.size h b e ⟨aoi, capi, aox, capx, aob, capb, aoe, cape⟩ [])) := Lib.hid (by rw [← hW]; exact (Sit.start w).box11 rfl _ _ _ _ _ _ _ _ _ _ _ _)
  clear hW
  obtain ⟨-, ⟨-, c0⟩, ⟨-, c1⟩, ⟨-, c2⟩, ⟨-, c3⟩, ⟨-, c4⟩, ⟨-, c5⟩, ⟨-, c6⟩, ⟨-, c7⟩, ⟨-, c8⟩, ⟨-, c9⟩, ⟨-, c10⟩, -⟩ := HX.out
  go_upto_region 2 with (go_at_call 116; refine (fieldsOf_any _ _).mono ?_; rintro e' w1 ⟨rfl, hb1⟩)
  have HB1 := Lib.hid hb1
  clear hb1
  generalize fN h.op = bN at *
  generalize fA h.op = bA at *
  generalize fI h.op = bI at *
  generalize fX h.op = bX at *
  generalize fB h.op = bB at *
  generalize fE h.op = bE at *
  generalize fO h.op = bO at *
  obtain ⟨n2, hn2⟩ : ∃ n, w1.heap.size = n := ⟨_, rfl⟩
  generalize hW2 : World.alloc w1 _ = W2
  have HY : Hid (Sit w W2 ((n2, 0, .bool bN) :: (n2, 1, .bool bA) :: (n2, 2, .bool bI) :: (n2, 3, .bool bX) :: (n2, 4, .bool bB) :: (n2, 5, .bool bE) :: stF w.heap.size h b e ⟨aoi, capi, aox, capx, aob, capb, aoe, cape⟩ [])) := Lib.hid (by rw [← hW2]; exact (HX.out.next HB1.out).box6 hn2 _ _ _ _ _ _ _)
  rw [hn2]
  clear hW2 hn2 HX HB1 c0 c1 c2 c3 c4 c5 c6 c7 c8 c9 c10
  obtain ⟨-, ⟨-, c0⟩, ⟨-, c1⟩, ⟨-, c2⟩, ⟨-, c3⟩, ⟨-, c4⟩, ⟨-, c5⟩, ⟨-, c6⟩, ⟨-, c7⟩, ⟨-, c8⟩, ⟨-, c9⟩, ⟨-, c10⟩, ⟨-, c11⟩, ⟨-, c12⟩, ⟨-, c13⟩, ⟨-, c14⟩, ⟨-, c15⟩, ⟨-, c16⟩, -⟩ := HY.out
  go_cut [4, 7, 30] (fun _ _ s' W2 => ∃ t, s' = .bool t ∧ (!t) = (bO && (nmOr h.nm bN && nmOr h.arg bA)) ∧ Sit w W2 ((n2, 0, .bool bN) :: (n2, 1, .bool bA) :: (n2, 2, .bool bI) :: (n2, 3, .bool bX) :: (n2, 4, .bool bB) :: (n2, 5, .bool bE) :: stF w.heap.size h b e ⟨aoi, capi, aox, capx, aob, capb, aoe, cape⟩ []))
  case first =>
    cases bO
    · go_wp2_with fail
      go_meet
      exact ⟨true, rfl, rfl, HY.out⟩
    · go_wp2_with fail
      refine (nameOrEmpty_any _ _ _ (HKW.out.same HY.out.1) hm).mono ?_
      rintro e' w3 ⟨rfl, hb3⟩
      have HZ := Lib.hid (HY.out.next hb3)
      clear hb3 HY c0 c1 c2 c3 c4 c5 c6 c7 c8 c9 c10 c11 c12 c13 c14 c15 c16
      obtain ⟨-, ⟨-, c0⟩, ⟨-, c1⟩, ⟨-, c2⟩, ⟨-, c3⟩, ⟨-, c4⟩, ⟨-, c5⟩, ⟨-, c6⟩, ⟨-, c7⟩, ⟨-, c8⟩, ⟨-, c9⟩, ⟨-, c10⟩, ⟨-, c11⟩, ⟨-, c12⟩, ⟨-, c13⟩, ⟨-, c14⟩, ⟨-, c15⟩, ⟨-, c16⟩, -⟩ := HZ.out
      cases hq : nmOr h.nm bN
      · go_wp2_with fail
        go_meet
        exact ⟨true, rfl, by rw [hq]; rfl, HZ.out⟩
      · go_wp2_with fail
        refine (nameOrEmpty_any _ _ _ (HKW.out.same HZ.out.1) ha).mono ?_
        rintro e' w3 ⟨rfl, hb3⟩
        have HU := Lib.hid (HZ.out.next hb3)
        clear hb3 HZ c0 c1 c2 c3 c4 c5 c6 c7 c8 c9 c10 c11 c12 c13 c14 c15 c16
        cases hq2 : nmOr h.arg bA
        all_goals go_wp2_with fail
        all_goals go_meet
        all_goals exact ⟨_, rfl, by rw [hq, hq2]; rfl, HU.out⟩
  obtain ⟨t1, rfl, ht1, hX⟩ := hcut
  have HZ := Lib.hid hX
  have HT1 := Lib.hid ht1
  clear hX ht1 HY c0 c1 c2 c3 c4 c5 c6 c7 c8 c9 c10 c11 c12 c13 c14 c15 c16
  rw [← HT1.out] at HS
  clear HT1
  cases t1
  case true =>
    go_wp2_with fail
    go_ret
    exact ⟨ret_bool HS.out.symm, HZ.out.1⟩
  obtain ⟨-, ⟨-, c0⟩, ⟨-, c1⟩, ⟨-, c2⟩, ⟨-, c3⟩, ⟨-, c4⟩, ⟨-, c5⟩, ⟨-, c6⟩, ⟨-, c7⟩, ⟨-, c8⟩, ⟨-, c9⟩, ⟨-, c10⟩, ⟨-, c11⟩, ⟨-, c12⟩, ⟨-, c13⟩, ⟨-, c14⟩, ⟨-, c15⟩, ⟨-, c16⟩, -⟩ := HZ.out
  go_upto_region 4 with fail
  go_cut [45] (fun s' W3 => wc = W3 ∧ ∃ t, s' = .bool t ∧ (!t) = (decide ((h.idx.len : Int) ≤ 1) && (!decide ((h.idx.len : Int) = 1) || bI)))
  case first =>
    go_wp2_with fail
    all_goals go_meet
    all_goals exact ⟨rfl, _, rfl, by go_light; grind⟩
  obtain ⟨rfl, t2, rfl, ht2⟩ := hcut
  have HT2 := Lib.hid ht2
  rw [← HT2.out] at HS
  clear HT2 ht2
  cases t2
  case true =>
    go_wp2_with fail
    go_ret
    exact ⟨ret_bool (HS.out.trans (by simp)).symm, HZ.out.1⟩
  have HXI := Lib.hid (HIN.out.same HZ.out.1)
  have hrow := HXI.out.2.1
  have hall := HXI.out.1
  clear hall
  go_wp2_with fail
  go_loopw [6, 49] (fun _ s' wr => ∃ (k : Nat) (R : ExL), s' = .int .i64 k ∧ k + R.len = h.idx.len ∧ shpL h.idx = shpL R ∧ R.At wr wr.heap.size aoi k ∧ Sit w wr ((n2, 0, .bool bN) :: (n2, 1, .bool bA) :: (n2, 2, .bool bI) :: (n2, 3, .bool bX) :: (n2, 4, .bool bB) :: (n2, 5, .bool bE) :: stF w.heap.size h b e ⟨aoi, capi, aox, capx, aob, capb, aoe, cape⟩ [])) (fun _ s' _ => h.idx.len - (intOf s').toNat)
  case atStart => exact ⟨0, h.idx, rfl, by simp, rfl, hrow, HZ.out⟩
  case round =>
    obtain ⟨k, R, rfl, hlen, heq, hrow', hsit⟩ := hrel
    have HE := Lib.hid heq
    have HU := Lib.hid hsit
    clear heq hsit HZ hrow HXI c0 c1 c2 c3 c4 c5 c6 c7 c8 c9 c10 c11 c12 c13 c14 c15 c16
    cases R with
    | cons op' n' nm' kids' rest =>
      obtain ⟨⟨b', off', ao', cap', rfl, hbB, x0, x1, x2, x3, hok', hkids⟩, hrest⟩ := hrow'
      have hlt : k < h.idx.len := by simp only [ExL.len] at hlen; omega
      go_wp2_with fail
      have hba := alloc_below wr (.cells #[.int .i64 op', .int .i64 n', .string nm', .slice ao' kids'.len cap'] 38)
      refine (ShapedExpr_any op' n' nm' kids' _ _ _ hok' (hkids.same hba) ((HKW.out.same HU.out.1).same hba)).mono ?_
      rintro e' w2 ⟨rfl, hb2⟩
      have HB3 := Lib.hid (hba.trans (hb2.mono (by simp)))
      clear hba hb2 x0 x1 x2 x3 hkids
      cases hS : shpE op' n' nm' kids'
      · rw [HE.out, shpL_cons, hS] at HS
        go_wp2_with fail
        go_ret
        exact ⟨ret_bool (HS.out.trans (by simp)).symm, (HU.out.next HB3.out).1⟩
      · have HF := Lib.hid (HE.out.trans (by rw [shpL_cons, hS]; rfl : shpL (.cons op' n' nm' kids' rest) = shpL rest))
        go_wp2_with fail
        go_roundw
        case rel => exact ⟨k + 1, rest, by go_num, by simp only [ExL.len] at hlen; omega, HF.out, hrest.same HB3.out, HU.out.next HB3.out⟩
        case measure => simp [intOf]; omega
    | nil =>
      obtain rfl : k = h.idx.len := by simpa [ExL.len] using hlen
      rw [HE.out] at HS
      clear HE hrow' hlen
      obtain ⟨-, ⟨-, c0⟩, ⟨-, c1⟩, ⟨-, c2⟩, ⟨-, c3⟩, ⟨-, c4⟩, ⟨-, c5⟩, ⟨-, c6⟩, ⟨-, c7⟩, ⟨-, c8⟩, ⟨-, c9⟩, ⟨-, c10⟩, ⟨-, c11⟩, ⟨-, c12⟩, ⟨-, c13⟩, ⟨-, c14⟩, ⟨-, c15⟩, ⟨-, c16⟩, -⟩ := HU.out
      have hba := HKW.out.same HU.out.1
      go_upto_region 12 with fail
      go_cut [75] (fun s' W3 => ∃ t, s' = .bool t ∧ (!t) = (if bX then shpE h.xop h.xn h.xnm h.xkids else zeroX h.xop h.xn h.xnm h.xkids.len) ∧ Sit w W3 ((n2, 0, .bool bN) :: (n2, 1, .bool bA) :: (n2, 2, .bool bI) :: (n2, 3, .bool bX) :: (n2, 4, .bool bB) :: (n2, 5, .bool bE) :: stF w.heap.size h b e ⟨aoi, capi, aox, capx, aob, capb, aoe, cape⟩ []))
      case first =>
        cases bX
        · go_wp2_with fail
          refine (zeroExpr_any _ _ _ _ _ _ _).mono ?_
          rintro e' w3 ⟨rfl, hb3⟩
          have HV := Lib.hid (HU.out.next hb3)
          clear hb3
          cases hq : zeroX h.xop h.xn h.xnm h.xkids.len
          all_goals go_wp2_with fail
          all_goals go_meet
          all_goals exact ⟨_, rfl, hq.symm, HV.out⟩
        · go_wp2_with fail
          refine (ShapedExpr_any _ _ _ _ _ _ _ hxk (HIN.out.same HU.out.1).2.2.1 hba).mono ?_
          rintro e' w3 ⟨rfl, hb3⟩
          have HV := Lib.hid (HU.out.next hb3)
          clear hb3 HU c0 c1 c2 c3 c4 c5 c6 c7 c8 c9 c10 c11 c12 c13 c14 c15 c16
          obtain ⟨-, ⟨-, c0⟩, ⟨-, c1⟩, ⟨-, c2⟩, ⟨-, c3⟩, ⟨-, c4⟩, ⟨-, c5⟩, ⟨-, c6⟩, ⟨-, c7⟩, ⟨-, c8⟩, ⟨-, c9⟩, ⟨-, c10⟩, ⟨-, c11⟩, ⟨-, c12⟩, ⟨-, c13⟩, ⟨-, c14⟩, ⟨-, c15⟩, ⟨-, c16⟩, -⟩ := HV.out
          cases hq : shpE h.xop h.xn h.xnm h.xkids
          all_goals go_wp2_with fail
          all_goals go_meet
          all_goals exact ⟨_, rfl, hq.symm, HV.out⟩
      obtain ⟨t3, rfl, ht3, hX⟩ := hcut
      have HV := Lib.hid hX
      have HT3 := Lib.hid ht3
      clear hX ht3 HU hba c0 c1 c2 c3 c4 c5 c6 c7 c8 c9 c10 c11 c12 c13 c14 c15 c16
      rw [← HT3.out] at HS
      clear HT3
      cases t3
      case true =>
        go_wp2_with fail
        go_ret
        exact ⟨ret_bool (HS.out.trans (by simp)).symm, HV.out.1⟩
      obtain ⟨-, ⟨-, c0⟩, ⟨-, c1⟩, ⟨-, c2⟩, ⟨-, c3⟩, ⟨-, c4⟩, ⟨-, c5⟩, ⟨-, c6⟩, ⟨-, c7⟩, ⟨-, c8⟩, ⟨-, c9⟩, ⟨-, c10⟩, ⟨-, c11⟩, ⟨-, c12⟩, ⟨-, c13⟩, ⟨-, c14⟩, ⟨-, c15⟩, ⟨-, c16⟩, -⟩ := HV.out
      go_upto_region 14 with fail
      go_cut [95] (fun s' W3 => wc = W3 ∧ ∃ t, s' = .bool t ∧ (!t) = ((bB || decide ((b.len : Int) ≤ 0)) && (bE || decide ((e.len : Int) ≤ 0))))
      case first =>
        cases bB
        all_goals cases bE
        all_goals go_wp2_with fail
        all_goals go_meet
        all_goals exact ⟨rfl, _, rfl, by go_light; grind⟩
      obtain ⟨rfl, t4, rfl, ht4⟩ := hcut
      have HT4 := Lib.hid ht4
      rw [← HT4.out] at HS
      clear HT4 ht4
      cases t4
      case true =>
        go_wp2_with fail
        go_ret
        exact ⟨ret_bool (HS.out.trans (by simp)).symm, HV.out.1⟩
      go_wp2_with fail
      refine (shapedList_of b HIB.out _ _ _ hbl' (HIN.out.same HV.out.1).2.2.2.1 (HKW.out.same HV.out.1)).mono ?_
      rintro e' w4 ⟨rfl, hb4⟩
      have HA := Lib.hid (HV.out.next hb4)
      clear hb4 HV c0 c1 c2 c3 c4 c5 c6 c7 c8 c9 c10 c11 c12 c13 c14 c15 c16
      obtain ⟨-, ⟨-, c0⟩, ⟨-, c1⟩, ⟨-, c2⟩, ⟨-, c3⟩, ⟨-, c4⟩, ⟨-, c5⟩, ⟨-, c6⟩, ⟨-, c7⟩, ⟨-, c8⟩, ⟨-, c9⟩, ⟨-, c10⟩, ⟨-, c11⟩, ⟨-, c12⟩, ⟨-, c13⟩, ⟨-, c14⟩, ⟨-, c15⟩, ⟨-, c16⟩, -⟩ := HA.out
      cases hq : shpSL b
      · rw [hq] at HS
        go_wp2_with fail
        go_ret
        exact ⟨ret_bool (HS.out.trans (by simp)).symm, HA.out.1⟩
      · rw [hq] at HS
        go_wp2_with fail
        refine (shapedList_of e HIE.out _ _ _ hel' (HIN.out.same HA.out.1).2.2.2.2 (HKW.out.same HA.out.1)).mono ?_
        rintro e' w5 ⟨rfl, hb5⟩
        go_wp2_with fail
        go_ret
        exact ⟨ret_bool (HS.out.trans (by simp [shpL])).symm, (HA.out.next hb5).1⟩
theorem shapedStmt_any (h : StH) (b e : StL) : ShSSays h b e := StL.of_all shapedStmt_step h b e
theorem shapedList_any (l : StL) (w : World) (ao : Option Addr) (cap : Nat) (hl : l.len ≤ maxLen) (hat : l.At w w.heap.size ao 0) (hkw : KwLaid w) :
    Calls Tryz.prog 48 #[.slice ao l.len cap] w fun e' w' => e' = .returned (.bool (shpSL l)) ∧ Below w.heap.size w w' :=
  shapedList_of l (StL.all_of shapedStmt_step l) w ao cap hl hat hkw
end Go.Proofs.YtommnhglgedflaaGreatDoor
end
section
namespace Go.Proofs.YtommnhglgedflaaGreatDoor
open Go.RowKit
open Md


set_option maxHeartbeats 2000000 in
set_option maxRecDepth 100000 in
theorem Shaped_any (p : Pr) (w : World) (aoD aoT : Option Addr) (capD capT : Nat) (hp : p.At w aoD aoT) (hkw : KwLaid w) :
    Calls Tryz.prog 21 #[.agg #[.slice aoD p.ds.length capD, .slice aoT p.ts.length capT]] w fun e w' => e = .returned (.bool (shpP p)) ∧ Below w.heap.size w w' := by
  have HS : Hid (shpP p = ((p.ds.all shpD && p.ts.all shpT) && decide ((0 : Int) < p.ts.length))) := Lib.hid rfl
  generalize shpP p = res at *
  have hld := hp.1
  have hlt := hp.2.1
  unfold maxLen at hld hlt
  have HP := Lib.hid hp
  have HKW := Lib.hid hkw
  clear hp hkw
  go_enter Tryz.func21, Tryz.ntmps21
  go_upto_region 1 with fail
  generalize hW : World.alloc w _ = W
  generalize Value.agg #[_, _] = a0
  have HX := Lib.hid ((Sit.start w).box2 rfl (.slice aoD p.ds.length capD) (.slice aoT p.ts.length capT) 26)
  rw [hW] at HX
  clear hW
  obtain ⟨-, ⟨-, c0⟩, ⟨-, c1⟩, -⟩ := HX.out
  have hde := (HP.out.same HX.out.1).2.2.1
  go_wp2_with fail
  go_loopw [4, 12] (fun _ s wr => ∃ (k : Nat) (R : List De), s = .int .i64 k ∧ k + R.length = p.ds.length ∧ p.ds.all shpD = R.all shpD ∧ DeAt wr wr.heap.size R aoD k ∧ Sit w wr [(w.heap.size, 0, (.slice aoD p.ds.length capD)), (w.heap.size, 1, (.slice aoT p.ts.length capT))]) (fun _ s _ => p.ds.length - (intOf s).toNat)
  case atStart => exact ⟨0, p.ds, rfl, by simp, rfl, hde, HX.out⟩
  case round =>
    obtain ⟨k, R, rfl, hlen, heq, hrow, hsit⟩ := hrel
    have HZ := Lib.hid hsit
    have HE := Lib.hid heq
    clear hsit HX c0 c1 hde heq
    cases R with
    | cons d R =>
      obtain ⟨⟨b, off, rfl, hB, x0, x1, x2, x3, x4, x5, hok⟩, hrest⟩ := hrow
      simp only [List.length_cons] at hlen
      have hkl : k < p.ds.length := by omega
      have HOK := Lib.hid hok
      clear hok
      go_wp2_with fail
      have hba := alloc_below wr (.cells #[.int .i64 d.kind, .int .i64 d.line, .string d.nm, .int .i64 d.size, .int .i64 d.init, .string d.on] 58)
      refine (shapedDecl_any d _ ((HKW.out.same HZ.out.1).same hba) HOK.out).mono ?_
      rintro e' w2 ⟨rfl, hb2⟩
      have HB3 := Lib.hid (hba.trans (hb2.mono (by simp)))
      clear hba hb2 x0 x1 x2 x3 x4 x5
      cases hS : shpD d
      · rw [HE.out, List.all_cons, hS] at HS
        go_wp2_with fail
        go_ret
        exact ⟨ret_bool (HS.out.trans (by simp)).symm, (HZ.out.next HB3.out).1⟩
      · have HF := Lib.hid (HE.out.trans (by rw [List.all_cons, hS]; rfl : _ = R.all shpD))
        go_wp2_with fail
        go_roundw
        case rel => exact ⟨k + 1, R, by go_num, by omega, HF.out, hrest.same HB3.out, HZ.out.next HB3.out⟩
        case measure => simp [intOf]; omega
    | nil =>
      obtain rfl : k = p.ds.length := by simpa using hlen
      rw [HE.out] at HS
      obtain ⟨-, ⟨-, c0⟩, ⟨-, c1⟩, -⟩ := HZ.out
      have hth := (HP.out.same HZ.out.1).2.2.2
      clear HE hrow hlen
      go_wp2_with fail
      go_loopw [6, 8, 23, 31, 32, 33, 34, 35] (fun _ _ s _ _ _ _ _ wr => ∃ (k : Nat) (R : List Th), s = .int .i64 k ∧ k + R.length = p.ts.length ∧ p.ts.all shpT = R.all shpT ∧ ThAt wr wr.heap.size R aoT k ∧ Sit w wr [(w.heap.size, 0, (.slice aoD p.ds.length capD)), (w.heap.size, 1, (.slice aoT p.ts.length capT))]) (fun _ _ s _ _ _ _ _ _ => p.ts.length - (intOf s).toNat)
      case atStart => exact ⟨0, p.ts, rfl, by simp, rfl, hth, HZ.out⟩
      case round =>
        obtain ⟨k, R, rfl, hlen, heq, hrow, hsit⟩ := hrel
        have HU := Lib.hid hsit
        have HE := Lib.hid heq
        clear hsit HZ c0 c1 hth heq
        cases R with
        | nil =>
          obtain rfl : k = p.ts.length := by simpa using hlen
          rw [HE.out] at HS
          obtain ⟨-, ⟨-, c0⟩, ⟨-, c1⟩, -⟩ := HU.out
          go_wp2_with fail
          go_ret
          exact ⟨ret_bool (HS.out.trans (by simp)).symm, HU.out.1⟩
        | cons t R =>
          obtain ⟨⟨b, off, aol, capl, aob, capb, rfl, hB, x0, x1, x2, x3, hok, htx, hst⟩, hrest⟩ := hrow
          simp only [List.length_cons] at hlen
          have hkl : k < p.ts.length := by omega
          have hll := hok.2.2.1
          have HOK := Lib.hid hok
          have HTX := Lib.hid htx
          have HST := Lib.hid hst
          unfold maxLen at hll
          clear hok htx hst
          go_upto_region 10 with fail
          obtain ⟨n2, hn2⟩ : ∃ n, wr.heap.size = n := ⟨_, rfl⟩
          generalize hW2 : World.alloc wr _ = W2
          have HB2 : Hid (Below wr.heap.size wr W2) := Lib.hid (by rw [← hW2]; exact alloc_below _ _)
          have HV : Hid (Sit w W2 ((n2, 0, .string t.nm) :: (n2, 1, .int .i64 t.line) :: (n2, 2, .slice aol t.locs.length capl) :: (n2, 3, .slice aob t.body.len capb) :: [(w.heap.size, 0, (.slice aoD p.ds.length capD)), (w.heap.size, 1, (.slice (some ⟨b, off, none⟩) p.ts.length capT))])) := Lib.hid (by rw [← hW2]; exact HU.out.box4 hn2 _ _ _ _ _)
          rw [hn2]
          clear hW2 hn2 x0 x1 x2 x3
          obtain ⟨-, ⟨-, c0⟩, ⟨-, c1⟩, ⟨-, c2⟩, ⟨-, c3⟩, ⟨-, c4⟩, ⟨-, c5⟩, -⟩ := HV.out
          go_wp2_with fail
          refine (IsName_any _ _ (HKW.out.same HV.out.1) HOK.out.1).mono ?_
          rintro e' w3 ⟨rfl, hb3⟩
          have HB3 := Lib.hid hb3
          have HA := Lib.hid (HV.out.next hb3)
          clear hb3 HV c0 c1 c2 c3 c4 c5
          obtain ⟨-, ⟨-, c0⟩, ⟨-, c1⟩, ⟨-, c2⟩, ⟨-, c3⟩, ⟨-, c4⟩, ⟨-, c5⟩, -⟩ := HA.out
          cases hN : Tk.isNm t.nm.data.toList
          · rw [HE.out, List.all_cons, show shpT t = false by unfold shpT; rw [hN]; rfl] at HS
            go_wp2_with fail
            go_ret
            exact ⟨ret_bool (HS.out.trans (by simp)).symm, HA.out.1⟩
          · have hrow := HTX.out.same (HB2.out.trans (HB3.out.mono HB2.out.size))
            have HBB := Lib.hid (HB2.out.trans (HB3.out.mono HB2.out.size))
            clear HB2 HB3
            go_wp2_with fail
            obtain ⟨wo, rfl⟩ : ∃ wo : World, wo = wr := ⟨_, rfl⟩
            go_loopw [8, 34] (fun _ s wr => ∃ (k : Nat) (R : List ByteArray), s = .int .i64 k ∧ k + R.length = t.locs.length ∧ t.locs.all (fun s => Tk.isNm s.data.toList) = R.all (fun s => Tk.isNm s.data.toList) ∧ TxAt wr wr.heap.size R aol k ∧ Below wo.heap.size wo wr ∧ Sit w wr ((n2, 0, .string t.nm) :: (n2, 1, .int .i64 t.line) :: (n2, 2, .slice aol t.locs.length capl) :: (n2, 3, .slice aob t.body.len capb) :: [(w.heap.size, 0, (.slice aoD p.ds.length capD)), (w.heap.size, 1, (.slice (some ⟨b, off, none⟩) p.ts.length capT))])) (fun _ s _ => t.locs.length - (intOf s).toNat)
            case atStart => exact ⟨0, t.locs, rfl, by simp, rfl, hrow, HBB.out, HA.out⟩
            case round =>
              obtain ⟨k', R', rfl, hlen', heq', hrow', hbo, hsit'⟩ := hrel
              have HC := Lib.hid hsit'
              have HBO := Lib.hid hbo
              have HE' := Lib.hid heq'
              clear hsit' HA c0 c1 c2 c3 c4 c5 hrow heq' hbo HBB
              cases R' with
              | cons s R' =>
                obtain ⟨⟨b', off', rfl, hB', y0, hs⟩, hrest'⟩ := hrow'
                simp only [List.length_cons] at hlen'
                have hkl' : k' < t.locs.length := by omega
                go_wp2_with fail
                refine (IsName_any _ _ (HKW.out.same HC.out.1) hs).mono ?_
                rintro e' w3 ⟨rfl, hb3⟩
                have HB4 := Lib.hid hb3
                clear hb3
                cases hN2 : Tk.isNm s.data.toList
                · rw [HE.out, List.all_cons, show shpT t = false by unfold shpT; rw [HE'.out, List.all_cons, hN2]; simp] at HS
                  go_wp2_with fail
                  go_ret
                  exact ⟨ret_bool (HS.out.trans (by simp)).symm, (HC.out.next HB4.out).1⟩
                · have HF := Lib.hid (HE'.out.trans (by rw [List.all_cons, hN2]; rfl : _ = R'.all (fun s => Tk.isNm s.data.toList)))
                  go_wp2_with fail
                  go_roundw
                  case rel => exact ⟨k' + 1, R', by go_num, by omega, HF.out, hrest'.same HB4.out, HBO.out.trans (HB4.out.mono HBO.out.size), HC.out.next HB4.out⟩
                  case measure => simp [intOf]; omega
              | nil =>
                obtain rfl : k' = t.locs.length := by simpa using hlen'
                obtain ⟨-, ⟨-, c0⟩, ⟨-, c1⟩, ⟨-, c2⟩, ⟨-, c3⟩, ⟨-, c4⟩, ⟨-, c5⟩, -⟩ := HC.out
                go_wp2_with fail
                refine (shapedList_any t.body _ _ _ HOK.out.2.2.2 (HST.out.1.same HBO.out) (HKW.out.same HC.out.1)).mono ?_
                rintro e' w3 ⟨rfl, hb3⟩
                have HB4 := Lib.hid hb3
                clear hb3
                have HT : Hid (shpT t = shpSL t.body) := Lib.hid (by unfold shpT; rw [hN, HE'.out]; rfl)
                cases hN2 : shpSL t.body
                · rw [HE.out, List.all_cons, HT.out, hN2] at HS
                  go_wp2_with fail
                  go_ret
                  exact ⟨ret_bool (HS.out.trans (by simp)).symm, (HC.out.next HB4.out).1⟩
                · have HF := Lib.hid (HE.out.trans (by rw [List.all_cons, HT.out, hN2]; rfl : _ = R.all shpT))
                  have HBQ := Lib.hid (HBO.out.trans (HB4.out.mono HBO.out.size))
                  have HSQ := Lib.hid (HU.out.next HBQ.out)
                  go_wp2_with fail
                  go_roundw
                  case rel => exact ⟨k + 1, R, by go_num, by omega, HF.out, hrest.same HBQ.out, HSQ.out⟩
                  case measure => simp [intOf]; omega
end Go.Proofs.YtommnhglgedflaaGreatDoor
end
