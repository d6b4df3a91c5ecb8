/-
  Contracts of the reference's shapedDecl, blank, ShapedStmt, ShapedStmts.
  Contract of the reference's ShapedStmt, ShapedStmts.
  Contract of the reference's Shaped.
-/
import Derived.Test.YtommnhglgedflaaGreatDoorGMD
import Derived.Test.YtommnhglgedflaaGreatDoorGSA
section
namespace Go.Proofs.YtommnhglgedflaaGreatDoor
open Go.RowKit
open Md

theorem nmOr_t (s : ByteArray) : nmOr s true = Tk.isNm s.data.toList := rfl
theorem nmOr_f (s : ByteArray) : nmOr s false = decide (s.toList = []) := by unfold nmOr; rw [Lib.toList_data, Bool.eq_iff_iff]; simp

set_option maxHeartbeats 2000000 in
theorem RefShapedDecl_any (d : De) (w : World) (hok : d.Ok) :
    Calls Tryz.prog 49 #[.agg #[.int .i64 d.kind, .int .i64 d.line, .string d.nm, .int .i64 d.size, .int .i64 d.init, .string d.on]] w fun e w' => e = .returned (.bool (shpD d)) ∧ Below w.heap.size w w' := by
  obtain ⟨⟨k1, k2⟩, -, hm, -, ⟨i1, i2⟩, ho⟩ := hok
  obtain ⟨kind, line, nm, size, init, on⟩ := d
  have HE : Hid (shpD ⟨kind, line, nm, size, init, on⟩ = ((((decide (1 ≤ kind) && decide (kind ≤ 6)) && Tk.isNm nm.data.toList) && (decide (0 ≤ size) && (decide (size = 0) || decide (kind = 1)))) && ((!decide (init = -9223372036854775808) && (decide (init = 0) || (decide (kind = 1) || decide (kind = 2)))) && nmOr on (kind == 5)))) := Lib.hid (by
    unfold shpD; simp only [bne]; rw [Bool.eq_iff_iff]; simp)
  dsimp only at *
  generalize shpD ⟨kind, line, nm, size, init, on⟩ = res at *
  go_enter Tryz.func49, Tryz.ntmps49
  go_upto_region 1 with fail
  generalize hW : World.alloc w _ = W
  generalize Value.agg #[_, _, _, _, _, _] = a0
  have HX := Lib.hid ((Sit.start w).box6 rfl (.int .i64 kind) (.int .i64 line) (.string nm) (.int .i64 size) (.int .i64 init) (.string on) 58)
  rw [hW] at HX
  clear hW
  obtain ⟨-, ⟨-, c0⟩, ⟨-, c1⟩, ⟨-, c2⟩, ⟨-, c3⟩, ⟨-, c4⟩, ⟨-, c5⟩, -⟩ := HX.out
  go_cut [31] (fun s W2 => ∃ b, s = .bool b ∧ (!b) = (((decide (1 ≤ kind) && decide (kind ≤ 6)) && Tk.isNm nm.data.toList) && (decide (0 ≤ size) && (decide (size = 0) || decide (kind = 1)))) ∧ Sit w W2 [(w.heap.size, 0, .int .i64 kind), (w.heap.size, 1, .int .i64 line), (w.heap.size, 2, .string nm), (w.heap.size, 3, .int .i64 size), (w.heap.size, 4, .int .i64 init), (w.heap.size, 5, .string on)])
  case first =>
    cases hr : decide (1 ≤ kind ∧ kind ≤ 6)
    · have hr' : kind < 1 ∨ (1 ≤ kind ∧ 6 < kind) := by simp at hr; omega
      clear hr
      rcases hr' with hr | ⟨hr, hr'⟩
      all_goals go_wp2_with fail
      all_goals go_meet
      all_goals exact ⟨_, rfl, by go_light; grind, HX.out⟩
    · have hr' : 1 ≤ kind ∧ kind ≤ 6 := by simpa using hr
      obtain ⟨g1, g2⟩ := hr'
      clear hr
      go_wp2_with fail
      refine (RefIsName_any _ _ hm).mono ?_
      rintro e w3 ⟨rfl, hb3⟩
      have HZ := Lib.hid (HX.out.next hb3)
      clear hb3 HX c0 c1 c2 c3 c4 c5
      obtain ⟨-, ⟨-, c0⟩, ⟨-, c1⟩, ⟨-, c2⟩, ⟨-, c3⟩, ⟨-, c4⟩, ⟨-, c5⟩, -⟩ := HZ.out
      cases hq : Tk.isNm nm.data.toList
      all_goals go_wp2_with fail
      all_goals go_meet
      all_goals exact ⟨_, rfl, by rw [hq]; go_light; grind, HZ.out⟩
  obtain ⟨b1, rfl, hb1, hX⟩ := hcut
  have HY := Lib.hid hX
  have HB1 := Lib.hid hb1
  clear hX HX hb1 c0 c1 c2 c3 c4 c5
  rw [← HB1.out] at HE
  clear HB1
  cases b1
  case true =>
    go_wp2_with fail
    go_ret
    exact ⟨ret_bool (HE.out.trans (by simp)).symm, HY.out.1⟩
  obtain ⟨-, ⟨-, c0⟩, ⟨-, c1⟩, ⟨-, c2⟩, ⟨-, c3⟩, ⟨-, c4⟩, ⟨-, c5⟩, -⟩ := HY.out
  go_upto_region 3 with fail
  go_cut [50] (fun s W2 => ∃ b, s = .bool b ∧ (!b) = nmOr on (kind == 5) ∧ Sit w W2 [(w.heap.size, 0, .int .i64 kind), (w.heap.size, 1, .int .i64 line), (w.heap.size, 2, .string nm), (w.heap.size, 3, .int .i64 size), (w.heap.size, 4, .int .i64 init), (w.heap.size, 5, .string on)])
  case first =>
    cases h5 : (kind == 5)
    · have h5' : (kind != 5) = true := by unfold bne; rw [h5]; rfl
      have HN := Lib.hid (nmOr_f on)
      go_wp2_with fail
      all_goals go_meet
      all_goals exact ⟨_, rfl, by rw [h5, HN.out]; first | (simp; done) | (go_light; grind), HY.out⟩
    · have h5' : (kind != 5) = false := by unfold bne; rw [h5]; rfl
      have HN := Lib.hid (nmOr_t on)
      go_wp2_with fail
      refine (RefIsName_any _ _ ho).mono ?_
      rintro e w3 ⟨rfl, hb3⟩
      have HZ := Lib.hid (HY.out.next hb3)
      clear hb3 HY c0 c1 c2 c3 c4 c5
      obtain ⟨-, ⟨-, c0⟩, ⟨-, c1⟩, ⟨-, c2⟩, ⟨-, c3⟩, ⟨-, c4⟩, ⟨-, c5⟩, -⟩ := HZ.out
      cases hq : Tk.isNm on.data.toList
      all_goals go_wp2_with fail
      all_goals go_meet
      all_goals exact ⟨_, rfl, by rw [h5, HN.out, hq]; rfl, HZ.out⟩
  obtain ⟨b2, rfl, hb2, hX⟩ := hcut
  have HZ := Lib.hid hX
  have HB2 := Lib.hid hb2
  clear hX HY hb2 c0 c1 c2 c3 c4 c5
  rw [← HB2.out] at HE
  clear HB2
  cases b2
  case true =>
    go_wp2_with fail
    go_ret
    exact ⟨ret_bool (HE.out.trans (by simp)).symm, HZ.out.1⟩
  obtain ⟨-, ⟨-, c0⟩, ⟨-, c1⟩, ⟨-, c2⟩, ⟨-, c3⟩, ⟨-, c4⟩, ⟨-, c5⟩, -⟩ := HZ.out
  go_wp2_with fail
  all_goals go_ret
  all_goals refine ⟨ret_bool (HE.out.trans ?_).symm, HZ.out.1⟩
  all_goals (go_light; grind)

theorem blank_any (op n : Int) (nm : ByteArray) (len cap : Nat) (ao : Option Addr) (w : World) :
    Calls Tryz.prog 118 #[.agg #[.int .i64 op, .int .i64 n, .string nm, .slice ao len cap]] w fun e w' => e = .returned (.bool (zeroX op n nm len)) ∧ Below w.heap.size w w' := by
  have HE : Hid (zeroX op n nm len = (((decide (op = 0) && decide (n = 0)) && decide (nm.toList = [])) && decide (len = 0))) := Lib.hid (by unfold zeroX; rw [Bool.eq_iff_iff]; simp)
  generalize zeroX op n nm len = res at *
  go_enter Tryz.func118, Tryz.ntmps118
  go_wp2
  all_goals go_ret
  all_goals refine ⟨ret_bool ?_, alloc_below _ _⟩
  all_goals rw [HE.out]
  all_goals (go_light; grind)

/-- What the reference's ShapedStmt answers. -/
def RShSSays (h : StH) (b e : StL) : Prop :=
  ∀ (w : World) (s : Sl), StIn w h b e s →
    Calls Tryz.prog 87 #[stV h b e s] w fun e' w' => e' = .returned (.bool (shpS h b e)) ∧ Below w.heap.size w w'

set_option maxHeartbeats 2000000 in
set_option maxRecDepth 100000 in
theorem ShapedStmts_of (l : StL) (hall : l.All RShSSays) (w : World) (ao : Option Addr) (cap : Nat) (hl : l.len ≤ maxLen) (hat : l.At w w.heap.size ao 0) :
    Calls Tryz.prog 51 #[.slice ao l.len cap] w fun e' w' => e' = .returned (.bool (shpSL l)) ∧ Below w.heap.size w w' := by
  unfold maxLen at hl
  go_enter Tryz.func51, Tryz.ntmps51
  go_wp2_with fail
  go_loopw [3] (fun s wr => ∃ (k : Nat) (R : StL), s = .int .i64 k ∧ k + R.len = l.len ∧ shpSL l = shpSL R ∧ R.All RShSSays ∧ R.At wr wr.heap.size ao k ∧ Below w.heap.size w wr) (fun s _ => l.len - (intOf s).toNat)
  case atStart => exact ⟨0, l, rfl, by simp, rfl, hall, hat, Below.refl _ _⟩
  case round =>
    obtain ⟨k, R, rfl, hlen, heq, hall', hrow, hB⟩ := hrel
    have HE := Lib.hid heq
    clear heq
    cases R with
    | nil =>
      obtain rfl : k = l.len := by simpa [StL.len] using hlen
      go_wp2_with fail
      go_ret
      exact ⟨ret_bool HE.out.symm, hB⟩
    | cons h b e R =>
      obtain ⟨bl, off, s, rfl, hbl, hin, x0, x1, x2, x3, x4, x5, x6, x7, x8, x9, x10, hrest⟩ := StL.At.head hrow
      obtain ⟨hsay, hall''⟩ := hall'
      have hkl : k < l.len := by simp only [StL.len] at hlen; omega
      clear hrow
      go_wp2_with fail
      refine (hsay _ s hin).mono ?_
      rintro e' w2 ⟨rfl, hb2⟩
      have HB3 := Lib.hid hb2
      clear hb2 x0 x1 x2 x3 x4 x5 x6 x7 x8 x9 x10 hin
      cases hS : shpS h b e
      · have HF := Lib.hid (HE.out.trans (by rw [shpSL_cons, hS]; rfl : shpSL (.cons h b e R) = false))
        go_wp2_with fail
        go_ret
        exact ⟨ret_bool HF.out.symm, hB.trans (HB3.out.mono hB.size)⟩
      · have HF := Lib.hid (HE.out.trans (by rw [shpSL_cons, hS]; rfl : shpSL (.cons h b e R) = shpSL R))
        go_wp2_with fail
        go_roundw
        case rel => exact ⟨k + 1, R, by go_num, by simp only [StL.len] at hlen; omega, HF.out, hall'', hrest.same HB3.out, hB.trans (HB3.out.mono hB.size)⟩
        case measure => simp [intOf]; omega
end Go.Proofs.YtommnhglgedflaaGreatDoor
end
section
namespace Go.Proofs.YtommnhglgedflaaGreatDoor
open Go.RowKit
open Md

theorem fN_eq {op : Int} (h1 : 1 ≤ op) (h2 : op ≤ 15) : fN op = !((op == 2 || op == 3) || (op == 7 || op == 8)) := by
  rw [Bool.eq_iff_iff]; unfold fN; simp; omega
set_option maxHeartbeats 4000000 in
set_option maxRecDepth 100000 in
theorem RefShapedStmt_step (h : StH) (b e : StL) (ihb : b.All RShSSays) (ihe : e.All RShSSays) : RShSSays h b e := by
  intro w s hin
  obtain ⟨aoi, capi, aox, capx, aob, capb, aoe, cape⟩ := s
  have HS : Hid (shpS h b e = ((((fO h.op && (nmOr h.nm (fN h.op) && nmOr h.arg (fA h.op))) && ((decide ((h.idx.len : Int) ≤ 1) && (!decide ((h.idx.len : Int) = 1) || fI h.op)) && shpL h.idx)) &&
    ((if fX h.op then shpE h.xop h.xn h.xnm h.xkids else zeroX h.xop h.xn h.xnm h.xkids.len) && ((fB h.op || decide ((b.len : Int) ≤ 0)) && (fE h.op || decide ((e.len : Int) ≤ 0))))) && (shpSL b && shpSL e))) := Lib.hid (by
    unfold shpS shpS1; rw [int_le1, int_eq1, int_le0, int_le0])
  generalize shpS h b e = res at *
  have HIN := Lib.hid hin
  have HIB := Lib.hid ihb
  have HIE := Lib.hid ihe
  obtain ⟨⟨⟨o1, o2⟩, -, hm, ha, hil, hxk, hbl, hel⟩, -⟩ := hin
  clear ihb ihe
  have hil' := hil
  have hbl' := hbl
  have hel' := hel
  have hxl := hxk.2.2.2
  unfold maxLen at hil hbl hel hxl
  unfold stV
  dsimp only
  go_enter Tryz.func87, Tryz.ntmps87
  go_upto_region 1 with fail
  generalize hW : World.alloc w _ = W
  generalize Value.agg #[_, _, _, _, _, _, _, _, _, _, _] = a0
  have HX : Hid (Sit w W (stF w.heap.size h b e ⟨aoi, capi, aox, capx, aob, capb, aoe, cape⟩ [])) := Lib.hid (by rw [← hW]; exact (Sit.start w).box11 rfl _ _ _ _ _ _ _ _ _ _ _ _)
  clear hW
  obtain ⟨-, ⟨-, c0⟩, ⟨-, c1⟩, ⟨-, c2⟩, ⟨-, c3⟩, ⟨-, c4⟩, ⟨-, c5⟩, ⟨-, c6⟩, ⟨-, c7⟩, ⟨-, c8⟩, ⟨-, c9⟩, ⟨-, c10⟩, -⟩ := HX.out
  go_cut [13] (fun s' W3 => W = W3 ∧ ∃ t, s' = .bool t ∧ (!t) = (decide (1 ≤ h.op) && decide (h.op ≤ 15)))
  case first =>
    as_aux_lemma =>
      go_wp2_with fail
      all_goals go_meet
      all_goals exact ⟨rfl, _, rfl, by go_light; grind⟩
  obtain ⟨rfl, t1, rfl, ht1⟩ := hcut
  cases t1
  case true =>
    as_aux_lemma =>
      have HT : Hid (fO h.op = false) := Lib.hid ht1.symm
      rw [HT.out] at HS
      go_wp2_with fail
      go_ret
      exact ⟨ret_bool (HS.out.trans (by simp)).symm, HX.out.1⟩
  have hr : 1 ≤ h.op ∧ h.op ≤ 15 := by simpa using ht1.symm
  obtain ⟨g1, g2⟩ := hr
  rw [show fO h.op = true from ht1.symm, fN_eq g1 g2] at HS
  clear ht1
  go_upto_region 3 with fail
  go_cut [3] (fun s' W3 => W = W3 ∧ s' = .bool ((h.op == 2 || h.op == 3) || (h.op == 7 || h.op == 8)))
  case first =>
    as_aux_lemma =>
      go_wp2_with fail
      all_goals go_meet
      all_goals exact ⟨rfl, by congr 1; go_light; grind⟩
  obtain ⟨rfl, rfl⟩ := hcut
  generalize ((h.op == 2 || h.op == 3) || (h.op == 7 || h.op == 8)) = bn at *
  go_upto_region 4 with fail
  go_cut [3, 47] (fun _ s' W2 => ∃ t, s' = .bool t ∧ (!t) = nmOr h.nm (!bn) ∧ Sit w W2 (stF w.heap.size h b e ⟨aoi, capi, aox, capx, aob, capb, aoe, cape⟩ []))
  case first =>
    as_aux_lemma =>
      cases bn
      · have HN := Lib.hid (nmOr_t h.nm)
        go_wp2_with fail
        refine (RefIsName_any _ _ hm).mono ?_
        rintro e' w3 ⟨rfl, hb3⟩
        have HZ := Lib.hid (HX.out.next hb3)
        clear hb3 HX c0 c1 c2 c3 c4 c5 c6 c7 c8 c9 c10
        obtain ⟨-, ⟨-, c0⟩, ⟨-, c1⟩, ⟨-, c2⟩, ⟨-, c3⟩, ⟨-, c4⟩, ⟨-, c5⟩, ⟨-, c6⟩, ⟨-, c7⟩, ⟨-, c8⟩, ⟨-, c9⟩, ⟨-, c10⟩, -⟩ := HZ.out
        cases hq : Tk.isNm h.nm.data.toList
        all_goals go_wp2_with fail
        all_goals go_meet
        all_goals exact ⟨_, rfl, (HN.out.trans hq).symm, HZ.out⟩
      · have HN := Lib.hid (nmOr_f h.nm)
        go_wp2_with fail
        all_goals go_meet
        all_goals exact ⟨_, rfl, (show _ = nmOr h.nm false by rw [HN.out]; first | (simp; done) | (go_light; grind)), HX.out⟩
  obtain ⟨t2, rfl, ht2, hX⟩ := hcut
  have HY := Lib.hid hX
  have HT2 := Lib.hid ht2
  clear hX ht2 HX c0 c1 c2 c3 c4 c5 c6 c7 c8 c9 c10
  rw [← HT2.out] at HS
  clear HT2
  cases t2
  case true =>
    as_aux_lemma =>
      go_wp2_with fail
      go_ret
      exact ⟨ret_bool (HS.out.trans (by simp)).symm, HY.out.1⟩
  obtain ⟨-, ⟨-, c0⟩, ⟨-, c1⟩, ⟨-, c2⟩, ⟨-, c3⟩, ⟨-, c4⟩, ⟨-, c5⟩, ⟨-, c6⟩, ⟨-, c7⟩, ⟨-, c8⟩, ⟨-, c9⟩, ⟨-, c10⟩, -⟩ := HY.out
  go_upto_region 6 with fail
  go_cut [66] (fun s' W2 => ∃ t, s' = .bool t ∧ (!t) = nmOr h.arg (fA h.op) ∧ Sit w W2 (stF w.heap.size h b e ⟨aoi, capi, aox, capx, aob, capb, aoe, cape⟩ []))
  case first =>
    as_aux_lemma =>
      cases h15 : (h.op == 15)
      · have h15' : (h.op != 15) = true := by unfold bne; rw [h15]; rfl
        have HN : Hid (nmOr h.arg (fA h.op) = decide (h.arg.toList = [])) := Lib.hid (by unfold fA; rw [h15]; exact nmOr_f h.arg)
        go_wp2_with fail
        all_goals go_meet
        all_goals exact ⟨_, rfl, (by rw [HN.out]; first | (simp; done) | (go_light; grind)), HY.out⟩
      · have h15' : (h.op != 15) = false := by unfold bne; rw [h15]; rfl
        have HN : Hid (nmOr h.arg (fA h.op) = Tk.isNm h.arg.data.toList) := Lib.hid (by unfold fA; rw [h15]; exact nmOr_t h.arg)
        go_wp2_with fail
        refine (RefIsName_any _ _ ha).mono ?_
        rintro e' w3 ⟨rfl, hb3⟩
        have HZ := Lib.hid (HY.out.next hb3)
        clear hb3 HY c0 c1 c2 c3 c4 c5 c6 c7 c8 c9 c10
        obtain ⟨-, ⟨-, c0⟩, ⟨-, c1⟩, ⟨-, c2⟩, ⟨-, c3⟩, ⟨-, c4⟩, ⟨-, c5⟩, ⟨-, c6⟩, ⟨-, c7⟩, ⟨-, c8⟩, ⟨-, c9⟩, ⟨-, c10⟩, -⟩ := HZ.out
        cases hq : Tk.isNm h.arg.data.toList
        all_goals go_wp2_with fail
        all_goals go_meet
        all_goals exact ⟨_, rfl, (HN.out.trans hq).symm, HZ.out⟩
  obtain ⟨t3, rfl, ht3, hX⟩ := hcut
  have HZ := Lib.hid hX
  have HT3 := Lib.hid ht3
  clear hX ht3 HY c0 c1 c2 c3 c4 c5 c6 c7 c8 c9 c10
  rw [← HT3.out] at HS
  clear HT3
  cases t3
  case true =>
    as_aux_lemma =>
      go_wp2_with fail
      go_ret
      exact ⟨ret_bool (HS.out.trans (by simp)).symm, HZ.out.1⟩
  obtain ⟨-, ⟨-, c0⟩, ⟨-, c1⟩, ⟨-, c2⟩, ⟨-, c3⟩, ⟨-, c4⟩, ⟨-, c5⟩, ⟨-, c6⟩, ⟨-, c7⟩, ⟨-, c8⟩, ⟨-, c9⟩, ⟨-, c10⟩, -⟩ := HZ.out
  go_upto_region 8 with fail
  go_cut [95] (fun s' W2 => ∃ t, s' = .bool t ∧ (!t) = ((decide ((h.idx.len : Int) ≤ 1) && (!decide ((h.idx.len : Int) = 1) || fI h.op)) && shpL h.idx) ∧ Sit w W2 (stF w.heap.size h b e ⟨aoi, capi, aox, capx, aob, capb, aoe, cape⟩ []))
  case first =>
    as_aux_lemma =>
      have hrow := (HIN.out.same HZ.out.1).2.1
      generalize hix : h.idx = ix at hrow c4 hil
      have HIX := Lib.hid hix
      clear hix
      cases ix with
      | nil =>
        simp only [ExL.len] at c4
        clear hrow
        cases hI : (h.op == 1)
        · have hI' : (h.op != 1) = true := by unfold bne; rw [hI]; rfl
          go_wp2_with fail
          go_meet
          exact ⟨_, rfl, by rw [HIX.out]; rfl, HZ.out⟩
        · have hI' : (h.op != 1) = false := by unfold bne; rw [hI]; rfl
          go_wp2_with fail
          go_meet
          exact ⟨_, rfl, by rw [HIX.out]; rfl, HZ.out⟩
      | cons op' n' nm' kids' rest =>
        obtain ⟨⟨b', off', ao', cap', rfl, hbB, x0, x1, x2, x3, hok', hkids⟩, hrest⟩ := hrow
        cases rest with
        | nil =>
          simp only [ExL.len, Nat.zero_add] at c4
          simp only [Nat.zero_mul, Nat.add_zero] at x0 x1 x2 x3
          cases hI : (h.op == 1)
          · have hI' : (h.op != 1) = true := by unfold bne; rw [hI]; rfl
            have HL : Hid (fI h.op = false) := Lib.hid hI
            go_wp2_with fail
            go_meet
            exact ⟨_, rfl, by rw [HIX.out, HL.out]; rfl, HZ.out⟩
          · have hI' : (h.op != 1) = false := by unfold bne; rw [hI]; rfl
            have HL : Hid (fI h.op = true) := Lib.hid hI
            go_wp2_with fail
            refine (RefShapedExpr_any op' n' nm' kids' _ _ _ hok' hkids).mono ?_
            rintro e' w3 ⟨rfl, hb3⟩
            have HV := Lib.hid (HZ.out.next hb3)
            clear hb3
            cases hq : shpE op' n' nm' kids'
            all_goals go_wp2_with fail
            all_goals go_meet
            all_goals exact ⟨_, rfl, by rw [HIX.out, HL.out, shpL_cons, hq]; rfl, HV.out⟩
        | cons op2 n2 nm2 kids2 rest2 =>
          have hl2 : 2 ≤ (ExL.cons op' n' nm' kids' (ExL.cons op2 n2 nm2 kids2 rest2)).len := by simp only [ExL.len]; omega
          have HL : Hid (((decide (((ExL.cons op' n' nm' kids' (ExL.cons op2 n2 nm2 kids2 rest2)).len : Int) ≤ 1) && (!decide (((ExL.cons op' n' nm' kids' (ExL.cons op2 n2 nm2 kids2 rest2)).len : Int) = 1) || fI h.op)) && shpL (ExL.cons op' n' nm' kids' (ExL.cons op2 n2 nm2 kids2 rest2))) = false) := Lib.hid (by rw [decide_eq_false (by omega)]; rfl)
          clear x0 x1 x2 x3 hrest hkids hok'
          generalize (ExL.cons op' n' nm' kids' (ExL.cons op2 n2 nm2 kids2 rest2)) = ix at *
          have hl3 : 1 < ix.len := by omega
          go_wp2_with fail
          go_meet
          exact ⟨_, rfl, by rw [HIX.out, HL.out]; rfl, HZ.out⟩
  obtain ⟨t4, rfl, ht4, hX⟩ := hcut
  have HU := Lib.hid hX
  have HT4 := Lib.hid ht4
  clear hX ht4 HZ c0 c1 c2 c3 c4 c5 c6 c7 c8 c9 c10
  rw [← HT4.out] at HS
  clear HT4
  cases t4
  case true =>
    as_aux_lemma =>
      go_wp2_with fail
      go_ret
      exact ⟨ret_bool (HS.out.trans (by simp)).symm, HU.out.1⟩
  obtain ⟨-, ⟨-, c0⟩, ⟨-, c1⟩, ⟨-, c2⟩, ⟨-, c3⟩, ⟨-, c4⟩, ⟨-, c5⟩, ⟨-, c6⟩, ⟨-, c7⟩, ⟨-, c8⟩, ⟨-, c9⟩, ⟨-, c10⟩, -⟩ := HU.out
  go_upto_region 10 with fail
  go_cut [4] (fun s' W3 => wc = W3 ∧ s' = .bool (fX h.op))
  case first =>
    as_aux_lemma =>
      have HF : Hid (fX h.op = ((h.op == 1 || h.op == 2) || (h.op == 3 || h.op == 14))) := Lib.hid rfl
      go_wp2_with fail
      all_goals go_meet
      all_goals exact ⟨rfl, by rw [HF.out]; congr 1; go_light; grind⟩
  obtain ⟨rfl, rfl⟩ := hcut
  generalize fX h.op = bX at *
  go_upto_region 11 with fail
  go_cut [4, 130] (fun _ s' W3 => ∃ t, s' = .bool t ∧ (!t) = (if bX then shpE h.xop h.xn h.xnm h.xkids else zeroX h.xop h.xn h.xnm h.xkids.len) ∧ Sit w W3 (stF w.heap.size h b e ⟨aoi, capi, aox, capx, aob, capb, aoe, cape⟩ []))
  case first =>
    as_aux_lemma =>
      cases bX
      · go_wp2_with fail
        refine (blank_any _ _ _ _ _ _ _).mono ?_
        rintro e' w3 ⟨rfl, hb3⟩
        have HV := Lib.hid (HU.out.next hb3)
        clear hb3
        cases hq : zeroX h.xop h.xn h.xnm h.xkids.len
        all_goals go_wp2_with fail
        all_goals go_meet
        all_goals exact ⟨_, rfl, hq.symm, HV.out⟩
      · go_wp2_with fail
        refine (RefShapedExpr_any _ _ _ _ _ _ _ hxk (HIN.out.same HU.out.1).2.2.1).mono ?_
        rintro e' w3 ⟨rfl, hb3⟩
        have HV := Lib.hid (HU.out.next hb3)
        clear hb3 HU c0 c1 c2 c3 c4 c5 c6 c7 c8 c9 c10
        obtain ⟨-, ⟨-, c0⟩, ⟨-, c1⟩, ⟨-, c2⟩, ⟨-, c3⟩, ⟨-, c4⟩, ⟨-, c5⟩, ⟨-, c6⟩, ⟨-, c7⟩, ⟨-, c8⟩, ⟨-, c9⟩, ⟨-, c10⟩, -⟩ := HV.out
        cases hq : shpE h.xop h.xn h.xnm h.xkids
        all_goals go_wp2_with fail
        all_goals go_meet
        all_goals exact ⟨_, rfl, hq.symm, HV.out⟩
  obtain ⟨t5, rfl, ht5, hX⟩ := hcut
  have HV := Lib.hid hX
  have HT5 := Lib.hid ht5
  clear hX ht5 HU c0 c1 c2 c3 c4 c5 c6 c7 c8 c9 c10
  rw [← HT5.out] at HS
  clear HT5
  cases t5
  case true =>
    as_aux_lemma =>
      go_wp2_with fail
      go_ret
      exact ⟨ret_bool (HS.out.trans (by simp)).symm, HV.out.1⟩
  obtain ⟨-, ⟨-, c0⟩, ⟨-, c1⟩, ⟨-, c2⟩, ⟨-, c3⟩, ⟨-, c4⟩, ⟨-, c5⟩, ⟨-, c6⟩, ⟨-, c7⟩, ⟨-, c8⟩, ⟨-, c9⟩, ⟨-, c10⟩, -⟩ := HV.out
  go_upto_region 13 with fail
  go_cut [5] (fun s' W3 => wc = W3 ∧ s' = .bool (fB h.op))
  case first =>
    as_aux_lemma =>
      have HF : Hid (fB h.op = (decide (2 ≤ h.op) && decide (h.op ≤ 8))) := Lib.hid rfl
      go_wp2_with fail
      all_goals go_meet
      all_goals exact ⟨rfl, by rw [HF.out]; congr 1; go_light; grind⟩
  obtain ⟨rfl, rfl⟩ := hcut
  generalize fB h.op = bB at *
  go_upto_region 14 with fail
  go_cut [5, 157] (fun _ s' W3 => wc = W3 ∧ ∃ t, s' = .bool t ∧ (!t) = ((bB || decide ((b.len : Int) ≤ 0)) && (fE h.op || decide ((e.len : Int) ≤ 0))))
  case first =>
    as_aux_lemma =>
      have HF : Hid (fE h.op = (h.op == 2)) := Lib.hid rfl
      cases bB
      all_goals cases h2 : (h.op == 2)
      all_goals try have h2' : (h.op != 2) = true := by unfold bne; rw [h2]; rfl
      all_goals try have h2' : (h.op != 2) = false := by unfold bne; rw [h2]; rfl
      all_goals go_wp2_with fail
      all_goals go_meet
      all_goals exact ⟨rfl, _, rfl, by rw [HF.out, h2]; go_light; grind⟩
  obtain ⟨rfl, t6, rfl, ht6⟩ := hcut
  have HT6 := Lib.hid ht6
  rw [← HT6.out] at HS
  clear HT6 ht6
  cases t6
  case true =>
    as_aux_lemma =>
      go_wp2_with fail
      go_ret
      exact ⟨ret_bool (HS.out.trans (by simp)).symm, HV.out.1⟩
  go_wp2_with fail
  refine (ShapedStmts_of b HIB.out _ _ _ hbl' (HIN.out.same HV.out.1).2.2.2.1).mono ?_
  rintro e' w4 ⟨rfl, hb4⟩
  have HA := Lib.hid (HV.out.next hb4)
  clear hb4 HV c0 c1 c2 c3 c4 c5 c6 c7 c8 c9 c10
  obtain ⟨-, ⟨-, c0⟩, ⟨-, c1⟩, ⟨-, c2⟩, ⟨-, c3⟩, ⟨-, c4⟩, ⟨-, c5⟩, ⟨-, c6⟩, ⟨-, c7⟩, ⟨-, c8⟩, ⟨-, c9⟩, ⟨-, c10⟩, -⟩ := HA.out
  cases hq : shpSL b
  · rw [hq] at HS
    go_wp2_with fail
    go_ret
    exact ⟨ret_bool (HS.out.trans (by simp)).symm, HA.out.1⟩
  · rw [hq] at HS
    go_wp2_with fail
    refine (ShapedStmts_of e HIE.out _ _ _ hel' (HIN.out.same HA.out.1).2.2.2.2).mono ?_
    rintro e' w5 ⟨rfl, hb5⟩
    go_wp2_with fail
    go_ret
    exact ⟨ret_bool (HS.out.trans (by simp)).symm, (HA.out.next hb5).1⟩
theorem RefShapedStmts_any (l : StL) (w : World) (ao : Option Addr) (cap : Nat) (hl : l.len ≤ maxLen) (hat : l.At w w.heap.size ao 0) :
    Calls Tryz.prog 51 #[.slice ao l.len cap] w fun e' w' => e' = .returned (.bool (shpSL l)) ∧ Below w.heap.size w w' :=
  ShapedStmts_of l (StL.all_of RefShapedStmt_step l) w ao cap hl hat
end Go.Proofs.YtommnhglgedflaaGreatDoor
end
section
namespace Go.Proofs.YtommnhglgedflaaGreatDoor
open Go.RowKit
open Md

set_option maxHeartbeats 2000000 in
set_option maxRecDepth 100000 in
theorem RefShaped_any (p : Pr) (w : World) (aoD aoT : Option Addr) (capD capT : Nat) (hp : p.At w aoD aoT) :
    Calls Tryz.prog 23 #[.agg #[.slice aoD p.ds.length capD, .slice aoT p.ts.length capT]] w fun e w' => e = .returned (.bool (shpP p)) ∧ Below w.heap.size w w' := by
  have HS : Hid (shpP p = ((p.ds.all shpD && p.ts.all shpT) && decide ((0 : Int) < p.ts.length))) := Lib.hid rfl
  generalize shpP p = res at *
  have hld := hp.1
  have hlt := hp.2.1
  unfold maxLen at hld hlt
  have HP := Lib.hid hp
  clear hp
  go_enter Tryz.func23, Tryz.ntmps23
  go_upto_region 1 with fail
  generalize hW : World.alloc w _ = W
  generalize Value.agg #[_, _] = a0
  have HX := Lib.hid ((Sit.start w).box2 rfl (.slice aoD p.ds.length capD) (.slice aoT p.ts.length capT) 26)
  rw [hW] at HX
  clear hW
  have hde := (HP.out.same HX.out.1).2.2.1
  go_wp2_with fail
  go_loopw [3] (fun s wr => ∃ (k : Nat) (R : List De), s = .int .i64 k ∧ k + R.length = p.ds.length ∧ p.ds.all shpD = R.all shpD ∧ DeAt wr wr.heap.size R aoD k ∧ Sit w wr [(w.heap.size, 0, (.slice aoD p.ds.length capD)), (w.heap.size, 1, (.slice aoT p.ts.length capT))]) (fun s _ => p.ds.length - (intOf s).toNat)
  case atStart => exact ⟨0, p.ds, rfl, by simp, rfl, hde, HX.out⟩
  case round =>
    obtain ⟨k, R, rfl, hlen, heq, hrow, hsit⟩ := hrel
    have HZ := Lib.hid hsit
    have HE := Lib.hid heq
    clear hsit HX hde heq
    obtain ⟨-, ⟨-, c0⟩, ⟨-, c1⟩, -⟩ := HZ.out
    cases R with
    | cons d R =>
      obtain ⟨⟨b, off, rfl, hB, x0, x1, x2, x3, x4, x5, hok⟩, hrest⟩ := hrow
      simp only [List.length_cons] at hlen
      have hkl : k < p.ds.length := by omega
      have HOK := Lib.hid hok
      clear hok
      go_wp2_with fail
      refine (RefShapedDecl_any d _ HOK.out).mono ?_
      rintro e' w2 ⟨rfl, hb2⟩
      have HB3 := Lib.hid hb2
      clear hb2 x0 x1 x2 x3 x4 x5 c0 c1
      cases hS : shpD d
      · rw [HE.out, List.all_cons, hS] at HS
        go_wp2_with fail
        go_ret
        exact ⟨ret_bool (HS.out.trans (by simp)).symm, (HZ.out.next HB3.out).1⟩
      · have HF := Lib.hid (HE.out.trans (by rw [List.all_cons, hS]; rfl : _ = R.all shpD))
        go_wp2_with fail
        go_roundw
        case rel => exact ⟨k + 1, R, by go_num, by omega, HF.out, hrest.same HB3.out, HZ.out.next HB3.out⟩
        case measure => simp [intOf]; omega
    | nil =>
      obtain rfl : k = p.ds.length := by simpa using hlen
      rw [HE.out] at HS
      have hth := (HP.out.same HZ.out.1).2.2.2
      clear HE hrow hlen
      go_wp2_with fail
      go_loopg [4, 5, 6] p.ts.length (fun g s _ _ wr => ∃ (k : Nat) (R : List Th), g = R.length ∧ s = .int .i64 k ∧ k + R.length = p.ts.length ∧ p.ts.all shpT = R.all shpT ∧ ThAt wr wr.heap.size R aoT k ∧ Sit w wr [(w.heap.size, 0, (.slice aoD p.ds.length capD)), (w.heap.size, 1, (.slice aoT p.ts.length capT))])
      case atStart => exact ⟨0, p.ts, rfl, rfl, by simp, rfl, hth, HZ.out⟩
      case round =>
        obtain ⟨k, R, rfl, rfl, hlen, heq, hrow, hsit⟩ := hrel
        have HU := Lib.hid hsit
        have HE := Lib.hid heq
        clear hsit HZ c0 c1 hth heq
        obtain ⟨-, ⟨-, c0⟩, ⟨-, c1⟩, -⟩ := HU.out
        cases R with
        | nil =>
          obtain rfl : k = p.ts.length := by simpa using hlen
          rw [HE.out] at HS
          go_wp2_with fail
          go_ret
          exact ⟨ret_bool (HS.out.trans (by simp)).symm, HU.out.1⟩
        | cons t R =>
          obtain ⟨⟨b, off, aol, capl, aob, capb, rfl, hB, x0, x1, x2, x3, hok, htx, hst⟩, hrest⟩ := hrow
          simp only [List.length_cons] at hlen
          have hkl : k < p.ts.length := by omega
          have hll := hok.2.2.1
          have HOK := Lib.hid hok
          have HTX := Lib.hid htx
          have HST := Lib.hid hst
          unfold maxLen at hll
          clear hok htx hst
          go_upto_region 10 with fail
          clear c0 c1
          obtain ⟨n2, hn2⟩ : ∃ n, wr.heap.size = n := ⟨_, rfl⟩
          generalize hW2 : World.alloc wr _ = W2
          have HB2 : Hid (Below wr.heap.size wr W2) := Lib.hid (by rw [← hW2]; exact alloc_below _ _)
          have HV : Hid (Sit w W2 ((n2, 0, .string t.nm) :: (n2, 1, .int .i64 t.line) :: (n2, 2, .slice aol t.locs.length capl) :: (n2, 3, .slice aob t.body.len capb) :: [(w.heap.size, 0, (.slice aoD p.ds.length capD)), (w.heap.size, 1, (.slice (some ⟨b, off, none⟩) p.ts.length capT))])) := Lib.hid (by rw [← hW2]; exact HU.out.box4 hn2 _ _ _ _ _)
          rw [hn2]
          clear hW2 hn2 x0 x1 x2 x3
          have hrow := HTX.out.same HB2.out
          go_wp2_with fail
          obtain ⟨wo, rfl⟩ : ∃ wo : World, wo = wr := ⟨_, rfl⟩
          go_loopw [6] (fun s wr => ∃ (k : Nat) (R : List ByteArray), s = .int .i64 k ∧ k + R.length = t.locs.length ∧ t.locs.all (fun s => Tk.isNm s.data.toList) = R.all (fun s => Tk.isNm s.data.toList) ∧ TxAt wr wr.heap.size R aol k ∧ Below wo.heap.size wo wr ∧ Sit w wr ((n2, 0, .string t.nm) :: (n2, 1, .int .i64 t.line) :: (n2, 2, .slice aol t.locs.length capl) :: (n2, 3, .slice aob t.body.len capb) :: [(w.heap.size, 0, (.slice aoD p.ds.length capD)), (w.heap.size, 1, (.slice (some ⟨b, off, none⟩) p.ts.length capT))])) (fun s _ => t.locs.length - (intOf s).toNat)
          case atStart => exact ⟨0, t.locs, rfl, by simp, rfl, hrow, HB2.out, HV.out⟩
          case round =>
            obtain ⟨k', R', rfl, hlen', heq', hrow', hbo, hsit'⟩ := hrel
            have HC := Lib.hid hsit'
            have HBO := Lib.hid hbo
            have HE' := Lib.hid heq'
            clear hsit' HV hrow heq' hbo HB2
            obtain ⟨-, ⟨-, c0⟩, ⟨-, c1⟩, ⟨-, c2⟩, ⟨-, c3⟩, ⟨-, c4⟩, ⟨-, c5⟩, -⟩ := HC.out
            cases R' with
            | cons s R' =>
              obtain ⟨⟨b', off', rfl, hB', y0, hs⟩, hrest'⟩ := hrow'
              simp only [List.length_cons] at hlen'
              have hkl' : k' < t.locs.length := by omega
              go_wp2_with fail
              refine (RefIsName_any _ _ hs).mono ?_
              rintro e' w3 ⟨rfl, hb3⟩
              have HB4 := Lib.hid hb3
              clear hb3 c0 c1 c2 c3 c4 c5 y0
              cases hN2 : Tk.isNm s.data.toList
              · rw [HE.out, List.all_cons, show shpT t = false by unfold shpT; rw [HE'.out, List.all_cons, hN2]; simp] at HS
                go_wp2_with fail
                go_ret
                exact ⟨ret_bool (HS.out.trans (by simp)).symm, (HC.out.next HB4.out).1⟩
              · have HF := Lib.hid (HE'.out.trans (by rw [List.all_cons, hN2]; rfl : _ = R'.all (fun s => Tk.isNm s.data.toList)))
                go_wp2_with fail
                go_roundw
                case rel => exact ⟨k' + 1, R', by go_num, by omega, HF.out, hrest'.same HB4.out, HBO.out.trans (HB4.out.mono HBO.out.size), HC.out.next HB4.out⟩
                case measure => simp [intOf]; omega
            | nil =>
              obtain rfl : k' = t.locs.length := by simpa using hlen'
              go_wp2_with fail
              refine (RefIsName_any _ _ HOK.out.1).mono ?_
              rintro e' w3 ⟨rfl, hb3⟩
              have HB4 := Lib.hid (HBO.out.trans (hb3.mono HBO.out.size))
              have HD := Lib.hid (HC.out.next hb3)
              clear hb3 c0 c1 c2 c3 c4 c5 HC HBO
              cases hN : Tk.isNm t.nm.data.toList
              · rw [HE.out, List.all_cons, show shpT t = false by unfold shpT; rw [hN]; rfl] at HS
                go_wp2_with fail
                go_ret
                exact ⟨ret_bool (HS.out.trans (by simp)).symm, HD.out.1⟩
              · obtain ⟨-, ⟨-, c0⟩, ⟨-, c1⟩, ⟨-, c2⟩, ⟨-, c3⟩, ⟨-, c4⟩, ⟨-, c5⟩, -⟩ := HD.out
                go_wp2_with fail
                refine (RefShapedStmts_any t.body _ _ _ HOK.out.2.2.2 (HST.out.1.same HB4.out)).mono ?_
                rintro e' w4 ⟨rfl, hb4⟩
                have HB5 := Lib.hid (HB4.out.trans (hb4.mono HB4.out.size))
                have HDD := Lib.hid (HD.out.next hb4)
                clear hb4 c0 c1 c2 c3 c4 c5
                have HT : Hid (shpT t = shpSL t.body) := Lib.hid (by unfold shpT; rw [hN, HE'.out]; rfl)
                cases hN2 : shpSL t.body
                · rw [HE.out, List.all_cons, HT.out, hN2] at HS
                  go_wp2_with fail
                  go_ret
                  exact ⟨ret_bool (HS.out.trans (by simp)).symm, HDD.out.1⟩
                · have HF := Lib.hid (HE.out.trans (by rw [List.all_cons, HT.out, hN2]; rfl : _ = R.all shpT))
                  go_wp2_with fail
                  go_roundg R.length
                  case measure => simp
                  case rel => exact ⟨k + 1, R, rfl, by go_num, by omega, HF.out, hrest.same HB5.out, HU.out.next HB5.out⟩
end Go.Proofs.YtommnhglgedflaaGreatDoor
end
