/-
  Contracts of parse.operands, nameOrEmpty, ShapedExpr.
  Contracts of parse.fieldsOf, zeroExpr, shapedDecl.
  Contract of parse.ShapedExpr.
-/
import Derived.Test.YtommnhglgedflaaGreatDoorGMA
import Derived.Test.YtommnhglgedflaaGreatDoorGNA
section
namespace Go.Proofs.YtommnhglgedflaaGreatDoor
open Go.RowKit
open Md

theorem operands_any (op : Int) (w : World) :
    Calls Tryz.prog 52 #[.int .i64 op] w fun e w' => e = .returned (.int .i64 (opsOf op)) ∧ w = w' := by
  unfold opsOf
  go_enter Tryz.func52, Tryz.ntmps52
  go_wp2
  all_goals go_ret
  all_goals refine ⟨ret_int ?_, rfl⟩
  all_goals first | (simp [*]; done) | ((repeat' split) <;> simp_all <;> omega)

theorem nameOrEmpty_any (s : ByteArray) (b : Bool) (w : World) (hkw : KwLaid w) (hm : s.size ≤ maxLen) :
    Calls Tryz.prog 53 #[.string s, .bool b] w fun e w' => e = .returned (.bool (nmOr s b)) ∧ Below w.heap.size w w' := by
  cases b
  · go_enter Tryz.func53, Tryz.ntmps53
    go_wp2
    go_ret
    exact ⟨by simp [nmOr, Lib.toList_data], Below.refl _ _⟩
  · go_enter Tryz.func53, Tryz.ntmps53
    go_wp2_with (go_at_call 47; refine (IsName_any _ _ hkw hm).mono ?_; rintro e w' ⟨rfl, hb⟩)
    go_ret
    exact ⟨rfl, hb⟩
end Go.Proofs.YtommnhglgedflaaGreatDoor
end
section
namespace Go.Proofs.YtommnhglgedflaaGreatDoor
open Go.RowKit
open Md

set_option maxHeartbeats 1000000 in
theorem fieldsOf_any (op : Int) (w : World) :
    Calls Tryz.prog 116 #[.int .i64 op] w fun e w' => e = .returned (.tuple #[.agg #[.bool (fN op), .bool (fA op), .bool (fI op), .bool (fX op), .bool (fB op), .bool (fE op)], .bool (fO op)]) ∧ Below w.heap.size w w' := by
  have hop : op = 1 ∨ op = 2 ∨ op = 3 ∨ op = 4 ∨ op = 5 ∨ op = 6 ∨ op = 7 ∨ op = 8 ∨ op = 9 ∨ op = 10 ∨ op = 11 ∨ op = 12 ∨ op = 13 ∨ op = 14 ∨ op = 15 ∨ (op < 1 ∨ 15 < op) := by omega
  rcases hop with rfl | rfl | rfl | rfl | rfl | rfl | rfl | rfl | rfl | rfl | rfl | rfl | rfl | rfl | rfl | hop
  case inr.inr.inr.inr.inr.inr.inr.inr.inr.inr.inr.inr.inr.inr.inr =>
    have e1 : fN op = false := by unfold fN; grind
    have e2 : fA op = false := by unfold fA; grind
    have e3 : fI op = false := by unfold fI; grind
    have e4 : fX op = false := by unfold fX; grind
    have e5 : fB op = false := by unfold fB; grind
    have e6 : fE op = false := by unfold fE; grind
    have e7 : fO op = false := by unfold fO; grind
    rw [e1, e2, e3, e4, e5, e6, e7]
    clear e1 e2 e3 e4 e5 e6 e7
    have g1 : (op == 1) = false := by rw [beq_eq_false_iff_ne]; omega
    have g2 : (op == 2) = false := by rw [beq_eq_false_iff_ne]; omega
    have g3 : (op == 3) = false := by rw [beq_eq_false_iff_ne]; omega
    have g4 : (op == 4) = false := by rw [beq_eq_false_iff_ne]; omega
    have g5 : (op == 5) = false := by rw [beq_eq_false_iff_ne]; omega
    have g6 : (op == 6) = false := by rw [beq_eq_false_iff_ne]; omega
    have g7 : (op == 7) = false := by rw [beq_eq_false_iff_ne]; omega
    have g8 : (op == 8) = false := by rw [beq_eq_false_iff_ne]; omega
    have g9 : (op == 9) = false := by rw [beq_eq_false_iff_ne]; omega
    have g10 : (op == 10) = false := by rw [beq_eq_false_iff_ne]; omega
    have g11 : (op == 11) = false := by rw [beq_eq_false_iff_ne]; omega
    have g12 : (op == 12) = false := by rw [beq_eq_false_iff_ne]; omega
    have g13 : (op == 13) = false := by rw [beq_eq_false_iff_ne]; omega
    have g14 : (op == 14) = false := by rw [beq_eq_false_iff_ne]; omega
    have g15 : (op == 15) = false := by rw [beq_eq_false_iff_ne]; omega
    clear hop
    go_enter Tryz.func116, Tryz.ntmps116
    go_wp2
    exact bodyPost_ret (v := .tuple #[.agg #[.bool _, .bool _, .bool _, .bool _, .bool _, .bool _], .bool _]) (by simp [results, Tryz.results116, go_sem]) rfl ⟨rfl, alloc_below _ _⟩
  all_goals
    go_enter Tryz.func116, Tryz.ntmps116
    go_wp2
    exact bodyPost_ret (v := .tuple #[.agg #[.bool _, .bool _, .bool _, .bool _, .bool _, .bool _], .bool _]) (by simp [results, Tryz.results116, go_sem]; decide) rfl ⟨rfl, alloc_below _ _⟩

theorem zeroExpr_any (op n : Int) (nm : ByteArray) (len cap : Nat) (ao : Option Addr) (w : World) :
    Calls Tryz.prog 117 #[.agg #[.int .i64 op, .int .i64 n, .string nm, .slice ao len cap]] w fun e w' => e = .returned (.bool (zeroX op n nm len)) ∧ Below w.heap.size w w' := by
  have HE : Hid (zeroX op n nm len = (((decide (op = 0) && decide (n = 0)) && decide (nm.toList = [])) && decide (len = 0))) := Lib.hid (by unfold zeroX; rw [Bool.eq_iff_iff]; simp)
  go_enter Tryz.func117, Tryz.ntmps117
  go_wp2
  all_goals go_ret
  all_goals refine ⟨ret_bool ?_, alloc_below _ _⟩
  all_goals rw [HE.out]
  all_goals (go_light; grind)

set_option maxHeartbeats 1000000 in
theorem shapedDecl_any (d : De) (w : World) (hkw : KwLaid w) (hok : d.Ok) :
    Calls Tryz.prog 46 #[.agg #[.int .i64 d.kind, .int .i64 d.line, .string d.nm, .int .i64 d.size, .int .i64 d.init, .string d.on]] w fun e w' => e = .returned (.bool (shpD d)) ∧ Below w.heap.size w w' := by
  obtain ⟨⟨k1, k2⟩, -, hm, -, -, ho⟩ := hok
  obtain ⟨kind, line, nm, size, init, on⟩ := d
  have HE : Hid (shpD ⟨kind, line, nm, size, init, on⟩ = ((((decide (1 ≤ kind) && decide (kind ≤ 6)) && Tk.isNm nm.data.toList) && (decide (0 ≤ size) && (decide (size = 0) || decide (kind = 1)))) && ((!decide (init = -9223372036854775808) && (decide (init = 0) || (decide (kind = 1) || decide (kind = 2)))) && nmOr on (kind == 5)))) := Lib.hid (by
    unfold shpD; simp only [bne]; rw [Bool.eq_iff_iff]; simp)
  dsimp only at *
  generalize shpD ⟨kind, line, nm, size, init, on⟩ = res at *
  go_enter Tryz.func46, Tryz.ntmps46
  go_upto_region 1 with fail
  generalize hW : World.alloc w _ = W
  generalize Value.agg #[_, _, _, _, _, _] = a0
  have HX := Lib.hid ((Sit.start w).box6 rfl (.int .i64 kind) (.int .i64 line) (.string nm) (.int .i64 size) (.int .i64 init) (.string on) 58)
  rw [hW] at HX
  clear hW
  obtain ⟨-, ⟨-, c0⟩, ⟨-, c1⟩, ⟨-, c2⟩, ⟨-, c3⟩, ⟨-, c4⟩, ⟨-, c5⟩, -⟩ := HX.out
  go_cut [16] (fun s W2 => ∃ b, s = .bool b ∧ (!b) = ((decide (1 ≤ kind) && decide (kind ≤ 6)) && Tk.isNm nm.data.toList) ∧ Sit w W2 [(w.heap.size, 0, .int .i64 kind), (w.heap.size, 1, .int .i64 line), (w.heap.size, 2, .string nm), (w.heap.size, 3, .int .i64 size), (w.heap.size, 4, .int .i64 init), (w.heap.size, 5, .string on)])
  case first =>
    go_wp2_with (go_at_call 47; refine (IsName_any _ _ (hkw.same HX.out.1) hm).mono ?_; rintro e w' ⟨rfl, hb⟩)
    all_goals go_meet
    all_goals first | exact ⟨_, rfl, by go_light; grind, HX.out.next ‹_›⟩ | exact ⟨_, rfl, by go_light; grind, HX.out⟩
  obtain ⟨b1, rfl, hb1, hX⟩ := hcut
  have HY := Lib.hid hX
  have HB1 := Lib.hid hb1
  clear hX HX hb1 c0 c1 c2 c3 c4 c5
  obtain ⟨-, ⟨-, c0⟩, ⟨-, c1⟩, ⟨-, c2⟩, ⟨-, c3⟩, ⟨-, c4⟩, ⟨-, c5⟩, -⟩ := HY.out
  cases b1
  · cases h5 : (kind == 5)
    all_goals
      rw [h5] at HE
      go_wp2_with (go_at_call 53; refine (nameOrEmpty_any _ _ _ (hkw.same HY.out.1) ho).mono ?_; rintro e w' ⟨rfl, hb⟩)
    all_goals go_ret
    all_goals first | refine ⟨ret_bool ?_, (HY.out.next ‹_›).1⟩ | refine ⟨ret_bool ?_, HY.out.1⟩
    all_goals rw [HE.out, ← HB1.out]
    all_goals (go_light; grind)
  · go_wp2_with fail
    go_ret
    refine ⟨ret_bool ?_, HY.out.1⟩
    rw [HE.out, ← HB1.out]; rfl
end Go.Proofs.YtommnhglgedflaaGreatDoor
end
section
namespace Go.Proofs.YtommnhglgedflaaGreatDoor
open Go.RowKit
open Md

/-- What parse.ShapedExpr answers at an expression. -/
def ShpSays (op n : Int) (nm : ByteArray) (kids : ExL) : Prop :=
  ∀ (w : World) (ao : Option Addr) (cap : Nat), ExOk op n nm kids → kids.At w w.heap.size ao 0 → KwLaid w →
    Calls Tryz.prog 24 #[.agg #[.int .i64 op, .int .i64 n, .string nm, .slice ao kids.len cap]] w fun e w' => e = .returned (.bool (shpE op n nm kids)) ∧ Below w.heap.size w w'

theorem shpE_len {op n : Int} {nm : ByteArray} {kids : ExL} (h : ((kids.len : Int) == opsOf op) = false) : shpE op n nm kids = false := by unfold shpE shp1; rw [h]; rfl
theorem shpE_n {op n : Int} {nm : ByteArray} {kids : ExL} (h : n < 0 ∨ ((n == 0) = false ∧ (op == 1) = false)) : shpE op n nm kids = false := by
  unfold shpE shp1
  rcases h with h | ⟨h, h'⟩
  · rw [decide_eq_true h]; simp
  · rw [h, h']; simp
theorem shpE_nm {op n : Int} {nm : ByteArray} {kids : ExL} {b : Bool} (hb : named op = b) (h : nmOr nm b = false) : shpE op n nm kids = false := by
  unfold shpE shp1; rw [hb, h]; simp
theorem shpE_yes {op n : Int} {nm : ByteArray} {kids : ExL} {b : Bool} (h1 : ((kids.len : Int) == opsOf op) = true) (h2 : 0 ≤ n) (h3 : (n == 0) = true ∨ (op == 1) = true) (hb : named op = b) (h : nmOr nm b = true) : shpE op n nm kids = shpL kids := by
  unfold shpE shp1; rw [hb, h, h1, decide_eq_false (by omega)]
  rcases h3 with h3 | h3 <;> rw [h3] <;> simp

/-- The ways through the tests of an expression's own fields. -/
theorem ex_ways (op n : Int) : (n < 0) ∨ (0 < n ∧ op ≠ 1) ∨
    ∃ b, named op = b ∧ 0 ≤ n ∧ ((n == 0) = true ∨ (op == 1) = true) ∧
      ((0 < n ∧ op = 1 ∧ b = false) ∨ (n = 0 ∧ op = 2 ∧ b = true) ∨ (n = 0 ∧ op = 3 ∧ b = true) ∨ (n = 0 ∧ (op == 2) = false ∧ (op == 3) = false ∧ b = false)) := by
  by_cases h : n < 0
  · exact Or.inl h
  · by_cases h0 : n = 0
    · subst h0
      by_cases h2 : op = 2
      · subst h2; exact Or.inr (Or.inr ⟨true, rfl, by omega, Or.inl rfl, by simp⟩)
      · by_cases h3 : op = 3
        · subst h3; exact Or.inr (Or.inr ⟨true, rfl, by omega, Or.inl rfl, by simp⟩)
        · exact Or.inr (Or.inr ⟨false, by simp [named, h2, h3], by omega, Or.inl rfl, by simp [h2, h3]⟩)
    · by_cases h1 : op = 1
      · subst h1; exact Or.inr (Or.inr ⟨false, rfl, by omega, Or.inr rfl, by simp; omega⟩)
      · exact Or.inr (Or.inl ⟨by omega, h1⟩)

theorem shpL_cons (op n : Int) (nm : ByteArray) (kids rest : ExL) : shpL (.cons op n nm kids rest) = (shpE op n nm kids && shpL rest) := rfl
/-- Some expressions of a row have been found shaped. -/
def ShpLeft (kids R : ExL) (k : Nat) : Prop := k + R.len = kids.len ∧ shpL kids = shpL R

set_option maxHeartbeats 2000000 in
theorem ShapedExpr_step (op n : Int) (nm : ByteArray) (kids : ExL) (ih : kids.All ShpSays) : ShpSays op n nm kids := by
  intro w ao cap hok hat hkw
  obtain ⟨⟨o1, o2⟩, ⟨n1, n2⟩, hm, hl⟩ := hok
  unfold maxLen at hl
  have hl' : kids.len ≤ 9223372036854775807 := hl
  rcases ex_ways op n with hn | ⟨hn, q1⟩ | ⟨b, hb, hn, hor, hq⟩
  · have HR := Lib.hid (shpE_n (nm := nm) (kids := kids) (op := op) (Or.inl hn))
    go_enter Tryz.func24, Tryz.ntmps24
    go_wp2_with fail
    generalize hW : World.alloc w _ = W
    have HX := Lib.hid (Box4.mk hW)
    clear hW
    obtain ⟨-, -, c0, c1, c2, c3⟩ := HX.out
    go_quiet (first | (go_at_call 52; refine quiet_eq (operands_any _ _)))
    go_wp2_with fail
    all_goals go_ret
    all_goals exact ⟨ret_bool HR.out.symm, (HX.out.draws _).1⟩
  · have HR := Lib.hid (shpE_n (nm := nm) (kids := kids) (Or.inr ⟨beq_eq_false_iff_ne.2 (show n ≠ 0 by omega), beq_eq_false_iff_ne.2 q1⟩))
    have q1' : (op != 1) = true := bne_iff_ne.2 q1
    have q0' : (n != 0) = true := bne_iff_ne.2 (by omega)
    go_enter Tryz.func24, Tryz.ntmps24
    go_wp2_with fail
    generalize hW : World.alloc w _ = W
    have HX := Lib.hid (Box4.mk hW)
    clear hW
    obtain ⟨-, -, c0, c1, c2, c3⟩ := HX.out
    go_quiet (first | (go_at_call 52; refine quiet_eq (operands_any _ _)))
    go_wp2_with fail
    all_goals go_ret
    all_goals exact ⟨ret_bool HR.out.symm, (HX.out.draws _).1⟩
  · by_cases h1 : ((kids.len : Int) == opsOf op) = false
    · have HR := Lib.hid (shpE_len (n := n) (nm := nm) h1)
      have h1' : ((kids.len : Int) != opsOf op) = true := by unfold bne; rw [h1]; rfl
      go_enter Tryz.func24, Tryz.ntmps24
      go_wp2_with fail
      generalize hW : World.alloc w _ = W
      have HX := Lib.hid (Box4.mk hW)
      clear hW
      obtain ⟨-, -, c0, c1, c2, c3⟩ := HX.out
      go_quiet (first | (go_at_call 52; refine quiet_eq (operands_any _ _)))
      go_wp2_with fail
      go_ret
      exact ⟨ret_bool HR.out.symm, (HX.out.draws _).1⟩
    · have h1' : ((kids.len : Int) == opsOf op) = true := by simpa using h1
      clear h1
      have HY := Lib.hid (fun h : nmOr nm b = true => shpE_yes h1' hn hor hb h)
      have HN := Lib.hid (fun h : nmOr nm b = false => shpE_nm (n := n) (kids := kids) hb h)
      clear hb hor
      have HAT := Lib.hid hat
      have HIH := Lib.hid ih
      clear hat ih
      have h1'' : ((kids.len : Int) != opsOf op) = false := by unfold bne; rw [h1']; rfl
      clear h1'
      rcases hq with ⟨q0, rfl, rfl⟩ | ⟨rfl, rfl, rfl⟩ | ⟨rfl, rfl, rfl⟩ | ⟨rfl, q2, q3, rfl⟩
      all_goals
        go_enter Tryz.func24, Tryz.ntmps24
        go_wp2_with fail
        generalize hW : World.alloc w _ = W
        have HX := Lib.hid (Box4.mk hW)
        clear hW
        obtain ⟨-, -, c0, c1, c2, c3⟩ := HX.out
        go_quiet (first | (go_at_call 52; refine quiet_eq (operands_any _ _)))
        have HX' := Lib.hid (HX.out.draws nq)
        clear HX c0 c1 c2 c3
        generalize W.drewN nq = wq at *
        obtain ⟨-, -, c0, c1, c2, c3⟩ := HX'.out
        go_wp2_with fail
        refine (nameOrEmpty_any _ _ _ (hkw.same HX'.out.1) hm).mono ?_
        rintro e w1 ⟨rfl, hb1⟩
        have HZ := Lib.hid (HX'.out.next hb1)
        clear hb1 HX' c0 c1 c2 c3
        obtain ⟨-, -, c0, c1, c2, c3⟩ := HZ.out
      all_goals
        cases hN : nmOr nm _
        · have HR := Lib.hid (HN.out hN)
          clear HN HY
          go_wp2_with fail
          go_ret
          exact ⟨ret_bool HR.out.symm, HZ.out.1⟩
        · have HR := Lib.hid (HY.out hN)
          clear HN HY
          go_wp2_with fail
          go_loopw [40] (fun i wr => ∃ k R, i = .int .i64 (k : Nat) ∧ ShpLeft kids R k ∧ R.All ShpSays ∧ R.At wr wr.heap.size ao k ∧ Box4 w wr (Value.int IntKind.i64 _) (Value.int IntKind.i64 _) (Value.string nm) (Value.slice ao kids.len cap)) (fun i _ => kids.len - (intOf i).toNat)
          case atStart => exact ⟨0, kids, rfl, ⟨Nat.zero_add _, rfl⟩, HIH.out, HAT.out.same HZ.out.1, HZ.out⟩
          case round =>
            obtain ⟨k, R, rfl, ⟨hlen, heq⟩, hall, hrow, hbox⟩ := hrel
            have HT := Lib.hid (HR.out.trans heq)
            cases R with
            | nil =>
              obtain rfl : k = kids.len := by simpa [ExL.len] using hlen
              go_wp2_with fail
              go_ret
              exact ⟨ret_bool HT.out.symm, hbox.1⟩
            | cons op' n' nm' kids' rest =>
              obtain ⟨⟨b, off, ao', cap', rfl, hbB, x0, x1, x2, x3, hok', hkids⟩, hrest⟩ := hrow
              obtain ⟨hsay, hall'⟩ := hall
              have hlt : k < kids.len := by simp only [ExL.len] at hlen; omega
              go_wp2_with fail
              have hba := (Below.refl wr.heap.size wr).alloc (Nat.le_refl _) (.cells #[.int .i64 op', .int .i64 n', .string nm', .slice ao' kids'.len cap'] 38)
              refine (hsay _ _ _ hok' (hkids.same hba) ((hkw.same hbox.1).alloc _)).mono ?_
              rintro e w2 ⟨rfl, hb2⟩
              have hb3 := hba.trans (hb2.mono (by simp))
              have HBX := Lib.hid (hbox.next hb3)
              have hrest' := hrest.same hb3
              clear hba hb2 hb3 hbox hrest x0 x1 x2 x3 c0 c1 c2 c3 hkids
              cases hS : shpE op' n' nm' kids'
              · have HF := Lib.hid (HT.out.trans (by rw [shpL_cons, hS]; rfl : shpL (.cons op' n' nm' kids' rest) = false))
                go_wp2_with fail
                go_ret
                exact ⟨ret_bool HF.out.symm, HBX.out.1⟩
              · have HF := Lib.hid (heq.trans (by rw [shpL_cons, hS]; rfl : shpL (.cons op' n' nm' kids' rest) = shpL rest))
                go_wp2_with fail
                go_roundw
                case rel => exact ⟨k + 1, rest, by go_num, ⟨by simp only [ExL.len] at hlen; omega, HF.out⟩, hall', hrest', HBX.out⟩
                case measure => simp [intOf]; omega
theorem ShapedExpr_any (op n : Int) (nm : ByteArray) (kids : ExL) : ShpSays op n nm kids := ExL.of_all ShapedExpr_step op n nm kids
end Go.Proofs.YtommnhglgedflaaGreatDoor
end
