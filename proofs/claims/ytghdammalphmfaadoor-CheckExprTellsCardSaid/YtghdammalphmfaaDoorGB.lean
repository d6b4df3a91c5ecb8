/-
  Expressions as data, and what it is that a row of them lies in memory. No program in sight.
  Contracts of parse.operands, nameOrEmpty, ShapedExpr.
  Contract of parse.ShapedExpr.
-/
import Derived.Test.YtghdammalphmfaaDoorGA
import Derived.WalkSmall
import Derived.Deep.QuietTactic
import Derived.BigQuiet
section
namespace Go.Proofs.YtghdammalphmfaaDoor
open Go.RowKit

theorem box_cells (w : World) (cs : List Value) (t : TypeId) (j : Nat) : (w.alloc (.cells cs.toArray t)).cell? ⟨w.heap.size, j, none⟩ = cs[j]? := laid_cell w cs t j

/-- A struct of four cells was boxed in the first new block; the rest is as it was. -/
def Box4 (w W : World) (a b c d : Value) : Prop :=
  Below w.heap.size w W ∧ w.heap.size < W.heap.size ∧ W.cell? ⟨w.heap.size, 0, none⟩ = some a ∧ W.cell? ⟨w.heap.size, 1, none⟩ = some b ∧ W.cell? ⟨w.heap.size, 2, none⟩ = some c ∧ W.cell? ⟨w.heap.size, 3, none⟩ = some d
theorem Box4.mk {w W : World} {a b c d : Value} {t : TypeId} (h : w.alloc (.cells #[a, b, c, d] t) = W) : Box4 w W a b c d := by
  subst h
  exact ⟨(Below.refl _ _).alloc (Nat.le_refl _) _, by simp, box_cells w [a, b, c, d] t 0, box_cells w [a, b, c, d] t 1, box_cells w [a, b, c, d] t 2, box_cells w [a, b, c, d] t 3⟩
theorem Box4.next {w W W' : World} {a b c d : Value} (h : Box4 w W a b c d) (hb : Below W.heap.size W W') : Box4 w W' a b c d := by
  obtain ⟨h0, hs, c0, c1, c2, c3⟩ := h
  exact ⟨h0.trans (hb.mono h0.size), Nat.lt_of_lt_of_le hs hb.size, (hb.cell hs).trans c0, (hb.cell hs).trans c1, (hb.cell hs).trans c2, (hb.cell hs).trans c3⟩
theorem Box4.draws {w W : World} {a b c d : Value} (h : Box4 w W a b c d) (n : Nat) : Box4 w (W.drewN n) a b c d := h.next (below_drewN (Below.refl _ _) n)

namespace Md
/-- An integer of 64 bits. -/
def I64 (n : Int) : Prop := -9223372036854775808 ≤ n ∧ n ≤ 9223372036854775807

/-- A list of expressions, each with the list of its operands. -/
inductive ExL where
  | nil
  | cons (op n : Int) (nm : ByteArray) (kids rest : ExL)

def ExL.len : ExL → Nat
  | .nil => 0
  | .cons _ _ _ _ r => r.len + 1

/-- What an expression's own cells hold. -/
def ExOk (op n : Int) (nm : ByteArray) (kids : ExL) : Prop := I64 op ∧ I64 n ∧ nm.size ≤ maxLen ∧ kids.len ≤ maxLen

/-- The expressions of a list lie in memory below block B, the first of them as the k-th of a row. -/
def ExL.At (w : World) (B : Nat) : ExL → Option Addr → Nat → Prop
  | .nil, _, _ => True
  | .cons op n nm kids rest, ao, k =>
    (∃ b off ao' cap, ao = some ⟨b, off, none⟩ ∧ b < B ∧ w.cell? ⟨b, off + k * 4, none⟩ = some (.int .i64 op) ∧ w.cell? ⟨b, off + k * 4 + 1, none⟩ = some (.int .i64 n) ∧
      w.cell? ⟨b, off + k * 4 + 2, none⟩ = some (.string nm) ∧ w.cell? ⟨b, off + k * 4 + 3, none⟩ = some (.slice ao' kids.len cap) ∧ ExOk op n nm kids ∧ kids.At w B ao' 0) ∧
    rest.At w B ao (k + 1)

theorem ExL.At.below {w w' : World} {B : Nat} (hb : Below B w w') : ∀ {l : ExL} {ao : Option Addr} {k : Nat}, l.At w B ao k → l.At w' B ao k
  | .nil, _, _, _ => trivial
  | .cons _ _ _ _ _, _, _, h => by
    obtain ⟨⟨b, off, ao', cap, e, hB, c0, c1, c2, c3, hok, hk⟩, hr⟩ := h
    exact ⟨⟨b, off, ao', cap, e, hB, (hb.cell hB).trans c0, (hb.cell hB).trans c1, (hb.cell hB).trans c2, (hb.cell hB).trans c3, hok, hk.below hb⟩, hr.below hb⟩
theorem ExL.At.mono {w : World} {B B' : Nat} (hB' : B ≤ B') : ∀ {l : ExL} {ao : Option Addr} {k : Nat}, l.At w B ao k → l.At w B' ao k
  | .nil, _, _, _ => trivial
  | .cons _ _ _ _ _, _, _, h => by
    obtain ⟨⟨b, off, ao', cap, e, hB, c0, c1, c2, c3, hok, hk⟩, hr⟩ := h
    exact ⟨⟨b, off, ao', cap, e, Nat.lt_of_lt_of_le hB hB', c0, c1, c2, c3, hok, hk.mono hB'⟩, hr.mono hB'⟩
theorem ExL.At.same {w w' : World} {l : ExL} {ao : Option Addr} {k : Nat} (h : l.At w w.heap.size ao k) (hb : Below w.heap.size w w') : l.At w' w'.heap.size ao k :=
  (h.below hb).mono hb.size

/-- A law of every expression of a list. -/
def ExL.All (Q : Int → Int → ByteArray → ExL → Prop) : ExL → Prop
  | .nil => True
  | .cons op n nm kids rest => Q op n nm kids ∧ rest.All Q
theorem ExL.all_of {Q : Int → Int → ByteArray → ExL → Prop} (step : ∀ op n nm kids, kids.All Q → Q op n nm kids) : ∀ l : ExL, l.All Q
  | .nil => trivial
  | .cons op n nm kids rest => ⟨step op n nm kids (all_of step kids), all_of step rest⟩
theorem ExL.of_all {Q : Int → Int → ByteArray → ExL → Prop} (step : ∀ op n nm kids, kids.All Q → Q op n nm kids) (op n : Int) (nm : ByteArray) (kids : ExL) : Q op n nm kids :=
  step op n nm kids (ExL.all_of step kids)

/-- How many operands an operator has. -/
def opsOf (op : Int) : Int := if op == 1 || op == 2 then 0 else if op == 3 || op == 4 || op == 5 then 1 else if decide (6 ≤ op) && decide (op ≤ 18) then 2 else -1
def named (op : Int) : Bool := op == 2 || op == 3
/-- A name where one is wanted, and nothing otherwise. -/
def nmOr (nm : ByteArray) (b : Bool) : Bool := if b then Tk.isNm nm.data.toList else nm.data.toList.isEmpty
def shp1 (op n : Int) (nm : ByteArray) (len : Nat) : Bool := ((len : Int) == opsOf op) && (!(decide (n < 0) || (!(n == 0) && !(op == 1))) && nmOr nm (named op))
def shpL : ExL → Bool
  | .nil => true
  | .cons op n nm kids rest => (shp1 op n nm kids.len && shpL kids) && shpL rest
def shpE (op n : Int) (nm : ByteArray) (kids : ExL) : Bool := shp1 op n nm kids.len && shpL kids
end Md
end Go.Proofs.YtghdammalphmfaaDoor
end
section
namespace Go.Proofs.YtghdammalphmfaaDoor
open Go.RowKit
open Md

theorem operands_any (op : Int) (w : World) :
    Calls Tryd.prog 42 #[.int .i64 op] w fun e w' => e = .returned (.int .i64 (opsOf op)) ∧ w = w' := by
  unfold opsOf
  go_enter Tryd.func42, Tryd.ntmps42
  go_wp2
  all_goals go_ret
  all_goals refine ⟨ret_int ?_, rfl⟩
  all_goals first | (simp [*]; done) | ((repeat' split) <;> simp_all <;> omega)

theorem nameOrEmpty_any (s : ByteArray) (b : Bool) (w : World) (hkw : KwLaid w) (hm : s.size ≤ maxLen) :
    Calls Tryd.prog 43 #[.string s, .bool b] w fun e w' => e = .returned (.bool (nmOr s b)) ∧ Below w.heap.size w w' := by
  cases b
  · go_enter Tryd.func43, Tryd.ntmps43
    go_wp2
    go_ret
    exact ⟨by simp [nmOr, Lib.toList_data], Below.refl _ _⟩
  · go_enter Tryd.func43, Tryd.ntmps43
    go_wp2_with (go_at_call 49; refine (IsName_any _ _ hkw hm).mono ?_; rintro e w' ⟨rfl, hb⟩)
    go_ret
    exact ⟨rfl, hb⟩
end Go.Proofs.YtghdammalphmfaaDoor
end
section
namespace Go.Proofs.YtghdammalphmfaaDoor
open Go.RowKit
open Md

/-- A callee that leaves the world as it is, in a region that only reads. -/
theorem quiet_eq {P : Program} {f : FuncId} {args : Array Value} {w : World} {n : Nat} {v : Value} (h : Calls P f args (w.drewN n) fun e w' => e = .returned v ∧ w.drewN n = w') :
    Calls P f args (w.drewN n) fun e w'' => e = .returned v ∧ ∃ m, w'' = w.drewN m := h.mono fun _ _ ⟨he, hm⟩ => ⟨he, n, hm.symm⟩

/-- What parse.ShapedExpr answers at an expression. -/
def ShpSays (op n : Int) (nm : ByteArray) (kids : ExL) : Prop :=
  ∀ (w : World) (ao : Option Addr) (cap : Nat), ExOk op n nm kids → kids.At w w.heap.size ao 0 → KwLaid w →
    Calls Tryd.prog 21 #[.agg #[.int .i64 op, .int .i64 n, .string nm, .slice ao kids.len cap]] w fun e w' => e = .returned (.bool (shpE op n nm kids)) ∧ Below w.heap.size w w'

theorem shpE_len {op n : Int} {nm : ByteArray} {kids : ExL} (h : ((kids.len : Int) == opsOf op) = false) : shpE op n nm kids = false := by unfold shpE shp1; rw [h]; rfl
theorem shpE_n {op n : Int} {nm : ByteArray} {kids : ExL} (h : n < 0 ∨ ((n == 0) = false ∧ (op == 1) = false)) : shpE op n nm kids = false := by
  unfold shpE shp1
  rcases h with h | ⟨h, h'⟩
  · rw [decide_eq_true h]; simp
  · rw [h, h']; simp
theorem shpE_nm {op n : Int} {nm : ByteArray} {kids : ExL} {b : Bool} (hb : named op = b) (h : nmOr nm b = false) : shpE op n nm kids = false := by
  unfold shpE shp1; rw [hb, h]; simp
theorem shpE_yes {op n : Int} {nm : ByteArray} {kids : ExL} {b : Bool} (h1 : ((kids.len : Int) == opsOf op) = true) (h2 : 0 ≤ n) (h3 : (n == 0) = true ∨ (op == 1) = true) (hb : named op = b) (h : nmOr nm b = true) : shpE op n nm kids = shpL kids := by
  unfold shpE shp1; rw [hb, h, h1, decide_eq_false (by omega)]
  rcases h3 with h3 | h3 <;> rw [h3] <;> simp

/-- The ways through the tests of an expression's own fields. -/
theorem ex_ways (op n : Int) : (n < 0) ∨ (0 < n ∧ op ≠ 1) ∨
    ∃ b, named op = b ∧ 0 ≤ n ∧ ((n == 0) = true ∨ (op == 1) = true) ∧
      ((0 < n ∧ op = 1 ∧ b = false) ∨ (n = 0 ∧ op = 2 ∧ b = true) ∨ (n = 0 ∧ op = 3 ∧ b = true) ∨ (n = 0 ∧ (op == 2) = false ∧ (op == 3) = false ∧ b = false)) := by
  by_cases h : n < 0
  · exact Or.inl h
  · by_cases h0 : n = 0
    · subst h0
      by_cases h2 : op = 2
      · subst h2; exact Or.inr (Or.inr ⟨true, rfl, by omega, Or.inl rfl, by simp⟩)
      · by_cases h3 : op = 3
        · subst h3; exact Or.inr (Or.inr ⟨true, rfl, by omega, Or.inl rfl, by simp⟩)
        · exact Or.inr (Or.inr ⟨false, by simp [named, h2, h3], by omega, Or.inl rfl, by simp [h2, h3]⟩)
    · by_cases h1 : op = 1
      · subst h1; exact Or.inr (Or.inr ⟨false, rfl, by omega, Or.inr rfl, by simp; omega⟩)
      · exact Or.inr (Or.inl ⟨by omega, h1⟩)

theorem shpL_cons (op n : Int) (nm : ByteArray) (kids rest : ExL) : shpL (.cons op n nm kids rest) = (shpE op n nm kids && shpL rest) := rfl
/-- Some expressions of a row have been found shaped. -/
def ShpLeft (kids R : ExL) (k : Nat) : Prop := k + R.len = kids.len ∧ shpL kids = shpL R

set_option maxHeartbeats 2000000 in
theorem ShapedExpr_step (op n : Int) (nm : ByteArray) (kids : ExL) (ih : kids.All ShpSays) : ShpSays op n nm kids := by
  intro w ao cap hok hat hkw
  obtain ⟨⟨o1, o2⟩, ⟨n1, n2⟩, hm, hl⟩ := hok
  unfold maxLen at hl
  have hl' : kids.len ≤ 9223372036854775807 := hl
  rcases ex_ways op n with hn | ⟨hn, q1⟩ | ⟨b, hb, hn, hor, hq⟩
  · have HR := Lib.hid (shpE_n (nm := nm) (kids := kids) (op := op) (Or.inl hn))
    go_enter Tryd.func21, Tryd.ntmps21
    go_wp2_with fail
    generalize hW : World.alloc w _ = W
    have HX := Lib.hid (Box4.mk hW)
    clear hW
    obtain ⟨-, -, c0, c1, c2, c3⟩ := HX.out
    go_quiet (first | (go_at_call 42; refine quiet_eq (operands_any _ _)))
    go_wp2_with fail
    all_goals go_ret
    all_goals exact ⟨ret_bool HR.out.symm, (HX.out.draws _).1⟩
  · have HR := Lib.hid (shpE_n (nm := nm) (kids := kids) (Or.inr ⟨beq_eq_false_iff_ne.2 (show n ≠ 0 by omega), beq_eq_false_iff_ne.2 q1⟩))
    have q1' : (op != 1) = true := bne_iff_ne.2 q1
    have q0' : (n != 0) = true := bne_iff_ne.2 (by omega)
    go_enter Tryd.func21, Tryd.ntmps21
    go_wp2_with fail
    generalize hW : World.alloc w _ = W
    have HX := Lib.hid (Box4.mk hW)
    clear hW
    obtain ⟨-, -, c0, c1, c2, c3⟩ := HX.out
    go_quiet (first | (go_at_call 42; refine quiet_eq (operands_any _ _)))
    go_wp2_with fail
    all_goals go_ret
    all_goals exact ⟨ret_bool HR.out.symm, (HX.out.draws _).1⟩
  · by_cases h1 : ((kids.len : Int) == opsOf op) = false
    · have HR := Lib.hid (shpE_len (n := n) (nm := nm) h1)
      have h1' : ((kids.len : Int) != opsOf op) = true := by unfold bne; rw [h1]; rfl
      go_enter Tryd.func21, Tryd.ntmps21
      go_wp2_with fail
      generalize hW : World.alloc w _ = W
      have HX := Lib.hid (Box4.mk hW)
      clear hW
      obtain ⟨-, -, c0, c1, c2, c3⟩ := HX.out
      go_quiet (first | (go_at_call 42; refine quiet_eq (operands_any _ _)))
      go_wp2_with fail
      go_ret
      exact ⟨ret_bool HR.out.symm, (HX.out.draws _).1⟩
    · have h1' : ((kids.len : Int) == opsOf op) = true := by simpa using h1
      clear h1
      have HY := Lib.hid (fun h : nmOr nm b = true => shpE_yes h1' hn hor hb h)
      have HN := Lib.hid (fun h : nmOr nm b = false => shpE_nm (n := n) (kids := kids) hb h)
      clear hb hor
      have HAT := Lib.hid hat
      have HIH := Lib.hid ih
      clear hat ih
      have h1'' : ((kids.len : Int) != opsOf op) = false := by unfold bne; rw [h1']; rfl
      clear h1'
      rcases hq with ⟨q0, rfl, rfl⟩ | ⟨rfl, rfl, rfl⟩ | ⟨rfl, rfl, rfl⟩ | ⟨rfl, q2, q3, rfl⟩
      all_goals
        go_enter Tryd.func21, Tryd.ntmps21
        go_wp2_with fail
        generalize hW : World.alloc w _ = W
        have HX := Lib.hid (Box4.mk hW)
        clear hW
        obtain ⟨-, -, c0, c1, c2, c3⟩ := HX.out
        go_quiet (first | (go_at_call 42; refine quiet_eq (operands_any _ _)))
        have HX' := Lib.hid (HX.out.draws nq)
        clear HX c0 c1 c2 c3
        generalize W.drewN nq = wq at *
        obtain ⟨-, -, c0, c1, c2, c3⟩ := HX'.out
        go_wp2_with fail
        refine (nameOrEmpty_any _ _ _ (hkw.same HX'.out.1) hm).mono ?_
        rintro e w1 ⟨rfl, hb1⟩
        have HZ := Lib.hid (HX'.out.next hb1)
        clear hb1 HX' c0 c1 c2 c3
        obtain ⟨-, -, c0, c1, c2, c3⟩ := HZ.out
      all_goals
        cases hN : nmOr nm _
        · have HR := Lib.hid (HN.out hN)
          clear HN HY
          go_wp2_with fail
          go_ret
          exact ⟨ret_bool HR.out.symm, HZ.out.1⟩
        · have HR := Lib.hid (HY.out hN)
          clear HN HY
          go_wp2_with fail
          go_loopw [40] (fun i wr => ∃ k R, i = .int .i64 (k : Nat) ∧ ShpLeft kids R k ∧ R.All ShpSays ∧ R.At wr wr.heap.size ao k ∧ Box4 w wr (Value.int IntKind.i64 _) (Value.int IntKind.i64 _) (Value.string nm) (Value.slice ao kids.len cap)) (fun i _ => kids.len - (intOf i).toNat)
          case atStart => exact ⟨0, kids, rfl, ⟨Nat.zero_add _, rfl⟩, HIH.out, HAT.out.same HZ.out.1, HZ.out⟩
          case round =>
            obtain ⟨k, R, rfl, ⟨hlen, heq⟩, hall, hrow, hbox⟩ := hrel
            have HT := Lib.hid (HR.out.trans heq)
            cases R with
            | nil =>
              obtain rfl : k = kids.len := by simpa [ExL.len] using hlen
              go_wp2_with fail
              go_ret
              exact ⟨ret_bool HT.out.symm, hbox.1⟩
            | cons op' n' nm' kids' rest =>
              obtain ⟨⟨b, off, ao', cap', rfl, hbB, x0, x1, x2, x3, hok', hkids⟩, hrest⟩ := hrow
              obtain ⟨hsay, hall'⟩ := hall
              have hlt : k < kids.len := by simp only [ExL.len] at hlen; omega
              go_wp2_with fail
              have hba := (Below.refl wr.heap.size wr).alloc (Nat.le_refl _) (.cells #[.int .i64 op', .int .i64 n', .string nm', .slice ao' kids'.len cap'] 25)
              refine (hsay _ _ _ hok' (hkids.same hba) ((hkw.same hbox.1).alloc _)).mono ?_
              rintro e w2 ⟨rfl, hb2⟩
              have hb3 := hba.trans (hb2.mono (by simp))
              have HBX := Lib.hid (hbox.next hb3)
              have hrest' := hrest.same hb3
              clear hba hb2 hb3 hbox hrest x0 x1 x2 x3 c0 c1 c2 c3 hkids
              cases hS : shpE op' n' nm' kids'
              · have HF := Lib.hid (HT.out.trans (by rw [shpL_cons, hS]; rfl : shpL (.cons op' n' nm' kids' rest) = false))
                go_wp2_with fail
                go_ret
                exact ⟨ret_bool HF.out.symm, HBX.out.1⟩
              · have HF := Lib.hid (heq.trans (by rw [shpL_cons, hS]; rfl : shpL (.cons op' n' nm' kids' rest) = shpL rest))
                go_wp2_with fail
                go_roundw
                case rel => exact ⟨k + 1, rest, by go_num, ⟨by simp only [ExL.len] at hlen; omega, HF.out⟩, hall', hrest', HBX.out⟩
                case measure => simp [intOf]; omega
theorem ShapedExpr_any (op n : Int) (nm : ByteArray) (kids : ExL) : ShpSays op n nm kids := ExL.of_all ShapedExpr_step op n nm kids
end Go.Proofs.YtghdammalphmfaaDoor
end
