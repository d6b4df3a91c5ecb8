/-
  Contracts of the reference's Operands and ShapedExpr.
  Programs as data, and what it is that they lie in memory. No program text in sight.
-/
import Derived.Test.YtghdammalphmfaaDoorGB
import Derived.BigQuiet
import Derived.Deep.DeepCutAuto
section
namespace Go.Proofs.YtghdammalphmfaaDoor
open Go.RowKit
open Md

theorem Operands_any (op : Int) (w : World) :
    Calls Tryd.prog 45 #[.int .i64 op] w fun e w' => e = .returned (.int .i64 (opsOf op)) ∧ w = w' := by
  unfold opsOf
  go_enter Tryd.func45, Tryd.ntmps45
  go_wp2
  all_goals go_ret
  all_goals refine ⟨ret_int ?_, rfl⟩
  all_goals first | (simp [*]; done) | ((repeat' split) <;> simp_all <;> omega)

/-- What the reference's ShapedExpr answers at an expression. -/
def RefSays (op n : Int) (nm : ByteArray) (kids : ExL) : Prop :=
  ∀ (w : World) (ao : Option Addr) (cap : Nat), ExOk op n nm kids → kids.At w w.heap.size ao 0 →
    Calls Tryd.prog 24 #[.agg #[.int .i64 op, .int .i64 n, .string nm, .slice ao kids.len cap]] w fun e w' => e = .returned (.bool (shpE op n nm kids)) ∧ Below w.heap.size w w'

theorem isNm_nil : Tk.isNm [] = false := rfl
theorem toList_empty {nm : ByteArray} {b : Bool} (h : nm.toList.isEmpty = b) : nm.data.toList.isEmpty = b := by rw [← Lib.toList_data]; exact h

theorem shpE_eq (op n : Int) (nm : ByteArray) (kids : ExL) : shpE op n nm kids = (((decide (opsOf op = (kids.len : Int)) && (decide (0 ≤ n) && (decide (op = 1) || decide (n = 0)))) && (if ((op == 2) || (op == 3)) then Tk.isNm nm.data.toList else decide (nm.toList = []))) && shpL kids) := by
  have h1 : ((kids.len : Int) == opsOf op) = decide (opsOf op = (kids.len : Int)) := by
    rw [Bool.eq_iff_iff]; simp; exact eq_comm
  have h2 : nmOr nm (named op) = if ((op == 2) || (op == 3)) then Tk.isNm nm.data.toList else decide (nm.toList = []) := by
    unfold nmOr named; split
    · rfl
    · rw [Lib.toList_data, Bool.eq_iff_iff]; simp
  have h3 : (!(decide (n < 0) || (!(n == 0) && !(op == 1)))) = (decide (0 ≤ n) && (decide (op = 1) || decide (n = 0))) := by
    rw [Bool.eq_iff_iff]; simp; omega
  unfold shpE shp1
  rw [h1, h2, h3]
  simp only [Bool.and_assoc]
theorem isNm_emp {nm : ByteArray} (h : nm.toList = []) : Tk.isNm nm.data.toList = false := by rw [← Lib.toList_data, h]; rfl

/-- A region that draws its order, whose operations only read, and whose callees may make memory: one walk in the order of the text, in a class of worlds. -/
theorem region_calm {P : Program} {id : Nat} {Q : Exit → Act → World → Prop} {a : Act} {w : World} {l : List Oper} {T : Type} (F : T → World) (hm : P.follows .mixedOrders = true) (hB : Region.lexB .any l.toArray = true)
    (h1 : ∃ x, w.drewN 1 = F x) (h : wpQuiet P l.toArray (fun w' => ∃ x, w' = F x) (fun a' => ∀ w', (∃ x, w' = F x) → Q .normal a' w') l a) : (Code.region id l.toArray true).wp P Q a w :=
  wp_region_quiet (C := fun w' => ∃ x, w' = F x) hm hB h1 (by simpa using h)
theorem calm (W : World) : ∃ (T : Type) (F : T → World), Nonempty T ∧ (∃ x, W.drewN 1 = F x) ∧ (∀ x, Below W.heap.size W (F x)) ∧ ∀ x w', Below (F x).heap.size (F x) w' → ∃ y, w' = F y :=
  ⟨{W' // Below W.heap.size W W'}, Subtype.val, ⟨⟨_, Below.refl _ _⟩⟩, ⟨⟨_, below_drewN (Below.refl _ _) 1⟩, rfl⟩, fun x => x.2, fun x w' hb => ⟨⟨w', x.2.trans (hb.mono x.2.size)⟩, rfl⟩⟩

set_option maxHeartbeats 4000000 in
theorem RefShapedExpr_step (op n : Int) (nm : ByteArray) (kids : ExL) (ih : kids.All RefSays) : RefSays op n nm kids := by
  intro w ao cap hok hat
  obtain ⟨⟨o1, o2⟩, ⟨n1, n2⟩, hm, hl⟩ := hok
  unfold maxLen at hl
  have hl' : kids.len ≤ 9223372036854775807 := hl
  have HS := Lib.hid (shpE_eq op n nm kids)
  have HIH := Lib.hid ih
  have HAT := Lib.hid hat
  clear ih hat
  go_enter Tryd.func24, Tryd.ntmps24
  go_upto_region 1 with fail
  generalize hW : World.alloc w _ = W
  generalize Value.agg #[_, _, _, _] = a0
  have HX := Lib.hid (Box4.mk hW)
  clear hW
  obtain ⟨-, hs, c0, c1, c2, c3⟩ := HX.out
  go_cut [3] (fun s W2 => W = W2 ∧ ∃ b, s = .bool b ∧ ((op == 2) || (op == 3)) = b)
  case first =>
    go_wp2_with fail
    all_goals go_meet
    all_goals exact ⟨rfl, _, rfl, by grind⟩
  obtain ⟨rfl, bn, rfl, hbn⟩ := hcut
  rw [hbn] at HS
  clear hbn
  go_upto_region 2 with fail
  go_cut [3, 50] (fun _ s W2 => ∃ b, s = .bool b ∧ shpE op n nm kids = (!b && shpL kids) ∧ Box4 w W2 (.int .i64 op) (.int .i64 n) (.string nm) (.slice ao kids.len cap))
  case first =>
    cases bn
    all_goals
      obtain ⟨T, F, hinh, hst, hF, hnext⟩ := calm W
      have HF := Lib.hid hF
      have HNX := Lib.hid hnext
      clear hnext
      have d0 := fun x => ((HF.out x).cell (p := ⟨w.heap.size, 0, none⟩) hs).trans c0
      have d1 := fun x => ((HF.out x).cell (p := ⟨w.heap.size, 1, none⟩) hs).trans c1
      have d2 := fun x => ((HF.out x).cell (p := ⟨w.heap.size, 2, none⟩) hs).trans c2
      have d3 := fun x => ((HF.out x).cell (p := ⟨w.heap.size, 3, none⟩) hs).trans c3
      clear hF c0 c1 c2 c3
      refine region_calm F (by kernel_rfl) (by kernel_rfl) hst ?_
      repeat (any_goals (first | go_big_quiet_step (first | (go_at_call 45; refine (Operands_any _ _).mono ?_; rintro e w' ⟨rfl, rfl⟩; exact ⟨rfl, _, rfl⟩) | (go_at_call 46; refine (RefIsName_any _ _ hm).mono ?_; rintro e w' ⟨rfl, hb⟩; exact ⟨rfl, HNX.out _ _ hb⟩)) | (refine wpQuiet_step (fun K hK => ?_); go_simp; first | (refine hK _ ?_; clear hK K) | (split <;> first | (refine hK _ ?_; clear hK K) | (apply Exists.intro; refine ⟨fun _ => ?_, hK _ ?_⟩; (first | (go_at_call 45; refine (Operands_any _ _).mono ?_; rintro e w' ⟨rfl, rfl⟩; exact ⟨rfl, _, rfl⟩) | (go_at_call 46; refine (RefIsName_any _ _ hm).mono ?_; rintro e w' ⟨rfl, hb⟩; exact ⟨rfl, HNX.out _ _ hb⟩)); clear hK K)))))
      all_goals (refine wpQuiet_nil ?_; rintro _ ⟨x, rfl⟩; go_wp2_with fail; go_meet)
      all_goals exact ⟨_, rfl, HS.out.trans (by go_light; grind [isNm_emp]), HX.out.next (HF.out _)⟩
  case rest =>
    obtain ⟨b, rfl, hR, HX'⟩ := hcut
    have HZ := Lib.hid HX'
    have HR := Lib.hid hR
    clear HX HX' hR HS c0 c1 c2 c3 hs
    cases b
    · go_wp2_with fail
      go_loopw [4] (fun i wr => ∃ k R, i = .int .i64 (k : Nat) ∧ ShpLeft kids R k ∧ R.All RefSays ∧ R.At wr wr.heap.size ao k ∧ Box4 w wr (Value.int IntKind.i64 op) (Value.int IntKind.i64 n) (Value.string nm) (Value.slice ao kids.len cap)) (fun i _ => kids.len - (intOf i).toNat)
      case atStart => exact ⟨0, kids, rfl, ⟨Nat.zero_add _, rfl⟩, HIH.out, HAT.out.same HZ.out.1, HZ.out⟩
      case round =>
        obtain ⟨k, R, rfl, ⟨hlen, heq⟩, hall, hrow, hbox⟩ := hrel
        have HT := Lib.hid (HR.out.trans (show (!false && shpL kids) = shpL R by rw [heq]; rfl))
        have HBX := Lib.hid hbox
        clear hbox
        obtain ⟨-, -, c0, c1, c2, c3⟩ := HBX.out
        cases R with
        | nil =>
          obtain rfl : k = kids.len := by simpa [ExL.len] using hlen
          go_wp2_with fail
          go_ret
          exact ⟨ret_bool HT.out.symm, HBX.out.1⟩
        | cons op' n' nm' kids' rest =>
          obtain ⟨⟨b, off, ao', cap', rfl, hbB, x0, x1, x2, x3, hok', hkids⟩, hrest⟩ := hrow
          obtain ⟨hsay, hall'⟩ := hall
          have hlt : k < kids.len := by simp only [ExL.len] at hlen; omega
          go_wp2_with fail
          refine (hsay _ _ _ hok' hkids).mono ?_
          rintro e w2 ⟨rfl, hb2⟩
          have HBY := Lib.hid (HBX.out.next hb2)
          have hrest' := hrest.same hb2
          clear hb2 HBX hrest x0 x1 x2 x3 c0 c1 c2 c3 hkids
          cases hS : shpE op' n' nm' kids'
          · have HF := Lib.hid (HT.out.trans (by rw [shpL_cons, hS]; rfl : shpL (.cons op' n' nm' kids' rest) = false))
            go_wp2_with fail
            go_ret
            exact ⟨ret_bool HF.out.symm, HBY.out.1⟩
          · have HF := Lib.hid (heq.trans (by rw [shpL_cons, hS]; rfl : shpL (.cons op' n' nm' kids' rest) = shpL rest))
            go_wp2_with fail
            go_roundw
            case rel => exact ⟨k + 1, rest, by go_num, ⟨by simp only [ExL.len] at hlen; omega, HF.out⟩, hall', hrest', HBY.out⟩
            case measure => simp [intOf]; omega
    · go_wp2_with fail
      go_ret
      exact ⟨ret_bool HR.out.symm, HZ.out.1⟩
theorem RefShapedExpr_any (op n : Int) (nm : ByteArray) (kids : ExL) : RefSays op n nm kids := ExL.of_all RefShapedExpr_step op n nm kids
end Go.Proofs.YtghdammalphmfaaDoor
end
section
namespace Go.Proofs.YtghdammalphmfaaDoor
open Go.RowKit

/-- Cells that are held in a world. -/
def Holds (W : World) : List (Nat × Nat × Value) → Prop
  | [] => True
  | f :: r => (f.1 < W.heap.size ∧ W.cell? ⟨f.1, f.2.1, none⟩ = some f.2.2) ∧ Holds W r
theorem Holds.next {W W' : World} (hb : Below W.heap.size W W') : ∀ {l : List (Nat × Nat × Value)}, Holds W l → Holds W' l
  | [], _ => trivial
  | _ :: _, ⟨⟨h1, h2⟩, h3⟩ => ⟨⟨Nat.lt_of_lt_of_le h1 hb.size, (hb.cell h1).trans h2⟩, h3.next hb⟩
/-- What was there is as it was, and these cells are held. -/
def Sit (w W : World) (fs : List (Nat × Nat × Value)) : Prop := Below w.heap.size w W ∧ Holds W fs
theorem Sit.start (w : World) : Sit w w [] := ⟨Below.refl _ _, trivial⟩
theorem Sit.next {w W W' : World} {fs : List (Nat × Nat × Value)} (h : Sit w W fs) (hb : Below W.heap.size W W') : Sit w W' fs :=
  ⟨h.1.trans (hb.mono h.1.size), h.2.next hb⟩
theorem Sit.draws {w W : World} {fs : List (Nat × Nat × Value)} (h : Sit w W fs) (n : Nat) : Sit w (W.drewN n) fs := h.next (below_drewN (Below.refl _ _) n)
theorem alloc_below (W : World) (o : Obj) : Below W.heap.size W (W.alloc o) := (Below.refl _ _).alloc (Nat.le_refl _) _
theorem Sit.box2 {w W : World} {fs : List (Nat × Nat × Value)} {n : Nat} (h : Sit w W fs) (hn : W.heap.size = n) (a b : Value) (t : TypeId) :
    Sit w (W.alloc (.cells #[a, b] t)) ((n, 0, a) :: (n, 1, b) :: fs) := by
  subst hn
  exact ⟨(h.next (alloc_below _ _)).1, ⟨by simp, box_cells W [a, b] t 0⟩, ⟨by simp, box_cells W [a, b] t 1⟩, (h.next (alloc_below _ _)).2⟩
theorem Sit.box4 {w W : World} {fs : List (Nat × Nat × Value)} {n : Nat} (h : Sit w W fs) (hn : W.heap.size = n) (a b c d : Value) (t : TypeId) :
    Sit w (W.alloc (.cells #[a, b, c, d] t)) ((n, 0, a) :: (n, 1, b) :: (n, 2, c) :: (n, 3, d) :: fs) := by
  subst hn
  exact ⟨(h.next (alloc_below _ _)).1, ⟨by simp, box_cells W [a, b, c, d] t 0⟩, ⟨by simp, box_cells W [a, b, c, d] t 1⟩, ⟨by simp, box_cells W [a, b, c, d] t 2⟩, ⟨by simp, box_cells W [a, b, c, d] t 3⟩, (h.next (alloc_below _ _)).2⟩
theorem Sit.box6 {w W : World} {fs : List (Nat × Nat × Value)} {n : Nat} (h : Sit w W fs) (hn : W.heap.size = n) (a b c d e f : Value) (t : TypeId) :
    Sit w (W.alloc (.cells #[a, b, c, d, e, f] t)) ((n, 0, a) :: (n, 1, b) :: (n, 2, c) :: (n, 3, d) :: (n, 4, e) :: (n, 5, f) :: fs) := by
  subst hn
  exact ⟨(h.next (alloc_below _ _)).1, ⟨by simp, box_cells W [a, b, c, d, e, f] t 0⟩, ⟨by simp, box_cells W [a, b, c, d, e, f] t 1⟩, ⟨by simp, box_cells W [a, b, c, d, e, f] t 2⟩, ⟨by simp, box_cells W [a, b, c, d, e, f] t 3⟩, ⟨by simp, box_cells W [a, b, c, d, e, f] t 4⟩, ⟨by simp, box_cells W [a, b, c, d, e, f] t 5⟩, (h.next (alloc_below _ _)).2⟩

theorem Sit.box11 {w W : World} {fs : List (Nat × Nat × Value)} {n : Nat} (hs : Sit w W fs) (hn : W.heap.size = n) (a b c d e f g h i j k : Value) (t : TypeId) :
    Sit w (W.alloc (.cells #[a, b, c, d, e, f, g, h, i, j, k] t)) ((n, 0, a) :: (n, 1, b) :: (n, 2, c) :: (n, 3, d) :: (n, 4, e) :: (n, 5, f) :: (n, 6, g) :: (n, 7, h) :: (n, 8, i) :: (n, 9, j) :: (n, 10, k) :: fs) := by
  subst hn
  exact ⟨(hs.next (alloc_below _ _)).1, ⟨by simp, box_cells W [a, b, c, d, e, f, g, h, i, j, k] t 0⟩, ⟨by simp, box_cells W [a, b, c, d, e, f, g, h, i, j, k] t 1⟩, ⟨by simp, box_cells W [a, b, c, d, e, f, g, h, i, j, k] t 2⟩, ⟨by simp, box_cells W [a, b, c, d, e, f, g, h, i, j, k] t 3⟩, ⟨by simp, box_cells W [a, b, c, d, e, f, g, h, i, j, k] t 4⟩, ⟨by simp, box_cells W [a, b, c, d, e, f, g, h, i, j, k] t 5⟩, ⟨by simp, box_cells W [a, b, c, d, e, f, g, h, i, j, k] t 6⟩, ⟨by simp, box_cells W [a, b, c, d, e, f, g, h, i, j, k] t 7⟩, ⟨by simp, box_cells W [a, b, c, d, e, f, g, h, i, j, k] t 8⟩, ⟨by simp, box_cells W [a, b, c, d, e, f, g, h, i, j, k] t 9⟩, ⟨by simp, box_cells W [a, b, c, d, e, f, g, h, i, j, k] t 10⟩, (hs.next (alloc_below _ _)).2⟩

namespace Md
/-- A declaration. -/
structure De where
  kind : Int
  line : Int
  nm : ByteArray
  size : Int
  init : Int
  on : ByteArray
def De.Ok (d : De) : Prop := I64 d.kind ∧ I64 d.line ∧ d.nm.size ≤ maxLen ∧ I64 d.size ∧ I64 d.init ∧ d.on.size ≤ maxLen
/-- A statement without those inside it: its operator, line, name, second name, index, expression. -/
structure StH where
  op : Int
  line : Int
  nm : ByteArray
  arg : ByteArray
  idx : ExL
  xop : Int
  xn : Int
  xnm : ByteArray
  xkids : ExL
/-- Statements. -/
inductive StL where
  | nil
  | cons (h : StH) (body els rest : StL)
def StL.len : StL → Nat
  | .nil => 0
  | .cons _ _ _ r => r.len + 1
def StL.All (Q : StH → StL → StL → Prop) : StL → Prop
  | .nil => True
  | .cons h b e r => Q h b e ∧ r.All Q
theorem StL.all_of {Q : StH → StL → StL → Prop} (step : ∀ h b e, b.All Q → e.All Q → Q h b e) : ∀ l : StL, l.All Q
  | .nil => trivial
  | .cons h b e r => ⟨step h b e (all_of step b) (all_of step e), all_of step r⟩
theorem StL.of_all {Q : StH → StL → StL → Prop} (step : ∀ h b e, b.All Q → e.All Q → Q h b e) (h : StH) (b e : StL) : Q h b e :=
  step h b e (StL.all_of step b) (StL.all_of step e)
/-- A thread. -/
structure Th where
  nm : ByteArray
  line : Int
  locs : List ByteArray
  body : StL

/-- Texts in memory. -/
def TxAt (w : World) (B : Nat) : List ByteArray → Option Addr → Nat → Prop
  | [], _, _ => True
  | s :: r, ao, k => (∃ b off, ao = some ⟨b, off, none⟩ ∧ b < B ∧ w.cell? ⟨b, off + k, none⟩ = some (.string s) ∧ s.size ≤ maxLen) ∧ TxAt w B r ao (k + 1)
/-- Declarations in memory. -/
def DeAt (w : World) (B : Nat) : List De → Option Addr → Nat → Prop
  | [], _, _ => True
  | d :: r, ao, k => (∃ b off, ao = some ⟨b, off, none⟩ ∧ b < B ∧ w.cell? ⟨b, off + k * 6, none⟩ = some (.int .i64 d.kind) ∧ w.cell? ⟨b, off + k * 6 + 1, none⟩ = some (.int .i64 d.line) ∧
      w.cell? ⟨b, off + k * 6 + 2, none⟩ = some (.string d.nm) ∧ w.cell? ⟨b, off + k * 6 + 3, none⟩ = some (.int .i64 d.size) ∧ w.cell? ⟨b, off + k * 6 + 4, none⟩ = some (.int .i64 d.init) ∧
      w.cell? ⟨b, off + k * 6 + 5, none⟩ = some (.string d.on) ∧ d.Ok) ∧ DeAt w B r ao (k + 1)
/-- What a statement's own cells hold. -/
def StOk (h : StH) (body els : StL) : Prop :=
  I64 h.op ∧ I64 h.line ∧ h.nm.size ≤ maxLen ∧ h.arg.size ≤ maxLen ∧ h.idx.len ≤ maxLen ∧ ExOk h.xop h.xn h.xnm h.xkids ∧ body.len ≤ maxLen ∧ els.len ≤ maxLen
/-- Statements in memory. -/
def StL.At (w : World) (B : Nat) : StL → Option Addr → Nat → Prop
  | .nil, _, _ => True
  | .cons h body els rest, ao, k =>
    (∃ b off aoi capi aox capx aob capb aoe cape, ao = some ⟨b, off, none⟩ ∧ b < B ∧ w.cell? ⟨b, off + k * 11, none⟩ = some (.int .i64 h.op) ∧ w.cell? ⟨b, off + k * 11 + 1, none⟩ = some (.int .i64 h.line) ∧
      w.cell? ⟨b, off + k * 11 + 2, none⟩ = some (.string h.nm) ∧ w.cell? ⟨b, off + k * 11 + 3, none⟩ = some (.string h.arg) ∧ w.cell? ⟨b, off + k * 11 + 4, none⟩ = some (.slice aoi h.idx.len capi) ∧
      w.cell? ⟨b, off + k * 11 + 5, none⟩ = some (.int .i64 h.xop) ∧ w.cell? ⟨b, off + k * 11 + 6, none⟩ = some (.int .i64 h.xn) ∧ w.cell? ⟨b, off + k * 11 + 7, none⟩ = some (.string h.xnm) ∧ w.cell? ⟨b, off + k * 11 + 8, none⟩ = some (.slice aox h.xkids.len capx) ∧
      w.cell? ⟨b, off + k * 11 + 9, none⟩ = some (.slice aob body.len capb) ∧ w.cell? ⟨b, off + k * 11 + 10, none⟩ = some (.slice aoe els.len cape) ∧ StOk h body els ∧
      h.idx.At w B aoi 0 ∧ h.xkids.At w B aox 0 ∧ body.At w B aob 0 ∧ els.At w B aoe 0) ∧ rest.At w B ao (k + 1)
def Th.Ok (t : Th) : Prop := t.nm.size ≤ maxLen ∧ I64 t.line ∧ t.locs.length ≤ maxLen ∧ t.body.len ≤ maxLen
/-- Threads in memory. -/
def ThAt (w : World) (B : Nat) : List Th → Option Addr → Nat → Prop
  | [], _, _ => True
  | t :: r, ao, k => (∃ b off aol capl aob capb, ao = some ⟨b, off, none⟩ ∧ b < B ∧ w.cell? ⟨b, off + k * 4, none⟩ = some (.string t.nm) ∧ w.cell? ⟨b, off + k * 4 + 1, none⟩ = some (.int .i64 t.line) ∧
      w.cell? ⟨b, off + k * 4 + 2, none⟩ = some (.slice aol t.locs.length capl) ∧ w.cell? ⟨b, off + k * 4 + 3, none⟩ = some (.slice aob t.body.len capb) ∧ t.Ok ∧ TxAt w B t.locs aol 0 ∧ t.body.At w B aob 0 ∧ t.locs.length ≤ capl) ∧ ThAt w B r ao (k + 1)

section
variable {w w' : World} {B B' : Nat}
theorem TxAt.below (hb : Below B w w') : ∀ {l : List ByteArray} {ao : Option Addr} {k : Nat}, TxAt w B l ao k → TxAt w' B l ao k
  | [], _, _, _ => trivial
  | _ :: _, _, _, ⟨⟨b, off, e, hB, c, hs⟩, hr⟩ => ⟨⟨b, off, e, hB, (hb.cell hB).trans c, hs⟩, TxAt.below hb hr⟩
theorem TxAt.mono (h : B ≤ B') : ∀ {l : List ByteArray} {ao : Option Addr} {k : Nat}, TxAt w B l ao k → TxAt w B' l ao k
  | [], _, _, _ => trivial
  | _ :: _, _, _, ⟨⟨b, off, e, hB, c, hs⟩, hr⟩ => ⟨⟨b, off, e, Nat.lt_of_lt_of_le hB h, c, hs⟩, TxAt.mono h hr⟩
theorem TxAt.same {l : List ByteArray} {ao : Option Addr} {k : Nat} (h : TxAt w w.heap.size l ao k) (hb : Below w.heap.size w w') : TxAt w' w'.heap.size l ao k := (h.below hb).mono hb.size
theorem TxAt.drop : ∀ {l : List ByteArray} {ao : Option Addr} {k : Nat} (i : Nat), TxAt w B l ao k → TxAt w B (l.drop i) ao (k + i)
  | _, _, _, 0, h => h
  | [], _, _, _ + 1, _ => by simp [TxAt]
  | _ :: _, _, k, i + 1, ⟨_, hr⟩ => by have := TxAt.drop i hr; rw [List.drop_succ_cons]; rwa [Nat.add_assoc, Nat.add_comm 1 i] at this
theorem DeAt.below (hb : Below B w w') : ∀ {l : List De} {ao : Option Addr} {k : Nat}, DeAt w B l ao k → DeAt w' B l ao k
  | [], _, _, _ => trivial
  | _ :: _, _, _, ⟨⟨b, off, e, hB, c0, c1, c2, c3, c4, c5, hs⟩, hr⟩ => ⟨⟨b, off, e, hB, (hb.cell hB).trans c0, (hb.cell hB).trans c1, (hb.cell hB).trans c2, (hb.cell hB).trans c3, (hb.cell hB).trans c4, (hb.cell hB).trans c5, hs⟩, DeAt.below hb hr⟩
theorem DeAt.mono (h : B ≤ B') : ∀ {l : List De} {ao : Option Addr} {k : Nat}, DeAt w B l ao k → DeAt w B' l ao k
  | [], _, _, _ => trivial
  | _ :: _, _, _, ⟨⟨b, off, e, hB, c⟩, hr⟩ => ⟨⟨b, off, e, Nat.lt_of_lt_of_le hB h, c⟩, DeAt.mono h hr⟩
theorem DeAt.same {l : List De} {ao : Option Addr} {k : Nat} (h : DeAt w w.heap.size l ao k) (hb : Below w.heap.size w w') : DeAt w' w'.heap.size l ao k := (h.below hb).mono hb.size
theorem DeAt.drop : ∀ {l : List De} {ao : Option Addr} {k : Nat} (i : Nat), DeAt w B l ao k → DeAt w B (l.drop i) ao (k + i)
  | _, _, _, 0, h => h
  | [], _, _, _ + 1, _ => by simp [DeAt]
  | _ :: _, _, k, i + 1, ⟨_, hr⟩ => by have := DeAt.drop i hr; rw [List.drop_succ_cons]; rwa [Nat.add_assoc, Nat.add_comm 1 i] at this
theorem TxAt.take : ∀ {pre R : List ByteArray} {ao : Option Addr} {k : Nat}, TxAt w B (pre ++ R) ao k → TxAt w B pre ao k
  | [], _, _, _, _ => trivial
  | _ :: _, _, _, _, h => ⟨h.1, TxAt.take h.2⟩
theorem DeAt.take : ∀ {pre R : List De} {ao : Option Addr} {k : Nat}, DeAt w B (pre ++ R) ao k → DeAt w B pre ao k
  | [], _, _, _, _ => trivial
  | _ :: _, _, _, _, h => ⟨h.1, DeAt.take h.2⟩
theorem StL.At.below (hb : Below B w w') : ∀ {l : StL} {ao : Option Addr} {k : Nat}, l.At w B ao k → l.At w' B ao k
  | .nil, _, _, _ => trivial
  | .cons _ _ _ _, _, _, h => by
    obtain ⟨⟨b, off, aoi, capi, aox, capx, aob, capb, aoe, cape, e, hB, c0, c1, c2, c3, c4, c5, c6, c7, c8, c9, c10, hok, h1, h2, h3, h4⟩, hr⟩ := h
    exact ⟨⟨b, off, aoi, capi, aox, capx, aob, capb, aoe, cape, e, hB, (hb.cell hB).trans c0, (hb.cell hB).trans c1, (hb.cell hB).trans c2, (hb.cell hB).trans c3, (hb.cell hB).trans c4, (hb.cell hB).trans c5, (hb.cell hB).trans c6, (hb.cell hB).trans c7, (hb.cell hB).trans c8, (hb.cell hB).trans c9, (hb.cell hB).trans c10, hok, h1.below hb, h2.below hb, h3.below hb, h4.below hb⟩, hr.below hb⟩
theorem StL.At.mono (h : B ≤ B') : ∀ {l : StL} {ao : Option Addr} {k : Nat}, l.At w B ao k → l.At w B' ao k
  | .nil, _, _, _ => trivial
  | .cons _ _ _ _, _, _, h' => by
    obtain ⟨⟨b, off, aoi, capi, aox, capx, aob, capb, aoe, cape, e, hB, c0, c1, c2, c3, c4, c5, c6, c7, c8, c9, c10, hok, h1, h2, h3, h4⟩, hr⟩ := h'
    exact ⟨⟨b, off, aoi, capi, aox, capx, aob, capb, aoe, cape, e, Nat.lt_of_lt_of_le hB h, c0, c1, c2, c3, c4, c5, c6, c7, c8, c9, c10, hok, h1.mono h, h2.mono h, h3.mono h, h4.mono h⟩, hr.mono h⟩
theorem StL.At.same {l : StL} {ao : Option Addr} {k : Nat} (h : l.At w w.heap.size ao k) (hb : Below w.heap.size w w') : l.At w' w'.heap.size ao k := (h.below hb).mono hb.size
theorem ThAt.below (hb : Below B w w') : ∀ {l : List Th} {ao : Option Addr} {k : Nat}, ThAt w B l ao k → ThAt w' B l ao k
  | [], _, _, _ => trivial
  | _ :: _, _, _, ⟨⟨b, off, aol, capl, aob, capb, e, hB, c0, c1, c2, c3, hs, ht, hst⟩, hr⟩ => ⟨⟨b, off, aol, capl, aob, capb, e, hB, (hb.cell hB).trans c0, (hb.cell hB).trans c1, (hb.cell hB).trans c2, (hb.cell hB).trans c3, hs, ht.below hb, hst.1.below hb, hst.2⟩, ThAt.below hb hr⟩
theorem ThAt.mono (h : B ≤ B') : ∀ {l : List Th} {ao : Option Addr} {k : Nat}, ThAt w B l ao k → ThAt w B' l ao k
  | [], _, _, _ => trivial
  | _ :: _, _, _, ⟨⟨b, off, aol, capl, aob, capb, e, hB, c0, c1, c2, c3, hs, ht, hst⟩, hr⟩ => ⟨⟨b, off, aol, capl, aob, capb, e, Nat.lt_of_lt_of_le hB h, c0, c1, c2, c3, hs, ht.mono h, hst.1.mono h, hst.2⟩, ThAt.mono h hr⟩
theorem ThAt.same {l : List Th} {ao : Option Addr} {k : Nat} (h : ThAt w w.heap.size l ao k) (hb : Below w.heap.size w w') : ThAt w' w'.heap.size l ao k := (h.below hb).mono hb.size
theorem ThAt.drop : ∀ {l : List Th} {ao : Option Addr} {k : Nat} (i : Nat), ThAt w B l ao k → ThAt w B (l.drop i) ao (k + i)
  | _, _, _, 0, h => h
  | [], _, _, _ + 1, _ => by simp [ThAt]
  | _ :: _, _, k, i + 1, ⟨_, hr⟩ => by have := ThAt.drop i hr; rw [List.drop_succ_cons]; rwa [Nat.add_assoc, Nat.add_comm 1 i] at this
theorem ThAt.take : ∀ {pre R : List Th} {ao : Option Addr} {k : Nat}, ThAt w B (pre ++ R) ao k → ThAt w B pre ao k
  | [], _, _, _, _ => trivial
  | _ :: _, _, _, _, h => ⟨h.1, ThAt.take h.2⟩
end

/-- A program. -/
structure Pr where
  ds : List De
  ts : List Th
/-- A program in memory: its two slices. -/
def Pr.At (w : World) (p : Pr) (aoD aoT : Option Addr) : Prop := p.ds.length ≤ maxLen ∧ p.ts.length ≤ maxLen ∧ DeAt w w.heap.size p.ds aoD 0 ∧ ThAt w w.heap.size p.ts aoT 0
theorem Pr.At.same {w w' : World} {p : Pr} {aoD aoT : Option Addr} (h : p.At w aoD aoT) (hb : Below w.heap.size w w') : p.At w' aoD aoT := ⟨h.1, h.2.1, h.2.2.1.same hb, h.2.2.2.same hb⟩

/-- The meaning of a declaration's name. -/
def declM (d : De) : Int :=
  if d.kind == 1 then (if d.size == 0 then 2 else 3) else if d.kind == 2 then 2 else if d.kind == 3 then 4 else if d.kind == 4 then 5 else if d.kind == 5 then 6 else if d.kind == 6 then 7 else 9
/-- The meaning that the declarations give to a name. -/
def meanD (ds : List De) (nm : ByteArray) : Option Int := (ds.find? fun d => d.nm.toList == nm.toList).map declM
def meanT (ts : List Th) (nm : ByteArray) : Int := if ts.any fun t => t.nm.toList == nm.toList then 8 else 0
/-- The locals of a thread. -/
def locsAt (ts : List Th) (i : Int) : List ByteArray := if 0 ≤ i then ((ts[i.toNat]?).map (·.locs)).getD [] else []
def isLoc (l : List ByteArray) (nm : ByteArray) : Bool := l.any fun s => s.toList == nm.toList
/-- The meaning of a name in a thread. -/
def mean (p : Pr) (i : Int) (nm : ByteArray) : Int := if isLoc (locsAt p.ts i) nm then 1 else (meanD p.ds nm).getD (meanT p.ts nm)
end Md
end Go.Proofs.YtghdammalphmfaaDoor
end
