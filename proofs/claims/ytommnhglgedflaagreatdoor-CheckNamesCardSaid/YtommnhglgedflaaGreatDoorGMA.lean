/-
  Expressions as data, and what it is that a row of them lies in memory. No program in sight.
  Regions that draw their order and only read; callees there may make memory.
  Programs as data, and what it is that they lie in memory. No program text in sight.
  What it is that a program is shaped, and statements as values. No program text in sight.
-/
import Derived.Test.YtommnhglgedflaaGreatDoorGTA
import Derived.WalkSmall
import Derived.Deep.QuietTactic
import Derived.BigQuiet
import Derived.Deep.DeepCutAuto
section
namespace Go.Proofs.YtommnhglgedflaaGreatDoor
open Go.RowKit

theorem box_cells (w : World) (cs : List Value) (t : TypeId) (j : Nat) : (w.alloc (.cells cs.toArray t)).cell? ⟨w.heap.size, j, none⟩ = cs[j]? := laid_cell w cs t j

/-- A struct of four cells was boxed in the first new block; the rest is as it was. -/
def Box4 (w W : World) (a b c d : Value) : Prop :=
  Below w.heap.size w W ∧ w.heap.size < W.heap.size ∧ W.cell? ⟨w.heap.size, 0, none⟩ = some a ∧ W.cell? ⟨w.heap.size, 1, none⟩ = some b ∧ W.cell? ⟨w.heap.size, 2, none⟩ = some c ∧ W.cell? ⟨w.heap.size, 3, none⟩ = some d
theorem Box4.mk {w W : World} {a b c d : Value} {t : TypeId} (h : w.alloc (.cells #[a, b, c, d] t) = W) : Box4 w W a b c d := by
  subst h
  exact ⟨(Below.refl _ _).alloc (Nat.le_refl _) _, by simp, box_cells w [a, b, c, d] t 0, box_cells w [a, b, c, d] t 1, box_cells w [a, b, c, d] t 2, box_cells w [a, b, c, d] t 3⟩
theorem Box4.next {w W W' : World} {a b c d : Value} (h : Box4 w W a b c d) (hb : Below W.heap.size W W') : Box4 w W' a b c d := by
  obtain ⟨h0, hs, c0, c1, c2, c3⟩ := h
  exact ⟨h0.trans (hb.mono h0.size), Nat.lt_of_lt_of_le hs hb.size, (hb.cell hs).trans c0, (hb.cell hs).trans c1, (hb.cell hs).trans c2, (hb.cell hs).trans c3⟩
theorem Box4.draws {w W : World} {a b c d : Value} (h : Box4 w W a b c d) (n : Nat) : Box4 w (W.drewN n) a b c d := h.next (below_drewN (Below.refl _ _) n)

namespace Md
/-- An integer of 64 bits. -/
def I64 (n : Int) : Prop := -9223372036854775808 ≤ n ∧ n ≤ 9223372036854775807

/-- A list of expressions, each with the list of its operands. -/
inductive ExL where
  | nil
  | cons (op n : Int) (nm : ByteArray) (kids rest : ExL)

def ExL.len : ExL → Nat
  | .nil => 0
  | .cons _ _ _ _ r => r.len + 1

/-- What an expression's own cells hold. -/
def ExOk (op n : Int) (nm : ByteArray) (kids : ExL) : Prop := I64 op ∧ I64 n ∧ nm.size ≤ maxLen ∧ kids.len ≤ maxLen

/-- The expressions of a list lie in memory below block B, the first of them as the k-th of a row. -/
def ExL.At (w : World) (B : Nat) : ExL → Option Addr → Nat → Prop
  | .nil, _, _ => True
  | .cons op n nm kids rest, ao, k =>
    (∃ b off ao' cap, ao = some ⟨b, off, none⟩ ∧ b < B ∧ w.cell? ⟨b, off + k * 4, none⟩ = some (.int .i64 op) ∧ w.cell? ⟨b, off + k * 4 + 1, none⟩ = some (.int .i64 n) ∧
      w.cell? ⟨b, off + k * 4 + 2, none⟩ = some (.string nm) ∧ w.cell? ⟨b, off + k * 4 + 3, none⟩ = some (.slice ao' kids.len cap) ∧ ExOk op n nm kids ∧ kids.At w B ao' 0) ∧
    rest.At w B ao (k + 1)

theorem ExL.At.below {w w' : World} {B : Nat} (hb : Below B w w') : ∀ {l : ExL} {ao : Option Addr} {k : Nat}, l.At w B ao k → l.At w' B ao k
  | .nil, _, _, _ => trivial
  | .cons _ _ _ _ _, _, _, h => by
    obtain ⟨⟨b, off, ao', cap, e, hB, c0, c1, c2, c3, hok, hk⟩, hr⟩ := h
    exact ⟨⟨b, off, ao', cap, e, hB, (hb.cell hB).trans c0, (hb.cell hB).trans c1, (hb.cell hB).trans c2, (hb.cell hB).trans c3, hok, hk.below hb⟩, hr.below hb⟩
theorem ExL.At.mono {w : World} {B B' : Nat} (hB' : B ≤ B') : ∀ {l : ExL} {ao : Option Addr} {k : Nat}, l.At w B ao k → l.At w B' ao k
  | .nil, _, _, _ => trivial
  | .cons _ _ _ _ _, _, _, h => by
    obtain ⟨⟨b, off, ao', cap, e, hB, c0, c1, c2, c3, hok, hk⟩, hr⟩ := h
    exact ⟨⟨b, off, ao', cap, e, Nat.lt_of_lt_of_le hB hB', c0, c1, c2, c3, hok, hk.mono hB'⟩, hr.mono hB'⟩
theorem ExL.At.same {w w' : World} {l : ExL} {ao : Option Addr} {k : Nat} (h : l.At w w.heap.size ao k) (hb : Below w.heap.size w w') : l.At w' w'.heap.size ao k :=
  (h.below hb).mono hb.size

/-- A law of every expression of a list. -/
def ExL.All (Q : Int → Int → ByteArray → ExL → Prop) : ExL → Prop
  | .nil => True
  | .cons op n nm kids rest => Q op n nm kids ∧ rest.All Q
theorem ExL.all_of {Q : Int → Int → ByteArray → ExL → Prop} (step : ∀ op n nm kids, kids.All Q → Q op n nm kids) : ∀ l : ExL, l.All Q
  | .nil => trivial
  | .cons op n nm kids rest => ⟨step op n nm kids (all_of step kids), all_of step rest⟩
theorem ExL.of_all {Q : Int → Int → ByteArray → ExL → Prop} (step : ∀ op n nm kids, kids.All Q → Q op n nm kids) (op n : Int) (nm : ByteArray) (kids : ExL) : Q op n nm kids :=
  step op n nm kids (ExL.all_of step kids)

/-- How many operands an operator has. -/
def opsOf (op : Int) : Int := if op == 1 || op == 2 then 0 else if op == 3 || op == 4 || op == 5 then 1 else if decide (6 ≤ op) && decide (op ≤ 18) then 2 else -1
def named (op : Int) : Bool := op == 2 || op == 3
/-- A name where one is wanted, and nothing otherwise. -/
def nmOr (nm : ByteArray) (b : Bool) : Bool := if b then Tk.isNm nm.data.toList else nm.data.toList.isEmpty
def shp1 (op n : Int) (nm : ByteArray) (len : Nat) : Bool := ((len : Int) == opsOf op) && (!(decide (n < 0) || (!(n == 0) && !(op == 1))) && nmOr nm (named op))
def shpL : ExL → Bool
  | .nil => true
  | .cons op n nm kids rest => (shp1 op n nm kids.len && shpL kids) && shpL rest
def shpE (op n : Int) (nm : ByteArray) (kids : ExL) : Bool := shp1 op n nm kids.len && shpL kids
end Md
end Go.Proofs.YtommnhglgedflaaGreatDoor
end
section
namespace Go.Proofs.YtommnhglgedflaaGreatDoor
open Go.RowKit
open Md

/-- A callee that leaves the world as it is, in a region that only reads. -/
theorem quiet_eq {P : Program} {f : FuncId} {args : Array Value} {w : World} {n : Nat} {v : Value} (h : Calls P f args (w.drewN n) fun e w' => e = .returned v ∧ w.drewN n = w') :
    Calls P f args (w.drewN n) fun e w'' => e = .returned v ∧ ∃ m, w'' = w.drewN m := h.mono fun _ _ ⟨he, hm⟩ => ⟨he, n, hm.symm⟩

/-- A region that draws its order, whose operations only read, and whose callees may make memory: one walk in the order of the text, in a class of worlds. -/
theorem region_calm {P : Program} {id : Nat} {Q : Exit → Act → World → Prop} {a : Act} {w : World} {l : List Oper} {T : Type} (F : T → World) (hm : P.follows .mixedOrders = true) (hB : Region.lexB .any l.toArray = true)
    (h1 : ∃ x, w.drewN 1 = F x) (h : wpQuiet P l.toArray (fun w' => ∃ x, w' = F x) (fun a' => ∀ w', (∃ x, w' = F x) → Q .normal a' w') l a) : (Code.region id l.toArray true).wp P Q a w :=
  wp_region_quiet (C := fun w' => ∃ x, w' = F x) hm hB h1 (by simpa using h)
theorem calm (W : World) : ∃ (T : Type) (F : T → World), Nonempty T ∧ (∃ x, W.drewN 1 = F x) ∧ (∀ x, Below W.heap.size W (F x)) ∧ ∀ x w', Below (F x).heap.size (F x) w' → ∃ y, w' = F y :=
  ⟨{W' // Below W.heap.size W W'}, Subtype.val, ⟨⟨_, Below.refl _ _⟩⟩, ⟨⟨_, below_drewN (Below.refl _ _) 1⟩, rfl⟩, fun x => x.2, fun x w' hb => ⟨⟨w', x.2.trans (hb.mono x.2.size)⟩, rfl⟩⟩
end Go.Proofs.YtommnhglgedflaaGreatDoor
end
section
namespace Go.Proofs.YtommnhglgedflaaGreatDoor
open Go.RowKit

/-- Cells that are held in a world. -/
def Holds (W : World) : List (Nat × Nat × Value) → Prop
  | [] => True
  | f :: r => (f.1 < W.heap.size ∧ W.cell? ⟨f.1, f.2.1, none⟩ = some f.2.2) ∧ Holds W r
theorem Holds.next {W W' : World} (hb : Below W.heap.size W W') : ∀ {l : List (Nat × Nat × Value)}, Holds W l → Holds W' l
  | [], _ => trivial
  | _ :: _, ⟨⟨h1, h2⟩, h3⟩ => ⟨⟨Nat.lt_of_lt_of_le h1 hb.size, (hb.cell h1).trans h2⟩, h3.next hb⟩
/-- What was there is as it was, and these cells are held. -/
def Sit (w W : World) (fs : List (Nat × Nat × Value)) : Prop := Below w.heap.size w W ∧ Holds W fs
theorem Sit.start (w : World) : Sit w w [] := ⟨Below.refl _ _, trivial⟩
theorem Sit.next {w W W' : World} {fs : List (Nat × Nat × Value)} (h : Sit w W fs) (hb : Below W.heap.size W W') : Sit w W' fs :=
  ⟨h.1.trans (hb.mono h.1.size), h.2.next hb⟩
theorem Sit.draws {w W : World} {fs : List (Nat × Nat × Value)} (h : Sit w W fs) (n : Nat) : Sit w (W.drewN n) fs := h.next (below_drewN (Below.refl _ _) n)
theorem alloc_below (W : World) (o : Obj) : Below W.heap.size W (W.alloc o) := (Below.refl _ _).alloc (Nat.le_refl _) _
theorem Sit.box2 {w W : World} {fs : List (Nat × Nat × Value)} {n : Nat} (h : Sit w W fs) (hn : W.heap.size = n) (a b : Value) (t : TypeId) :
    Sit w (W.alloc (.cells #[a, b] t)) ((n, 0, a) :: (n, 1, b) :: fs) := by
  subst hn
  exact ⟨(h.next (alloc_below _ _)).1, ⟨by simp, box_cells W [a, b] t 0⟩, ⟨by simp, box_cells W [a, b] t 1⟩, (h.next (alloc_below _ _)).2⟩
theorem Sit.box4 {w W : World} {fs : List (Nat × Nat × Value)} {n : Nat} (h : Sit w W fs) (hn : W.heap.size = n) (a b c d : Value) (t : TypeId) :
    Sit w (W.alloc (.cells #[a, b, c, d] t)) ((n, 0, a) :: (n, 1, b) :: (n, 2, c) :: (n, 3, d) :: fs) := by
  subst hn
  exact ⟨(h.next (alloc_below _ _)).1, ⟨by simp, box_cells W [a, b, c, d] t 0⟩, ⟨by simp, box_cells W [a, b, c, d] t 1⟩, ⟨by simp, box_cells W [a, b, c, d] t 2⟩, ⟨by simp, box_cells W [a, b, c, d] t 3⟩, (h.next (alloc_below _ _)).2⟩
theorem Sit.box6 {w W : World} {fs : List (Nat × Nat × Value)} {n : Nat} (h : Sit w W fs) (hn : W.heap.size = n) (a b c d e f : Value) (t : TypeId) :
    Sit w (W.alloc (.cells #[a, b, c, d, e, f] t)) ((n, 0, a) :: (n, 1, b) :: (n, 2, c) :: (n, 3, d) :: (n, 4, e) :: (n, 5, f) :: fs) := by
  subst hn
  exact ⟨(h.next (alloc_below _ _)).1, ⟨by simp, box_cells W [a, b, c, d, e, f] t 0⟩, ⟨by simp, box_cells W [a, b, c, d, e, f] t 1⟩, ⟨by simp, box_cells W [a, b, c, d, e, f] t 2⟩, ⟨by simp, box_cells W [a, b, c, d, e, f] t 3⟩, ⟨by simp, box_cells W [a, b, c, d, e, f] t 4⟩, ⟨by simp, box_cells W [a, b, c, d, e, f] t 5⟩, (h.next (alloc_below _ _)).2⟩

theorem Sit.box11 {w W : World} {fs : List (Nat × Nat × Value)} {n : Nat} (hs : Sit w W fs) (hn : W.heap.size = n) (a b c d e f g h i j k : Value) (t : TypeId) :
    Sit w (W.alloc (.cells #[a, b, c, d, e, f, g, h, i, j, k] t)) ((n, 0, a) :: (n, 1, b) :: (n, 2, c) :: (n, 3, d) :: (n, 4, e) :: (n, 5, f) :: (n, 6, g) :: (n, 7, h) :: (n, 8, i) :: (n, 9, j) :: (n, 10, k) :: fs) := by
  subst hn
  exact ⟨(hs.next (alloc_below _ _)).1, ⟨by simp, box_cells W [a, b, c, d, e, f, g, h, i, j, k] t 0⟩, ⟨by simp, box_cells W [a, b, c, d, e, f, g, h, i, j, k] t 1⟩, ⟨by simp, box_cells W [a, b, c, d, e, f, g, h, i, j, k] t 2⟩, ⟨by simp, box_cells W [a, b, c, d, e, f, g, h, i, j, k] t 3⟩, ⟨by simp, box_cells W [a, b, c, d, e, f, g, h, i, j, k] t 4⟩, ⟨by simp, box_cells W [a, b, c, d, e, f, g, h, i, j, k] t 5⟩, ⟨by simp, box_cells W [a, b, c, d, e, f, g, h, i, j, k] t 6⟩, ⟨by simp, box_cells W [a, b, c, d, e, f, g, h, i, j, k] t 7⟩, ⟨by simp, box_cells W [a, b, c, d, e, f, g, h, i, j, k] t 8⟩, ⟨by simp, box_cells W [a, b, c, d, e, f, g, h, i, j, k] t 9⟩, ⟨by simp, box_cells W [a, b, c, d, e, f, g, h, i, j, k] t 10⟩, (hs.next (alloc_below _ _)).2⟩

namespace Md
/-- A declaration. -/
structure De where
  kind : Int
  line : Int
  nm : ByteArray
  size : Int
  init : Int
  on : ByteArray
def De.Ok (d : De) : Prop := I64 d.kind ∧ I64 d.line ∧ d.nm.size ≤ maxLen ∧ I64 d.size ∧ I64 d.init ∧ d.on.size ≤ maxLen
/-- A statement without those inside it: its operator, line, name, second name, index, expression. -/
structure StH where
  op : Int
  line : Int
  nm : ByteArray
  arg : ByteArray
  idx : ExL
  xop : Int
  xn : Int
  xnm : ByteArray
  xkids : ExL
/-- Statements. -/
inductive StL where
  | nil
  | cons (h : StH) (body els rest : StL)
def StL.len : StL → Nat
  | .nil => 0
  | .cons _ _ _ r => r.len + 1
def StL.All (Q : StH → StL → StL → Prop) : StL → Prop
  | .nil => True
  | .cons h b e r => Q h b e ∧ r.All Q
theorem StL.all_of {Q : StH → StL → StL → Prop} (step : ∀ h b e, b.All Q → e.All Q → Q h b e) : ∀ l : StL, l.All Q
  | .nil => trivial
  | .cons h b e r => ⟨step h b e (all_of step b) (all_of step e), all_of step r⟩
theorem StL.of_all {Q : StH → StL → StL → Prop} (step : ∀ h b e, b.All Q → e.All Q → Q h b e) (h : StH) (b e : StL) : Q h b e :=
  step h b e (StL.all_of step b) (StL.all_of step e)
/-- A thread. -/
structure Th where
  nm : ByteArray
  line : Int
  locs : List ByteArray
  body : StL

/-- Texts in memory. -/
def TxAt (w : World) (B : Nat) : List ByteArray → Option Addr → Nat → Prop
  | [], _, _ => True
  | s :: r, ao, k => (∃ b off, ao = some ⟨b, off, none⟩ ∧ b < B ∧ w.cell? ⟨b, off + k, none⟩ = some (.string s) ∧ s.size ≤ maxLen) ∧ TxAt w B r ao (k + 1)
/-- Declarations in memory. -/
def DeAt (w : World) (B : Nat) : List De → Option Addr → Nat → Prop
  | [], _, _ => True
  | d :: r, ao, k => (∃ b off, ao = some ⟨b, off, none⟩ ∧ b < B ∧ w.cell? ⟨b, off + k * 6, none⟩ = some (.int .i64 d.kind) ∧ w.cell? ⟨b, off + k * 6 + 1, none⟩ = some (.int .i64 d.line) ∧
      w.cell? ⟨b, off + k * 6 + 2, none⟩ = some (.string d.nm) ∧ w.cell? ⟨b, off + k * 6 + 3, none⟩ = some (.int .i64 d.size) ∧ w.cell? ⟨b, off + k * 6 + 4, none⟩ = some (.int .i64 d.init) ∧
      w.cell? ⟨b, off + k * 6 + 5, none⟩ = some (.string d.on) ∧ d.Ok) ∧ DeAt w B r ao (k + 1)
/-- What a statement's own cells hold. -/
def StOk (h : StH) (body els : StL) : Prop :=
  I64 h.op ∧ I64 h.line ∧ h.nm.size ≤ maxLen ∧ h.arg.size ≤ maxLen ∧ h.idx.len ≤ maxLen ∧ ExOk h.xop h.xn h.xnm h.xkids ∧ body.len ≤ maxLen ∧ els.len ≤ maxLen
/-- Statements in memory. -/
def StL.At (w : World) (B : Nat) : StL → Option Addr → Nat → Prop
  | .nil, _, _ => True
  | .cons h body els rest, ao, k =>
    (∃ b off aoi capi aox capx aob capb aoe cape, ao = some ⟨b, off, none⟩ ∧ b < B ∧ w.cell? ⟨b, off + k * 11, none⟩ = some (.int .i64 h.op) ∧ w.cell? ⟨b, off + k * 11 + 1, none⟩ = some (.int .i64 h.line) ∧
      w.cell? ⟨b, off + k * 11 + 2, none⟩ = some (.string h.nm) ∧ w.cell? ⟨b, off + k * 11 + 3, none⟩ = some (.string h.arg) ∧ w.cell? ⟨b, off + k * 11 + 4, none⟩ = some (.slice aoi h.idx.len capi) ∧
      w.cell? ⟨b, off + k * 11 + 5, none⟩ = some (.int .i64 h.xop) ∧ w.cell? ⟨b, off + k * 11 + 6, none⟩ = some (.int .i64 h.xn) ∧ w.cell? ⟨b, off + k * 11 + 7, none⟩ = some (.string h.xnm) ∧ w.cell? ⟨b, off + k * 11 + 8, none⟩ = some (.slice aox h.xkids.len capx) ∧
      w.cell? ⟨b, off + k * 11 + 9, none⟩ = some (.slice aob body.len capb) ∧ w.cell? ⟨b, off + k * 11 + 10, none⟩ = some (.slice aoe els.len cape) ∧ StOk h body els ∧
      h.idx.At w B aoi 0 ∧ h.xkids.At w B aox 0 ∧ body.At w B aob 0 ∧ els.At w B aoe 0) ∧ rest.At w B ao (k + 1)
def Th.Ok (t : Th) : Prop := t.nm.size ≤ maxLen ∧ I64 t.line ∧ t.locs.length ≤ maxLen ∧ t.body.len ≤ maxLen
/-- Threads in memory. -/
def ThAt (w : World) (B : Nat) : List Th → Option Addr → Nat → Prop
  | [], _, _ => True
  | t :: r, ao, k => (∃ b off aol capl aob capb, ao = some ⟨b, off, none⟩ ∧ b < B ∧ w.cell? ⟨b, off + k * 4, none⟩ = some (.string t.nm) ∧ w.cell? ⟨b, off + k * 4 + 1, none⟩ = some (.int .i64 t.line) ∧
      w.cell? ⟨b, off + k * 4 + 2, none⟩ = some (.slice aol t.locs.length capl) ∧ w.cell? ⟨b, off + k * 4 + 3, none⟩ = some (.slice aob t.body.len capb) ∧ t.Ok ∧ TxAt w B t.locs aol 0 ∧ t.body.At w B aob 0 ∧ t.locs.length ≤ capl) ∧ ThAt w B r ao (k + 1)

section
variable {w w' : World} {B B' : Nat}
theorem TxAt.below (hb : Below B w w') : ∀ {l : List ByteArray} {ao : Option Addr} {k : Nat}, TxAt w B l ao k → TxAt w' B l ao k
  | [], _, _, _ => trivial
  | _ :: _, _, _, ⟨⟨b, off, e, hB, c, hs⟩, hr⟩ => ⟨⟨b, off, e, hB, (hb.cell hB).trans c, hs⟩, TxAt.below hb hr⟩
theorem TxAt.mono (h : B ≤ B') : ∀ {l : List ByteArray} {ao : Option Addr} {k : Nat}, TxAt w B l ao k → TxAt w B' l ao k
  | [], _, _, _ => trivial
  | _ :: _, _, _, ⟨⟨b, off, e, hB, c, hs⟩, hr⟩ => ⟨⟨b, off, e, Nat.lt_of_lt_of_le hB h, c, hs⟩, TxAt.mono h hr⟩
theorem TxAt.same {l : List ByteArray} {ao : Option Addr} {k : Nat} (h : TxAt w w.heap.size l ao k) (hb : Below w.heap.size w w') : TxAt w' w'.heap.size l ao k := (h.below hb).mono hb.size
theorem TxAt.drop : ∀ {l : List ByteArray} {ao : Option Addr} {k : Nat} (i : Nat), TxAt w B l ao k → TxAt w B (l.drop i) ao (k + i)
  | _, _, _, 0, h => h
  | [], _, _, _ + 1, _ => by simp [TxAt]
  | _ :: _, _, k, i + 1, ⟨_, hr⟩ => by have := TxAt.drop i hr; rw [List.drop_succ_cons]; rwa [Nat.add_assoc, Nat.add_comm 1 i] at this
theorem DeAt.below (hb : Below B w w') : ∀ {l : List De} {ao : Option Addr} {k : Nat}, DeAt w B l ao k → DeAt w' B l ao k
  | [], _, _, _ => trivial
  | _ :: _, _, _, ⟨⟨b, off, e, hB, c0, c1, c2, c3, c4, c5, hs⟩, hr⟩ => ⟨⟨b, off, e, hB, (hb.cell hB).trans c0, (hb.cell hB).trans c1, (hb.cell hB).trans c2, (hb.cell hB).trans c3, (hb.cell hB).trans c4, (hb.cell hB).trans c5, hs⟩, DeAt.below hb hr⟩
theorem DeAt.mono (h : B ≤ B') : ∀ {l : List De} {ao : Option Addr} {k : Nat}, DeAt w B l ao k → DeAt w B' l ao k
  | [], _, _, _ => trivial
  | _ :: _, _, _, ⟨⟨b, off, e, hB, c⟩, hr⟩ => ⟨⟨b, off, e, Nat.lt_of_lt_of_le hB h, c⟩, DeAt.mono h hr⟩
theorem DeAt.same {l : List De} {ao : Option Addr} {k : Nat} (h : DeAt w w.heap.size l ao k) (hb : Below w.heap.size w w') : DeAt w' w'.heap.size l ao k := (h.below hb).mono hb.size
theorem DeAt.drop : ∀ {l : List De} {ao : Option Addr} {k : Nat} (i : Nat), DeAt w B l ao k → DeAt w B (l.drop i) ao (k + i)
  | _, _, _, 0, h => h
  | [], _, _, _ + 1, _ => by simp [DeAt]
  | _ :: _, _, k, i + 1, ⟨_, hr⟩ => by have := DeAt.drop i hr; rw [List.drop_succ_cons]; rwa [Nat.add_assoc, Nat.add_comm 1 i] at this
theorem TxAt.take : ∀ {pre R : List ByteArray} {ao : Option Addr} {k : Nat}, TxAt w B (pre ++ R) ao k → TxAt w B pre ao k
  | [], _, _, _, _ => trivial
  | _ :: _, _, _, _, h => ⟨h.1, TxAt.take h.2⟩
theorem DeAt.take : ∀ {pre R : List De} {ao : Option Addr} {k : Nat}, DeAt w B (pre ++ R) ao k → DeAt w B pre ao k
  | [], _, _, _, _ => trivial
  | _ :: _, _, _, _, h => ⟨h.1, DeAt.take h.2⟩
theorem StL.At.below (hb : Below B w w') : ∀ {l : StL} {ao : Option Addr} {k : Nat}, l.At w B ao k → l.At w' B ao k
  | .nil, _, _, _ => trivial
  | .cons _ _ _ _, _, _, h => by
    obtain ⟨⟨b, off, aoi, capi, aox, capx, aob, capb, aoe, cape, e, hB, c0, c1, c2, c3, c4, c5, c6, c7, c8, c9, c10, hok, h1, h2, h3, h4⟩, hr⟩ := h
    exact ⟨⟨b, off, aoi, capi, aox, capx, aob, capb, aoe, cape, e, hB, (hb.cell hB).trans c0, (hb.cell hB).trans c1, (hb.cell hB).trans c2, (hb.cell hB).trans c3, (hb.cell hB).trans c4, (hb.cell hB).trans c5, (hb.cell hB).trans c6, (hb.cell hB).trans c7, (hb.cell hB).trans c8, (hb.cell hB).trans c9, (hb.cell hB).trans c10, hok, h1.below hb, h2.below hb, h3.below hb, h4.below hb⟩, hr.below hb⟩
theorem StL.At.mono (h : B ≤ B') : ∀ {l : StL} {ao : Option Addr} {k : Nat}, l.At w B ao k → l.At w B' ao k
  | .nil, _, _, _ => trivial
  | .cons _ _ _ _, _, _, h' => by
    obtain ⟨⟨b, off, aoi, capi, aox, capx, aob, capb, aoe, cape, e, hB, c0, c1, c2, c3, c4, c5, c6, c7, c8, c9, c10, hok, h1, h2, h3, h4⟩, hr⟩ := h'
    exact ⟨⟨b, off, aoi, capi, aox, capx, aob, capb, aoe, cape, e, Nat.lt_of_lt_of_le hB h, c0, c1, c2, c3, c4, c5, c6, c7, c8, c9, c10, hok, h1.mono h, h2.mono h, h3.mono h, h4.mono h⟩, hr.mono h⟩
theorem StL.At.same {l : StL} {ao : Option Addr} {k : Nat} (h : l.At w w.heap.size ao k) (hb : Below w.heap.size w w') : l.At w' w'.heap.size ao k := (h.below hb).mono hb.size
theorem ThAt.below (hb : Below B w w') : ∀ {l : List Th} {ao : Option Addr} {k : Nat}, ThAt w B l ao k → ThAt w' B l ao k
  | [], _, _, _ => trivial
  | _ :: _, _, _, ⟨⟨b, off, aol, capl, aob, capb, e, hB, c0, c1, c2, c3, hs, ht, hst⟩, hr⟩ => ⟨⟨b, off, aol, capl, aob, capb, e, hB, (hb.cell hB).trans c0, (hb.cell hB).trans c1, (hb.cell hB).trans c2, (hb.cell hB).trans c3, hs, ht.below hb, hst.1.below hb, hst.2⟩, ThAt.below hb hr⟩
theorem ThAt.mono (h : B ≤ B') : ∀ {l : List Th} {ao : Option Addr} {k : Nat}, ThAt w B l ao k → ThAt w B' l ao k
  | [], _, _, _ => trivial
  | _ :: _, _, _, ⟨⟨b, off, aol, capl, aob, capb, e, hB, c0, c1, c2, c3, hs, ht, hst⟩, hr⟩ => ⟨⟨b, off, aol, capl, aob, capb, e, Nat.lt_of_lt_of_le hB h, c0, c1, c2, c3, hs, ht.mono h, hst.1.mono h, hst.2⟩, ThAt.mono h hr⟩
theorem ThAt.same {l : List Th} {ao : Option Addr} {k : Nat} (h : ThAt w w.heap.size l ao k) (hb : Below w.heap.size w w') : ThAt w' w'.heap.size l ao k := (h.below hb).mono hb.size
theorem ThAt.drop : ∀ {l : List Th} {ao : Option Addr} {k : Nat} (i : Nat), ThAt w B l ao k → ThAt w B (l.drop i) ao (k + i)
  | _, _, _, 0, h => h
  | [], _, _, _ + 1, _ => by simp [ThAt]
  | _ :: _, _, k, i + 1, ⟨_, hr⟩ => by have := ThAt.drop i hr; rw [List.drop_succ_cons]; rwa [Nat.add_assoc, Nat.add_comm 1 i] at this
theorem ThAt.take : ∀ {pre R : List Th} {ao : Option Addr} {k : Nat}, ThAt w B (pre ++ R) ao k → ThAt w B pre ao k
  | [], _, _, _, _ => trivial
  | _ :: _, _, _, _, h => ⟨h.1, ThAt.take h.2⟩
end

/-- A program. -/
structure Pr where
  ds : List De
  ts : List Th
/-- A program in memory: its two slices. -/
def Pr.At (w : World) (p : Pr) (aoD aoT : Option Addr) : Prop := p.ds.length ≤ maxLen ∧ p.ts.length ≤ maxLen ∧ DeAt w w.heap.size p.ds aoD 0 ∧ ThAt w w.heap.size p.ts aoT 0
theorem Pr.At.same {w w' : World} {p : Pr} {aoD aoT : Option Addr} (h : p.At w aoD aoT) (hb : Below w.heap.size w w') : p.At w' aoD aoT := ⟨h.1, h.2.1, h.2.2.1.same hb, h.2.2.2.same hb⟩

/-- The meaning of a declaration's name. -/
def declM (d : De) : Int :=
  if d.kind == 1 then (if d.size == 0 then 2 else 3) else if d.kind == 2 then 2 else if d.kind == 3 then 4 else if d.kind == 4 then 5 else if d.kind == 5 then 6 else if d.kind == 6 then 7 else 9
/-- The meaning that the declarations give to a name. -/
def meanD (ds : List De) (nm : ByteArray) : Option Int := (ds.find? fun d => d.nm.toList == nm.toList).map declM
def meanT (ts : List Th) (nm : ByteArray) : Int := if ts.any fun t => t.nm.toList == nm.toList then 8 else 0
/-- The locals of a thread. -/
def locsAt (ts : List Th) (i : Int) : List ByteArray := if 0 ≤ i then ((ts[i.toNat]?).map (·.locs)).getD [] else []
def isLoc (l : List ByteArray) (nm : ByteArray) : Bool := l.any fun s => s.toList == nm.toList
/-- The meaning of a name in a thread. -/
def mean (p : Pr) (i : Int) (nm : ByteArray) : Int := if isLoc (locsAt p.ts i) nm then 1 else (meanD p.ds nm).getD (meanT p.ts nm)
end Md
end Go.Proofs.YtommnhglgedflaaGreatDoor
end
section
namespace Go.Proofs.YtommnhglgedflaaGreatDoor
open Go.RowKit
namespace Md
def fN (op : Int) : Bool := (op == 1 || (decide (4 ≤ op) && decide (op ≤ 6))) || (decide (9 ≤ op) && decide (op ≤ 15))
def fA (op : Int) : Bool := op == 15
def fI (op : Int) : Bool := op == 1
def fX (op : Int) : Bool := (op == 1 || op == 2) || (op == 3 || op == 14)
def fB (op : Int) : Bool := decide (2 ≤ op) && decide (op ≤ 8)
def fE (op : Int) : Bool := op == 2
def fO (op : Int) : Bool := decide (1 ≤ op) && decide (op ≤ 15)
def zeroX (op n : Int) (nm : ByteArray) (len : Nat) : Bool := ((op == 0 && n == 0) && nm.toList.isEmpty) && len == 0
/-- A declaration is shaped. -/
def shpD (d : De) : Bool := (((decide (1 ≤ d.kind) && decide (d.kind ≤ 6)) && Tk.isNm d.nm.data.toList) && (decide (0 ≤ d.size) && (d.size == 0 || d.kind == 1))) && (((d.init != -9223372036854775808) && (d.init == 0 || (d.kind == 1 || d.kind == 2))) && nmOr d.on (d.kind == 5))
/-- A statement is shaped, those inside it apart. -/
def shpS1 (h : StH) (bl el : Nat) : Bool :=
  ((fO h.op && (nmOr h.nm (fN h.op) && nmOr h.arg (fA h.op))) && ((decide (h.idx.len ≤ 1) && (!(h.idx.len == 1) || fI h.op)) && shpL h.idx)) &&
    ((if fX h.op then shpE h.xop h.xn h.xnm h.xkids else zeroX h.xop h.xn h.xnm h.xkids.len) && ((fB h.op || bl == 0) && (fE h.op || el == 0)))
def shpSL : StL → Bool
  | .nil => true
  | .cons h b e r => (shpS1 h b.len e.len && (shpSL b && shpSL e)) && shpSL r
def shpS (h : StH) (b e : StL) : Bool := shpS1 h b.len e.len && (shpSL b && shpSL e)
theorem shpSL_cons (h : StH) (b e r : StL) : shpSL (.cons h b e r) = (shpS h b e && shpSL r) := rfl
/-- A thread is shaped. -/
def shpT (t : Th) : Bool := (Tk.isNm t.nm.data.toList && t.locs.all fun s => Tk.isNm s.data.toList) && shpSL t.body
def shpP (p : Pr) : Bool := (p.ds.all shpD && p.ts.all shpT) && decide ((0 : Int) < p.ts.length)
end Md
open Md
namespace Md
/-- The addresses and capacities of a statement's slices. -/
structure Sl where
  aoi : Option Addr
  capi : Nat
  aox : Option Addr
  capx : Nat
  aob : Option Addr
  capb : Nat
  aoe : Option Addr
  cape : Nat
def stV (h : StH) (b e : StL) (s : Sl) : Value := .agg #[.int .i64 h.op, .int .i64 h.line, .string h.nm, .string h.arg, .slice s.aoi h.idx.len s.capi, .int .i64 h.xop, .int .i64 h.xn, .string h.xnm, .slice s.aox h.xkids.len s.capx, .slice s.aob b.len s.capb, .slice s.aoe e.len s.cape]
def stF (n : Nat) (h : StH) (b e : StL) (s : Sl) (fs : List (Nat × Nat × Value)) : List (Nat × Nat × Value) :=
  (n, 0, .int .i64 h.op) :: (n, 1, .int .i64 h.line) :: (n, 2, .string h.nm) :: (n, 3, .string h.arg) :: (n, 4, .slice s.aoi h.idx.len s.capi) :: (n, 5, .int .i64 h.xop) :: (n, 6, .int .i64 h.xn) :: (n, 7, .string h.xnm) :: (n, 8, .slice s.aox h.xkids.len s.capx) :: (n, 9, .slice s.aob b.len s.capb) :: (n, 10, .slice s.aoe e.len s.cape) :: fs
/-- What hangs on a statement lies in memory. -/
def StIn (w : World) (h : StH) (b e : StL) (s : Sl) : Prop := StOk h b e ∧ h.idx.At w w.heap.size s.aoi 0 ∧ h.xkids.At w w.heap.size s.aox 0 ∧ b.At w w.heap.size s.aob 0 ∧ e.At w w.heap.size s.aoe 0
theorem StIn.same {w w' : World} {h : StH} {b e : StL} {s : Sl} (hi : StIn w h b e s) (hb : Below w.heap.size w w') : StIn w' h b e s :=
  ⟨hi.1, hi.2.1.same hb, hi.2.2.1.same hb, hi.2.2.2.1.same hb, hi.2.2.2.2.same hb⟩
theorem StL.At.head {w : World} {h : StH} {b e r : StL} {ao : Option Addr} {k : Nat} (hat : (StL.cons h b e r).At w w.heap.size ao k) : ∃ bl off s, ao = some ⟨bl, off, none⟩ ∧ bl < w.heap.size ∧ StIn w h b e s ∧
    w.cell? ⟨bl, off + k * 11, none⟩ = some (.int .i64 h.op) ∧ w.cell? ⟨bl, off + k * 11 + 1, none⟩ = some (.int .i64 h.line) ∧ w.cell? ⟨bl, off + k * 11 + 2, none⟩ = some (.string h.nm) ∧ w.cell? ⟨bl, off + k * 11 + 3, none⟩ = some (.string h.arg) ∧ w.cell? ⟨bl, off + k * 11 + 4, none⟩ = some (.slice s.aoi h.idx.len s.capi) ∧
    w.cell? ⟨bl, off + k * 11 + 5, none⟩ = some (.int .i64 h.xop) ∧ w.cell? ⟨bl, off + k * 11 + 6, none⟩ = some (.int .i64 h.xn) ∧ w.cell? ⟨bl, off + k * 11 + 7, none⟩ = some (.string h.xnm) ∧ w.cell? ⟨bl, off + k * 11 + 8, none⟩ = some (.slice s.aox h.xkids.len s.capx) ∧
    w.cell? ⟨bl, off + k * 11 + 9, none⟩ = some (.slice s.aob b.len s.capb) ∧ w.cell? ⟨bl, off + k * 11 + 10, none⟩ = some (.slice s.aoe e.len s.cape) ∧ r.At w w.heap.size ao (k + 1) := by
  obtain ⟨⟨b, off, aoi, capi, aox, capx, aob, capb, aoe, cape, e, hB, c0, c1, c2, c3, c4, c5, c6, c7, c8, c9, c10, hok, h1, h2, h3, h4⟩, hr⟩ := hat
  exact ⟨b, off, ⟨aoi, capi, aox, capx, aob, capb, aoe, cape⟩, e, hB, ⟨hok, h1, h2, h3, h4⟩, c0, c1, c2, c3, c4, c5, c6, c7, c8, c9, c10, hr⟩
end Md

theorem int_le1 (n : Nat) : decide ((n : Int) ≤ 1) = decide (n ≤ 1) := by rw [decide_eq_decide]; omega
theorem int_eq1 (n : Nat) : decide ((n : Int) = 1) = (n == 1) := by rw [Bool.eq_iff_iff, decide_eq_true_iff, beq_iff_eq]; omega
theorem int_le0 (n : Nat) : decide ((n : Int) ≤ 0) = (n == 0) := by rw [Bool.eq_iff_iff, decide_eq_true_iff, beq_iff_eq]; omega
end Go.Proofs.YtommnhglgedflaaGreatDoor
end
