/-
  The texts of the law ParsePrecedence, and what is parsed from them. No program in sight.
  Data does not lie in a block that holds slices alone; a write there leaves it. No program in sight.
-/
import Derived.Test.YtommnhglgedflaaGreatDoorGZA
import Derived.Test.YtommnhglgedflaaGreatDoorGMA
import Derived.Test.YtommnhglgedflaaGreatDoorGMB
section
namespace Go.Proofs.YtommnhglgedflaaGreatDoor.Pz
open Go.RowKit Md Tk
def eqL : ExL → ExL → Bool
  | .nil, .nil => true
  | .cons o n m k r, .cons o' n' m' k' r' => ((o == o' && n == n') && m.data.toList == m'.data.toList) && (eqL k k' && eqL r r')
  | _, _ => false
theorem bytes_eq {a b : ByteArray} (h : a.data.toList = b.data.toList) : a = b := by
  cases a; cases b; simp only [ByteArray.mk.injEq]; exact Array.toList_inj.1 h
theorem eqL_eq : ∀ a b : ExL, eqL a b = true → a = b
  | .nil, .nil, _ => rfl
  | .nil, .cons .., h => by simp [eqL] at h
  | .cons .., .nil, h => by simp [eqL] at h
  | .cons o n m k r, .cons o' n' m' k' r', h => by
    simp only [eqL, Bool.and_eq_true, beq_iff_eq] at h
    obtain ⟨⟨⟨rfl, rfl⟩, hm⟩, hk, hr⟩ := h
    rw [bytes_eq hm, eqL_eq k k' hk, eqL_eq r r' hr]
def eqE (a b : E) : Bool := ((a.op == b.op && a.n == b.n) && a.nm.data.toList == b.nm.data.toList) && eqL a.kids b.kids
theorem eqE_eq {a b : E} (h : eqE a b = true) : a = b := by
  cases a; cases b
  simp only [eqE, Bool.and_eq_true, beq_iff_eq] at h
  obtain ⟨⟨⟨rfl, rfl⟩, hm⟩, hk⟩ := h
  rw [bytes_eq hm, eqL_eq _ _ hk]
/-- The sign, the operator and the level of a number. -/
def sgT : Nat → List UInt8
  | 0 => [124, 124]
  | 1 => [38, 38]
  | 2 => [43]
  | 3 => [45]
  | 4 => [42]
  | _ => [37]
def sgO : Nat → Int
  | 0 => 18
  | 1 => 17
  | 2 => 6
  | 3 => 7
  | 4 => 8
  | _ => 10
def sgL : Nat → Int
  | 0 => 1
  | 1 => 2
  | 2 => 4
  | 3 => 4
  | 4 => 5
  | _ => 5
def nmE (l : List UInt8) : E := ⟨2, 0, tx l, .nil⟩
def prT (s t : List UInt8) : List UInt8 := [97, 32] ++ s ++ [32, 98, 32] ++ t ++ [32, 99]
def prW (op oq x y : Int) : E := if decide (x < y) then mk2 op (nmE [97]) (mk2 oq (nmE [98]) (nmE [99])) else mk2 oq (mk2 op (nmE [97]) (nmE [98])) (nmE [99])
def precB : Bool := (List.range 6).all fun k => (List.range 6).all fun j =>
  (parseE (prT (sgT k) (sgT j))).2.1 == 0 && ((parseE (prT (sgT k) (sgT j))).2.2 == 0 && eqE (parseE (prT (sgT k) (sgT j))).1 (prW (sgO k) (sgO j) (sgL k) (sgL j)))
theorem prec_b : precB = true := by decide +kernel
theorem prec_all {k j : Nat} (hk : k < 6) (hj : j < 6) : parseE (prT (sgT k) (sgT j)) = (prW (sgO k) (sgO j) (sgL k) (sgL j), 0, 0) := by
  have h := prec_b
  unfold precB at h
  rw [List.all_eq_true] at h
  have h := h k (List.mem_range.2 hk)
  rw [List.all_eq_true] at h
  have h := h j (List.mem_range.2 hj)
  generalize parseE (prT (sgT k) (sgT j)) = r at h
  obtain ⟨p, e, l⟩ := r
  simp only [Bool.and_eq_true, beq_iff_eq] at h
  obtain ⟨h1, h2, h3⟩ := h
  rw [h1, h2, eqE_eq h3]
theorem sg_size (k : Nat) : (sgT k).length ≤ 2 := by unfold sgT; split <;> decide
theorem sg_lev (k : Nat) : 1 ≤ sgL k ∧ sgL k ≤ 5 := by unfold sgL; split <;> decide
theorem sg_op (k : Nat) : 1 ≤ sgO k ∧ sgO k ≤ 18 := by unfold sgO; split <;> decide
end Go.Proofs.YtommnhglgedflaaGreatDoor.Pz
end
section
set_option linter.unusedVariables false
namespace Go.Proofs.YtommnhglgedflaaGreatDoor
open Go.RowKit
namespace Md
/-- A block without integers and texts. -/
def OffB (g : Nat) (w : World) : Prop := ∀ o, (∀ k n, w.cell? ⟨g, o, none⟩ ≠ some (.int k n)) ∧ ∀ s, w.cell? ⟨g, o, none⟩ ≠ some (.string s)
section
variable {w w' : World} {g B : Nat}
/-- The other blocks are as they were. -/
def Oth (g : Nat) (w w' : World) : Prop := ∀ b, b ≠ g → b < w.heap.size → ∀ o, w'.cell? ⟨b, o, none⟩ = w.cell? ⟨b, o, none⟩
theorem TxAt.off (hg : OffB g w) (ho : Oth g w w') (hB : B ≤ w.heap.size) : ∀ {l : List ByteArray} {ao : Option Addr} {k : Nat}, TxAt w B l ao k → TxAt w' B l ao k
  | [], _, _, _ => trivial
  | _ :: _, _, _, ⟨⟨b, off, e, hb, c, hs⟩, hr⟩ => by
    have hne : b ≠ g := fun q => by subst q; exact (hg _).2 _ c
    exact ⟨⟨b, off, e, hb, (ho b hne (Nat.lt_of_lt_of_le hb hB) _).trans c, hs⟩, TxAt.off hg ho hB hr⟩
theorem DeAt.off (hg : OffB g w) (ho : Oth g w w') (hB : B ≤ w.heap.size) : ∀ {l : List De} {ao : Option Addr} {k : Nat}, DeAt w B l ao k → DeAt w' B l ao k
  | [], _, _, _ => trivial
  | _ :: _, _, _, ⟨⟨b, off, e, hb, c0, c1, c2, c3, c4, c5, hs⟩, hr⟩ => by
    have hne : b ≠ g := fun q => by subst q; exact (hg _).1 _ _ c0
    have h := ho b hne (Nat.lt_of_lt_of_le hb hB)
    exact ⟨⟨b, off, e, hb, (h _).trans c0, (h _).trans c1, (h _).trans c2, (h _).trans c3, (h _).trans c4, (h _).trans c5, hs⟩, DeAt.off hg ho hB hr⟩
theorem ExL.At.off (hg : OffB g w) (ho : Oth g w w') (hB : B ≤ w.heap.size) : ∀ {l : ExL} {ao : Option Addr} {k : Nat}, l.At w B ao k → l.At w' B ao k
  | .nil, _, _, _ => trivial
  | .cons _ _ _ _ _, _, _, h => by
    obtain ⟨⟨b, off, ao', cap, e, hb, c0, c1, c2, c3, hok, hk⟩, hr⟩ := h
    have hne : b ≠ g := fun q => by subst q; exact (hg _).1 _ _ c0
    have h := ho b hne (Nat.lt_of_lt_of_le hb hB)
    exact ⟨⟨b, off, ao', cap, e, hb, (h _).trans c0, (h _).trans c1, (h _).trans c2, (h _).trans c3, hok, hk.off hg ho hB⟩, hr.off hg ho hB⟩
theorem StL.At.off (hg : OffB g w) (ho : Oth g w w') (hB : B ≤ w.heap.size) : ∀ {l : StL} {ao : Option Addr} {k : Nat}, l.At w B ao k → l.At w' B ao k
  | .nil, _, _, _ => trivial
  | .cons _ _ _ _, _, _, h => by
    obtain ⟨⟨b, off, aoi, capi, aox, capx, aob, capb, aoe, cape, e, hb, c0, c1, c2, c3, c4, c5, c6, c7, c8, c9, c10, hok, h1, h2, h3, h4⟩, hr⟩ := h
    have hne : b ≠ g := fun q => by subst q; exact (hg _).1 _ _ c0
    have h := ho b hne (Nat.lt_of_lt_of_le hb hB)
    exact ⟨⟨b, off, aoi, capi, aox, capx, aob, capb, aoe, cape, e, hb, (h _).trans c0, (h _).trans c1, (h _).trans c2, (h _).trans c3, (h _).trans c4, (h _).trans c5, (h _).trans c6, (h _).trans c7, (h _).trans c8, (h _).trans c9, (h _).trans c10, hok, h1.off hg ho hB, h2.off hg ho hB, h3.off hg ho hB, h4.off hg ho hB⟩, hr.off hg ho hB⟩
theorem ThAt.off (hg : OffB g w) (ho : Oth g w w') (hB : B ≤ w.heap.size) : ∀ {l : List Th} {ao : Option Addr} {k : Nat}, ThAt w B l ao k → ThAt w' B l ao k
  | [], _, _, _ => trivial
  | _ :: _, _, _, ⟨⟨b, off, aol, capl, aob, capb, e, hb, c0, c1, c2, c3, hs, ht, hst⟩, hr⟩ => by
    have hne : b ≠ g := fun q => by subst q; exact (hg _).2 _ c0
    have h := ho b hne (Nat.lt_of_lt_of_le hb hB)
    exact ⟨⟨b, off, aol, capl, aob, capb, e, hb, (h _).trans c0, (h _).trans c1, (h _).trans c2, (h _).trans c3, hs, ht.off hg ho hB, hst.1.off hg ho hB, hst.2⟩, ThAt.off hg ho hB hr⟩
theorem Pr.At.off {p : Pr} {aoD aoT : Option Addr} (hg : OffB g w) (ho : Oth g w w') (hs : w.heap.size ≤ w'.heap.size) (h : p.At w aoD aoT) : p.At w' aoD aoT :=
  ⟨h.1, h.2.1, (h.2.2.1.off hg ho (Nat.le_refl _)).mono hs, (h.2.2.2.off hg ho (Nat.le_refl _)).mono hs⟩
theorem Oth.trans {w1 : World} (h : Oth g w w1) (hs : w.heap.size ≤ w1.heap.size) (h1 : Oth g w1 w') : Oth g w w' := fun b hb hl o => (h1 b hb (Nat.lt_of_lt_of_le hl hs) o).trans (h b hb hl o)
theorem Oth.set (w : World) (g j : Nat) (v : Value) : Oth g w (w.setCell ⟨g, j, none⟩ v) := fun b hb _ o =>
  World.cell?_of_block (a := ⟨b, o, none⟩) (setCell_far w ⟨g, j, none⟩ v rfl (by show g ≠ b; exact fun e => hb e.symm))
theorem OffB.of {cs : Array Value} {t : TypeId} {fr : Nat × Nat} (h : w.heap[g]? = some (.cells cs t fr)) (hc : (cs.toList.all fun v => match v with | .int _ _ => false | .string _ => false | _ => true) = true) : OffB g w := by
  have key : ∀ o v, w.cell? ⟨g, o, none⟩ = some v → (match v with | .int _ _ => false | .string _ => false | _ => true) = true := fun o v e => by
    rw [cell_of_row w g o cs t fr h] at e
    rw [List.all_eq_true] at hc
    exact hc v (by
      have := Array.mem_of_getElem? e
      simpa using this)
  intro o
  refine ⟨fun k n e => ?_, fun s e => ?_⟩
  · have := key o _ e; cases this
  · have := key o _ e; cases this
end
end Md
end Go.Proofs.YtommnhglgedflaaGreatDoor
end
