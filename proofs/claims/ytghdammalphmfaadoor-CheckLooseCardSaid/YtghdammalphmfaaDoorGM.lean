/-
  Contracts of the reference's or, nesting, and of its walk's inside.
  Contract of the reference walk's one: where nothing is appended.
  The reference walk's state as data: what is kept, a statement put on its row and taken off, a name added to its lists. No walk in sight.
-/
import Derived.Test.YtghdammalphmfaaDoorGI
import Derived.Test.YtghdammalphmfaaDoorGK
import Derived.StillTailTactics
import Derived.IntWalk
section
namespace Go.Proofs.YtghdammalphmfaaDoor
open Go.RowKit
namespace Md
def orE (a b : Int) : Int := if a != 0 then a else b
/-- A statement of one of two kinds with a name (or any) is around. -/
def insR : StL → Int → Int → ByteArray → Bool
  | .nil, _, _, _ => false
  | .cons h _ _ r, a, b, nm => ((h.op == a || h.op == b) && (nm.toList.isEmpty || h.nm.toList == nm.toList)) || insR r a b nm
end Md
open Md
/-- The cells of a walk. -/
def wkF (bc : Nat) (p : Pr) (aoD aoT : Option Addr) (capD capT : Nat) (i : Int) (aoA : Option Addr) (lenA capA : Nat) (aoS : Option Addr) (lenS capS : Nat) (aoE : Option Addr) (lenE capE : Nat) : List (Nat × Nat × Value) :=
  [(bc, 0, .slice aoD p.ds.length capD), (bc, 1, .slice aoT p.ts.length capT), (bc, 2, .int .i64 i), (bc, 3, .slice aoA lenA capA), (bc, 4, .slice aoS lenS capS), (bc, 5, .slice aoE lenE capE)]
theorem RefNesting_any (b : Bool) (w : World) :
    Calls Tryd.prog 72 #[.bool b] w fun e w' => e = .returned (.int .i64 (nest b)) ∧ w = w' := by
  cases b
  all_goals
    go_enter Tryd.func72, Tryd.ntmps72
    go_wp2
    go_ret
    exact ⟨rfl, rfl⟩
theorem RefOr_any (a b : Int) (w : World) :
    Calls Tryd.prog 71 #[.int .i64 a, .int .i64 b] w fun e w' => e = .returned (.int .i64 (orE a b)) ∧ w = w' := by
  generalize hres : orE a b = res
  have HR := Lib.hid hres
  clear hres
  cases ha : (a != 0)
  all_goals
    go_enter Tryd.func71, Tryd.ntmps71
    go_wp2
    go_ret
    exact ⟨ret_int (by rw [← HR.out]; unfold orE; rw [ha]; rfl), rfl⟩
section
variable (p : Pr) (w : World) (aoD aoT : Option Addr) (capD capT : Nat) (i : Int) (aoA : Option Addr) (capA bc : Nat) (aoS : Option Addr) (lenS capS : Nat) (aoE : Option Addr) (lenE capE : Nat)
set_option maxHeartbeats 2000000 in
set_option maxRecDepth 100000 in
theorem wkInside_any (ar : StL) (a b' : Int) (nm : ByteArray) (har : ar.len ≤ maxLen) (hat : ar.At w w.heap.size aoA 0) (hh : Holds w (wkF bc p aoD aoT capD capT i aoA ar.len capA aoS lenS capS aoE lenE capE)) :
    Calls Tryd.prog 70 #[.pointer (some ⟨bc, 0, none⟩), .int .i64 a, .int .i64 b', .string nm] w fun e w' => e = .returned (.bool (insR ar a b' nm)) ∧ Below w.heap.size w w' := by
  have HH := Lib.hid (show Sit w w _ from ⟨Below.refl _ _, hh⟩)
  have HAT := Lib.hid hat
  generalize hres : insR ar a b' nm = res
  have HR := Lib.hid hres
  unfold maxLen at har
  clear hh hat hres
  go_enter Tryd.func70, Tryd.ntmps70
  go_wp2_with fail
  go_loopg [9, 10] ar.len (fun g s _ wr => ∃ (k : Nat) (R : StL), g = R.len ∧ s = .int .i64 k ∧ k + R.len = ar.len ∧ res = insR R a b' nm ∧ R.At wr wr.heap.size aoA k ∧ Sit w wr (wkF bc p aoD aoT capD capT i aoA ar.len capA aoS lenS capS aoE lenE capE))
  case atStart => exact ⟨0, ar, rfl, rfl, by simp, HR.out.symm, HAT.out, HH.out⟩
  case round =>
    obtain ⟨k, R, rfl, rfl, hlen, heq, hrow, hB⟩ := hrel
    have HE := Lib.hid heq
    have HB := Lib.hid hB
    clear heq hB HH
    obtain ⟨-, ⟨-, c0⟩, ⟨-, c1⟩, ⟨-, c2⟩, ⟨-, c3⟩, ⟨-, c4⟩, ⟨-, c5⟩, -⟩ := HB.out
    cases R with
    | nil =>
      obtain rfl : k = ar.len := by simpa [StL.len] using hlen
      go_wp2_with fail
      go_ret
      exact ⟨ret_bool HE.out.symm, HB.out.1⟩
    | cons h b e R =>
      obtain ⟨bl, off, s, rfl, hbl, hin, x0, x1, x2, x3, x4, x5, x6, x7, x8, x9, x10, hrest⟩ := StL.At.head hrow
      have hkl : k < ar.len := by simp only [StL.len] at hlen; omega
      clear hrow hin
      go_upto_region 5 with fail
      obtain ⟨nb, hnb⟩ : ∃ n, wr.heap.size = n := ⟨_, rfl⟩
      generalize hW2 : World.alloc wr _ = W2
      have HY : Hid (Sit wr W2 (stF nb h b e s [])) := Lib.hid (by rw [← hW2]; exact (Sit.start wr).box11 hnb _ _ _ _ _ _ _ _ _ _ _ _)
      have HB2 := Lib.hid (HB.out.next HY.out.1)
      have HRS := Lib.hid (hrest.same HY.out.1)
      rw [hnb]
      clear hW2 hnb x0 x1 x2 x3 x4 x5 x6 x7 x8 x9 x10 hrest c0 c1 c2 c3 c4 c5
      obtain ⟨-, ⟨-, c0⟩, ⟨-, c1⟩, ⟨-, c2⟩, ⟨-, c3⟩, ⟨-, c4⟩, ⟨-, c5⟩, ⟨-, c6⟩, ⟨-, c7⟩, ⟨-, c8⟩, ⟨-, c9⟩, ⟨-, c10⟩, -⟩ := HY.out
      clear c1 c3 c4 c5 c6 c7 c8 c9 c10
      go_cut [46] (fun s' W3 => W2 = W3 ∧ s' = .bool ((h.op == a || h.op == b') && (nm.toList.isEmpty || h.nm.toList == nm.toList)))
      case first =>
        as_aux_lemma =>
          cases ha : (h.op == a)
          all_goals cases hb : (h.op == b')
          all_goals cases hn : nm.toList.isEmpty
          all_goals cases hm : (h.nm.toList == nm.toList)
          all_goals go_wp2_with fail
          all_goals go_meet
          all_goals exact ⟨rfl, by first | rfl | (rw [ha, hb, hn, hm]; rfl) | (simp [ha, hb, hn, hm])⟩
      obtain ⟨rfl, rfl⟩ := hcut
      have HE2 : Hid (res = (((h.op == a || h.op == b') && (nm.toList.isEmpty || h.nm.toList == nm.toList)) || insR R a b' nm)) := Lib.hid (HE.out.trans (by rw [insR]))
      generalize ((h.op == a || h.op == b') && (nm.toList.isEmpty || h.nm.toList == nm.toList)) = t at *
      cases t
      · go_wp2_with fail
        go_roundg R.len
        case measure => simp [StL.len]
        case rel => exact ⟨k + 1, R, rfl, by go_num, by simp only [StL.len] at hlen; omega, HE2.out, HRS.out, HB2.out⟩
      · go_wp2_with fail
        go_ret
        exact ⟨ret_bool HE2.out.symm, HB2.out.1⟩
end
end Go.Proofs.YtghdammalphmfaaDoor
end
section
set_option linter.unusedSimpArgs false
set_option linter.unusedVariables false
namespace Go.Proofs.YtghdammalphmfaaDoor
open Go.RowKit
open Md
/-- A block is laid, then filled. -/
def AC (W1 : World) (z v : Obj) : List Bool → World → Prop
  | [false, false], w' => w' = W1
  | [true, false], w' => w' = W1.alloc z
  | [true, true], w' => w' = W1.alloc v
  | _, _ => False
theorem AC.bits {W1 : World} {z v : Obj} : ∀ {c : List Bool} {w' : World}, AC W1 z v c w' → ∃ x y, c = [x, y]
  | [x, y], _, _ => ⟨x, y, rfl⟩
  | [], _, h => h.elim
  | [true], _, h => h.elim
  | [false], _, h => h.elim
  | _ :: _ :: _ :: _, _, h => by simp [AC] at h
theorem AC.skip {W1 : World} {z v : Obj} {a1 a2 i : Nat} {c : List Bool} {w' : World} (h1 : (a1 == i) = false) (h2 : (a2 == i) = false) (h : AC W1 z v c w') : AC W1 z v (setB [a1, a2] c i) w' := by
  obtain ⟨x, y, rfl⟩ := h.bits
  simpa [setB, h1, h2] using h
theorem AC.lay {W1 : World} {z v : Obj} {a1 a2 i : Nat} (h1 : (a1 == i) = true) (h2 : (a2 == i) = false) : AC W1 z v (setB [a1, a2] [false, false] i) (W1.alloc z) := by
  simp only [setB, h1, h2, Bool.or_false, Bool.or_true]; rfl
theorem AC.fill {W1 : World} {z v : Obj} {a1 a2 i : Nat} (h1 : (a1 == i) = false) (h2 : (a2 == i) = true) : AC W1 z v (setB [a1, a2] [true, false] i) (W1.alloc v) := by
  simp only [setB, h1, h2, Bool.or_false, Bool.or_true]; rfl
theorem AC.below {W W1 : World} {z v : Obj} {c : List Bool} {w' : World} (hb : Below W.heap.size W W1) (h : AC W1 z v c w') : Below W.heap.size W w' := by
  obtain ⟨x, y, rfl⟩ := h.bits
  cases x <;> cases y
  · have h : w' = W1 := h
    rw [h]; exact hb
  · exact h.elim
  · have h : w' = W1.alloc z := h
    rw [h]; exact hb.trans ((alloc_below _ _).mono hb.size)
  · have h : w' = W1.alloc v := h
    rw [h]; exact hb.trans ((alloc_below _ _).mono hb.size)
namespace Md
theorem empty_nil : (⟨#[]⟩ : ByteArray).toList = [] := by simp [Lib.toList_data]
theorem insR_P (k : Int) : ∀ ar : StL, insR ar k k ⟨#[]⟩ = insP ar [k]
  | .nil => rfl
  | .cons h b e r => by simp [insR, insP, insR_P k r, empty_nil]
theorem insR_one (k : Int) (nm : ByteArray) (hn : nm.toList.isEmpty = false) : ∀ ar : StL, insR ar k k nm = insN ar nm [k]
  | .nil => rfl
  | .cons h b e r => by simp [insR, insN, insR_one k nm hn r, hn]
theorem insR_two (a b : Int) (nm : ByteArray) (hn : nm.toList.isEmpty = false) : ∀ ar : StL, insR ar a b nm = insN ar nm [a, b]
  | .nil => rfl
  | .cons h _ _ r => by
    simp only [insR, insN, insR_two a b nm hn r, hn, List.any_cons, List.any_nil, Bool.or_false, Bool.false_or]
    cases h.op == a <;> cases h.op == b <;> cases h.nm.toList == nm.toList <;> rfl
theorem insP_two (a b : Int) : ∀ ar : StL, insP ar [a, b] = (insP ar [a] || insP ar [b])
  | .nil => rfl
  | .cons h _ _ r => by
    simp only [insP, insP_two a b r, List.any_cons, List.any_nil, Bool.or_false]
    cases h.op == a <;> cases h.op == b <;> cases insP r [a] <;> cases insP r [b] <;> rfl
theorem insP_three (a b c : Int) : ∀ ar : StL, insP ar [a, b, c] = ((insP ar [a] || insP ar [b]) || insP ar [c])
  | .nil => rfl
  | .cons h _ _ r => by
    simp only [insP, insP_three a b c r, List.any_cons, List.any_nil, Bool.or_false]
    cases h.op == a <;> cases h.op == b <;> cases h.op == c <;> cases insP r [a] <;> cases insP r [b] <;> cases insP r [c] <;> rfl
theorem first_two (a b : Int) : firstE [a, b] = orE a b := by
  unfold firstE orE; cases ha : a != 0
  · simp [firstE]; intro h; exact h.symm
  · simp
theorem first_three (a b c : Int) : firstE [a, b, c] = orE a (orE b c) := by
  rw [← first_two b c]; rfl
theorem kind_want (p : Pr) (i : Int) (nm : ByteArray) (k a : Int) (hk : 0 ≤ k ∧ k ≤ 9) (ha : conv k = a) : kindE (mean p i nm) [k] = wantE (conv (mean p i nm)) a a := by
  subst ha; exact (want_one _ k (mean_range p i nm) hk).symm
theorem kind_want2 (p : Pr) (i : Int) (nm : ByteArray) : kindE (mean p i nm) [1, 2] = wantE (conv (mean p i nm)) 8 1 :=
  (want_two _ 1 2 (mean_range p i nm) (by decide) (by decide)).symm
theorem decl_first {p : Pr} {i : Int} {nm : ByteArray} (h : wantE (conv (mean p i nm)) 5 5 = 0) : ∃ (k : Nat) (d : De) (r : List De), k < p.ds.length ∧ fidx (fun d : De => d.nm.toList == nm.toList) p.ds 0 = (k : Int) ∧ p.ds.drop k = d :: r ∧ d ∈ p.ds ∧ d.kind = 5 ∧ mutexP p.ds nm = d.on := by
  have h6 : mean p i nm = 6 := by
    rw [← kind_want p i nm 6 5 (by decide) rfl] at h
    exact kindE_zero h
  rcases fidx_spec (fun d : De => d.nm.toList == nm.toList) p.ds 0 with ⟨-, hn, -⟩ | ⟨k, d, r, hk, hf, hd, hs, -⟩
  · exfalso
    unfold mean meanD meanT at h6
    rw [hn] at h6
    split at h6
    · cases h6
    · simp only [Option.map_none, Option.getD_none] at h6
      split at h6 <;> cases h6
  · have hdm : declM d = 6 := by
      unfold mean meanD at h6
      rw [hs] at h6
      split at h6
      · cases h6
      · simpa using h6
    have h5 : d.kind = 5 := by
      unfold declM at hdm
      grind
    refine ⟨k, d, r, hk, by simpa using hf, hd, List.mem_of_find?_eq_some hs, h5, ?_⟩
    unfold mutexP
    have : p.ds.find? (fun d => d.kind == 5 && d.nm.toList == nm.toList) = some d := by
      clear hf hd hk h6 hdm h
      revert hs
      induction p.ds with
      | nil => intro hs; simp at hs
      | cons x r ih =>
        intro hs
        rw [List.find?_cons] at hs ⊢
        cases hx : x.nm.toList == nm.toList
        · rw [hx] at hs
          simp only [Bool.and_false]
          exact ih hs
        · rw [hx] at hs
          injection hs with hs
          subst hs
          simp [h5]
    rw [this]; rfl
end Md
open Md
theorem wkHolds {p : Pr} {w W : World} {aoD aoT : Option Addr} {capD capT : Nat} {i : Int} {aoA : Option Addr} {lenA capA bc : Nat} {aoS : Option Addr} {lenS capS : Nat} {aoE : Option Addr} {lenE capE n0 n1 : Nat} {h : StH} {b e : StL} {s : Sl} {u v : Value}
    (hs : Sit w W ((n1, 0, u) :: (n1, 1, v) :: stF n0 h b e s (wkF bc p aoD aoT capD capT i aoA lenA capA aoS lenS capS aoE lenE capE))) : Holds W (wkF bc p aoD aoT capD capT i aoA lenA capA aoS lenS capS aoE lenE capE) := hs.2.2.2.2.2.2.2.2.2.2.2.2.2.2
end Go.Proofs.YtghdammalphmfaaDoor
end
section
set_option linter.unusedVariables false
namespace Go.Proofs.YtghdammalphmfaaDoor
open Go.RowKit
open Md
def wkV (p : Pr) (aoD aoT : Option Addr) (capD capT : Nat) (i : Int) (v vs ve : Value) : Array Value := #[.slice aoD p.ds.length capD, .slice aoT p.ts.length capT, .int .i64 i, v, vs, ve]
/-- The program below B0, the walk between B0 and B1. -/
structure LayW where
  B0 : Nat
  B1 : Nat
  bc : Nat
  c0 : B0 ≤ bc
  c1 : bc < B1
def PrW (w : World) (B0 : Nat) (p : Pr) (aoD aoT : Option Addr) : Prop := p.ds.length ≤ maxLen ∧ p.ts.length ≤ maxLen ∧ DeAt w B0 p.ds aoD 0 ∧ ThAt w B0 p.ts aoT 0
theorem PrW.below {w w' : World} {B0 : Nat} {p : Pr} {aoD aoT : Option Addr} (h : PrW w B0 p aoD aoT) (hb : Below B0 w w') : PrW w' B0 p aoD aoT := ⟨h.1, h.2.1, h.2.2.1.below hb, h.2.2.2.below hb⟩
theorem PrW.use {w : World} {B0 : Nat} {p : Pr} {aoD aoT : Option Addr} (h : PrW w B0 p aoD aoT) (hB : B0 ≤ w.heap.size) : p.At w aoD aoT := ⟨h.1, h.2.1, h.2.2.1.mono hB, h.2.2.2.mono hB⟩
def txC (l : List ByteArray) : List Value := l.map .string
/-- A block is one of the rows of slices. -/
def Own (V : List Value) (k : Nat) : Prop := ∃ u ∈ V, u.ownBlock = some k
/-- What was there is as it was, but for the walk and the rows of its slices. -/
structure Kw (L : LayW) (V : List Value) (w w' : World) : Prop where
  os : w'.os = w.os
  tape : w'.tape = w.tape
  output : w'.output = w.output
  size : w.heap.size ≤ w'.heap.size
  block : ∀ k, k < w.heap.size → k ≠ L.bc → ¬ Own V k → w'.heap[k]? = w.heap[k]?
def OwnL (w : World) (V V' : List Value) : Prop := ∀ k, Own V' k → Own V k ∨ w.heap.size ≤ k
theorem Kw.refl (L : LayW) (V : List Value) (w : World) : Kw L V w w := ⟨rfl, rfl, rfl, Nat.le_refl _, fun _ _ _ _ => rfl⟩
theorem Kw.of_below {L : LayW} {V : List Value} {w w' : World} (h : Below w.heap.size w w') : Kw L V w w' := ⟨h.os, h.tape, h.output, h.size, fun k hk _ _ => h.block k hk⟩
theorem Kw.trans {L : LayW} {V V1 : List Value} {w w1 w2 : World} (h : Kw L V w w1) (ho : OwnL w V V1) (k : Kw L V1 w1 w2) : Kw L V w w2 :=
  ⟨k.os.trans h.os, k.tape.trans h.tape, k.output.trans h.output, Nat.le_trans h.size k.size, fun j hj hc hv => (k.block j (Nat.lt_of_lt_of_le hj h.size) hc (fun e => by
    rcases ho j e with e | e
    · exact hv e
    · omega)).trans (h.block j hj hc hv)⟩
theorem Kw.below {L : LayW} {V : List Value} {w w' : World} (h : Kw L V w w') (hB : L.B0 ≤ w.heap.size) (hv : ∀ k, Own V k → L.B1 ≤ k) : Below L.B0 w w' :=
  ⟨h.os, h.tape, h.output, h.size, fun k hk => h.block k (by omega) (by have := L.c0; omega) (fun e => by have := hv k e; have := L.c0; have := L.c1; omega)⟩
theorem Kw.far {L : LayW} {V : List Value} {w w' : World} {k : Nat} (h : Kw L V w w') (hk : k < w.heap.size) (hB : L.B1 ≤ k) (hv : ¬ Own V k) : w'.heap[k]? = w.heap[k]? :=
  h.block k hk (by have := L.c1; omega) hv
theorem OwnL.refl (w : World) (V : List Value) : OwnL w V V := fun _ h => .inl h
theorem OwnL.trans {w w1 : World} {V V1 V2 : List Value} (h : OwnL w V V1) (k : OwnL w1 V1 V2) (hs : w.heap.size ≤ w1.heap.size) : OwnL w V V2 := fun j hj => by
  rcases k j hj with e | e
  · exact h j e
  · exact .inr (Nat.le_trans hs e)
theorem OwnL.ne {w : World} {V V' : List Value} {k : Nat} (h : OwnL w V V') (hk : k < w.heap.size) (hv : ¬ Own V k) : ¬ Own V' k := fun e => by
  rcases h k e with e | e
  · exact hv e
  · omega
theorem owns_same {w w' : World} {base : Nat} {e : TypeId} {size n : Nat} {v : Value} {xs : List Value} (h : w.ownsRow base e size v n xs) (hb : ∀ k, v.ownBlock = some k → w'.heap[k]? = w.heap[k]?) : w'.ownsRow base e size v n xs := by
  refine ⟨h.1, ?_⟩
  rcases h.2 with h1 | ⟨g, cap, cur, hv, h1, h2, h3⟩
  · exact .inl h1
  · exact .inr ⟨g, cap, cur, hv, h1, (hb g (by rw [hv]; rfl)).trans h2, h3⟩
theorem txAt_row {w : World} {g : Nat} (hg : g < w.heap.size) : ∀ (l : List ByteArray) (k : Nat), (∀ j u, (txC l)[j]? = some u → w.cell? ⟨g, k + j, none⟩ = some u) → (∀ s ∈ l, s.size ≤ maxLen) → TxAt w w.heap.size l (some ⟨g, 0, none⟩) k
  | [], _, _, _ => trivial
  | s :: r, k, hc, hs => by
    refine ⟨⟨g, 0, rfl, hg, ?_, hs s (by simp)⟩, txAt_row hg r (k + 1) (fun j u hu => ?_) (fun y hy => hs y (by simp [hy]))⟩
    · rw [Nat.zero_add]; exact hc 0 _ rfl
    · rw [Nat.add_assoc, Nat.add_comm 1 j]; exact hc (j + 1) u (by simpa [txC] using hu)
theorem owns_tx {w : World} {base : Nat} {e : TypeId} {v : Value} {l : List ByteArray} (h : w.ownsRow base e 1 v l.length (txC l)) (hs : ∀ s ∈ l, s.size ≤ maxLen) : ∃ ao cap, v = .slice ao l.length cap ∧ TxAt w w.heap.size l ao 0 := by
  rcases h.2 with ⟨rfl, hn⟩ | ⟨g', cap, cur, rfl, hb, hg, h1, h2, h3, h4⟩
  · have : l = [] := List.eq_nil_of_length_eq_zero hn
    subst this
    exact ⟨none, 0, rfl, trivial⟩
  · refine ⟨_, _, rfl, txAt_row (Array.getElem?_eq_some_iff.1 hg).1 l 0 (fun j u hu => ?_) hs⟩
    rw [Nat.zero_add, cell_of_row w g' j cur _ (0, 0) hg]
    rw [← h4, List.getElem?_take] at hu
    split at hu
    · simpa using hu
    · cases hu
/-- The walk as it stands. -/
structure WkI (w : World) (L : LayW) (p : Pr) (aoD aoT : Option Addr) (capD capT : Nat) (i : Int) (A : List Fr) (fs gs : List ByteArray) (v vs ve : Value) : Prop where
  blk : w.heap[L.bc]? = some (.cells (wkV p aoD aoT capD capT i v vs ve) 67 (0, 0))
  row : w.ownsRow L.B1 48 11 v A.length (frC A)
  rs : w.ownsRow L.B1 9 1 vs fs.length (txC fs)
  re : w.ownsRow L.B1 9 1 ve gs.length (txC gs)
  d1 : ∀ k, v.ownBlock = some k → vs.ownBlock ≠ some k
  d2 : ∀ k, v.ownBlock = some k → ve.ownBlock ≠ some k
  d3 : ∀ k, vs.ownBlock = some k → ve.ownBlock ≠ some k
  sz : L.B1 ≤ w.heap.size
  dat : PrW w L.B0 p aoD aoT
  frs : FrIn w L.B0 A
  fo : ∀ s ∈ fs, s.size ≤ maxLen
  go : ∀ s ∈ gs, s.size ≤ maxLen
section
variable {w : World} {L : LayW} {p : Pr} {aoD aoT : Option Addr} {capD capT : Nat} {i : Int} {A : List Fr} {fs gs : List ByteArray} {v vs ve : Value}
theorem WkI.b0 (h : WkI w L p aoD aoT capD capT i A fs gs v vs ve) : L.B0 ≤ w.heap.size := by have := h.sz; have := L.c0; have := L.c1; omega
theorem own3 {k : Nat} : Own [v, vs, ve] k ↔ v.ownBlock = some k ∨ vs.ownBlock = some k ∨ ve.ownBlock = some k := by
  unfold Own; simp
theorem WkI.own (h : WkI w L p aoD aoT capD capT i A fs gs v vs ve) : ∀ k, Own [v, vs, ve] k → L.B1 ≤ k ∧ k < w.heap.size := fun k hk => by
  rcases own3.1 hk with e | e | e
  · exact h.row.lt k e
  · exact h.rs.lt k e
  · exact h.re.lt k e
theorem WkI.form (h : WkI w L p aoD aoT capD capT i A fs gs v vs ve) : ∃ aoA capA, v = .slice aoA A.length capA ∧ (frL A).At w w.heap.size aoA 0 := by
  rcases h.row.2 with ⟨rfl, hn⟩ | ⟨g', cap, cur, rfl, hb, hg, h1, h2, h3, h4⟩
  · have : A = [] := List.eq_nil_of_length_eq_zero hn
    subst this
    exact ⟨none, 0, rfl, trivial⟩
  · refine ⟨_, _, rfl, frAt h.b0 (Array.getElem?_eq_some_iff.1 hg).1 A 0 (fun j u hu => ?_) h.frs⟩
    rw [Nat.zero_mul, Nat.zero_add, cell_of_row w g' j cur _ (0, 0) hg]
    rw [← h4, List.getElem?_take] at hu
    split at hu
    · simpa using hu
    · cases hu
theorem WkI.formS (h : WkI w L p aoD aoT capD capT i A fs gs v vs ve) : ∃ ao cap, vs = .slice ao fs.length cap ∧ TxAt w w.heap.size fs ao 0 := owns_tx h.rs h.fo
theorem WkI.formE (h : WkI w L p aoD aoT capD capT i A fs gs v vs ve) : ∃ ao cap, ve = .slice ao gs.length cap ∧ TxAt w w.heap.size gs ao 0 := owns_tx h.re h.go
theorem WkI.holds {aoA aoS aoE : Option Addr} {capA lenS capS lenE capE : Nat} (h : WkI w L p aoD aoT capD capT i A fs gs (.slice aoA A.length capA) (.slice aoS lenS capS) (.slice aoE lenE capE)) : Holds w (wkF L.bc p aoD aoT capD capT i aoA (frL A).len capA aoS lenS capS aoE lenE capE) := by
  have hb := h.blk
  rw [frL_len]
  exact ⟨cell_blk hb (j := 0) rfl, cell_blk hb (j := 1) rfl, cell_blk hb (j := 2) rfl, cell_blk hb (j := 3) rfl, cell_blk hb (j := 4) rfl, cell_blk hb (j := 5) rfl, trivial⟩
theorem WkI.below {w' : World} (h : WkI w L p aoD aoT capD capT i A fs gs v vs ve) (hb : Below w.heap.size w w') : WkI w' L p aoD aoT capD capT i A fs gs v vs ve where
  blk := (hb.block _ (Array.getElem?_eq_some_iff.1 h.blk).1).trans h.blk
  row := owns_same h.row (fun k hk => hb.block k (h.row.lt k hk).2)
  rs := owns_same h.rs (fun k hk => hb.block k (h.rs.lt k hk).2)
  re := owns_same h.re (fun k hk => hb.block k (h.re.lt k hk).2)
  d1 := h.d1
  d2 := h.d2
  d3 := h.d3
  sz := Nat.le_trans h.sz hb.size
  dat := h.dat.below (hb.mono h.b0)
  frs := fun x hx => (h.frs x hx).below (hb.mono h.b0)
  fo := h.fo
  go := h.go
/-- What an append to a row u, a store into that row and a store into the walk leave. -/
theorem WkI.lows {wz w4 w5 : World} {u x : Value} {g' j : Nat} (h : WkI w L p aoD aoT capD capT i A fs gs v vs ve) (hu : u ∈ [v, vs, ve]) (hb : Below w.heap.size w wz) (hgr : wz.grownBy w4 u.ownBlock) (hat : u.ownBlock = some g' ∨ g' = wz.heap.size) (hgw : w4.grownBy w5 (some g')) :
    (∀ k, k < w.heap.size → u.ownBlock ≠ some k → w5.heap[k]? = w.heap[k]?) ∧ (∀ k, k < w.heap.size → k ≠ L.bc → u.ownBlock ≠ some k → (w5.setCell ⟨L.bc, j, none⟩ x).heap[k]? = w.heap[k]?) ∧
    Kw L [v, vs, ve] w (w5.setCell ⟨L.bc, j, none⟩ x) := by
  have hsz : w.heap.size ≤ w4.heap.size := Nat.le_trans hb.size hgr.size
  have hgz := setCell_grown w5 ⟨L.bc, j, none⟩ x
  have hlow : ∀ k, k < w.heap.size → u.ownBlock ≠ some k → w5.heap[k]? = w.heap[k]? := fun k hk hv => by
    have hkg : k ≠ g' := by
      rcases hat with e | e
      · intro e'; exact hv (by rw [e, e'])
      · have := hb.size; omega
    rw [hgw.block k (by omega) (by simp; exact hkg), hgr.block k (Nat.lt_of_lt_of_le hk hb.size) (fun e => hv e.symm), hb.block k hk]
  have hl2 : ∀ k, k < w.heap.size → k ≠ L.bc → u.ownBlock ≠ some k → (w5.setCell ⟨L.bc, j, none⟩ x).heap[k]? = w.heap[k]? := fun k hk hc hv => by
    rw [setCell_far w5 ⟨L.bc, j, none⟩ _ rfl (fun e => hc e.symm)]; exact hlow k hk hv
  refine ⟨hlow, hl2, ⟨hgz.os.trans (hgw.os.trans (hgr.os.trans hb.os)), hgz.tape.trans (hgw.tape.trans (hgr.tape.trans hb.tape)), hgz.output.trans (hgw.output.trans (hgr.output.trans hb.output)), Nat.le_trans hsz (Nat.le_trans hgw.size hgz.size), fun k hk hc hv => hl2 k hk hc (fun e => hv ⟨u, hu, e⟩)⟩⟩
theorem WkI.bcne (h : WkI w L p aoD aoT capD capT i A fs gs v vs ve) {u : Value} (hu : u ∈ [v, vs, ve]) : u.ownBlock ≠ some L.bc := fun e => by
  have := (h.own _ ⟨u, hu, e⟩).1; have := L.c1; omega
theorem WkI.push {wz w4 : World} {g' cap' : Nat} {zs : List Value} (h : WkI w L p aoD aoT capD capT i A fs gs v vs ve) (x : Fr) (hx : StInB w L.B0 x.h x.b x.e x.s) (hb : Below w.heap.size w wz) (hown : w4.ownsRow L.B1 48 11 (.slice (some ⟨g', 0, none⟩) (A.length + 1) cap') (A.length + 1) (frC A ++ zs)) (hgr : wz.grownBy w4 v.ownBlock) (hat : v.ownBlock = some g' ∨ g' = wz.heap.size) :
    WkI ((w4.setCells g' (A.length * 11) (stC x.h x.b x.e x.s)).setCell ⟨L.bc, 3, none⟩ (.slice (some ⟨g', 0, none⟩) (A.length + 1) cap')) L p aoD aoT capD capT i (A ++ [x]) fs gs (.slice (some ⟨g', 0, none⟩) (A.length + 1) cap') vs ve ∧
    Kw L [v, vs, ve] w ((w4.setCells g' (A.length * 11) (stC x.h x.b x.e x.s)).setCell ⟨L.bc, 3, none⟩ (.slice (some ⟨g', 0, none⟩) (A.length + 1) cap')) ∧ OwnL w [v, vs, ve] [.slice (some ⟨g', 0, none⟩) (A.length + 1) cap', vs, ve] := by
  have hg1 := (hown.lt g' rfl).1
  have hc1 := L.c1
  have hput := owns_put (vs := stC x.h x.b x.e x.s) hown (frC_len A) rfl
  generalize hw5 : w4.setCells g' (A.length * 11) (stC x.h x.b x.e x.s) = w5 at *
  have hgw : w4.grownBy w5 (some g') := by rw [← hw5]; exact setCells_grown _ _ _ _
  obtain ⟨hlow, hl2, hkw⟩ := h.lows (u := v) (x := .slice (some ⟨g', 0, none⟩) (A.length + 1) cap') (j := 3) (by simp) hb hgr hat hgw
  have hgz := setCell_grown w5 ⟨L.bc, 3, none⟩ (.slice (some ⟨g', 0, none⟩) (A.length + 1) cap')
  have hbel := hkw.below h.b0 (fun k e => (h.own k e).1)
  have hnew : ∀ k, Value.ownBlock (.slice (some ⟨g', 0, none⟩) (A.length + 1) cap') = some k → v.ownBlock = some k ∨ w.heap.size ≤ k := fun k hk => by
    have : g' = k := by simpa [Value.ownBlock] using hk
    subst this
    rcases hat with e | e
    · exact .inl e
    · exact .inr (by rw [e]; exact hb.size)
  refine ⟨?_, hkw, fun k hk => ?_⟩
  · refine { blk := ?_, row := ?_, rs := ?_, re := ?_, d1 := ?_, d2 := ?_, d3 := h.d3, sz := Nat.le_trans h.sz hkw.size, dat := h.dat.below hbel, frs := ?_, fo := h.fo, go := h.go }
    · exact setCell_blk ((hlow _ (Array.getElem?_eq_some_iff.1 h.blk).1 (h.bcne (by simp))).trans h.blk) _
    · rw [List.length_append, frC_snoc]
      refine hput.kept hgz (.inr ?_)
      simp [Value.ownBlock]; omega
    · exact owns_same h.rs (fun k hk => hl2 k (h.rs.lt k hk).2 (by have := (h.rs.lt k hk).1; omega) (fun e => h.d1 k e hk))
    · exact owns_same h.re (fun k hk => hl2 k (h.re.lt k hk).2 (by have := (h.re.lt k hk).1; omega) (fun e => h.d2 k e hk))
    · intro k hk e
      rcases hnew k hk with e' | e'
      · exact h.d1 k e' e
      · have := (h.rs.lt k e).2; omega
    · intro k hk e
      rcases hnew k hk with e' | e'
      · exact h.d2 k e' e
      · have := (h.re.lt k e).2; omega
    · intro y hy
      rcases List.mem_append.1 hy with hy | hy
      · exact (h.frs y hy).below hbel
      · obtain rfl := List.mem_singleton.1 hy; exact hx.below hbel
  · rcases own3.1 hk with e | e | e
    · rcases hnew k e with e' | e'
      · exact .inl (own3.2 (.inl e'))
      · exact .inr e'
    · exact .inl (own3.2 (.inr (.inl e)))
    · exact .inl (own3.2 (.inr (.inr e)))
theorem WkI.pop {wz : World} {g' cap' : Nat} (x : Fr) (h : WkI w L p aoD aoT capD capT i (A ++ [x]) fs gs (.slice (some ⟨g', 0, none⟩) (A.length + 1) cap') vs ve) (hb : Below w.heap.size w wz) :
    WkI (wz.setCell ⟨L.bc, 3, none⟩ (.slice (some ⟨g', 0, none⟩) A.length cap')) L p aoD aoT capD capT i A fs gs (.slice (some ⟨g', 0, none⟩) A.length cap') vs ve ∧
    Kw L [.slice (some ⟨g', 0, none⟩) (A.length + 1) cap', vs, ve] w (wz.setCell ⟨L.bc, 3, none⟩ (.slice (some ⟨g', 0, none⟩) A.length cap')) := by
  have hI := h.below hb
  have hc1 := L.c1
  have hgz := setCell_grown wz ⟨L.bc, 3, none⟩ (.slice (some ⟨g', 0, none⟩) A.length cap')
  have hkp : Kw L [.slice (some ⟨g', 0, none⟩) (A.length + 1) cap', vs, ve] w (wz.setCell ⟨L.bc, 3, none⟩ (.slice (some ⟨g', 0, none⟩) A.length cap')) :=
    ⟨hgz.os.trans hb.os, hgz.tape.trans hb.tape, hgz.output.trans hb.output, Nat.le_trans hb.size hgz.size, fun k hk hc _ => (hgz.block k (Nat.lt_of_lt_of_le hk hb.size) (by simp; exact hc)).trans (hb.block k hk)⟩
  have hbel : Below L.B0 wz (wz.setCell ⟨L.bc, 3, none⟩ (.slice (some ⟨g', 0, none⟩) A.length cap')) := grown_below hgz L.c0 hI.b0
  have hrow := hI.row
  rw [List.length_append, frC_snoc] at hrow
  have hg1 := (hrow.lt g' rfl).1
  have hfar : ∀ k, L.B1 ≤ k → (wz.setCell ⟨L.bc, 3, none⟩ (.slice (some ⟨g', 0, none⟩) A.length cap')).heap[k]? = wz.heap[k]? := fun k hk => setCell_far wz _ _ rfl (by show L.bc ≠ k; omega)
  refine ⟨{ blk := setCell_blk hI.blk _, row := (owns_drop hrow (frC_len A)).kept hgz (.inr (by simp [Value.ownBlock]; omega)), rs := owns_same hI.rs (fun k hk => hfar k (hI.rs.lt k hk).1), re := owns_same hI.re (fun k hk => hfar k (hI.re.lt k hk).1), d1 := fun k hk => h.d1 k hk, d2 := fun k hk => h.d2 k hk, d3 := h.d3, sz := Nat.le_trans hI.sz hgz.size, dat := hI.dat.below hbel, frs := fun y hy => (hI.frs y (by simp [hy])).below hbel, fo := h.fo, go := h.go }, hkp⟩
theorem txC_snoc (l : List ByteArray) (s : ByteArray) : txC (l ++ [s]) = txC l ++ [.string s] := by simp [txC]
theorem WkI.addS {wz w4 : World} {g' cap' : Nat} {nm : ByteArray} (h : WkI w L p aoD aoT capD capT i A fs gs v vs ve) (hn : nm.size ≤ maxLen) (hb : Below w.heap.size w wz) (hown : w4.ownsRow L.B1 9 1 (.slice (some ⟨g', 0, none⟩) (fs.length + 1) cap') (fs.length + 1) (txC fs ++ [.string nm])) (hgr : wz.grownBy w4 vs.ownBlock) (hat : vs.ownBlock = some g' ∨ g' = wz.heap.size) :
    WkI (w4.setCell ⟨L.bc, 4, none⟩ (.slice (some ⟨g', 0, none⟩) (fs.length + 1) cap')) L p aoD aoT capD capT i A (fs ++ [nm]) gs v (.slice (some ⟨g', 0, none⟩) (fs.length + 1) cap') ve ∧
    Kw L [v, vs, ve] w (w4.setCell ⟨L.bc, 4, none⟩ (.slice (some ⟨g', 0, none⟩) (fs.length + 1) cap')) ∧ OwnL w [v, vs, ve] [v, .slice (some ⟨g', 0, none⟩) (fs.length + 1) cap', ve] := by
  have hg1 := (hown.lt g' rfl).1
  have hc1 := L.c1
  obtain ⟨hlow, hl2, hkw⟩ := h.lows (u := vs) (x := .slice (some ⟨g', 0, none⟩) (fs.length + 1) cap') (j := 4) (by simp) hb hgr hat (grow_rf w4)
  have hgz := setCell_grown w4 ⟨L.bc, 4, none⟩ (.slice (some ⟨g', 0, none⟩) (fs.length + 1) cap')
  have hbel := hkw.below h.b0 (fun k e => (h.own k e).1)
  have hnew : ∀ k, Value.ownBlock (.slice (some ⟨g', 0, none⟩) (fs.length + 1) cap') = some k → vs.ownBlock = some k ∨ w.heap.size ≤ k := fun k hk => by
    have : g' = k := by simpa [Value.ownBlock] using hk
    subst this
    rcases hat with e | e
    · exact .inl e
    · exact .inr (by rw [e]; exact hb.size)
  refine ⟨?_, hkw, fun k hk => ?_⟩
  · refine { blk := ?_, row := ?_, rs := ?_, re := ?_, d1 := ?_, d2 := h.d2, d3 := ?_, sz := Nat.le_trans h.sz hkw.size, dat := h.dat.below hbel, frs := fun y hy => (h.frs y hy).below hbel, fo := ?_, go := h.go }
    · exact setCell_blk ((hlow _ (Array.getElem?_eq_some_iff.1 h.blk).1 (h.bcne (by simp))).trans h.blk) _
    · exact owns_same h.row (fun k hk => hl2 k (h.row.lt k hk).2 (by have := (h.row.lt k hk).1; omega) (fun e => h.d1 k hk e))
    · rw [List.length_append, txC_snoc]
      refine hown.kept hgz (.inr ?_)
      simp [Value.ownBlock]; omega
    · exact owns_same h.re (fun k hk => hl2 k (h.re.lt k hk).2 (by have := (h.re.lt k hk).1; omega) (fun e => h.d3 k e hk))
    · intro k hk e
      rcases hnew k e with e' | e'
      · exact h.d1 k hk e'
      · have := (h.row.lt k hk).2; omega
    · intro k hk e
      rcases hnew k hk with e' | e'
      · exact h.d3 k e' e
      · have := (h.re.lt k e).2; omega
    · intro y hy
      rcases List.mem_append.1 hy with hy | hy
      · exact h.fo y hy
      · obtain rfl := List.mem_singleton.1 hy; exact hn
  · rcases own3.1 hk with e | e | e
    · exact .inl (own3.2 (.inl e))
    · rcases hnew k e with e' | e'
      · exact .inl (own3.2 (.inr (.inl e')))
      · exact .inr e'
    · exact .inl (own3.2 (.inr (.inr e)))
theorem WkI.addE {wz w4 : World} {g' cap' : Nat} {nm : ByteArray} (h : WkI w L p aoD aoT capD capT i A fs gs v vs ve) (hn : nm.size ≤ maxLen) (hb : Below w.heap.size w wz) (hown : w4.ownsRow L.B1 9 1 (.slice (some ⟨g', 0, none⟩) (gs.length + 1) cap') (gs.length + 1) (txC gs ++ [.string nm])) (hgr : wz.grownBy w4 ve.ownBlock) (hat : ve.ownBlock = some g' ∨ g' = wz.heap.size) :
    WkI (w4.setCell ⟨L.bc, 5, none⟩ (.slice (some ⟨g', 0, none⟩) (gs.length + 1) cap')) L p aoD aoT capD capT i A fs (gs ++ [nm]) v vs (.slice (some ⟨g', 0, none⟩) (gs.length + 1) cap') ∧
    Kw L [v, vs, ve] w (w4.setCell ⟨L.bc, 5, none⟩ (.slice (some ⟨g', 0, none⟩) (gs.length + 1) cap')) ∧ OwnL w [v, vs, ve] [v, vs, .slice (some ⟨g', 0, none⟩) (gs.length + 1) cap'] := by
  have hg1 := (hown.lt g' rfl).1
  have hc1 := L.c1
  obtain ⟨hlow, hl2, hkw⟩ := h.lows (u := ve) (x := .slice (some ⟨g', 0, none⟩) (gs.length + 1) cap') (j := 5) (by simp) hb hgr hat (grow_rf w4)
  have hgz := setCell_grown w4 ⟨L.bc, 5, none⟩ (.slice (some ⟨g', 0, none⟩) (gs.length + 1) cap')
  have hbel := hkw.below h.b0 (fun k e => (h.own k e).1)
  have hnew : ∀ k, Value.ownBlock (.slice (some ⟨g', 0, none⟩) (gs.length + 1) cap') = some k → ve.ownBlock = some k ∨ w.heap.size ≤ k := fun k hk => by
    have : g' = k := by simpa [Value.ownBlock] using hk
    subst this
    rcases hat with e | e
    · exact .inl e
    · exact .inr (by rw [e]; exact hb.size)
  refine ⟨?_, hkw, fun k hk => ?_⟩
  · refine { blk := ?_, row := ?_, rs := ?_, re := ?_, d1 := h.d1, d2 := ?_, d3 := ?_, sz := Nat.le_trans h.sz hkw.size, dat := h.dat.below hbel, frs := fun y hy => (h.frs y hy).below hbel, fo := h.fo, go := ?_ }
    · exact setCell_blk ((hlow _ (Array.getElem?_eq_some_iff.1 h.blk).1 (h.bcne (by simp))).trans h.blk) _
    · exact owns_same h.row (fun k hk => hl2 k (h.row.lt k hk).2 (by have := (h.row.lt k hk).1; omega) (fun e => h.d2 k hk e))
    · exact owns_same h.rs (fun k hk => hl2 k (h.rs.lt k hk).2 (by have := (h.rs.lt k hk).1; omega) (fun e => h.d3 k hk e))
    · rw [List.length_append, txC_snoc]
      refine hown.kept hgz (.inr ?_)
      simp [Value.ownBlock]; omega
    · intro k hk e
      rcases hnew k e with e' | e'
      · exact h.d2 k hk e'
      · have := (h.row.lt k hk).2; omega
    · intro k hk e
      rcases hnew k e with e' | e'
      · exact h.d3 k hk e'
      · have := (h.rs.lt k hk).2; omega
    · intro y hy
      rcases List.mem_append.1 hy with hy | hy
      · exact h.go y hy
      · obtain rfl := List.mem_singleton.1 hy; exact hn
  · rcases own3.1 hk with e | e | e
    · exact .inl (own3.2 (.inl e))
    · exact .inl (own3.2 (.inr (.inl e)))
    · rcases hnew k e with e' | e'
      · exact .inl (own3.2 (.inr (.inr e')))
      · exact .inr e'
theorem WkI.setI {i' : Int} (h : WkI w L p aoD aoT capD capT i A fs gs v vs ve) : WkI (w.setCell ⟨L.bc, 2, none⟩ (.int .i64 i')) L p aoD aoT capD capT i' A fs gs v vs ve := by
  have hg := setCell_grown w ⟨L.bc, 2, none⟩ (.int .i64 i')
  have hbel := grown_below hg L.c0 h.b0
  have hc1 := L.c1
  have hfar : ∀ k, L.B1 ≤ k → (w.setCell ⟨L.bc, 2, none⟩ (.int .i64 i')).heap[k]? = w.heap[k]? := fun k hk => setCell_far w _ _ rfl (by show L.bc ≠ k; omega)
  exact { blk := by rw [setCell_blk h.blk]; rfl, row := owns_same h.row (fun k hk => hfar k (h.row.lt k hk).1), rs := owns_same h.rs (fun k hk => hfar k (h.rs.lt k hk).1), re := owns_same h.re (fun k hk => hfar k (h.re.lt k hk).1), d1 := h.d1, d2 := h.d2, d3 := h.d3, sz := Nat.le_trans h.sz hg.size, dat := h.dat.below hbel, frs := fun x hx => (h.frs x hx).below hbel, fo := h.fo, go := h.go }
end
end Go.Proofs.YtghdammalphmfaaDoor
end
