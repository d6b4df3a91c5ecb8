/-
  What stays in memory from a block on; rows of data that grow by append. No program in sight.
  What makes programs of numbers: its state as data, what is kept; contracts of Tape.Next, name and binary.
  Rows of statements, declarations, threads and texts that grow by append. No program in sight.
-/
import Derived.Test.YtghdammalphmfaaDoorGH
import Derived.Test.YtghdammalphmfaaDoorGK
import Derived.IntWalk
import Derived.Outline
import Derived.StillTailTactics
import Derived.Test.YtghdammalphmfaaDoorGE
section
namespace Go.Proofs.YtghdammalphmfaaDoor
open Go.RowKit
open Md
theorem cellb {w : World} {b j : Nat} {cs : Array Value} {t : TypeId} {fr : Nat × Nat} {u : Value} (h : w.heap[b]? = some (.cells cs t fr)) (hu : cs[j]? = some u) : w.cell? ⟨b, j, none⟩ = some u := by
  rw [cell_of_row w b j cs t fr h, hu]
/-- Nothing from B on has changed. -/
def Abv (B : Nat) (w w' : World) : Prop := w.heap.size ≤ w'.heap.size ∧ ∀ k, B ≤ k → k < w.heap.size → w'.heap[k]? = w.heap[k]?
theorem Abv.refl (B : Nat) (w : World) : Abv B w w := ⟨Nat.le_refl _, fun _ _ _ => rfl⟩
theorem Abv.trans {B : Nat} {w w1 w2 : World} (h : Abv B w w1) (k : Abv B w1 w2) : Abv B w w2 := ⟨Nat.le_trans h.1 k.1, fun j h1 h2 => (k.2 j h1 (Nat.lt_of_lt_of_le h2 h.1)).trans (h.2 j h1 h2)⟩
theorem Abv.mono {B B' : Nat} {w w' : World} (h : Abv B w w') (hB : B ≤ B') : Abv B' w w' := ⟨h.1, fun j h1 h2 => h.2 j (Nat.le_trans hB h1) h2⟩
theorem abv_below {B : Nat} {w w' : World} (h : Below w.heap.size w w') : Abv B w w' := ⟨h.size, fun k _ h2 => h.block k h2⟩
theorem abv_set {B : Nat} (w : World) (a : Addr) (v : Value) (h : a.block < B) : Abv B w (w.setCell a v) := ⟨by simp [World.setCell], fun k h1 _ => setCell_far w a v rfl (by omega)⟩
/-- What stays true whatever changes below B. -/
def Stay (B : Nat) (w : World) (Q : World → Prop) : Prop := ∀ w', Abv B w w' → Q w'
theorem Stay.next {B : Nat} {w w1 : World} {Q : World → Prop} (h : Stay B w Q) (hm : Abv B w w1) : Stay B w1 Q := fun w' h' => h w' (hm.trans h')
theorem Stay.now {B : Nat} {w : World} {Q : World → Prop} (h : Stay B w Q) : Q w := h w (Abv.refl _ _)
theorem Stay.mono {B B' : Nat} {w : World} {Q : World → Prop} (h : Stay B' w Q) (hB : B ≤ B') : Stay B w Q := fun w' h' => h w' (h'.mono hB)
/-- Nothing from B on has changed, but for one block. -/
def AbvX (B : Nat) (g : Option Nat) (w w' : World) : Prop := w.heap.size ≤ w'.heap.size ∧ ∀ k, B ≤ k → some k ≠ g → k < w.heap.size → w'.heap[k]? = w.heap[k]?
def StayX (B : Nat) (g : Option Nat) (w : World) (Q : World → Prop) : Prop := ∀ w', AbvX B g w w' → Q w'
section
variable {B B1 : Nat} {g : Option Nat} {w w' w1 : World} {Q : World → Prop}
theorem Abv.x (h : Abv B w w') : AbvX B g w w' := ⟨h.1, fun k h1 _ h2 => h.2 k h1 h2⟩
theorem AbvX.trans (h : AbvX B g w w1) (k : AbvX B g w1 w') : AbvX B g w w' := ⟨Nat.le_trans h.1 k.1, fun j h1 h2 h3 => (k.2 j h1 h2 (Nat.lt_of_lt_of_le h3 h.1)).trans (h.2 j h1 h2 h3)⟩
theorem AbvX.of_grown (h : w.grownBy w' g) : AbvX B g w w' := ⟨h.size, fun k _ h2 h3 => h.block k h3 h2⟩
theorem StayX.next (h : StayX B g w Q) (ha : AbvX B g w w1) : StayX B g w1 Q := fun w' h' => h w' (ha.trans h')
theorem StayX.stay (h : StayX B g w Q) : Stay B w Q := fun w' ha => h w' ha.x
theorem stayX_of (h : Stay B1 w Q) (hB : B ≤ B1) (hg : ∀ k, g = some k → k < B1) : StayX B g w Q := fun w' ha =>
  h w' ⟨ha.1, fun k h1 h2 => ha.2 k (Nat.le_trans hB h1) (fun e => absurd (hg k e.symm) (by omega)) h2⟩
/-- The row moves. -/
theorem StayX.move {g' : Nat} (h : StayX B g w Q) (hg : w.grownBy w' g) (hn : g = some g' ∨ g' = w.heap.size) : StayX B (some g') w' Q := fun w2 h2 =>
  h w2 ⟨Nat.le_trans hg.size h2.1, fun k h3 h4 h5 => by
    have hk : some k ≠ some g' := fun e => by
      rcases hn with rfl | rfl
      · exact h4 e
      · injection e with e; omega
    exact (h2.2 k h3 hk (Nat.lt_of_lt_of_le h5 hg.size)).trans (hg.block k h5 h4)⟩
end
theorem flat_len {α : Type} {f : α → List Value} {m : Nat} (hf : ∀ x, (f x).length = m) : ∀ xs : List α, (xs.flatMap f).length = xs.length * m
  | [] => by simp
  | x :: xs => by rw [List.flatMap_cons, List.length_append, flat_len hf xs, hf, List.length_cons, Nat.add_mul, Nat.one_mul, Nat.add_comm]
theorem flat_get {α : Type} {f : α → List Value} {m : Nat} (hf : ∀ x, (f x).length = m) : ∀ (xs : List α) (k : Nat) (x : α) (j : Nat) (u : Value), xs[k]? = some x → (f x)[j]? = some u → (xs.flatMap f)[k * m + j]? = some u
  | [], _, _, _, _, h, _ => by simp at h
  | y :: xs, 0, x, j, u, h, hu => by
    simp at h; subst h
    have hj : j < (f y).length := (List.getElem?_eq_some_iff.1 hu).1
    rw [List.flatMap_cons, Nat.zero_mul, Nat.zero_add, List.getElem?_append_left hj]; exact hu
  | y :: xs, k + 1, x, j, u, h, hu => by
    have ih := flat_get hf xs k x j u (by simpa using h) hu
    rw [List.flatMap_cons, List.getElem?_append_right (by rw [hf, Nat.add_mul]; omega), hf, show (k + 1) * m + j - m = k * m + j by rw [Nat.add_mul]; omega]
    exact ih
/-- A row of data of the call's own: the cells of its elements; what lies behind them stays. -/
structure Grow {α : Type} (f : α → List Value) (m : Nat) (I : α → World → Prop) (ty : TypeId) (B : Nat) (w : World) (v : Value) (xs : List α) : Prop where
  own : w.ownsRow B ty m v xs.length (xs.flatMap f)
  stay : ∀ x ∈ xs, StayX B v.ownBlock w (I x)
section
variable {α : Type} {f : α → List Value} {m : Nat} {I : α → World → Prop} {ty : TypeId} {B : Nat} {w w' : World} {v : Value} {xs : List α}
theorem Grow.nil (f : α → List Value) (m : Nat) (I : α → World → Prop) (ty : TypeId) (B : Nat) (w : World) : Grow f m I ty B w (.slice none 0 0) [] := ⟨World.ownsRow_nil _ _ _ _, fun x hx => by cases hx⟩
theorem Grow.lt (h : Grow f m I ty B w v xs) : ∀ k, v.ownBlock = some k → B ≤ k ∧ k < w.heap.size := h.own.lt
theorem Grow.len (h : Grow f m I ty B w v xs) : ∃ ao cap, v = .slice ao xs.length cap := by
  rcases h.own.2 with ⟨h1, h2⟩ | ⟨g, cap, cur, h1, -⟩
  · exact ⟨none, 0, by rw [h1, h2]⟩
  · exact ⟨_, _, h1⟩
theorem Grow.next (h : Grow f m I ty B w v xs) (ha : Abv B w w') : Grow f m I ty B w' v xs := by
  refine ⟨⟨h.own.1, ?_⟩, fun x hx => (h.stay x hx).next ha.x⟩
  rcases h.own.2 with h1 | ⟨g, cap, cur, h1, h2, h3, h4⟩
  · exact .inl h1
  · exact .inr ⟨g, cap, cur, h1, h2, (ha.2 g h2 (Array.getElem?_eq_some_iff.1 h3).1).trans h3, h4⟩
/-- One more element. -/
theorem Grow.push {x : α} {g cap n : Nat} (h : Grow f m I ty B w v xs) (hx : StayX B v.ownBlock w (I x)) (hn : n = xs.length + 1) (hown : w'.ownsRow B ty m (.slice (some ⟨g, 0, none⟩) n cap) n (xs.flatMap f ++ f x)) (hg : w.grownBy w' v.ownBlock) (hmv : v.ownBlock = some g ∨ g = w.heap.size) :
    Grow f m I ty B w' (.slice (some ⟨g, 0, none⟩) n cap) (xs ++ [x]) := by
  subst hn
  refine ⟨by rw [List.flatMap_append, List.flatMap_singleton, List.length_append]; exact hown, fun y hy => ?_⟩
  show StayX B (some g) w' (I y)
  rcases List.mem_append.1 hy with hy | hy
  · exact (h.stay y hy).move hg hmv
  · rw [List.mem_singleton.1 hy]; exact hx.move hg hmv
/-- What a row says, and goes on to say. -/
theorem Grow.cells (hf : ∀ x, (f x).length = m) (h : Grow f m I ty B w v xs) : Stay B w (fun w2 => (∀ x ∈ xs, I x w2) ∧ ∃ ao cap, v = .slice ao xs.length cap ∧ xs.length ≤ cap ∧ ∀ k x, xs[k]? = some x → ∃ g, ao = some ⟨g, 0, none⟩ ∧ B ≤ g ∧ g < w2.heap.size ∧ ∀ j u, (f x)[j]? = some u → w2.cell? ⟨g, k * m + j, none⟩ = some u) := fun w2 h2 => by
  refine ⟨fun x hx => (h.stay x hx) w2 h2.x, ?_⟩
  rcases h.own.2 with ⟨h1, h3⟩ | ⟨g, cap, cur, h1, hB, hg, hc, -, hs, ht⟩
  · refine ⟨none, 0, by rw [h1, h3], by omega, fun k x hk => ?_⟩
    have := (List.getElem?_eq_some_iff.1 hk).1; omega
  · refine ⟨some ⟨g, 0, none⟩, cap, h1, hc, fun k x hk => ⟨g, rfl, hB, ?_⟩⟩
    have hg2 := (h2.2 g hB (Array.getElem?_eq_some_iff.1 hg).1).trans hg
    refine ⟨(Array.getElem?_eq_some_iff.1 hg2).1, fun j u hu => ?_⟩
    have hF := flat_get hf xs k x j u hk hu
    rw [← ht] at hF
    have hlt := (List.getElem?_eq_some_iff.1 hF).1
    rw [List.getElem?_take_of_lt (by rw [List.length_take] at hlt; omega)] at hF
    exact cellb hg2 (by rw [← hF]; simp)
end
/-- A new block of one element. -/
theorem new_cells {W : World} {cs : List Value} {t : TypeId} {fr : Nat × Nat} {g : Nat} (h : W.heap[g]? = some (.cells cs.toArray t fr)) : ∀ j u, cs[j]? = some u → W.cell? ((⟨g, 0, none⟩ : Addr).add j) = some u := fun j u hu => by
  have := cellb (j := j) (u := u) h (by simpa using hu)
  rcases Nat.eq_zero_or_pos j with rfl | hj
  · simpa [Addr.add] using this
  · simpa [Addr.add, Nat.ne_of_gt hj] using this
end Go.Proofs.YtghdammalphmfaaDoor
end
section
set_option linter.unusedSimpArgs false
set_option linter.unusedVariables false
namespace Go.Proofs.YtghdammalphmfaaDoor
open Go.RowKit
open Md
/-- Where the tape and its maker lie; the bytes of the tape lie below B0. -/
structure Tp where
  B0 : Nat
  bt : Nat
  bm : Nat
  ao : Option Addr
  cap : Nat
  zs : List Int
  t0 : B0 ≤ bt
  m0 : B0 ≤ bm
  tm : bt ≠ bm
def Byt (w : World) (B : Nat) (zs : List Int) (ao : Option Addr) : Prop := ∀ (k : Nat) (hk : k < zs.length), ∃ b off, ao = some ⟨b, off, none⟩ ∧ b < B ∧ w.cell? ⟨b, off + k, none⟩ = some (.int .u8 zs[k]) ∧ 0 ≤ zs[k] ∧ zs[k] ≤ 255
theorem Byt.below {w w' : World} {B : Nat} {zs : List Int} {ao : Option Addr} (h : Byt w B zs ao) (hb : Below B w w') : Byt w' B zs ao := fun k hk => by
  obtain ⟨b, off, e, hB, hc, hz⟩ := h k hk
  exact ⟨b, off, e, hB, (hb.cell hB).trans hc, hz⟩
structure TapeI (w : World) (T : Tp) : Prop where
  blk : ∃ at' : Nat, at' ≤ T.zs.length ∧ w.heap[T.bt]? = some (.cells #[.slice T.ao T.zs.length T.cap, .int .i64 at'] 53 (0, 0))
  byt : Byt w T.B0 T.zs T.ao
  len : T.zs.length ≤ 1000000
theorem TapeI.lt {w : World} {T : Tp} (h : TapeI w T) : T.bt < w.heap.size := by obtain ⟨a, -, h⟩ := h.blk; exact (Array.getElem?_eq_some_iff.1 h).1
theorem TapeI.b0 {w : World} {T : Tp} (h : TapeI w T) : T.B0 ≤ w.heap.size := by have := h.lt; have := T.t0; omega
structure MdI (w : World) (T : Tp) : Prop where
  tape : TapeI w T
  blm : ∃ line left : Int, I64 line ∧ 0 ≤ left ∧ left ≤ 100 ∧ w.heap[T.bm]? = some (.cells #[.pointer (some ⟨T.bt, 0, none⟩), .int .i64 line, .int .i64 left] 55 (0, 0))
theorem MdI.lt {w : World} {T : Tp} (h : MdI w T) : T.bm < w.heap.size := by obtain ⟨a, b, -, -, -, h⟩ := h.blm; exact (Array.getElem?_eq_some_iff.1 h).1
/-- What was there is as it was, but for the tape and its maker. -/
structure Mk (T : Tp) (w w' : World) : Prop where
  os : w'.os = w.os
  tape : w'.tape = w.tape
  output : w'.output = w.output
  size : w.heap.size ≤ w'.heap.size
  block : ∀ k, k < w.heap.size → k ≠ T.bt → k ≠ T.bm → w'.heap[k]? = w.heap[k]?
theorem Mk.refl (T : Tp) (w : World) : Mk T w w := ⟨rfl, rfl, rfl, Nat.le_refl _, fun _ _ _ _ => rfl⟩
theorem Mk.trans {T : Tp} {w w1 w2 : World} (h : Mk T w w1) (k : Mk T w1 w2) : Mk T w w2 :=
  ⟨k.os.trans h.os, k.tape.trans h.tape, k.output.trans h.output, Nat.le_trans h.size k.size, fun j hj h1 h2 => (k.block j (Nat.lt_of_lt_of_le hj h.size) h1 h2).trans (h.block j hj h1 h2)⟩
theorem Mk.of_below {T : Tp} {w w' : World} (h : Below w.heap.size w w') : Mk T w w' := ⟨h.os, h.tape, h.output, h.size, fun k hk _ _ => h.block k hk⟩
theorem Mk.of_t {T : Tp} {w w' : World} (h : w.grownBy w' (some T.bt)) : Mk T w w' := ⟨h.os, h.tape, h.output, h.size, fun k hk h1 _ => h.block k hk (by simp; exact h1)⟩
theorem Mk.of_m {T : Tp} {w w' : World} (h : w.grownBy w' (some T.bm)) : Mk T w w' := ⟨h.os, h.tape, h.output, h.size, fun k hk _ h1 => h.block k hk (by simp; exact h1)⟩
theorem Mk.below {T : Tp} {w w' : World} (h : Mk T w w') (hB : T.B0 ≤ w.heap.size) : Below T.B0 w w' :=
  ⟨h.os, h.tape, h.output, h.size, fun k hk => h.block k (by omega) (by have := T.t0; omega) (by have := T.m0; omega)⟩
theorem MdI.below {T : Tp} {w w' : World} (h : MdI w T) (hb : Below w.heap.size w w') : MdI w' T := by
  obtain ⟨a, h1, h2⟩ := h.tape.blk
  obtain ⟨l, m, h3, h4, h5, h6⟩ := h.blm
  exact ⟨⟨⟨a, h1, (hb.block _ h.tape.lt).trans h2⟩, h.tape.byt.below (hb.mono h.tape.b0), h.tape.len⟩, ⟨l, m, h3, h4, h5, (hb.block _ h.lt).trans h6⟩⟩
theorem Mk.abv {T : Tp} {w w' : World} {B : Nat} (h : Mk T w w') (ht : T.bt < B) (hm : T.bm < B) : Abv B w w' := ⟨h.size, fun k h1 h2 => h.block k h2 (by omega) (by omega)⟩
theorem Mk.set {T : Tp} {w w' : World} (h : Mk T w w') (a : Addr) (v : Value) (hb : w.heap.size ≤ a.block) : Mk T w (w'.setCell a v) :=
  ⟨h.os, h.tape, h.output, by have := h.size; simpa [World.setCell] using this, fun k hk h1 h2 => (setCell_far w' a v rfl (by omega)).trans (h.block k hk h1 h2)⟩
theorem MdI.set {T : Tp} {w : World} (h : MdI w T) (a : Addr) (v : Value) (h0 : T.B0 ≤ a.block) (h1 : a.block ≠ T.bt) (h2 : a.block ≠ T.bm) : MdI (w.setCell a v) T := by
  obtain ⟨x, k1, k2⟩ := h.tape.blk
  obtain ⟨l, m, k3, k4, k5, k6⟩ := h.blm
  have hg := setCell_grown w a v
  exact ⟨⟨⟨x, k1, (setCell_far w a v rfl h1).trans k2⟩, h.tape.byt.below (grown_below hg h0 h.tape.b0), h.tape.len⟩, ⟨l, m, k3, k4, k5, (setCell_far w a v rfl h2).trans k6⟩⟩
/-- What Next leaves. -/
def NextP (T : Tp) (n : Int) (w : World) (e : Ending) (w' : World) : Prop := ∃ r : Int, e = .returned (.int .i64 r) ∧ 0 ≤ r ∧ (0 < n → r < n) ∧ r ≤ 255 ∧ w.grownBy w' (some T.bt) ∧ TapeI w' T
theorem nextP_mk {T : Tp} {n r : Int} {w w' : World} (h0 : 0 ≤ r) (h1 : 0 < n → r < n) (h2 : r ≤ 255) (h3 : w.grownBy w' (some T.bt)) (h4 : TapeI w' T) : NextP T n w (.returned (.int .i64 r)) w' := ⟨r, rfl, h0, h1, h2, h3, h4⟩
theorem grown_draws {b : Nat} (w : World) (n : Nat) : w.grownBy (w.drewN n) (some b) := grow_below (below_drewN (Below.refl _ _) n)
theorem TapeI.draws {w : World} {T : Tp} (h : TapeI w T) (n : Nat) : TapeI (w.drewN n) T := by
  obtain ⟨a, h1, h2⟩ := h.blk
  have hb := below_drewN (Below.refl w.heap.size w) n
  exact ⟨⟨a, h1, (hb.block _ h.lt).trans h2⟩, h.byt.below (hb.mono h.b0), h.len⟩
set_option maxHeartbeats 2000000 in
set_option maxRecDepth 100000 in
theorem Next_any (T : Tp) (n : Int) (w : World) (hn : I64 n) (hI : TapeI w T) :
    Calls Tryd.prog 16 #[.pointer (some ⟨T.bt, 0, none⟩), .int .i64 n] w (NextP T n w) := by
  obtain ⟨a, ha, hblk⟩ := hI.blk
  have HI := Lib.hid hI
  have HB := Lib.hid hblk
  have hlen := hI.len
  obtain ⟨hn1, hn2⟩ := hn
  have c0 : w.cell? ⟨T.bt, 0, none⟩ = some (.slice T.ao T.zs.length T.cap) := (cell_blk hblk (j := 0) rfl).2
  have c1 : w.cell? ⟨T.bt, 1, none⟩ = some (.int .i64 (a : Int)) := (cell_blk hblk (j := 1) rfl).2
  clear hI hblk
  by_cases h1 : T.zs.length ≤ a
  · have hd : decide ((T.zs.length : Int) ≤ (a : Int)) = true := by rw [decide_eq_true_iff]; omega
    go_enter Tryd.func16, Tryd.ntmps16
    go_wp2_with fail
    go_quiet (fail)
    go_wp2_with fail
    go_ret
    exact nextP_mk (by omega) (by omega) (by omega) (grown_draws _ _) (HI.out.draws _)
  · have hd : decide ((T.zs.length : Int) ≤ (a : Int)) = false := by rw [decide_eq_false_iff_not]; omega
    by_cases h2 : n < 1
    · have hd2 : decide (n < 1) = true := by rw [decide_eq_true_iff]; omega
      go_enter Tryd.func16, Tryd.ntmps16
      go_wp2_with fail
      go_quiet (fail)
      go_wp2_with fail
      go_ret
      exact nextP_mk (by omega) (by omega) (by omega) (grown_draws _ _) (HI.out.draws _)
    · have hd2 : decide (n < 1) = false := by rw [decide_eq_false_iff_not]; omega
      go_enter Tryd.func16, Tryd.ntmps16
      go_wp2_with fail
      go_quiet (fail)
      generalize hW : World.drewN w _ = W1
      have HI1 : Hid (TapeI W1 T) := Lib.hid (by rw [← hW]; exact HI.out.draws _)
      have HG1 : Hid (w.grownBy W1 (some T.bt)) := Lib.hid (by rw [← hW]; exact grown_draws _ _)
      have HB1 : Hid (W1.heap[T.bt]? = some (.cells #[.slice T.ao T.zs.length T.cap, .int .i64 (a : Int)] 53 (0, 0))) := Lib.hid (by rw [← hW]; exact ((below_drewN (Below.refl w.heap.size w) _).block _ HI.out.lt).trans HB.out)
      clear hW c0 c1 HI HB hd hd2
      have c1 : W1.cell? ⟨T.bt, 1, none⟩ = some (.int .i64 (a : Int)) := (cell_blk HB1.out (j := 1) rfl).2
      have f1 : W1.frozen? ⟨T.bt, 1, none⟩ = false := free_blk HB1.out
      go_upto_region 4 with fail
      generalize hW2 : World.setCell W1 _ _ = W2
      have HB2 : Hid (W2.heap[T.bt]? = some (.cells #[.slice T.ao T.zs.length T.cap, .int .i64 ((a : Int) + 1)] 53 (0, 0))) := Lib.hid (by rw [← hW2, setCell_blk HB1.out]; rfl)
      have HG2 : Hid (W1.grownBy W2 (some T.bt)) := Lib.hid (by rw [← hW2]; exact setCell_grown _ _ _)
      have HBY : Hid (Byt W2 T.B0 T.zs T.ao) := Lib.hid (HI1.out.byt.below (grown_below HG2.out T.t0 HI1.out.b0))
      have HI2 : Hid (TapeI W2 T) := Lib.hid ⟨⟨a + 1, by omega, by rw [HB2.out]; rfl⟩, HBY.out, HI1.out.len⟩
      have HG := Lib.hid (grow_trans HG1.out HG2.out)
      clear hW2 c1 f1 HG1 HG2 HB1
      have ha : a < T.zs.length := by omega
      obtain ⟨bb, off, hao, hbb, hcell, hz0, hz1⟩ := HBY.out a ha
      have c0 : W2.cell? ⟨T.bt, 0, none⟩ = some (.slice T.ao T.zs.length T.cap) := (cell_blk HB2.out (j := 0) rfl).2
      have c1 : W2.cell? ⟨T.bt, 1, none⟩ = some (.int .i64 ((a : Int) + 1)) := (cell_blk HB2.out (j := 1) rfl).2
      rw [hao] at c0
      generalize T.zs[a] = z at *
      have hw1 : (a : Int) + 1 - 1 = (a : Int) := by omega
      have hw2 : IntKind.i64.wrap (a : Int) = (a : Int) := IntWalk.i64_in _ (by omega)
      have hb0 : (0 : Int) ≤ (a : Int) := by omega
      have hb1 : (a : Int) < (T.zs.length : Int) := by omega
      have HAO := Lib.hid hao
      clear hao HI1
      go_quiet (fail)
      go_wp2_with fail
      go_ret
      have e1 := Int.emod_nonneg z (show n ≠ 0 by omega)
      have e2 := Int.emod_lt_of_pos z (show 0 < n by omega)
      have e3 : z % n ≤ 255 := by
        by_cases hzn : z < n
        · rw [Int.emod_eq_of_lt hz0 hzn]; exact hz1
        · omega
      exact nextP_mk e1 (fun _ => e2) e3 (grow_trans HG.out (grown_draws _ _)) (HI2.out.draws _)
/-- The four cells of an expression. -/
def exC (op n : Int) (nm : ByteArray) (kids : ExL) (ao : Option Addr) (cap : Nat) : List Value := [.int .i64 op, .int .i64 n, .string nm, .slice ao kids.len cap]
def exV (op n : Int) (nm : ByteArray) (kids : ExL) (ao : Option Addr) (cap : Nat) : Value := .agg #[.int .i64 op, .int .i64 n, .string nm, .slice ao kids.len cap]
/-- A shaped expression. -/
def ExS (op n : Int) (nm : ByteArray) (kids : ExL) : Prop := ExOk op n nm kids ∧ shpE op n nm kids = true
/-- A name. -/
def NmS (s : ByteArray) : Prop := s.size ≤ maxLen ∧ Tk.isNm s.data.toList = true
theorem shpL_one {op n : Int} {nm : ByteArray} {kids : ExL} (h : shpE op n nm kids = true) : shpL (.cons op n nm kids .nil) = true := by
  show (shpE op n nm kids && shpL .nil) = true; rw [h]; rfl
theorem shpL_two {op n op' n' : Int} {nm nm' : ByteArray} {kids kids' : ExL} (h : shpE op n nm kids = true) (h' : shpE op' n' nm' kids' = true) : shpL (.cons op n nm kids (.cons op' n' nm' kids' .nil)) = true := by
  show (shpE op n nm kids && shpL _) = true; rw [h, shpL_one h']; rfl
theorem shp_un {a op n : Int} {nm : ByteArray} {kids : ExL} (ha : a = 4 ∨ a = 5) (h : shpE op n nm kids = true) : shpE a 0 ⟨#[]⟩ (.cons op n nm kids .nil) = true := by
  unfold shpE; rw [shpL_one h]; rcases ha with rfl | rfl <;> rfl
theorem shp_bin {r op n op' n' : Int} {nm nm' : ByteArray} {kids kids' : ExL} (h0 : 0 ≤ r) (h1 : r < 13) (h : shpE op n nm kids = true) (h' : shpE op' n' nm' kids' = true) : shpE (6 + r) 0 ⟨#[]⟩ (.cons op n nm kids (.cons op' n' nm' kids' .nil)) = true := by
  unfold shpE; rw [shpL_two h h']
  have : r = 0 ∨ r = 1 ∨ r = 2 ∨ r = 3 ∨ r = 4 ∨ r = 5 ∨ r = 6 ∨ r = 7 ∨ r = 8 ∨ r = 9 ∨ r = 10 ∨ r = 11 ∨ r = 12 := by omega
  rcases this with rfl | rfl | rfl | rfl | rfl | rfl | rfl | rfl | rfl | rfl | rfl | rfl | rfl <;> rfl
theorem shp_num {z : Int} (hz : 0 ≤ z) : shpE 1 z ⟨#[]⟩ .nil = true := by
  unfold shpE shp1; rw [decide_eq_false (by omega)]; cases (z == 0) <;> rfl
theorem shp_nm {s : ByteArray} (hs : Tk.isNm s.data.toList = true) : shpE 2 0 s .nil = true := by
  unfold shpE shp1 nmOr named; simp [hs, ExL.len, opsOf, shpL]
theorem shp_idx {s : ByteArray} {l : ExL} (hs : Tk.isNm s.data.toList = true) (hl : l.len = 1) (h : shpL l = true) : shpE 3 0 s l = true := by
  unfold shpE shp1 nmOr named; simp [hs, hl, opsOf, h]
/-- What a made expression leaves. -/
def ExP (T : Tp) (w : World) (e : Ending) (w' : World) : Prop := ∃ op n nm kids ao cap, e = .returned (exV op n nm kids ao cap) ∧ ExS op n nm kids ∧ Mk T w w' ∧ MdI w' T ∧ Stay w.heap.size w' (fun w2 => kids.At w2 w2.heap.size ao 0)
theorem stay_row {B : Nat} {w : World} {g : Nat} {cs : Array Value} {t : TypeId} {fr : Nat × Nat} (hb : w.heap[g]? = some (.cells cs t fr)) (ht : B ≤ g) : Stay B w (fun w2 => g < w2.heap.size ∧ ∀ j u, cs[j]? = some u → w2.cell? ⟨g, j, none⟩ = some u) := fun w2 h => by
  have h2 := (h.2 g ht (Array.getElem?_eq_some_iff.1 hb).1).trans hb
  exact ⟨(Array.getElem?_eq_some_iff.1 h2).1, fun j u hu => (cell_blk h2 hu).2⟩
theorem stay_one {B : Nat} {w : World} {g : Nat} {op n : Int} {nm : ByteArray} {kids : ExL} {ao : Option Addr} {cap : Nat} {t : TypeId} {fr : Nat × Nat} (hb : w.heap[g]? = some (.cells (exC op n nm kids ao cap).toArray t fr)) (ht : B ≤ g) (hok : ExOk op n nm kids) (hk : Stay B w (fun w2 => kids.At w2 w2.heap.size ao 0)) :
    Stay B w (fun w2 => (ExL.cons op n nm kids .nil).At w2 w2.heap.size (some ⟨g, 0, none⟩) 0) := fun w2 h => by
  obtain ⟨hl, hc⟩ := stay_row hb ht w2 h
  exact ⟨⟨g, 0, ao, cap, rfl, hl, hc 0 _ rfl, hc 1 _ rfl, hc 2 _ rfl, hc 3 _ rfl, hok, hk w2 h⟩, trivial⟩
theorem stay_two {B : Nat} {w : World} {g : Nat} {op n op' n' : Int} {nm nm' : ByteArray} {kids kids' : ExL} {ao ao' : Option Addr} {cap cap' : Nat} {t : TypeId} {fr : Nat × Nat} (hb : w.heap[g]? = some (.cells (exC op n nm kids ao cap ++ exC op' n' nm' kids' ao' cap').toArray t fr)) (ht : B ≤ g) (hok : ExOk op n nm kids) (hk : Stay B w (fun w2 => kids.At w2 w2.heap.size ao 0)) (hok' : ExOk op' n' nm' kids') (hk' : Stay B w (fun w2 => kids'.At w2 w2.heap.size ao' 0)) :
    Stay B w (fun w2 => (ExL.cons op n nm kids (.cons op' n' nm' kids' .nil)).At w2 w2.heap.size (some ⟨g, 0, none⟩) 0) := fun w2 h => by
  obtain ⟨hl, hc⟩ := stay_row hb ht w2 h
  exact ⟨⟨g, 0, ao, cap, rfl, hl, hc 0 _ rfl, hc 1 _ rfl, hc 2 _ rfl, hc 3 _ rfl, hok, hk w2 h⟩, ⟨g, 0, ao', cap', rfl, hl, hc 4 _ rfl, hc 5 _ rfl, hc 6 _ rfl, hc 7 _ rfl, hok', hk' w2 h⟩, trivial⟩
theorem name_any (s : ByteArray) (w : World) :
    Calls Tryd.prog 40 #[.string s] w fun e w' => e = .returned (exV 2 0 s .nil none 0) ∧ Below w.heap.size w w' := by
  go_enter Tryd.func40, Tryd.ntmps40
  go_wp2
  exact bodyPost_ret (v := exV 2 0 s .nil none 0) (by simp [results, Tryd.results40, go_sem, exV, ExL.len]) rfl ⟨rfl, alloc_below _ _⟩
theorem binary_any (op : Int) (o1 n1 : Int) (m1 : ByteArray) (k1 : ExL) (a1 : Option Addr) (c1 : Nat) (o2 n2 : Int) (m2 : ByteArray) (k2 : ExL) (a2 : Option Addr) (c2 : Nat) (w : World) :
    Calls Tryd.prog 41 #[.int .i64 op, exV o1 n1 m1 k1 a1 c1, exV o2 n2 m2 k2 a2 c2] w fun e w' => ∃ g, e = .returned (.agg #[.int .i64 op, .int .i64 0, .string ⟨#[]⟩, .slice (some ⟨g, 0, none⟩) 2 2]) ∧ w.heap.size ≤ g ∧ w'.heap[g]? = some (.cells (exC o1 n1 m1 k1 a1 c1 ++ exC o2 n2 m2 k2 a2 c2).toArray 25 (0, 0)) ∧ Below w.heap.size w w' := by
  unfold exV
  go_enter Tryd.func41, Tryd.ntmps41
  go_wp2
  refine bodyPost_ret (v := .agg #[.int .i64 op, .int .i64 0, .string ⟨#[]⟩, .slice (some ⟨w.heap.size + 1 + 1 + 1, 0, none⟩) 2 2]) (by simp [results, Tryd.results41, go_sem]) rfl ⟨w.heap.size + 1 + 1 + 1, rfl, by omega, ?_, ?_⟩
  · generalize hW : World.alloc (World.alloc (World.alloc w _) _) _ = W
    have e : W.heap.size = w.heap.size + 1 + 1 + 1 := by rw [← hW]; simp
    rw [← e]; exact heap_alloc_new _ _
  · exact (((alloc_below _ _).alloc (by simp) _).alloc (by simp; omega) _).alloc (by simp; omega) _
/-- An expression that stays, from B on. -/
def EX (B : Nat) (v : Value) (w : World) : Prop := ∃ op n nm kids ao cap, v = exV op n nm kids ao cap ∧ ExS op n nm kids ∧ Stay B w (fun w2 => kids.At w2 w2.heap.size ao 0)
theorem EX.next {B : Nat} {v : Value} {w w' : World} (h : EX B v w) (ha : Abv B w w') : EX B v w' := by
  obtain ⟨op, n, nm, kids, ao, cap, h1, h2, h3⟩ := h
  exact ⟨op, n, nm, kids, ao, cap, h1, h2, h3.next ha⟩
theorem EX.mono {B B' : Nat} {v : Value} {w : World} (h : EX B' v w) (hB : B ≤ B') : EX B v w := by
  obtain ⟨op, n, nm, kids, ao, cap, h1, h2, h3⟩ := h
  exact ⟨op, n, nm, kids, ao, cap, h1, h2, h3.mono hB⟩
/-- A row of expressions that stays. -/
def XS (B m : Nat) (v : Value) (w : World) : Prop := ∃ l ao cap, v = .slice ao (ExL.len l) cap ∧ (ExL.len l = m ∧ shpL l = true) ∧ Stay B w (fun w2 => l.At w2 w2.heap.size ao 0)
theorem XS.next {B m : Nat} {v : Value} {w w' : World} (h : XS B m v w) (ha : Abv B w w') : XS B m v w' := by
  obtain ⟨l, ao, cap, h1, h2, h3⟩ := h
  exact ⟨l, ao, cap, h1, h2, h3.next ha⟩
theorem exP_of {T : Tp} {w w' : World} {v : Value} (hM : Mk T w w') (hI : MdI w' T) (h : EX w.heap.size v w') : ExP T w (.returned v) w' := by
  obtain ⟨op, n, nm, kids, ao, cap, rfl, h2, h3⟩ := h
  exact ⟨op, n, nm, kids, ao, cap, rfl, h2, hM, hI, h3⟩
theorem exP_ex {T : Tp} {w w' : World} {e : Ending} (h : ExP T w e w') : ∃ v, e = .returned v ∧ EX w.heap.size v w' ∧ Mk T w w' ∧ MdI w' T := by
  obtain ⟨op, n, nm, kids, ao, cap, h1, h2, h3, h4, h5⟩ := h
  exact ⟨_, h1, ⟨op, n, nm, kids, ao, cap, rfl, h2, h5⟩, h3, h4⟩
theorem fin4 {T : Tp} {w w4 : World} (a b c d : Value) (hM : Mk T w w4) (hI : MdI w4 T) (h0 : T.bt < w.heap.size ∧ T.bm < w.heap.size ∧ T.B0 ≤ w.heap.size) :
    Mk T w ((((w4.setCell ⟨w.heap.size, 0, none⟩ a).setCell ⟨w.heap.size, 1, none⟩ b).setCell ⟨w.heap.size, 2, none⟩ c).setCell ⟨w.heap.size, 3, none⟩ d) ∧
    MdI ((((w4.setCell ⟨w.heap.size, 0, none⟩ a).setCell ⟨w.heap.size, 1, none⟩ b).setCell ⟨w.heap.size, 2, none⟩ c).setCell ⟨w.heap.size, 3, none⟩ d) T ∧
    Abv (w.heap.size + 1) w4 ((((w4.setCell ⟨w.heap.size, 0, none⟩ a).setCell ⟨w.heap.size, 1, none⟩ b).setCell ⟨w.heap.size, 2, none⟩ c).setCell ⟨w.heap.size, 3, none⟩ d) := by
  have h1 : w.heap.size ≠ T.bt := by omega
  have h2 : w.heap.size ≠ T.bm := by omega
  have m1 := hM.set ⟨w.heap.size, 0, none⟩ a (Nat.le_refl _)
  have m2 := m1.set ⟨w.heap.size, 1, none⟩ b (Nat.le_refl _)
  have m3 := m2.set ⟨w.heap.size, 2, none⟩ c (Nat.le_refl _)
  have m4 := m3.set ⟨w.heap.size, 3, none⟩ d (Nat.le_refl _)
  have i1 := hI.set ⟨w.heap.size, 0, none⟩ a h0.2.2 h1 h2
  have i2 := i1.set ⟨w.heap.size, 1, none⟩ b h0.2.2 h1 h2
  have i3 := i2.set ⟨w.heap.size, 2, none⟩ c h0.2.2 h1 h2
  have i4 := i3.set ⟨w.heap.size, 3, none⟩ d h0.2.2 h1 h2
  have x1 : Abv (w.heap.size + 1) w4 _ := abv_set w4 ⟨w.heap.size, 0, none⟩ a (Nat.lt_succ_self _)
  have x2 := x1.trans (abv_set _ ⟨w.heap.size, 1, none⟩ b (Nat.lt_succ_self _))
  have x3 := x2.trans (abv_set _ ⟨w.heap.size, 2, none⟩ c (Nat.lt_succ_self _))
  have x4 := x3.trans (abv_set _ ⟨w.heap.size, 3, none⟩ d (Nat.lt_succ_self _))
  exact ⟨m4, i4, x4⟩
theorem fin4r {T : Tp} {w w4 : World} {a op n : Int} {nm : ByteArray} {kids : ExL} {ao : Option Addr} {cap : Nat} {t : TypeId} (hM : Mk T w w4) (hI : MdI w4 T) (h0 : T.bt < w.heap.size ∧ T.bm < w.heap.size ∧ T.B0 ≤ w.heap.size) (ha : a = 4 ∨ a = 5) (hok : ExS op n nm kids) (hst : Stay (w.heap.size + 1) w4 (fun w2 => kids.At w2 w2.heap.size ao 0)) (hs : w.heap.size + 1 ≤ w4.heap.size) :
    ExP T w (.returned (exV a 0 ⟨#[]⟩ (.cons op n nm kids .nil) (some ⟨w4.heap.size, 0, none⟩) 1)) (((((w4.setCell ⟨w.heap.size, 0, none⟩ (.int .i64 a)).setCell ⟨w.heap.size, 1, none⟩ (.int .i64 0)).setCell ⟨w.heap.size, 2, none⟩ (.string ⟨#[]⟩)).setCell ⟨w.heap.size, 3, none⟩ (.slice (some ⟨w4.heap.size, 0, none⟩) 1 1)).alloc (.cells #[.int .i64 op, .int .i64 n, .string nm, .slice ao kids.len cap] t)) := by
  obtain ⟨q1, q2, q3⟩ := fin4 (.int .i64 a) (.int .i64 0) (.string ⟨#[]⟩) (.slice (some ⟨w4.heap.size, 0, none⟩) 1 1) hM hI h0
  generalize hW : World.setCell (World.setCell (World.setCell (World.setCell w4 _ _) _ _) _ _) _ _ = W at *
  have hsz : W.heap.size = w4.heap.size := by rw [← hW]; simp [World.setCell]
  refine exP_of (q1.trans (Mk.of_below (alloc_below _ _))) (q2.below (alloc_below _ _)) ⟨a, 0, ⟨#[]⟩, .cons op n nm kids .nil, _, 1, rfl, ⟨⟨by unfold I64; omega, by unfold I64; decide, by unfold maxLen; decide, by simp [ExL.len, maxLen]⟩, shp_un ha hok.2⟩, ?_⟩
  rw [← hsz]
  exact stay_one (heap_alloc_new _ _) (by omega) hok.1 (((hst.next q3).next (abv_below (alloc_below _ _))).mono (Nat.le_succ _))
/-- Next, over the maker. -/
def NextM (T : Tp) (n : Int) (w : World) (e : Ending) (w' : World) : Prop := ∃ r : Int, e = .returned (.int .i64 r) ∧ 0 ≤ r ∧ (0 < n → r < n) ∧ r ≤ 255 ∧ Mk T w w' ∧ MdI w' T
theorem NextM_any (T : Tp) (n : Int) (w : World) (hn : I64 n) (hI : MdI w T) :
    Calls Tryd.prog 16 #[.pointer (some ⟨T.bt, 0, none⟩), .int .i64 n] w (NextM T n w) :=
  (Next_any T n w hn hI.tape).mono fun e w' ⟨r, h1, h2, h3, h4, h5, h6⟩ => ⟨r, h1, h2, h3, h4, Mk.of_t h5, h6, by
    obtain ⟨l, m, k1, k2, k3, k4⟩ := hI.blm
    exact ⟨l, m, k1, k2, k3, (h5.block _ hI.lt (by simp; exact T.tm.symm)).trans k4⟩⟩
theorem MdI.ptr {w : World} {T : Tp} (h : MdI w T) : w.cell? ⟨T.bm, 0, none⟩ = some (.pointer (some ⟨T.bt, 0, none⟩)) := by
  obtain ⟨l, m, -, -, -, k⟩ := h.blm
  exact (cell_blk k (j := 0) rfl).2
end Go.Proofs.YtghdammalphmfaaDoor
end
section
namespace Go.Proofs.YtghdammalphmfaaDoor
open Go.RowKit
namespace Md
theorem cell0 {w : World} {g k m : Nat} {u : Value} (h : w.cell? ⟨g, k * m + 0, none⟩ = some u) : w.cell? ⟨g, 0 + k * m, none⟩ = some u := by rw [Nat.zero_add]; exact h
theorem cellj {w : World} {g k m j : Nat} {u : Value} (h : w.cell? ⟨g, k * m + j, none⟩ = some u) : w.cell? ⟨g, 0 + k * m + j, none⟩ = some u := by rw [Nat.zero_add]; exact h
/-- A statement with where its parts lie. -/
structure StI where
  h : StH
  b : StL
  e : StL
  s : Sl
def StI.f (x : StI) : List Value := [.int .i64 x.h.op, .int .i64 x.h.line, .string x.h.nm, .string x.h.arg, .slice x.s.aoi x.h.idx.len x.s.capi, .int .i64 x.h.xop, .int .i64 x.h.xn, .string x.h.xnm, .slice x.s.aox x.h.xkids.len x.s.capx, .slice x.s.aob x.b.len x.s.capb, .slice x.s.aoe x.e.len x.s.cape]
def StI.I (x : StI) (w : World) : Prop := x.h.idx.At w w.heap.size x.s.aoi 0 ∧ x.h.xkids.At w w.heap.size x.s.aox 0 ∧ x.b.At w w.heap.size x.s.aob 0 ∧ x.e.At w w.heap.size x.s.aoe 0
def stlOf : List StI → StL
  | [] => .nil
  | x :: r => .cons x.h x.b x.e (stlOf r)
theorem stlOf_len : ∀ l, (stlOf l).len = l.length
  | [] => rfl
  | _ :: r => by show (stlOf r).len + 1 = _; rw [stlOf_len r]; rfl
theorem stlOf_shp : ∀ l, (∀ x ∈ l, shpS x.h x.b x.e = true) → shpSL (stlOf l) = true
  | [], _ => rfl
  | x :: r, h => by
    show (shpS x.h x.b x.e && shpSL (stlOf r)) = true
    rw [h x (by simp), stlOf_shp r (fun y hy => h y (by simp [hy]))]; rfl
theorem stl_at {w : World} {ao : Option Addr} : ∀ (l : List StI) (k : Nat), (∀ x ∈ l, StOk x.h x.b x.e ∧ x.I w) → (∀ i x, l[i]? = some x → ∃ g, ao = some ⟨g, 0, none⟩ ∧ g < w.heap.size ∧ ∀ j u, x.f[j]? = some u → w.cell? ⟨g, (k + i) * 11 + j, none⟩ = some u) → (stlOf l).At w w.heap.size ao k
  | [], _, _, _ => trivial
  | x :: r, k, h1, h2 => by
    obtain ⟨g, rfl, hg, hc⟩ := h2 0 x rfl
    obtain ⟨hok, i1, i2, i3, i4⟩ := h1 x (by simp)
    refine ⟨⟨g, 0, x.s.aoi, x.s.capi, x.s.aox, x.s.capx, x.s.aob, x.s.capb, x.s.aoe, x.s.cape, rfl, hg, cell0 (hc 0 _ rfl), cellj (hc 1 _ rfl), cellj (hc 2 _ rfl), cellj (hc 3 _ rfl), cellj (hc 4 _ rfl), cellj (hc 5 _ rfl), cellj (hc 6 _ rfl), cellj (hc 7 _ rfl), cellj (hc 8 _ rfl), cellj (hc 9 _ rfl), cellj (hc 10 _ rfl), hok, i1, i2, i3, i4⟩, ?_⟩
    exact stl_at r (k + 1) (fun y hy => h1 y (by simp [hy])) (fun i y hy => by
      obtain ⟨g', e, hg', hc'⟩ := h2 (i + 1) y (by simpa using hy)
      exact ⟨g', e, hg', fun j u hu => by rw [show k + 1 + i = k + (i + 1) by omega]; exact hc' j u hu⟩)
theorem stI_len (x : StI) : (StI.f x).length = 11 := rfl
abbrev GrowS (B : Nat) (w : World) (v : Value) (l : List StI) : Prop := Grow StI.f 11 StI.I 48 B w v l
theorem GrowS.says {B : Nat} {w : World} {v : Value} {l : List StI} (h : GrowS B w v l) (hok : ∀ x ∈ l, StOk x.h x.b x.e) : ∃ ao cap, v = .slice ao (stlOf l).len cap ∧ Stay B w (fun w2 => (stlOf l).At w2 w2.heap.size ao 0) := by
  obtain ⟨ao, cap, e⟩ := h.len
  refine ⟨ao, cap, by rw [e, stlOf_len], fun w2 h2 => ?_⟩
  obtain ⟨hI, ao', cap', e', -, hc⟩ := h.cells stI_len w2 h2
  rw [e] at e'; injection e' with e1 e2 e3; subst e1
  exact stl_at l 0 (fun x hx => ⟨hok x hx, hI x hx⟩) (fun i x hx => by
    obtain ⟨g, h1, -, h3, h4⟩ := hc i x hx
    exact ⟨g, h1, h3, fun j u hu => by rw [Nat.zero_add]; exact h4 j u hu⟩)

def deF (d : De) : List Value := [.int .i64 d.kind, .int .i64 d.line, .string d.nm, .int .i64 d.size, .int .i64 d.init, .string d.on]
theorem de_at {w : World} {ao : Option Addr} : ∀ (l : List De) (k : Nat), (∀ x ∈ l, x.Ok) → (∀ i x, l[i]? = some x → ∃ g, ao = some ⟨g, 0, none⟩ ∧ g < w.heap.size ∧ ∀ j u, (deF x)[j]? = some u → w.cell? ⟨g, (k + i) * 6 + j, none⟩ = some u) → DeAt w w.heap.size l ao k
  | [], _, _, _ => trivial
  | x :: r, k, h1, h2 => by
    obtain ⟨g, rfl, hg, hc⟩ := h2 0 x rfl
    refine ⟨⟨g, 0, rfl, hg, cell0 (hc 0 _ rfl), cellj (hc 1 _ rfl), cellj (hc 2 _ rfl), cellj (hc 3 _ rfl), cellj (hc 4 _ rfl), cellj (hc 5 _ rfl), h1 x (by simp)⟩, ?_⟩
    exact de_at r (k + 1) (fun y hy => h1 y (by simp [hy])) (fun i y hy => by
      obtain ⟨g', e, hg', hc'⟩ := h2 (i + 1) y (by simpa using hy)
      exact ⟨g', e, hg', fun j u hu => by rw [show k + 1 + i = k + (i + 1) by omega]; exact hc' j u hu⟩)
theorem deF_len (x : De) : (deF x).length = 6 := rfl
abbrev GrowD (B : Nat) (w : World) (v : Value) (l : List De) : Prop := Grow deF 6 (fun _ _ => True) 46 B w v l
theorem GrowD.says {B : Nat} {w : World} {v : Value} {l : List De} (h : GrowD B w v l) (hok : ∀ x ∈ l, x.Ok) : ∃ ao cap, v = .slice ao l.length cap ∧ l.length ≤ cap ∧ Stay B w (fun w2 => DeAt w2 w2.heap.size l ao 0) := by
  obtain ⟨-, ao, cap, e, hl, -⟩ := h.cells deF_len w (Abv.refl _ _)
  refine ⟨ao, cap, e, hl, fun w2 h2 => ?_⟩
  obtain ⟨-, ao', cap', e', -, hc⟩ := h.cells deF_len w2 h2
  rw [e] at e'; injection e' with e1 e2 e3; subst e1
  exact de_at l 0 hok (fun i x hx => by
    obtain ⟨g, h1, -, h3, h4⟩ := hc i x hx
    exact ⟨g, h1, h3, fun j u hu => by rw [Nat.zero_add]; exact h4 j u hu⟩)

def txF (s : ByteArray) : List Value := [.string s]
theorem tx_at {w : World} {ao : Option Addr} : ∀ (l : List ByteArray) (k : Nat), (∀ x ∈ l, x.size ≤ maxLen) → (∀ i x, l[i]? = some x → ∃ g, ao = some ⟨g, 0, none⟩ ∧ g < w.heap.size ∧ ∀ j u, (txF x)[j]? = some u → w.cell? ⟨g, (k + i) * 1 + j, none⟩ = some u) → TxAt w w.heap.size l ao k
  | [], _, _, _ => trivial
  | x :: r, k, h1, h2 => by
    obtain ⟨g, rfl, hg, hc⟩ := h2 0 x rfl
    refine ⟨⟨g, 0, rfl, hg, by have := cell0 (hc 0 _ rfl); simpa using this, h1 x (by simp)⟩, ?_⟩
    exact tx_at r (k + 1) (fun y hy => h1 y (by simp [hy])) (fun i y hy => by
      obtain ⟨g', e, hg', hc'⟩ := h2 (i + 1) y (by simpa using hy)
      exact ⟨g', e, hg', fun j u hu => by rw [show k + 1 + i = k + (i + 1) by omega]; exact hc' j u hu⟩)
theorem txF_len (x : ByteArray) : (txF x).length = 1 := rfl
abbrev GrowT (B : Nat) (w : World) (v : Value) (l : List ByteArray) : Prop := Grow txF 1 (fun _ _ => True) 9 B w v l
theorem GrowT.says {B : Nat} {w : World} {v : Value} {l : List ByteArray} (h : GrowT B w v l) (hok : ∀ x ∈ l, x.size ≤ maxLen) : ∃ ao cap, v = .slice ao l.length cap ∧ l.length ≤ cap ∧ Stay B w (fun w2 => TxAt w2 w2.heap.size l ao 0) := by
  obtain ⟨-, ao, cap, e, hl, -⟩ := h.cells txF_len w (Abv.refl _ _)
  refine ⟨ao, cap, e, hl, fun w2 h2 => ?_⟩
  obtain ⟨-, ao', cap', e', -, hc⟩ := h.cells txF_len w2 h2
  rw [e] at e'; injection e' with e1 e2 e3; subst e1
  exact tx_at l 0 hok (fun i x hx => by
    obtain ⟨g, h1, -, h3, h4⟩ := hc i x hx
    exact ⟨g, h1, h3, fun j u hu => by rw [Nat.zero_add]; exact h4 j u hu⟩)

/-- A thread with where its parts lie. -/
structure ThI where
  t : Th
  aol : Option Addr
  capl : Nat
  aob : Option Addr
  capb : Nat
def ThI.f (x : ThI) : List Value := [.string x.t.nm, .int .i64 x.t.line, .slice x.aol x.t.locs.length x.capl, .slice x.aob x.t.body.len x.capb]
def ThI.I (x : ThI) (w : World) : Prop := TxAt w w.heap.size x.t.locs x.aol 0 ∧ x.t.body.At w w.heap.size x.aob 0
theorem th_at {w : World} {ao : Option Addr} : ∀ (l : List ThI) (k : Nat), (∀ x ∈ l, (x.t.Ok ∧ x.t.locs.length ≤ x.capl) ∧ x.I w) → (∀ i x, l[i]? = some x → ∃ g, ao = some ⟨g, 0, none⟩ ∧ g < w.heap.size ∧ ∀ j u, x.f[j]? = some u → w.cell? ⟨g, (k + i) * 4 + j, none⟩ = some u) → ThAt w w.heap.size (l.map (·.t)) ao k
  | [], _, _, _ => trivial
  | x :: r, k, h1, h2 => by
    obtain ⟨g, rfl, hg, hc⟩ := h2 0 x rfl
    obtain ⟨⟨hok, hcl⟩, i1, i2⟩ := h1 x (by simp)
    refine ⟨⟨g, 0, x.aol, x.capl, x.aob, x.capb, rfl, hg, cell0 (hc 0 _ rfl), cellj (hc 1 _ rfl), cellj (hc 2 _ rfl), cellj (hc 3 _ rfl), hok, i1, i2, hcl⟩, ?_⟩
    exact th_at r (k + 1) (fun y hy => h1 y (by simp [hy])) (fun i y hy => by
      obtain ⟨g', e, hg', hc'⟩ := h2 (i + 1) y (by simpa using hy)
      exact ⟨g', e, hg', fun j u hu => by rw [show k + 1 + i = k + (i + 1) by omega]; exact hc' j u hu⟩)
theorem thI_len (x : ThI) : (ThI.f x).length = 4 := rfl
abbrev GrowTh (B : Nat) (w : World) (v : Value) (l : List ThI) : Prop := Grow ThI.f 4 ThI.I 44 B w v l
theorem GrowTh.says {B : Nat} {w : World} {v : Value} {l : List ThI} (h : GrowTh B w v l) (hok : ∀ x ∈ l, x.t.Ok ∧ x.t.locs.length ≤ x.capl) : ∃ ao cap, v = .slice ao (l.map (·.t)).length cap ∧ l.length ≤ cap ∧ Stay B w (fun w2 => ThAt w2 w2.heap.size (l.map (·.t)) ao 0) := by
  obtain ⟨-, ao, cap, e, hl, -⟩ := h.cells thI_len w (Abv.refl _ _)
  refine ⟨ao, cap, by rw [e, List.length_map], hl, fun w2 h2 => ?_⟩
  obtain ⟨hI, ao', cap', e', -, hc⟩ := h.cells thI_len w2 h2
  rw [e] at e'; injection e' with e1 e2 e3; subst e1
  exact th_at l 0 (fun x hx => ⟨hok x hx, hI x hx⟩) (fun i x hx => by
    obtain ⟨g, h1, -, h3, h4⟩ := hc i x hx
    exact ⟨g, h1, h3, fun j u hu => by rw [Nat.zero_add]; exact h4 j u hu⟩)
end Md
end Go.Proofs.YtghdammalphmfaaDoor
end
