/-
  A statement under way, in memory; what its reading leaves. No walk in sight.
  Contracts of the reader's plainBlock, namedBlock, named, setting, getting.
  Contracts of the reader's loop, conditional, assignment.
  Contract of the reader's statement.
-/
import Derived.Test.YtommnhglgedflaaGreatDoorGRB
import Derived.Test.YtommnhglgedflaaGreatDoorGZB
import Derived.Test.YtommnhglgedflaaGreatDoorGMB
section
set_option linter.unusedSimpArgs false
set_option linter.unusedVariables false
namespace Go.Proofs.YtommnhglgedflaaGreatDoor
open Go.RowKit
open Md Pz
/-- What was there is as it was, but for two blocks. -/
structure Fr (br bs : Nat) (w w' : World) : Prop where
  os : w'.os = w.os
  tape : w'.tape = w.tape
  output : w'.output = w.output
  size : w.heap.size ≤ w'.heap.size
  block : ∀ k, k < w.heap.size → k ≠ br → k ≠ bs → w'.heap[k]? = w.heap[k]?
section
variable {br bs : Nat} {w w1 w2 w' : World}
theorem Fr.refl (br bs : Nat) (w : World) : Fr br bs w w := ⟨rfl, rfl, rfl, Nat.le_refl _, fun _ _ _ _ => rfl⟩
theorem Fr.trans (h : Fr br bs w w1) (k : Fr br bs w1 w2) : Fr br bs w w2 :=
  ⟨k.os.trans h.os, k.tape.trans h.tape, k.output.trans h.output, Nat.le_trans h.size k.size, fun j hj h1 h2 => (k.block j (Nat.lt_of_lt_of_le hj h.size) h1 h2).trans (h.block j hj h1 h2)⟩
theorem Fr.of_gr (h : w.grownBy w' (some br)) : Fr br bs w w' := ⟨h.os, h.tape, h.output, h.size, fun k hk h1 _ => h.block k hk (by simp; exact h1)⟩
theorem Fr.set (h : Fr br bs w w') (a : Addr) (v : Value) (ha : a.block = bs ∨ w.heap.size ≤ a.block) : Fr br bs w (w'.setCell a v) :=
  ⟨h.os, h.tape, h.output, by have := h.size; simpa [World.setCell] using this, fun k hk h1 h2 => (setCell_far w' a v rfl (by omega)).trans (h.block k hk h1 h2)⟩
theorem Fr.alloc (h : Fr br bs w w') (o : Obj) : Fr br bs w (w'.alloc o) := h.trans (Fr.of_gr (gr_below (alloc_below _ _)))
/-- A block of the caller's own is nobody's loss. -/
theorem Fr.gr (h : Fr br bs w1 w') (hb : Below w.heap.size w w1) (hs : w.heap.size ≤ bs) : w.grownBy w' (some br) :=
  ⟨h.os.trans hb.os, h.tape.trans hb.tape, h.output.trans hb.output, Nat.le_trans hb.size h.size, fun k hk h1 => (h.block k (Nat.lt_of_lt_of_le hk hb.size) (by simpa using h1) (by omega)).trans (hb.block k hk)⟩
end
def zS : Sl := ⟨none, 0, none, 0, none, 0, none, 0⟩
/-- A statement under way. -/
structure Pm (R : Rp) (bs B : Nat) (w : World) (x : StI) (rest : Toks) : Prop where
  rd : RdI w R rest
  lt : bs < B ∧ R.br < B
  ne : bs ≠ R.br
  b0 : R.B0 ≤ bs
  sz : B ≤ w.heap.size
  blk : w.heap[bs]? = some (.cells (StI.f x).toArray 91 (0, 0))
  ok : StOk x.h x.b x.e
  st : Stay B w (StI.I x)
section
variable {R : Rp} {bs B : Nat} {w W W' : World} {x : StI} {rest rest' : Toks}
theorem Pm.then (h : Pm R bs B W x rest) (h1 : RdI W' R rest') (h2 : W.grownBy W' (some R.br)) : Pm R bs B W' x rest' :=
  ⟨h1, h.lt, h.ne, h.b0, Nat.le_trans h.sz h2.size, (h2.block _ (Nat.lt_of_lt_of_le h.lt.1 h.sz) (by simp; exact h.ne)).trans h.blk, h.ok, h.st.next (abv_gr h2 h.lt.2)⟩
theorem Pm.below (h : Pm R bs B W x rest) (hb : Below W.heap.size W W') : Pm R bs B W' x rest := h.then (h.rd.below hb) (gr_below hb)
theorem Pm.alloc (h : Pm R bs B W x rest) (o : Obj) : Pm R bs B (W.alloc o) x rest := h.below (alloc_below _ _)
/-- A cell of the statement is stored. -/
theorem Pm.put (h : Pm R bs B W x rest) (j : Nat) (v : Value) {y : StI} (hy : (StI.f x).toArray.setIfInBounds j v = (StI.f y).toArray) (hok : StOk y.h y.b y.e) (hst : Stay B W (StI.I y)) : Pm R bs B (W.setCell ⟨bs, j, none⟩ v) y rest :=
  ⟨rd_set h.rd _ v h.b0 h.ne, h.lt, h.ne, h.b0, by have := h.sz; simpa [World.setCell] using this, by rw [setCell_blk h.blk, hy], hok, hst.next (abv_set W ⟨bs, j, none⟩ v h.lt.1)⟩
theorem Pm.nm (h : Pm R bs B W x rest) (s : ByteArray) (hs : s.size ≤ maxLen) : Pm R bs B (W.setCell ⟨bs, 2, none⟩ (.string s)) ⟨{ x.h with nm := s }, x.b, x.e, x.s⟩ rest :=
  h.put 2 _ rfl ⟨h.ok.1, h.ok.2.1, hs, h.ok.2.2.2⟩ h.st
theorem Pm.arg (h : Pm R bs B W x rest) (s : ByteArray) (hs : s.size ≤ maxLen) : Pm R bs B (W.setCell ⟨bs, 3, none⟩ (.string s)) ⟨{ x.h with arg := s }, x.b, x.e, x.s⟩ rest :=
  h.put 3 _ rfl ⟨h.ok.1, h.ok.2.1, h.ok.2.2.1, hs, h.ok.2.2.2.2⟩ h.st
theorem Pm.op (h : Pm R bs B W x rest) (n : Int) (hn : I64 n) : Pm R bs B (W.setCell ⟨bs, 0, none⟩ (.int .i64 n)) ⟨{ x.h with op := n }, x.b, x.e, x.s⟩ rest :=
  h.put 0 _ rfl ⟨hn, h.ok.2⟩ h.st
theorem Pm.idx (h : Pm R bs B W x rest) (l : ExL) (ao : Option Addr) (cap : Nat) (hl : l.len ≤ maxLen) (hst : Stay B W (fun w2 => l.At w2 w2.heap.size ao 0)) :
    Pm R bs B (W.setCell ⟨bs, 4, none⟩ (.slice ao l.len cap)) ⟨{ x.h with idx := l }, x.b, x.e, { x.s with aoi := ao, capi := cap }⟩ rest :=
  h.put 4 _ rfl ⟨h.ok.1, h.ok.2.1, h.ok.2.2.1, h.ok.2.2.2.1, hl, h.ok.2.2.2.2.2⟩ (fun w2 h2 => ⟨hst w2 h2, (h.st w2 h2).2⟩)
theorem Pm.body (h : Pm R bs B W x rest) (l : StL) (ao : Option Addr) (cap : Nat) (hl : l.len ≤ maxLen) (hst : Stay B W (fun w2 => l.At w2 w2.heap.size ao 0)) :
    Pm R bs B (W.setCell ⟨bs, 9, none⟩ (.slice ao l.len cap)) ⟨x.h, l, x.e, { x.s with aob := ao, capb := cap }⟩ rest :=
  h.put 9 _ rfl ⟨h.ok.1, h.ok.2.1, h.ok.2.2.1, h.ok.2.2.2.1, h.ok.2.2.2.2.1, h.ok.2.2.2.2.2.1, hl, h.ok.2.2.2.2.2.2.2⟩ (fun w2 h2 => ⟨(h.st w2 h2).1, (h.st w2 h2).2.1, hst w2 h2, (h.st w2 h2).2.2.2⟩)
theorem Pm.els (h : Pm R bs B W x rest) (l : StL) (ao : Option Addr) (cap : Nat) (hl : l.len ≤ maxLen) (hst : Stay B W (fun w2 => l.At w2 w2.heap.size ao 0)) :
    Pm R bs B (W.setCell ⟨bs, 10, none⟩ (.slice ao l.len cap)) ⟨x.h, x.b, l, { x.s with aoe := ao, cape := cap }⟩ rest :=
  h.put 10 _ rfl ⟨h.ok.1, h.ok.2.1, h.ok.2.2.1, h.ok.2.2.2.1, h.ok.2.2.2.2.1, h.ok.2.2.2.2.2.1, h.ok.2.2.2.2.2.2.1, hl⟩ (fun w2 h2 => ⟨(h.st w2 h2).1, (h.st w2 h2).2.1, (h.st w2 h2).2.2.1, hst w2 h2⟩)
/-- The statement's expression is stored. -/
def setX4 (w : World) (b : Nat) (v0 v1 v2 v3 : Value) : World := (((w.setCell ⟨b, 5, none⟩ v0).setCell ⟨b, 6, none⟩ v1).setCell ⟨b, 7, none⟩ v2).setCell ⟨b, 8, none⟩ v3
theorem Pm.ex (h : Pm R bs B W x rest) (y : E) (ao : Option Addr) (cap : Nat) (hy : EOk y) (hst : Stay B W (fun w2 => y.kids.At w2 w2.heap.size ao 0)) :
    Pm R bs B (setX4 W bs (.int .i64 y.op) (.int .i64 y.n) (.string y.nm) (.slice ao y.kids.len cap)) ⟨StH.ex x.h y, x.b, x.e, { x.s with aox := ao, capx := cap }⟩ rest := by
  have ha : Abv B W (setX4 W bs (.int .i64 y.op) (.int .i64 y.n) (.string y.nm) (.slice ao y.kids.len cap)) := by
    have x1 : Abv B W _ := abv_set W ⟨bs, 5, none⟩ (.int .i64 y.op) h.lt.1
    have x2 := x1.trans (abv_set _ ⟨bs, 6, none⟩ (.int .i64 y.n) h.lt.1)
    have x3 := x2.trans (abv_set _ ⟨bs, 7, none⟩ (.string y.nm) h.lt.1)
    exact x3.trans (abv_set _ ⟨bs, 8, none⟩ (.slice ao y.kids.len cap) h.lt.1)
  refine ⟨rd_set (rd_set (rd_set (rd_set h.rd _ _ h.b0 h.ne) _ _ h.b0 h.ne) _ _ h.b0 h.ne) _ _ h.b0 h.ne, h.lt, h.ne, h.b0, Nat.le_trans h.sz ha.1, ?_, ⟨h.ok.1, h.ok.2.1, h.ok.2.2.1, h.ok.2.2.2.1, h.ok.2.2.2.2.1, hy, h.ok.2.2.2.2.2.2⟩, ?_⟩
  · unfold setX4
    rw [setCell_blk (setCell_blk (setCell_blk (setCell_blk h.blk _) _) _) _]; rfl
  · exact fun w2 h2 => ⟨(h.st w2 (ha.trans h2)).1, hst w2 (ha.trans h2), (h.st w2 (ha.trans h2)).2.2⟩
theorem Pm.idx1 (h : Pm R bs B W x rest) (y : E) (ao : Option Addr) (cap : Nat) (t : TypeId) (hy : EOk y ∧ Stay B W (fun w2 => y.kids.At w2 w2.heap.size ao 0)) :
    Pm R bs B ((W.setCell ⟨bs, 4, none⟩ (.slice (some ⟨W.heap.size, 0, none⟩) 1 1)).alloc (.cells #[.int .i64 y.op, .int .i64 y.n, .string y.nm, .slice ao y.kids.len cap] t)) ⟨{ x.h with idx := .cons y.op y.n y.nm y.kids .nil }, x.b, x.e, { x.s with aoi := some ⟨W.heap.size, 0, none⟩, capi := 1 }⟩ rest := by
  have ha : Abv B W (W.setCell ⟨bs, 4, none⟩ (.slice (some ⟨W.heap.size, 0, none⟩) 1 1)) := abv_set W ⟨bs, 4, none⟩ _ h.lt.1
  have hs : (W.setCell ⟨bs, 4, none⟩ (.slice (some ⟨W.heap.size, 0, none⟩) 1 1)).heap.size = W.heap.size := by simp [World.setCell]
  have hb : (W.setCell ⟨bs, 4, none⟩ (.slice (some ⟨W.heap.size, 0, none⟩) 1 1)).heap[bs]? = some (.cells (StI.f ⟨{ x.h with idx := .cons y.op y.n y.nm y.kids .nil }, x.b, x.e, { x.s with aoi := some ⟨W.heap.size, 0, none⟩, capi := 1 }⟩).toArray 91 (0, 0)) := by rw [setCell_blk h.blk]; rfl
  have hr := rd_set h.rd ⟨bs, 4, none⟩ (.slice (some ⟨W.heap.size, 0, none⟩) 1 1) h.b0 h.ne
  have hz := h.sz
  generalize W.setCell ⟨bs, 4, none⟩ (.slice (some ⟨W.heap.size, 0, none⟩) 1 1) = W1 at *
  have hst : Stay B (W1.alloc (.cells #[.int .i64 y.op, .int .i64 y.n, .string y.nm, .slice ao y.kids.len cap] t)) (fun w2 => (ExL.cons y.op y.n y.nm y.kids .nil).At w2 w2.heap.size (some ⟨W.heap.size, 0, none⟩) 0) := by
    rw [← hs]
    exact stay_one (heap_alloc_new _ _) (by omega) hy.1 ((hy.2.next ha).next (abv_below (alloc_below _ _)))
  refine ⟨rd_alloc hr _, h.lt, h.ne, h.b0, by simp; omega, (heap_alloc_old _ _ (Array.getElem?_eq_some_iff.1 hb).1).trans hb, ⟨h.ok.1, h.ok.2.1, h.ok.2.2.1, h.ok.2.2.2.1, by simp [ExL.len, maxLen], h.ok.2.2.2.2.2⟩, fun w2 h2 => ⟨hst w2 h2, (h.st w2 ((ha.trans (abv_below (alloc_below _ _))).trans h2)).2⟩⟩
theorem Pm.cell (h : Pm R bs B W x rest) {j : Nat} {u : Value} (hu : (StI.f x).toArray[j]? = some u) : W.cell? ⟨bs, j, none⟩ = some u := cellb h.blk hu
theorem Pm.free (h : Pm R bs B W x rest) (j : Nat) : W.frozen? ⟨bs, j, none⟩ = false := free_blk h.blk
end
/-- What a method that reads into a statement leaves. -/
def StmP (R : Rp) (bs B : Nat) (w : World) (res : Res Sx) (e : Ending) (w' : World) : Prop :=
  match res with
  | .ok y r => e = .returned (.bool true) ∧ (∃ s, Pm R bs B w' ⟨y.h, y.b, y.e, s⟩ r) ∧ Fr R.br bs w w'
  | .no r => e = .returned (.bool false) ∧ (∃ x, Pm R bs B w' x r) ∧ Fr R.br bs w w'
/-- What a block's reading leaves. -/
def BlkP (R : Rp) (w : World) (res : Res StL) (e : Ending) (w' : World) : Prop :=
  match res with
  | .ok b r => (∃ ao cap, e = .returned (.tuple #[.slice ao b.len cap, .bool true]) ∧ b.len ≤ 4096 ∧ Stay w.heap.size w' (fun w2 => b.At w2 w2.heap.size ao 0)) ∧ RdI w' R r ∧ w.grownBy w' (some R.br)
  | .no r => e = .returned (.tuple #[.slice none 0 0, .bool false]) ∧ RdI w' R r ∧ w.grownBy w' (some R.br)
def BlkSays (R : Rp) (f : Nat) (ts : Toks) : Prop := ∀ w, RdI w R ts → Calls Tryz.prog 109 #[.pointer (some ⟨R.br, 0, none⟩)] w (BlkP R w (blk f ts))
theorem stm_ok {R : Rp} {bs B : Nat} {w W : World} {y : Sx} {s : Sl} {r : Toks} (h : Pm R bs B W ⟨y.h, y.b, y.e, s⟩ r) (hf : Fr R.br bs w W) : StmP R bs B w (.ok y r) (.returned (.bool true)) W := ⟨rfl, ⟨s, h⟩, hf⟩
theorem stm_no {R : Rp} {bs B : Nat} {w W : World} {x : StI} {r : Toks} (h : Pm R bs B W x r) (hf : Fr R.br bs w W) : StmP R bs B w (.no r) (.returned (.bool false)) W := ⟨rfl, ⟨x, h⟩, hf⟩
end Go.Proofs.YtommnhglgedflaaGreatDoor
end
section
set_option linter.unusedSimpArgs false
set_option linter.unusedVariables false
namespace Go.Proofs.YtommnhglgedflaaGreatDoor
open Go.RowKit
open Md Pz
theorem stm_cast {R : Rp} {bs B : Nat} {w W : World} {res res' : Res Sx} {e : Ending} (h : res = res') (p : StmP R bs B w res' e W) : StmP R bs B w res e W := h ▸ p
theorem zE_ok : EOk ⟨0, 0, ⟨#[]⟩, .nil⟩ := ⟨i64_0, i64_0, Nat.zero_le _, Nat.zero_le _⟩
theorem stay_nilE {B : Nat} {W : World} : Stay B W (fun w2 => (ExL.nil).At w2 w2.heap.size none 0) := fun _ _ => trivial
theorem nilL_len : (StL.nil).len ≤ maxLen := Nat.zero_le _
theorem stay_nil {B : Nat} {W : World} : Stay B W (fun w2 => (StL.nil).At w2 w2.heap.size none 0) := fun _ _ => trivial
set_option maxHeartbeats 1000000 in
set_option maxRecDepth 100000 in
theorem plain_any (R : Rp) (bs B f : Nat) (r : Toks) (HBS : Hid (BlkSays R f r)) (h : StH) (b0 : StL) (s : Sl) (w : World) (hp : Pm R bs B w ⟨h, b0, .nil, s⟩ r) :
    Calls Tryz.prog 172 #[.pointer (some ⟨R.br, 0, none⟩), .pointer (some ⟨bs, 0, none⟩)] w (StmP R bs B w (plainX f h r)) := by
  have HP := Lib.hid hp
  have HC := Lib.hid (HBS.out w hp.rd)
  clear hp HBS
  unfold plainX
  generalize blk f r = res at *
  go_enter Tryz.func172, Tryz.ntmps172
  go_wp2_with fail
  refine HC.out.mono ?_
  cases res with
  | no q =>
    rintro e w1 ⟨rfl, h2, h3⟩
    have HP1 := Lib.hid (HP.out.then h2 h3)
    have HF := Lib.hid (Fr.of_gr (bs := bs) h3)
    clear h2 h3 HP
    have c9 := HP1.out.cell (j := 9) rfl
    have f9 := HP1.out.free 9
    go_wp2_with fail
    go_ret
    exact stm_no (HP1.out.body .nil none 0 nilL_len stay_nil) (HF.out.set _ _ (.inl rfl))
  | ok b q =>
    rintro e w1 ⟨⟨ao, cap, rfl, hl, hst⟩, h2, h3⟩
    have HP1 := Lib.hid (HP.out.then h2 h3)
    have HF := Lib.hid (Fr.of_gr (bs := bs) h3)
    have HL : Hid (b.len ≤ maxLen) := Lib.hid (Nat.le_trans hl (by unfold maxLen; decide))
    have HS := Lib.hid (hst.mono HP.out.sz)
    clear h2 h3 HP hl hst
    have c9 := HP1.out.cell (j := 9) rfl
    have f9 := HP1.out.free 9
    go_wp2_with fail
    go_ret
    exact stm_ok (y := ⟨h, b, .nil⟩) (HP1.out.body b ao cap HL.out HS.out) (HF.out.set _ _ (.inl rfl))
set_option maxHeartbeats 1000000 in
set_option maxRecDepth 100000 in
theorem named_any (R : Rp) (bs B : Nat) (r : Toks) (h : StH) (s : Sl) (w : World) (hp : Pm R bs B w ⟨h, .nil, .nil, s⟩ r) :
    Calls Tryz.prog 173 #[.pointer (some ⟨R.br, 0, none⟩), .pointer (some ⟨bs, 0, none⟩)] w (StmP R bs B w (namedX h r)) := by
  have HP := Lib.hid hp
  clear hp
  cases hn : isName r
  · have HR : Hid (namedX h r = .no r) := Lib.hid (by unfold namedX nameR; rw [if_neg (by rw [hn]; decide)]; rfl)
    rw [HR.out]
    go_enter Tryz.func173, Tryz.ntmps173
    go_wp2_with fail
    refine (name_no' R _ _ hn HP.out.rd).mono ?_
    rintro e w1 ⟨rfl, h2⟩
    have HP1 := Lib.hid (HP.out.below h2)
    have HF := Lib.hid (Fr.of_gr (br := R.br) (bs := bs) (gr_below h2))
    clear h2 HP
    have c2 := HP1.out.cell (j := 2) rfl
    have f2 := HP1.out.free 2
    go_wp2_with fail
    go_ret
    exact stm_no (HP1.out.nm ⟨#[]⟩ (Nat.zero_le _)) (HF.out.set _ _ (.inl rfl))
  · have HNM : Hid ((tx (nextT r)).size ≤ maxLen) := Lib.hid (nm_size (ts_name HP.out.rd.ts hn))
    have HR : Hid (namedX h r = (need [59] r.tail).map fun _ => ⟨{ h with nm := tx (nextT r) }, .nil, .nil⟩) := Lib.hid (by unfold namedX nameR; rw [if_pos hn]; rfl)
    rw [HR.out]
    go_enter Tryz.func173, Tryz.ntmps173
    go_wp2_with fail
    refine (name_yes R _ _ hn HP.out.rd).mono ?_
    rintro e w1 ⟨rfl, h2, h3⟩
    have HP1 := Lib.hid (HP.out.then h2 h3)
    have HF := Lib.hid (Fr.of_gr (br := R.br) (bs := bs) h3)
    clear h2 h3 HP
    have c2 := HP1.out.cell (j := 2) rfl
    have f2 := HP1.out.free 2
    go_upto_region 3 with fail
    generalize hW : World.setCell w1 _ _ = W
    have HP2 : Hid (Pm R bs B W ⟨{ h with nm := tx (nextT r) }, .nil, .nil, s⟩ r.tail) := Lib.hid (by rw [← hW]; exact HP1.out.nm _ HNM.out)
    have HF2 : Hid (Fr R.br bs w W) := Lib.hid (by rw [← hW]; exact HF.out.set _ _ (.inl rfl))
    clear hW c2 f2 HP1 HF
    cases h4 : at' [59] r.tail
    · go_wp2_with fail
      refine (accept_no R _ _ ⟨#[59]⟩ rfl h4 HP2.out.rd).mono ?_
      rintro e w3 ⟨rfl, h2⟩
      have HP3 := Lib.hid (HP2.out.below h2)
      have HF3 := Lib.hid (HF2.out.trans (Fr.of_gr (gr_below h2)))
      clear h2
      go_wp2_with fail
      go_ret
      exact (show need [59] r.tail = .no r.tail by unfold need; rw [if_neg (by rw [h4]; decide)]) ▸ stm_no HP3.out HF3.out
    · go_wp2_with fail
      refine (accept_yes R _ _ ⟨#[59]⟩ rfl h4 HP2.out.rd).mono ?_
      rintro e w3 ⟨rfl, h2, h3⟩
      have HP3 := Lib.hid (HP2.out.then h2 h3)
      have HF3 := Lib.hid (HF2.out.trans (Fr.of_gr h3))
      clear h2 h3
      go_wp2_with fail
      go_ret
      exact (show need [59] r.tail = .ok () r.tail.tail by unfold need; rw [if_pos h4]) ▸ stm_ok (y := ⟨{ h with nm := tx (nextT r) }, .nil, .nil⟩) HP3.out HF3.out
theorem close_yes' {α : Type} {x : α} {r : Toks} {y : List UInt8} (h : at' y r = true) : (Res.ok x r).close y = .ok x r.tail := by show ite _ _ _ = _; rw [if_pos h]
theorem close_not' {α : Type} {x : α} {r : Toks} {y : List UInt8} (h : at' y r = false) : (Res.ok x r).close y = .no r := by show ite _ _ _ = _; rw [if_neg (by rw [h]; decide)]
theorem nameR_yes {r : Toks} (h : isName r = true) : nameR r = .ok (tx (nextT r)) r.tail := by unfold nameR; rw [if_pos h]
theorem nameR_no {r : Toks} (h : isName r = false) : nameR r = .no r := by unfold nameR; rw [if_neg (by rw [h]; decide)]
set_option maxHeartbeats 1000000 in
set_option maxRecDepth 100000 in
theorem namedBlock_any (R : Rp) (bs B f : Nat) (r : Toks) (HBS : Hid (isName r = true → BlkSays R f r.tail)) (h : StH) (s : Sl) (w : World) (hp : Pm R bs B w ⟨h, .nil, .nil, s⟩ r) :
    Calls Tryz.prog 171 #[.pointer (some ⟨R.br, 0, none⟩), .pointer (some ⟨bs, 0, none⟩)] w (StmP R bs B w (namedBX f h r)) := by
  have HP := Lib.hid hp
  clear hp
  cases hn : isName r
  · have HR : Hid (namedBX f h r = .no r) := Lib.hid (by unfold namedBX; rw [nameR_no hn]; rfl)
    rw [HR.out]
    go_enter Tryz.func171, Tryz.ntmps171
    go_wp2_with fail
    refine (name_no' R _ _ hn HP.out.rd).mono ?_
    rintro e w1 ⟨rfl, h2⟩
    have HP1 := Lib.hid (HP.out.below h2)
    have HF := Lib.hid (Fr.of_gr (br := R.br) (bs := bs) (gr_below h2))
    clear h2 HP
    have c2 := HP1.out.cell (j := 2) rfl
    have f2 := HP1.out.free 2
    go_wp2_with fail
    go_ret
    exact stm_no (HP1.out.nm ⟨#[]⟩ (Nat.zero_le _)) (HF.out.set _ _ (.inl rfl))
  · have HNM : Hid ((tx (nextT r)).size ≤ maxLen) := Lib.hid (nm_size (ts_name HP.out.rd.ts hn))
    have HR : Hid (namedBX f h r = plainX f { h with nm := tx (nextT r) } r.tail) := Lib.hid (by unfold namedBX; rw [nameR_yes hn]; rfl)
    have HC : Hid (∀ W, Pm R bs B W ⟨{ h with nm := tx (nextT r) }, .nil, .nil, s⟩ r.tail → Calls Tryz.prog 172 #[.pointer (some ⟨R.br, 0, none⟩), .pointer (some ⟨bs, 0, none⟩)] W (StmP R bs B W (plainX f { h with nm := tx (nextT r) } r.tail))) := Lib.hid (fun W hW => plain_any R bs B f r.tail (Lib.hid (HBS.out hn)) _ .nil s W hW)
    rw [HR.out]
    clear HR HBS
    generalize plainX f { h with nm := tx (nextT r) } r.tail = res at *
    go_enter Tryz.func171, Tryz.ntmps171
    go_wp2_with fail
    refine (name_yes R _ _ hn HP.out.rd).mono ?_
    rintro e w1 ⟨rfl, h2, h3⟩
    have HP1 := Lib.hid (HP.out.then h2 h3)
    have HF := Lib.hid (Fr.of_gr (br := R.br) (bs := bs) h3)
    clear h2 h3 HP
    have c2 := HP1.out.cell (j := 2) rfl
    have f2 := HP1.out.free 2
    go_upto_region 3 with fail
    generalize hW : World.setCell w1 _ _ = W
    have HP2 : Hid (Pm R bs B W ⟨{ h with nm := tx (nextT r) }, .nil, .nil, s⟩ r.tail) := Lib.hid (by rw [← hW]; exact HP1.out.nm _ HNM.out)
    have HF2 : Hid (Fr R.br bs w W) := Lib.hid (by rw [← hW]; exact HF.out.set _ _ (.inl rfl))
    clear hW c2 f2 HP1 HF
    go_wp2_with fail
    refine (HC.out _ HP2.out).mono ?_
    cases res with
    | no q =>
      rintro e w3 ⟨rfl, ⟨x, h2⟩, h3⟩
      have HP3 := Lib.hid h2
      have HF3 := Lib.hid (HF2.out.trans h3)
      clear h2 h3
      go_wp2_with fail
      go_ret
      exact stm_no HP3.out HF3.out
    | ok y q =>
      rintro e w3 ⟨rfl, ⟨x, h2⟩, h3⟩
      have HP3 := Lib.hid h2
      have HF3 := Lib.hid (HF2.out.trans h3)
      clear h2 h3
      go_wp2_with fail
      go_ret
      exact stm_ok HP3.out HF3.out
set_option maxHeartbeats 1000000 in
set_option maxRecDepth 100000 in
theorem setting_any (R : Rp) (bs B : Nat) (r : Toks) (h : StH) (s : Sl) (w : World) (hp : Pm R bs B w ⟨h, .nil, .nil, s⟩ r) :
    Calls Tryz.prog 174 #[.pointer (some ⟨R.br, 0, none⟩), .pointer (some ⟨bs, 0, none⟩)] w (StmP R bs B w (setX h r)) := by
  have HP := Lib.hid hp
  clear hp
  cases hn : isName r
  · have HR : Hid (setX h r = .no r) := Lib.hid (by unfold setX; rw [nameR_no hn]; rfl)
    rw [HR.out]
    go_enter Tryz.func174, Tryz.ntmps174
    go_wp2_with fail
    refine (name_no' R _ _ hn HP.out.rd).mono ?_
    rintro e w1 ⟨rfl, h2⟩
    have HP1 := Lib.hid (HP.out.below h2)
    have HF := Lib.hid (Fr.of_gr (br := R.br) (bs := bs) (gr_below h2))
    clear h2 HP
    have c2 := HP1.out.cell (j := 2) rfl
    have f2 := HP1.out.free 2
    go_wp2_with fail
    go_ret
    exact stm_no (HP1.out.nm ⟨#[]⟩ (Nat.zero_le _)) (HF.out.set _ _ (.inl rfl))
  · have HNM : Hid ((tx (nextT r)).size ≤ maxLen) := Lib.hid (nm_size (ts_name HP.out.rd.ts hn))
    have HR : Hid (setX h r = ((Pz.expr r.tail).map fun x => (⟨StH.ex { h with nm := tx (nextT r) } x, .nil, .nil⟩ : Sx)).close [59]) := Lib.hid (by unfold setX; rw [nameR_yes hn]; rfl)
    have HC : Hid (∀ W, RdI W R r.tail → Calls Tryz.prog 43 #[.pointer (some ⟨R.br, 0, none⟩)] W (ExpP R W (Pz.expr r.tail))) := Lib.hid (fun W hW => expr_any' R r.tail W hW)
    rw [HR.out]
    clear HR
    generalize Pz.expr r.tail = res at *
    go_enter Tryz.func174, Tryz.ntmps174
    go_wp2_with fail
    refine (name_yes R _ _ hn HP.out.rd).mono ?_
    rintro e w1 ⟨rfl, h2, h3⟩
    have HP1 := Lib.hid (HP.out.then h2 h3)
    have HF := Lib.hid (Fr.of_gr (br := R.br) (bs := bs) h3)
    clear h2 h3 HP
    have c2 := HP1.out.cell (j := 2) rfl
    have f2 := HP1.out.free 2
    go_upto_region 3 with fail
    generalize hW : World.setCell w1 _ _ = W
    have HP2 : Hid (Pm R bs B W ⟨{ h with nm := tx (nextT r) }, .nil, .nil, s⟩ r.tail) := Lib.hid (by rw [← hW]; exact HP1.out.nm _ HNM.out)
    have HF2 : Hid (Fr R.br bs w W) := Lib.hid (by rw [← hW]; exact HF.out.set _ _ (.inl rfl))
    clear hW c2 f2 HP1 HF
    go_wp2_with fail
    refine (HC.out _ HP2.out.rd).mono ?_
    cases res with
    | no q =>
      rintro e w3 ⟨rfl, h2, h3⟩
      have HP3 := Lib.hid (HP2.out.then h2 h3)
      have HF3 := Lib.hid (HF2.out.trans (Fr.of_gr h3))
      clear h2 h3 HP2 HF2
      have c5 := HP3.out.cell (j := 5) rfl
      have c6 := HP3.out.cell (j := 6) rfl
      have c7 := HP3.out.cell (j := 7) rfl
      have c8 := HP3.out.cell (j := 8) rfl
      have f5 := HP3.out.free 5
      have f6 := HP3.out.free 6
      have f7 := HP3.out.free 7
      have f8 := HP3.out.free 8
      unfold zE
      go_wp2_with fail
      go_ret
      exact stm_no (HP3.out.ex ⟨0, 0, ⟨#[]⟩, .nil⟩ none 0 zE_ok stay_nilE) ((((HF3.out.set _ _ (.inl rfl)).set _ _ (.inl rfl)).set _ _ (.inl rfl)).set _ _ (.inl rfl))
    | ok x q =>
      rintro e w3 ⟨v, rfl, hv, h2, h3⟩
      have HP3 := Lib.hid (HP2.out.then h2 h3)
      have HF3 := Lib.hid (HF2.out.trans (Fr.of_gr h3))
      have HV := Lib.hid (hv.mono HP2.out.sz)
      clear h2 h3 hv HP2 HF2
      obtain ⟨ao, cap, rfl, hok, hst⟩ := HV.out
      have HE := Lib.hid (And.intro hok hst)
      clear hok hst HV
      have c5 := HP3.out.cell (j := 5) rfl
      have c6 := HP3.out.cell (j := 6) rfl
      have c7 := HP3.out.cell (j := 7) rfl
      have c8 := HP3.out.cell (j := 8) rfl
      have f5 := HP3.out.free 5
      have f6 := HP3.out.free 6
      have f7 := HP3.out.free 7
      have f8 := HP3.out.free 8
      unfold exV
      go_upto_region 6 with fail
      generalize hW : World.setCell (World.setCell (World.setCell (World.setCell w3 _ _) _ _) _ _) _ _ = W5
      have HP5 : Hid (Pm R bs B W5 ⟨StH.ex { h with nm := tx (nextT r) } x, .nil, .nil, { s with aox := ao, capx := cap }⟩ q) := Lib.hid (by rw [← hW]; exact HP3.out.ex x ao cap HE.out.1 HE.out.2)
      have HF5 : Hid (Fr R.br bs w W5) := Lib.hid (by rw [← hW]; exact (((HF3.out.set _ _ (.inl rfl)).set _ _ (.inl rfl)).set _ _ (.inl rfl)).set _ _ (.inl rfl))
      clear hW c5 c6 c7 c8 f5 f6 f7 f8 HP3 HF3 HE
      cases h4 : at' [59] q
      · go_wp2_with fail
        refine (accept_no R _ _ ⟨#[59]⟩ rfl h4 HP5.out.rd).mono ?_
        rintro e w3 ⟨rfl, h2⟩
        have HP3 := Lib.hid (HP5.out.below h2)
        have HF3 := Lib.hid (HF5.out.trans (Fr.of_gr (gr_below h2)))
        clear h2
        go_wp2_with fail
        go_ret
        exact stm_cast (close_not' h4) (stm_no HP3.out HF3.out)
      · go_wp2_with fail
        refine (accept_yes R _ _ ⟨#[59]⟩ rfl h4 HP5.out.rd).mono ?_
        rintro e w3 ⟨rfl, h2, h3⟩
        have HP3 := Lib.hid (HP5.out.then h2 h3)
        have HF3 := Lib.hid (HF5.out.trans (Fr.of_gr h3))
        clear h2 h3
        go_wp2_with fail
        go_ret
        exact stm_cast (close_yes' h4) (stm_ok (y := ⟨StH.ex { h with nm := tx (nextT r) } x, .nil, .nil⟩) HP3.out HF3.out)
set_option maxHeartbeats 1000000 in
set_option maxRecDepth 100000 in
theorem getting_any (R : Rp) (bs B : Nat) (r : Toks) (h : StH) (s : Sl) (w : World) (hp : Pm R bs B w ⟨h, .nil, .nil, s⟩ r) :
    Calls Tryz.prog 175 #[.pointer (some ⟨R.br, 0, none⟩), .pointer (some ⟨bs, 0, none⟩)] w (StmP R bs B w (getX h r)) := by
  have HP := Lib.hid hp
  clear hp
  cases hn : isName r
  · have HR : Hid (getX h r = .no r) := Lib.hid (by unfold getX; rw [nameR_no hn]; rfl)
    rw [HR.out]
    go_enter Tryz.func175, Tryz.ntmps175
    go_wp2_with fail
    refine (name_no' R _ _ hn HP.out.rd).mono ?_
    rintro e w1 ⟨rfl, h2⟩
    have HP1 := Lib.hid (HP.out.below h2)
    have HF := Lib.hid (Fr.of_gr (br := R.br) (bs := bs) (gr_below h2))
    clear h2 HP
    have c2 := HP1.out.cell (j := 2) rfl
    have f2 := HP1.out.free 2
    go_wp2_with fail
    go_ret
    exact stm_no (HP1.out.nm ⟨#[]⟩ (Nat.zero_le _)) (HF.out.set _ _ (.inl rfl))
  · have HNM : Hid ((tx (nextT r)).size ≤ maxLen) := Lib.hid (nm_size (ts_name HP.out.rd.ts hn))
    have HR : Hid (getX h r = ((nameR r.tail).map fun a => (⟨{ h with nm := tx (nextT r), arg := a }, .nil, .nil⟩ : Sx)).close [59]) := Lib.hid (by unfold getX; rw [nameR_yes hn]; rfl)
    rw [HR.out]
    clear HR
    cases hm : isName r.tail
    · have HR : Hid (nameR r.tail = .no r.tail) := Lib.hid (nameR_no hm)
      rw [HR.out]
      go_enter Tryz.func175, Tryz.ntmps175
      go_wp2_with fail
      refine (name_yes R _ _ hn HP.out.rd).mono ?_
      rintro e w1 ⟨rfl, h2, h3⟩
      have HP1 := Lib.hid (HP.out.then h2 h3)
      have HF := Lib.hid (Fr.of_gr (br := R.br) (bs := bs) h3)
      clear h2 h3 HP
      have c2 := HP1.out.cell (j := 2) rfl
      have f2 := HP1.out.free 2
      go_upto_region 3 with fail
      generalize hW : World.setCell w1 _ _ = W
      have HP2 : Hid (Pm R bs B W ⟨{ h with nm := tx (nextT r) }, .nil, .nil, s⟩ r.tail) := Lib.hid (by rw [← hW]; exact HP1.out.nm _ HNM.out)
      have HF2 : Hid (Fr R.br bs w W) := Lib.hid (by rw [← hW]; exact HF.out.set _ _ (.inl rfl))
      clear hW c2 f2 HP1 HF
      go_wp2_with fail
      refine (name_no' R _ _ hm HP2.out.rd).mono ?_
      rintro e w3 ⟨rfl, h2⟩
      have HP3 := Lib.hid (HP2.out.below h2)
      have HF3 := Lib.hid (HF2.out.trans (Fr.of_gr (gr_below h2)))
      clear h2 HP2 HF2
      have c3 := HP3.out.cell (j := 3) rfl
      have f3 := HP3.out.free 3
      go_wp2_with fail
      go_ret
      exact stm_no (HP3.out.arg ⟨#[]⟩ (Nat.zero_le _)) (HF3.out.set _ _ (.inl rfl))
    · have HNM2 : Hid ((tx (nextT r.tail)).size ≤ maxLen) := Lib.hid (nm_size (ts_name HP.out.rd.ts.tail hm))
      have HR : Hid (nameR r.tail = .ok (tx (nextT r.tail)) r.tail.tail) := Lib.hid (nameR_yes hm)
      rw [HR.out]
      go_enter Tryz.func175, Tryz.ntmps175
      go_wp2_with fail
      refine (name_yes R _ _ hn HP.out.rd).mono ?_
      rintro e w1 ⟨rfl, h2, h3⟩
      have HP1 := Lib.hid (HP.out.then h2 h3)
      have HF := Lib.hid (Fr.of_gr (br := R.br) (bs := bs) h3)
      clear h2 h3 HP
      have c2 := HP1.out.cell (j := 2) rfl
      have f2 := HP1.out.free 2
      go_upto_region 3 with fail
      generalize hW : World.setCell w1 _ _ = W
      have HP2 : Hid (Pm R bs B W ⟨{ h with nm := tx (nextT r) }, .nil, .nil, s⟩ r.tail) := Lib.hid (by rw [← hW]; exact HP1.out.nm _ HNM.out)
      have HF2 : Hid (Fr R.br bs w W) := Lib.hid (by rw [← hW]; exact HF.out.set _ _ (.inl rfl))
      clear hW c2 f2 HP1 HF
      go_wp2_with fail
      refine (name_yes R _ _ hm HP2.out.rd).mono ?_
      rintro e w3 ⟨rfl, h2, h3⟩
      have HP3 := Lib.hid (HP2.out.then h2 h3)
      have HF3 := Lib.hid (HF2.out.trans (Fr.of_gr h3))
      clear h2 h3 HP2 HF2
      have c3 := HP3.out.cell (j := 3) rfl
      have f3 := HP3.out.free 3
      go_upto_region 6 with fail
      generalize hW : World.setCell w3 _ _ = W5
      have HP5 : Hid (Pm R bs B W5 ⟨{ h with nm := tx (nextT r), arg := tx (nextT r.tail) }, .nil, .nil, s⟩ r.tail.tail) := Lib.hid (by rw [← hW]; exact HP3.out.arg _ HNM2.out)
      have HF5 : Hid (Fr R.br bs w W5) := Lib.hid (by rw [← hW]; exact HF3.out.set _ _ (.inl rfl))
      clear hW c3 f3 HP3 HF3
      cases h4 : at' [59] r.tail.tail
      · go_wp2_with fail
        refine (accept_no R _ _ ⟨#[59]⟩ rfl h4 HP5.out.rd).mono ?_
        rintro e w3 ⟨rfl, h2⟩
        have HP3 := Lib.hid (HP5.out.below h2)
        have HF3 := Lib.hid (HF5.out.trans (Fr.of_gr (gr_below h2)))
        clear h2
        go_wp2_with fail
        go_ret
        exact stm_cast (close_not' h4) (stm_no HP3.out HF3.out)
      · go_wp2_with fail
        refine (accept_yes R _ _ ⟨#[59]⟩ rfl h4 HP5.out.rd).mono ?_
        rintro e w3 ⟨rfl, h2, h3⟩
        have HP3 := Lib.hid (HP5.out.then h2 h3)
        have HF3 := Lib.hid (HF5.out.trans (Fr.of_gr h3))
        clear h2 h3
        go_wp2_with fail
        go_ret
        exact stm_cast (close_yes' h4) (stm_ok (y := ⟨{ h with nm := tx (nextT r), arg := tx (nextT r.tail) }, .nil, .nil⟩) HP3.out HF3.out)
end Go.Proofs.YtommnhglgedflaaGreatDoor
end
section
set_option linter.unusedSimpArgs false
set_option linter.unusedVariables false
namespace Go.Proofs.YtommnhglgedflaaGreatDoor
open Go.RowKit
open Md Pz
set_option maxHeartbeats 1000000 in
set_option maxRecDepth 100000 in
theorem loop_any (R : Rp) (bs B f : Nat) (r : Toks) (HBS : Hid (∀ q, q.length < r.length → BlkSays R f q)) (h : StH) (s : Sl) (w : World) (hp : Pm R bs B w ⟨h, .nil, .nil, s⟩ r) :
    Calls Tryz.prog 170 #[.pointer (some ⟨R.br, 0, none⟩), .pointer (some ⟨bs, 0, none⟩)] w (StmP R bs B w (loopX f h r)) := by
  have HP2 := Lib.hid hp
  have HF2 := Lib.hid (Fr.refl R.br bs w)
  clear hp
  have HC : Hid (∀ W, RdI W R r → Calls Tryz.prog 43 #[.pointer (some ⟨R.br, 0, none⟩)] W (ExpP R W (Pz.expr r))) := Lib.hid (fun W hW => expr_any' R r W hW)
  have HB2 : Hid (∀ x q, Pz.expr r = .ok x q → BlkSays R f q) := Lib.hid (fun x q e => HBS.out q (expr_len e))
  clear HBS
  unfold loopX
  generalize Pz.expr r = res at *
  go_enter Tryz.func170, Tryz.ntmps170
  go_wp2_with fail
  refine (HC.out _ HP2.out.rd).mono ?_
  cases res with
  | no q =>
    rintro e w3 ⟨rfl, h2, h3⟩
    have HP3 := Lib.hid (HP2.out.then h2 h3)
    have HF3 := Lib.hid (HF2.out.trans (Fr.of_gr h3))
    clear h2 h3 HP2 HF2
    have c5 := HP3.out.cell (j := 5) rfl
    have c6 := HP3.out.cell (j := 6) rfl
    have c7 := HP3.out.cell (j := 7) rfl
    have c8 := HP3.out.cell (j := 8) rfl
    have f5 := HP3.out.free 5
    have f6 := HP3.out.free 6
    have f7 := HP3.out.free 7
    have f8 := HP3.out.free 8
    unfold zE
    go_wp2_with fail
    go_ret
    exact stm_no (HP3.out.ex ⟨0, 0, ⟨#[]⟩, .nil⟩ none 0 zE_ok stay_nilE) ((((HF3.out.set _ _ (.inl rfl)).set _ _ (.inl rfl)).set _ _ (.inl rfl)).set _ _ (.inl rfl))
  | ok x q =>
    have HD : Hid (∀ W s, Pm R bs B W ⟨StH.ex h x, .nil, .nil, s⟩ q → Calls Tryz.prog 172 #[.pointer (some ⟨R.br, 0, none⟩), .pointer (some ⟨bs, 0, none⟩)] W (StmP R bs B W (plainX f (StH.ex h x) q))) := Lib.hid (fun W s hW => plain_any R bs B f q (Lib.hid (HB2.out x q rfl)) _ .nil s W hW)
    rintro e w3 ⟨v, rfl, hv, h2, h3⟩
    have HP3 := Lib.hid (HP2.out.then h2 h3)
    have HF3 := Lib.hid (HF2.out.trans (Fr.of_gr h3))
    have HV := Lib.hid (hv.mono HP2.out.sz)
    clear h2 h3 hv HP2 HF2
    obtain ⟨ao, cap, rfl, hok, hst⟩ := HV.out
    have HE := Lib.hid (And.intro hok hst)
    clear hok hst HV
    have c5 := HP3.out.cell (j := 5) rfl
    have c6 := HP3.out.cell (j := 6) rfl
    have c7 := HP3.out.cell (j := 7) rfl
    have c8 := HP3.out.cell (j := 8) rfl
    have f5 := HP3.out.free 5
    have f6 := HP3.out.free 6
    have f7 := HP3.out.free 7
    have f8 := HP3.out.free 8
    unfold exV
    go_upto_region 3 with fail
    generalize hW : World.setCell (World.setCell (World.setCell (World.setCell w3 _ _) _ _) _ _) _ _ = W5
    have HP5 : Hid (Pm R bs B W5 ⟨StH.ex h x, .nil, .nil, { s with aox := ao, capx := cap }⟩ q) := Lib.hid (by rw [← hW]; exact HP3.out.ex x ao cap HE.out.1 HE.out.2)
    have HF5 : Hid (Fr R.br bs w W5) := Lib.hid (by rw [← hW]; exact (((HF3.out.set _ _ (.inl rfl)).set _ _ (.inl rfl)).set _ _ (.inl rfl)).set _ _ (.inl rfl))
    clear hW c5 c6 c7 c8 f5 f6 f7 f8 HP3 HF3 HE
    clear HB2 HC
    obtain ⟨res2, HR2⟩ : ∃ res2, Hid (plainX f (StH.ex h x) q = res2) := ⟨_, Lib.hid rfl⟩
    rw [HR2.out] at HD
    go_wp2_with fail
    refine (HD.out _ _ HP5.out).mono ?_
    cases res2 with
    | no q2 =>
      rintro e w6 ⟨rfl, ⟨x', h2⟩, h3⟩
      have HP6 := Lib.hid h2
      have HF6 := Lib.hid (HF5.out.trans h3)
      clear h2 h3
      go_wp2_with fail
      go_ret
      exact stm_cast HR2.out (stm_no HP6.out HF6.out)
    | ok y q2 =>
      rintro e w6 ⟨rfl, ⟨x', h2⟩, h3⟩
      have HP6 := Lib.hid h2
      have HF6 := Lib.hid (HF5.out.trans h3)
      clear h2 h3
      go_wp2_with fail
      go_ret
      exact stm_cast HR2.out (stm_ok HP6.out HF6.out)
theorem loopX_len {f : Nat} {h : StH} {r q : Toks} {y : Sx} (e : loopX f h r = .ok y q) : q.length < r.length ∧ y.e = .nil := by
  unfold loopX plainX at e
  obtain ⟨x, r1, e1, e⟩ := bind_lt e
  obtain ⟨b, e2, rfl⟩ := map_ok e
  have := expr_len e1
  have := blk_len e2
  exact ⟨by omega, rfl⟩
set_option maxHeartbeats 1000000 in
set_option maxRecDepth 100000 in
theorem cond_any (R : Rp) (bs B f : Nat) (r : Toks) (HBS : Hid (∀ q, q.length < r.length → BlkSays R f q)) (h : StH) (s : Sl) (w : World) (hp : Pm R bs B w ⟨h, .nil, .nil, s⟩ r) :
    Calls Tryz.prog 169 #[.pointer (some ⟨R.br, 0, none⟩), .pointer (some ⟨bs, 0, none⟩)] w (StmP R bs B w (condX f h r)) := by
  have HD := Lib.hid (loop_any R bs B f r HBS h s w hp)
  have HL : Hid (∀ y q, loopX f h r = .ok y q → q.length < r.length ∧ y.e = .nil) := Lib.hid (fun y q e => loopX_len e)
  clear hp
  unfold condX
  generalize loopX f h r = res at *
  go_enter Tryz.func169, Tryz.ntmps169
  go_wp2_with fail
  refine HD.out.mono ?_
  cases res with
  | no q =>
    rintro e w1 ⟨rfl, ⟨x, h2⟩, h3⟩
    have HP1 := Lib.hid h2
    have HF1 := Lib.hid h3
    clear h2 h3
    go_wp2_with fail
    go_ret
    exact stm_no HP1.out HF1.out
  | ok y q =>
    have HLQ := Lib.hid (HL.out y q rfl)
    clear HL HD
    rintro e w1 ⟨rfl, ⟨sy, h2⟩, h3⟩
    have HP1 := Lib.hid h2
    have HF1 := Lib.hid h3
    clear h2 h3
    cases h4 : at' [101, 108, 115, 101] q
    · go_wp2_with fail
      refine (accept_no R _ _ ⟨#[101, 108, 115, 101]⟩ rfl h4 HP1.out.rd).mono ?_
      rintro e w3 ⟨rfl, h2⟩
      have HP3 := Lib.hid (HP1.out.below h2)
      have HF3 := Lib.hid (HF1.out.trans (Fr.of_gr (gr_below h2)))
      clear h2
      go_wp2_with fail
      go_ret
      exact stm_cast (show ite _ _ _ = _ from if_neg (by rw [h4]; decide)) (stm_ok HP3.out HF3.out)
    · have HC : Hid (∀ W, RdI W R q.tail → Calls Tryz.prog 109 #[.pointer (some ⟨R.br, 0, none⟩)] W (BlkP R W (blk f q.tail))) := Lib.hid (HBS.out q.tail (by have := HLQ.out.1; have := at_len h4; omega))
      have HEQ : Hid ((Res.ok y q).bind (fun y r => if at' [101, 108, 115, 101] r then (blk f r.tail).map fun e => (⟨y.h, y.b, e⟩ : Sx) else .ok y r) = (blk f q.tail).map fun e => ⟨y.h, y.b, e⟩) := Lib.hid (show ite _ _ _ = _ from if_pos h4)
      obtain ⟨res2, HR2⟩ : ∃ res2, Hid (blk f q.tail = res2) := ⟨_, Lib.hid rfl⟩
      rw [HR2.out] at HC HEQ
      clear HBS HR2
      go_wp2_with fail
      refine (accept_yes R _ _ ⟨#[101, 108, 115, 101]⟩ rfl h4 HP1.out.rd).mono ?_
      rintro e w3 ⟨rfl, h2, h3⟩
      have HP3 := Lib.hid (HP1.out.then h2 h3)
      have HF3 := Lib.hid (HF1.out.trans (Fr.of_gr h3))
      clear h2 h3
      go_wp2_with fail
      refine (HC.out _ HP3.out.rd).mono ?_
      cases res2 with
      | no q2 =>
        rintro e w4 ⟨rfl, h2, h3⟩
        have HP4 := Lib.hid (HP3.out.then h2 h3)
        have HF4 := Lib.hid (HF3.out.trans (Fr.of_gr h3))
        clear h2 h3
        have c10 := HP4.out.cell (j := 10) rfl
        have f10 := HP4.out.free 10
        go_wp2_with fail
        go_ret
        exact stm_cast HEQ.out (stm_no (HP4.out.els .nil none 0 nilL_len stay_nil) (HF4.out.set _ _ (.inl rfl)))
      | ok b q2 =>
        rintro e w4 ⟨⟨ao, cap, rfl, hl, hst⟩, h2, h3⟩
        have HP4 := Lib.hid (HP3.out.then h2 h3)
        have HF4 := Lib.hid (HF3.out.trans (Fr.of_gr h3))
        have HL : Hid (b.len ≤ maxLen) := Lib.hid (Nat.le_trans hl (by unfold maxLen; decide))
        have HS := Lib.hid (hst.mono HP3.out.sz)
        clear h2 h3 hl hst
        have c10 := HP4.out.cell (j := 10) rfl
        have f10 := HP4.out.free 10
        go_wp2_with fail
        go_ret
        exact stm_cast HEQ.out (stm_ok (y := ⟨y.h, y.b, b⟩) (HP4.out.els b ao cap HL.out HS.out) (HF4.out.set _ _ (.inl rfl)))
theorem need_yes {x : List UInt8} {r : Toks} (h : at' x r = true) : need x r = .ok () r.tail := by unfold need; rw [if_pos h]
theorem need_not {x : List UInt8} {r : Toks} (h : at' x r = false) : need x r = .no r := by unfold need; rw [if_neg (by rw [h]; decide)]
/-- What an assignment reads behind its index. -/
def asgT (h : StH) (r : Toks) : Res Sx := (need [61] r).bind fun _ r => (((Pz.expr r).map fun x => (⟨StH.ex h x, .nil, .nil⟩ : Sx)).close [59])
theorem asgX_no {h : StH} {r : Toks} (h1 : at' [91] r = false) : asgX h r = asgT h r := by unfold asgX; rw [if_neg (by rw [h1]; decide)]; rfl
theorem asgX_yes {h : StH} {r : Toks} (h1 : at' [91] r = true) : asgX h r = ((Pz.expr r.tail).close [93]).bind fun x r => asgT { h with idx := .cons x.op x.n x.nm x.kids .nil } r := by
  unfold asgX; rw [if_pos h1]
  cases (Pz.expr r.tail).close [93] <;> rfl
set_option maxHeartbeats 4000000 in
set_option maxRecDepth 100000 in
theorem assignment_any (R : Rp) (bs B : Nat) (r : Toks) (h : StH) (s : Sl) (w : World) (hp : Pm R bs B w ⟨h, .nil, .nil, s⟩ r) :
    Calls Tryz.prog 150 #[.pointer (some ⟨R.br, 0, none⟩), .pointer (some ⟨bs, 0, none⟩)] w (StmP R bs B w (asgNX h r)) := by
  have HP := Lib.hid hp
  clear hp
  cases hn : isName r
  · have HR : Hid (asgNX h r = .no r) := Lib.hid (by unfold asgNX; rw [nameR_no hn]; rfl)
    rw [HR.out]
    go_enter Tryz.func150, Tryz.ntmps150
    go_wp2_with fail
    refine (name_no' R _ _ hn HP.out.rd).mono ?_
    rintro e w1 ⟨rfl, h2⟩
    have HP1 := Lib.hid (HP.out.below h2)
    have HF := Lib.hid (Fr.of_gr (br := R.br) (bs := bs) (gr_below h2))
    clear h2 HP
    have c2 := HP1.out.cell (j := 2) rfl
    have f2 := HP1.out.free 2
    go_wp2_with fail
    go_ret
    exact stm_no (HP1.out.nm ⟨#[]⟩ (Nat.zero_le _)) (HF.out.set _ _ (.inl rfl))
  · have HNM : Hid ((tx (nextT r)).size ≤ maxLen) := Lib.hid (nm_size (ts_name HP.out.rd.ts hn))
    have HR : Hid (asgNX h r = asgX { h with nm := tx (nextT r) } r.tail) := Lib.hid (by unfold asgNX; rw [nameR_yes hn]; rfl)
    rw [HR.out]
    clear HR
    cases h1 : at' [91] r.tail
    · have HR : Hid (asgX { h with nm := tx (nextT r) } r.tail = asgT { h with nm := tx (nextT r) } r.tail) := Lib.hid (asgX_no h1)
      rw [HR.out]
      clear HR
      go_enter Tryz.func150, Tryz.ntmps150
      go_wp2_with fail
      refine (name_yes R _ _ hn HP.out.rd).mono ?_
      rintro e w1 ⟨rfl, h2, h3⟩
      have HP1 := Lib.hid (HP.out.then h2 h3)
      have HF := Lib.hid (Fr.of_gr (br := R.br) (bs := bs) h3)
      clear h2 h3 HP
      have c2 := HP1.out.cell (j := 2) rfl
      have f2 := HP1.out.free 2
      go_upto_region 3 with fail
      generalize hW : World.setCell w1 _ _ = W
      have HP2 : Hid (Pm R bs B W ⟨{ h with nm := tx (nextT r) }, .nil, .nil, s⟩ r.tail) := Lib.hid (by rw [← hW]; exact HP1.out.nm _ HNM.out)
      have HF2 : Hid (Fr R.br bs w W) := Lib.hid (by rw [← hW]; exact HF.out.set _ _ (.inl rfl))
      clear hW c2 f2 HP1 HF
      go_wp2_with fail
      refine (accept_no R _ _ ⟨#[91]⟩ rfl h1 HP2.out.rd).mono ?_
      rintro e w0 ⟨rfl, h2⟩
      have HP6 := Lib.hid (HP2.out.below h2)
      have HF6 := Lib.hid (HF2.out.trans (Fr.of_gr (gr_below h2)))
      clear h2 HP2 HF2
      cases h5 : at' [61] r.tail
      · go_wp2_with fail
        refine (accept_no R _ _ ⟨#[61]⟩ rfl h5 HP6.out.rd).mono ?_
        rintro e w7 ⟨rfl, h2⟩
        have HP7 := Lib.hid (HP6.out.below h2)
        have HF7 := Lib.hid (HF6.out.trans (Fr.of_gr (gr_below h2)))
        clear h2
        go_wp2_with fail
        go_ret
        exact stm_cast (show asgT _ _ = _ by unfold asgT; rw [need_not h5]; rfl) (stm_no HP7.out HF7.out)
      · have HC : Hid (∀ W, RdI W R r.tail.tail → Calls Tryz.prog 43 #[.pointer (some ⟨R.br, 0, none⟩)] W (ExpP R W (Pz.expr r.tail.tail))) := Lib.hid (fun W hW => expr_any' R r.tail.tail W hW)
        have HQ : Hid (asgT { h with nm := tx (nextT r) } r.tail = ((Pz.expr r.tail.tail).map fun x9 => (⟨StH.ex { h with nm := tx (nextT r) } x9, .nil, .nil⟩ : Sx)).close [59]) := Lib.hid (by unfold asgT; rw [need_yes h5]; rfl)
        generalize Pz.expr r.tail.tail = res at *
        go_wp2_with fail
        refine (accept_yes R _ _ ⟨#[61]⟩ rfl h5 HP6.out.rd).mono ?_
        rintro e w7 ⟨rfl, h2, h3⟩
        have HP7 := Lib.hid (HP6.out.then h2 h3)
        have HF7 := Lib.hid (HF6.out.trans (Fr.of_gr h3))
        clear h2 h3 HP6 HF6
        go_wp2_with fail
        refine (HC.out _ HP7.out.rd).mono ?_
        cases res with
        | no q =>
          rintro e w3 ⟨rfl, h2, h3⟩
          have HP3 := Lib.hid (HP7.out.then h2 h3)
          have HF3 := Lib.hid (HF7.out.trans (Fr.of_gr h3))
          clear h2 h3 HP7 HF7
          have c5 := HP3.out.cell (j := 5) rfl
          have c6 := HP3.out.cell (j := 6) rfl
          have c7 := HP3.out.cell (j := 7) rfl
          have c8 := HP3.out.cell (j := 8) rfl
          have f5 := HP3.out.free 5
          have f6 := HP3.out.free 6
          have f7 := HP3.out.free 7
          have f8 := HP3.out.free 8
          unfold zE
          go_wp2_with fail
          go_ret
          exact stm_cast HQ.out (stm_no (HP3.out.ex ⟨0, 0, ⟨#[]⟩, .nil⟩ none 0 zE_ok stay_nilE) ((((HF3.out.set _ _ (.inl rfl)).set _ _ (.inl rfl)).set _ _ (.inl rfl)).set _ _ (.inl rfl)))
        | ok x q =>
          rintro e w3 ⟨v, rfl, hv, h2, h3⟩
          have HP3 := Lib.hid (HP7.out.then h2 h3)
          have HF3 := Lib.hid (HF7.out.trans (Fr.of_gr h3))
          have HV := Lib.hid (hv.mono HP7.out.sz)
          clear h2 h3 hv HP7 HF7
          obtain ⟨ao, cap, rfl, hok, hst⟩ := HV.out
          have HE := Lib.hid (And.intro hok hst)
          clear hok hst HV
          have c5 := HP3.out.cell (j := 5) rfl
          have c6 := HP3.out.cell (j := 6) rfl
          have c7 := HP3.out.cell (j := 7) rfl
          have c8 := HP3.out.cell (j := 8) rfl
          have f5 := HP3.out.free 5
          have f6 := HP3.out.free 6
          have f7 := HP3.out.free 7
          have f8 := HP3.out.free 8
          unfold exV
          go_upto_region 13 with fail
          generalize hW : World.setCell (World.setCell (World.setCell (World.setCell w3 _ _) _ _) _ _) _ _ = W5
          have HP5 : Hid (Pm R bs B W5 ⟨StH.ex { h with nm := tx (nextT r) } x, .nil, .nil, { s with aox := ao, capx := cap }⟩ q) := Lib.hid (by rw [← hW]; exact HP3.out.ex x ao cap HE.out.1 HE.out.2)
          have HF5 : Hid (Fr R.br bs w W5) := Lib.hid (by rw [← hW]; exact (((HF3.out.set _ _ (.inl rfl)).set _ _ (.inl rfl)).set _ _ (.inl rfl)).set _ _ (.inl rfl))
          clear hW c5 c6 c7 c8 f5 f6 f7 f8 HP3 HF3 HE
          cases h4 : at' [59] q
          · go_wp2_with fail
            refine (accept_no R _ _ ⟨#[59]⟩ rfl h4 HP5.out.rd).mono ?_
            rintro e w3 ⟨rfl, h2⟩
            have HP3 := Lib.hid (HP5.out.below h2)
            have HF3 := Lib.hid (HF5.out.trans (Fr.of_gr (gr_below h2)))
            clear h2
            go_wp2_with fail
            go_ret
            exact stm_cast (HQ.out.trans (close_not' h4)) (stm_no HP3.out HF3.out)
          · go_wp2_with fail
            refine (accept_yes R _ _ ⟨#[59]⟩ rfl h4 HP5.out.rd).mono ?_
            rintro e w3 ⟨rfl, h2, h3⟩
            have HP3 := Lib.hid (HP5.out.then h2 h3)
            have HF3 := Lib.hid (HF5.out.trans (Fr.of_gr h3))
            clear h2 h3
            go_wp2_with fail
            go_ret
            exact stm_cast (HQ.out.trans (close_yes' h4)) (stm_ok (y := ⟨StH.ex { h with nm := tx (nextT r) } x, .nil, .nil⟩) HP3.out HF3.out)
    · have HR : Hid (asgX { h with nm := tx (nextT r) } r.tail = ((Pz.expr r.tail.tail).close [93]).bind fun x q => asgT { h with nm := tx (nextT r), idx := .cons x.op x.n x.nm x.kids .nil } q) := Lib.hid (asgX_yes h1)
      rw [HR.out]
      clear HR
      have HC : Hid (∀ W, RdI W R r.tail.tail → Calls Tryz.prog 43 #[.pointer (some ⟨R.br, 0, none⟩)] W (ExpP R W (Pz.expr r.tail.tail))) := Lib.hid (fun W hW => expr_any' R r.tail.tail W hW)
      generalize Pz.expr r.tail.tail = res0 at *
      go_enter Tryz.func150, Tryz.ntmps150
      go_wp2_with fail
      refine (name_yes R _ _ hn HP.out.rd).mono ?_
      rintro e w1 ⟨rfl, h2, h3⟩
      have HP1 := Lib.hid (HP.out.then h2 h3)
      have HF := Lib.hid (Fr.of_gr (br := R.br) (bs := bs) h3)
      clear h2 h3 HP
      have c2 := HP1.out.cell (j := 2) rfl
      have f2 := HP1.out.free 2
      go_upto_region 3 with fail
      generalize hW : World.setCell w1 _ _ = W
      have HP2 : Hid (Pm R bs B W ⟨{ h with nm := tx (nextT r) }, .nil, .nil, s⟩ r.tail) := Lib.hid (by rw [← hW]; exact HP1.out.nm _ HNM.out)
      have HF2 : Hid (Fr R.br bs w W) := Lib.hid (by rw [← hW]; exact HF.out.set _ _ (.inl rfl))
      clear hW c2 f2 HP1 HF
      go_wp2_with fail
      refine (accept_yes R _ _ ⟨#[91]⟩ rfl h1 HP2.out.rd).mono ?_
      rintro e w0 ⟨rfl, h2, h3⟩
      have HP3 := Lib.hid (HP2.out.then h2 h3)
      have HF3 := Lib.hid (HF2.out.trans (Fr.of_gr h3))
      clear h2 h3 HP2 HF2
      go_wp2_with fail
      refine (HC.out _ HP3.out.rd).mono ?_
      clear HC
      cases res0 with
      | no q =>
        rintro e w1 ⟨rfl, h2, h3⟩
        have HP4 := Lib.hid (HP3.out.then h2 h3)
        have HF4 := Lib.hid (HF3.out.trans (Fr.of_gr h3))
        clear h2 h3 HP3 HF3
        unfold zE
        go_wp2_with fail
        go_ret
        exact stm_no (HP4.out.alloc _) (HF4.out.alloc _)
      | ok x q =>
        rintro e w1 ⟨v, rfl, hv, h2, h3⟩
        have HP4 := Lib.hid (HP3.out.then h2 h3)
        have HF4 := Lib.hid (HF3.out.trans (Fr.of_gr h3))
        have HV := Lib.hid (hv.mono HP3.out.sz)
        clear h2 h3 hv HP3 HF3
        obtain ⟨ao, cap, rfl, hok, hst⟩ := HV.out
        have HE := Lib.hid (And.intro hok hst)
        clear hok hst HV
        unfold exV
        go_upto_region 7 with fail
        obtain ⟨g, hg⟩ : ∃ g, w1.heap.size = g := ⟨_, rfl⟩
        generalize hW : World.alloc w1 _ = W2
        have HP5 : Hid (Pm R bs B W2 ⟨{ h with nm := tx (nextT r) }, .nil, .nil, s⟩ q) := Lib.hid (by rw [← hW]; exact HP4.out.alloc _)
        have HF5 : Hid (Fr R.br bs w W2) := Lib.hid (by rw [← hW]; exact HF4.out.alloc _)
        have HB5 : Hid (W2.heap[g]? = some (.cells #[.int .i64 x.op, .int .i64 x.n, .string x.nm, .slice ao x.kids.len cap] 38 (0, 0))) := Lib.hid (by rw [← hW, ← hg]; exact heap_alloc_new _ _)
        have HE5 : Hid (EOk x ∧ Stay B W2 (fun w2 => x.kids.At w2 w2.heap.size ao 0)) := Lib.hid ⟨HE.out.1, by rw [← hW]; exact HE.out.2.next (abv_below (alloc_below _ _))⟩
        have HG : Hid (B ≤ g ∧ g ≠ R.br) := Lib.hid (by have h1 := HP4.out.sz; have h2 := HP4.out.lt.2; omega)
        rw [hg]
        clear hW hg HP4 HF4 HE
        cases h4 : at' [93] q
        · go_wp2_with fail
          refine (accept_no R _ _ ⟨#[93]⟩ rfl h4 HP5.out.rd).mono ?_
          rintro e w3 ⟨rfl, h2⟩
          have HP6 := Lib.hid (HP5.out.below h2)
          have HF6 := Lib.hid (HF5.out.trans (Fr.of_gr (gr_below h2)))
          clear h2
          go_wp2_with fail
          go_ret
          exact stm_cast (show Res.bind ((Res.ok x q).close [93]) _ = .no q by rw [close_not' h4]; rfl) (stm_no HP6.out HF6.out)
        · go_wp2_with fail
          refine (accept_yes R _ _ ⟨#[93]⟩ rfl h4 HP5.out.rd).mono ?_
          rintro e w3 ⟨rfl, h2, h3⟩
          have HP6 := Lib.hid (HP5.out.then h2 h3)
          have HF6 := Lib.hid (HF5.out.trans (Fr.of_gr h3))
          have HB6 := Lib.hid ((h3.block _ (Array.getElem?_eq_some_iff.1 HB5.out).1 (by simp; exact HG.out.2)).trans HB5.out)
          have HE6 : Hid (EOk x ∧ Stay B w3 (fun w2 => x.kids.At w2 w2.heap.size ao 0)) := Lib.hid ⟨HE5.out.1, HE5.out.2.next (abv_gr h3 HP5.out.lt.2)⟩
          clear h2 h3 HP5 HF5 HB5 HE5
          have u0 : w3.cell? ⟨g, 0, none⟩ = some (.int .i64 x.op) := cellb HB6.out rfl
          have u1 : w3.cell? ⟨g, 1, none⟩ = some (.int .i64 x.n) := cellb HB6.out rfl
          have u2 : w3.cell? ⟨g, 2, none⟩ = some (.string x.nm) := cellb HB6.out rfl
          have u3 : w3.cell? ⟨g, 3, none⟩ = some (.slice ao x.kids.len cap) := cellb HB6.out rfl
          have c4 := HP6.out.cell (j := 4) rfl
          have f4 := HP6.out.free 4
          have hlt : bs < w3.heap.size := Nat.lt_of_lt_of_le HP6.out.lt.1 HP6.out.sz
          go_upto_region 10 with fail
          generalize hW : World.alloc _ _ = W8
          have HP8 : Hid (Pm R bs B W8 ⟨{ h with nm := tx (nextT r), idx := .cons x.op x.n x.nm x.kids .nil }, .nil, .nil, { s with aoi := some ⟨w3.heap.size, 0, none⟩, capi := 1 }⟩ q.tail) := Lib.hid (by rw [← hW]; exact HP6.out.idx1 x ao cap _ HE6.out)
          have HF8 : Hid (Fr R.br bs w W8) := Lib.hid (by rw [← hW]; exact (HF6.out.set _ _ (.inl rfl)).alloc _)
          have HEQ : Hid (((Res.ok x q).close [93]).bind (fun x q => asgT { h with nm := tx (nextT r), idx := .cons x.op x.n x.nm x.kids .nil } q) = asgT { h with nm := tx (nextT r), idx := .cons x.op x.n x.nm x.kids .nil } q.tail) := Lib.hid (by rw [close_yes' h4]; rfl)
          clear hW c4 f4 u0 u1 u2 u3 HB6 HE6 hlt HP6 HF6
          obtain ⟨s, HSL⟩ : ∃ s', Hid (({ s with aoi := some ⟨w3.heap.size, 0, none⟩, capi := 1 } : Sl) = s') := ⟨_, Lib.hid rfl⟩
          rw [HSL.out] at HP8
          have HP6 := HP8
          have HF6 := HF8
          clear HP8 HF8 HSL h4
          cases h5 : at' [61] q.tail
          · go_wp2_with fail
            refine (accept_no R _ _ ⟨#[61]⟩ rfl h5 HP6.out.rd).mono ?_
            rintro e w7 ⟨rfl, h2⟩
            have HP7 := Lib.hid (HP6.out.below h2)
            have HF7 := Lib.hid (HF6.out.trans (Fr.of_gr (gr_below h2)))
            clear h2
            go_wp2_with fail
            go_ret
            exact stm_cast (HEQ.out.trans (show asgT _ _ = _ by unfold asgT; rw [need_not h5]; rfl)) (stm_no HP7.out HF7.out)
          · have HC : Hid (∀ W, RdI W R q.tail.tail → Calls Tryz.prog 43 #[.pointer (some ⟨R.br, 0, none⟩)] W (ExpP R W (Pz.expr q.tail.tail))) := Lib.hid (fun W hW => expr_any' R q.tail.tail W hW)
            have HQ : Hid (asgT { h with nm := tx (nextT r), idx := .cons x.op x.n x.nm x.kids .nil } q.tail = ((Pz.expr q.tail.tail).map fun x9 => (⟨StH.ex { h with nm := tx (nextT r), idx := .cons x.op x.n x.nm x.kids .nil } x9, .nil, .nil⟩ : Sx)).close [59]) := Lib.hid (by unfold asgT; rw [need_yes h5]; rfl)
            have HQ := Lib.hid (HEQ.out.trans HQ.out)
            generalize Pz.expr q.tail.tail = res at *
            go_wp2_with fail
            refine (accept_yes R _ _ ⟨#[61]⟩ rfl h5 HP6.out.rd).mono ?_
            rintro e w7 ⟨rfl, h2, h3⟩
            have HP7 := Lib.hid (HP6.out.then h2 h3)
            have HF7 := Lib.hid (HF6.out.trans (Fr.of_gr h3))
            clear h2 h3 HP6 HF6
            go_wp2_with fail
            refine (HC.out _ HP7.out.rd).mono ?_
            cases res with
            | no q =>
              rintro e w3 ⟨rfl, h2, h3⟩
              have HP3 := Lib.hid (HP7.out.then h2 h3)
              have HF3 := Lib.hid (HF7.out.trans (Fr.of_gr h3))
              clear h2 h3 HP7 HF7
              have c5 := HP3.out.cell (j := 5) rfl
              have c6 := HP3.out.cell (j := 6) rfl
              have c7 := HP3.out.cell (j := 7) rfl
              have c8 := HP3.out.cell (j := 8) rfl
              have f5 := HP3.out.free 5
              have f6 := HP3.out.free 6
              have f7 := HP3.out.free 7
              have f8 := HP3.out.free 8
              unfold zE
              go_wp2_with fail
              go_ret
              exact stm_cast HQ.out (stm_no (HP3.out.ex ⟨0, 0, ⟨#[]⟩, .nil⟩ none 0 zE_ok stay_nilE) ((((HF3.out.set _ _ (.inl rfl)).set _ _ (.inl rfl)).set _ _ (.inl rfl)).set _ _ (.inl rfl)))
            | ok x' q' =>
              rintro e w3 ⟨v, rfl, hv, h2, h3⟩
              have HP3 := Lib.hid (HP7.out.then h2 h3)
              have HF3 := Lib.hid (HF7.out.trans (Fr.of_gr h3))
              have HV := Lib.hid (hv.mono HP7.out.sz)
              clear h2 h3 hv HP7 HF7
              obtain ⟨ao2, cap2, rfl, hok, hst⟩ := HV.out
              have HE := Lib.hid (And.intro hok hst)
              clear hok hst HV
              have c5 := HP3.out.cell (j := 5) rfl
              have c6 := HP3.out.cell (j := 6) rfl
              have c7 := HP3.out.cell (j := 7) rfl
              have c8 := HP3.out.cell (j := 8) rfl
              have f5 := HP3.out.free 5
              have f6 := HP3.out.free 6
              have f7 := HP3.out.free 7
              have f8 := HP3.out.free 8
              unfold exV
              go_upto_region 13 with fail
              generalize hW : World.setCell (World.setCell (World.setCell (World.setCell w3 _ _) _ _) _ _) _ _ = W5
              have HP5 : Hid (Pm R bs B W5 ⟨StH.ex { h with nm := tx (nextT r), idx := .cons x.op x.n x.nm x.kids .nil } x', .nil, .nil, { s with aox := ao2, capx := cap2 }⟩ q') := Lib.hid (by rw [← hW]; exact HP3.out.ex x' ao2 cap2 HE.out.1 HE.out.2)
              have HF5 : Hid (Fr R.br bs w W5) := Lib.hid (by rw [← hW]; exact (((HF3.out.set _ _ (.inl rfl)).set _ _ (.inl rfl)).set _ _ (.inl rfl)).set _ _ (.inl rfl))
              clear hW c5 c6 c7 c8 f5 f6 f7 f8 HP3 HF3 HE
              cases h4 : at' [59] q'
              · go_wp2_with fail
                refine (accept_no R _ _ ⟨#[59]⟩ rfl h4 HP5.out.rd).mono ?_
                rintro e w3 ⟨rfl, h2⟩
                have HP3 := Lib.hid (HP5.out.below h2)
                have HF3 := Lib.hid (HF5.out.trans (Fr.of_gr (gr_below h2)))
                clear h2
                go_wp2_with fail
                go_ret
                exact stm_cast (HQ.out.trans (close_not' h4)) (stm_no HP3.out HF3.out)
              · go_wp2_with fail
                refine (accept_yes R _ _ ⟨#[59]⟩ rfl h4 HP5.out.rd).mono ?_
                rintro e w3 ⟨rfl, h2, h3⟩
                have HP3 := Lib.hid (HP5.out.then h2 h3)
                have HF3 := Lib.hid (HF5.out.trans (Fr.of_gr h3))
                clear h2 h3
                go_wp2_with fail
                go_ret
                exact stm_cast (HQ.out.trans (close_yes' h4)) (stm_ok (y := ⟨StH.ex { h with nm := tx (nextT r), idx := .cons x.op x.n x.nm x.kids .nil } x', .nil, .nil⟩) HP3.out HF3.out)
end Go.Proofs.YtommnhglgedflaaGreatDoor
end
section
set_option linter.unusedSimpArgs false
set_option linter.unusedVariables false
namespace Go.Proofs.YtommnhglgedflaaGreatDoor
open Go.RowKit
open Md Pz
/-- What a statement's reading leaves. -/
def StaP (R : Rp) (w : World) (res : Res StL) (e : Ending) (w' : World) : Prop :=
  match res with
  | .ok l r => (∃ x : StI, l = one x.h x.b x.e ∧ e = .returned (.tuple #[stV x.h x.b x.e x.s, .bool true]) ∧ StOk x.h x.b x.e ∧ Stay w.heap.size w' (StI.I x)) ∧ RdI w' R r ∧ w.grownBy w' (some R.br)
  | .no r => (∃ x : StI, e = .returned (.tuple #[stV x.h x.b x.e x.s, .bool false])) ∧ RdI w' R r ∧ w.grownBy w' (some R.br)
def zSt11 : Array Value := #[.int .i64 0, .int .i64 0, .string ⟨#[]⟩, .string ⟨#[]⟩, .slice none 0 0, .int .i64 0, .int .i64 0, .string ⟨#[]⟩, .slice none 0 0, .slice none 0 0, .slice none 0 0]
theorem rd_other {w w' : World} {R : Rp} {rest : Toks} {b : Nat} (h : RdI w R rest) (hg : w.grownBy w' (some b)) (h0 : R.B0 ≤ b) (h1 : b ≠ R.br) : RdI w' R rest := by
  obtain ⟨pos, k1, k2, k3⟩ := h.blk
  exact ⟨⟨pos, k1, k2, (hg.block _ h.lt (by simp; omega)).trans k3⟩, h.tok.below (grown_below hg h0 (Nat.le_trans R.b0 (Nat.le_of_lt h.lt))), h.ok, h.tl⟩
theorem gr_setCells {br : Nat} {w w' : World} (h : w.grownBy w' (some br)) (b o : Nat) (vs : List Value) (hb : w.heap.size ≤ b) : w.grownBy (w'.setCells b o vs) (some br) :=
  have k := setCells_grown b vs o w'
  ⟨k.os.trans h.os, k.tape.trans h.tape, k.output.trans h.output, Nat.le_trans h.size k.size, fun j hj hn => (k.block j (Nat.lt_of_lt_of_le hj h.size) (by simp; omega)).trans (h.block j hj hn)⟩
/-- The statement is copied into the result. -/
theorem sta_ok {R : Rp} {bs B : Nat} {w W : World} {x : StI} {r : Toks} (hP : Pm R bs B W x r) (hg : w.grownBy W (some R.br)) (hl : R.br < w.heap.size) (hB : w.heap.size < B) :
    StaP R w (.ok (one x.h x.b x.e) r) (.returned (.tuple #[stV x.h x.b x.e x.s, .bool true])) (W.setCells w.heap.size 0 (StI.f x)) :=
  ⟨⟨x, rfl, rfl, hP.ok, (hP.st.next ⟨(setCells_grown w.heap.size _ 0 W).size, fun k h1 h2 => (setCells_grown w.heap.size _ 0 W).block k h2 (by simp; omega)⟩).mono (Nat.le_of_lt hB)⟩, rd_other hP.rd (setCells_grown _ _ _ _) (by have := R.b0; omega) (by omega), gr_setCells hg _ _ _ (Nat.le_refl _)⟩
theorem sta_no {R : Rp} {bs B : Nat} {w W : World} {x : StI} {r : Toks} (hP : Pm R bs B W x r) (hg : w.grownBy W (some R.br)) (hl : R.br < w.heap.size) :
    StaP R w (.no r) (.returned (.tuple #[stV x.h x.b x.e x.s, .bool false])) (W.setCells w.heap.size 0 (StI.f x)) :=
  ⟨⟨x, rfl⟩, rd_other hP.rd (setCells_grown _ _ _ _) (by have := R.b0; omega) (by omega), gr_setCells hg _ _ _ (Nat.le_refl _)⟩
theorem z11 {w : World} {b : Nat} {t : TypeId} (h : w.heap[b]? = some (.cells zSt11 t (0, 0))) :
    (w.cell? ⟨b, 0, none⟩ = some (.int .i64 0) ∧ w.cell? ⟨b, 1, none⟩ = some (.int .i64 0) ∧ w.cell? ⟨b, 2, none⟩ = some (.string ⟨#[]⟩) ∧ w.cell? ⟨b, 3, none⟩ = some (.string ⟨#[]⟩) ∧ w.cell? ⟨b, 4, none⟩ = some (.slice none 0 0) ∧ w.cell? ⟨b, 5, none⟩ = some (.int .i64 0) ∧ w.cell? ⟨b, 6, none⟩ = some (.int .i64 0) ∧ w.cell? ⟨b, 7, none⟩ = some (.string ⟨#[]⟩) ∧ w.cell? ⟨b, 8, none⟩ = some (.slice none 0 0) ∧ w.cell? ⟨b, 9, none⟩ = some (.slice none 0 0) ∧ w.cell? ⟨b, 10, none⟩ = some (.slice none 0 0)) ∧ ∀ j, w.frozen? ⟨b, j, none⟩ = false :=
  ⟨⟨cellb h rfl, cellb h rfl, cellb h rfl, cellb h rfl, cellb h rfl, cellb h rfl, cellb h rfl, cellb h rfl, cellb h rfl, cellb h rfl, cellb h rfl⟩, fun _ => free_blk h⟩
theorem pm_cells {R : Rp} {bs B : Nat} {W : World} {x : StI} {r : Toks} (h : Pm R bs B W x r) :
    W.cell? ⟨bs, 0, none⟩ = some (.int .i64 x.h.op) ∧ W.cell? ⟨bs, 1, none⟩ = some (.int .i64 x.h.line) ∧ W.cell? ⟨bs, 2, none⟩ = some (.string x.h.nm) ∧ W.cell? ⟨bs, 3, none⟩ = some (.string x.h.arg) ∧ W.cell? ⟨bs, 4, none⟩ = some (.slice x.s.aoi x.h.idx.len x.s.capi) ∧ W.cell? ⟨bs, 5, none⟩ = some (.int .i64 x.h.xop) ∧ W.cell? ⟨bs, 6, none⟩ = some (.int .i64 x.h.xn) ∧ W.cell? ⟨bs, 7, none⟩ = some (.string x.h.xnm) ∧ W.cell? ⟨bs, 8, none⟩ = some (.slice x.s.aox x.h.xkids.len x.s.capx) ∧ W.cell? ⟨bs, 9, none⟩ = some (.slice x.s.aob x.b.len x.s.capb) ∧ W.cell? ⟨bs, 10, none⟩ = some (.slice x.s.aoe x.e.len x.s.cape) :=
  ⟨h.cell rfl, h.cell rfl, h.cell rfl, h.cell rfl, h.cell rfl, h.cell rfl, h.cell rfl, h.cell rfl, h.cell rfl, h.cell rfl, h.cell rfl⟩
/-- A statement's first words in memory. -/
theorem sta_head {R : Rp} {w w1 : World} {ts : Toks} {kv : Value} {sv : Value} (hI : RdI w R ts) (hB : Below w.heap.size w w1) (hz : w1.heap[w.heap.size]? = some (.cells zSt11 91 (0, 0))) (hL : I64 ((nextL ts : Nat) : Int)) (gt : Nat) (hg : w1.heap.size = gt) :
    ∀ W, ((w1.alloc (.cells #[kv, sv, .int .i64 ((nextL ts : Nat) : Int)] 104)).alloc (.cells #[.int .i64 0, .int .i64 ((nextL ts : Nat) : Int), .string ⟨#[]⟩, .string ⟨#[]⟩, .slice none 0 0, .int .i64 0, .int .i64 0, .string ⟨#[]⟩, .slice none 0 0, .slice none 0 0, .slice none 0 0] 91)) = W →
    Pm R (gt + 1) (gt + 2) W ⟨hd 0 ((nextL ts : Nat) : Int), .nil, .nil, zS⟩ ts ∧ Below w.heap.size w W ∧ W.heap[w.heap.size]? = some (.cells zSt11 91 (0, 0)) ∧ W.cell? ⟨gt, 0, none⟩ = some kv ∧ W.cell? ⟨gt, 1, none⟩ = some sv ∧ w.heap.size < gt := by
  intro W hW
  have h0 := (Array.getElem?_eq_some_iff.1 hz).1
  have hb1 : Below w.heap.size w (w1.alloc (.cells #[kv, sv, .int .i64 ((nextL ts : Nat) : Int)] 104)) := hB.alloc hB.size _
  have ht : (w1.alloc (.cells #[kv, sv, .int .i64 ((nextL ts : Nat) : Int)] 104)).heap[gt]? = some (.cells #[kv, sv, .int .i64 ((nextL ts : Nat) : Int)] 104 (0, 0)) := by rw [← hg]; exact heap_alloc_new _ _
  have hz1 : (w1.alloc (.cells #[kv, sv, .int .i64 ((nextL ts : Nat) : Int)] 104)).heap[w.heap.size]? = some (.cells zSt11 91 (0, 0)) := (heap_alloc_old _ _ h0).trans hz
  have hs1 : (w1.alloc (.cells #[kv, sv, .int .i64 ((nextL ts : Nat) : Int)] 104)).heap.size = gt + 1 := by simp [hg]
  generalize w1.alloc (.cells #[kv, sv, .int .i64 ((nextL ts : Nat) : Int)] 104) = W1 at *
  have hb2 : Below w.heap.size w W := by rw [← hW]; exact hb1.alloc hb1.size _
  have ht2 : W.heap[gt]? = some (.cells #[kv, sv, .int .i64 ((nextL ts : Nat) : Int)] 104 (0, 0)) := by rw [← hW]; exact (heap_alloc_old _ _ (Array.getElem?_eq_some_iff.1 ht).1).trans ht
  refine ⟨⟨hI.below hb2, ⟨by omega, by have := hI.lt; omega⟩, by have := hI.lt; omega, by have := hI.lt; have := R.b0; omega, by rw [← hW]; simp; omega, by rw [← hW, ← hs1]; exact heap_alloc_new _ _, ⟨i64_0, hL, Nat.zero_le _, Nat.zero_le _, Nat.zero_le _, zE_ok, Nat.zero_le _, Nat.zero_le _⟩, fun _ _ => ⟨trivial, trivial, trivial, trivial⟩⟩, hb2, ?_, cellb ht2 rfl, cellb ht2 rfl, by omega⟩
  rw [← hW]; exact (heap_alloc_old _ _ (Array.getElem?_eq_some_iff.1 hz1).1).trans hz1
theorem line_i64 {w : World} {R : Rp} {ts : Toks} (hI : RdI w R ts) : I64 ((nextL ts : Nat) : Int) := by
  cases ts with
  | nil => exact i64_0
  | cons t r => have := (hI.tsl t (by simp)).1; show I64 (t.line : Int); unfold I64; omega
/-- The result's block is kept. -/
theorem fr_kept {br bs k : Nat} {w w' : World} {o : Obj} (h : Fr br bs w w') (hk : w.heap[k]? = some o) (h1 : k ≠ br) (h2 : k ≠ bs) : w'.heap[k]? = some o := (h.block k (Array.getElem?_eq_some_iff.1 hk).1 h1 h2).trans hk
set_option maxHeartbeats 4000000 in
set_option maxRecDepth 100000 in
theorem statement_name (R : Rp) (f : Nat) (ts : Toks) (w : World) (hI : RdI w R ts) (h1 : (nextK ts == 1) = true) :
    Calls Tryz.prog 131 #[.pointer (some ⟨R.br, 0, none⟩)] w (StaP R w (ps (f + 1) true ts)) := by
  rw [ps_name h1]
  have hk : nextK ts = 1 := by simpa using h1
  clear h1
  have HI := Lib.hid hI
  have HL := Lib.hid (line_i64 hI)
  have hlt := hI.lt
  go_enter Tryz.func131, Tryz.ntmps131
  go_upto_region 1 with fail
  generalize hW : World.alloc w _ = W0
  have HB0 : Hid (Below w.heap.size w W0) := Lib.hid (by rw [← hW]; exact alloc_below _ _)
  have HZ0 : Hid (W0.heap[w.heap.size]? = some (.cells zSt11 91 (0, 0))) := Lib.hid (by rw [← hW]; exact heap_alloc_new _ _)
  have HN := Lib.hid (next_any R ts W0 (HI.out.below HB0.out))
  unfold tokV at HN
  rw [hk] at HN
  clear hW hI hk
  go_wp2_with fail
  refine HN.out.mono ?_
  rintro e w1 ⟨rfl, h2⟩
  have HB1 := Lib.hid (HB0.out.trans (h2.mono HB0.out.size))
  have HZ1 := Lib.hid ((h2.block _ (Array.getElem?_eq_some_iff.1 HZ0.out).1).trans HZ0.out)
  clear h2 HN HB0 HZ0
  go_upto_region 3 with fail
  obtain ⟨gt, hg⟩ : ∃ g, w1.heap.size = g := ⟨_, rfl⟩
  rw [hg]
  generalize hW : World.alloc (World.alloc w1 _) _ = W2
  have HP2 := Lib.hid (sta_head HI.out HB1.out HZ1.out HL.out gt hg W2 hW)
  have e0 := HP2.out.2.2.2.1
  have e1 := HP2.out.2.2.2.2.1
  have HLT : Hid (R.br < w.heap.size ∧ w.heap.size < gt) := Lib.hid ⟨hlt, HP2.out.2.2.2.2.2⟩
  clear hW hg HB1 HZ1
  have f0 := HP2.out.1.free 0
  have c0 := HP2.out.1.cell (j := 0) rfl
  go_upto_region 6 with fail
  generalize hW : World.setCell W2 _ _ = W3
  have HP3 : Hid (Pm R (gt + 1) (gt + 2) W3 ⟨hd 1 ((nextL ts : Nat) : Int), .nil, .nil, zS⟩ ts) := Lib.hid (by rw [← hW]; exact HP2.out.1.op 1 (by unfold I64; decide))
  have HF3 : Hid (Fr R.br (gt + 1) W2 W3) := Lib.hid (by rw [← hW]; exact (Fr.refl _ _ _).set _ _ (.inl rfl))
  clear hW f0 c0 e0 e1
  have HC := Lib.hid (assignment_any R (gt + 1) (gt + 2) ts (hd 1 ((nextL ts : Nat) : Int)) zS W3 HP3.out)
  generalize asgNX (hd 1 ((nextL ts : Nat) : Int)) ts = res at *
  go_wp2_with fail
  refine HC.out.mono ?_
  cases res with
  | no q =>
    rintro e w4 ⟨rfl, ⟨x, h2⟩, h3⟩
    have HP4 := Lib.hid h2
    have HF4 := Lib.hid (HF3.out.trans h3)
    clear h2 h3
    have HZ4 := Lib.hid (fr_kept HF4.out HP2.out.2.2.1 (by have := HLT.out; omega) (by have := HLT.out; omega))
    obtain ⟨⟨y0, y1, y2, y3, y4, y5, y6, y7, y8, y9, y10⟩, fz⟩ := z11 HZ4.out
    have z0 := fz 0
    have z1 := fz 1
    have z2 := fz 2
    have z3 := fz 3
    have z4 := fz 4
    have z5 := fz 5
    have z6 := fz 6
    have z7 := fz 7
    have z8 := fz 8
    have z9 := fz 9
    have z10 := fz 10
    obtain ⟨d0, d1, d2, d3, d4, d5, d6, d7, d8, d9, d10⟩ := pm_cells HP4.out
    clear fz
    go_wp2_with fail
    exact bodyPost_ret (v := .tuple #[stV x.h x.b x.e x.s, .bool false]) (by simp [results, Tryz.results131, go_sem, stV, y0, y1, y2, y3, y4, y5, y6, y7, y8, y9, y10]) rfl (sta_no HP4.out (HF4.out.gr HP2.out.2.1 (by have := HLT.out; omega)) HLT.out.1)
  | ok y q =>
    rintro e w4 ⟨rfl, ⟨s, h2⟩, h3⟩
    have HP4 := Lib.hid h2
    have HF4 := Lib.hid (HF3.out.trans h3)
    clear h2 h3
    have HZ4 := Lib.hid (fr_kept HF4.out HP2.out.2.2.1 (by have := HLT.out; omega) (by have := HLT.out; omega))
    obtain ⟨⟨y0, y1, y2, y3, y4, y5, y6, y7, y8, y9, y10⟩, fz⟩ := z11 HZ4.out
    have z0 := fz 0
    have z1 := fz 1
    have z2 := fz 2
    have z3 := fz 3
    have z4 := fz 4
    have z5 := fz 5
    have z6 := fz 6
    have z7 := fz 7
    have z8 := fz 8
    have z9 := fz 9
    have z10 := fz 10
    obtain ⟨d0, d1, d2, d3, d4, d5, d6, d7, d8, d9, d10⟩ := pm_cells HP4.out
    clear fz
    go_wp2_with fail
    exact bodyPost_ret (v := .tuple #[stV y.h y.b y.e s, .bool true]) (by simp [results, Tryz.results131, go_sem, stV, y0, y1, y2, y3, y4, y5, y6, y7, y8, y9, y10]) rfl (sta_ok HP4.out (HF4.out.gr HP2.out.2.1 (by have := HLT.out; omega)) HLT.out.1 (by have := HLT.out; omega))
set_option maxHeartbeats 4000000 in
set_option maxRecDepth 100000 in
theorem statement_other (R : Rp) (f : Nat) (ts : Toks) (w : World) (hI : RdI w R ts) (h1 : (nextK ts == 1) = false) (h3 : (nextK ts == 3) = false) :
    Calls Tryz.prog 131 #[.pointer (some ⟨R.br, 0, none⟩)] w (StaP R w (ps (f + 1) true ts)) := by
  rw [ps_other h1 h3]
  obtain ⟨k, hk⟩ : ∃ k, nextK ts = k := ⟨_, rfl⟩
  have k1 : ((k : Int) == 1) = false := by rw [← hk]; exact (kind_spec 1 ts).symm.trans h1
  have k3 : ((k : Int) == 3) = false := by rw [← hk]; exact (kind_spec 3 ts).symm.trans h3
  clear h1 h3
  have HI := Lib.hid hI
  have HL := Lib.hid (line_i64 hI)
  have hlt := hI.lt
  go_enter Tryz.func131, Tryz.ntmps131
  go_upto_region 1 with fail
  generalize hW : World.alloc w _ = W0
  have HB0 : Hid (Below w.heap.size w W0) := Lib.hid (by rw [← hW]; exact alloc_below _ _)
  have HZ0 : Hid (W0.heap[w.heap.size]? = some (.cells zSt11 91 (0, 0))) := Lib.hid (by rw [← hW]; exact heap_alloc_new _ _)
  have HN := Lib.hid (next_any R ts W0 (HI.out.below HB0.out))
  unfold tokV at HN
  rw [hk] at HN
  clear hW hI hk
  go_wp2_with fail
  refine HN.out.mono ?_
  rintro e w1 ⟨rfl, h2⟩
  have HB1 := Lib.hid (HB0.out.trans (h2.mono HB0.out.size))
  have HZ1 := Lib.hid ((h2.block _ (Array.getElem?_eq_some_iff.1 HZ0.out).1).trans HZ0.out)
  clear h2 HN HB0 HZ0
  go_upto_region 3 with fail
  obtain ⟨gt, hg⟩ : ∃ g, w1.heap.size = g := ⟨_, rfl⟩
  rw [hg]
  generalize hW : World.alloc (World.alloc w1 _) _ = W2
  have HP2 := Lib.hid (sta_head HI.out HB1.out HZ1.out HL.out gt hg W2 hW)
  have e0 := HP2.out.2.2.2.1
  have e1 := HP2.out.2.2.2.2.1
  have HLT : Hid (R.br < w.heap.size ∧ w.heap.size < gt) := Lib.hid ⟨hlt, HP2.out.2.2.2.2.2⟩
  clear hW hg HB1 HZ1
  obtain ⟨⟨y0, y1, y2, y3, y4, y5, y6, y7, y8, y9, y10⟩, fz⟩ := z11 HP2.out.2.2.1
  have z0 := fz 0
  have z1 := fz 1
  have z2 := fz 2
  have z3 := fz 3
  have z4 := fz 4
  have z5 := fz 5
  have z6 := fz 6
  have z7 := fz 7
  have z8 := fz 8
  have z9 := fz 9
  have z10 := fz 10
  obtain ⟨d0, d1, d2, d3, d4, d5, d6, d7, d8, d9, d10⟩ := pm_cells HP2.out.1
  clear fz
  go_wp2_with fail
  exact bodyPost_ret (v := .tuple #[stV (hd 0 ((nextL ts : Nat) : Int)) .nil .nil zS, .bool false]) (by simp [results, Tryz.results131, go_sem, stV, y0, y1, y2, y3, y4, y5, y6, y7, y8, y9, y10, hd, zS, ExL.len, StL.len]) rfl (sta_no HP2.out.1 (gr_below HP2.out.2.1) HLT.out.1)
theorem eq_nf (w : World) : (binOp .eql 187 .nilFunc .nilFunc).run Tryz.prog w = .ok (.bool true) w := by kernel_rfl
set_option maxHeartbeats 4000000 in
set_option maxRecDepth 100000 in
theorem statement_zero (R : Rp) (f : Nat) (ts : Toks) (w : World) (hI : RdI w R ts) (h1 : (nextK ts == 1) = false) (h3 : (nextK ts == 3) = true) (h0 : (stOf (nextT ts) == 0) = true) :
    Calls Tryz.prog 131 #[.pointer (some ⟨R.br, 0, none⟩)] w (StaP R w (ps (f + 1) true ts)) := by
  rw [ps_zero h1 h3 h0]
  have hk : nextK ts = 3 := by simpa using h3
  have HRE : Hid (∀ w, Calls Tryz.prog 151 #[.string (tx (nextT ts))] w fun e w' => e = .returned (.tuple #[.int .i64 0, .nilFunc]) ∧ w = w') := Lib.hid (fun w => by
    have := rest_any (tx (nextT ts)) (l := nextT ts) rfl w
    rw [show stOf (nextT ts) = 0 by simpa using h0] at this; exact this)
  clear h1 h3 h0
  have hnf := eq_nf
  have HI := Lib.hid hI
  have HL := Lib.hid (line_i64 hI)
  have hlt := hI.lt
  go_enter Tryz.func131, Tryz.ntmps131
  go_upto_region 1 with fail
  generalize hW : World.alloc w _ = W0
  have HB0 : Hid (Below w.heap.size w W0) := Lib.hid (by rw [← hW]; exact alloc_below _ _)
  have HZ0 : Hid (W0.heap[w.heap.size]? = some (.cells zSt11 91 (0, 0))) := Lib.hid (by rw [← hW]; exact heap_alloc_new _ _)
  have HN := Lib.hid (next_any R ts W0 (HI.out.below HB0.out))
  unfold tokV at HN
  rw [hk] at HN
  clear hW hI hk
  go_wp2_with fail
  refine HN.out.mono ?_
  rintro e w1 ⟨rfl, h2⟩
  have HB1 := Lib.hid (HB0.out.trans (h2.mono HB0.out.size))
  have HZ1 := Lib.hid ((h2.block _ (Array.getElem?_eq_some_iff.1 HZ0.out).1).trans HZ0.out)
  clear h2 HN HB0 HZ0
  go_upto_region 3 with fail
  obtain ⟨gt, hg⟩ : ∃ g, w1.heap.size = g := ⟨_, rfl⟩
  rw [hg]
  generalize hW : World.alloc (World.alloc w1 _) _ = W2
  have HP2 := Lib.hid (sta_head HI.out HB1.out HZ1.out HL.out gt hg W2 hW)
  have e0 := HP2.out.2.2.2.1
  have e1 := HP2.out.2.2.2.2.1
  have HLT : Hid (R.br < w.heap.size ∧ w.heap.size < gt) := Lib.hid ⟨hlt, HP2.out.2.2.2.2.2⟩
  clear hW hg HB1 HZ1
  go_wp2_with fail
  refine (HRE.out _).mono ?_
  rintro e w3 ⟨rfl, rfl⟩
  obtain ⟨⟨y0, y1, y2, y3, y4, y5, y6, y7, y8, y9, y10⟩, fz⟩ := z11 HP2.out.2.2.1
  have z0 := fz 0
  have z1 := fz 1
  have z2 := fz 2
  have z3 := fz 3
  have z4 := fz 4
  have z5 := fz 5
  have z6 := fz 6
  have z7 := fz 7
  have z8 := fz 8
  have z9 := fz 9
  have z10 := fz 10
  obtain ⟨d0, d1, d2, d3, d4, d5, d6, d7, d8, d9, d10⟩ := pm_cells HP2.out.1
  clear fz
  go_wp2_with fail
  exact bodyPost_ret (v := .tuple #[stV (hd 0 ((nextL ts : Nat) : Int)) .nil .nil zS, .bool false]) (by simp [results, Tryz.results131, go_sem, stV, y0, y1, y2, y3, y4, y5, y6, y7, y8, y9, y10, hd, zS, ExL.len, StL.len]) rfl (sta_no HP2.out.1 (gr_below HP2.out.2.1) HLT.out.1)
end Go.Proofs.YtommnhglgedflaaGreatDoor
end
