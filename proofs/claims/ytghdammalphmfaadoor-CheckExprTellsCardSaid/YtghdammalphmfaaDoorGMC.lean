/-
  Contracts of the maker's stmt and stmts: they return statements that lie in new memory.
  Contracts of the maker's stmts and stmt: they return shaped statements that lie in new memory.
-/
import Derived.Test.YtghdammalphmfaaDoorGMB
import Derived.Test.YtghdammalphmfaaDoorGL
import Derived.Test.YtghdammalphmfaaDoorGMA
section
set_option linter.unusedSimpArgs false
set_option linter.unusedVariables false
namespace Go.Proofs.YtghdammalphmfaaDoor
open Go.RowKit
open Md
theorem wrap_I64 (x : Int) : I64 (wrap64 x) := by unfold I64 wrap64; omega
/-- A statement's inner parts stay. -/
def StS (B : Nat) (w : World) (h : StH) (b e : StL) (s : Sl) : Prop := StOk h b e ∧ Stay B w (fun w2 => h.idx.At w2 w2.heap.size s.aoi 0 ∧ h.xkids.At w2 w2.heap.size s.aox 0 ∧ b.At w2 w2.heap.size s.aob 0 ∧ e.At w2 w2.heap.size s.aoe 0)
theorem StS.next {B : Nat} {w w' : World} {h : StH} {b e : StL} {s : Sl} (hs : StS B w h b e s) (ha : Abv B w w') : StS B w' h b e s := ⟨hs.1, hs.2.next ha⟩
theorem StS.mono {B B' : Nat} {w : World} {h : StH} {b e : StL} {s : Sl} (hs : StS B' w h b e s) (hB : B ≤ B') : StS B w h b e s := ⟨hs.1, hs.2.mono hB⟩
/-- What stmt leaves. -/
def StP (T : Tp) (w : World) (e' : Ending) (w' : World) : Prop := ∃ h b e s, e' = .returned (stV h b e s) ∧ shpS h b e = true ∧ StS w.heap.size w' h b e s ∧ Mk T w w' ∧ MdI w' T
/-- What stmts leaves. -/
def SlP (T : Tp) (w : World) (e' : Ending) (w' : World) : Prop := ∃ l ao cap, e' = .returned (.slice ao (StL.len l) cap) ∧ (StL.len l ≤ 1000 ∧ shpSL l = true) ∧ Stay w.heap.size w' (fun w2 => l.At w2 w2.heap.size ao 0) ∧ Mk T w w' ∧ MdI w' T
/-- Some statements are left to be made. -/
def Left (w : World) (T : Tp) : Prop := ∃ line left : Int, I64 line ∧ 1 ≤ left ∧ left ≤ 100 ∧ w.heap[T.bm]? = some (.cells #[.pointer (some ⟨T.bt, 0, none⟩), .int .i64 line, .int .i64 left] 55 (0, 0))
def StSays (T : Tp) (d : Int) : Prop := ∀ w, MdI w T → Left w T → Calls Tryd.prog 39 #[.pointer (some ⟨T.bm, 0, none⟩), .int .i64 d] w (StP T w)
def SlSays (T : Tp) (d : Int) : Prop := ∀ w (n : Int), MdI w T → I64 n → n ≤ 1000 → Calls Tryd.prog 19 #[.pointer (some ⟨T.bm, 0, none⟩), .int .i64 d, .int .i64 n] w (SlP T w)
/-- The box of a statement. -/
def BoxS (w : World) (sb : Nat) (h : StH) (b e : StL) (s : Sl) : Prop := w.heap[sb]? = some (.cells (stC h b e s).toArray 48 (0, 0))
def h0S (op line : Int) : StH := ⟨op, line, ⟨#[]⟩, ⟨#[]⟩, .nil, 0, 0, ⟨#[]⟩, .nil⟩
def s0S : Sl := ⟨none, 0, none, 0, none, 0, none, 0⟩
theorem I64z : I64 0 := by unfold I64; decide
theorem h0S_ok (B : Nat) (w : World) {op line : Int} (h1 : I64 op) (h2 : I64 line) : StS B w (h0S op line) .nil .nil s0S :=
  ⟨⟨h1, h2, Nat.zero_le _, Nat.zero_le _, Nat.zero_le _, ⟨I64z, I64z, Nat.zero_le _, Nat.zero_le _⟩, Nat.zero_le _, Nat.zero_le _⟩, fun _ _ => ⟨trivial, trivial, trivial, trivial⟩⟩
theorem MdI.line {w : World} {T : Tp} {l' : Int} (h : MdI w T) (hl : I64 l') : MdI (w.setCell ⟨T.bm, 1, none⟩ (.int .i64 l')) T := by
  obtain ⟨x, k1, k2⟩ := h.tape.blk
  obtain ⟨l, m, k3, k4, k5, k6⟩ := h.blm
  exact ⟨⟨⟨x, k1, (setCell_far w _ _ rfl T.tm.symm).trans k2⟩, h.tape.byt.below (grown_below (setCell_grown w _ _) T.m0 h.tape.b0), h.tape.len⟩, ⟨l', m, hl, k4, k5, by rw [setCell_blk k6]; rfl⟩⟩
theorem MdI.left {w : World} {T : Tp} {m' : Int} (h : MdI w T) (h0 : 0 ≤ m') (h1 : m' ≤ 100) : MdI (w.setCell ⟨T.bm, 2, none⟩ (.int .i64 m')) T := by
  obtain ⟨x, k1, k2⟩ := h.tape.blk
  obtain ⟨l, m, k3, k4, k5, k6⟩ := h.blm
  exact ⟨⟨⟨x, k1, (setCell_far w _ _ rfl T.tm.symm).trans k2⟩, h.tape.byt.below (grown_below (setCell_grown w _ _) T.m0 h.tape.b0), h.tape.len⟩, ⟨l, m', k3, h0, h1, by rw [setCell_blk k6]; rfl⟩⟩
theorem Mk.setm {T : Tp} {w w' : World} (h : Mk T w w') (j : Nat) (v : Value) : Mk T w (w'.setCell ⟨T.bm, j, none⟩ v) := h.trans (Mk.of_m (setCell_grown w' ⟨T.bm, j, none⟩ v))
theorem MdI.ln {w : World} {T : Tp} (h : MdI w T) : ∃ line : Int, w.cell? ⟨T.bm, 1, none⟩ = some (.int .i64 line) ∧ I64 line := by
  obtain ⟨l, m, k1, -, -, k⟩ := h.blm
  exact ⟨l, (cell_blk k (j := 1) rfl).2, k1⟩
theorem thereS {w : World} {g : Nat} {cs : Array Value} {t : TypeId} (h : w.heap[g]? = some (.cells cs t (0, 0))) {n : Nat} (hn : n ≤ cs.size) : w.there g 0 n := fun j hj => by
  refine ⟨?_, free_blk h⟩
  rw [cell_of_row w g _ cs t (0, 0) h]
  simp; omega
theorem setCells_all {w : World} {g : Nat} {cs : Array Value} {t : TypeId} {vs : List Value} (h : w.heap[g]? = some (.cells cs t (0, 0))) (hl : vs.length = cs.size) : (w.setCells g 0 vs).heap[g]? = some (.cells vs.toArray t (0, 0)) := by
  obtain ⟨cur', h1, h2, h3⟩ := setCells_row vs 0 w cs h (by omega)
  rw [h1]
  have e : cur'.toList = vs := by
    rw [Nat.zero_add, List.take_of_length_le (by simp; omega)] at h3
    simpa using h3
  rw [← e]
theorem Mk.sets {T : Tp} {w w' : World} (h : Mk T w w') (g o : Nat) (vs : List Value) (hb : w.heap.size ≤ g) : Mk T w (w'.setCells g o vs) := by
  have hg := setCells_grown g vs o w'
  exact ⟨hg.os.trans h.os, hg.tape.trans h.tape, hg.output.trans h.output, Nat.le_trans h.size hg.size, fun k hk h1 h2 => (hg.block k (Nat.lt_of_lt_of_le hk h.size) (by simp; omega)).trans (h.block k hk h1 h2)⟩
theorem MdI.sets {T : Tp} {w : World} (h : MdI w T) (g o : Nat) (vs : List Value) (h0 : T.B0 ≤ g) (h1 : g ≠ T.bt) (h2 : g ≠ T.bm) : MdI (w.setCells g o vs) T := by
  obtain ⟨x, k1, k2⟩ := h.tape.blk
  obtain ⟨l, m, k3, k4, k5, k6⟩ := h.blm
  have hg := setCells_grown g vs o w
  exact ⟨⟨⟨x, k1, (hg.block _ h.tape.lt (by simp; exact fun e => h1 e.symm)).trans k2⟩, h.tape.byt.below (grown_below hg h0 h.tape.b0), h.tape.len⟩, ⟨l, m, k3, k4, k5, (hg.block _ h.lt (by simp; exact fun e => h2 e.symm)).trans k6⟩⟩
theorem abv_sets {B : Nat} (w : World) (g o : Nat) (vs : List Value) (h : g < B) : Abv B w (w.setCells g o vs) := by
  have hg := setCells_grown g vs o w
  exact ⟨hg.size, fun k h1 h2 => hg.block k h2 (by simp; omega)⟩
-- NAMES
def na : Array Value := #[.string ⟨#[120]⟩, .string ⟨#[121]⟩, .string ⟨#[97]⟩, .string ⟨#[118]⟩, .string ⟨#[113]⟩]
theorem na_at : Nms 5 na := fun j hj => by
  have : j = 0 ∨ j = 1 ∨ j = 2 ∨ j = 3 ∨ j = 4 := by omega
  rcases this with rfl | rfl | rfl | rfl | rfl <;> exact ⟨_, rfl, by unfold maxLen; decide, by rfl⟩
def nb : Array Value := #[.string ⟨#[109]⟩, .string ⟨#[110]⟩]
theorem nb_at : Nms 2 nb := fun j hj => by
  have : j = 0 ∨ j = 1 := by omega
  rcases this with rfl | rfl <;> exact ⟨_, rfl, by unfold maxLen; decide, by rfl⟩
def nc : Array Value := #[.string ⟨#[114]⟩]
theorem nc_at : Nms 1 nc := fun j hj => by
  obtain rfl : j = 0 := by omega
  exact ⟨_, rfl, by unfold maxLen; decide, by rfl⟩
def nd : Array Value := #[.string ⟨#[99]⟩]
theorem nd_at : Nms 1 nd := fun j hj => by
  obtain rfl : j = 0 := by omega
  exact ⟨_, rfl, by unfold maxLen; decide, by rfl⟩
def ne : Array Value := #[.string ⟨#[116]⟩, .string ⟨#[117]⟩, .string ⟨#[119]⟩]
theorem ne_at : Nms 3 ne := fun j hj => by
  have : j = 0 ∨ j = 1 ∨ j = 2 := by omega
  rcases this with rfl | rfl | rfl <;> exact ⟨_, rfl, by unfold maxLen; decide, by rfl⟩
def nf : Array Value := #[.string ⟨#[102]⟩]
theorem nf_at : Nms 1 nf := fun j hj => by
  obtain rfl : j = 0 := by omega
  exact ⟨_, rfl, by unfold maxLen; decide, by rfl⟩
def ng : Array Value := #[.string ⟨#[97]⟩]
theorem ng_at : Nms 1 ng := fun j hj => by
  obtain rfl : j = 0 := by omega
  exact ⟨_, rfl, by unfold maxLen; decide, by rfl⟩
-- END OF NAMES
theorem shS_plain {r : Nat} {l : Int} (hr : r = 7 ∨ r = 8) : shpS1 (h0S r l) 0 0 = true := by
  rcases hr with rfl | rfl <;> simp [shpS1, h0S, fO, fN, fA, fI, fX, fB, fE, nmOr, shpL, ExL.len, zeroX]
theorem shS_cond {r : Nat} {l xo xn : Int} {xm : ByteArray} {xk : ExL} (hr : r = 2 ∨ r = 3) (hx : shpE xo xn xm xk = true) : shpS1 { h0S r l with xop := xo, xn := xn, xnm := xm, xkids := xk } 0 0 = true := by
  rcases hr with rfl | rfl <;> simp [shpS1, h0S, fO, fN, fA, fI, fX, fB, fE, nmOr, shpL, ExL.len, hx]
theorem shS_name {r : Nat} {l : Int} {s : ByteArray} (hr : r = 4 ∨ r = 5 ∨ r = 6 ∨ r = 9 ∨ r = 10 ∨ r = 11 ∨ r = 12 ∨ r = 13) (hs : Tk.isNm s.data.toList = true) : shpS1 { h0S r l with nm := s } 0 0 = true := by
  rcases hr with rfl | rfl | rfl | rfl | rfl | rfl | rfl | rfl <;> simp [shpS1, h0S, fO, fN, fA, fI, fX, fB, fE, nmOr, shpL, ExL.len, zeroX, hs]
theorem shS_set {r : Nat} {l xo xn : Int} {xm s : ByteArray} {xk : ExL} (hr : r = 14) (hs : Tk.isNm s.data.toList = true) (hx : shpE xo xn xm xk = true) : shpS1 { h0S r l with nm := s, xop := xo, xn := xn, xnm := xm, xkids := xk } 0 0 = true := by
  subst hr; simp [shpS1, h0S, fO, fN, fA, fI, fX, fB, fE, nmOr, shpL, ExL.len, hs, hx]
theorem shS_get {r : Nat} {l : Int} {s s' : ByteArray} (hr : r = 15) (hs : Tk.isNm s.data.toList = true) (hs' : Tk.isNm s'.data.toList = true) : shpS1 { h0S r l with nm := s, arg := s' } 0 0 = true := by
  subst hr; simp [shpS1, h0S, fO, fN, fA, fI, fX, fB, fE, nmOr, shpL, ExL.len, zeroX, hs, hs']
theorem shS_asg {r : Nat} {l xo xn : Int} {xm s : ByteArray} {xk ix : ExL} (hr : r = 1) (hs : Tk.isNm s.data.toList = true) (hi : ix.len ≤ 1 ∧ shpL ix = true) (hx : shpE xo xn xm xk = true) : shpS1 { h0S r l with nm := s, idx := ix, xop := xo, xn := xn, xnm := xm, xkids := xk } 0 0 = true := by
  subst hr; simp [shpS1, h0S, fO, fN, fA, fI, fX, fB, fE, nmOr, hs, hx, hi.1, hi.2]
theorem shS_body {h : StH} {bl el : Nat} (hs : shpS1 h 0 0 = true) (hb : bl = 0 ∨ fB h.op = true) (he : el = 0 ∨ h.op = 2) : shpS1 h bl el = true := by
  unfold shpS1 at *
  have hE : h.op = 2 → fE h.op = true := fun e => by rw [e]; rfl
  rcases hb with rfl | hb <;> rcases he with rfl | he <;> simp_all
theorem shS_fin {h : StH} {b e : StL} (hs : shpS1 h 0 0 = true) (hb : b = .nil ∨ fB h.op = true) (he : e = .nil ∨ h.op = 2) (h1 : shpSL b = true) (h2 : shpSL e = true) : shpS h b e = true := by
  unfold shpS
  rw [h1, h2, shS_body hs (hb.imp (fun x => by rw [x]; rfl) id) (he.imp (fun x => by rw [x]; rfl) id)]; rfl
/-- The maker's stmt as it stands: the box of the statement, what it holds, the result's cells. -/
structure SI (T : Tp) (w : World) (sb : Nat) (W : World) (h : StH) (b e : StL) (s : Sl) : Prop where
  box : BoxS W sb h b e s
  st : StS (sb + 1) W h b e s
  mi : MdI W T
  km : Mk T w W
  z : W.heap[w.heap.size]? = some (.cells zSt 48 (0, 0))
  lt : w.heap.size < sb
  tb : T.bt < w.heap.size ∧ T.bm < w.heap.size ∧ T.B0 ≤ w.heap.size
section
variable {T : Tp} {w W W' : World} {sb : Nat} {h : StH} {b e : StL} {s : Sl}
theorem SI.sz (hS : SI T w sb W h b e s) : sb + 1 ≤ W.heap.size := (Array.getElem?_eq_some_iff.1 hS.box).1
theorem SI.go (hS : SI T w sb W h b e s) (hM : Mk T W W') (hI : MdI W' T) : SI T w sb W' h b e s where
  box := (hM.block sb hS.sz (by have := hS.tb; have := hS.lt; omega) (by have := hS.tb; have := hS.lt; omega)).trans hS.box
  st := hS.st.next (hM.abv (by have := hS.tb; have := hS.lt; omega) (by have := hS.tb; have := hS.lt; omega))
  mi := hI
  km := hS.km.trans hM
  z := (hM.block _ (Array.getElem?_eq_some_iff.1 hS.z).1 (by have := hS.tb; omega) (by have := hS.tb; omega)).trans hS.z
  lt := hS.lt
  tb := hS.tb
theorem SI.put {h' : StH} {b' e' : StL} {s' : Sl} (hS : SI T w sb W h b e s) (j : Nat) (v : Value) (hv : (stC h b e s).toArray.setIfInBounds j v = (stC h' b' e' s').toArray) (hs : StS (sb + 1) W h' b' e' s') : SI T w sb (W.setCell ⟨sb, j, none⟩ v) h' b' e' s' where
  box := by unfold BoxS; rw [setCell_blk hS.box, hv]
  st := hs.next (abv_set _ _ _ (Nat.lt_succ_self _))
  mi := hS.mi.set _ _ (by have := hS.tb; have := hS.lt; show T.B0 ≤ sb; omega) (by have := hS.tb; have := hS.lt; show sb ≠ _; omega) (by have := hS.tb; have := hS.lt; show sb ≠ _; omega)
  km := hS.km.set _ _ (by have := hS.lt; show _ ≤ sb; omega)
  z := (setCell_far W _ _ rfl (by have := hS.lt; show sb ≠ _; omega)).trans hS.z
  lt := hS.lt
  tb := hS.tb
theorem SI.op (hS : SI T w sb W h b e s) (k : Int) (hk : I64 k) : SI T w sb (W.setCell ⟨sb, 0, none⟩ (.int .i64 k)) { h with op := k } b e s :=
  hS.put 0 _ rfl ⟨⟨hk, hS.st.1.2⟩, hS.st.2⟩
theorem SI.nm (hS : SI T w sb W h b e s) (x : ByteArray) (hx : x.size ≤ maxLen) : SI T w sb (W.setCell ⟨sb, 2, none⟩ (.string x)) { h with nm := x } b e s :=
  hS.put 2 _ rfl ⟨⟨hS.st.1.1, hS.st.1.2.1, hx, hS.st.1.2.2.2⟩, hS.st.2⟩
theorem SI.arg (hS : SI T w sb W h b e s) (x : ByteArray) (hx : x.size ≤ maxLen) : SI T w sb (W.setCell ⟨sb, 3, none⟩ (.string x)) { h with arg := x } b e s :=
  hS.put 3 _ rfl ⟨⟨hS.st.1.1, hS.st.1.2.1, hS.st.1.2.2.1, hx, hS.st.1.2.2.2.2⟩, hS.st.2⟩
theorem SI.idx (hS : SI T w sb W h b e s) (l : ExL) (ao : Option Addr) (cap : Nat) (hl : l.len ≤ maxLen) (hst : Stay (sb + 1) W (fun w2 => l.At w2 w2.heap.size ao 0)) : SI T w sb (W.setCell ⟨sb, 4, none⟩ (.slice ao l.len cap)) { h with idx := l } b e { s with aoi := ao, capi := cap } :=
  hS.put 4 _ rfl ⟨⟨hS.st.1.1, hS.st.1.2.1, hS.st.1.2.2.1, hS.st.1.2.2.2.1, hl, hS.st.1.2.2.2.2.2⟩, fun w2 h2 => ⟨hst w2 h2, (hS.st.2 w2 h2).2⟩⟩
theorem SI.body (hS : SI T w sb W h b e s) (l : StL) (ao : Option Addr) (cap : Nat) (hl : l.len ≤ maxLen) (hst : Stay (sb + 1) W (fun w2 => l.At w2 w2.heap.size ao 0)) : SI T w sb (W.setCell ⟨sb, 9, none⟩ (.slice ao l.len cap)) h l e { s with aob := ao, capb := cap } :=
  hS.put 9 _ rfl ⟨⟨hS.st.1.1, hS.st.1.2.1, hS.st.1.2.2.1, hS.st.1.2.2.2.1, hS.st.1.2.2.2.2.1, hS.st.1.2.2.2.2.2.1, hl, hS.st.1.2.2.2.2.2.2.2⟩, fun w2 h2 => ⟨(hS.st.2 w2 h2).1, (hS.st.2 w2 h2).2.1, hst w2 h2, (hS.st.2 w2 h2).2.2.2⟩⟩
theorem SI.els (hS : SI T w sb W h b e s) (l : StL) (ao : Option Addr) (cap : Nat) (hl : l.len ≤ maxLen) (hst : Stay (sb + 1) W (fun w2 => l.At w2 w2.heap.size ao 0)) : SI T w sb (W.setCell ⟨sb, 10, none⟩ (.slice ao l.len cap)) h b l { s with aoe := ao, cape := cap } :=
  hS.put 10 _ rfl ⟨⟨hS.st.1.1, hS.st.1.2.1, hS.st.1.2.2.1, hS.st.1.2.2.2.1, hS.st.1.2.2.2.2.1, hS.st.1.2.2.2.2.2.1, hS.st.1.2.2.2.2.2.2.1, hl⟩, fun w2 h2 => ⟨(hS.st.2 w2 h2).1, (hS.st.2 w2 h2).2.1, (hS.st.2 w2 h2).2.2.1, hst w2 h2⟩⟩
theorem SI.x (hS : SI T w sb W h b e s) (op n : Int) (nm : ByteArray) (kids : ExL) (ao : Option Addr) (cap : Nat) (hok : ExOk op n nm kids) (hst : Stay (sb + 1) W (fun w2 => kids.At w2 w2.heap.size ao 0)) : SI T w sb ((((W.setCell ⟨sb, 5, none⟩ (.int .i64 op)).setCell ⟨sb, 6, none⟩ (.int .i64 n)).setCell ⟨sb, 7, none⟩ (.string nm)).setCell ⟨sb, 8, none⟩ (.slice ao kids.len cap)) { h with xop := op, xn := n, xnm := nm, xkids := kids } b e { s with aox := ao, capx := cap } := by
  have hx := hS.st.1.2.2.2.2.2.1
  have k := hS.st.1
  have S1 := hS.put (h' := { h with xop := op }) (b' := b) (e' := e) (s' := s) 5 (.int .i64 op) rfl ⟨⟨k.1, k.2.1, k.2.2.1, k.2.2.2.1, k.2.2.2.2.1, ⟨hok.1, hx.2⟩, k.2.2.2.2.2.2⟩, hS.st.2⟩
  have S2 := S1.put (h' := { h with xop := op, xn := n }) (b' := b) (e' := e) (s' := s) 6 (.int .i64 n) rfl ⟨⟨k.1, k.2.1, k.2.2.1, k.2.2.2.1, k.2.2.2.2.1, ⟨hok.1, hok.2.1, hx.2.2⟩, k.2.2.2.2.2.2⟩, S1.st.2⟩
  have S3 := S2.put (h' := { h with xop := op, xn := n, xnm := nm }) (b' := b) (e' := e) (s' := s) 7 (.string nm) rfl ⟨⟨k.1, k.2.1, k.2.2.1, k.2.2.2.1, k.2.2.2.2.1, ⟨hok.1, hok.2.1, hok.2.2.1, hx.2.2.2⟩, k.2.2.2.2.2.2⟩, S2.st.2⟩
  refine S3.put 8 _ rfl ⟨⟨k.1, k.2.1, k.2.2.1, k.2.2.2.1, k.2.2.2.2.1, hok, k.2.2.2.2.2.2⟩, fun w2 h2 => ?_⟩
  have ha : Abv (sb + 1) W w2 := (((abv_set W ⟨sb, 5, none⟩ (.int .i64 op) (Nat.lt_succ_self _)).trans (abv_set _ ⟨sb, 6, none⟩ (.int .i64 n) (Nat.lt_succ_self _))).trans (abv_set _ ⟨sb, 7, none⟩ (.string nm) (Nat.lt_succ_self _))).trans h2
  exact ⟨(S3.st.2 w2 h2).1, hst w2 ha, (S3.st.2 w2 h2).2.2⟩
theorem SI.ex {v : Value} (hS : SI T w sb W h b e s) (hx : EX W.heap.size v W) : EX (sb + 1) v W := hx.mono hS.sz
end
theorem fin_step {T : Tp} {w W8 W : World} (h0 : T.bt < w.heap.size ∧ T.bm < w.heap.size ∧ T.B0 ≤ w.heap.size) (h : Mk T w W ∧ MdI W T ∧ Abv (w.heap.size + 1) W8 W) (j : Nat) (v : Value) :
    Mk T w (W.setCell ⟨w.heap.size, j, none⟩ v) ∧ MdI (W.setCell ⟨w.heap.size, j, none⟩ v) T ∧ Abv (w.heap.size + 1) W8 (W.setCell ⟨w.heap.size, j, none⟩ v) :=
  ⟨h.1.set _ _ (Nat.le_refl _), h.2.1.set _ _ h0.2.2 (by show w.heap.size ≠ _; omega) (by show w.heap.size ≠ _; omega), h.2.2.trans (abv_set _ _ _ (Nat.lt_succ_self _))⟩
set_option maxHeartbeats 4000000 in
set_option maxRecDepth 100000 in
theorem stmt_step (T : Tp) (d : Nat) (hd : d ≤ 100) (ih : ∀ d' : Nat, d = d' + 1 → SlSays T (d' : Int)) : StSays T (d : Int) := by
  intro w hI hL
  obtain ⟨line, left, hl1, hl2, hl3, hblk⟩ := hL
  have HI0 := Lib.hid hI
  have HIH := Lib.hid ih
  have HBK := Lib.hid hblk
  have HL1 := Lib.hid hl1
  have HTB : Hid (T.bt < w.heap.size ∧ T.bm < w.heap.size ∧ T.B0 ≤ w.heap.size) := Lib.hid ⟨HI0.out.tape.lt, HI0.out.lt, HI0.out.tape.b0⟩
  have hbm := hI.lt
  have c1 : w.cell? ⟨T.bm, 1, none⟩ = some (.int .i64 line) := (cell_blk hblk (j := 1) rfl).2
  have c2 : w.cell? ⟨T.bm, 2, none⟩ = some (.int .i64 left) := (cell_blk hblk (j := 2) rfl).2
  have f1 : w.frozen? ⟨T.bm, 1, none⟩ = false := free_blk hblk
  have f2 : w.frozen? ⟨T.bm, 2, none⟩ = false := free_blk hblk
  clear hI ih hblk hl1
  go_enter Tryd.func39, Tryd.ntmps39
  go_upto_region 3 with fail
  generalize hW : World.alloc (World.setCell (World.setCell w _ _) _ _) _ = W
  have HM : Hid (Mk T w W) := Lib.hid (by rw [← hW]; exact (((Mk.refl T w).setm _ _).setm _ _).trans (Mk.of_below (alloc_below _ _)))
  have HI : Hid (MdI W T) := Lib.hid (by rw [← hW]; exact ((HI0.out.line (wrap_I64 _)).left (by omega) (by omega)).below (alloc_below _ _))
  have HZ : Hid (W.heap[w.heap.size]? = some (.cells zSt 48 (0, 0))) := Lib.hid (by
    rw [← hW]
    have e : (World.setCell (World.setCell w ⟨T.bm, 1, none⟩ (.int .i64 (wrap64 (line + 1)))) ⟨T.bm, 2, none⟩ (.int .i64 (left - 1))).heap.size = w.heap.size := by simp [World.setCell]
    rw [← e]; exact heap_alloc_new _ _)
  clear hW c1 c2 f1 f2 hbm HBK HL1 hl2 hl3
  have K0 : ∀ w', MdI w' T → w'.cell? ⟨T.bm, 0, none⟩ = some (.pointer (some ⟨T.bt, 0, none⟩)) := fun w' h => h.ptr
  have hd1 : Mk T W (W.drewN 1) := Mk.of_below (below_drewN (Below.refl _ _) 1)
  have hd2 : MdI (W.drewN 1) T := HI.out.below (below_drewN (Below.refl _ _) 1)
  have HWS : Hid (w.heap.size < W.heap.size) := Lib.hid (Array.getElem?_eq_some_iff.1 HZ.out).1
  refine wpAny_start (by kernel_rfl) rfl ?_
  refine wpAny_phase 0 12 [] [[], [0], [0, 1], [0, 1, 2], [0, 1, 2, 3], [0, 1, 2, 3, 4], [], [6], [6, 7], [6, 7, 8], [0, 1, 2, 3, 4, 5, 6, 7, 8, 9], [], [0, 1, 2, 3, 4, 5, 6, 7, 8, 9, 10, 11]] [[], [], [], [], [], [], [], [], [], [], [], []] (fun _ w' => Mk T W w' ∧ MdI w' T) (fun w w' => Mk T w w') [20, 21, 22, 23, 24, 25, 26, 27, 28, 29, 30, 5] rfl rfl (by rfl) (by kernel_rfl) (by kernel_rfl) (by kernel_rfl) (by kernel_rfl) (by kernel_rfl) (by rfl) (fun _ => Mk.refl _ _) (by rfl) ⟨hd1, hd2⟩ ?_
  simp only [List.take_succ_cons, List.take_zero, List.drop_zero, List.drop_succ_cons, dumE, List.map_cons, List.map_nil]
  apply ObP.step
  case hobl =>
    intro c A w' hok hC hO hD
    have e0 := hO 0 (by rfl)
    simp [Act.eval] at e0
    simp [depsL, IsV, slotv, Act.eval, Region.binds] at hD
    simp [go_sem, gd, Oper.wp, hD, e0]
    exact WPost.mk (Mk.refl _ _) hC (IsV.mk _ _)
  apply ObP.step
  case hobl =>
    intro c A w' hok hC hO hD
    simp [depsL, IsV, slotv, Act.eval, Region.binds] at hD
    simp [go_sem, gd, Oper.wp, hD]
    exact WPost.mk (Mk.refl _ _) hC (IsV.mk _ _)
  apply ObP.step
  case hobl =>
    intro c A w' hok hC hO hD
    simp [depsL, IsV, slotv, Act.eval, Region.binds] at hD
    simp [go_sem, gd, Oper.wp, hD]
    exact WPost.mk (Mk.refl _ _) hC (IsV.mk _ _)
  apply ObP.step
  case hobl =>
    intro c A w' hok hC hO hD
    simp [depsL, IsV, slotv, Act.eval, Region.binds] at hD
    simp [go_sem, gd, Oper.wp, hD, K0, hC.2]
    exact WPost.mk (Mk.refl _ _) hC (IsV.mk _ _)
  simp only [List.nil_append, List.cons_append]
  refine ObP.some (fun v _ => ∃ r : Nat, v = .int .i64 (r : Int) ∧ r < 15) (fun _ _ _ _ h => h) ?_ ?_
  · intro c A w' hok hC hO hD
    simp [depsL, IsV, slotv, Act.eval, Region.binds] at hD
    simp [go_sem, gd, Oper.wp, hD]
    refine (NextM_any T 15 w' (by unfold I64; decide) hC.2).mono ?_
    rintro e w2 ⟨r, rfl, h0, h1, -, hM, hI⟩
    obtain ⟨r', rfl⟩ := Int.eq_ofNat_of_zero_le h0
    exact WPost.mk hM ⟨hC.1.trans hM, hI⟩ ⟨r', rfl, by have := h1 (by decide); omega⟩
  simp only [List.nil_append, List.cons_append]
  refine ObP.some (fun v w' => ∃ r : Nat, v = .int .i64 (r : Int) ∧ 1 ≤ r ∧ r ≤ 15) (fun _ _ _ _ h => h) ?_ ?_
  · intro c A w' hok hC hO hD
    simp [depsL, IsV, slotv, Act.eval, Region.binds] at hD
    obtain ⟨r, hr, hr8⟩ := hD
    have hw : IntKind.i64.wrap (1 + (r : Int)) = 1 + r := IntWalk.i64_in _ (by omega)
    simp [go_sem, gd, Oper.wp, hr, hw]
    exact WPost.mk (Mk.refl _ _) hC (⟨1 + r, by simp, by omega, by omega⟩)
  simp only [List.nil_append, List.cons_append]
  apply ObP.step
  case hobl =>
    intro c A w' hok hC hO hD
    have e0 := hO 0 (by rfl)
    simp [Act.eval] at e0
    simp [depsL, IsV, slotv, Act.eval, Region.binds] at hD
    simp [go_sem, gd, Oper.wp, hD, e0]
    exact WPost.mk (Mk.refl _ _) hC (IsV.mk _ _)
  apply ObP.step
  case hobl =>
    intro c A w' hok hC hO hD
    simp [depsL, IsV, slotv, Act.eval, Region.binds] at hD
    simp [go_sem, gd, Oper.wp, hD]
    exact WPost.mk (Mk.refl _ _) hC (IsV.mk _ _)
  apply ObP.step
  case hobl =>
    intro c A w' hok hC hO hD
    simp [depsL, IsV, slotv, Act.eval, Region.binds] at hD
    simp [go_sem, gd, Oper.wp, hD]
    exact WPost.mk (Mk.refl _ _) hC (IsV.mk _ _)
  simp only [List.nil_append, List.cons_append]
  refine ObP.some (fun v w' => ∃ l : Int, v = .int .i64 l ∧ I64 l) (fun _ _ _ _ h => h) ?_ ?_
  · intro c A w' hok hC hO hD
    simp [depsL, IsV, slotv, Act.eval, Region.binds] at hD
    obtain ⟨l, hc, hl⟩ := hC.2.ln
    simp [go_sem, gd, Oper.wp, hD, hc]
    exact WPost.mk (Mk.refl _ _) hC (⟨l, rfl, hl⟩)
  simp only [List.nil_append, List.cons_append]
  refine ObP.some (fun v w' => ∃ (r : Nat) (l : Int), v = stV (h0S r l) .nil .nil s0S ∧ 1 ≤ r ∧ r ≤ 15 ∧ I64 l) (fun _ _ _ _ h => h) ?_ ?_
  · intro c A w' hok hC hO hD
    simp [depsL, IsV, slotv, Act.eval, Region.binds] at hD
    obtain ⟨⟨r, hr, h1, h2⟩, l, hl, h3⟩ := hD
    simp [go_sem, gd, Oper.wp, hr, hl]
    exact WPost.mk (Mk.refl _ _) hC (⟨r, l, rfl, h1, h2, h3⟩)
  simp only [List.nil_append, List.cons_append]
  refine ObP.some (fun v w' => ∃ sb, v = .pointer (some ⟨sb, 0, none⟩) ∧ W.heap.size ≤ sb ∧ w'.heap[sb]? = some (.cells zSt 48 (0, 0))) ?_ ?_ ?_
  · rintro v w1 w' hle ⟨g, h1, h2, h3⟩
    exact ⟨g, h1, h2, (hle.block g (Array.getElem?_eq_some_iff.1 h3).1 (by have := HTB.out; have := HWS.out; omega) (by have := HTB.out; have := HWS.out; omega)).trans h3⟩
  · intro c A w' hok hC hO hD
    simp [go_sem, gd, Oper.wp]
    exact WPost.mk (d := _) (v := .pointer (some ⟨_, 0, none⟩)) (Mk.of_below (alloc_below _ _)) ⟨hC.1.trans (Mk.of_below (alloc_below _ _)), hC.2.below (alloc_below _ _)⟩ ⟨_, rfl, hC.1.size, heap_alloc_new _ _⟩
  simp only [List.nil_append, List.cons_append]
  refine ObP.done ?_
  intro wz hCz
  simp only [List.drop_zero]
  intro v0 h0 v1 h1 v2 h2 v3 h3 v4 h4 v5 h5 v6 h6 v7 h7 v8 h8 v9 h9 v10 h10 v11 h11
  obtain ⟨r, l, rfl, hr1, hr2, hlI⟩ := h10
  obtain ⟨sb, rfl, hsb1, hsb2⟩ := h11
  clear h0 h1 h2 h3 h4 h5 h6 h7 h8 h9 K0 hd1 hd2
  refine AllVals.nil ?_
  go_simp
  refine wpAny_one 12 [[], [0], [0, 1], [0, 1, 2], [0, 1, 2, 3], [0, 1, 2, 3, 4], [], [6], [6, 7], [6, 7, 8], [0, 1, 2, 3, 4, 5, 6, 7, 8, 9], [], [0, 1, 2, 3, 4, 5, 6, 7, 8, 9, 10, 11]] rfl rfl rfl rfl rfl (by kernel_rfl) (by kernel_rfl) (by kernel_rfl) ?_
  have HSB := Lib.hid hsb1
  have HLI := Lib.hid hlI
  refine wp_store_mid _ _ _ (by rfl) sb 0 (stC (h0S r l) .nil .nil s0S).toArray (by rfl) (by rfl) (thereS hsb2 (Nat.le_refl 11)) st_size (by simp [stC, h0S, s0S, Value.oneCell']) ?_
  refine wpAny_end rfl ?_
  generalize hW5 : World.setCells wz sb 0 _ = W5
  have HBX : Hid (BoxS W5 sb (h0S r l) .nil .nil s0S) := Lib.hid (by rw [← hW5]; exact setCells_all hsb2 rfl)
  have HI5 : Hid (MdI W5 T) := Lib.hid (by rw [← hW5]; exact hCz.2.sets _ _ _ (by have := HTB.out; have := HWS.out; omega) (by have := HTB.out; have := HWS.out; omega) (by have := HTB.out; have := HWS.out; omega))
  have HM5 : Hid (Mk T w W5) := Lib.hid (by rw [← hW5]; exact (HM.out.trans hCz.1).sets _ _ _ (by have := HWS.out; omega))
  have HZ5 : Hid (W5.heap[w.heap.size]? = some (.cells zSt 48 (0, 0))) := Lib.hid (by
    rw [← hW5, (setCells_grown sb _ _ wz).block _ (Nat.lt_of_lt_of_le HWS.out hCz.1.size) (by have := HWS.out; simp; omega)]
    exact (hCz.1.block _ HWS.out (by have := HTB.out; omega) (by have := HTB.out; omega)).trans HZ.out)
  clear hW5 hCz hsb2 hsb1 hlI HZ HI HM
  go_simp
  have y0 : W5.cell? ⟨sb, 0, none⟩ = some (.int .i64 (r : Int)) := (cell_blk HBX.out (j := 0) rfl).2
  have f0 : W5.frozen? ⟨sb, 0, none⟩ = false := free_blk HBX.out
  have HSI : Hid (SI T w sb W5 (h0S r l) .nil .nil s0S) := Lib.hid ⟨HBX.out, h0S_ok _ _ (by unfold I64; omega) HLI.out, HI5.out, HM5.out, HZ5.out, by have := HSB.out; have := HWS.out; omega, HTB.out⟩
  clear HBX HI5 HM5 HZ5
  go_upto_region 4 with fail
  go_cut [42] (fun s' W' => W5 = W' ∧ ∃ q, s' = .bool q ∧ decide (d = 0 ∧ 2 ≤ r ∧ r ≤ 8) = q)
  case first =>
    cases hdz : ((d : Int) == 0)
    · have hdn : d ≠ 0 := by simpa using hdz
      go_wp2_with fail
      go_meet
      exact ⟨rfl, _, rfl, by go_light; grind⟩
    · have hdn : d = 0 := by simpa using hdz
      have HDN := Lib.hid hdn
      clear hdn
      go_wp2_with fail
      all_goals go_meet
      all_goals exact ⟨rfl, _, rfl, by have := HDN.out; go_light; grind⟩
  obtain ⟨rfl, q, rfl, hq⟩ := hcut
  have HQ := Lib.hid hq
  clear hq
  go_upto_if 42 with fail
  go_cut [5] (fun s5 W' => s5 = .pointer (some ⟨sb, 0, none⟩) ∧ ∃ r' : Nat, 1 ≤ r' ∧ r' ≤ 15 ∧ (d = 0 → r' < 2 ∨ 8 < r') ∧ SI T w sb W' (h0S r' l) .nil .nil s0S)
  case first =>
    cases q
    · have hq : ¬ (d = 0 ∧ 2 ≤ r ∧ r ≤ 8) := by simpa using HQ.out
      have HQ2 : Hid (d = 0 → r < 2 ∨ 8 < r) := Lib.hid (fun e => by omega)
      clear hq
      go_wp2_with fail
      go_meet
      exact ⟨rfl, r, hr1, hr2, HQ2.out, HSI.out⟩
    · go_wp2_with fail
      go_meet
      exact ⟨rfl, 1, by decide, by decide, fun _ => .inl (by decide), HSI.out.op 1 (by unfold I64; decide)⟩
  obtain ⟨rfl, r', hr1', hr2', hr3', hS⟩ := hcut
  obtain ⟨W6, rfl⟩ : ∃ W : World, W = wc := ⟨_, rfl⟩
  have HS6 := Lib.hid hS
  have HR3 := Lib.hid hr3'
  clear hS hr3' HSI HQ y0 f0 hr1 hr2
  have y0 : W6.cell? ⟨sb, 0, none⟩ = some (.int .i64 (r' : Int)) := (cell_blk HS6.out.box (j := 0) rfl).2
  go_upto_block 0 with fail
  -- BRANCHES
  go_cut [5] (fun s5 W' => s5 = .pointer (some ⟨sb, 0, none⟩) ∧ ∃ h s, h.op = (r' : Int) ∧ shpS1 h 0 0 = true ∧ SI T w sb W' h .nil .nil s)
  case first =>
    have HRR : Hid ((h0S r' l).op = (r' : Int)) := Lib.hid rfl
    have E1 : Hid (ExSays T 1) := Lib.hid (expr_any T 1 (by decide))
    have E2 : Hid (ExSays T 2) := Lib.hid (expr_any T 2 (by decide))
    clear y0
    have hc : r' = 1 ∨ r' = 2 ∨ r' = 3 ∨ r' = 4 ∨ r' = 5 ∨ r' = 6 ∨ r' = 7 ∨ r' = 8 ∨ r' = 9 ∨ r' = 10 ∨ r' = 11 ∨ r' = 12 ∨ r' = 13 ∨ r' = 14 ∨ r' = 15 := by omega
    clear hr1' hr2'
    rcases hc with hop | hop | hop | hop | hop | hop | hop | hop | hop | hop | hop | hop | hop | hop | hop
    · skip
      have HOP := Lib.hid hop
      clear hop
      have hop := HOP.out
      have g1 : ((r' : Int) == 1) = true := by rw [hop]; rfl
      have g2 : ((r' : Int) == 2) = false := by rw [hop]; rfl
      have g3 : ((r' : Int) == 3) = false := by rw [hop]; rfl
      have g4 : ((r' : Int) == 4) = false := by rw [hop]; rfl
      have g5 : ((r' : Int) == 5) = false := by rw [hop]; rfl
      have g6 : ((r' : Int) == 6) = false := by rw [hop]; rfl
      have g7 : ((r' : Int) == 7) = false := by rw [hop]; rfl
      have g8 : ((r' : Int) == 8) = false := by rw [hop]; rfl
      have g9 : ((r' : Int) == 9) = false := by rw [hop]; rfl
      have g10 : ((r' : Int) == 10) = false := by rw [hop]; rfl
      have g11 : ((r' : Int) == 11) = false := by rw [hop]; rfl
      have g12 : ((r' : Int) == 12) = false := by rw [hop]; rfl
      have g13 : ((r' : Int) == 13) = false := by rw [hop]; rfl
      have g14 : ((r' : Int) == 14) = false := by rw [hop]; rfl
      have g15 : ((r' : Int) == 15) = false := by rw [hop]; rfl
      clear hop
      go_wp2_with fail
      refine (lock_any T _ _ 5 na (HS6.out.mi.below (alloc_below _ _)) (heap_alloc_new _ _) (by decide) (by decide) na_at (Nat.ne_of_gt HS6.out.mi.tape.lt) (Nat.ne_of_gt HS6.out.mi.lt)).mono ?_
      rintro e wa ⟨sa, rfl, hsa, hMa, hIa⟩
      have HSa := Lib.hid (HS6.out.go ((Mk.of_below (alloc_below _ _)).trans hMa) hIa)
      have HNa := Lib.hid hsa
      clear hMa hIa hsa
      obtain ⟨-, -, y2, -, -, -, -, -, -, -, -⟩ := bxC HSa.out.box
      have f2 : wa.frozen? ⟨sb, 2, none⟩ = false := free_blk HSa.out.box
      go_upto_region 9 with fail
      generalize hWB : World.setCell wa _ _ = wb
      have HSb := Lib.hid (HSa.out.nm sa HNa.out.1)
      rw [hWB] at HSb
      clear hWB y2 f2 HSa
      go_cut [62] (fun s' W' => (∃ q, s' = .bool q) ∧ SI T w sb W' { h0S r' l with nm := sa } .nil .nil s0S)
      case first =>
        obtain ⟨-, -, y2, -, -, -, -, -, -, -, -⟩ := bxC HSb.out.box
        have c0 := HSb.out.mi.ptr
        go_wp2_with (first | (go_at_call 16; refine (NextM_any T 6 _ (by unfold I64; decide) HSb.out.mi).mono ?_; rintro e wn ⟨kn, rfl, hn1, hn2, hn3, hMn, hIn⟩; have HSn := Lib.hid (HSb.out.go hMn hIn); clear hMn hIn))
        all_goals go_meet
        all_goals first | exact ⟨⟨_, rfl⟩, HSn.out⟩ | exact ⟨⟨_, rfl⟩, HSb.out⟩
      obtain ⟨⟨q, rfl⟩, hSC⟩ := hcut
      obtain ⟨wd, rfl⟩ : ∃ W : World, W = wc := ⟨_, rfl⟩
      have HSd := Lib.hid hSC
      clear hSC HSb
      go_upto_if 62 with fail
      go_cut [5] (fun s5 W' => s5 = .pointer (some ⟨sb, 0, none⟩) ∧ ∃ ix s, (ix.len ≤ 1 ∧ shpL ix = true) ∧ SI T w sb W' { h0S r' l with nm := sa, idx := ix } .nil .nil s)
      case first =>
        cases q
        · go_wp2_with fail
          go_meet
          exact ⟨rfl, .nil, _, ⟨by decide, rfl⟩, HSd.out⟩
        · go_wp2_with fail
          refine (E1.out _ HSd.out.mi).mono ?_
          intro e wf hp
          obtain ⟨v, rfl, hex, hMf, hIf⟩ := exP_ex hp
          have HSf := Lib.hid (HSd.out.go hMf hIf)
          obtain ⟨xo, xn, xm, xk, xa, xc, rfl, hok, hst⟩ := hex
          have HOK := Lib.hid hok
          have HST := Lib.hid (hst.mono HSd.out.sz)
          clear hp hok hst hMf hIf
          unfold exV
          obtain ⟨-, -, -, -, y4, -, -, -, -, -, -⟩ := bxC HSf.out.box
          have f4 : wf.frozen? ⟨sb, 4, none⟩ = false := free_blk HSf.out.box
          have hlt : sb < wf.heap.size := HSf.out.sz
          go_wp2_with fail
          go_meet
          have HR := HSf.out.go (Mk.of_below (alloc_below _ (.cells #[.int .i64 xo, .int .i64 xn, .string xm, .slice xa xk.len xc] 25))) (HSf.out.mi.below (alloc_below _ _))
          have HRI := HR.idx (.cons xo xn xm xk .nil) (some ⟨wf.heap.size, 0, none⟩) 1 (by simp [ExL.len, maxLen]) (stay_one (heap_alloc_new _ _) hlt HOK.out.1 ((HST.out).next (abv_below (alloc_below _ _))))
          rw [World.setCell_alloc_past _ _ _ _ (show (Addr.mk sb 4 none).block < _ from hlt)] at HRI
          have HXL := Lib.hid (shpL_one HOK.out.2)
          have HRH := Lib.hid HRI
          clear HRI HR
          refine ⟨rfl, ?_⟩
          exact ⟨.cons xo xn xm xk .nil, _, ⟨Nat.le_refl 1, HXL.out⟩, HRH.out⟩
      obtain ⟨rfl, ix, s2, hix, hSC⟩ := hcut
      have HIX := Lib.hid hix
      clear hix
      obtain ⟨wg, rfl⟩ : ∃ W : World, W = wc := ⟨_, rfl⟩
      have HSg := Lib.hid hSC
      clear hSC HSd
      go_wp2_with fail
      refine (E2.out _ HSg.out.mi).mono ?_
      intro e wi hp
      obtain ⟨v, rfl, hex, hMi, hIi⟩ := exP_ex hp
      have HSi := Lib.hid (HSg.out.go hMi hIi)
      obtain ⟨xo, xn, xm, xk, xa, xc, rfl, hok, hst⟩ := hex
      have HOK := Lib.hid hok
      have HST := Lib.hid (hst.mono HSg.out.sz)
      clear hp hok hst hMi hIi
      unfold exV
      obtain ⟨-, -, -, -, -, y5, y6, y7, y8, -, -⟩ := bxC HSi.out.box
      have f5 : wi.frozen? ⟨sb, 5, none⟩ = false := free_blk HSi.out.box
      have f6 : wi.frozen? ⟨sb, 6, none⟩ = false := free_blk HSi.out.box
      have f7 : wi.frozen? ⟨sb, 7, none⟩ = false := free_blk HSi.out.box
      have f8 : wi.frozen? ⟨sb, 8, none⟩ = false := free_blk HSi.out.box
      go_wp2_with fail
      go_meet
      refine ⟨rfl, _, _, ?_, shS_asg HOP.out HNa.out.2 HIX.out HOK.out.2, HSi.out.x xo xn xm xk xa xc HOK.out.1 HST.out⟩
      exact HRR.out
    · as_aux_lemma =>
        have HOP := Lib.hid hop
        clear hop
        have hop := HOP.out
        have g1 : ((r' : Int) == 1) = false := by rw [hop]; rfl
        have g2 : ((r' : Int) == 2) = true := by rw [hop]; rfl
        have g3 : ((r' : Int) == 3) = false := by rw [hop]; rfl
        have g4 : ((r' : Int) == 4) = false := by rw [hop]; rfl
        have g5 : ((r' : Int) == 5) = false := by rw [hop]; rfl
        have g6 : ((r' : Int) == 6) = false := by rw [hop]; rfl
        have g7 : ((r' : Int) == 7) = false := by rw [hop]; rfl
        have g8 : ((r' : Int) == 8) = false := by rw [hop]; rfl
        have g9 : ((r' : Int) == 9) = false := by rw [hop]; rfl
        have g10 : ((r' : Int) == 10) = false := by rw [hop]; rfl
        have g11 : ((r' : Int) == 11) = false := by rw [hop]; rfl
        have g12 : ((r' : Int) == 12) = false := by rw [hop]; rfl
        have g13 : ((r' : Int) == 13) = false := by rw [hop]; rfl
        have g14 : ((r' : Int) == 14) = false := by rw [hop]; rfl
        have g15 : ((r' : Int) == 15) = false := by rw [hop]; rfl
        clear hop
        go_wp2_with fail
        refine (E2.out _ HS6.out.mi).mono ?_
        intro e wa hp
        obtain ⟨v, rfl, hex, hMa, hIa⟩ := exP_ex hp
        have HSa := Lib.hid (HS6.out.go hMa hIa)
        obtain ⟨xo, xn, xm, xk, xa, xc, rfl, hok, hst⟩ := hex
        have HOK := Lib.hid hok
        have HST := Lib.hid (hst.mono HS6.out.sz)
        clear hp hok hst hMa hIa
        unfold exV
        obtain ⟨-, -, -, -, -, y5, y6, y7, y8, -, -⟩ := bxC HSa.out.box
        have f5 : wa.frozen? ⟨sb, 5, none⟩ = false := free_blk HSa.out.box
        have f6 : wa.frozen? ⟨sb, 6, none⟩ = false := free_blk HSa.out.box
        have f7 : wa.frozen? ⟨sb, 7, none⟩ = false := free_blk HSa.out.box
        have f8 : wa.frozen? ⟨sb, 8, none⟩ = false := free_blk HSa.out.box
        go_wp2_with fail
        go_meet
        refine ⟨rfl, _, _, ?_, shS_cond (by have := HOP.out; omega) HOK.out.2, HSa.out.x xo xn xm xk xa xc HOK.out.1 HST.out⟩
        exact HRR.out
    · as_aux_lemma =>
        have HOP := Lib.hid hop
        clear hop
        have hop := HOP.out
        have g1 : ((r' : Int) == 1) = false := by rw [hop]; rfl
        have g2 : ((r' : Int) == 2) = false := by rw [hop]; rfl
        have g3 : ((r' : Int) == 3) = true := by rw [hop]; rfl
        have g4 : ((r' : Int) == 4) = false := by rw [hop]; rfl
        have g5 : ((r' : Int) == 5) = false := by rw [hop]; rfl
        have g6 : ((r' : Int) == 6) = false := by rw [hop]; rfl
        have g7 : ((r' : Int) == 7) = false := by rw [hop]; rfl
        have g8 : ((r' : Int) == 8) = false := by rw [hop]; rfl
        have g9 : ((r' : Int) == 9) = false := by rw [hop]; rfl
        have g10 : ((r' : Int) == 10) = false := by rw [hop]; rfl
        have g11 : ((r' : Int) == 11) = false := by rw [hop]; rfl
        have g12 : ((r' : Int) == 12) = false := by rw [hop]; rfl
        have g13 : ((r' : Int) == 13) = false := by rw [hop]; rfl
        have g14 : ((r' : Int) == 14) = false := by rw [hop]; rfl
        have g15 : ((r' : Int) == 15) = false := by rw [hop]; rfl
        clear hop
        go_wp2_with fail
        refine (E2.out _ HS6.out.mi).mono ?_
        intro e wa hp
        obtain ⟨v, rfl, hex, hMa, hIa⟩ := exP_ex hp
        have HSa := Lib.hid (HS6.out.go hMa hIa)
        obtain ⟨xo, xn, xm, xk, xa, xc, rfl, hok, hst⟩ := hex
        have HOK := Lib.hid hok
        have HST := Lib.hid (hst.mono HS6.out.sz)
        clear hp hok hst hMa hIa
        unfold exV
        obtain ⟨-, -, -, -, -, y5, y6, y7, y8, -, -⟩ := bxC HSa.out.box
        have f5 : wa.frozen? ⟨sb, 5, none⟩ = false := free_blk HSa.out.box
        have f6 : wa.frozen? ⟨sb, 6, none⟩ = false := free_blk HSa.out.box
        have f7 : wa.frozen? ⟨sb, 7, none⟩ = false := free_blk HSa.out.box
        have f8 : wa.frozen? ⟨sb, 8, none⟩ = false := free_blk HSa.out.box
        go_wp2_with fail
        go_meet
        refine ⟨rfl, _, _, ?_, shS_cond (by have := HOP.out; omega) HOK.out.2, HSa.out.x xo xn xm xk xa xc HOK.out.1 HST.out⟩
        exact HRR.out
    · as_aux_lemma =>
        have HOP := Lib.hid hop
        clear hop
        have hop := HOP.out
        have g1 : ((r' : Int) == 1) = false := by rw [hop]; rfl
        have g2 : ((r' : Int) == 2) = false := by rw [hop]; rfl
        have g3 : ((r' : Int) == 3) = false := by rw [hop]; rfl
        have g4 : ((r' : Int) == 4) = true := by rw [hop]; rfl
        have g5 : ((r' : Int) == 5) = false := by rw [hop]; rfl
        have g6 : ((r' : Int) == 6) = false := by rw [hop]; rfl
        have g7 : ((r' : Int) == 7) = false := by rw [hop]; rfl
        have g8 : ((r' : Int) == 8) = false := by rw [hop]; rfl
        have g9 : ((r' : Int) == 9) = false := by rw [hop]; rfl
        have g10 : ((r' : Int) == 10) = false := by rw [hop]; rfl
        have g11 : ((r' : Int) == 11) = false := by rw [hop]; rfl
        have g12 : ((r' : Int) == 12) = false := by rw [hop]; rfl
        have g13 : ((r' : Int) == 13) = false := by rw [hop]; rfl
        have g14 : ((r' : Int) == 14) = false := by rw [hop]; rfl
        have g15 : ((r' : Int) == 15) = false := by rw [hop]; rfl
        clear hop
        go_wp2_with fail
        refine (lock_any T _ _ 2 nb (HS6.out.mi.below (alloc_below _ _)) (heap_alloc_new _ _) (by decide) (by decide) nb_at (Nat.ne_of_gt HS6.out.mi.tape.lt) (Nat.ne_of_gt HS6.out.mi.lt)).mono ?_
        rintro e wa ⟨sa, rfl, hsa, hMa, hIa⟩
        have HSa := Lib.hid (HS6.out.go ((Mk.of_below (alloc_below _ _)).trans hMa) hIa)
        have HNa := Lib.hid hsa
        clear hMa hIa hsa
        obtain ⟨-, -, y2, -, -, -, -, -, -, -, -⟩ := bxC HSa.out.box
        have f2 : wa.frozen? ⟨sb, 2, none⟩ = false := free_blk HSa.out.box
        go_wp2_with fail
        go_meet
        refine ⟨rfl, _, _, ?_, shS_name (by have := HOP.out; omega) HNa.out.2, HSa.out.nm sa HNa.out.1⟩
        exact HRR.out
    · as_aux_lemma =>
        have HOP := Lib.hid hop
        clear hop
        have hop := HOP.out
        have g1 : ((r' : Int) == 1) = false := by rw [hop]; rfl
        have g2 : ((r' : Int) == 2) = false := by rw [hop]; rfl
        have g3 : ((r' : Int) == 3) = false := by rw [hop]; rfl
        have g4 : ((r' : Int) == 4) = false := by rw [hop]; rfl
        have g5 : ((r' : Int) == 5) = true := by rw [hop]; rfl
        have g6 : ((r' : Int) == 6) = false := by rw [hop]; rfl
        have g7 : ((r' : Int) == 7) = false := by rw [hop]; rfl
        have g8 : ((r' : Int) == 8) = false := by rw [hop]; rfl
        have g9 : ((r' : Int) == 9) = false := by rw [hop]; rfl
        have g10 : ((r' : Int) == 10) = false := by rw [hop]; rfl
        have g11 : ((r' : Int) == 11) = false := by rw [hop]; rfl
        have g12 : ((r' : Int) == 12) = false := by rw [hop]; rfl
        have g13 : ((r' : Int) == 13) = false := by rw [hop]; rfl
        have g14 : ((r' : Int) == 14) = false := by rw [hop]; rfl
        have g15 : ((r' : Int) == 15) = false := by rw [hop]; rfl
        clear hop
        go_wp2_with fail
        refine (lock_any T _ _ 1 nc (HS6.out.mi.below (alloc_below _ _)) (heap_alloc_new _ _) (by decide) (by decide) nc_at (Nat.ne_of_gt HS6.out.mi.tape.lt) (Nat.ne_of_gt HS6.out.mi.lt)).mono ?_
        rintro e wa ⟨sa, rfl, hsa, hMa, hIa⟩
        have HSa := Lib.hid (HS6.out.go ((Mk.of_below (alloc_below _ _)).trans hMa) hIa)
        have HNa := Lib.hid hsa
        clear hMa hIa hsa
        obtain ⟨-, -, y2, -, -, -, -, -, -, -, -⟩ := bxC HSa.out.box
        have f2 : wa.frozen? ⟨sb, 2, none⟩ = false := free_blk HSa.out.box
        go_wp2_with fail
        go_meet
        refine ⟨rfl, _, _, ?_, shS_name (by have := HOP.out; omega) HNa.out.2, HSa.out.nm sa HNa.out.1⟩
        exact HRR.out
    · as_aux_lemma =>
        have HOP := Lib.hid hop
        clear hop
        have hop := HOP.out
        have g1 : ((r' : Int) == 1) = false := by rw [hop]; rfl
        have g2 : ((r' : Int) == 2) = false := by rw [hop]; rfl
        have g3 : ((r' : Int) == 3) = false := by rw [hop]; rfl
        have g4 : ((r' : Int) == 4) = false := by rw [hop]; rfl
        have g5 : ((r' : Int) == 5) = false := by rw [hop]; rfl
        have g6 : ((r' : Int) == 6) = true := by rw [hop]; rfl
        have g7 : ((r' : Int) == 7) = false := by rw [hop]; rfl
        have g8 : ((r' : Int) == 8) = false := by rw [hop]; rfl
        have g9 : ((r' : Int) == 9) = false := by rw [hop]; rfl
        have g10 : ((r' : Int) == 10) = false := by rw [hop]; rfl
        have g11 : ((r' : Int) == 11) = false := by rw [hop]; rfl
        have g12 : ((r' : Int) == 12) = false := by rw [hop]; rfl
        have g13 : ((r' : Int) == 13) = false := by rw [hop]; rfl
        have g14 : ((r' : Int) == 14) = false := by rw [hop]; rfl
        have g15 : ((r' : Int) == 15) = false := by rw [hop]; rfl
        clear hop
        go_wp2_with fail
        refine (lock_any T _ _ 1 nc (HS6.out.mi.below (alloc_below _ _)) (heap_alloc_new _ _) (by decide) (by decide) nc_at (Nat.ne_of_gt HS6.out.mi.tape.lt) (Nat.ne_of_gt HS6.out.mi.lt)).mono ?_
        rintro e wa ⟨sa, rfl, hsa, hMa, hIa⟩
        have HSa := Lib.hid (HS6.out.go ((Mk.of_below (alloc_below _ _)).trans hMa) hIa)
        have HNa := Lib.hid hsa
        clear hMa hIa hsa
        obtain ⟨-, -, y2, -, -, -, -, -, -, -, -⟩ := bxC HSa.out.box
        have f2 : wa.frozen? ⟨sb, 2, none⟩ = false := free_blk HSa.out.box
        go_wp2_with fail
        go_meet
        refine ⟨rfl, _, _, ?_, shS_name (by have := HOP.out; omega) HNa.out.2, HSa.out.nm sa HNa.out.1⟩
        exact HRR.out
    · as_aux_lemma =>
        have HOP := Lib.hid hop
        clear hop
        have hop := HOP.out
        have g1 : ((r' : Int) == 1) = false := by rw [hop]; rfl
        have g2 : ((r' : Int) == 2) = false := by rw [hop]; rfl
        have g3 : ((r' : Int) == 3) = false := by rw [hop]; rfl
        have g4 : ((r' : Int) == 4) = false := by rw [hop]; rfl
        have g5 : ((r' : Int) == 5) = false := by rw [hop]; rfl
        have g6 : ((r' : Int) == 6) = false := by rw [hop]; rfl
        have g7 : ((r' : Int) == 7) = true := by rw [hop]; rfl
        have g8 : ((r' : Int) == 8) = false := by rw [hop]; rfl
        have g9 : ((r' : Int) == 9) = false := by rw [hop]; rfl
        have g10 : ((r' : Int) == 10) = false := by rw [hop]; rfl
        have g11 : ((r' : Int) == 11) = false := by rw [hop]; rfl
        have g12 : ((r' : Int) == 12) = false := by rw [hop]; rfl
        have g13 : ((r' : Int) == 13) = false := by rw [hop]; rfl
        have g14 : ((r' : Int) == 14) = false := by rw [hop]; rfl
        have g15 : ((r' : Int) == 15) = false := by rw [hop]; rfl
        clear hop
        go_wp2_with fail
        go_meet
        exact ⟨rfl, _, _, HRR.out, shS_plain (by have := HOP.out; omega), HS6.out⟩
    · as_aux_lemma =>
        have HOP := Lib.hid hop
        clear hop
        have hop := HOP.out
        have g1 : ((r' : Int) == 1) = false := by rw [hop]; rfl
        have g2 : ((r' : Int) == 2) = false := by rw [hop]; rfl
        have g3 : ((r' : Int) == 3) = false := by rw [hop]; rfl
        have g4 : ((r' : Int) == 4) = false := by rw [hop]; rfl
        have g5 : ((r' : Int) == 5) = false := by rw [hop]; rfl
        have g6 : ((r' : Int) == 6) = false := by rw [hop]; rfl
        have g7 : ((r' : Int) == 7) = false := by rw [hop]; rfl
        have g8 : ((r' : Int) == 8) = true := by rw [hop]; rfl
        have g9 : ((r' : Int) == 9) = false := by rw [hop]; rfl
        have g10 : ((r' : Int) == 10) = false := by rw [hop]; rfl
        have g11 : ((r' : Int) == 11) = false := by rw [hop]; rfl
        have g12 : ((r' : Int) == 12) = false := by rw [hop]; rfl
        have g13 : ((r' : Int) == 13) = false := by rw [hop]; rfl
        have g14 : ((r' : Int) == 14) = false := by rw [hop]; rfl
        have g15 : ((r' : Int) == 15) = false := by rw [hop]; rfl
        clear hop
        go_wp2_with fail
        go_meet
        exact ⟨rfl, _, _, HRR.out, shS_plain (by have := HOP.out; omega), HS6.out⟩
    · as_aux_lemma =>
        have HOP := Lib.hid hop
        clear hop
        have hop := HOP.out
        have g1 : ((r' : Int) == 1) = false := by rw [hop]; rfl
        have g2 : ((r' : Int) == 2) = false := by rw [hop]; rfl
        have g3 : ((r' : Int) == 3) = false := by rw [hop]; rfl
        have g4 : ((r' : Int) == 4) = false := by rw [hop]; rfl
        have g5 : ((r' : Int) == 5) = false := by rw [hop]; rfl
        have g6 : ((r' : Int) == 6) = false := by rw [hop]; rfl
        have g7 : ((r' : Int) == 7) = false := by rw [hop]; rfl
        have g8 : ((r' : Int) == 8) = false := by rw [hop]; rfl
        have g9 : ((r' : Int) == 9) = true := by rw [hop]; rfl
        have g10 : ((r' : Int) == 10) = false := by rw [hop]; rfl
        have g11 : ((r' : Int) == 11) = false := by rw [hop]; rfl
        have g12 : ((r' : Int) == 12) = false := by rw [hop]; rfl
        have g13 : ((r' : Int) == 13) = false := by rw [hop]; rfl
        have g14 : ((r' : Int) == 14) = false := by rw [hop]; rfl
        have g15 : ((r' : Int) == 15) = false := by rw [hop]; rfl
        clear hop
        go_wp2_with fail
        refine (lock_any T _ _ 1 nd (HS6.out.mi.below (alloc_below _ _)) (heap_alloc_new _ _) (by decide) (by decide) nd_at (Nat.ne_of_gt HS6.out.mi.tape.lt) (Nat.ne_of_gt HS6.out.mi.lt)).mono ?_
        rintro e wa ⟨sa, rfl, hsa, hMa, hIa⟩
        have HSa := Lib.hid (HS6.out.go ((Mk.of_below (alloc_below _ _)).trans hMa) hIa)
        have HNa := Lib.hid hsa
        clear hMa hIa hsa
        obtain ⟨-, -, y2, -, -, -, -, -, -, -, -⟩ := bxC HSa.out.box
        have f2 : wa.frozen? ⟨sb, 2, none⟩ = false := free_blk HSa.out.box
        go_wp2_with fail
        go_meet
        refine ⟨rfl, _, _, ?_, shS_name (by have := HOP.out; omega) HNa.out.2, HSa.out.nm sa HNa.out.1⟩
        exact HRR.out
    · as_aux_lemma =>
        have HOP := Lib.hid hop
        clear hop
        have hop := HOP.out
        have g1 : ((r' : Int) == 1) = false := by rw [hop]; rfl
        have g2 : ((r' : Int) == 2) = false := by rw [hop]; rfl
        have g3 : ((r' : Int) == 3) = false := by rw [hop]; rfl
        have g4 : ((r' : Int) == 4) = false := by rw [hop]; rfl
        have g5 : ((r' : Int) == 5) = false := by rw [hop]; rfl
        have g6 : ((r' : Int) == 6) = false := by rw [hop]; rfl
        have g7 : ((r' : Int) == 7) = false := by rw [hop]; rfl
        have g8 : ((r' : Int) == 8) = false := by rw [hop]; rfl
        have g9 : ((r' : Int) == 9) = false := by rw [hop]; rfl
        have g10 : ((r' : Int) == 10) = true := by rw [hop]; rfl
        have g11 : ((r' : Int) == 11) = false := by rw [hop]; rfl
        have g12 : ((r' : Int) == 12) = false := by rw [hop]; rfl
        have g13 : ((r' : Int) == 13) = false := by rw [hop]; rfl
        have g14 : ((r' : Int) == 14) = false := by rw [hop]; rfl
        have g15 : ((r' : Int) == 15) = false := by rw [hop]; rfl
        clear hop
        go_wp2_with fail
        refine (lock_any T _ _ 1 nd (HS6.out.mi.below (alloc_below _ _)) (heap_alloc_new _ _) (by decide) (by decide) nd_at (Nat.ne_of_gt HS6.out.mi.tape.lt) (Nat.ne_of_gt HS6.out.mi.lt)).mono ?_
        rintro e wa ⟨sa, rfl, hsa, hMa, hIa⟩
        have HSa := Lib.hid (HS6.out.go ((Mk.of_below (alloc_below _ _)).trans hMa) hIa)
        have HNa := Lib.hid hsa
        clear hMa hIa hsa
        obtain ⟨-, -, y2, -, -, -, -, -, -, -, -⟩ := bxC HSa.out.box
        have f2 : wa.frozen? ⟨sb, 2, none⟩ = false := free_blk HSa.out.box
        go_wp2_with fail
        go_meet
        refine ⟨rfl, _, _, ?_, shS_name (by have := HOP.out; omega) HNa.out.2, HSa.out.nm sa HNa.out.1⟩
        exact HRR.out
    · as_aux_lemma =>
        have HOP := Lib.hid hop
        clear hop
        have hop := HOP.out
        have g1 : ((r' : Int) == 1) = false := by rw [hop]; rfl
        have g2 : ((r' : Int) == 2) = false := by rw [hop]; rfl
        have g3 : ((r' : Int) == 3) = false := by rw [hop]; rfl
        have g4 : ((r' : Int) == 4) = false := by rw [hop]; rfl
        have g5 : ((r' : Int) == 5) = false := by rw [hop]; rfl
        have g6 : ((r' : Int) == 6) = false := by rw [hop]; rfl
        have g7 : ((r' : Int) == 7) = false := by rw [hop]; rfl
        have g8 : ((r' : Int) == 8) = false := by rw [hop]; rfl
        have g9 : ((r' : Int) == 9) = false := by rw [hop]; rfl
        have g10 : ((r' : Int) == 10) = false := by rw [hop]; rfl
        have g11 : ((r' : Int) == 11) = true := by rw [hop]; rfl
        have g12 : ((r' : Int) == 12) = false := by rw [hop]; rfl
        have g13 : ((r' : Int) == 13) = false := by rw [hop]; rfl
        have g14 : ((r' : Int) == 14) = false := by rw [hop]; rfl
        have g15 : ((r' : Int) == 15) = false := by rw [hop]; rfl
        clear hop
        go_wp2_with fail
        refine (lock_any T _ _ 1 nd (HS6.out.mi.below (alloc_below _ _)) (heap_alloc_new _ _) (by decide) (by decide) nd_at (Nat.ne_of_gt HS6.out.mi.tape.lt) (Nat.ne_of_gt HS6.out.mi.lt)).mono ?_
        rintro e wa ⟨sa, rfl, hsa, hMa, hIa⟩
        have HSa := Lib.hid (HS6.out.go ((Mk.of_below (alloc_below _ _)).trans hMa) hIa)
        have HNa := Lib.hid hsa
        clear hMa hIa hsa
        obtain ⟨-, -, y2, -, -, -, -, -, -, -, -⟩ := bxC HSa.out.box
        have f2 : wa.frozen? ⟨sb, 2, none⟩ = false := free_blk HSa.out.box
        go_wp2_with fail
        go_meet
        refine ⟨rfl, _, _, ?_, shS_name (by have := HOP.out; omega) HNa.out.2, HSa.out.nm sa HNa.out.1⟩
        exact HRR.out
    · as_aux_lemma =>
        have HOP := Lib.hid hop
        clear hop
        have hop := HOP.out
        have g1 : ((r' : Int) == 1) = false := by rw [hop]; rfl
        have g2 : ((r' : Int) == 2) = false := by rw [hop]; rfl
        have g3 : ((r' : Int) == 3) = false := by rw [hop]; rfl
        have g4 : ((r' : Int) == 4) = false := by rw [hop]; rfl
        have g5 : ((r' : Int) == 5) = false := by rw [hop]; rfl
        have g6 : ((r' : Int) == 6) = false := by rw [hop]; rfl
        have g7 : ((r' : Int) == 7) = false := by rw [hop]; rfl
        have g8 : ((r' : Int) == 8) = false := by rw [hop]; rfl
        have g9 : ((r' : Int) == 9) = false := by rw [hop]; rfl
        have g10 : ((r' : Int) == 10) = false := by rw [hop]; rfl
        have g11 : ((r' : Int) == 11) = false := by rw [hop]; rfl
        have g12 : ((r' : Int) == 12) = true := by rw [hop]; rfl
        have g13 : ((r' : Int) == 13) = false := by rw [hop]; rfl
        have g14 : ((r' : Int) == 14) = false := by rw [hop]; rfl
        have g15 : ((r' : Int) == 15) = false := by rw [hop]; rfl
        clear hop
        go_wp2_with fail
        refine (lock_any T _ _ 3 ne (HS6.out.mi.below (alloc_below _ _)) (heap_alloc_new _ _) (by decide) (by decide) ne_at (Nat.ne_of_gt HS6.out.mi.tape.lt) (Nat.ne_of_gt HS6.out.mi.lt)).mono ?_
        rintro e wa ⟨sa, rfl, hsa, hMa, hIa⟩
        have HSa := Lib.hid (HS6.out.go ((Mk.of_below (alloc_below _ _)).trans hMa) hIa)
        have HNa := Lib.hid hsa
        clear hMa hIa hsa
        obtain ⟨-, -, y2, -, -, -, -, -, -, -, -⟩ := bxC HSa.out.box
        have f2 : wa.frozen? ⟨sb, 2, none⟩ = false := free_blk HSa.out.box
        go_wp2_with fail
        go_meet
        refine ⟨rfl, _, _, ?_, shS_name (by have := HOP.out; omega) HNa.out.2, HSa.out.nm sa HNa.out.1⟩
        exact HRR.out
    · as_aux_lemma =>
        have HOP := Lib.hid hop
        clear hop
        have hop := HOP.out
        have g1 : ((r' : Int) == 1) = false := by rw [hop]; rfl
        have g2 : ((r' : Int) == 2) = false := by rw [hop]; rfl
        have g3 : ((r' : Int) == 3) = false := by rw [hop]; rfl
        have g4 : ((r' : Int) == 4) = false := by rw [hop]; rfl
        have g5 : ((r' : Int) == 5) = false := by rw [hop]; rfl
        have g6 : ((r' : Int) == 6) = false := by rw [hop]; rfl
        have g7 : ((r' : Int) == 7) = false := by rw [hop]; rfl
        have g8 : ((r' : Int) == 8) = false := by rw [hop]; rfl
        have g9 : ((r' : Int) == 9) = false := by rw [hop]; rfl
        have g10 : ((r' : Int) == 10) = false := by rw [hop]; rfl
        have g11 : ((r' : Int) == 11) = false := by rw [hop]; rfl
        have g12 : ((r' : Int) == 12) = false := by rw [hop]; rfl
        have g13 : ((r' : Int) == 13) = true := by rw [hop]; rfl
        have g14 : ((r' : Int) == 14) = false := by rw [hop]; rfl
        have g15 : ((r' : Int) == 15) = false := by rw [hop]; rfl
        clear hop
        go_wp2_with fail
        refine (lock_any T _ _ 3 ne (HS6.out.mi.below (alloc_below _ _)) (heap_alloc_new _ _) (by decide) (by decide) ne_at (Nat.ne_of_gt HS6.out.mi.tape.lt) (Nat.ne_of_gt HS6.out.mi.lt)).mono ?_
        rintro e wa ⟨sa, rfl, hsa, hMa, hIa⟩
        have HSa := Lib.hid (HS6.out.go ((Mk.of_below (alloc_below _ _)).trans hMa) hIa)
        have HNa := Lib.hid hsa
        clear hMa hIa hsa
        obtain ⟨-, -, y2, -, -, -, -, -, -, -, -⟩ := bxC HSa.out.box
        have f2 : wa.frozen? ⟨sb, 2, none⟩ = false := free_blk HSa.out.box
        go_wp2_with fail
        go_meet
        refine ⟨rfl, _, _, ?_, shS_name (by have := HOP.out; omega) HNa.out.2, HSa.out.nm sa HNa.out.1⟩
        exact HRR.out
    · as_aux_lemma =>
        have HOP := Lib.hid hop
        clear hop
        have hop := HOP.out
        have g1 : ((r' : Int) == 1) = false := by rw [hop]; rfl
        have g2 : ((r' : Int) == 2) = false := by rw [hop]; rfl
        have g3 : ((r' : Int) == 3) = false := by rw [hop]; rfl
        have g4 : ((r' : Int) == 4) = false := by rw [hop]; rfl
        have g5 : ((r' : Int) == 5) = false := by rw [hop]; rfl
        have g6 : ((r' : Int) == 6) = false := by rw [hop]; rfl
        have g7 : ((r' : Int) == 7) = false := by rw [hop]; rfl
        have g8 : ((r' : Int) == 8) = false := by rw [hop]; rfl
        have g9 : ((r' : Int) == 9) = false := by rw [hop]; rfl
        have g10 : ((r' : Int) == 10) = false := by rw [hop]; rfl
        have g11 : ((r' : Int) == 11) = false := by rw [hop]; rfl
        have g12 : ((r' : Int) == 12) = false := by rw [hop]; rfl
        have g13 : ((r' : Int) == 13) = false := by rw [hop]; rfl
        have g14 : ((r' : Int) == 14) = true := by rw [hop]; rfl
        have g15 : ((r' : Int) == 15) = false := by rw [hop]; rfl
        clear hop
        go_wp2_with fail
        refine (lock_any T _ _ 1 nf (HS6.out.mi.below (alloc_below _ _)) (heap_alloc_new _ _) (by decide) (by decide) nf_at (Nat.ne_of_gt HS6.out.mi.tape.lt) (Nat.ne_of_gt HS6.out.mi.lt)).mono ?_
        rintro e wa ⟨sa, rfl, hsa, hMa, hIa⟩
        have HSa := Lib.hid (HS6.out.go ((Mk.of_below (alloc_below _ _)).trans hMa) hIa)
        have HNa := Lib.hid hsa
        clear hMa hIa hsa
        obtain ⟨-, -, y2, -, -, -, -, -, -, -, -⟩ := bxC HSa.out.box
        have f2 : wa.frozen? ⟨sb, 2, none⟩ = false := free_blk HSa.out.box
        go_upto_region 31 with fail
        generalize hWB : World.setCell wa _ _ = wb
        have HSb := Lib.hid (HSa.out.nm sa HNa.out.1)
        rw [hWB] at HSb
        clear hWB y2 f2 HSa
        go_wp2_with fail
        refine (E1.out _ HSb.out.mi).mono ?_
        intro e wc hp
        obtain ⟨v, rfl, hex, hMc, hIc⟩ := exP_ex hp
        have HSc := Lib.hid (HSb.out.go hMc hIc)
        obtain ⟨xo, xn, xm, xk, xa, xc, rfl, hok, hst⟩ := hex
        have HOK := Lib.hid hok
        have HST := Lib.hid (hst.mono HSb.out.sz)
        clear hp hok hst hMc hIc
        unfold exV
        obtain ⟨-, -, -, -, -, y5, y6, y7, y8, -, -⟩ := bxC HSc.out.box
        have f5 : wc.frozen? ⟨sb, 5, none⟩ = false := free_blk HSc.out.box
        have f6 : wc.frozen? ⟨sb, 6, none⟩ = false := free_blk HSc.out.box
        have f7 : wc.frozen? ⟨sb, 7, none⟩ = false := free_blk HSc.out.box
        have f8 : wc.frozen? ⟨sb, 8, none⟩ = false := free_blk HSc.out.box
        go_wp2_with fail
        go_meet
        refine ⟨rfl, _, _, ?_, shS_set HOP.out HNa.out.2 HOK.out.2, HSc.out.x xo xn xm xk xa xc HOK.out.1 HST.out⟩
        exact HRR.out
    · as_aux_lemma =>
        have HOP := Lib.hid hop
        clear hop
        have hop := HOP.out
        have g1 : ((r' : Int) == 1) = false := by rw [hop]; rfl
        have g2 : ((r' : Int) == 2) = false := by rw [hop]; rfl
        have g3 : ((r' : Int) == 3) = false := by rw [hop]; rfl
        have g4 : ((r' : Int) == 4) = false := by rw [hop]; rfl
        have g5 : ((r' : Int) == 5) = false := by rw [hop]; rfl
        have g6 : ((r' : Int) == 6) = false := by rw [hop]; rfl
        have g7 : ((r' : Int) == 7) = false := by rw [hop]; rfl
        have g8 : ((r' : Int) == 8) = false := by rw [hop]; rfl
        have g9 : ((r' : Int) == 9) = false := by rw [hop]; rfl
        have g10 : ((r' : Int) == 10) = false := by rw [hop]; rfl
        have g11 : ((r' : Int) == 11) = false := by rw [hop]; rfl
        have g12 : ((r' : Int) == 12) = false := by rw [hop]; rfl
        have g13 : ((r' : Int) == 13) = false := by rw [hop]; rfl
        have g14 : ((r' : Int) == 14) = false := by rw [hop]; rfl
        have g15 : ((r' : Int) == 15) = true := by rw [hop]; rfl
        clear hop
        go_wp2_with fail
        refine (lock_any T _ _ 1 ng (HS6.out.mi.below (alloc_below _ _)) (heap_alloc_new _ _) (by decide) (by decide) ng_at (Nat.ne_of_gt HS6.out.mi.tape.lt) (Nat.ne_of_gt HS6.out.mi.lt)).mono ?_
        rintro e wa ⟨sa, rfl, hsa, hMa, hIa⟩
        have HSa := Lib.hid (HS6.out.go ((Mk.of_below (alloc_below _ _)).trans hMa) hIa)
        have HNa := Lib.hid hsa
        clear hMa hIa hsa
        obtain ⟨-, -, y2, -, -, -, -, -, -, -, -⟩ := bxC HSa.out.box
        have f2 : wa.frozen? ⟨sb, 2, none⟩ = false := free_blk HSa.out.box
        go_upto_region 34 with fail
        generalize hWB : World.setCell wa _ _ = wb
        have HSb := Lib.hid (HSa.out.nm sa HNa.out.1)
        rw [hWB] at HSb
        clear hWB y2 f2 HSa
        go_wp2_with fail
        refine (lock_any T _ _ 1 nf (HSb.out.mi.below (alloc_below _ _)) (heap_alloc_new _ _) (by decide) (by decide) nf_at (Nat.ne_of_gt HSb.out.mi.tape.lt) (Nat.ne_of_gt HSb.out.mi.lt)).mono ?_
        rintro e wc ⟨sc, rfl, hsc, hMc, hIc⟩
        have HSc := Lib.hid (HSb.out.go ((Mk.of_below (alloc_below _ _)).trans hMc) hIc)
        have HNc := Lib.hid hsc
        clear hMc hIc hsc
        obtain ⟨-, -, -, y3, -, -, -, -, -, -, -⟩ := bxC HSc.out.box
        have f3 : wc.frozen? ⟨sb, 3, none⟩ = false := free_blk HSc.out.box
        go_wp2_with fail
        go_meet
        refine ⟨rfl, _, _, ?_, shS_get HOP.out HNa.out.2 HNc.out.2, HSc.out.arg sc HNc.out.1⟩
        exact HRR.out
  -- END OF BRANCHES
  obtain ⟨rfl, h, s, hop, hshp, hS⟩ := hcut
  obtain ⟨W7, rfl⟩ : ∃ W : World, W = wc := ⟨_, rfl⟩
  have HS7 := Lib.hid hS
  have HOP := Lib.hid hop
  have HSHP := Lib.hid hshp
  clear hS hop hshp HS6 y0
  have y0 : W7.cell? ⟨sb, 0, none⟩ = some (.int .i64 (r' : Int)) := by rw [← HOP.out]; exact (cell_blk HS7.out.box (j := 0) rfl).2
  go_upto_region 35 with fail
  go_cut [133] (fun s' W' => W7 = W' ∧ ∃ q, s' = .bool q ∧ decide (2 ≤ r' ∧ r' ≤ 8) = q)
  case first =>
    go_wp2_with fail
    all_goals go_meet
    all_goals exact ⟨rfl, _, rfl, by go_light; grind⟩
  obtain ⟨rfl, q, rfl, hq⟩ := hcut
  have HQ := Lib.hid hq
  clear hq
  go_upto_if 133 with fail
  go_cut [5] (fun s5 W' => s5 = .pointer (some ⟨sb, 0, none⟩) ∧ ∃ b e s, shpS h b e = true ∧ SI T w sb W' h b e s)
  case first =>
    cases q
    · go_wp2_with fail
      go_meet
      have HF : Hid (shpS h .nil .nil = true) := Lib.hid (shS_fin HSHP.out (.inl rfl) (.inl rfl) rfl rfl)
      exact ⟨rfl, .nil, .nil, s, HF.out, HS7.out⟩
    · have hq : 2 ≤ r' ∧ r' ≤ 8 := by simpa using HQ.out
      have HBB : Hid (fB h.op = true) := Lib.hid (by rw [HOP.out]; unfold fB; simp; omega)
      have hdd : ∃ d', d = d' + 1 := ⟨d - 1, by have := HR3.out; omega⟩
      have HSL : Hid (SlSays T ((d : Int) - 1)) := Lib.hid (by
        obtain ⟨d', rfl⟩ := hdd
        have := HIH.out d' rfl
        rw [show ((d' + 1 : Nat) : Int) - 1 = (d' : Int) by omega]; exact this)
      have HQQ := Lib.hid hq
      have hd0 : 0 < d := by obtain ⟨d', rfl⟩ := hdd; omega
      have c0 := HS7.out.mi.ptr
      clear hq hdd
      go_wp2_with fail
      refine (NextM_any T 3 _ (by unfold I64; decide) HS7.out.mi).mono ?_
      rintro e w8 ⟨k, rfl, hk0, hk1, hk2, hM8, hI8⟩
      have hk3 : k < 3 := hk1 (by decide)
      have HS8 := Lib.hid (HS7.out.go hM8 hI8)
      clear hM8 hI8 hk1 hk2 c0 y0
      go_wp2_with fail
      refine (HSL.out _ _ HS8.out.mi (by unfold I64; omega) (by omega)).mono ?_
      rintro e w9 ⟨lb, ao, cap, rfl, hln, hst, hM9, hI9⟩
      have HS9 := Lib.hid (HS8.out.go hM9 hI9)
      have HLN := Lib.hid hln
      have HST := Lib.hid (hst.mono HS8.out.sz)
      clear hM9 hI9 hln hst hk0 hk3
      obtain ⟨-, -, -, -, -, -, -, -, -, y9, -⟩ := bxC HS9.out.box
      have f9 : w9.frozen? ⟨sb, 9, none⟩ = false := free_blk HS9.out.box
      go_upto_region 37 with fail
      generalize hWB : World.setCell w9 _ _ = wb
      have HSb := Lib.hid (HS9.out.body lb ao cap (by have := HLN.out.1; unfold maxLen; omega) HST.out)
      rw [hWB] at HSb
      clear hWB y9 f9 HS9
      have y0 : wb.cell? ⟨sb, 0, none⟩ = some (.int .i64 (r' : Int)) := by rw [← HOP.out]; exact (cell_blk HSb.out.box (j := 0) rfl).2
      have c0 := HSb.out.mi.ptr
      go_cut [155] (fun s' W' => (∃ q, s' = .bool q ∧ (q = true → r' = 2)) ∧ SI T w sb W' h lb .nil { s with aob := ao, capb := cap })
      case first =>
        cases h2 : ((r' : Int) == 2)
        · go_wp2_with fail
          go_meet
          exact ⟨⟨_, rfl, fun e => by cases e⟩, HSb.out⟩
        · have HR2 : Hid (r' = 2) := Lib.hid (by have := of_decide_eq_true h2; omega)
          go_wp2_with (first | (go_at_call 16; refine (NextM_any T 3 _ (by unfold I64; decide) HSb.out.mi).mono ?_; rintro e wn ⟨kn, rfl, hn1, hn2, hn3, hMn, hIn⟩; have HSn := Lib.hid (HSb.out.go hMn hIn); clear hMn hIn))
          all_goals go_meet
          all_goals exact ⟨⟨_, rfl, fun _ => HR2.out⟩, HSn.out⟩
      obtain ⟨⟨q, rfl, hq2⟩, hSC⟩ := hcut
      obtain ⟨wd, rfl⟩ : ∃ W : World, W = wc := ⟨_, rfl⟩
      have HSd := Lib.hid hSC
      have HQ2 := Lib.hid hq2
      clear hSC HSb hq2 y0 c0
      cases q
      · go_wp2_with fail
        go_meet
        have HF : Hid (shpS h lb .nil = true) := Lib.hid (shS_fin HSHP.out (.inr HBB.out) (.inl rfl) HLN.out.2 rfl)
        exact ⟨rfl, lb, .nil, _, HF.out, HSd.out⟩
      · go_wp2_with fail
        refine (HSL.out _ _ HSd.out.mi (by unfold I64; decide) (by decide)).mono ?_
        rintro e wf ⟨le, aoe, cape, rfl, hln, hst, hMf, hIf⟩
        have HSf := Lib.hid (HSd.out.go hMf hIf)
        have HLE := Lib.hid hln
        have HSTE := Lib.hid (hst.mono HSd.out.sz)
        clear hMf hIf hln hst
        obtain ⟨-, -, -, -, -, -, -, -, -, -, y10⟩ := bxC HSf.out.box
        have f10 : wf.frozen? ⟨sb, 10, none⟩ = false := free_blk HSf.out.box
        go_wp2_with fail
        go_meet
        have HF : Hid (shpS h lb le = true) := Lib.hid (shS_fin HSHP.out (.inr HBB.out) (.inr (by rw [HOP.out, HQ2.out trivial]; rfl)) HLN.out.2 HLE.out.2)
        exact ⟨rfl, lb, le, _, HF.out, HSf.out.els le aoe cape (by have := HLE.out.1; unfold maxLen; omega) HSTE.out⟩
  obtain ⟨rfl, b, e, s', hshp, hS⟩ := hcut
  obtain ⟨W8, rfl⟩ : ∃ W : World, W = wc := ⟨_, rfl⟩
  have HS8 := Lib.hid hS
  have HSH := Lib.hid hshp
  clear hS hshp HS7 HQ HSHP HOP y0
  obtain ⟨y0, y1, y2, y3, y4, y5, y6, y7, y8, y9, y10⟩ := bxC HS8.out.box
  have f : ∀ j, W8.frozen? ⟨w.heap.size, j, none⟩ = false := fun j => free_blk HS8.out.z
  have z : ∀ j, j < 11 → ∃ v, W8.cell? ⟨w.heap.size, j, none⟩ = some v := fun j hj => by
    rw [cell_of_row W8 w.heap.size j _ _ (0, 0) HS8.out.z]
    exact ⟨_, Array.getElem?_eq_getElem (by simpa [zSt] using hj)⟩
  obtain ⟨x0, z0⟩ := z 0 (by decide)
  obtain ⟨x1, z1⟩ := z 1 (by decide)
  obtain ⟨x2, z2⟩ := z 2 (by decide)
  obtain ⟨x3, z3⟩ := z 3 (by decide)
  obtain ⟨x4, z4⟩ := z 4 (by decide)
  obtain ⟨x5, z5⟩ := z 5 (by decide)
  obtain ⟨x6, z6⟩ := z 6 (by decide)
  obtain ⟨x7, z7⟩ := z 7 (by decide)
  obtain ⟨x8, z8⟩ := z 8 (by decide)
  obtain ⟨x9, z9⟩ := z 9 (by decide)
  obtain ⟨x10, z10⟩ := z 10 (by decide)
  clear z
  go_wp2_with fail
  clear f
  have HP := Lib.hid (fin_step HS8.out.tb (fin_step HS8.out.tb (fin_step HS8.out.tb (fin_step HS8.out.tb (fin_step HS8.out.tb (fin_step HS8.out.tb (fin_step HS8.out.tb (fin_step HS8.out.tb (fin_step HS8.out.tb (fin_step HS8.out.tb (fin_step HS8.out.tb ⟨HS8.out.km, HS8.out.mi, Abv.refl _ _⟩ 0 (.int .i64 h.op)) 1 (.int .i64 h.line)) 2 (.string h.nm)) 3 (.string h.arg)) 4 (.slice s'.aoi h.idx.len s'.capi)) 5 (.int .i64 h.xop)) 6 (.int .i64 h.xn)) 7 (.string h.xnm)) 8 (.slice s'.aox h.xkids.len s'.capx)) 9 (.slice s'.aob b.len s'.capb)) 10 (.slice s'.aoe e.len s'.cape))
  exact bodyPost_ret (v := stV h b e s') (by simp [results, Tryd.results39, go_sem, stV, z0, z1, z2, z3, z4, z5, z6, z7, z8, z9, z10]) rfl ⟨h, b, e, s', rfl, HSH.out, (HS8.out.st.next (HP.out.2.2.mono (by have := HS8.out.lt; omega))).mono (by have := HS8.out.lt; omega), HP.out.1, HP.out.2.1⟩
end Go.Proofs.YtghdammalphmfaaDoor
end
section
set_option linter.unusedSimpArgs false
set_option linter.unusedVariables false
namespace Go.Proofs.YtghdammalphmfaaDoor
open Go.RowKit
open Md
theorem below_of_grown {B : Nat} {w w' : World} {g : Option Nat} (h : w.grownBy w' g) (hg : ∀ k, g = some k → B ≤ k) (hB : B ≤ w.heap.size) : Below B w w' :=
  ⟨h.os, h.tape, h.output, h.size, fun k hk => h.block k (by omega) (fun e => by have := hg k e.symm; omega)⟩
theorem MdI.belowB {B : Nat} {w w' : World} {T : Tp} (h : MdI w T) (hb : Below B w w') (h1 : T.bt < B) (h2 : T.bm < B) (h3 : T.B0 ≤ B) : MdI w' T := by
  obtain ⟨x, k1, k2⟩ := h.tape.blk
  obtain ⟨l, m, k3, k4, k5, k6⟩ := h.blm
  exact ⟨⟨⟨x, k1, (hb.block _ h1).trans k2⟩, h.tape.byt.below (hb.mono h3), h.tape.len⟩, ⟨l, m, k3, k4, k5, (hb.block _ h2).trans k6⟩⟩
theorem Mk.thenB {T : Tp} {w W W' : World} (h : Mk T w W) (hb : Below w.heap.size W W') : Mk T w W' :=
  ⟨hb.os.trans h.os, hb.tape.trans h.tape, hb.output.trans h.output, Nat.le_trans h.size hb.size, fun k hk h1 h2 => (hb.block k hk).trans (h.block k hk h1 h2)⟩
theorem stf_one (x : StI) : ∀ u ∈ StI.f x, u.oneCell' = true := by
  intro u hu; simp [StI.f] at hu
  rcases hu with rfl | rfl | rfl | rfl | rfl | rfl | rfl | rfl | rfl | rfl | rfl <;> rfl
set_option maxHeartbeats 2000000 in
theorem stmts_step (T : Tp) (d : Int) (hst : StSays T d) : SlSays T d := by
  intro w n hI hn1 hn2
  have HST := Lib.hid hst
  have HI := Lib.hid hI
  have HTB : Hid (T.bt < w.heap.size ∧ T.bm < w.heap.size ∧ T.B0 ≤ w.heap.size) := Lib.hid ⟨hI.tape.lt, hI.lt, hI.tape.b0⟩
  obtain ⟨hn3, hn4⟩ := hn1
  obtain ⟨i0, hi, hz0, hz1, hz2⟩ := st_info
  have HIN := Lib.hid (And.intro hi (And.intro hz0 (And.intro hz1 hz2)))
  clear hst hI hi hz0 hz1 hz2
  go_enter Tryd.func19, Tryd.ntmps19
  go_wp2_with fail
  go_loopw [7, 8] (fun v7 v8 wr => ∃ (k : Nat) (l : List StI), v8 = .int .i64 k ∧ k ≤ 1000 ∧ l.length = k ∧ GrowS w.heap.size wr v7 l ∧ (∀ x ∈ l, StOk x.h x.b x.e ∧ shpS x.h x.b x.e = true) ∧ MdI wr T ∧ Mk T w wr) (fun _ i _ => (n - intOf i).toNat)
  case atStart => exact ⟨0, [], rfl, by decide, rfl, Grow.nil _ _ _ _ _ _, by simp, HI.out, Mk.refl _ _⟩
  case round =>
    obtain ⟨k, l, rfl, hk, hl, hg, hok, hmi, hmk⟩ := hrel
    obtain ⟨line, left, h1, h2, h3, hblk⟩ := hmi.blm
    have HL := Lib.hid hl
    have HG := Lib.hid hg
    have HOK := Lib.hid hok
    have HMI := Lib.hid hmi
    have HMK := Lib.hid hmk
    have HBL := Lib.hid (And.intro h1 (And.intro h3 hblk))
    have c2 : wr.cell? ⟨T.bm, 2, none⟩ = some (.int .i64 left) := (cell_blk hblk (j := 2) rfl).2
    clear hl hg hok hmi hmk h1 h3 hblk
    by_cases hlt : (k : Int) < n
    · by_cases hlf : 0 < left
      · go_wp2_with fail
        refine (HST.out _ HMI.out ⟨line, left, HBL.out.1, hlf, HBL.out.2.1, HBL.out.2.2⟩).mono ?_
        rintro e w1 ⟨h, b, e', s, rfl, hshp, hsts, hM, hI1⟩
        have HG1 := Lib.hid (HG.out.next (hM.abv HTB.out.1 HTB.out.2.1))
        have HMK1 := Lib.hid (HMK.out.trans hM)
        have HI1 := Lib.hid hI1
        have HOK1 := Lib.hid (And.intro hsts.1 hshp)
        have HX := Lib.hid hsts.2
        have HSZ := Lib.hid hM.size
        have HLT := Lib.hid HG.out.lt
        clear hM hI1 hsts hshp HG HBL c2
        unfold stV
        have HGA := Lib.hid (HG1.out.next (abv_below (alloc_below w1 (.cells (StI.f ⟨h, b, e', s⟩).toArray 48))))
        have HNC := Lib.hid (new_cells (heap_alloc_new w1 (.cells (StI.f ⟨h, b, e', s⟩).toArray 48)))
        have HSW : Hid (w.heap.size ≤ w1.heap.size) := Lib.hid HMK1.out.size
        obtain ⟨hi, hz0, hz1, hz2⟩ := HIN.out
        have hbs : w.heap.size ≤ w1.heap.size + 1 := Nat.le_succ_of_le HSW.out
        have hkl : l.length + 1 ≤ maxLen := by rw [HL.out]; unfold maxLen; omega
        have hk176 : (l.length + 1) * 176 ≤ 140737488355328 := by rw [HL.out]; omega
        go_wp2_with (at_builtin; refine wpList_append_lies _ rfl _ _ 42 rfl w.heap.size 48 i0 _ 11 176 Tryd.underlying42 hi hz0 hz1 hz2 rfl (by decide) _ _ _ rfl HGA.out.own ⟨w1.heap.size, 0, none⟩ 1 1 (StI.f ⟨h, b, e', s⟩) rfl rfl HNC.out (stf_one _) (by decide) hkl hk176 (by simpa using hbs) _ rfl ?_)
        clear hi hz0 hz1 hz2
        intro g cap w2 hown hgr hmv hlt2
        have HX2 : Hid (StayX w.heap.size u7.ownBlock (w1.alloc (.cells (StI.f ⟨h, b, e', s⟩).toArray 48)) (StI.I ⟨h, b, e', s⟩)) := Lib.hid (stayX_of (HX.out.next (abv_below (alloc_below _ _))) HMK.out.size (fun k hk => (HLT.out k hk).2))
        have HG2 := Lib.hid (HGA.out.push HX2.out rfl hown hgr (by simpa using hmv))
        have HB2 : Hid (Below w.heap.size (w1.alloc (.cells (StI.f ⟨h, b, e', s⟩).toArray 48)) w2) := Lib.hid (below_of_grown hgr (fun k hk => (HLT.out k hk).1) (by simpa using hbs))
        have HBA : Hid (Below w.heap.size w1 (w1.alloc (.cells (StI.f ⟨h, b, e', s⟩).toArray 48))) := Lib.hid ((alloc_below _ _).mono HSW.out)
        have HMI2 := Lib.hid ((HI1.out.belowB HBA.out HTB.out.1 HTB.out.2.1 HTB.out.2.2).belowB HB2.out HTB.out.1 HTB.out.2.1 HTB.out.2.2)
        have HMK2 := Lib.hid ((HMK1.out.thenB HBA.out).thenB HB2.out)
        have HOK2 : Hid (∀ x ∈ l ++ [(⟨h, b, e', s⟩ : StI)], StOk x.h x.b x.e ∧ shpS x.h x.b x.e = true) := Lib.hid (fun x hx => by
          rcases List.mem_append.1 hx with hx | hx
          · exact HOK.out x hx
          · rw [List.mem_singleton.1 hx]; exact HOK1.out)
        clear hown hgr hmv hlt2 hbs hkl hk176 HX2 HX HNC HGA HB2 HBA
        go_wp2_with fail
        go_roundw
        case rel => exact ⟨k + 1, l ++ [⟨h, b, e', s⟩], by go_num, by omega, by simp [HL.out], HG2.out, HOK2.out, HMI2.out, HMK2.out⟩
        case measure => simp [intOf]; omega
      · have hlz : left = 0 := by omega
        subst hlz
        go_wp2_with fail
        go_ret
        obtain ⟨ao, cap, e, hst⟩ := HG.out.says (fun x hx => (HOK.out x hx).1)
        exact ⟨stlOf l, ao, cap, by rw [e]; rfl, ⟨by rw [stlOf_len, HL.out]; exact hk, stlOf_shp l (fun x hx => (HOK.out x hx).2)⟩, hst, HMK.out, HMI.out⟩
    · go_wp2_with fail
      go_ret
      obtain ⟨ao, cap, e, hst⟩ := HG.out.says (fun x hx => (HOK.out x hx).1)
      exact ⟨stlOf l, ao, cap, by rw [e]; rfl, ⟨by rw [stlOf_len, HL.out]; exact hk, stlOf_shp l (fun x hx => (HOK.out x hx).2)⟩, hst, HMK.out, HMI.out⟩
theorem stmt_any (T : Tp) : ∀ d : Nat, d ≤ 100 → StSays T (d : Int)
  | 0, h => stmt_step T 0 h (fun d' e => by omega)
  | d + 1, h => stmt_step T (d + 1) h (fun d' e => by
    obtain rfl : d = d' := by omega
    exact stmts_step T _ (stmt_any T d (by omega)))
theorem stmts_any (T : Tp) (d : Nat) (h : d ≤ 100) : SlSays T (d : Int) := stmts_step T _ (stmt_any T d h)
end Go.Proofs.YtghdammalphmfaaDoor
end
