/-
  What the reader's expressions leave; words for the walks of unary, primary, binary.
  Contract of the reader's unary.
  Contract of the reader's primary.
  Contract of the reader's binary; of all that read expressions.
-/
import Derived.Test.YtommnhglgedflaaGreatDoorGRA
import Derived.Test.YtommnhglgedflaaGreatDoorGMB
section
set_option linter.unusedSimpArgs false
set_option linter.unusedVariables false
namespace Go.Proofs.YtommnhglgedflaaGreatDoor
open Go.RowKit
open Md Pz
def EOk (x : E) : Prop := ExOk x.op x.n x.nm x.kids
/-- An expression that lies in memory from B on. -/
def EV (B : Nat) (x : E) (v : Value) (w : World) : Prop := ∃ ao cap, v = exV x.op x.n x.nm x.kids ao cap ∧ EOk x ∧ Stay B w (fun w2 => x.kids.At w2 w2.heap.size ao 0)
theorem EV.next {B : Nat} {x : E} {v : Value} {w w' : World} (h : EV B x v w) (ha : Abv B w w') : EV B x v w' := by
  obtain ⟨ao, cap, h1, h2, h3⟩ := h; exact ⟨ao, cap, h1, h2, h3.next ha⟩
theorem EV.mono {B B' : Nat} {x : E} {v : Value} {w : World} (h : EV B' x v w) (hB : B ≤ B') : EV B x v w := by
  obtain ⟨ao, cap, h1, h2, h3⟩ := h; exact ⟨ao, cap, h1, h2, h3.mono hB⟩
def zE : Value := .agg #[.int .i64 0, .int .i64 0, .string ⟨#[]⟩, .slice none 0 0]
/-- What an expression's reading leaves. -/
def ExpP (R : Rp) (w : World) (r : Res E) (e : Ending) (w' : World) : Prop :=
  match r with
  | .ok x rest => ∃ v, e = .returned (.tuple #[v, .bool true]) ∧ EV w.heap.size x v w' ∧ RdI w' R rest ∧ w.grownBy w' (some R.br)
  | .no rest => e = .returned (.tuple #[zE, .bool false]) ∧ RdI w' R rest ∧ w.grownBy w' (some R.br)
def PeSays (R : Rp) (f : Nat) (ts : Toks) : M → Prop
  | .bin lv => lv ≤ 6 → ∀ w, RdI w R ts → Calls Tryz.prog 82 #[.pointer (some ⟨R.br, 0, none⟩), .int .i64 (lv : Int)] w (ExpP R w (pe f (.bin lv) ts))
  | .un => ∀ w, RdI w R ts → Calls Tryz.prog 113 #[.pointer (some ⟨R.br, 0, none⟩)] w (ExpP R w (pe f .un ts))
  | .pr => ∀ w, RdI w R ts → Calls Tryz.prog 134 #[.pointer (some ⟨R.br, 0, none⟩)] w (ExpP R w (pe f .pr ts))
  | .lp _ _ => True
/-- Four cells stored. -/
def set4 (w : World) (b : Nat) (v0 v1 v2 v3 : Value) : World := (((w.setCell ⟨b, 0, none⟩ v0).setCell ⟨b, 1, none⟩ v1).setCell ⟨b, 2, none⟩ v2).setCell ⟨b, 3, none⟩ v3
theorem gr_set {br : Nat} {w w' : World} (h : w.grownBy w' (some br)) (a : Addr) (v : Value) (hb : w.heap.size ≤ a.block) : w.grownBy (w'.setCell a v) (some br) :=
  ⟨h.os, h.tape, h.output, by have := h.size; simpa [World.setCell] using this, fun k hk hn => (setCell_far w' a v rfl (by omega)).trans (h.block k hk hn)⟩
theorem gr_alloc {br : Nat} {w w' : World} (h : w.grownBy w' (some br)) (o : Obj) : w.grownBy (w'.alloc o) (some br) := grow_tr h (gr_below (alloc_below _ _))
theorem rd_set {w : World} {R : Rp} {rest : Toks} (h : RdI w R rest) (a : Addr) (v : Value) (h0 : R.B0 ≤ a.block) (h1 : a.block ≠ R.br) : RdI (w.setCell a v) R rest := by
  obtain ⟨pos, k1, k2, k3⟩ := h.blk
  exact ⟨⟨pos, k1, k2, (setCell_far w a v rfl h1).trans k3⟩, h.tok.below (grown_below (setCell_grown w a v) h0 (Nat.le_trans R.b0 (Nat.le_of_lt h.lt))), h.ok, h.tl⟩
theorem rd_alloc {w : World} {R : Rp} {rest : Toks} (h : RdI w R rest) (o : Obj) : RdI (w.alloc o) R rest := h.below (alloc_below _ _)
/-- Where a call stands: the reader's block is old, its frame is kept. -/
structure Wk (R : Rp) (w W : World) (rest : Toks) : Prop where
  rd : RdI W R rest
  gr : w.grownBy W (some R.br)
  lt : R.br < w.heap.size
theorem Wk.start {R : Rp} {w : World} {rest : Toks} (h : RdI w R rest) : Wk R w w rest := ⟨h, grow_rf _, h.lt⟩
section
variable {R : Rp} {w W W' : World} {rest rest' : Toks}
theorem Wk.set (h : Wk R w W rest) (a : Addr) (v : Value) (hb : w.heap.size ≤ a.block) : Wk R w (W.setCell a v) rest :=
  ⟨rd_set h.rd a v (by have := R.b0; have := h.lt; omega) (by have := h.lt; omega), gr_set h.gr a v hb, h.lt⟩
theorem Wk.alloc (h : Wk R w W rest) (o : Obj) : Wk R w (W.alloc o) rest := ⟨rd_alloc h.rd o, gr_alloc h.gr o, h.lt⟩
theorem Wk.below (h : Wk R w W rest) (hb : Below W.heap.size W W') : Wk R w W' rest := ⟨h.rd.below hb, grow_tr h.gr (gr_below hb), h.lt⟩
theorem Wk.then (h : Wk R w W rest) (h1 : RdI W' R rest') (h2 : W.grownBy W' (some R.br)) : Wk R w W' rest' := ⟨h1, grow_tr h.gr h2, h.lt⟩
theorem Wk.set4 (h : Wk R w W rest) (b : Nat) (v0 v1 v2 v3 : Value) (hb : w.heap.size ≤ b) : Wk R w (set4 W b v0 v1 v2 v3) rest :=
  (((h.set ⟨b, 0, none⟩ v0 hb).set ⟨b, 1, none⟩ v1 hb).set ⟨b, 2, none⟩ v2 hb).set ⟨b, 3, none⟩ v3 hb
theorem Wk.kept (h : Wk R w W rest) (h2 : W.grownBy W' (some R.br)) {k : Nat} (hk : w.heap.size ≤ k) (hl : k < W.heap.size) : W'.heap[k]? = W.heap[k]? := h2.block k hl (by have := h.lt; simp; omega)
end
theorem set4_abv (w : World) (b : Nat) (v0 v1 v2 v3 : Value) : Abv (b + 1) w (set4 w b v0 v1 v2 v3) := by
  have x1 : Abv (b + 1) w _ := abv_set w ⟨b, 0, none⟩ v0 (Nat.lt_succ_self _)
  have x2 := x1.trans (abv_set _ ⟨b, 1, none⟩ v1 (Nat.lt_succ_self _))
  have x3 := x2.trans (abv_set _ ⟨b, 2, none⟩ v2 (Nat.lt_succ_self _))
  exact x3.trans (abv_set _ ⟨b, 3, none⟩ v3 (Nat.lt_succ_self _))
theorem set4_size (w : World) (b : Nat) (v0 v1 v2 v3 : Value) : (set4 w b v0 v1 v2 v3).heap.size = w.heap.size := by simp [set4, World.setCell]
/-- A reader's step leaves what is above its block. -/
theorem abv_gr {br B : Nat} {w w' : World} (h : w.grownBy w' (some br)) (hB : br < B) : Abv B w w' := ⟨h.size, fun k h1 h2 => h.block k h2 (by simp; omega)⟩
end Go.Proofs.YtommnhglgedflaaGreatDoor
end
section
set_option linter.unusedSimpArgs false
set_option linter.unusedVariables false
namespace Go.Proofs.YtommnhglgedflaaGreatDoor
open Go.RowKit
open Md Pz
/-- The four cells of a boxed expression. -/
theorem zE_cells {w : World} {b : Nat} {t : TypeId} (h : w.heap[b]? = some (.cells #[.int .i64 0, .int .i64 0, .string ⟨#[]⟩, .slice none 0 0] t (0, 0))) :
    (w.cell? ⟨b, 0, none⟩ = some (.int .i64 0) ∧ w.cell? ⟨b, 1, none⟩ = some (.int .i64 0) ∧ w.cell? ⟨b, 2, none⟩ = some (.string ⟨#[]⟩) ∧ w.cell? ⟨b, 3, none⟩ = some (.slice none 0 0)) ∧ w.frozen? ⟨b, 0, none⟩ = false ∧ w.frozen? ⟨b, 1, none⟩ = false ∧ w.frozen? ⟨b, 2, none⟩ = false ∧ w.frozen? ⟨b, 3, none⟩ = false :=
  ⟨⟨cellb h rfl, cellb h rfl, cellb h rfl, cellb h rfl⟩, free_blk h, free_blk h, free_blk h, free_blk h⟩
theorem no_end {R : Rp} {w W : World} {r : Toks} (h : Wk R w W r) : ExpP R w (.no r) (.returned (.tuple #[zE, .bool false])) W := ⟨rfl, h.rd, h.gr⟩
theorem stay_new {B g : Nat} {w w1 : World} {Q : World → Prop} (h : Stay B w Q) (ha : Abv B w w1) (hg : w.heap.size ≤ g) : StayX B (some g) w1 Q := fun w' h' =>
  h w' ⟨Nat.le_trans ha.1 h'.1, fun k h1 h2 => (h'.2 k h1 (fun e => by injection e with e; omega) (Nat.lt_of_lt_of_le h2 ha.1)).trans (ha.2 k h1 h2)⟩
theorem i64_0 : I64 0 := by unfold I64; omega
theorem one_stay {W : World} {x : E} {ao : Option Addr} {cap : Nat} {t : TypeId} {o : Obj} {B g : Nat} (hB : B ≤ W.heap.size) (hg : W.heap.size + 1 = g) (hE : EOk x ∧ Stay B W (fun w2 => x.kids.At w2 w2.heap.size ao 0)) :
    Stay B ((W.alloc o).alloc (.cells #[.int .i64 x.op, .int .i64 x.n, .string x.nm, .slice ao x.kids.len cap] t)) (fun w2 => (ExL.cons x.op x.n x.nm x.kids .nil).At w2 w2.heap.size (some ⟨g, 0, none⟩) 0) := by
  have hs : (W.alloc o).heap.size = g := by simp; omega
  rw [← hs]
  exact stay_one (heap_alloc_new _ _) (by omega) hE.1 (hE.2.next ((abv_below (alloc_below _ _)).trans (abv_below (alloc_below _ _))))
theorem un_end {R : Rp} {w w2 : World} {r : Toks} {x : E} {ao : Option Addr} {cap : Nat} {op : Int} {t t' : TypeId} (hop : I64 op) (h : Wk R w w2 r) (hlt : w.heap.size < w2.heap.size) (hE : EOk x ∧ Stay (w.heap.size + 1) w2 (fun w2 => x.kids.At w2 w2.heap.size ao 0)) :
    ExpP R w ((Res.ok x r).map (mk1 op)) (.returned (.tuple #[exV op 0 ⟨#[]⟩ (.cons x.op x.n x.nm x.kids .nil) (some ⟨w2.heap.size + 1, 0, none⟩) 1, .bool true]))
      (((set4 w2 w.heap.size (.int .i64 op) (.int .i64 0) (.string ⟨#[]⟩) (.slice (some ⟨w2.heap.size + 1, 0, none⟩) 1 1)).alloc (.cells #[.int .i64 x.op, .int .i64 x.n, .string x.nm, .slice ao x.kids.len cap] t')).alloc (.cells #[.int .i64 x.op, .int .i64 x.n, .string x.nm, .slice ao x.kids.len cap] t)) := by
  have hk := h.set4 w.heap.size (.int .i64 op) (.int .i64 0) (.string ⟨#[]⟩) (.slice (some ⟨w2.heap.size + 1, 0, none⟩) 1 1) (Nat.le_refl _)
  have ha := set4_abv w2 w.heap.size (.int .i64 op) (.int .i64 0) (.string ⟨#[]⟩) (.slice (some ⟨w2.heap.size + 1, 0, none⟩) 1 1)
  have hs := set4_size w2 w.heap.size (.int .i64 op) (.int .i64 0) (.string ⟨#[]⟩) (.slice (some ⟨w2.heap.size + 1, 0, none⟩) 1 1)
  generalize set4 w2 w.heap.size _ _ _ _ = W at *
  refine ⟨_, rfl, ⟨_, 1, rfl, ⟨hop, i64_0, Nat.zero_le _, by simp [mk1, ExL.len, maxLen]⟩, ?_⟩, ((hk.alloc _).alloc _).rd, ((hk.alloc _).alloc _).gr⟩
  exact (one_stay (by omega) (by omega) ⟨hE.1, hE.2.next ha⟩).mono (Nat.le_succ _)
/-- The result is a copy. -/
theorem cp_end {R : Rp} {w w2 : World} {r : Toks} {x : E} {ao : Option Addr} {cap : Nat} {a b c d : Value} (h : Wk R w w2 r) (hE : EOk x ∧ Stay (w.heap.size + 1) w2 (fun w2 => x.kids.At w2 w2.heap.size ao 0)) :
    ExpP R w (.ok x r) (.returned (.tuple #[exV x.op x.n x.nm x.kids ao cap, .bool true])) (set4 w2 w.heap.size a b c d) := by
  have hk := h.set4 w.heap.size a b c d (Nat.le_refl _)
  exact ⟨_, rfl, ⟨ao, cap, rfl, hE.1, (hE.2.next (set4_abv w2 w.heap.size a b c d)).mono (Nat.le_succ _)⟩, hk.rd, hk.gr⟩
theorem pe_neg {f : Nat} {ts : Toks} (h : at' [45] ts = true) : pe (f + 1) .un ts = (pe f .un ts.tail).map (mk1 4) := by
  conv => lhs; unfold pe
  rw [if_pos h]
theorem pe_not {f : Nat} {ts : Toks} (h0 : at' [45] ts = false) (h : at' [33] ts = true) : pe (f + 1) .un ts = (pe f .un ts.tail).map (mk1 5) := by
  conv => lhs; unfold pe
  rw [if_neg (by rw [h0]; decide), if_pos h]
theorem pe_pri {f : Nat} {ts : Toks} (h0 : at' [45] ts = false) (h : at' [33] ts = false) : pe (f + 1) .un ts = pe f .pr ts := by
  conv => lhs; unfold pe
  rw [if_neg (by rw [h0]; decide), if_neg (by rw [h]; decide)]
set_option maxHeartbeats 4000000 in
set_option maxRecDepth 100000 in
theorem unary_step (R : Rp) (f : Nat) (ts : Toks) (hf : enough .un ts (f + 1)) (ih : ∀ m ts, enough m ts f → PeSays R f ts m) : PeSays R (f + 1) ts .un := by
  intro w hI
  have HI := Lib.hid hI
  have HIH := Lib.hid ih
  have HF := Lib.hid hf
  clear hI ih hf
  cases h1 : at' [45] ts
  · cases h2 : at' [33] ts
    · have HX : Hid (∀ w, RdI w R ts → Calls Tryz.prog 134 #[.pointer (some ⟨R.br, 0, none⟩)] w (ExpP R w (pe f .pr ts))) := Lib.hid (HIH.out .pr ts (by
        have := HF.out; simp only [enough, wt] at *; omega))
      rw [pe_pri h1 h2]
      clear HIH HF
      generalize pe f .pr ts = res at *
      go_enter Tryz.func113, Tryz.ntmps113
      go_upto_region 1 with fail
      generalize hW : World.alloc w _ = W
      have HK : Hid (Wk R w W ts) := Lib.hid (by rw [← hW]; exact (Wk.start HI.out).alloc _)
      have HZ : Hid (W.heap[w.heap.size]? = some (.cells #[.int .i64 0, .int .i64 0, .string ⟨#[]⟩, .slice none 0 0] 38 (0, 0))) := Lib.hid (by rw [← hW]; exact heap_alloc_new _ _)
      clear hW
      go_wp2_with fail
      refine (accept_no R _ _ ⟨#[45]⟩ rfl h1 HK.out.rd).mono ?_
      rintro e w0 ⟨rfl, h2⟩
      have HK0 := Lib.hid (HK.out.below h2)
      have HZ0 := Lib.hid ((h2.block _ (Array.getElem?_eq_some_iff.1 HZ.out).1).trans HZ.out)
      clear h2 HK HZ
      have HK := HK0
      have HZ := HZ0
      clear HK0 HZ0
      go_wp2_with fail
      refine (accept_no R _ _ ⟨#[33]⟩ rfl h2 HK.out.rd).mono ?_
      rintro e w0 ⟨rfl, h2⟩
      have HK0 := Lib.hid (HK.out.below h2)
      have HZ0 := Lib.hid ((h2.block _ (Array.getElem?_eq_some_iff.1 HZ.out).1).trans HZ.out)
      clear h2 HK HZ
      have HK := HK0
      have HZ := HZ0
      clear HK0 HZ0
      go_wp2_with fail
      refine (HX.out _ HK.out.rd).mono ?_
      cases res with
      | no r =>
        rintro e w2 ⟨rfl, h2, h3⟩
        have HK2 := Lib.hid (HK.out.then h2 h3)
        have HZ2 := Lib.hid ((HK.out.kept h3 (Nat.le_refl _) (Array.getElem?_eq_some_iff.1 HZ.out).1).trans HZ.out)
        clear h2 h3 HK HZ
        obtain ⟨⟨y0, y1, y2, y3⟩, f0, f1, f2, f3⟩ := zE_cells HZ2.out
        have hlt2 : w.heap.size < w2.heap.size := (Array.getElem?_eq_some_iff.1 HZ2.out).1
        unfold zE
        go_wp2_with fail
        exact bodyPost_ret (v := .tuple #[zE, .bool false]) (by simp [results, Tryz.results113, go_sem, y0, y1, y2, y3, hlt2, zE]) rfl (no_end (HK2.out.set4 _ _ _ _ _ (Nat.le_refl _)))
      | ok x r =>
        rintro e w2 ⟨v, rfl, hv, h2, h3⟩
        have HK2 := Lib.hid (HK.out.then h2 h3)
        have HZ2 := Lib.hid ((HK.out.kept h3 (Nat.le_refl _) (Array.getElem?_eq_some_iff.1 HZ.out).1).trans HZ.out)
        have HX2 := Lib.hid (hv.mono (Array.getElem?_eq_some_iff.1 HZ.out).1)
        clear h2 h3 HK HZ hv
        obtain ⟨ao, cap, rfl, hok, hst⟩ := HX2.out
        have HE := Lib.hid (And.intro hok hst)
        clear hok hst HX2
        obtain ⟨⟨y0, y1, y2, y3⟩, f0, f1, f2, f3⟩ := zE_cells HZ2.out
        have hlt2 : w.heap.size < w2.heap.size := (Array.getElem?_eq_some_iff.1 HZ2.out).1
        unfold exV
        go_wp2_with fail
        exact bodyPost_ret (v := .tuple #[exV x.op x.n x.nm x.kids ao cap, .bool true]) (by simp [results, Tryz.results113, go_sem, exV, y0, y1, y2, y3, hlt2]) rfl (cp_end HK2.out HE.out)
    · have HX : Hid (∀ w, RdI w R ts.tail → Calls Tryz.prog 113 #[.pointer (some ⟨R.br, 0, none⟩)] w (ExpP R w (pe f .un ts.tail))) := Lib.hid (HIH.out .un ts.tail (by
        have := HF.out; have := at_len h2; simp only [enough, wt] at *; omega))
      rw [pe_not h1 h2]
      clear HIH HF
      generalize pe f .un ts.tail = res at *
      go_enter Tryz.func113, Tryz.ntmps113
      go_upto_region 1 with fail
      generalize hW : World.alloc w _ = W
      have HK : Hid (Wk R w W ts) := Lib.hid (by rw [← hW]; exact (Wk.start HI.out).alloc _)
      have HZ : Hid (W.heap[w.heap.size]? = some (.cells #[.int .i64 0, .int .i64 0, .string ⟨#[]⟩, .slice none 0 0] 38 (0, 0))) := Lib.hid (by rw [← hW]; exact heap_alloc_new _ _)
      clear hW
      go_wp2_with fail
      refine (accept_no R _ _ ⟨#[45]⟩ rfl h1 HK.out.rd).mono ?_
      rintro e w0 ⟨rfl, h2⟩
      have HK0 := Lib.hid (HK.out.below h2)
      have HZ0 := Lib.hid ((h2.block _ (Array.getElem?_eq_some_iff.1 HZ.out).1).trans HZ.out)
      clear h2 HK HZ
      have HK := HK0
      have HZ := HZ0
      clear HK0 HZ0
      go_wp2_with fail
      refine (accept_yes R _ _ ⟨#[33]⟩ rfl h2 HK.out.rd).mono ?_
      rintro e w1 ⟨rfl, h2, h3⟩
      have HK1 := Lib.hid (HK.out.then h2 h3)
      have HZ1 := Lib.hid ((HK.out.kept h3 (Nat.le_refl _) (Array.getElem?_eq_some_iff.1 HZ.out).1).trans HZ.out)
      clear h2 h3 HK HZ
      go_wp2_with fail
      refine (HX.out _ HK1.out.rd).mono ?_
      cases res with
      | no r =>
        rintro e w2 ⟨rfl, h2, h3⟩
        have HK2 := Lib.hid (HK1.out.then h2 h3)
        have HZ2 := Lib.hid ((HK1.out.kept h3 (Nat.le_refl _) (Array.getElem?_eq_some_iff.1 HZ1.out).1).trans HZ1.out)
        clear h2 h3 HK1 HZ1
        obtain ⟨⟨y0, y1, y2, y3⟩, f0, f1, f2, f3⟩ := zE_cells HZ2.out
        have hlt2 : w.heap.size < w2.heap.size := (Array.getElem?_eq_some_iff.1 HZ2.out).1
        unfold zE
        go_wp2_with fail
        exact bodyPost_ret (v := .tuple #[zE, .bool false]) (by simp [results, Tryz.results113, go_sem, y0, y1, y2, y3, hlt2, zE]) rfl (no_end (((HK2.out.set4 _ _ _ _ _ (Nat.le_refl _)).alloc _)))
      | ok x r =>
        rintro e w2 ⟨v, rfl, hv, h2, h3⟩
        have HK2 := Lib.hid (HK1.out.then h2 h3)
        have HZ2 := Lib.hid ((HK1.out.kept h3 (Nat.le_refl _) (Array.getElem?_eq_some_iff.1 HZ1.out).1).trans HZ1.out)
        have HX2 := Lib.hid (hv.mono (Array.getElem?_eq_some_iff.1 HZ1.out).1)
        clear h2 h3 HK1 HZ1 hv
        obtain ⟨ao, cap, rfl, hok, hst⟩ := HX2.out
        have HE := Lib.hid (And.intro hok hst)
        clear hok hst HX2
        obtain ⟨⟨y0, y1, y2, y3⟩, f0, f1, f2, f3⟩ := zE_cells HZ2.out
        have hlt2 : w.heap.size < w2.heap.size := (Array.getElem?_eq_some_iff.1 HZ2.out).1
        unfold exV
        go_wp2_with fail
        exact bodyPost_ret (v := .tuple #[exV 5 0 ⟨#[]⟩ (.cons x.op x.n x.nm x.kids .nil) (some ⟨w2.heap.size + 1, 0, none⟩) 1, .bool true]) (by simp [results, Tryz.results113, go_sem, exV, ExL.len, y0, y1, y2, y3, hlt2, Nat.lt_succ_of_lt hlt2]) rfl (un_end (by unfold I64; omega) HK2.out hlt2 HE.out)
  · have HX : Hid (∀ w, RdI w R ts.tail → Calls Tryz.prog 113 #[.pointer (some ⟨R.br, 0, none⟩)] w (ExpP R w (pe f .un ts.tail))) := Lib.hid (HIH.out .un ts.tail (by
      have := HF.out; have := at_len h1; simp only [enough, wt] at *; omega))
    rw [pe_neg h1]
    clear HIH HF
    generalize pe f .un ts.tail = res at *
    go_enter Tryz.func113, Tryz.ntmps113
    go_upto_region 1 with fail
    generalize hW : World.alloc w _ = W
    have HK : Hid (Wk R w W ts) := Lib.hid (by rw [← hW]; exact (Wk.start HI.out).alloc _)
    have HZ : Hid (W.heap[w.heap.size]? = some (.cells #[.int .i64 0, .int .i64 0, .string ⟨#[]⟩, .slice none 0 0] 38 (0, 0))) := Lib.hid (by rw [← hW]; exact heap_alloc_new _ _)
    clear hW
    go_wp2_with fail
    refine (accept_yes R _ _ ⟨#[45]⟩ rfl h1 HK.out.rd).mono ?_
    rintro e w1 ⟨rfl, h2, h3⟩
    have HK1 := Lib.hid (HK.out.then h2 h3)
    have HZ1 := Lib.hid ((HK.out.kept h3 (Nat.le_refl _) (Array.getElem?_eq_some_iff.1 HZ.out).1).trans HZ.out)
    clear h2 h3 HK HZ
    go_wp2_with fail
    refine (HX.out _ HK1.out.rd).mono ?_
    cases res with
    | no r =>
      rintro e w2 ⟨rfl, h2, h3⟩
      have HK2 := Lib.hid (HK1.out.then h2 h3)
      have HZ2 := Lib.hid ((HK1.out.kept h3 (Nat.le_refl _) (Array.getElem?_eq_some_iff.1 HZ1.out).1).trans HZ1.out)
      clear h2 h3 HK1 HZ1
      obtain ⟨⟨y0, y1, y2, y3⟩, f0, f1, f2, f3⟩ := zE_cells HZ2.out
      have hlt2 : w.heap.size < w2.heap.size := (Array.getElem?_eq_some_iff.1 HZ2.out).1
      unfold zE
      go_wp2_with fail
      exact bodyPost_ret (v := .tuple #[zE, .bool false]) (by simp [results, Tryz.results113, go_sem, y0, y1, y2, y3, hlt2, zE]) rfl (no_end (((HK2.out.set4 _ _ _ _ _ (Nat.le_refl _)).alloc _)))
    | ok x r =>
      rintro e w2 ⟨v, rfl, hv, h2, h3⟩
      have HK2 := Lib.hid (HK1.out.then h2 h3)
      have HZ2 := Lib.hid ((HK1.out.kept h3 (Nat.le_refl _) (Array.getElem?_eq_some_iff.1 HZ1.out).1).trans HZ1.out)
      have HX2 := Lib.hid (hv.mono (Array.getElem?_eq_some_iff.1 HZ1.out).1)
      clear h2 h3 HK1 HZ1 hv
      obtain ⟨ao, cap, rfl, hok, hst⟩ := HX2.out
      have HE := Lib.hid (And.intro hok hst)
      clear hok hst HX2
      obtain ⟨⟨y0, y1, y2, y3⟩, f0, f1, f2, f3⟩ := zE_cells HZ2.out
      have hlt2 : w.heap.size < w2.heap.size := (Array.getElem?_eq_some_iff.1 HZ2.out).1
      unfold exV
      go_wp2_with fail
      exact bodyPost_ret (v := .tuple #[exV 4 0 ⟨#[]⟩ (.cons x.op x.n x.nm x.kids .nil) (some ⟨w2.heap.size + 1, 0, none⟩) 1, .bool true]) (by simp [results, Tryz.results113, go_sem, exV, ExL.len, y0, y1, y2, y3, hlt2, Nat.lt_succ_of_lt hlt2]) rfl (un_end (by unfold I64; omega) HK2.out hlt2 HE.out)
end Go.Proofs.YtommnhglgedflaaGreatDoor
end
section
set_option linter.unusedSimpArgs false
set_option linter.unusedVariables false
namespace Go.Proofs.YtommnhglgedflaaGreatDoor
open Go.RowKit
open Md Pz
theorem pe_num {f : Nat} {ts : Toks} (h : isNum ts = true) : pe (f + 1) .pr ts = .ok ⟨1, (Tk.val (nextT ts) : Nat), ⟨#[]⟩, .nil⟩ ts.tail := by
  conv => lhs; unfold pe
  rw [if_pos h]
theorem pe_ix {f : Nat} {ts : Toks} (h0 : isNum ts = false) (h : isName ts = true) (h1 : at' [91] ts.tail = true) : pe (f + 1) .pr ts = ((pe f (.bin 1) ts.tail.tail).close [93]).map (ixE (tx (nextT ts))) := by
  conv => lhs; unfold pe
  rw [if_neg (by rw [h0]; decide), if_pos h, if_pos h1]
  rfl
theorem pe_nm {f : Nat} {ts : Toks} (h0 : isNum ts = false) (h : isName ts = true) (h1 : at' [91] ts.tail = false) : pe (f + 1) .pr ts = .ok ⟨2, 0, tx (nextT ts), .nil⟩ ts.tail := by
  conv => lhs; unfold pe
  rw [if_neg (by rw [h0]; decide), if_pos h, if_neg (by rw [h1]; decide)]
theorem pe_par {f : Nat} {ts : Toks} (h0 : isNum ts = false) (h : isName ts = false) (h1 : at' [40] ts = true) : pe (f + 1) .pr ts = (pe f (.bin 1) ts.tail).close [41] := by
  conv => lhs; unfold pe
  rw [if_neg (by rw [h0]; decide), if_neg (by rw [h]; decide), if_pos h1]
theorem pe_none {f : Nat} {ts : Toks} (h0 : isNum ts = false) (h : isName ts = false) (h1 : at' [40] ts = false) : pe (f + 1) .pr ts = .no ts := by
  conv => lhs; unfold pe
  rw [if_neg (by rw [h0]; decide), if_neg (by rw [h]; decide), if_neg (by rw [h1]; decide)]
/-- An expression without operands. -/
theorem leaf_end {R : Rp} {w w2 : World} {r : Toks} {op n : Int} {nm : ByteArray} {a b c d : Value} (h : Wk R w w2 r) (h1 : I64 op) (h2 : I64 n) (h3 : nm.size ≤ maxLen) :
    ExpP R w (.ok ⟨op, n, nm, .nil⟩ r) (.returned (.tuple #[exV op n nm .nil none 0, .bool true])) (set4 w2 w.heap.size a b c d) := by
  have hk := h.set4 w.heap.size a b c d (Nat.le_refl _)
  exact ⟨_, rfl, ⟨none, 0, rfl, ⟨h1, h2, h3, Nat.zero_le _⟩, fun _ _ => trivial⟩, hk.rd, hk.gr⟩
theorem ix_end {R : Rp} {w w2 : World} {r : Toks} {x : E} {ao : Option Addr} {cap : Nat} {nm : ByteArray} {t : TypeId} (hn : nm.size ≤ maxLen) (h : Wk R w w2 r) (hlt : w.heap.size < w2.heap.size) (hE : EOk x ∧ Stay (w.heap.size + 1) w2 (fun w2 => x.kids.At w2 w2.heap.size ao 0)) :
    ExpP R w (.ok (ixE nm x) r) (.returned (.tuple #[exV 3 0 nm (.cons x.op x.n x.nm x.kids .nil) (some ⟨w2.heap.size, 0, none⟩) 1, .bool true]))
      ((set4 w2 w.heap.size (.int .i64 3) (.int .i64 0) (.string nm) (.slice (some ⟨w2.heap.size, 0, none⟩) 1 1)).alloc (.cells #[.int .i64 x.op, .int .i64 x.n, .string x.nm, .slice ao x.kids.len cap] t)) := by
  have hk := h.set4 w.heap.size (.int .i64 3) (.int .i64 0) (.string nm) (.slice (some ⟨w2.heap.size, 0, none⟩) 1 1) (Nat.le_refl _)
  have ha := set4_abv w2 w.heap.size (.int .i64 3) (.int .i64 0) (.string nm) (.slice (some ⟨w2.heap.size, 0, none⟩) 1 1)
  have hs := set4_size w2 w.heap.size (.int .i64 3) (.int .i64 0) (.string nm) (.slice (some ⟨w2.heap.size, 0, none⟩) 1 1)
  generalize set4 w2 w.heap.size _ _ _ _ = W at *
  refine ⟨_, rfl, ⟨_, 1, rfl, ⟨(by unfold I64; decide : I64 3), i64_0, hn, by simp [ixE, ExL.len, maxLen]⟩, ?_⟩, (hk.alloc _).rd, (hk.alloc _).gr⟩
  rw [← hs]
  exact (stay_one (heap_alloc_new _ _) (by omega) hE.1 ((hE.2.next ha).next (abv_below (alloc_below _ _)))).mono (Nat.le_succ _)
theorem close_yes {x : E} {r : Toks} {y : List UInt8} (h : at' y r = true) : (Res.ok x r).close y = .ok x r.tail := by show ite _ _ _ = _; rw [if_pos h]
theorem close_not {x : E} {r : Toks} {y : List UInt8} (h : at' y r = false) : (Res.ok x r).close y = .no r := by show ite _ _ _ = _; rw [if_neg (by rw [h]; decide)]
theorem nm_size {l : List UInt8} (h : Tk.isNm l = true) : (tx l).size ≤ maxLen := by
  unfold Tk.isNm at h
  simp only [Bool.and_eq_true, decide_eq_true_eq] at h
  have : (tx l).size = l.length := by simp [tx, ByteArray.size]
  unfold maxLen; omega
set_option maxHeartbeats 1000000 in
/-- The first method of the expressions hands on. -/
theorem expr_of (R : Rp) (f : Nat) (ts : Toks) (h : PeSays R f ts (.bin 1)) (w : World) (hI : RdI w R ts) : Calls Tryz.prog 43 #[.pointer (some ⟨R.br, 0, none⟩)] w (ExpP R w (pe f (.bin 1) ts)) := by
  have HI := Lib.hid hI
  have HX : Hid (∀ w, RdI w R ts → Calls Tryz.prog 82 #[.pointer (some ⟨R.br, 0, none⟩), .int .i64 1] w (ExpP R w (pe f (.bin 1) ts))) := Lib.hid (h (by decide))
  clear hI h
  generalize pe f (.bin 1) ts = res at *
  go_enter Tryz.func43, Tryz.ntmps43
  go_upto_region 1 with fail
  generalize hW : World.alloc w _ = W
  have HK : Hid (Wk R w W ts) := Lib.hid (by rw [← hW]; exact (Wk.start HI.out).alloc _)
  have HZ : Hid (W.heap[w.heap.size]? = some (.cells #[.int .i64 0, .int .i64 0, .string ⟨#[]⟩, .slice none 0 0] 38 (0, 0))) := Lib.hid (by rw [← hW]; exact heap_alloc_new _ _)
  clear hW
  go_wp2_with fail
  refine (HX.out _ HK.out.rd).mono ?_
  cases res with
  | no r =>
    rintro e w2 ⟨rfl, h2, h3⟩
    have HK2 := Lib.hid (HK.out.then h2 h3)
    have HZ2 := Lib.hid ((HK.out.kept h3 (Nat.le_refl _) (Array.getElem?_eq_some_iff.1 HZ.out).1).trans HZ.out)
    clear h2 h3 HK HZ
    obtain ⟨⟨y0, y1, y2, y3⟩, f0, f1, f2, f3⟩ := zE_cells HZ2.out
    unfold zE
    go_wp2_with fail
    exact bodyPost_ret (v := .tuple #[zE, .bool false]) (by simp [results, Tryz.results43, go_sem, y0, y1, y2, y3, zE]) rfl (no_end (HK2.out.set4 _ _ _ _ _ (Nat.le_refl _)))
  | ok x r =>
    rintro e w2 ⟨v, rfl, hv, h2, h3⟩
    have HK2 := Lib.hid (HK.out.then h2 h3)
    have HZ2 := Lib.hid ((HK.out.kept h3 (Nat.le_refl _) (Array.getElem?_eq_some_iff.1 HZ.out).1).trans HZ.out)
    have HX2 := Lib.hid (hv.mono (Array.getElem?_eq_some_iff.1 HZ.out).1)
    clear h2 h3 HK HZ hv
    obtain ⟨ao, cap, rfl, hok, hst⟩ := HX2.out
    have HE := Lib.hid (And.intro hok hst)
    clear hok hst HX2
    obtain ⟨⟨y0, y1, y2, y3⟩, f0, f1, f2, f3⟩ := zE_cells HZ2.out
    unfold exV
    go_wp2_with fail
    exact bodyPost_ret (v := .tuple #[exV x.op x.n x.nm x.kids ao cap, .bool true]) (by simp [results, Tryz.results43, go_sem, exV, y0, y1, y2, y3]) rfl (cp_end HK2.out HE.out)
set_option maxHeartbeats 4000000 in
set_option maxRecDepth 100000 in
theorem primary_step (R : Rp) (f : Nat) (ts : Toks) (hf : enough .pr ts (f + 1)) (ih : ∀ m ts, enough m ts f → PeSays R f ts m) : PeSays R (f + 1) ts .pr := by
  intro w hI
  have HI := Lib.hid hI
  have HIH := Lib.hid ih
  have HF := Lib.hid hf
  clear hI ih hf
  cases h0 : isNum ts
  · cases h1 : isName ts
    · cases h2 : at' [40] ts
      · rw [pe_none h0 h1 h2]
        clear HIH HF
        go_enter Tryz.func134, Tryz.ntmps134
        go_upto_region 1 with fail
        generalize hW : World.alloc w _ = W
        have HK : Hid (Wk R w W ts) := Lib.hid (by rw [← hW]; exact (Wk.start HI.out).alloc _)
        have HZ : Hid (W.heap[w.heap.size]? = some (.cells #[.int .i64 0, .int .i64 0, .string ⟨#[]⟩, .slice none 0 0] 38 (0, 0))) := Lib.hid (by rw [← hW]; exact heap_alloc_new _ _)
        clear hW
        go_wp2_with fail
        refine (num_no R _ _ h0 HK.out.rd).mono ?_
        rintro e w0 ⟨rfl, h2⟩
        have HK0 := Lib.hid (HK.out.below h2)
        have HZ0 := Lib.hid ((h2.block _ (Array.getElem?_eq_some_iff.1 HZ.out).1).trans HZ.out)
        clear h2 HK HZ
        have HK := HK0
        have HZ := HZ0
        clear HK0 HZ0
        go_wp2_with fail
        refine (name_no' R _ _ h1 HK.out.rd).mono ?_
        rintro e w0 ⟨rfl, h2⟩
        have HK0 := Lib.hid (HK.out.below h2)
        have HZ0 := Lib.hid ((h2.block _ (Array.getElem?_eq_some_iff.1 HZ.out).1).trans HZ.out)
        clear h2 HK HZ
        have HK := HK0
        have HZ := HZ0
        clear HK0 HZ0
        go_wp2_with fail
        refine (accept_no R _ _ ⟨#[40]⟩ rfl h2 HK.out.rd).mono ?_
        rintro e w0 ⟨rfl, h2⟩
        have HK0 := Lib.hid (HK.out.below h2)
        have HZ0 := Lib.hid ((h2.block _ (Array.getElem?_eq_some_iff.1 HZ.out).1).trans HZ.out)
        clear h2 HK HZ
        have HK := HK0
        have HZ := HZ0
        clear HK0 HZ0
        obtain ⟨⟨y0, y1, y2, y3⟩, f0, f1, f2, f3⟩ := zE_cells HZ.out
        go_wp2_with fail
        exact bodyPost_ret (v := .tuple #[zE, .bool false]) (by simp [results, Tryz.results134, go_sem, y0, y1, y2, y3, zE]) rfl (no_end (HK.out.set4 _ _ _ _ _ (Nat.le_refl _)))
      · have HX : Hid (∀ w, RdI w R ts.tail → Calls Tryz.prog 43 #[.pointer (some ⟨R.br, 0, none⟩)] w (ExpP R w (pe f (.bin 1) ts.tail))) := Lib.hid (expr_of R f ts.tail (HIH.out (.bin 1) ts.tail (by
          have := HF.out; have := at_len h2; simp only [enough, wt] at *; omega)))
        rw [pe_par h0 h1 h2]
        clear HIH HF
        generalize pe f (.bin 1) ts.tail = res at *
        go_enter Tryz.func134, Tryz.ntmps134
        go_upto_region 1 with fail
        generalize hW : World.alloc w _ = W
        have HK : Hid (Wk R w W ts) := Lib.hid (by rw [← hW]; exact (Wk.start HI.out).alloc _)
        have HZ : Hid (W.heap[w.heap.size]? = some (.cells #[.int .i64 0, .int .i64 0, .string ⟨#[]⟩, .slice none 0 0] 38 (0, 0))) := Lib.hid (by rw [← hW]; exact heap_alloc_new _ _)
        clear hW
        go_wp2_with fail
        refine (num_no R _ _ h0 HK.out.rd).mono ?_
        rintro e w0 ⟨rfl, h2⟩
        have HK0 := Lib.hid (HK.out.below h2)
        have HZ0 := Lib.hid ((h2.block _ (Array.getElem?_eq_some_iff.1 HZ.out).1).trans HZ.out)
        clear h2 HK HZ
        have HK := HK0
        have HZ := HZ0
        clear HK0 HZ0
        go_wp2_with fail
        refine (name_no' R _ _ h1 HK.out.rd).mono ?_
        rintro e w0 ⟨rfl, h2⟩
        have HK0 := Lib.hid (HK.out.below h2)
        have HZ0 := Lib.hid ((h2.block _ (Array.getElem?_eq_some_iff.1 HZ.out).1).trans HZ.out)
        clear h2 HK HZ
        have HK := HK0
        have HZ := HZ0
        clear HK0 HZ0
        go_wp2_with fail
        refine (accept_yes R _ _ ⟨#[40]⟩ rfl h2 HK.out.rd).mono ?_
        rintro e w1 ⟨rfl, h2, h3⟩
        have HK1 := Lib.hid (HK.out.then h2 h3)
        have HZ1 := Lib.hid ((HK.out.kept h3 (Nat.le_refl _) (Array.getElem?_eq_some_iff.1 HZ.out).1).trans HZ.out)
        clear h2 h3 HK HZ
        go_wp2_with fail
        refine (HX.out _ HK1.out.rd).mono ?_
        cases res with
        | no r =>
          rintro e w2 ⟨rfl, h2, h3⟩
          have HK2 := Lib.hid (HK1.out.then h2 h3)
          have HZ2 := Lib.hid ((HK1.out.kept h3 (Nat.le_refl _) (Array.getElem?_eq_some_iff.1 HZ1.out).1).trans HZ1.out)
          clear h2 h3 HK1 HZ1
          obtain ⟨⟨y0, y1, y2, y3⟩, f0, f1, f2, f3⟩ := zE_cells HZ2.out
          have hlt2 : w.heap.size < w2.heap.size := (Array.getElem?_eq_some_iff.1 HZ2.out).1
          unfold zE
          go_wp2_with fail
          exact bodyPost_ret (v := .tuple #[zE, .bool false]) (by simp [results, Tryz.results134, go_sem, y0, y1, y2, y3, hlt2, zE]) rfl (no_end ((HK2.out.set4 _ _ _ _ _ (Nat.le_refl _)).alloc _))
        | ok x r =>
          rintro e w2 ⟨v, rfl, hv, h2, h3⟩
          have HK2 := Lib.hid (HK1.out.then h2 h3)
          have HZ2 := Lib.hid ((HK1.out.kept h3 (Nat.le_refl _) (Array.getElem?_eq_some_iff.1 HZ1.out).1).trans HZ1.out)
          have HX2 := Lib.hid (hv.mono (Array.getElem?_eq_some_iff.1 HZ1.out).1)
          clear h2 h3 HK1 HZ1 hv
          obtain ⟨ao, cap, rfl, hok, hst⟩ := HX2.out
          have HE := Lib.hid (And.intro hok hst)
          clear hok hst HX2
          unfold exV
          go_upto_region 15 with fail
          obtain ⟨g, hg⟩ : ∃ g, w2.heap.size = g := ⟨_, rfl⟩
          generalize hW : World.alloc w2 _ = W2
          have HK3 : Hid (Wk R w W2 r) := Lib.hid (by rw [← hW]; exact HK2.out.alloc _)
          have HB3 : Hid (W2.heap[g]? = some (.cells #[.int .i64 x.op, .int .i64 x.n, .string x.nm, .slice ao x.kids.len cap] 38 (0, 0))) := Lib.hid (by rw [← hW, ← hg]; exact heap_alloc_new _ _)
          have HZ3 : Hid (W2.heap[w.heap.size]? = some (.cells #[.int .i64 0, .int .i64 0, .string ⟨#[]⟩, .slice none 0 0] 38 (0, 0))) := Lib.hid (by rw [← hW]; exact (heap_alloc_old _ _ (Array.getElem?_eq_some_iff.1 HZ2.out).1).trans HZ2.out)
          have HE3 : Hid (EOk x ∧ Stay (w.heap.size + 1) W2 (fun w2 => x.kids.At w2 w2.heap.size ao 0)) := Lib.hid ⟨HE.out.1, by rw [← hW]; exact HE.out.2.next (abv_below (alloc_below _ _))⟩
          have HG : Hid (w.heap.size < g) := Lib.hid (by rw [← hg]; exact (Array.getElem?_eq_some_iff.1 HZ2.out).1)
          have HEX : Hid (StayX (w.heap.size + 1) (some g) W2 (fun w2 => x.kids.At w2 w2.heap.size ao 0)) := Lib.hid (by rw [← hW]; exact stay_new HE.out.2 (abv_below (alloc_below _ _)) (Nat.le_of_eq hg))
          rw [hg]
          clear hW hg HK2 HZ2 HE
          cases h4 : at' [41] r
          · go_wp2_with fail
            refine (accept_no R _ _ ⟨#[41]⟩ rfl h4 HK3.out.rd).mono ?_
            rintro e w3 ⟨rfl, h2⟩
            have HK2 := Lib.hid (HK3.out.below h2)
            have HZ2 := Lib.hid ((h2.block _ (Array.getElem?_eq_some_iff.1 HZ3.out).1).trans HZ3.out)
            clear h2 HK3 HZ3 HB3 HE3
            obtain ⟨⟨y0, y1, y2, y3⟩, f0, f1, f2, f3⟩ := zE_cells HZ2.out
            have hlt2 : w.heap.size < w3.heap.size := (Array.getElem?_eq_some_iff.1 HZ2.out).1
            go_wp2_with fail
            exact bodyPost_ret (v := .tuple #[zE, .bool false]) (by simp [results, Tryz.results134, go_sem, y0, y1, y2, y3, hlt2, zE]) rfl (by rw [close_not h4]; exact no_end (HK2.out.set4 _ _ _ _ _ (Nat.le_refl _)))
          · go_wp2_with fail
            refine (accept_yes R _ _ ⟨#[41]⟩ rfl h4 HK3.out.rd).mono ?_
            rintro e w3 ⟨rfl, h2, h3⟩
            have HK2 := Lib.hid (HK3.out.then h2 h3)
            have HZ2 := Lib.hid ((HK3.out.kept h3 (Nat.le_refl _) (Array.getElem?_eq_some_iff.1 HZ3.out).1).trans HZ3.out)
            have HB2 := Lib.hid ((HK3.out.kept h3 (Nat.le_of_lt HG.out) (Array.getElem?_eq_some_iff.1 HB3.out).1).trans HB3.out)
            have HE : Hid (EOk x ∧ Stay (w.heap.size + 1) w3 (fun w2 => x.kids.At w2 w2.heap.size ao 0)) := Lib.hid ⟨HE3.out.1, HE3.out.2.next (abv_gr h3 (Nat.lt_succ_of_lt HK3.out.lt))⟩
            clear h2 h3 HK3 HZ3 HB3 HE3
            obtain ⟨⟨y0, y1, y2, y3⟩, f0, f1, f2, f3⟩ := zE_cells HZ2.out
            have z0 : w3.cell? ⟨g, 0, none⟩ = some (.int .i64 x.op) := cellb HB2.out rfl
            have z1 : w3.cell? ⟨g, 1, none⟩ = some (.int .i64 x.n) := cellb HB2.out rfl
            have z2 : w3.cell? ⟨g, 2, none⟩ = some (.string x.nm) := cellb HB2.out rfl
            have z3 : w3.cell? ⟨g, 3, none⟩ = some (.slice ao x.kids.len cap) := cellb HB2.out rfl
            have hlt2 : w.heap.size < w3.heap.size := (Array.getElem?_eq_some_iff.1 HZ2.out).1
            have hlt3 : g < w3.heap.size := (Array.getElem?_eq_some_iff.1 HB2.out).1
            go_wp2_with fail
            exact bodyPost_ret (v := .tuple #[exV x.op x.n x.nm x.kids ao cap, .bool true]) (by simp [results, Tryz.results134, go_sem, exV, y0, y1, y2, y3]) rfl (by rw [close_yes h4]; exact cp_end HK2.out HE.out)
    · have HNM : Hid ((tx (nextT ts)).size ≤ maxLen) := Lib.hid (nm_size (ts_name HI.out.ts h1))
      cases h2 : at' [91] ts.tail
      · rw [pe_nm h0 h1 h2]
        clear HIH HF
        go_enter Tryz.func134, Tryz.ntmps134
        go_upto_region 1 with fail
        generalize hW : World.alloc w _ = W
        have HK : Hid (Wk R w W ts) := Lib.hid (by rw [← hW]; exact (Wk.start HI.out).alloc _)
        have HZ : Hid (W.heap[w.heap.size]? = some (.cells #[.int .i64 0, .int .i64 0, .string ⟨#[]⟩, .slice none 0 0] 38 (0, 0))) := Lib.hid (by rw [← hW]; exact heap_alloc_new _ _)
        clear hW
        go_wp2_with fail
        refine (num_no R _ _ h0 HK.out.rd).mono ?_
        rintro e w0 ⟨rfl, h2⟩
        have HK0 := Lib.hid (HK.out.below h2)
        have HZ0 := Lib.hid ((h2.block _ (Array.getElem?_eq_some_iff.1 HZ.out).1).trans HZ.out)
        clear h2 HK HZ
        have HK := HK0
        have HZ := HZ0
        clear HK0 HZ0
        go_wp2_with fail
        refine (name_yes R _ _ h1 HK.out.rd).mono ?_
        rintro e w0 ⟨rfl, h2, h3⟩
        have HK0 := Lib.hid (HK.out.then h2 h3)
        have HZ0 := Lib.hid ((HK.out.kept h3 (Nat.le_refl _) (Array.getElem?_eq_some_iff.1 HZ.out).1).trans HZ.out)
        clear h2 h3 HK HZ
        have HK := HK0
        have HZ := HZ0
        clear HK0 HZ0
        go_wp2_with fail
        refine (accept_no R _ _ ⟨#[91]⟩ rfl h2 HK.out.rd).mono ?_
        rintro e w0 ⟨rfl, h2⟩
        have HK0 := Lib.hid (HK.out.below h2)
        have HZ0 := Lib.hid ((h2.block _ (Array.getElem?_eq_some_iff.1 HZ.out).1).trans HZ.out)
        clear h2 HK HZ
        have HK := HK0
        have HZ := HZ0
        clear HK0 HZ0
        obtain ⟨⟨y0, y1, y2, y3⟩, f0, f1, f2, f3⟩ := zE_cells HZ.out
        go_wp2_with fail
        exact bodyPost_ret (v := .tuple #[exV 2 0 (tx (nextT ts)) .nil none 0, .bool true]) (by simp [results, Tryz.results134, go_sem, y0, y1, y2, y3, exV, ExL.len]) rfl (leaf_end HK.out (by unfold I64; decide) i64_0 HNM.out)
      · have HX : Hid (∀ w, RdI w R ts.tail.tail → Calls Tryz.prog 43 #[.pointer (some ⟨R.br, 0, none⟩)] w (ExpP R w (pe f (.bin 1) ts.tail.tail))) := Lib.hid (expr_of R f ts.tail.tail (HIH.out (.bin 1) ts.tail.tail (by
          have := HF.out; have := name_len h1; have := at_len h2; simp only [enough, wt] at *; omega)))
        rw [pe_ix h0 h1 h2]
        clear HIH HF
        generalize pe f (.bin 1) ts.tail.tail = res at *
        obtain ⟨nm, HNE⟩ : ∃ nm, Hid (tx (nextT ts) = nm) := ⟨_, Lib.hid rfl⟩
        rw [HNE.out] at HNM ⊢
        go_enter Tryz.func134, Tryz.ntmps134
        go_upto_region 1 with fail
        generalize hW : World.alloc w _ = W
        have HK : Hid (Wk R w W ts) := Lib.hid (by rw [← hW]; exact (Wk.start HI.out).alloc _)
        have HZ : Hid (W.heap[w.heap.size]? = some (.cells #[.int .i64 0, .int .i64 0, .string ⟨#[]⟩, .slice none 0 0] 38 (0, 0))) := Lib.hid (by rw [← hW]; exact heap_alloc_new _ _)
        clear hW
        go_wp2_with fail
        refine (num_no R _ _ h0 HK.out.rd).mono ?_
        rintro e w0 ⟨rfl, h2⟩
        have HK0 := Lib.hid (HK.out.below h2)
        have HZ0 := Lib.hid ((h2.block _ (Array.getElem?_eq_some_iff.1 HZ.out).1).trans HZ.out)
        clear h2 HK HZ
        have HK := HK0
        have HZ := HZ0
        clear HK0 HZ0
        go_wp2_with fail
        refine (name_yes R _ _ h1 HK.out.rd).mono ?_
        rw [HNE.out]
        rintro e w0 ⟨rfl, h2, h3⟩
        have HK0 := Lib.hid (HK.out.then h2 h3)
        have HZ0 := Lib.hid ((HK.out.kept h3 (Nat.le_refl _) (Array.getElem?_eq_some_iff.1 HZ.out).1).trans HZ.out)
        clear h2 h3 HK HZ
        have HK := HK0
        have HZ := HZ0
        clear HK0 HZ0
        go_wp2_with fail
        refine (accept_yes R _ _ ⟨#[91]⟩ rfl h2 HK.out.rd).mono ?_
        rintro e w1 ⟨rfl, h2, h3⟩
        have HK1 := Lib.hid (HK.out.then h2 h3)
        have HZ1 := Lib.hid ((HK.out.kept h3 (Nat.le_refl _) (Array.getElem?_eq_some_iff.1 HZ.out).1).trans HZ.out)
        clear h2 h3 HK HZ
        go_wp2_with fail
        refine (HX.out _ HK1.out.rd).mono ?_
        cases res with
        | no r =>
          rintro e w2 ⟨rfl, h2, h3⟩
          have HK2 := Lib.hid (HK1.out.then h2 h3)
          have HZ2 := Lib.hid ((HK1.out.kept h3 (Nat.le_refl _) (Array.getElem?_eq_some_iff.1 HZ1.out).1).trans HZ1.out)
          clear h2 h3 HK1 HZ1
          obtain ⟨⟨y0, y1, y2, y3⟩, f0, f1, f2, f3⟩ := zE_cells HZ2.out
          have hlt2 : w.heap.size < w2.heap.size := (Array.getElem?_eq_some_iff.1 HZ2.out).1
          unfold zE
          go_wp2_with fail
          exact bodyPost_ret (v := .tuple #[zE, .bool false]) (by simp [results, Tryz.results134, go_sem, y0, y1, y2, y3, hlt2, zE]) rfl (no_end ((HK2.out.set4 _ _ _ _ _ (Nat.le_refl _)).alloc _))
        | ok x r =>
          rintro e w2 ⟨v, rfl, hv, h2, h3⟩
          have HK2 := Lib.hid (HK1.out.then h2 h3)
          have HZ2 := Lib.hid ((HK1.out.kept h3 (Nat.le_refl _) (Array.getElem?_eq_some_iff.1 HZ1.out).1).trans HZ1.out)
          have HX2 := Lib.hid (hv.mono (Array.getElem?_eq_some_iff.1 HZ1.out).1)
          clear h2 h3 HK1 HZ1 hv
          obtain ⟨ao, cap, rfl, hok, hst⟩ := HX2.out
          have HE := Lib.hid (And.intro hok hst)
          clear hok hst HX2
          unfold exV
          go_upto_region 9 with fail
          obtain ⟨g, hg⟩ : ∃ g, w2.heap.size = g := ⟨_, rfl⟩
          generalize hW : World.alloc w2 _ = W2
          have HK3 : Hid (Wk R w W2 r) := Lib.hid (by rw [← hW]; exact HK2.out.alloc _)
          have HB3 : Hid (W2.heap[g]? = some (.cells #[.int .i64 x.op, .int .i64 x.n, .string x.nm, .slice ao x.kids.len cap] 38 (0, 0))) := Lib.hid (by rw [← hW, ← hg]; exact heap_alloc_new _ _)
          have HZ3 : Hid (W2.heap[w.heap.size]? = some (.cells #[.int .i64 0, .int .i64 0, .string ⟨#[]⟩, .slice none 0 0] 38 (0, 0))) := Lib.hid (by rw [← hW]; exact (heap_alloc_old _ _ (Array.getElem?_eq_some_iff.1 HZ2.out).1).trans HZ2.out)
          have HE3 : Hid (EOk x ∧ Stay (w.heap.size + 1) W2 (fun w2 => x.kids.At w2 w2.heap.size ao 0)) := Lib.hid ⟨HE.out.1, by rw [← hW]; exact HE.out.2.next (abv_below (alloc_below _ _))⟩
          have HG : Hid (w.heap.size < g) := Lib.hid (by rw [← hg]; exact (Array.getElem?_eq_some_iff.1 HZ2.out).1)
          have HEX : Hid (StayX (w.heap.size + 1) (some g) W2 (fun w2 => x.kids.At w2 w2.heap.size ao 0)) := Lib.hid (by rw [← hW]; exact stay_new HE.out.2 (abv_below (alloc_below _ _)) (Nat.le_of_eq hg))
          rw [hg]
          clear hW hg HK2 HZ2 HE
          cases h4 : at' [93] r
          · go_wp2_with fail
            refine (accept_no R _ _ ⟨#[93]⟩ rfl h4 HK3.out.rd).mono ?_
            rintro e w3 ⟨rfl, h2⟩
            have HK2 := Lib.hid (HK3.out.below h2)
            have HZ2 := Lib.hid ((h2.block _ (Array.getElem?_eq_some_iff.1 HZ3.out).1).trans HZ3.out)
            clear h2 HK3 HZ3 HB3 HE3
            obtain ⟨⟨y0, y1, y2, y3⟩, f0, f1, f2, f3⟩ := zE_cells HZ2.out
            have hlt2 : w.heap.size < w3.heap.size := (Array.getElem?_eq_some_iff.1 HZ2.out).1
            go_wp2_with fail
            exact bodyPost_ret (v := .tuple #[zE, .bool false]) (by simp [results, Tryz.results134, go_sem, y0, y1, y2, y3, hlt2, zE]) rfl (by rw [close_not h4]; exact no_end (HK2.out.set4 _ _ _ _ _ (Nat.le_refl _)))
          · go_wp2_with fail
            refine (accept_yes R _ _ ⟨#[93]⟩ rfl h4 HK3.out.rd).mono ?_
            rintro e w3 ⟨rfl, h2, h3⟩
            have HK2 := Lib.hid (HK3.out.then h2 h3)
            have HZ2 := Lib.hid ((HK3.out.kept h3 (Nat.le_refl _) (Array.getElem?_eq_some_iff.1 HZ3.out).1).trans HZ3.out)
            have HB2 := Lib.hid ((HK3.out.kept h3 (Nat.le_of_lt HG.out) (Array.getElem?_eq_some_iff.1 HB3.out).1).trans HB3.out)
            have HE : Hid (EOk x ∧ Stay (w.heap.size + 1) w3 (fun w2 => x.kids.At w2 w2.heap.size ao 0)) := Lib.hid ⟨HE3.out.1, HE3.out.2.next (abv_gr h3 (Nat.lt_succ_of_lt HK3.out.lt))⟩
            clear h2 h3 HK3 HZ3 HB3 HE3
            obtain ⟨⟨y0, y1, y2, y3⟩, f0, f1, f2, f3⟩ := zE_cells HZ2.out
            have z0 : w3.cell? ⟨g, 0, none⟩ = some (.int .i64 x.op) := cellb HB2.out rfl
            have z1 : w3.cell? ⟨g, 1, none⟩ = some (.int .i64 x.n) := cellb HB2.out rfl
            have z2 : w3.cell? ⟨g, 2, none⟩ = some (.string x.nm) := cellb HB2.out rfl
            have z3 : w3.cell? ⟨g, 3, none⟩ = some (.slice ao x.kids.len cap) := cellb HB2.out rfl
            have hlt2 : w.heap.size < w3.heap.size := (Array.getElem?_eq_some_iff.1 HZ2.out).1
            have hlt3 : g < w3.heap.size := (Array.getElem?_eq_some_iff.1 HB2.out).1
            go_wp2_with fail
            exact bodyPost_ret (v := .tuple #[exV 3 0 nm (.cons x.op x.n x.nm x.kids .nil) (some ⟨w3.heap.size, 0, none⟩) 1, .bool true]) (by simp [results, Tryz.results134, go_sem, exV, ExL.len, y0, y1, y2, y3, hlt2]) rfl (by rw [close_yes h4]; exact ix_end HNM.out HK2.out hlt2 HE.out)
  · have HV : Hid (I64 ((Tk.val (nextT ts) : Nat) : Int)) := Lib.hid (by have := num_le HI.out.ts h0; unfold I64; omega)
    rw [pe_num h0]
    clear HIH HF
    go_enter Tryz.func134, Tryz.ntmps134
    go_upto_region 1 with fail
    generalize hW : World.alloc w _ = W
    have HK : Hid (Wk R w W ts) := Lib.hid (by rw [← hW]; exact (Wk.start HI.out).alloc _)
    have HZ : Hid (W.heap[w.heap.size]? = some (.cells #[.int .i64 0, .int .i64 0, .string ⟨#[]⟩, .slice none 0 0] 38 (0, 0))) := Lib.hid (by rw [← hW]; exact heap_alloc_new _ _)
    clear hW
    go_wp2_with fail
    refine (num_yes R _ _ h0 HK.out.rd).mono ?_
    rintro e w0 ⟨rfl, h2, h3⟩
    have HK0 := Lib.hid (HK.out.then h2 h3)
    have HZ0 := Lib.hid ((HK.out.kept h3 (Nat.le_refl _) (Array.getElem?_eq_some_iff.1 HZ.out).1).trans HZ.out)
    clear h2 h3 HK HZ
    have HK := HK0
    have HZ := HZ0
    clear HK0 HZ0
    obtain ⟨⟨y0, y1, y2, y3⟩, f0, f1, f2, f3⟩ := zE_cells HZ.out
    go_wp2_with fail
    exact bodyPost_ret (v := .tuple #[exV 1 ((Tk.val (nextT ts) : Nat) : Int) ⟨#[]⟩ .nil none 0, .bool true]) (by simp [results, Tryz.results134, go_sem, y0, y1, y2, y3, exV, ExL.len]) rfl (leaf_end HK.out (by unfold I64; decide) HV.out (Nat.zero_le _))
end Go.Proofs.YtommnhglgedflaaGreatDoor
end
section
set_option linter.unusedSimpArgs false
set_option linter.unusedVariables false
namespace Go.Proofs.YtommnhglgedflaaGreatDoor
open Go.RowKit
open Md Pz
theorem stay_twoX {B : Nat} {w : World} {g L : Nat} {op n op' n' : Int} {nm nm' : ByteArray} {kids kids' : ExL} {ao ao' : Option Addr} {cap cap' : Nat} {t : TypeId} {fr : Nat × Nat} (hb : w.heap[g]? = some (.cells (exC op n nm kids ao cap ++ exC op' n' nm' kids' ao' cap').toArray t fr)) (ht : B ≤ g) (hL : g ≠ L) (hok : ExOk op n nm kids) (hk : StayX B (some L) w (fun w2 => kids.At w2 w2.heap.size ao 0)) (hok' : ExOk op' n' nm' kids') (hk' : StayX B (some L) w (fun w2 => kids'.At w2 w2.heap.size ao' 0)) :
    StayX B (some L) w (fun w2 => (ExL.cons op n nm kids (.cons op' n' nm' kids' .nil)).At w2 w2.heap.size (some ⟨g, 0, none⟩) 0) := fun w2 h => by
  have h2 := (h.2 g ht (by simp; exact hL) (Array.getElem?_eq_some_iff.1 hb).1).trans hb
  have hl := (Array.getElem?_eq_some_iff.1 h2).1
  have hc : ∀ j u, (exC op n nm kids ao cap ++ exC op' n' nm' kids' ao' cap').toArray[j]? = some u → w2.cell? ⟨g, j, none⟩ = some u := fun j u hu => cellb h2 hu
  exact ⟨⟨g, 0, ao, cap, rfl, hl, hc 0 _ rfl, hc 1 _ rfl, hc 2 _ rfl, hc 3 _ rfl, hok, hk w2 h⟩, ⟨g, 0, ao', cap', rfl, hl, hc 4 _ rfl, hc 5 _ rfl, hc 6 _ rfl, hc 7 _ rfl, hok', hk' w2 h⟩, trivial⟩
def zC : Array Value := #[.int .i64 0, .int .i64 0, .string ⟨#[]⟩, .slice none 0 0]
/-- What is known at the head of the loop. -/
def BinRel (R : Rp) (w : World) (f lv L : Nat) (res : Res E) (g : Nat) (wr : World) : Prop :=
  ∃ f' l rest ao cap, g = rest.length ∧ f' ≤ f ∧ enough (.lp lv l) rest f' ∧ res = pe f' (.lp lv l) rest ∧ Wk R w wr rest ∧ wr.heap[w.heap.size]? = some (.cells zC 38 (0, 0)) ∧
    wr.heap[L]? = some (.cells (exC l.op l.n l.nm l.kids ao cap).toArray 38 (0, 0)) ∧ EOk l ∧ StayX (w.heap.size + 1) (some L) wr (fun w2 => l.kids.At w2 w2.heap.size ao 0)
theorem exC_cells {w : World} {g : Nat} {x : E} {ao : Option Addr} {cap : Nat} {t : TypeId} (h : w.heap[g]? = some (.cells (exC x.op x.n x.nm x.kids ao cap).toArray t (0, 0))) :
    (w.cell? ⟨g, 0, none⟩ = some (.int .i64 x.op) ∧ w.cell? ⟨g, 1, none⟩ = some (.int .i64 x.n) ∧ w.cell? ⟨g, 2, none⟩ = some (.string x.nm) ∧ w.cell? ⟨g, 3, none⟩ = some (.slice ao x.kids.len cap)) ∧ w.frozen? ⟨g, 0, none⟩ = false ∧ w.frozen? ⟨g, 1, none⟩ = false ∧ w.frozen? ⟨g, 2, none⟩ = false ∧ w.frozen? ⟨g, 3, none⟩ = false :=
  ⟨⟨cellb h rfl, cellb h rfl, cellb h rfl, cellb h rfl⟩, free_blk h, free_blk h, free_blk h, free_blk h⟩
theorem set4_blk {w : World} {g : Nat} {a b c d : Value} {v0 v1 v2 v3 : Value} {t : TypeId} {fr : Nat × Nat} (h : w.heap[g]? = some (.cells #[a, b, c, d] t fr)) : (set4 w g v0 v1 v2 v3).heap[g]? = some (.cells #[v0, v1, v2, v3] t fr) := by
  unfold set4
  rw [setCell_blk (setCell_blk (setCell_blk (setCell_blk h v0) v1) v2) v3]; rfl
theorem set4_far (w : World) {g k : Nat} (v0 v1 v2 v3 : Value) (h : g ≠ k) : (set4 w g v0 v1 v2 v3).heap[k]? = w.heap[k]? := by
  unfold set4
  rw [setCell_far _ _ _ rfl h, setCell_far _ _ _ rfl h, setCell_far _ _ _ rfl h, setCell_far _ _ _ rfl h]
/-- A new left operand. -/
theorem bin_put {R : Rp} {w W : World} {rest : Toks} {l x : E} {op : Int} {g : Nat} {aol aox : Option Addr} {capl capx : Nat} {t : TypeId} (hop : I64 op) (hK : Wk R w W rest) (hg : w.heap.size < g) (hz : W.heap[w.heap.size]? = some (.cells zC t (0, 0))) (hb : W.heap[g]? = some (.cells (exC l.op l.n l.nm l.kids aol capl).toArray t (0, 0)))
    (hl : EOk l ∧ StayX (w.heap.size + 1) (some g) W (fun w2 => l.kids.At w2 w2.heap.size aol 0)) (hx : EOk x ∧ StayX (w.heap.size + 1) (some g) W (fun w2 => x.kids.At w2 w2.heap.size aox 0)) :
    ∀ W', (set4 W g (.int .i64 op) (.int .i64 0) (.string ⟨#[]⟩) (.slice (some ⟨W.heap.size, 0, none⟩) 2 2)).alloc (.cells #[.int .i64 l.op, .int .i64 l.n, .string l.nm, .slice aol l.kids.len capl, .int .i64 x.op, .int .i64 x.n, .string x.nm, .slice aox x.kids.len capx] t) = W' →
    Wk R w W' rest ∧ W'.heap[w.heap.size]? = some (.cells zC t (0, 0)) ∧ W'.heap[g]? = some (.cells (exC (mk2 op l x).op (mk2 op l x).n (mk2 op l x).nm (mk2 op l x).kids (some ⟨W.heap.size, 0, none⟩) 2).toArray t (0, 0)) ∧
      EOk (mk2 op l x) ∧ StayX (w.heap.size + 1) (some g) W' (fun w2 => (mk2 op l x).kids.At w2 w2.heap.size (some ⟨W.heap.size, 0, none⟩) 0) := by
  intro W' hW'
  have hlg := (Array.getElem?_eq_some_iff.1 hb).1
  have hs := set4_size W g (.int .i64 op) (.int .i64 0) (.string ⟨#[]⟩) (.slice (some ⟨W.heap.size, 0, none⟩) 2 2)
  have hk := hK.set4 g (.int .i64 op) (.int .i64 0) (.string ⟨#[]⟩) (.slice (some ⟨W.heap.size, 0, none⟩) 2 2) (Nat.le_of_lt hg)
  have hgb := set4_blk (v0 := .int .i64 op) (v1 := .int .i64 0) (v2 := .string ⟨#[]⟩) (v3 := .slice (some ⟨W.heap.size, 0, none⟩) 2 2) hb
  have hzb := (set4_far W (.int .i64 op) (.int .i64 0) (.string ⟨#[]⟩) (.slice (some ⟨W.heap.size, 0, none⟩) 2 2) (show g ≠ w.heap.size by omega)).trans hz
  have hax : AbvX (w.heap.size + 1) (some g) W (set4 W g (.int .i64 op) (.int .i64 0) (.string ⟨#[]⟩) (.slice (some ⟨W.heap.size, 0, none⟩) 2 2)) := ⟨Nat.le_of_eq hs.symm, fun k _ h2 _ => set4_far W _ _ _ _ (fun e => h2 (by rw [e]))⟩
  generalize set4 W g _ _ _ _ = W1 at *
  subst hW'
  refine ⟨hk.alloc _, (heap_alloc_old _ _ (by omega)).trans hzb, (heap_alloc_old _ _ (by omega)).trans hgb, ⟨hop, i64_0, Nat.zero_le _, by simp [mk2, ExL.len, maxLen]⟩, ?_⟩
  refine stay_twoX (g := W.heap.size) (t := t) (fr := (0, 0)) (by rw [← hs]; exact heap_alloc_new _ _) (by omega) (by omega) hl.1 ((hl.2.next hax).next (abv_below (alloc_below _ _)).x) hx.1 ((hx.2.next hax).next (abv_below (alloc_below _ _)).x)
theorem pe_top {f lv : Nat} {ts : Toks} (h : 5 < lv) : pe (f + 1) (.bin lv) ts = pe f .un ts := by
  conv => lhs; unfold pe
  rw [if_pos h]
theorem pe_bno {f lv : Nat} {ts r : Toks} (h : ¬ 5 < lv) (h1 : pe f (.bin (lv + 1)) ts = .no r) : pe (f + 1) (.bin lv) ts = .no r := by
  conv => lhs; unfold pe
  rw [if_neg h, h1]
theorem pe_bok {f lv : Nat} {ts r : Toks} {l : E} (h : ¬ 5 < lv) (h1 : pe f (.bin (lv + 1)) ts = .ok l r) : pe (f + 1) (.bin lv) ts = pe f (.lp lv l) r := by
  conv => lhs; unfold pe
  rw [if_neg h, h1]
theorem pe_end {f lv : Nat} {ts : Toks} {l : E} (h : (opAt lv ts == 0) = true) : pe (f + 1) (.lp lv l) ts = .ok l ts := by
  conv => lhs; unfold pe
  rw [if_pos h]
theorem pe_lno {f lv : Nat} {ts r : Toks} {l : E} (h : (opAt lv ts == 0) = false) (h1 : pe f (.bin (lv + 1)) ts.tail = .no r) : pe (f + 1) (.lp lv l) ts = .no r := by
  conv => lhs; unfold pe
  rw [if_neg (by rw [h]; decide), h1]
theorem pe_lok {f lv : Nat} {ts r : Toks} {l x : E} (h : (opAt lv ts == 0) = false) (h1 : pe f (.bin (lv + 1)) ts.tail = .ok x r) : pe (f + 1) (.lp lv l) ts = if lv = 3 then .ok (mk2 (opAt lv ts) l x) r else pe f (.lp lv (mk2 (opAt lv ts) l x)) r := by
  conv => lhs; unfold pe
  rw [if_neg (by rw [h]; decide), h1]
set_option maxHeartbeats 4000000 in
set_option maxRecDepth 100000 in
theorem binary_step (R : Rp) (f : Nat) (ts : Toks) (lv : Nat) (hf : enough (.bin lv) ts (f + 1)) (ih : ∀ f', f' ≤ f → ∀ m ts, enough m ts f' → PeSays R f' ts m) : PeSays R (f + 1) ts (.bin lv) := by
  intro hlv w hI
  have HI := Lib.hid hI
  have HIH := Lib.hid ih
  have HF := Lib.hid hf
  clear hI ih hf
  by_cases h5 : 5 < lv
  · have hq : decide ((5 : Int) < (lv : Int)) = true := by rw [decide_eq_true_iff]; omega
    have HX : Hid (∀ w, RdI w R ts → Calls Tryz.prog 113 #[.pointer (some ⟨R.br, 0, none⟩)] w (ExpP R w (pe f .un ts))) := Lib.hid (HIH.out f (Nat.le_refl _) .un ts (by
      have := HF.out; simp only [enough, wt] at *; omega))
    rw [pe_top h5]
    clear HIH HF
    generalize pe f .un ts = res at *
    go_enter Tryz.func82, Tryz.ntmps82
    go_upto_region 1 with fail
    generalize hW : World.alloc w _ = W
    have HK : Hid (Wk R w W ts) := Lib.hid (by rw [← hW]; exact (Wk.start HI.out).alloc _)
    have HZ : Hid (W.heap[w.heap.size]? = some (.cells #[.int .i64 0, .int .i64 0, .string ⟨#[]⟩, .slice none 0 0] 38 (0, 0))) := Lib.hid (by rw [← hW]; exact heap_alloc_new _ _)
    clear hW
    go_wp2_with fail
    refine (HX.out _ HK.out.rd).mono ?_
    cases res with
    | no r =>
      rintro e w2 ⟨rfl, h2, h3⟩
      have HK2 := Lib.hid (HK.out.then h2 h3)
      have HZ2 := Lib.hid ((HK.out.kept h3 (Nat.le_refl _) (Array.getElem?_eq_some_iff.1 HZ.out).1).trans HZ.out)
      clear h2 h3 HK HZ
      obtain ⟨⟨y0, y1, y2, y3⟩, f0, f1, f2, f3⟩ := zE_cells HZ2.out
      unfold zE
      go_wp2_with fail
      exact bodyPost_ret (v := .tuple #[zE, .bool false]) (by simp [results, Tryz.results82, go_sem, y0, y1, y2, y3, zE]) rfl (no_end (HK2.out.set4 _ _ _ _ _ (Nat.le_refl _)))
    | ok x r =>
      rintro e w2 ⟨v, rfl, hv, h2, h3⟩
      have HK2 := Lib.hid (HK.out.then h2 h3)
      have HZ2 := Lib.hid ((HK.out.kept h3 (Nat.le_refl _) (Array.getElem?_eq_some_iff.1 HZ.out).1).trans HZ.out)
      have HX2 := Lib.hid (hv.mono (Array.getElem?_eq_some_iff.1 HZ.out).1)
      clear h2 h3 HK HZ hv
      obtain ⟨ao, cap, rfl, hok, hst⟩ := HX2.out
      have HE := Lib.hid (And.intro hok hst)
      clear hok hst HX2
      obtain ⟨⟨y0, y1, y2, y3⟩, f0, f1, f2, f3⟩ := zE_cells HZ2.out
      unfold exV
      go_wp2_with fail
      exact bodyPost_ret (v := .tuple #[exV x.op x.n x.nm x.kids ao cap, .bool true]) (by simp [results, Tryz.results82, go_sem, exV, y0, y1, y2, y3]) rfl (cp_end HK2.out HE.out)
  · have hq : decide ((5 : Int) < (lv : Int)) = false := by rw [decide_eq_false_iff_not]; omega
    have hlv0 : (0 : Int) ≤ (lv : Int) := by omega
    have hlv6 : (lv : Int) ≤ 6 := by omega
    have HX : Hid (∀ w, RdI w R ts → Calls Tryz.prog 82 #[.pointer (some ⟨R.br, 0, none⟩), .int .i64 ((lv : Int) + 1)] w (ExpP R w (pe f (.bin (lv + 1)) ts))) := Lib.hid (HIH.out f (Nat.le_refl _) (.bin (lv + 1)) ts (by
      have := HF.out; simp only [enough, wt] at *; omega) (by omega))
    have HR : Hid (∀ l r, pe f (.bin (lv + 1)) ts = .ok l r → pe (f + 1) (.bin lv) ts = pe f (.lp lv l) r ∧ r.length < ts.length) := Lib.hid (fun l r h => ⟨pe_bok h5 h, pe_len f (.bin (lv + 1)) ts l r h⟩)
    have HN : Hid (∀ r, pe f (.bin (lv + 1)) ts = .no r → pe (f + 1) (.bin lv) ts = .no r) := Lib.hid (fun r h => pe_bno h5 h)
    generalize pe (f + 1) (.bin lv) ts = spec at *
    generalize pe f (.bin (lv + 1)) ts = res at *
    go_enter Tryz.func82, Tryz.ntmps82
    go_upto_region 1 with fail
    generalize hW : World.alloc w _ = W
    have HK : Hid (Wk R w W ts) := Lib.hid (by rw [← hW]; exact (Wk.start HI.out).alloc _)
    have HZ : Hid (W.heap[w.heap.size]? = some (.cells #[.int .i64 0, .int .i64 0, .string ⟨#[]⟩, .slice none 0 0] 38 (0, 0))) := Lib.hid (by rw [← hW]; exact heap_alloc_new _ _)
    clear hW
    go_wp2_with fail
    refine (HX.out _ HK.out.rd).mono ?_
    have HK1 := HK
    have HZ1 := HZ
    clear HK HZ
    cases res with
    | no r =>
      obtain rfl := HN.out r rfl
      clear HN HR HX
      rintro e w2 ⟨rfl, h2, h3⟩
      have HK2 := Lib.hid (HK1.out.then h2 h3)
      have HZ2 := Lib.hid ((HK1.out.kept h3 (Nat.le_refl _) (Array.getElem?_eq_some_iff.1 HZ1.out).1).trans HZ1.out)
      clear h2 h3 HK1 HZ1
      obtain ⟨⟨y0, y1, y2, y3⟩, f0, f1, f2, f3⟩ := zE_cells HZ2.out
      have hlt2 : w.heap.size < w2.heap.size := (Array.getElem?_eq_some_iff.1 HZ2.out).1
      unfold zE
      go_wp2_with fail
      exact bodyPost_ret (v := .tuple #[zE, .bool false]) (by simp [results, Tryz.results82, go_sem, y0, y1, y2, y3, hlt2, zE]) rfl (no_end ((HK2.out.set4 _ _ _ _ _ (Nat.le_refl _)).alloc _))
    | ok x r =>
      have HS := Lib.hid (HR.out x r rfl)
      clear HR HN HX
      rintro e w2 ⟨v, rfl, hv, h2, h3⟩
      have HK2 := Lib.hid (HK1.out.then h2 h3)
      have HZ2 := Lib.hid ((HK1.out.kept h3 (Nat.le_refl _) (Array.getElem?_eq_some_iff.1 HZ1.out).1).trans HZ1.out)
      have HX2 := Lib.hid (hv.mono (Array.getElem?_eq_some_iff.1 HZ1.out).1)
      clear h2 h3 HK1 HZ1 hv
      obtain ⟨ao, cap, rfl, hok, hst⟩ := HX2.out
      have HE := Lib.hid (And.intro hok hst)
      clear hok hst HX2
      unfold exV
      go_upto_region 4 with fail
      obtain ⟨g, hg⟩ : ∃ g, w2.heap.size = g := ⟨_, rfl⟩
      generalize hW : World.alloc w2 _ = W2
      have HK3 : Hid (Wk R w W2 r) := Lib.hid (by rw [← hW]; exact HK2.out.alloc _)
      have HB3 : Hid (W2.heap[g]? = some (.cells #[.int .i64 x.op, .int .i64 x.n, .string x.nm, .slice ao x.kids.len cap] 38 (0, 0))) := Lib.hid (by rw [← hW, ← hg]; exact heap_alloc_new _ _)
      have HZ3 : Hid (W2.heap[w.heap.size]? = some (.cells #[.int .i64 0, .int .i64 0, .string ⟨#[]⟩, .slice none 0 0] 38 (0, 0))) := Lib.hid (by rw [← hW]; exact (heap_alloc_old _ _ (Array.getElem?_eq_some_iff.1 HZ2.out).1).trans HZ2.out)
      have HE3 : Hid (EOk x ∧ Stay (w.heap.size + 1) W2 (fun w2 => x.kids.At w2 w2.heap.size ao 0)) := Lib.hid ⟨HE.out.1, by rw [← hW]; exact HE.out.2.next (abv_below (alloc_below _ _))⟩
      have HG : Hid (w.heap.size < g) := Lib.hid (by rw [← hg]; exact (Array.getElem?_eq_some_iff.1 HZ2.out).1)
      have HEX : Hid (StayX (w.heap.size + 1) (some g) W2 (fun w2 => x.kids.At w2 w2.heap.size ao 0)) := Lib.hid (by rw [← hW]; exact stay_new HE.out.2 (abv_below (alloc_below _ _)) (Nat.le_of_eq hg))
      rw [hg]
      clear hW hg HK2 HZ2 HE
      go_wp2_with fail
      have HHD : Hid (BinRel R w f lv g spec r.length W2) := Lib.hid ⟨f, x, r, ao, cap, rfl, Nat.le_refl _, by
        have := HF.out; have := HS.out.2; simp only [enough, wt] at *; omega, HS.out.1, HK3.out, HZ3.out, HB3.out, HE3.out.1, HEX.out⟩
      have HG0 := HG
      clear HK3 HZ3 HB3 HE3 HEX HS HI HF HG
      go_loopg [8] r.length (fun gk _ wr => BinRel R w f lv g spec gk wr)
      case atStart => exact HHD.out
      case round =>
        obtain ⟨f', l, rest, aol, capl, rfl, hf', hen, hres, hk, hz, hb, hok, hst⟩ := hrel
        obtain ⟨f', rfl⟩ : ∃ n, f' = n + 1 := ⟨f' - 1, by simp only [enough, wt] at hen; omega⟩
        have HF := Lib.hid (And.intro hf' hen)
        have HS := Lib.hid hres
        have HK := Lib.hid hk
        have HZ := Lib.hid hz
        have HB := Lib.hid hb
        have HE := Lib.hid (And.intro hok hst)
        have HOA := Lib.hid (operator_any R rest wr (lv : Int) hk.rd)
        clear hf' hen hres hk hz hb hok hst HHD
        cases hop : (opAt (lv : Int) rest == 0)
        · have HOP := Lib.hid (opAt_op hop)
          have HNX : Hid (∀ w, RdI w R rest.tail → Calls Tryz.prog 82 #[.pointer (some ⟨R.br, 0, none⟩), .int .i64 ((lv : Int) + 1)] w (ExpP R w (pe f' (.bin (lv + 1)) rest.tail))) := Lib.hid (HIH.out f' (by have := HF.out.1; omega) (.bin (lv + 1)) rest.tail (by
            have := HF.out.2; have := op_len hop; simp only [enough, wt] at *; omega) (by omega))
          have HRN : Hid (∀ r, pe f' (.bin (lv + 1)) rest.tail = .no r → spec = .no r) := Lib.hid (fun r h => HS.out.trans (pe_lno hop h))
          have HRO : Hid (∀ x r, pe f' (.bin (lv + 1)) rest.tail = .ok x r → (spec = if lv = 3 then .ok (mk2 (opAt lv rest) l x) r else pe f' (.lp lv (mk2 (opAt lv rest) l x)) r) ∧ r.length < rest.length) := Lib.hid (fun x r h => ⟨HS.out.trans (pe_lok hop h), by
            have h1 := pe_len f' (.bin (lv + 1)) rest.tail x r h
            have h2 := op_len hop
            have h1 : r.length < rest.tail.length := h1
            omega⟩)
          obtain ⟨t, r1, hr⟩ : ∃ t r1, rest = t :: r1 := by
            cases rest with
            | nil => exact absurd hop (by simp [opAt, nextK])
            | cons t r1 => exact ⟨t, r1, rfl⟩
          have HR1 := Lib.hid hr
          clear hr HS
          generalize opAt (lv : Int) rest = op at *
          generalize pe f' (.bin (lv + 1)) rest.tail = res2 at *
          go_wp2_with fail
          refine HOA.out.mono ?_
          rintro e w3 ⟨rfl, h2⟩
          obtain ⟨pos, hp, c0, c1, f1, HX⟩ := (HK.out.below h2).rd.open
          have HK3 := Lib.hid (HK.out.below h2)
          have HZ3 := Lib.hid ((h2.block _ (Array.getElem?_eq_some_iff.1 HZ.out).1).trans HZ.out)
          have HB3 := Lib.hid ((h2.block _ (Array.getElem?_eq_some_iff.1 HB.out).1).trans HB.out)
          have HE3 : Hid (EOk l ∧ StayX (w.heap.size + 1) (some g) w3 (fun w2 => l.kids.At w2 w2.heap.size aol 0)) := Lib.hid ⟨HE.out.1, HE.out.2.next (abv_below h2).x⟩
          clear h2 HK HZ HB HE HOA
          go_upto_region 10 with fail
          generalize hW : World.setCell w3 _ _ = W4
          have HQ : Hid (RdI W4 R rest.tail ∧ w3.grownBy W4 (some R.br)) := Lib.hid (by rw [← hW, HR1.out]; exact HX.out t r1 HR1.out)
          have HK4 := Lib.hid (HK3.out.then HQ.out.1 HQ.out.2)
          have HZ4 := Lib.hid ((HK3.out.kept HQ.out.2 (Nat.le_refl _) (Array.getElem?_eq_some_iff.1 HZ3.out).1).trans HZ3.out)
          have HB4 := Lib.hid ((HK3.out.kept HQ.out.2 (Nat.le_of_lt HG0.out) (Array.getElem?_eq_some_iff.1 HB3.out).1).trans HB3.out)
          have HE4 : Hid (EOk l ∧ StayX (w.heap.size + 1) (some g) W4 (fun w2 => l.kids.At w2 w2.heap.size aol 0)) := Lib.hid ⟨HE3.out.1, HE3.out.2.next (abv_gr HQ.out.2 (Nat.lt_succ_of_lt HK3.out.lt)).x⟩
          clear hW c0 c1 f1 HX HK3 HZ3 HB3 HE3 HQ
          go_wp2_with fail
          refine (HNX.out _ HK4.out.rd).mono ?_
          cases res2 with
          | no r =>
            have hs := HRN.out r rfl
            subst hs
            clear HRN HRO HNX
            rintro e w5 ⟨rfl, h2, h3⟩
            have HK5 := Lib.hid (HK4.out.then h2 h3)
            have HZ5 := Lib.hid ((HK4.out.kept h3 (Nat.le_refl _) (Array.getElem?_eq_some_iff.1 HZ4.out).1).trans HZ4.out)
            clear h2 h3 HK4 HZ4 HB4 HE4
            obtain ⟨⟨y0, y1, y2, y3⟩, f0, f1, f2, f3⟩ := zE_cells HZ5.out
            have hlt2 : w.heap.size < w5.heap.size := (Array.getElem?_eq_some_iff.1 HZ5.out).1
            unfold zE
            go_wp2_with fail
            exact bodyPost_ret (v := .tuple #[zE, .bool false]) (by simp [results, Tryz.results82, go_sem, y0, y1, y2, y3, hlt2, zE]) rfl (no_end ((HK5.out.set4 _ _ _ _ _ (Nat.le_refl _)).alloc _))
          | ok x2 r2 =>
            have HSP := Lib.hid (HRO.out x2 r2 rfl)
            clear HRN HRO HNX
            rintro e w5 ⟨v, rfl, hv, h2, h3⟩
            have HK5 := Lib.hid (HK4.out.then h2 h3)
            have HZ5 := Lib.hid ((HK4.out.kept h3 (Nat.le_refl _) (Array.getElem?_eq_some_iff.1 HZ4.out).1).trans HZ4.out)
            have HB5 := Lib.hid ((HK4.out.kept h3 (Nat.le_of_lt HG0.out) (Array.getElem?_eq_some_iff.1 HB4.out).1).trans HB4.out)
            have HE5 : Hid (EOk l ∧ StayX (w.heap.size + 1) (some g) w5 (fun w2 => l.kids.At w2 w2.heap.size aol 0)) := Lib.hid ⟨HE4.out.1, HE4.out.2.next (abv_gr h3 (Nat.lt_succ_of_lt HK4.out.lt)).x⟩
            obtain ⟨ao2, cap2, rfl, hok, hst⟩ := hv
            have HX5 : Hid (EOk x2 ∧ StayX (w.heap.size + 1) (some g) w5 (fun w2 => x2.kids.At w2 w2.heap.size ao2 0)) := Lib.hid ⟨hok, stayX_of hst (Nat.le_trans (Nat.succ_le_of_lt (Array.getElem?_eq_some_iff.1 HZ4.out).1) (Nat.le_refl _)) (fun k hk => by injection hk with hk; rw [← hk]; exact (Array.getElem?_eq_some_iff.1 HB4.out).1)⟩
            clear h2 h3 hok hst HK4 HZ4 HB4 HE4
            unfold exV
            go_upto_region 11 with fail
            obtain ⟨g9, hg⟩ : ∃ g, w5.heap.size = g := ⟨_, rfl⟩
            generalize hW : World.alloc w5 _ = W6
            have HK6 : Hid (Wk R w W6 r2) := Lib.hid (by rw [← hW]; exact HK5.out.alloc _)
            have HC6 : Hid (W6.heap[g9]? = some (.cells #[.int .i64 x2.op, .int .i64 x2.n, .string x2.nm, .slice ao2 x2.kids.len cap2] 38 (0, 0))) := Lib.hid (by rw [← hW, ← hg]; exact heap_alloc_new _ _)
            have HZ6 : Hid (W6.heap[w.heap.size]? = some (.cells zC 38 (0, 0))) := Lib.hid (by rw [← hW]; exact (heap_alloc_old _ _ (Array.getElem?_eq_some_iff.1 HZ5.out).1).trans HZ5.out)
            have HB6 : Hid (W6.heap[g]? = some (.cells (exC l.op l.n l.nm l.kids aol capl).toArray 38 (0, 0))) := Lib.hid (by rw [← hW]; exact (heap_alloc_old _ _ (Array.getElem?_eq_some_iff.1 HB5.out).1).trans HB5.out)
            have HE6 : Hid (EOk l ∧ StayX (w.heap.size + 1) (some g) W6 (fun w2 => l.kids.At w2 w2.heap.size aol 0)) := Lib.hid ⟨HE5.out.1, by rw [← hW]; exact HE5.out.2.next (abv_below (alloc_below _ _)).x⟩
            have HX6 : Hid (EOk x2 ∧ StayX (w.heap.size + 1) (some g) W6 (fun w2 => x2.kids.At w2 w2.heap.size ao2 0)) := Lib.hid ⟨HX5.out.1, by rw [← hW]; exact HX5.out.2.next (abv_below (alloc_below _ _)).x⟩
            rw [hg]
            clear hW hg HK5 HZ5 HB5 HE5 HX5
            obtain ⟨⟨z0, z1, z2, z3⟩, d0, d1, d2, d3⟩ := exC_cells HB6.out
            have u0 : W6.cell? ⟨g9, 0, none⟩ = some (.int .i64 x2.op) := cellb HC6.out rfl
            have u1 : W6.cell? ⟨g9, 1, none⟩ = some (.int .i64 x2.n) := cellb HC6.out rfl
            have u2 : W6.cell? ⟨g9, 2, none⟩ = some (.string x2.nm) := cellb HC6.out rfl
            have u3 : W6.cell? ⟨g9, 3, none⟩ = some (.slice ao2 x2.kids.len cap2) := cellb HC6.out rfl
            have hlg : g < W6.heap.size := (Array.getElem?_eq_some_iff.1 HB6.out).1
            go_upto_region 14 with fail
            have HP := Lib.hid (bin_put (t := 38) (capx := cap2) (show I64 op by have := HOP.out; unfold I64; omega) HK6.out HG0.out HZ6.out HB6.out HE6.out HX6.out)
            generalize hW : World.alloc _ _ = W7
            have HP7 := Lib.hid (HP.out W7 hW)
            clear hW HP HK6 HZ6 HB6 HE6 HX6 HC6 z0 z1 z2 z3 d0 d1 d2 d3 u0 u1 u2 u3 hlg
            have HL2 := Lib.hid HSP.out.2
            by_cases h3 : lv = 3
            · have hs := HSP.out.1.trans (if_pos h3)
              subst hs
              clear HSP
              have h3' : ((lv : Int) == 3) = true := by rw [h3]; rfl
              obtain ⟨⟨y0, y1, y2, y3⟩, f0, f1, f2, f3⟩ := zE_cells HP7.out.2.1
              obtain ⟨⟨z0, z1, z2, z3⟩, d0, d1, d2, d3⟩ := exC_cells HP7.out.2.2.1
              go_wp2_with fail
              exact bodyPost_ret (v := .tuple #[exV (mk2 op l x2).op (mk2 op l x2).n (mk2 op l x2).nm (mk2 op l x2).kids (some ⟨W6.heap.size, 0, none⟩) 2, .bool true]) (by simp [results, Tryz.results82, go_sem, exV, y0, y1, y2, y3]) rfl (cp_end HP7.out.1 ⟨HP7.out.2.2.2.1, HP7.out.2.2.2.2.stay⟩)
            · have h3' : ((lv : Int) == 3) = false := by rw [beq_eq_false_iff_ne]; omega
              have HS2 := Lib.hid (HSP.out.1.trans (if_neg h3))
              clear HSP
              go_wp2_with fail
              go_roundg r2.length
              case measure => exact HL2.out
              case rel => exact ⟨f', mk2 op l x2, r2, _, _, rfl, by have := HF.out.1; omega, by
                have h1 := HF.out.2; have h2 := HL2.out; simp only [enough, wt] at *; omega, HS2.out, HP7.out.1, HP7.out.2.1, HP7.out.2.2.1, HP7.out.2.2.2.1, HP7.out.2.2.2.2⟩
        · have HOA2 : Hid (Calls Tryz.prog 114 #[.pointer (some ⟨R.br, 0, none⟩), .int .i64 (lv : Int)] wr fun e w' => e = .returned (.int .i64 0) ∧ Below wr.heap.size wr w') := Lib.hid (by
            have := HOA.out; rw [show opAt (lv : Int) rest = 0 by simpa using hop] at this; exact this)
          have hs := HS.out.trans (pe_end hop)
          subst hs
          clear HS HOA hop
          go_wp2_with fail
          refine HOA2.out.mono ?_
          rintro e w3 ⟨rfl, h2⟩
          have HK3 := Lib.hid (HK.out.below h2)
          have HZ3 := Lib.hid ((h2.block _ (Array.getElem?_eq_some_iff.1 HZ.out).1).trans HZ.out)
          have HB3 := Lib.hid ((h2.block _ (Array.getElem?_eq_some_iff.1 HB.out).1).trans HB.out)
          have HE3 : Hid (EOk l ∧ Stay (w.heap.size + 1) w3 (fun w2 => l.kids.At w2 w2.heap.size aol 0)) := Lib.hid ⟨HE.out.1, (HE.out.2.next (abv_below h2).x).stay⟩
          clear h2 HK HZ HB HE HOA2
          obtain ⟨⟨y0, y1, y2, y3⟩, f0, f1, f2, f3⟩ := zE_cells HZ3.out
          obtain ⟨⟨z0, z1, z2, z3⟩, d0, d1, d2, d3⟩ := exC_cells HB3.out
          go_wp2_with fail
          exact bodyPost_ret (v := .tuple #[exV l.op l.n l.nm l.kids aol capl, .bool true]) (by simp [results, Tryz.results82, go_sem, exV, y0, y1, y2, y3]) rfl (cp_end HK3.out HE3.out)
/-- What reads expressions, for every text. -/
theorem pe_says (R : Rp) : ∀ (f : Nat) (m : M) (ts : Toks), enough m ts f → PeSays R f ts m := by
  intro f
  induction f using Nat.strongRecOn with
  | ind f ih =>
    intro m ts hf
    cases f with
    | zero => exact absurd hf (by unfold enough; omega)
    | succ f =>
      cases m with
      | bin lv => exact binary_step R f ts lv hf (fun f' h m ts hm => ih f' (by omega) m ts hm)
      | un => exact unary_step R f ts hf (fun m ts hm => ih f (by omega) m ts hm)
      | pr => exact primary_step R f ts hf (fun m ts hm => ih f (by omega) m ts hm)
      | lp lv l => exact trivial
theorem expr_any' (R : Rp) (ts : Toks) (w : World) (hI : RdI w R ts) : Calls Tryz.prog 43 #[.pointer (some ⟨R.br, 0, none⟩)] w (ExpP R w (Pz.expr ts)) :=
  expr_of R _ ts (pe_says R _ (.bin 1) ts (expr_enough ts)) w hI
end Go.Proofs.YtommnhglgedflaaGreatDoor
end
