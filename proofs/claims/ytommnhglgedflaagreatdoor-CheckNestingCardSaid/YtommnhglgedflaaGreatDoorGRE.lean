/-
  Contract of the reader's thread.
  Contract of the reader's program.
-/
import Derived.Test.YtommnhglgedflaaGreatDoorGRD
section
set_option linter.unusedSimpArgs false
set_option linter.unusedVariables false
namespace Go.Proofs.YtommnhglgedflaaGreatDoor
open Go.RowKit
open Md Pz
theorem inf_tx0 : (Tryz.prog.info? 9).map (fun i => (i.zero, i.size, i.bytes)) = some (some (.string ⟨#[]⟩), 1, 16) := by kernel_rfl
theorem inf_tx : ∃ i0, Tryz.prog.info? 9 = some i0 ∧ i0.zero = some (.string ⟨#[]⟩) ∧ i0.size = 1 ∧ i0.bytes = 16 := info_parts inf_tx0
theorem fld0 (k : Int) (s : ByteArray) (n : Int) (w : World) : (Instr.field 104 (.agg #[.int .i64 k, .string s, .int .i64 n]) 0).run Tryz.prog w = .ok (.int .i64 k) w := by kernel_rfl
theorem fld1 (k : Int) (s : ByteArray) (n : Int) (w : World) : (Instr.field 104 (.agg #[.int .i64 k, .string s, .int .i64 n]) 1).run Tryz.prog w = .ok (.string s) w := by kernel_rfl
theorem fld2 (k : Int) (s : ByteArray) (n : Int) (w : World) : (Instr.field 104 (.agg #[.int .i64 k, .string s, .int .i64 n]) 2).run Tryz.prog w = .ok (.int .i64 n) w := by kernel_rfl
def thrV (nm : ByteArray) (line : Int) (v b : Value) : Value := .agg #[.string nm, .int .i64 line, v, b]
/-- What a thread's reading leaves. -/
def ThrP (R : Rp) (w : World) (res : Res Th) (e : Ending) (w' : World) : Prop :=
  match res with
  | .ok t r => (∃ x : ThI, x.t = t ∧ e = .returned (.tuple #[.agg (ThI.f x).toArray, .bool true]) ∧ (x.t.Ok ∧ x.t.locs.length ≤ x.capl) ∧ Stay w.heap.size w' (ThI.I x)) ∧ RdI w' R r ∧ w.grownBy w' (some R.br)
  | .no r => (∃ nm line a n c a' n' c', e = .returned (.tuple #[thrV nm line (.slice a n c) (.slice a' n' c'), .bool false])) ∧ RdI w' R r ∧ w.grownBy w' (some R.br)
def zT4 : Array Value := #[.string ⟨#[]⟩, .int .i64 0, .slice none 0 0, .slice none 0 0]
theorem z4t {w : World} {b : Nat} {t : TypeId} (h : w.heap[b]? = some (.cells zT4 t (0, 0))) :
    (w.cell? ⟨b, 0, none⟩ = some (.string ⟨#[]⟩) ∧ w.cell? ⟨b, 1, none⟩ = some (.int .i64 0) ∧ w.cell? ⟨b, 2, none⟩ = some (.slice none 0 0) ∧ w.cell? ⟨b, 3, none⟩ = some (.slice none 0 0)) ∧ ∀ j, w.frozen? ⟨b, j, none⟩ = false :=
  ⟨⟨cellb h rfl, cellb h rfl, cellb h rfl, cellb h rfl⟩, fun _ => free_blk h⟩
/-- A thread under way, its locals a row that grows. -/
structure Ps (R : Rp) (bt B : Nat) (w W : World) (nm : ByteArray) (line : Int) (v : Value) (l : List ByteArray) (rest : Toks) : Prop where
  rd : RdI W R rest
  gr : w.grownBy W (some R.br)
  lt : R.br < w.heap.size ∧ w.heap.size < bt ∧ bt < B ∧ B ≤ W.heap.size
  z : W.heap[w.heap.size]? = some (.cells zT4 63 (0, 0))
  blk : W.heap[bt]? = some (.cells #[.string nm, .int .i64 line, v, .slice none 0 0] 63 (0, 0))
  row : GrowT B W v l
section
variable {R : Rp} {bt B : Nat} {w W W' : World} {nm : ByteArray} {line : Int} {v : Value} {l : List ByteArray} {rest rest' : Toks}
theorem Ps.then (h : Ps R bt B w W nm line v l rest) (h1 : RdI W' R rest') (h2 : W.grownBy W' (some R.br)) : Ps R bt B w W' nm line v l rest' :=
  ⟨h1, grow_tr h.gr h2, ⟨h.lt.1, h.lt.2.1, h.lt.2.2.1, Nat.le_trans h.lt.2.2.2 h2.size⟩, (h2.block _ (Array.getElem?_eq_some_iff.1 h.z).1 (by have := h.lt; simp; omega)).trans h.z, (h2.block _ (Array.getElem?_eq_some_iff.1 h.blk).1 (by have := h.lt; simp; omega)).trans h.blk, h.row.next (abv_gr h2 (by have := h.lt; omega))⟩
theorem Ps.below (h : Ps R bt B w W nm line v l rest) (hb : Below W.heap.size W W') : Ps R bt B w W' nm line v l rest := h.then (h.rd.below hb) (gr_below hb)
theorem Ps.cells (h : Ps R bt B w W nm line v l rest) : W.cell? ⟨bt, 0, none⟩ = some (.string nm) ∧ W.cell? ⟨bt, 1, none⟩ = some (.int .i64 line) ∧ W.cell? ⟨bt, 2, none⟩ = some v ∧ W.cell? ⟨bt, 3, none⟩ = some (.slice none 0 0) ∧ ∀ j, W.frozen? ⟨bt, j, none⟩ = false :=
  ⟨cellb h.blk rfl, cellb h.blk rfl, cellb h.blk rfl, cellb h.blk rfl, fun _ => free_blk h.blk⟩
/-- The name is stored. -/
theorem Ps.name (h : Ps R bt B w W nm line v l rest) (s : ByteArray) : Ps R bt B w (W.setCell ⟨bt, 0, none⟩ (.string s)) s line v l rest :=
  ⟨rd_set h.rd _ _ (by have := h.lt; have := R.b0; show R.B0 ≤ bt; omega) (by have := h.lt; show bt ≠ R.br; omega), gr_set h.gr _ _ (by have := h.lt; show _ ≤ bt; omega), by have := h.lt; simpa [World.setCell] using this, (setCell_far W _ _ rfl (by have := h.lt; show bt ≠ _; omega)).trans h.z, by rw [setCell_blk h.blk]; rfl, h.row.next (abv_set W ⟨bt, 0, none⟩ _ h.lt.2.2.1)⟩
/-- The row is stored. -/
theorem Ps.locs {v' : Value} {l' : List ByteArray} (h : Ps R bt B w W nm line v l rest) (hr : RdI W' R rest) (hg : w.grownBy W' (some R.br)) (hB : Below B W W') (hrow : GrowT B W' v' l') : Ps R bt B w (W'.setCell ⟨bt, 2, none⟩ v') nm line v' l' rest :=
  ⟨rd_set hr _ _ (by have := h.lt; have := R.b0; show R.B0 ≤ bt; omega) (by have := h.lt; show bt ≠ R.br; omega), gr_set hg _ _ (by have := h.lt; show _ ≤ bt; omega), by have h1 := h.lt; have h2 := hB.size; simp [World.setCell]; omega, (setCell_far W' _ _ rfl (by have := h.lt; show bt ≠ _; omega)).trans ((hB.block _ (by have := h.lt; omega)).trans h.z), by rw [setCell_blk ((hB.block _ h.lt.2.2.1).trans h.blk)]; rfl, hrow.next (abv_set W' ⟨bt, 2, none⟩ _ h.lt.2.2.1)⟩
theorem Ps.bodySet (h : Ps R bt B w W nm line v l rest) (b : Value) : ∀ W', W.setCell ⟨bt, 3, none⟩ b = W' → RdI W' R rest ∧ w.grownBy W' (some R.br) ∧ W'.heap[w.heap.size]? = some (.cells zT4 63 (0, 0)) ∧ W'.heap[bt]? = some (.cells #[.string nm, .int .i64 line, v, b] 63 (0, 0)) := by
  intro W' hW
  subst hW
  exact ⟨rd_set h.rd _ _ (by have := h.lt; have := R.b0; show R.B0 ≤ bt; omega) (by have := h.lt; show bt ≠ R.br; omega), gr_set h.gr _ _ (by have := h.lt; show _ ≤ bt; omega), (setCell_far W _ _ rfl (by have := h.lt; show bt ≠ _; omega)).trans h.z, by rw [setCell_blk h.blk]; rfl⟩
theorem Ps.bodyNil (h : Ps R bt B w W nm line v l rest) : Ps R bt B w (W.setCell ⟨bt, 3, none⟩ (.slice none 0 0)) nm line v l rest :=
  ⟨(h.bodySet _ _ rfl).1, (h.bodySet _ _ rfl).2.1, by have := h.lt; simpa [World.setCell] using this, (h.bodySet _ _ rfl).2.2.1, (h.bodySet _ _ rfl).2.2.2, h.row.next (abv_set W ⟨bt, 3, none⟩ _ h.lt.2.2.1)⟩
end
theorem thr_no {R : Rp} {w W : World} {nm : ByteArray} {line : Int} {a a' : Option Addr} {n c n' c' : Nat} {r : Toks} {res : Res Th} (e : res = .no r) (hr : RdI W R r) (hg : w.grownBy W (some R.br)) (hl : R.br < w.heap.size) :
    ThrP R w res (.returned (.tuple #[thrV nm line (.slice a n c) (.slice a' n' c'), .bool false])) (W.setCells w.heap.size 0 [.string nm, .int .i64 line, .slice a n c, .slice a' n' c']) := by
  subst e
  exact ⟨⟨nm, line, a, n, c, a', n', c', rfl⟩, rd_other hr (setCells_grown _ _ _ _) (by have := R.b0; omega) (by omega), gr_setCells hg _ _ _ (Nat.le_refl _)⟩
theorem thr_ok {R : Rp} {w W : World} {x : ThI} {r : Toks} {res : Res Th} {B : Nat} (e : res = .ok x.t r) (hok : x.t.Ok ∧ x.t.locs.length ≤ x.capl) (hst : Stay B W (ThI.I x)) (hB : w.heap.size < B) (hr : RdI W R r) (hg : w.grownBy W (some R.br)) (hl : R.br < w.heap.size) :
    ThrP R w res (.returned (.tuple #[.agg (ThI.f x).toArray, .bool true])) (W.setCells w.heap.size 0 (ThI.f x)) := by
  subst e
  exact ⟨⟨x, rfl, rfl, hok, (hst.next ⟨(setCells_grown w.heap.size _ 0 W).size, fun k h1 h2 => (setCells_grown w.heap.size _ 0 W).block k h2 (by simp; omega)⟩).mono (Nat.le_of_lt hB)⟩, rd_other hr (setCells_grown _ _ _ _) (by have := R.b0; omega) (by omega), gr_setCells hg _ _ _ (Nat.le_refl _)⟩
/-- What is read behind a thread's name and behind its opening parenthesis. -/
def parR (r : Toks) : Res (List ByteArray) := if at' [41] r then .ok [] r.tail else (locsR (r.length + 1) r).close [41]
def bodyR (nm : ByteArray) (line : Int) (l : List ByteArray) (r : Toks) : Res Th := (blk (3 * r.length + 3) r).map fun b => ⟨nm, line, l, b⟩
theorem thrR_eq (ts : Toks) : thrR ts = (nameR ts.tail).bind fun s r => (need [40] r).bind fun _ r => (parR r).bind fun l r => bodyR s (nextL ts) l r := rfl
theorem locsR_no {f : Nat} {ts : Toks} (h : isName ts = false) : locsR (f + 1) ts = .no ts := by unfold locsR; rw [nameR_no h]; rfl
theorem locsR_more {f : Nat} {ts : Toks} (h : isName ts = true) (h1 : at' [44] ts.tail = true) : locsR (f + 1) ts = (locsR f ts.tail.tail).map (tx (nextT ts) :: ·) := by
  conv => lhs; unfold locsR
  rw [nameR_yes h]; show ite _ _ _ = _; rw [if_pos h1]
theorem locsR_last {f : Nat} {ts : Toks} (h : isName ts = true) (h1 : at' [44] ts.tail = false) : locsR (f + 1) ts = .ok [tx (nextT ts)] ts.tail := by
  conv => lhs; unfold locsR
  rw [nameR_yes h]; show ite _ _ _ = _; rw [if_neg (by rw [h1]; decide)]
/-- What is known at the head of the loop. -/
def ThRel (R : Rp) (bt : Nat) (w : World) (nm : ByteArray) (line : Int) (resP : Res (List ByteArray)) (g : Nat) (wr : World) : Prop :=
  ∃ f l rest v, g = rest.length ∧ rest.length < f ∧ resP = (locsR f rest).map (l ++ ·) ∧ Ps R bt (bt + 1) w wr nm line v l rest ∧ l.length + rest.length ≤ 4096 ∧ ∀ s ∈ l, s.size ≤ maxLen
set_option maxHeartbeats 4000000 in
set_option maxRecDepth 100000 in
theorem thread_any (R : Rp) (ts : Toks) (w : World) (hI : RdI w R ts) (hk : at' [116, 104, 114, 101, 97, 100] ts = true) :
    Calls Tryz.prog 68 #[.pointer (some ⟨R.br, 0, none⟩)] w (ThrP R w (thrR ts)) := by
  have HI := Lib.hid hI
  have HL := Lib.hid (line_i64 hI)
  have hlt := hI.lt
  obtain ⟨t0, r0, hr⟩ := at_pos hk
  have HR0 := Lib.hid hr
  rw [thrR_eq]
  obtain ⟨res, HRES⟩ : ∃ res, Hid (((nameR ts.tail).bind fun s r => (need [40] r).bind fun _ r => (parR r).bind fun l r => bodyR s (nextL ts) l r) = res) := ⟨_, Lib.hid rfl⟩
  rw [HRES.out]
  clear hk hr
  have hf2 := fld2
  go_enter Tryz.func68, Tryz.ntmps68
  go_upto_region 1 with fail
  generalize hW : World.alloc w _ = W0
  have HB0 : Hid (Below w.heap.size w W0) := Lib.hid (by rw [← hW]; exact alloc_below _ _)
  have HZ0 : Hid (W0.heap[w.heap.size]? = some (.cells zT4 63 (0, 0))) := Lib.hid (by rw [← hW]; exact heap_alloc_new _ _)
  have HN := Lib.hid (next_any R ts W0 (HI.out.below HB0.out))
  unfold tokV at HN
  clear hW hI
  go_wp2_with fail
  refine HN.out.mono ?_
  rintro e w1 ⟨rfl, h2⟩
  have HB1 := Lib.hid (HB0.out.trans (h2.mono HB0.out.size))
  have HZ1 := Lib.hid ((h2.block _ (Array.getElem?_eq_some_iff.1 HZ0.out).1).trans HZ0.out)
  clear h2 HN HB0 HZ0
  go_upto_region 2 with fail
  obtain ⟨bt, hg⟩ : ∃ g, w1.heap.size = g := ⟨_, rfl⟩
  rw [hg]
  generalize hW : World.alloc w1 _ = W2
  have HB2 : Hid (Below w.heap.size w W2) := Lib.hid (by rw [← hW]; exact HB1.out.alloc HB1.out.size _)
  have HLT : Hid (R.br < w.heap.size ∧ w.heap.size < bt) := Lib.hid ⟨hlt, by rw [← hg]; exact (Array.getElem?_eq_some_iff.1 HZ1.out).1⟩
  have HS2 : Hid (Ps R bt (bt + 1) w W2 ⟨#[]⟩ ((nextL ts : Nat) : Int) (.slice none 0 0) [] ts) := Lib.hid ⟨HI.out.below HB2.out, gr_below HB2.out, ⟨hlt, HLT.out.2, Nat.lt_succ_self _, by rw [← hW]; simp; omega⟩, by rw [← hW]; exact (heap_alloc_old _ _ (Array.getElem?_eq_some_iff.1 HZ1.out).1).trans HZ1.out, by rw [← hW, ← hg]; exact heap_alloc_new _ _, Grow.nil _ _ _ _ _ _⟩
  obtain ⟨pos, hp, q0, q1, fq, HX⟩ := HS2.out.rd.open
  clear hW hg HB1 HZ1 HB2
  go_upto_region 3 with fail
  generalize hW : World.setCell W2 _ _ = W3
  have HQ : Hid (RdI W3 R ts.tail ∧ W2.grownBy W3 (some R.br)) := Lib.hid (by rw [← hW, HR0.out]; exact HX.out t0 r0 HR0.out)
  have HS3 := Lib.hid (HS2.out.then HQ.out.1 HQ.out.2)
  clear hW q0 q1 fq HX HQ HS2
  cases hn : isName ts.tail
  · have HE : Hid (res = .no ts.tail) := Lib.hid (HRES.out.symm.trans (by rw [nameR_no hn]; rfl))
    go_wp2_with fail
    refine (name_no' R _ _ hn HS3.out.rd).mono ?_
    rintro e w4 ⟨rfl, h2⟩
    have HS4 := Lib.hid (HS3.out.below h2)
    clear h2 HS3
    obtain ⟨c0, c1, c2, c3, fc⟩ := HS4.out.cells
    have fc0 := fc 0
    go_upto_region 5 with fail
    generalize hW : World.setCell w4 _ _ = W5
    have HS5 : Hid (Ps R bt (bt + 1) w W5 ⟨#[]⟩ ((nextL ts : Nat) : Int) (.slice none 0 0) [] ts.tail) := Lib.hid (by rw [← hW]; exact HS4.out.name _)
    clear hW c0 c1 c2 c3 fc fc0 HS4
    obtain ⟨c0, c1, c2, c3, fc⟩ := HS5.out.cells
    obtain ⟨⟨y0, y1, y2, y3⟩, fz⟩ := z4t HS5.out.z
    have g0 := fz 0
    have g1 := fz 1
    have g2 := fz 2
    have g3 := fz 3
    clear fc fz
    go_wp2_with fail
    exact bodyPost_ret (v := .tuple #[thrV _ _ _ _, .bool false]) (by simp [results, Tryz.results68, go_sem, thrV, y0, y1, y2, y3]) rfl (thr_no HE.out HS5.out.rd HS5.out.gr HLT.out.1)
  · have HNM : Hid ((tx (nextT ts.tail)).size ≤ maxLen) := Lib.hid (nm_size (ts_name HS3.out.rd.ts hn))
    have HE0 : Hid (res = (need [40] ts.tail.tail).bind fun _ r => (parR r).bind fun l r => bodyR (tx (nextT ts.tail)) (nextL ts) l r) := Lib.hid (HRES.out.symm.trans (by rw [nameR_yes hn]; rfl))
    go_wp2_with fail
    refine (name_yes R _ _ hn HS3.out.rd).mono ?_
    rintro e w4 ⟨rfl, h2, h3⟩
    have HS4 := Lib.hid (HS3.out.then h2 h3)
    clear h2 h3 HS3
    obtain ⟨c0, c1, c2, c3, fc⟩ := HS4.out.cells
    have fc0 := fc 0
    go_upto_region 5 with fail
    generalize hW : World.setCell w4 _ _ = W5
    have HS5 : Hid (Ps R bt (bt + 1) w W5 (tx (nextT ts.tail)) ((nextL ts : Nat) : Int) (.slice none 0 0) [] ts.tail.tail) := Lib.hid (by rw [← hW]; exact HS4.out.name _)
    clear hW c0 c1 c2 c3 fc fc0 HS4
    cases h4 : at' [40] ts.tail.tail
    · have HE := Lib.hid (HE0.out.trans (by rw [need_not h4] : _ = Res.bind (Res.no ts.tail.tail) _))
      go_wp2_with fail
      refine (accept_no R _ _ ⟨#[40]⟩ rfl h4 HS5.out.rd).mono ?_
      rintro e w6 ⟨rfl, h2⟩
      have HS6 := Lib.hid (HS5.out.below h2)
      clear h2 HS5
      obtain ⟨c0, c1, c2, c3, fc⟩ := HS6.out.cells
      obtain ⟨⟨y0, y1, y2, y3⟩, fz⟩ := z4t HS6.out.z
      have g0 := fz 0
      have g1 := fz 1
      have g2 := fz 2
      have g3 := fz 3
      clear fc fz
      go_wp2_with fail
      exact bodyPost_ret (v := .tuple #[thrV _ _ _ _, .bool false]) (by simp [results, Tryz.results68, go_sem, thrV, y0, y1, y2, y3]) rfl (thr_no HE.out HS6.out.rd HS6.out.gr HLT.out.1)
    · have HE1 : Hid (res = (parR ts.tail.tail.tail).bind fun l r => bodyR (tx (nextT ts.tail)) (nextL ts) l r) := Lib.hid (HE0.out.trans (by rw [need_yes h4]; rfl))
      clear HE0
      go_wp2_with fail
      refine (accept_yes R _ _ ⟨#[40]⟩ rfl h4 HS5.out.rd).mono ?_
      rintro e w6 ⟨rfl, h2, h3⟩
      have HS6 := Lib.hid (HS5.out.then h2 h3)
      clear h2 h3 HS5
      obtain ⟨r6, HR6⟩ : ∃ r6, Hid (ts.tail.tail.tail = r6) := ⟨_, Lib.hid rfl⟩
      rw [HR6.out] at HS6 HE1
      cases h5 : at' [41] r6
      · have HE2 : Hid (res = ((locsR (r6.length + 1) r6).close [41]).bind fun l r => bodyR (tx (nextT ts.tail)) (nextL ts) l r) := Lib.hid (HE1.out.trans (by unfold parR; rw [if_neg (by rw [h5]; decide)]))
        obtain ⟨resP, HRP⟩ : ∃ resP, Hid (locsR (r6.length + 1) r6 = resP) := ⟨_, Lib.hid rfl⟩
        rw [HRP.out] at HE2
        obtain ⟨i0, hi, hz0, hz1, hz2⟩ := inf_tx
        have HIN := Lib.hid (And.intro hi (And.intro hz0 (And.intro hz1 hz2)))
        clear hi hz0 hz1 hz2
        go_wp2_with fail
        refine (accept_no R _ _ ⟨#[41]⟩ rfl h5 HS6.out.rd).mono ?_
        rintro e w7 ⟨rfl, h2⟩
        have HHD : Hid (ThRel R bt w (tx (nextT ts.tail)) ((nextL ts : Nat) : Int) resP r6.length w7) := Lib.hid ⟨r6.length + 1, [], r6, _, rfl, Nat.lt_succ_self _, by rw [← HRP.out]; cases locsR (r6.length + 1) r6 <;> rfl, HS6.out.below h2, by have := HS6.out.rd.len; simp; omega, by simp⟩
        clear h2 HS6 HRP
        go_wp2_with fail
        go_loopg [6] r6.length (fun gk _ wr => ThRel R bt w (tx (nextT ts.tail)) ((nextL ts : Nat) : Int) resP gk wr)
        case atStart => exact HHD.out
        case round =>
          obtain ⟨f, l, rest, v, rfl, hf, hres, hs, hll, hsz⟩ := hrel
          obtain ⟨f, rfl⟩ : ∃ n, f = n + 1 := ⟨f - 1, by omega⟩
          have HF := Lib.hid hf
          have HRS := Lib.hid hres
          have HS := Lib.hid hs
          have HLS := Lib.hid hll
          have HSZ := Lib.hid hsz
          obtain ⟨av, cv, hv⟩ := hs.row.len
          clear hf hres hs hll hsz HHD
          subst hv
          cases hm : isName rest
          · have HE9 : Hid (res = .no rest) := Lib.hid (HE2.out.trans (by rw [HRS.out, locsR_no hm]; rfl))
            go_wp2_with fail
            refine (name_no' R _ _ hm HS.out.rd).mono ?_
            rintro e w8 ⟨rfl, h2⟩
            have HS8 := Lib.hid (HS.out.below h2)
            clear h2 HS
            obtain ⟨c0, c1, c2, c3, fc⟩ := HS8.out.cells
            obtain ⟨⟨y0, y1, y2, y3⟩, fz⟩ := z4t HS8.out.z
            have g0 := fz 0
            have g1 := fz 1
            have g2 := fz 2
            have g3 := fz 3
            clear fc fz
            go_wp2_with fail
            exact bodyPost_ret (v := .tuple #[thrV _ _ _ _, .bool false]) (by simp [results, Tryz.results68, go_sem, thrV, y0, y1, y2, y3]) rfl (thr_no HE9.out HS8.out.rd HS8.out.gr HLT.out.1)
          · have HNM2 : Hid ((tx (nextT rest)).size ≤ maxLen) := Lib.hid (nm_size (ts_name HS.out.rd.ts hm))
            have HTL := Lib.hid (name_len hm)
            go_wp2_with fail
            refine (name_yes R _ _ hm HS.out.rd).mono ?_
            rintro e w8 ⟨rfl, h2, h3⟩
            have HS8 := Lib.hid (HS.out.then h2 h3)
            clear h2 h3 HS
            obtain ⟨c0, c1, c2, c3, fc⟩ := HS8.out.cells
            go_upto_region 11 with fail
            obtain ⟨s0, HS0⟩ : ∃ s0, Hid (tx (nextT rest) = s0) := ⟨_, Lib.hid rfl⟩
            rw [HS0.out] at HNM2 ⊢
            have HGA := Lib.hid (HS8.out.row.next (abv_below (alloc_below w8 (.cells (txF s0).toArray 9))))
            have HNC := Lib.hid (new_cells (heap_alloc_new w8 (.cells (txF s0).toArray 9)))
            obtain ⟨hi, hz0, hz1, hz2⟩ := HIN.out
            have hbs : bt + 1 ≤ w8.heap.size + 1 := Nat.le_succ_of_le HS8.out.lt.2.2.2
            have hkl : l.length + 1 ≤ maxLen := by have := HLS.out; unfold maxLen; omega
            have hk16 : (l.length + 1) * 16 ≤ 140737488355328 := by have := HLS.out; omega
            have fc2 := fc 2
            clear fc
            go_wp2_with (at_builtin; refine wpList_append_lies _ rfl _ _ 60 rfl (bt + 1) 9 i0 _ 1 16 Tryz.underlying60 hi hz0 hz1 hz2 rfl (by decide) _ _ _ rfl HGA.out.own ⟨w8.heap.size, 0, none⟩ 1 1 (txF s0) rfl rfl HNC.out (by simp [txF, Value.oneCell']) (by decide) hkl hk16 (by simpa using hbs) _ rfl ?_)
            clear hi hz0 hz1 hz2
            intro g cap w9 hown hgr hmv hlt2
            have HLO : Hid (∀ k, (Value.slice av l.length cv).ownBlock = some k → bt + 1 ≤ k) := Lib.hid (fun k hk => (HS8.out.row.lt k hk).1)
            have HB9 : Hid (Below (bt + 1) (w8.alloc (.cells (txF s0).toArray 9)) w9) := Lib.hid (below_of_gr hgr HLO.out (by simpa using hbs))
            have HB8 : Hid (Below (bt + 1) w8 w9) := Lib.hid (((alloc_below w8 (.cells (txF s0).toArray 9)).mono HS8.out.lt.2.2.2).trans HB9.out)
            have HX9 : Hid (StayX (bt + 1) (Value.slice av l.length cv).ownBlock (w8.alloc (.cells (txF s0).toArray 9)) (fun _ => True)) := Lib.hid (fun _ _ => trivial)
            have HG9 := Lib.hid (HGA.out.push (x := s0) HX9.out rfl hown hgr (by simpa using hmv))
            have HR9 : Hid (RdI w9 R rest.tail) := Lib.hid (rd_own (rd_alloc HS8.out.rd _) hgr (fun k hk => by have h1 := HLO.out k hk; have h2 := HLT.out; have h3 := R.b0; omega))
            have HGR9 : Hid (w.grownBy w9 (some R.br)) := Lib.hid (gr_own (gr_alloc HS8.out.gr _) (HB9.out.mono (by have := HLT.out; omega)))
            have hblk9 : w9.heap[bt]? = some (.cells #[.string (tx (nextT ts.tail)), .int .i64 ((nextL ts : Nat) : Int), .slice av l.length cv, .slice none 0 0] 63 (0, 0)) := (HB8.out.block _ (Nat.lt_succ_self _)).trans HS8.out.blk
            have c2 : w9.cell? ⟨bt, 2, none⟩ = some (.slice av l.length cv) := cellb hblk9 rfl
            have f2 : w9.frozen? ⟨bt, 2, none⟩ = false := free_blk hblk9
            clear hown hgr hmv hlt2 hbs hkl hk16 HX9 HNC HGA HB9 hblk9 fc2
            go_upto_region 12 with fail
            generalize hW : World.setCell w9 _ _ = W10
            have HS10 : Hid (Ps R bt (bt + 1) w W10 (tx (nextT ts.tail)) ((nextL ts : Nat) : Int) (.slice (some ⟨g, 0, none⟩) (l.length + 1) cap) (l ++ [s0]) rest.tail) := Lib.hid (by rw [← hW]; exact HS8.out.locs HR9.out HGR9.out HB8.out HG9.out)
            have HNL : Hid (∀ s ∈ l ++ [s0], s.size ≤ maxLen) := Lib.hid (fun y hy => by
              rcases List.mem_append.1 hy with hy | hy
              · exact HSZ.out y hy
              · rw [List.mem_singleton.1 hy]; exact HNM2.out)
            clear hW c2 f2 HS8 HR9 HGR9 HB8 HG9 HLO
            cases h6 : at' [44] rest.tail
            · have HRL : Hid (resP = .ok (l ++ [s0]) rest.tail) := Lib.hid (HRS.out.trans (by rw [locsR_last hm h6, HS0.out]; rfl))
              go_wp2_with fail
              refine (accept_no R _ _ ⟨#[44]⟩ rfl h6 HS10.out.rd).mono ?_
              rintro e w11 ⟨rfl, h2⟩
              have HS11 := Lib.hid (HS10.out.below h2)
              clear h2 HS10
              cases h7 : at' [41] rest.tail
              · have HE9 : Hid (res = .no rest.tail) := Lib.hid (HE2.out.trans (by rw [HRL.out, close_not' h7]; rfl))
                go_wp2_with fail
                refine (accept_no R _ _ ⟨#[41]⟩ rfl h7 HS11.out.rd).mono ?_
                rintro e w12 ⟨rfl, h2⟩
                have HS12 := Lib.hid (HS11.out.below h2)
                clear h2 HS11
                obtain ⟨c0, c1, c2, c3, fc⟩ := HS12.out.cells
                obtain ⟨⟨y0, y1, y2, y3⟩, fz⟩ := z4t HS12.out.z
                have g0 := fz 0
                have g1 := fz 1
                have g2 := fz 2
                have g3 := fz 3
                clear fc fz
                go_wp2_with fail
                exact bodyPost_ret (v := .tuple #[thrV _ _ _ _, .bool false]) (by simp [results, Tryz.results68, go_sem, thrV, y0, y1, y2, y3]) rfl (thr_no HE9.out HS12.out.rd HS12.out.gr HLT.out.1)
              · have HE9 : Hid (res = bodyR (tx (nextT ts.tail)) ((nextL ts : Nat) : Int) (l ++ [s0]) rest.tail.tail) := Lib.hid (HE2.out.trans (by rw [HRL.out, close_yes' h7]; rfl))
                have HLL : Hid ((l ++ [s0]).length ≤ maxLen) := Lib.hid (by have := HLS.out; simp [maxLen]; omega)
                have HLE : Hid (l.length + 1 = (l ++ [s0]).length) := Lib.hid (by simp)
                go_wp2_with fail
                refine (accept_yes R _ _ ⟨#[41]⟩ rfl h7 HS11.out.rd).mono ?_
                rintro e w12 ⟨rfl, h2, h3⟩
                have HS12 := Lib.hid (HS11.out.then h2 h3)
                clear h2 h3 HS11
                obtain ⟨l', HL'⟩ : ∃ l', Hid ((l ++ [s0]) = l') := ⟨_, Lib.hid rfl⟩
                have HNX : Hid (∀ s ∈ (l ++ [s0]), s.size ≤ maxLen) := Lib.hid HNL.out
                have HEX := Lib.hid HE9.out
                obtain ⟨v', HV'⟩ : ∃ v', Hid (GrowT (bt + 1) _ v' (l ++ [s0]) ∧ Ps R bt (bt + 1) w _ (tx (nextT ts.tail)) ((nextL ts : Nat) : Int) v' (l ++ [s0]) rest.tail.tail) := ⟨_, Lib.hid ⟨HS12.out.row, HS12.out⟩⟩
                clear HS12
                have HSX := Lib.hid HV'.out.2
                clear HV'
                rw [HL'.out] at HNX HEX HSX HLL
                have HCB : Hid (∀ W, RdI W R rest.tail.tail → Calls Tryz.prog 109 #[.pointer (some ⟨R.br, 0, none⟩)] W (BlkP R W (blk (3 * (rest.tail.tail).length + 3) rest.tail.tail))) := Lib.hid (fun W h => block_any R _ _ (by omega) W h)
                have HEB : Hid (∀ q, blk (3 * (rest.tail.tail).length + 3) rest.tail.tail = .no q → bodyR (tx (nextT ts.tail)) ((nextL ts : Nat) : Int) l' rest.tail.tail = .no q) := Lib.hid (fun q h => by unfold bodyR; rw [h]; rfl)
                have HEC : Hid (∀ b q, blk (3 * (rest.tail.tail).length + 3) rest.tail.tail = .ok b q → bodyR (tx (nextT ts.tail)) ((nextL ts : Nat) : Int) l' rest.tail.tail = .ok ⟨tx (nextT ts.tail), ((nextL ts : Nat) : Int), l', b⟩ q) := Lib.hid (fun b q h => by unfold bodyR; rw [h]; rfl)
                generalize blk (3 * (rest.tail.tail).length + 3) rest.tail.tail = resb at *
                go_wp2_with fail
                refine (HCB.out _ HSX.out.rd).mono ?_
                cases resb with
                | no q =>
                  rintro e w8 ⟨rfl, h2, h3⟩
                  have HE9 := Lib.hid (HEX.out.trans (HEB.out q rfl))
                  obtain ⟨av, cv, hv⟩ := HSX.out.row.len
                  subst hv
                  have HS8 := Lib.hid (HSX.out.then h2 h3)
                  clear h2 h3 HEB HEC HCB
                  obtain ⟨c0, c1, c2, c3, fc⟩ := HS8.out.cells
                  have fc3 := fc 3
                  go_upto_region 16 with fail
                  generalize hW : World.setCell w8 _ _ = W9
                  have HS9 : Hid (Ps R bt (bt + 1) w W9 _ _ _ _ q) := Lib.hid (by rw [← hW]; exact HS8.out.bodyNil)
                  clear hW c0 c1 c2 c3 fc fc3 HS8
                  obtain ⟨c0, c1, c2, c3, fc⟩ := HS9.out.cells
                  obtain ⟨⟨y0, y1, y2, y3⟩, fz⟩ := z4t HS9.out.z
                  have g0 := fz 0
                  have g1 := fz 1
                  have g2 := fz 2
                  have g3 := fz 3
                  clear fc fz
                  go_wp2_with fail
                  exact bodyPost_ret (v := .tuple #[thrV _ _ _ _, .bool false]) (by simp [results, Tryz.results68, go_sem, thrV, y0, y1, y2, y3]) rfl (thr_no HE9.out HS9.out.rd HS9.out.gr HLT.out.1)
                | ok b q =>
                  rintro e w8 ⟨⟨ao, cap, rfl, hl, hst⟩, h2, h3⟩
                  have HE9 := Lib.hid (HEX.out.trans (HEC.out b q rfl))
                  have HS8 := Lib.hid (HSX.out.then h2 h3)
                  have HB8 : Hid (b.len ≤ maxLen ∧ Stay (bt + 1) w8 (fun w2 => b.At w2 w2.heap.size ao 0)) := Lib.hid ⟨Nat.le_trans hl (by unfold maxLen; decide), hst.mono HSX.out.lt.2.2.2⟩
                  clear h2 h3 hl hst HEB HEC HCB
                  obtain ⟨aol, capl, hv, hcl, htx⟩ := HS8.out.row.says HNX.out
                  have HV := Lib.hid hv
                  have HTX := Lib.hid (And.intro hcl htx)
                  clear hv hcl htx
                  obtain ⟨c0, c1, c2, c3, fc⟩ := HS8.out.cells
                  have fc3 := fc 3
                  go_upto_region 16 with fail
                  generalize hW : World.setCell w8 _ _ = W9
                  have HQ9 := Lib.hid (HS8.out.bodySet (.slice ao b.len cap) W9 hW)
                  have HA9 : Hid (Abv (bt + 1) w8 W9) := Lib.hid (by rw [← hW]; exact abv_set w8 ⟨bt, 3, none⟩ _ (Nat.lt_succ_self _))
                  clear hW c0 c1 c2 c3 fc fc3
                  have e0 : W9.cell? ⟨bt, 0, none⟩ = some (.string (tx (nextT ts.tail))) := cellb HQ9.out.2.2.2 rfl
                  have e1 : W9.cell? ⟨bt, 1, none⟩ = some (.int .i64 ((nextL ts : Nat) : Int)) := cellb HQ9.out.2.2.2 rfl
                  have e2 : W9.cell? ⟨bt, 2, none⟩ = some (.slice aol (l').length capl) := (cellb HQ9.out.2.2.2 rfl).trans (congrArg some HV.out)
                  have e3 : W9.cell? ⟨bt, 3, none⟩ = some (.slice ao b.len cap) := cellb HQ9.out.2.2.2 rfl
                  obtain ⟨⟨y0, y1, y2, y3⟩, fz⟩ := z4t HQ9.out.2.2.1
                  have g0 := fz 0
                  have g1 := fz 1
                  have g2 := fz 2
                  have g3 := fz 3
                  clear fz
                  go_wp2_with fail
                  exact bodyPost_ret (v := .tuple #[.agg (ThI.f ⟨⟨tx (nextT ts.tail), ((nextL ts : Nat) : Int), l', b⟩, aol, capl, ao, cap⟩).toArray, .bool true]) (by simp [results, Tryz.results68, go_sem, ThI.f, y0, y1, y2, y3]) rfl (thr_ok (x := ⟨⟨tx (nextT ts.tail), ((nextL ts : Nat) : Int), l', b⟩, aol, capl, ao, cap⟩) (B := bt + 1) HE9.out ⟨⟨HNM.out, HL.out, HLL.out, HB8.out.1⟩, HTX.out.1⟩ (fun w2 h2 => ⟨HTX.out.2 w2 (HA9.out.trans h2), HB8.out.2 w2 (HA9.out.trans h2)⟩) (by have := HLT.out; omega) HQ9.out.1 HQ9.out.2.1 HLT.out.1)
            · have HRL : Hid (resP = (locsR f rest.tail.tail).map ((l ++ [s0]) ++ ·)) := Lib.hid (HRS.out.trans (by rw [locsR_more hm h6, HS0.out, map_map']; exact map_eq' (fun a => by simp)))
              go_wp2_with fail
              refine (accept_yes R _ _ ⟨#[44]⟩ rfl h6 HS10.out.rd).mono ?_
              rintro e w11 ⟨rfl, h2, h3⟩
              have HS11 := Lib.hid (HS10.out.then h2 h3)
              have HT2 := Lib.hid (at_len h6)
              clear h2 h3 HS10
              go_wp2_with fail
              go_roundg rest.tail.tail.length
              case measure => have := HTL.out; have := HT2.out; omega
              case rel => exact ⟨f, l ++ [s0], rest.tail.tail, _, rfl, by have := HF.out; have := HTL.out; have := HT2.out; omega, HRL.out, HS11.out, by have := HLS.out; have := HTL.out; have := HT2.out; simp only [List.length_append, List.length_singleton]; omega, HNL.out⟩
      · have HE2 : Hid (res = bodyR (tx (nextT ts.tail)) ((nextL ts : Nat) : Int) [] r6.tail) := Lib.hid (HE1.out.trans (by unfold parR; rw [if_pos h5]; rfl))
        have HLL : Hid (([] : List ByteArray).length ≤ maxLen) := Lib.hid (Nat.zero_le _)
        go_wp2_with fail
        refine (accept_yes R _ _ ⟨#[41]⟩ rfl h5 HS6.out.rd).mono ?_
        rintro e w7 ⟨rfl, h2, h3⟩
        have HS7 := Lib.hid (HS6.out.then h2 h3)
        clear h2 h3 HS6
        obtain ⟨l', HL'⟩ : ∃ l', Hid (([] : List ByteArray) = l') := ⟨_, Lib.hid rfl⟩
        have HNX : Hid (∀ s ∈ ([] : List ByteArray), s.size ≤ maxLen) := Lib.hid (by simp)
        have HEX := Lib.hid HE2.out
        obtain ⟨v', HV'⟩ : ∃ v', Hid (GrowT (bt + 1) _ v' ([] : List ByteArray) ∧ Ps R bt (bt + 1) w _ (tx (nextT ts.tail)) ((nextL ts : Nat) : Int) v' ([] : List ByteArray) r6.tail) := ⟨_, Lib.hid ⟨HS7.out.row, HS7.out⟩⟩
        clear HS7
        have HSX := Lib.hid HV'.out.2
        clear HV'
        rw [HL'.out] at HNX HEX HSX HLL
        have HCB : Hid (∀ W, RdI W R r6.tail → Calls Tryz.prog 109 #[.pointer (some ⟨R.br, 0, none⟩)] W (BlkP R W (blk (3 * (r6.tail).length + 3) r6.tail))) := Lib.hid (fun W h => block_any R _ _ (by omega) W h)
        have HEB : Hid (∀ q, blk (3 * (r6.tail).length + 3) r6.tail = .no q → bodyR (tx (nextT ts.tail)) ((nextL ts : Nat) : Int) l' r6.tail = .no q) := Lib.hid (fun q h => by unfold bodyR; rw [h]; rfl)
        have HEC : Hid (∀ b q, blk (3 * (r6.tail).length + 3) r6.tail = .ok b q → bodyR (tx (nextT ts.tail)) ((nextL ts : Nat) : Int) l' r6.tail = .ok ⟨tx (nextT ts.tail), ((nextL ts : Nat) : Int), l', b⟩ q) := Lib.hid (fun b q h => by unfold bodyR; rw [h]; rfl)
        generalize blk (3 * (r6.tail).length + 3) r6.tail = resb at *
        go_wp2_with fail
        refine (HCB.out _ HSX.out.rd).mono ?_
        cases resb with
        | no q =>
          rintro e w8 ⟨rfl, h2, h3⟩
          have HE9 := Lib.hid (HEX.out.trans (HEB.out q rfl))
          obtain ⟨av, cv, hv⟩ := HSX.out.row.len
          subst hv
          have HS8 := Lib.hid (HSX.out.then h2 h3)
          clear h2 h3 HEB HEC HCB
          obtain ⟨c0, c1, c2, c3, fc⟩ := HS8.out.cells
          have fc3 := fc 3
          go_upto_region 16 with fail
          generalize hW : World.setCell w8 _ _ = W9
          have HS9 : Hid (Ps R bt (bt + 1) w W9 _ _ _ _ q) := Lib.hid (by rw [← hW]; exact HS8.out.bodyNil)
          clear hW c0 c1 c2 c3 fc fc3 HS8
          obtain ⟨c0, c1, c2, c3, fc⟩ := HS9.out.cells
          obtain ⟨⟨y0, y1, y2, y3⟩, fz⟩ := z4t HS9.out.z
          have g0 := fz 0
          have g1 := fz 1
          have g2 := fz 2
          have g3 := fz 3
          clear fc fz
          go_wp2_with fail
          exact bodyPost_ret (v := .tuple #[thrV _ _ _ _, .bool false]) (by simp [results, Tryz.results68, go_sem, thrV, y0, y1, y2, y3]) rfl (thr_no HE9.out HS9.out.rd HS9.out.gr HLT.out.1)
        | ok b q =>
          rintro e w8 ⟨⟨ao, cap, rfl, hl, hst⟩, h2, h3⟩
          have HE9 := Lib.hid (HEX.out.trans (HEC.out b q rfl))
          have HS8 := Lib.hid (HSX.out.then h2 h3)
          have HB8 : Hid (b.len ≤ maxLen ∧ Stay (bt + 1) w8 (fun w2 => b.At w2 w2.heap.size ao 0)) := Lib.hid ⟨Nat.le_trans hl (by unfold maxLen; decide), hst.mono HSX.out.lt.2.2.2⟩
          clear h2 h3 hl hst HEB HEC HCB
          obtain ⟨aol, capl, hv, hcl, htx⟩ := HS8.out.row.says HNX.out
          have HV := Lib.hid hv
          have HTX := Lib.hid (And.intro hcl htx)
          clear hv hcl htx
          obtain ⟨c0, c1, c2, c3, fc⟩ := HS8.out.cells
          have fc3 := fc 3
          go_upto_region 16 with fail
          generalize hW : World.setCell w8 _ _ = W9
          have HQ9 := Lib.hid (HS8.out.bodySet (.slice ao b.len cap) W9 hW)
          have HA9 : Hid (Abv (bt + 1) w8 W9) := Lib.hid (by rw [← hW]; exact abv_set w8 ⟨bt, 3, none⟩ _ (Nat.lt_succ_self _))
          clear hW c0 c1 c2 c3 fc fc3
          have e0 : W9.cell? ⟨bt, 0, none⟩ = some (.string (tx (nextT ts.tail))) := cellb HQ9.out.2.2.2 rfl
          have e1 : W9.cell? ⟨bt, 1, none⟩ = some (.int .i64 ((nextL ts : Nat) : Int)) := cellb HQ9.out.2.2.2 rfl
          have e2 : W9.cell? ⟨bt, 2, none⟩ = some (.slice aol (l').length capl) := (cellb HQ9.out.2.2.2 rfl).trans (congrArg some HV.out)
          have e3 : W9.cell? ⟨bt, 3, none⟩ = some (.slice ao b.len cap) := cellb HQ9.out.2.2.2 rfl
          obtain ⟨⟨y0, y1, y2, y3⟩, fz⟩ := z4t HQ9.out.2.2.1
          have g0 := fz 0
          have g1 := fz 1
          have g2 := fz 2
          have g3 := fz 3
          clear fz
          go_wp2_with fail
          exact bodyPost_ret (v := .tuple #[.agg (ThI.f ⟨⟨tx (nextT ts.tail), ((nextL ts : Nat) : Int), l', b⟩, aol, capl, ao, cap⟩).toArray, .bool true]) (by simp [results, Tryz.results68, go_sem, ThI.f, y0, y1, y2, y3]) rfl (thr_ok (x := ⟨⟨tx (nextT ts.tail), ((nextL ts : Nat) : Int), l', b⟩, aol, capl, ao, cap⟩) (B := bt + 1) HE9.out ⟨⟨HNM.out, HL.out, HLL.out, HB8.out.1⟩, HTX.out.1⟩ (fun w2 h2 => ⟨HTX.out.2 w2 (HA9.out.trans h2), HB8.out.2 w2 (HA9.out.trans h2)⟩) (by have := HLT.out; omega) HQ9.out.1 HQ9.out.2.1 HLT.out.1)
end Go.Proofs.YtommnhglgedflaaGreatDoor
end
section
set_option linter.unusedSimpArgs false
set_option linter.unusedVariables false
namespace Go.Proofs.YtommnhglgedflaaGreatDoor
open Go.RowKit
open Md Pz
theorem inf_de0 : (Tryz.prog.info? 58).map (fun i => (i.zero, i.size, i.bytes)) = some (some (.agg zD6), 6, 64) := by kernel_rfl
theorem inf_de : ∃ i0, Tryz.prog.info? 58 = some i0 ∧ i0.zero = some (.agg zD6) ∧ i0.size = 6 ∧ i0.bytes = 64 := info_parts inf_de0
theorem inf_th0 : (Tryz.prog.info? 63).map (fun i => (i.zero, i.size, i.bytes)) = some (some (.agg zT4), 4, 72) := by kernel_rfl
theorem inf_th : ∃ i0, Tryz.prog.info? 63 = some i0 ∧ i0.zero = some (.agg zT4) ∧ i0.size = 4 ∧ i0.bytes = 72 := info_parts inf_th0
/-- What a program's reading leaves. -/
def PrgP (R : Rp) (w : World) (res : Res Pr) (e : Ending) (w' : World) : Prop :=
  match res with
  | .ok p r => (∃ aoD capD aoT capT, e = .returned (.tuple #[.agg #[.slice aoD p.ds.length capD, .slice aoT p.ts.length capT], .bool (!p.ts.isEmpty)]) ∧ (p.ds.length ≤ 4096 ∧ p.ts.length ≤ 4096 ∧ p.ds.length ≤ capD ∧ p.ts.length ≤ capT) ∧ Stay w.heap.size w' (fun w2 => DeAt w2 w2.heap.size p.ds aoD 0 ∧ ThAt w2 w2.heap.size p.ts aoT 0)) ∧ RdI w' R r ∧ w.grownBy w' (some R.br)
  | .no r => (∃ a n c a' n' c', e = .returned (.tuple #[.agg #[.slice a n c, .slice a' n' c'], .bool false])) ∧ RdI w' R r ∧ w.grownBy w' (some R.br)
def zP2 : Array Value := #[.slice none 0 0, .slice none 0 0]
/-- A program under way. -/
structure Pg (R : Rp) (bp : Nat) (w W : World) (vD vT : Value) (rest : Toks) : Prop where
  rd : RdI W R rest
  gr : w.grownBy W (some R.br)
  lt : R.br < w.heap.size ∧ w.heap.size < bp ∧ bp < W.heap.size
  z : W.heap[w.heap.size]? = some (.cells zP2 26 (0, 0))
  blk : W.heap[bp]? = some (.cells #[vD, vT] 26 (0, 0))
section
variable {R : Rp} {bp : Nat} {w W W' : World} {vD vT : Value} {rest rest' : Toks}
theorem Pg.then (h : Pg R bp w W vD vT rest) (h1 : RdI W' R rest') (h2 : W.grownBy W' (some R.br)) : Pg R bp w W' vD vT rest' :=
  ⟨h1, grow_tr h.gr h2, ⟨h.lt.1, h.lt.2.1, Nat.lt_of_lt_of_le h.lt.2.2 h2.size⟩, (h2.block _ (Array.getElem?_eq_some_iff.1 h.z).1 (by have := h.lt; simp; omega)).trans h.z, (h2.block _ (Array.getElem?_eq_some_iff.1 h.blk).1 (by have := h.lt; simp; omega)).trans h.blk⟩
theorem Pg.below (h : Pg R bp w W vD vT rest) (hb : Below W.heap.size W W') : Pg R bp w W' vD vT rest := h.then (h.rd.below hb) (gr_below hb)
theorem Pg.put (h : Pg R bp w W vD vT rest) (hr : RdI W' R rest) (hg : w.grownBy W' (some R.br)) (hB : Below (bp + 1) W W') (j : Nat) (v vD' vT' : Value) (hy : (#[vD, vT] : Array Value).setIfInBounds j v = #[vD', vT']) : Pg R bp w (W'.setCell ⟨bp, j, none⟩ v) vD' vT' rest :=
  ⟨rd_set hr _ _ (by have := h.lt; have := R.b0; show R.B0 ≤ bp; omega) (by have := h.lt; show bp ≠ R.br; omega), gr_set hg _ _ (by have := h.lt; show _ ≤ bp; omega), by have h1 := h.lt; have h2 := hB.size; simp [World.setCell]; omega, (setCell_far W' _ _ rfl (by have := h.lt; show bp ≠ _; omega)).trans ((hB.block _ (by have := h.lt; omega)).trans h.z), by rw [setCell_blk ((hB.block _ (Nat.lt_succ_self _)).trans h.blk), hy]⟩
theorem Pg.cells (h : Pg R bp w W vD vT rest) : W.cell? ⟨bp, 0, none⟩ = some vD ∧ W.cell? ⟨bp, 1, none⟩ = some vT ∧ ∀ j, W.frozen? ⟨bp, j, none⟩ = false :=
  ⟨cellb h.blk rfl, cellb h.blk rfl, fun _ => free_blk h.blk⟩
end
theorem z2p {w : World} {b : Nat} {t : TypeId} (h : w.heap[b]? = some (.cells zP2 t (0, 0))) :
    w.cell? ⟨b, 0, none⟩ = some (.slice none 0 0) ∧ w.cell? ⟨b, 1, none⟩ = some (.slice none 0 0) ∧ w.frozen? ⟨b, 0, none⟩ = false ∧ w.frozen? ⟨b, 1, none⟩ = false :=
  ⟨cellb h rfl, cellb h rfl, free_blk h, free_blk h⟩
theorem prg_no {R : Rp} {w W : World} {a a' : Option Addr} {n c n' c' : Nat} {r : Toks} {res : Res Pr} (e : res = .no r) (hr : RdI W R r) (hg : w.grownBy W (some R.br)) (hl : R.br < w.heap.size) :
    PrgP R w res (.returned (.tuple #[.agg #[.slice a n c, .slice a' n' c'], .bool false])) (W.setCells w.heap.size 0 [.slice a n c, .slice a' n' c']) := by
  subst e
  exact ⟨⟨a, n, c, a', n', c', rfl⟩, rd_other hr (setCells_grown _ _ _ _) (by have := R.b0; omega) (by omega), gr_setCells hg _ _ _ (Nat.le_refl _)⟩
theorem prg_siz : (Tryz.prog.info? 26).map (·.size) = some 2 := by kernel_rfl
/-- The program is copied into the result. -/
theorem prg_ok {R : Rp} {w W : World} {p : Pr} {aoD aoT : Option Addr} {capD capT : Nat} {r : Toks} {res : Res Pr} {B : Nat} (e : res = .ok p r) (hl : p.ds.length ≤ 4096 ∧ p.ts.length ≤ 4096 ∧ p.ds.length ≤ capD ∧ p.ts.length ≤ capT)
    (hst : Stay B W (fun w2 => DeAt w2 w2.heap.size p.ds aoD 0 ∧ ThAt w2 w2.heap.size p.ts aoT 0)) (hB : w.heap.size < B) (hr : RdI W R r) (hg : w.grownBy W (some R.br)) (hlt : R.br < w.heap.size) :
    PrgP R w res (.returned (.tuple #[.agg #[.slice aoD p.ds.length capD, .slice aoT p.ts.length capT], .bool (!p.ts.isEmpty)])) (W.setCells w.heap.size 0 [.slice aoD p.ds.length capD, .slice aoT p.ts.length capT]) := by
  subst e
  exact ⟨⟨aoD, capD, aoT, capT, rfl, hl, (hst.next ⟨(setCells_grown w.heap.size _ 0 W).size, fun k h1 h2 => (setCells_grown w.heap.size _ 0 W).block k h2 (by simp; omega)⟩).mono (Nat.le_of_lt hB)⟩, rd_other hr (setCells_grown _ _ _ _) (by have := R.b0; omega) (by omega), gr_setCells hg _ _ _ (Nat.le_refl _)⟩
/-- One store. -/
def SC1 (P S : World → Prop) : List Bool → World → Prop
  | [x], w => if x then S w else P w
  | _, _ => False
section
variable {P S : World → Prop} {c : List Bool} {w w' : World} {k i : Nat}
theorem SC1.bits (h : SC1 P S c w) : ∃ x, c = [x] := by
  match c, h with
  | [x], _ => exact ⟨x, rfl⟩
  | [], h => exact h.elim
  | _ :: _ :: _, h => exact h.elim
theorem SC1.skip (h1 : (k == i) = false) (h : SC1 P S c w) : SC1 P S (setB [k] c i) w := by
  obtain ⟨x, rfl⟩ := h.bits
  simp only [setB, h1, Bool.or_false]; exact h
theorem SC1.fire (h1 : (k == i) = true) (h : S w) : SC1 P S (setB [k] [false] i) w := by
  simp only [setB, h1, Bool.or_true]; exact h
end
/-- What is known at the heads of the two loops. -/
def DlRel (R : Rp) (bp : Nat) (w : World) (resD : Res (List De)) (g : Nat) (wr : World) : Prop :=
  ∃ f l rest vD, g = rest.length ∧ rest.length ≤ f ∧ resD = (declsR f rest).map (l ++ ·) ∧ Pg R bp w wr vD (.slice none 0 0) rest ∧ GrowD (bp + 1) wr vD l ∧ (∀ d ∈ l, d.Ok) ∧ l.length + rest.length ≤ 4096
def TlRel (R : Rp) (bp : Nat) (w W2 : World) (vD : Value) (resT : Res (List Th)) (g : Nat) (wr : World) : Prop :=
  ∃ f l rest vT, g = rest.length ∧ rest.length ≤ f ∧ resT = (thrsR f rest).map ((l.map (·.t)) ++ ·) ∧ Pg R bp w wr vD vT rest ∧ Abv (bp + 1) W2 wr ∧ GrowTh W2.heap.size wr vT l ∧ (∀ x ∈ l, x.t.Ok ∧ x.t.locs.length ≤ x.capl) ∧ l.length + rest.length ≤ 4096
theorem isDecl_eq (rest : Toks) : isDecl rest = ((((nextK rest : Nat) : Int) == 3) && (dcOf (nextT rest) != 0)) := by
  unfold isDecl; rw [kind_spec 3]; rfl
theorem declsR_end {f : Nat} {ts : Toks} (h : isDecl ts = false) : declsR f ts = .ok [] ts := by
  cases f with
  | zero => rfl
  | succ f => unfold declsR; rw [if_neg (by rw [h]; decide)]
theorem declsR_no {f : Nat} {ts r : Toks} (h : isDecl ts = true) (h1 : declR ts = .no r) : declsR (f + 1) ts = .no r := by unfold declsR; rw [if_pos h, h1]; rfl
theorem declsR_ok {f : Nat} {ts r : Toks} {d : De} (h : isDecl ts = true) (h1 : declR ts = .ok d r) : declsR (f + 1) ts = (declsR f r).map (d :: ·) := by
  conv => lhs; unfold declsR
  rw [if_pos h, h1]; rfl
theorem thrsR_end {f : Nat} {ts : Toks} (h : at' [116, 104, 114, 101, 97, 100] ts = false) : thrsR f ts = .ok [] ts := by
  cases f with
  | zero => rfl
  | succ f => unfold thrsR; rw [if_neg (by rw [h]; decide)]
theorem thrsR_no {f : Nat} {ts r : Toks} (h : at' [116, 104, 114, 101, 97, 100] ts = true) (h1 : thrR ts = .no r) : thrsR (f + 1) ts = .no r := by unfold thrsR; rw [if_pos h, h1]; rfl
theorem thrsR_ok {f : Nat} {ts r : Toks} {t : Th} (h : at' [116, 104, 114, 101, 97, 100] ts = true) (h1 : thrR ts = .ok t r) : thrsR (f + 1) ts = (thrsR f r).map (t :: ·) := by
  conv => lhs; unfold thrsR
  rw [if_pos h, h1]; rfl
theorem Abv.belowB {B : Nat} {w w1 w2 : World} (h : Abv B w w1) (hb : Below w.heap.size w1 w2) : Abv B w w2 := ⟨Nat.le_trans h.1 hb.size, fun k h1 h2 => (hb.block k h2).trans (h.2 k h1 h2)⟩
theorem pg_head {R : Rp} {w : World} {ts : Toks} {bp : Nat} (hI : RdI w R ts) (hg : w.heap.size + 1 = bp) : ∀ W, ((w.alloc (.cells #[.slice none 0 0, .slice none 0 0] 26)).alloc (.cells #[.slice none 0 0, .slice none 0 0] 26)) = W → Pg R bp w W (.slice none 0 0) (.slice none 0 0) ts := by
  intro W hW
  have hb1 : Below w.heap.size w (w.alloc (.cells #[.slice none 0 0, .slice none 0 0] 26)) := alloc_below _ _
  have hz1 : (w.alloc (.cells #[.slice none 0 0, .slice none 0 0] 26)).heap[w.heap.size]? = some (.cells zP2 26 (0, 0)) := heap_alloc_new _ _
  have hs1 : (w.alloc (.cells #[.slice none 0 0, .slice none 0 0] 26)).heap.size = bp := by simp [hg]
  generalize w.alloc (.cells #[.slice none 0 0, .slice none 0 0] 26) = W1 at *
  have hb2 : Below w.heap.size w W := by rw [← hW]; exact hb1.alloc hb1.size _
  exact ⟨hI.below hb2, gr_below hb2, ⟨hI.lt, by omega, by rw [← hW]; simp; omega⟩, by rw [← hW]; exact (heap_alloc_old _ _ (Array.getElem?_eq_some_iff.1 hz1).1).trans hz1, by rw [← hW, ← hs1]; exact heap_alloc_new _ _⟩
set_option maxHeartbeats 4000000 in
set_option maxRecDepth 100000 in
theorem program_any (R : Rp) (ts : Toks) (w : World) (hI : RdI w R ts) :
    Calls Tryz.prog 35 #[.pointer (some ⟨R.br, 0, none⟩)] w (PrgP R w (prog ts)) := by
  have HI := Lib.hid hI
  have HLT := Lib.hid hI.lt
  have HLEN := Lib.hid hI.len
  obtain ⟨res, HRES⟩ : ∃ res, Hid (prog ts = res) := ⟨_, Lib.hid rfl⟩
  obtain ⟨resD, HRD⟩ : ∃ resD, Hid (declsR ts.length ts = resD) := ⟨_, Lib.hid rfl⟩
  have HE0 : Hid (res = resD.bind fun ds r => (thrsR r.length r).map fun th => ⟨ds, th⟩) := Lib.hid (by rw [← HRES.out, ← HRD.out]; rfl)
  rw [HRES.out]
  have hf0 := fld0
  have hf1 := fld1
  clear hI
  go_enter Tryz.func35, Tryz.ntmps35
  go_upto_block 0 with fail
  obtain ⟨bp, hg⟩ : ∃ g, w.heap.size + 1 = g := ⟨_, rfl⟩
  rw [hg]
  generalize hW : World.alloc (World.alloc w _) _ = W0
  have HP0 : Hid (Pg R bp w W0 (.slice none 0 0) (.slice none 0 0) ts) := Lib.hid (pg_head HI.out hg W0 hW)
  clear hW hg
  go_cut [] (fun W' => ∃ l rest vD, resD = .ok l rest ∧ Pg R bp w W' vD (.slice none 0 0) rest ∧ GrowD (bp + 1) W' vD l ∧ (∀ d ∈ l, d.Ok) ∧ l.length + rest.length ≤ 4096)
  case first =>
    have HHD : Hid (DlRel R bp w resD ts.length W0) := Lib.hid ⟨ts.length, [], ts, _, rfl, Nat.le_refl _, by rw [← HRD.out]; cases declsR ts.length ts <;> rfl, HP0.out, Grow.nil _ _ _ _ _ _, by simp, by have := HLEN.out; simp; omega⟩
    obtain ⟨i0, hi, hz0, hz1, hz2⟩ := inf_de
    have HIN := Lib.hid (And.intro hi (And.intro hz0 (And.intro hz1 hz2)))
    clear hi hz0 hz1 hz2 HP0 HRD
    go_wp2_with fail
    go_loopg [5, 6] ts.length (fun gk _ _ wr => DlRel R bp w resD gk wr)
    case atStart => exact HHD.out
    case round =>
      obtain ⟨f, l, rest, vD, rfl, hf, hres, hs, hg, hok, hll⟩ := hrel
      have HF := Lib.hid hf
      have HRS := Lib.hid hres
      have HS := Lib.hid hs
      have HG := Lib.hid hg
      have HOK := Lib.hid hok
      have HLS := Lib.hid hll
      obtain ⟨av, cv, hv⟩ := hg.len
      have HNX := Lib.hid (fun w hI => next_any R rest w hI)
      unfold tokV at HNX
      have HDC := Lib.hid (fun w => declared_any (tx (nextT rest)) (l := nextT rest) (tx_list _) w)
      clear hf hres hs hg hok hll HHD
      subst hv
      go_upto_region 2 with fail
      go_cut [19] (fun s19 W' => s19 = .bool (isDecl rest) ∧ Below wr.heap.size wr W')
      case first =>
        have HE := Lib.hid (isDecl_eq rest)
        generalize isDecl rest = b at *
        generalize ((nextK rest : Nat) : Int) = k at *
        generalize tx (nextT rest) = s at *
        generalize dcOf (nextT rest) = dc at *
        cases hk : (k == 3)
        · go_wp2_with fail
          refine (HNX.out _ HS.out.rd).mono ?_
          rintro e w1 ⟨rfl, h2⟩
          have HB1 := Lib.hid h2
          clear h2
          go_wp2_with fail
          go_meet
          exact ⟨by rw [HE.out, hk]; rfl, HB1.out⟩
        · go_wp2_with fail
          refine (HNX.out _ HS.out.rd).mono ?_
          rintro e w1 ⟨rfl, h2⟩
          have HB1 := Lib.hid h2
          have HR1 := Lib.hid (HS.out.rd.below h2)
          clear h2
          go_wp2_with fail
          refine (HNX.out _ HR1.out).mono ?_
          rintro e w2 ⟨rfl, h2⟩
          have HB2 := Lib.hid (HB1.out.trans (h2.mono HB1.out.size))
          clear h2
          go_wp2_with fail
          refine (HDC.out _).mono ?_
          rintro e w3 ⟨rfl, rfl⟩
          go_wp2_with fail
          go_meet
          exact ⟨by rw [HE.out, hk]; rfl, HB2.out⟩
      obtain ⟨rfl, hB⟩ := hcut
      obtain ⟨W1, rfl⟩ : ∃ W : World, W = wc := ⟨_, rfl⟩
      have HS1 := Lib.hid (HS.out.below hB)
      have HG1 := Lib.hid (HG.out.next (abv_below hB))
      clear hB HS HG HNX HDC
      cases hd : isDecl rest
      · have HRL : Hid (resD = .ok l rest) := Lib.hid (HRS.out.trans (by rw [declsR_end hd]; show Res.ok (l ++ []) rest = _; rw [List.append_nil]))
        go_wp2_with fail
        go_meet
        exact ⟨l, rest, _, HRL.out, HS1.out, HG1.out, HOK.out, HLS.out⟩
      · have HC := Lib.hid (declaration_any R rest W1 HS1.out.rd hd)
        go_wp2_with fail
        refine HC.out.mono ?_
        obtain ⟨f', hf'⟩ : ∃ f', f = f' + 1 := ⟨f - 1, by
          have h1 := HF.out
          have h2 : rest.length ≠ 0 := fun e => by rw [List.length_eq_zero_iff.1 e] at hd; exact absurd hd (by decide)
          omega⟩
        subst hf'
        have HN : Hid (∀ r, declR rest = .no r → res = .no r) := Lib.hid (fun r h => HE0.out.trans (by rw [HRS.out, declsR_no hd h]; rfl))
        have HO : Hid (∀ d r, declR rest = .ok d r → resD = (declsR f' r).map ((l ++ [d]) ++ ·) ∧ r.length < rest.length) := Lib.hid (fun d r h => ⟨HRS.out.trans (by rw [declsR_ok hd h, map_map']; exact map_eq' (fun a => by simp)), declR_len h⟩)
        clear HRS HC
        generalize declR rest = resd at *
        cases resd with
        | no r =>
          have HE9 := Lib.hid (HN.out r rfl)
          clear HN HO
          rintro e w2 ⟨⟨d, rfl⟩, h2, h3⟩
          have HS2 := Lib.hid (HS1.out.then h2 h3)
          clear h2 h3 HS1 HG1
          unfold dvV
          go_upto_region 4 with fail
          generalize hW : World.alloc w2 _ = W3
          have HS3 : Hid (Pg R bp w W3 _ _ r) := Lib.hid (by rw [← hW]; exact HS2.out.below (alloc_below _ _))
          clear hW HS2
          obtain ⟨c0, c1, fc⟩ := HS3.out.cells
          obtain ⟨y0, y1, g0, g1⟩ := z2p HS3.out.z
          clear fc
          go_wp2_with fail
          exact bodyPost_ret (v := .tuple #[.agg #[.slice _ _ _, .slice _ _ _], .bool false]) (by simp [results, Tryz.results35, go_sem, y0, y1]) rfl (prg_no HE9.out HS3.out.rd HS3.out.gr HLT.out)
        | ok d r =>
          have HO2 := Lib.hid (HO.out d r rfl)
          clear HN HO
          rintro e w2 ⟨⟨hdok, rfl⟩, h2, h3⟩
          have HDO := Lib.hid hdok
          have HS2 := Lib.hid (HS1.out.then h2 h3)
          have HG2 := Lib.hid (HG1.out.next (abv_gr h3 (by have := HS1.out.lt; omega)))
          clear h2 h3 HS1 HG1 hdok
          unfold dvV
          go_upto_region 4 with fail
          obtain ⟨gd, hg⟩ : ∃ g, w2.heap.size = g := ⟨_, rfl⟩
          generalize hW : World.alloc w2 _ = W3
          have HS3 : Hid (Pg R bp w W3 _ _ r) := Lib.hid (by rw [← hW]; exact HS2.out.below (alloc_below _ _))
          have HG3 : Hid (GrowD (bp + 1) W3 _ l) := Lib.hid (by rw [← hW]; exact HG2.out.next (abv_below (alloc_below _ _)))
          have HB3 : Hid (W3.heap[gd]? = some (.cells (deF d).toArray 58 (0, 0))) := Lib.hid (by rw [← hW, ← hg]; exact heap_alloc_new _ _)
          rw [hg]
          clear hW hg HS2 HG2
          obtain ⟨e0, e1, e2, e3, e4, e5⟩ : (W3.cell? ⟨gd, 0, none⟩ = some (.int .i64 d.kind) ∧ W3.cell? ⟨gd, 1, none⟩ = some (.int .i64 d.line) ∧ W3.cell? ⟨gd, 2, none⟩ = some (.string d.nm) ∧ W3.cell? ⟨gd, 3, none⟩ = some (.int .i64 d.size) ∧ W3.cell? ⟨gd, 4, none⟩ = some (.int .i64 d.init) ∧ W3.cell? ⟨gd, 5, none⟩ = some (.string d.on)) := ⟨cellb HB3.out rfl, cellb HB3.out rfl, cellb HB3.out rfl, cellb HB3.out rfl, cellb HB3.out rfl, cellb HB3.out rfl⟩
          obtain ⟨c0, c1, fc⟩ := HS3.out.cells
          clear fc
          have HGA := Lib.hid (HG3.out.next (abv_below (alloc_below W3 (.cells (deF d).toArray 58))))
          have HNC := Lib.hid (new_cells (heap_alloc_new W3 (.cells (deF d).toArray 58)))
          obtain ⟨hi, hz0, hz1, hz2⟩ := HIN.out
          have hbs : bp + 1 ≤ W3.heap.size + 1 := by have := HS3.out.lt; omega
          have hkl : l.length + 1 ≤ maxLen := by have := HLS.out; unfold maxLen; omega
          have hk64 : (l.length + 1) * 64 ≤ 140737488355328 := by have := HLS.out; omega
          go_wp2_with (at_builtin; refine wpList_append_lies _ rfl _ _ 23 rfl (bp + 1) 58 i0 _ 6 64 Tryz.underlying23 hi hz0 hz1 hz2 rfl (by decide) _ _ _ rfl HGA.out.own ⟨W3.heap.size, 0, none⟩ 1 1 (deF d) rfl rfl HNC.out (by simp [deF, Value.oneCell']) (by decide) hkl hk64 (by simpa using hbs) _ rfl ?_)
          clear hi hz0 hz1 hz2
          intro g cap w9 hown hgr hmv hlt2
          have HLO : Hid (∀ k, (Value.slice av (l).length cv).ownBlock = some k → bp + 1 ≤ k) := Lib.hid (fun k hk => (HG3.out.lt k hk).1)
          have HB9 : Hid (Below (bp + 1) (W3.alloc (.cells (deF d).toArray 58)) w9) := Lib.hid (below_of_gr hgr HLO.out (by simpa using hbs))
          have HB8 : Hid (Below (bp + 1) W3 w9) := Lib.hid (((alloc_below W3 (.cells (deF d).toArray 58)).mono HS3.out.lt.2.2).trans HB9.out)
          have HX9 : Hid (StayX (bp + 1) (Value.slice av (l).length cv).ownBlock (W3.alloc (.cells (deF d).toArray 58)) (fun _ => True)) := Lib.hid (fun _ _ => trivial)
          have HR9 : Hid (RdI w9 R r) := Lib.hid (rd_own (rd_alloc HS3.out.rd _) hgr (fun k hk => by have h1 := HLO.out k hk; have h2 := HS3.out.lt; have h3 := R.b0; omega))
          have HGR9 : Hid (w.grownBy w9 (some R.br)) := Lib.hid (gr_own (gr_alloc HS3.out.gr _) (HB9.out.mono (by have := HS3.out.lt; omega)))
          have hblk9 : w9.heap[bp]? = some (.cells _ 26 (0, 0)) := (HB8.out.block _ (Nat.lt_succ_self _)).trans HS3.out.blk
          have HG9 := Lib.hid (HGA.out.push (x := d) HX9.out rfl hown hgr (by simpa using hmv))
          have c0 : w9.cell? ⟨bp, 0, none⟩ = some (.slice av l.length cv) := cellb hblk9 rfl
          have f0 : w9.frozen? ⟨bp, 0, none⟩ = false := free_blk hblk9
          clear hown hgr hmv hlt2 hbs hkl hk64 HX9 HNC HGA HB9 hblk9 e0 e1 e2 e3 e4 e5 c1
          go_wp2_with fail
          generalize hW : World.setCell w9 _ _ = W10
          have HS10 : Hid (Pg R bp w W10 (.slice (some ⟨g, 0, none⟩) (l.length + 1) cap) (.slice none 0 0) r) := Lib.hid (by rw [← hW]; exact HS3.out.put HR9.out HGR9.out HB8.out 0 _ _ _ rfl)
          have HG10 : Hid (GrowD (bp + 1) W10 (.slice (some ⟨g, 0, none⟩) (l.length + 1) cap) (l ++ [d])) := Lib.hid (by rw [← hW]; exact HG9.out.next (abv_set w9 ⟨bp, 0, none⟩ _ (Nat.lt_succ_self _)))
          have HNL : Hid (∀ y ∈ l ++ [d], y.Ok) := Lib.hid (fun y hy => by
            rcases List.mem_append.1 hy with hy | hy
            · exact HOK.out y hy
            · rw [List.mem_singleton.1 hy]; exact HDO.out)
          clear hW c0 f0 HS3 HR9 HGR9 HB8 HG9 HLO HG3 HB3
          go_roundg r.length
          case measure => exact HO2.out.2
          case rel => exact ⟨f', l ++ [d], r, _, rfl, by have h1 := HF.out; have h2 := HO2.out.2; omega, HO2.out.1, HS10.out, HG10.out, HNL.out, by have h1 := HLS.out; have h2 := HO2.out.2; simp only [List.length_append, List.length_singleton]; omega⟩
  obtain ⟨l, rest, vD, hrd, hP, hG, hdok, hll⟩ := hcut
  obtain ⟨W2, rfl⟩ : ∃ W : World, W = wc := ⟨_, rfl⟩
  obtain ⟨aoD, capD, hv, hcD, hstD⟩ := hG.says hdok
  subst hv
  have HP2 := Lib.hid hP
  have HD2 := Lib.hid (And.intro hcD hstD)
  have HLL := Lib.hid hll
  obtain ⟨resT, HRT⟩ : ∃ resT, Hid (thrsR rest.length rest = resT) := ⟨_, Lib.hid rfl⟩
  have HE1 : Hid (res = resT.map (fun th => ⟨l, th⟩)) := Lib.hid (by rw [HE0.out, hrd, ← HRT.out]; rfl)
  clear hP hG hdok hll hcD hstD hrd HP0 HRD HRES HE0
  go_upto_block 2 with fail
  go_cut [] (fun W' => ∃ (lt : List ThI) (rest' : Toks) (vT : Value), resT = .ok (lt.map (·.t)) rest' ∧ Pg R bp w W' (.slice aoD l.length capD) vT rest' ∧ Abv (bp + 1) W2 W' ∧ GrowTh W2.heap.size W' vT lt ∧ (∀ x ∈ lt, x.t.Ok ∧ x.t.locs.length ≤ x.capl) ∧ lt.length ≤ 4096)
  case first =>
    have HHD : Hid (TlRel R bp w W2 (.slice aoD l.length capD) resT rest.length W2) := Lib.hid ⟨rest.length, [], rest, _, rfl, Nat.le_refl _, by rw [← HRT.out]; cases thrsR rest.length rest <;> rfl, HP2.out, Abv.refl _ _, Grow.nil _ _ _ _ _ _, by simp, by have := HLL.out; simp only [List.length_nil]; omega⟩
    obtain ⟨i0, hi, hz0, hz1, hz2⟩ := inf_th
    have HIN := Lib.hid (And.intro hi (And.intro hz0 (And.intro hz1 hz2)))
    have HLB : Hid (bp + 1 ≤ W2.heap.size ∧ R.br < bp) := Lib.hid (by have := HP2.out.lt; omega)
    clear hi hz0 hz1 hz2 HP2 HRT HD2
    go_wp2_with fail
    go_loopg [7, 8] rest.length (fun gk _ _ wr => TlRel R bp w W2 (.slice aoD l.length capD) resT gk wr)
    case atStart => exact HHD.out
    case round =>
      obtain ⟨f, lt, rs, vT, rfl, hf, hres, hs, ha, hg, hok, hlt⟩ := hrel
      have HF := Lib.hid hf
      have HRS := Lib.hid hres
      have HS := Lib.hid hs
      have HA := Lib.hid ha
      have HG := Lib.hid hg
      have HOK := Lib.hid hok
      have HLS := Lib.hid hlt
      obtain ⟨av, cv, hv⟩ := hg.len
      clear hf hres hs ha hg hok hlt HHD
      subst hv
      cases hd : at' [116, 104, 114, 101, 97, 100] rs
      · have HRL : Hid (resT = .ok (lt.map (·.t)) rs) := Lib.hid (HRS.out.trans (by rw [thrsR_end hd]; show Res.ok (_ ++ []) rs = _; rw [List.append_nil]))
        go_wp2_with fail
        refine (at_any R _ _ ⟨#[116, 104, 114, 101, 97, 100]⟩ rfl HS.out.rd).mono ?_
        rw [hd]
        rintro e w1 ⟨rfl, h2⟩
        have HS1 := Lib.hid (HS.out.below h2)
        have HG1 := Lib.hid (HG.out.next (abv_below h2))
        have HA1 := Lib.hid (HA.out.trans (abv_below h2))
        clear h2
        go_wp2_with fail
        go_meet
        exact ⟨lt, rs, _, HRL.out, HS1.out, HA1.out, HG1.out, HOK.out, by have := HLS.out; omega⟩
      · go_wp2_with fail
        refine (at_any R _ _ ⟨#[116, 104, 114, 101, 97, 100]⟩ rfl HS.out.rd).mono ?_
        rw [hd]
        rintro e w1 ⟨rfl, h2⟩
        have HS1 := Lib.hid (HS.out.below h2)
        have HG1 := Lib.hid (HG.out.next (abv_below h2))
        have HA1 := Lib.hid (HA.out.trans (abv_below h2))
        clear h2 HS HG HA
        have HC := Lib.hid (thread_any R rs w1 HS1.out.rd hd)
        obtain ⟨f', hf'⟩ : ∃ f', f = f' + 1 := ⟨f - 1, by
          have h1 := HF.out
          have h2 := at_len hd
          omega⟩
        subst hf'
        have HN : Hid (∀ r, thrR rs = .no r → res = .no r) := Lib.hid (fun r h => HE1.out.trans (by rw [HRS.out, thrsR_no hd h]; rfl))
        have HO : Hid (∀ t r, thrR rs = .ok t r → resT = (thrsR f' r).map ((lt.map (·.t) ++ [t]) ++ ·) ∧ r.length < rs.length) := Lib.hid (fun t r h => ⟨HRS.out.trans (by rw [thrsR_ok hd h, map_map']; exact map_eq' (fun a => by simp)), thrR_len h⟩)
        clear HRS
        generalize thrR rs = rest9 at *
        go_wp2_with fail
        refine HC.out.mono ?_
        cases rest9 with
        | no r =>
          have HE9 := Lib.hid (HN.out r rfl)
          clear HN HO HC
          rintro e w2 ⟨⟨nm, line, a1, n1, c1, a2, n2, c2, rfl⟩, h2, h3⟩
          have HS2 := Lib.hid (HS1.out.then h2 h3)
          clear h2 h3 HS1 HG1
          unfold thrV
          go_upto_region 9 with fail
          generalize hW : World.alloc w2 _ = W3
          have HS3 : Hid (Pg R bp w W3 _ _ r) := Lib.hid (by rw [← hW]; exact HS2.out.below (alloc_below _ _))
          clear hW HS2
          obtain ⟨c0, c1, fc⟩ := HS3.out.cells
          obtain ⟨y0, y1, g0, g1⟩ := z2p HS3.out.z
          clear fc
          go_wp2_with fail
          exact bodyPost_ret (v := .tuple #[.agg #[.slice _ _ _, .slice _ _ _], .bool false]) (by simp [results, Tryz.results35, go_sem, y0, y1]) rfl (prg_no HE9.out HS3.out.rd HS3.out.gr HLT.out)
        | ok t r =>
          have HO2 := Lib.hid (HO.out t r rfl)
          clear HN HO HC
          rintro e w2 ⟨⟨x, rfl, rfl, hxok, hxst⟩, h2, h3⟩
          have HXO := Lib.hid hxok
          have HSZ : Hid (W2.heap.size ≤ w1.heap.size) := Lib.hid HA1.out.1
          have HS2 := Lib.hid (HS1.out.then h2 h3)
          have HG2 := Lib.hid (HG1.out.next (abv_gr h3 (by have := HLB.out; omega)))
          have HA2 := Lib.hid (HA1.out.trans (abv_gr h3 (by have := HLB.out; omega)))
          have HLO1 := Lib.hid HG1.out.lt
          have HX2 := Lib.hid hxst
          clear h2 h3 HS1 HG1 HA1 hxok hxst
          unfold ThI.f
          go_upto_region 9 with fail
          obtain ⟨gd, hg⟩ : ∃ g, w2.heap.size = g := ⟨_, rfl⟩
          generalize hW : World.alloc w2 _ = W3
          have HS3 : Hid (Pg R bp w W3 _ _ r) := Lib.hid (by rw [← hW]; exact HS2.out.below (alloc_below _ _))
          have HG3 : Hid (GrowTh W2.heap.size W3 _ lt) := Lib.hid (by rw [← hW]; exact HG2.out.next (abv_below (alloc_below _ _)))
          have HA3 : Hid (Abv (bp + 1) W2 W3) := Lib.hid (by rw [← hW]; exact HA2.out.trans (abv_below (alloc_below _ _)))
          have HX3 : Hid (Stay w1.heap.size W3 (ThI.I x)) := Lib.hid (by rw [← hW]; exact HX2.out.next (abv_below (alloc_below _ _)))
          have HB3 : Hid (W3.heap[gd]? = some (.cells (ThI.f x).toArray 63 (0, 0))) := Lib.hid (by rw [← hW, ← hg]; exact heap_alloc_new _ _)
          rw [hg]
          clear hW hg HS2 HG2 HA2 HX2
          obtain ⟨e0, e1, e2, e3⟩ : (W3.cell? ⟨gd, 0, none⟩ = some (.string x.t.nm) ∧ W3.cell? ⟨gd, 1, none⟩ = some (.int .i64 x.t.line) ∧ W3.cell? ⟨gd, 2, none⟩ = some (.slice x.aol x.t.locs.length x.capl) ∧ W3.cell? ⟨gd, 3, none⟩ = some (.slice x.aob x.t.body.len x.capb)) := ⟨cellb HB3.out rfl, cellb HB3.out rfl, cellb HB3.out rfl, cellb HB3.out rfl⟩
          obtain ⟨c0, c1, fc⟩ := HS3.out.cells
          clear fc
          have HGA := Lib.hid (HG3.out.next (abv_below (alloc_below W3 (.cells (ThI.f x).toArray 63))))
          have HNC := Lib.hid (new_cells (heap_alloc_new W3 (.cells (ThI.f x).toArray 63)))
          obtain ⟨hi, hz0, hz1, hz2⟩ := HIN.out
          have hbs : W2.heap.size ≤ W3.heap.size + 1 := by have := HA3.out.1; omega
          have hkl : lt.length + 1 ≤ maxLen := by have := HLS.out; unfold maxLen; omega
          have hk72 : (lt.length + 1) * 72 ≤ 140737488355328 := by have := HLS.out; omega
          go_wp2_with (at_builtin; refine wpList_append_lies _ rfl _ _ 24 rfl W2.heap.size 63 i0 _ 4 72 Tryz.underlying24 hi hz0 hz1 hz2 rfl (by decide) _ _ _ rfl HGA.out.own ⟨W3.heap.size, 0, none⟩ 1 1 (ThI.f x) rfl rfl HNC.out (by simp [ThI.f, Value.oneCell']) (by decide) hkl hk72 (by simpa using hbs) _ rfl ?_)
          clear hi hz0 hz1 hz2
          intro g cap w9 hown hgr hmv hlt2
          have HLO : Hid (∀ k, (Value.slice av lt.length cv).ownBlock = some k → W2.heap.size ≤ k) := Lib.hid (fun k hk => (HG3.out.lt k hk).1)
          have HB9 : Hid (Below W2.heap.size (W3.alloc (.cells (ThI.f x).toArray 63)) w9) := Lib.hid (below_of_gr hgr HLO.out (by simpa using hbs))
          have HB8 : Hid (Below W2.heap.size W3 w9) := Lib.hid (((alloc_below W3 (.cells (ThI.f x).toArray 63)).mono HA3.out.1).trans HB9.out)
          have HX9 : Hid (StayX W2.heap.size (Value.slice av lt.length cv).ownBlock (W3.alloc (.cells (ThI.f x).toArray 63)) (ThI.I x)) := Lib.hid (stayX_of (HX3.out.next (abv_below (alloc_below _ _))) HSZ.out (fun k hk => (HLO1.out k hk).2))
          have HR9 : Hid (RdI w9 R r) := Lib.hid (rd_own (rd_alloc HS3.out.rd _) hgr (fun k hk => by have h1 := HLO.out k hk; have h2 := HLB.out; have h3 := R.b0; omega))
          have HGR9 : Hid (w.grownBy w9 (some R.br)) := Lib.hid (gr_own (gr_alloc HS3.out.gr _) (HB9.out.mono (by have h1 := HS3.out.lt; have h2 := HLB.out; omega)))
          have hblk9 : w9.heap[bp]? = some (.cells _ 26 (0, 0)) := (HB8.out.block _ (by have := HLB.out; omega)).trans HS3.out.blk
          have HG9 := Lib.hid (HGA.out.push (x := x) HX9.out rfl hown hgr (by simpa using hmv))
          have HA9 : Hid (Abv (bp + 1) W2 w9) := Lib.hid (HA3.out.belowB HB8.out)
          have c1 : w9.cell? ⟨bp, 1, none⟩ = some (.slice av lt.length cv) := cellb hblk9 rfl
          have f1 : w9.frozen? ⟨bp, 1, none⟩ = false := free_blk hblk9
          clear hown hgr hmv hlt2 hbs hkl hk72 HX9 HNC HGA HB9 hblk9 e0 e1 e2 e3 c0
          go_wp2_with fail
          generalize hW : World.setCell w9 _ _ = W10
          have HS10 : Hid (Pg R bp w W10 (.slice aoD l.length capD) (.slice (some ⟨g, 0, none⟩) (lt.length + 1) cap) r) := Lib.hid (by rw [← hW]; exact HS3.out.put HR9.out HGR9.out (HB8.out.mono HLB.out.1) 1 _ _ _ rfl)
          have HG10 : Hid (GrowTh W2.heap.size W10 (.slice (some ⟨g, 0, none⟩) (lt.length + 1) cap) (lt ++ [x])) := Lib.hid (by rw [← hW]; exact HG9.out.next (abv_set w9 ⟨bp, 1, none⟩ _ HLB.out.1))
          have HA10 : Hid (Abv (bp + 1) W2 W10) := Lib.hid (by rw [← hW]; exact HA9.out.trans (abv_set w9 ⟨bp, 1, none⟩ _ (Nat.lt_succ_self _)))
          have HNL : Hid (∀ y ∈ lt ++ [x], y.t.Ok ∧ y.t.locs.length ≤ y.capl) := Lib.hid (fun y hy => by
            rcases List.mem_append.1 hy with hy | hy
            · exact HOK.out y hy
            · rw [List.mem_singleton.1 hy]; exact HXO.out)
          clear hW c1 f1 HS3 HR9 HGR9 HB8 HG9 HLO HG3 HB3 HA9 HA3
          go_roundg r.length
          case measure => exact HO2.out.2
          case rel => exact ⟨f', lt ++ [x], r, _, rfl, by have h1 := HF.out; have h2 := HO2.out.2; omega, by rw [List.map_append]; exact HO2.out.1, HS10.out, HA10.out, HG10.out, HNL.out, by have h1 := HLS.out; have h2 := HO2.out.2; simp only [List.length_append, List.length_singleton]; omega⟩
  obtain ⟨lt, r9, vT, hrt, hP, hA, hG, hok, hln⟩ := hcut
  obtain ⟨W8, rfl⟩ : ∃ W : World, W = wc := ⟨_, rfl⟩
  obtain ⟨aoT, capT, hv, hcT, hstT⟩ := hG.says hok
  subst hv
  have HP8 := Lib.hid hP
  have HE9 : Hid (res = .ok ⟨l, lt.map (·.t)⟩ r9) := Lib.hid (by rw [HE1.out, hrt]; rfl)
  have HLN : Hid ((lt.map (·.t)).length = lt.length) := Lib.hid (List.length_map _)
  have HST : Hid (l.length ≤ capD ∧ (lt.map (·.t)).length ≤ capT ∧ Stay (bp + 1) W8 (fun w2 => DeAt w2 w2.heap.size l aoD 0 ∧ ThAt w2 w2.heap.size (lt.map (·.t)) aoT 0)) := Lib.hid ⟨HD2.out.1, by rw [HLN.out]; exact hcT, fun w2 h2 => ⟨HD2.out.2 w2 (hA.trans h2), hstT w2 (h2.mono HP2.out.lt.2.2)⟩⟩
  have HLE : Hid (l.length ≤ 4096 ∧ (lt.map (·.t)).length ≤ 4096) := Lib.hid ⟨by have := HLL.out; omega, by rw [HLN.out]; exact hln⟩
  clear hP hA hG hok hln hcT hstT hrt HD2 HE1 HLN HLL HP2 HRT
  generalize lt.map (·.t) = th at *
  clear hf0 hf1
  have HT0 : Hid (decide ((0 : Int) < (th.length : Int)) = !th.isEmpty) := Lib.hid (by cases th <;> simp)
  have HWD : Hid (Below W8.heap.size W8 (W8.drewN 1)) := Lib.hid (below_drewN (Below.refl _ _) 1)
  have HPD := Lib.hid (HP8.out.below HWD.out)
  have KP : ∀ (x : Bool) w', SC1 (fun w' => w' = W8.drewN 1) (fun w' => w' = (W8.drewN 1).setCells w.heap.size 0 [.slice aoD l.length capD, .slice aoT th.length capT]) [x] w' → w'.heap[bp]? = some (.cells #[.slice aoD l.length capD, .slice aoT th.length capT] 26 (0, 0)) := fun x w' h => by
    cases x
    · have h : w' = _ := h
      rw [h]; exact HPD.out.blk
    · have h : w' = _ := h
      rw [h]
      exact ((setCells_grown w.heap.size _ 0 (W8.drewN 1)).block _ HPD.out.lt.2.2 (by have := HPD.out.lt; simp; omega)).trans HPD.out.blk
  go_upto_region 12 with fail
  refine wpAny_start (by kernel_rfl) rfl ?_
  refine wpAny_phase 0 7 [5] [[], [], [1], [1, 2], [1, 2, 3], [0], [0, 1, 2, 3, 4, 5]] [[some false], [none], [none], [none], [none], [some false], [some true]] (SC1 (fun w' => w' = W8.drewN 1) (fun w' => w' = (W8.drewN 1).setCells w.heap.size 0 [.slice aoD l.length capD, .slice aoT th.length capT])) (fun _ _ => True) [50, 51, 52, 53, 54, 3] rfl rfl (by rfl) (by kernel_rfl) (by kernel_rfl) (by kernel_rfl) (by kernel_rfl) (by kernel_rfl) (by rfl) (fun _ => trivial) (by rfl) rfl ?_
  simp only [List.take_succ_cons, List.take_zero, List.drop_zero, List.drop_succ_cons, dumE, List.map_cons, List.map_nil]
  apply ObP.step
  case hobl =>
    intro c A w' hok hC hO hD
    obtain ⟨x, rfl⟩ := hC.bits
    have hb := KP x w' hC
    have k0 : w'.cell? ⟨bp, 0, none⟩ = some (.slice aoD l.length capD) := cellb hb rfl
    have k1 : w'.cell? ⟨bp, 1, none⟩ = some (.slice aoT th.length capT) := cellb hb rfl
    have e4 := hO 4 (by rfl)
    simp [Act.eval] at e4
    simp [depsL, IsV, slotv, Act.eval, Region.binds] at hD
    simp [go_sem, gd, Oper.wp, e4, k0, k1]
    exact WPost.mk trivial (SC1.skip (by rfl) hC) (IsV.mk _ _)
  apply ObP.step
  case hobl =>
    intro c A w' hok hC hO hD
    have e4 := hO 4 (by rfl)
    simp [Act.eval] at e4
    simp [depsL, IsV, slotv, Act.eval, Region.binds] at hD
    simp [go_sem, gd, Oper.wp, hD, e4]
    exact WPost.mk trivial (SC1.skip (by rfl) hC) (IsV.mk _ _)
  apply ObP.step
  case hobl =>
    intro c A w' hok hC hO hD
    obtain ⟨x, rfl⟩ := hC.bits
    have hb := KP x w' hC
    have k1 : w'.cell? ⟨bp, 1, none⟩ = some (.slice aoT th.length capT) := cellb hb rfl
    simp [depsL, IsV, slotv, Act.eval, Region.binds] at hD
    simp [go_sem, gd, Oper.wp, hD, k1]
    exact WPost.mk trivial (SC1.skip (by rfl) hC) (IsV.mk _ _)
  apply ObP.step
  case hobl =>
    intro c A w' hok hC hO hD
    simp [depsL, IsV, slotv, Act.eval, Region.binds] at hD
    simp [go_sem, gd, Oper.wp, hD]
    exact WPost.mk trivial (SC1.skip (by rfl) hC) (IsV.mk _ _)
  simp only [List.nil_append, List.cons_append]
  refine ObP.step (v := .bool (!th.isEmpty)) ?_ ?_
  · intro c A w' hok hC hO hD
    simp [depsL, IsV, slotv, Act.eval, Region.binds] at hD
    simp [go_sem, gd, Oper.wp, hD]
    exact WPost.mk trivial (SC1.skip (by rfl) hC) (show Value.bool _ = _ by rw [← HT0.out]; simp)
  refine ObP.some (fun _ _ => True) (fun _ _ _ _ _ => trivial) ?_ ?_
  · intro c A w' hok hC hO hD
    obtain ⟨x, rfl⟩ := hC.bits
    obtain ⟨rfl, -⟩ := hok
    have hC : w' = _ := hC
    have e2 := hO 2 (by rfl)
    simp [Act.eval] at e2
    simp [depsL, IsV, slotv, Act.eval, Region.binds] at hD
    simp only [gd, if_true]
    refine wp_store_mid _ _ _ (by rfl) w.heap.size 0 #[.slice aoD l.length capD, .slice aoT th.length capT] (by simp [Act.eval, e2]) (by simp [Act.eval, hD]) (by rw [hC]; exact thereS HPD.out.z (Nat.le_refl 2)) prg_siz (by simp [Value.oneCell']) ?_
    exact WPost.mk0 trivial (SC1.fire (by rfl) (by rw [hC])) trivial
  apply ObP.step
  case hobl =>
    intro c A w' hok hC hO hD
    simp [depsL, IsV, slotv, Act.eval, Region.binds] at hD
    simp [go_sem, gd, Oper.wp, hD]
    exact WPost.mk trivial (SC1.skip (by rfl) hC) (IsV.mk _ _)
  try simp only [List.nil_append, List.cons_append]
  refine ObP.done ?_
  intro w9 hC9
  try simp only [List.drop_succ_cons, List.drop_zero]
  intro x0 h0 x1 h1 x2 h2 x3 h3 x4 h4 x5 h5 x6 h6
  have h6' := Eq.symm (show x6 = _ from h6)
  subst h6'
  clear h0 h1 h2 h3 h4 h5 h6 KP
  refine allvals_nil ?_
  refine wpAny_end rfl ?_
  have HW9 : Hid (w9 = (W8.drewN 1).setCells w.heap.size 0 [.slice aoD l.length capD, .slice aoT th.length capT]) := Lib.hid hC9
  have HB9 : Hid (w9.heap[w.heap.size]? = some (.cells #[.slice aoD l.length capD, .slice aoT th.length capT] 26 (0, 0))) := Lib.hid (by rw [HW9.out]; exact setCells_all HPD.out.z rfl)
  clear hC9
  have y0 : w9.cell? ⟨w.heap.size, 0, none⟩ = some (.slice aoD l.length capD) := cellb HB9.out rfl
  have y1 : w9.cell? ⟨w.heap.size, 1, none⟩ = some (.slice aoT th.length capT) := cellb HB9.out rfl
  go_simp
  go_wp2_with fail
  exact bodyPost_ret (v := .tuple #[.agg #[.slice aoD l.length capD, .slice aoT th.length capT], .bool (!th.isEmpty)]) (by simp [results, Tryz.results35, go_sem, y0, y1]) rfl (by
    rw [HW9.out]
    exact prg_ok HE9.out ⟨HLE.out.1, HLE.out.2, HST.out.1, HST.out.2.1⟩ (HST.out.2.2.next (abv_below HWD.out)) (by have := HPD.out.lt; omega) HPD.out.rd HPD.out.gr HLT.out)
end Go.Proofs.YtommnhglgedflaaGreatDoor
end
