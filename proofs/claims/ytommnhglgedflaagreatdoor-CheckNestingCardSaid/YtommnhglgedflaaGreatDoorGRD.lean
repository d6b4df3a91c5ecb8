/-
  Contract of the reader's block; of all that read statements.
  A declaration under way, in memory; contracts of the reader's size and initial.
  Contract of the reader's declaration.
-/
import Derived.Test.YtommnhglgedflaaGreatDoorGPrB4
import Derived.Deep.AppendLies
import Derived.Test.YtommnhglgedflaaGreatDoorGMB
import Derived.Deep.MidRow
section
set_option linter.unusedSimpArgs false
set_option linter.unusedVariables false
namespace Go.Proofs.YtommnhglgedflaaGreatDoor
open Go.RowKit
open Md Pz
theorem inf_st0 : (Tryz.prog.info? 91).map (fun i => (i.zero, i.size, i.bytes)) = some (some (.agg zSt11), 11, 176) := by kernel_rfl
theorem inf_st : ∃ i0, Tryz.prog.info? 91 = some i0 ∧ i0.zero = some (.agg zSt11) ∧ i0.size = 11 ∧ i0.bytes = 176 := info_parts inf_st0
theorem stf_one' (x : StI) : ∀ u ∈ StI.f x, u.oneCell' = true := by
  intro u hu; simp [StI.f] at hu
  rcases hu with rfl | rfl | rfl | rfl | rfl | rfl | rfl | rfl | rfl | rfl | rfl <;> rfl
theorem app_nil : ∀ l : StL, app l .nil = l
  | .nil => rfl
  | .cons h b e r => by show StL.cons h b e (app r .nil) = _; rw [app_nil r]
theorem app_snoc (x : StI) (s : StL) : ∀ l : List StI, app (stlOf l) (app (one x.h x.b x.e) s) = app (stlOf (l ++ [x])) s
  | [] => rfl
  | y :: r => by show StL.cons y.h y.b y.e (app (stlOf r) _) = StL.cons y.h y.b y.e (app (stlOf (r ++ [x])) s); rw [app_snoc x s r]
theorem ps_end {f : Nat} {ts : Toks} (h : at' [125] ts = true) : ps (f + 1) false ts = .ok .nil ts.tail := by
  conv => lhs; unfold ps
  rw [if_pos h]
theorem ps_no {f : Nat} {ts r : Toks} (h : at' [125] ts = false) (h1 : ps f true ts = .no r) : ps (f + 1) false ts = .no r := by
  conv => lhs; unfold ps
  rw [if_neg (by rw [h]; decide), h1]
theorem ps_ok {f : Nat} {ts r : Toks} {s : StL} (h : at' [125] ts = false) (h1 : ps f true ts = .ok s r) : ps (f + 1) false ts = (ps f false r).map (app s) := by
  conv => lhs; unfold ps
  rw [if_neg (by rw [h]; decide), h1]
/-- What is known at the head of the loop. -/
def BlRel (R : Rp) (w : World) (f : Nat) (res : Res StL) (g : Nat) (v : Value) (wr : World) : Prop :=
  ∃ f' l rest, g = rest.length ∧ f' ≤ f ∧ 3 * rest.length + 2 < f' ∧ res = (ps f' false rest).map (app (stlOf l)) ∧ l.length + rest.length ≤ 4096 ∧ GrowS w.heap.size wr v l ∧ (∀ x ∈ l, StOk x.h x.b x.e) ∧ RdI wr R rest ∧ w.grownBy wr (some R.br)
theorem below_of_gr {B : Nat} {w w' : World} {g : Option Nat} (h : w.grownBy w' g) (hg : ∀ k, g = some k → B ≤ k) (hB : B ≤ w.heap.size) : Below B w w' :=
  ⟨h.os, h.tape, h.output, h.size, fun k hk => h.block k (by omega) (fun e => by have := hg k e.symm; omega)⟩
theorem rd_own {w w' : World} {R : Rp} {rest : Toks} {g : Option Nat} (h : RdI w R rest) (hg : w.grownBy w' g) (h0 : ∀ k, g = some k → R.B0 ≤ k ∧ k ≠ R.br) : RdI w' R rest := by
  obtain ⟨pos, k1, k2, k3⟩ := h.blk
  exact ⟨⟨pos, k1, k2, (hg.block _ h.lt (fun e => (h0 _ e.symm).2 rfl)).trans k3⟩, h.tok.below (below_of_gr hg (fun k hk => (h0 k hk).1) (Nat.le_trans R.b0 (Nat.le_of_lt h.lt))), h.ok, h.tl⟩
theorem gr_own {br : Nat} {w w1 w2 : World} (h : w.grownBy w1 (some br)) (hb : Below w.heap.size w1 w2) : w.grownBy w2 (some br) :=
  ⟨hb.os.trans h.os, hb.tape.trans h.tape, hb.output.trans h.output, Nat.le_trans h.size hb.size, fun k hk hn => (hb.block k hk).trans (h.block k hk hn)⟩
theorem map_eq' {α β : Type} {x : Res α} {f g : α → β} (h : ∀ a, f a = g a) : x.map f = x.map g := by
  cases x with
  | ok a r => show Res.ok (f a) r = _; rw [h]; rfl
  | no r => rfl
theorem blk_ok {R : Rp} {w wr : World} {v : Value} {l : List StI} {r : Toks} (hl : l.length ≤ 4096) (hg : GrowS w.heap.size wr v l) (hok : ∀ x ∈ l, StOk x.h x.b x.e) (hr : RdI wr R r) (hf : w.grownBy wr (some R.br)) :
    BlkP R w (.ok (stlOf l) r) (.returned (.tuple #[v, .bool true])) wr := by
  obtain ⟨ao, cap, e, hst⟩ := hg.says hok
  exact ⟨⟨ao, cap, by rw [e], by rw [stlOf_len]; exact hl, hst⟩, hr, hf⟩
set_option maxHeartbeats 4000000 in
set_option maxRecDepth 100000 in
theorem block_step (R : Rp) (f : Nat) (ts : Toks) (hf : 3 * ts.length < f) (HSS : Hid (∀ f' q, f' < f → 3 * q.length + 1 < f' → ∀ w, RdI w R q → Calls Tryz.prog 131 #[.pointer (some ⟨R.br, 0, none⟩)] w (StaP R w (ps f' true q)))) : BlkSays R f ts := by
  intro w hI
  have HI := Lib.hid hI
  have HFF := Lib.hid hf
  clear hI hf
  cases h1 : at' [123] ts
  · rw [show blk f ts = .no ts by unfold blk; rw [if_neg (by rw [h1]; decide)]]
    clear HSS
    go_enter Tryz.func109, Tryz.ntmps109
    go_wp2_with fail
    refine (accept_no R _ _ ⟨#[123]⟩ rfl h1 HI.out).mono ?_
    rintro e w1 ⟨rfl, h2⟩
    have HB := Lib.hid h2
    have HI1 := Lib.hid (HI.out.below h2)
    clear h2
    go_wp2_with fail
    go_ret2
    exact ⟨rfl, HI1.out, gr_below HB.out⟩
  · rw [show blk f ts = ps f false ts.tail by unfold blk; rw [if_pos h1]]
    have HLT := Lib.hid (at_len h1)
    have HRL := Lib.hid HI.out.len
    have HLTB := Lib.hid HI.out.lt
    obtain ⟨res, HRES⟩ : ∃ res, Hid (ps f false ts.tail = res) := ⟨_, Lib.hid rfl⟩
    rw [HRES.out]
    obtain ⟨i0, hi, hz0, hz1, hz2⟩ := inf_st
    have HIN := Lib.hid (And.intro hi (And.intro hz0 (And.intro hz1 hz2)))
    clear hi hz0 hz1 hz2
    go_enter Tryz.func109, Tryz.ntmps109
    go_wp2_with fail
    refine (accept_yes R _ _ ⟨#[123]⟩ rfl h1 HI.out).mono ?_
    rintro e w1 ⟨rfl, h2, h3⟩
    have HHD : Hid (BlRel R w f res ts.tail.length (.slice none 0 0) w1) := Lib.hid ⟨f, [], ts.tail, rfl, Nat.le_refl _, by have := HFF.out; have := HLT.out; omega, by
      rw [← HRES.out]; cases ps f false ts.tail <;> rfl, by have := HLT.out; have := HRL.out; simp only [List.length_nil]; omega, Grow.nil _ _ _ _ _ _, by simp, h2, h3⟩
    clear h2 h3 HI HRES
    go_wp2_with fail
    go_loopg [4] ts.tail.length (fun gk v4 wr => BlRel R w f res gk v4 wr)
    case atStart => exact HHD.out
    case round =>
      obtain ⟨f', l, rest, rfl, hf', hen, hres, hl, hg, hok, hr, hgr⟩ := hrel
      obtain ⟨f', rfl⟩ : ∃ n, f' = n + 1 := ⟨f' - 1, by omega⟩
      have HF := Lib.hid (And.intro hf' hen)
      have HL := Lib.hid hl
      have HG := Lib.hid hg
      have HOK := Lib.hid hok
      have HR := Lib.hid hr
      have HGR := Lib.hid hgr
      have HS := Lib.hid hres
      clear hf' hen hres hl hg hok hr hgr HHD
      cases h4 : at' [125] rest
      · have HC := Lib.hid (HSS.out f' rest (by have := HF.out.1; omega) (by have := HF.out.2; omega))
        have HRN : Hid (∀ r, ps f' true rest = .no r → res = .no r) := Lib.hid (fun r h => HS.out.trans (by rw [ps_no h4 h]; rfl))
        have HRO : Hid (∀ s r, ps f' true rest = .ok s r → res = (ps f' false r).map (fun t => app (stlOf l) (app s t)) ∧ r.length < rest.length) := Lib.hid (fun s r h => ⟨HS.out.trans (by rw [ps_ok h4 h]; exact map_map' _ _ _), ps_len f' true rest s r h⟩)
        clear HS
        generalize ps f' true rest = res2 at *
        go_wp2_with fail
        refine (accept_no R _ _ ⟨#[125]⟩ rfl h4 HR.out).mono ?_
        rintro e w2 ⟨rfl, h2⟩
        have HG2 := Lib.hid (HG.out.next (abv_below h2))
        have HR2 := Lib.hid (HR.out.below h2)
        have HGR2 := Lib.hid (grow_tr HGR.out (gr_below h2))
        clear h2 HG HR HGR
        go_wp2_with fail
        refine (HC.out _ HR2.out).mono ?_
        cases res2 with
        | no r =>
          have hs := HRN.out r rfl
          subst hs
          clear HRN HRO HC
          rintro e w3 ⟨⟨x, rfl⟩, h2, h3⟩
          have HR3 := Lib.hid h2
          have HGR3 := Lib.hid (grow_tr HGR2.out h3)
          clear h2 h3
          unfold stV
          go_wp2_with fail
          go_ret2
          exact ⟨rfl, rd_alloc HR3.out _, gr_alloc HGR3.out _⟩
        | ok s r =>
          have HSP := Lib.hid (HRO.out s r rfl)
          clear HRN HRO HC
          rintro e w3 ⟨⟨x, rfl, rfl, hok, hst⟩, h2, h3⟩
          have HG3 := Lib.hid (HG2.out.next (abv_gr h3 HLTB.out))
          have HR3 := Lib.hid h2
          have HGR3 := Lib.hid (grow_tr HGR2.out h3)
          have HX3 := Lib.hid hst
          have HOX := Lib.hid hok
          have HSZ : Hid (w2.heap.size ≤ w3.heap.size ∧ w.heap.size ≤ w2.heap.size) := Lib.hid ⟨h3.size, HGR2.out.size⟩
          have HLO := Lib.hid HG2.out.lt
          clear h2 h3 hst hok HG2 HR2 HGR2
          unfold stV
          go_upto_region 6 with fail
          obtain ⟨gs, hg⟩ : ∃ g, w3.heap.size = g := ⟨_, rfl⟩
          generalize hW : World.alloc w3 _ = W4
          have HG4 : Hid (GrowS w.heap.size W4 u4 l) := Lib.hid (by rw [← hW]; exact HG3.out.next (abv_below (alloc_below _ _)))
          have HR4 : Hid (RdI W4 R r) := Lib.hid (by rw [← hW]; exact rd_alloc HR3.out _)
          have HGR4 : Hid (w.grownBy W4 (some R.br)) := Lib.hid (by rw [← hW]; exact gr_alloc HGR3.out _)
          have HX4 : Hid (Stay w2.heap.size W4 (StI.I x)) := Lib.hid (by rw [← hW]; exact HX3.out.next (abv_below (alloc_below _ _)))
          have HB4 : Hid (W4.heap[gs]? = some (.cells (StI.f x).toArray 91 (0, 0))) := Lib.hid (by rw [← hW, ← hg]; exact heap_alloc_new _ _)
          rw [hg]
          clear hW hg HG3 HR3 HGR3 HX3
          obtain ⟨d0, d1, d2, d3, d4, d5, d6, d7, d8, d9, d10⟩ : (W4.cell? ⟨gs, 0, none⟩ = some (.int .i64 x.h.op) ∧ W4.cell? ⟨gs, 1, none⟩ = some (.int .i64 x.h.line) ∧ W4.cell? ⟨gs, 2, none⟩ = some (.string x.h.nm) ∧ W4.cell? ⟨gs, 3, none⟩ = some (.string x.h.arg) ∧ W4.cell? ⟨gs, 4, none⟩ = some (.slice x.s.aoi x.h.idx.len x.s.capi) ∧ W4.cell? ⟨gs, 5, none⟩ = some (.int .i64 x.h.xop) ∧ W4.cell? ⟨gs, 6, none⟩ = some (.int .i64 x.h.xn) ∧ W4.cell? ⟨gs, 7, none⟩ = some (.string x.h.xnm) ∧ W4.cell? ⟨gs, 8, none⟩ = some (.slice x.s.aox x.h.xkids.len x.s.capx) ∧ W4.cell? ⟨gs, 9, none⟩ = some (.slice x.s.aob x.b.len x.s.capb) ∧ W4.cell? ⟨gs, 10, none⟩ = some (.slice x.s.aoe x.e.len x.s.cape)) := ⟨cellb HB4.out rfl, cellb HB4.out rfl, cellb HB4.out rfl, cellb HB4.out rfl, cellb HB4.out rfl, cellb HB4.out rfl, cellb HB4.out rfl, cellb HB4.out rfl, cellb HB4.out rfl, cellb HB4.out rfl, cellb HB4.out rfl⟩
          have HGA := Lib.hid (HG4.out.next (abv_below (alloc_below W4 (.cells (StI.f x).toArray 91))))
          have HNC := Lib.hid (new_cells (heap_alloc_new W4 (.cells (StI.f x).toArray 91)))
          have HSW : Hid (w.heap.size ≤ W4.heap.size) := Lib.hid HGR4.out.size
          obtain ⟨hi, hz0, hz1, hz2⟩ := HIN.out
          have hbs : w.heap.size ≤ W4.heap.size + 1 := Nat.le_succ_of_le HSW.out
          have hkl : l.length + 1 ≤ maxLen := by have := HL.out; unfold maxLen; omega
          have hk176 : (l.length + 1) * 176 ≤ 140737488355328 := by have := HL.out; omega
          go_wp2_with (at_builtin; refine wpList_append_lies _ rfl _ _ 61 rfl w.heap.size 91 i0 _ 11 176 Tryz.underlying61 hi hz0 hz1 hz2 rfl (by decide) _ _ _ rfl HGA.out.own ⟨W4.heap.size, 0, none⟩ 1 1 (StI.f x) rfl rfl HNC.out (stf_one' _) (by decide) hkl hk176 (by simpa using hbs) _ rfl ?_)
          clear hi hz0 hz1 hz2 d0 d1 d2 d3 d4 d5 d6 d7 d8 d9 d10
          intro g cap w5 hown hgr hmv hlt2
          have HX5 : Hid (StayX w.heap.size u4.ownBlock (W4.alloc (.cells (StI.f x).toArray 91)) (StI.I x)) := Lib.hid (stayX_of (HX4.out.next (abv_below (alloc_below _ _))) HSZ.out.2 (fun k hk => (HLO.out k hk).2))
          have HG5 := Lib.hid (HGA.out.push HX5.out rfl hown hgr (by simpa using hmv))
          have HB5 : Hid (Below w.heap.size (W4.alloc (.cells (StI.f x).toArray 91)) w5) := Lib.hid (below_of_gr hgr (fun k hk => (HLO.out k hk).1) (by simpa using hbs))
          have HR5 : Hid (RdI w5 R r) := Lib.hid (rd_own (rd_alloc HR4.out _) hgr (fun k hk => by have h1 := (HLO.out k hk).1; have h2 := HLTB.out; have h3 := R.b0; omega))
          have HGR5 : Hid (w.grownBy w5 (some R.br)) := Lib.hid (gr_own (gr_alloc HGR4.out _) HB5.out)
          have HOK5 : Hid (∀ y ∈ l ++ [x], StOk y.h y.b y.e) := Lib.hid (fun y hy => by
            rcases List.mem_append.1 hy with hy | hy
            · exact HOK.out y hy
            · rw [List.mem_singleton.1 hy]; exact HOX.out)
          have HRS : Hid (res = (ps f' false r).map (app (stlOf (l ++ [x])))) := Lib.hid (HSP.out.1.trans (map_eq' (fun t => app_snoc x t l)))
          have HLR := Lib.hid HSP.out.2
          clear hown hgr hmv hlt2 hbs hkl hk176 HX5 HX4 HNC HGA HB5 HSP
          go_wp2_with fail
          go_roundg r.length
          case measure => exact HLR.out
          case rel => exact ⟨f', l ++ [x], r, rfl, by have := HF.out.1; omega, by have h1 := HF.out.2; have h2 := HLR.out; omega, HRS.out, by have h1 := HL.out; have h2 := HLR.out; simp only [List.length_append, List.length_singleton]; omega, HG5.out, HOK5.out, HR5.out, HGR5.out⟩
      · have hs := HS.out.trans (by rw [ps_end h4]; rfl : _ = Res.ok (app (stlOf l) .nil) rest.tail)
        rw [app_nil] at hs
        subst hs
        clear HS
        go_wp2_with fail
        refine (accept_yes R _ _ ⟨#[125]⟩ rfl h4 HR.out).mono ?_
        rintro e w2 ⟨rfl, h2, h3⟩
        have HG2 := Lib.hid (HG.out.next (abv_gr h3 HLTB.out))
        have HR2 := Lib.hid h2
        have HGR2 := Lib.hid (grow_tr HGR.out h3)
        clear h2 h3
        go_wp2_with fail
        go_ret2
        exact blk_ok (by have := HL.out; omega) HG2.out HOK.out HR2.out HGR2.out
/-- What reads statements, for every text. -/
theorem stmt_says (R : Rp) : ∀ f : Nat, (∀ ts, 3 * ts.length < f → BlkSays R f ts) ∧ (∀ q, 3 * q.length + 1 < f → ∀ w, RdI w R q → Calls Tryz.prog 131 #[.pointer (some ⟨R.br, 0, none⟩)] w (StaP R w (ps f true q))) := by
  intro f
  induction f using Nat.strongRecOn with
  | ind f ih =>
    refine ⟨fun ts hf => block_step R f ts hf (Lib.hid fun f' q h1 h2 => (ih f' h1).2 q h2), fun q hq w hI => ?_⟩
    obtain ⟨f', rfl⟩ : ∃ n, f = n + 1 := ⟨f - 1, by omega⟩
    exact statement_step R f' q (Lib.hid fun r hr => (ih f' (by omega)).1 r (by omega)) w hI
theorem block_any (R : Rp) (f : Nat) (ts : Toks) (hf : 3 * ts.length < f) (w : World) (hI : RdI w R ts) :
    Calls Tryz.prog 109 #[.pointer (some ⟨R.br, 0, none⟩)] w (BlkP R w (blk f ts)) := (stmt_says R f).1 ts hf w hI
end Go.Proofs.YtommnhglgedflaaGreatDoor
end
section
set_option linter.unusedSimpArgs false
set_option linter.unusedVariables false
namespace Go.Proofs.YtommnhglgedflaaGreatDoor
open Go.RowKit
open Md Pz
/-- A declaration under way. -/
structure Pd (R : Rp) (bd : Nat) (w : World) (d : De) (rest : Toks) : Prop where
  rd : RdI w R rest
  ne : bd ≠ R.br
  b0 : R.B0 ≤ bd
  blk : w.heap[bd]? = some (.cells (deF d).toArray 58 (0, 0))
  ok : d.Ok
section
variable {R : Rp} {bd : Nat} {w W W' : World} {d : De} {rest rest' : Toks}
theorem Pd.lt (h : Pd R bd W d rest) : bd < W.heap.size := (Array.getElem?_eq_some_iff.1 h.blk).1
theorem Pd.then (h : Pd R bd W d rest) (h1 : RdI W' R rest') (h2 : W.grownBy W' (some R.br)) : Pd R bd W' d rest' :=
  ⟨h1, h.ne, h.b0, (h2.block _ h.lt (by simp; exact h.ne)).trans h.blk, h.ok⟩
theorem Pd.below (h : Pd R bd W d rest) (hb : Below W.heap.size W W') : Pd R bd W' d rest := h.then (h.rd.below hb) (gr_below hb)
theorem Pd.put (h : Pd R bd W d rest) (j : Nat) (v : Value) {y : De} (hy : (deF d).toArray.setIfInBounds j v = (deF y).toArray) (hok : y.Ok) : Pd R bd (W.setCell ⟨bd, j, none⟩ v) y rest :=
  ⟨rd_set h.rd _ v h.b0 h.ne, h.ne, h.b0, by rw [setCell_blk h.blk, hy], hok⟩
theorem Pd.nm (h : Pd R bd W d rest) (s : ByteArray) (hs : s.size ≤ maxLen) : Pd R bd (W.setCell ⟨bd, 2, none⟩ (.string s)) { d with nm := s } rest :=
  h.put 2 _ rfl ⟨h.ok.1, h.ok.2.1, hs, h.ok.2.2.2⟩
theorem Pd.size (h : Pd R bd W d rest) (n : Int) (hn : I64 n) : Pd R bd (W.setCell ⟨bd, 3, none⟩ (.int .i64 n)) { d with size := n } rest :=
  h.put 3 _ rfl ⟨h.ok.1, h.ok.2.1, h.ok.2.2.1, hn, h.ok.2.2.2.2⟩
theorem Pd.init (h : Pd R bd W d rest) (n : Int) (hn : I64 n) : Pd R bd (W.setCell ⟨bd, 4, none⟩ (.int .i64 n)) { d with init := n } rest :=
  h.put 4 _ rfl ⟨h.ok.1, h.ok.2.1, h.ok.2.2.1, h.ok.2.2.2.1, hn, h.ok.2.2.2.2.2⟩
theorem Pd.on (h : Pd R bd W d rest) (s : ByteArray) (hs : s.size ≤ maxLen) : Pd R bd (W.setCell ⟨bd, 5, none⟩ (.string s)) { d with on := s } rest :=
  h.put 5 _ rfl ⟨h.ok.1, h.ok.2.1, h.ok.2.2.1, h.ok.2.2.2.1, h.ok.2.2.2.2.1, hs⟩
theorem Pd.cell (h : Pd R bd W d rest) {j : Nat} {u : Value} (hu : (deF d).toArray[j]? = some u) : W.cell? ⟨bd, j, none⟩ = some u := cellb h.blk hu
theorem Pd.free (h : Pd R bd W d rest) (j : Nat) : W.frozen? ⟨bd, j, none⟩ = false := free_blk h.blk
end
/-- What a method that reads into a declaration leaves. -/
def DmP (R : Rp) (bd : Nat) (w : World) (res : Res De) (e : Ending) (w' : World) : Prop :=
  match res with
  | .ok d r => e = .returned (.bool true) ∧ Pd R bd w' d r ∧ Fr R.br bd w w'
  | .no r => e = .returned (.bool false) ∧ (∃ d, Pd R bd w' d r) ∧ Fr R.br bd w w'
theorem dm_ok {R : Rp} {bd : Nat} {w W : World} {res : Res De} {d : De} {r : Toks} (e : res = .ok d r) (h : Pd R bd W d r) (hf : Fr R.br bd w W) : DmP R bd w res (.returned (.bool true)) W := by subst e; exact ⟨rfl, h, hf⟩
theorem dm_no {R : Rp} {bd : Nat} {w W : World} {res : Res De} {d : De} {r : Toks} (e : res = .no r) (h : Pd R bd W d r) (hf : Fr R.br bd w W) : DmP R bd w res (.returned (.bool false)) W := by subst e; exact ⟨rfl, ⟨d, h⟩, hf⟩
theorem Fr.gr' {br bs : Nat} {w w1 w2 : World} (h : Fr br bs w w1) (k : w1.grownBy w2 (some br)) : Fr br bs w w2 := h.trans (Fr.of_gr k)
/-- One token back. -/
theorem RdI.back {w1 w : World} {R : Rp} {q : Toks} (h1 : RdI w1 R q) (hq : isNum q = true) (h : RdI w R q.tail) : ∃ pos : Nat, (1 ≤ pos ∧ pos ≤ 4096) ∧ w.cell? ⟨R.br, 1, none⟩ = some (.int .i64 (pos : Int)) ∧ w.frozen? ⟨R.br, 1, none⟩ = false ∧
    Hid (RdI (w.setCell ⟨R.br, 1, none⟩ (.int .i64 ((pos : Int) - 1))) R q ∧ w.grownBy (w.setCell ⟨R.br, 1, none⟩ (.int .i64 ((pos : Int) - 1))) (some R.br)) := by
  obtain ⟨p1, a1, a2, -⟩ := h1.blk
  obtain ⟨pos, b1, b2, b3⟩ := h.blk
  have hl := num_len hq
  have e1 := congrArg List.length a2
  have e2 := congrArg List.length b2
  simp only [List.length_drop, List.length_tail] at e1 e2 hl
  have hp : pos = p1 + 1 := by omega
  have := h.ok.2
  refine ⟨pos, ⟨by omega, by omega⟩, cellb b3 rfl, free_blk b3, Lib.hid ⟨⟨⟨p1, a1, a2, ?_⟩, h.tok.below (grown_below (setCell_grown w ⟨R.br, 1, none⟩ _) R.b0 (Nat.le_trans R.b0 (Nat.le_of_lt h.lt))), h.ok, h.tl⟩, setCell_grown w ⟨R.br, 1, none⟩ _⟩⟩
  rw [setCell_blk b3, show (pos : Int) - 1 = (p1 : Int) by omega]; rfl
theorem sizeR_no {d : De} {ts : Toks} (h : at' [91] ts = false) : sizeR d ts = .ok d ts := by unfold sizeR; rw [if_neg (by rw [h]; decide)]
theorem sizeR_nn {d : De} {ts : Toks} (h : at' [91] ts = true) (h1 : isNum ts.tail = false) : sizeR d ts = .no ts.tail := by unfold sizeR; rw [if_pos h, if_neg (by rw [h1]; decide)]
theorem sizeR_z {d : De} {ts : Toks} (h : at' [91] ts = true) (h1 : isNum ts.tail = true) (h2 : (Tk.val (nextT ts.tail) == 0) = true) : sizeR d ts = .no ts.tail := by unfold sizeR; rw [if_pos h, if_pos h1, if_pos h2]
theorem sizeR_y {d : De} {ts : Toks} (h : at' [91] ts = true) (h1 : isNum ts.tail = true) (h2 : (Tk.val (nextT ts.tail) == 0) = false) : sizeR d ts = (need [93] ts.tail.tail).map fun _ => { d with size := (Tk.val (nextT ts.tail) : Nat) } := by unfold sizeR; rw [if_pos h, if_pos h1, if_neg (by rw [h2]; decide)]
set_option maxHeartbeats 1000000 in
set_option maxRecDepth 100000 in
theorem size_any (R : Rp) (bd : Nat) (ts : Toks) (d : De) (w : World) (hp : Pd R bd w d ts) :
    Calls Tryz.prog 106 #[.pointer (some ⟨R.br, 0, none⟩), .pointer (some ⟨bd, 0, none⟩)] w (DmP R bd w (sizeR d ts)) := by
  have HP := Lib.hid hp
  clear hp
  cases h1 : at' [91] ts
  · have HE := Lib.hid (sizeR_no (d := d) h1)
    go_enter Tryz.func106, Tryz.ntmps106
    go_wp2_with fail
    refine (accept_no R _ _ ⟨#[91]⟩ rfl h1 HP.out.rd).mono ?_
    rintro e w1 ⟨rfl, h2⟩
    have HP1 := Lib.hid (HP.out.below h2)
    have HF := Lib.hid (Fr.of_gr (br := R.br) (bs := bd) (gr_below h2))
    clear h2
    go_wp2_with fail
    go_ret
    exact dm_ok HE.out HP1.out HF.out
  · cases h2 : isNum ts.tail
    · have HE := Lib.hid (sizeR_nn (d := d) h1 h2)
      go_enter Tryz.func106, Tryz.ntmps106
      go_wp2_with fail
      refine (accept_yes R _ _ ⟨#[91]⟩ rfl h1 HP.out.rd).mono ?_
      rintro e w1 ⟨rfl, k2, k3⟩
      have HP1 := Lib.hid (HP.out.then k2 k3)
      have HF1 := Lib.hid (Fr.of_gr (bs := bd) k3)
      clear k2 k3
      go_wp2_with fail
      refine (num_no R _ _ h2 HP1.out.rd).mono ?_
      rintro e w2 ⟨rfl, h3⟩
      have HP2 := Lib.hid (HP1.out.below h3)
      have HF2 := Lib.hid (HF1.out.gr' (gr_below h3))
      clear h3
      go_wp2_with fail
      go_ret
      exact dm_no HE.out HP2.out HF2.out
    · cases h3 : (Tk.val (nextT ts.tail) == 0)
      · have HE0 := Lib.hid (sizeR_y (d := d) h1 h2 h3)
        have h3' : (((Tk.val (nextT ts.tail) : Nat) : Int) == 0) = false := by rw [beq_eq_false_iff_ne] at h3 ⊢; omega
        have HV : Hid (I64 ((Tk.val (nextT ts.tail) : Nat) : Int)) := Lib.hid (by have := num_le HP.out.rd.ts.tail h2; unfold I64; omega)
        go_enter Tryz.func106, Tryz.ntmps106
        go_wp2_with fail
        refine (accept_yes R _ _ ⟨#[91]⟩ rfl h1 HP.out.rd).mono ?_
        rintro e w1 ⟨rfl, k2, k3⟩
        have HP1 := Lib.hid (HP.out.then k2 k3)
        have HF1 := Lib.hid (Fr.of_gr (bs := bd) k3)
        clear k2 k3
        go_wp2_with fail
        refine (num_yes R _ _ h2 HP1.out.rd).mono ?_
        rintro e w2 ⟨rfl, k2, k3⟩
        have HP2 := Lib.hid (HP1.out.then k2 k3)
        have HF2 := Lib.hid (HF1.out.gr' k3)
        clear k2 k3
        have c3 := HP2.out.cell (j := 3) rfl
        have f3 := HP2.out.free 3
        go_upto_region 10 with fail
        generalize hW : World.setCell w2 _ _ = W
        have HP3 : Hid (Pd R bd W { d with size := (Tk.val (nextT ts.tail) : Nat) } ts.tail.tail) := Lib.hid (by rw [← hW]; exact HP2.out.size _ HV.out)
        have HF3 : Hid (Fr R.br bd w W) := Lib.hid (by rw [← hW]; exact HF2.out.set _ _ (.inl rfl))
        clear hW c3 f3 HP2 HF2
        cases h4 : at' [93] ts.tail.tail
        · have HE := Lib.hid (HE0.out.trans (by rw [need_not h4] : _ = Res.map _ (Res.no ts.tail.tail)))
          go_wp2_with fail
          refine (accept_no R _ _ ⟨#[93]⟩ rfl h4 HP3.out.rd).mono ?_
          rintro e w4 ⟨rfl, k2⟩
          have HP4 := Lib.hid (HP3.out.below k2)
          have HF4 := Lib.hid (HF3.out.gr' (gr_below k2))
          clear k2
          go_wp2_with fail
          go_ret
          exact dm_no HE.out HP4.out HF4.out
        · have HE := Lib.hid (HE0.out.trans (by rw [need_yes h4] : _ = Res.map _ (Res.ok () ts.tail.tail.tail)))
          go_wp2_with fail
          refine (accept_yes R _ _ ⟨#[93]⟩ rfl h4 HP3.out.rd).mono ?_
          rintro e w4 ⟨rfl, k2, k3⟩
          have HP4 := Lib.hid (HP3.out.then k2 k3)
          have HF4 := Lib.hid (HF3.out.gr' k3)
          clear k2 k3
          go_wp2_with fail
          go_ret
          exact dm_ok HE.out HP4.out HF4.out
      · have HE := Lib.hid (sizeR_z (d := d) h1 h2 h3)
        have hz : Tk.val (nextT ts.tail) = 0 := by simpa using h3
        go_enter Tryz.func106, Tryz.ntmps106
        go_wp2_with fail
        refine (accept_yes R _ _ ⟨#[91]⟩ rfl h1 HP.out.rd).mono ?_
        rintro e w1 ⟨rfl, k2, k3⟩
        have HP1 := Lib.hid (HP.out.then k2 k3)
        have HF1 := Lib.hid (Fr.of_gr (bs := bd) k3)
        clear k2 k3
        go_wp2_with fail
        refine (num_yes R _ _ h2 HP1.out.rd).mono ?_
        rw [hz]
        rintro e w2 ⟨rfl, k2, k3⟩
        obtain ⟨pos, ⟨hp1, hp2⟩, q1, f1, HX⟩ := HP1.out.rd.back h2 k2
        have HP2 := Lib.hid (HP1.out.then k2 k3)
        have HF2 := Lib.hid (HF1.out.gr' k3)
        have hq1 : (1 : Int) ≤ (pos : Int) := by omega
        have hq2 : (pos : Int) ≤ 4096 := by omega
        clear k2 k3 hz
        go_wp2_with fail
        go_ret
        exact dm_no HE.out (HP2.out.then HX.out.1 HX.out.2) (HF2.out.gr' HX.out.2)
theorem initR_0 {d : De} {ts : Toks} (h : at' [61] ts = false) : initR d ts = .ok d ts := by unfold initR; rw [if_neg (by rw [h]; decide)]
theorem initR_mn {d : De} {ts : Toks} (h : at' [61] ts = true) (h1 : at' [45] ts.tail = true) (h2 : isNum ts.tail.tail = false) : initR d ts = .no ts.tail.tail := by unfold initR; rw [if_pos h, if_pos h1, if_neg (by rw [h2]; decide)]
theorem initR_my {d : De} {ts : Toks} (h : at' [61] ts = true) (h1 : at' [45] ts.tail = true) (h2 : isNum ts.tail.tail = true) : initR d ts = .ok { d with init := -(Tk.val (nextT ts.tail.tail) : Nat) } ts.tail.tail.tail := by unfold initR; rw [if_pos h, if_pos h1, if_pos h2]
theorem initR_pn {d : De} {ts : Toks} (h : at' [61] ts = true) (h1 : at' [45] ts.tail = false) (h2 : isNum ts.tail = false) : initR d ts = .no ts.tail := by unfold initR; rw [if_pos h, if_neg (by rw [h1]; decide), if_neg (by rw [h2]; decide)]
theorem initR_py {d : De} {ts : Toks} (h : at' [61] ts = true) (h1 : at' [45] ts.tail = false) (h2 : isNum ts.tail = true) : initR d ts = .ok { d with init := (Tk.val (nextT ts.tail) : Nat) } ts.tail.tail := by unfold initR; rw [if_pos h, if_neg (by rw [h1]; decide), if_pos h2]
set_option maxHeartbeats 1000000 in
set_option maxRecDepth 100000 in
theorem initial_any (R : Rp) (bd : Nat) (ts : Toks) (d : De) (w : World) (hp : Pd R bd w d ts) :
    Calls Tryz.prog 107 #[.pointer (some ⟨R.br, 0, none⟩), .pointer (some ⟨bd, 0, none⟩)] w (DmP R bd w (initR d ts)) := by
  have HP := Lib.hid hp
  clear hp
  cases h1 : at' [61] ts
  · have HE := Lib.hid (initR_0 (d := d) h1)
    go_enter Tryz.func107, Tryz.ntmps107
    go_wp2_with fail
    refine (accept_no R _ _ ⟨#[61]⟩ rfl h1 HP.out.rd).mono ?_
    rintro e w1 ⟨rfl, h2⟩
    have HP1 := Lib.hid (HP.out.below h2)
    have HF := Lib.hid (Fr.of_gr (br := R.br) (bs := bd) (gr_below h2))
    clear h2
    go_wp2_with fail
    go_ret
    exact dm_ok HE.out HP1.out HF.out
  · cases hm : at' [45] ts.tail
    · cases h2 : isNum ts.tail
      · have HE := Lib.hid (initR_pn (d := d) h1 hm h2)
        go_enter Tryz.func107, Tryz.ntmps107
        go_wp2_with fail
        refine (accept_yes R _ _ ⟨#[61]⟩ rfl h1 HP.out.rd).mono ?_
        rintro e w1 ⟨rfl, k2, k3⟩
        have HP1 := Lib.hid (HP.out.then k2 k3)
        have HF1 := Lib.hid (Fr.of_gr (bs := bd) k3)
        clear k2 k3
        go_wp2_with fail
        refine (accept_no R _ _ ⟨#[45]⟩ rfl hm HP1.out.rd).mono ?_
        rintro e w1 ⟨rfl, k2⟩
        have HP2 := Lib.hid (HP1.out.below k2)
        have HF2 := Lib.hid (HF1.out.gr' (gr_below k2))
        clear k2
        go_wp2_with fail
        refine (num_no R _ _ h2 HP2.out.rd).mono ?_
        rintro e w2 ⟨rfl, k2⟩
        have HP3 := Lib.hid (HP2.out.below k2)
        have HF3 := Lib.hid (HF2.out.gr' (gr_below k2))
        clear k2
        go_wp2_with fail
        go_ret
        exact dm_no HE.out HP3.out HF3.out
      · have HE := Lib.hid (initR_py (d := d) h1 hm h2)
        have HV : Hid (I64 ((Tk.val (nextT ts.tail) : Nat) : Int)) := Lib.hid (by have := num_le HP.out.rd.ts.tail h2; unfold I64; omega)
        go_enter Tryz.func107, Tryz.ntmps107
        go_wp2_with fail
        refine (accept_yes R _ _ ⟨#[61]⟩ rfl h1 HP.out.rd).mono ?_
        rintro e w1 ⟨rfl, k2, k3⟩
        have HP1 := Lib.hid (HP.out.then k2 k3)
        have HF1 := Lib.hid (Fr.of_gr (bs := bd) k3)
        clear k2 k3
        go_wp2_with fail
        refine (accept_no R _ _ ⟨#[45]⟩ rfl hm HP1.out.rd).mono ?_
        rintro e w1 ⟨rfl, k2⟩
        have HP2 := Lib.hid (HP1.out.below k2)
        have HF2 := Lib.hid (HF1.out.gr' (gr_below k2))
        clear k2
        go_wp2_with fail
        refine (num_yes R _ _ h2 HP2.out.rd).mono ?_
        rintro e w2 ⟨rfl, k2, k3⟩
        have HP3 := Lib.hid (HP2.out.then k2 k3)
        have HF3 := Lib.hid (HF2.out.gr' k3)
        clear k2 k3
        have c4 := HP3.out.cell (j := 4) rfl
        have f4 := HP3.out.free 4
        go_wp2_with fail
        go_ret
        exact dm_ok HE.out (HP3.out.init _ HV.out) (HF3.out.set _ _ (.inl rfl))
    · cases h2 : isNum ts.tail.tail
      · have HE := Lib.hid (initR_mn (d := d) h1 hm h2)
        go_enter Tryz.func107, Tryz.ntmps107
        go_wp2_with fail
        refine (accept_yes R _ _ ⟨#[61]⟩ rfl h1 HP.out.rd).mono ?_
        rintro e w1 ⟨rfl, k2, k3⟩
        have HP1 := Lib.hid (HP.out.then k2 k3)
        have HF1 := Lib.hid (Fr.of_gr (bs := bd) k3)
        clear k2 k3
        go_wp2_with fail
        refine (accept_yes R _ _ ⟨#[45]⟩ rfl hm HP1.out.rd).mono ?_
        rintro e w1 ⟨rfl, k2, k3⟩
        have HP2 := Lib.hid (HP1.out.then k2 k3)
        have HF2 := Lib.hid (HF1.out.gr' k3)
        clear k2 k3
        go_wp2_with fail
        refine (num_no R _ _ h2 HP2.out.rd).mono ?_
        rintro e w2 ⟨rfl, k2⟩
        have HP3 := Lib.hid (HP2.out.below k2)
        have HF3 := Lib.hid (HF2.out.gr' (gr_below k2))
        clear k2
        go_wp2_with fail
        go_ret
        exact dm_no HE.out HP3.out HF3.out
      · have HE := Lib.hid (initR_my (d := d) h1 hm h2)
        have hv := num_le HP.out.rd.ts.tail.tail h2
        have HV : Hid (I64 (-((Tk.val (nextT ts.tail.tail) : Nat) : Int))) := Lib.hid (by unfold I64; omega)
        have hv0 : (0 : Int) ≤ ((Tk.val (nextT ts.tail.tail) : Nat) : Int) := by omega
        have hng : IntKind.i64.wrap (-((Tk.val (nextT ts.tail.tail) : Nat) : Int)) = -((Tk.val (nextT ts.tail.tail) : Nat) : Int) := IntWalk.i64_in _ (by omega)
        have HNY := Lib.hid (fun w hI => num_yes R ts.tail.tail w h2 hI)
        generalize ((Tk.val (nextT ts.tail.tail) : Nat) : Int) = n at *
        go_enter Tryz.func107, Tryz.ntmps107
        go_wp2_with fail
        refine (accept_yes R _ _ ⟨#[61]⟩ rfl h1 HP.out.rd).mono ?_
        rintro e w1 ⟨rfl, k2, k3⟩
        have HP1 := Lib.hid (HP.out.then k2 k3)
        have HF1 := Lib.hid (Fr.of_gr (bs := bd) k3)
        clear k2 k3
        go_wp2_with fail
        refine (accept_yes R _ _ ⟨#[45]⟩ rfl hm HP1.out.rd).mono ?_
        rintro e w1 ⟨rfl, k2, k3⟩
        have HP2 := Lib.hid (HP1.out.then k2 k3)
        have HF2 := Lib.hid (HF1.out.gr' k3)
        clear k2 k3
        go_wp2_with fail
        refine (HNY.out _ HP2.out.rd).mono ?_
        rintro e w2 ⟨rfl, k2, k3⟩
        have HP3 := Lib.hid (HP2.out.then k2 k3)
        have HF3 := Lib.hid (HF2.out.gr' k3)
        clear k2 k3
        have c4 := HP3.out.cell (j := 4) rfl
        have f4 := HP3.out.free 4
        go_wp2_with fail
        go_ret
        exact dm_ok HE.out (HP3.out.init _ HV.out) (HF3.out.set _ _ (.inl rfl))
end Go.Proofs.YtommnhglgedflaaGreatDoor
end
section
set_option linter.unusedSimpArgs false
set_option linter.unusedVariables false
namespace Go.Proofs.YtommnhglgedflaaGreatDoor
open Go.RowKit
open Md Pz
theorem allvals_nil {w : World} {K : Act → Prop} {a : Act} (h : K a) : AllVals w K [] a := h
def dvV (d : De) : Value := .agg #[.int .i64 d.kind, .int .i64 d.line, .string d.nm, .int .i64 d.size, .int .i64 d.init, .string d.on]
/-- What a declaration's reading leaves. -/
def DecP (R : Rp) (w : World) (res : Res De) (e : Ending) (w' : World) : Prop :=
  match res with
  | .ok d r => (d.Ok ∧ e = .returned (.tuple #[dvV d, .bool true])) ∧ RdI w' R r ∧ w.grownBy w' (some R.br)
  | .no r => (∃ d, e = .returned (.tuple #[dvV d, .bool false])) ∧ RdI w' R r ∧ w.grownBy w' (some R.br)
def zD6 : Array Value := #[.int .i64 0, .int .i64 0, .string ⟨#[]⟩, .int .i64 0, .int .i64 0, .string ⟨#[]⟩]
theorem de_siz : (Tryz.prog.info? 58).map (·.size) = some 6 := by kernel_rfl
theorem z6 {w : World} {b : Nat} {t : TypeId} (h : w.heap[b]? = some (.cells zD6 t (0, 0))) :
    (w.cell? ⟨b, 0, none⟩ = some (.int .i64 0) ∧ w.cell? ⟨b, 1, none⟩ = some (.int .i64 0) ∧ w.cell? ⟨b, 2, none⟩ = some (.string ⟨#[]⟩) ∧ w.cell? ⟨b, 3, none⟩ = some (.int .i64 0) ∧ w.cell? ⟨b, 4, none⟩ = some (.int .i64 0) ∧ w.cell? ⟨b, 5, none⟩ = some (.string ⟨#[]⟩)) ∧ ∀ j, w.frozen? ⟨b, j, none⟩ = false :=
  ⟨⟨cellb h rfl, cellb h rfl, cellb h rfl, cellb h rfl, cellb h rfl, cellb h rfl⟩, fun _ => free_blk h⟩
theorem pd_cells {R : Rp} {bd : Nat} {W : World} {d : De} {r : Toks} (h : Pd R bd W d r) :
    W.cell? ⟨bd, 0, none⟩ = some (.int .i64 d.kind) ∧ W.cell? ⟨bd, 1, none⟩ = some (.int .i64 d.line) ∧ W.cell? ⟨bd, 2, none⟩ = some (.string d.nm) ∧ W.cell? ⟨bd, 3, none⟩ = some (.int .i64 d.size) ∧ W.cell? ⟨bd, 4, none⟩ = some (.int .i64 d.init) ∧ W.cell? ⟨bd, 5, none⟩ = some (.string d.on) :=
  ⟨h.cell rfl, h.cell rfl, h.cell rfl, h.cell rfl, h.cell rfl, h.cell rfl⟩
/-- The declaration is copied into the result. -/
theorem dec_ok {R : Rp} {w W : World} {d : De} {r : Toks} {res : Res De} (e : res = .ok d r) (hok : d.Ok) (hr : RdI W R r) (hg : w.grownBy W (some R.br)) (hl : R.br < w.heap.size) :
    DecP R w res (.returned (.tuple #[dvV d, .bool true])) (W.setCells w.heap.size 0 (deF d)) := by
  subst e
  exact ⟨⟨hok, rfl⟩, rd_other hr (setCells_grown _ _ _ _) (by have := R.b0; omega) (by omega), gr_setCells hg _ _ _ (Nat.le_refl _)⟩
theorem dec_no {R : Rp} {w W : World} {d : De} {r : Toks} {res : Res De} (e : res = .no r) (hr : RdI W R r) (hg : w.grownBy W (some R.br)) (hl : R.br < w.heap.size) :
    DecP R w res (.returned (.tuple #[dvV d, .bool false])) (W.setCells w.heap.size 0 (deF d)) := by
  subst e
  exact ⟨⟨d, rfl⟩, rd_other hr (setCells_grown _ _ _ _) (by have := R.b0; omega) (by omega), gr_setCells hg _ _ _ (Nat.le_refl _)⟩
/-- What is read behind a declaration's name. -/
def kindR (d : De) (r : Toks) : Res De := if d.kind == 1 then (sizeR d r).bind initR else if d.kind == 2 then initR d r else if d.kind == 5 then (nameR r).map (fun o => { d with on := o }) else .ok d r
theorem declR_k (ts : Toks) : declR ts = ((nameR ts.tail).bind fun s r => kindR ⟨dcOf (nextT ts), nextL ts, s, 0, 0, ⟨#[]⟩⟩ r).close [59] := rfl
theorem fr_own {br bd : Nat} {w w1 w2 : World} (h : w.grownBy w1 (some br)) (hf : Fr br bd w1 w2) (hb : w.heap.size ≤ bd) : w.grownBy w2 (some br) :=
  ⟨hf.os.trans h.os, hf.tape.trans h.tape, hf.output.trans h.output, Nat.le_trans h.size hf.size, fun k hk hn => (hf.block k (Nat.lt_of_lt_of_le hk h.size) (by simpa using hn) (by omega)).trans (h.block k hk hn)⟩
/-- A call, then a store. -/
def DC2 (P Q S : World → Prop) : List Bool → World → Prop
  | [x, y], w => if y then S w else if x then Q w else P w
  | _, _ => False
section
variable {P Q S : World → Prop} {c : List Bool} {w w' : World} {k l i : Nat}
theorem DC2.bits (h : DC2 P Q S c w) : ∃ x y, c = [x, y] := by
  match c, h with
  | [x, y], _ => exact ⟨x, y, rfl⟩
  | [], h => exact h.elim
  | [_], h => exact h.elim
  | _ :: _ :: _ :: _, h => exact h.elim
theorem DC2.skip (h1 : (k == i) = false) (h2 : (l == i) = false) (h : DC2 P Q S c w) : DC2 P Q S (setB [k, l] c i) w := by
  obtain ⟨x, y, rfl⟩ := h.bits
  simp only [setB, h1, h2, Bool.or_false]; exact h
theorem DC2.fire (h1 : (k == i) = true) (h2 : (l == i) = false) (h : Q w) : DC2 P Q S (setB [k, l] [false, false] i) w := by
  simp only [setB, h1, h2, Bool.or_false, Bool.or_true]; exact h
theorem DC2.last (h1 : (k == i) = false) (h2 : (l == i) = true) (h : S w) : DC2 P Q S (setB [k, l] [true, false] i) w := by
  simp only [setB, h1, h2, Bool.or_false, Bool.or_true]; exact h
theorem DC2.gr {x : Bool} {T : World → Prop} (hp : ∀ w, P w → T w) (hq : ∀ w, Q w → T w) (h : DC2 P Q S [x, false] w) : T w := by
  cases x
  · exact hp w h
  · exact hq w h
end
set_option maxHeartbeats 4000000 in
set_option maxRecDepth 100000 in
theorem declaration_any (R : Rp) (ts : Toks) (w : World) (hI : RdI w R ts) (hk : isDecl ts = true) :
    Calls Tryz.prog 66 #[.pointer (some ⟨R.br, 0, none⟩)] w (DecP R w (declR ts)) := by
  have HI := Lib.hid hI
  have HL := Lib.hid (line_i64 hI)
  have hlt := hI.lt
  have HLT0 := Lib.hid hlt
  obtain ⟨t0, r0, hr⟩ : ∃ t r, ts = t :: r := by
    cases ts with
    | nil => exact absurd hk (by simp [isDecl, nextK])
    | cons t r => exact ⟨t, r, rfl⟩
  have HR0 := Lib.hid hr
  have hd0 : (dcOf (nextT ts) == 0) = false := by
    unfold isDecl at hk; simp only [Bool.and_eq_true, Bool.not_eq_true'] at hk; exact hk.2
  have HKD := Lib.hid (dcOf_op (nextT ts) hd0)
  rw [declR_k]
  clear hk hr hd0
  go_enter Tryz.func66, Tryz.ntmps66
  go_upto_region 1 with fail
  generalize hW : World.alloc w _ = W0
  have HB0 : Hid (Below w.heap.size w W0) := Lib.hid (by rw [← hW]; exact alloc_below _ _)
  have HZ0 : Hid (W0.heap[w.heap.size]? = some (.cells zD6 58 (0, 0))) := Lib.hid (by rw [← hW]; exact heap_alloc_new _ _)
  have HN := Lib.hid (next_any R ts W0 (HI.out.below HB0.out))
  unfold tokV at HN
  clear hW hI
  go_wp2_with fail
  refine HN.out.mono ?_
  rintro e w1 ⟨rfl, h2⟩
  have HB1 := Lib.hid (HB0.out.trans (h2.mono HB0.out.size))
  have HZ1 := Lib.hid ((h2.block _ (Array.getElem?_eq_some_iff.1 HZ0.out).1).trans HZ0.out)
  clear h2 HN HB0 HZ0
  go_upto_region 2 with fail
  obtain ⟨gt, hg⟩ : ∃ g, w1.heap.size = g := ⟨_, rfl⟩
  rw [hg]
  generalize hW : World.alloc w1 _ = W2
  have HB2 : Hid (Below w.heap.size w W2) := Lib.hid (by rw [← hW]; exact HB1.out.alloc HB1.out.size _)
  have HT2 : Hid (W2.heap[gt]? = some (.cells #[.int .i64 ((nextK ts : Nat) : Int), .string (tx (nextT ts)), .int .i64 ((nextL ts : Nat) : Int)] 104 (0, 0))) := Lib.hid (by rw [← hW, ← hg]; exact heap_alloc_new _ _)
  have HZ2 : Hid (W2.heap[w.heap.size]? = some (.cells zD6 58 (0, 0))) := Lib.hid (by rw [← hW]; exact (heap_alloc_old _ _ (Array.getElem?_eq_some_iff.1 HZ1.out).1).trans HZ1.out)
  have HLT : Hid (R.br < w.heap.size ∧ w.heap.size < gt) := Lib.hid ⟨hlt, by rw [← hg]; exact (Array.getElem?_eq_some_iff.1 HZ1.out).1⟩
  obtain ⟨pos, hp, q0, q1, fq, HX⟩ := (HI.out.below HB2.out).open
  clear hW hg HB1 HZ1
  go_upto_region 3 with fail
  generalize hW : World.setCell W2 _ _ = W3
  have HQ : Hid (RdI W3 R ts.tail ∧ W2.grownBy W3 (some R.br)) := Lib.hid (by rw [← hW, HR0.out]; exact HX.out t0 r0 HR0.out)
  have HGR3 : Hid (w.grownBy W3 (some R.br)) := Lib.hid (grow_tr (gr_below HB2.out) HQ.out.2)
  have HT3 := Lib.hid ((HQ.out.2.block _ (Array.getElem?_eq_some_iff.1 HT2.out).1 (by have := HLT.out; simp; omega)).trans HT2.out)
  have HZ3 := Lib.hid ((HQ.out.2.block _ (Array.getElem?_eq_some_iff.1 HZ2.out).1 (by have := HLT.out; simp; omega)).trans HZ2.out)
  have HRD3 := Lib.hid HQ.out.1
  clear hW q0 q1 fq HX HB2 HT2 HZ2 HQ
  have K1 : ∀ w', Below W3.heap.size W3 w' → w'.cell? ⟨gt, 1, none⟩ = some (.string (tx (nextT ts))) := fun w' h => cellb ((h.block _ (Array.getElem?_eq_some_iff.1 HT3.out).1).trans HT3.out) rfl
  have K2 : ∀ w', Below W3.heap.size W3 w' → w'.cell? ⟨gt, 2, none⟩ = some (.int .i64 ((nextL ts : Nat) : Int)) := fun w' h => cellb ((h.block _ (Array.getElem?_eq_some_iff.1 HT3.out).1).trans HT3.out) rfl
  refine wpAny_start (by kernel_rfl) rfl ?_
  refine wpAny_phase 0 7 [] [[], [0], [0, 1], [], [3], [0, 1, 2, 3, 4], [], [0, 1, 2, 3, 4, 5, 6]] [[], [], [], [], [], [], []] (fun _ w' => Below W3.heap.size W3 w') (fun w w' => Below w.heap.size w w') [16, 17, 18, 19, 20, 21, 5] rfl rfl (by rfl) (by kernel_rfl) (by kernel_rfl) (by kernel_rfl) (by kernel_rfl) (by kernel_rfl) (by rfl) (fun _ => Below.refl _ _) (by rfl) (below_drewN (Below.refl _ _) 1) ?_
  simp only [List.take_succ_cons, List.take_zero, List.drop_zero, List.drop_succ_cons, dumE, List.map_cons, List.map_nil]
  apply ObP.step
  case hobl =>
    intro c A w' hok hC hO hD
    have e4 := hO 4 (by rfl)
    simp [Act.eval] at e4
    simp [depsL, IsV, slotv, Act.eval, Region.binds] at hD
    simp [go_sem, gd, Oper.wp, hD, e4]
    exact WPost.mk (Below.refl _ _) hC (IsV.mk _ _)
  apply ObP.step
  case hobl =>
    intro c A w' hok hC hO hD
    simp [depsL, IsV, slotv, Act.eval, Region.binds] at hD
    simp [go_sem, gd, Oper.wp, hD, K1, hC]
    exact WPost.mk (Below.refl _ _) hC (IsV.mk _ _)
  apply ObP.step
  case hobl =>
    intro c A w' hok hC hO hD
    simp [depsL, IsV, slotv, Act.eval, Region.binds] at hD
    simp [go_sem, gd, Oper.wp, hD]
    refine (declared_any (tx (nextT ts)) (l := nextT ts) (tx_list _) w').mono ?_
    rintro e w2 ⟨rfl, rfl⟩
    exact WPost.mk (Below.refl _ _) hC (IsV.mk _ _)
  apply ObP.step
  case hobl =>
    intro c A w' hok hC hO hD
    have e4 := hO 4 (by rfl)
    simp [Act.eval] at e4
    simp [depsL, IsV, slotv, Act.eval, Region.binds] at hD
    simp [go_sem, gd, Oper.wp, hD, e4]
    exact WPost.mk (Below.refl _ _) hC (IsV.mk _ _)
  apply ObP.step
  case hobl =>
    intro c A w' hok hC hO hD
    simp [depsL, IsV, slotv, Act.eval, Region.binds] at hD
    simp [go_sem, gd, Oper.wp, hD, K2, hC]
    exact WPost.mk (Below.refl _ _) hC (IsV.mk _ _)
  simp only [List.nil_append, List.cons_append]
  apply ObP.step
  case hobl =>
    intro c A w' hok hC hO hD
    simp [depsL, IsV, slotv, Act.eval, Region.binds] at hD
    simp [go_sem, gd, Oper.wp, hD]
    exact WPost.mk (Below.refl _ _) hC (IsV.mk _ _)
  refine ObP.some (fun v w' => ∃ db, v = .pointer (some ⟨db, 0, none⟩) ∧ W3.heap.size ≤ db ∧ w'.heap[db]? = some (.cells zD6 58 (0, 0))) ?_ ?_ ?_
  · rintro v w1 w' hle ⟨g, h1, h2, h3⟩
    exact ⟨g, h1, h2, (hle.block g (Array.getElem?_eq_some_iff.1 h3).1).trans h3⟩
  · intro c A w' hok hC hO hD
    simp [go_sem, gd, Oper.wp]
    exact WPost.mk (d := _) (v := .pointer (some ⟨_, 0, none⟩)) (alloc_below _ _) (hC.alloc hC.size _) ⟨_, rfl, hC.size, heap_alloc_new _ _⟩
  simp only [List.nil_append, List.cons_append]
  refine ObP.done ?_
  intro wz hCz
  simp only [List.drop_zero]
  intro v0 h0 v1 h1 v2 h2 v3 h3 v4 h4 v5 h5 v6 h6
  have h5' := Eq.symm (show v5 = _ from h5)
  subst h5'
  obtain ⟨bd, rfl, hsb1, hsb2⟩ := h6
  clear h0 h1 h2 h3 h4 h5 K1 K2
  have HD0 : Hid ((⟨dcOf (nextT ts), ((nextL ts : Nat) : Int), ⟨#[]⟩, 0, 0, ⟨#[]⟩⟩ : De).Ok) := Lib.hid ⟨by have := HKD.out; show I64 (dcOf _); unfold I64; omega, HL.out, Nat.zero_le _, i64_0, i64_0, Nat.zero_le _⟩
  have HBZ : Hid (Below W3.heap.size W3 wz) := Lib.hid hCz
  have HDB : Hid (W3.heap.size ≤ bd ∧ wz.heap[bd]? = some (.cells zD6 58 (0, 0))) := Lib.hid ⟨hsb1, hsb2⟩
  clear hCz hsb1
  refine allvals_nil ?_
  go_simp
  refine wpAny_one 7 [[], [0], [0, 1], [], [3], [0, 1, 2, 3, 4], [], [0, 1, 2, 3, 4, 5, 6]] rfl rfl rfl rfl rfl (by kernel_rfl) (by kernel_rfl) (by kernel_rfl) ?_
  refine wp_store_mid _ _ _ (by rfl) bd 0 (deF ⟨dcOf (nextT ts), ((nextL ts : Nat) : Int), ⟨#[]⟩, 0, 0, ⟨#[]⟩⟩).toArray (by rfl) (by rfl) (thereS hsb2 (Nat.le_refl 6)) de_siz (by simp [deF, Value.oneCell']) ?_
  refine wpAny_end rfl ?_
  generalize hW5 : World.setCells wz bd 0 _ = W5
  have HBD : Hid (w.heap.size < bd ∧ R.br < bd) := Lib.hid (by have h1 := HDB.out.1; have h2 := (Array.getElem?_eq_some_iff.1 HZ3.out).1; have h3 := HLT.out; omega)
  have HG5 : Hid (wz.grownBy W5 (some bd)) := Lib.hid (by rw [← hW5]; exact setCells_grown _ _ _ _)
  have HP5 : Hid (Pd R bd W5 ⟨dcOf (nextT ts), ((nextL ts : Nat) : Int), ⟨#[]⟩, 0, 0, ⟨#[]⟩⟩ ts.tail) := Lib.hid ⟨rd_other (HRD3.out.below HBZ.out) HG5.out (by have := HBD.out; have := R.b0; omega) (by have := HBD.out; omega), by have := HBD.out; omega, by have := HBD.out; have := R.b0; omega, by rw [← hW5]; exact setCells_all HDB.out.2 rfl, HD0.out⟩
  have HGR5 : Hid (w.grownBy W5 (some R.br)) := Lib.hid (by rw [← hW5]; exact gr_setCells (grow_tr HGR3.out (gr_below HBZ.out)) _ _ _ (Nat.le_of_lt HBD.out.1))
  have HZ5 : Hid (W5.heap[w.heap.size]? = some (.cells zD6 58 (0, 0))) := Lib.hid ((HG5.out.block _ (Nat.lt_of_lt_of_le (Array.getElem?_eq_some_iff.1 HZ3.out).1 HBZ.out.size) (by have := HBD.out; simp; omega)).trans ((HBZ.out.block _ (Array.getElem?_eq_some_iff.1 HZ3.out).1).trans HZ3.out))
  clear hW5 HG5 HBZ HDB hsb2 HD0 HRD3 HGR3 HT3 HZ3
  go_simp
  cases hn : isName ts.tail
  · have HE : Hid (((nameR ts.tail).bind fun s r => kindR ⟨dcOf (nextT ts), nextL ts, s, 0, 0, ⟨#[]⟩⟩ r).close [59] = .no ts.tail) := Lib.hid (by rw [nameR_no hn]; rfl)
    go_wp2_with fail
    refine (name_no' R _ _ hn HP5.out.rd).mono ?_
    rintro e w6 ⟨rfl, h2⟩
    have HP6 := Lib.hid (HP5.out.below h2)
    have HGR6 := Lib.hid (grow_tr HGR5.out (gr_below h2))
    have HZ6 := Lib.hid ((h2.block _ (Array.getElem?_eq_some_iff.1 HZ5.out).1).trans HZ5.out)
    clear h2 HP5 HGR5 HZ5
    have c2 := HP6.out.cell (j := 2) rfl
    have f2 := HP6.out.free 2
    go_upto_region 6 with fail
    generalize hW : World.setCell w6 _ _ = W7
    have HP7 : Hid (Pd R bd W7 ⟨dcOf (nextT ts), ((nextL ts : Nat) : Int), ⟨#[]⟩, 0, 0, ⟨#[]⟩⟩ ts.tail) := Lib.hid (by rw [← hW]; exact HP6.out.nm ⟨#[]⟩ (Nat.zero_le _))
    have HGR7 : Hid (w.grownBy W7 (some R.br)) := Lib.hid (by rw [← hW]; exact gr_set HGR6.out _ _ (Nat.le_of_lt HBD.out.1))
    have HZ7 : Hid (W7.heap[w.heap.size]? = some (.cells zD6 58 (0, 0))) := Lib.hid (by rw [← hW]; exact (setCell_far w6 _ _ rfl (by have := HBD.out; show bd ≠ _; omega)).trans HZ6.out)
    clear hW HP6 HGR6 HZ6 c2 f2
    obtain ⟨⟨y0, y1, y2, y3, y4, y5⟩, fz⟩ := z6 HZ7.out
    have g0 := fz 0
    have g1 := fz 1
    have g2 := fz 2
    have g3 := fz 3
    have g4 := fz 4
    have g5 := fz 5
    obtain ⟨d0, d1, d2, d3, d4, d5⟩ := pd_cells HP7.out
    clear fz
    go_wp2_with fail
    exact bodyPost_ret (v := .tuple #[dvV ⟨dcOf (nextT ts), ((nextL ts : Nat) : Int), ⟨#[]⟩, 0, 0, ⟨#[]⟩⟩, .bool false]) (by simp [results, Tryz.results66, go_sem, dvV, y0, y1, y2, y3, y4, y5]) rfl (dec_no HE.out HP7.out.rd HGR7.out HLT.out.1)
  · have HNM : Hid ((tx (nextT ts.tail)).size ≤ maxLen) := Lib.hid (nm_size (ts_name HP5.out.rd.ts hn))
    have HE : Hid (((nameR ts.tail).bind fun s r => kindR ⟨dcOf (nextT ts), nextL ts, s, 0, 0, ⟨#[]⟩⟩ r).close [59] = (kindR ⟨dcOf (nextT ts), nextL ts, tx (nextT ts.tail), 0, 0, ⟨#[]⟩⟩ ts.tail.tail).close [59]) := Lib.hid (by rw [nameR_yes hn]; rfl)
    go_wp2_with fail
    refine (name_yes R _ _ hn HP5.out.rd).mono ?_
    rintro e w6 ⟨rfl, h2, h3⟩
    have HP6 := Lib.hid (HP5.out.then h2 h3)
    have HGR6 := Lib.hid (grow_tr HGR5.out h3)
    have HZ6 := Lib.hid ((h3.block _ (Array.getElem?_eq_some_iff.1 HZ5.out).1 (by have := HLT.out; simp; omega)).trans HZ5.out)
    clear h2 h3 HP5 HGR5 HZ5
    have c2 := HP6.out.cell (j := 2) rfl
    have f2 := HP6.out.free 2
    go_upto_region 6 with fail
    generalize hW : World.setCell w6 _ _ = W7
    have HP7 : Hid (Pd R bd W7 ⟨dcOf (nextT ts), ((nextL ts : Nat) : Int), tx (nextT ts.tail), 0, 0, ⟨#[]⟩⟩ ts.tail.tail) := Lib.hid (by rw [← hW]; exact HP6.out.nm _ HNM.out)
    have HGR7 : Hid (w.grownBy W7 (some R.br)) := Lib.hid (by rw [← hW]; exact gr_set HGR6.out _ _ (Nat.le_of_lt HBD.out.1))
    have HZ7 : Hid (W7.heap[w.heap.size]? = some (.cells zD6 58 (0, 0))) := Lib.hid (by rw [← hW]; exact (setCell_far w6 _ _ rfl (by have := HBD.out; show bd ≠ _; omega)).trans HZ6.out)
    clear hW HP6 HGR6 HZ6 c2 f2
    obtain ⟨dd, HDD⟩ : ∃ dd, Hid ((⟨dcOf (nextT ts), ((nextL ts : Nat) : Int), tx (nextT ts.tail), 0, 0, ⟨#[]⟩⟩ : De) = dd) := ⟨_, Lib.hid rfl⟩
    have HKK : Hid (dd.kind = dcOf (nextT ts)) := Lib.hid (by rw [← HDD.out])
    rw [HDD.out] at HP7 HE
    obtain ⟨r1, HR1⟩ : ∃ r1, Hid (ts.tail.tail = r1) := ⟨_, Lib.hid rfl⟩
    rw [HR1.out] at HP7 HE
    have c0 : W7.cell? ⟨bd, 0, none⟩ = some (.int .i64 dd.kind) := HP7.out.cell rfl
    have HRK := Lib.hid (show kindR dd r1 = kindR dd r1 from rfl)
    go_upto_block 0 with fail
    go_cut [6] (fun s6 W' => ∃ d r2 b, s6 = .bool b ∧ Pd R bd W' d r2 ∧ w.grownBy W' (some R.br) ∧ W'.heap[w.heap.size]? = some (.cells zD6 58 (0, 0)) ∧ kindR dd r1 = if b then .ok d r2 else .no r2)
    case first =>
      cases k1 : (dd.kind == 1)
      · cases k2 : (dd.kind == 2)
        · cases k5 : (dd.kind == 5)
          · have HQ : Hid (kindR dd r1 = .ok dd r1) := Lib.hid (by unfold kindR; rw [if_neg (by rw [k1]; decide), if_neg (by rw [k2]; decide), if_neg (by rw [k5]; decide)])
            go_wp2_with fail
            go_meet
            exact ⟨dd, r1, true, rfl, HP7.out, HGR7.out, HZ7.out, HQ.out⟩
          · have HQ : Hid (kindR dd r1 = (nameR r1).map (fun o => { dd with on := o })) := Lib.hid (by unfold kindR; rw [if_neg (by rw [k1]; decide), if_neg (by rw [k2]; decide), if_pos k5])
            cases hm : isName r1
            · go_wp2_with fail
              refine (name_no' R _ _ hm HP7.out.rd).mono ?_
              rintro e w8 ⟨rfl, h2⟩
              have HP8 := Lib.hid (HP7.out.below h2)
              have HGR8 := Lib.hid (grow_tr HGR7.out (gr_below h2))
              have HZ8 := Lib.hid ((h2.block _ (Array.getElem?_eq_some_iff.1 HZ7.out).1).trans HZ7.out)
              clear h2
              have c5 := HP8.out.cell (j := 5) rfl
              have f5 := HP8.out.free 5
              go_wp2_with fail
              go_meet
              exact ⟨_, r1, false, rfl, HP8.out.on ⟨#[]⟩ (Nat.zero_le _), gr_set HGR8.out _ _ (Nat.le_of_lt HBD.out.1), (setCell_far w8 _ _ rfl (by have := HBD.out; show bd ≠ _; omega)).trans HZ8.out, HQ.out.trans (by rw [nameR_no hm]; rfl)⟩
            · have HNM2 : Hid ((tx (nextT r1)).size ≤ maxLen) := Lib.hid (nm_size (ts_name HP7.out.rd.ts hm))
              go_wp2_with fail
              refine (name_yes R _ _ hm HP7.out.rd).mono ?_
              rintro e w8 ⟨rfl, h2, h3⟩
              have HP8 := Lib.hid (HP7.out.then h2 h3)
              have HGR8 := Lib.hid (grow_tr HGR7.out h3)
              have HZ8 := Lib.hid ((h3.block _ (Array.getElem?_eq_some_iff.1 HZ7.out).1 (by have := HLT.out; simp; omega)).trans HZ7.out)
              clear h2 h3
              have c5 := HP8.out.cell (j := 5) rfl
              have f5 := HP8.out.free 5
              go_wp2_with fail
              go_meet
              exact ⟨_, r1.tail, true, rfl, HP8.out.on _ HNM2.out, gr_set HGR8.out _ _ (Nat.le_of_lt HBD.out.1), (setCell_far w8 _ _ rfl (by have := HBD.out; show bd ≠ _; omega)).trans HZ8.out, HQ.out.trans (by rw [nameR_yes hm]; rfl)⟩
        · have HQ : Hid (kindR dd r1 = initR dd r1) := Lib.hid (by unfold kindR; rw [if_neg (by rw [k1]; decide), if_pos k2])
          have HC := Lib.hid (initial_any R bd r1 dd W7 HP7.out)
          obtain ⟨resi, HRI⟩ : ∃ resi, Hid (kindR dd r1 = resi) := ⟨_, Lib.hid rfl⟩
          rw [← HQ.out, HRI.out] at HC
          clear HQ
          cases resi with
          | no q =>
            go_wp2_with fail
            refine HC.out.mono ?_
            rintro e w9 ⟨rfl, ⟨d', h2⟩, h3⟩
            have HP9 := Lib.hid h2
            have HF9 := Lib.hid h3
            clear h2 h3
            go_wp2_with fail
            go_meet
            exact ⟨d', q, false, rfl, HP9.out, fr_own HGR7.out HF9.out (Nat.le_of_lt HBD.out.1), fr_kept HF9.out HZ7.out (by have := HLT.out; omega) (by have := HBD.out; omega), HRI.out⟩
          | ok d' q =>
            go_wp2_with fail
            refine HC.out.mono ?_
            rintro e w9 ⟨rfl, h2, h3⟩
            have HP9 := Lib.hid h2
            have HF9 := Lib.hid h3
            clear h2 h3
            go_wp2_with fail
            go_meet
            exact ⟨d', q, true, rfl, HP9.out, fr_own HGR7.out HF9.out (Nat.le_of_lt HBD.out.1), fr_kept HF9.out HZ7.out (by have := HLT.out; omega) (by have := HBD.out; omega), HRI.out⟩
      · have HQ : Hid (kindR dd r1 = (sizeR dd r1).bind initR) := Lib.hid (by unfold kindR; rw [if_pos k1])
        have HC := Lib.hid (size_any R bd r1 dd W7 HP7.out)
        cases hs : sizeR dd r1 with
        | no q =>
          rw [hs] at HC HQ
          go_wp2_with fail
          refine HC.out.mono ?_
          rintro e w8 ⟨rfl, ⟨d', h2⟩, h3⟩
          have HP8 := Lib.hid h2
          have HF8 := Lib.hid h3
          clear h2 h3
          go_wp2_with fail
          go_meet
          exact ⟨d', q, false, rfl, HP8.out, fr_own HGR7.out HF8.out (Nat.le_of_lt HBD.out.1), fr_kept HF8.out HZ7.out (by have := HLT.out; omega) (by have := HBD.out; omega), HQ.out⟩
        | ok d2 q =>
          rw [hs] at HC HQ
          have HQ2 : Hid (kindR dd r1 = initR d2 q) := Lib.hid HQ.out
          have HC2 : Hid (∀ W, Pd R bd W d2 q → Calls Tryz.prog 107 #[.pointer (some ⟨R.br, 0, none⟩), .pointer (some ⟨bd, 0, none⟩)] W (DmP R bd W (initR d2 q))) := Lib.hid (fun W h => initial_any R bd q d2 W h)
          clear HQ hs
          go_wp2_with fail
          refine HC.out.mono ?_
          rintro e w8 ⟨rfl, h2, h3⟩
          have HP8 := Lib.hid h2
          have HGR8 := Lib.hid (fr_own HGR7.out h3 (Nat.le_of_lt HBD.out.1))
          have HZ8 := Lib.hid (fr_kept h3 HZ7.out (by have := HLT.out; omega) (by have := HBD.out; omega))
          clear h2 h3 HC
          have HC := Lib.hid (HC2.out _ HP8.out)
          have HQ := HQ2
          clear HQ2 HC2
          obtain ⟨resi, HRI⟩ : ∃ resi, Hid (kindR dd r1 = resi) := ⟨_, Lib.hid rfl⟩
          rw [← HQ.out, HRI.out] at HC
          clear HQ
          cases resi with
          | no q =>
            go_wp2_with fail
            refine HC.out.mono ?_
            rintro e w9 ⟨rfl, ⟨d', h2⟩, h3⟩
            have HP9 := Lib.hid h2
            have HF9 := Lib.hid h3
            clear h2 h3
            go_wp2_with fail
            go_meet
            exact ⟨d', q, false, rfl, HP9.out, fr_own HGR8.out HF9.out (Nat.le_of_lt HBD.out.1), fr_kept HF9.out HZ8.out (by have := HLT.out; omega) (by have := HBD.out; omega), HRI.out⟩
          | ok d' q =>
            go_wp2_with fail
            refine HC.out.mono ?_
            rintro e w9 ⟨rfl, h2, h3⟩
            have HP9 := Lib.hid h2
            have HF9 := Lib.hid h3
            clear h2 h3
            go_wp2_with fail
            go_meet
            exact ⟨d', q, true, rfl, HP9.out, fr_own HGR8.out HF9.out (Nat.le_of_lt HBD.out.1), fr_kept HF9.out HZ8.out (by have := HLT.out; omega) (by have := HBD.out; omega), HRI.out⟩
    obtain ⟨dz, rz, bz, rfl, hPd, hGr, hZ, hKR⟩ := hcut
    obtain ⟨W8, rfl⟩ : ∃ W : World, W = wc := ⟨_, rfl⟩
    have HP8 := Lib.hid hPd
    have HGR8 := Lib.hid hGr
    have HZ8 := Lib.hid hZ
    have HE8 := Lib.hid (HE.out.trans (congrArg (fun x => Res.close [59] x) hKR))
    clear hPd hGr hZ hKR HP7 HGR7 HZ7 HRK c0
    have KD : ∀ w', W8.grownBy w' (some R.br) → (w'.cell? ⟨bd, 0, none⟩ = some (.int .i64 dz.kind) ∧ w'.cell? ⟨bd, 1, none⟩ = some (.int .i64 dz.line) ∧ w'.cell? ⟨bd, 2, none⟩ = some (.string dz.nm) ∧ w'.cell? ⟨bd, 3, none⟩ = some (.int .i64 dz.size) ∧ w'.cell? ⟨bd, 4, none⟩ = some (.int .i64 dz.init) ∧ w'.cell? ⟨bd, 5, none⟩ = some (.string dz.on)) := fun w' h => by
      have hb := (h.block _ HP8.out.lt (by simp; exact HP8.out.ne)).trans HP8.out.blk
      exact ⟨cellb hb rfl, cellb hb rfl, cellb hb rfl, cellb hb rfl, cellb hb rfl, cellb hb rfl⟩
    have HIP : Hid (RdI W8 R rz) := Lib.hid HP8.out.rd
    have e0 : ∀ w', W8.grownBy w' (some R.br) → w'.heap[w.heap.size]? = some (.cells zD6 58 (0, 0)) := fun w' h => (h.block _ (Array.getElem?_eq_some_iff.1 HZ8.out).1 (by have := HLT.out; simp; omega)).trans HZ8.out
    have HEZ := Lib.hid e0
    clear e0
    cases bz
    · have HE9 : Hid (((nameR ts.tail).bind fun s r => kindR ⟨dcOf (nextT ts), nextL ts, s, 0, 0, ⟨#[]⟩⟩ r).close [59] = .no rz) := Lib.hid HE8.out
      go_upto_region 15 with fail
      refine wpAny_start (by kernel_rfl) rfl ?_
      refine wpAny_phase 0 8 [4, 6] [[], [], [1], [1, 2], [1, 2, 3], [1, 2, 3, 4], [0, 1, 2, 3, 4], [0, 1, 2, 3, 4, 5, 6]] [[none, some false], [some false, some false], [some false, some false], [some false, some false], [some false, some false], [some true, none], [some true, some false], [some true, some true]] (DC2 (fun w' => RdI w' R rz ∧ W8.grownBy w' (some R.br)) (fun w' => RdI w' R rz ∧ W8.grownBy w' (some R.br)) (fun w' => ∃ w2, (RdI w2 R rz ∧ W8.grownBy w2 (some R.br)) ∧ w' = w2.setCells w.heap.size 0 (deF dz))) (fun _ _ => True) [53, 54, 55, 56, 57, 58, 3] rfl rfl (by rfl) (by kernel_rfl) (by kernel_rfl) (by kernel_rfl) (by kernel_rfl) (by kernel_rfl) (by rfl) (fun _ => trivial) (by rfl) ⟨HIP.out.below (below_drewN (Below.refl _ _) 1), gr_below (below_drewN (Below.refl _ _) 1)⟩ ?_
      simp only [List.take_succ_cons, List.take_zero, List.drop_zero, List.drop_succ_cons, dumE, List.map_cons, List.map_nil]
      apply ObP.step
      case hobl =>
        intro c A w' hok hC hO hD
        obtain ⟨x, y, rfl⟩ := hC.bits
        obtain ⟨rfl, -⟩ := hok
        obtain ⟨d0, d1, d2, d3, d4, d5⟩ := KD w' (hC.gr (fun _ h => h.2) (fun _ h => h.2))
        have e5 := hO 5 (by rfl)
        simp [Act.eval] at e5
        simp [depsL, IsV, slotv, Act.eval, Region.binds] at hD
        simp [go_sem, gd, Oper.wp, e5, d0, d1, d2, d3, d4, d5]
        exact WPost.mk trivial (DC2.skip (by rfl) (by rfl) hC) (IsV.mk _ _)

      apply ObP.step
      case hobl =>
        intro c A w' hok hC hO hD
        have e6 := hO 6 (by rfl)
        simp [Act.eval] at e6
        simp [depsL, IsV, slotv, Act.eval, Region.binds] at hD
        simp [go_sem, gd, Oper.wp, hD, e6]
        exact WPost.mk trivial (DC2.skip (by rfl) (by rfl) hC) (IsV.mk _ _)
      apply ObP.step
      case hobl =>
        intro c A w' hok hC hO hD
        simp [depsL, IsV, slotv, Act.eval, Region.binds] at hD
        simp [go_sem, gd, Oper.wp, hD]
        exact WPost.mk trivial (DC2.skip (by rfl) (by rfl) hC) (IsV.mk _ _)
      refine ObP.step (v := undef) ?_ ?_
      · intro c A w' hok hC hO hD
        simp [depsL, IsV, slotv, Act.eval, Region.binds] at hD
        simp [gd, Act.eval, hD]
        exact ⟨(DC2.skip (by rfl) (by rfl) hC), IsV.mk _ _⟩
      refine ObP.step (v := undef) ?_ ?_
      · intro c A w' hok hC hO hD
        obtain ⟨x, y, rfl⟩ := hC.bits
        obtain ⟨rfl, rfl, -⟩ := hok
        simp [depsL, IsV, slotv, Act.eval, Region.binds] at hD
        simp [gd, Act.eval, hD]
        exact ⟨DC2.fire (by rfl) (by rfl) hC, IsV.mk _ _⟩
      simp only [List.nil_append, List.cons_append]
      apply ObP.step
      case hobl =>
        intro c A w' hok hC hO hD
        simp [depsL, IsV, slotv, Act.eval, Region.binds] at hD
        simp [go_sem, gd, Oper.wp, hD]
        exact WPost.mk trivial (DC2.skip (by rfl) (by rfl) hC) (IsV.mk _ _)
      refine ObP.some (fun _ _ => True) (fun _ _ _ _ _ => trivial) ?_ ?_
      · intro c A w' hok hC hO hD
        obtain ⟨x, y, rfl⟩ := hC.bits
        obtain ⟨rfl, rfl, -⟩ := hok
        have e2 := hO 2 (by rfl)
        simp [Act.eval] at e2
        simp [depsL, IsV, slotv, Act.eval, Region.binds] at hD
        simp only [gd, if_true]
        refine wp_store_mid _ _ _ (by rfl) w.heap.size 0 (deF dz).toArray (by simp [Act.eval, e2]) (by simp [Act.eval, hD, deF]) (thereS (HEZ.out w' hC.2) (Nat.le_refl 6)) de_siz (by simp [deF, Value.oneCell']) ?_
        exact WPost.mk0 trivial (DC2.last (by rfl) (by rfl) ⟨w', hC, rfl⟩) trivial
      apply ObP.step
      case hobl =>
        intro c A w' hok hC hO hD
        simp [depsL, IsV, slotv, Act.eval, Region.binds] at hD
        simp [go_sem, gd, Oper.wp, hD]
        exact WPost.mk trivial (DC2.skip (by rfl) (by rfl) hC) (IsV.mk _ _)
      try simp only [List.nil_append, List.cons_append]
      refine ObP.done ?_
      intro w9 hC9
      try simp only [List.drop_succ_cons, List.drop_zero]
      intro x0 h0 x1 h1 x2 h2 x3 h3 x4 h4 x5 h5 x6 h6 x7 h7
      have h7' := Eq.symm (show x7 = _ from h7)
      subst h7'
      clear h0 h1 h2 h3 h4 h5 h6 h7
      refine allvals_nil ?_
      refine wpAny_end rfl ?_
      obtain ⟨w2, hw2, hw9⟩ : ∃ w2, (RdI w2 R _ ∧ W8.grownBy w2 (some R.br)) ∧ w9 = w2.setCells w.heap.size 0 (deF dz) := hC9
      have HB9 : w9.heap[w.heap.size]? = some (.cells (deF dz).toArray 58 (0, 0)) := by rw [hw9]; exact setCells_all (HEZ.out w2 hw2.2) rfl
      have HW9 := Lib.hid hw9
      have y0 : w9.cell? ⟨w.heap.size, 0, none⟩ = some (.int .i64 dz.kind) := cellb HB9 rfl
      have y1 : w9.cell? ⟨w.heap.size, 1, none⟩ = some (.int .i64 dz.line) := cellb HB9 rfl
      have y2 : w9.cell? ⟨w.heap.size, 2, none⟩ = some (.string dz.nm) := cellb HB9 rfl
      have y3 : w9.cell? ⟨w.heap.size, 3, none⟩ = some (.int .i64 dz.size) := cellb HB9 rfl
      have y4 : w9.cell? ⟨w.heap.size, 4, none⟩ = some (.int .i64 dz.init) := cellb HB9 rfl
      have y5 : w9.cell? ⟨w.heap.size, 5, none⟩ = some (.string dz.on) := cellb HB9 rfl
      have HFN := Lib.hid (dec_no (d := dz) HE9.out hw2.1 (grow_tr HGR8.out hw2.2) HLT.out.1)
      rw [← hw9] at HFN
      clear hw9 HB9 KD
      go_simp
      go_wp2_with fail
      exact bodyPost_ret (v := .tuple #[dvV dz, .bool false]) (by simp [results, Tryz.results66, go_sem, dvV, y0, y1, y2, y3, y4, y5]) rfl HFN.out
    · cases h4 : at' [59] rz
      · have HE9 : Hid (((nameR ts.tail).bind fun s r => kindR ⟨dcOf (nextT ts), nextL ts, s, 0, 0, ⟨#[]⟩⟩ r).close [59] = .no rz) := Lib.hid (HE8.out.trans (close_not' h4))
        go_upto_region 15 with fail
        refine wpAny_start (by kernel_rfl) rfl ?_
        refine wpAny_phase 0 8 [4, 6] [[], [], [1], [1, 2], [1, 2, 3], [1, 2, 3, 4], [0, 1, 2, 3, 4], [0, 1, 2, 3, 4, 5, 6]] [[none, some false], [some false, some false], [some false, some false], [some false, some false], [some false, some false], [some true, none], [some true, some false], [some true, some true]] (DC2 (fun w' => RdI w' R rz ∧ W8.grownBy w' (some R.br)) (fun w' => RdI w' R rz ∧ W8.grownBy w' (some R.br)) (fun w' => ∃ w2, (RdI w2 R rz ∧ W8.grownBy w2 (some R.br)) ∧ w' = w2.setCells w.heap.size 0 (deF dz))) (fun _ _ => True) [53, 54, 55, 56, 57, 58, 3] rfl rfl (by rfl) (by kernel_rfl) (by kernel_rfl) (by kernel_rfl) (by kernel_rfl) (by kernel_rfl) (by rfl) (fun _ => trivial) (by rfl) ⟨HIP.out.below (below_drewN (Below.refl _ _) 1), gr_below (below_drewN (Below.refl _ _) 1)⟩ ?_
        simp only [List.take_succ_cons, List.take_zero, List.drop_zero, List.drop_succ_cons, dumE, List.map_cons, List.map_nil]
        apply ObP.step
        case hobl =>
          intro c A w' hok hC hO hD
          obtain ⟨x, y, rfl⟩ := hC.bits
          obtain ⟨rfl, -⟩ := hok
          obtain ⟨d0, d1, d2, d3, d4, d5⟩ := KD w' (hC.gr (fun _ h => h.2) (fun _ h => h.2))
          have e5 := hO 5 (by rfl)
          simp [Act.eval] at e5
          simp [depsL, IsV, slotv, Act.eval, Region.binds] at hD
          simp [go_sem, gd, Oper.wp, e5, d0, d1, d2, d3, d4, d5]
          exact WPost.mk trivial (DC2.skip (by rfl) (by rfl) hC) (IsV.mk _ _)

        apply ObP.step
        case hobl =>
          intro c A w' hok hC hO hD
          have e6 := hO 6 (by rfl)
          simp [Act.eval] at e6
          simp [depsL, IsV, slotv, Act.eval, Region.binds] at hD
          simp [go_sem, gd, Oper.wp, hD, e6]
          exact WPost.mk trivial (DC2.skip (by rfl) (by rfl) hC) (IsV.mk _ _)
        apply ObP.step
        case hobl =>
          intro c A w' hok hC hO hD
          simp [depsL, IsV, slotv, Act.eval, Region.binds] at hD
          simp [go_sem, gd, Oper.wp, hD]
          exact WPost.mk trivial (DC2.skip (by rfl) (by rfl) hC) (IsV.mk _ _)
        apply ObP.step
        case hobl =>
          intro c A w' hok hC hO hD
          have e0 := hO 0 (by rfl)
          simp [Act.eval] at e0
          simp [depsL, IsV, slotv, Act.eval, Region.binds] at hD
          simp [go_sem, gd, Oper.wp, hD, e0]
          exact WPost.mk trivial (DC2.skip (by rfl) (by rfl) hC) (IsV.mk _ _)
        apply ObP.step
        case hobl =>
          intro c A w' hok hC hO hD
          obtain ⟨x, y, rfl⟩ := hC.bits
          obtain ⟨rfl, rfl, -⟩ := hok
          simp [depsL, IsV, slotv, Act.eval, Region.binds] at hD
          simp [go_sem, gd, Oper.wp, hD]
          refine (accept_no R _ _ ⟨#[59]⟩ rfl h4 hC.1).mono ?_
          rintro e w3 ⟨rfl, k2⟩
          exact WPost.mk trivial (DC2.fire (by rfl) (by rfl) ⟨hC.1.below k2, grow_tr hC.2 (gr_below k2)⟩) (IsV.mk _ _)
        simp only [List.nil_append, List.cons_append]
        apply ObP.step
        case hobl =>
          intro c A w' hok hC hO hD
          simp [depsL, IsV, slotv, Act.eval, Region.binds] at hD
          simp [go_sem, gd, Oper.wp, hD]
          exact WPost.mk trivial (DC2.skip (by rfl) (by rfl) hC) (IsV.mk _ _)
        refine ObP.some (fun _ _ => True) (fun _ _ _ _ _ => trivial) ?_ ?_
        · intro c A w' hok hC hO hD
          obtain ⟨x, y, rfl⟩ := hC.bits
          obtain ⟨rfl, rfl, -⟩ := hok
          have e2 := hO 2 (by rfl)
          simp [Act.eval] at e2
          simp [depsL, IsV, slotv, Act.eval, Region.binds] at hD
          simp only [gd, if_true]
          refine wp_store_mid _ _ _ (by rfl) w.heap.size 0 (deF dz).toArray (by simp [Act.eval, e2]) (by simp [Act.eval, hD, deF]) (thereS (HEZ.out w' hC.2) (Nat.le_refl 6)) de_siz (by simp [deF, Value.oneCell']) ?_
          exact WPost.mk0 trivial (DC2.last (by rfl) (by rfl) ⟨w', hC, rfl⟩) trivial
        apply ObP.step
        case hobl =>
          intro c A w' hok hC hO hD
          simp [depsL, IsV, slotv, Act.eval, Region.binds] at hD
          simp [go_sem, gd, Oper.wp, hD]
          exact WPost.mk trivial (DC2.skip (by rfl) (by rfl) hC) (IsV.mk _ _)
        try simp only [List.nil_append, List.cons_append]
        refine ObP.done ?_
        intro w9 hC9
        try simp only [List.drop_succ_cons, List.drop_zero]
        intro x0 h0 x1 h1 x2 h2 x3 h3 x4 h4 x5 h5 x6 h6 x7 h7
        have h7' := Eq.symm (show x7 = _ from h7)
        subst h7'
        clear h0 h1 h2 h3 h4 h5 h6 h7
        refine allvals_nil ?_
        refine wpAny_end rfl ?_
        obtain ⟨w2, hw2, hw9⟩ : ∃ w2, (RdI w2 R _ ∧ W8.grownBy w2 (some R.br)) ∧ w9 = w2.setCells w.heap.size 0 (deF dz) := hC9
        have HB9 : w9.heap[w.heap.size]? = some (.cells (deF dz).toArray 58 (0, 0)) := by rw [hw9]; exact setCells_all (HEZ.out w2 hw2.2) rfl
        have HW9 := Lib.hid hw9
        have y0 : w9.cell? ⟨w.heap.size, 0, none⟩ = some (.int .i64 dz.kind) := cellb HB9 rfl
        have y1 : w9.cell? ⟨w.heap.size, 1, none⟩ = some (.int .i64 dz.line) := cellb HB9 rfl
        have y2 : w9.cell? ⟨w.heap.size, 2, none⟩ = some (.string dz.nm) := cellb HB9 rfl
        have y3 : w9.cell? ⟨w.heap.size, 3, none⟩ = some (.int .i64 dz.size) := cellb HB9 rfl
        have y4 : w9.cell? ⟨w.heap.size, 4, none⟩ = some (.int .i64 dz.init) := cellb HB9 rfl
        have y5 : w9.cell? ⟨w.heap.size, 5, none⟩ = some (.string dz.on) := cellb HB9 rfl
        have HFN := Lib.hid (dec_no (d := dz) HE9.out hw2.1 (grow_tr HGR8.out hw2.2) HLT.out.1)
        rw [← hw9] at HFN
        clear hw9 HB9 KD
        go_simp
        go_wp2_with fail
        exact bodyPost_ret (v := .tuple #[dvV dz, .bool false]) (by simp [results, Tryz.results66, go_sem, dvV, y0, y1, y2, y3, y4, y5]) rfl HFN.out
      · have HE9 : Hid (((nameR ts.tail).bind fun s r => kindR ⟨dcOf (nextT ts), nextL ts, s, 0, 0, ⟨#[]⟩⟩ r).close [59] = .ok dz rz.tail) := Lib.hid (HE8.out.trans (close_yes' h4))
        go_upto_region 15 with fail
        refine wpAny_start (by kernel_rfl) rfl ?_
        refine wpAny_phase 0 8 [4, 6] [[], [], [1], [1, 2], [1, 2, 3], [1, 2, 3, 4], [0, 1, 2, 3, 4], [0, 1, 2, 3, 4, 5, 6]] [[none, some false], [some false, some false], [some false, some false], [some false, some false], [some false, some false], [some true, none], [some true, some false], [some true, some true]] (DC2 (fun w' => RdI w' R rz ∧ W8.grownBy w' (some R.br)) (fun w' => RdI w' R rz.tail ∧ W8.grownBy w' (some R.br)) (fun w' => ∃ w2, (RdI w2 R rz.tail ∧ W8.grownBy w2 (some R.br)) ∧ w' = w2.setCells w.heap.size 0 (deF dz))) (fun _ _ => True) [53, 54, 55, 56, 57, 58, 3] rfl rfl (by rfl) (by kernel_rfl) (by kernel_rfl) (by kernel_rfl) (by kernel_rfl) (by kernel_rfl) (by rfl) (fun _ => trivial) (by rfl) ⟨HIP.out.below (below_drewN (Below.refl _ _) 1), gr_below (below_drewN (Below.refl _ _) 1)⟩ ?_
        simp only [List.take_succ_cons, List.take_zero, List.drop_zero, List.drop_succ_cons, dumE, List.map_cons, List.map_nil]
        apply ObP.step
        case hobl =>
          intro c A w' hok hC hO hD
          obtain ⟨x, y, rfl⟩ := hC.bits
          obtain ⟨rfl, -⟩ := hok
          obtain ⟨d0, d1, d2, d3, d4, d5⟩ := KD w' (hC.gr (fun _ h => h.2) (fun _ h => h.2))
          have e5 := hO 5 (by rfl)
          simp [Act.eval] at e5
          simp [depsL, IsV, slotv, Act.eval, Region.binds] at hD
          simp [go_sem, gd, Oper.wp, e5, d0, d1, d2, d3, d4, d5]
          exact WPost.mk trivial (DC2.skip (by rfl) (by rfl) hC) (IsV.mk _ _)

        apply ObP.step
        case hobl =>
          intro c A w' hok hC hO hD
          have e6 := hO 6 (by rfl)
          simp [Act.eval] at e6
          simp [depsL, IsV, slotv, Act.eval, Region.binds] at hD
          simp [go_sem, gd, Oper.wp, hD, e6]
          exact WPost.mk trivial (DC2.skip (by rfl) (by rfl) hC) (IsV.mk _ _)
        apply ObP.step
        case hobl =>
          intro c A w' hok hC hO hD
          simp [depsL, IsV, slotv, Act.eval, Region.binds] at hD
          simp [go_sem, gd, Oper.wp, hD]
          exact WPost.mk trivial (DC2.skip (by rfl) (by rfl) hC) (IsV.mk _ _)
        apply ObP.step
        case hobl =>
          intro c A w' hok hC hO hD
          have e0 := hO 0 (by rfl)
          simp [Act.eval] at e0
          simp [depsL, IsV, slotv, Act.eval, Region.binds] at hD
          simp [go_sem, gd, Oper.wp, hD, e0]
          exact WPost.mk trivial (DC2.skip (by rfl) (by rfl) hC) (IsV.mk _ _)
        apply ObP.step
        case hobl =>
          intro c A w' hok hC hO hD
          obtain ⟨x, y, rfl⟩ := hC.bits
          obtain ⟨rfl, rfl, -⟩ := hok
          simp [depsL, IsV, slotv, Act.eval, Region.binds] at hD
          simp [go_sem, gd, Oper.wp, hD]
          refine (accept_yes R _ _ ⟨#[59]⟩ rfl h4 hC.1).mono ?_
          rintro e w3 ⟨rfl, k2, k3⟩
          exact WPost.mk trivial (DC2.fire (by rfl) (by rfl) ⟨k2, grow_tr hC.2 k3⟩) (IsV.mk _ _)
        simp only [List.nil_append, List.cons_append]
        apply ObP.step
        case hobl =>
          intro c A w' hok hC hO hD
          simp [depsL, IsV, slotv, Act.eval, Region.binds] at hD
          simp [go_sem, gd, Oper.wp, hD]
          exact WPost.mk trivial (DC2.skip (by rfl) (by rfl) hC) (IsV.mk _ _)
        refine ObP.some (fun _ _ => True) (fun _ _ _ _ _ => trivial) ?_ ?_
        · intro c A w' hok hC hO hD
          obtain ⟨x, y, rfl⟩ := hC.bits
          obtain ⟨rfl, rfl, -⟩ := hok
          have e2 := hO 2 (by rfl)
          simp [Act.eval] at e2
          simp [depsL, IsV, slotv, Act.eval, Region.binds] at hD
          simp only [gd, if_true]
          refine wp_store_mid _ _ _ (by rfl) w.heap.size 0 (deF dz).toArray (by simp [Act.eval, e2]) (by simp [Act.eval, hD, deF]) (thereS (HEZ.out w' hC.2) (Nat.le_refl 6)) de_siz (by simp [deF, Value.oneCell']) ?_
          exact WPost.mk0 trivial (DC2.last (by rfl) (by rfl) ⟨w', hC, rfl⟩) trivial
        apply ObP.step
        case hobl =>
          intro c A w' hok hC hO hD
          simp [depsL, IsV, slotv, Act.eval, Region.binds] at hD
          simp [go_sem, gd, Oper.wp, hD]
          exact WPost.mk trivial (DC2.skip (by rfl) (by rfl) hC) (IsV.mk _ _)
        try simp only [List.nil_append, List.cons_append]
        refine ObP.done ?_
        intro w9 hC9
        try simp only [List.drop_succ_cons, List.drop_zero]
        intro x0 h0 x1 h1 x2 h2 x3 h3 x4 h4 x5 h5 x6 h6 x7 h7
        have h7' := Eq.symm (show x7 = _ from h7)
        subst h7'
        clear h0 h1 h2 h3 h4 h5 h6 h7
        refine allvals_nil ?_
        refine wpAny_end rfl ?_
        obtain ⟨w2, hw2, hw9⟩ : ∃ w2, (RdI w2 R _ ∧ W8.grownBy w2 (some R.br)) ∧ w9 = w2.setCells w.heap.size 0 (deF dz) := hC9
        have HB9 : w9.heap[w.heap.size]? = some (.cells (deF dz).toArray 58 (0, 0)) := by rw [hw9]; exact setCells_all (HEZ.out w2 hw2.2) rfl
        have HW9 := Lib.hid hw9
        have y0 : w9.cell? ⟨w.heap.size, 0, none⟩ = some (.int .i64 dz.kind) := cellb HB9 rfl
        have y1 : w9.cell? ⟨w.heap.size, 1, none⟩ = some (.int .i64 dz.line) := cellb HB9 rfl
        have y2 : w9.cell? ⟨w.heap.size, 2, none⟩ = some (.string dz.nm) := cellb HB9 rfl
        have y3 : w9.cell? ⟨w.heap.size, 3, none⟩ = some (.int .i64 dz.size) := cellb HB9 rfl
        have y4 : w9.cell? ⟨w.heap.size, 4, none⟩ = some (.int .i64 dz.init) := cellb HB9 rfl
        have y5 : w9.cell? ⟨w.heap.size, 5, none⟩ = some (.string dz.on) := cellb HB9 rfl
        have HFN := Lib.hid (dec_ok (d := dz) HE9.out HP8.out.ok hw2.1 (grow_tr HGR8.out hw2.2) HLT.out.1)
        rw [← hw9] at HFN
        clear hw9 HB9 KD
        go_simp
        go_wp2_with fail
        exact bodyPost_ret (v := .tuple #[dvV dz, .bool true]) (by simp [results, Tryz.results66, go_sem, dvV, y0, y1, y2, y3, y4, y5]) rfl HFN.out
end Go.Proofs.YtommnhglgedflaaGreatDoor
end
