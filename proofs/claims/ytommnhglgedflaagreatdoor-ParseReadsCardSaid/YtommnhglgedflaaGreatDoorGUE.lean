/-
  Contract of the reference's Expr.
  Contract of the reference's SameExpr at two expressions that are alike.
-/
import Derived.Test.YtommnhglgedflaaGreatDoorGUD
import Derived.Test.YtommnhglgedflaaGreatDoorGUA
import Derived.Test.YtommnhglgedflaaGreatDoorGUB
import Derived.Test.YtommnhglgedflaaGreatDoorGRF
import Derived.Test.YtommnhglgedflaaGreatDoorGRE
import Derived.Test.YtommnhglgedflaaGreatDoorGMA
import Derived.StillTailTactics
import Derived.Deep.QuietTactic
section
set_option linter.unusedSimpArgs false
set_option linter.unusedVariables false
namespace Go.Proofs.YtommnhglgedflaaGreatDoor
open Go.RowKit
open Md Pz
theorem rf_new {w W : World} {ao : Option Addr} {cap : Nat} {ts : Toks} (hW : w.alloc (.cells #[.slice ao ts.length cap, .int .i64 0, .int .i64 0] 80) = W) (ht : TkAt w w.heap.size ts ao 0) (ok : ∀ t ∈ ts, TOk t) (tl : (∀ t ∈ ts, TL 4097 t) ∧ ts.length ≤ 4096) : RfI W (rdNew w ao cap ts) (.go ts) := by
  subst hW
  exact ⟨⟨0, 0, Nat.zero_le _, ⟨rfl, rfl⟩, heap_alloc_new _ _⟩, ht.below (alloc_below _ _), ⟨ok, tl.2⟩, tl.1⟩
theorem endS_bad {ts : Toks} {n : Int} : endS ts (.bad n) = .bad n := rfl
theorem endS_nil {ts : Toks} : endS ts (.go []) = .go [] := rfl
theorem endS_cons {ts : Toks} {t : Tk.Tok} {r : Toks} : endS ts (.go (t :: r)) = .bad (lineAt ts (t :: r)) := rfl
theorem parseES_err {s : List UInt8} (h : ¬ (Tk.scan s).2.1 = 0) : parseES s = (e0, ((Tk.scan s).2.1 : Int), ((Tk.scan s).2.2 : Int)) := by unfold parseES; rw [if_neg h]; rfl
theorem parseES_ok {s : List UInt8} (h : (Tk.scan s).2.1 = 0) : parseES s = outE (exprT (Tk.scan s).1 (.go (Tk.scan s).1)).1 (endS (Tk.scan s).1 (exprT (Tk.scan s).1 (.go (Tk.scan s).1)).2) := by unfold parseES; rw [if_pos h]
set_option maxHeartbeats 4000000 in
set_option maxRecDepth 100000 in
theorem RefExpr_any (s : ByteArray) (w : World) (hm : s.size ≤ maxLen) :
    Calls Tryz.prog 19 #[.string s] w (ExpE w (parseE s.data.toList)) := by
  rw [← parseES_eq]
  have HSC := Lib.hid (scan_ok s.data.toList)
  have HTL := Lib.hid (scan_tl s.data.toList)
  obtain ⟨res, HRES⟩ : ∃ res, Hid (parseES s.data.toList = res) := ⟨_, Lib.hid rfl⟩
  have HE1 : Hid (¬ (Tk.scan s.data.toList).2.1 = 0 → res = (e0, ((Tk.scan s.data.toList).2.1 : Int), ((Tk.scan s.data.toList).2.2 : Int))) := Lib.hid (fun h => HRES.out.symm.trans (parseES_err h))
  have HE2 : Hid ((Tk.scan s.data.toList).2.1 = 0 → res = outE (exprT (Tk.scan s.data.toList).1 (.go (Tk.scan s.data.toList).1)).1 (endS (Tk.scan s.data.toList).1 (exprT (Tk.scan s.data.toList).1 (.go (Tk.scan s.data.toList).1)).2)) := Lib.hid (fun h => HRES.out.symm.trans (parseES_ok h))
  have HSN : Hid (∀ w, Calls Tryz.prog 39 #[.string s] w (ScanPost w (Tk.scan s.data.toList))) := Lib.hid (fun w => RefScan_any s w hm)
  rw [HRES.out]
  clear HRES hm
  generalize Tk.scan s.data.toList = sc at *
  go_enter Tryz.func19, Tryz.ntmps19
  go_upto_region 1 with fail
  generalize hW : World.alloc w _ = W0
  have HB0 : Hid (Below w.heap.size w W0) := Lib.hid (by rw [← hW]; exact alloc_below _ _)
  have HZ0 : Hid (W0.heap[w.heap.size]? = some (.cells zE4 38 (0, 0))) := Lib.hid (by rw [← hW]; exact heap_alloc_new _ _)
  clear hW
  go_wp2_with fail
  refine (HSN.out _).mono ?_
  rintro e w1 ⟨v, rfl, hown, hb⟩
  obtain ⟨ao, cap, rfl, htk⟩ := tk_of_own hown
  have HTK := Lib.hid htk
  have HB1 := Lib.hid (HB0.out.trans (hb.mono HB0.out.size))
  have HZ1 := Lib.hid ((hb.block _ (Array.getElem?_eq_some_iff.1 HZ0.out).1).trans HZ0.out)
  clear hown hb htk HSN HB0 HZ0
  have hlt : w.heap.size < w1.heap.size := (Array.getElem?_eq_some_iff.1 HZ1.out).1
  by_cases h0 : sc.2.1 = 0
  · have HRS := Lib.hid (HE2.out h0)
    have HTL2 := Lib.hid (And.intro HTL.out.1 HTL.out.2.1)
    have hq : (((sc.2.1 : Nat) : Int) == 0) = true := by rw [h0]; rfl
    rw [h0]
    go_upto_region 5 with fail
    generalize hW : World.alloc w1 _ = W1
    have HR1 := Lib.hid (rf_new hW HTK.out HSC.out HTL2.out)
    have HB2 : Hid (Below w.heap.size w W1) := Lib.hid (by rw [← hW]; exact HB1.out.trans ((alloc_below w1 _).mono HB1.out.size))
    have HZ2 : Hid (W1.heap[w.heap.size]? = some (.cells zE4 38 (0, 0))) := Lib.hid (by rw [← hW]; exact ((alloc_below w1 _).block _ hlt).trans HZ1.out)
    have HX : Hid (∀ (R : Rp) (wr : World), RfI wr R (.go sc.1) → R.ts = sc.1 → Calls Tryz.prog 44 #[.pointer (some ⟨R.br, 0, none⟩), .int .i64 1] wr (ExpR R wr (exprT sc.1 (.go sc.1)))) := Lib.hid (fun R wr h e => by rw [← e]; rw [← e] at h; exact rexpr_any R _ wr h)
    generalize exprT sc.1 (.go sc.1) = pr at *
    obtain ⟨x, s'⟩ := pr
    clear hW HE1 HE2 HTL HSC HTK HTL2 HB1 HZ1 h0 hq
    go_wp2_with fail
    refine (HX.out _ _ HR1.out rfl).mono ?_
    rintro e w2 ⟨v, rfl, ⟨aox, capx, rfl, hok, hst⟩, h2, h3⟩
    have HV := Lib.hid (And.intro hok hst)
    have HR2 := Lib.hid h2
    have HG2 := Lib.hid h3
    clear hok hst h2 h3 HX
    unfold exV
    go_upto_region 6 with fail
    generalize hW : World.alloc w2 _ = W3
    have HB23 : Hid (Below w2.heap.size w2 W3) := Lib.hid (by rw [← hW]; exact alloc_below w2 _)
    have HB3 : Hid (Below w.heap.size w W3) := Lib.hid ((HB2.out.trans (grown_below HG2.out (Nat.le_of_lt hlt) HB2.out.size)).trans (HB23.out.mono (Nat.le_trans HB2.out.size HG2.out.size)))
    have HR3 := Lib.hid (HR2.out.below HB23.out)
    have HZ3 : Hid (W3.heap[w.heap.size]? = some (.cells zE4 38 (0, 0))) := Lib.hid (by
      have k1 := (Array.getElem?_eq_some_iff.1 HZ2.out).1
      exact (HB23.out.block _ (Nat.lt_of_lt_of_le k1 HG2.out.size)).trans ((HG2.out.block _ k1 (by simp [rdNew]; omega)).trans HZ2.out))
    have HD3 : Hid (W3.heap[w2.heap.size]? = some (.cells #[.int .i64 x.op, .int .i64 x.n, .string x.nm, .slice aox x.kids.len capx] 38 (0, 0))) := Lib.hid (by rw [← hW]; exact heap_alloc_new _ _)
    have HKX : Hid (Stay W1.heap.size W3 (fun w2 => x.kids.At w2 w2.heap.size aox 0)) := Lib.hid (HV.out.2.next (abv_below HB23.out))
    have HW1 : Hid (w1.heap.size < W1.heap.size ∧ W1.heap.size ≤ W3.heap.size) := Lib.hid ⟨HR1.out.lt, Nat.le_trans HG2.out.size HB23.out.size⟩
    clear hW HR2 HG2 HB23 HZ2 HB2 HR1
    have HLB3 : Hid (w1.heap.size < W3.heap.size) := Lib.hid (by have := HW1.out; omega)
    cases s' with
    | bad n =>
      rw [endS_bad] at HRS
      have HRE : Hid (res = (e0, 3, n)) := HRS
      obtain ⟨pos, bad, ⟨hp, hp2, hl, hltb, hbr⟩, HS, ⟨hbad0, hbad1⟩, c0, c1, c2, f1, f2⟩ := HR3.out.open
      obtain ⟨rfl, hn1, hn2⟩ := HS.out
      have c0 : W3.cell? ⟨w1.heap.size, 0, none⟩ = some (.slice ao sc.1.length cap) := c0
      have c1 : W3.cell? ⟨w1.heap.size, 1, none⟩ = some (.int .i64 (pos : Int)) := c1
      have c2 : W3.cell? ⟨w1.heap.size, 2, none⟩ = some (.int .i64 bad) := c2
      have hq : (bad == 0) = false := by rw [beq_eq_false_iff_ne]; omega
      have hq2 : decide ((0 : Int) < bad) = true := decide_eq_true (by omega)
      clear HS f1 f2
      go_upto_region 9 with fail
      obtain ⟨WR, hWR⟩ : ∃ WR, WR = W3 := ⟨_, rfl⟩
      rw [← hWR] at c2 HLB3 HZ3 HB3 ⊢
      have HZR := HZ3
      have HLB := HLB3
      have HBR := HB3
      clear hWR
      have KP : ∀ (x : Bool) w', SC1 (fun w' => w' = WR.drewN 1) (fun w' => w' = (WR.drewN 1).setCells w.heap.size 0 [.int .i64 0, .int .i64 0, .string ⟨#[]⟩, .slice none 0 0]) [x] w' → w'.cell? ⟨w1.heap.size, 2, none⟩ = some (.int .i64 bad) := fun x w' h => by
        cases x
        · have h : w' = _ := h
          rw [h]; exact c2
        · have h : w' = _ := h
          rw [h]; exact (World.cell?_of_block (a := ⟨w1.heap.size, 2, none⟩) ((setCells_grown w.heap.size _ 0 (WR.drewN 1)).block _ HLB.out (by simp; omega))).trans c2
      refine wpAny_start (by kernel_rfl) rfl ?_
      refine wpAny_phase 0 8 [5] [[], [], [1], [1, 2], [1, 2, 3], [0], [0, 5], [0, 1, 2, 3, 4, 5, 6]] [[some false], [none], [none], [none], [none], [some false], [some true], [some true]] (SC1 (fun w' => w' = WR.drewN 1) (fun w' => w' = (WR.drewN 1).setCells w.heap.size 0 [.int .i64 0, .int .i64 0, .string ⟨#[]⟩, .slice none 0 0])) (fun _ _ => True) [47, 48, 49, 50, 51, 3, 4] rfl rfl (by rfl) (by kernel_rfl) (by kernel_rfl) (by kernel_rfl) (by kernel_rfl) (by kernel_rfl) (by rfl) (fun _ => trivial) (by rfl) rfl ?_
      simp only [List.take_succ_cons, List.take_zero, List.drop_zero, List.drop_succ_cons, dumE, List.map_cons, List.map_nil]
      apply ObP.step
      case hobl =>
        intro c A w' hok hC hO hD
        simp [depsL, IsV, slotv, Act.eval, Region.binds] at hD
        simp [go_sem, gd, Oper.wp, hD]
        exact WPost.mk trivial (SC1.skip (by rfl) hC) (IsV.mk _ _)
      apply ObP.step
      case hobl =>
        intro c A w' hok hC hO hD
        have e8 := hO 8 (by rfl)
        simp [Act.eval] at e8
        simp [depsL, IsV, slotv, Act.eval, Region.binds] at hD
        simp [go_sem, gd, Oper.wp, hD, e8]
        exact WPost.mk trivial (SC1.skip (by rfl) hC) (IsV.mk _ _)
      apply ObP.step
      case hobl =>
        intro c A w' hok hC hO hD
        simp [depsL, IsV, slotv, Act.eval, Region.binds] at hD
        simp [go_sem, gd, Oper.wp, hD]
        exact WPost.mk trivial (SC1.skip (by rfl) hC) (IsV.mk _ _)
      apply ObP.step
      case hobl =>
        intro c A w' hok hC hO hD
        simp [depsL, IsV, slotv, Act.eval, Region.binds] at hD
        simp [go_sem, gd, Oper.wp, hD]
        exact WPost.mk trivial (SC1.skip (by rfl) hC) (IsV.mk _ _)
      simp only [List.nil_append, List.cons_append]
      apply ObP.step
      case hobl =>
        intro c A w' hok hC hO hD
        obtain ⟨x, rfl⟩ := hC.bits
        have hb := KP x w' hC
        simp [depsL, IsV, slotv, Act.eval, Region.binds] at hD
        simp [go_sem, gd, Oper.wp, hD, hb]
        exact WPost.mk trivial (SC1.skip (by rfl) hC) (IsV.mk _ _)
      refine ObP.some (fun _ _ => True) (fun _ _ _ _ _ => trivial) ?_ ?_
      · intro c A w' hok hC hO hD
        obtain ⟨x, rfl⟩ := hC.bits
        obtain ⟨rfl, -⟩ := hok
        have hC : w' = _ := hC
        have e2 := hO 2 (by rfl)
        simp [Act.eval] at e2
        simp [depsL, IsV, slotv, Act.eval, Region.binds] at hD
        simp only [gd, if_true]
        refine wp_store_mid _ _ _ (by rfl) w.heap.size 0 ([.int .i64 0, .int .i64 0, .string ⟨#[]⟩, .slice none 0 0]).toArray (by simp [Act.eval, e2]) (by simp [Act.eval, hD]) (by rw [hC]; exact thereS HZR.out (Nat.le_refl 4)) ex_siz (by simp [Value.oneCell']) ?_
        exact WPost.mk0 trivial (SC1.fire (by rfl) (by rw [hC])) trivial
      apply ObP.step
      case hobl =>
        intro c A w' hok hC hO hD
        simp [depsL, IsV, slotv, Act.eval, Region.binds] at hD
        simp [go_sem, gd, Oper.wp, hD]
        exact WPost.mk trivial (SC1.skip (by rfl) hC) (IsV.mk _ _)
      apply ObP.step
      case hobl =>
        intro c A w' hok hC hO hD
        simp [depsL, IsV, slotv, Act.eval, Region.binds] at hD
        simp [go_sem, gd, Oper.wp, hD]
        exact WPost.mk trivial (SC1.skip (by rfl) hC) (IsV.mk _ _)
      try simp only [List.nil_append, List.cons_append]
      refine ObP.done ?_
      intro w9 hC9
      try simp only [List.drop_succ_cons, List.drop_zero]
      intro x0 h0 x1 h1 x2 h2 x3 h3 x4 h4 x5 h5 x6 h6 x7 h7
      have h6' := Eq.symm (show x6 = _ from h6)
      subst h6'
      have h7' := Eq.symm (show x7 = _ from h7)
      subst h7'
      clear h0 h1 h2 h3 h4 h5 h6 h7 KP
      refine allvals_nil ?_
      refine wpAny_end rfl ?_
      have HW9 : Hid (w9 = (WR.drewN 1).setCells w.heap.size 0 [.int .i64 0, .int .i64 0, .string ⟨#[]⟩, .slice none 0 0]) := Lib.hid hC9
      clear hC9
      have HB9 : w9.heap[w.heap.size]? = some (.cells #[.int .i64 0, .int .i64 0, .string ⟨#[]⟩, .slice none 0 0] 38 (0, 0)) := by rw [HW9.out]; exact setCells_all HZR.out rfl
      have y0 : w9.cell? ⟨w.heap.size, 0, none⟩ = some (.int .i64 0) := cellb HB9 rfl
      have y1 : w9.cell? ⟨w.heap.size, 1, none⟩ = some (.int .i64 0) := cellb HB9 rfl
      have y2 : w9.cell? ⟨w.heap.size, 2, none⟩ = some (.string ⟨#[]⟩) := cellb HB9 rfl
      have y3 : w9.cell? ⟨w.heap.size, 3, none⟩ = some (.slice none 0 0) := cellb HB9 rfl
      have HBF : Hid (Below w.heap.size w w9) := Lib.hid (by rw [HW9.out]; exact below_sets (below_drewN HBR.out 1) 0 _)
      clear HB9
      go_simp
      go_wp2_with fail
      exact bodyPost_ret (v := .tuple #[.agg #[.int .i64 0, .int .i64 0, .string ⟨#[]⟩, .slice none 0 0], .int .i64 3, .int .i64 _]) (by simp [results, Tryz.results19, go_sem, y0, y1, y2, y3]) rfl (exE_err HRE.out HBF.out)
    | go r =>
      have HEN := Lib.hid HRS.out
      obtain ⟨pos, bad, ⟨hp, hp2, hl, hltb, hbr⟩, HS, ⟨hbad0, hbad1⟩, c0, c1, c2, f1, f2⟩ := HR3.out.open
      obtain ⟨rfl, hd⟩ := HS.out
      have hd : sc.1.drop pos = r := hd
      have c0 : W3.cell? ⟨w1.heap.size, 0, none⟩ = some (.slice ao sc.1.length cap) := c0
      have c1 : W3.cell? ⟨w1.heap.size, 1, none⟩ = some (.int .i64 (pos : Int)) := c1
      have c2 : W3.cell? ⟨w1.heap.size, 2, none⟩ = some (.int .i64 0) := c2
      clear HS f1 f2 hbad0 hbad1
      cases r with
      | nil =>
        rw [endS_nil] at HRS
        have HRE : Hid (res = (x, 0, 0)) := HRS
        have hpos : sc.1.length ≤ pos := List.drop_eq_nil_iff.1 hd
        have hq : decide (pos < sc.1.length) = false := by rw [decide_eq_false_iff_not]; omega
        obtain ⟨⟨y0, y1, y2, y3⟩, f0, f1, f2, f3⟩ := zE_cells HZ3.out
        have d0 : W3.cell? ⟨w2.heap.size, 0, none⟩ = some (.int .i64 x.op) := cellb HD3.out rfl
        have d1 : W3.cell? ⟨w2.heap.size, 1, none⟩ = some (.int .i64 x.n) := cellb HD3.out rfl
        have d2 : W3.cell? ⟨w2.heap.size, 2, none⟩ = some (.string x.nm) := cellb HD3.out rfl
        have d3 : W3.cell? ⟨w2.heap.size, 3, none⟩ = some (.slice aox x.kids.len capx) := cellb HD3.out rfl
        have hlt3 : w.heap.size < W3.heap.size := (Array.getElem?_eq_some_iff.1 HZ3.out).1
        have HFN : Hid (∀ W, set4 W3 w.heap.size (.int .i64 x.op) (.int .i64 x.n) (.string x.nm) (.slice aox x.kids.len capx) = W → ExpE w res (.returned (.tuple #[.agg #[.int .i64 x.op, .int .i64 x.n, .string x.nm, .slice aox x.kids.len capx], .int .i64 0, .int .i64 0])) W) := Lib.hid (fun W hW => by
          subst hW
          have ha := set4_abv W3 w.heap.size (.int .i64 x.op) (.int .i64 x.n) (.string x.nm) (.slice aox x.kids.len capx)
          exact exE_ok HRE.out HV.out.1 ((HKX.out.next (ha.mono (by have := HW1.out; omega))).now) (below_set (below_set (below_set (below_set HB3.out _ _ (Nat.le_refl _)) _ _ (Nat.le_refl _)) _ _ (Nat.le_refl _)) _ _ (Nat.le_refl _)))
        clear hd hpos HEN HRS
        go_wp2_with fail
        exact bodyPost_ret (v := .tuple #[.agg #[.int .i64 x.op, .int .i64 x.n, .string x.nm, .slice aox x.kids.len capx], .int .i64 0, .int .i64 0]) (by simp [results, Tryz.results19, go_sem, y0, y1, y2, y3, hlt3]) rfl (HFN.out _ rfl)
      | cons t q =>
        rw [endS_cons] at HRS
        have hpos : pos < sc.1.length := by
          have := congrArg List.length hd; simp at this; omega
        have hq : decide (pos < sc.1.length) = true := decide_eq_true hpos
        obtain ⟨n, hn⟩ : ∃ n, lineAt sc.1 (t :: q) = n := ⟨_, rfl⟩
        have HRE : Hid (res = (e0, 3, n)) := Lib.hid (by rw [← hn]; exact HRS.out)
        have HFL : Hid (∀ W, RfI W (rdNew w1 ao cap sc.1) (.go (t :: q)) → Calls Tryz.prog 45 #[.pointer (some ⟨w1.heap.size, 0, none⟩)] W fun e w' => e = .returned (.tuple #[]) ∧ RfI w' (rdNew w1 ao cap sc.1) (.bad n) ∧ W.grownBy w' (some w1.heap.size)) := Lib.hid (fun W h => by
          have := fail_any _ _ W h
          rw [← hn]; exact this)
        clear hd hn HEN HRS
        go_wp2_with fail
        refine (HFL.out _ HR3.out).mono ?_
        rintro e w4 ⟨rfl, h2, h3⟩
        have HR4 := Lib.hid h2
        have HB4 : Hid (Below w.heap.size w w4) := Lib.hid (HB3.out.trans (grown_below h3 (Nat.le_of_lt hlt) HB3.out.size))
        have HZ4 : Hid (w4.heap[w.heap.size]? = some (.cells zE4 38 (0, 0))) := Lib.hid ((h3.block _ (Array.getElem?_eq_some_iff.1 HZ3.out).1 (by simp; omega)).trans HZ3.out)
        have HLB4 : Hid (w1.heap.size < w4.heap.size) := Lib.hid (by have := HLB3.out; have := h3.size; omega)
        clear h2 h3 c0 c1 c2
        obtain ⟨pos', bad', -, HS', ⟨hbad0, hbad1⟩, c0, c1, c2, f1, f2⟩ := HR4.out.open
        obtain ⟨rfl, hn1, hn2⟩ := HS'.out
        have c2 : w4.cell? ⟨w1.heap.size, 2, none⟩ = some (.int .i64 bad') := c2
        have hq2 : decide ((0 : Int) < bad') = true := decide_eq_true (by omega)
        clear HS' f1 f2 c0 c1
        go_upto_region 9 with fail
        obtain ⟨WR, hWR⟩ : ∃ WR, WR = w4 := ⟨_, rfl⟩
        rw [← hWR] at c2 HLB4 HZ4 HB4 ⊢
        have HZR := HZ4
        have HLB := HLB4
        have HBR := HB4
        clear hWR
        have KP : ∀ (x : Bool) w', SC1 (fun w' => w' = WR.drewN 1) (fun w' => w' = (WR.drewN 1).setCells w.heap.size 0 [.int .i64 0, .int .i64 0, .string ⟨#[]⟩, .slice none 0 0]) [x] w' → w'.cell? ⟨w1.heap.size, 2, none⟩ = some (.int .i64 bad') := fun x w' h => by
          cases x
          · have h : w' = _ := h
            rw [h]; exact c2
          · have h : w' = _ := h
            rw [h]; exact (World.cell?_of_block (a := ⟨w1.heap.size, 2, none⟩) ((setCells_grown w.heap.size _ 0 (WR.drewN 1)).block _ HLB.out (by simp; omega))).trans c2
        refine wpAny_start (by kernel_rfl) rfl ?_
        refine wpAny_phase 0 8 [5] [[], [], [1], [1, 2], [1, 2, 3], [0], [0, 5], [0, 1, 2, 3, 4, 5, 6]] [[some false], [none], [none], [none], [none], [some false], [some true], [some true]] (SC1 (fun w' => w' = WR.drewN 1) (fun w' => w' = (WR.drewN 1).setCells w.heap.size 0 [.int .i64 0, .int .i64 0, .string ⟨#[]⟩, .slice none 0 0])) (fun _ _ => True) [47, 48, 49, 50, 51, 3, 4] rfl rfl (by rfl) (by kernel_rfl) (by kernel_rfl) (by kernel_rfl) (by kernel_rfl) (by kernel_rfl) (by rfl) (fun _ => trivial) (by rfl) rfl ?_
        simp only [List.take_succ_cons, List.take_zero, List.drop_zero, List.drop_succ_cons, dumE, List.map_cons, List.map_nil]
        apply ObP.step
        case hobl =>
          intro c A w' hok hC hO hD
          simp [depsL, IsV, slotv, Act.eval, Region.binds] at hD
          simp [go_sem, gd, Oper.wp, hD]
          exact WPost.mk trivial (SC1.skip (by rfl) hC) (IsV.mk _ _)
        apply ObP.step
        case hobl =>
          intro c A w' hok hC hO hD
          have e8 := hO 8 (by rfl)
          simp [Act.eval] at e8
          simp [depsL, IsV, slotv, Act.eval, Region.binds] at hD
          simp [go_sem, gd, Oper.wp, hD, e8]
          exact WPost.mk trivial (SC1.skip (by rfl) hC) (IsV.mk _ _)
        apply ObP.step
        case hobl =>
          intro c A w' hok hC hO hD
          simp [depsL, IsV, slotv, Act.eval, Region.binds] at hD
          simp [go_sem, gd, Oper.wp, hD]
          exact WPost.mk trivial (SC1.skip (by rfl) hC) (IsV.mk _ _)
        apply ObP.step
        case hobl =>
          intro c A w' hok hC hO hD
          simp [depsL, IsV, slotv, Act.eval, Region.binds] at hD
          simp [go_sem, gd, Oper.wp, hD]
          exact WPost.mk trivial (SC1.skip (by rfl) hC) (IsV.mk _ _)
        simp only [List.nil_append, List.cons_append]
        apply ObP.step
        case hobl =>
          intro c A w' hok hC hO hD
          obtain ⟨x, rfl⟩ := hC.bits
          have hb := KP x w' hC
          simp [depsL, IsV, slotv, Act.eval, Region.binds] at hD
          simp [go_sem, gd, Oper.wp, hD, hb]
          exact WPost.mk trivial (SC1.skip (by rfl) hC) (IsV.mk _ _)
        refine ObP.some (fun _ _ => True) (fun _ _ _ _ _ => trivial) ?_ ?_
        · intro c A w' hok hC hO hD
          obtain ⟨x, rfl⟩ := hC.bits
          obtain ⟨rfl, -⟩ := hok
          have hC : w' = _ := hC
          have e2 := hO 2 (by rfl)
          simp [Act.eval] at e2
          simp [depsL, IsV, slotv, Act.eval, Region.binds] at hD
          simp only [gd, if_true]
          refine wp_store_mid _ _ _ (by rfl) w.heap.size 0 ([.int .i64 0, .int .i64 0, .string ⟨#[]⟩, .slice none 0 0]).toArray (by simp [Act.eval, e2]) (by simp [Act.eval, hD]) (by rw [hC]; exact thereS HZR.out (Nat.le_refl 4)) ex_siz (by simp [Value.oneCell']) ?_
          exact WPost.mk0 trivial (SC1.fire (by rfl) (by rw [hC])) trivial
        apply ObP.step
        case hobl =>
          intro c A w' hok hC hO hD
          simp [depsL, IsV, slotv, Act.eval, Region.binds] at hD
          simp [go_sem, gd, Oper.wp, hD]
          exact WPost.mk trivial (SC1.skip (by rfl) hC) (IsV.mk _ _)
        apply ObP.step
        case hobl =>
          intro c A w' hok hC hO hD
          simp [depsL, IsV, slotv, Act.eval, Region.binds] at hD
          simp [go_sem, gd, Oper.wp, hD]
          exact WPost.mk trivial (SC1.skip (by rfl) hC) (IsV.mk _ _)
        try simp only [List.nil_append, List.cons_append]
        refine ObP.done ?_
        intro w9 hC9
        try simp only [List.drop_succ_cons, List.drop_zero]
        intro x0 h0 x1 h1 x2 h2 x3 h3 x4 h4 x5 h5 x6 h6 x7 h7
        have h6' := Eq.symm (show x6 = _ from h6)
        subst h6'
        have h7' := Eq.symm (show x7 = _ from h7)
        subst h7'
        clear h0 h1 h2 h3 h4 h5 h6 h7 KP
        refine allvals_nil ?_
        refine wpAny_end rfl ?_
        have HW9 : Hid (w9 = (WR.drewN 1).setCells w.heap.size 0 [.int .i64 0, .int .i64 0, .string ⟨#[]⟩, .slice none 0 0]) := Lib.hid hC9
        clear hC9
        have HB9 : w9.heap[w.heap.size]? = some (.cells #[.int .i64 0, .int .i64 0, .string ⟨#[]⟩, .slice none 0 0] 38 (0, 0)) := by rw [HW9.out]; exact setCells_all HZR.out rfl
        have y0 : w9.cell? ⟨w.heap.size, 0, none⟩ = some (.int .i64 0) := cellb HB9 rfl
        have y1 : w9.cell? ⟨w.heap.size, 1, none⟩ = some (.int .i64 0) := cellb HB9 rfl
        have y2 : w9.cell? ⟨w.heap.size, 2, none⟩ = some (.string ⟨#[]⟩) := cellb HB9 rfl
        have y3 : w9.cell? ⟨w.heap.size, 3, none⟩ = some (.slice none 0 0) := cellb HB9 rfl
        have HBF : Hid (Below w.heap.size w w9) := Lib.hid (by rw [HW9.out]; exact below_sets (below_drewN HBR.out 1) 0 _)
        clear HB9
        go_simp
        go_wp2_with fail
        exact bodyPost_ret (v := .tuple #[.agg #[.int .i64 0, .int .i64 0, .string ⟨#[]⟩, .slice none 0 0], .int .i64 3, .int .i64 _]) (by simp [results, Tryz.results19, go_sem, y0, y1, y2, y3]) rfl (exE_err HRE.out HBF.out)
  · have hq : (((sc.2.1 : Nat) : Int) == 0) = false := by rw [beq_eq_false_iff_ne]; omega
    have HRE := Lib.hid (HE1.out h0)
    have y0 : w1.cell? ⟨w.heap.size, 0, none⟩ = some (.int .i64 0) := cellb HZ1.out rfl
    have y1 : w1.cell? ⟨w.heap.size, 1, none⟩ = some (.int .i64 0) := cellb HZ1.out rfl
    have y2 : w1.cell? ⟨w.heap.size, 2, none⟩ = some (.string ⟨#[]⟩) := cellb HZ1.out rfl
    have y3 : w1.cell? ⟨w.heap.size, 3, none⟩ = some (.slice none 0 0) := cellb HZ1.out rfl
    have f0 : w1.frozen? ⟨w.heap.size, 0, none⟩ = false := free_blk HZ1.out
    have f1 : w1.frozen? ⟨w.heap.size, 1, none⟩ = false := free_blk HZ1.out
    have f2 : w1.frozen? ⟨w.heap.size, 2, none⟩ = false := free_blk HZ1.out
    have f3 : w1.frozen? ⟨w.heap.size, 3, none⟩ = false := free_blk HZ1.out
    go_wp2_with fail
    exact bodyPost_ret (v := .tuple #[.agg #[.int .i64 0, .int .i64 0, .string ⟨#[]⟩, .slice none 0 0], .int .i64 (sc.2.1 : Int), .int .i64 (sc.2.2 : Int)]) (by simp [results, Tryz.results19, go_sem, y0, y1, y2, y3, hlt]) rfl (exE_err HRE.out (below_set (below_set (below_set (below_set HB1.out _ _ (Nat.le_refl _)) _ _ (Nat.le_refl _)) _ _ (Nat.le_refl _)) _ _ (Nat.le_refl _)))
end Go.Proofs.YtommnhglgedflaaGreatDoor
end
section
set_option linter.unusedSimpArgs false
set_option linter.unusedVariables false
namespace Go.Proofs.YtommnhglgedflaaGreatDoor
open Go.RowKit
open Md
/-- What SameExpr answers at an expression that lies twice. -/
def SmSays (op n : Int) (nm : ByteArray) (kids : ExL) : Prop :=
  ∀ (w : World) (ao : Option Addr) (cap : Nat) (ao2 : Option Addr) (cap2 : Nat), ExOk op n nm kids → kids.At w w.heap.size ao 0 → kids.At w w.heap.size ao2 0 →
    Calls Tryz.prog 20 #[.agg #[.int .i64 op, .int .i64 n, .string nm, .slice ao kids.len cap], .agg #[.int .i64 op, .int .i64 n, .string nm, .slice ao2 kids.len cap2]] w fun e w' => e = .returned (.bool true) ∧ Below w.heap.size w w'
set_option maxHeartbeats 4000000 in
set_option maxRecDepth 100000 in
theorem SameExpr_step (op n : Int) (nm : ByteArray) (kids : ExL) (ih : kids.All SmSays) : SmSays op n nm kids := by
  intro w ao cap ao2 cap2 hok hat hat2
  have hl := hok.2.2.2
  unfold maxLen at hl
  have HIH := Lib.hid ih
  have HAT := Lib.hid hat
  have HAT2 := Lib.hid hat2
  clear ih hat hat2 hok
  go_enter Tryz.func20, Tryz.ntmps20
  go_upto_region 1 with fail
  have HX := Lib.hid (((Sit.start w).box4 rfl (.int .i64 op) (.int .i64 n) (.string nm) (.slice ao kids.len cap) 38).box4 (n := w.heap.size + 1) (by simp) (.int .i64 op) (.int .i64 n) (.string nm) (.slice ao2 kids.len cap2) 38)
  generalize hW : World.alloc (World.alloc w _) _ = W at *
  clear hW
  obtain ⟨-, ⟨-, c0⟩, ⟨-, c1⟩, ⟨-, c2⟩, ⟨-, c3⟩, ⟨-, c4⟩, ⟨-, c5⟩, ⟨-, c6⟩, ⟨-, c7⟩, -⟩ := HX.out
  go_wp2_with fail
  go_loopw [5] (fun i wr => ∃ (k : Nat) (R : ExL), i = .int .i64 (k : Nat) ∧ k + R.len = kids.len ∧ R.All SmSays ∧ R.At wr wr.heap.size ao k ∧ R.At wr wr.heap.size ao2 k ∧ Sit w wr [(w.heap.size + 1, 0, .int .i64 op), (w.heap.size + 1, 1, .int .i64 n), (w.heap.size + 1, 2, .string nm), (w.heap.size + 1, 3, .slice ao2 kids.len cap2), (w.heap.size, 0, .int .i64 op), (w.heap.size, 1, .int .i64 n), (w.heap.size, 2, .string nm), (w.heap.size, 3, .slice ao kids.len cap)]) (fun i _ => kids.len - (intOf i).toNat)
  case atStart => exact ⟨0, kids, rfl, Nat.zero_add _, HIH.out, HAT.out.same HX.out.1, HAT2.out.same HX.out.1, HX.out⟩
  case round =>
    obtain ⟨k, R, rfl, hlen, hall, hrow, hrow2, hsit⟩ := hrel
    have HY := Lib.hid hsit
    clear hsit HX c0 c1 c2 c3 c4 c5 c6 c7
    obtain ⟨-, ⟨-, c0⟩, ⟨-, c1⟩, ⟨-, c2⟩, ⟨-, c3⟩, ⟨-, c4⟩, ⟨-, c5⟩, ⟨-, c6⟩, ⟨-, c7⟩, -⟩ := HY.out
    cases R with
    | nil =>
      obtain rfl : k = kids.len := by simpa [ExL.len] using hlen
      go_wp2_with fail
      go_ret
      exact ⟨rfl, HY.out.1⟩
    | cons op' n' nm' kids' rest =>
      obtain ⟨⟨b, off, ao', cap', rfl, hbB, x0, x1, x2, x3, hok', hkids⟩, hrest⟩ := hrow
      obtain ⟨⟨b2, off2, ao2', cap2', rfl, hbB2, y0, y1, y2, y3, -, hkids2⟩, hrest2⟩ := hrow2
      obtain ⟨hsay, hall'⟩ := hall
      have hlt : k < kids.len := by simp only [ExL.len] at hlen; omega
      have hb0 : (0 : Int) ≤ (k : Int) := by omega
      have hb1 : (k : Int) < (kids.len : Int) := by omega
      have HK := Lib.hid (And.intro hkids (And.intro hkids2 (And.intro hrest (And.intro hrest2 hok'))))
      have HS := Lib.hid hsay
      clear hkids hkids2 hrest hrest2 hok' hsay
      go_upto_region 6 with fail
      go_still_tail 10, (by kernel_rfl)
      change wpList _ _ _ _ _ (World.drew _)
      have hbd : Below wr.heap.size wr wr.drew := below_drewN (Below.refl _ _) 1
      go_wp2_with fail
      refine (HS.out _ ao' cap' ao2' cap2' HK.out.2.2.2.2 (HK.out.1.same hbd) (HK.out.2.1.same hbd)).mono ?_
      rintro e w2 ⟨rfl, hb2⟩
      have hb3 : Below wr.heap.size wr w2 := hbd.trans (hb2.mono hbd.size)
      have HZ := Lib.hid (HY.out.next hb3)
      have HR := Lib.hid (And.intro (HK.out.2.2.1.same hb3) (HK.out.2.2.2.1.same hb3))
      clear hb2 hb3 hbd HY HK x0 x1 x2 x3 y0 y1 y2 y3 c0 c1 c2 c3 c4 c5 c6 c7
      go_wp2_with fail
      go_roundw
      case rel => exact ⟨k + 1, rest, by go_num, by simp only [ExL.len] at hlen; omega, hall', HR.out.1, HR.out.2, HZ.out⟩
      case measure => simp [intOf]; omega
theorem SameExpr_any (op n : Int) (nm : ByteArray) (kids : ExL) : SmSays op n nm kids := ExL.of_all SameExpr_step op n nm kids
end Go.Proofs.YtommnhglgedflaaGreatDoor
end
