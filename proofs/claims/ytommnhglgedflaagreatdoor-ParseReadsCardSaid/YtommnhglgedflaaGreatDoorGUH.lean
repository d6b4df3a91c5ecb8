/-
  The second parser's programs read on: plain laws. No program in sight.
  Contract of the reference's Parse.
-/
import Derived.Test.YtommnhglgedflaaGreatDoorGUB
import Derived.Test.YtommnhglgedflaaGreatDoorGUG
import Derived.Test.YtommnhglgedflaaGreatDoorGUE
section
set_option linter.unusedVariables false
namespace Go.Proofs.YtommnhglgedflaaGreatDoor.Pz
open Go.RowKit Md Tk
section
variable {ts : Toks}
theorem sizeS_le (d : De) (s : St) : (sizeS ts d s).2.len ≤ s.len := by
  unfold sizeS
  split
  · split
    · refine Nat.le_trans (wantS_le _ _) (Nat.le_trans (numS_le _) ?_)
      split
      · exact Nat.le_trans (fail_le _) (adv_le s)
      · exact adv_le s
    · exact Nat.le_trans (wantS_le _ _) (Nat.le_trans (numS_le _) (adv_le s))
  · exact Nat.le_refl _
theorem initS_le (d : De) (s : St) : (initS ts d s).2.len ≤ s.len := by
  unfold initS
  split
  · split
    · exact Nat.le_trans (numS_le _) (Nat.le_trans (adv_le _) (adv_le s))
    · exact Nat.le_trans (numS_le _) (adv_le s)
  · exact Nat.le_refl _
theorem onS_le (d : De) (s : St) : (onS ts d s).2.len ≤ s.len := by
  unfold onS
  split
  · exact nameS_le s
  · exact Nat.le_refl _
theorem isDecl_ne {s : St} (h : isDecl s.toks = true) : s.toks ≠ [] := by
  intro e; rw [e] at h; exact absurd h (by decide)
theorem declS_lt {s : St} (h : isDecl s.toks = true) : (declS ts s).2.len < s.len := by
  refine Nat.lt_of_le_of_lt ?_ (adv_lt (isDecl_ne h))
  unfold declS thenS
  dsimp only
  exact Nat.le_trans (wantS_le _ _) (Nat.le_trans (onS_le _ _) (Nat.le_trans (initS_le _ _) (Nat.le_trans (sizeS_le _ _) (nameS_le _))))
theorem locsS_le : ∀ (f : Nat) (l : List ByteArray) (s : St), (locsS ts f l s).2.len ≤ s.len
  | 0, l, s => Nat.le_refl _
  | f + 1, l, s => by
    unfold locsS
    split
    · exact Nat.le_trans (locsS_le f _ _) (Nat.le_trans (nameS_le _) (adv_le s))
    · exact Nat.le_refl _
theorem paramS_le (s : St) : (paramS ts s).2.len ≤ s.len := by
  unfold paramS
  split
  · exact Nat.le_refl _
  · exact Nat.le_trans (locsS_le _ _ _) (nameS_le s)
theorem thrS_le (s : St) : (thrS ts s).2.len ≤ (wantS ts [116, 104, 114, 101, 97, 100] s).len := by
  unfold thrS
  dsimp only
  exact Nat.le_trans (bkS_le _ _) (Nat.le_trans (wantS_le _ _) (Nat.le_trans (paramS_le _) (Nat.le_trans (wantS_le _ _) (nameS_le _))))
theorem thrS_mu {s : St} (hg : s.good = true) : (thrS ts s).2.mu < s.mu := by
  cases s with
  | bad n => cases hg
  | go r =>
    cases h : at' [116, 104, 114, 101, 97, 100] r
    · rw [thrS_no h]; exact mu_bad _ hg
    · refine mu_le (Nat.lt_of_le_of_lt (thrS_le _) ?_) hg
      rw [wantS_go h]
      exact at_lt (s := .go r) h
theorem declsS_end {f : Nat} {l : List De} {s : St} (h : isDecl s.toks = false) : declsS ts f l s = (l, s) := by
  cases f with
  | zero => rfl
  | succ f => unfold declsS; rw [if_neg (by rw [h]; decide)]
theorem declsS_more {f : Nat} {l : List De} {s : St} (h : isDecl s.toks = true) : declsS ts (f + 1) l s = declsS ts f (l ++ [(declS ts s).1]) (declS ts s).2 := by
  conv => lhs; unfold declsS
  rw [if_pos h]
theorem thrsS_end {f : Nat} {l : List Th} {s : St} (h : (s.good && (l.isEmpty || !s.toks.isEmpty)) = false) : thrsS ts f l s = (l, s) := by
  cases f with
  | zero => rfl
  | succ f => unfold thrsS; rw [if_neg (by rw [h]; decide)]
theorem thrsS_more {f : Nat} {l : List Th} {s : St} (h : (s.good && (l.isEmpty || !s.toks.isEmpty)) = true) : thrsS ts (f + 1) l s = thrsS ts f (l ++ [(thrS ts s).1]) (thrS ts s).2 := by
  conv => lhs; unfold thrsS
  rw [if_pos h]
theorem parseS_err {s : List UInt8} (h : ¬ (scan s).2.1 = 0) : parseS s = ((⟨[], []⟩ : Pr), ((scan s).2.1 : Int), ((scan s).2.2 : Int)) := by unfold parseS; rw [if_neg h]
/-- What the loops say, put together. -/
def outS (qD : List De × St) (qT : List Th × St) : Pr × Int × Int := outP ⟨qD.1, qT.1⟩ qT.2
theorem parseS_ok {s : List UInt8} (h : (scan s).2.1 = 0) : parseS s = outS (declsS (scan s).1 (scan s).1.length [] (.go (scan s).1)) (thrsS (scan s).1 ((declsS (scan s).1 (scan s).1.length [] (.go (scan s).1)).2.toks.length + 1) [] (declsS (scan s).1 (scan s).1.length [] (.go (scan s).1)).2) := by
  unfold parseS; rw [if_pos h]; rfl
end
end Go.Proofs.YtommnhglgedflaaGreatDoor.Pz
end
section
set_option linter.unusedSimpArgs false
set_option linter.unusedVariables false
namespace Go.Proofs.YtommnhglgedflaaGreatDoor
open Go.RowKit
open Md Pz
/-- A program under way, the second parser's. -/
structure Pq (w : World) (R : Rp) (bo : Nat) (W : World) (vD vT : Value) (s : St) : Prop where
  rd : RfI W R s
  bl : Below w.heap.size w W
  lt : w.heap.size < R.B0 ∧ R.B0 ≤ R.br ∧ R.br < bo ∧ bo < W.heap.size
  z : W.heap[w.heap.size]? = some (.cells zP2 26 (0, 0))
  blk : W.heap[bo]? = some (.cells #[vD, vT] 26 (0, 0))
section
variable {w W W' : World} {R : Rp} {bo : Nat} {vD vT : Value} {s s' : St}
theorem Pq.then (h : Pq w R bo W vD vT s) (h1 : RfI W' R s') (h2 : W.grownBy W' (some R.br)) : Pq w R bo W' vD vT s' :=
  ⟨h1, h.bl.trans (grown_below h2 (by have := h.lt; omega) h.bl.size), ⟨h.lt.1, h.lt.2.1, h.lt.2.2.1, Nat.lt_of_lt_of_le h.lt.2.2.2 h2.size⟩, (h2.block _ (Array.getElem?_eq_some_iff.1 h.z).1 (by have := h.lt; simp; omega)).trans h.z, (h2.block _ (Array.getElem?_eq_some_iff.1 h.blk).1 (by have := h.lt; simp; omega)).trans h.blk⟩
theorem Pq.below (h : Pq w R bo W vD vT s) (hb : Below W.heap.size W W') : Pq w R bo W' vD vT s := h.then (h.rd.below hb) (gr_below hb)
theorem Pq.cells (h : Pq w R bo W vD vT s) : W.cell? ⟨bo, 0, none⟩ = some vD ∧ W.cell? ⟨bo, 1, none⟩ = some vT ∧ ∀ j, W.frozen? ⟨bo, j, none⟩ = false :=
  ⟨cellb h.blk rfl, cellb h.blk rfl, fun _ => free_blk h.blk⟩
theorem Pq.put (h : Pq w R bo W vD vT s) (hr : RfI W' R s') (hb : Below w.heap.size w W') (hz : W'.heap[w.heap.size]? = W.heap[w.heap.size]?) (hk : W'.heap[bo]? = W.heap[bo]?) (hs : W.heap.size ≤ W'.heap.size) (j : Nat) (v vD' vT' : Value) (hy : (#[vD, vT] : Array Value).setIfInBounds j v = #[vD', vT']) : Pq w R bo (W'.setCell ⟨bo, j, none⟩ v) vD' vT' s' :=
  ⟨rf_set hr _ _ (by have := h.lt; show R.B0 ≤ bo; omega) (by have := h.lt; show bo ≠ R.br; omega), below_set hb _ _ (by have := h.lt; show _ ≤ bo; omega), by have h1 := h.lt; simp [World.setCell]; omega, (setCell_far W' _ _ rfl (by have := h.lt; show bo ≠ _; omega)).trans (hz.trans h.z), by rw [setCell_blk (hk.trans h.blk), hy]⟩
end
/-- What is known at the heads of the two loops. -/
def DqRel (w : World) (R : Rp) (bo : Nat) (qD : List De × St) (g : Nat) (wr : World) : Prop :=
  ∃ f l s vD, g = s.len ∧ s.len ≤ f ∧ declsS R.ts f l s = qD ∧ Pq w R bo wr vD (.slice none 0 0) s ∧ GrowD (bo + 1) wr vD l ∧ (∀ d ∈ l, d.Ok) ∧ l.length + s.len ≤ 4096
def TqRel (w : World) (R : Rp) (bo : Nat) (W2 : World) (vD : Value) (qT : List Th × St) (n : Value) (g : Nat) (wr : World) : Prop :=
  ∃ f l s vT, n = .int .i64 (l.length : Nat) ∧ g = s.mu ∧ s.mu ≤ f ∧ thrsS R.ts f (l.map (·.t)) s = qT ∧ Pq w R bo wr vD vT s ∧ Abv (bo + 1) W2 wr ∧ GrowTh W2.heap.size wr vT l ∧ (∀ x ∈ l, x.t.Ok ∧ x.t.locs.length ≤ x.capl) ∧ l.length + s.mu ≤ 4097
set_option maxHeartbeats 8000000 in
set_option maxRecDepth 100000 in
theorem RefParse_any (s : ByteArray) (w : World) (hm : s.size ≤ maxLen) :
    Calls Tryz.prog 16 #[.string s] w (ParP 5000 w (parse s.data.toList)) := by
  rw [← parseS_eq]
  have HSC := Lib.hid (scan_ok s.data.toList)
  have HTL := Lib.hid (scan_tl s.data.toList)
  obtain ⟨res, HRES⟩ : ∃ res, Hid (parseS s.data.toList = res) := ⟨_, Lib.hid rfl⟩
  have HE1 : Hid (¬ (Tk.scan s.data.toList).2.1 = 0 → res = ((⟨[], []⟩ : Pr), ((Tk.scan s.data.toList).2.1 : Int), ((Tk.scan s.data.toList).2.2 : Int))) := Lib.hid (fun h => HRES.out.symm.trans (parseS_err h))
  have HE2 : Hid ((Tk.scan s.data.toList).2.1 = 0 → ∃ qD qT, declsS (Tk.scan s.data.toList).1 (Tk.scan s.data.toList).1.length [] (.go (Tk.scan s.data.toList).1) = qD ∧ thrsS (Tk.scan s.data.toList).1 (qD.2.toks.length + 1) [] qD.2 = qT ∧ res = outS qD qT) := Lib.hid (fun h => ⟨_, _, rfl, rfl, HRES.out.symm.trans (parseS_ok h)⟩)
  have HSN : Hid (∀ w, Calls Tryz.prog 39 #[.string s] w (ScanPost w (Tk.scan s.data.toList))) := Lib.hid (fun w => RefScan_any s w hm)
  rw [HRES.out]
  clear HRES hm
  generalize Tk.scan s.data.toList = sc at *
  go_enter Tryz.func16, Tryz.ntmps16
  go_upto_region 1 with fail
  generalize hW : World.alloc w _ = W0
  have HB0 : Hid (Below w.heap.size w W0) := Lib.hid (by rw [← hW]; exact alloc_below _ _)
  have HZ0 : Hid (W0.heap[w.heap.size]? = some (.cells zP2 26 (0, 0))) := Lib.hid (by rw [← hW]; exact heap_alloc_new _ _)
  clear hW
  go_wp2_with fail
  refine (HSN.out _).mono ?_
  rintro e w1 ⟨v, rfl, hown, hb⟩
  obtain ⟨ao, cap, rfl, htk⟩ := tk_of_own hown
  have HTK := Lib.hid htk
  have HB1 := Lib.hid (HB0.out.trans (hb.mono HB0.out.size))
  have HZ1 := Lib.hid ((hb.block _ (Array.getElem?_eq_some_iff.1 HZ0.out).1).trans HZ0.out)
  clear hown hb htk HSN HB0 HZ0
  have hlt : w.heap.size < w1.heap.size := (Array.getElem?_eq_some_iff.1 HZ1.out).1
  by_cases h0 : sc.2.1 = 0
  · obtain ⟨qD, qT, hqd, hqt, hres⟩ := HE2.out h0
    have HTL2 := Lib.hid (And.intro HTL.out.1 HTL.out.2.1)
    have hq : (((sc.2.1 : Nat) : Int) == 0) = true := by rw [h0]; rfl
    rw [h0]
    go_upto_region 5 with fail
    generalize hW : World.alloc w1 _ = W1
    have HR1 := Lib.hid (rf_new hW HTK.out HSC.out HTL2.out)
    have HB2 : Hid (Below w.heap.size w W1) := Lib.hid (by rw [← hW]; exact HB1.out.trans ((alloc_below w1 _).mono HB1.out.size))
    have HZ2 : Hid (W1.heap[w.heap.size]? = some (.cells zP2 26 (0, 0))) := Lib.hid (by rw [← hW]; exact ((alloc_below w1 _).block _ hlt).trans HZ1.out)
    obtain ⟨R, hR⟩ : ∃ R, rdNew w1 ao cap sc.1 = R := ⟨_, rfl⟩
    have hbr : w1.heap.size = R.br := by rw [← hR]; rfl
    have HTS : Hid (R.ts = sc.1) := Lib.hid (by rw [← hR]; rfl)
    have HB0 : Hid (w.heap.size < R.B0) := Lib.hid (by rw [← hR]; exact hlt)
    rw [hR] at HR1
    rw [hbr, ← HTS.out]
    rw [← HTS.out] at hqd hqt HR1
    have HQD := Lib.hid hqd
    have HQT := Lib.hid hqt
    have HRS := Lib.hid hres
    have HTL3 : Hid (R.ts.length ≤ 4096) := Lib.hid (by rw [HTS.out]; exact HTL2.out.2)
    clear hW HE1 HE2 HTL HSC HTK HTL2 HB1 HZ1 h0 hq hqd hqt hres hlt hR hbr HTS
    go_upto_block 0 with fail
    obtain ⟨bo, hg⟩ : ∃ g, W1.heap.size = g := ⟨_, rfl⟩
    rw [hg]
    generalize hW : World.alloc W1 _ = W2
    have HP0 : Hid (Pq w R bo W2 (.slice none 0 0) (.slice none 0 0) (.go R.ts)) := Lib.hid (by
      have hl := HR1.out.lt
      have hzl := (Array.getElem?_eq_some_iff.1 HZ2.out).1
      rw [← hW, ← hg]
      exact ⟨HR1.out.below (alloc_below _ _), HB2.out.trans ((alloc_below W1 _).mono HB2.out.size), ⟨HB0.out, R.b0, hl, by simp⟩, (heap_alloc_old _ _ hzl).trans HZ2.out, heap_alloc_new _ _⟩)
    clear hW hg HR1 HB2 HZ2 HB0
    go_cut [] (fun W' => ∃ l s' vD, qD = (l, s') ∧ Pq w R bo W' vD (.slice none 0 0) s' ∧ GrowD (bo + 1) W' vD l ∧ (∀ d ∈ l, d.Ok) ∧ l.length + s'.len ≤ 4096)
    case first =>
      have HHD : Hid (DqRel w R bo qD R.ts.length W2) := Lib.hid ⟨R.ts.length, [], .go R.ts, _, rfl, Nat.le_refl _, HQD.out, HP0.out, Grow.nil _ _ _ _ _ _, by simp, by have := HTL3.out; show 0 + R.ts.length ≤ _; omega⟩
      clear HP0 HQD HQT HRS
      go_wp2_with fail
      go_loopg [26] R.ts.length (fun gk _ wr => DqRel w R bo qD gk wr)
      case atStart => exact HHD.out
      case round =>
        obtain ⟨f, l, s, vD, rfl, hf, hq, hp, hg, hok, hll⟩ := hrel
        have HF := Lib.hid (And.intro hf hll)
        have HQ := Lib.hid hq
        have HP := Lib.hid hp
        have HG := Lib.hid hg
        have HOK := Lib.hid hok
        clear hf hq hp hg hok hll HHD
        cases hd : isDecl s.toks
        · have HE1 : Hid (qD = (l, s)) := Lib.hid (by rw [← HQ.out]; exact declsS_end hd)
          go_wp2_with fail
          refine (declares_any R s _ HP.out.rd).mono ?_
          rw [hd]
          rintro e w6 ⟨rfl, hb⟩
          have HP6 := Lib.hid (HP.out.below hb)
          have HG6 := Lib.hid (HG.out.next (abv_below hb))
          clear hb HP HG
          go_wp2_with fail
          go_meet
          exact ⟨l, s, _, HE1.out, HP6.out, HG6.out, HOK.out, HF.out.2⟩
        · obtain ⟨f, rfl⟩ : ∃ n, f = n + 1 := ⟨f - 1, by have h1 := HF.out.1; have h2 := declS_lt (ts := R.ts) hd; omega⟩
          have HLT := Lib.hid (declS_lt (ts := R.ts) hd)
          have HQ2 := Lib.hid ((declsS_more (ts := R.ts) (f := f) (l := l) hd).symm.trans HQ.out)
          have HRD2 := Lib.hid (fun w h => rdecl_any R s w hd h)
          go_wp2_with fail
          refine (declares_any R s _ HP.out.rd).mono ?_
          rw [hd]
          rintro e W ⟨rfl, hb⟩
          have HP6 := Lib.hid (HP.out.below hb)
          have HGR := Lib.hid (HG.out.next (abv_below hb))
          clear hb HP HG HQ hd
          have HP := HP6
          clear HP6
          generalize declS R.ts s = q at *
          obtain ⟨d, s2⟩ := q
          obtain ⟨av, cv, hv⟩ := HGR.out.len
          subst hv
          have hll : l.length ≤ 4096 := by have := HF.out.2; omega
          have HTB := Lib.hid (And.intro HP.out.lt (show R.br < bo + 1 by have := HP.out.lt; omega))
          have KD : ∀ w', W.grownBy w' (some R.br) → w'.heap[bo]? = some (.cells #[.slice av l.length cv, .slice none 0 0] 26 (0, 0)) := fun w' h => (h.block _ (Array.getElem?_eq_some_iff.1 HP.out.blk).1 (by have := HTB.out; simp; omega)).trans HP.out.blk
          have KZ : ∀ w', W.grownBy w' (some R.br) → w'.heap[w.heap.size]? = some (.cells zP2 26 (0, 0)) := fun w' h => (h.block _ (Array.getElem?_eq_some_iff.1 HP.out.z).1 (by have := HTB.out; simp; omega)).trans HP.out.z
          have HRD := HP.out.rd
          obtain ⟨i0, hi0, hz0, hz1, hz2⟩ := inf_de
          go_upto_region 7 with fail
          refine wpAny_start (by kernel_rfl) rfl ?_
          refine wpAny_phase 0 5 [3] [[], [0], [], [2], [2, 3], [0, 1, 2, 3, 4], [0, 1, 2, 3, 4, 5], [0, 1, 2, 3, 4, 5, 6]] [[none], [none], [some false], [some false], [some true]] (SC1 (KW R W s) (KW R W s2)) (fun u u' => Abv (bo + 1) u u') [27, 28, 29, 30, 31] rfl rfl (by rfl) (by kernel_rfl) (by kernel_rfl) (by kernel_rfl) (by kernel_rfl) (by kernel_rfl) (by rfl) (fun _ => Abv.refl _ _) (by rfl) ⟨HRD.below (below_drewN (Below.refl _ _) 1), gr_below (below_drewN (Below.refl _ _) 1)⟩ ?_
          simp only [List.take_succ_cons, List.take_zero, List.drop_zero, List.drop_succ_cons, dumE, List.map_cons, List.map_nil]
          apply ObP.step
          case hobl =>
            intro c A w' hok hC hO hD
            have e9 := hO 9 (by rfl)
            simp [Act.eval] at e9
            simp [depsL, IsV, slotv, Act.eval, Region.binds] at hD
            simp [go_sem, gd, Oper.wp, hD, e9]
            exact WPost.mk (Abv.refl _ _) (SC1.skip (by rfl) hC) (IsV.mk _ _)
          apply ObP.step
          case hobl =>
            intro c A w' hok' hC hO hD
            obtain ⟨x', rfl⟩ := hC.bits
            have hb := KD w' (by cases x'; exact (show KW R W _ w' from hC).2; exact (show KW R W _ w' from hC).2)
            have z2 : w'.cell? ⟨bo, 0, none⟩ = some (.slice av l.length cv) := cellb hb rfl
            simp [depsL, IsV, slotv, Act.eval, Region.binds] at hD
            simp [go_sem, gd, Oper.wp, hD, z2]
            exact WPost.mk (Abv.refl _ _) (SC1.skip (by rfl) hC) (IsV.mk _ _)
          apply ObP.step
          case hobl =>
            intro c A w' hok hC hO hD
            have e8 := hO 8 (by rfl)
            simp [Act.eval] at e8
            simp [depsL, IsV, slotv, Act.eval, Region.binds] at hD
            simp [go_sem, gd, Oper.wp, hD, e8]
            exact WPost.mk (Abv.refl _ _) (SC1.skip (by rfl) hC) (IsV.mk _ _)
          simp only [List.nil_append, List.cons_append]
          apply ObP.some (fun v w' => v = dvV d ∧ d.Ok) (fun _ _ _ _ h => h) ?_ ?_
          · intro c A w' hok' hC hO hD
            obtain ⟨x', rfl⟩ := hC.bits
            obtain ⟨rfl, -⟩ := hok'
            have hC : KW R W s w' := hC
            simp [depsL, IsV, slotv, Act.eval, Region.binds] at hD
            simp [go_sem, gd, Oper.wp, hD]
            refine (HRD2.out w' hC.1).mono ?_
            rintro e w6 ⟨⟨hdok, rfl⟩, h2, h3⟩
            exact WPost.mk (abv_gr h3 HTB.out.2) (SC1.fire (by rfl) ⟨h2, grow_tr hC.2 h3⟩) ⟨rfl, hdok⟩
          refine ObP.some (fun v w' => ∃ gg, v = .slice (some ⟨gg, 0, none⟩) 1 1 ∧ bo + 1 ≤ gg ∧ w'.heap[gg]? = some (.cells (deF d).toArray 58 (0, 0)) ∧ d.Ok) (fun v w1 w' hle h => by obtain ⟨a, h1, h2, h3, h4⟩ := h; exact ⟨a, h1, h2, (hle.2 a h2 (Array.getElem?_eq_some_iff.1 h3).1).trans h3, h4⟩) ?_ ?_
          · intro c A w' hok' hC hO hD
            obtain ⟨x', rfl⟩ := hC.bits
            obtain ⟨rfl, -⟩ := hok'
            have hC : KW R W s2 w' := hC
            simp [depsL, IsV, slotv, Act.eval, Region.binds] at hD
            obtain ⟨hDv, hDo⟩ := hD
            unfold dvV at hDv
            simp [go_sem, gd, Oper.wp, hDv]
            exact WPost.mk (d := _) (v := .slice (some ⟨_, 0, none⟩) 1 1) (abv_below (alloc_below _ _)) (SC1.skip (by rfl) (show KW R W s2 _ from ⟨hC.1.below (alloc_below _ _), grow_tr hC.2 (gr_below (alloc_below _ _))⟩)) ⟨_, rfl, by have := HTB.out; have := hC.2.size; omega, heap_alloc_new _ _, hDo⟩
          try simp only [List.nil_append, List.cons_append]
          refine ObP.done ?_
          intro wz hCz
          try simp only [List.drop_succ_cons, List.drop_zero]
          intro x0 h0 x1 h1 x2 h2 x3 h3 x4 h4
          have h1' := Eq.symm (show x1 = _ from h1)
          subst h1'
          obtain ⟨gg, rfl, hgg, hgb, hdo⟩ := h4
          have HDO := Lib.hid hdo
          clear h0 h1 h2 h3 hdo
          refine allvals_nil ?_
          go_simp
          have HKZ : Hid (KW R W s2 wz) := Lib.hid hCz
          have HGZ : Hid (GrowD (bo + 1) wz (.slice av l.length cv) l) := Lib.hid (HGR.out.next (abv_gr HKZ.out.2 HTB.out.2))
          have hszz : bo + 1 ≤ wz.heap.size := by have := HTB.out; have := HKZ.out.2.size; omega
          refine wpAny_one 5 [[], [0], [], [2], [2, 3], [0, 1, 2, 3, 4], [0, 1, 2, 3, 4, 5], [0, 1, 2, 3, 4, 5, 6]] rfl rfl rfl rfl rfl (by kernel_rfl) (by kernel_rfl) (by kernel_rfl) ?_
          refine wp_append_lies wz _ _ _ (by rfl) (bo + 1) 58 i0 _ 6 64 Tryz.underlying23 hi0 hz0 hz1 hz2 (by rfl) (by decide) (.slice av l.length cv) l.length (l.flatMap deF) (by rfl) HGZ.out.own ⟨gg, 0, none⟩ 1 1 (deF d) (by rfl) (by rfl) (World.news_of_block hgb) (by simp [deF, Value.oneCell']) (by decide) (by unfold maxLen; omega) (by omega) hszz wz.heap.size rfl ?_
          intro g4 cap4 w4 hown hgr hmv hlt4
          have HX4 : Hid (StayX (bo + 1) (Value.slice av l.length cv).ownBlock wz (fun _ => True)) := Lib.hid (fun _ _ => trivial)
          have HG4 := Lib.hid (HGZ.out.push (x := d) HX4.out rfl hown hgr (by simpa using hmv))
          have HLO : Hid (∀ k, (Value.slice av l.length cv).ownBlock = some k → bo + 1 ≤ k) := Lib.hid (fun k hk => (HGZ.out.lt k hk).1)
          have HB4 : Hid (Below (bo + 1) wz w4) := Lib.hid (below_of_gr hgr HLO.out hszz)
          have HR4 : Hid (RfI w4 R s2) := Lib.hid (rf_own HKZ.out.1 hgr (fun k hk => by have h1 := HLO.out k hk; have h2 := HTB.out; omega))
          have HBW4 : Hid (Below w.heap.size w w4) := Lib.hid ((HP.out.bl.trans (grown_below HKZ.out.2 (by have := HTB.out; omega) HP.out.bl.size)).trans (HB4.out.mono (by have := HTB.out; omega)))
          have HBT4 : Hid (w4.heap[bo]? = W.heap[bo]?) := Lib.hid ((HB4.out.block _ (Nat.lt_succ_self _)).trans (HKZ.out.2.block _ (by have := HTB.out; omega) (by have := HTB.out; simp; omega)))
          have HBZ4 : Hid (w4.heap[w.heap.size]? = W.heap[w.heap.size]?) := Lib.hid ((HB4.out.block _ (by have := HTB.out; omega)).trans (HKZ.out.2.block _ (by have := HTB.out; omega) (by have := HTB.out; simp; omega)))
          have HSZ4 : Hid (W.heap.size ≤ w4.heap.size) := Lib.hid (Nat.le_trans HKZ.out.2.size HB4.out.size)
          have c2 : w4.cell? ⟨bo, 0, none⟩ = some (.slice av (l).length cv) := cellb (HBT4.out.trans HP.out.blk) rfl
          have f2 : w4.frozen? ⟨bo, 0, none⟩ = false := free_blk (HBT4.out.trans HP.out.blk)
          clear hown hgr hmv hlt4 KD KZ HRD hCz hgb hgg hi0 hz0 hz1 hz2
          refine wpAny_one 6 [[], [0], [], [2], [2, 3], [0, 1, 2, 3, 4], [0, 1, 2, 3, 4, 5], [0, 1, 2, 3, 4, 5, 6]] rfl rfl rfl rfl rfl (by kernel_rfl) (by kernel_rfl) (by kernel_rfl) ?_
          simp [go_sem, Oper.wp]
          refine wpAny_one 7 [[], [0], [], [2], [2, 3], [0, 1, 2, 3, 4], [0, 1, 2, 3, 4, 5], [0, 1, 2, 3, 4, 5, 6]] rfl rfl rfl rfl rfl (by kernel_rfl) (by kernel_rfl) (by kernel_rfl) ?_
          simp [go_sem, Oper.wp, c2, f2]
          refine wpAny_end rfl ?_
          go_simp
          generalize hW : World.setCell w4 _ _ = WT
          have HPN : Hid (Pq w R bo WT (.slice (some ⟨g4, 0, none⟩) (l.length + 1) cap4) (.slice none 0 0) s2) := Lib.hid (by rw [← hW]; exact HP.out.put HR4.out HBW4.out HBZ4.out HBT4.out HSZ4.out 0 _ _ _ rfl)
          have HGN : Hid (GrowD (bo + 1) WT (.slice (some ⟨g4, 0, none⟩) (l.length + 1) cap4) (l ++ [d])) := Lib.hid (by rw [← hW]; exact HG4.out.next (abv_set w4 ⟨bo, 0, none⟩ _ (Nat.lt_succ_self _)))
          clear hW c2 f2 HG4 HLO HB4 HR4 HBW4 HBT4 HBZ4 HSZ4 HGR HTB hszz HP HX4 HKZ HGZ
          have HNL : Hid (∀ y ∈ l ++ [d], y.Ok) := Lib.hid (fun y hy => by
            rcases List.mem_append.1 hy with hy | hy
            · exact HOK.out y hy
            · rw [List.mem_singleton.1 hy]; exact HDO.out)
          go_wp2_with fail
          go_roundg s2.len
          case rel => exact ⟨f, l ++ [d], s2, _, rfl, by have h1 := HF.out.1; have h2 : s2.len < s.len := HLT.out; omega, HQ2.out, HPN.out, HGN.out, HNL.out, by have h1 := HF.out.2; have h2 : s2.len < s.len := HLT.out; simp only [List.length_append, List.length_singleton]; omega⟩
          case measure => exact HLT.out
    case rest =>
      obtain ⟨l, s2, vD, hqd, hp, hg, hok, hll⟩ := hcut
      obtain ⟨W2, rfl⟩ : ∃ W : World, W = wc := ⟨_, rfl⟩
      obtain ⟨aoD, capD, hv, hcD, hstD⟩ := hg.says hok
      subst hv
      subst hqd
      have HP := Lib.hid hp
      have HD2 := Lib.hid (And.intro hcD hstD)
      have HLL := Lib.hid hll
      clear hp hg hok hll hcD hstD HP0 HQD
      have HQT2 : Hid (thrsS R.ts (s2.toks.length + 1) [] s2 = qT) := HQT
      have HRS2 : Hid (res = outP ⟨l, qT.1⟩ qT.2) := HRS
      clear HQT HRS
      go_upto_block 2 with fail
      go_cut [] (fun W' => ∃ (lt : List ThI) (s' : St) (vT : Value), qT = (lt.map (·.t), s') ∧ Pq w R bo W' (.slice aoD l.length capD) vT s' ∧ Abv (bo + 1) W2 W' ∧ GrowTh W2.heap.size W' vT lt ∧ (∀ x ∈ lt, x.t.Ok ∧ x.t.locs.length ≤ x.capl) ∧ lt.length + s'.mu ≤ 4097)
      case first =>
        have HHD : Hid (TqRel w R bo W2 (.slice aoD l.length capD) qT (.int .i64 0) s2.mu W2) := Lib.hid ⟨s2.toks.length + 1, [], s2, _, rfl, rfl, by unfold St.mu St.len; split <;> omega, HQT2.out, HP.out, Abv.refl _ _, Grow.nil _ _ _ _ _ _, by simp, by have := HLL.out; unfold St.mu; split <;> (simp only [List.length_nil]; omega)⟩
        have HLB : Hid (bo + 1 ≤ W2.heap.size) := Lib.hid (by have := HP.out.lt; omega)
        clear HP HQT2 HRS2 HD2 HLL
        go_wp2_with fail
        go_loopg [10] s2.mu (fun gk u wr => TqRel w R bo W2 (.slice aoD l.length capD) qT u gk wr)
        case atStart => exact HHD.out
        case round =>
          obtain ⟨f, lt, s, vT, rfl, rfl, hf, hq, hp, ha, hg, hok, hll⟩ := hrel
          have HF := Lib.hid (And.intro hf hll)
          have HQ := Lib.hid hq
          have HP := Lib.hid hp
          have HA := Lib.hid ha
          have HG := Lib.hid hg
          have HOK := Lib.hid hok
          have hlt0 : lt.length ≤ 4097 := by omega
          clear hf hq hp ha hg hok hll HHD
          go_upto_region 9 with fail
          go_cut [51] (fun v W' => v = .bool (s.good && (lt.isEmpty || !s.toks.isEmpty)) ∧ W' = wr)
          case first =>
            obtain ⟨pos, bad, ⟨hp1, hp2, hl, hltb, hbr⟩, HS, ⟨hbad0, hbad1⟩, c0, c1, c2, f1, f2⟩ := HP.out.rd.open
            clear f1 f2 c0
            cases s with
            | bad n =>
              obtain ⟨rfl, hn1, hn2⟩ := HS.out
              have hb : (bad == 0) = false := by rw [beq_eq_false_iff_ne]; omega
              clear HS
              go_wp2_with fail
              go_meet
              exact ⟨rfl, rfl⟩
            | go r =>
              obtain ⟨rfl, hd⟩ := HS.out
              have HD := Lib.hid hd
              clear HS hd hbad0 hbad1
              cases lt with
              | nil =>
                go_wp2_with fail
                go_meet
                exact ⟨rfl, rfl⟩
              | cons x lt =>
                have hn : ((((x :: lt).length : Nat) : Int) == 0) = false := by rw [beq_eq_false_iff_ne]; simp only [List.length_cons]; omega
                generalize (x :: lt).length = ln at *
                cases r with
                | nil =>
                  have hq : decide (pos < R.ts.length) = false := by rw [decide_eq_false_iff_not]; have := List.drop_eq_nil_iff.1 HD.out; omega
                  go_wp2_with fail
                  go_meet
                  exact ⟨rfl, rfl⟩
                | cons t q =>
                  have hq : decide (pos < R.ts.length) = true := by
                    rw [decide_eq_true_iff]; have := congrArg List.length HD.out; simp at this; omega
                  go_wp2_with fail
                  go_meet
                  exact ⟨rfl, rfl⟩
          obtain ⟨rfl, hwc⟩ := hcut
          obtain ⟨W, rfl⟩ : ∃ W : World, W = wc := ⟨_, rfl⟩
          subst hwc
          cases hc : (s.good && (lt.isEmpty || !s.toks.isEmpty))
          · have HE1 : Hid (qT = (lt.map (·.t), s)) := Lib.hid (by rw [← HQ.out]; exact thrsS_end (by rw [List.isEmpty_map]; exact hc))
            go_wp2_with fail
            go_meet
            exact ⟨lt, s, _, HE1.out, HP.out, HA.out, HG.out, HOK.out, HF.out.2⟩
          · have hgd : s.good = true := by rw [Bool.and_eq_true] at hc; exact hc.1
            have HMU := Lib.hid (thrS_mu (ts := R.ts) hgd)
            obtain ⟨f, rfl⟩ : ∃ n, f = n + 1 := ⟨f - 1, by have h1 := HF.out.1; have h2 := HMU.out; omega⟩
            have HQ2 := Lib.hid ((thrsS_more (ts := R.ts) (f := f) (l := lt.map (·.t)) (s := s) (by rw [List.isEmpty_map]; exact hc)).symm.trans HQ.out)
            have HRD2 := Lib.hid (fun w h => rthread_any R s w h)
            clear hgd HQ
            generalize thrS R.ts s = q at *
            obtain ⟨th, s3⟩ := q
            obtain ⟨av, cv, hv⟩ := HG.out.len
            subst hv
            have HTB := Lib.hid (And.intro HP.out.lt (show R.br < bo + 1 by have := HP.out.lt; omega))
            have HWS : Hid (W2.heap.size ≤ W.heap.size ∧ bo + 1 ≤ W.heap.size) := Lib.hid ⟨HA.out.1, by have := HP.out.lt; omega⟩
            have KD : ∀ w', W.grownBy w' (some R.br) → w'.heap[bo]? = some (.cells #[.slice aoD l.length capD, .slice av lt.length cv] 26 (0, 0)) := fun w' h => (h.block _ (Array.getElem?_eq_some_iff.1 HP.out.blk).1 (by have := HTB.out; simp; omega)).trans HP.out.blk
            have KZ : ∀ w', W.grownBy w' (some R.br) → w'.heap[w.heap.size]? = some (.cells zP2 26 (0, 0)) := fun w' h => (h.block _ (Array.getElem?_eq_some_iff.1 HP.out.z).1 (by have := HTB.out; simp; omega)).trans HP.out.z
            have HRD := HP.out.rd
            obtain ⟨i0, hi0, hz0, hz1, hz2⟩ := inf_th
            go_upto_region 11 with fail
            refine wpAny_start (by kernel_rfl) rfl ?_
            refine wpAny_phase 0 5 [3] [[], [0], [], [2], [2, 3], [0, 1, 2, 3, 4], [0, 1, 2, 3, 4, 5], [0, 1, 2, 3, 4, 5, 6]] [[none], [none], [some false], [some false], [some true]] (SC1 (KW R W s) (KW R W s3)) (fun u u' => Abv (bo + 1) u u') [54, 55, 56, 57, 58] rfl rfl (by rfl) (by kernel_rfl) (by kernel_rfl) (by kernel_rfl) (by kernel_rfl) (by kernel_rfl) (by rfl) (fun _ => Abv.refl _ _) (by rfl) ⟨HRD.below (below_drewN (Below.refl _ _) 1), gr_below (below_drewN (Below.refl _ _) 1)⟩ ?_
            simp only [List.take_succ_cons, List.take_zero, List.drop_zero, List.drop_succ_cons, dumE, List.map_cons, List.map_nil]
            apply ObP.step
            case hobl =>
              intro c A w' hok hC hO hD
              have e9 := hO 9 (by rfl)
              simp [Act.eval] at e9
              simp [depsL, IsV, slotv, Act.eval, Region.binds] at hD
              simp [go_sem, gd, Oper.wp, hD, e9]
              exact WPost.mk (Abv.refl _ _) (SC1.skip (by rfl) hC) (IsV.mk _ _)
            apply ObP.step
            case hobl =>
              intro c A w' hok' hC hO hD
              obtain ⟨x', rfl⟩ := hC.bits
              have hb := KD w' (by cases x'; exact (show KW R W _ w' from hC).2; exact (show KW R W _ w' from hC).2)
              have z2 : w'.cell? ⟨bo, 1, none⟩ = some (.slice av lt.length cv) := cellb hb rfl
              simp [depsL, IsV, slotv, Act.eval, Region.binds] at hD
              simp [go_sem, gd, Oper.wp, hD, z2]
              exact WPost.mk (Abv.refl _ _) (SC1.skip (by rfl) hC) (IsV.mk _ _)
            apply ObP.step
            case hobl =>
              intro c A w' hok hC hO hD
              have e8 := hO 8 (by rfl)
              simp [Act.eval] at e8
              simp [depsL, IsV, slotv, Act.eval, Region.binds] at hD
              simp [go_sem, gd, Oper.wp, hD, e8]
              exact WPost.mk (Abv.refl _ _) (SC1.skip (by rfl) hC) (IsV.mk _ _)
            simp only [List.nil_append, List.cons_append]
            refine ObP.some (fun v w' => ∃ x : ThI, x.t = th ∧ v = .agg (ThI.f x).toArray ∧ (x.t.Ok ∧ x.t.locs.length ≤ x.capl) ∧ Stay W.heap.size w' (ThI.I x)) (fun v w1 w' hle h => by obtain ⟨x, h1, h2, h3, h4⟩ := h; exact ⟨x, h1, h2, h3, h4.next (hle.mono HWS.out.2)⟩) ?_ ?_
            · intro c A w' hok' hC hO hD
              obtain ⟨x', rfl⟩ := hC.bits
              obtain ⟨rfl, -⟩ := hok'
              have hC : KW R W s w' := hC
              simp [depsL, IsV, slotv, Act.eval, Region.binds] at hD
              simp [go_sem, gd, Oper.wp, hD]
              refine (HRD2.out w' hC.1).mono ?_
              rintro e w6 ⟨⟨x, hx, rfl, hxo, hst⟩, h2, h3⟩
              exact WPost.mk (abv_gr h3 HTB.out.2) (SC1.fire (by rfl) ⟨h2, grow_tr hC.2 h3⟩) ⟨x, hx, rfl, hxo, hst.mono hC.2.size⟩
            refine ObP.some (fun v w' => ∃ (x : ThI) (gg : Nat), v = .slice (some ⟨gg, 0, none⟩) 1 1 ∧ bo + 1 ≤ gg ∧ w'.heap[gg]? = some (.cells (ThI.f x).toArray 63 (0, 0)) ∧ x.t = th ∧ (x.t.Ok ∧ x.t.locs.length ≤ x.capl) ∧ Stay W.heap.size w' (ThI.I x)) (fun v w1 w' hle h => by obtain ⟨x, a, h1, h2, h3, h4, h5, h6⟩ := h; exact ⟨x, a, h1, h2, (hle.2 a h2 (Array.getElem?_eq_some_iff.1 h3).1).trans h3, h4, h5, h6.next (hle.mono HWS.out.2)⟩) ?_ ?_
            · intro c A w' hok' hC hO hD
              obtain ⟨x', rfl⟩ := hC.bits
              obtain ⟨rfl, -⟩ := hok'
              have hC : KW R W s3 w' := hC
              simp [depsL, slotv, Act.eval, Region.binds] at hD
              obtain ⟨x, hx, hDv, hxo, hst⟩ := hD
              unfold ThI.f at hDv
              simp [go_sem, gd, Oper.wp, hDv]
              exact WPost.mk (d := _) (v := .slice (some ⟨_, 0, none⟩) 1 1) (abv_below (alloc_below _ _)) (SC1.skip (by rfl) (show KW R W s3 _ from ⟨hC.1.below (alloc_below _ _), grow_tr hC.2 (gr_below (alloc_below _ _))⟩)) ⟨x, _, rfl, by have := HTB.out; have := hC.2.size; omega, heap_alloc_new _ _, hx, hxo, hst.next (abv_below (alloc_below _ _))⟩
            try simp only [List.nil_append, List.cons_append]
            refine ObP.done ?_
            intro wz hCz
            try simp only [List.drop_succ_cons, List.drop_zero]
            intro x0 h0 x1 h1 x2 h2 x3 h3 x4 h4
            have h1' := Eq.symm (show x1 = _ from h1)
            subst h1'
            obtain ⟨x, gg, rfl, hgg, hgb, hxt, hxo, hxs⟩ := h4
            have HXO := Lib.hid hxo
            have HXT := Lib.hid hxt
            have HXS := Lib.hid hxs
            clear h0 h1 h2 h3 hxo hxt hxs
            refine allvals_nil ?_
            go_simp
            have HKZ : Hid (KW R W s3 wz) := Lib.hid hCz
            have HGZ : Hid (GrowTh W2.heap.size wz (.slice av lt.length cv) lt) := Lib.hid (HG.out.next (abv_gr HKZ.out.2 (by have := HTB.out; have := HLB.out; omega)))
            have hszz : bo + 1 ≤ wz.heap.size := by have := HTB.out; have := HKZ.out.2.size; omega
            have hszw : W2.heap.size ≤ wz.heap.size := by have := HWS.out.1; have := HKZ.out.2.size; omega
            refine wpAny_one 5 [[], [0], [], [2], [2, 3], [0, 1, 2, 3, 4], [0, 1, 2, 3, 4, 5], [0, 1, 2, 3, 4, 5, 6]] rfl rfl rfl rfl rfl (by kernel_rfl) (by kernel_rfl) (by kernel_rfl) ?_
            refine wp_append_lies wz _ _ _ (by rfl) W2.heap.size 63 i0 _ 4 72 Tryz.underlying24 hi0 hz0 hz1 hz2 (by rfl) (by decide) (.slice av lt.length cv) lt.length (lt.flatMap ThI.f) (by rfl) HGZ.out.own ⟨gg, 0, none⟩ 1 1 (ThI.f x) (by rfl) (by rfl) (World.news_of_block hgb) (by simp [ThI.f, Value.oneCell']) (by decide) (by unfold maxLen; omega) (by omega) hszw wz.heap.size rfl ?_
            intro g4 cap4 w4 hown hgr hmv hlt4
            have HLO2 : Hid (∀ k, (Value.slice av lt.length cv).ownBlock = some k → W2.heap.size ≤ k ∧ k < W.heap.size) := Lib.hid (fun k hk => HG.out.lt k hk)
            have HX4 : Hid (StayX W2.heap.size (Value.slice av lt.length cv).ownBlock wz (ThI.I x)) := Lib.hid (stayX_of HXS.out HWS.out.1 (fun k hk => (HLO2.out k hk).2))
            have HG4 := Lib.hid (HGZ.out.push (x := x) HX4.out rfl hown hgr (by simpa using hmv))
            have HLO : Hid (∀ k, (Value.slice av lt.length cv).ownBlock = some k → bo + 1 ≤ k) := Lib.hid (fun k hk => Nat.le_trans HLB.out (HLO2.out k hk).1)
            have HBW2 : Hid (Below W2.heap.size wz w4) := Lib.hid (below_of_gr hgr (fun k hk => (HLO2.out k hk).1) hszw)
            have HB4 : Hid (Below (bo + 1) wz w4) := Lib.hid (below_of_gr hgr HLO.out hszz)
            have HR4 : Hid (RfI w4 R s3) := Lib.hid (rf_own HKZ.out.1 hgr (fun k hk => by have h1 := HLO.out k hk; have h2 := HTB.out; omega))
            have HBW4 : Hid (Below w.heap.size w w4) := Lib.hid ((HP.out.bl.trans (grown_below HKZ.out.2 (by have := HTB.out; omega) HP.out.bl.size)).trans (HB4.out.mono (by have := HTB.out; omega)))
            have HBT4 : Hid (w4.heap[bo]? = W.heap[bo]?) := Lib.hid ((HB4.out.block _ (Nat.lt_succ_self _)).trans (HKZ.out.2.block _ (by have := HTB.out; omega) (by have := HTB.out; simp; omega)))
            have HBZ4 : Hid (w4.heap[w.heap.size]? = W.heap[w.heap.size]?) := Lib.hid ((HB4.out.block _ (by have := HTB.out; omega)).trans (HKZ.out.2.block _ (by have := HTB.out; omega) (by have := HTB.out; simp; omega)))
            have HSZ4 : Hid (W.heap.size ≤ w4.heap.size) := Lib.hid (Nat.le_trans HKZ.out.2.size HB4.out.size)
            have c2 : w4.cell? ⟨bo, 1, none⟩ = some (.slice av (lt).length cv) := cellb (HBT4.out.trans HP.out.blk) rfl
            have f2 : w4.frozen? ⟨bo, 1, none⟩ = false := free_blk (HBT4.out.trans HP.out.blk)
            clear hown hgr hmv hlt4 KD KZ HRD hCz hgb hgg hi0 hz0 hz1 hz2
            refine wpAny_one 6 [[], [0], [], [2], [2, 3], [0, 1, 2, 3, 4], [0, 1, 2, 3, 4, 5], [0, 1, 2, 3, 4, 5, 6]] rfl rfl rfl rfl rfl (by kernel_rfl) (by kernel_rfl) (by kernel_rfl) ?_
            simp [go_sem, Oper.wp]
            refine wpAny_one 7 [[], [0], [], [2], [2, 3], [0, 1, 2, 3, 4], [0, 1, 2, 3, 4, 5], [0, 1, 2, 3, 4, 5, 6]] rfl rfl rfl rfl rfl (by kernel_rfl) (by kernel_rfl) (by kernel_rfl) ?_
            simp [go_sem, Oper.wp, c2, f2]
            refine wpAny_end rfl ?_
            go_simp
            generalize hW : World.setCell w4 _ _ = WT
            have HPN : Hid (Pq w R bo WT (.slice aoD l.length capD) (.slice (some ⟨g4, 0, none⟩) (lt.length + 1) cap4) s3) := Lib.hid (by rw [← hW]; exact HP.out.put HR4.out HBW4.out HBZ4.out HBT4.out HSZ4.out 1 _ _ _ rfl)
            have HGN : Hid (GrowTh W2.heap.size WT (.slice (some ⟨g4, 0, none⟩) (lt.length + 1) cap4) (lt ++ [x])) := Lib.hid (by rw [← hW]; exact HG4.out.next (abv_set w4 ⟨bo, 1, none⟩ _ HLB.out))
            have HAN : Hid (Abv (bo + 1) W2 WT) := Lib.hid (by
              have h1 : Abv (bo + 1) W2 wz := HA.out.trans (abv_gr HKZ.out.2 HTB.out.2)
              have h2 : Abv (bo + 1) W2 w4 := h1.belowB HBW2.out
              rw [← hW]; exact h2.trans (abv_set w4 ⟨bo, 1, none⟩ _ (Nat.lt_succ_self _)))
            clear hW c2 f2 HG4 HLO HLO2 HB4 HR4 HBW4 HBT4 HBZ4 HSZ4 HG HA HTB hszz hszw HP HX4 HKZ HGZ HBW2
            have HNL : Hid (∀ y ∈ lt ++ [x], y.t.Ok ∧ y.t.locs.length ≤ y.capl) := Lib.hid (fun y hy => by
              rcases List.mem_append.1 hy with hy | hy
              · exact HOK.out y hy
              · rw [List.mem_singleton.1 hy]; exact HXO.out)
            have HQ3 : Hid (thrsS R.ts f ((lt ++ [x]).map (·.t)) s3 = qT) := Lib.hid (by rw [List.map_append, List.map_singleton, HXT.out]; exact HQ2.out)
            go_wp2_with fail
            go_roundg s3.mu
            case rel => exact ⟨f, lt ++ [x], s3, _, by rw [List.length_append, List.length_singleton]; go_num, rfl, by have h1 := HF.out.1; have h2 : s3.mu < s.mu := HMU.out; omega, HQ3.out, HPN.out, HAN.out, HGN.out, HNL.out, by have h1 := HF.out.2; have h2 : s3.mu < s.mu := HMU.out; simp only [List.length_append, List.length_singleton]; omega⟩
            case measure => exact HMU.out
      case rest =>
        obtain ⟨lt, s4, vT, hqt, hp, ha, hg, hok, hln⟩ := hcut
        obtain ⟨W8, rfl⟩ : ∃ W : World, W = wc := ⟨_, rfl⟩
        obtain ⟨aoT, capT, hv, hcT, hstT⟩ := hg.says hok
        subst hv
        subst hqt
        have HP8 := Lib.hid hp
        have HLN : Hid ((lt.map (·.t)).length = lt.length) := Lib.hid (List.length_map _)
        have HST : Hid (l.length ≤ capD ∧ (lt.map (·.t)).length ≤ capT ∧ Stay (bo + 1) W8 (fun w2 => DeAt w2 w2.heap.size l aoD 0 ∧ ThAt w2 w2.heap.size (lt.map (·.t)) aoT 0)) := Lib.hid ⟨HD2.out.1, by rw [HLN.out]; exact hcT, fun w2 h2 => ⟨HD2.out.2 w2 (ha.trans h2), hstT w2 (h2.mono (by have := HP.out.lt; omega))⟩⟩
        have HLE : Hid ((lt.map (·.t)).length + s4.mu ≤ 4097) := Lib.hid (by rw [HLN.out]; exact hln)
        clear hp ha hg hok hln hcT hstT HD2 HLN HP HQT2
        have HRE : Hid (res = outP ⟨l, lt.map (·.t)⟩ s4) := HRS2
        clear HRS2
        generalize lt.map (·.t) = th at *
        cases s4 with
        | bad n =>
          have HRE : Hid (res = (⟨[], []⟩, 3, n)) := HRE
          obtain ⟨pos, bad, ⟨hp, hp2, hl, hltb, hbr⟩, HS, ⟨hbad0, hbad1⟩, c0, c1, c2, f1, f2⟩ := HP8.out.rd.open
          obtain ⟨rfl, hn1, hn2⟩ := HS.out
          have hq2 : decide ((0 : Int) < bad) = true := decide_eq_true (by omega)
          have HLB : Hid (R.br < W8.heap.size) := Lib.hid hltb
          clear HS f1 f2 c0 c1
          go_upto_region 13 with fail
          obtain ⟨WR, hWR⟩ : ∃ WR, WR = W8 := ⟨_, rfl⟩
          have HZR := Lib.hid HP8.out.z
          have HBR := Lib.hid HP8.out.bl
          have hne : w.heap.size < R.br := by have := HP8.out.lt; omega
          rw [← hWR] at c2 HLB HZR HBR ⊢
          clear hWR
          have KP : ∀ (x : Bool) w', SC1 (fun w' => w' = WR.drewN 1) (fun w' => w' = (WR.drewN 1).setCells w.heap.size 0 [.slice none 0 0, .slice none 0 0]) [x] w' → w'.cell? ⟨R.br, 2, none⟩ = some (.int .i64 bad) := fun x w' h => by
            cases x
            · have h : w' = _ := h
              rw [h]; exact c2
            · have h : w' = _ := h
              rw [h]; exact (World.cell?_of_block (a := ⟨R.br, 2, none⟩) ((setCells_grown w.heap.size _ 0 (WR.drewN 1)).block _ HLB.out (by simp; omega))).trans c2
          refine wpAny_start (by kernel_rfl) rfl ?_
          refine wpAny_phase 0 8 [5] [[], [], [1], [1, 2], [1, 2, 3], [0], [0, 5], [0, 1, 2, 3, 4, 5, 6]] [[some false], [none], [none], [none], [none], [some false], [some true], [some true]] (SC1 (fun w' => w' = WR.drewN 1) (fun w' => w' = (WR.drewN 1).setCells w.heap.size 0 [.slice none 0 0, .slice none 0 0])) (fun _ _ => True) [66, 67, 68, 69, 70, 3, 4] rfl rfl (by rfl) (by kernel_rfl) (by kernel_rfl) (by kernel_rfl) (by kernel_rfl) (by kernel_rfl) (by rfl) (fun _ => trivial) (by rfl) rfl ?_
          simp only [List.take_succ_cons, List.take_zero, List.drop_zero, List.drop_succ_cons, dumE, List.map_cons, List.map_nil]
          apply ObP.step
          case hobl =>
            intro c A w' hok hC hO hD
            simp [depsL, IsV, slotv, Act.eval, Region.binds] at hD
            simp [go_sem, gd, Oper.wp, hD]
            exact WPost.mk trivial (SC1.skip (by rfl) hC) (IsV.mk _ _)
          apply ObP.step
          case hobl =>
            intro c A w' hok hC hO hD
            have e8 := hO 8 (by rfl)
            simp [Act.eval] at e8
            simp [depsL, IsV, slotv, Act.eval, Region.binds] at hD
            simp [go_sem, gd, Oper.wp, hD, e8]
            exact WPost.mk trivial (SC1.skip (by rfl) hC) (IsV.mk _ _)
          apply ObP.step
          case hobl =>
            intro c A w' hok hC hO hD
            simp [depsL, IsV, slotv, Act.eval, Region.binds] at hD
            simp [go_sem, gd, Oper.wp, hD]
            exact WPost.mk trivial (SC1.skip (by rfl) hC) (IsV.mk _ _)
          apply ObP.step
          case hobl =>
            intro c A w' hok hC hO hD
            simp [depsL, IsV, slotv, Act.eval, Region.binds] at hD
            simp [go_sem, gd, Oper.wp, hD]
            exact WPost.mk trivial (SC1.skip (by rfl) hC) (IsV.mk _ _)
          simp only [List.nil_append, List.cons_append]
          apply ObP.step
          case hobl =>
            intro c A w' hok hC hO hD
            obtain ⟨x, rfl⟩ := hC.bits
            have hb := KP x w' hC
            simp [depsL, IsV, slotv, Act.eval, Region.binds] at hD
            simp [go_sem, gd, Oper.wp, hD, hb]
            exact WPost.mk trivial (SC1.skip (by rfl) hC) (IsV.mk _ _)
          refine ObP.some (fun _ _ => True) (fun _ _ _ _ _ => trivial) ?_ ?_
          · intro c A w' hok hC hO hD
            obtain ⟨x, rfl⟩ := hC.bits
            obtain ⟨rfl, -⟩ := hok
            have hC : w' = _ := hC
            have e2 := hO 2 (by rfl)
            simp [Act.eval] at e2
            simp [depsL, IsV, slotv, Act.eval, Region.binds] at hD
            simp only [gd, if_true]
            refine wp_store_mid _ _ _ (by rfl) w.heap.size 0 ([.slice none 0 0, .slice none 0 0]).toArray (by simp [Act.eval, e2]) (by simp [Act.eval, hD]) (by rw [hC]; exact thereS HZR.out (Nat.le_refl 2)) prg_siz (by simp [Value.oneCell']) ?_
            exact WPost.mk0 trivial (SC1.fire (by rfl) (by rw [hC])) trivial
          apply ObP.step
          case hobl =>
            intro c A w' hok hC hO hD
            simp [depsL, IsV, slotv, Act.eval, Region.binds] at hD
            simp [go_sem, gd, Oper.wp, hD]
            exact WPost.mk trivial (SC1.skip (by rfl) hC) (IsV.mk _ _)
          apply ObP.step
          case hobl =>
            intro c A w' hok hC hO hD
            simp [depsL, IsV, slotv, Act.eval, Region.binds] at hD
            simp [go_sem, gd, Oper.wp, hD]
            exact WPost.mk trivial (SC1.skip (by rfl) hC) (IsV.mk _ _)
          try simp only [List.nil_append, List.cons_append]
          refine ObP.done ?_
          intro w9 hC9
          try simp only [List.drop_succ_cons, List.drop_zero]
          intro x0 h0 x1 h1 x2 h2 x3 h3 x4 h4 x5 h5 x6 h6 x7 h7
          have h6' := Eq.symm (show x6 = _ from h6)
          subst h6'
          have h7' := Eq.symm (show x7 = _ from h7)
          subst h7'
          clear h0 h1 h2 h3 h4 h5 h6 h7 KP
          refine allvals_nil ?_
          refine wpAny_end rfl ?_
          have HW9 : Hid (w9 = (WR.drewN 1).setCells w.heap.size 0 [.slice none 0 0, .slice none 0 0]) := Lib.hid hC9
          clear hC9
          have HB9 : w9.heap[w.heap.size]? = some (.cells #[.slice none 0 0, .slice none 0 0] 26 (0, 0)) := by rw [HW9.out]; exact setCells_all HZR.out rfl
          have y0 : w9.cell? ⟨w.heap.size, 0, none⟩ = some (.slice none 0 0) := cellb HB9 rfl
          have y1 : w9.cell? ⟨w.heap.size, 1, none⟩ = some (.slice none 0 0) := cellb HB9 rfl
          have HBF : Hid (Below w.heap.size w w9) := Lib.hid (by rw [HW9.out]; exact below_sets (below_drewN HBR.out 1) 0 _)
          clear HB9
          go_simp
          go_wp2_with fail
          exact bodyPost_ret (v := .tuple #[.agg #[.slice none 0 0, .slice none 0 0], .int .i64 3, .int .i64 _]) (by simp [results, Tryz.results16, go_sem, y0, y1]) rfl (par_err HRE.out HBF.out (fun hn _ => absurd hn (by decide)))
        | go r =>
          have HRE : Hid (res = (⟨l, th⟩, 0, 0)) := HRE
          have HLE2 : Hid (th.length ≤ 4096) := Lib.hid (by have := HLE.out; unfold St.mu St.good at this; simp at this; omega)
          obtain ⟨pos, bad, ⟨hp, hp2, hl, hltb, hbr⟩, HS, ⟨hbad0, hbad1⟩, c0, c1, c2, f1, f2⟩ := HP8.out.rd.open
          obtain ⟨rfl, hd⟩ := HS.out
          clear HS f1 f2 c0 c1 hd hbad0 hbad1
          obtain ⟨d0, d1, -⟩ := HP8.out.cells
          obtain ⟨y0, y1, g0, g1⟩ := z2p HP8.out.z
          have hlt : w.heap.size < W8.heap.size := by have := HP8.out.lt; omega
          have HFN : Hid (∀ W, (W8.setCell ⟨w.heap.size, 0, none⟩ (.slice aoD l.length capD)).setCell ⟨w.heap.size, 1, none⟩ (.slice aoT th.length capT) = W → ParP 5000 w res (.returned (.tuple #[.agg #[.slice aoD l.length capD, .slice aoT th.length capT], .int .i64 0, .int .i64 0])) W) := Lib.hid (fun W hW => by
            subst hW
            have hb := HP8.out.lt
            have h1 : Abv (bo + 1) W8 (W8.setCell ⟨w.heap.size, 0, none⟩ (.slice aoD l.length capD)) := abv_set W8 ⟨w.heap.size, 0, none⟩ _ (by show w.heap.size < bo + 1; omega)
            have h2 : Abv (bo + 1) W8 ((W8.setCell ⟨w.heap.size, 0, none⟩ (.slice aoD l.length capD)).setCell ⟨w.heap.size, 1, none⟩ (.slice aoT th.length capT)) := h1.trans (abv_set _ ⟨w.heap.size, 1, none⟩ _ (by show w.heap.size < bo + 1; omega))
            exact par_ok HRE.out rfl rfl ⟨by have := HLL.out; show l.length ≤ 4096; omega, HLE2.out, HST.out.1, HST.out.2.1⟩ ((HST.out.2.2.next h2).now) (below_set (below_set HP8.out.bl _ _ (Nat.le_refl _)) _ _ (Nat.le_refl _)))
          go_wp2_with fail
          exact bodyPost_ret (v := .tuple #[.agg #[.slice aoD l.length capD, .slice aoT th.length capT], .int .i64 0, .int .i64 0]) (by simp [results, Tryz.results16, go_sem, y0, y1, hlt]) rfl (HFN.out _ rfl)
  · have hq : (((sc.2.1 : Nat) : Int) == 0) = false := by rw [beq_eq_false_iff_ne]; omega
    have HRE := Lib.hid (HE1.out h0)
    have y0 : w1.cell? ⟨w.heap.size, 0, none⟩ = some (.slice none 0 0) := cellb HZ1.out rfl
    have y1 : w1.cell? ⟨w.heap.size, 1, none⟩ = some (.slice none 0 0) := cellb HZ1.out rfl
    have f0 : w1.frozen? ⟨w.heap.size, 0, none⟩ = false := free_blk HZ1.out
    have f1 : w1.frozen? ⟨w.heap.size, 1, none⟩ = false := free_blk HZ1.out
    go_wp2_with fail
    exact bodyPost_ret (v := .tuple #[.agg #[.slice none 0 0, .slice none 0 0], .int .i64 (sc.2.1 : Int), .int .i64 (sc.2.2 : Int)]) (by simp [results, Tryz.results16, go_sem, y0, y1, hlt]) rfl (par_err HRE.out (below_set (below_set HB1.out _ _ (Nat.le_refl _)) _ _ (Nat.le_refl _)) (fun hn _ => absurd hn (by decide)))
end Go.Proofs.YtommnhglgedflaaGreatDoor
end
