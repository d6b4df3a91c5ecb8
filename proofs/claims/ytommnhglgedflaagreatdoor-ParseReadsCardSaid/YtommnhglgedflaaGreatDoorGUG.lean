/-
  Contract of the second parser's block; of all that read statements.
  Contract of the second parser's thread.
  Contract of the second parser's declaration.
-/
import Derived.Test.YtommnhglgedflaaGreatDoorGUF
import Derived.Test.YtommnhglgedflaaGreatDoorGRD
import Derived.Test.YtommnhglgedflaaGreatDoorGRE
import Derived.Test.YtommnhglgedflaaGreatDoorGUD
section
set_option linter.unusedSimpArgs false
set_option linter.unusedVariables false
namespace Go.Proofs.YtommnhglgedflaaGreatDoor
open Go.RowKit
open Md Pz
/-- What is known at the head of the loop. -/
def RBl (R : Rp) (w : World) (f : Nat) (res : StL × St) (g : Nat) (v : Value) (wr : World) : Prop :=
  ∃ f' l s, g = s.mu ∧ f' ≤ f ∧ (s.good = true → enoughP false s f') ∧ res = (app (stlOf l) (psS R.ts f' false s).1, (psS R.ts f' false s).2) ∧ l.length + s.mu ≤ 4098 ∧ GrowS w.heap.size wr v l ∧ (∀ x ∈ l, StOk x.h x.b x.e) ∧ RfI wr R s ∧ w.grownBy wr (some R.br)
theorem rf_own {w w' : World} {R : Rp} {s : St} {g : Option Nat} (h : RfI w R s) (hg : w.grownBy w' g) (h0 : ∀ k, g = some k → R.B0 ≤ k ∧ k ≠ R.br) : RfI w' R s := by
  obtain ⟨pos, bad, k1, k2, k3⟩ := h.blk
  exact ⟨⟨pos, bad, k1, k2, (hg.block _ h.lt (fun e => (h0 _ e.symm).2 rfl)).trans k3⟩, h.tok.below (below_of_gr hg (fun k hk => (h0 k hk).1) (Nat.le_trans R.b0 (Nat.le_of_lt h.lt))), h.ok, h.tl⟩
theorem rblk_ok {R : Rp} {w wr w2 : World} {v : Value} {l : List StI} {s : St} (hl : l.length ≤ 4098) (hg : GrowS w.heap.size w2 v l) (hok : ∀ x ∈ l, StOk x.h x.b x.e) (hr : RfI w2 R s) (hf : w.grownBy w2 (some R.br)) :
    BlkR R w (stlOf l, s) (.returned v) w2 := by
  obtain ⟨ao, cap, e, hst⟩ := hg.says hok
  exact ⟨⟨ao, cap, by rw [e], by rw [stlOf_len]; omega, hst⟩, hr, hf⟩
theorem mu_le_len (s : St) : s.mu ≤ s.len + 1 := by unfold St.mu; split <;> omega
theorem bl_end {ts : Toks} {f : Nat} {s : St} {l : List StI} {res : StL × St} (hen : s.good = true → enoughP false s f) (h : (s.good && !at' [125] s.toks) = false) (hr : res = (app (stlOf l) (psS ts f false s).1, (psS ts f false s).2)) : res = (stlOf l, wantS ts [125] s) := by
  cases s with
  | bad n => rw [hr, ps_bad f 0 n, wantS_bad]; simp only [app_nil]
  | go r =>
    obtain ⟨f', rfl⟩ : ∃ n, f = n + 1 := ⟨f - 1, by have := hen rfl; unfold enoughP at this; omega⟩
    rw [hr, Pz.ps_end ts f' (.go r) h]; simp only [app_nil]
set_option maxHeartbeats 4000000 in
set_option maxRecDepth 100000 in
theorem rblock_step (R : Rp) (f : Nat) (HSS : Hid (∀ k q, k + 1 < f → enoughP true q (k + 1) → ∀ w, RfI w R q → Calls Tryz.prog 112 #[.pointer (some ⟨R.br, 0, none⟩)] w (StaR R w (stX R.ts k q)))) : BkSays R f := by
  intro s w hen hI
  have HI := Lib.hid hI
  have HLTB := Lib.hid hI.lt
  have HLN := Lib.hid (show (wantS R.ts [123] s).mu ≤ 4098 by
    have h1 := mu_le_len (wantS R.ts [123] s)
    have h2 := wantS_le (ts := R.ts) [123] s
    have h3 : s.len ≤ 4096 := hI.len
    omega)
  obtain ⟨res, HRES⟩ : ∃ res, Hid (bkS R.ts f s = res) := ⟨_, Lib.hid rfl⟩
  rw [HRES.out]
  have HF := Lib.hid hen
  obtain ⟨i0, hi, hz0, hz1, hz2⟩ := inf_st
  have HIN := Lib.hid (And.intro hi (And.intro hz0 (And.intro hz1 hz2)))
  clear hi hz0 hz1 hz2 hI hen
  go_enter Tryz.func81, Tryz.ntmps81
  go_wp2_with fail
  refine (want_any R s _ ⟨#[123]⟩ rfl HI.out).mono ?_
  rintro e w1 ⟨rfl, h2, h3⟩
  have HHD : Hid (RBl R w f res (wantS R.ts [123] s).mu (.slice none 0 0) w1) := Lib.hid ⟨f, [], wantS R.ts [123] s, rfl, Nat.le_refl _, fun _ => HF.out, HRES.out.symm, by have := HLN.out; simpa using this, Grow.nil _ _ _ _ _ _, by simp, h2, h3⟩
  clear h2 h3 HI HRES HF HLN
  go_wp2_with fail
  go_loopg [3] (wantS R.ts [123] s).mu (fun gk v3 wr => RBl R w f res gk v3 wr)
  case atStart => exact HHD.out
  case round =>
    obtain ⟨f', l, s', rfl, hf', hen, hres, hl, hg, hok, hr, hgr⟩ := hrel
    have HF := Lib.hid (And.intro hf' hen)
    have HL := Lib.hid hl
    have HG := Lib.hid hg
    have HOK := Lib.hid hok
    have HR := Lib.hid hr
    have HGR := Lib.hid hgr
    have HS := Lib.hid hres
    clear hf' hen hres hl hg hok hr hgr HHD
    cases hc : (s'.good && !at' [125] s'.toks)
    · have HE := Lib.hid (bl_end HF.out.2 hc HS.out)
      have HEX : Hid (∀ w2 w3, Below wr.heap.size wr w2 → RfI w3 R (wantS R.ts [125] s') → w2.grownBy w3 (some R.br) → BlkR R w res (.returned u3) w3) := Lib.hid (fun w2 w3 h1 h2 h3 => by
        rw [HE.out]
        exact rblk_ok (wr := wr) (by have := HL.out; omega) ((HG.out.next (abv_below h1)).next (abv_gr h3 HLTB.out)) HOK.out h2 (grow_tr (grow_tr HGR.out (gr_below h1)) h3))
      obtain ⟨pos, bad, ⟨hp, hp2, hl, hlt, hbr⟩, HSA, ⟨hbad0, hbad1⟩, c0, c1, c2, f1, f2⟩ := HR.out.open
      cases s' with
      | bad n =>
        obtain ⟨rfl, hn1, hn2⟩ := HSA.out
        have hq : (bad == 0) = false := by rw [beq_eq_false_iff_ne]; omega
        clear HSA HS HF
        go_wp2_with fail
        refine (want_any R _ _ ⟨#[125]⟩ rfl HR.out).mono ?_
        rintro e w3 ⟨rfl, h2, h3⟩
        go_wp2_with fail
        go_ret
        exact HEX.out _ _ (Below.refl _ _) h2 h3
      | go r =>
        obtain ⟨rfl, hd⟩ := HSA.out
        have h4 : at' [125] (St.go r).toks = true := by simpa [St.good] using hc
        clear HSA HS HF hd hc
        go_wp2_with fail
        refine (is_b R _ _ ⟨#[125]⟩ rfl h4 HR.out).mono ?_
        rintro e w2 ⟨rfl, hb⟩
        have HB := Lib.hid hb
        have HR2 := Lib.hid (HR.out.below hb)
        clear hb c0 c1 c2 f1 f2
        go_wp2_with fail
        refine (want_any R _ _ ⟨#[125]⟩ rfl HR2.out).mono ?_
        rintro e w3 ⟨rfl, h2, h3⟩
        go_wp2_with fail
        go_ret
        exact HEX.out _ _ HB.out h2 h3
    · cases s' with
      | bad n => cases hc
      | go r =>
        have h4 : at' [125] (St.go r).toks = false := by simpa [St.good] using hc
        have hen := HF.out.2 rfl
        obtain ⟨k, rfl⟩ : ∃ n, f' = n + 2 := ⟨f' - 2, by unfold enoughP at hen; simp at hen; omega⟩
        have HC := Lib.hid (HSS.out k (.go r) (by have := HF.out.1; omega) (by unfold enoughP at *; simp at *; omega))
        have HS2 : Hid (res = (app (stlOf l) (app (toL (stX R.ts k (.go r)).1) (psS R.ts (k + 1) false (stX R.ts k (.go r)).2).1), (psS R.ts (k + 1) false (stX R.ts k (.go r)).2).2)) := Lib.hid (by rw [HS.out, ps_go _ _ _ hc, ps_st]; rfl)
        have HMU : Hid ((stX R.ts k (.go r)).2.mu < (St.go r).mu) := Lib.hid (by
          have := st_mu (ts := R.ts) k (s := .go r) rfl
          rw [ps_st] at this; exact this)
        obtain ⟨pos, bad, ⟨hp, hp2, hl, hlt, hbr⟩, HSA, ⟨hbad0, hbad1⟩, c0, c1, c2, f1, f2⟩ := HR.out.open
        obtain ⟨rfl, hd⟩ := HSA.out
        clear HS hc hen HSA hd
        generalize stX R.ts k (.go r) = q at *
        obtain ⟨⟨xh, xb, xe⟩, s2⟩ := q
        go_wp2_with fail
        refine (is_b R _ _ ⟨#[125]⟩ rfl h4 HR.out).mono ?_
        rintro e w2 ⟨rfl, h2⟩
        have HG2 := Lib.hid (HG.out.next (abv_below h2))
        have HR2 := Lib.hid (HR.out.below h2)
        have HGR2 := Lib.hid (grow_tr HGR.out (gr_below h2))
        clear h2 HG HR HGR c0 c1 c2 f1 f2
        go_wp2_with fail
        refine (HC.out _ HR2.out).mono ?_
        clear HC
        rintro e w3 ⟨⟨sl, rfl, hok, hst⟩, h2, h3⟩
        obtain ⟨x, hx⟩ : ∃ x : StI, x = ⟨xh, xb, xe, sl⟩ := ⟨_, rfl⟩
        have e1 : xh = x.h := by rw [hx]
        have e2 : xb = x.b := by rw [hx]
        have e3 : xe = x.e := by rw [hx]
        have e4 : sl = x.s := by rw [hx]
        dsimp only at hok hst h2 ⊢
        rw [← hx] at hst
        subst e1 e2 e3 e4
        clear hx
        have HG3 := Lib.hid (HG2.out.next (abv_gr h3 HLTB.out))
        have HR3 := Lib.hid h2
        have HGR3 := Lib.hid (grow_tr HGR2.out h3)
        have HX3 := Lib.hid hst
        have HOX := Lib.hid hok
        have HSZ : Hid (w2.heap.size ≤ w3.heap.size ∧ w.heap.size ≤ w2.heap.size) := Lib.hid ⟨h3.size, HGR2.out.size⟩
        have HLO := Lib.hid HG2.out.lt
        clear h2 h3 hst hok HG2 HR2 HGR2
        unfold stV
        have HGA := Lib.hid (HG3.out.next (abv_below (alloc_below w3 (.cells (StI.f x).toArray 91))))
        have HNC := Lib.hid (new_cells (heap_alloc_new w3 (.cells (StI.f x).toArray 91)))
        have HSW : Hid (w.heap.size ≤ w3.heap.size) := Lib.hid HGR3.out.size
        obtain ⟨hi, hz0, hz1, hz2⟩ := HIN.out
        have hbs : w.heap.size ≤ w3.heap.size + 1 := Nat.le_succ_of_le HSW.out
        have hmu : l.length + 1 ≤ 4098 := by have h1 := HL.out; have h2 := HMU.out; omega
        have hkl : l.length + 1 ≤ maxLen := by unfold maxLen; omega
        have hk176 : (l.length + 1) * 176 ≤ 140737488355328 := by omega
        go_wp2_with (at_builtin; refine wpList_append_lies _ rfl _ _ 61 rfl w.heap.size 91 i0 _ 11 176 Tryz.underlying61 hi hz0 hz1 hz2 rfl (by decide) _ _ _ rfl HGA.out.own ⟨w3.heap.size, 0, none⟩ 1 1 (StI.f x) rfl rfl HNC.out (stf_one' _) (by decide) hkl hk176 (by simpa using hbs) _ rfl ?_)
        clear hi hz0 hz1 hz2
        intro g cap w5 hown hgr hmv hlt2
        have HX5 : Hid (StayX w.heap.size u3.ownBlock (w3.alloc (.cells (StI.f x).toArray 91)) (StI.I x)) := Lib.hid (stayX_of (HX3.out.next (abv_below (alloc_below _ _))) HSZ.out.2 (fun k hk => (HLO.out k hk).2))
        have HG5 := Lib.hid (HGA.out.push HX5.out rfl hown hgr (by simpa using hmv))
        have HB5 : Hid (Below w.heap.size (w3.alloc (.cells (StI.f x).toArray 91)) w5) := Lib.hid (below_of_gr hgr (fun k hk => (HLO.out k hk).1) (by simpa using hbs))
        have HR5 : Hid (RfI w5 R s2) := Lib.hid (rf_own (rf_alloc HR3.out _) hgr (fun k hk => by have h1 := (HLO.out k hk).1; have h2 := HLTB.out; have h3 := R.b0; omega))
        have HGR5 : Hid (w.grownBy w5 (some R.br)) := Lib.hid (gr_own (gr_alloc HGR3.out _) HB5.out)
        have HOK5 : Hid (∀ y ∈ l ++ [x], StOk y.h y.b y.e) := Lib.hid (fun y hy => by
          rcases List.mem_append.1 hy with hy | hy
          · exact HOK.out y hy
          · rw [List.mem_singleton.1 hy]; exact HOX.out)
        have HRS : Hid (res = (app (stlOf (l ++ [x])) (psS R.ts (k + 1) false s2).1, (psS R.ts (k + 1) false s2).2)) := Lib.hid (HS2.out.trans (by rw [← app_snoc x _ l]; rfl))
        have HEN : Hid (s2.good = true → enoughP false s2 (k + 1)) := Lib.hid (fun hg => by
          have h1 := HMU.out
          have h2 := HF.out.2 rfl
          unfold St.mu at h1
          try dsimp only at h1
          rw [if_pos hg, if_pos (show (St.go r).good = true from rfl)] at h1
          unfold enoughP at *
          simp at *; omega)
        clear hown hgr hmv hlt2 hbs hkl hk176 HX5 HX3 HNC HGA HB5 HS2
        go_wp2_with fail
        go_roundg s2.mu
        case measure => exact HMU.out
        case rel => exact ⟨k + 1, l ++ [x], s2, rfl, by have := HF.out.1; omega, HEN.out, HRS.out, by have h1 := HL.out; have h2 : s2.mu < (St.go r).mu := HMU.out; simp only [List.length_append, List.length_singleton]; omega, HG5.out, HOK5.out, HR5.out, HGR5.out⟩
/-- What reads statements. -/
theorem rstmt_says (R : Rp) : ∀ f : Nat, BkSays R f ∧ (∀ q, enoughP true q (f + 1) → ∀ w, RfI w R q → Calls Tryz.prog 112 #[.pointer (some ⟨R.br, 0, none⟩)] w (StaR R w (stX R.ts f q))) := by
  intro f
  induction f using Nat.strongRecOn with
  | ind f ih =>
    have hb : BkSays R f := rblock_step R f (Lib.hid fun k q h1 h2 => (ih k (by omega)).2 q h2)
    exact ⟨hb, fun q hq w hI => rstatement_step R f hb q w hq hI⟩
theorem rblock_any (R : Rp) (s : St) (w : World) (hI : RfI w R s) :
    Calls Tryz.prog 81 #[.pointer (some ⟨R.br, 0, none⟩)] w (BlkR R w (blkS R.ts (3 * s.toks.length + 3) s)) := (rstmt_says R _).1 s w (bk_enough s) hI
end Go.Proofs.YtommnhglgedflaaGreatDoor
end
section
set_option linter.unusedSimpArgs false
set_option linter.unusedVariables false
namespace Go.Proofs.YtommnhglgedflaaGreatDoor
open Go.RowKit
open Md Pz
/-- A thread under way, its locals a row that grows. -/
structure Pt (R : Rp) (w : World) (bz bt : Nat) (W : World) (nm : ByteArray) (ln : Int) (v : Value) (l : List ByteArray) (s : St) : Prop where
  rd : RfI W R s
  gr : w.grownBy W (some R.br)
  lt : R.br < w.heap.size ∧ w.heap.size ≤ bz ∧ bz < bt ∧ bt + 1 ≤ W.heap.size
  z : W.heap[bz]? = some (.cells zT4 63 (0, 0))
  blk : W.heap[bt]? = some (.cells #[.string nm, .int .i64 ln, v, .slice none 0 0] 63 (0, 0))
  row : GrowT (bt + 1) W v l
section
variable {R : Rp} {bz bt : Nat} {w W W' : World} {nm : ByteArray} {ln : Int} {v : Value} {l : List ByteArray} {s s' : St}
theorem Pt.then (h : Pt R w bz bt W nm ln v l s) (h1 : RfI W' R s') (h2 : W.grownBy W' (some R.br)) : Pt R w bz bt W' nm ln v l s' :=
  ⟨h1, grow_tr h.gr h2, ⟨h.lt.1, h.lt.2.1, h.lt.2.2.1, Nat.le_trans h.lt.2.2.2 h2.size⟩, (h2.block _ (Array.getElem?_eq_some_iff.1 h.z).1 (by have := h.lt; simp; omega)).trans h.z, (h2.block _ (Array.getElem?_eq_some_iff.1 h.blk).1 (by have := h.lt; simp; omega)).trans h.blk, h.row.next (abv_gr h2 (by have := h.lt; omega))⟩
theorem Pt.below (h : Pt R w bz bt W nm ln v l s) (hb : Below W.heap.size W W') : Pt R w bz bt W' nm ln v l s := h.then (h.rd.below hb) (gr_below hb)
theorem Pt.adv (h : Pt R w bz bt W nm ln v l s) {pos : Nat} (hp : W.cell? ⟨R.br, 1, none⟩ = some (.int .i64 (pos : Int))) (hne : s.toks ≠ []) : Pt R w bz bt (W.setCell ⟨R.br, 1, none⟩ (.int .i64 ((pos : Int) + 1))) nm ln v l s.adv :=
  h.then (h.rd.adv hp hne) (setCell_grown _ _ _)
theorem Pt.cells (h : Pt R w bz bt W nm ln v l s) : W.cell? ⟨bt, 0, none⟩ = some (.string nm) ∧ W.cell? ⟨bt, 1, none⟩ = some (.int .i64 ln) ∧ W.cell? ⟨bt, 2, none⟩ = some v ∧ W.cell? ⟨bt, 3, none⟩ = some (.slice none 0 0) ∧ ∀ j, W.frozen? ⟨bt, j, none⟩ = false :=
  ⟨cellb h.blk rfl, cellb h.blk rfl, cellb h.blk rfl, cellb h.blk rfl, fun _ => free_blk h.blk⟩
theorem Pt.name (h : Pt R w bz bt W nm ln v l s) (t : ByteArray) : Pt R w bz bt (W.setCell ⟨bt, 0, none⟩ (.string t)) t ln v l s :=
  ⟨rf_set h.rd _ _ (by have := h.lt; have := R.b0; show R.B0 ≤ bt; omega) (by have := h.lt; show bt ≠ R.br; omega), gr_set h.gr _ _ (by have := h.lt; show _ ≤ bt; omega), by have := h.lt; simpa [World.setCell] using this, (setCell_far W _ _ rfl (by have := h.lt; show bt ≠ _; omega)).trans h.z, by rw [setCell_blk h.blk]; rfl, h.row.next (abv_set W ⟨bt, 0, none⟩ _ (Nat.lt_succ_self _))⟩
theorem Pt.bodySet (h : Pt R w bz bt W nm ln v l s) (b : Value) : ∀ W', W.setCell ⟨bt, 3, none⟩ b = W' → RfI W' R s ∧ w.grownBy W' (some R.br) ∧ W'.heap[bz]? = some (.cells zT4 63 (0, 0)) ∧ W'.heap[bt]? = some (.cells #[.string nm, .int .i64 ln, v, b] 63 (0, 0)) := by
  intro W' hW
  subst hW
  exact ⟨rf_set h.rd _ _ (by have := h.lt; have := R.b0; show R.B0 ≤ bt; omega) (by have := h.lt; show bt ≠ R.br; omega), gr_set h.gr _ _ (by have := h.lt; show _ ≤ bt; omega), (setCell_far W _ _ rfl (by have := h.lt; show bt ≠ _; omega)).trans h.z, by rw [setCell_blk h.blk]; rfl⟩
/-- The row is stored. -/
theorem Pt.locs {v' : Value} {l' : List ByteArray} (h : Pt R w bz bt W nm ln v l s) (hr : RfI W' R s') (hg : w.grownBy W' (some R.br)) (hz : W'.heap[bz]? = W.heap[bz]?) (hb : W'.heap[bt]? = W.heap[bt]?) (hs : W.heap.size ≤ W'.heap.size) (hrow : GrowT (bt + 1) W' v' l') : Pt R w bz bt (W'.setCell ⟨bt, 2, none⟩ v') nm ln v' l' s' :=
  ⟨rf_set hr _ _ (by have := h.lt; have := R.b0; show R.B0 ≤ bt; omega) (by have := h.lt; show bt ≠ R.br; omega), gr_set hg _ _ (by have := h.lt; show _ ≤ bt; omega), by have h1 := h.lt; simp [World.setCell]; omega, (setCell_far W' _ _ rfl (by have := h.lt; show bt ≠ _; omega)).trans (hz.trans h.z), by rw [setCell_blk (hb.trans h.blk)]; rfl, hrow.next (abv_set W' ⟨bt, 2, none⟩ _ (Nat.lt_succ_self _))⟩
end
/-- What a thread's reading leaves. -/
def ThrR (R : Rp) (w : World) (q : Th × St) (e : Ending) (w' : World) : Prop :=
  (∃ x : ThI, x.t = q.1 ∧ e = .returned (.agg (ThI.f x).toArray) ∧ (x.t.Ok ∧ x.t.locs.length ≤ x.capl) ∧ Stay w.heap.size w' (ThI.I x)) ∧ RfI w' R q.2 ∧ w.grownBy w' (some R.br)
theorem rthr_ok {R : Rp} {w W W8 : World} {bz bt B : Nat} {x : ThI} {s : St} (hok : x.t.Ok ∧ x.t.locs.length ≤ x.capl) (hst : Stay B W (ThI.I x)) (hl : R.br < w.heap.size ∧ w.heap.size ≤ bz ∧ bz < bt ∧ B ≤ W8.heap.size) (hz : w.heap.size = bz) (hr : RfI W R s) (hg : w.grownBy W (some R.br)) (hB : B = bt + 1 := by rfl) :
    ThrR R w (x.t, s) (.returned (.agg (ThI.f x).toArray)) (W.setCells bz 0 (ThI.f x)) := by
  subst hz hB
  have hs := setCells_grown w.heap.size (ThI.f x) 0 W
  have hb := R.b0
  exact ⟨⟨x, rfl, rfl, hok, (hst.next ⟨hs.size, fun k h1 h2 => hs.block k h2 (by simp; omega)⟩).mono (by omega)⟩, rf_grown hr hs (by omega) (by omega), gr_grown hg hs (Nat.le_refl _)⟩
/-- What is known behind the parentheses' content. -/
def PrmP (R : Rp) (w : World) (bz bt : Nat) (nm : ByteArray) (ln : Int) (q : List ByteArray × St) (W : World) : Prop :=
  ∃ v, Pt R w bz bt W nm ln v q.1 q.2 ∧ q.1.length ≤ 5000 ∧ ∀ t ∈ q.1, t.size ≤ maxLen
/-- What is known at the head of the loop. -/
def LcRel (R : Rp) (w : World) (bz bt : Nat) (nm : ByteArray) (ln : Int) (q : List ByteArray × St) (g : Nat) (wr : World) : Prop :=
  ∃ l s f v, g = s.len ∧ s.len ≤ f ∧ locsS R.ts f l s = q ∧ Pt R w bz bt wr nm ln v l s ∧ l.length + s.len ≤ 4098 ∧ ∀ t ∈ l, t.size ≤ maxLen
theorem locsS_end {ts : Toks} {f : Nat} {l : List ByteArray} {s : St} (h : at' [44] s.toks = false) : locsS ts f l s = (l, s) := by
  cases f with
  | zero => rfl
  | succ f => unfold locsS; rw [if_neg (by rw [h]; decide)]
theorem locsS_more {ts : Toks} {f : Nat} {l : List ByteArray} {s : St} (h : at' [44] s.toks = true) : locsS ts (f + 1) l s = locsS ts f (l ++ [(nameS ts s.adv).1]) (nameS ts s.adv).2 := by
  conv => lhs; unfold locsS
  rw [if_pos h]
theorem snoc_le {l : List ByteArray} {x : ByteArray} (h1 : ∀ t ∈ l, t.size ≤ maxLen) (h2 : x.size ≤ maxLen) : ∀ t ∈ l ++ [x], t.size ≤ maxLen := fun y hy => by
  rcases List.mem_append.1 hy with hy | hy
  · exact h1 y hy
  · rw [List.mem_singleton.1 hy]; exact h2
theorem St.adv_ts {s : St} (h : TsOk s.toks) : TsOk s.adv.toks := fun t ht => h t (by
  cases s with
  | go r => exact List.mem_of_mem_tail ht
  | bad n => exact ht)
set_option maxHeartbeats 8000000 in
set_option maxRecDepth 100000 in
theorem rthread_any (R : Rp) (s : St) (w : World) (hI : RfI w R s) :
    Calls Tryz.prog 42 #[.pointer (some ⟨R.br, 0, none⟩)] w (ThrR R w (thrS R.ts s)) := by
  have HI := Lib.hid hI
  obtain ⟨ln, hln⟩ : ∃ ln : Int, ((nextL s.toks : Nat) : Int) = ln := ⟨_, rfl⟩
  have HL : Hid (I64 ln) := Lib.hid (by rw [← hln]; exact line_i hI)
  have HLN : Hid (∀ w, RfI w R s → Calls Tryz.prog 76 #[.pointer (some ⟨R.br, 0, none⟩)] w fun e w' => e = .returned (.int .i64 ln) ∧ Below w.heap.size w w') := Lib.hid (fun w h => by rw [← hln]; exact rline_any R s w h)
  clear hI
  unfold thrS
  rw [hln]
  clear hln
  dsimp only
  obtain ⟨q, hq⟩ : ∃ q, nameS R.ts (wantS R.ts [116, 104, 114, 101, 97, 100] s) = q := ⟨_, rfl⟩
  have HRN : Hid (∀ w, RfI w R (wantS R.ts [116, 104, 114, 101, 97, 100] s) → Calls Tryz.prog 77 #[.pointer (some ⟨R.br, 0, none⟩)] w (fun e w' => NmR R w q e w' ∧ q.1.size ≤ maxLen)) := Lib.hid (fun w h => by
    rw [← hq]; exact (rname_any R _ w h).mono (fun e w' h' => ⟨h', nameS_size h.ts⟩))
  rw [hq]
  clear hq
  obtain ⟨nm, s1⟩ := q
  dsimp only at HRN ⊢
  obtain ⟨qp, HQP⟩ : ∃ qp, Hid (paramS R.ts (wantS R.ts [40] s1) = qp) := ⟨_, Lib.hid rfl⟩
  rw [HQP.out]
  go_enter Tryz.func42, Tryz.ntmps42
  go_upto_region 1 with fail
  generalize hW : World.alloc w _ = W0
  have HB0 : Hid (Below w.heap.size w W0) := Lib.hid (by rw [← hW]; exact alloc_below _ _)
  have HZ0 : Hid (W0.heap[w.heap.size]? = some (.cells zT4 63 (0, 0))) := Lib.hid (by rw [← hW]; exact heap_alloc_new _ _)
  clear hW
  go_wp2_with fail
  refine (HLN.out _ (HI.out.below HB0.out)).mono ?_
  rintro e w2 ⟨rfl, hb⟩
  have HB2 := Lib.hid (HB0.out.trans (hb.mono HB0.out.size))
  have HZ2 := Lib.hid ((hb.block _ (Array.getElem?_eq_some_iff.1 HZ0.out).1).trans HZ0.out)
  clear hb HB0 HZ0
  go_upto_region 2 with fail
  obtain ⟨bt, hg⟩ : ∃ bt, w2.heap.size = bt := ⟨_, rfl⟩
  generalize hW : World.alloc w2 _ = W3
  have HP : Hid (Pt R w w.heap.size bt W3 ⟨#[]⟩ ln (.slice none 0 0) [] s) := Lib.hid (by
    have hl := HI.out.lt
    have hzl := (Array.getElem?_eq_some_iff.1 HZ2.out).1
    rw [← hW, ← hg]
    exact ⟨(HI.out.below HB2.out).below (alloc_below _ _), gr_alloc (gr_below HB2.out) _, ⟨hl, Nat.le_refl _, hzl, by simp⟩, (heap_alloc_old _ _ hzl).trans HZ2.out, heap_alloc_new _ _, Grow.nil _ _ _ _ _ _⟩)
  rw [hg]
  obtain ⟨bz, hbz⟩ : ∃ bz, w.heap.size = bz := ⟨_, rfl⟩
  have HBZ := Lib.hid hbz
  rw [hbz] at HP
  rw [hbz]
  clear hW hg HB2 HZ2 hbz
  go_wp2_with fail
  refine (want_any R _ _ ⟨#[116, 104, 114, 101, 97, 100]⟩ rfl HP.out.rd).mono ?_
  rintro e w9 ⟨rfl, h2, h3⟩
  have HQ := Lib.hid (HP.out.then h2 h3)
  clear h2 h3 HP
  have HP := HQ
  clear HQ
  go_wp2_with fail
  refine (HRN.out _ HP.out.rd).mono ?_
  rintro e w4 ⟨⟨rfl, h2, h3⟩, hsz⟩
  have HNM := Lib.hid hsz
  have HQ := Lib.hid (HP.out.then h2 h3)
  obtain ⟨c0, c1, c2, c3, fc⟩ := HQ.out.cells
  have f0 := fc 0
  clear h2 h3 hsz HP c1 c2 c3 fc HRN
  go_upto_region 4 with fail
  generalize hW : World.setCell w4 _ _ = W4
  have HP : Hid (Pt R w bz bt W4 nm ln (.slice none 0 0) [] s1) := Lib.hid (by rw [← hW]; exact HQ.out.name _)
  clear hW c0 f0 HQ
  go_wp2_with fail
  refine (want_any R _ _ ⟨#[40]⟩ rfl HP.out.rd).mono ?_
  rintro e w9 ⟨rfl, h2, h3⟩
  have HQ := Lib.hid (HP.out.then h2 h3)
  clear h2 h3 HP
  have HP := HQ
  clear HQ
  generalize wantS R.ts [40] s1 = s2 at *
  go_wp2_with fail
  refine (is_any R s2 _ ⟨#[41]⟩ (l := [41]) rfl HP.out.rd).mono ?_
  rintro e W ⟨rfl, hb⟩
  have HP5 := Lib.hid (HP.out.below hb)
  clear hb HP
  have HP := HP5
  clear HP5
  go_upto_if 16 with fail
  go_cut [] (fun W' => PrmP R w bz bt nm ln qp W')
  case first =>
    cases h4 : at' [41] s2.toks
    · obtain ⟨q5, hq5⟩ : ∃ q5, nameS R.ts s2 = q5 := ⟨_, rfl⟩
      have HRN : Hid (∀ w, RfI w R s2 → Calls Tryz.prog 77 #[.pointer (some ⟨R.br, 0, none⟩)] w (NmR R w q5)) := Lib.hid (fun w h => by rw [← hq5]; exact rname_any R _ w h)
      have HSZ5 : Hid (q5.1.size ≤ maxLen) := Lib.hid (by rw [← hq5]; exact nameS_size HP.out.rd.ts)
      have HQ5 : Hid (locsS R.ts q5.2.toks.length [q5.1] q5.2 = qp) := Lib.hid (by rw [← HQP.out, ← hq5]; unfold paramS; rw [if_neg (by rw [h4]; decide)])
      have HLS5 : Hid (q5.2.len ≤ 4096) := Lib.hid (by rw [← hq5]; exact Nat.le_trans (nameS_le _) HP.out.rd.len)
      clear hq5 HQP
      obtain ⟨x5, s5⟩ := q5
      go_wp2_with fail
      obtain ⟨v, HP1⟩ : ∃ v, Hid (Pt R w bz bt W nm ln v [] s2) := ⟨_, HP⟩
      obtain ⟨l, HL0, HP2⟩ : ∃ l, Hid (l = []) ∧ Hid (Pt R w bz bt W nm ln v l s2) := ⟨[], Lib.hid rfl, HP1⟩
      have HLL : Hid (l.length ≤ 5000) := Lib.hid (by rw [HL0.out]; exact Nat.zero_le _)
      clear HP HP1
      have HP := HP2
      clear HP2
      have HLS : Hid (s5.len ≤ 4096) := Lib.hid (HLS5.out)
      obtain ⟨av, cv, hv⟩ := HP.out.row.len
      subst hv
      have hll : l.length ≤ 5000 := HLL.out
      have HTB := Lib.hid (And.intro HP.out.lt (show R.br < bt + 1 by have := HP.out.lt; omega))
      have HGR := Lib.hid HP.out.row
      have KD : ∀ w', W.grownBy w' (some R.br) → w'.heap[bt]? = some (.cells #[.string nm, .int .i64 ln, .slice av l.length cv, .slice none 0 0] 63 (0, 0)) := fun w' h => (h.block _ (Array.getElem?_eq_some_iff.1 HP.out.blk).1 (by have := HTB.out; simp; omega)).trans HP.out.blk
      have KZ : ∀ w', W.grownBy w' (some R.br) → w'.heap[bz]? = some (.cells zT4 63 (0, 0)) := fun w' h => (h.block _ (Array.getElem?_eq_some_iff.1 HP.out.z).1 (by have := HTB.out; simp; omega)).trans HP.out.z
      have HRD := HP.out.rd
      obtain ⟨i0, hi0, hz0, hz1, hz2⟩ := inf_tx
      refine wpAny_start (by kernel_rfl) rfl ?_
      refine wpAny_phase 0 5 [3] [[], [0], [], [2], [2, 3], [0, 1, 2, 3, 4], [0, 1, 2, 3, 4, 5], [0, 1, 2, 3, 4, 5, 6]] [[none], [none], [some false], [some false], [some true]] (SC1 (KW R W s2) (KW R W s5)) (fun u u' => Abv (bt + 1) u u') [17, 18, 19, 20, 21] rfl rfl (by rfl) (by kernel_rfl) (by kernel_rfl) (by kernel_rfl) (by kernel_rfl) (by kernel_rfl) (by rfl) (fun _ => Abv.refl _ _) (by rfl) ⟨HRD.below (below_drewN (Below.refl _ _) 1), gr_below (below_drewN (Below.refl _ _) 1)⟩ ?_
      simp only [List.take_succ_cons, List.take_zero, List.drop_zero, List.drop_succ_cons, dumE, List.map_cons, List.map_nil]
      apply ObP.step
      case hobl =>
        intro c A w' hok hC hO hD
        have e3 := hO 3 (by rfl)
        simp [Act.eval] at e3
        simp [depsL, IsV, slotv, Act.eval, Region.binds] at hD
        simp [go_sem, gd, Oper.wp, hD, e3]
        exact WPost.mk (Abv.refl _ _) (SC1.skip (by rfl) hC) (IsV.mk _ _)
      apply ObP.step
      case hobl =>
        intro c A w' hok' hC hO hD
        obtain ⟨x', rfl⟩ := hC.bits
        have hb := KD w' (by cases x'; exact (show KW R W _ w' from hC).2; exact (show KW R W _ w' from hC).2)
        have z2 : w'.cell? ⟨bt, 2, none⟩ = some (.slice av l.length cv) := cellb hb rfl
        simp [depsL, IsV, slotv, Act.eval, Region.binds] at hD
        simp [go_sem, gd, Oper.wp, hD, z2]
        exact WPost.mk (Abv.refl _ _) (SC1.skip (by rfl) hC) (IsV.mk _ _)
      apply ObP.step
      case hobl =>
        intro c A w' hok hC hO hD
        have e0 := hO 0 (by rfl)
        simp [Act.eval] at e0
        simp [depsL, IsV, slotv, Act.eval, Region.binds] at hD
        simp [go_sem, gd, Oper.wp, hD, e0]
        exact WPost.mk (Abv.refl _ _) (SC1.skip (by rfl) hC) (IsV.mk _ _)
      simp only [List.nil_append, List.cons_append]
      apply ObP.step
      case hobl =>
        intro c A w' hok' hC hO hD
        obtain ⟨x', rfl⟩ := hC.bits
        obtain ⟨rfl, -⟩ := hok'
        have hC : KW R W s2 w' := hC
        simp [depsL, IsV, slotv, Act.eval, Region.binds] at hD
        simp [go_sem, gd, Oper.wp, hD]
        refine (HRN.out w' hC.1).mono ?_
        rintro e w6 ⟨rfl, h2, h3⟩
        exact WPost.mk (abv_gr h3 HTB.out.2) (SC1.fire (by rfl) ⟨h2, grow_tr hC.2 h3⟩) (IsV.mk _ _)
      refine ObP.some (fun v w' => ∃ gg, v = .slice (some ⟨gg, 0, none⟩) 1 1 ∧ bt + 1 ≤ gg ∧ w'.heap[gg]? = some (.cells #[.string x5] 9 (0, 0))) (fun v w1 w' hle h => by obtain ⟨a, h1, h2, h3⟩ := h; exact ⟨a, h1, h2, (hle.2 a h2 (Array.getElem?_eq_some_iff.1 h3).1).trans h3⟩) ?_ ?_
      · intro c A w' hok' hC hO hD
        obtain ⟨x', rfl⟩ := hC.bits
        obtain ⟨rfl, -⟩ := hok'
        have hC : KW R W s5 w' := hC
        simp [depsL, IsV, slotv, Act.eval, Region.binds] at hD
        simp [go_sem, gd, Oper.wp, hD]
        exact WPost.mk (d := _) (v := .slice (some ⟨_, 0, none⟩) 1 1) (abv_below (alloc_below _ _)) (SC1.skip (by rfl) (show KW R W s5 _ from ⟨hC.1.below (alloc_below _ _), grow_tr hC.2 (gr_below (alloc_below _ _))⟩)) ⟨_, rfl, by have := HTB.out; have := hC.2.size; omega, heap_alloc_new _ _⟩
      try simp only [List.nil_append, List.cons_append]
      refine ObP.done ?_
      intro wz hCz
      try simp only [List.drop_succ_cons, List.drop_zero]
      intro x0 h0 x1 h1 x2 h2 x3 h3 x4 h4
      have h1' := Eq.symm (show x1 = _ from h1)
      subst h1'
      obtain ⟨gg, rfl, hgg, hgb⟩ := h4
      clear h0 h1 h2 h3
      refine allvals_nil ?_
      go_simp
      have HKZ : Hid (KW R W s5 wz) := Lib.hid hCz
      have HGZ : Hid (GrowT (bt + 1) wz (.slice av l.length cv) l) := Lib.hid (HGR.out.next (abv_gr HKZ.out.2 HTB.out.2))
      have hszz : bt + 1 ≤ wz.heap.size := by have := HTB.out; have := HKZ.out.2.size; omega
      refine wpAny_one 5 [[], [0], [], [2], [2, 3], [0, 1, 2, 3, 4], [0, 1, 2, 3, 4, 5], [0, 1, 2, 3, 4, 5, 6]] rfl rfl rfl rfl rfl (by kernel_rfl) (by kernel_rfl) (by kernel_rfl) ?_
      refine wp_append_lies wz _ _ _ (by rfl) (bt + 1) 9 i0 _ 1 16 Tryz.underlying60 hi0 hz0 hz1 hz2 (by rfl) (by decide) (.slice av l.length cv) l.length (l.flatMap txF) (by rfl) HGZ.out.own ⟨gg, 0, none⟩ 1 1 (txF x5) (by rfl) (by rfl) (World.news_of_block hgb) (by simp [txF, Value.oneCell']) (by decide) (by unfold maxLen; omega) (by omega) hszz wz.heap.size rfl ?_
      intro g4 cap4 w4 hown hgr hmv hlt4
      have HX4 : Hid (StayX (bt + 1) (Value.slice av l.length cv).ownBlock wz (fun _ => True)) := Lib.hid (fun _ _ => trivial)
      have HG4 := Lib.hid (HGZ.out.push (x := x5) HX4.out rfl hown hgr (by simpa using hmv))
      have HLO : Hid (∀ k, (Value.slice av l.length cv).ownBlock = some k → bt + 1 ≤ k) := Lib.hid (fun k hk => (HGZ.out.lt k hk).1)
      have HB4 : Hid (Below (bt + 1) wz w4) := Lib.hid (below_of_gr hgr HLO.out hszz)
      have HR4 : Hid (RfI w4 R s5) := Lib.hid (rf_own HKZ.out.1 hgr (fun k hk => by have h1 := HLO.out k hk; have h2 := HTB.out; have h3 := R.b0; omega))
      have HGR4 : Hid (w.grownBy w4 (some R.br)) := Lib.hid (gr_own (grow_tr HP.out.gr HKZ.out.2) (HB4.out.mono (by have := HTB.out; omega)))
      have HBT4 : Hid (w4.heap[bt]? = W.heap[bt]?) := Lib.hid ((HB4.out.block _ (Nat.lt_succ_self _)).trans (HKZ.out.2.block _ (by have := HTB.out; omega) (by have := HTB.out; simp; omega)))
      have HBZ4 : Hid (w4.heap[bz]? = W.heap[bz]?) := Lib.hid ((HB4.out.block _ (by have := HTB.out; omega)).trans (HKZ.out.2.block _ (by have := HTB.out; omega) (by have := HTB.out; simp; omega)))
      have HSZ4 : Hid (W.heap.size ≤ w4.heap.size) := Lib.hid (Nat.le_trans HKZ.out.2.size HB4.out.size)
      have c2 : w4.cell? ⟨bt, 2, none⟩ = some (.slice av l.length cv) := cellb (HBT4.out.trans HP.out.blk) rfl
      have f2 : w4.frozen? ⟨bt, 2, none⟩ = false := free_blk (HBT4.out.trans HP.out.blk)
      clear hown hgr hmv hlt4 HX4 HKZ HGZ KD KZ HRD hCz hgb hgg hi0 hz0 hz1 hz2
      refine wpAny_one 6 [[], [0], [], [2], [2, 3], [0, 1, 2, 3, 4], [0, 1, 2, 3, 4, 5], [0, 1, 2, 3, 4, 5, 6]] rfl rfl rfl rfl rfl (by kernel_rfl) (by kernel_rfl) (by kernel_rfl) ?_
      simp [go_sem, Oper.wp]
      refine wpAny_one 7 [[], [0], [], [2], [2, 3], [0, 1, 2, 3, 4], [0, 1, 2, 3, 4, 5], [0, 1, 2, 3, 4, 5, 6]] rfl rfl rfl rfl rfl (by kernel_rfl) (by kernel_rfl) (by kernel_rfl) ?_
      simp [go_sem, Oper.wp, c2, f2]
      refine wpAny_end rfl ?_
      go_simp
      generalize hW : World.setCell w4 _ _ = WT
      have HPN : Hid (Pt R w bz bt WT nm ln (.slice (some ⟨g4, 0, none⟩) (l.length + 1) cap4) (l ++ [x5]) s5) := Lib.hid (by rw [← hW]; exact HP.out.locs HR4.out HGR4.out HBZ4.out HBT4.out HSZ4.out HG4.out)
      clear hW c2 f2 HG4 HLO HB4 HR4 HGR4 HBT4 HBZ4 HSZ4 HGR HTB hszz HP
      have HP := HPN
      clear HPN
      have HHD : Hid (LcRel R w bz bt nm ln qp s5.len WT) := Lib.hid ⟨l ++ [x5], s5, _, _, rfl, Nat.le_refl _, by rw [← HQ5.out, HL0.out]; rfl, HP.out, by have := HLS.out; rw [HL0.out]; simp; omega, by rw [HL0.out]; exact snoc_le (l := []) (by simp) HSZ5.out⟩
      clear HP HLS HQ5 HL0 HLL HSZ5 HRN h4 hll HLS5
      go_wp2_with fail
      go_loopg [24] s5.len (fun gk _ wr => LcRel R w bz bt nm ln qp gk wr)
      case atStart => exact HHD.out
      case round =>
        obtain ⟨l, s, f, v, rfl, hf, hq, hp, hll, hsz⟩ := hrel
        have HP := Lib.hid hp
        have HF := Lib.hid (And.intro hf (And.intro hll hsz))
        have HQ := Lib.hid hq
        clear hf hq hp hll hsz HHD
        cases h4 : at' [44] s.toks
        · have e1 : qp = (l, s) := by rw [← HQ.out]; exact locsS_end h4
          subst e1
          go_wp2_with fail
          refine (is_b R _ _ ⟨#[44]⟩ rfl h4 HP.out.rd).mono ?_
          rintro e w6 ⟨rfl, hb⟩
          have HP6 := Lib.hid (HP.out.below hb)
          clear hb HP
          go_wp2_with fail
          go_meet
          exact ⟨_, HP6.out, by have := HF.out.2.1; show l.length ≤ 5000; omega, HF.out.2.2⟩
        · obtain ⟨f, rfl⟩ : ∃ n, f = n + 1 := ⟨f - 1, by have h1 := HF.out.1; have h2 := adv_lt (toks_ne h4); omega⟩
          obtain ⟨q6, hq6⟩ : ∃ q6, nameS R.ts s.adv = q6 := ⟨_, rfl⟩
          have HRN : Hid (∀ w, RfI w R s.adv → Calls Tryz.prog 77 #[.pointer (some ⟨R.br, 0, none⟩)] w (NmR R w q6)) := Lib.hid (fun w h => by rw [← hq6]; exact rname_any R _ w h)
          have HSZ6 : Hid (q6.1.size ≤ maxLen) := Lib.hid (by rw [← hq6]; exact nameS_size (St.adv_ts HP.out.rd.ts))
          have HQ6 : Hid (locsS R.ts f (l ++ [q6.1]) q6.2 = qp) := Lib.hid (by rw [← HQ.out, ← hq6, locsS_more h4])
          have HLT : Hid (q6.2.len < s.len) := Lib.hid (by rw [← hq6]; exact Nat.lt_of_le_of_lt (nameS_le _) (adv_lt (toks_ne h4)))
          have HNE := Lib.hid (toks_ne h4)
          clear hq6 HQ
          obtain ⟨x6, s6⟩ := q6
          go_wp2_with fail
          refine (is_b R _ _ ⟨#[44]⟩ rfl h4 HP.out.rd).mono ?_
          rintro e w6 ⟨rfl, hb⟩
          have HP6 := Lib.hid (HP.out.below hb)
          clear hb HP
          have HP := HP6
          clear HP6 h4
          obtain ⟨pos, bad, ⟨hp, hp2, hl, hlt, hbr⟩, HSA, ⟨hbad0, hbad1⟩, c0, c1, c2, f1, f2⟩ := HP.out.rd.open
          have HA := Lib.hid (HP.out.adv c1 HNE.out)
          go_upto_region 9 with fail
          generalize hW : World.setCell _ _ _ = WA
          rw [hW] at HA
          clear hW c0 c1 c2 f1 f2 HSA hp hp2 hl hlt hbr hbad0 hbad1 HP
          have HP := HA
          clear HA
          have HLL : Hid (l.length ≤ 5000) := Lib.hid (by have := HF.out.2.1; omega)
          obtain ⟨W, hWA⟩ : ∃ W, W = WA := ⟨_, rfl⟩
          subst hWA
          obtain ⟨av, cv, hv⟩ := HP.out.row.len
          subst hv
          have hll : l.length ≤ 5000 := HLL.out
          have HTB := Lib.hid (And.intro HP.out.lt (show R.br < bt + 1 by have := HP.out.lt; omega))
          have HGR := Lib.hid HP.out.row
          have KD : ∀ w', W.grownBy w' (some R.br) → w'.heap[bt]? = some (.cells #[.string nm, .int .i64 ln, .slice av l.length cv, .slice none 0 0] 63 (0, 0)) := fun w' h => (h.block _ (Array.getElem?_eq_some_iff.1 HP.out.blk).1 (by have := HTB.out; simp; omega)).trans HP.out.blk
          have KZ : ∀ w', W.grownBy w' (some R.br) → w'.heap[bz]? = some (.cells zT4 63 (0, 0)) := fun w' h => (h.block _ (Array.getElem?_eq_some_iff.1 HP.out.z).1 (by have := HTB.out; simp; omega)).trans HP.out.z
          have HRD := HP.out.rd
          obtain ⟨i0, hi0, hz0, hz1, hz2⟩ := inf_tx
          refine wpAny_start (by kernel_rfl) rfl ?_
          refine wpAny_phase 0 5 [3] [[], [0], [], [2], [2, 3], [0, 1, 2, 3, 4], [0, 1, 2, 3, 4, 5], [0, 1, 2, 3, 4, 5, 6]] [[none], [none], [some false], [some false], [some true]] (SC1 (KW R W s.adv) (KW R W s6)) (fun u u' => Abv (bt + 1) u u') [33, 34, 35, 36, 37] rfl rfl (by rfl) (by kernel_rfl) (by kernel_rfl) (by kernel_rfl) (by kernel_rfl) (by kernel_rfl) (by rfl) (fun _ => Abv.refl _ _) (by rfl) ⟨HRD.below (below_drewN (Below.refl _ _) 1), gr_below (below_drewN (Below.refl _ _) 1)⟩ ?_
          simp only [List.take_succ_cons, List.take_zero, List.drop_zero, List.drop_succ_cons, dumE, List.map_cons, List.map_nil]
          apply ObP.step
          case hobl =>
            intro c A w' hok hC hO hD
            have e3 := hO 3 (by rfl)
            simp [Act.eval] at e3
            simp [depsL, IsV, slotv, Act.eval, Region.binds] at hD
            simp [go_sem, gd, Oper.wp, hD, e3]
            exact WPost.mk (Abv.refl _ _) (SC1.skip (by rfl) hC) (IsV.mk _ _)
          apply ObP.step
          case hobl =>
            intro c A w' hok' hC hO hD
            obtain ⟨x', rfl⟩ := hC.bits
            have hb := KD w' (by cases x'; exact (show KW R W _ w' from hC).2; exact (show KW R W _ w' from hC).2)
            have z2 : w'.cell? ⟨bt, 2, none⟩ = some (.slice av l.length cv) := cellb hb rfl
            simp [depsL, IsV, slotv, Act.eval, Region.binds] at hD
            simp [go_sem, gd, Oper.wp, hD, z2]
            exact WPost.mk (Abv.refl _ _) (SC1.skip (by rfl) hC) (IsV.mk _ _)
          apply ObP.step
          case hobl =>
            intro c A w' hok hC hO hD
            have e0 := hO 0 (by rfl)
            simp [Act.eval] at e0
            simp [depsL, IsV, slotv, Act.eval, Region.binds] at hD
            simp [go_sem, gd, Oper.wp, hD, e0]
            exact WPost.mk (Abv.refl _ _) (SC1.skip (by rfl) hC) (IsV.mk _ _)
          simp only [List.nil_append, List.cons_append]
          apply ObP.step
          case hobl =>
            intro c A w' hok' hC hO hD
            obtain ⟨x', rfl⟩ := hC.bits
            obtain ⟨rfl, -⟩ := hok'
            have hC : KW R W s.adv w' := hC
            simp [depsL, IsV, slotv, Act.eval, Region.binds] at hD
            simp [go_sem, gd, Oper.wp, hD]
            refine (HRN.out w' hC.1).mono ?_
            rintro e w6 ⟨rfl, h2, h3⟩
            exact WPost.mk (abv_gr h3 HTB.out.2) (SC1.fire (by rfl) ⟨h2, grow_tr hC.2 h3⟩) (IsV.mk _ _)
          refine ObP.some (fun v w' => ∃ gg, v = .slice (some ⟨gg, 0, none⟩) 1 1 ∧ bt + 1 ≤ gg ∧ w'.heap[gg]? = some (.cells #[.string x6] 9 (0, 0))) (fun v w1 w' hle h => by obtain ⟨a, h1, h2, h3⟩ := h; exact ⟨a, h1, h2, (hle.2 a h2 (Array.getElem?_eq_some_iff.1 h3).1).trans h3⟩) ?_ ?_
          · intro c A w' hok' hC hO hD
            obtain ⟨x', rfl⟩ := hC.bits
            obtain ⟨rfl, -⟩ := hok'
            have hC : KW R W s6 w' := hC
            simp [depsL, IsV, slotv, Act.eval, Region.binds] at hD
            simp [go_sem, gd, Oper.wp, hD]
            exact WPost.mk (d := _) (v := .slice (some ⟨_, 0, none⟩) 1 1) (abv_below (alloc_below _ _)) (SC1.skip (by rfl) (show KW R W s6 _ from ⟨hC.1.below (alloc_below _ _), grow_tr hC.2 (gr_below (alloc_below _ _))⟩)) ⟨_, rfl, by have := HTB.out; have := hC.2.size; omega, heap_alloc_new _ _⟩
          try simp only [List.nil_append, List.cons_append]
          refine ObP.done ?_
          intro wz hCz
          try simp only [List.drop_succ_cons, List.drop_zero]
          intro x0 h0 x1 h1 x2 h2 x3 h3 x4 h4
          have h1' := Eq.symm (show x1 = _ from h1)
          subst h1'
          obtain ⟨gg, rfl, hgg, hgb⟩ := h4
          clear h0 h1 h2 h3
          refine allvals_nil ?_
          go_simp
          have HKZ : Hid (KW R W s6 wz) := Lib.hid hCz
          have HGZ : Hid (GrowT (bt + 1) wz (.slice av l.length cv) l) := Lib.hid (HGR.out.next (abv_gr HKZ.out.2 HTB.out.2))
          have hszz : bt + 1 ≤ wz.heap.size := by have := HTB.out; have := HKZ.out.2.size; omega
          refine wpAny_one 5 [[], [0], [], [2], [2, 3], [0, 1, 2, 3, 4], [0, 1, 2, 3, 4, 5], [0, 1, 2, 3, 4, 5, 6]] rfl rfl rfl rfl rfl (by kernel_rfl) (by kernel_rfl) (by kernel_rfl) ?_
          refine wp_append_lies wz _ _ _ (by rfl) (bt + 1) 9 i0 _ 1 16 Tryz.underlying60 hi0 hz0 hz1 hz2 (by rfl) (by decide) (.slice av l.length cv) l.length (l.flatMap txF) (by rfl) HGZ.out.own ⟨gg, 0, none⟩ 1 1 (txF x6) (by rfl) (by rfl) (World.news_of_block hgb) (by simp [txF, Value.oneCell']) (by decide) (by unfold maxLen; omega) (by omega) hszz wz.heap.size rfl ?_
          intro g4 cap4 w4 hown hgr hmv hlt4
          have HX4 : Hid (StayX (bt + 1) (Value.slice av l.length cv).ownBlock wz (fun _ => True)) := Lib.hid (fun _ _ => trivial)
          have HG4 := Lib.hid (HGZ.out.push (x := x6) HX4.out rfl hown hgr (by simpa using hmv))
          have HLO : Hid (∀ k, (Value.slice av l.length cv).ownBlock = some k → bt + 1 ≤ k) := Lib.hid (fun k hk => (HGZ.out.lt k hk).1)
          have HB4 : Hid (Below (bt + 1) wz w4) := Lib.hid (below_of_gr hgr HLO.out hszz)
          have HR4 : Hid (RfI w4 R s6) := Lib.hid (rf_own HKZ.out.1 hgr (fun k hk => by have h1 := HLO.out k hk; have h2 := HTB.out; have h3 := R.b0; omega))
          have HGR4 : Hid (w.grownBy w4 (some R.br)) := Lib.hid (gr_own (grow_tr HP.out.gr HKZ.out.2) (HB4.out.mono (by have := HTB.out; omega)))
          have HBT4 : Hid (w4.heap[bt]? = W.heap[bt]?) := Lib.hid ((HB4.out.block _ (Nat.lt_succ_self _)).trans (HKZ.out.2.block _ (by have := HTB.out; omega) (by have := HTB.out; simp; omega)))
          have HBZ4 : Hid (w4.heap[bz]? = W.heap[bz]?) := Lib.hid ((HB4.out.block _ (by have := HTB.out; omega)).trans (HKZ.out.2.block _ (by have := HTB.out; omega) (by have := HTB.out; simp; omega)))
          have HSZ4 : Hid (W.heap.size ≤ w4.heap.size) := Lib.hid (Nat.le_trans HKZ.out.2.size HB4.out.size)
          have c2 : w4.cell? ⟨bt, 2, none⟩ = some (.slice av l.length cv) := cellb (HBT4.out.trans HP.out.blk) rfl
          have f2 : w4.frozen? ⟨bt, 2, none⟩ = false := free_blk (HBT4.out.trans HP.out.blk)
          clear hown hgr hmv hlt4 HX4 HKZ HGZ KD KZ HRD hCz hgb hgg hi0 hz0 hz1 hz2
          refine wpAny_one 6 [[], [0], [], [2], [2, 3], [0, 1, 2, 3, 4], [0, 1, 2, 3, 4, 5], [0, 1, 2, 3, 4, 5, 6]] rfl rfl rfl rfl rfl (by kernel_rfl) (by kernel_rfl) (by kernel_rfl) ?_
          simp [go_sem, Oper.wp]
          refine wpAny_one 7 [[], [0], [], [2], [2, 3], [0, 1, 2, 3, 4], [0, 1, 2, 3, 4, 5], [0, 1, 2, 3, 4, 5, 6]] rfl rfl rfl rfl rfl (by kernel_rfl) (by kernel_rfl) (by kernel_rfl) ?_
          simp [go_sem, Oper.wp, c2, f2]
          refine wpAny_end rfl ?_
          go_simp
          generalize hW : World.setCell w4 _ _ = WT
          have HPN : Hid (Pt R w bz bt WT nm ln (.slice (some ⟨g4, 0, none⟩) (l.length + 1) cap4) (l ++ [x6]) s6) := Lib.hid (by rw [← hW]; exact HP.out.locs HR4.out HGR4.out HBZ4.out HBT4.out HSZ4.out HG4.out)
          clear hW c2 f2 HG4 HLO HB4 HR4 HGR4 HBT4 HBZ4 HSZ4 HGR HTB hszz HP
          have HP := HPN
          clear HPN
          go_wp2_with fail
          go_roundg s6.len
          case rel => exact ⟨l ++ [x6], s6, f, _, rfl, by have h1 := HF.out.1; have h2 := HLT.out; omega, HQ6.out, HP.out, by have h1 := HF.out.2.1; have h2 := HLT.out; simp; omega, snoc_le HF.out.2.2 HSZ6.out⟩
          case measure => exact HLT.out
    · have e1 : qp = ([], s2) := by rw [← HQP.out]; unfold paramS; rw [if_pos h4]
      subst e1
      go_wp2_with fail
      go_meet
      exact ⟨_, HP.out, Nat.zero_le _, by simp⟩
  case rest =>
    obtain ⟨v, hp, hll, hsz⟩ := hcut
    have HP := Lib.hid hp
    have HF := Lib.hid (And.intro hll hsz)
    clear hp hll hsz
    obtain ⟨l, s3⟩ := qp
    clear HQP
    go_upto_region 10 with fail
    go_wp2_with fail
    refine (want_any R _ _ ⟨#[41]⟩ rfl HP.out.rd).mono ?_
    rintro e w9 ⟨rfl, h2, h3⟩
    have HQ := Lib.hid (HP.out.then h2 h3)
    clear h2 h3 HP
    have HP := HQ
    clear HQ
    have HBK : Hid (∀ w, RfI w R (wantS R.ts [41] s3) → Calls Tryz.prog 81 #[.pointer (some ⟨R.br, 0, none⟩)] w (BlkR R w (blkS R.ts (3 * (wantS R.ts [41] s3).toks.length + 3) (wantS R.ts [41] s3)))) := Lib.hid (fun w h => rblock_any R _ w h)
    generalize wantS R.ts [41] s3 = s4 at *
    generalize blkS R.ts (3 * s4.toks.length + 3) s4 = qb at *
    obtain ⟨b, s5⟩ := qb
    dsimp only
    go_wp2_with fail
    refine (HBK.out _ HP.out.rd).mono ?_
    rintro e w8 ⟨⟨ao, cap, rfl, hl, hst⟩, h2, h3⟩
    have HP8 := Lib.hid (HP.out.then h2 h3)
    have HB8 : Hid (b.len ≤ maxLen ∧ Stay (bt + 1) w8 (fun w2 => b.At w2 w2.heap.size ao 0)) := Lib.hid ⟨Nat.le_trans hl (by unfold maxLen; decide), hst.mono HP.out.lt.2.2.2⟩
    clear h2 h3 hl hst HBK HP
    obtain ⟨aol, capl, hv, hcl, htx⟩ := HP8.out.row.says HF.out.2
    have HTX := Lib.hid (And.intro hcl htx)
    subst hv
    clear hcl htx
    obtain ⟨c0, c1, c2, c3, fc⟩ := HP8.out.cells
    have fc3 := fc 3
    go_upto_region 12 with fail
    generalize hW : World.setCell w8 _ _ = W9
    have HQ9 := Lib.hid (HP8.out.bodySet (.slice ao b.len cap) W9 hW)
    have HA9 : Hid (Abv (bt + 1) w8 W9) := Lib.hid (by rw [← hW]; exact abv_set w8 ⟨bt, 3, none⟩ _ (Nat.lt_succ_self _))
    clear hW c0 c1 c2 c3 fc fc3
    have e0 : W9.cell? ⟨bt, 0, none⟩ = some (.string nm) := cellb HQ9.out.2.2.2 rfl
    have e1 : W9.cell? ⟨bt, 1, none⟩ = some (.int .i64 ln) := cellb HQ9.out.2.2.2 rfl
    have e2 : W9.cell? ⟨bt, 2, none⟩ = some (.slice aol l.length capl) := cellb HQ9.out.2.2.2 rfl
    have e3 : W9.cell? ⟨bt, 3, none⟩ = some (.slice ao b.len cap) := cellb HQ9.out.2.2.2 rfl
    obtain ⟨⟨y0, y1, y2, y3⟩, fz⟩ := z4t HQ9.out.2.2.1
    have g0 := fz 0
    have g1 := fz 1
    have g2 := fz 2
    have g3 := fz 3
    clear fz
    go_wp2_with fail
    exact bodyPost_ret (v := .agg (ThI.f ⟨⟨nm, ln, l, b⟩, aol, capl, ao, cap⟩).toArray) (by simp [results, Tryz.results42, go_sem, ThI.f, y0, y1, y2, y3]) rfl (rthr_ok (x := ⟨⟨nm, ln, l, b⟩, aol, capl, ao, cap⟩) (B := bt + 1) ⟨⟨HNM.out, HL.out, Nat.le_trans HF.out.1 (by unfold maxLen; decide), HB8.out.1⟩, HTX.out.1⟩ (fun w2 h2 => ⟨HTX.out.2 w2 (HA9.out.trans h2), HB8.out.2 w2 (HA9.out.trans h2)⟩) HP8.out.lt HBZ.out HQ9.out.1 HQ9.out.2.1)
end Go.Proofs.YtommnhglgedflaaGreatDoor
end
section
set_option linter.unusedSimpArgs false
set_option linter.unusedVariables false
namespace Go.Proofs.YtommnhglgedflaaGreatDoor
open Go.RowKit
open Md Pz
/-- A declaration under way, and the box of the result. -/
structure Po (R : Rp) (w : World) (bz bd : Nat) (W : World) (d : De) (s : St) : Prop where
  rd : RfI W R s
  gr : w.grownBy W (some R.br)
  lt : R.br < w.heap.size ∧ w.heap.size ≤ bd ∧ w.heap.size ≤ bz ∧ bz ≠ bd
  blk : W.heap[bd]? = some (.cells (deF d).toArray 58 (0, 0))
  z : W.heap[bz]? = some (.cells zD6 58 (0, 0))
  ok : d.Ok
section
variable {R : Rp} {w : World} {bz bd : Nat} {W W' : World} {d : De} {s s' : St}
theorem Po.then (h : Po R w bz bd W d s) (h1 : RfI W' R s') (h2 : W.grownBy W' (some R.br)) : Po R w bz bd W' d s' :=
  ⟨h1, grow_tr h.gr h2, h.lt, (h2.block _ (Array.getElem?_eq_some_iff.1 h.blk).1 (by have := h.lt; simp; omega)).trans h.blk, (h2.block _ (Array.getElem?_eq_some_iff.1 h.z).1 (by have := h.lt; simp; omega)).trans h.z, h.ok⟩
theorem Po.below (h : Po R w bz bd W d s) (hb : Below W.heap.size W W') : Po R w bz bd W' d s := h.then (h.rd.below hb) (gr_below hb)
theorem Po.adv (h : Po R w bz bd W d s) {pos : Nat} (hp : W.cell? ⟨R.br, 1, none⟩ = some (.int .i64 (pos : Int))) (hne : s.toks ≠ []) : Po R w bz bd (W.setCell ⟨R.br, 1, none⟩ (.int .i64 ((pos : Int) + 1))) d s.adv :=
  h.then (h.rd.adv hp hne) (setCell_grown _ _ _)
theorem Po.put (h : Po R w bz bd W d s) (j : Nat) (v : Value) {y : De} (hy : (deF d).toArray.setIfInBounds j v = (deF y).toArray) (hok : y.Ok) : Po R w bz bd (W.setCell ⟨bd, j, none⟩ v) y s :=
  ⟨rf_set h.rd _ v (by have := R.b0; have := h.lt; show R.B0 ≤ bd; omega) (by have := h.lt; show bd ≠ R.br; omega), gr_set h.gr _ v h.lt.2.1, h.lt, by rw [setCell_blk h.blk, hy], (setCell_far W _ v rfl (by have := h.lt; show bd ≠ bz; omega)).trans h.z, hok⟩
theorem Po.kind (h : Po R w bz bd W d s) (n : Int) (hn : I64 n) : Po R w bz bd (W.setCell ⟨bd, 0, none⟩ (.int .i64 n)) { d with kind := n } s :=
  h.put 0 _ rfl ⟨hn, h.ok.2⟩
theorem Po.nm (h : Po R w bz bd W d s) (t : ByteArray) (hs : t.size ≤ maxLen) : Po R w bz bd (W.setCell ⟨bd, 2, none⟩ (.string t)) { d with nm := t } s :=
  h.put 2 _ rfl ⟨h.ok.1, h.ok.2.1, hs, h.ok.2.2.2⟩
theorem Po.size (h : Po R w bz bd W d s) (n : Int) (hn : I64 n) : Po R w bz bd (W.setCell ⟨bd, 3, none⟩ (.int .i64 n)) { d with size := n } s :=
  h.put 3 _ rfl ⟨h.ok.1, h.ok.2.1, h.ok.2.2.1, hn, h.ok.2.2.2.2⟩
theorem Po.init (h : Po R w bz bd W d s) (n : Int) (hn : I64 n) : Po R w bz bd (W.setCell ⟨bd, 4, none⟩ (.int .i64 n)) { d with init := n } s :=
  h.put 4 _ rfl ⟨h.ok.1, h.ok.2.1, h.ok.2.2.1, h.ok.2.2.2.1, hn, h.ok.2.2.2.2.2⟩
theorem Po.on (h : Po R w bz bd W d s) (t : ByteArray) (hs : t.size ≤ maxLen) : Po R w bz bd (W.setCell ⟨bd, 5, none⟩ (.string t)) { d with on := t } s :=
  h.put 5 _ rfl ⟨h.ok.1, h.ok.2.1, h.ok.2.2.1, h.ok.2.2.2.1, h.ok.2.2.2.2.1, hs⟩
theorem Po.cell (h : Po R w bz bd W d s) {j : Nat} {u : Value} (hu : (deF d).toArray[j]? = some u) : W.cell? ⟨bd, j, none⟩ = some u := cellb h.blk hu
theorem Po.free (h : Po R w bz bd W d s) (j : Nat) : W.frozen? ⟨bd, j, none⟩ = false := free_blk h.blk
end
def DecR (R : Rp) (w : World) (q : De × St) (e : Ending) (w' : World) : Prop := (q.1.Ok ∧ e = .returned (dvV q.1)) ∧ RfI w' R q.2 ∧ w.grownBy w' (some R.br)
theorem rdec_end {R : Rp} {w : World} {bz bd : Nat} {W : World} {d : De} {s : St} (h : Po R w bz bd W d s) : DecR R w (d, s) (.returned (dvV d)) (W.setCells bz 0 (deF d)) := by
  have hg := setCells_grown bz (deF d) 0 W
  have hl := h.lt
  have hb := R.b0
  exact ⟨⟨h.ok, rfl⟩, rf_grown h.rd hg (by omega) (by omega), gr_grown h.gr hg hl.2.2.1⟩
theorem po_cells {R : Rp} {w : World} {bz bd : Nat} {W : World} {d : De} {s : St} (h : Po R w bz bd W d s) :
    W.cell? ⟨bd, 0, none⟩ = some (.int .i64 d.kind) ∧ W.cell? ⟨bd, 1, none⟩ = some (.int .i64 d.line) ∧ W.cell? ⟨bd, 2, none⟩ = some (.string d.nm) ∧ W.cell? ⟨bd, 3, none⟩ = some (.int .i64 d.size) ∧ W.cell? ⟨bd, 4, none⟩ = some (.int .i64 d.init) ∧ W.cell? ⟨bd, 5, none⟩ = some (.string d.on) :=
  ⟨h.cell rfl, h.cell rfl, h.cell rfl, h.cell rfl, h.cell rfl, h.cell rfl⟩
def dcWX : Array Value := (dcW.map fun x => Value.string (tx x)).toArray
theorem decl_ne {s : St} (h : isDecl s.toks = true) : s.toks ≠ [] := by
  intro e; rw [e] at h; exact absurd h (by decide)
theorem numS_I {ts : Toks} {s : St} (h : TsOk s.toks) : 0 ≤ (numS ts s).1 ∧ (numS ts s).1 ≤ 9223372036854775807 := by
  unfold numS
  split
  · rename_i hn
    have := num_le h hn
    dsimp only; omega
  · exact ⟨Int.le_refl 0, (by decide : (0 : Int) ≤ 9223372036854775807)⟩
/-- What is known in front of a stage. -/
def StgP (R : Rp) (w : World) (bz bd : Nat) (k : Int) (q : De × St) (W : World) : Prop := q.1.kind = k ∧ Po R w bz bd W q.1 q.2
set_option maxHeartbeats 8000000 in
set_option maxRecDepth 100000 in
theorem rdecl_any (R : Rp) (s : St) (w : World) (hdc : isDecl s.toks = true) (hI : RfI w R s) :
    Calls Tryz.prog 41 #[.pointer (some ⟨R.br, 0, none⟩)] w (DecR R w (declS R.ts s)) := by
  have HI := Lib.hid hI
  have HNE := Lib.hid (decl_ne hdc)
  obtain ⟨ln, hln⟩ : ∃ ln : Int, ((nextL s.toks : Nat) : Int) = ln := ⟨_, rfl⟩
  have HL : Hid (I64 ln) := Lib.hid (by rw [← hln]; unfold I64; have := hI.tsl; cases hs : s.toks with
    | nil => simp [nextL]
    | cons t r => have := (this t (by rw [hs]; simp)).1; simp only [nextL]; omega)
  have HLN : Hid (∀ w, RfI w R s → Calls Tryz.prog 76 #[.pointer (some ⟨R.br, 0, none⟩)] w fun e w' => e = .returned (.int .i64 ln) ∧ Below w.heap.size w w') := Lib.hid (fun w h => by rw [← hln]; exact rline_any R s w h)
  have HKD := Lib.hid (last_eq hI.ts hI.tsl)
  have HKI : Hid (I64 (dcS s.toks)) := Lib.hid (by
    unfold dcS dcOf I64
    repeat' split
    all_goals omega)
  unfold declS
  rw [hln]
  dsimp only
  generalize dcS s.toks = K at *
  clear hln hI hdc
  obtain ⟨q, hq⟩ : ∃ q, nameS R.ts s.adv = q := ⟨_, rfl⟩
  have HNM : Hid ((nameS R.ts s.adv).1.size ≤ maxLen) := Lib.hid (nameS_size (by
    intro t ht
    refine HI.out.ts t ?_
    cases s with
    | go r => exact List.mem_of_mem_tail ht
    | bad n => exact ht))
  have HRN : Hid (∀ w, RfI w R s.adv → Calls Tryz.prog 77 #[.pointer (some ⟨R.br, 0, none⟩)] w (NmR R w (nameS R.ts s.adv))) := Lib.hid (fun w h => rname_any R _ w h)
  rw [hq] at HNM HRN ⊢
  clear hq
  obtain ⟨nm, s1⟩ := q
  dsimp only at HNM HRN ⊢
  obtain ⟨res, HRES⟩ : ∃ res, Hid ((thenS (thenS (sizeS R.ts ⟨K, ln, nm, 0, 0, ⟨#[]⟩⟩ s1) (initS R.ts)) (onS R.ts)) = res) := ⟨_, Lib.hid rfl⟩
  rw [HRES.out]
  go_enter Tryz.func41, Tryz.ntmps41
  go_upto_region 1 with fail
  generalize hW : World.alloc w _ = W0
  have HB0 : Hid (Below w.heap.size w W0) := Lib.hid (by rw [← hW]; exact alloc_below _ _)
  have HZ0 : Hid (W0.heap[w.heap.size]? = some (.cells zD6 58 (0, 0))) := Lib.hid (by rw [← hW]; exact heap_alloc_new _ _)
  clear hW
  go_wp2_with fail
  refine (HLN.out _ (HI.out.below HB0.out)).mono ?_
  rintro e w1 ⟨rfl, hb⟩
  have HB1 := Lib.hid (HB0.out.trans (hb.mono HB0.out.size))
  have HZ1 := Lib.hid ((hb.block _ (Array.getElem?_eq_some_iff.1 HZ0.out).1).trans HZ0.out)
  clear hb HB0 HZ0
  go_upto_region 3 with fail
  obtain ⟨g, hg⟩ : ∃ g, w1.heap.size = g := ⟨_, rfl⟩
  generalize hW : World.alloc (World.alloc w1 _) _ = W2
  have HP : Hid (Po R w w.heap.size g W2 ⟨0, ln, ⟨#[]⟩, 0, 0, ⟨#[]⟩⟩ s) := Lib.hid (by
    have hl := HI.out.lt
    have hzl := (Array.getElem?_eq_some_iff.1 HZ1.out).1
    rw [← hW, ← hg]
    exact ⟨((HI.out.below HB1.out).below (alloc_below _ _)).below (alloc_below _ _), gr_alloc (gr_alloc (gr_below HB1.out) _) _, by omega, (heap_alloc_old _ _ (by simp)).trans (heap_alloc_new _ _), (heap_alloc_old _ _ (by simp; omega)).trans ((heap_alloc_old _ _ hzl).trans HZ1.out), i64_0, HL.out, Nat.zero_le _, i64_0, i64_0, Nat.zero_le _⟩)
  have HT : Hid (W2.heap[g + 1]? = some (.cells dcWX 9 (0, 0))) := Lib.hid (by
    rw [← hW, ← hg]
    have := heap_alloc_new (w1.alloc (.cells (deF ⟨0, ln, ⟨#[]⟩, 0, 0, ⟨#[]⟩⟩).toArray 58)) (.cells dcWX 9)
    rw [show (w1.alloc (.cells (deF ⟨0, ln, ⟨#[]⟩, 0, 0, ⟨#[]⟩⟩).toArray 58)).heap.size = w1.heap.size + 1 by simp] at this
    exact this)
  rw [hg]
  clear hW hg HB1 HZ1 HI HLN
  go_wp2_with fail
  go_loopw [5] (fun i wr => ∃ (k : Nat) (r : List (List UInt8)) (a : Int), i = .int .i64 (k : Nat) ∧ k + r.length = 6 ∧ dcW.drop k = r ∧ K = lsF s.toks r (1 + (k : Int)) a ∧ wr.heap[g + 1]? = some (.cells dcWX 9 (0, 0)) ∧ Po R w w.heap.size g wr ⟨a, ln, ⟨#[]⟩, 0, 0, ⟨#[]⟩⟩ s) (fun i _ => 6 - (intOf i).toNat)
  case atStart => exact ⟨0, dcW, 0, rfl, rfl, rfl, HKD.out.symm, HT.out, HP.out⟩
  case round =>
    obtain ⟨k, r, a, rfl, hlen, hdr, hsp, hat, hpo⟩ := hrel
    have HS := Lib.hid hsp
    have HD := Lib.hid hdr
    have HA := Lib.hid hat
    have HPO := Lib.hid hpo
    clear hsp hdr hat hpo HP HT HKD
    cases r with
    | nil =>
      obtain rfl : k = 6 := by simpa using hlen
      have hK : a = K := HS.out.symm
      subst hK
      clear HS HD HA
      have HP := HPO
      clear HPO
      obtain ⟨pos, bad, ⟨hp, hp2, hl, hlt, hbr⟩, HSA, ⟨hbad0, hbad1⟩, c0, c1, c2, f1, f2⟩ := HP.out.rd.open
      have HA := Lib.hid (HP.out.adv c1 HNE.out)
      go_upto_region 9 with fail
      generalize hW : World.setCell _ _ _ = WA
      rw [hW] at HA
      clear hW c0 c1 c2 f1 f2 HSA hp hp2 hl hlt hbr hbad0 hbad1 HP
      have HP := HA
      clear HA
      go_wp2_with fail
      refine (HRN.out _ HP.out.rd).mono ?_
      rintro e wn ⟨rfl, h2, h3⟩
      have HQ := Lib.hid (HP.out.then h2 h3)
      have c2 := HQ.out.cell (j := 2) rfl
      have f2 := HQ.out.free 2
      clear h2 h3 HP
      go_upto_region 10 with fail
      generalize hW : World.setCell wn _ _ = WN
      have HP : Hid (Po R w w.heap.size g WN ⟨a, ln, nm, 0, 0, ⟨#[]⟩⟩ s1) := Lib.hid (by rw [← hW]; exact HQ.out.nm _ HNM.out)
      clear hW c2 f2 HQ HNM HRN
      go_cut [44] (fun v44 W' => ∃ b, v44 = .bool b ∧ b = (a == 1 && at' [91] s1.toks) ∧ Po R w w.heap.size g W' ⟨a, ln, nm, 0, 0, ⟨#[]⟩⟩ s1)
      case first =>
        have c0 : World.cell? _ ⟨g, 0, none⟩ = some (.int .i64 a) := HP.out.cell (j := 0) rfl
        cases hk : (a == 1)
        · go_wp2_with fail
          go_meet
          exact ⟨false, rfl, by rw [hk]; rfl, HP.out⟩
        · cases h9 : at' [91] s1.toks
          all_goals
            go_wp2_with fail
            refine (is_b R s1 _ ⟨#[91]⟩ rfl h9 HP.out.rd).mono ?_
            rintro e w2 ⟨rfl, hb⟩
            have HQ := Lib.hid (HP.out.below hb)
            clear hb c0
            go_wp2_with fail
            go_meet
            exact ⟨_, rfl, by rw [hk, h9]; rfl, HQ.out⟩
      case rest =>
        obtain ⟨b, rfl, hb, hpo⟩ := hcut
        have HB := Lib.hid hb
        have HP := Lib.hid hpo
        clear hb hpo
        go_upto_if 44 with fail
        obtain ⟨q1, HQ1⟩ : ∃ q1, Hid (sizeS R.ts ⟨a, ln, nm, 0, 0, ⟨#[]⟩⟩ s1 = q1) := ⟨_, Lib.hid rfl⟩
        rw [HQ1.out] at HRES
        go_cut [] (fun W' => StgP R w w.heap.size g a q1 W')
        case first =>
          cases b
          · have e1 : q1 = (⟨a, ln, nm, 0, 0, ⟨#[]⟩⟩, s1) := by rw [← HQ1.out]; unfold sizeS; rw [if_neg (by rw [← HB.out]; decide)]
            subst e1
            go_wp2_with fail
            go_meet
            exact ⟨rfl, HP.out⟩
          · have h9 : at' [91] s1.toks = true := by have := HB.out.symm; rw [Bool.and_eq_true] at this; exact this.2
            have HNE9 := Lib.hid (toks_ne h9)
            have HSZ : Hid (q1 = if isNum s1.adv.toks then ({ (⟨a, ln, nm, 0, 0, ⟨#[]⟩⟩ : De) with size := (Tk.val (nextT s1.adv.toks) : Nat) }, wantS R.ts [93] (numS R.ts (if Tk.val (nextT s1.adv.toks) == 0 then Pz.fail R.ts s1.adv else s1.adv)).2) else (⟨a, ln, nm, 0, 0, ⟨#[]⟩⟩, wantS R.ts [93] (numS R.ts s1.adv).2)) := Lib.hid (by rw [← HQ1.out]; unfold sizeS; rw [if_pos HB.out.symm])
            clear h9
            obtain ⟨pos, bad, ⟨hp, hp2, hl, hlt, hbr⟩, HSA, ⟨hbad0, hbad1⟩, c0, c1, c2, f1, f2⟩ := HP.out.rd.open
            have HA := Lib.hid (HP.out.adv c1 HNE9.out)
            go_upto_region 12 with fail
            generalize hW : World.setCell _ _ _ = WA
            rw [hW] at HA
            clear hW c0 c1 c2 f1 f2 HSA hp hp2 hl hlt hbr hbad0 hbad1 HP
            have HP := HA
            clear HA
            cases hn : (nextK s1.adv.toks == 2)
            · have hs := HSZ.out.trans (if_neg (by rw [show isNum s1.adv.toks = false from hn]; decide))
              subst hs
              clear HSZ
              go_wp2_with fail
              refine (kind_b R _ _ 2 2 rfl (by decide) hn HP.out.rd).mono ?_
              rintro e w2 ⟨rfl, hb⟩
              have HQ := Lib.hid (HP.out.below hb)
              clear hb
              go_wp2_with fail
              refine (rnum_any R _ _ HQ.out.rd).mono ?_
              rintro e w3 ⟨rfl, h2, h3⟩
              have HQ3 := Lib.hid (HQ.out.then h2 h3)
              clear h2 h3
              go_wp2_with fail
              refine (want_any R _ _ ⟨#[93]⟩ rfl HQ3.out.rd).mono ?_
              rintro e w4 ⟨rfl, h2, h3⟩
              have HQ4 := Lib.hid (HQ3.out.then h2 h3)
              go_wp2_with fail
              go_meet
              exact ⟨rfl, HQ4.out⟩
            · have hs := HSZ.out.trans (if_pos hn)
              have HNB := Lib.hid (fun w => Number_tok hn HP.out.rd w)
              have HNK := Lib.hid (kne (by decide) hn)
              have HVB := Lib.hid (num_le HP.out.rd.ts hn)
              generalize Tk.val (nextT s1.adv.toks) = vv at *
              go_wp2_with fail
              refine (kind_b R _ _ 2 2 rfl (by decide) hn HP.out.rd).mono ?_
              rintro e w2 ⟨rfl, hb⟩
              have HQ := Lib.hid (HP.out.below hb)
              clear hb HP
              go_upto_region 13 with fail
              obtain ⟨pos2, bad2, ⟨hp, hp2, hl, hlt, hbr⟩, HSA, ⟨hbad0, hbad1⟩, c0, c1, c2, f1, f2⟩ := HQ.out.rd.open
              obtain ⟨hpl, bb, off, hao, hbb, e0, e1, e2⟩ := HQ.out.rd.head c1 HNK.out
              rw [hao] at c0
              have hb0 : (0 : Int) ≤ (pos2 : Int) := by omega
              have hb1 : (pos2 : Int) < (R.ts.length : Int) := by omega
              clear HSA HSZ c2 f1 f2 e0 e2 hao
              go_quiet (first | (go_at_call 73; refine quiet_eq (HNB.out _)))
              generalize hW : World.drewN w2 _ = WD
              have HP : Hid (Po R w w.heap.size g WD ⟨a, ln, nm, 0, 0, ⟨#[]⟩⟩ s1.adv) := Lib.hid (by rw [← hW]; exact HQ.out.below (below_drewN (Below.refl _ _) _))
              clear hW HQ c0 c1 e1 hb0 hb1 hp hp2 hl hlt hbr hbad0 hbad1 hpl hbb HNB
              cases hv : (vv == 0)
              · have hs := hs.trans (by rw [if_neg (by rw [hv]; decide)])
                subst hs
                have hv0 : (((vv : Nat) : Int) == 0) = false := by rw [beq_eq_false_iff_ne] at hv ⊢; omega
                clear hv
                have c3 := HP.out.cell (j := 3) rfl
                have f3 := HP.out.free 3
                go_upto_region 17 with fail
                generalize hW : World.setCell _ _ _ = WS
                have HQ : Hid (Po R w w.heap.size g WS ⟨a, ln, nm, ((vv : Nat) : Int), 0, ⟨#[]⟩⟩ s1.adv) := Lib.hid (by rw [← hW]; exact HP.out.size _ (by have := HVB.out; unfold I64; omega))
                clear hW c3 f3 HP
                go_wp2_with fail
                refine (rnum_any R _ _ HQ.out.rd).mono ?_
                rintro e w3 ⟨rfl, h2, h3⟩
                have HQ3 := Lib.hid (HQ.out.then h2 h3)
                clear h2 h3
                go_wp2_with fail
                refine (want_any R _ _ ⟨#[93]⟩ rfl HQ3.out.rd).mono ?_
                rintro e w4 ⟨rfl, h2, h3⟩
                have HQ4 := Lib.hid (HQ3.out.then h2 h3)
                go_wp2_with fail
                go_meet
                exact ⟨rfl, HQ4.out⟩
              · have hs := hs.trans (by rw [if_pos hv])
                subst hs
                have hv0 : (((vv : Nat) : Int) == 0) = true := by rw [beq_iff_eq] at hv ⊢; omega
                clear hv
                go_wp2_with fail
                refine (fail_any R _ _ HP.out.rd).mono ?_
                rintro e w5 ⟨rfl, h2, h3⟩
                have HQ := Lib.hid (HP.out.then h2 h3)
                clear h2 h3 HP
                have HP := HQ
                clear HQ
                have c3 := HP.out.cell (j := 3) rfl
                have f3 := HP.out.free 3
                go_upto_region 17 with fail
                generalize hW : World.setCell _ _ _ = WS
                have HQ : Hid (Po R w w.heap.size g WS ⟨a, ln, nm, ((vv : Nat) : Int), 0, ⟨#[]⟩⟩ (Pz.fail R.ts s1.adv)) := Lib.hid (by rw [← hW]; exact HP.out.size _ (by have := HVB.out; unfold I64; omega))
                clear hW c3 f3 HP
                go_wp2_with fail
                refine (rnum_any R _ _ HQ.out.rd).mono ?_
                rintro e w3 ⟨rfl, h2, h3⟩
                have HQ3 := Lib.hid (HQ.out.then h2 h3)
                clear h2 h3
                go_wp2_with fail
                refine (want_any R _ _ ⟨#[93]⟩ rfl HQ3.out.rd).mono ?_
                rintro e w4 ⟨rfl, h2, h3⟩
                have HQ4 := Lib.hid (HQ3.out.then h2 h3)
                go_wp2_with fail
                go_meet
                exact ⟨rfl, HQ4.out⟩
        case rest =>
          have HSG := Lib.hid hcut
          clear hcut HB HP HQ1
          obtain ⟨d1, s2⟩ := q1
          obtain ⟨hk1, hp1⟩ := HSG.out
          have HP := Lib.hid hp1
          have HK1 := Lib.hid hk1
          clear hk1 hp1 HSG
          have hp1 := HP.out
          have hk1 := HK1.out
          dsimp only at hp1 hk1
          have HP := Lib.hid hp1
          have HK1 := Lib.hid hk1
          clear hp1 hk1
          go_upto_region 19 with fail
          go_cut [90] (fun v90 W' => ∃ b, v90 = .bool b ∧ b = ((a == 1 || a == 2) && at' [61] s2.toks) ∧ Po R w w.heap.size g W' d1 s2)
          case first =>
            have c0 := (po_cells HP.out).1
            rw [HK1.out] at c0
            cases hk : (a == 1)
            · cases hk2 : (a == 2)
              · go_wp2_with fail
                go_meet
                exact ⟨false, rfl, by rw [hk, hk2]; rfl, HP.out⟩
              · cases h9 : at' [61] s2.toks
                all_goals
                  go_wp2_with fail
                  refine (is_b R s2 _ ⟨#[61]⟩ rfl h9 HP.out.rd).mono ?_
                  rintro e w2 ⟨rfl, hb⟩
                  have HQ := Lib.hid (HP.out.below hb)
                  clear hb c0
                  go_wp2_with fail
                  go_meet
                  exact ⟨_, rfl, by rw [hk, hk2, h9]; rfl, HQ.out⟩
            · cases h9 : at' [61] s2.toks
              all_goals
                go_wp2_with fail
                refine (is_b R s2 _ ⟨#[61]⟩ rfl h9 HP.out.rd).mono ?_
                rintro e w2 ⟨rfl, hb⟩
                have HQ := Lib.hid (HP.out.below hb)
                clear hb c0
                go_wp2_with fail
                go_meet
                exact ⟨_, rfl, by rw [hk, h9]; rfl, HQ.out⟩
          case rest =>
            obtain ⟨b2, rfl, hb, hpo⟩ := hcut
            have HB := Lib.hid hb
            have HP := Lib.hid hpo
            clear hb hpo
            go_upto_if 90 with fail
            obtain ⟨q2, HQ2⟩ : ∃ q2, Hid (initS R.ts d1 s2 = q2) := ⟨_, Lib.hid rfl⟩
            have HRES2 : Hid (thenS q2 (onS R.ts) = res) := Lib.hid (by rw [← HQ2.out]; exact HRES.out)
            clear HRES
            go_cut [] (fun W' => StgP R w w.heap.size g a q2 W')
            case first =>
              cases b2
              · have e1 : q2 = (d1, s2) := by rw [← HQ2.out]; unfold initS; rw [if_neg (by rw [HK1.out, ← HB.out]; decide)]
                subst e1
                go_wp2_with fail
                go_meet
                exact ⟨HK1.out, HP.out⟩
              · have h9 : at' [61] s2.toks = true := by have := HB.out.symm; rw [Bool.and_eq_true] at this; exact this.2
                have HNE9 := Lib.hid (toks_ne h9)
                have HSZ : Hid (q2 = if at' [45] s2.adv.toks then ({ d1 with init := -(numS R.ts s2.adv.adv).1 }, (numS R.ts s2.adv.adv).2) else ({ d1 with init := (numS R.ts s2.adv).1 }, (numS R.ts s2.adv).2)) := Lib.hid (by rw [← HQ2.out]; unfold initS; rw [if_pos (by rw [HK1.out]; exact HB.out.symm)])
                clear h9
                obtain ⟨pos, bad, ⟨hp, hp2, hl, hlt, hbr⟩, HSA, ⟨hbad0, hbad1⟩, c0, c1, c2, f1, f2⟩ := HP.out.rd.open
                have HA := Lib.hid (HP.out.adv c1 HNE9.out)
                go_upto_region 21 with fail
                generalize hW : World.setCell _ _ _ = WA
                rw [hW] at HA
                clear hW c0 c1 c2 f1 f2 HSA hp hp2 hl hlt hbr hbad0 hbad1 HP
                have HP := HA
                clear HA
                cases hm : at' [45] s2.adv.toks
                · have hs := HSZ.out.trans (if_neg (by rw [hm]; decide))
                  subst hs
                  clear HSZ
                  have HNI := Lib.hid (numS_I (ts := R.ts) HP.out.rd.ts)
                  go_wp2_with fail
                  refine (is_b R _ _ ⟨#[45]⟩ rfl hm HP.out.rd).mono ?_
                  rintro e w2 ⟨rfl, hb⟩
                  have HQ := Lib.hid (HP.out.below hb)
                  clear hb HP
                  go_wp2_with fail
                  refine (rnum_any R _ _ HQ.out.rd).mono ?_
                  rintro e w3 ⟨rfl, h2, h3⟩
                  have HP := Lib.hid (HQ.out.then h2 h3)
                  clear h2 h3 HQ
                  have c4 := HP.out.cell (j := 4) rfl
                  have f4 := HP.out.free 4
                  have HFN := Lib.hid (HP.out.init (numS R.ts s2.adv).1 (by have := HNI.out; unfold I64; omega))
                  generalize numS R.ts s2.adv = qn at *
                  go_wp2_with fail
                  go_meet
                  exact ⟨HK1.out, HFN.out⟩
                · have hs := HSZ.out.trans (if_pos hm)
                  subst hs
                  clear HSZ
                  have HNE4 := Lib.hid (toks_ne hm)
                  go_wp2_with fail
                  refine (is_b R _ _ ⟨#[45]⟩ rfl hm HP.out.rd).mono ?_
                  rintro e w2 ⟨rfl, hb⟩
                  have HQ := Lib.hid (HP.out.below hb)
                  clear hb HP
                  have HP := HQ
                  clear HQ
                  obtain ⟨pos, bad, ⟨hp, hp2, hl, hlt, hbr⟩, HSA, ⟨hbad0, hbad1⟩, c0, c1, c2, f1, f2⟩ := HP.out.rd.open
                  have HA := Lib.hid (HP.out.adv c1 HNE4.out)
                  go_upto_region 24 with fail
                  generalize hW : World.setCell _ _ _ = WA
                  rw [hW] at HA
                  clear hW c0 c1 c2 f1 f2 HSA hp hp2 hl hlt hbr hbad0 hbad1 HP
                  have HP := HA
                  clear HA
                  have HNI := Lib.hid (numS_I (ts := R.ts) HP.out.rd.ts)
                  go_wp2_with fail
                  refine (rnum_any R _ _ HP.out.rd).mono ?_
                  rintro e w3 ⟨rfl, h2, h3⟩
                  have HQ := Lib.hid (HP.out.then h2 h3)
                  clear h2 h3 HP
                  have c4 := HQ.out.cell (j := 4) rfl
                  have f4 := HQ.out.free 4
                  generalize numS R.ts s2.adv.adv = qn at *
                  obtain ⟨nv, s3⟩ := qn
                  have hn0 : 0 ≤ nv := HNI.out.1
                  have hn1 : nv ≤ 9223372036854775807 := HNI.out.2
                  go_upto_region 26 with fail
                  generalize hW : World.setCell _ _ _ = WS
                  have HP : Hid (Po R w w.heap.size g WS { d1 with init := nv } s3) := Lib.hid (by rw [← hW]; exact HQ.out.init nv (by unfold I64; omega))
                  clear hW c4 f4 HQ
                  have c4 : World.cell? _ ⟨g, 4, none⟩ = some (.int .i64 nv) := HP.out.cell (j := 4) rfl
                  have f4 := HP.out.free 4
                  have HFN := Lib.hid (HP.out.init (-nv) (by unfold I64; omega))
                  go_wp2_with fail
                  go_meet
                  exact ⟨HK1.out, HFN.out⟩
            case rest =>
              have HSG := Lib.hid hcut
              clear hcut HB HP HQ2 HK1
              obtain ⟨d2, s3⟩ := q2
              obtain ⟨hk1, hp1⟩ := HSG.out
              dsimp only at hk1 hp1
              have HP := Lib.hid hp1
              have c0 := (po_cells hp1).1
              rw [hk1] at c0
              have HR3 : Hid (onS R.ts d2 s3 = res) := HRES2
              have HK2 := Lib.hid hk1
              clear hk1 hp1 HSG HRES2
              cases h5 : (a == 5)
              · have e1 : res = (d2, s3) := by rw [← HR3.out]; unfold onS; rw [if_neg (by rw [HK2.out, h5]; decide)]
                subst e1
                go_upto_region 29 with fail
                clear c0
                go_wp2_with fail
                refine (want_any R _ _ ⟨#[59]⟩ rfl HP.out.rd).mono ?_
                rintro e w9 ⟨rfl, h2, h3⟩
                have HQ := Lib.hid (HP.out.then h2 h3)
                clear h2 h3 HP
                have HP := HQ
                clear HQ
                obtain ⟨⟨y0, y1, y2, y3, y4, y5⟩, fz⟩ := z6 HP.out.z
                have z0 := fz 0
                have z1 := fz 1
                have z2 := fz 2
                have z3 := fz 3
                have z4 := fz 4
                have z5 := fz 5
                obtain ⟨e0, e1, e2, e3, e4, e5⟩ := po_cells HP.out
                clear fz
                go_wp2_with fail
                exact bodyPost_ret (v := dvV _) (by simp [results, Tryz.results41, go_sem, dvV, y0, y1, y2, y3, y4, y5]) rfl (rdec_end HP.out)
              · have e1 : res = ({ d2 with on := (nameS R.ts s3).1 }, (nameS R.ts s3).2) := by rw [← HR3.out]; unfold onS; rw [if_pos (by rw [HK2.out, h5])]
                subst e1
                have HNM3 := Lib.hid (nameS_size (ts := R.ts) HP.out.rd.ts)
                have HRN3 : Hid (∀ w, RfI w R s3 → Calls Tryz.prog 77 #[.pointer (some ⟨R.br, 0, none⟩)] w (NmR R w (nameS R.ts s3))) := Lib.hid (fun w h => rname_any R _ w h)
                generalize nameS R.ts s3 = q3 at *
                obtain ⟨nm3, s4⟩ := q3
                clear HR3
                go_wp2_with fail
                refine (HRN3.out _ HP.out.rd).mono ?_
                rintro e wn3 ⟨rfl, h2, h3⟩
                have HQ := Lib.hid (HP.out.then h2 h3)
                have c5 := HQ.out.cell (j := 5) rfl
                have f5 := HQ.out.free 5
                clear h2 h3 HP c0
                go_upto_region 29 with fail
                generalize hW : World.setCell wn3 _ _ = WN3
                have HP : Hid (Po R w w.heap.size g WN3 { d2 with on := nm3 } s4) := Lib.hid (by rw [← hW]; exact HQ.out.on _ HNM3.out)
                clear hW c5 f5 HQ
                go_wp2_with fail
                refine (want_any R _ _ ⟨#[59]⟩ rfl HP.out.rd).mono ?_
                rintro e w9 ⟨rfl, h2, h3⟩
                have HQ := Lib.hid (HP.out.then h2 h3)
                clear h2 h3 HP
                have HP := HQ
                clear HQ
                obtain ⟨⟨y0, y1, y2, y3, y4, y5⟩, fz⟩ := z6 HP.out.z
                have z0 := fz 0
                have z1 := fz 1
                have z2 := fz 2
                have z3 := fz 3
                have z4 := fz 4
                have z5 := fz 5
                obtain ⟨e0, e1, e2, e3, e4, e5⟩ := po_cells HP.out
                clear fz
                go_wp2_with fail
                exact bodyPost_ret (v := dvV _) (by simp [results, Tryz.results41, go_sem, dvV, y0, y1, y2, y3, y4, y5]) rfl (rdec_end HP.out)
    | cons x r =>
      obtain ⟨hx, hdr⟩ := drop_cons HD.out
      have y0 : wr.cell? ⟨g + 1, k, none⟩ = some (.string (tx x)) := cellb HA.out (by simp [dcWX, hx])
      have HD2 := Lib.hid hdr
      have hk : k < 6 := by simp only [List.length_cons] at hlen; omega
      have hb0 : (0 : Int) ≤ (k : Int) := by omega
      have hb1 : (k : Int) < 6 := by omega
      have HIS := Lib.hid (is_any R s wr (tx x) (l := x) (by simp [tx]) HPO.out.rd)
      have HS1 : Hid (K = lsF s.toks r (1 + (k : Int) + 1) (if at' x s.toks then 1 + (k : Int) else a)) := Lib.hid HS.out
      have c0 := HPO.out.cell (j := 0) rfl
      have f0 := HPO.out.free 0
      clear hx hdr HD HS
      cases h2 : at' x s.toks
      · rw [h2] at HIS HS1
        clear h2
        go_wp2_with fail
        refine HIS.out.mono ?_
        rintro e w2 ⟨rfl, hb⟩
        have HP2 := Lib.hid (HPO.out.below hb)
        have HA2 := Lib.hid ((hb.block _ (Array.getElem?_eq_some_iff.1 HA.out).1).trans HA.out)
        clear hb y0 c0 f0
        go_wp2_with fail
        go_roundw
        case rel => exact ⟨k + 1, r, a, by go_num, by simp only [List.length_cons] at hlen; omega, HD2.out, HS1.out, HA2.out, HP2.out⟩
        case measure => simp [intOf]; omega
      · rw [h2] at HIS HS1
        clear h2
        go_wp2_with fail
        refine HIS.out.mono ?_
        rintro e w2 ⟨rfl, hb⟩
        have HP2 := Lib.hid (HPO.out.below hb)
        have HA2 := Lib.hid ((hb.block _ (Array.getElem?_eq_some_iff.1 HA.out).1).trans HA.out)
        clear hb y0 c0 f0
        have c0 := HP2.out.cell (j := 0) rfl
        have f0 := HP2.out.free 0
        go_wp2_with fail
        go_roundw
        case rel => exact ⟨k + 1, r, 1 + (k : Int), by go_num, by simp only [List.length_cons] at hlen; omega, HD2.out, HS1.out, (setCell_far _ _ _ rfl (show g ≠ g + 1 by omega)).trans HA2.out, by
          have h := HP2.out.kind (1 + (k : Int)) (by unfold I64; omega)
          rw [show (k : Int) + 1 = 1 + (k : Int) by omega]; exact h⟩
        case measure => simp [intOf]; omega
end Go.Proofs.YtommnhglgedflaaGreatDoor
end
