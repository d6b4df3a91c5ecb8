/-
  Contract of the maker's Expr: it returns a shaped expression that lies in new memory; bytes as an argument.
  Contract of the maker's Loose: it returns a shaped program that lies in new memory.
  Bytes as an argument.
-/
import Derived.Test.YtghdammalphmfaaDoorGMB
import Derived.Test.YtghdammalphmfaaDoorGO
import Derived.ProofKit
import Derived.OpenShut
import Derived.Test.YtghdammalphmfaaDoorGMD
import Derived.Test.YtghdammalphmfaaDoorGE
import Derived.Deep.LoopGhost
section
set_option linter.unusedSimpArgs false
set_option linter.unusedVariables false
namespace Go.Proofs.YtghdammalphmfaaDoor
open Go.RowKit
open Md
def XpP (w : World) (e : Ending) (w' : World) : Prop := ∃ op n nm kids ao cap, e = .returned (exV op n nm kids ao cap) ∧ ExS op n nm kids ∧ kids.At w' w'.heap.size ao 0 ∧ Below w.heap.size w w'
theorem below_mk {T : Tp} {w w2 W : World} (hb : Below w.heap.size w w2) (hm : Mk T w2 W) (h1 : w.heap.size ≤ T.bt) (h2 : w.heap.size ≤ T.bm) : Below w.heap.size w W :=
  ⟨hm.os.trans hb.os, hm.tape.trans hb.tape, hm.output.trans hb.output, Nat.le_trans hb.size hm.size, fun k hk => (hm.block k (Nat.lt_of_lt_of_le hk hb.size) (by omega) (by omega)).trans (hb.block k hk)⟩
set_option maxHeartbeats 2000000 in
theorem MExpr_any (w : World) (zs : List Int) (ao : Option Addr) (cap : Nat) (hz : Byt w w.heap.size zs ao) (hl : zs.length ≤ 1000000) :
    Calls Tryd.prog 8 #[.slice ao zs.length cap] w (XpP w) := by
  have HZ := Lib.hid hz
  clear hz
  go_enter Tryd.func8, Tryd.ntmps8
  go_wp2_with fail
  obtain ⟨w2, hw2⟩ : ∃ x, x = ((w.alloc (.cells zEx 25)).alloc (.cells #[.slice ao zs.length cap, .int .i64 0] 53)).alloc (.cells #[.pointer (some ⟨w.heap.size + 1, 0, none⟩), .int .i64 0, .int .i64 0] 55) := ⟨_, rfl⟩
  obtain ⟨T, e0, e1, e2, e3, e4, e5⟩ : ∃ T : Tp, T.B0 = w.heap.size ∧ w.heap.size + 1 = T.bt ∧ w.heap.size + 1 + 1 = T.bm ∧ T.ao = ao ∧ T.cap = cap ∧ T.zs = zs := ⟨⟨w.heap.size, w.heap.size + 1, w.heap.size + 1 + 1, ao, cap, zs, by omega, by omega, by omega⟩, rfl, rfl, rfl, rfl, rfl, rfl⟩
  have HBW : Hid (Below w.heap.size w w2) := Lib.hid (by rw [hw2]; exact ((alloc_below _ _).alloc (by simp) _).alloc (by simp <;> omega) _)
  have HR2 : Hid (w2.heap[w.heap.size]? = some (.cells zEx 25 (0, 0))) := Lib.hid (by
    rw [hw2, heap_alloc_old _ _ (by simp <;> omega), heap_alloc_old _ _ (by simp <;> omega)]; exact heap_alloc_new _ _)
  have HMI2 : Hid (MdI w2 T) := Lib.hid (by
    have k1 : w2.heap[T.bt]? = some (.cells #[.slice ao zs.length cap, .int .i64 0] 53 (0, 0)) := by
      rw [hw2, ← e1, heap_alloc_old _ _ (by simp)]
      have := heap_alloc_new (w.alloc (.cells zEx 25)) (.cells #[.slice ao zs.length cap, .int .i64 0] 53)
      simpa using this
    have k2 : w2.heap[T.bm]? = some (.cells #[.pointer (some ⟨w.heap.size + 1, 0, none⟩), .int .i64 0, .int .i64 0] 55 (0, 0)) := by
      rw [hw2, ← e2]
      have := heap_alloc_new ((w.alloc (.cells zEx 25)).alloc (.cells #[.slice ao zs.length cap, .int .i64 0] 53)) (.cells #[.pointer (some ⟨w.heap.size + 1, 0, none⟩), .int .i64 0, .int .i64 0] 55)
      simpa using this
    refine ⟨⟨⟨0, Nat.zero_le _, by rw [k1, e3, e4, e5]; rfl⟩, by rw [e0, e3, e5]; exact HZ.out.below HBW.out, by rw [e5]; exact hl⟩, ⟨0, 0, by unfold I64; decide, by decide, by decide, by rw [k2, e1]⟩⟩)
  have HE : Hid (Calls Tryd.prog 20 #[.pointer (some ⟨w.heap.size + 1 + 1, 0, none⟩), .int .i64 5] w2 (ExP T w2)) := Lib.hid (by rw [e2]; exact expr_any T 5 (by decide) w2 HMI2.out)
  have HTB : Hid (T.bt = w.heap.size + 1 ∧ T.bm = w.heap.size + 2 ∧ w2.heap.size = w.heap.size + 3) := Lib.hid ⟨e1.symm, by omega, by rw [hw2]; simp⟩
  have HC := HE.out
  rw [hw2] at HC
  refine HC.mono ?_
  rw [← hw2]
  intro e w3 hp
  obtain ⟨op, n, nm, kids, ao', cap', rfl, hok, hM, hI, hst⟩ := hp
  have HRW : Hid (w3.heap[w.heap.size]? = some (.cells zEx 25 (0, 0))) := Lib.hid ((hM.block _ (Array.getElem?_eq_some_iff.1 HR2.out).1 (by have := HTB.out; omega) (by have := HTB.out; omega)).trans HR2.out)
  have HB3 := Lib.hid (below_mk HBW.out hM (by have := HTB.out; omega) (by have := HTB.out; omega))
  have HST := Lib.hid hst
  have HOK := Lib.hid hok
  obtain ⟨⟨y0, y1, y2, y3⟩, fz⟩ := zcells HRW.out
  have f0 := fz 0
  have f1 := fz 1
  have f2 := fz 2
  have f3 := fz 3
  clear hok hM hI hst HC hw2 e0 e1 e2 e3 e4 e5 fz HE HMI2
  unfold exV
  go_wp2_with fail
  have x1 := abv_set (B := w2.heap.size) w3 ⟨w.heap.size, 0, none⟩ (.int .i64 op) (by have := HTB.out; show w.heap.size < _; omega)
  have x2 := x1.trans (abv_set _ ⟨w.heap.size, 1, none⟩ (.int .i64 n) (by have := HTB.out; show w.heap.size < _; omega))
  have x3 := x2.trans (abv_set _ ⟨w.heap.size, 2, none⟩ (.string nm) (by have := HTB.out; show w.heap.size < _; omega))
  have x4 := x3.trans (abv_set _ ⟨w.heap.size, 3, none⟩ (.slice ao' kids.len cap') (by have := HTB.out; show w.heap.size < _; omega))
  exact bodyPost_ret (v := exV op n nm kids ao' cap') (by simp [results, Tryd.results8, go_sem, exV, y0, y1, y2, y3]) rfl ⟨op, n, nm, kids, ao', cap', rfl, HOK.out, HST.out _ x4, (((HB3.out.setCell (by simp) _).setCell (by simp) _).setCell (by simp) _).setCell (by simp) _⟩
end Go.Proofs.YtghdammalphmfaaDoor
end
section
set_option linter.unusedSimpArgs false
set_option linter.unusedVariables false
namespace Go.Proofs.YtghdammalphmfaaDoor
open Go.RowKit
open Md
def LsP (w : World) (e' : Ending) (w' : World) : Prop := ∃ (p : Pr) (aoD aoT : Option Addr) (capD capT : Nat), e' = .returned (.agg #[.slice aoD p.ds.length capD, .slice aoT p.ts.length capT]) ∧ p.At w' aoD aoT ∧ p.ds.length ≤ capD ∧ p.ts.length ≤ capT ∧ (shpP p = true ∧ p.ts.length ≤ 1000) ∧ Below w.heap.size w w'
def zTh : Array Value := #[.string ⟨#[]⟩, .int .i64 0, .slice none 0 0, .slice none 0 0]
def lc2 : List ByteArray := [⟨#[97]⟩, ⟨#[98]⟩]
def nm4 : Array Value := #[.string ⟨#[97]⟩, .string ⟨#[120]⟩, .string ⟨#[116]⟩, .string ⟨#[107]⟩]
theorem nm4_at : Nms 4 nm4 := fun j hj => by
  have : j = 0 ∨ j = 1 ∨ j = 2 ∨ j = 3 := by omega
  rcases this with rfl | rfl | rfl | rfl <;> exact ⟨_, rfl, by unfold maxLen; decide, by rfl⟩
def lc5 : List ByteArray := [⟨#[97]⟩, ⟨#[98]⟩, ⟨#[107]⟩, ⟨#[107, 49]⟩, ⟨#[107, 50]⟩]
theorem lc5_ok : ∀ s ∈ lc5, NmS s := by
  intro s hs
  simp only [lc5, List.mem_cons, List.not_mem_nil, or_false] at hs
  rcases hs with rfl | rfl | rfl | rfl | rfl <;> exact ⟨by unfold maxLen; decide, by rfl⟩
theorem lc2_ok : ∀ s ∈ lc2, NmS s := by
  intro s hs
  simp only [lc2, List.mem_cons, List.not_mem_nil, or_false] at hs
  rcases hs with rfl | rfl <;> exact ⟨by unfold maxLen; decide, by rfl⟩
set_option maxHeartbeats 8000000 in
set_option maxRecDepth 100000 in
theorem Loose_any (w : World) (zs : List Int) (ao : Option Addr) (cap : Nat) (hz : Byt w w.heap.size zs ao) (hl : zs.length ≤ 1000000) :
    Calls Tryd.prog 7 #[.slice ao zs.length cap] w (LsP w) := by
  have HZ := Lib.hid hz
  clear hz
  go_enter Tryd.func7, Tryd.ntmps7
  go_upto_region 3 with fail
  obtain ⟨w2, hw2⟩ : ∃ x, x = ((w.alloc (.cells #[.slice none 0 0, .slice none 0 0] 29)).alloc (.cells #[.slice ao zs.length cap, .int .i64 0] 53)).alloc (.cells #[.pointer (some ⟨w.heap.size + 1, 0, none⟩), .int .i64 0, .int .i64 (12 + 58 * ((zs.length : Int) % 5 / 4))] 55) := ⟨_, rfl⟩
  rw [← hw2]
  obtain ⟨T, e0, e1, e2, e3, e4, e5⟩ : ∃ T : Tp, T.B0 = w.heap.size ∧ w.heap.size + 1 = T.bt ∧ w.heap.size + 1 + 1 = T.bm ∧ T.ao = ao ∧ T.cap = cap ∧ T.zs = zs := ⟨⟨w.heap.size, w.heap.size + 1, w.heap.size + 1 + 1, ao, cap, zs, by omega, by omega, by omega⟩, rfl, rfl, rfl, rfl, rfl, rfl⟩
  obtain ⟨pb, hpb⟩ : ∃ pb, w.heap.size + 1 + 1 + 1 = pb := ⟨_, rfl⟩
  rw [hpb, e2, e1]
  have hsz2 : w2.heap.size = pb := by rw [hw2, ← hpb]; simp
  have HBW : Hid (Below w.heap.size w w2) := Lib.hid (by rw [hw2]; exact ((alloc_below _ _).alloc (by simp) _).alloc (by simp <;> omega) _)
  have HR2 : Hid (w2.heap[w.heap.size]? = some (.cells #[.slice none 0 0, .slice none 0 0] 29 (0, 0))) := Lib.hid (by
    rw [hw2, heap_alloc_old _ _ (by simp <;> omega), heap_alloc_old _ _ (by simp <;> omega)]; exact heap_alloc_new _ _)
  have HMI2 : Hid (MdI w2 T) := Lib.hid (by
    have k1 : w2.heap[T.bt]? = some (.cells #[.slice ao zs.length cap, .int .i64 0] 53 (0, 0)) := by
      rw [hw2, ← e1, heap_alloc_old _ _ (by simp)]
      have := heap_alloc_new (w.alloc (.cells #[.slice none 0 0, .slice none 0 0] 29)) (.cells #[.slice ao zs.length cap, .int .i64 0] 53)
      simpa using this
    have k2 : w2.heap[T.bm]? = some (.cells #[.pointer (some ⟨w.heap.size + 1, 0, none⟩), .int .i64 0, .int .i64 (12 + 58 * ((zs.length : Int) % 5 / 4))] 55 (0, 0)) := by
      rw [hw2, ← e2]
      have := heap_alloc_new ((w.alloc (.cells #[.slice none 0 0, .slice none 0 0] 29)).alloc (.cells #[.slice ao zs.length cap, .int .i64 0] 53)) (.cells #[.pointer (some ⟨w.heap.size + 1, 0, none⟩), .int .i64 0, .int .i64 (12 + 58 * ((zs.length : Int) % 5 / 4))] 55)
      simpa using this
    refine ⟨⟨⟨0, Nat.zero_le _, by rw [k1, e3, e4, e5]; rfl⟩, by rw [e0, e3, e5]; exact HZ.out.below HBW.out, by rw [e5]; exact hl⟩, ⟨0, 12 + 58 * ((zs.length : Int) % 5 / 4), I64z, by omega, by omega, by rw [k2, e1]⟩⟩)
  generalize hW : World.alloc w2 _ = W
  have HPD : Hid (PD T w2 pb W (.slice none 0 0) []) := Lib.hid (by
    rw [← hW]
    exact ⟨by rw [← hsz2]; exact heap_alloc_new _ _, Grow.nil _ _ _ _ _ _, by simp, HMI2.out.below (alloc_below _ _), Mk.of_below (alloc_below _ _), by omega, by omega, by omega, by omega⟩)
  have HTB : Hid (T.B0 = w.heap.size ∧ T.bt = w.heap.size + 1 ∧ T.bm = w.heap.size + 2 ∧ pb = w.heap.size + 3 ∧ w2.heap.size = pb) := Lib.hid ⟨e0, e1.symm, by omega, by omega, hsz2⟩
  clear hW hw2 e0 e1 e2 e3 e4 e5 hpb hsz2 HZ HMI2
  have c0 := HPD.out.mi.ptr
  go_wp2_with fail
  refine (NextM_any T 4 _ (by unfold I64; decide) HPD.out.mi).mono ?_
  rintro e w3 ⟨k, rfl, hk0, hk1, hk2, hM, hI⟩
  have HPD3 := Lib.hid (HPD.out.go hM hI)
  clear hM hI hk1 hk2 c0 HPD
  go_upto_if 28 with fail
  go_cut [4] (fun s4 W' => s4 = .pointer (some ⟨pb, 0, none⟩) ∧ ∃ vD ds, ds.length ≤ 100 ∧ PD T w2 pb W' vD ds)
  case first =>
    by_cases hk : 0 < k
    · go_wp2_with fail
      refine (decls_any _).mono ?_
      rintro e w4 ⟨g, rfl, hg, hgc, hb⟩
      have hpg : pb + 1 ≤ g := Nat.le_trans HPD3.out.sz hg
      have HPG := Lib.hid hpg
      have HPDa := Lib.hid (HPD3.out.go (Mk.of_below hb) (HPD3.out.mi.below hb))
      have HGC := Lib.hid hgc
      have y0 : w4.cell? ⟨pb, 0, none⟩ = some (.slice none 0 0) := cellb HPDa.out.box rfl
      have f0 : w4.frozen? ⟨pb, 0, none⟩ = false := free_blk HPDa.out.box
      clear hb hgc hg hpg HPD3
      go_upto_region 5 with fail
      generalize hWB : World.setCell w4 _ _ = w5
      have HP5 : Hid (PD T w2 pb w5 (.slice (some ⟨g, 0, none⟩) 9 9) dec9) := Lib.hid (by
        rw [← hWB]; exact HPDa.out.put (Grow.made deF_len HGC.out HPG.out rfl (by unfold maxLen; decide)) dec9_ok)
      clear hWB y0 f0 HPDa HGC
      go_wp2_with fail
      go_loopw [5] (fun v5 wr => ∃ (k : Nat) (ds : List De), v5 = .int .i64 k ∧ k ≤ 9 ∧ ds.length = 9 ∧ PD T w2 pb wr (.slice (some ⟨g, 0, none⟩) 9 9) ds) (fun i _ => 9 - (intOf i).toNat)
      case atStart => exact ⟨0, dec9, rfl, by decide, rfl, HP5.out⟩
      case round =>
        obtain ⟨k, ds, rfl, hk9, hds, hp⟩ := hrel
        have HP := Lib.hid hp
        have HDS := Lib.hid hds
        have y0 : wr.cell? ⟨pb, 0, none⟩ = some (.slice (some ⟨g, 0, none⟩) 9 9) := cellb hp.box rfl
        obtain ⟨line, left, hl1, hl2, hl3, hblk⟩ := hp.mi.blm
        have c1 : wr.cell? ⟨T.bm, 1, none⟩ = some (.int .i64 line) := (cell_blk hblk (j := 1) rfl).2
        have f1 : wr.frozen? ⟨T.bm, 1, none⟩ = false := free_blk hblk
        clear hp hds hblk hl1 hl2 hl3
        by_cases hlt : k < 9
        · go_upto_region 9 with fail
          generalize hWL : World.setCell wr _ _ = wl
          have HPL : Hid (PD T w2 pb wl (.slice (some ⟨g, 0, none⟩) 9 9) ds) := Lib.hid (by rw [← hWL]; exact HP.out.mline (wrap_I64 _))
          clear hWL c1 f1 y0 HP
          have y0 : wl.cell? ⟨pb, 0, none⟩ = some (.slice (some ⟨g, 0, none⟩) 9 9) := cellb HPL.out.box rfl
          obtain ⟨l, c1, hlI⟩ := HPL.out.mi.ln
          have HLI := Lib.hid hlI
          obtain ⟨d, hd⟩ : ∃ d, ds[k]? = some d := ⟨_, List.getElem?_eq_getElem (by rw [HDS.out]; exact hlt)⟩
          have HD := Lib.hid hd
          have hcl := (HPL.out.gd.cells deF_len wl (Abv.refl _ _)).2
          have yl : ∃ z, wl.cell? ⟨g, k * 6 + 1, none⟩ = some z := by
            obtain ⟨ao', cap', e', -, hc⟩ := hcl
            injection e' with q1 q2 q3; subst q1
            obtain ⟨g', h1, -, -, h4⟩ := hc k d hd
            injection h1 with h1; injection h1 with h1; subst h1
            exact ⟨_, h4 1 _ rfl⟩
          obtain ⟨z, yl⟩ := yl
          have fl : wl.frozen? ⟨g, k * 6 + 1, none⟩ = false := by
            rcases HPL.out.gd.own.2 with ⟨h1, -⟩ | ⟨g', cap', cur, h1, -, h3, -⟩
            · cases h1
            · injection h1 with h1; injection h1 with h1; injection h1 with h1; subst h1; exact free_blk h3
          have hb0 : (0 : Int) ≤ (k : Int) := by omega
          have hb1 : (k : Int) < 9 := by omega
          clear hlI hd hcl
          refine wpAny_start (by kernel_rfl) rfl ?_
          refine wpAny_phase 0 9 [] [[], [0], [], [], [3], [3, 4], [3, 4, 5], [0, 1, 2, 3, 4, 5, 6], [0, 1, 2, 3, 4, 5, 6, 7], [0, 1, 2, 3, 4, 5, 6, 7, 8]] [[], [], [], [], [], [], [], [], []] (fun _ w' => w' = wl.drewN 1) (fun w w' => w = w') [45, 46, 47, 48, 49, 50, 51, 52, 53] rfl rfl (by rfl) (by kernel_rfl) (by kernel_rfl) (by kernel_rfl) (by kernel_rfl) (by kernel_rfl) (by rfl) (fun _ => rfl) (by rfl) rfl ?_
          simp only [List.take_succ_cons, List.take_zero, List.drop_zero, List.drop_succ_cons, dumE, List.map_cons, List.map_nil]
          apply ObP.step
          case hobl =>
            intro c A w' hok hC hO hD
            have e4 := hO 4 (by rfl)
            simp [Act.eval] at e4
            simp [depsL, IsV, slotv, Act.eval, Region.binds] at hD
            simp [go_sem, gd, Oper.wp, hD, e4]
            exact WPost.mk rfl hC (IsV.mk _ _)
          apply ObP.step
          case hobl =>
            intro c A w' hok hC hO hD
            simp [depsL, IsV, slotv, Act.eval, Region.binds] at hD
            simp [go_sem, gd, Oper.wp, hD, hC, y0]
            exact WPost.mk rfl rfl (IsV.mk _ _)
          apply ObP.step
          case hobl =>
            intro c A w' hok hC hO hD
            have e5 := hO 5 (by rfl)
            simp [Act.eval] at e5
            simp [depsL, IsV, slotv, Act.eval, Region.binds] at hD
            simp [go_sem, gd, Oper.wp, hD, e5]
            exact WPost.mk rfl hC (IsV.mk _ _)
          simp only [List.nil_append, List.cons_append]
          apply ObP.step
          case hobl =>
            intro c A w' hok hC hO hD
            have e3 := hO 3 (by rfl)
            simp [Act.eval] at e3
            simp [depsL, IsV, slotv, Act.eval, Region.binds] at hD
            simp [go_sem, gd, Oper.wp, hD, e3]
            exact WPost.mk rfl hC (IsV.mk _ _)
          apply ObP.step
          case hobl =>
            intro c A w' hok hC hO hD
            simp [depsL, IsV, slotv, Act.eval, Region.binds] at hD
            simp [go_sem, gd, Oper.wp, hD]
            exact WPost.mk rfl hC (IsV.mk _ _)
          apply ObP.step
          case hobl =>
            intro c A w' hok hC hO hD
            simp [depsL, IsV, slotv, Act.eval, Region.binds] at hD
            simp [go_sem, gd, Oper.wp, hD]
            exact WPost.mk rfl hC (IsV.mk _ _)
          simp only [List.nil_append, List.cons_append]
          apply ObP.step
          case hobl =>
            intro c A w' hok hC hO hD
            simp [depsL, IsV, slotv, Act.eval, Region.binds] at hD
            simp [go_sem, gd, Oper.wp, hD, hC, c1]
            exact WPost.mk rfl rfl (IsV.mk _ _)
          apply ObP.step
          case hobl =>
            intro c A w' hok hC hO hD
            simp [depsL, IsV, slotv, Act.eval, Region.binds] at hD
            simp [go_sem, gd, Oper.wp, hD, hb0, hb1]
            exact WPost.mk rfl hC (IsV.mk _ _)
          apply ObP.step
          case hobl =>
            intro c A w' hok hC hO hD
            simp [depsL, IsV, slotv, Act.eval, Region.binds] at hD
            simp [go_sem, gd, Oper.wp, hD]
            exact WPost.mk rfl hC (IsV.mk _ _)
          try simp only [List.nil_append, List.cons_append]
          refine ObP.done ?_
          intro wz hCz
          try simp only [List.drop_zero, List.drop_succ_cons]
          intro v0 h0 v1 h1 v2 h2 v3 h3 v4 h4 v5 h5 v6 h6 v7 h7 v8 h8
          have h6' := Eq.symm (show v6 = _ from h6)
          subst h6'
          have h8' := Eq.symm (show v8 = _ from h8)
          subst h8'
          clear h0 h1 h2 h3 h4 h5 h6 h7 h8
          refine AllVals.nil ?_
          go_simp
          refine wpAny_one 9 [[], [0], [], [], [3], [3, 4], [3, 4, 5], [0, 1, 2, 3, 4, 5, 6], [0, 1, 2, 3, 4, 5, 6, 7], [0, 1, 2, 3, 4, 5, 6, 7, 8]] rfl rfl rfl rfl rfl (by kernel_rfl) (by kernel_rfl) (by kernel_rfl) ?_
          subst hCz
          simp [go_sem, Oper.wp, yl, fl]
          refine wpAny_end rfl ?_
          have HPZ := Lib.hid ((HPL.out.go (Mk.of_below (below_drewN (Below.refl _ _) 1)) (HPL.out.mi.below (below_drewN (Below.refl _ _) 1))).line HD.out HLI.out)
          clear yl fl c1 y0
          go_simp
          go_wp2_with fail
          go_roundw
          case rel => exact ⟨k + 1, _, by go_num, by omega, by simpa using HDS.out, HPZ.out⟩
          case measure => simp [intOf]; omega
        · have hk : k = 9 := by omega
          subst hk
          go_wp2_with fail
          go_meet
          exact ⟨rfl, _, ds, by rw [HDS.out]; decide, HP.out⟩
    · have hk00 : k = 0 := by omega
      subst hk00
      go_wp2_with fail
      go_meet
      exact ⟨rfl, _, [], by decide, HPD3.out⟩
  obtain ⟨rfl, vD, ds, hds, hp⟩ := hcut
  obtain ⟨wa, rfl⟩ : ∃ W : World, W = wc := ⟨_, rfl⟩
  have HPa := Lib.hid hp
  have HDa := Lib.hid hds
  clear hp hds HPD3 hk0
  have c0 := HPa.out.mi.ptr
  go_wp2_with fail
  refine (NextM_any T 8 _ (by unfold I64; decide) HPa.out.mi).mono ?_
  rintro e w4 ⟨k, rfl, hk0, hk1, hk2, hM, hI⟩
  have hk8 : k < 8 := hk1 (by decide)
  have HPb := Lib.hid (HPa.out.go hM hI)
  clear hM hI hk1 hk2 c0 HPa
  go_wp2_with fail
  go_loopw [6] (fun v6 wr => ∃ (k : Int) (vD : Value) (ds : List De), v6 = .int .i64 k ∧ -4 ≤ k ∧ k ≤ 3 ∧ (ds.length : Int) + k ≤ 103 ∧ ds.length ≤ 107 ∧ PD T w2 pb wr vD ds) (fun i _ => (intOf i).toNat)
  case atStart => exact ⟨k - 4, vD, ds, rfl, by omega, by omega, by have := HDa.out; omega, by have := HDa.out; omega, HPb.out⟩
  case round =>
    clear HPb HDa hk0 hk8 ds vD
    obtain ⟨k, vD, ds, rfl, hk4, hk3, hdk, hdl, hp⟩ := hrel
    have HP := Lib.hid hp
    have HDK := Lib.hid hdk
    have HDL := Lib.hid hdl
    clear hp hdk hdl
    by_cases hk : 0 < k
    · go_upto_region 13 with fail
      have hd1 : Mk T wr (wr.drewN 1) := Mk.of_below (below_drewN (Below.refl _ _) 1)
      have hd2 : MdI (wr.drewN 1) T := HP.out.mi.below (below_drewN (Below.refl _ _) 1)
      have HPS : Hid (T.bt < pb ∧ T.bm < pb) := Lib.hid (by have := HP.out.lt; omega)
      have HWZ : Hid (pb + 1 ≤ wr.heap.size) := Lib.hid HP.out.sz
      have Y0 : ∀ w', Mk T wr w' → w'.cell? ⟨pb, 0, none⟩ = some vD := fun w' h => cellb ((h.block pb HWZ.out (by have := HPS.out; omega) (by have := HPS.out; omega)).trans HP.out.box) rfl
      refine wpAny_start (by kernel_rfl) rfl ?_
      refine wpAny_phase 0 5 [] [[], [0], [], [2], [2, 3], [0, 1, 2, 3, 4], [0, 1, 2, 3, 4, 5], [0, 1, 2, 3, 4, 5, 6]] [[], [], [], [], []] (fun _ w' => Mk T wr w' ∧ MdI w' T) (fun w w' => Mk T w w') [64, 65, 66, 67, 68] rfl rfl (by rfl) (by kernel_rfl) (by kernel_rfl) (by kernel_rfl) (by kernel_rfl) (by kernel_rfl) (by rfl) (fun _ => Mk.refl _ _) (by rfl) ⟨hd1, hd2⟩ ?_
      simp only [List.take_succ_cons, List.take_zero, List.drop_zero, List.drop_succ_cons, dumE, List.map_cons, List.map_nil]
      apply ObP.step
      case hobl =>
        intro c A w' hok hC hO hD
        have e4 := hO 4 (by rfl)
        simp [Act.eval] at e4
        simp [depsL, IsV, slotv, Act.eval, Region.binds] at hD
        simp [go_sem, gd, Oper.wp, hD, e4]
        exact WPost.mk (Mk.refl _ _) hC (IsV.mk _ _)
      apply ObP.step
      case hobl =>
        intro c A w' hok hC hO hD
        simp [depsL, IsV, slotv, Act.eval, Region.binds] at hD
        simp [go_sem, gd, Oper.wp, hD, Y0, hC.1]
        exact WPost.mk (Mk.refl _ _) hC (IsV.mk _ _)
      apply ObP.step
      case hobl =>
        intro c A w' hok hC hO hD
        have e3 := hO 3 (by rfl)
        simp [Act.eval] at e3
        simp [depsL, IsV, slotv, Act.eval, Region.binds] at hD
        simp [go_sem, gd, Oper.wp, hD, e3]
        exact WPost.mk (Mk.refl _ _) hC (IsV.mk _ _)
      simp only [List.nil_append, List.cons_append]
      refine ObP.some (fun v _ => ∃ d, v = deV d ∧ (d.Ok ∧ shpD d = true)) (fun _ _ _ _ h => h) ?_ ?_
      · intro c A w' hok hC hO hD
        simp [depsL, IsV, slotv, Act.eval, Region.binds] at hD
        simp [go_sem, gd, Oper.wp, hD]
        refine (decl_any T w' hC.2).mono ?_
        rintro e w3 ⟨d, rfl, h1, h2, h3⟩
        exact WPost.mk h2 ⟨hC.1.trans h2, h3⟩ ⟨d, rfl, h1⟩
      refine ObP.some (fun v w' => ∃ (bb : Nat) (d : De), v = .slice (some ⟨bb, 0, none⟩) 1 1 ∧ pb + 1 ≤ bb ∧ w'.heap[bb]? = some (.cells (deF d).toArray 46 (0, 0)) ∧ (d.Ok ∧ shpD d = true)) ?_ ?_ ?_
      · rintro v w1 w' hle ⟨g, d, h1, h2, h3, h4⟩
        exact ⟨g, d, h1, h2, (hle.block g (Array.getElem?_eq_some_iff.1 h3).1 (by have := HPS.out; omega) (by have := HPS.out; omega)).trans h3, h4⟩
      · intro c A w' hok hC hO hD
        simp [depsL, IsV, slotv, Act.eval, Region.binds] at hD
        obtain ⟨d, hd, hok1, hok2⟩ := hD
        unfold deV at hd
        simp [go_sem, gd, Oper.wp, hd]
        exact WPost.mk (d := _) (v := .slice (some ⟨_, 0, none⟩) 1 1) (Mk.of_below (alloc_below _ _)) ⟨hC.1.trans (Mk.of_below (alloc_below _ _)), hC.2.below (alloc_below _ _)⟩ ⟨_, rfl, Nat.le_trans HWZ.out hC.1.size, d, heap_alloc_new _ _, hok1, hok2⟩
      try simp only [List.nil_append, List.cons_append]
      refine ObP.done ?_
      intro wz hCz
      try simp only [List.drop_zero, List.drop_succ_cons]
      intro v0 h0 v1 h1 v2 h2 v3 h3 v4 h4
      have h0' := Eq.symm (show v0 = _ from h0)
      subst h0'
      have h1' := Eq.symm (show v1 = _ from h1)
      subst h1'
      have h2' := Eq.symm (show v2 = _ from h2)
      subst h2'
      clear h0 h1 h2 h3
      obtain ⟨bb, d, rfl, hbb, hcell, hdok⟩ := h4
      clear hd1 hd2 Y0
      refine AllVals.nil ?_
      go_simp
      refine wpAny_one 5 [[], [0], [], [2], [2, 3], [0, 1, 2, 3, 4], [0, 1, 2, 3, 4, 5], [0, 1, 2, 3, 4, 5, 6]] rfl rfl rfl rfl rfl (by kernel_rfl) (by kernel_rfl) (by kernel_rfl) ?_
      obtain ⟨i0, hi0, hz0, hz1, hz2⟩ := de_info
      have HPZ := Lib.hid (HP.out.go hCz.1 hCz.2)
      have HDO := Lib.hid hdok
      have hkl : ds.length + 1 ≤ maxLen := by have := HDL.out; unfold maxLen; omega
      have hkb : (ds.length + 1) * 64 ≤ 140737488355328 := by have := HDL.out; omega
      refine wp_append_lies wz _ _ _ (by rfl) (pb + 1) 46 i0 _ 6 64 Tryd.underlying26 hi0 hz0 hz1 hz2 (by rfl) (by omega) vD ds.length (ds.flatMap deF) (by rfl) HPZ.out.gd.own ⟨bb, 0, none⟩ 1 1 (deF d) (by rfl) (by rfl) (new_cells hcell) (def_one d) (by decide) hkl hkb HPZ.out.sz _ rfl ?_
      intro g' cap' w5 hown hgr hmv hlt
      clear hi0 hz0 hz1 hz2 hcell hCz hbb hdok hkl hkb
      have HG5 := Lib.hid (HPZ.out.gd.push (x := d) (fun _ _ => trivial) rfl hown hgr hmv)
      have HB5 : Hid (Below (pb + 1) wz w5) := Lib.hid (below_of_grown hgr (fun k hk => (HPZ.out.gd.lt k hk).1) HPZ.out.sz)
      have HO5 : Hid (∀ x ∈ ds ++ [d], x.Ok ∧ shpD x = true) := Lib.hid (fun x hx => by
        rcases List.mem_append.1 hx with hx | hx
        · exact HP.out.ok x hx
        · rw [List.mem_singleton.1 hx]; exact HDO.out)
      clear hown hgr hmv hlt
      have HBX : Hid (w5.heap[pb]? = some (.cells #[vD, .slice none 0 0] 29 (0, 0))) := Lib.hid ((HB5.out.block pb (Nat.lt_succ_self _)).trans HPZ.out.box)
      have HP6 := Lib.hid (PD.put' (ds' := ds ++ [d]) HBX.out (HPZ.out.mi.belowB HB5.out (by have := HPS.out; omega) (by have := HPS.out; omega) (by have := HP.out.lt; omega)) (HPZ.out.km.thenB (HB5.out.mono (by have := HP.out.lt; omega))) HP.out.lt HG5.out HO5.out)
      have y0 : w5.cell? ⟨pb, 0, none⟩ = some vD := cellb HBX.out rfl
      have f0 : w5.frozen? ⟨pb, 0, none⟩ = false := free_blk HBX.out
      clear HBX HG5 HB5 HO5 HPZ
      go_simp
      refine wpAny_phase 6 7 [] [[], [0], [], [2], [2, 3], [0, 1, 2, 3, 4], [0, 1, 2, 3, 4, 5], [0, 1, 2, 3, 4, 5, 6]] [[]] (fun _ w' => w' = w5) (fun w w' => w = w') [70] rfl rfl (by rfl) (by kernel_rfl) (by kernel_rfl) (by kernel_rfl) (by kernel_rfl) (by kernel_rfl) (by rfl) (fun _ => rfl) (by rfl) rfl ?_
      simp only [List.take_succ_cons, List.take_zero, List.drop_zero, List.drop_succ_cons, dumE, List.map_cons, List.map_nil]
      apply ObP.step
      case hobl =>
        intro c A w' hok hC hO hD
        have e4 := hO 4 (by rfl)
        simp [Act.eval] at e4
        simp [depsL, IsV, slotv, Act.eval, Region.binds] at hD
        simp [go_sem, gd, Oper.wp, hD, e4]
        exact WPost.mk rfl hC (IsV.mk _ _)
      try simp only [List.nil_append, List.cons_append]
      refine ObP.done ?_
      intro wz hCz
      try simp only [List.drop_zero, List.drop_succ_cons]
      intro v0 h0
      have h0' := Eq.symm (show v0 = _ from h0)
      subst h0'
      clear h0
      refine AllVals.nil ?_
      go_simp
      refine wpAny_one 7 [[], [0], [], [2], [2, 3], [0, 1, 2, 3, 4], [0, 1, 2, 3, 4, 5], [0, 1, 2, 3, 4, 5, 6]] rfl rfl rfl rfl rfl (by kernel_rfl) (by kernel_rfl) (by kernel_rfl) ?_
      subst hCz
      simp [go_sem, Oper.wp, y0, f0]
      refine wpAny_end rfl ?_
      clear y0 f0
      go_simp
      go_wp2_with fail
      go_roundw
      case rel => exact ⟨k - 1, _, ds ++ [d], rfl, by omega, by omega, by have := HDK.out; simp; omega, by have := HDK.out; simp; omega, HP6.out⟩
      case measure => simp [intOf]; omega
    · go_upto_region 15 with fail
      obtain ⟨nb, hnb⟩ : ∃ nb, wr.heap.size = nb := ⟨_, rfl⟩
      generalize hWN : World.alloc wr _ = wn
      have HPI : Hid (PI T w2 pb nb wn vD ds (.slice none 0 0) []) := Lib.hid (by rw [← hWN, ← hnb]; exact HP.out.pi)
      rw [hnb]
      clear hWN hnb hk4 hk3 hk HP HDK
      have c0 := HPI.out.mi.ptr
      go_wp2_with fail
      refine (NextM_any T 3 _ (by unfold I64; decide) HPI.out.mi).mono ?_
      rintro e wa ⟨n, rfl, hk0, hk1, hk2, hM, hI⟩
      have hn3 : n < 3 := hk1 (by decide)
      have HPa := Lib.hid (HPI.out.go hM hI)
      clear hM hI hk1 hk2 c0 HPI
      have c0 := HPa.out.mi.ptr
      go_wp2_with fail
      refine (NextM_any T 12 _ (by unfold I64; decide) HPa.out.mi).mono ?_
      rintro e wb ⟨m, rfl, hm0, hm1, hm2, hM, hI⟩
      have HPb := Lib.hid (HPa.out.go hM hI)
      clear hM hI hm0 hm1 hm2 c0 HPa
      go_upto_if 83 with fail
      go_cut [8] (fun s8 W' => W' = wb ∧ ∃ n : Nat, s8 = .int .i64 (n : Int) ∧ 1 ≤ n ∧ n ≤ 5)
      case first =>
        cases hm : (m == 11)
        · go_wp2_with fail
          go_meet
          exact ⟨rfl, (1 + n).toNat, by rw [Int.toNat_of_nonneg (by omega)], by omega, by omega⟩
        · go_wp2_with fail
          go_meet
          exact ⟨rfl, 5, rfl, by decide, by decide⟩
      obtain ⟨rfl, n', rfl, hn1, hn5⟩ := hcut
      clear hk0 hn3
      go_wp2_with fail
      go_loopw [9] (fun v9 wr => ∃ (k : Nat) (vT : Value) (ths : List ThI), v9 = .int .i64 k ∧ k ≤ n' ∧ ths.length = k ∧ PI T w2 pb nb wr vD ds vT ths) (fun i _ => n' - (intOf i).toNat)
      case atStart => exact ⟨0, _, [], rfl, Nat.zero_le _, rfl, HPb.out⟩
      case round =>
        clear HPb
        obtain ⟨k, vT, ths, rfl, hkn, hth, hp⟩ := hrel
        have HP := Lib.hid hp
        have HTH := Lib.hid hth
        clear hp hth
        by_cases hlt : k < n'
        · obtain ⟨line, left, hl1, hl2, hl3, hblk⟩ := HP.out.mi.blm
          have c1 : wr.cell? ⟨T.bm, 1, none⟩ = some (.int .i64 line) := (cell_blk hblk (j := 1) rfl).2
          have f1 : wr.frozen? ⟨T.bm, 1, none⟩ = false := free_blk hblk
          clear hblk hl1 hl2 hl3
          go_upto_region 22 with fail
          generalize hWL : World.setCell wr _ _ = W0
          have HP0 : Hid (PI T w2 pb nb W0 vD ds vT ths) := Lib.hid (by rw [← hWL]; exact HP.out.mline (wrap_I64 _))
          clear hWL c1 f1 HP
          have HSZ : Hid (nb + 1 ≤ W0.heap.size) := Lib.hid HP0.out.sz
          have HLT : Hid (T.bt < pb ∧ T.bm < pb ∧ T.B0 ≤ pb ∧ pb < nb) := Lib.hid (by have := HP0.out.lt; omega)
          have hd1 : Mk T W0 (W0.drewN 1) := Mk.of_below (below_drewN (Below.refl _ _) 1)
          have hd2 : MdI (W0.drewN 1) T := HP0.out.mi.below (below_drewN (Below.refl _ _) 1)
          have K0 : ∀ w', MdI w' T → w'.cell? ⟨T.bm, 0, none⟩ = some (.pointer (some ⟨T.bt, 0, none⟩)) := fun w' h => h.ptr
          have KN : ∀ w', Mk T W0 w' → ∃ s, w'.cell? ⟨nb, k, none⟩ = some (.string s) ∧ NmS s := fun w' h => by
            have hb := (h.block nb HSZ.out (by have := HLT.out; omega) (by have := HLT.out; omega)).trans HP0.out.nms
            obtain ⟨s, h1, h2⟩ := nmT_at k (by omega)
            exact ⟨s, cellb hb h1, h2⟩
          have hb0 : (0 : Int) ≤ (k : Int) := by omega
          have hb1 : (k : Int) < 5 := by omega
          refine wpAny_start (by kernel_rfl) rfl ?_
          refine wpAny_phase 0 11 [] [[], [], [0, 1], [0, 1, 2], [], [4], [4, 5], [4, 5, 6], [], [0, 1, 2, 3, 4, 5, 6, 7, 8], [], [0, 1, 2, 3, 4, 5, 6, 7, 8, 9, 10]] [[], [], [], [], [], [], [], [], [], [], []] (fun _ w' => Mk T W0 w' ∧ MdI w' T) (fun w w' => Mk T w w') [96, 97, 98, 99, 100, 101, 102, 103, 104, 105, 10] rfl rfl (by rfl) (by kernel_rfl) (by kernel_rfl) (by kernel_rfl) (by kernel_rfl) (by kernel_rfl) (by rfl) (fun _ => Mk.refl _ _) (by rfl) ⟨hd1, hd2⟩ ?_
          simp only [List.take_succ_cons, List.take_zero, List.drop_zero, List.drop_succ_cons, dumE, List.map_cons, List.map_nil]
          apply ObP.step
          case hobl =>
            intro c A w' hok hC hO hD
            have e7 := hO 7 (by rfl)
            simp [Act.eval] at e7
            simp [depsL, IsV, slotv, Act.eval, Region.binds] at hD
            simp [go_sem, gd, Oper.wp, hD, e7]
            exact WPost.mk (Mk.refl _ _) hC (IsV.mk _ _)
          apply ObP.step
          case hobl =>
            intro c A w' hok hC hO hD
            have e9 := hO 9 (by rfl)
            simp [Act.eval] at e9
            simp [depsL, IsV, slotv, Act.eval, Region.binds] at hD
            simp [go_sem, gd, Oper.wp, hD, e9]
            exact WPost.mk (Mk.refl _ _) hC (IsV.mk _ _)
          apply ObP.step
          case hobl =>
            intro c A w' hok hC hO hD
            simp [depsL, IsV, slotv, Act.eval, Region.binds] at hD
            simp [go_sem, gd, Oper.wp, hD, hb0, hb1]
            exact WPost.mk (Mk.refl _ _) hC (IsV.mk _ _)
          simp only [List.nil_append, List.cons_append]
          refine ObP.some (fun v w' => ∃ s : ByteArray, v = .string s ∧ NmS s) (fun _ _ _ _ h => h) ?_ ?_
          · intro c A w' hok hC hO hD
            simp [depsL, IsV, slotv, Act.eval, Region.binds] at hD
            obtain ⟨s, hs, hsz⟩ := KN w' hC.1
            simp [go_sem, gd, Oper.wp, hD, hs]
            exact WPost.mk (Mk.refl _ _) hC (⟨s, rfl, hsz⟩)
          simp only [List.nil_append, List.cons_append]
          apply ObP.step
          case hobl =>
            intro c A w' hok hC hO hD
            have e3 := hO 3 (by rfl)
            simp [Act.eval] at e3
            simp [depsL, IsV, slotv, Act.eval, Region.binds] at hD
            simp [go_sem, gd, Oper.wp, hD, e3]
            exact WPost.mk (Mk.refl _ _) hC (IsV.mk _ _)
          apply ObP.step
          case hobl =>
            intro c A w' hok hC hO hD
            simp [depsL, IsV, slotv, Act.eval, Region.binds] at hD
            simp [go_sem, gd, Oper.wp, hD]
            exact WPost.mk (Mk.refl _ _) hC (IsV.mk _ _)
          apply ObP.step
          case hobl =>
            intro c A w' hok hC hO hD
            simp [depsL, IsV, slotv, Act.eval, Region.binds] at hD
            simp [go_sem, gd, Oper.wp, hD]
            exact WPost.mk (Mk.refl _ _) hC (IsV.mk _ _)
          simp only [List.nil_append, List.cons_append]
          refine ObP.some (fun v w' => ∃ l : Int, v = .int .i64 l ∧ I64 l) (fun _ _ _ _ h => h) ?_ ?_
          · intro c A w' hok hC hO hD
            simp [depsL, IsV, slotv, Act.eval, Region.binds] at hD
            obtain ⟨l, hc, hl⟩ := hC.2.ln
            simp [go_sem, gd, Oper.wp, hD, hc]
            exact WPost.mk (Mk.refl _ _) hC (⟨l, rfl, hl⟩)
          simp only [List.nil_append, List.cons_append]
          refine ObP.some (fun v w' => ∃ lb, v = .slice (some ⟨lb, 0, none⟩) 2 2 ∧ W0.heap.size ≤ lb ∧ w'.heap[lb]? = some (.cells (lc2.flatMap txF).toArray 9 (0, 0))) ?_ ?_ ?_
          · rintro v w1 w' hle ⟨g, h1, h2, h3⟩
            exact ⟨g, h1, h2, (hle.block g (Array.getElem?_eq_some_iff.1 h3).1 (by have := HLT.out; have := HSZ.out; omega) (by have := HLT.out; have := HSZ.out; omega)).trans h3⟩
          · intro c A w' hok hC hO hD
            simp [go_sem, gd, Oper.wp]
            exact WPost.mk (d := _) (v := .slice (some ⟨_, 0, none⟩) 2 2) (Mk.of_below (alloc_below _ _)) ⟨hC.1.trans (Mk.of_below (alloc_below _ _)), hC.2.below (alloc_below _ _)⟩ ⟨_, rfl, hC.1.size, heap_alloc_new _ _⟩
          simp only [List.nil_append, List.cons_append]
          refine ObP.some (fun v w' => ∃ lb, W0.heap.size ≤ lb ∧ w'.heap[lb]? = some (.cells (lc2.flatMap txF).toArray 9 (0, 0)) ∧ ∃ (s : ByteArray) (l : Int), v = .agg #[.string s, .int .i64 l, .slice (some ⟨lb, 0, none⟩) 2 2, .slice none 0 0] ∧ NmS s ∧ I64 l) ?_ ?_ ?_
          · rintro v w1 w' hle ⟨g, h2, h3, h4⟩
            exact ⟨g, h2, (hle.block g (Array.getElem?_eq_some_iff.1 h3).1 (by have := HLT.out; have := HSZ.out; omega) (by have := HLT.out; have := HSZ.out; omega)).trans h3, h4⟩
          · intro c A w' hok hC hO hD
            simp [depsL, IsV, slotv, Act.eval, Region.binds] at hD
            obtain ⟨⟨s, hs, hsn⟩, ⟨l, hl, hlI⟩, lb, hlb, h1, h2⟩ := hD
            simp [go_sem, gd, Oper.wp, hs, hl, hlb]
            exact WPost.mk (Mk.refl _ _) hC ⟨lb, h1, h2, s, l, rfl, hsn, hlI⟩
          simp only [List.nil_append, List.cons_append]
          refine ObP.some (fun v w' => ∃ tb, v = .pointer (some ⟨tb, 0, none⟩) ∧ W0.heap.size ≤ tb ∧ w'.heap[tb]? = some (.cells zTh 44 (0, 0))) ?_ ?_ ?_
          · rintro v w1 w' hle ⟨g, h1, h2, h3⟩
            exact ⟨g, h1, h2, (hle.block g (Array.getElem?_eq_some_iff.1 h3).1 (by have := HLT.out; have := HSZ.out; omega) (by have := HLT.out; have := HSZ.out; omega)).trans h3⟩
          · intro c A w' hok hC hO hD
            simp [go_sem, gd, Oper.wp]
            exact WPost.mk (d := _) (v := .pointer (some ⟨_, 0, none⟩)) (Mk.of_below (alloc_below _ _)) ⟨hC.1.trans (Mk.of_below (alloc_below _ _)), hC.2.below (alloc_below _ _)⟩ ⟨_, rfl, hC.1.size, heap_alloc_new _ _⟩
          try simp only [List.nil_append, List.cons_append]
          refine ObP.done ?_
          intro wz hCz
          try simp only [List.drop_zero, List.drop_succ_cons]
          intro v0 h0 v1 h1 v2 h2 v3 h3 v4 h4 v5 h5 v6 h6 v7 h7 v8 h8 v9 h9 v10 h10
          clear h0 h1 h2 h3 h4 h5 h6 h7 h8
          obtain ⟨lb, hlb, hlc, s, l, rfl, hsn, hlI⟩ := h9
          obtain ⟨tb, rfl, htb, htc⟩ := h10
          clear hd1 hd2 K0 KN
          refine AllVals.nil ?_
          go_simp
          have hne : lb ≠ tb := fun e => by subst e; rw [hlc] at htc; cases htc
          refine wpAny_one 11 [[], [], [0, 1], [0, 1, 2], [], [4], [4, 5], [4, 5, 6], [], [0, 1, 2, 3, 4, 5, 6, 7, 8], [], [0, 1, 2, 3, 4, 5, 6, 7, 8, 9, 10]] rfl rfl rfl rfl rfl (by kernel_rfl) (by kernel_rfl) (by kernel_rfl) ?_
          refine wp_store_mid _ _ _ (by rfl) tb 0 #[.string s, .int .i64 l, .slice (some ⟨lb, 0, none⟩) 2 2, .slice none 0 0] (by rfl) (by rfl) (thereS htc (Nat.le_refl 4)) th_size (by simp [Value.oneCell']) ?_
          refine wpAny_end rfl ?_
          generalize hW5 : World.setCells wz tb 0 _ = W5
          have HTI : Hid (TI T W0 tb W5 s l (.slice (some ⟨lb, 0, none⟩) 2 2) lc2 (.slice none 0 0)) := Lib.hid (by
            rw [← hW5]
            have hlt' : T.bt < W0.heap.size ∧ T.bm < W0.heap.size ∧ T.B0 ≤ W0.heap.size ∧ W0.heap.size ≤ tb := by have := HLT.out; have := HSZ.out; omega
            have hgr := setCells_grown tb [.string s, .int .i64 l, .slice (some ⟨lb, 0, none⟩) 2 2, .slice none 0 0] 0 wz
            refine ⟨setCells_all htc rfl, ?_, fun k hk => ?_, ⟨hsn, hlI, lc2_ok, by decide⟩, hCz.2.sets _ _ _ (by omega) (by omega) (by omega), hCz.1.sets _ _ _ htb, hlt'⟩
            · exact (Grow.made txF_len hlc hlb rfl (by unfold maxLen; decide)).moveN (AbvX.of_grown hgr) (fun k hk e => by injection hk with hk; injection e with e; have hk : lb = k := hk; omega)
            · injection hk with hk; have hk : lb = k := hk; omega)
          clear hW5 hCz hlb hlc htb htc hsn hlI hne
          go_simp
          have c0 := HTI.out.mi.ptr
          go_wp2_with fail
          refine (NextM_any T 16 _ (by unfold I64; decide) HTI.out.mi).mono ?_
          rintro e W6 ⟨m, rfl, hm0, hm1, hm2, hM, hI⟩
          have HT6 := Lib.hid (HTI.out.go hM hI)
          clear hM hI hm0 hm1 hm2 c0 HTI
          go_upto_block 6 with fail
          go_cut [10] (fun s10 W' => s10 = .pointer (some ⟨tb, 0, none⟩) ∧ ∃ (s : ByteArray) (vL : Value) (lc : List ByteArray), TI T W0 tb W' s l vL lc (.slice none 0 0))
          case first =>
            cases h13 : (m == 13)
            · cases h14 : (m == 14)
              · cases h15 : (m == 15)
                · go_wp2_with fail
                  go_meet
                  exact ⟨rfl, _, _, _, HT6.out⟩
                · have y2 := cellb (j := 2) HT6.out.box rfl
                  have f2 : W6.frozen? ⟨tb, 2, none⟩ = false := free_blk HT6.out.box
                  have hlt6 : tb < W6.heap.size := HT6.out.sz
                  have HL6 := Lib.hid hlt6
                  go_wp2_with fail
                  go_meet
                  have HTA := Lib.hid (HT6.out.go (Mk.of_below (alloc_below W6 (.cells (lc5.flatMap txF).toArray 9))) (HT6.out.mi.below (alloc_below _ _)))
                  have HRI := TI.locs' (locs' := lc5) (vL' := .slice (some ⟨W6.heap.size, 0, none⟩) 5 5) HTA.out.box (Grow.made txF_len (heap_alloc_new _ _) (Nat.le_trans HTA.out.lt.2.2.2 (Nat.le_of_lt HL6.out)) rfl (by unfold maxLen; decide)) (fun k hk => by injection hk with hk; have hk : W6.heap.size = k := hk; have := HL6.out; omega) ⟨HT6.out.ok.1, HT6.out.ok.2.1, lc5_ok, by decide⟩ HTA.out.mi HTA.out.km HTA.out.lt
                  rw [World.setCell_alloc_past _ _ _ _ HL6.out] at HRI
                  have HRH := Lib.hid HRI
                  clear HRI
                  refine ⟨rfl, ?_⟩
                  exact ⟨_, _, _, HRH.out⟩
              · go_upto_region 27 with fail
                have HS6 : Hid (tb + 1 ≤ W6.heap.size) := Lib.hid HT6.out.sz
                have HLL : Hid (T.bt < W0.heap.size ∧ T.bm < W0.heap.size ∧ W0.heap.size ≤ tb) := Lib.hid (by have := HT6.out.lt; omega)
                have hd1 : Mk T W6 (W6.drewN 1) := Mk.of_below (below_drewN (Below.refl _ _) 1)
                have hd2 : MdI (W6.drewN 1) T := HT6.out.mi.below (below_drewN (Below.refl _ _) 1)
                have K0 : ∀ w', MdI w' T → w'.cell? ⟨T.bm, 0, none⟩ = some (.pointer (some ⟨T.bt, 0, none⟩)) := fun w' h => h.ptr
                have Y2 : ∀ w', Mk T W6 w' → w'.cell? ⟨tb, 2, none⟩ = some (.slice (some ⟨lb, 0, none⟩) 2 2) := fun w' h => cellb ((h.block tb HS6.out (by have := HLL.out; omega) (by have := HLL.out; omega)).trans HT6.out.box) rfl
                refine wpAny_start (by kernel_rfl) rfl ?_
                refine wpAny_phase 0 11 [] [[], [0], [], [], [3], [3, 4], [3, 4, 5], [3, 4, 5, 6], [2, 3, 4, 5, 6, 7], [2, 3, 4, 5, 6, 7, 8], [2, 3, 4, 5, 6, 7, 8, 9], [0, 1, 2, 3, 4, 5, 6, 7, 8, 9, 10], [0, 1, 2, 3, 4, 5, 6, 7, 8, 9, 10, 11], [0, 1, 2, 3, 4, 5, 6, 7, 8, 9, 10, 11, 12]] [[], [], [], [], [], [], [], [], [], [], []] (fun _ w' => Mk T W6 w' ∧ MdI w' T) (fun w w' => Mk T w w') [116, 117, 118, 119, 120, 121, 122, 123, 124, 125, 126] rfl rfl (by rfl) (by kernel_rfl) (by kernel_rfl) (by kernel_rfl) (by kernel_rfl) (by kernel_rfl) (by rfl) (fun _ => Mk.refl _ _) (by rfl) ⟨hd1, hd2⟩ ?_
                simp only [List.take_succ_cons, List.take_zero, List.drop_zero, List.drop_succ_cons, dumE, List.map_cons, List.map_nil]
                apply ObP.step
                case hobl =>
                  intro c A w' hok hC hO hD
                  have e10 := hO 10 (by rfl)
                  simp [Act.eval] at e10
                  simp [depsL, IsV, slotv, Act.eval, Region.binds] at hD
                  simp [go_sem, gd, Oper.wp, hD, e10]
                  exact WPost.mk (Mk.refl _ _) hC (IsV.mk _ _)
                apply ObP.step
                case hobl =>
                  intro c A w' hok hC hO hD
                  simp [depsL, IsV, slotv, Act.eval, Region.binds] at hD
                  simp [go_sem, gd, Oper.wp, hD, Y2, hC.1]
                  exact WPost.mk (Mk.refl _ _) hC (IsV.mk _ _)
                refine ObP.some (fun v w' => ∃ g, v = .slice (some ⟨g, 0, none⟩) 4 4 ∧ W6.heap.size ≤ g ∧ w'.heap[g]? = some (.cells nm4 9 (0, 0))) ?_ ?_ ?_
                · rintro v w1 w' hle ⟨g, h1, h2, h3⟩
                  exact ⟨g, h1, h2, (hle.block g (Array.getElem?_eq_some_iff.1 h3).1 (by have := HLL.out; have := HS6.out; omega) (by have := HLL.out; have := HS6.out; omega)).trans h3⟩
                · intro c A w' hok hC hO hD
                  simp [go_sem, gd, Oper.wp]
                  exact WPost.mk (d := _) (v := .slice (some ⟨_, 0, none⟩) 4 4) (Mk.of_below (alloc_below _ _)) ⟨hC.1.trans (Mk.of_below (alloc_below _ _)), hC.2.below (alloc_below _ _)⟩ ⟨_, rfl, hC.1.size, heap_alloc_new _ _⟩
                simp only [List.nil_append, List.cons_append]
                apply ObP.step
                case hobl =>
                  intro c A w' hok hC hO hD
                  have e3 := hO 3 (by rfl)
                  simp [Act.eval] at e3
                  simp [depsL, IsV, slotv, Act.eval, Region.binds] at hD
                  simp [go_sem, gd, Oper.wp, hD, e3]
                  exact WPost.mk (Mk.refl _ _) hC (IsV.mk _ _)
                apply ObP.step
                case hobl =>
                  intro c A w' hok hC hO hD
                  simp [depsL, IsV, slotv, Act.eval, Region.binds] at hD
                  simp [go_sem, gd, Oper.wp, hD]
                  exact WPost.mk (Mk.refl _ _) hC (IsV.mk _ _)
                apply ObP.step
                case hobl =>
                  intro c A w' hok hC hO hD
                  simp [depsL, IsV, slotv, Act.eval, Region.binds] at hD
                  simp [go_sem, gd, Oper.wp, hD]
                  exact WPost.mk (Mk.refl _ _) hC (IsV.mk _ _)
                simp only [List.nil_append, List.cons_append]
                apply ObP.step
                case hobl =>
                  intro c A w' hok hC hO hD
                  simp [depsL, IsV, slotv, Act.eval, Region.binds] at hD
                  simp [go_sem, gd, Oper.wp, hD, K0, hC.2]
                  exact WPost.mk (Mk.refl _ _) hC (IsV.mk _ _)
                refine ObP.some (fun v _ => ∃ r : Nat, v = .int .i64 (r : Int) ∧ r < 4) (fun _ _ _ _ h => h) ?_ ?_
                · intro c A w' hok hC hO hD
                  simp [depsL, IsV, slotv, Act.eval, Region.binds] at hD
                  simp [go_sem, gd, Oper.wp, hD]
                  refine (NextM_any T 4 w' (by unfold I64; decide) hC.2).mono ?_
                  rintro e w2 ⟨r, rfl, h0, h1, -, hM, hI⟩
                  obtain ⟨r', rfl⟩ := Int.eq_ofNat_of_zero_le h0
                  exact WPost.mk hM ⟨hC.1.trans hM, hI⟩ ⟨r', rfl, by have := h1 (by decide); omega⟩
                simp only [List.nil_append, List.cons_append]
                refine ObP.some (fun v w' => ∃ (g r : Nat), v = .pointer (some ⟨g, r, none⟩) ∧ r < 4 ∧ W6.heap.size ≤ g ∧ w'.heap[g]? = some (.cells nm4 9 (0, 0))) (fun v w1 w' hle ⟨g, r, h1, h1', h2, h3⟩ => ⟨g, r, h1, h1', h2, (hle.block g (Array.getElem?_eq_some_iff.1 h3).1 (by have := HLL.out; have := HS6.out; omega) (by have := HLL.out; have := HS6.out; omega)).trans h3⟩) ?_ ?_
                · intro c A w' hok hC hO hD
                  simp [depsL, IsV, slotv, Act.eval, Region.binds] at hD
                  obtain ⟨⟨g, hg, hg1, hg2⟩, r, hr, h1⟩ := hD
                  have hb0 : (0 : Int) ≤ (r : Int) := by omega
                  have hb1 : (r : Int) < 4 := by omega
                  simp [go_sem, gd, Oper.wp, hg, hr, hb0, hb1]
                  exact WPost.mk (Mk.refl _ _) hC (⟨g, r, rfl, h1, hg1, hg2⟩)
                simp only [List.nil_append, List.cons_append]
                refine ObP.some (fun v w' => ∃ s : ByteArray, v = .string s ∧ NmS s) (fun _ _ _ _ h => h) ?_ ?_
                · intro c A w' hok hC hO hD
                  simp [depsL, IsV, slotv, Act.eval, Region.binds] at hD
                  obtain ⟨g, r, hr, h1, hg1, hg2⟩ := hD
                  obtain ⟨s, hs, hsz⟩ := nm4_at r h1
                  simp [go_sem, gd, Oper.wp, hr, (cellb hg2 hs)]
                  exact WPost.mk (Mk.refl _ _) hC (⟨s, rfl, hsz⟩)
                simp only [List.nil_append, List.cons_append]
                refine ObP.some (fun v w' => ∃ g, v = .slice (some ⟨g, 0, none⟩) 1 1 ∧ ∃ s : ByteArray, W6.heap.size ≤ g ∧ w'.heap[g]? = some (.cells (txF s).toArray 9 (0, 0)) ∧ NmS s) ?_ ?_ ?_
                · rintro v w1 w' hle ⟨g, h1, s, h2, h3, h4⟩
                  exact ⟨g, h1, s, h2, (hle.block g (Array.getElem?_eq_some_iff.1 h3).1 (by have := HLL.out; have := HS6.out; omega) (by have := HLL.out; have := HS6.out; omega)).trans h3, h4⟩
                · intro c A w' hok hC hO hD
                  simp [depsL, IsV, slotv, Act.eval, Region.binds] at hD
                  obtain ⟨s, hs, hsn⟩ := hD
                  simp [go_sem, gd, Oper.wp, hs]
                  refine WPost.mk (d := _) (v := .slice (some ⟨_, 0, none⟩) 1 1) (Mk.of_below (alloc_below _ _)) ⟨hC.1.trans (Mk.of_below (alloc_below _ _)), hC.2.below (alloc_below _ _)⟩ ?_
                  first | exact ⟨_, rfl, s, hC.1.size, heap_alloc_new _ _, hsn⟩ | exact ⟨_, rfl, hC.1.size, s, heap_alloc_new _ _, hsn⟩
                try simp only [List.nil_append, List.cons_append]
                refine ObP.done ?_
                intro wz hCz
                try simp only [List.drop_zero, List.drop_succ_cons]
                intro v0 h0 v1 h1 v2 h2 v3 h3 v4 h4 v5 h5 v6 h6 v7 h7 v8 h8 v9 h9 v10 h10
                have h0' := Eq.symm (show v0 = _ from h0)
                subst h0'
                have h1' := Eq.symm (show v1 = _ from h1)
                subst h1'
                clear h0 h1 h2 h3 h4 h5 h6 h7 h8 h9
                obtain ⟨bb, rfl, s', hbb, hcell, hsn⟩ := h10
                clear hd1 hd2 K0 Y2
                refine AllVals.nil ?_
                go_simp
                refine wpAny_one 11 [[], [0], [], [], [3], [3, 4], [3, 4, 5], [3, 4, 5, 6], [2, 3, 4, 5, 6, 7], [2, 3, 4, 5, 6, 7, 8], [2, 3, 4, 5, 6, 7, 8, 9], [0, 1, 2, 3, 4, 5, 6, 7, 8, 9, 10], [0, 1, 2, 3, 4, 5, 6, 7, 8, 9, 10, 11], [0, 1, 2, 3, 4, 5, 6, 7, 8, 9, 10, 11, 12]] rfl rfl rfl rfl rfl (by kernel_rfl) (by kernel_rfl) (by kernel_rfl) ?_
                obtain ⟨i0, hi0, hz0, hz1, hz2⟩ := tx_info
                have HTZ := Lib.hid (HT6.out.go hCz.1 hCz.2)
                have HSN := Lib.hid hsn
                refine wp_append_lies wz _ _ _ (by rfl) W0.heap.size 9 i0 _ 1 16 Tryd.underlying41 hi0 hz0 hz1 hz2 (by rfl) (by omega) (.slice (some ⟨lb, 0, none⟩) 2 2) lc2.length (lc2.flatMap txF) (by rfl) HTZ.out.gl.own ⟨bb, 0, none⟩ 1 1 (txF s') (by rfl) (by rfl) (new_cells hcell) (by simp [txF, Value.oneCell']) (by decide) (by unfold maxLen; decide) (by decide) (Nat.le_trans HTZ.out.lt.2.2.2 (Nat.le_of_succ_le HTZ.out.sz)) _ rfl ?_
                intro g' cap' w5 hown hgr hmv hlt'
                clear hi0 hz0 hz1 hz2 hcell hCz hbb hsn
                have HG5 := Lib.hid (HTZ.out.gl.push (x := s') (fun _ _ => trivial) rfl hown hgr hmv)
                have HNE : Hid (g' ≠ tb) := Lib.hid (by
                  rcases hmv with h | h
                  · exact HTZ.out.ne g' h
                  · have := HTZ.out.sz; omega)
                have HB5 : Hid (Below W0.heap.size wz w5) := Lib.hid (below_of_grown hgr (fun k hk => (HTZ.out.gl.lt k hk).1) (Nat.le_trans HTZ.out.lt.2.2.2 (Nat.le_of_succ_le HTZ.out.sz)))
                have HBX : Hid (w5.heap[tb]? = some (.cells #[.string s, .int .i64 l, .slice (some ⟨lb, 0, none⟩) 2 2, .slice none 0 0] 44 (0, 0))) := Lib.hid ((hgr.block tb (Nat.lt_of_succ_le HTZ.out.sz) (fun e => HTZ.out.ne tb e.symm rfl)).trans HTZ.out.box)
                clear hown hgr hmv hlt'
                have HLO : Hid (∀ x ∈ lc2 ++ [s'], NmS x) := Lib.hid (fun x hx => by
                  rcases List.mem_append.1 hx with hx | hx
                  · exact lc2_ok x hx
                  · rw [List.mem_singleton.1 hx]; exact HSN.out)
                have HT7 := Lib.hid (TI.locs' (locs' := lc2 ++ [s']) HBX.out HG5.out (fun k hk => by injection hk with hk; have hk : g' = k := hk; have := HNE.out; omega) ⟨HT6.out.ok.1, HT6.out.ok.2.1, HLO.out, by simp [lc2]⟩ (HTZ.out.mi.belowB HB5.out HTZ.out.lt.1 HTZ.out.lt.2.1 HTZ.out.lt.2.2.1) (HTZ.out.km.thenB HB5.out) HTZ.out.lt)
                have y2 : w5.cell? ⟨tb, 2, none⟩ = some (.slice (some ⟨lb, 0, none⟩) 2 2) := cellb HBX.out rfl
                have f2 : w5.frozen? ⟨tb, 2, none⟩ = false := free_blk HBX.out
                clear HBX HG5 HB5 HTZ HNE HLO
                go_simp
                refine wpAny_phase 12 13 [] [[], [0], [], [], [3], [3, 4], [3, 4, 5], [3, 4, 5, 6], [2, 3, 4, 5, 6, 7], [2, 3, 4, 5, 6, 7, 8], [2, 3, 4, 5, 6, 7, 8, 9], [0, 1, 2, 3, 4, 5, 6, 7, 8, 9, 10], [0, 1, 2, 3, 4, 5, 6, 7, 8, 9, 10, 11], [0, 1, 2, 3, 4, 5, 6, 7, 8, 9, 10, 11, 12]] [[]] (fun _ w' => w' = w5) (fun w w' => w = w') [128] rfl rfl (by rfl) (by kernel_rfl) (by kernel_rfl) (by kernel_rfl) (by kernel_rfl) (by kernel_rfl) (by rfl) (fun _ => rfl) (by rfl) rfl ?_
                simp only [List.take_succ_cons, List.take_zero, List.drop_zero, List.drop_succ_cons, dumE, List.map_cons, List.map_nil]
                apply ObP.step
                case hobl =>
                  intro c A w' hok hC hO hD
                  have e10 := hO 10 (by rfl)
                  simp [Act.eval] at e10
                  simp [depsL, IsV, slotv, Act.eval, Region.binds] at hD
                  simp [go_sem, gd, Oper.wp, hD, e10]
                  exact WPost.mk rfl hC (IsV.mk _ _)
                try simp only [List.nil_append, List.cons_append]
                refine ObP.done ?_
                intro wz hCz
                try simp only [List.drop_zero, List.drop_succ_cons]
                intro v0 h0
                have h0' := Eq.symm (show v0 = _ from h0)
                subst h0'
                clear h0
                refine AllVals.nil ?_
                go_simp
                refine wpAny_one 13 [[], [0], [], [], [3], [3, 4], [3, 4, 5], [3, 4, 5, 6], [2, 3, 4, 5, 6, 7], [2, 3, 4, 5, 6, 7, 8], [2, 3, 4, 5, 6, 7, 8, 9], [0, 1, 2, 3, 4, 5, 6, 7, 8, 9, 10], [0, 1, 2, 3, 4, 5, 6, 7, 8, 9, 10, 11], [0, 1, 2, 3, 4, 5, 6, 7, 8, 9, 10, 11, 12]] rfl rfl rfl rfl rfl (by kernel_rfl) (by kernel_rfl) (by kernel_rfl) ?_
                subst hCz
                simp [go_sem, Oper.wp, y2, f2]
                refine wpAny_end rfl ?_
                clear y2 f2
                go_simp
                go_wp2_with fail
                go_meet
                refine ⟨rfl, ?_⟩
                exact ⟨_, _, _, HT7.out⟩
            · have y0 := cellb (j := 0) HT6.out.box rfl
              have f0 : W6.frozen? ⟨tb, 0, none⟩ = false := free_blk HT6.out.box
              have HTN := Lib.hid (HT6.out.name (s := ⟨#[116]⟩) ⟨by unfold maxLen; decide, by rfl⟩)
              go_wp2_with fail
              go_meet
              refine ⟨rfl, ?_⟩
              exact ⟨_, _, _, HTN.out⟩
          obtain ⟨rfl, s', vL, lc, hT⟩ := hcut
          obtain ⟨W7, rfl⟩ : ∃ W : World, W = wc := ⟨_, rfl⟩
          have HT7 := Lib.hid hT
          clear hT HT6
          have HS7 : Hid (tb + 1 ≤ W7.heap.size) := Lib.hid HT7.out.sz
          have HLL : Hid (T.bt < W0.heap.size ∧ T.bm < W0.heap.size ∧ W0.heap.size ≤ tb) := Lib.hid (by have := HT7.out.lt; omega)
          have hd1 : Mk T W7 (W7.drewN 1) := Mk.of_below (below_drewN (Below.refl _ _) 1)
          have hd2 : MdI (W7.drewN 1) T := HT7.out.mi.below (below_drewN (Below.refl _ _) 1)
          have K0 : ∀ w', MdI w' T → w'.cell? ⟨T.bm, 0, none⟩ = some (.pointer (some ⟨T.bt, 0, none⟩)) := fun w' h => h.ptr
          have KL : ∀ w', MdI w' T → ∃ q : Int, w'.cell? ⟨T.bm, 2, none⟩ = some (.int .i64 q) ∧ 0 ≤ q ∧ q ≤ 100 := fun w' h => by
            obtain ⟨x, q, -, h1, h2, h3⟩ := h.blm
            exact ⟨q, (cell_blk h3 (j := 2) rfl).2, h1, h2⟩
          have HE2 : Hid (SlSays T 2) := Lib.hid (stmts_any T 2 (by decide))
          have HE7 : Hid (SlSays T 7) := Lib.hid (stmts_any T 7 (by decide))
          go_upto_region 30 with fail
          refine wpAny_start (by kernel_rfl) rfl ?_
          refine wpAny_phase 0 24 [] [[], [], [1], [1, 2], [1, 2, 3], [1, 2, 3, 4], [1, 2, 3, 4, 5], [1, 2, 3, 4, 5, 6], [1, 2, 3, 4, 5, 6, 7], [], [9], [9, 10], [9, 10, 11], [1, 2, 3, 4, 5, 9, 10, 11, 12], [1, 2, 3, 4, 5, 9, 10, 11, 12, 13], [], [15], [15, 16], [15, 16, 17], [15, 16, 17, 18], [15, 16, 17, 18, 19], [1, 2, 3, 4, 5, 9, 10, 11, 12, 13, 14, 15, 16, 17, 18, 19, 20], [0, 1, 2, 3, 4, 5, 6, 7, 8, 9, 10, 11, 12, 13, 14, 15, 16, 17, 18, 19, 20, 21], [0, 1, 2, 3, 4, 5, 6, 7, 8, 9, 10, 11, 12, 13, 14, 15, 16, 17, 18, 19, 20, 21, 22], [0, 1, 2, 3, 4, 5, 6, 7, 8, 9, 10, 11, 12, 13, 14, 15, 16, 17, 18, 19, 20, 21, 22, 23]] [[], [], [], [], [], [], [], [], [], [], [], [], [], [], [], [], [], [], [], [], [], [], [], []] (fun _ w' => Mk T W7 w' ∧ MdI w' T) (fun w w' => Mk T w w') [133, 134, 135, 136, 137, 138, 139, 140, 141, 142, 143, 144, 145, 146, 147, 148, 149, 150, 151, 152, 153, 154, 155, 156] rfl rfl (by rfl) (by kernel_rfl) (by kernel_rfl) (by kernel_rfl) (by kernel_rfl) (by kernel_rfl) (by rfl) (fun _ => Mk.refl _ _) (by rfl) ⟨hd1, hd2⟩ ?_
          simp only [List.take_succ_cons, List.take_zero, List.drop_zero, List.drop_succ_cons, dumE, List.map_cons, List.map_nil]
          apply ObP.step
          case hobl =>
            intro c A w' hok hC hO hD
            have e3 := hO 3 (by rfl)
            simp [Act.eval] at e3
            simp [depsL, IsV, slotv, Act.eval, Region.binds] at hD
            simp [go_sem, gd, Oper.wp, hD, e3]
            exact WPost.mk (Mk.refl _ _) hC (IsV.mk _ _)
          apply ObP.step
          case hobl =>
            intro c A w' hok hC hO hD
            have e3 := hO 3 (by rfl)
            simp [Act.eval] at e3
            simp [depsL, IsV, slotv, Act.eval, Region.binds] at hD
            simp [go_sem, gd, Oper.wp, hD, e3]
            exact WPost.mk (Mk.refl _ _) hC (IsV.mk _ _)
          apply ObP.step
          case hobl =>
            intro c A w' hok hC hO hD
            simp [depsL, IsV, slotv, Act.eval, Region.binds] at hD
            simp [go_sem, gd, Oper.wp, hD]
            exact WPost.mk (Mk.refl _ _) hC (IsV.mk _ _)
          simp only [List.nil_append, List.cons_append]
          apply ObP.step
          case hobl =>
            intro c A w' hok hC hO hD
            simp [depsL, IsV, slotv, Act.eval, Region.binds] at hD
            simp [go_sem, gd, Oper.wp, hD]
            exact WPost.mk (Mk.refl _ _) hC (IsV.mk _ _)
          apply ObP.step
          case hobl =>
            intro c A w' hok hC hO hD
            simp [depsL, IsV, slotv, Act.eval, Region.binds] at hD
            simp [go_sem, gd, Oper.wp, hD, K0, hC.2]
            exact WPost.mk (Mk.refl _ _) hC (IsV.mk _ _)
          refine ObP.some (fun v _ => ∃ r : Nat, v = .int .i64 (r : Int) ∧ r < 6) (fun _ _ _ _ h => h) ?_ ?_
          · intro c A w' hok hC hO hD
            simp [depsL, IsV, slotv, Act.eval, Region.binds] at hD
            simp [go_sem, gd, Oper.wp, hD]
            refine (NextM_any T 6 w' (by unfold I64; decide) hC.2).mono ?_
            rintro e w2 ⟨r, rfl, h0, h1, -, hM, hI⟩
            obtain ⟨r', rfl⟩ := Int.eq_ofNat_of_zero_le h0
            exact WPost.mk hM ⟨hC.1.trans hM, hI⟩ ⟨r', rfl, by have := h1 (by decide); omega⟩
          simp only [List.nil_append, List.cons_append]
          refine ObP.some (fun v _ => v = .int .i64 0 ∨ v = .int .i64 1) (fun _ _ _ _ h => h) ?_ ?_
          · intro c A w' hok hC hO hD
            simp [depsL, IsV, slotv, Act.eval, Region.binds] at hD
            obtain ⟨r, hr, hr6⟩ := hD
            have hr6 : r = 0 ∨ r = 1 ∨ r = 2 ∨ r = 3 ∨ r = 4 ∨ r = 5 := by omega
            rcases hr6 with rfl | rfl | rfl | rfl | rfl | rfl
            all_goals
              simp [go_sem, gd, Oper.wp, hr]
              exact WPost.mk (Mk.refl _ _) hC (by first | exact .inl rfl | exact .inr rfl)
          simp only [List.nil_append, List.cons_append]
          refine ObP.some (fun v _ => v = .int .i64 0 ∨ v = .int .i64 5) (fun _ _ _ _ h => h) ?_ ?_
          · intro c A w' hok hC hO hD
            simp [depsL, IsV, slotv, Act.eval, Region.binds] at hD
            rcases hD with hr | hr
            all_goals
              simp [go_sem, gd, Oper.wp, hr]
              exact WPost.mk (Mk.refl _ _) hC (by first | exact .inl rfl | exact .inr rfl)
          simp only [List.nil_append, List.cons_append]
          refine ObP.some (fun v _ => v = .int .i64 2 ∨ v = .int .i64 7) (fun _ _ _ _ h => h) ?_ ?_
          · intro c A w' hok hC hO hD
            simp [depsL, IsV, slotv, Act.eval, Region.binds] at hD
            rcases hD with hr | hr
            all_goals
              simp [go_sem, gd, Oper.wp, hr]
              exact WPost.mk (Mk.refl _ _) hC (by first | exact .inl rfl | exact .inr rfl)
          simp only [List.nil_append, List.cons_append]
          apply ObP.step
          case hobl =>
            intro c A w' hok hC hO hD
            have e3 := hO 3 (by rfl)
            simp [Act.eval] at e3
            simp [depsL, IsV, slotv, Act.eval, Region.binds] at hD
            simp [go_sem, gd, Oper.wp, hD, e3]
            exact WPost.mk (Mk.refl _ _) hC (IsV.mk _ _)
          apply ObP.step
          case hobl =>
            intro c A w' hok hC hO hD
            simp [depsL, IsV, slotv, Act.eval, Region.binds] at hD
            simp [go_sem, gd, Oper.wp, hD]
            exact WPost.mk (Mk.refl _ _) hC (IsV.mk _ _)
          apply ObP.step
          case hobl =>
            intro c A w' hok hC hO hD
            simp [depsL, IsV, slotv, Act.eval, Region.binds] at hD
            simp [go_sem, gd, Oper.wp, hD]
            exact WPost.mk (Mk.refl _ _) hC (IsV.mk _ _)
          simp only [List.nil_append, List.cons_append]
          apply ObP.step
          case hobl =>
            intro c A w' hok hC hO hD
            simp [depsL, IsV, slotv, Act.eval, Region.binds] at hD
            simp [go_sem, gd, Oper.wp, hD, K0, hC.2]
            exact WPost.mk (Mk.refl _ _) hC (IsV.mk _ _)
          refine ObP.some (fun v _ => ∃ r : Nat, v = .int .i64 (r : Int) ∧ r < 4) (fun _ _ _ _ h => h) ?_ ?_
          · intro c A w' hok hC hO hD
            simp [depsL, IsV, slotv, Act.eval, Region.binds] at hD
            simp [go_sem, gd, Oper.wp, hD]
            refine (NextM_any T 4 w' (by unfold I64; decide) hC.2).mono ?_
            rintro e w2 ⟨r, rfl, h0, h1, -, hM, hI⟩
            obtain ⟨r', rfl⟩ := Int.eq_ofNat_of_zero_le h0
            exact WPost.mk hM ⟨hC.1.trans hM, hI⟩ ⟨r', rfl, by have := h1 (by decide); omega⟩
          simp only [List.nil_append, List.cons_append]
          refine ObP.some (fun v w' => ∃ r : Nat, v = .int .i64 (r : Int) ∧ 1 ≤ r ∧ r ≤ 4) (fun _ _ _ _ h => h) ?_ ?_
          · intro c A w' hok hC hO hD
            simp [depsL, IsV, slotv, Act.eval, Region.binds] at hD
            obtain ⟨r, hr, hr8⟩ := hD
            have hw : IntKind.i64.wrap (1 + (r : Int)) = 1 + r := IntWalk.i64_in _ (by omega)
            simp [go_sem, gd, Oper.wp, hr, hw]
            exact WPost.mk (Mk.refl _ _) hC (⟨1 + r, by simp, by omega, by omega⟩)
          simp only [List.nil_append, List.cons_append]
          apply ObP.step
          case hobl =>
            intro c A w' hok hC hO hD
            have e3 := hO 3 (by rfl)
            simp [Act.eval] at e3
            simp [depsL, IsV, slotv, Act.eval, Region.binds] at hD
            simp [go_sem, gd, Oper.wp, hD, e3]
            exact WPost.mk (Mk.refl _ _) hC (IsV.mk _ _)
          apply ObP.step
          case hobl =>
            intro c A w' hok hC hO hD
            simp [depsL, IsV, slotv, Act.eval, Region.binds] at hD
            simp [go_sem, gd, Oper.wp, hD]
            exact WPost.mk (Mk.refl _ _) hC (IsV.mk _ _)
          apply ObP.step
          case hobl =>
            intro c A w' hok hC hO hD
            simp [depsL, IsV, slotv, Act.eval, Region.binds] at hD
            simp [go_sem, gd, Oper.wp, hD]
            exact WPost.mk (Mk.refl _ _) hC (IsV.mk _ _)
          simp only [List.nil_append, List.cons_append]
          refine ObP.some (fun v w' => ∃ q : Nat, v = .int .i64 (q : Int) ∧ q ≤ 100) (fun _ _ _ _ h => h) ?_ ?_
          · intro c A w' hok hC hO hD
            simp [depsL, IsV, slotv, Act.eval, Region.binds] at hD
            obtain ⟨q', hq, hq0, hq1⟩ := KL w' hC.2
            obtain ⟨q, rfl⟩ := Int.eq_ofNat_of_zero_le hq0
            simp [go_sem, gd, Oper.wp, hD, hq]
            exact WPost.mk (Mk.refl _ _) hC (⟨q, rfl, by omega⟩)
          simp only [List.nil_append, List.cons_append]
          refine ObP.some (fun v w' => ∃ q : Nat, v = .int .i64 (q : Int) ∧ q ≤ 5) (fun _ _ _ _ h => h) ?_ ?_
          · intro c A w' hok hC hO hD
            simp [depsL, IsV, slotv, Act.eval, Region.binds] at hD
            obtain ⟨q, hr, hr8⟩ := hD
            have hw : IntKind.i64.wrap ((q : Int) / 20) = (q : Int) / 20 := IntWalk.i64_in _ (by omega)
            simp [go_sem, gd, Oper.wp, hr, hw]
            exact WPost.mk (Mk.refl _ _) hC (⟨q / 20, by simp, by omega⟩)
          simp only [List.nil_append, List.cons_append]
          refine ObP.some (fun v w' => ∃ q : Nat, v = .int .i64 (q : Int) ∧ q ≤ 50) (fun _ _ _ _ h => h) ?_ ?_
          · intro c A w' hok hC hO hD
            simp [depsL, IsV, slotv, Act.eval, Region.binds] at hD
            obtain ⟨q, hr, hr8⟩ := hD
            have hw : IntKind.i64.wrap ((q : Int) * 10) = ((q * 10 : Nat) : Int) := (IntWalk.i64_in _ (by omega)).trans (by omega)
            simp [go_sem, gd, Oper.wp, hr, hw]
            exact WPost.mk (Mk.refl _ _) hC (⟨q * 10, by simp, by omega⟩)
          simp only [List.nil_append, List.cons_append]
          refine ObP.some (fun v w' => ∃ q : Nat, v = .int .i64 (q : Int) ∧ q ≤ 54) (fun _ _ _ _ h => h) ?_ ?_
          · intro c A w' hok hC hO hD
            simp [depsL, IsV, slotv, Act.eval, Region.binds] at hD
            obtain ⟨⟨r, hr, hr1, hr4⟩, q, hq, hq5⟩ := hD
            have hw : IntKind.i64.wrap ((r : Int) + (q : Int)) = ((r + q : Nat) : Int) := (IntWalk.i64_in _ (by omega)).trans (by omega)
            simp [go_sem, gd, Oper.wp, hr, hq, hw]
            exact WPost.mk (Mk.refl _ _) hC (⟨r + q, by simp, by omega⟩)
          simp only [List.nil_append, List.cons_append]
          refine ObP.some (fun v w' => ∃ (l : StL) (ao : Option Addr) (cap : Nat), v = .slice ao (StL.len l) cap ∧ (StL.len l ≤ 1000 ∧ shpSL l = true) ∧ Stay W7.heap.size w' (fun w2 => l.At w2 w2.heap.size ao 0)) ?_ ?_ ?_
          · rintro v w1 w' hle ⟨l, ao, cap, h1, h2, h3⟩
            exact ⟨l, ao, cap, h1, h2, h3.next (hle.abv (by have := HLL.out; have := HS7.out; omega) (by have := HLL.out; have := HS7.out; omega))⟩
          · intro c A w' hok hC hO hD
            simp [depsL, IsV, slotv, Act.eval, Region.binds] at hD
            obtain ⟨h133, h141, ⟨q, hq, hq5⟩, -⟩ := hD
            rcases h141 with h141 | h141
            · simp [go_sem, gd, Oper.wp, h133, h141, hq]
              refine (HE2.out w' _ hC.2 (by unfold I64; omega) (by omega)).mono ?_
              rintro e w3 ⟨l, ao, cap, rfl, h1, h2, h3, h4⟩
              exact WPost.mk h3 ⟨hC.1.trans h3, h4⟩ ⟨l, ao, ⟨cap, rfl⟩, h1, h2.mono hC.1.size⟩
            · simp [go_sem, gd, Oper.wp, h133, h141, hq]
              refine (HE7.out w' _ hC.2 (by unfold I64; omega) (by omega)).mono ?_
              rintro e w3 ⟨l, ao, cap, rfl, h1, h2, h3, h4⟩
              exact WPost.mk h3 ⟨hC.1.trans h3, h4⟩ ⟨l, ao, ⟨cap, rfl⟩, h1, h2.mono hC.1.size⟩
          simp only [List.nil_append, List.cons_append]
          apply ObP.step
          case hobl =>
            intro c A w' hok hC hO hD
            have e10 := hO 10 (by rfl)
            simp [Act.eval] at e10
            simp [depsL, IsV, slotv, Act.eval, Region.binds] at hD
            simp [go_sem, gd, Oper.wp, hD, e10]
            exact WPost.mk (Mk.refl _ _) hC (IsV.mk _ _)
          try simp only [List.nil_append, List.cons_append]
          refine ObP.done ?_
          intro wz hCz
          try simp only [List.drop_zero, List.drop_succ_cons]
          intro v0 h0 v1 h1 v2 h2 v3 h3 v4 h4 v5 h5 v6 h6 v7 h7 v8 h8 v9 h9 v10 h10 v11 h11 v12 h12 v13 h13 v14 h14 v15 h15 v16 h16 v17 h17 v18 h18 v19 h19 v20 h20 v21 h21 v22 h22 v23 h23
          have h23' := Eq.symm (show v23 = _ from h23)
          subst h23'
          clear h0 h1 h2 h3 h4 h5 h6 h7 h8 h9 h10 h11 h12 h13 h14 h15 h16 h17 h18 h19 h20 h21 h23
          obtain ⟨lb', ao', cap', rfl, hlen, hst⟩ := h22
          clear hd1 hd2 K0 KL HE2 HE7
          refine AllVals.nil ?_
          go_simp
          refine wpAny_one 24 [[], [], [1], [1, 2], [1, 2, 3], [1, 2, 3, 4], [1, 2, 3, 4, 5], [1, 2, 3, 4, 5, 6], [1, 2, 3, 4, 5, 6, 7], [], [9], [9, 10], [9, 10, 11], [1, 2, 3, 4, 5, 9, 10, 11, 12], [1, 2, 3, 4, 5, 9, 10, 11, 12, 13], [], [15], [15, 16], [15, 16, 17], [15, 16, 17, 18], [15, 16, 17, 18, 19], [1, 2, 3, 4, 5, 9, 10, 11, 12, 13, 14, 15, 16, 17, 18, 19, 20], [0, 1, 2, 3, 4, 5, 6, 7, 8, 9, 10, 11, 12, 13, 14, 15, 16, 17, 18, 19, 20, 21], [0, 1, 2, 3, 4, 5, 6, 7, 8, 9, 10, 11, 12, 13, 14, 15, 16, 17, 18, 19, 20, 21, 22], [0, 1, 2, 3, 4, 5, 6, 7, 8, 9, 10, 11, 12, 13, 14, 15, 16, 17, 18, 19, 20, 21, 22, 23]] rfl rfl rfl rfl rfl (by kernel_rfl) (by kernel_rfl) (by kernel_rfl) ?_
          have HTZ := Lib.hid (HT7.out.go hCz.1 hCz.2)
          have HLB := Lib.hid hlen
          have HST := Lib.hid hst
          have y3 : wz.cell? ⟨tb, 3, none⟩ = some (.slice none 0 0) := cellb HTZ.out.box rfl
          have f3 : wz.frozen? ⟨tb, 3, none⟩ = false := free_blk HTZ.out.box
          clear hCz hlen hst HT7
          simp [go_sem, Oper.wp, y3, f3]
          refine wpAny_end rfl ?_
          generalize hW8 : World.setCell wz _ _ = W8
          have HT8 : Hid (TI T W0 tb W8 s' l vL lc (.slice ao' lb'.len cap')) := Lib.hid (by rw [← hW8]; exact HTZ.out.body)
          have HSB : Hid (Stay W7.heap.size W8 (fun w2 => lb'.At w2 w2.heap.size ao' 0)) := Lib.hid (by rw [← hW8]; exact HST.out.next (abv_set _ _ _ HS7.out))
          clear hW8 y3 f3 HTZ HST
          go_simp
          have HP8 := Lib.hid (HP0.out.go HT8.out.km HT8.out.mi)
          obtain ⟨aol, capl, el, hcl, hsl⟩ := HT8.out.gl.says (fun x hx => (HT8.out.ok.2.2.1 x hx).1)
          subst el
          have HSL := Lib.hid (And.intro hcl hsl)
          clear hcl hsl
          have y0 : W8.cell? ⟨tb, 0, none⟩ = some (.string s') := cellb HT8.out.box rfl
          have y1 : W8.cell? ⟨tb, 1, none⟩ = some (.int .i64 l) := cellb HT8.out.box rfl
          have y2 : W8.cell? ⟨tb, 2, none⟩ = some (.slice aol lc.length capl) := cellb HT8.out.box rfl
          have y3 : W8.cell? ⟨tb, 3, none⟩ = some (.slice ao' lb'.len cap') := cellb HT8.out.box rfl
          have yT : W8.cell? ⟨pb, 1, none⟩ = some vT := cellb HP8.out.box rfl
          have HX : Hid (StayX (nb + 1) vT.ownBlock W8 (ThI.I ⟨⟨s', l, lc, lb'⟩, aol, capl, ao', cap'⟩)) := Lib.hid (by
            refine stayX_of (B1 := W0.heap.size) ?_ HSZ.out (fun k hk => (HP0.out.gt.lt k hk).2)
            have hb2 : W0.heap.size ≤ W7.heap.size := by have := HLL.out; have := HS7.out; omega
            exact fun w' h' => ⟨HSL.out.2 w' h', (HSB.out.mono hb2) w' h'⟩)
          have HOK : Hid (((⟨s', l, lc, lb'⟩ : Th).Ok ∧ lc.length ≤ capl) ∧ ShT ⟨s', l, lc, lb'⟩) := Lib.hid ⟨⟨⟨HT8.out.ok.1.1, HT8.out.ok.2.1, by have := HT8.out.ok.2.2.2; show lc.length ≤ maxLen; unfold maxLen; omega, by have := HLB.out.1; show lb'.len ≤ maxLen; unfold maxLen; omega⟩, HSL.out.1⟩, HT8.out.ok.1.2, fun x hx => (HT8.out.ok.2.2.1 x hx).2, HLB.out.2⟩
          have HPA := Lib.hid (HP8.out.go (Mk.of_below (alloc_below W8 (.cells (ThI.f ⟨⟨s', l, lc, lb'⟩, aol, capl, ao', cap'⟩).toArray 44))) (HP8.out.mi.below (alloc_below _ _)))
          have HNC := Lib.hid (new_cells (heap_alloc_new W8 (.cells (ThI.f ⟨⟨s', l, lc, lb'⟩, aol, capl, ao', cap'⟩).toArray 44)))
          obtain ⟨i0, hi, hz0, hz1, hz2⟩ := th_info
          have hbs : nb + 1 ≤ W8.heap.size + 1 := Nat.le_succ_of_le HP8.out.sz
          have hkl : ths.length + 1 ≤ maxLen := by rw [HTH.out]; unfold maxLen; omega
          have hkb : (ths.length + 1) * 72 ≤ 140737488355328 := by rw [HTH.out]; omega
          go_wp2_with (at_builtin; refine wpList_append_lies _ rfl _ _ 27 rfl (nb + 1) 44 i0 _ 4 72 Tryd.underlying27 hi hz0 hz1 hz2 rfl (by decide) _ _ _ rfl HPA.out.gt.own ⟨W8.heap.size, 0, none⟩ 1 1 (ThI.f ⟨⟨s', l, lc, lb'⟩, aol, capl, ao', cap'⟩) rfl rfl HNC.out (thf_one _) (by decide) hkl hkb (by simpa using hbs) _ rfl ?_)
          clear hi hz0 hz1 hz2 hbs hkl hkb
          intro g' cap2 w9 hown hgr hmv hlt'
          have HP9 := Lib.hid (HPA.out.push (HX.out.next (abv_below (alloc_below _ _)).x) HOK.out rfl hown hgr (by simpa using hmv))
          have HB9 : Hid (Below (nb + 1) (W8.alloc (.cells (ThI.f ⟨⟨s', l, lc, lb'⟩, aol, capl, ao', cap'⟩).toArray 44)) w9) := Lib.hid (below_of_grown hgr (fun k hk => (HPA.out.gt.lt k hk).1) HPA.out.sz)
          have HBX : Hid (w9.heap[pb]? = some (.cells #[vD, vT] 29 (0, 0))) := Lib.hid ((HB9.out.block pb (by have := HLT.out; omega)).trans HPA.out.box)
          have z1 : w9.cell? ⟨pb, 1, none⟩ = some vT := cellb HBX.out rfl
          have f1 : w9.frozen? ⟨pb, 1, none⟩ = false := free_blk HBX.out
          clear hown hgr hmv hlt' y0 y1 y2 y3 yT HNC HPA HX HBX HB9
          go_wp2_with fail
          go_roundw
          case rel => exact ⟨k + 1, _, _, by go_num, by omega, by simp [HTH.out], HP9.out⟩
          case measure => simp [intOf]; omega
        · have hk : k = n' := by omega
          subst hk
          obtain ⟨aoD, capD, e1, hcd, hsD⟩ := HP.out.gd.says (fun x hx => (HP.out.okd x hx).1)
          obtain ⟨aoT, capT, e2, hct, hsT⟩ := HP.out.gt.says (fun x hx => (HP.out.okt x hx).1)
          subst e1 e2
          have HSS := Lib.hid (And.intro hsD (And.intro hsT (And.intro hcd hct)))
          clear hsD hsT hcd hct
          have y0 := cellb (j := 0) HP.out.box rfl
          have y1 := cellb (j := 1) HP.out.box rfl
          have HRW : Hid (wr.heap[w.heap.size]? = some (.cells #[.slice none 0 0, .slice none 0 0] 29 (0, 0))) := Lib.hid ((HP.out.km.block _ (Array.getElem?_eq_some_iff.1 HR2.out).1 (by have := HTB.out; omega) (by have := HTB.out; omega)).trans HR2.out)
          have z0 : wr.cell? ⟨w.heap.size, 0, none⟩ = some (.slice none 0 0) := cellb HRW.out rfl
          have z1 : wr.cell? ⟨w.heap.size, 1, none⟩ = some (.slice none 0 0) := cellb HRW.out rfl
          have f0 : ∀ j, wr.frozen? ⟨w.heap.size, j, none⟩ = false := fun j => free_blk HRW.out
          go_wp2_with fail
          have HAB : Hid (Abv (w.heap.size + 1) wr ((wr.setCell ⟨w.heap.size, 0, none⟩ (.slice aoD ds.length capD)).setCell ⟨w.heap.size, 1, none⟩ (.slice aoT ths.length capT))) := Lib.hid (Abv.trans (abv_set wr ⟨w.heap.size, 0, none⟩ (.slice aoD ds.length capD) (Nat.lt_succ_self w.heap.size)) (abv_set (wr.setCell ⟨w.heap.size, 0, none⟩ (.slice aoD ds.length capD)) ⟨w.heap.size, 1, none⟩ (.slice aoT ths.length capT) (Nat.lt_succ_self w.heap.size)))
          have HBF : Hid (Below w.heap.size w ((wr.setCell ⟨w.heap.size, 0, none⟩ (.slice aoD ds.length capD)).setCell ⟨w.heap.size, 1, none⟩ (.slice aoT ths.length capT))) := Lib.hid (((below_mk HBW.out HP.out.km (by have := HTB.out; omega) (by have := HTB.out; omega)).setCell (by simp) _).setCell (by simp) _)
          refine bodyPost_ret (v := .agg #[.slice aoD ds.length capD, .slice aoT ths.length capT]) (by simp [results, Tryd.results7, go_sem, z0, z1]) rfl ⟨⟨ds, ths.map (·.t)⟩, aoD, aoT, capD, capT, by simp, ⟨?_, ?_, ?_, ?_⟩, HSS.out.2.2.1, ?_, ?_, HBF.out⟩
          · show ds.length ≤ maxLen
            have := HDL.out; unfold maxLen; omega
          · show (ths.map (·.t)).length ≤ maxLen
            rw [List.length_map, HTH.out]; unfold maxLen; omega
          · exact HSS.out.1 _ (HAB.out.mono (by have := HTB.out; omega))
          · exact HSS.out.2.1 _ (HAB.out.mono (by have := HTB.out; have := HP.out.lt; omega))
          · show (ths.map (·.t)).length ≤ capT
            rw [List.length_map]; exact HSS.out.2.2.2
          · refine ⟨?_, by show (ths.map (·.t)).length ≤ 1000; rw [List.length_map, HTH.out]; omega⟩
            unfold shpP
            have e1 : ds.all shpD = true := List.all_eq_true.2 (fun x hx => (HP.out.okd x hx).2)
            have e2 : (ths.map (·.t)).all shpT = true := List.all_eq_true.2 (fun x hx => by
              obtain ⟨y, hy, rfl⟩ := List.mem_map.1 hx
              obtain ⟨q1, q2, q3⟩ := (HP.out.okt y hy).2
              unfold shpT
              rw [q1, q3, List.all_eq_true.2 (fun s hs => q2 s hs)]; rfl)
            have e3 : decide ((0 : Int) < ((ths.map (·.t)).length : Nat)) = true := by
              rw [List.length_map, HTH.out]; exact decide_eq_true (by omega)
            show ((ds.all shpD && (ths.map (·.t)).all shpT) && decide ((0 : Int) < ((ths.map (·.t)).length : Nat))) = true
            rw [e1, e2, e3]; rfl
end Go.Proofs.YtghdammalphmfaaDoor
end
section
namespace Go.Proofs.YtghdammalphmfaaDoor
open Go.ChangeShapes Go.WideShapes Go.ChangeAt Go.RowKit
open Go.WideMaps Go.WideElems
theorem cellsU8 : Tryd.prog.cellsOf 5 = 1 := by kernel_rfl
set_option maxRecDepth 100000 in
theorem bytes_arg {H : Type} {enc : TypeId × Value → H} {W : World} {base : Nat} {v : Value} {d : DataW H} {p : List MemPlace} (hv : Value.okWide Tryd.prog W .any base 22 v)
    (h : DataW.Trod enc Tryd.prog W 0 (fun _ => true) true 22 v d p) (hlt : ∀ x ∈ p, x.block < W.heap.size) :
    ∃ (ao : Option Addr) (len cap : Nat) (zs : List Int), v = .slice ao len cap ∧ zs.length = len ∧ len ≤ maxLen ∧ Byt W W.heap.size zs ao := by
  obtain ⟨a0, len, cap, rfl⟩ := okWide_slice Tryd.underlying22 hv
  obtain ⟨fuel, hf⟩ := h
  rcases open_ints Tryd.underlying22 Tryd.underlying5 cellsU8 hf with ⟨hcs, hx⟩ | ⟨a, len', cap', zs, hcs, _, hl, hm, hz, hx, hcell, hwz⟩
  · simp [Value.cells] at hcs
    obtain ⟨rfl, rfl, rfl⟩ := hcs
    exact ⟨none, 0, 0, [], rfl, rfl, Nat.zero_le _, fun k hk => absurd hk (by simp)⟩
  · simp [Value.cells] at hcs
    obtain ⟨rfl, rfl, rfl⟩ := hcs
    simp only [Prod.mk.injEq] at hx
    obtain ⟨rfl, rfl⟩ := hx
    simp only [if_true] at hz
    refine ⟨some a, len, cap, zs.take len, rfl, by rw [List.length_take]; omega, by omega, fun k hk => ?_⟩
    have hk' : k < zs.length := by rw [List.length_take] at hk; omega
    obtain ⟨b, off, spot⟩ := a
    have hspot : spot = none := by simpa [Addr.add] using World.cell?_spot (hcell 0 (by omega))
    subst hspot
    have hbW : b < W.heap.size := hlt (.cell b off) (MemPlace.mem_row.2 ⟨0, by omega, by simp⟩)
    have hb := bounds_u8 (hwz zs[k] (List.getElem_mem hk'))
    refine ⟨b, off, rfl, hbW, ?_, ?_⟩
    · rw [← add_plain, hcell k hk', List.getElem_take]
      simp [hk']
    · rw [List.getElem_take]; exact hb
end Go.Proofs.YtghdammalphmfaaDoor
end
