/-
  Contract of the maker's expr: it returns an expression that lies in new memory.
  Contract of the maker's lock: it returns a name.
-/
import Derived.Test.YtghdammalphmfaaDoorGMA
import Derived.Deep.RegionWith
section
set_option linter.unusedSimpArgs false
set_option linter.unusedVariables false
namespace Go.Proofs.YtghdammalphmfaaDoor
open Go.RowKit
open Md
def zEx : Array Value := #[.int .i64 0, .int .i64 0, .string ⟨#[]⟩, .slice none 0 0]
def nm10 : Array Value := #[.string ⟨#[120]⟩, .string ⟨#[121]⟩, .string ⟨#[97]⟩, .string ⟨#[98]⟩, .string ⟨#[118]⟩, .string ⟨#[113]⟩, .string ⟨#[109]⟩, .string ⟨#[116]⟩, .string ⟨#[122, 122]⟩, .string ⟨#[102]⟩]
def n8 : Array Value := #[.int .i64 0, .int .i64 1, .int .i64 2, .int .i64 3, .int .i64 7, .int .i64 10, .int .i64 100, .int .i64 9223372036854775807]
theorem n8_at : ∀ j, j < 8 → ∃ z, n8[j]? = some (.int .i64 z) ∧ I64 z ∧ 0 ≤ z := fun j hj => by
  have : j = 0 ∨ j = 1 ∨ j = 2 ∨ j = 3 ∨ j = 4 ∨ j = 5 ∨ j = 6 ∨ j = 7 := by omega
  rcases this with rfl | rfl | rfl | rfl | rfl | rfl | rfl | rfl <;> exact ⟨_, rfl, by unfold I64; decide, by decide⟩
theorem nm10_at : ∀ j, j < 10 → ∃ s, nm10[j]? = some (.string s) ∧ NmS s := fun j hj => by
  have : j = 0 ∨ j = 1 ∨ j = 2 ∨ j = 3 ∨ j = 4 ∨ j = 5 ∨ j = 6 ∨ j = 7 ∨ j = 8 ∨ j = 9 := by omega
  rcases this with rfl | rfl | rfl | rfl | rfl | rfl | rfl | rfl | rfl | rfl <;> exact ⟨_, rfl, by unfold maxLen; decide, by rfl⟩
def nm5 : Array Value := #[.string ⟨#[113]⟩, .string ⟨#[113]⟩, .string ⟨#[113]⟩, .string ⟨#[120]⟩, .string ⟨#[109]⟩]
theorem nm5_at : ∀ j, j < 5 → ∃ s, nm5[j]? = some (.string s) ∧ NmS s := fun j hj => by
  have : j = 0 ∨ j = 1 ∨ j = 2 ∨ j = 3 ∨ j = 4 := by omega
  rcases this with rfl | rfl | rfl | rfl | rfl <;> exact ⟨_, rfl, by unfold maxLen; decide, by rfl⟩
def ExSays (T : Tp) (d : Int) : Prop := ∀ w, MdI w T → Calls Tryd.prog 20 #[.pointer (some ⟨T.bm, 0, none⟩), .int .i64 d] w (ExP T w)
theorem zcells {w : World} {b : Nat} {t : TypeId} (h : w.heap[b]? = some (.cells zEx t (0, 0))) : (w.cell? ⟨b, 0, none⟩ = some (.int .i64 0) ∧ w.cell? ⟨b, 1, none⟩ = some (.int .i64 0) ∧ w.cell? ⟨b, 2, none⟩ = some (.string ⟨#[]⟩) ∧ w.cell? ⟨b, 3, none⟩ = some (.slice none 0 0)) ∧ (∀ j, w.frozen? ⟨b, j, none⟩ = false) :=
  ⟨⟨(cell_blk h (j := 0) rfl).2, (cell_blk h (j := 1) rfl).2, (cell_blk h (j := 2) rfl).2, (cell_blk h (j := 3) rfl).2⟩, fun j => free_blk h⟩
set_option maxHeartbeats 4000000 in
set_option maxRecDepth 100000 in
theorem expr_step (T : Tp) (d : Nat) (hd : d ≤ 100) (ih : ∀ d' : Nat, d = d' + 1 → ExSays T (d' : Int)) : ExSays T (d : Int) := by
  intro w hI
  have HI0 := Lib.hid hI
  have HIH := Lib.hid ih
  clear hI ih
  go_enter Tryd.func20, Tryd.ntmps20
  go_upto_region 2 with fail
  generalize hW : World.alloc (World.alloc w _) _ = W
  have HB : Hid (Below w.heap.size w W) := Lib.hid (by rw [← hW]; exact (alloc_below _ _).alloc (by simp) _)
  have HZ : Hid (W.heap[w.heap.size]? = some (.cells zEx 25 (0, 0))) := Lib.hid (by rw [← hW, heap_alloc_old _ _ (by simp)]; exact heap_alloc_new _ _)
  have HN : Hid (W.heap[w.heap.size + 1]? = some (.cells nm10 9 (0, 0))) := Lib.hid (by
    rw [← hW]
    have e : (World.alloc w (.cells zEx 25)).heap.size = w.heap.size + 1 := by simp
    rw [← e]; exact heap_alloc_new _ _)
  have HI := Lib.hid (HI0.out.below HB.out)
  have HTB : Hid (T.bt < w.heap.size ∧ T.bm < w.heap.size ∧ T.B0 ≤ w.heap.size) := Lib.hid ⟨HI0.out.tape.lt, HI0.out.lt, HI0.out.tape.b0⟩
  clear hW
  have c0 := HI.out.ptr
  go_wp2_with fail
  refine (NextM_any T 20 _ (by unfold I64; decide) HI.out).mono ?_
  rintro e w2 ⟨k, rfl, hk0, hk1, hk2, hM, hI2⟩
  have HM := Lib.hid ((Mk.of_below (T := T) HB.out).trans hM)
  have HZ2 : Hid (w2.heap[w.heap.size]? = some (.cells zEx 25 (0, 0))) := Lib.hid ((hM.block _ (Array.getElem?_eq_some_iff.1 HZ.out).1 (by have := HTB.out; omega) (by have := HTB.out; omega)).trans HZ.out)
  have HN2 : Hid (w2.heap[w.heap.size + 1]? = some (.cells nm10 9 (0, 0))) := Lib.hid ((hM.block _ (Array.getElem?_eq_some_iff.1 HN.out).1 (by have := HTB.out; omega) (by have := HTB.out; omega)).trans HN.out)
  have HI2 := Lib.hid hI2
  have hk20 : k < 20 := hk1 (by decide)
  clear hM hI2 HZ HN HI c0 HB hk1
  have hcase : (k < 4 ∨ (4 ≤ k ∧ d = 0 ∧ k < 10)) ∨ (4 ≤ k ∧ ¬ (d = 0 ∧ k < 10)) ∧ (k < 8 ∨ d = 0) ∨ (8 ≤ k ∧ d ≠ 0) := by omega
  rcases hcase with hA | hB | hC
  · have hA' : k < 4 ∨ (4 ≤ k ∧ ((d : Int) == 0) = true ∧ k < 10) := by
      rcases hA with hA | ⟨h1, h2, h3⟩
      · exact .inl hA
      · exact .inr ⟨h1, by simp [h2], h3⟩
    clear hA HIH
    rcases hA' with hA | ⟨hA1, hA2, hA3⟩
    all_goals
      go_upto_region 5 with fail
      obtain ⟨g, hg⟩ : ∃ g, w2.heap.size = g := ⟨_, rfl⟩
      generalize hW3 : World.alloc w2 _ = W3
      have HB3 : Hid (Below w2.heap.size w2 W3) := Lib.hid (by rw [← hW3]; exact alloc_below _ _)
      have HG3 : Hid (W3.heap[g]? = some (.cells n8 2 (0, 0))) := Lib.hid (by rw [← hW3, ← hg]; exact heap_alloc_new _ _)
      have HI3 := Lib.hid (HI2.out.below HB3.out)
      have HGB : Hid (w.heap.size < g) := Lib.hid (by rw [← hg]; exact (Array.getElem?_eq_some_iff.1 HZ2.out).1)
      rw [hg]
      have c0 := HI3.out.ptr
      clear hW3 hg
      go_wp2_with fail
      refine (NextM_any T 8 _ (by unfold I64; decide) HI3.out).mono ?_
      rintro e w4 ⟨r, rfl, hr0, hr1, hr2, hM4, hI4⟩
      obtain ⟨r', rfl⟩ := Int.eq_ofNat_of_zero_le hr0
      have hr8 : r' < 8 := by have := hr1 (by decide); omega
      have HZ4 : Hid (w4.heap[w.heap.size]? = some (.cells zEx 25 (0, 0))) := Lib.hid ((hM4.block _ (Nat.lt_of_lt_of_le (Array.getElem?_eq_some_iff.1 HZ2.out).1 HB3.out.size) (by have := HTB.out; omega) (by have := HTB.out; omega)).trans ((HB3.out.block _ (Array.getElem?_eq_some_iff.1 HZ2.out).1).trans HZ2.out))
      have HG4 : Hid (w4.heap[g]? = some (.cells n8 2 (0, 0))) := Lib.hid ((hM4.block _ (Array.getElem?_eq_some_iff.1 HG3.out).1 (by have := HTB.out; have := HGB.out; omega) (by have := HTB.out; have := HGB.out; omega)).trans HG3.out)
      obtain ⟨z, hz, hzI⟩ := n8_at r' hr8
      have cz : w4.cell? ⟨g, r', none⟩ = some (.int .i64 z) := (cell_blk HG4.out hz).2
      obtain ⟨⟨y0, y1, y2, y3⟩, fz⟩ := zcells HZ4.out
      have f0 := fz 0
      have f1 := fz 1
      have f2 := fz 2
      have f3 := fz 3
      have HM4 := Lib.hid ((HM.out.trans (Mk.of_below HB3.out)).trans hM4)
      have HI4 := Lib.hid hI4
      have HZI := Lib.hid hzI
      have hr80 : (0 : Int) ≤ (r' : Int) := by omega
      have hr81 : (r' : Int) < 8 := by omega
      clear hM4 hI4 hz hzI fz c0 hr0 hr1 hr2
      go_wp2_with fail
      obtain ⟨q1, q2, q3⟩ := fin4 (.int .i64 1) (.int .i64 z) (.string ⟨#[]⟩) (.slice none 0 0) HM4.out HI4.out HTB.out
      exact bodyPost_ret (v := exV 1 z ⟨#[]⟩ .nil none 0) (by simp [results, Tryd.results20, go_sem, exV, ExL.len, y0, y1, y2, y3]) rfl (exP_of q1 q2 ⟨1, z, ⟨#[]⟩, .nil, none, 0, rfl, ⟨⟨by unfold I64; decide, HZI.out.1, by unfold maxLen; decide, by unfold maxLen; decide⟩, shp_num HZI.out.2⟩, fun _ _ => trivial⟩)
  · have hB' : (4 ≤ k ∧ k < 8 ∧ ((d : Int) == 0) = false) ∨ (10 ≤ k ∧ ((d : Int) == 0) = true) := by
      rcases hB with ⟨⟨h1, h2⟩, h3 | h3⟩
      · exact .inl ⟨h1, h3, by rw [beq_eq_false_iff_ne]; omega⟩
      · exact .inr ⟨by omega, by simp [h3]⟩
    clear hB HIH
    have K0 : ∀ w', MdI w' T → w'.cell? ⟨T.bm, 0, none⟩ = some (.pointer (some ⟨T.bt, 0, none⟩)) := fun w' h => h.ptr
    have KN : ∀ w', Mk T w2 w' → ∀ j, j < 10 → ∃ s, w'.cell? ⟨w.heap.size + 1, j, none⟩ = some (.string s) ∧ NmS s := fun w' h j hj => by
      have hb := (h.block _ (Array.getElem?_eq_some_iff.1 HN2.out).1 (by have := HTB.out; omega) (by have := HTB.out; omega)).trans HN2.out
      obtain ⟨s, h1, h2⟩ := nm10_at j hj
      exact ⟨s, (cell_blk hb h1).2, h2⟩
    rcases hB' with ⟨hB1, hB2, hB3⟩ | ⟨hB1, hB2⟩
    all_goals
      go_upto_region 7 with fail
      have hd1 : Mk T w2 (w2.drewN 1) := Mk.of_below (below_drewN (Below.refl _ _) 1)
      have hd2 : MdI (w2.drewN 1) T := HI2.out.below (below_drewN (Below.refl _ _) 1)
      refine wpAny_start (by kernel_rfl) rfl ?_
      refine wpAny_phase 0 18 [] [[], [], [1], [1, 2], [1, 2, 3], [], [5], [1, 2, 3, 4, 5, 6], [], [8], [8, 9], [8, 9, 10], [1, 2, 3, 4, 5, 6, 7, 8, 9, 10, 11], [1, 2, 3, 4, 5, 6, 7, 8, 9, 10, 11, 12], [1, 2, 3, 4, 5, 6, 7, 8, 9, 10, 11, 12, 13], [0, 1, 2, 3, 4, 5, 6, 7, 8, 9, 10, 11, 12, 13, 14], [0, 1, 2, 3, 4, 5, 6, 7, 8, 9, 10, 11, 12, 13, 14, 15], [0, 1, 2, 3, 4, 5, 6, 7, 8, 9, 10, 11, 12, 13, 14, 15, 16], [0, 1, 2, 3, 4, 5, 6, 7, 8, 9, 10, 11, 12, 13, 14, 15, 16, 17]] [[], [], [], [], [], [], [], [], [], [], [], [], [], [], [], [], [], []] (fun _ w' => Mk T w2 w' ∧ MdI w' T) (fun w w' => Mk T w w') [46, 47, 48, 49, 50, 51, 52, 53, 54, 55, 56, 57, 58, 59, 60, 61, 62, 63] rfl rfl (by rfl) (by kernel_rfl) (by kernel_rfl) (by kernel_rfl) (by kernel_rfl) (by kernel_rfl) (by rfl) (fun _ => Mk.refl _ _) (by rfl) ⟨hd1, hd2⟩ ?_
      simp only [List.take_succ_cons, List.take_zero, List.drop_zero, List.drop_succ_cons, dumE, List.map_cons, List.map_nil]
      apply ObP.step
      case hobl =>
        intro c A w' hok hC hO hD
        have e5 := hO 5 (by rfl)
        simp [Act.eval] at e5
        simp [depsL, IsV, slotv, Act.eval, Region.binds] at hD
        simp [go_sem, gd, Oper.wp, hD, e5]
        exact WPost.mk (Mk.refl _ _) hC (IsV.mk _ _)
      apply ObP.step
      case hobl =>
        intro c A w' hok hC hO hD
        have e0 := hO 0 (by rfl)
        simp [Act.eval] at e0
        simp [depsL, IsV, slotv, Act.eval, Region.binds] at hD
        simp [go_sem, gd, Oper.wp, hD, e0]
        exact WPost.mk (Mk.refl _ _) hC (IsV.mk _ _)
      apply ObP.step
      case hobl =>
        intro c A w' hok hC hO hD
        simp [depsL, IsV, slotv, Act.eval, Region.binds] at hD
        simp [go_sem, gd, Oper.wp, hD]
        exact WPost.mk (Mk.refl _ _) hC (IsV.mk _ _)
      apply ObP.step
      case hobl =>
        intro c A w' hok hC hO hD
        simp [depsL, IsV, slotv, Act.eval, Region.binds] at hD
        simp [go_sem, gd, Oper.wp, hD]
        exact WPost.mk (Mk.refl _ _) hC (IsV.mk _ _)
      simp only [List.nil_append, List.cons_append]
      apply ObP.step
      case hobl =>
        intro c A w' hok hC hO hD
        simp [depsL, IsV, slotv, Act.eval, Region.binds] at hD
        simp [go_sem, gd, Oper.wp, hD, K0, hC.2]
        exact WPost.mk (Mk.refl _ _) hC (IsV.mk _ _)
      apply ObP.step
      case hobl =>
        intro c A w' hok hC hO hD
        have e5 := hO 5 (by rfl)
        simp [Act.eval] at e5
        simp [depsL, IsV, slotv, Act.eval, Region.binds] at hD
        simp [go_sem, gd, Oper.wp, hD, e5]
        exact WPost.mk (Mk.refl _ _) hC (IsV.mk _ _)
      apply ObP.step
      case hobl =>
        intro c A w' hok hC hO hD
        simp [depsL, IsV, slotv, Act.eval, Region.binds] at hD
        simp [go_sem, gd, Oper.wp, hD]
        exact WPost.mk (Mk.refl _ _) hC (IsV.mk _ _)
      simp only [List.nil_append, List.cons_append]
      refine ObP.some (fun v _ => ∃ r : Nat, v = .int .i64 (r : Int) ∧ r < 10) (fun _ _ _ _ h => h) ?_ ?_
      · intro c A w' hok hC hO hD
        simp [depsL, IsV, slotv, Act.eval, Region.binds] at hD
        simp [go_sem, gd, Oper.wp, hD]
        refine (NextM_any T 10 w' (by unfold I64; decide) hC.2).mono ?_
        rintro e w2 ⟨r, rfl, h0, h1, -, hM, hI⟩
        obtain ⟨r', rfl⟩ := Int.eq_ofNat_of_zero_le h0
        exact WPost.mk hM ⟨hC.1.trans hM, hI⟩ ⟨r', rfl, by have := h1 (by decide); omega⟩
      simp only [List.nil_append, List.cons_append]
      apply ObP.step
      case hobl =>
        intro c A w' hok hC hO hD
        have e0 := hO 0 (by rfl)
        simp [Act.eval] at e0
        simp [depsL, IsV, slotv, Act.eval, Region.binds] at hD
        simp [go_sem, gd, Oper.wp, hD, e0]
        exact WPost.mk (Mk.refl _ _) hC (IsV.mk _ _)
      apply ObP.step
      case hobl =>
        intro c A w' hok hC hO hD
        simp [depsL, IsV, slotv, Act.eval, Region.binds] at hD
        simp [go_sem, gd, Oper.wp, hD]
        exact WPost.mk (Mk.refl _ _) hC (IsV.mk _ _)
      apply ObP.step
      case hobl =>
        intro c A w' hok hC hO hD
        simp [depsL, IsV, slotv, Act.eval, Region.binds] at hD
        simp [go_sem, gd, Oper.wp, hD]
        exact WPost.mk (Mk.refl _ _) hC (IsV.mk _ _)
      simp only [List.nil_append, List.cons_append]
      apply ObP.step
      case hobl =>
        intro c A w' hok hC hO hD
        simp [depsL, IsV, slotv, Act.eval, Region.binds] at hD
        simp [go_sem, gd, Oper.wp, hD, K0, hC.2]
        exact WPost.mk (Mk.refl _ _) hC (IsV.mk _ _)
      refine ObP.some (fun v _ => ∃ r : Nat, v = .int .i64 (r : Int) ∧ r < 8) (fun _ _ _ _ h => h) ?_ ?_
      · intro c A w' hok hC hO hD
        simp [depsL, IsV, slotv, Act.eval, Region.binds] at hD
        simp [go_sem, gd, Oper.wp, hD]
        refine (NextM_any T 8 w' (by unfold I64; decide) hC.2).mono ?_
        rintro e w2 ⟨r, rfl, h0, h1, -, hM, hI⟩
        obtain ⟨r', rfl⟩ := Int.eq_ofNat_of_zero_le h0
        exact WPost.mk hM ⟨hC.1.trans hM, hI⟩ ⟨r', rfl, by have := h1 (by decide); omega⟩
      simp only [List.nil_append, List.cons_append]
      refine ObP.some (fun v w' => ∃ r : Nat, v = .int .i64 (r : Int) ∧ 3 ≤ r ∧ r ≤ 10) (fun _ _ _ _ h => h) ?_ ?_
      · intro c A w' hok hC hO hD
        simp [depsL, IsV, slotv, Act.eval, Region.binds] at hD
        obtain ⟨r, hr, hr8⟩ := hD
        have hw : IntKind.i64.wrap (3 + (r : Int)) = 3 + r := IntWalk.i64_in _ (by omega)
        simp [go_sem, gd, Oper.wp, hr, hw]
        exact WPost.mk (Mk.refl _ _) hC (⟨3 + r, by simp, by omega, by omega⟩)
      simp only [List.nil_append, List.cons_append]
      refine ObP.some (fun v w' => ∃ r : Nat, v = .int .i64 (r : Int) ∧ r < 10) (fun _ _ _ _ h => h) ?_ ?_
      · intro c A w' hok hC hO hD
        simp [depsL, IsV, slotv, Act.eval, Region.binds] at hD
        obtain ⟨⟨r, hr, h1⟩, s, hs, h2, h3⟩ := hD
        have hs2 : s ≠ 0 := by omega
        simp [go_sem, gd, Oper.wp, hr, hs, hs2]
        exact WPost.mk (Mk.refl _ _) hC (⟨r % s, rfl, Nat.lt_of_le_of_lt (Nat.mod_le _ _) h1⟩)
      refine ObP.some (fun v w' => ∃ r : Nat, v = .pointer (some ⟨w.heap.size + 1, r, none⟩) ∧ r < 10) (fun _ _ _ _ h => h) ?_ ?_
      · intro c A w' hok hC hO hD
        simp [depsL, IsV, slotv, Act.eval, Region.binds] at hD
        obtain ⟨h46, r, hr, h1⟩ := hD
        have hb0 : (0 : Int) ≤ (r : Int) := by omega
        have hb1 : (r : Int) < 10 := by omega
        simp [go_sem, gd, Oper.wp, h46, hr, hb0, hb1]
        exact WPost.mk (Mk.refl _ _) hC (⟨r, rfl, h1⟩)
      simp only [List.nil_append, List.cons_append]
      refine ObP.some (fun v w' => ∃ s : ByteArray, v = .string s ∧ NmS s) (fun _ _ _ _ h => h) ?_ ?_
      · intro c A w' hok hC hO hD
        simp [depsL, IsV, slotv, Act.eval, Region.binds] at hD
        obtain ⟨r, hr, h1⟩ := hD
        obtain ⟨s, hs, hsz⟩ := KN w' hC.1 r h1
        simp [go_sem, gd, Oper.wp, hr, hs]
        exact WPost.mk (Mk.refl _ _) hC (⟨s, rfl, hsz⟩)
      refine ObP.some (fun v _ => ∃ s : ByteArray, v = exV 2 0 s .nil none 0 ∧ NmS s) (fun _ _ _ _ h => h) ?_ ?_
      · intro c A w' hok hC hO hD
        simp [depsL, IsV, slotv, Act.eval, Region.binds] at hD
        obtain ⟨⟨s, hs, hsz⟩, -⟩ := hD
        simp [go_sem, gd, Oper.wp, hs]
        refine (name_any s w').mono ?_
        rintro e w3 ⟨rfl, hb⟩
        exact WPost.mk (Mk.of_below hb) ⟨hC.1.trans (Mk.of_below hb), hC.2.below hb⟩ ⟨s, rfl, hsz⟩
      simp only [List.nil_append, List.cons_append]
      refine ObP.done ?_
      intro wz hCz
      simp only [List.drop_zero]
      intro v0 h0 v1 h1 v2 h2 v3 h3 v4 h4 v5 h5 v6 h6 v7 h7 v8 h8 v9 h9 v10 h10 v11 h11 v12 h12 v13 h13 v14 h14 v15 h15 v16 h16 v17 h17
      obtain ⟨s, rfl, hsz⟩ := h17
      clear h0 h1 h2 h3 h4 h5 h6 h7 h8 h9 h10 h11 h12 h13 h14 h15 h16 K0 KN hd1 hd2
      refine AllVals.nil ?_
      go_simp
      have HZz : Hid (wz.heap[w.heap.size]? = some (.cells zEx 25 (0, 0))) := Lib.hid ((hCz.1.block _ (Array.getElem?_eq_some_iff.1 HZ2.out).1 (by have := HTB.out; omega) (by have := HTB.out; omega)).trans HZ2.out)
      obtain ⟨⟨y0, y1, y2, y3⟩, fz⟩ := zcells HZz.out
      have f0 := fz 0
      have f1 := fz 1
      have f2 := fz 2
      have f3 := fz 3
      have HMz := Lib.hid (HM.out.trans hCz.1)
      have HIz := Lib.hid hCz.2
      clear fz hCz
      unfold exV
      refine wpAny_one 18 [[], [], [1], [1, 2], [1, 2, 3], [], [5], [1, 2, 3, 4, 5, 6], [], [8], [8, 9], [8, 9, 10], [1, 2, 3, 4, 5, 6, 7, 8, 9, 10, 11], [1, 2, 3, 4, 5, 6, 7, 8, 9, 10, 11, 12], [1, 2, 3, 4, 5, 6, 7, 8, 9, 10, 11, 12, 13], [0, 1, 2, 3, 4, 5, 6, 7, 8, 9, 10, 11, 12, 13, 14], [0, 1, 2, 3, 4, 5, 6, 7, 8, 9, 10, 11, 12, 13, 14, 15], [0, 1, 2, 3, 4, 5, 6, 7, 8, 9, 10, 11, 12, 13, 14, 15, 16], [0, 1, 2, 3, 4, 5, 6, 7, 8, 9, 10, 11, 12, 13, 14, 15, 16, 17]] rfl rfl rfl rfl rfl (by kernel_rfl) (by kernel_rfl) (by kernel_rfl) ?_
      simp [go_sem, Oper.wp, y0, y1, y2, y3, f0, f1, f2, f3, ExL.len]
      refine wpAny_end rfl ?_
      go_simp
      go_wp2_with fail
      obtain ⟨q1, q2, q3⟩ := fin4 (.int .i64 2) (.int .i64 0) (.string s) (.slice none 0 0) HMz.out HIz.out HTB.out
      exact bodyPost_ret (v := exV 2 0 s .nil none 0) (by simp [results, Tryd.results20, go_sem, exV, ExL.len, y0, y1, y2, y3]) rfl (exP_of q1 q2 ⟨2, 0, s, .nil, none, 0, rfl, ⟨⟨by unfold I64; decide, by unfold I64; decide, hsz.1, by unfold maxLen; decide⟩, shp_nm hsz.2⟩, fun _ _ => trivial⟩)
  · have HX : Hid (ExSays T ((d : Int) - 1)) := Lib.hid (by
      obtain ⟨d', rfl⟩ : ∃ d', d = d' + 1 := ⟨d - 1, by omega⟩
      have := HIH.out d' rfl
      rw [show ((d' + 1 : Nat) : Int) - 1 = (d' : Int) by omega]; exact this)
    have hdz : ((d : Int) == 0) = false := by rw [beq_eq_false_iff_ne]; omega
    have hd0 : 0 < d := by omega
    have HW2 : Hid (w.heap.size + 1 ≤ w2.heap.size) := Lib.hid (by have := (Array.getElem?_eq_some_iff.1 HZ2.out).1; omega)
    have HC := Lib.hid hC
    clear hC HIH HN2
    have K0 : ∀ w', MdI w' T → w'.cell? ⟨T.bm, 0, none⟩ = some (.pointer (some ⟨T.bt, 0, none⟩)) := fun w' h => h.ptr
    have hwd : IntKind.i64.wrap ((d : Int) - 1) = (d : Int) - 1 := IntWalk.i64_in _ (by omega)
    have hk8 : k = 8 ∨ (9 ≤ k ∧ k < 11) ∨ 11 ≤ k := by have := HC.out; omega
    rcases hk8 with rfl | ⟨hk9, hk10⟩ | hk11
    · go_upto_region 9 with fail
      have hd1 : Mk T w2 (w2.drewN 1) := Mk.of_below (below_drewN (Below.refl _ _) 1)
      have hd2 : MdI (w2.drewN 1) T := HI2.out.below (below_drewN (Below.refl _ _) 1)
      refine wpAny_start (by kernel_rfl) rfl ?_
      refine wpAny_phase 0 14 [] [[], [], [1], [1, 2], [1, 2, 3], [1, 2, 3, 4], [0, 1, 2, 3, 4, 5], [0, 1, 2, 3, 4, 5, 6], [], [], [9], [1, 2, 3, 4, 5, 8, 9, 10], [1, 2, 3, 4, 5, 8, 9, 10, 11], [0, 1, 2, 3, 4, 5, 6, 7, 8, 9, 10, 11, 12], [0, 1, 2, 3, 4, 5, 6, 7, 8, 9, 10, 11, 12, 13]] [[], [], [], [], [], [], [], [], [], [], [], [], [], []] (fun _ w' => Mk T w2 w' ∧ MdI w' T) (fun w w' => Mk T w w') [67, 68, 69, 70, 71, 72, 73, 74, 75, 76, 77, 78, 79, 80] rfl rfl (by rfl) (by kernel_rfl) (by kernel_rfl) (by kernel_rfl) (by kernel_rfl) (by kernel_rfl) (by rfl) (fun _ => Mk.refl _ _) (by rfl) ⟨hd1, hd2⟩ ?_
      simp only [List.take_succ_cons, List.take_zero, List.drop_zero, List.drop_succ_cons, dumE, List.map_cons, List.map_nil]
      refine ObP.some (fun v w' => ∃ g, v = .slice (some ⟨g, 0, none⟩) 5 5 ∧ w2.heap.size ≤ g ∧ w'.heap[g]? = some (.cells nm5 9 (0, 0))) ?_ ?_ ?_
      · rintro v w1 w' hle ⟨g, h1, h2, h3⟩
        exact ⟨g, h1, h2, (hle.block g (Array.getElem?_eq_some_iff.1 h3).1 (by have := HTB.out; have := HW2.out; omega) (by have := HTB.out; have := HW2.out; omega)).trans h3⟩
      · intro c A w' hok hC hO hD
        simp [go_sem, gd, Oper.wp]
        exact WPost.mk (d := _) (v := .slice (some ⟨_, 0, none⟩) 5 5) (Mk.of_below (alloc_below _ _)) ⟨hC.1.trans (Mk.of_below (alloc_below _ _)), hC.2.below (alloc_below _ _)⟩ ⟨_, rfl, hC.1.size, heap_alloc_new _ _⟩
      simp only [List.nil_append, List.cons_append]
      apply ObP.step
      case hobl =>
        intro c A w' hok hC hO hD
        have e0 := hO 0 (by rfl)
        simp [Act.eval] at e0
        simp [depsL, IsV, slotv, Act.eval, Region.binds] at hD
        simp [go_sem, gd, Oper.wp, hD, e0]
        exact WPost.mk (Mk.refl _ _) hC (IsV.mk _ _)
      apply ObP.step
      case hobl =>
        intro c A w' hok hC hO hD
        simp [depsL, IsV, slotv, Act.eval, Region.binds] at hD
        simp [go_sem, gd, Oper.wp, hD]
        exact WPost.mk (Mk.refl _ _) hC (IsV.mk _ _)
      apply ObP.step
      case hobl =>
        intro c A w' hok hC hO hD
        simp [depsL, IsV, slotv, Act.eval, Region.binds] at hD
        simp [go_sem, gd, Oper.wp, hD]
        exact WPost.mk (Mk.refl _ _) hC (IsV.mk _ _)
      simp only [List.nil_append, List.cons_append]
      apply ObP.step
      case hobl =>
        intro c A w' hok hC hO hD
        simp [depsL, IsV, slotv, Act.eval, Region.binds] at hD
        simp [go_sem, gd, Oper.wp, hD, K0, hC.2]
        exact WPost.mk (Mk.refl _ _) hC (IsV.mk _ _)
      refine ObP.some (fun v _ => ∃ r : Nat, v = .int .i64 (r : Int) ∧ r < 5) (fun _ _ _ _ h => h) ?_ ?_
      · intro c A w' hok hC hO hD
        simp [depsL, IsV, slotv, Act.eval, Region.binds] at hD
        simp [go_sem, gd, Oper.wp, hD]
        refine (NextM_any T 5 w' (by unfold I64; decide) hC.2).mono ?_
        rintro e w2 ⟨r, rfl, h0, h1, -, hM, hI⟩
        obtain ⟨r', rfl⟩ := Int.eq_ofNat_of_zero_le h0
        exact WPost.mk hM ⟨hC.1.trans hM, hI⟩ ⟨r', rfl, by have := h1 (by decide); omega⟩
      simp only [List.nil_append, List.cons_append]
      refine ObP.some (fun v w' => ∃ (g r : Nat), v = .pointer (some ⟨g, r, none⟩) ∧ r < 5 ∧ w2.heap.size ≤ g ∧ w'.heap[g]? = some (.cells nm5 9 (0, 0))) (fun v w1 w' hle ⟨g, r, h1, h1', h2, h3⟩ => ⟨g, r, h1, h1', h2, (hle.block g (Array.getElem?_eq_some_iff.1 h3).1 (by have := HTB.out; have := HW2.out; omega) (by have := HTB.out; have := HW2.out; omega)).trans h3⟩) ?_ ?_
      · intro c A w' hok hC hO hD
        simp [depsL, IsV, slotv, Act.eval, Region.binds] at hD
        obtain ⟨⟨g, hg, hg1, hg2⟩, r, hr, h1⟩ := hD
        have hb0 : (0 : Int) ≤ (r : Int) := by omega
        have hb1 : (r : Int) < 5 := by omega
        simp [go_sem, gd, Oper.wp, hg, hr, hb0, hb1]
        exact WPost.mk (Mk.refl _ _) hC (⟨g, r, rfl, h1, hg1, hg2⟩)
      simp only [List.nil_append, List.cons_append]
      refine ObP.some (fun v w' => ∃ s : ByteArray, v = .string s ∧ NmS s) (fun _ _ _ _ h => h) ?_ ?_
      · intro c A w' hok hC hO hD
        simp [depsL, IsV, slotv, Act.eval, Region.binds] at hD
        obtain ⟨g, r, hr, h1, hg1, hg2⟩ := hD
        obtain ⟨s, hs, hsz⟩ := nm5_at r h1
        simp [go_sem, gd, Oper.wp, hr, (cell_blk hg2 hs).2]
        exact WPost.mk (Mk.refl _ _) hC (⟨s, rfl, hsz⟩)
      apply ObP.step
      case hobl =>
        intro c A w' hok hC hO hD
        have e0 := hO 0 (by rfl)
        simp [Act.eval] at e0
        simp [depsL, IsV, slotv, Act.eval, Region.binds] at hD
        simp [go_sem, gd, Oper.wp, hD, e0]
        exact WPost.mk (Mk.refl _ _) hC (IsV.mk _ _)
      apply ObP.step
      case hobl =>
        intro c A w' hok hC hO hD
        have e1 := hO 1 (by rfl)
        simp [Act.eval] at e1
        simp [depsL, IsV, slotv, Act.eval, Region.binds] at hD
        simp [go_sem, gd, Oper.wp, hD, e1]
        exact WPost.mk (Mk.refl _ _) hC (IsV.mk _ _)
      simp only [List.nil_append, List.cons_append]
      apply ObP.step
      case hobl =>
        intro c A w' hok hC hO hD
        simp [depsL, IsV, slotv, Act.eval, Region.binds] at hD
        simp [go_sem, gd, Oper.wp, hD, hwd]
        exact WPost.mk (Mk.refl _ _) hC (IsV.mk _ _)
      refine ObP.some (fun v w' => EX w2.heap.size v w') (fun v w1 w' hle h => h.next (hle.abv (by have := HTB.out; have := HW2.out; omega) (by have := HTB.out; have := HW2.out; omega))) ?_ ?_
      · intro c A w' hok hC hO hD
        simp [depsL, IsV, slotv, Act.eval, Region.binds] at hD
        simp [go_sem, gd, Oper.wp, hD]
        refine (HX.out w' hC.2).mono ?_
        intro e w3 hp
        obtain ⟨v, rfl, h1, h2, h3⟩ := exP_ex hp
        exact WPost.mk h2 ⟨hC.1.trans h2, h3⟩ (h1.mono hC.1.size)
      simp only [List.nil_append, List.cons_append]
      refine ObP.some (fun v w' => XS w2.heap.size 1 v w') (fun v w1 w' hle h => h.next (hle.abv (by have := HTB.out; have := HW2.out; omega) (by have := HTB.out; have := HW2.out; omega))) ?_ ?_
      · intro c A w' hok hC hO hD
        simp [depsL, IsV, slotv, Act.eval, Region.binds] at hD
        obtain ⟨op, n, nm, kids, ao, cap, hv, hok', hst⟩ := hD
        unfold exV at hv
        simp [go_sem, gd, Oper.wp, hv]
        exact WPost.mk (d := _) (v := .slice (some ⟨_, 0, none⟩) 1 1) (Mk.of_below (alloc_below _ _)) ⟨hC.1.trans (Mk.of_below (alloc_below _ _)), hC.2.below (alloc_below _ _)⟩ ⟨.cons op n nm kids .nil, some ⟨_, 0, none⟩, 1, rfl, ⟨rfl, shpL_one hok'.2⟩, stay_one (heap_alloc_new _ _) hC.1.size hok'.1 (hst.next (abv_below (alloc_below _ _)))⟩
      refine ObP.some (fun v w' => EX w2.heap.size v w') (fun v w1 w' hle h => h.next (hle.abv (by have := HTB.out; have := HW2.out; omega) (by have := HTB.out; have := HW2.out; omega))) ?_ ?_
      · intro c A w' hok hC hO hD
        simp [depsL, IsV, slotv, Act.eval, Region.binds] at hD
        obtain ⟨⟨s, hs, hsz⟩, l, ao, cap, hv, hl, hst⟩ := hD
        simp [go_sem, gd, Oper.wp, hs, hv]
        exact WPost.mk (Mk.refl _ _) hC ⟨3, 0, s, l, ao, cap, rfl, ⟨⟨by unfold I64; decide, by unfold I64; decide, hsz.1, by rw [hl.1]; unfold maxLen; decide⟩, shp_idx hsz.2 hl.1 hl.2⟩, hst⟩
      simp only [List.nil_append, List.cons_append]
      refine ObP.done ?_
      intro wz hCz
      simp only [List.drop_zero]
      intro v0 h0 v1 h1 v2 h2 v3 h3 v4 h4 v5 h5 v6 h6 v7 h7 v8 h8 v9 h9 v10 h10 v11 h11 v12 h12 v13 h13
      obtain ⟨op, n, nm, kids, ao, cap, rfl, hok, hst⟩ := h13
      clear h0 h1 h2 h3 h4 h5 h6 h7 h8 h9 h10 h11 h12 K0 hd1 hd2 hwd
      refine AllVals.nil ?_
      go_simp
      have HZz : Hid (wz.heap[w.heap.size]? = some (.cells zEx 25 (0, 0))) := Lib.hid ((hCz.1.block _ (Array.getElem?_eq_some_iff.1 HZ2.out).1 (by have := HTB.out; omega) (by have := HTB.out; omega)).trans HZ2.out)
      obtain ⟨⟨y0, y1, y2, y3⟩, fz⟩ := zcells HZz.out
      have f0 := fz 0
      have f1 := fz 1
      have f2 := fz 2
      have f3 := fz 3
      have HMz := Lib.hid (HM.out.trans hCz.1)
      have HIz := Lib.hid hCz.2
      have HOK := Lib.hid hok
      have HST := Lib.hid (Stay.mono hst HW2.out)
      clear fz hCz hok hst
      unfold exV
      refine wpAny_one 14 [[], [], [1], [1, 2], [1, 2, 3], [1, 2, 3, 4], [0, 1, 2, 3, 4, 5], [0, 1, 2, 3, 4, 5, 6], [], [], [9], [1, 2, 3, 4, 5, 8, 9, 10], [1, 2, 3, 4, 5, 8, 9, 10, 11], [0, 1, 2, 3, 4, 5, 6, 7, 8, 9, 10, 11, 12], [0, 1, 2, 3, 4, 5, 6, 7, 8, 9, 10, 11, 12, 13]] rfl rfl rfl rfl rfl (by kernel_rfl) (by kernel_rfl) (by kernel_rfl) ?_
      simp [go_sem, Oper.wp, y0, y1, y2, y3, f0, f1, f2, f3]
      refine wpAny_end rfl ?_
      go_simp
      go_wp2_with fail
      obtain ⟨q1, q2, q3⟩ := fin4 (.int .i64 op) (.int .i64 n) (.string nm) (.slice ao kids.len cap) HMz.out HIz.out HTB.out
      exact bodyPost_ret (v := exV op n nm kids ao cap) (by simp [results, Tryd.results20, go_sem, exV, y0, y1, y2, y3]) rfl (exP_of q1 q2 ⟨op, n, nm, kids, ao, cap, rfl, HOK.out, (HST.out.next q3).mono (Nat.le_succ _)⟩)
    · have hk8' : (k == 8) = false := by rw [beq_eq_false_iff_ne]; omega
      have c0 := HI2.out.ptr
      clear K0 hwd
      go_wp2_with fail
      refine (NextM_any T 2 _ (by unfold I64; decide) HI2.out).mono ?_
      rintro e w3 ⟨r, rfl, hr0, hr1, hr2, hM3, hI3⟩
      have hr3 : r < 2 := hr1 (by decide)
      have HI3 := Lib.hid hI3
      have HM3 := Lib.hid (HM.out.trans hM3)
      have HM23 := Lib.hid hM3
      clear hM3 hI3 hr1 hr2 c0
      go_wp2_with fail
      refine (HX.out _ HI3.out).mono ?_
      intro e w4 hp
      obtain ⟨v, rfl, hex, hM4, hI4⟩ := exP_ex hp
      obtain ⟨op, n, nm, kids, ao, cap, rfl, hok, hst⟩ := hex
      have HM4 := Lib.hid (HM3.out.trans hM4)
      have HOK := Lib.hid hok
      have HST := Lib.hid (hst.mono (Nat.le_trans HW2.out HM23.out.size))
      have HI4 := Lib.hid hI4
      have HZ4 : Hid (w4.heap[w.heap.size]? = some (.cells zEx 25 (0, 0))) := Lib.hid (((HM23.out.trans hM4).block _ (Array.getElem?_eq_some_iff.1 HZ2.out).1 (by have := HTB.out; omega) (by have := HTB.out; omega)).trans HZ2.out)
      have HW4 : Hid (w.heap.size + 1 ≤ w4.heap.size) := Lib.hid (by have := (Array.getElem?_eq_some_iff.1 HZ4.out).1; omega)
      clear hp hok hst hM4 hI4
      obtain ⟨⟨y0, y1, y2, y3⟩, fz⟩ := zcells HZ4.out
      have f0 := fz 0
      have f1 := fz 1
      have f2 := fz 2
      have f3 := fz 3
      have hlt4 : w.heap.size < w4.heap.size := HW4.out
      clear fz
      unfold exV
      go_wp2_with fail
      have HF := Lib.hid (fin4r (a := 4 + r) (cap := cap) (t := 25) HM4.out HI4.out HTB.out (show 4 + r = 4 ∨ 4 + r = 5 by omega) HOK.out HST.out HW4.out)
      exact bodyPost_ret (v := exV (4 + r) 0 ⟨#[]⟩ (.cons op n nm kids .nil) (some ⟨w4.heap.size, 0, none⟩) 1) (by simp [results, Tryd.results20, go_sem, exV, ExL.len, y0, y1, y2, y3, hlt4]) rfl HF.out
    · have hk8' : (k == 8) = false := by rw [beq_eq_false_iff_ne]; omega
      have c0 := HI2.out.ptr
      go_wp2_with fail
      refine (NextM_any T 13 _ (by unfold I64; decide) HI2.out).mono ?_
      rintro e w3 ⟨r, rfl, hr0, hr1, hr2, hM3, hI3⟩
      have hr3 : r < 13 := hr1 (by decide)
      have HI3 := Lib.hid hI3
      have HM3 := Lib.hid (HM.out.trans hM3)
      have HM23 := Lib.hid hM3
      clear hM3 hI3 hr1 hr2 c0
      go_wp2_with fail
      refine (HX.out _ HI3.out).mono ?_
      intro e w4 hp
      obtain ⟨v, rfl, hex, hM4, hI4⟩ := exP_ex hp
      obtain ⟨op, n, nm, kids, ao, cap, rfl, hok, hst⟩ := hex
      have HM4 := Lib.hid (HM3.out.trans hM4)
      have HOK := Lib.hid hok
      have HST := Lib.hid (hst.mono (Nat.le_trans HW2.out HM23.out.size))
      have HI4 := Lib.hid hI4
      have HZ4 : Hid (w4.heap[w.heap.size]? = some (.cells zEx 25 (0, 0))) := Lib.hid (((HM23.out.trans hM4).block _ (Array.getElem?_eq_some_iff.1 HZ2.out).1 (by have := HTB.out; omega) (by have := HTB.out; omega)).trans HZ2.out)
      clear hp hok hst hM4 hI4
      unfold exV
      go_upto_region 14 with fail
      obtain ⟨ga, hga⟩ : ∃ g, w4.heap.size = g := ⟨_, rfl⟩
      generalize hW5 : World.alloc w4 _ = W5
      have HB5 : Hid (Below w4.heap.size w4 W5) := Lib.hid (by rw [← hW5]; exact alloc_below _ _)
      have HA5 : Hid (W5.heap[ga]? = some (.cells #[.int .i64 op, .int .i64 n, .string nm, .slice ao kids.len cap] 25 (0, 0))) := Lib.hid (by rw [← hW5, ← hga]; exact heap_alloc_new _ _)
      have HI5 := Lib.hid (HI4.out.below HB5.out)
      have HM5 := Lib.hid (HM4.out.trans (Mk.of_below HB5.out))
      have HZ5 : Hid (W5.heap[w.heap.size]? = some (.cells zEx 25 (0, 0))) := Lib.hid ((HB5.out.block _ (Array.getElem?_eq_some_iff.1 HZ4.out).1).trans HZ4.out)
      have HST5 := Lib.hid (HST.out.next (abv_below HB5.out))
      have HGA : Hid (w.heap.size < ga) := Lib.hid (by rw [← hga]; exact (Array.getElem?_eq_some_iff.1 HZ4.out).1)
      have HW5 : Hid (w.heap.size + 1 ≤ W5.heap.size) := Lib.hid (by have := (Array.getElem?_eq_some_iff.1 HZ5.out).1; omega)
      rw [hga]
      clear hW5 hga HB5 HZ4 HST HM4 HI4
      have KA : ∀ w', Mk T W5 w' → w'.heap[ga]? = some (.cells #[.int .i64 op, .int .i64 n, .string nm, .slice ao kids.len cap] 25 (0, 0)) := fun w' h => (h.block _ (Array.getElem?_eq_some_iff.1 HA5.out).1 (by have := HTB.out; have := HGA.out; omega) (by have := HTB.out; have := HGA.out; omega)).trans HA5.out
      have KA0 : ∀ w', Mk T W5 w' → w'.cell? ⟨ga, 0, none⟩ = some (.int .i64 op) := fun w' h => (cell_blk (KA w' h) (j := 0) rfl).2
      have KA1 : ∀ w', Mk T W5 w' → w'.cell? ⟨ga, 1, none⟩ = some (.int .i64 n) := fun w' h => (cell_blk (KA w' h) (j := 1) rfl).2
      have KA2 : ∀ w', Mk T W5 w' → w'.cell? ⟨ga, 2, none⟩ = some (.string nm) := fun w' h => (cell_blk (KA w' h) (j := 2) rfl).2
      have KA3 : ∀ w', Mk T W5 w' → w'.cell? ⟨ga, 3, none⟩ = some (.slice ao kids.len cap) := fun w' h => (cell_blk (KA w' h) (j := 3) rfl).2
      have hd1 : Mk T W5 (W5.drewN 1) := Mk.of_below (below_drewN (Below.refl _ _) 1)
      have hd2 : MdI (W5.drewN 1) T := HI5.out.below (below_drewN (Below.refl _ _) 1)
      clear KA
      refine wpAny_start (by kernel_rfl) rfl ?_
      refine wpAny_phase 0 7 [] [[], [], [], [], [3], [2, 3, 4], [0, 1, 2, 3, 4, 5], [0, 1, 2, 3, 4, 5, 6]] [[], [], [], [], [], [], []] (fun _ w' => Mk T W5 w' ∧ MdI w' T) (fun w w' => Mk T w w') [106, 107, 108, 109, 110, 111, 112] rfl rfl (by rfl) (by kernel_rfl) (by kernel_rfl) (by kernel_rfl) (by kernel_rfl) (by kernel_rfl) (by rfl) (fun _ => Mk.refl _ _) (by rfl) ⟨hd1, hd2⟩ ?_
      simp only [List.take_succ_cons, List.take_zero, List.drop_zero, List.drop_succ_cons, dumE, List.map_cons, List.map_nil]
      apply ObP.step
      case hobl =>
        intro c A w' hok hC hO hD
        have e8 := hO 8 (by rfl)
        simp [Act.eval] at e8
        simp [depsL, IsV, slotv, Act.eval, Region.binds] at hD
        simp [go_sem, gd, Oper.wp, hD, e8]
        exact WPost.mk (Mk.refl _ _) hC (IsV.mk _ _)
      apply ObP.step
      case hobl =>
        intro c A w' hok hC hO hD
        have e9 := hO 9 (by rfl)
        simp [Act.eval] at e9
        simp [depsL, IsV, slotv, Act.eval, Region.binds] at hD
        simp [go_sem, gd, Oper.wp, hD, e9, KA0, KA1, KA2, KA3, hC.1]
        exact WPost.mk (Mk.refl _ _) hC (IsV.mk _ _)
      apply ObP.step
      case hobl =>
        intro c A w' hok hC hO hD
        have e0 := hO 0 (by rfl)
        simp [Act.eval] at e0
        simp [depsL, IsV, slotv, Act.eval, Region.binds] at hD
        simp [go_sem, gd, Oper.wp, hD, e0]
        exact WPost.mk (Mk.refl _ _) hC (IsV.mk _ _)
      apply ObP.step
      case hobl =>
        intro c A w' hok hC hO hD
        have e1 := hO 1 (by rfl)
        simp [Act.eval] at e1
        simp [depsL, IsV, slotv, Act.eval, Region.binds] at hD
        simp [go_sem, gd, Oper.wp, hD, e1]
        exact WPost.mk (Mk.refl _ _) hC (IsV.mk _ _)
      simp only [List.nil_append, List.cons_append]
      apply ObP.step
      case hobl =>
        intro c A w' hok hC hO hD
        simp [depsL, IsV, slotv, Act.eval, Region.binds] at hD
        simp [go_sem, gd, Oper.wp, hD, hwd]
        exact WPost.mk (Mk.refl _ _) hC (IsV.mk _ _)
      refine ObP.some (fun v w' => EX (w.heap.size + 1) v w') (fun v w1 w' hle h => h.next (hle.abv (by have := HTB.out; omega) (by have := HTB.out; omega))) ?_ ?_
      · intro c A w' hok hC hO hD
        simp [depsL, IsV, slotv, Act.eval, Region.binds] at hD
        simp [go_sem, gd, Oper.wp, hD]
        refine (HX.out w' hC.2).mono ?_
        intro e w3 hp
        obtain ⟨v, rfl, h1, h2, h3⟩ := exP_ex hp
        exact WPost.mk h2 ⟨hC.1.trans h2, h3⟩ (h1.mono (Nat.le_trans HW5.out hC.1.size))
      simp only [List.nil_append, List.cons_append]
      refine ObP.some (fun v w' => EX (w.heap.size + 1) v w') (fun v w1 w' hle h => h.next (hle.abv (by have := HTB.out; omega) (by have := HTB.out; omega))) ?_ ?_
      · intro c A w' hok hC hO hD
        simp [depsL, IsV, slotv, Act.eval, Region.binds] at hD
        obtain ⟨h106, h107, op', n', nm', kids', ao', cap', hv, hok', hst'⟩ := hD
        unfold exV at hv
        simp [go_sem, gd, Oper.wp, h106, h107, hv]
        refine (binary_any (6 + r) op n nm kids ao cap op' n' nm' kids' ao' cap' w').mono ?_
        rintro e w6 ⟨g, rfl, hg, hcell, hb⟩
        refine WPost.mk (Mk.of_below hb) ⟨hC.1.trans (Mk.of_below hb), hC.2.below hb⟩ ⟨6 + r, 0, ⟨#[]⟩, .cons op n nm kids (.cons op' n' nm' kids' .nil), some ⟨g, 0, none⟩, 2, rfl, ⟨⟨by unfold I64; omega, by unfold I64; decide, by unfold maxLen; decide, by simp [ExL.len, maxLen]⟩, shp_bin hr0 hr3 HOK.out.2 hok'.2⟩, stay_two hcell (Nat.le_trans (Nat.le_trans HW5.out hC.1.size) hg) HOK.out.1 ?_ hok'.1 (hst'.next (abv_below hb))⟩
        exact HST5.out.next (((hC.1).abv (by have := HTB.out; omega) (by have := HTB.out; omega)).trans (abv_below hb))
      simp only [List.nil_append, List.cons_append]
      refine ObP.done ?_
      intro wz hCz
      simp only [List.drop_zero]
      intro v0 h0 v1 h1 v2 h2 v3 h3 v4 h4 v5 h5 v6 h6
      obtain ⟨op', n', nm', kids', ao', cap', rfl, hok, hst⟩ := h6
      clear h0 h1 h2 h3 h4 h5 K0 hd1 hd2 hwd KA0 KA1 KA2 KA3
      refine AllVals.nil ?_
      go_simp
      have HZz : Hid (wz.heap[w.heap.size]? = some (.cells zEx 25 (0, 0))) := Lib.hid ((hCz.1.block _ (Array.getElem?_eq_some_iff.1 HZ5.out).1 (by have := HTB.out; omega) (by have := HTB.out; omega)).trans HZ5.out)
      obtain ⟨⟨y0, y1, y2, y3⟩, fz⟩ := zcells HZz.out
      have f0 := fz 0
      have f1 := fz 1
      have f2 := fz 2
      have f3 := fz 3
      have HMz := Lib.hid (HM5.out.trans hCz.1)
      have HIz := Lib.hid hCz.2
      have HOKz := Lib.hid hok
      have HSTz := Lib.hid hst
      clear fz hCz hok hst
      unfold exV
      refine wpAny_one 7 [[], [], [], [], [3], [2, 3, 4], [0, 1, 2, 3, 4, 5], [0, 1, 2, 3, 4, 5, 6]] rfl rfl rfl rfl rfl (by kernel_rfl) (by kernel_rfl) (by kernel_rfl) ?_
      simp [go_sem, Oper.wp, y0, y1, y2, y3, f0, f1, f2, f3]
      refine wpAny_end rfl ?_
      go_simp
      go_wp2_with fail
      obtain ⟨q1, q2, q3⟩ := fin4 (.int .i64 op') (.int .i64 n') (.string nm') (.slice ao' kids'.len cap') HMz.out HIz.out HTB.out
      exact bodyPost_ret (v := exV op' n' nm' kids' ao' cap') (by simp [results, Tryd.results20, go_sem, exV, y0, y1, y2, y3]) rfl (exP_of q1 q2 ⟨op', n', nm', kids', ao', cap', rfl, HOKz.out, (HSTz.out.next q3).mono (Nat.le_succ _)⟩)
theorem expr_any (T : Tp) : ∀ d : Nat, d ≤ 100 → ExSays T (d : Int)
  | 0, h => expr_step T 0 h (fun d' e => by omega)
  | d + 1, h => expr_step T (d + 1) h (fun d' e => by
    obtain rfl : d = d' := by omega
    exact expr_any T d (by omega))
end Go.Proofs.YtghdammalphmfaaDoor
end
section
set_option linter.unusedSimpArgs false
set_option linter.unusedVariables false
namespace Go.Proofs.YtghdammalphmfaaDoor
open Go.RowKit
open Md
/-- What lock leaves. -/
def LkP (T : Tp) (w : World) (e : Ending) (w' : World) : Prop := ∃ s : ByteArray, e = .returned (.string s) ∧ NmS s ∧ Mk T w w' ∧ MdI w' T
theorem lkP_mk {T : Tp} {w w' : World} {s : ByteArray} (h1 : NmS s) (h2 : Mk T w w') (h3 : MdI w' T) : LkP T w (.returned (.string s)) w' := ⟨s, rfl, h1, h2, h3⟩
def nm9 : Array Value := #[.string ⟨#[120]⟩, .string ⟨#[113]⟩, .string ⟨#[97]⟩, .string ⟨#[109]⟩, .string ⟨#[114]⟩, .string ⟨#[99]⟩, .string ⟨#[102]⟩, .string ⟨#[116]⟩, .string ⟨#[122, 122]⟩]
/-- A row of names. -/
def Nms (n : Nat) (cs : Array Value) : Prop := ∀ j, j < n → ∃ s : ByteArray, cs[j]? = some (.string s) ∧ NmS s
theorem nm9_at : Nms 9 nm9 := fun j hj => by
  have : j = 0 ∨ j = 1 ∨ j = 2 ∨ j = 3 ∨ j = 4 ∨ j = 5 ∨ j = 6 ∨ j = 7 ∨ j = 8 := by omega
  rcases this with rfl | rfl | rfl | rfl | rfl | rfl | rfl | rfl | rfl <;> exact ⟨_, rfl, by unfold maxLen; decide, by rfl⟩
set_option maxHeartbeats 2000000 in
set_option maxRecDepth 100000 in
theorem lock_any (T : Tp) (w : World) (g n : Nat) (cs : Array Value) (hI : MdI w T) (hg : w.heap[g]? = some (.cells cs 9 (0, 0))) (hn : 0 < n) (hn2 : n ≤ 1000) (hs : Nms n cs) (hgt : g ≠ T.bt) (hgm : g ≠ T.bm) :
    Calls Tryd.prog 60 #[.pointer (some ⟨T.bm, 0, none⟩), .slice (some ⟨g, 0, none⟩) n n] w (LkP T w) := by
  have HI := Lib.hid hI
  have HG := Lib.hid hg
  have HS := Lib.hid hs
  have HGG := Lib.hid (And.intro hgt hgm)
  clear hI hg hs hgt hgm
  have c0 := HI.out.ptr
  go_enter Tryd.func60, Tryd.ntmps60
  go_wp2_with fail
  refine (NextM_any T 8 _ (by unfold I64; decide) HI.out).mono ?_
  rintro e w2 ⟨k, rfl, hk0, hk1, hk2, hM, hI2⟩
  have HM := Lib.hid hM
  have HI2 := Lib.hid hI2
  have HG2 : Hid (w2.heap[g]? = some (.cells cs 9 (0, 0))) := Lib.hid ((hM.block g (Array.getElem?_eq_some_iff.1 HG.out).1 HGG.out.1 HGG.out.2).trans HG.out)
  clear hM hI2 c0 hk1 hk2
  have c0 := HI2.out.ptr
  cases hk7 : (k == 7)
  · go_wp2_with fail
    refine (NextM_any T n _ (by unfold I64; omega) HI2.out).mono ?_
    rintro e w3 ⟨r, rfl, hr0, hr1, hr2, hM3, hI3⟩
    obtain ⟨r', rfl⟩ := Int.eq_ofNat_of_zero_le hr0
    have hrn : r' < n := by have := hr1 (by omega); omega
    obtain ⟨s, hs, hsz⟩ := HS.out r' hrn
    have cz : w3.cell? ⟨g, r', none⟩ = some (.string s) := (cell_blk ((hM3.block g (Array.getElem?_eq_some_iff.1 HG2.out).1 HGG.out.1 HGG.out.2).trans HG2.out) hs).2
    have HF := Lib.hid (lkP_mk hsz (HM.out.trans hM3) hI3)
    clear hM3 hI3 hs hsz hr0 hr1 hr2 c0
    go_wp2_with fail
    go_ret
    exact HF.out
  · have hlt := HI2.out.lt
    go_wp2_with fail
    have HB3 : Hid (Below w2.heap.size w2 (w2.alloc (.cells nm9 9))) := Lib.hid (alloc_below _ _)
    have HG3 : Hid ((w2.alloc (.cells nm9 9)).heap[w2.heap.size]? = some (.cells nm9 9 (0, 0))) := Lib.hid (heap_alloc_new _ _)
    have HI3 := Lib.hid (HI2.out.below HB3.out)
    have HTB : Hid (T.bt < w2.heap.size ∧ T.bm < w2.heap.size) := Lib.hid ⟨HI2.out.tape.lt, HI2.out.lt⟩
    refine (NextM_any T 9 _ (by unfold I64; decide) HI3.out).mono ?_
    rintro e w3 ⟨r, rfl, hr0, hr1, hr2, hM3, hI3⟩
    obtain ⟨r', rfl⟩ := Int.eq_ofNat_of_zero_le hr0
    have hrn : r' < 9 := by have := hr1 (by decide); omega
    obtain ⟨s, hs, hsz⟩ := nm9_at r' hrn
    have cz : w3.cell? ⟨w2.heap.size, r', none⟩ = some (.string s) := (cell_blk ((hM3.block _ (Array.getElem?_eq_some_iff.1 HG3.out).1 (by have := HTB.out; omega) (by have := HTB.out; omega)).trans HG3.out) hs).2
    have HF := Lib.hid (lkP_mk hsz ((HM.out.trans (Mk.of_below HB3.out)).trans hM3) hI3)
    have hb0 : (0 : Int) ≤ (r' : Int) := by omega
    have hb1 : (r' : Int) < 9 := by omega
    clear hM3 hI3 hs hsz hr0 hr1 hr2 c0
    go_wp2_with fail
    go_ret
    exact HF.out
end Go.Proofs.YtghdammalphmfaaDoor
end
