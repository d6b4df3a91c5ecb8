/-
  Contract of the maker's decl: it returns a shaped declaration.
  Contract of the maker's decls: nine shaped declarations in a new block.
-/
import Derived.Test.YtghdammalphmfaaDoorGMC
section
set_option linter.unusedSimpArgs false
set_option linter.unusedVariables false
namespace Go.Proofs.YtghdammalphmfaaDoor
open Go.RowKit
open Md
def nm12 : Array Value := #[.string ⟨#[120]⟩, .string ⟨#[121]⟩, .string ⟨#[118]⟩, .string ⟨#[113]⟩, .string ⟨#[109]⟩, .string ⟨#[110]⟩, .string ⟨#[114]⟩, .string ⟨#[99]⟩, .string ⟨#[100]⟩, .string ⟨#[102]⟩, .string ⟨#[103]⟩, .string ⟨#[116]⟩]
theorem nm12_at : Nms 12 nm12 := fun j hj => by
  have : j = 0 ∨ j = 1 ∨ j = 2 ∨ j = 3 ∨ j = 4 ∨ j = 5 ∨ j = 6 ∨ j = 7 ∨ j = 8 ∨ j = 9 ∨ j = 10 ∨ j = 11 := by omega
  rcases this with rfl | rfl | rfl | rfl | rfl | rfl | rfl | rfl | rfl | rfl | rfl | rfl <;> exact ⟨_, rfl, by unfold maxLen; decide, by rfl⟩
def zDe : Array Value := #[.int .i64 0, .int .i64 0, .string ⟨#[]⟩, .int .i64 0, .int .i64 0, .string ⟨#[]⟩]
def deV (d : De) : Value := .agg #[.int .i64 d.kind, .int .i64 d.line, .string d.nm, .int .i64 d.size, .int .i64 d.init, .string d.on]
def d0 (r l : Int) (s : ByteArray) : De := ⟨r, l, s, 0, 0, ⟨#[]⟩⟩
/-- What decl leaves. -/
def DclP (T : Tp) (w : World) (e' : Ending) (w' : World) : Prop := ∃ d, e' = .returned (deV d) ∧ (d.Ok ∧ shpD d = true) ∧ Mk T w w' ∧ MdI w' T
def sz6 : Array Value := #[.int .i64 0, .int .i64 0, .int .i64 1, .int .i64 2, .int .i64 4, .int .i64 5]
theorem sz6_at : ∀ j, j < 6 → ∃ z, sz6[j]? = some (.int .i64 z) ∧ 0 ≤ z ∧ z ≤ 5 := fun j hj => by
  have : j = 0 ∨ j = 1 ∨ j = 2 ∨ j = 3 ∨ j = 4 ∨ j = 5 := by omega
  rcases this with rfl | rfl | rfl | rfl | rfl | rfl <;> exact ⟨_, rfl, by decide, by decide⟩
def in6 : Array Value := #[.int .i64 0, .int .i64 0, .int .i64 1, .int .i64 (-1), .int .i64 9223372036854775807, .int .i64 (-9223372036854775807)]
theorem in6_at : ∀ j, j < 6 → ∃ z, in6[j]? = some (.int .i64 z) ∧ I64 z ∧ (z != -9223372036854775808) = true := fun j hj => by
  have : j = 0 ∨ j = 1 ∨ j = 2 ∨ j = 3 ∨ j = 4 ∨ j = 5 := by omega
  rcases this with rfl | rfl | rfl | rfl | rfl | rfl <;> exact ⟨_, rfl, by unfold I64; decide, by decide⟩
theorem shD {r : Nat} {l z i : Int} {s o : ByteArray} (h1 : 1 ≤ r) (h2 : r ≤ 6) (hs : Tk.isNm s.data.toList = true) (hz : z = 0 ∨ (r = 1 ∧ 0 ≤ z ∧ z ≤ 5)) (hi : (i != -9223372036854775808) = true ∧ (i = 0 ∨ r ≤ 2)) (ho : nmOr o ((r : Int) == 5) = true) :
    shpD { d0 r l s with size := z, init := i, on := o } = true := by
  unfold shpD d0
  dsimp only
  have a1 : (1 : Int) ≤ (r : Int) := by omega
  have a2 : (r : Int) ≤ 6 := by omega
  have a3 : 0 ≤ z := by omega
  have a4 : z = 0 ∨ (r : Int) = 1 := by omega
  have a5 : i = 0 ∨ ((r : Int) = 1 ∨ (r : Int) = 2) := by omega
  rw [hs, ho, hi.1]
  simp [a1, a2, a3, a4, a5]
/-- The maker's decl as it stands. -/
structure DI (T : Tp) (w : World) (ng db : Nat) (W : World) (d : De) : Prop where
  box : W.heap[db]? = some (.cells (deF d).toArray 46 (0, 0))
  ok : d.Ok
  nms : W.heap[ng]? = some (.cells nm12 9 (0, 0))
  mi : MdI W T
  km : Mk T w W
  z : W.heap[w.heap.size]? = some (.cells zDe 46 (0, 0))
  lt : w.heap.size < ng ∧ ng < db
  tb : T.bt < w.heap.size ∧ T.bm < w.heap.size ∧ T.B0 ≤ w.heap.size
section
variable {T : Tp} {w W W' : World} {ng db : Nat} {d : De}
theorem DI.sz (hS : DI T w ng db W d) : db + 1 ≤ W.heap.size := (Array.getElem?_eq_some_iff.1 hS.box).1
theorem DI.go (hS : DI T w ng db W d) (hM : Mk T W W') (hI : MdI W' T) : DI T w ng db W' d where
  box := (hM.block db hS.sz (by have := hS.tb; have := hS.lt; omega) (by have := hS.tb; have := hS.lt; omega)).trans hS.box
  ok := hS.ok
  nms := (hM.block ng (Array.getElem?_eq_some_iff.1 hS.nms).1 (by have := hS.tb; have := hS.lt; omega) (by have := hS.tb; have := hS.lt; omega)).trans hS.nms
  mi := hI
  km := hS.km.trans hM
  z := (hM.block _ (Array.getElem?_eq_some_iff.1 hS.z).1 (by have := hS.tb; omega) (by have := hS.tb; omega)).trans hS.z
  lt := hS.lt
  tb := hS.tb
theorem DI.put {d' : De} (hS : DI T w ng db W d) (j : Nat) (v : Value) (hv : (deF d).toArray.setIfInBounds j v = (deF d').toArray) (hs : d'.Ok) : DI T w ng db (W.setCell ⟨db, j, none⟩ v) d' where
  box := by rw [setCell_blk hS.box, hv]
  ok := hs
  nms := (setCell_far W _ _ rfl (by have := hS.lt; show db ≠ _; omega)).trans hS.nms
  mi := hS.mi.set _ _ (by have := hS.tb; have := hS.lt; show T.B0 ≤ db; omega) (by have := hS.tb; have := hS.lt; show db ≠ _; omega) (by have := hS.tb; have := hS.lt; show db ≠ _; omega)
  km := hS.km.set _ _ (by have := hS.lt; show _ ≤ db; omega)
  z := (setCell_far W _ _ rfl (by have := hS.lt; show db ≠ _; omega)).trans hS.z
  lt := hS.lt
  tb := hS.tb
theorem DI.size (hS : DI T w ng db W d) (k : Int) (hk : I64 k) : DI T w ng db (W.setCell ⟨db, 3, none⟩ (.int .i64 k)) { d with size := k } :=
  hS.put 3 _ rfl ⟨hS.ok.1, hS.ok.2.1, hS.ok.2.2.1, hk, hS.ok.2.2.2.2⟩
theorem DI.init (hS : DI T w ng db W d) (k : Int) (hk : I64 k) : DI T w ng db (W.setCell ⟨db, 4, none⟩ (.int .i64 k)) { d with init := k } :=
  hS.put 4 _ rfl ⟨hS.ok.1, hS.ok.2.1, hS.ok.2.2.1, hS.ok.2.2.2.1, hk, hS.ok.2.2.2.2.2⟩
theorem DI.on (hS : DI T w ng db W d) (s : ByteArray) (hk : s.size ≤ maxLen) : DI T w ng db (W.setCell ⟨db, 5, none⟩ (.string s)) { d with on := s } :=
  hS.put 5 _ rfl ⟨hS.ok.1, hS.ok.2.1, hS.ok.2.2.1, hS.ok.2.2.2.1, hS.ok.2.2.2.2.1, hk⟩
theorem dC (hS : DI T w ng db W d) : W.cell? ⟨db, 0, none⟩ = some (.int .i64 d.kind) ∧ W.cell? ⟨db, 1, none⟩ = some (.int .i64 d.line) ∧ W.cell? ⟨db, 2, none⟩ = some (.string d.nm) ∧ W.cell? ⟨db, 3, none⟩ = some (.int .i64 d.size) ∧ W.cell? ⟨db, 4, none⟩ = some (.int .i64 d.init) ∧ W.cell? ⟨db, 5, none⟩ = some (.string d.on) :=
  ⟨cellb hS.box rfl, cellb hS.box rfl, cellb hS.box rfl, cellb hS.box rfl, cellb hS.box rfl, cellb hS.box rfl⟩
end
theorem de_size : (Tryd.prog.info? 46).map (·.size) = some 6 := by kernel_rfl
set_option maxHeartbeats 4000000 in
set_option maxRecDepth 100000 in
theorem decl_any (T : Tp) (w : World) (hI : MdI w T) : Calls Tryd.prog 18 #[.pointer (some ⟨T.bm, 0, none⟩)] w (DclP T w) := by
  obtain ⟨line, left, hl1, hl2, hl3, hblk⟩ := hI.blm
  have HI0 := Lib.hid hI
  have HTB : Hid (T.bt < w.heap.size ∧ T.bm < w.heap.size ∧ T.B0 ≤ w.heap.size) := Lib.hid ⟨HI0.out.tape.lt, HI0.out.lt, HI0.out.tape.b0⟩
  have hbm := hI.lt
  have c1 : w.cell? ⟨T.bm, 1, none⟩ = some (.int .i64 line) := (cell_blk hblk (j := 1) rfl).2
  have f1 : w.frozen? ⟨T.bm, 1, none⟩ = false := free_blk hblk
  clear hI hblk hl1
  go_enter Tryd.func18, Tryd.ntmps18
  go_upto_region 3 with fail
  generalize hW : World.alloc (World.alloc (World.setCell w _ _) _) _ = W
  have HB : Hid (Below (w.setCell ⟨T.bm, 1, none⟩ (.int .i64 (wrap64 (line + 1)))).heap.size (w.setCell ⟨T.bm, 1, none⟩ (.int .i64 (wrap64 (line + 1)))) W) := Lib.hid (by rw [← hW]; exact (alloc_below _ _).alloc (by simp) _)
  have HM : Hid (Mk T w W) := Lib.hid (((Mk.refl T w).setm _ _).trans (Mk.of_below HB.out))
  have HI : Hid (MdI W T) := Lib.hid ((HI0.out.line (wrap_I64 _)).below HB.out)
  have HZ : Hid (W.heap[w.heap.size]? = some (.cells zDe 46 (0, 0))) := Lib.hid (by
    rw [← hW]
    have e : (World.setCell w ⟨T.bm, 1, none⟩ (.int .i64 (wrap64 (line + 1)))).heap.size = w.heap.size := by simp [World.setCell]
    rw [heap_alloc_old _ _ (by simp [World.setCell]), ← e]; exact heap_alloc_new _ _)
  have HN : Hid (W.heap[w.heap.size + 1]? = some (.cells nm12 9 (0, 0))) := Lib.hid (by
    rw [← hW]
    have e : (World.alloc (World.setCell w ⟨T.bm, 1, none⟩ (.int .i64 (wrap64 (line + 1)))) (.cells zDe 46)).heap.size = w.heap.size + 1 := by simp [World.setCell]
    rw [← e]; exact heap_alloc_new _ _)
  clear hW c1 f1 hbm hl2 hl3
  have K0 : ∀ w', MdI w' T → w'.cell? ⟨T.bm, 0, none⟩ = some (.pointer (some ⟨T.bt, 0, none⟩)) := fun w' h => h.ptr
  have KN : ∀ w', Mk T W w' → ∀ j, j < 12 → ∃ s, w'.cell? ⟨w.heap.size + 1, j, none⟩ = some (.string s) ∧ NmS s := fun w' h j hj => by
    have hb := (h.block _ (Array.getElem?_eq_some_iff.1 HN.out).1 (by have := HTB.out; omega) (by have := HTB.out; omega)).trans HN.out
    obtain ⟨s, h1, h2⟩ := nm12_at j hj
    exact ⟨s, (cell_blk hb h1).2, h2⟩
  have hd1 : Mk T W (W.drewN 1) := Mk.of_below (below_drewN (Below.refl _ _) 1)
  have hd2 : MdI (W.drewN 1) T := HI.out.below (below_drewN (Below.refl _ _) 1)
  have HWS : Hid (w.heap.size + 1 < W.heap.size) := Lib.hid (Array.getElem?_eq_some_iff.1 HN.out).1
  refine wpAny_start (by kernel_rfl) rfl ?_
  refine wpAny_phase 0 22 [] [[], [0], [0, 1], [0, 1, 2], [0, 1, 2, 3], [0, 1, 2, 3, 4], [], [6], [6, 7], [6, 7, 8], [], [], [11], [11, 12], [11, 12, 13], [], [15], [0, 1, 2, 3, 4, 11, 12, 13, 14, 15, 16], [0, 1, 2, 3, 4, 10, 11, 12, 13, 14, 15, 16, 17], [0, 1, 2, 3, 4, 10, 11, 12, 13, 14, 15, 16, 17, 18], [0, 1, 2, 3, 4, 5, 6, 7, 8, 9, 10, 11, 12, 13, 14, 15, 16, 17, 18, 19], [], [0, 1, 2, 3, 4, 5, 6, 7, 8, 9, 10, 11, 12, 13, 14, 15, 16, 17, 18, 19, 20, 21]] [[], [], [], [], [], [], [], [], [], [], [], [], [], [], [], [], [], [], [], [], [], []] (fun _ w' => Mk T W w' ∧ MdI w' T) (fun w w' => Mk T w w') [13, 14, 15, 16, 17, 18, 19, 20, 21, 22, 23, 24, 25, 26, 27, 28, 29, 30, 31, 32, 33, 4] rfl rfl (by rfl) (by kernel_rfl) (by kernel_rfl) (by kernel_rfl) (by kernel_rfl) (by kernel_rfl) (by rfl) (fun _ => Mk.refl _ _) (by rfl) ⟨hd1, hd2⟩ ?_
  simp only [List.take_succ_cons, List.take_zero, List.drop_zero, List.drop_succ_cons, dumE, List.map_cons, List.map_nil]
  apply ObP.step
  case hobl =>
    intro c A w' hok hC hO hD
    have e0 := hO 0 (by rfl)
    simp [Act.eval] at e0
    simp [depsL, IsV, slotv, Act.eval, Region.binds] at hD
    simp [go_sem, gd, Oper.wp, hD, e0]
    exact WPost.mk (Mk.refl _ _) hC (IsV.mk _ _)
  apply ObP.step
  case hobl =>
    intro c A w' hok hC hO hD
    simp [depsL, IsV, slotv, Act.eval, Region.binds] at hD
    simp [go_sem, gd, Oper.wp, hD]
    exact WPost.mk (Mk.refl _ _) hC (IsV.mk _ _)
  apply ObP.step
  case hobl =>
    intro c A w' hok hC hO hD
    simp [depsL, IsV, slotv, Act.eval, Region.binds] at hD
    simp [go_sem, gd, Oper.wp, hD]
    exact WPost.mk (Mk.refl _ _) hC (IsV.mk _ _)
  apply ObP.step
  case hobl =>
    intro c A w' hok hC hO hD
    simp [depsL, IsV, slotv, Act.eval, Region.binds] at hD
    simp [go_sem, gd, Oper.wp, hD, K0, hC.2]
    exact WPost.mk (Mk.refl _ _) hC (IsV.mk _ _)
  simp only [List.nil_append, List.cons_append]
  refine ObP.some (fun v _ => ∃ r : Nat, v = .int .i64 (r : Int) ∧ r < 6) (fun _ _ _ _ h => h) ?_ ?_
  · intro c A w' hok hC hO hD
    simp [depsL, IsV, slotv, Act.eval, Region.binds] at hD
    simp [go_sem, gd, Oper.wp, hD]
    refine (NextM_any T 6 w' (by unfold I64; decide) hC.2).mono ?_
    rintro e w2 ⟨r, rfl, h0, h1, -, hM, hI⟩
    obtain ⟨r', rfl⟩ := Int.eq_ofNat_of_zero_le h0
    exact WPost.mk hM ⟨hC.1.trans hM, hI⟩ ⟨r', rfl, by have := h1 (by decide); omega⟩
  simp only [List.nil_append, List.cons_append]
  refine ObP.some (fun v w' => ∃ r : Nat, v = .int .i64 (r : Int) ∧ 1 ≤ r ∧ r ≤ 6) (fun _ _ _ _ h => h) ?_ ?_
  · intro c A w' hok hC hO hD
    simp [depsL, IsV, slotv, Act.eval, Region.binds] at hD
    obtain ⟨r, hr, hr8⟩ := hD
    have hw : IntKind.i64.wrap (1 + (r : Int)) = 1 + r := IntWalk.i64_in _ (by omega)
    simp [go_sem, gd, Oper.wp, hr, hw]
    exact WPost.mk (Mk.refl _ _) hC (⟨1 + r, by simp, by omega, by omega⟩)
  simp only [List.nil_append, List.cons_append]
  apply ObP.step
  case hobl =>
    intro c A w' hok hC hO hD
    have e0 := hO 0 (by rfl)
    simp [Act.eval] at e0
    simp [depsL, IsV, slotv, Act.eval, Region.binds] at hD
    simp [go_sem, gd, Oper.wp, hD, e0]
    exact WPost.mk (Mk.refl _ _) hC (IsV.mk _ _)
  apply ObP.step
  case hobl =>
    intro c A w' hok hC hO hD
    simp [depsL, IsV, slotv, Act.eval, Region.binds] at hD
    simp [go_sem, gd, Oper.wp, hD]
    exact WPost.mk (Mk.refl _ _) hC (IsV.mk _ _)
  apply ObP.step
  case hobl =>
    intro c A w' hok hC hO hD
    simp [depsL, IsV, slotv, Act.eval, Region.binds] at hD
    simp [go_sem, gd, Oper.wp, hD]
    exact WPost.mk (Mk.refl _ _) hC (IsV.mk _ _)
  simp only [List.nil_append, List.cons_append]
  refine ObP.some (fun v w' => ∃ l : Int, v = .int .i64 l ∧ I64 l) (fun _ _ _ _ h => h) ?_ ?_
  · intro c A w' hok hC hO hD
    simp [depsL, IsV, slotv, Act.eval, Region.binds] at hD
    obtain ⟨l, hc, hl⟩ := hC.2.ln
    simp [go_sem, gd, Oper.wp, hD, hc]
    exact WPost.mk (Mk.refl _ _) hC (⟨l, rfl, hl⟩)
  simp only [List.nil_append, List.cons_append]
  apply ObP.step
  case hobl =>
    intro c A w' hok hC hO hD
    have e3 := hO 3 (by rfl)
    simp [Act.eval] at e3
    simp [depsL, IsV, slotv, Act.eval, Region.binds] at hD
    simp [go_sem, gd, Oper.wp, hD, e3]
    exact WPost.mk (Mk.refl _ _) hC (IsV.mk _ _)
  apply ObP.step
  case hobl =>
    intro c A w' hok hC hO hD
    have e0 := hO 0 (by rfl)
    simp [Act.eval] at e0
    simp [depsL, IsV, slotv, Act.eval, Region.binds] at hD
    simp [go_sem, gd, Oper.wp, hD, e0]
    exact WPost.mk (Mk.refl _ _) hC (IsV.mk _ _)
  apply ObP.step
  case hobl =>
    intro c A w' hok hC hO hD
    simp [depsL, IsV, slotv, Act.eval, Region.binds] at hD
    simp [go_sem, gd, Oper.wp, hD]
    exact WPost.mk (Mk.refl _ _) hC (IsV.mk _ _)
  apply ObP.step
  case hobl =>
    intro c A w' hok hC hO hD
    simp [depsL, IsV, slotv, Act.eval, Region.binds] at hD
    simp [go_sem, gd, Oper.wp, hD]
    exact WPost.mk (Mk.refl _ _) hC (IsV.mk _ _)
  simp only [List.nil_append, List.cons_append]
  apply ObP.step
  case hobl =>
    intro c A w' hok hC hO hD
    simp [depsL, IsV, slotv, Act.eval, Region.binds] at hD
    simp [go_sem, gd, Oper.wp, hD, K0, hC.2]
    exact WPost.mk (Mk.refl _ _) hC (IsV.mk _ _)
  apply ObP.step
  case hobl =>
    intro c A w' hok hC hO hD
    have e3 := hO 3 (by rfl)
    simp [Act.eval] at e3
    simp [depsL, IsV, slotv, Act.eval, Region.binds] at hD
    simp [go_sem, gd, Oper.wp, hD, e3]
    exact WPost.mk (Mk.refl _ _) hC (IsV.mk _ _)
  apply ObP.step
  case hobl =>
    intro c A w' hok hC hO hD
    simp [depsL, IsV, slotv, Act.eval, Region.binds] at hD
    simp [go_sem, gd, Oper.wp, hD]
    exact WPost.mk (Mk.refl _ _) hC (IsV.mk _ _)
  simp only [List.nil_append, List.cons_append]
  refine ObP.some (fun v _ => ∃ r : Nat, v = .int .i64 (r : Int) ∧ r < 12) (fun _ _ _ _ h => h) ?_ ?_
  · intro c A w' hok hC hO hD
    simp [depsL, IsV, slotv, Act.eval, Region.binds] at hD
    simp [go_sem, gd, Oper.wp, hD]
    refine (NextM_any T 12 w' (by unfold I64; decide) hC.2).mono ?_
    rintro e w2 ⟨r, rfl, h0, h1, -, hM, hI⟩
    obtain ⟨r', rfl⟩ := Int.eq_ofNat_of_zero_le h0
    exact WPost.mk hM ⟨hC.1.trans hM, hI⟩ ⟨r', rfl, by have := h1 (by decide); omega⟩
  simp only [List.nil_append, List.cons_append]
  refine ObP.some (fun v w' => ∃ r : Nat, v = .pointer (some ⟨w.heap.size + 1, r, none⟩) ∧ r < 12) (fun _ _ _ _ h => h) ?_ ?_
  · intro c A w' hok hC hO hD
    simp [depsL, IsV, slotv, Act.eval, Region.binds] at hD
    obtain ⟨h46, r, hr, h1⟩ := hD
    have hb0 : (0 : Int) ≤ (r : Int) := by omega
    have hb1 : (r : Int) < 12 := by omega
    simp [go_sem, gd, Oper.wp, h46, hr, hb0, hb1]
    exact WPost.mk (Mk.refl _ _) hC (⟨r, rfl, h1⟩)
  simp only [List.nil_append, List.cons_append]
  refine ObP.some (fun v w' => ∃ s : ByteArray, v = .string s ∧ NmS s) (fun _ _ _ _ h => h) ?_ ?_
  · intro c A w' hok hC hO hD
    simp [depsL, IsV, slotv, Act.eval, Region.binds] at hD
    obtain ⟨r, hr, h1⟩ := hD
    obtain ⟨s, hs, hsz⟩ := KN w' hC.1 r h1
    simp [go_sem, gd, Oper.wp, hr, hs]
    exact WPost.mk (Mk.refl _ _) hC (⟨s, rfl, hsz⟩)
  simp only [List.nil_append, List.cons_append]
  refine ObP.some (fun v w' => ∃ (r : Nat) (l : Int) (s : ByteArray), v = deV (d0 r l s) ∧ 1 ≤ r ∧ r ≤ 6 ∧ I64 l ∧ NmS s) (fun _ _ _ _ h => h) ?_ ?_
  · intro c A w' hok hC hO hD
    simp [depsL, IsV, slotv, Act.eval, Region.binds] at hD
    obtain ⟨⟨r, hr, h1, h2⟩, ⟨l, hl, h3⟩, s, hs, h4⟩ := hD
    simp [go_sem, gd, Oper.wp, hr, hl, hs]
    exact WPost.mk (Mk.refl _ _) hC (⟨r, l, s, rfl, h1, h2, h3, h4⟩)
  simp only [List.nil_append, List.cons_append]
  refine ObP.some (fun v w' => ∃ db, v = .pointer (some ⟨db, 0, none⟩) ∧ W.heap.size ≤ db ∧ w'.heap[db]? = some (.cells zDe 46 (0, 0))) ?_ ?_ ?_
  · rintro v w1 w' hle ⟨g, h1, h2, h3⟩
    exact ⟨g, h1, h2, (hle.block g (Array.getElem?_eq_some_iff.1 h3).1 (by have := HTB.out; have := HWS.out; omega) (by have := HTB.out; have := HWS.out; omega)).trans h3⟩
  · intro c A w' hok hC hO hD
    simp [go_sem, gd, Oper.wp]
    exact WPost.mk (d := _) (v := .pointer (some ⟨_, 0, none⟩)) (Mk.of_below (alloc_below _ _)) ⟨hC.1.trans (Mk.of_below (alloc_below _ _)), hC.2.below (alloc_below _ _)⟩ ⟨_, rfl, hC.1.size, heap_alloc_new _ _⟩
  simp only [List.nil_append, List.cons_append]
  refine ObP.done ?_
  intro wz hCz
  simp only [List.drop_zero]
  intro v0 h0 v1 h1 v2 h2 v3 h3 v4 h4 v5 h5 v6 h6 v7 h7 v8 h8 v9 h9 v10 h10 v11 h11 v12 h12 v13 h13 v14 h14 v15 h15 v16 h16 v17 h17 v18 h18 v19 h19 v20 h20 v21 h21
  obtain ⟨r, l, s, rfl, hr1, hr2, hlI, hs⟩ := h20
  obtain ⟨db, rfl, hsb1, hsb2⟩ := h21
  clear h0 h1 h2 h3 h4 h5 h6 h7 h8 h9 h10 h11 h12 h13 h14 h15 h16 h17 h18 h19 K0 KN hd1 hd2
  refine AllVals.nil ?_
  go_simp
  refine wpAny_one 22 [[], [0], [0, 1], [0, 1, 2], [0, 1, 2, 3], [0, 1, 2, 3, 4], [], [6], [6, 7], [6, 7, 8], [], [], [11], [11, 12], [11, 12, 13], [], [15], [0, 1, 2, 3, 4, 11, 12, 13, 14, 15, 16], [0, 1, 2, 3, 4, 10, 11, 12, 13, 14, 15, 16, 17], [0, 1, 2, 3, 4, 10, 11, 12, 13, 14, 15, 16, 17, 18], [0, 1, 2, 3, 4, 5, 6, 7, 8, 9, 10, 11, 12, 13, 14, 15, 16, 17, 18, 19], [], [0, 1, 2, 3, 4, 5, 6, 7, 8, 9, 10, 11, 12, 13, 14, 15, 16, 17, 18, 19, 20, 21]] rfl rfl rfl rfl rfl (by kernel_rfl) (by kernel_rfl) (by kernel_rfl) ?_
  have HSB := Lib.hid hsb1
  have HLI := Lib.hid hlI
  have HNS := Lib.hid hs
  refine wp_store_mid _ _ _ (by rfl) db 0 (deF (d0 r l s)).toArray (by rfl) (by rfl) (thereS hsb2 (Nat.le_refl 6)) de_size (by simp [deF, d0, Value.oneCell']) ?_
  refine wpAny_end rfl ?_
  generalize hW5 : World.setCells wz db 0 _ = W5
  have HDI : Hid (DI T w (w.heap.size + 1) db W5 (d0 r l s)) := Lib.hid (by
    rw [← hW5]
    have hdb : db ≠ T.bt ∧ db ≠ T.bm ∧ T.B0 ≤ db ∧ w.heap.size + 1 < db := by have := HTB.out; have := HWS.out; omega
    refine ⟨setCells_all hsb2 rfl, ⟨show I64 (r : Int) by unfold I64; omega, HLI.out, HNS.out.1, I64z, I64z, Nat.zero_le _⟩, ?_, hCz.2.sets _ _ _ hdb.2.2.1 hdb.1 hdb.2.1, (HM.out.trans hCz.1).sets _ _ _ (by omega), ?_, ⟨Nat.lt_succ_self _, hdb.2.2.2⟩, HTB.out⟩
    · rw [(setCells_grown db _ _ wz).block _ (Nat.lt_of_lt_of_le HWS.out hCz.1.size) (by simp; omega)]
      exact (hCz.1.block _ HWS.out (by have := HTB.out; omega) (by have := HTB.out; omega)).trans HN.out
    · rw [(setCells_grown db _ _ wz).block _ (Nat.lt_of_lt_of_le (by have := HWS.out; omega) hCz.1.size) (by simp; omega)]
      exact (hCz.1.block _ (by have := HWS.out; omega) (by have := HTB.out; omega) (by have := HTB.out; omega)).trans HZ.out)
  clear hW5 hCz hsb2 hsb1 hlI HZ HI HM hs HN HB
  go_simp
  have y0 : W5.cell? ⟨db, 0, none⟩ = some (.int .i64 (r : Int)) := (dC HDI.out).1
  have HDB : Hid (T.bt < db ∧ T.bm < db) := Lib.hid (by have := HTB.out; have := HWS.out; have := HSB.out; omega)
  go_upto_if 36 with fail
  go_cut [4] (fun s4 W' => s4 = .pointer (some ⟨db, 0, none⟩) ∧ ∃ z : Int, (z = 0 ∨ (r = 1 ∧ 0 ≤ z ∧ z ≤ 5)) ∧ DI T w (w.heap.size + 1) db W' { d0 r l s with size := z })
  case first =>
    cases h1 : ((r : Int) == 1)
    · go_wp2_with fail
      go_meet
      exact ⟨rfl, 0, .inl rfl, HDI.out⟩
    · have HR1 : Hid (r = 1) := Lib.hid (by have := of_decide_eq_true h1; omega)
      have hbm : T.bm < W5.heap.size := Nat.lt_of_lt_of_le HDB.out.2 (Nat.le_of_succ_le HDI.out.sz)
      have c0 := HDI.out.mi.ptr
      go_wp2_with fail
      refine (NextM_any T 6 _ (by unfold I64; decide) (HDI.out.mi.below (alloc_below _ _))).mono ?_
      rintro e w6 ⟨k, rfl, hk0, hk1, hk2, hM, hI6⟩
      obtain ⟨k', rfl⟩ := Int.eq_ofNat_of_zero_le hk0
      have hk6 : k' < 6 := by have := hk1 (by decide); omega
      obtain ⟨z, hz, hz0, hz5⟩ := sz6_at k' hk6
      have HZ := Lib.hid (And.intro hz0 hz5)
      have hne : T.bt < W5.heap.size ∧ T.bm < W5.heap.size := ⟨Nat.lt_of_lt_of_le HDB.out.1 (Nat.le_of_succ_le HDI.out.sz), hbm⟩
      have cz : w6.cell? ⟨W5.heap.size, k', none⟩ = some (.int .i64 z) := cellb ((hM.block _ (by simp) (by omega) (by omega)).trans (heap_alloc_new W5 (.cells sz6 3))) hz
      have HD6 := Lib.hid (HDI.out.go ((Mk.of_below (alloc_below W5 (.cells sz6 3))).trans hM) hI6)
      have y3 := (dC HD6.out).2.2.2.1
      have f3 : w6.frozen? ⟨db, 3, none⟩ = false := free_blk HD6.out.box
      have hb0 : (0 : Int) ≤ (k' : Int) := by omega
      have hb1 : (k' : Int) < 6 := by omega
      clear hz hz0 hz5 hM hI6 hne hk0 hk1 hk2 c0 y0 hbm
      go_wp2_with fail
      go_meet
      exact ⟨rfl, z, .inr ⟨HR1.out, HZ.out⟩, HD6.out.size z (by have := HZ.out; unfold I64; omega)⟩
  obtain ⟨rfl, z, hz, hD⟩ := hcut
  obtain ⟨W6, rfl⟩ : ∃ W : World, W = wc := ⟨_, rfl⟩
  have HZ := Lib.hid hz
  have HD6 := Lib.hid hD
  clear hz hD HDI y0
  have y0 : W6.cell? ⟨db, 0, none⟩ = some (.int .i64 (r : Int)) := (dC HD6.out).1
  go_upto_region 6 with fail
  go_cut [53] (fun s' W' => W6 = W' ∧ ∃ q, s' = .bool q ∧ (q = true → r ≤ 2))
  case first =>
    go_wp2_with fail
    all_goals go_meet
    all_goals exact ⟨rfl, _, rfl, by go_light; grind⟩
  obtain ⟨rfl, q, rfl, hq⟩ := hcut
  have HQ := Lib.hid hq
  clear hq
  go_upto_if 53 with fail
  go_cut [4] (fun s4 W' => s4 = .pointer (some ⟨db, 0, none⟩) ∧ ∃ i : Int, ((i != -9223372036854775808) = true ∧ (i = 0 ∨ r ≤ 2)) ∧ DI T w (w.heap.size + 1) db W' { d0 r l s with size := z, init := i })
  case first =>
    cases q
    · go_wp2_with fail
      go_meet
      exact ⟨rfl, 0, ⟨by decide, .inl rfl⟩, HD6.out⟩
    · have hbm : T.bm < W6.heap.size := Nat.lt_of_lt_of_le HDB.out.2 (Nat.le_of_succ_le HD6.out.sz)
      have c0 := HD6.out.mi.ptr
      have HQ1 : Hid (r ≤ 2) := Lib.hid (HQ.out rfl)
      clear HQ
      go_wp2_with fail
      refine (NextM_any T 6 _ (by unfold I64; decide) (HD6.out.mi.below (alloc_below _ _))).mono ?_
      rintro e w7 ⟨k, rfl, hk0, hk1, hk2, hM, hI6⟩
      obtain ⟨k', rfl⟩ := Int.eq_ofNat_of_zero_le hk0
      have hk6 : k' < 6 := by have := hk1 (by decide); omega
      obtain ⟨i, hz, hz0, hz5⟩ := in6_at k' hk6
      have HIN := Lib.hid (And.intro hz0 hz5)
      have hne : T.bt < W6.heap.size ∧ T.bm < W6.heap.size := ⟨Nat.lt_of_lt_of_le HDB.out.1 (Nat.le_of_succ_le HD6.out.sz), hbm⟩
      have cz : w7.cell? ⟨W6.heap.size, k', none⟩ = some (.int .i64 i) := cellb ((hM.block _ (by simp) (by omega) (by omega)).trans (heap_alloc_new W6 (.cells in6 2))) hz
      have HD7 := Lib.hid (HD6.out.go ((Mk.of_below (alloc_below W6 (.cells in6 2))).trans hM) hI6)
      have y4 := (dC HD7.out).2.2.2.2.1
      have f4 : w7.frozen? ⟨db, 4, none⟩ = false := free_blk HD7.out.box
      have hb0 : (0 : Int) ≤ (k' : Int) := by omega
      have hb1 : (k' : Int) < 6 := by omega
      clear hz hz0 hz5 hM hI6 hne hk0 hk1 hk2 c0 y0 hbm
      go_wp2_with fail
      go_meet
      exact ⟨rfl, i, ⟨HIN.out.2, .inr HQ1.out⟩, HD7.out.init i HIN.out.1⟩
  obtain ⟨rfl, i, hz, hD⟩ := hcut
  obtain ⟨W7, rfl⟩ : ∃ W : World, W = wc := ⟨_, rfl⟩
  have HIN := Lib.hid hz
  have HD7 := Lib.hid hD
  clear hz hD HD6 y0 HQ
  have y0 : W7.cell? ⟨db, 0, none⟩ = some (.int .i64 (r : Int)) := (dC HD7.out).1
  go_upto_if 65 with fail
  go_cut [4] (fun s4 W' => s4 = .pointer (some ⟨db, 0, none⟩) ∧ ∃ o : ByteArray, nmOr o ((r : Int) == 5) = true ∧ DI T w (w.heap.size + 1) db W' { d0 r l s with size := z, init := i, on := o })
  case first =>
    cases h5 : ((r : Int) == 5)
    · have H5 : Hid (nmOr ⟨#[]⟩ ((r : Int) == 5) = true) := Lib.hid (by rw [h5]; rfl)
      go_wp2_with fail
      go_meet
      exact ⟨rfl, ⟨#[]⟩, H5.out, HD7.out⟩
    · have c0 := HD7.out.mi.ptr
      go_wp2_with fail
      refine (NextM_any T 12 _ (by unfold I64; decide) HD7.out.mi).mono ?_
      rintro e w8 ⟨k, rfl, hk0, hk1, hk2, hM, hI6⟩
      obtain ⟨k', rfl⟩ := Int.eq_ofNat_of_zero_le hk0
      have hk6 : k' < 12 := by have := hk1 (by decide); omega
      obtain ⟨o, hz, hz0⟩ := nm12_at k' hk6
      have HO : Hid (nmOr o ((r : Int) == 5) = true ∧ o.size ≤ maxLen) := Lib.hid ⟨by rw [h5]; exact hz0.2, hz0.1⟩
      have HD8 := Lib.hid (HD7.out.go hM hI6)
      have cz : w8.cell? ⟨w.heap.size + 1, k', none⟩ = some (.string o) := cellb HD8.out.nms hz
      have y5 := (dC HD8.out).2.2.2.2.2
      have f5 : w8.frozen? ⟨db, 5, none⟩ = false := free_blk HD8.out.box
      have hb0 : (0 : Int) ≤ (k' : Int) := by omega
      have hb1 : (k' : Int) < 12 := by omega
      clear hz hz0 hM hI6 hk0 hk1 hk2 c0 y0
      go_wp2_with fail
      go_meet
      exact ⟨rfl, o, HO.out.1, HD8.out.on o HO.out.2⟩
  obtain ⟨rfl, o, ho, hD⟩ := hcut
  obtain ⟨W9, rfl⟩ : ∃ W : World, W = wc := ⟨_, rfl⟩
  have HSH : Hid (shpD { d0 r l s with size := z, init := i, on := o } = true) := Lib.hid (shD hr1 hr2 HNS.out.2 HZ.out HIN.out ho)
  have HD9 := Lib.hid hD
  clear ho hD HD7 y0
  generalize hd : ({ d0 r l s with size := z, init := i, on := o } : De) = d at *
  obtain ⟨y0, y1, y2, y3, y4, y5⟩ := dC HD9.out
  have f : ∀ j, W9.frozen? ⟨w.heap.size, j, none⟩ = false := fun j => free_blk HD9.out.z
  have z0 : W9.cell? ⟨w.heap.size, 0, none⟩ = some _ := cellb HD9.out.z rfl
  have z1 : W9.cell? ⟨w.heap.size, 1, none⟩ = some _ := cellb HD9.out.z rfl
  have z2 : W9.cell? ⟨w.heap.size, 2, none⟩ = some _ := cellb HD9.out.z rfl
  have z3 : W9.cell? ⟨w.heap.size, 3, none⟩ = some _ := cellb HD9.out.z rfl
  have z4 : W9.cell? ⟨w.heap.size, 4, none⟩ = some _ := cellb HD9.out.z rfl
  have z5 : W9.cell? ⟨w.heap.size, 5, none⟩ = some _ := cellb HD9.out.z rfl
  have HDD := Lib.hid hd
  clear hd
  go_wp2_with fail
  clear f
  have HP := Lib.hid (fin_step HD9.out.tb (fin_step HD9.out.tb (fin_step HD9.out.tb (fin_step HD9.out.tb (fin_step HD9.out.tb (fin_step HD9.out.tb ⟨HD9.out.km, HD9.out.mi, Abv.refl _ _⟩ 0 (.int .i64 d.kind)) 1 (.int .i64 d.line)) 2 (.string d.nm)) 3 (.int .i64 d.size)) 4 (.int .i64 d.init)) 5 (.string d.on))
  exact bodyPost_ret (v := deV d) (by simp [results, Tryd.results18, go_sem, deV, z0, z1, z2, z3, z4, z5]) rfl ⟨d, rfl, ⟨HD9.out.ok, HSH.out⟩, HP.out.1, HP.out.2.1⟩
end Go.Proofs.YtghdammalphmfaaDoor
end
section
set_option linter.unusedSimpArgs false
set_option linter.unusedVariables false
namespace Go.Proofs.YtghdammalphmfaaDoor
open Go.RowKit
open Md
def dec9 : List De := [⟨1, 0, ⟨#[120]⟩, 0, 0, ⟨#[]⟩⟩, ⟨1, 0, ⟨#[121]⟩, 0, 1, ⟨#[]⟩⟩, ⟨2, 0, ⟨#[118]⟩, 0, 0, ⟨#[]⟩⟩, ⟨1, 0, ⟨#[113]⟩, 2, 0, ⟨#[]⟩⟩, ⟨3, 0, ⟨#[109]⟩, 0, 0, ⟨#[]⟩⟩, ⟨3, 0, ⟨#[110]⟩, 0, 0, ⟨#[]⟩⟩, ⟨4, 0, ⟨#[114]⟩, 0, 0, ⟨#[]⟩⟩, ⟨5, 0, ⟨#[99]⟩, 0, 0, ⟨#[109]⟩⟩, ⟨6, 0, ⟨#[102]⟩, 0, 0, ⟨#[]⟩⟩]
theorem info_de : (Tryd.prog.info? 46).map (fun i => (i.zero, i.size, i.bytes)) = some (some (.agg zDe), 6, 64) := by kernel_rfl
theorem de_info : ∃ i0, Tryd.prog.info? 46 = some i0 ∧ i0.zero = some (.agg zDe) ∧ i0.size = 6 ∧ i0.bytes = 64 := info_parts info_de
theorem def_one (x : De) : ∀ u ∈ deF x, u.oneCell' = true := by
  intro u hu; simp [deF] at hu
  rcases hu with rfl | rfl | rfl | rfl | rfl | rfl <;> rfl
theorem dec9_ok : ∀ d ∈ dec9, d.Ok ∧ shpD d = true := by
  intro d hd
  simp only [dec9, List.mem_cons, List.not_mem_nil, or_false] at hd
  rcases hd with rfl | rfl | rfl | rfl | rfl | rfl | rfl | rfl | rfl <;> exact ⟨⟨by unfold I64; decide, by unfold I64; decide, by unfold maxLen; decide, by unfold I64; decide, by unfold I64; decide, by unfold maxLen; decide⟩, by rfl⟩
def DclsP (w : World) (e : Ending) (w' : World) : Prop := ∃ g, e = .returned (.slice (some ⟨g, 0, none⟩) 9 9) ∧ w.heap.size ≤ g ∧ w'.heap[g]? = some (.cells (dec9.flatMap deF).toArray 46 (0, 0)) ∧ Below w.heap.size w w'
theorem decls_any (w : World) : Calls Tryd.prog 17 #[] w (DclsP w) := by
  go_enter Tryd.func17, Tryd.ntmps17
  go_wp2
  go_ret
  refine ⟨_, rfl, ?_, ?_, ?_⟩
  · exact Nat.le_refl _
  · exact heap_alloc_new _ _
  · exact alloc_below _ _
theorem Grow.moveN {α : Type} {f : α → List Value} {m : Nat} {ty : TypeId} {B : Nat} {w w' : World} {v : Value} {xs : List α} {g : Option Nat} (h : Grow f m (fun _ _ => True) ty B w v xs) (ha : AbvX B g w w') (hne : ∀ k, v.ownBlock = some k → some k ≠ g) : Grow f m (fun _ _ => True) ty B w' v xs := by
  refine ⟨⟨h.own.1, ?_⟩, fun x hx _ _ => trivial⟩
  rcases h.own.2 with h1 | ⟨g', cap, cur, h1, h2, h3, h4⟩
  · exact .inl h1
  · exact .inr ⟨g', cap, cur, h1, h2, (ha.2 g' h2 (hne g' (by rw [h1]; rfl)) (Array.getElem?_eq_some_iff.1 h3).1).trans h3, h4⟩
theorem Grow.made {α : Type} {f : α → List Value} {m : Nat} {ty : TypeId} {B : Nat} {W : World} {g n : Nat} {xs : List α} (hf : ∀ x, (f x).length = m) (h : W.heap[g]? = some (.cells (xs.flatMap f).toArray ty (0, 0))) (hB : B ≤ g) (hn : xs.length = n) (hm : n ≤ maxLen) : Grow f m (fun _ _ => True) ty B W (.slice (some ⟨g, 0, none⟩) n n) xs := by
  subst hn
  have hl := flat_len hf xs
  refine ⟨⟨hl, .inr ⟨g, xs.length, _, rfl, hB, h, Nat.le_refl _, hm, by simpa using hl, ?_⟩⟩, fun x hx _ _ => trivial⟩
  exact List.take_of_length_le (by simpa using Nat.le_of_eq hl)
theorem flat_set {α : Type} {f : α → List Value} {m : Nat} (hf : ∀ x, (f x).length = m) : ∀ (xs : List α) (k : Nat) (x x' : α) (j : Nat) (u : Value), xs[k]? = some x → j < m → (f x).set j u = f x' → (xs.flatMap f).set (k * m + j) u = (xs.set k x').flatMap f
  | [], _, _, _, _, _, h, _, _ => by simp at h
  | y :: xs, 0, x, x', j, u, h, hj, hu => by
    simp at h; subst h
    rw [Nat.zero_mul, Nat.zero_add, List.flatMap_cons, List.set_append_left _ _ (by rw [hf]; exact hj), hu]; rfl
  | y :: xs, k + 1, x, x', j, u, h, hj, hu => by
    have ih := flat_set hf xs k x x' j u (by simpa using h) hj hu
    have e : (k + 1) * m + j = m + (k * m + j) := by rw [Nat.add_mul]; omega
    rw [List.flatMap_cons, List.set_append_right _ _ (by rw [hf, e]; omega), hf, e, Nat.add_sub_cancel_left, ih]; rfl
theorem Grow.set {α : Type} {f : α → List Value} {m : Nat} {ty : TypeId} {B : Nat} {w : World} {g n cap k j : Nat} {u : Value} {xs : List α} {x x' : α} (hf : ∀ x, (f x).length = m) (h : Grow f m (fun _ _ => True) ty B w (.slice (some ⟨g, 0, none⟩) n cap) xs) (hk : xs[k]? = some x) (hj : j < m) (hu : (f x).set j u = f x') :
    Grow f m (fun _ _ => True) ty B (w.setCell ⟨g, k * m + j, none⟩ u) (.slice (some ⟨g, 0, none⟩) n cap) (xs.set k x') := by
  refine ⟨⟨by rw [flat_len hf, ], ?_⟩, fun x hx _ _ => trivial⟩
  rcases h.own.2 with ⟨h1, -⟩ | ⟨g', cap', cur, h1, h2, h3, h4, h5, h6, h7⟩
  · cases h1
  · injection h1 with e1 e2 e3; injection e1 with e1; injection e1 with e1; subst e1; subst e3; subst e2
    refine .inr ⟨g, cap, cur.setIfInBounds (k * m + j) u, by rw [List.length_set], h2, setCell_blk h3 u, by rw [List.length_set]; exact h4, h5, by simpa using h6, ?_⟩
    rw [← flat_set hf xs k x x' j u hk hj hu, ← h7, Array.toList_setIfInBounds, List.length_set, List.take_set]
theorem stayX_weak {B B1 : Nat} {g g1 : Option Nat} {w : World} {Q : World → Prop} (h : StayX B1 g1 w Q) (hB : B ≤ B1) (hg : ∀ k, g = some k → k < B1) : StayX B g w Q := fun w' ha =>
  h w' ⟨ha.1, fun k h1 _ h2 => ha.2 k (Nat.le_trans hB h1) (fun e => absurd (hg k e.symm) (by omega)) h2⟩
/-- The program as it stands while its declarations are made. -/
structure PD (T : Tp) (w1 : World) (pb : Nat) (W : World) (vD : Value) (ds : List De) : Prop where
  box : W.heap[pb]? = some (.cells #[vD, .slice none 0 0] 29 (0, 0))
  gd : GrowD (pb + 1) W vD ds
  ok : ∀ d ∈ ds, d.Ok ∧ shpD d = true
  mi : MdI W T
  km : Mk T w1 W
  lt : T.bt < w1.heap.size ∧ T.bm < w1.heap.size ∧ T.B0 ≤ w1.heap.size ∧ w1.heap.size ≤ pb
section
variable {T : Tp} {w1 W W' : World} {pb : Nat} {vD : Value} {ds : List De}
theorem PD.sz (h : PD T w1 pb W vD ds) : pb + 1 ≤ W.heap.size := (Array.getElem?_eq_some_iff.1 h.box).1
theorem PD.go (h : PD T w1 pb W vD ds) (hM : Mk T W W') (hI : MdI W' T) : PD T w1 pb W' vD ds where
  box := (hM.block pb h.sz (by have := h.lt; omega) (by have := h.lt; omega)).trans h.box
  gd := h.gd.next (hM.abv (by have := h.lt; omega) (by have := h.lt; omega))
  ok := h.ok
  mi := hI
  km := h.km.trans hM
  lt := h.lt
theorem PD.put {vD' : Value} {ds' : List De} (h : PD T w1 pb W vD ds) (hg : GrowD (pb + 1) W vD' ds') (hok : ∀ d ∈ ds', d.Ok ∧ shpD d = true) : PD T w1 pb (W.setCell ⟨pb, 0, none⟩ vD') vD' ds' where
  box := by rw [setCell_blk h.box]; rfl
  gd := hg.next (abv_set _ _ _ (Nat.lt_succ_self _))
  ok := hok
  mi := h.mi.set _ _ (by have := h.lt; show T.B0 ≤ pb; omega) (by have := h.lt; show pb ≠ _; omega) (by have := h.lt; show pb ≠ _; omega)
  km := h.km.set _ _ (by have := h.lt; show _ ≤ pb; omega)
  lt := h.lt
theorem PD.put' {v0 vD' : Value} {ds' : List De} (hb : W.heap[pb]? = some (.cells #[v0, .slice none 0 0] 29 (0, 0))) (mi : MdI W T) (km : Mk T w1 W) (lt : T.bt < w1.heap.size ∧ T.bm < w1.heap.size ∧ T.B0 ≤ w1.heap.size ∧ w1.heap.size ≤ pb) (hg : GrowD (pb + 1) W vD' ds') (hok : ∀ d ∈ ds', d.Ok ∧ shpD d = true) : PD T w1 pb (W.setCell ⟨pb, 0, none⟩ vD') vD' ds' where
  box := by rw [setCell_blk hb]; rfl
  gd := hg.next (abv_set _ _ _ (Nat.lt_succ_self _))
  ok := hok
  mi := mi.set _ _ (by show T.B0 ≤ pb; omega) (by show pb ≠ _; omega) (by show pb ≠ _; omega)
  km := km.set _ _ (by show _ ≤ pb; omega)
  lt := lt
theorem PD.line {k : Nat} {d : De} {l : Int} {g n cap : Nat} (h : PD T w1 pb W (.slice (some ⟨g, 0, none⟩) n cap) ds) (hk : ds[k]? = some d) (hl : I64 l) : PD T w1 pb (W.setCell ⟨g, k * 6 + 1, none⟩ (.int .i64 l)) (.slice (some ⟨g, 0, none⟩) n cap) (ds.set k { d with line := l }) where
  box := (setCell_far W _ _ rfl (by have := (h.gd.lt g rfl).1; show g ≠ _; omega)).trans h.box
  gd := h.gd.set deF_len hk (by decide) rfl
  ok := fun x hx => by
    rcases List.mem_or_eq_of_mem_set hx with hx | rfl
    · exact h.ok x hx
    · have := h.ok d (List.mem_of_getElem? hk)
      exact ⟨⟨this.1.1, hl, this.1.2.2⟩, this.2⟩
  mi := h.mi.set _ _ (by have := h.lt; have := (h.gd.lt g rfl).1; show T.B0 ≤ g; omega) (by have := h.lt; have := (h.gd.lt g rfl).1; show g ≠ _; omega) (by have := h.lt; have := (h.gd.lt g rfl).1; show g ≠ _; omega)
  km := h.km.set _ _ (by have := h.lt; have := (h.gd.lt g rfl).1; show _ ≤ g; omega)
  lt := h.lt
theorem PD.mline {l : Int} (h : PD T w1 pb W vD ds) (hl : I64 l) : PD T w1 pb (W.setCell ⟨T.bm, 1, none⟩ (.int .i64 l)) vD ds :=
  h.go ((Mk.refl T W).setm _ _) (h.mi.line hl)
theorem PD.size_le (h : PD T w1 pb W vD ds) : ∀ k, vD.ownBlock = some k → k < W.heap.size := fun k hk => (h.gd.lt k hk).2
end
def nmT : Array Value := #[.string ⟨#[116]⟩, .string ⟨#[117]⟩, .string ⟨#[119]⟩, .string ⟨#[122]⟩, .string ⟨#[122, 53]⟩]
theorem nmT_at : Nms 5 nmT := fun j hj => by
  have : j = 0 ∨ j = 1 ∨ j = 2 ∨ j = 3 ∨ j = 4 := by omega
  rcases this with rfl | rfl | rfl | rfl | rfl <;> exact ⟨_, rfl, by unfold maxLen; decide, by rfl⟩
/-- A thread of names and shaped statements. -/
def ShT (t : Th) : Prop := Tk.isNm t.nm.data.toList = true ∧ (∀ s ∈ t.locs, Tk.isNm s.data.toList = true) ∧ shpSL t.body = true
/-- The program as it stands while its threads are made. -/
structure PI (T : Tp) (w1 : World) (pb nb : Nat) (W : World) (vD : Value) (ds : List De) (vT : Value) (ths : List ThI) : Prop where
  box : W.heap[pb]? = some (.cells #[vD, vT] 29 (0, 0))
  nms : W.heap[nb]? = some (.cells nmT 9 (0, 0))
  gd : GrowD (pb + 1) W vD ds
  dlt : ∀ k, vD.ownBlock = some k → k < nb
  gt : GrowTh (nb + 1) W vT ths
  okd : ∀ d ∈ ds, d.Ok ∧ shpD d = true
  okt : ∀ x ∈ ths, (x.t.Ok ∧ x.t.locs.length ≤ x.capl) ∧ ShT x.t
  mi : MdI W T
  km : Mk T w1 W
  lt : T.bt < w1.heap.size ∧ T.bm < w1.heap.size ∧ T.B0 ≤ w1.heap.size ∧ w1.heap.size ≤ pb ∧ pb < nb
section
variable {T : Tp} {w1 W W' : World} {pb nb : Nat} {vD vT : Value} {ds : List De} {ths : List ThI}
theorem PD.pi (h : PD T w1 pb W vD ds) : PI T w1 pb W.heap.size (W.alloc (.cells nmT 9)) vD ds (.slice none 0 0) [] where
  box := (alloc_below W (.cells nmT 9)).block pb h.sz |>.trans h.box
  nms := heap_alloc_new _ _
  gd := h.gd.next (abv_below (alloc_below _ _))
  dlt := h.size_le
  gt := Grow.nil _ _ _ _ _ _
  okd := h.ok
  okt := by simp
  mi := h.mi.below (alloc_below _ _)
  km := h.km.trans (Mk.of_below (alloc_below _ _))
  lt := ⟨h.lt.1, h.lt.2.1, h.lt.2.2.1, h.lt.2.2.2, h.sz⟩
theorem PI.sz (h : PI T w1 pb nb W vD ds vT ths) : nb + 1 ≤ W.heap.size := (Array.getElem?_eq_some_iff.1 h.nms).1
theorem PI.go (h : PI T w1 pb nb W vD ds vT ths) (hM : Mk T W W') (hI : MdI W' T) : PI T w1 pb nb W' vD ds vT ths where
  box := (hM.block pb (by have := h.sz; have := h.lt; omega) (by have := h.lt; omega) (by have := h.lt; omega)).trans h.box
  nms := (hM.block nb h.sz (by have := h.lt; omega) (by have := h.lt; omega)).trans h.nms
  gd := h.gd.next (hM.abv (by have := h.lt; omega) (by have := h.lt; omega))
  dlt := h.dlt
  gt := h.gt.next (hM.abv (by have := h.lt; omega) (by have := h.lt; omega))
  okd := h.okd
  okt := h.okt
  mi := hI
  km := h.km.trans hM
  lt := h.lt
theorem PI.mline {l : Int} (h : PI T w1 pb nb W vD ds vT ths) (hl : I64 l) : PI T w1 pb nb (W.setCell ⟨T.bm, 1, none⟩ (.int .i64 l)) vD ds vT ths :=
  h.go ((Mk.refl T W).setm _ _) (h.mi.line hl)
/-- One more thread. -/
theorem PI.push {x : ThI} {g cap n : Nat} (h : PI T w1 pb nb W vD ds vT ths) (hx : StayX (nb + 1) vT.ownBlock W (ThI.I x)) (hok : (x.t.Ok ∧ x.t.locs.length ≤ x.capl) ∧ ShT x.t) (hn : n = ths.length + 1) (hown : W'.ownsRow (nb + 1) 44 4 (.slice (some ⟨g, 0, none⟩) n cap) n (ths.flatMap ThI.f ++ ThI.f x)) (hg : W.grownBy W' vT.ownBlock) (hmv : vT.ownBlock = some g ∨ g = W.heap.size) :
    PI T w1 pb nb (W'.setCell ⟨pb, 1, none⟩ (.slice (some ⟨g, 0, none⟩) n cap)) vD ds (.slice (some ⟨g, 0, none⟩) n cap) (ths ++ [x]) := by
  have hb : Below (nb + 1) W W' := below_of_grown hg (fun k hk => (h.gt.lt k hk).1) h.sz
  have hbx : W'.heap[pb]? = some (.cells #[vD, vT] 29 (0, 0)) := (hb.block pb (by have := h.lt; omega)).trans h.box
  refine ⟨by rw [setCell_blk hbx]; rfl, (setCell_far W' _ _ rfl (by have := h.lt; show pb ≠ _; omega)).trans ((hb.block nb (Nat.lt_succ_self _)).trans h.nms), ?_, h.dlt, ?_, h.okd, ?_, ?_, ?_, h.lt⟩
  · refine (h.gd.moveN (w' := W') (g := vT.ownBlock) (AbvX.of_grown hg) (fun k hk e => ?_)).next (abv_set _ _ _ (Nat.lt_succ_self _))
    have := h.dlt k hk; have := (h.gt.lt k e.symm).1; omega
  · exact (h.gt.push hx hn hown hg hmv).next (abv_set _ _ _ (by have := h.lt; show pb < _; omega))
  · intro y hy
    rcases List.mem_append.1 hy with hy | hy
    · exact h.okt y hy
    · rw [List.mem_singleton.1 hy]; exact hok
  · exact (h.mi.belowB hb (by have := h.lt; omega) (by have := h.lt; omega) (by have := h.lt; omega)).set _ _ (by have := h.lt; show T.B0 ≤ pb; omega) (by have := h.lt; show pb ≠ _; omega) (by have := h.lt; show pb ≠ _; omega)
  · exact (h.km.thenB (hb.mono (by have := h.lt; omega))).set _ _ (by have := h.lt; show _ ≤ pb; omega)
end
/-- A thread as it stands while it is made. -/
structure TI (T : Tp) (W0 : World) (tb : Nat) (W : World) (nm : ByteArray) (line : Int) (vL : Value) (locs : List ByteArray) (vB : Value) : Prop where
  box : W.heap[tb]? = some (.cells #[.string nm, .int .i64 line, vL, vB] 44 (0, 0))
  gl : GrowT W0.heap.size W vL locs
  ne : ∀ k, vL.ownBlock = some k → k ≠ tb
  ok : NmS nm ∧ I64 line ∧ (∀ s ∈ locs, NmS s) ∧ locs.length ≤ 10
  mi : MdI W T
  km : Mk T W0 W
  lt : T.bt < W0.heap.size ∧ T.bm < W0.heap.size ∧ T.B0 ≤ W0.heap.size ∧ W0.heap.size ≤ tb
section
variable {T : Tp} {W0 W W' : World} {tb : Nat} {nm : ByteArray} {line : Int} {vL vB : Value} {locs : List ByteArray}
theorem TI.sz (h : TI T W0 tb W nm line vL locs vB) : tb + 1 ≤ W.heap.size := (Array.getElem?_eq_some_iff.1 h.box).1
theorem TI.go (h : TI T W0 tb W nm line vL locs vB) (hM : Mk T W W') (hI : MdI W' T) : TI T W0 tb W' nm line vL locs vB where
  box := (hM.block tb h.sz (by have := h.lt; omega) (by have := h.lt; omega)).trans h.box
  gl := h.gl.next (hM.abv (by have := h.lt; omega) (by have := h.lt; omega))
  ne := h.ne
  ok := h.ok
  mi := hI
  km := h.km.trans hM
  lt := h.lt
theorem abvx_set {B : Nat} (w : World) (a : Addr) (v : Value) : AbvX B (some a.block) w (w.setCell a v) := AbvX.of_grown (setCell_grown w a v)
theorem TI.name {s : ByteArray} (h : TI T W0 tb W nm line vL locs vB) (hs : NmS s) : TI T W0 tb (W.setCell ⟨tb, 0, none⟩ (.string s)) s line vL locs vB where
  box := by rw [setCell_blk h.box]; rfl
  gl := h.gl.moveN (abvx_set _ _ _) (fun k hk e => h.ne k hk (by injection e))
  ne := h.ne
  ok := ⟨hs, h.ok.2⟩
  mi := h.mi.set _ _ (by have := h.lt; show T.B0 ≤ tb; omega) (by have := h.lt; show tb ≠ _; omega) (by have := h.lt; show tb ≠ _; omega)
  km := h.km.set _ _ h.lt.2.2.2
  lt := h.lt
theorem TI.body {v : Value} (h : TI T W0 tb W nm line vL locs vB) : TI T W0 tb (W.setCell ⟨tb, 3, none⟩ v) nm line vL locs v where
  box := by rw [setCell_blk h.box]; rfl
  gl := h.gl.moveN (abvx_set _ _ _) (fun k hk e => h.ne k hk (by injection e))
  ne := h.ne
  ok := h.ok
  mi := h.mi.set _ _ (by have := h.lt; show T.B0 ≤ tb; omega) (by have := h.lt; show tb ≠ _; omega) (by have := h.lt; show tb ≠ _; omega)
  km := h.km.set _ _ h.lt.2.2.2
  lt := h.lt
theorem TI.locs' {v0 vL' : Value} {locs' : List ByteArray} (hb : W.heap[tb]? = some (.cells #[.string nm, .int .i64 line, v0, vB] 44 (0, 0))) (hg : GrowT W0.heap.size W vL' locs') (hne : ∀ k, vL'.ownBlock = some k → k ≠ tb) (hok : NmS nm ∧ I64 line ∧ (∀ s ∈ locs', NmS s) ∧ locs'.length ≤ 10) (mi : MdI W T) (km : Mk T W0 W) (lt : T.bt < W0.heap.size ∧ T.bm < W0.heap.size ∧ T.B0 ≤ W0.heap.size ∧ W0.heap.size ≤ tb) :
    TI T W0 tb (W.setCell ⟨tb, 2, none⟩ vL') nm line vL' locs' vB where
  box := by rw [setCell_blk hb]; rfl
  gl := hg.moveN (abvx_set _ _ _) (fun k hk e => hne k hk (by injection e))
  ne := hne
  ok := hok
  mi := mi.set _ _ (by show T.B0 ≤ tb; omega) (by show tb ≠ _; omega) (by show tb ≠ _; omega)
  km := km.set _ _ lt.2.2.2
  lt := lt
end
theorem info_th : (Tryd.prog.info? 44).map (fun i => (i.zero, i.size, i.bytes)) = some (some (.agg #[.string ⟨#[]⟩, .int .i64 0, .slice none 0 0, .slice none 0 0]), 4, 72) := by kernel_rfl
theorem th_info : ∃ i0, Tryd.prog.info? 44 = some i0 ∧ i0.zero = some (.agg #[.string ⟨#[]⟩, .int .i64 0, .slice none 0 0, .slice none 0 0]) ∧ i0.size = 4 ∧ i0.bytes = 72 := info_parts info_th
theorem th_size : (Tryd.prog.info? 44).map (·.size) = some 4 := by kernel_rfl
theorem thf_one (x : ThI) : ∀ u ∈ ThI.f x, u.oneCell' = true := by
  intro u hu; simp [ThI.f] at hu
  rcases hu with rfl | rfl | rfl | rfl <;> rfl
theorem info_tx : (Tryd.prog.info? 9).map (fun i => (i.zero, i.size, i.bytes)) = some (some (.string ⟨#[]⟩), 1, 16) := by kernel_rfl
theorem tx_info : ∃ i0, Tryd.prog.info? 9 = some i0 ∧ i0.zero = some (.string ⟨#[]⟩) ∧ i0.size = 1 ∧ i0.bytes = 16 := info_parts info_tx
end Go.Proofs.YtghdammalphmfaaDoor
end
