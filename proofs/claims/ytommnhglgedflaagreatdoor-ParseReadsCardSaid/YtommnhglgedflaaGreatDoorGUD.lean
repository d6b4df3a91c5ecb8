/-
  What the second parser's expressions leave; contract of unary.
  Contract of the second parser's primary.
  Contract of the second parser's expr: all that reads expressions.
  All that reads expressions in the second parser; a statement under way.
-/
import Derived.Test.YtommnhglgedflaaGreatDoorGUB
import Derived.Test.YtommnhglgedflaaGreatDoorGUC
import Derived.Test.YtommnhglgedflaaGreatDoorGRB
import Derived.Test.YtommnhglgedflaaGreatDoorGRD
import Derived.Test.YtommnhglgedflaaGreatDoorGRC
section
set_option linter.unusedSimpArgs false
set_option linter.unusedVariables false
namespace Go.Proofs.YtommnhglgedflaaGreatDoor
open Go.RowKit
open Md Pz
/-- What an expression's reading leaves. -/
def ExpR (R : Rp) (w : World) (q : E × St) (e : Ending) (w' : World) : Prop :=
  ∃ v, e = .returned v ∧ EV w.heap.size q.1 v w' ∧ RfI w' R q.2 ∧ w.grownBy w' (some R.br)
def RxSays (R : Rp) (f : Nat) : M → Prop
  | .bin lv => lv ≤ 6 → ∀ s w, enough (.bin lv) s.toks f → RfI w R s → Calls Tryz.prog 44 #[.pointer (some ⟨R.br, 0, none⟩), .int .i64 (lv : Int)] w (ExpR R w (exprS R.ts f (.bin lv) s))
  | .un => ∀ s w, enough .un s.toks f → RfI w R s → Calls Tryz.prog 83 #[.pointer (some ⟨R.br, 0, none⟩)] w (ExpR R w (exprS R.ts f .un s))
  | .pr => ∀ s w, enough .pr s.toks f → RfI w R s → Calls Tryz.prog 115 #[.pointer (some ⟨R.br, 0, none⟩)] w (ExpR R w (exprS R.ts f .pr s))
  | .lp _ _ => True
theorem rf_set {w : World} {R : Rp} {s : St} (h : RfI w R s) (a : Addr) (v : Value) (h0 : R.B0 ≤ a.block) (h1 : a.block ≠ R.br) : RfI (w.setCell a v) R s := by
  obtain ⟨pos, bad, k1, k2, k3⟩ := h.blk
  exact ⟨⟨pos, bad, k1, k2, (setCell_far w a v rfl h1).trans k3⟩, h.tok.below (grown_below (setCell_grown w a v) h0 (Nat.le_trans R.b0 (Nat.le_of_lt h.lt))), h.ok, h.tl⟩
theorem rf_alloc {w : World} {R : Rp} {s : St} (h : RfI w R s) (o : Obj) : RfI (w.alloc o) R s := h.below (alloc_below _ _)
/-- Where a call stands. -/
structure Wr (R : Rp) (w W : World) (s : St) : Prop where
  rd : RfI W R s
  gr : w.grownBy W (some R.br)
  lt : R.br < w.heap.size
theorem Wr.start {R : Rp} {w : World} {s : St} (h : RfI w R s) : Wr R w w s := ⟨h, grow_rf _, h.lt⟩
section
variable {R : Rp} {w W W' : World} {s s' : St}
theorem Wr.set (h : Wr R w W s) (a : Addr) (v : Value) (hb : w.heap.size ≤ a.block) : Wr R w (W.setCell a v) s :=
  ⟨rf_set h.rd a v (by have := R.b0; have := h.lt; omega) (by have := h.lt; omega), gr_set h.gr a v hb, h.lt⟩
theorem Wr.alloc (h : Wr R w W s) (o : Obj) : Wr R w (W.alloc o) s := ⟨rf_alloc h.rd o, gr_alloc h.gr o, h.lt⟩
theorem Wr.below (h : Wr R w W s) (hb : Below W.heap.size W W') : Wr R w W' s := ⟨h.rd.below hb, grow_tr h.gr (gr_below hb), h.lt⟩
theorem Wr.then (h : Wr R w W s) (h1 : RfI W' R s') (h2 : W.grownBy W' (some R.br)) : Wr R w W' s' := ⟨h1, grow_tr h.gr h2, h.lt⟩
theorem Wr.set4 (h : Wr R w W s) (b : Nat) (v0 v1 v2 v3 : Value) (hb : w.heap.size ≤ b) : Wr R w (set4 W b v0 v1 v2 v3) s :=
  (((h.set ⟨b, 0, none⟩ v0 hb).set ⟨b, 1, none⟩ v1 hb).set ⟨b, 2, none⟩ v2 hb).set ⟨b, 3, none⟩ v3 hb
theorem Wr.kept (h : Wr R w W s) (h2 : W.grownBy W' (some R.br)) {k : Nat} (hk : w.heap.size ≤ k) (hl : k < W.heap.size) : W'.heap[k]? = W.heap[k]? := h2.block k hl (by have := h.lt; simp; omega)
theorem Wr.adv (h : Wr R w W s) {pos : Nat} (hp : W.cell? ⟨R.br, 1, none⟩ = some (.int .i64 (pos : Int))) (hne : s.toks ≠ []) : Wr R w (W.setCell ⟨R.br, 1, none⟩ (.int .i64 ((pos : Int) + 1))) s.adv :=
  ⟨h.rd.adv hp hne, grow_tr h.gr (setCell_grown _ _ _), h.lt⟩
end
theorem is_b (R : Rp) (s : St) (w : World) (x : ByteArray) {l : List UInt8} (hx : x.data.toList = l) {b : Bool} (h : at' l s.toks = b) (hI : RfI w R s) :
    Calls Tryz.prog 75 #[.pointer (some ⟨R.br, 0, none⟩), .string x] w fun e w' => e = .returned (.bool b) ∧ Below w.heap.size w w' := by
  subst h; exact is_any R s w x hx hI
theorem kid_end {R : Rp} {w w2 : World} {s : St} {x : E} {ao : Option Addr} {cap : Nat} {op : Int} {nm : ByteArray} {t : TypeId} (hop : I64 op) (hn : nm.size ≤ maxLen) (h : Wr R w w2 s) (hlt : w.heap.size < w2.heap.size) (hE : EOk x ∧ Stay (w.heap.size + 1) w2 (fun w2 => x.kids.At w2 w2.heap.size ao 0)) :
    ExpR R w (⟨op, 0, nm, .cons x.op x.n x.nm x.kids .nil⟩, s) (.returned (exV op 0 nm (.cons x.op x.n x.nm x.kids .nil) (some ⟨w2.heap.size, 0, none⟩) 1))
      ((set4 w2 w.heap.size (.int .i64 op) (.int .i64 0) (.string nm) (.slice (some ⟨w2.heap.size, 0, none⟩) 1 1)).alloc (.cells #[.int .i64 x.op, .int .i64 x.n, .string x.nm, .slice ao x.kids.len cap] t)) := by
  have hk := h.set4 w.heap.size (.int .i64 op) (.int .i64 0) (.string nm) (.slice (some ⟨w2.heap.size, 0, none⟩) 1 1) (Nat.le_refl _)
  have ha := set4_abv w2 w.heap.size (.int .i64 op) (.int .i64 0) (.string nm) (.slice (some ⟨w2.heap.size, 0, none⟩) 1 1)
  have hs := set4_size w2 w.heap.size (.int .i64 op) (.int .i64 0) (.string nm) (.slice (some ⟨w2.heap.size, 0, none⟩) 1 1)
  generalize set4 w2 w.heap.size _ _ _ _ = W at *
  refine ⟨_, rfl, ⟨_, 1, rfl, ⟨hop, i64_0, hn, by simp [ExL.len, maxLen]⟩, ?_⟩, (hk.alloc _).rd, (hk.alloc _).gr⟩
  rw [← hs]
  exact (stay_one (heap_alloc_new _ _) (by omega) hE.1 ((hE.2.next ha).next (abv_below (alloc_below _ _)))).mono (Nat.le_succ _)
theorem pass_end {R : Rp} {w w2 : World} {s : St} {x : E} {ao : Option Addr} {cap : Nat} {a b c d : Value} (h : Wr R w w2 s) (hE : EOk x ∧ Stay (w.heap.size + 1) w2 (fun w2 => x.kids.At w2 w2.heap.size ao 0)) :
    ExpR R w (x, s) (.returned (exV x.op x.n x.nm x.kids ao cap)) (set4 w2 w.heap.size a b c d) := by
  have hk := h.set4 w.heap.size a b c d (Nat.le_refl _)
  exact ⟨_, rfl, ⟨_, cap, rfl, hE.1, (hE.2.next (set4_abv w2 w.heap.size a b c d)).mono (Nat.le_succ _)⟩, hk.rd, hk.gr⟩
theorem rleaf_end {R : Rp} {w w2 : World} {s : St} {op n : Int} {nm : ByteArray} {a b c d : Value} (h : Wr R w w2 s) (h1 : I64 op) (h2 : I64 n) (h3 : nm.size ≤ maxLen) :
    ExpR R w (⟨op, n, nm, .nil⟩, s) (.returned (exV op n nm .nil none 0)) (set4 w2 w.heap.size a b c d) := by
  have hk := h.set4 w.heap.size a b c d (Nat.le_refl _)
  exact ⟨_, rfl, ⟨none, 0, rfl, ⟨h1, h2, h3, Nat.zero_le _⟩, fun _ _ => trivial⟩, hk.rd, hk.gr⟩
set_option maxHeartbeats 4000000 in
set_option maxRecDepth 100000 in
theorem runary_step (R : Rp) (f : Nat) (ihu : RxSays R f .un) (ihp : RxSays R f .pr) : RxSays R (f + 1) .un := by
  intro s w hen hI
  have HI := Lib.hid hI
  have HIU := Lib.hid ihu
  have HIP := Lib.hid ihp
  have HF := Lib.hid hen
  clear hI ihu ihp hen
  cases h0 : at' [45] s.toks
  · cases h1 : at' [33] s.toks
    · have HX : Hid (∀ w, RfI w R s → Calls Tryz.prog 115 #[.pointer (some ⟨R.br, 0, none⟩)] w (ExpR R w (exprS R.ts f .pr s))) := Lib.hid (fun w h => HIP.out s w (by have := HF.out; simp only [enough, wt] at *; omega) h)
      rw [xs_pri h0 h1]
      clear HIU HIP HF
      generalize exprS R.ts f .pr s = res at *
      obtain ⟨x, s'⟩ := res
      go_enter Tryz.func83, Tryz.ntmps83
      go_upto_region 1 with fail
      generalize hW : World.alloc w _ = W
      have HK : Hid (Wr R w W s) := Lib.hid (by rw [← hW]; exact (Wr.start HI.out).alloc _)
      have HZ : Hid (W.heap[w.heap.size]? = some (.cells #[.int .i64 0, .int .i64 0, .string ⟨#[]⟩, .slice none 0 0] 38 (0, 0))) := Lib.hid (by rw [← hW]; exact heap_alloc_new _ _)
      clear hW
      go_wp2_with fail
      refine (is_b R s _ ⟨#[45]⟩ rfl h0 HK.out.rd).mono ?_
      rintro e w0 ⟨rfl, h2⟩
      have HK0 := Lib.hid (HK.out.below h2)
      have HZ0 := Lib.hid ((h2.block _ (Array.getElem?_eq_some_iff.1 HZ.out).1).trans HZ.out)
      clear h2 HK HZ
      have HK := HK0
      have HZ := HZ0
      clear HK0 HZ0
      go_wp2_with fail
      refine (is_b R s _ ⟨#[33]⟩ rfl h1 HK.out.rd).mono ?_
      rintro e w0 ⟨rfl, h2⟩
      have HK0 := Lib.hid (HK.out.below h2)
      have HZ0 := Lib.hid ((h2.block _ (Array.getElem?_eq_some_iff.1 HZ.out).1).trans HZ.out)
      clear h2 HK HZ
      have HK := HK0
      have HZ := HZ0
      clear HK0 HZ0
      go_wp2_with fail
      refine (HX.out _ HK.out.rd).mono ?_
      rintro e w2 ⟨v, rfl, hv, h2, h3⟩
      have HK2 := Lib.hid (HK.out.then h2 h3)
      have HZ2 := Lib.hid ((HK.out.kept h3 (Nat.le_refl _) (Array.getElem?_eq_some_iff.1 HZ.out).1).trans HZ.out)
      have HX2 := Lib.hid (hv.mono (Array.getElem?_eq_some_iff.1 HZ.out).1)
      clear h2 h3 HK HZ hv
      obtain ⟨ao, cap, rfl, hok, hst⟩ := HX2.out
      have HE := Lib.hid (And.intro hok hst)
      clear hok hst HX2
      obtain ⟨⟨y0, y1, y2, y3⟩, f0, f1, f2, f3⟩ := zE_cells HZ2.out
      unfold exV
      go_wp2_with fail
      exact bodyPost_ret (v := exV x.op x.n x.nm x.kids ao cap) (by simp [results, Tryz.results83, go_sem, y0, y1, y2, y3, exV]) rfl (pass_end HK2.out HE.out)
    · have HX : Hid (∀ w, RfI w R s.adv → Calls Tryz.prog 83 #[.pointer (some ⟨R.br, 0, none⟩)] w (ExpR R w (exprS R.ts f .un s.adv))) := Lib.hid (fun w h => HIU.out s.adv w (by have := HF.out; have := at_lt h1; simp only [enough, wt, St.len] at *; omega) h)
      have HNE := Lib.hid (toks_ne h1)
      rw [xs_not h0 h1]
      clear HIU HIP HF
      generalize exprS R.ts f .un s.adv = res at *
      obtain ⟨x, s'⟩ := res
      go_enter Tryz.func83, Tryz.ntmps83
      go_upto_region 1 with fail
      generalize hW : World.alloc w _ = W
      have HK : Hid (Wr R w W s) := Lib.hid (by rw [← hW]; exact (Wr.start HI.out).alloc _)
      have HZ : Hid (W.heap[w.heap.size]? = some (.cells #[.int .i64 0, .int .i64 0, .string ⟨#[]⟩, .slice none 0 0] 38 (0, 0))) := Lib.hid (by rw [← hW]; exact heap_alloc_new _ _)
      clear hW
      go_wp2_with fail
      refine (is_b R s _ ⟨#[45]⟩ rfl h0 HK.out.rd).mono ?_
      rintro e w0 ⟨rfl, h2⟩
      have HK0 := Lib.hid (HK.out.below h2)
      have HZ0 := Lib.hid ((h2.block _ (Array.getElem?_eq_some_iff.1 HZ.out).1).trans HZ.out)
      clear h2 HK HZ
      have HK := HK0
      have HZ := HZ0
      clear HK0 HZ0
      go_wp2_with fail
      refine (is_b R s _ ⟨#[33]⟩ rfl h1 HK.out.rd).mono ?_
      rintro e w0 ⟨rfl, h2⟩
      have HK0 := Lib.hid (HK.out.below h2)
      have HZ0 := Lib.hid ((h2.block _ (Array.getElem?_eq_some_iff.1 HZ.out).1).trans HZ.out)
      clear h2 HK HZ
      have HK := HK0
      have HZ := HZ0
      clear HK0 HZ0
      obtain ⟨pos, bad, ⟨hp, hp2, hl, hlt, hbr⟩, HS, ⟨hbad0, hbad1⟩, c0, c1, c2, f1, f2⟩ := HK.out.rd.open
      have HA := Lib.hid (HK.out.adv c1 HNE.out)
      have HQ := Lib.hid ((setCell_far _ (⟨R.br, 1, none⟩ : Addr) (.int .i64 ((pos : Int) + 1)) rfl (show R.br ≠ w.heap.size from Nat.ne_of_lt HK.out.lt)).trans HZ.out)
      go_upto_region 8 with fail
      generalize hW : World.setCell _ _ _ = W2
      rw [hW] at HA HQ
      clear hW c0 c1 c2 f1 f2 HS hp hp2 hl hlt hbr hbad0 hbad1 HK HZ
      have HK := HA
      have HZ := HQ
      clear HA HQ
      go_wp2_with fail
      refine (HX.out _ HK.out.rd).mono ?_
      rintro e w2 ⟨v, rfl, hv, h2, h3⟩
      have HK2 := Lib.hid (HK.out.then h2 h3)
      have HZ2 := Lib.hid ((HK.out.kept h3 (Nat.le_refl _) (Array.getElem?_eq_some_iff.1 HZ.out).1).trans HZ.out)
      have HX2 := Lib.hid (hv.mono (Array.getElem?_eq_some_iff.1 HZ.out).1)
      clear h2 h3 HK HZ hv
      obtain ⟨ao, cap, rfl, hok, hst⟩ := HX2.out
      have HE := Lib.hid (And.intro hok hst)
      clear hok hst HX2
      obtain ⟨⟨y0, y1, y2, y3⟩, f0, f1, f2, f3⟩ := zE_cells HZ2.out
      have hlt2 : w.heap.size < w2.heap.size := (Array.getElem?_eq_some_iff.1 HZ2.out).1
      unfold exV
      go_wp2_with fail
      exact bodyPost_ret (v := exV 5 0 ⟨#[]⟩ (.cons x.op x.n x.nm x.kids .nil) (some ⟨w2.heap.size, 0, none⟩) 1) (by simp [results, Tryz.results83, go_sem, y0, y1, y2, y3, exV, ExL.len, hlt2]) rfl (kid_end (by unfold I64; decide) (Nat.zero_le _) HK2.out hlt2 HE.out)
  · have h1 : at' [33] s.toks = false := at_two (by decide) h0
    have HX : Hid (∀ w, RfI w R s.adv → Calls Tryz.prog 83 #[.pointer (some ⟨R.br, 0, none⟩)] w (ExpR R w (exprS R.ts f .un s.adv))) := Lib.hid (fun w h => HIU.out s.adv w (by have := HF.out; have := at_lt h0; simp only [enough, wt, St.len] at *; omega) h)
    have HNE := Lib.hid (toks_ne h0)
    rw [xs_neg h0]
    clear HIU HIP HF
    generalize exprS R.ts f .un s.adv = res at *
    obtain ⟨x, s'⟩ := res
    go_enter Tryz.func83, Tryz.ntmps83
    go_upto_region 1 with fail
    generalize hW : World.alloc w _ = W
    have HK : Hid (Wr R w W s) := Lib.hid (by rw [← hW]; exact (Wr.start HI.out).alloc _)
    have HZ : Hid (W.heap[w.heap.size]? = some (.cells #[.int .i64 0, .int .i64 0, .string ⟨#[]⟩, .slice none 0 0] 38 (0, 0))) := Lib.hid (by rw [← hW]; exact heap_alloc_new _ _)
    clear hW
    go_wp2_with fail
    refine (is_b R s _ ⟨#[45]⟩ rfl h0 HK.out.rd).mono ?_
    rintro e w0 ⟨rfl, h2⟩
    have HK0 := Lib.hid (HK.out.below h2)
    have HZ0 := Lib.hid ((h2.block _ (Array.getElem?_eq_some_iff.1 HZ.out).1).trans HZ.out)
    clear h2 HK HZ
    have HK := HK0
    have HZ := HZ0
    clear HK0 HZ0
    go_wp2_with fail
    refine (is_b R s _ ⟨#[33]⟩ rfl h1 HK.out.rd).mono ?_
    rintro e w0 ⟨rfl, h2⟩
    have HK0 := Lib.hid (HK.out.below h2)
    have HZ0 := Lib.hid ((h2.block _ (Array.getElem?_eq_some_iff.1 HZ.out).1).trans HZ.out)
    clear h2 HK HZ
    have HK := HK0
    have HZ := HZ0
    clear HK0 HZ0
    obtain ⟨pos, bad, ⟨hp, hp2, hl, hlt, hbr⟩, HS, ⟨hbad0, hbad1⟩, c0, c1, c2, f1, f2⟩ := HK.out.rd.open
    have HA := Lib.hid (HK.out.adv c1 HNE.out)
    have HQ := Lib.hid ((setCell_far _ (⟨R.br, 1, none⟩ : Addr) (.int .i64 ((pos : Int) + 1)) rfl (show R.br ≠ w.heap.size from Nat.ne_of_lt HK.out.lt)).trans HZ.out)
    go_upto_region 8 with fail
    generalize hW : World.setCell _ _ _ = W2
    rw [hW] at HA HQ
    clear hW c0 c1 c2 f1 f2 HS hp hp2 hl hlt hbr hbad0 hbad1 HK HZ
    have HK := HA
    have HZ := HQ
    clear HA HQ
    go_wp2_with fail
    refine (HX.out _ HK.out.rd).mono ?_
    rintro e w2 ⟨v, rfl, hv, h2, h3⟩
    have HK2 := Lib.hid (HK.out.then h2 h3)
    have HZ2 := Lib.hid ((HK.out.kept h3 (Nat.le_refl _) (Array.getElem?_eq_some_iff.1 HZ.out).1).trans HZ.out)
    have HX2 := Lib.hid (hv.mono (Array.getElem?_eq_some_iff.1 HZ.out).1)
    clear h2 h3 HK HZ hv
    obtain ⟨ao, cap, rfl, hok, hst⟩ := HX2.out
    have HE := Lib.hid (And.intro hok hst)
    clear hok hst HX2
    obtain ⟨⟨y0, y1, y2, y3⟩, f0, f1, f2, f3⟩ := zE_cells HZ2.out
    have hlt2 : w.heap.size < w2.heap.size := (Array.getElem?_eq_some_iff.1 HZ2.out).1
    unfold exV
    go_wp2_with fail
    exact bodyPost_ret (v := exV 4 0 ⟨#[]⟩ (.cons x.op x.n x.nm x.kids .nil) (some ⟨w2.heap.size, 0, none⟩) 1) (by simp [results, Tryz.results83, go_sem, y0, y1, y2, y3, exV, ExL.len, hlt2]) rfl (kid_end (by unfold I64; decide) (Nat.zero_le _) HK2.out hlt2 HE.out)
end Go.Proofs.YtommnhglgedflaaGreatDoor
end
section
set_option linter.unusedSimpArgs false
set_option linter.unusedVariables false
namespace Go.Proofs.YtommnhglgedflaaGreatDoor
open Go.RowKit
open Md Pz
theorem kind_b (R : Rp) (s : St) (w : World) (k : Int) (n : Nat) (hk : k = n) (hn : 1 ≤ n) {b : Bool} (h : (nextK s.toks == n) = b) (hI : RfI w R s) :
    Calls Tryz.prog 78 #[.pointer (some ⟨R.br, 0, none⟩), .int .i64 k] w fun e w' => e = .returned (.bool b) ∧ Below w.heap.size w w' := by
  subst h; exact kind_any R s w k n hk hn hI
theorem nameS_size {ts : Toks} {s : St} (h : TsOk s.toks) : (nameS ts s).1.size ≤ maxLen := by
  unfold nameS
  split
  · rename_i hn; exact nm_size (ts_name h hn)
  · exact Nat.zero_le _
set_option maxHeartbeats 4000000 in
set_option maxRecDepth 100000 in
theorem rprimary_step (R : Rp) (f : Nat) (ihb : RxSays R f (.bin 1)) : RxSays R (f + 1) .pr := by
  intro s w hen hI
  have HI := Lib.hid hI
  have HIB := Lib.hid ihb
  have HF := Lib.hid hen
  clear hI ihb hen
  cases h0 : (nextK s.toks == 2)
  · have h0' : isNum s.toks = false := h0
    cases h1 : at' [40] s.toks
    · obtain ⟨q, hq⟩ : ∃ q, nameS R.ts s = q := ⟨_, rfl⟩
      have HNM : Hid (q.1.size ≤ maxLen) := Lib.hid (by rw [← hq]; exact nameS_size HI.out.ts)
      have HRN : Hid (∀ w, RfI w R s → Calls Tryz.prog 77 #[.pointer (some ⟨R.br, 0, none⟩)] w (NmR R w q)) := Lib.hid (fun w h => by rw [← hq]; exact rname_any R s w h)
      have HLE : Hid (q.2.len ≤ s.len) := Lib.hid (by rw [← hq]; exact nameS_le s)
      cases h2 : at' [91] (nameS R.ts s).2.toks
      · rw [xs_nam h0' h1 h2]
        rw [hq] at h2 ⊢
        obtain ⟨nm, s1⟩ := q
        clear HIB HF hq HLE
        go_enter Tryz.func115, Tryz.ntmps115
        go_upto_region 1 with fail
        generalize hW : World.alloc w _ = W
        have HK : Hid (Wr R w W s) := Lib.hid (by rw [← hW]; exact (Wr.start HI.out).alloc _)
        have HZ : Hid (W.heap[w.heap.size]? = some (.cells #[.int .i64 0, .int .i64 0, .string ⟨#[]⟩, .slice none 0 0] 38 (0, 0))) := Lib.hid (by rw [← hW]; exact heap_alloc_new _ _)
        clear hW
        go_wp2_with fail
        refine (kind_b R s _ 2 2 rfl (by decide) h0 HK.out.rd).mono ?_
        rintro e w0 ⟨rfl, h2⟩
        have HK0 := Lib.hid (HK.out.below h2)
        have HZ0 := Lib.hid ((h2.block _ (Array.getElem?_eq_some_iff.1 HZ.out).1).trans HZ.out)
        clear h2 HK HZ
        have HK := HK0
        have HZ := HZ0
        clear HK0 HZ0
        go_wp2_with fail
        refine (is_b R s _ ⟨#[40]⟩ rfl h1 HK.out.rd).mono ?_
        rintro e w0 ⟨rfl, h2⟩
        have HK0 := Lib.hid (HK.out.below h2)
        have HZ0 := Lib.hid ((h2.block _ (Array.getElem?_eq_some_iff.1 HZ.out).1).trans HZ.out)
        clear h2 HK HZ
        have HK := HK0
        have HZ := HZ0
        clear HK0 HZ0
        go_wp2_with fail
        refine (HRN.out _ HK.out.rd).mono ?_
        rintro e w0 ⟨rfl, h2, h3⟩
        have HK0 := Lib.hid (HK.out.then h2 h3)
        have HZ0 := Lib.hid ((HK.out.kept h3 (Nat.le_refl _) (Array.getElem?_eq_some_iff.1 HZ.out).1).trans HZ.out)
        clear h2 h3 HK HZ
        have HK := HK0
        have HZ := HZ0
        clear HK0 HZ0
        go_wp2_with fail
        refine (is_b R s1 _ ⟨#[91]⟩ rfl h2 HK.out.rd).mono ?_
        rintro e w0 ⟨rfl, h2⟩
        have HK0 := Lib.hid (HK.out.below h2)
        have HZ0 := Lib.hid ((h2.block _ (Array.getElem?_eq_some_iff.1 HZ.out).1).trans HZ.out)
        clear h2 HK HZ
        have HK := HK0
        have HZ := HZ0
        clear HK0 HZ0
        obtain ⟨⟨y0, y1, y2, y3⟩, f0, f1, f2, f3⟩ := zE_cells HZ.out
        go_wp2_with fail
        exact bodyPost_ret (v := exV 2 0 nm .nil none 0) (by simp [results, Tryz.results115, go_sem, y0, y1, y2, y3, exV, ExL.len]) rfl (rleaf_end HK.out (by unfold I64; decide) i64_0 HNM.out)
      · rw [xs_idx h0' h1 h2]
        rw [hq] at h2 ⊢
        obtain ⟨nm, s1⟩ := q
        have HX : Hid (∀ w, RfI w R s1.adv → Calls Tryz.prog 44 #[.pointer (some ⟨R.br, 0, none⟩), .int .i64 1] w (ExpR R w (exprS R.ts f (.bin 1) s1.adv))) := Lib.hid (fun w h => HIB.out (by decide) s1.adv w (by have := HF.out; have := HLE.out; have := at_lt h2; simp only [enough, wt, St.len] at *; omega) h)
        have HNE := Lib.hid (toks_ne h2)
        clear HIB HF hq HLE
        generalize exprS R.ts f (.bin 1) s1.adv = res at *
        obtain ⟨x, s'⟩ := res
        go_enter Tryz.func115, Tryz.ntmps115
        go_upto_region 1 with fail
        generalize hW : World.alloc w _ = W
        have HK : Hid (Wr R w W s) := Lib.hid (by rw [← hW]; exact (Wr.start HI.out).alloc _)
        have HZ : Hid (W.heap[w.heap.size]? = some (.cells #[.int .i64 0, .int .i64 0, .string ⟨#[]⟩, .slice none 0 0] 38 (0, 0))) := Lib.hid (by rw [← hW]; exact heap_alloc_new _ _)
        clear hW
        go_wp2_with fail
        refine (kind_b R s _ 2 2 rfl (by decide) h0 HK.out.rd).mono ?_
        rintro e w0 ⟨rfl, h2⟩
        have HK0 := Lib.hid (HK.out.below h2)
        have HZ0 := Lib.hid ((h2.block _ (Array.getElem?_eq_some_iff.1 HZ.out).1).trans HZ.out)
        clear h2 HK HZ
        have HK := HK0
        have HZ := HZ0
        clear HK0 HZ0
        go_wp2_with fail
        refine (is_b R s _ ⟨#[40]⟩ rfl h1 HK.out.rd).mono ?_
        rintro e w0 ⟨rfl, h2⟩
        have HK0 := Lib.hid (HK.out.below h2)
        have HZ0 := Lib.hid ((h2.block _ (Array.getElem?_eq_some_iff.1 HZ.out).1).trans HZ.out)
        clear h2 HK HZ
        have HK := HK0
        have HZ := HZ0
        clear HK0 HZ0
        go_wp2_with fail
        refine (HRN.out _ HK.out.rd).mono ?_
        rintro e w0 ⟨rfl, h2, h3⟩
        have HK0 := Lib.hid (HK.out.then h2 h3)
        have HZ0 := Lib.hid ((HK.out.kept h3 (Nat.le_refl _) (Array.getElem?_eq_some_iff.1 HZ.out).1).trans HZ.out)
        clear h2 h3 HK HZ
        have HK := HK0
        have HZ := HZ0
        clear HK0 HZ0
        go_wp2_with fail
        refine (is_b R s1 _ ⟨#[91]⟩ rfl h2 HK.out.rd).mono ?_
        rintro e w0 ⟨rfl, h2⟩
        have HK0 := Lib.hid (HK.out.below h2)
        have HZ0 := Lib.hid ((h2.block _ (Array.getElem?_eq_some_iff.1 HZ.out).1).trans HZ.out)
        clear h2 HK HZ
        have HK := HK0
        have HZ := HZ0
        clear HK0 HZ0
        obtain ⟨pos, bad, ⟨hp, hp2, hl, hlt, hbr⟩, HS, ⟨hbad0, hbad1⟩, c0, c1, c2, f1, f2⟩ := HK.out.rd.open
        have HA := Lib.hid (HK.out.adv c1 HNE.out)
        have HQ := Lib.hid ((setCell_far _ (⟨R.br, 1, none⟩ : Addr) (.int .i64 ((pos : Int) + 1)) rfl (show R.br ≠ w.heap.size from Nat.ne_of_lt HK.out.lt)).trans HZ.out)
        go_upto_region 11 with fail
        generalize hW : World.setCell _ _ _ = W2
        rw [hW] at HA HQ
        clear hW c0 c1 c2 f1 f2 HS hp hp2 hl hlt hbr hbad0 hbad1 HK HZ
        have HK := HA
        have HZ := HQ
        clear HA HQ
        go_wp2_with fail
        refine (HX.out _ HK.out.rd).mono ?_
        rintro e w2 ⟨v, rfl, hv, h2, h3⟩
        have HK2 := Lib.hid (HK.out.then h2 h3)
        have HZ2 := Lib.hid ((HK.out.kept h3 (Nat.le_refl _) (Array.getElem?_eq_some_iff.1 HZ.out).1).trans HZ.out)
        have HX2 := Lib.hid (hv.mono (Array.getElem?_eq_some_iff.1 HZ.out).1)
        clear h2 h3 HK HZ hv
        obtain ⟨ao, cap, rfl, hok, hst⟩ := HX2.out
        have HE := Lib.hid (And.intro hok hst)
        clear hok hst HX2
        unfold exV
        go_upto_region 12 with fail
        obtain ⟨g, hg⟩ : ∃ g, w2.heap.size = g := ⟨_, rfl⟩
        generalize hW : World.alloc w2 _ = W3
        have HK3 : Hid (Wr R w W3 s') := Lib.hid (by rw [← hW]; exact HK2.out.alloc _)
        have HB3 : Hid (W3.heap[g]? = some (.cells #[.int .i64 x.op, .int .i64 x.n, .string x.nm, .slice ao x.kids.len cap] 38 (0, 0))) := Lib.hid (by rw [← hW, ← hg]; exact heap_alloc_new _ _)
        have HZ3 : Hid (W3.heap[w.heap.size]? = some (.cells #[.int .i64 0, .int .i64 0, .string ⟨#[]⟩, .slice none 0 0] 38 (0, 0))) := Lib.hid (by rw [← hW]; exact (heap_alloc_old _ _ (Array.getElem?_eq_some_iff.1 HZ2.out).1).trans HZ2.out)
        have HE3 : Hid (EOk x ∧ Stay (w.heap.size + 1) W3 (fun w2 => x.kids.At w2 w2.heap.size ao 0)) := Lib.hid ⟨HE.out.1, by rw [← hW]; exact HE.out.2.next (abv_below (alloc_below _ _))⟩
        have HG : Hid (w.heap.size < g) := Lib.hid (by rw [← hg]; exact (Array.getElem?_eq_some_iff.1 HZ2.out).1)
        have HEX : Hid (StayX (w.heap.size + 1) (some g) W3 (fun w2 => x.kids.At w2 w2.heap.size ao 0)) := Lib.hid (by rw [← hW]; exact stay_new HE.out.2 (abv_below (alloc_below _ _)) (Nat.le_of_eq hg))
        rw [hg]
        clear hW hg HK2 HZ2 HE
        go_wp2_with fail
        refine (want_any R s' _ ⟨#[93]⟩ rfl HK3.out.rd).mono ?_
        rintro e w3 ⟨rfl, h2, h3⟩
        have HK2 := Lib.hid (HK3.out.then h2 h3)
        have HZ2 := Lib.hid ((HK3.out.kept h3 (Nat.le_refl _) (Array.getElem?_eq_some_iff.1 HZ3.out).1).trans HZ3.out)
        have HB2 := Lib.hid ((HK3.out.kept h3 (Nat.le_of_lt HG.out) (Array.getElem?_eq_some_iff.1 HB3.out).1).trans HB3.out)
        have HE : Hid (EOk x ∧ Stay (w.heap.size + 1) w3 (fun w2 => x.kids.At w2 w2.heap.size ao 0)) := Lib.hid ⟨HE3.out.1, HE3.out.2.next (abv_gr h3 (Nat.lt_succ_of_lt HK3.out.lt))⟩
        clear h2 h3 HK3 HZ3 HB3 HE3
        obtain ⟨⟨y0, y1, y2, y3⟩, f0, f1, f2, f3⟩ := zE_cells HZ2.out
        have z0 : w3.cell? ⟨g, 0, none⟩ = some (.int .i64 x.op) := cellb HB2.out rfl
        have z1 : w3.cell? ⟨g, 1, none⟩ = some (.int .i64 x.n) := cellb HB2.out rfl
        have z2 : w3.cell? ⟨g, 2, none⟩ = some (.string x.nm) := cellb HB2.out rfl
        have z3 : w3.cell? ⟨g, 3, none⟩ = some (.slice ao x.kids.len cap) := cellb HB2.out rfl
        have hlt2 : w.heap.size < w3.heap.size := (Array.getElem?_eq_some_iff.1 HZ2.out).1
        have hlt3 : g < w3.heap.size := (Array.getElem?_eq_some_iff.1 HB2.out).1
        go_wp2_with fail
        exact bodyPost_ret (v := exV 3 0 nm (.cons x.op x.n x.nm x.kids .nil) (some ⟨w3.heap.size, 0, none⟩) 1) (by simp [results, Tryz.results115, go_sem, exV, ExL.len, y0, y1, y2, y3, hlt2]) rfl (kid_end (by unfold I64; decide) HNM.out HK2.out hlt2 HE.out)
    · have HX : Hid (∀ w, RfI w R s.adv → Calls Tryz.prog 44 #[.pointer (some ⟨R.br, 0, none⟩), .int .i64 1] w (ExpR R w (exprS R.ts f (.bin 1) s.adv))) := Lib.hid (fun w h => HIB.out (by decide) s.adv w (by have := HF.out; have := at_lt h1; simp only [enough, wt, St.len] at *; omega) h)
      have HNE := Lib.hid (toks_ne h1)
      rw [xs_par h0' h1]
      clear HIB HF
      generalize exprS R.ts f (.bin 1) s.adv = res at *
      obtain ⟨x, s'⟩ := res
      go_enter Tryz.func115, Tryz.ntmps115
      go_upto_region 1 with fail
      generalize hW : World.alloc w _ = W
      have HK : Hid (Wr R w W s) := Lib.hid (by rw [← hW]; exact (Wr.start HI.out).alloc _)
      have HZ : Hid (W.heap[w.heap.size]? = some (.cells #[.int .i64 0, .int .i64 0, .string ⟨#[]⟩, .slice none 0 0] 38 (0, 0))) := Lib.hid (by rw [← hW]; exact heap_alloc_new _ _)
      clear hW
      go_wp2_with fail
      refine (kind_b R s _ 2 2 rfl (by decide) h0 HK.out.rd).mono ?_
      rintro e w0 ⟨rfl, h2⟩
      have HK0 := Lib.hid (HK.out.below h2)
      have HZ0 := Lib.hid ((h2.block _ (Array.getElem?_eq_some_iff.1 HZ.out).1).trans HZ.out)
      clear h2 HK HZ
      have HK := HK0
      have HZ := HZ0
      clear HK0 HZ0
      go_wp2_with fail
      refine (is_b R s _ ⟨#[40]⟩ rfl h1 HK.out.rd).mono ?_
      rintro e w0 ⟨rfl, h2⟩
      have HK0 := Lib.hid (HK.out.below h2)
      have HZ0 := Lib.hid ((h2.block _ (Array.getElem?_eq_some_iff.1 HZ.out).1).trans HZ.out)
      clear h2 HK HZ
      have HK := HK0
      have HZ := HZ0
      clear HK0 HZ0
      obtain ⟨pos, bad, ⟨hp, hp2, hl, hlt, hbr⟩, HS, ⟨hbad0, hbad1⟩, c0, c1, c2, f1, f2⟩ := HK.out.rd.open
      have HA := Lib.hid (HK.out.adv c1 HNE.out)
      have HQ := Lib.hid ((setCell_far _ (⟨R.br, 1, none⟩ : Addr) (.int .i64 ((pos : Int) + 1)) rfl (show R.br ≠ w.heap.size from Nat.ne_of_lt HK.out.lt)).trans HZ.out)
      go_upto_region 5 with fail
      generalize hW : World.setCell _ _ _ = W2
      rw [hW] at HA HQ
      clear hW c0 c1 c2 f1 f2 HS hp hp2 hl hlt hbr hbad0 hbad1 HK HZ
      have HK := HA
      have HZ := HQ
      clear HA HQ
      go_wp2_with fail
      refine (HX.out _ HK.out.rd).mono ?_
      rintro e w2 ⟨v, rfl, hv, h2, h3⟩
      have HK2 := Lib.hid (HK.out.then h2 h3)
      have HZ2 := Lib.hid ((HK.out.kept h3 (Nat.le_refl _) (Array.getElem?_eq_some_iff.1 HZ.out).1).trans HZ.out)
      have HX2 := Lib.hid (hv.mono (Array.getElem?_eq_some_iff.1 HZ.out).1)
      clear h2 h3 HK HZ hv
      obtain ⟨ao, cap, rfl, hok, hst⟩ := HX2.out
      have HE := Lib.hid (And.intro hok hst)
      clear hok hst HX2
      unfold exV
      go_upto_region 6 with fail
      obtain ⟨g, hg⟩ : ∃ g, w2.heap.size = g := ⟨_, rfl⟩
      generalize hW : World.alloc w2 _ = W3
      have HK3 : Hid (Wr R w W3 s') := Lib.hid (by rw [← hW]; exact HK2.out.alloc _)
      have HB3 : Hid (W3.heap[g]? = some (.cells #[.int .i64 x.op, .int .i64 x.n, .string x.nm, .slice ao x.kids.len cap] 38 (0, 0))) := Lib.hid (by rw [← hW, ← hg]; exact heap_alloc_new _ _)
      have HZ3 : Hid (W3.heap[w.heap.size]? = some (.cells #[.int .i64 0, .int .i64 0, .string ⟨#[]⟩, .slice none 0 0] 38 (0, 0))) := Lib.hid (by rw [← hW]; exact (heap_alloc_old _ _ (Array.getElem?_eq_some_iff.1 HZ2.out).1).trans HZ2.out)
      have HE3 : Hid (EOk x ∧ Stay (w.heap.size + 1) W3 (fun w2 => x.kids.At w2 w2.heap.size ao 0)) := Lib.hid ⟨HE.out.1, by rw [← hW]; exact HE.out.2.next (abv_below (alloc_below _ _))⟩
      have HG : Hid (w.heap.size < g) := Lib.hid (by rw [← hg]; exact (Array.getElem?_eq_some_iff.1 HZ2.out).1)
      have HEX : Hid (StayX (w.heap.size + 1) (some g) W3 (fun w2 => x.kids.At w2 w2.heap.size ao 0)) := Lib.hid (by rw [← hW]; exact stay_new HE.out.2 (abv_below (alloc_below _ _)) (Nat.le_of_eq hg))
      rw [hg]
      clear hW hg HK2 HZ2 HE
      go_wp2_with fail
      refine (want_any R s' _ ⟨#[41]⟩ rfl HK3.out.rd).mono ?_
      rintro e w3 ⟨rfl, h2, h3⟩
      have HK2 := Lib.hid (HK3.out.then h2 h3)
      have HZ2 := Lib.hid ((HK3.out.kept h3 (Nat.le_refl _) (Array.getElem?_eq_some_iff.1 HZ3.out).1).trans HZ3.out)
      have HB2 := Lib.hid ((HK3.out.kept h3 (Nat.le_of_lt HG.out) (Array.getElem?_eq_some_iff.1 HB3.out).1).trans HB3.out)
      have HE : Hid (EOk x ∧ Stay (w.heap.size + 1) w3 (fun w2 => x.kids.At w2 w2.heap.size ao 0)) := Lib.hid ⟨HE3.out.1, HE3.out.2.next (abv_gr h3 (Nat.lt_succ_of_lt HK3.out.lt))⟩
      clear h2 h3 HK3 HZ3 HB3 HE3
      obtain ⟨⟨y0, y1, y2, y3⟩, f0, f1, f2, f3⟩ := zE_cells HZ2.out
      have z0 : w3.cell? ⟨g, 0, none⟩ = some (.int .i64 x.op) := cellb HB2.out rfl
      have z1 : w3.cell? ⟨g, 1, none⟩ = some (.int .i64 x.n) := cellb HB2.out rfl
      have z2 : w3.cell? ⟨g, 2, none⟩ = some (.string x.nm) := cellb HB2.out rfl
      have z3 : w3.cell? ⟨g, 3, none⟩ = some (.slice ao x.kids.len cap) := cellb HB2.out rfl
      have hlt2 : w.heap.size < w3.heap.size := (Array.getElem?_eq_some_iff.1 HZ2.out).1
      have hlt3 : g < w3.heap.size := (Array.getElem?_eq_some_iff.1 HB2.out).1
      go_wp2_with fail
      exact bodyPost_ret (v := exV x.op x.n x.nm x.kids ao cap) (by simp [results, Tryz.results115, go_sem, exV, y0, y1, y2, y3]) rfl (pass_end HK2.out HE.out)
  · have h0' : isNum s.toks = true := h0
    have HV : Hid (I64 ((Tk.val (nextT s.toks) : Nat) : Int)) := Lib.hid (by have := num_le HI.out.ts h0'; unfold I64; omega)
    have HRN : Hid (∀ w, RfI w R s → Calls Tryz.prog 79 #[.pointer (some ⟨R.br, 0, none⟩)] w (NuR R w (((Tk.val (nextT s.toks) : Nat) : Int), s.adv))) := Lib.hid (fun w h => by rw [← numS_yes (ts := R.ts) h0']; exact rnum_any R s w h)
    rw [xs_num h0']
    clear HIB HF
    generalize ((Tk.val (nextT s.toks) : Nat) : Int) = vv at *
    go_enter Tryz.func115, Tryz.ntmps115
    go_upto_region 1 with fail
    generalize hW : World.alloc w _ = W
    have HK : Hid (Wr R w W s) := Lib.hid (by rw [← hW]; exact (Wr.start HI.out).alloc _)
    have HZ : Hid (W.heap[w.heap.size]? = some (.cells #[.int .i64 0, .int .i64 0, .string ⟨#[]⟩, .slice none 0 0] 38 (0, 0))) := Lib.hid (by rw [← hW]; exact heap_alloc_new _ _)
    clear hW
    go_wp2_with fail
    refine (kind_b R s _ 2 2 rfl (by decide) h0 HK.out.rd).mono ?_
    rintro e w0 ⟨rfl, h2⟩
    have HK0 := Lib.hid (HK.out.below h2)
    have HZ0 := Lib.hid ((h2.block _ (Array.getElem?_eq_some_iff.1 HZ.out).1).trans HZ.out)
    clear h2 HK HZ
    have HK := HK0
    have HZ := HZ0
    clear HK0 HZ0
    go_wp2_with fail
    refine (HRN.out _ HK.out.rd).mono ?_
    rintro e w0 ⟨rfl, h2, h3⟩
    have HK0 := Lib.hid (HK.out.then h2 h3)
    have HZ0 := Lib.hid ((HK.out.kept h3 (Nat.le_refl _) (Array.getElem?_eq_some_iff.1 HZ.out).1).trans HZ.out)
    clear h2 h3 HK HZ
    have HK := HK0
    have HZ := HZ0
    clear HK0 HZ0
    obtain ⟨⟨y0, y1, y2, y3⟩, f0, f1, f2, f3⟩ := zE_cells HZ.out
    go_wp2_with fail
    exact bodyPost_ret (v := exV 1 vv ⟨#[]⟩ .nil none 0) (by simp [results, Tryz.results115, go_sem, y0, y1, y2, y3, exV, ExL.len]) rfl (rleaf_end HK.out (by unfold I64; decide) HV.out (Nat.zero_le _))
end Go.Proofs.YtommnhglgedflaaGreatDoor
end
section
set_option linter.unusedSimpArgs false
set_option linter.unusedVariables false
namespace Go.Proofs.YtommnhglgedflaaGreatDoor
open Go.RowKit
open Md Pz
theorem ex_siz : (Tryz.prog.info? 38).map (·.size) = some 4 := by kernel_rfl
theorem rf_grown {w w' : World} {R : Rp} {s : St} {g : Nat} (h : RfI w R s) (hg : w.grownBy w' (some g)) (h0 : R.B0 ≤ g) (h1 : g ≠ R.br) : RfI w' R s := by
  obtain ⟨pos, bad, k1, k2, k3⟩ := h.blk
  exact ⟨⟨pos, bad, k1, k2, (hg.block _ h.lt (by simp; exact fun e => h1 e.symm)).trans k3⟩, h.tok.below (grown_below hg h0 (Nat.le_trans R.b0 (Nat.le_of_lt h.lt))), h.ok, h.tl⟩
theorem gr_grown {w W W' : World} {b : Option Nat} {g : Nat} (h : w.grownBy W b) (hg : W.grownBy W' (some g)) (hb : w.heap.size ≤ g) : w.grownBy W' b :=
  ⟨hg.os.trans h.os, hg.tape.trans h.tape, hg.output.trans h.output, Nat.le_trans h.size hg.size, fun k hk hn => (hg.block k (Nat.lt_of_lt_of_le hk h.size) (by simp; omega)).trans (h.block k hk hn)⟩
theorem Wr.grown {R : Rp} {w W W' : World} {s : St} {g : Nat} (h : Wr R w W s) (hg : W.grownBy W' (some g)) (hb : w.heap.size ≤ g) : Wr R w W' s :=
  ⟨rf_grown h.rd hg (by have := R.b0; have := h.lt; omega) (by have := h.lt; omega), gr_grown h.gr hg hb, h.lt⟩
/-- What stands behind an operand of the loop. -/
def BinE (R : Rp) (w : World) (L : Nat) (l : E) (s : St) (wr : World) : Prop :=
  ∃ ao cap, Wr R w wr s ∧ wr.heap[w.heap.size]? = some (.cells zC 38 (0, 0)) ∧ wr.heap[L]? = some (.cells (exC l.op l.n l.nm l.kids ao cap).toArray 38 (0, 0)) ∧ EOk l ∧ StayX (w.heap.size + 1) (some L) wr (fun w2 => l.kids.At w2 w2.heap.size ao 0)
theorem BinE.rd {R : Rp} {w : World} {L : Nat} {l : E} {s : St} {wr : World} (h : BinE R w L l s wr) : RfI wr R s := by
  obtain ⟨_, _, h, -⟩ := h; exact h.rd
theorem BinE.below {R : Rp} {w : World} {L : Nat} {l : E} {s : St} {wr w' : World} (h : BinE R w L l s wr) (hb : Below wr.heap.size wr w') : BinE R w L l s w' := by
  obtain ⟨ao, cap, h1, h2, h3, h4, h5⟩ := h
  exact ⟨ao, cap, h1.below hb, (hb.block _ (Array.getElem?_eq_some_iff.1 h2).1).trans h2, (hb.block _ (Array.getElem?_eq_some_iff.1 h3).1).trans h3, h4, h5.next (abv_below hb).x⟩
theorem BinE.adv {R : Rp} {w : World} {L : Nat} {l : E} {s : St} {wr : World} (h : BinE R w L l s wr) (hL : w.heap.size < L) {pos : Nat} (hp : wr.cell? ⟨R.br, 1, none⟩ = some (.int .i64 (pos : Int))) (hne : s.toks ≠ []) :
    BinE R w L l s.adv (wr.setCell ⟨R.br, 1, none⟩ (.int .i64 ((pos : Int) + 1))) := by
  obtain ⟨ao, cap, h1, h2, h3, h4, h5⟩ := h
  have hlt := h1.lt
  exact ⟨ao, cap, h1.adv hp hne, (setCell_far _ _ _ rfl (show R.br ≠ w.heap.size by omega)).trans h2, (setCell_far _ _ _ rfl (show R.br ≠ L by omega)).trans h3, h4, h5.next (abv_set _ ⟨R.br, 1, none⟩ _ (show R.br < _ by omega)).x⟩
/-- A right operand was read: its value, and where the parts lie. -/
def RtV (B L : Nat) (x : E) (v : Value) (w : World) : Prop := ∃ ao cap, v = exV x.op x.n x.nm x.kids ao cap ∧ EOk x ∧ StayX B (some L) w (fun w2 => x.kids.At w2 w2.heap.size ao 0)
def TwV (B L : Nat) (l x : E) (v : Value) (w : World) : Prop := ∃ g, v = .slice (some ⟨g, 0, none⟩) 2 2 ∧ StayX B (some L) w (fun w2 => (ExL.cons l.op l.n l.nm l.kids (.cons x.op x.n x.nm x.kids .nil)).At w2 w2.heap.size (some ⟨g, 0, none⟩) 0)
theorem abx_refl (B : Nat) (g : Option Nat) (w : World) : AbvX B g w w := ⟨Nat.le_refl _, fun _ _ _ _ => rfl⟩
/-- The class of worlds of the loop's last statement. -/
def KW (R : Rp) (W : World) (s : St) (w' : World) : Prop := RfI w' R s ∧ W.grownBy w' (some R.br)
/-- What the last store leaves. -/
theorem bin_store {R : Rp} {w W w' : World} {L : Nat} {l x : E} {op : Int} {s1 s2 : St} {ao : Option Addr} {cap : Nat} (hop : I64 op) (hL : w.heap.size < L) (h : BinE R w L l s1 W) (hk : KW R W s2 w') (hst : StayX (w.heap.size + 1) (some L) w' (fun w2 => (mk2 op l x).kids.At w2 w2.heap.size ao 0)) :
    BinE R w L (mk2 op l x) s2 (w'.setCells L 0 (exC op 0 ⟨#[]⟩ (mk2 op l x).kids ao cap)) := by
  obtain ⟨ao1, cap1, h1, h2, h3, h4, h5⟩ := h
  have hlt := h1.lt
  have hg := setCells_grown L (exC op 0 ⟨#[]⟩ (mk2 op l x).kids ao cap) 0 w'
  have hz := (hk.2.block _ (Array.getElem?_eq_some_iff.1 h2).1 (by simp; omega)).trans h2
  have hb := (hk.2.block _ (Array.getElem?_eq_some_iff.1 h3).1 (by simp; omega)).trans h3
  have hw : Wr R w w' s2 := ⟨hk.1, grow_tr h1.gr hk.2, hlt⟩
  refine ⟨ao, cap, hw.grown hg (Nat.le_of_lt hL), (hg.block _ (Array.getElem?_eq_some_iff.1 hz).1 (by simp; omega)).trans hz, ?_, ⟨hop, i64_0, Nat.zero_le _, by simp [mk2, ExL.len, maxLen]⟩, hst.next (AbvX.of_grown hg)⟩
  have := setCells_all (vs := exC op 0 ⟨#[]⟩ (mk2 op l x).kids ao cap) hb rfl
  exact this
def RBin (R : Rp) (w : World) (f lv L : Nat) (res : E × St) (n g : Nat) (wr : World) : Prop :=
  ∃ f' l s, g = s.len ∧ n + s.len ≤ 5000 ∧ f' ≤ f ∧ enough (.lp lv l) s.toks f' ∧ ((lv = 3 ∧ 1 ≤ n) → res = (l, s)) ∧ (¬ (lv = 3 ∧ 1 ≤ n) → res = exprS R.ts f' (.lp lv l) s) ∧ BinE R w L l s wr
theorem opAt_ne {lv : Int} {s : St} (h : (opAt lv s.toks == 0) = false) : s.toks ≠ [] := by
  intro e; rw [e] at h; exact absurd h (by simp [opAt, nextK])
set_option maxHeartbeats 8000000 in
set_option maxRecDepth 100000 in
theorem rexpr_step (R : Rp) (f : Nat) (lv : Nat) (ih : ∀ f', f' ≤ f → ∀ m, RxSays R f' m) : RxSays R (f + 1) (.bin lv) := by
  intro hlv s w hen hI
  have HI := Lib.hid hI
  have HIH := Lib.hid ih
  have HF := Lib.hid hen
  clear hI ih hen
  by_cases h5 : 5 < lv
  · have hq : decide ((5 : Int) < (lv : Int)) = true := by rw [decide_eq_true_iff]; omega
    have HX : Hid (∀ w, RfI w R s → Calls Tryz.prog 83 #[.pointer (some ⟨R.br, 0, none⟩)] w (ExpR R w (exprS R.ts f .un s))) := Lib.hid (fun w h => HIH.out f (Nat.le_refl _) .un s w (by have := HF.out; simp only [enough, wt] at *; omega) h)
    rw [xs_top h5]
    clear HIH HF
    generalize exprS R.ts f .un s = res at *
    obtain ⟨x, s'⟩ := res
    go_enter Tryz.func44, Tryz.ntmps44
    go_upto_region 1 with fail
    generalize hW : World.alloc w _ = W
    have HK : Hid (Wr R w W s) := Lib.hid (by rw [← hW]; exact (Wr.start HI.out).alloc _)
    have HZ : Hid (W.heap[w.heap.size]? = some (.cells #[.int .i64 0, .int .i64 0, .string ⟨#[]⟩, .slice none 0 0] 38 (0, 0))) := Lib.hid (by rw [← hW]; exact heap_alloc_new _ _)
    clear hW
    go_wp2_with fail
    refine (HX.out _ HK.out.rd).mono ?_
    rintro e w2 ⟨v, rfl, hv, h2, h3⟩
    have HK2 := Lib.hid (HK.out.then h2 h3)
    have HZ2 := Lib.hid ((HK.out.kept h3 (Nat.le_refl _) (Array.getElem?_eq_some_iff.1 HZ.out).1).trans HZ.out)
    have HX2 := Lib.hid (hv.mono (Array.getElem?_eq_some_iff.1 HZ.out).1)
    clear h2 h3 HK HZ hv
    obtain ⟨ao, cap, rfl, hok, hst⟩ := HX2.out
    have HE := Lib.hid (And.intro hok hst)
    clear hok hst HX2
    obtain ⟨⟨y0, y1, y2, y3⟩, f0, f1, f2, f3⟩ := zE_cells HZ2.out
    unfold exV
    go_wp2_with fail
    exact bodyPost_ret (v := exV x.op x.n x.nm x.kids ao cap) (by simp [results, Tryz.results44, go_sem, y0, y1, y2, y3, exV]) rfl (pass_end HK2.out HE.out)
  · have hq : decide ((5 : Int) < (lv : Int)) = false := by rw [decide_eq_false_iff_not]; omega
    have hlv0 : (0 : Int) ≤ (lv : Int) := by omega
    have hlv6 : (lv : Int) ≤ 6 := by omega
    have HX : Hid (∀ w, RfI w R s → Calls Tryz.prog 44 #[.pointer (some ⟨R.br, 0, none⟩), .int .i64 ((lv : Int) + 1)] w (ExpR R w (exprS R.ts f (.bin (lv + 1)) s))) := Lib.hid (fun w h => HIH.out f (Nat.le_refl _) (.bin (lv + 1)) (by omega) s w (by have := HF.out; simp only [enough, wt] at *; omega) h)
    have HLE : Hid ((exprS R.ts f (.bin (lv + 1)) s).2.len ≤ s.len) := Lib.hid (exprS_le _ _ _)
    have HS0 : Hid (exprS R.ts (f + 1) (.bin lv) s = exprS R.ts f (.lp lv (exprS R.ts f (.bin (lv + 1)) s).1) (exprS R.ts f (.bin (lv + 1)) s).2) := Lib.hid (xs_bin h5)
    have HLN : Hid (s.len ≤ 4096) := Lib.hid HI.out.len
    generalize exprS R.ts (f + 1) (.bin lv) s = spec at *
    generalize exprS R.ts f (.bin (lv + 1)) s = res at *
    obtain ⟨x, s'⟩ := res
    go_enter Tryz.func44, Tryz.ntmps44
    go_upto_region 1 with fail
    generalize hW : World.alloc w _ = W
    have HK : Hid (Wr R w W s) := Lib.hid (by rw [← hW]; exact (Wr.start HI.out).alloc _)
    have HZ : Hid (W.heap[w.heap.size]? = some (.cells #[.int .i64 0, .int .i64 0, .string ⟨#[]⟩, .slice none 0 0] 38 (0, 0))) := Lib.hid (by rw [← hW]; exact heap_alloc_new _ _)
    clear hW
    go_wp2_with fail
    refine (HX.out _ HK.out.rd).mono ?_
    rintro e w2 ⟨v, rfl, hv, h2, h3⟩
    have HK2 := Lib.hid (HK.out.then h2 h3)
    have HZ2 := Lib.hid ((HK.out.kept h3 (Nat.le_refl _) (Array.getElem?_eq_some_iff.1 HZ.out).1).trans HZ.out)
    have HX2 := Lib.hid (hv.mono (Array.getElem?_eq_some_iff.1 HZ.out).1)
    clear h2 h3 HK HZ hv
    obtain ⟨ao, cap, rfl, hok, hst⟩ := HX2.out
    have HE := Lib.hid (And.intro hok hst)
    clear hok hst HX2
    unfold exV
    go_upto_region 4 with fail
    obtain ⟨g, hg⟩ : ∃ g, w2.heap.size = g := ⟨_, rfl⟩
    generalize hW : World.alloc w2 _ = W3
    have HK3 : Hid (Wr R w W3 s') := Lib.hid (by rw [← hW]; exact HK2.out.alloc _)
    have HB3 : Hid (W3.heap[g]? = some (.cells #[.int .i64 x.op, .int .i64 x.n, .string x.nm, .slice ao x.kids.len cap] 38 (0, 0))) := Lib.hid (by rw [← hW, ← hg]; exact heap_alloc_new _ _)
    have HZ3 : Hid (W3.heap[w.heap.size]? = some (.cells #[.int .i64 0, .int .i64 0, .string ⟨#[]⟩, .slice none 0 0] 38 (0, 0))) := Lib.hid (by rw [← hW]; exact (heap_alloc_old _ _ (Array.getElem?_eq_some_iff.1 HZ2.out).1).trans HZ2.out)
    have HE3 : Hid (EOk x ∧ Stay (w.heap.size + 1) W3 (fun w2 => x.kids.At w2 w2.heap.size ao 0)) := Lib.hid ⟨HE.out.1, by rw [← hW]; exact HE.out.2.next (abv_below (alloc_below _ _))⟩
    have HG : Hid (w.heap.size < g) := Lib.hid (by rw [← hg]; exact (Array.getElem?_eq_some_iff.1 HZ2.out).1)
    have HEX : Hid (StayX (w.heap.size + 1) (some g) W3 (fun w2 => x.kids.At w2 w2.heap.size ao 0)) := Lib.hid (by rw [← hW]; exact stay_new HE.out.2 (abv_below (alloc_below _ _)) (Nat.le_of_eq hg))
    rw [hg]
    clear hW hg HK2 HZ2 HE
    have HHD : Hid (RBin R w f lv g spec 0 s'.len W3) := Lib.hid ⟨f, x, s', rfl, by have h1 : s'.len ≤ s.len := HLE.out; have h2 := HLN.out; omega, Nat.le_refl _, by
      have := HF.out; have h1 : s'.len ≤ s.len := HLE.out; simp only [enough, wt, St.len] at *; omega, fun h => absurd h.2 (by omega), fun _ => HS0.out, ao, cap, HK3.out, HZ3.out, HB3.out, HE3.out.1, HEX.out⟩
    clear HK3 HZ3 HB3 HE3 HEX HX HLE HS0 HLN HI HF
    go_wp2_with fail
    go_loopg [6] s'.len (fun gk v6 wr => ∃ n : Nat, v6 = .int .i64 (n : Int) ∧ RBin R w f lv g spec n gk wr)
    case atStart => exact ⟨0, rfl, HHD.out⟩
    case round =>
      obtain ⟨n, rfl, f', l, s, rfl, hn, hf', hen, h3f, h3g, hbe⟩ := hrel
      obtain ⟨f', rfl⟩ : ∃ n, f' = n + 1 := ⟨f' - 1, by simp only [enough, wt] at hen; omega⟩
      have HB := Lib.hid hbe
      have HF := Lib.hid (And.intro hf' (And.intro hen hn))
      have HOB : Hid (∀ w, RfI w R s → Calls Tryz.prog 84 #[.pointer (some ⟨R.br, 0, none⟩), .int .i64 (lv : Int)] w fun e w' => e = .returned (.int .i64 (opAt (lv : Int) s.toks)) ∧ Below w.heap.size w w') := Lib.hid (fun w h => rbinary_any R s w (lv : Int) h)
      have H3 := Lib.hid (And.intro h3f h3g)
      clear hbe hf' hen hn h3f h3g HHD
      cases hop : (opAt (lv : Int) s.toks == 0)
      · have HOP := Lib.hid (opAt_op hop)
        have hop0 : decide ((0 : Int) < opAt (lv : Int) s.toks) = true := decide_eq_true (by have := HOP.out; omega)
        by_cases h3 : lv = 3 ∧ 1 ≤ n
        · have hs := H3.out.1 h3
          subst hs
          have h3' : ((lv : Int) != 3) = false := by rw [h3.1]; rfl
          have h3n : ((n : Int) == 0) = false := by rw [beq_eq_false_iff_ne]; omega
          clear h3 H3
          generalize opAt (lv : Int) s.toks = op at *
          go_wp2_with fail
          refine (HOB.out _ HB.out.rd).mono ?_
          rintro e w3 ⟨rfl, h2⟩
          obtain ⟨aol, capl, hK, hZ, hB, hok, hst⟩ := HB.out.below h2
          have HK3 := Lib.hid hK
          have HE3 := Lib.hid (And.intro hok hst)
          obtain ⟨⟨y0, y1, y2, y3⟩, f0, f1, f2, f3⟩ := zE_cells hZ
          obtain ⟨⟨z0, z1, z2, z3⟩, d0, d1, d2, d3⟩ := exC_cells hB
          clear h2 hK hZ hB hok hst HB HOB
          go_wp2_with fail
          exact bodyPost_ret (v := exV l.op l.n l.nm l.kids aol capl) (by simp [results, Tryz.results44, go_sem, exV, y0, y1, y2, y3]) rfl (pass_end HK3.out ⟨HE3.out.1, HE3.out.2.stay⟩)
        · have HS := Lib.hid (H3.out.2 h3)
          have HNE := Lib.hid (opAt_ne hop)
          have hcond : ((lv : Int) != 3) = true ∨ (((lv : Int) != 3) = false ∧ ((n : Int) == 0) = true) := by
            by_cases e : lv = 3
            · right
              have : n = 0 := by omega
              rw [e, this]; exact ⟨rfl, rfl⟩
            · left; rw [bne_iff_ne]; omega
          have HLT : Hid (s.adv.len < s.len) := Lib.hid (adv_lt HNE.out)
          have HX : Hid (∀ w, RfI w R s.adv → Calls Tryz.prog 44 #[.pointer (some ⟨R.br, 0, none⟩), .int .i64 ((lv : Int) + 1)] w (ExpR R w (exprS R.ts f' (.bin (lv + 1)) s.adv))) := Lib.hid (fun w h => HIH.out f' (by have := HF.out; omega) (.bin (lv + 1)) (by omega) s.adv w (by have := HF.out; have := HLT.out; simp only [enough, wt, St.len] at *; omega) h)
          have HLE : Hid ((exprS R.ts f' (.bin (lv + 1)) s.adv).2.len ≤ s.adv.len) := Lib.hid (exprS_le _ _ _)
          have HSP : Hid ((lv = 3 → spec = (mk2 (opAt (lv : Int) s.toks) l (exprS R.ts f' (.bin (lv + 1)) s.adv).1, (exprS R.ts f' (.bin (lv + 1)) s.adv).2)) ∧ (¬ lv = 3 → spec = exprS R.ts f' (.lp lv (mk2 (opAt (lv : Int) s.toks) l (exprS R.ts f' (.bin (lv + 1)) s.adv).1)) (exprS R.ts f' (.bin (lv + 1)) s.adv).2)) := Lib.hid ⟨fun e => HS.out.trans (xs_3 hop e), fun e => HS.out.trans (xs_lp hop e)⟩
          clear h3 H3 HS hop
          generalize opAt (lv : Int) s.toks = op at *
          generalize exprS R.ts f' (.bin (lv + 1)) s.adv = res at *
          obtain ⟨x2, s2⟩ := res
          rcases hcond with hc | ⟨hc, hc2⟩
          all_goals
            go_wp2_with fail
            refine (HOB.out _ HB.out.rd).mono ?_
            rintro e w3 ⟨rfl, h2⟩
            have HB3 := Lib.hid (HB.out.below h2)
            clear h2
            go_wp2_with fail
            refine (HOB.out _ HB3.out.rd).mono ?_
            rintro e w4 ⟨rfl, h2⟩
            have HB4 := Lib.hid (HB3.out.below h2)
            clear h2 HOB HB3 HB hc
            obtain ⟨pos, bad, ⟨hp, hp2, hl, hlt, hbr⟩, HSA, ⟨hbad0, hbad1⟩, c0, c1, c2, f1, f2⟩ := HB4.out.rd.open
            have HB5 := Lib.hid (HB4.out.adv HG.out c1 HNE.out)
            go_upto_region 9 with fail
            generalize hW : World.setCell w4 _ _ = W5
            rw [hW] at HB5
            clear hW c0 c1 c2 f1 f2 HSA hp hp2 hl hlt hbr hbad0 hbad1 HB4
            obtain ⟨aol, capl, hK, hZ, hB, hok, hst⟩ := HB5.out
            have HLR : Hid (R.br < w.heap.size ∧ w.heap.size + 1 ≤ W5.heap.size ∧ g < W5.heap.size) := Lib.hid ⟨hK.lt, Nat.le_trans (Nat.succ_le_of_lt (Array.getElem?_eq_some_iff.1 hZ).1) (Nat.le_refl _), (Array.getElem?_eq_some_iff.1 hB).1⟩
            have KD : ∀ w', W5.grownBy w' (some R.br) → w'.heap[g]? = some (.cells (exC l.op l.n l.nm l.kids aol capl).toArray 38 (0, 0)) := fun w' h => (h.block _ (Array.getElem?_eq_some_iff.1 hB).1 (by have := HLR.out; have := HG.out; simp; omega)).trans hB
            have HL5 := Lib.hid (And.intro hok hst)
            have hRD := hK.rd
            clear hK hZ hB hok hst
            have hwl : IntKind.i64.wrap ((lv : Int) + 1) = (lv : Int) + 1 := IntWalk.i64_in _ (by omega)
            refine wpAny_start (by kernel_rfl) rfl ?_
            refine wpAny_phase 0 9 [5, 8] [[], [], [], [], [3], [2, 3, 4], [1, 2, 3, 4, 5], [0, 1, 2, 3, 4, 5, 6], [0, 1, 2, 3, 4, 5, 6, 7]] [[none, some false], [none, some false], [some false, some false], [some false, some false], [some false, some false], [some false, some false], [some true, some false], [some true, some false], [some true, some false]] (DC2 (KW R W5 s.adv) (KW R W5 s2) (BinE R w g (mk2 op l x2) s2)) (fun u u' => AbvX (w.heap.size + 1) (some g) u u') [40, 41, 42, 43, 44, 45, 46, 47] rfl rfl (by rfl) (by kernel_rfl) (by kernel_rfl) (by kernel_rfl) (by kernel_rfl) (by kernel_rfl) (by rfl) (fun _ => abx_refl _ _ _) (by rfl) ⟨hRD.below (below_drewN (Below.refl _ _) 1), gr_below (below_drewN (Below.refl _ _) 1)⟩ ?_
            simp only [List.take_succ_cons, List.take_zero, List.drop_zero, List.drop_succ_cons, dumE, List.map_cons, List.map_nil]
            apply ObP.step
            case hobl =>
              intro c A w' hok hC hO hD
              have e7 := hO 7 (by rfl)
              simp [Act.eval] at e7
              simp [depsL, IsV, slotv, Act.eval, Region.binds] at hD
              simp [go_sem, gd, Oper.wp, hD, e7]
              exact WPost.mk (abx_refl _ _ _) (DC2.skip (by rfl) (by rfl) hC) (IsV.mk _ _)
            apply ObP.step
            case hobl =>
              intro c A w' hok' hC hO hD
              obtain ⟨x', y', rfl⟩ := hC.bits
              obtain ⟨rfl, -⟩ := hok'
              have hb := KD w' (hC.gr (fun _ h => h.2) (fun _ h => h.2))
              have z0 : w'.cell? ⟨g, 0, none⟩ = some (.int .i64 l.op) := cellb hb rfl
              have z1 : w'.cell? ⟨g, 1, none⟩ = some (.int .i64 l.n) := cellb hb rfl
              have z2 : w'.cell? ⟨g, 2, none⟩ = some (.string l.nm) := cellb hb rfl
              have z3 : w'.cell? ⟨g, 3, none⟩ = some (.slice aol l.kids.len capl) := cellb hb rfl
              have e5 := hO 5 (by rfl)
              simp [Act.eval] at e5
              simp [depsL, IsV, slotv, Act.eval, Region.binds] at hD
              simp [go_sem, gd, Oper.wp, e5, z0, z1, z2, z3]
              exact WPost.mk (abx_refl _ _ _) (DC2.skip (by rfl) (by rfl) hC) (IsV.mk _ _)
            apply ObP.step
            case hobl =>
              intro c A w' hok hC hO hD
              have e0 := hO 0 (by rfl)
              simp [Act.eval] at e0
              simp [depsL, IsV, slotv, Act.eval, Region.binds] at hD
              simp [go_sem, gd, Oper.wp, hD, e0]
              exact WPost.mk (abx_refl _ _ _) (DC2.skip (by rfl) (by rfl) hC) (IsV.mk _ _)
            apply ObP.step
            case hobl =>
              intro c A w' hok hC hO hD
              have e1 := hO 1 (by rfl)
              simp [Act.eval] at e1
              simp [depsL, IsV, slotv, Act.eval, Region.binds] at hD
              simp [go_sem, gd, Oper.wp, hD, e1]
              exact WPost.mk (abx_refl _ _ _) (DC2.skip (by rfl) (by rfl) hC) (IsV.mk _ _)
            simp only [List.nil_append, List.cons_append]
            apply ObP.step
            case hobl =>
              intro c A w' hok hC hO hD
              simp [depsL, IsV, slotv, Act.eval, Region.binds] at hD
              simp [go_sem, gd, Oper.wp, hD, hwl]
              exact WPost.mk (abx_refl _ _ _) (DC2.skip (by rfl) (by rfl) hC) (IsV.mk _ _)
            refine ObP.some (fun v w' => RtV (w.heap.size + 1) g x2 v w') (fun v w1 w' hle h => by obtain ⟨a, c, h1, h0, h2⟩ := h; exact ⟨a, c, h1, h0, h2.next hle⟩) ?_ ?_
            · intro c A w' hok' hC hO hD
              obtain ⟨x', y', rfl⟩ := hC.bits
              obtain ⟨rfl, rfl, -⟩ := hok'
              have hC : KW R W5 s.adv w' := hC
              simp [depsL, IsV, slotv, Act.eval, Region.binds] at hD
              simp [go_sem, gd, Oper.wp, hD]
              refine (HX.out w' hC.1).mono ?_
              rintro e w6 ⟨v, rfl, ⟨a, c, hv, hok2, hst2⟩, h2, h3⟩
              exact WPost.mk (abv_gr h3 (by have := HLR.out; omega)).x (DC2.fire (by rfl) (by rfl) ⟨h2, grow_tr hC.2 h3⟩) ⟨a, c, hv, hok2, stayX_of hst2 (Nat.le_trans HLR.out.2.1 hC.2.size) (fun k hk => by injection hk with hk; rw [← hk]; exact Nat.lt_of_lt_of_le HLR.out.2.2 hC.2.size)⟩
            simp only [List.nil_append, List.cons_append]
            refine ObP.some (fun v w' => TwV (w.heap.size + 1) g l x2 v w') (fun v w1 w' hle h => by obtain ⟨a, h1, h2⟩ := h; exact ⟨a, h1, h2.next hle⟩) ?_ ?_
            · intro c A w' hok' hC hO hD
              obtain ⟨x', y', rfl⟩ := hC.bits
              obtain ⟨rfl, rfl, -⟩ := hok'
              have hC : KW R W5 s2 w' := hC
              simp [depsL, IsV, slotv, Act.eval, Region.binds] at hD
              obtain ⟨h41, a, c, h45, hok2, hstx⟩ := hD
              unfold exV at h45
              simp [go_sem, gd, Oper.wp, h41, h45]
              refine WPost.mk (d := _) (v := .slice (some ⟨_, 0, none⟩) 2 2) (abv_below (alloc_below _ _)).x (DC2.skip (by rfl) (by rfl) (show KW R W5 s2 _ from ⟨hC.1.below (alloc_below _ _), grow_tr hC.2 (gr_below (alloc_below _ _))⟩)) ⟨_, rfl, ?_⟩
              exact stay_twoX (heap_alloc_new _ _) (Nat.le_trans HLR.out.2.1 hC.2.size) (by have := HLR.out.2.2; have := hC.2.size; omega) HL5.out.1 ((HL5.out.2.next (abv_gr hC.2 (by have := HLR.out; omega)).x).next (abv_below (alloc_below _ _)).x) hok2 (hstx.next (abv_below (alloc_below _ _)).x)
            simp only [List.nil_append, List.cons_append]
            refine ObP.some (fun v w' => ∃ gg, v = exV op 0 ⟨#[]⟩ (mk2 op l x2).kids (some ⟨gg, 0, none⟩) 2 ∧ StayX (w.heap.size + 1) (some g) w' (fun w2 => (mk2 op l x2).kids.At w2 w2.heap.size (some ⟨gg, 0, none⟩) 0)) (fun v w1 w' hle h => by obtain ⟨a, h1, h2⟩ := h; exact ⟨a, h1, h2.next hle⟩) ?_ ?_
            · intro c A w' hok' hC hO hD
              simp [depsL, IsV, slotv, Act.eval, Region.binds] at hD
              obtain ⟨h40, gg, h46, hstx⟩ := hD
              simp [go_sem, gd, Oper.wp, h40, h46]
              exact WPost.mk (abx_refl _ _ _) (DC2.skip (by rfl) (by rfl) hC) ⟨gg, rfl, hstx⟩
            simp only [List.nil_append, List.cons_append]
            refine ObP.some (fun _ _ => True) (fun _ _ _ _ _ => trivial) ?_ ?_
            · intro c A w' hok' hC hO hD
              obtain ⟨x', y', rfl⟩ := hC.bits
              obtain ⟨rfl, rfl, -⟩ := hok'
              have hC : KW R W5 s2 w' := hC
              have e5 := hO 5 (by rfl)
              simp [Act.eval] at e5
              simp [depsL, IsV, slotv, Act.eval, Region.binds] at hD
              obtain ⟨⟨gg, h47, hstx⟩, -⟩ := hD
              simp only [gd, if_true]
              refine wp_store_mid _ _ _ (by rfl) g 0 (exC op 0 ⟨#[]⟩ (mk2 op l x2).kids (some ⟨gg, 0, none⟩) 2).toArray (by simp [Act.eval, e5]) (by simp [Act.eval, h47, exV, exC]) (thereS (KD w' hC.2) (Nat.le_refl 4)) ex_siz (by simp [exC, Value.oneCell']) ?_
              exact WPost.mk0 (AbvX.of_grown (setCells_grown _ _ _ _)) (DC2.last (by rfl) (by rfl) (bin_store (by have := HOP.out; unfold I64; omega) HG.out HB5.out hC hstx)) trivial
            try simp only [List.nil_append, List.cons_append]
            refine ObP.done ?_
            intro w9 hC9
            try simp only [List.drop_succ_cons, List.drop_zero]
            intro x0 h0 x1 h1 x2' h2 x3 h3 x4 h4 x5 h5' x6 h6 x7 h7 x8 h8
            clear h0 h1 h2 h3 h4 h5' h6 h7 h8 KD
            refine allvals_nil ?_
            refine wpAny_end rfl ?_
            have HB9 : Hid (BinE R w g (mk2 op l x2) s2 w9) := Lib.hid hC9
            have HNN : Hid (n + 1 + s2.len ≤ 5000) := Lib.hid (by have h1 := HF.out.2.2; have h2 : s2.len ≤ s.adv.len := HLE.out; have h3 := HLT.out; omega)
            have hnw : (n : Int) ≤ 5000 := by have := HF.out.2.2; omega
            have hn0 : (0 : Int) ≤ (n : Int) := by omega
            clear hC9 HB5 HL5 hRD HX
            go_simp
            go_wp2_with fail
            go_roundg s2.len
            case measure => have h2 : s2.len ≤ s.adv.len := HLE.out; have h3 := HLT.out; omega
            case rel =>
              by_cases h33 : lv = 3
              · exact ⟨n + 1, by go_num, f', mk2 op l x2, s2, rfl, HNN.out, by have := HF.out.1; omega, by
                  have h1 := HF.out.2.1; have h2 : s2.len ≤ s.adv.len := HLE.out; have h3 := HLT.out; simp only [enough, wt, St.len] at *; omega, fun _ => HSP.out.1 h33, fun h => absurd ⟨h33, Nat.le_add_left 1 n⟩ h, HB9.out⟩
              · exact ⟨n + 1, by go_num, f', mk2 op l x2, s2, rfl, HNN.out, by have := HF.out.1; omega, by
                  have h1 := HF.out.2.1; have h2 : s2.len ≤ s.adv.len := HLE.out; have h3 := HLT.out; simp only [enough, wt, St.len] at *; omega, fun h => absurd h.1 h33, fun _ => HSP.out.2 h33, HB9.out⟩
      · have hop0 : decide ((0 : Int) < opAt (lv : Int) s.toks) = false := decide_eq_false (by rw [show opAt (lv : Int) s.toks = 0 by simpa using hop]; decide)
        have hs : spec = (l, s) := by
          by_cases h3 : lv = 3 ∧ 1 ≤ n
          · exact H3.out.1 h3
          · exact (H3.out.2 h3).trans (xs_end hop)
        subst hs
        clear H3 hop
        generalize opAt (lv : Int) s.toks = op at *
        go_wp2_with fail
        refine (HOB.out _ HB.out.rd).mono ?_
        rintro e w3 ⟨rfl, h2⟩
        obtain ⟨aol, capl, hK, hZ, hB, hok, hst⟩ := HB.out.below h2
        have HK3 := Lib.hid hK
        have HE3 := Lib.hid (And.intro hok hst)
        obtain ⟨⟨y0, y1, y2, y3⟩, f0, f1, f2, f3⟩ := zE_cells hZ
        obtain ⟨⟨z0, z1, z2, z3⟩, d0, d1, d2, d3⟩ := exC_cells hB
        clear h2 hK hZ hB hok hst HB HOB
        go_wp2_with fail
        exact bodyPost_ret (v := exV l.op l.n l.nm l.kids aol capl) (by simp [results, Tryz.results44, go_sem, exV, y0, y1, y2, y3]) rfl (pass_end HK3.out ⟨HE3.out.1, HE3.out.2.stay⟩)
end Go.Proofs.YtommnhglgedflaaGreatDoor
end
section
set_option linter.unusedSimpArgs false
set_option linter.unusedVariables false
namespace Go.Proofs.YtommnhglgedflaaGreatDoor
open Go.RowKit
open Md Pz
theorem rx_all (R : Rp) : ∀ f m, RxSays R f m := by
  intro f
  induction f using Nat.strongRecOn with
  | _ f ih =>
    intro m
    cases f with
    | zero =>
      cases m with
      | bin lv => exact fun _ s w h _ => absurd h (by unfold enough; omega)
      | un => exact fun s w h _ => absurd h (by unfold enough; omega)
      | pr => exact fun s w h _ => absurd h (by unfold enough; omega)
      | lp _ _ => trivial
    | succ f =>
      cases m with
      | bin lv => exact rexpr_step R f lv (fun f' hf' m => ih f' (by omega) m)
      | un => exact runary_step R f (ih f (by omega) .un) (ih f (by omega) .pr)
      | pr => exact rprimary_step R f (ih f (by omega) (.bin 1))
      | lp _ _ => trivial
/-- The second parser's expression. -/
theorem rexpr_any (R : Rp) (s : St) (w : World) (hI : RfI w R s) :
    Calls Tryz.prog 44 #[.pointer (some ⟨R.br, 0, none⟩), .int .i64 1] w (ExpR R w (exprT R.ts s)) :=
  rx_all R _ (.bin 1) (by decide) s w (expr_enough _) hI
/-- A statement under way, and the box of the result. -/
structure Pn (R : Rp) (w : World) (bz bs B : Nat) (W : World) (x : StI) (s : St) : Prop where
  rd : RfI W R s
  gr : w.grownBy W (some R.br)
  lt : R.br < w.heap.size ∧ w.heap.size ≤ bs ∧ bs < B ∧ w.heap.size ≤ bz ∧ bz < B ∧ bz ≠ bs
  sz : B ≤ W.heap.size
  blk : W.heap[bs]? = some (.cells (StI.f x).toArray 91 (0, 0))
  z : W.heap[bz]? = some (.cells zSt11 91 (0, 0))
  ok : StOk x.h x.b x.e
  st : Stay B W (StI.I x)
section
variable {R : Rp} {w : World} {bz bs B : Nat} {W W' : World} {x : StI} {s s' : St}
theorem Pn.then (h : Pn R w bz bs B W x s) (h1 : RfI W' R s') (h2 : W.grownBy W' (some R.br)) : Pn R w bz bs B W' x s' :=
  ⟨h1, grow_tr h.gr h2, h.lt, Nat.le_trans h.sz h2.size, (h2.block _ (Nat.lt_of_lt_of_le h.lt.2.2.1 h.sz) (by have := h.lt; simp; omega)).trans h.blk, (h2.block _ (Nat.lt_of_lt_of_le h.lt.2.2.2.2.1 h.sz) (by have := h.lt; simp; omega)).trans h.z, h.ok, h.st.next (abv_gr h2 (by have := h.lt; omega))⟩
theorem Pn.below (h : Pn R w bz bs B W x s) (hb : Below W.heap.size W W') : Pn R w bz bs B W' x s := h.then (h.rd.below hb) (gr_below hb)
theorem Pn.alloc (h : Pn R w bz bs B W x s) (o : Obj) : Pn R w bz bs B (W.alloc o) x s := h.below (alloc_below _ _)
theorem Pn.adv (h : Pn R w bz bs B W x s) {pos : Nat} (hp : W.cell? ⟨R.br, 1, none⟩ = some (.int .i64 (pos : Int))) (hne : s.toks ≠ []) : Pn R w bz bs B (W.setCell ⟨R.br, 1, none⟩ (.int .i64 ((pos : Int) + 1))) x s.adv :=
  h.then (h.rd.adv hp hne) (setCell_grown _ _ _)
/-- A cell of the statement is stored. -/
theorem Pn.put (h : Pn R w bz bs B W x s) (j : Nat) (v : Value) {y : StI} (hy : (StI.f x).toArray.setIfInBounds j v = (StI.f y).toArray) (hok : StOk y.h y.b y.e) (hst : Stay B W (StI.I y)) : Pn R w bz bs B (W.setCell ⟨bs, j, none⟩ v) y s :=
  ⟨rf_set h.rd _ v (by have := R.b0; have := h.lt; show R.B0 ≤ bs; omega) (by have := h.lt; show bs ≠ R.br; omega), gr_set h.gr _ v h.lt.2.1, h.lt, by have := h.sz; simpa [World.setCell] using this, by rw [setCell_blk h.blk, hy], (setCell_far W _ v rfl (by have := h.lt; show bs ≠ bz; omega)).trans h.z, hok, hst.next (abv_set W ⟨bs, j, none⟩ v h.lt.2.2.1)⟩
theorem Pn.nm (h : Pn R w bz bs B W x s) (t : ByteArray) (hs : t.size ≤ maxLen) : Pn R w bz bs B (W.setCell ⟨bs, 2, none⟩ (.string t)) ⟨{ x.h with nm := t }, x.b, x.e, x.s⟩ s :=
  h.put 2 _ rfl ⟨h.ok.1, h.ok.2.1, hs, h.ok.2.2.2⟩ h.st
theorem Pn.arg (h : Pn R w bz bs B W x s) (t : ByteArray) (hs : t.size ≤ maxLen) : Pn R w bz bs B (W.setCell ⟨bs, 3, none⟩ (.string t)) ⟨{ x.h with arg := t }, x.b, x.e, x.s⟩ s :=
  h.put 3 _ rfl ⟨h.ok.1, h.ok.2.1, h.ok.2.2.1, hs, h.ok.2.2.2.2⟩ h.st
theorem Pn.op (h : Pn R w bz bs B W x s) (n : Int) (hn : I64 n) : Pn R w bz bs B (W.setCell ⟨bs, 0, none⟩ (.int .i64 n)) ⟨{ x.h with op := n }, x.b, x.e, x.s⟩ s :=
  h.put 0 _ rfl ⟨hn, h.ok.2⟩ h.st
theorem Pn.body (h : Pn R w bz bs B W x s) (l : StL) (ao : Option Addr) (cap : Nat) (hl : l.len ≤ maxLen) (hst : Stay B W (fun w2 => l.At w2 w2.heap.size ao 0)) :
    Pn R w bz bs B (W.setCell ⟨bs, 9, none⟩ (.slice ao l.len cap)) ⟨x.h, l, x.e, { x.s with aob := ao, capb := cap }⟩ s :=
  h.put 9 _ rfl ⟨h.ok.1, h.ok.2.1, h.ok.2.2.1, h.ok.2.2.2.1, h.ok.2.2.2.2.1, h.ok.2.2.2.2.2.1, hl, h.ok.2.2.2.2.2.2.2⟩ (fun w2 h2 => ⟨(h.st w2 h2).1, (h.st w2 h2).2.1, hst w2 h2, (h.st w2 h2).2.2.2⟩)
theorem Pn.els (h : Pn R w bz bs B W x s) (l : StL) (ao : Option Addr) (cap : Nat) (hl : l.len ≤ maxLen) (hst : Stay B W (fun w2 => l.At w2 w2.heap.size ao 0)) :
    Pn R w bz bs B (W.setCell ⟨bs, 10, none⟩ (.slice ao l.len cap)) ⟨x.h, x.b, l, { x.s with aoe := ao, cape := cap }⟩ s :=
  h.put 10 _ rfl ⟨h.ok.1, h.ok.2.1, h.ok.2.2.1, h.ok.2.2.2.1, h.ok.2.2.2.2.1, h.ok.2.2.2.2.2.1, h.ok.2.2.2.2.2.2.1, hl⟩ (fun w2 h2 => ⟨(h.st w2 h2).1, (h.st w2 h2).2.1, (h.st w2 h2).2.2.1, hst w2 h2⟩)
theorem Pn.ex (h : Pn R w bz bs B W x s) (y : E) (ao : Option Addr) (cap : Nat) (hy : EOk y) (hst : Stay B W (fun w2 => y.kids.At w2 w2.heap.size ao 0)) :
    Pn R w bz bs B (setX4 W bs (.int .i64 y.op) (.int .i64 y.n) (.string y.nm) (.slice ao y.kids.len cap)) ⟨StH.ex x.h y, x.b, x.e, { x.s with aox := ao, capx := cap }⟩ s := by
  have ha : Abv B W (setX4 W bs (.int .i64 y.op) (.int .i64 y.n) (.string y.nm) (.slice ao y.kids.len cap)) := by
    have x1 : Abv B W _ := abv_set W ⟨bs, 5, none⟩ (.int .i64 y.op) h.lt.2.2.1
    have x2 := x1.trans (abv_set _ ⟨bs, 6, none⟩ (.int .i64 y.n) h.lt.2.2.1)
    have x3 := x2.trans (abv_set _ ⟨bs, 7, none⟩ (.string y.nm) h.lt.2.2.1)
    exact x3.trans (abv_set _ ⟨bs, 8, none⟩ (.slice ao y.kids.len cap) h.lt.2.2.1)
  have hb : R.B0 ≤ bs := by have := R.b0; have := h.lt; omega
  have hn : bs ≠ R.br := by have := h.lt; omega
  have hz : bs ≠ bz := by have := h.lt; omega
  refine ⟨rf_set (rf_set (rf_set (rf_set h.rd _ _ hb hn) _ _ hb hn) _ _ hb hn) _ _ hb hn, gr_set (gr_set (gr_set (gr_set h.gr _ _ h.lt.2.1) _ _ h.lt.2.1) _ _ h.lt.2.1) _ _ h.lt.2.1, h.lt, Nat.le_trans h.sz ha.1, ?_, ?_, ⟨h.ok.1, h.ok.2.1, h.ok.2.2.1, h.ok.2.2.2.1, h.ok.2.2.2.2.1, hy, h.ok.2.2.2.2.2.2⟩, ?_⟩
  · unfold setX4
    rw [setCell_blk (setCell_blk (setCell_blk (setCell_blk h.blk _) _) _) _]; rfl
  · unfold setX4
    rw [setCell_far _ _ _ rfl hz, setCell_far _ _ _ rfl hz, setCell_far _ _ _ rfl hz, setCell_far _ _ _ rfl hz]; exact h.z
  · exact fun w2 h2 => ⟨(h.st w2 (ha.trans h2)).1, hst w2 (ha.trans h2), (h.st w2 (ha.trans h2)).2.2⟩
theorem Pn.idx1 (h : Pn R w bz bs B W x s) (y : E) (ao : Option Addr) (cap : Nat) (t : TypeId) (hy : EOk y ∧ Stay B W (fun w2 => y.kids.At w2 w2.heap.size ao 0)) :
    Pn R w bz bs B ((W.setCell ⟨bs, 4, none⟩ (.slice (some ⟨W.heap.size, 0, none⟩) 1 1)).alloc (.cells #[.int .i64 y.op, .int .i64 y.n, .string y.nm, .slice ao y.kids.len cap] t)) ⟨{ x.h with idx := .cons y.op y.n y.nm y.kids .nil }, x.b, x.e, { x.s with aoi := some ⟨W.heap.size, 0, none⟩, capi := 1 }⟩ s := by
  have ha : Abv B W (W.setCell ⟨bs, 4, none⟩ (.slice (some ⟨W.heap.size, 0, none⟩) 1 1)) := abv_set W ⟨bs, 4, none⟩ _ h.lt.2.2.1
  have hs : (W.setCell ⟨bs, 4, none⟩ (.slice (some ⟨W.heap.size, 0, none⟩) 1 1)).heap.size = W.heap.size := by simp [World.setCell]
  have hb : (W.setCell ⟨bs, 4, none⟩ (.slice (some ⟨W.heap.size, 0, none⟩) 1 1)).heap[bs]? = some (.cells (StI.f ⟨{ x.h with idx := .cons y.op y.n y.nm y.kids .nil }, x.b, x.e, { x.s with aoi := some ⟨W.heap.size, 0, none⟩, capi := 1 }⟩).toArray 91 (0, 0)) := by rw [setCell_blk h.blk]; rfl
  have hr := rf_set h.rd ⟨bs, 4, none⟩ (.slice (some ⟨W.heap.size, 0, none⟩) 1 1) (by have := R.b0; have := h.lt; show R.B0 ≤ bs; omega) (by have := h.lt; show bs ≠ R.br; omega)
  have hgr := gr_set h.gr ⟨bs, 4, none⟩ (.slice (some ⟨W.heap.size, 0, none⟩) 1 1) h.lt.2.1
  have hzz := (setCell_far W ⟨bs, 4, none⟩ (.slice (some ⟨W.heap.size, 0, none⟩) 1 1) rfl (show bs ≠ bz by have := h.lt; omega)).trans h.z
  have hz := h.sz
  generalize W.setCell ⟨bs, 4, none⟩ (.slice (some ⟨W.heap.size, 0, none⟩) 1 1) = W1 at *
  have hst : Stay B (W1.alloc (.cells #[.int .i64 y.op, .int .i64 y.n, .string y.nm, .slice ao y.kids.len cap] t)) (fun w2 => (ExL.cons y.op y.n y.nm y.kids .nil).At w2 w2.heap.size (some ⟨W.heap.size, 0, none⟩) 0) := by
    rw [← hs]
    exact stay_one (heap_alloc_new _ _) (by omega) hy.1 ((hy.2.next ha).next (abv_below (alloc_below _ _)))
  refine ⟨rf_alloc hr _, gr_alloc hgr _, h.lt, by simp; omega, (heap_alloc_old _ _ (Array.getElem?_eq_some_iff.1 hb).1).trans hb, (heap_alloc_old _ _ (Array.getElem?_eq_some_iff.1 hzz).1).trans hzz, ⟨h.ok.1, h.ok.2.1, h.ok.2.2.1, h.ok.2.2.2.1, by simp [ExL.len, maxLen], h.ok.2.2.2.2.2⟩, fun w2 h2 => ⟨hst w2 h2, (h.st w2 ((ha.trans (abv_below (alloc_below _ _))).trans h2)).2⟩⟩
theorem Pn.cell (h : Pn R w bz bs B W x s) {j : Nat} {u : Value} (hu : (StI.f x).toArray[j]? = some u) : W.cell? ⟨bs, j, none⟩ = some u := cellb h.blk hu
theorem Pn.free (h : Pn R w bz bs B W x s) (j : Nat) : W.frozen? ⟨bs, j, none⟩ = false := free_blk h.blk
end
/-- What a statement's reading leaves. -/
def StaR (R : Rp) (w : World) (q : Sx × St) (e : Ending) (w' : World) : Prop :=
  (∃ sl, e = .returned (stV q.1.h q.1.b q.1.e sl) ∧ StOk q.1.h q.1.b q.1.e ∧ Stay w.heap.size w' (StI.I ⟨q.1.h, q.1.b, q.1.e, sl⟩)) ∧ RfI w' R q.2 ∧ w.grownBy w' (some R.br)
/-- What a block's reading leaves. -/
def BlkR (R : Rp) (w : World) (q : StL × St) (e : Ending) (w' : World) : Prop :=
  (∃ ao cap, e = .returned (.slice ao q.1.len cap) ∧ q.1.len ≤ 5000 ∧ Stay w.heap.size w' (fun w2 => q.1.At w2 w2.heap.size ao 0)) ∧ RfI w' R q.2 ∧ w.grownBy w' (some R.br)
end Go.Proofs.YtommnhglgedflaaGreatDoor
end
