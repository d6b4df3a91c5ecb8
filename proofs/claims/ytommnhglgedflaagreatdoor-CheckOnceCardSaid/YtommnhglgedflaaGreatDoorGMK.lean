/-
  Contract of the checker's list.
  Contract of check.statements.
-/
import Derived.Test.YtommnhglgedflaaGreatDoorGMJ
import Derived.StillTailTactics
import Derived.IntWalk
section
set_option linter.unusedSimpArgs false
set_option linter.unusedVariables false
namespace Go.Proofs.YtommnhglgedflaaGreatDoor
open Go.RowKit
open Md
theorem StL.At.headB {w : World} {B : Nat} {h : StH} {b e r : StL} {ao : Option Addr} {k : Nat} (hat : (StL.cons h b e r).At w B ao k) : ∃ bl off s, ao = some ⟨bl, off, none⟩ ∧ bl < B ∧ StInB w B h b e s ∧
    w.cell? ⟨bl, off + k * 11, none⟩ = some (.int .i64 h.op) ∧ w.cell? ⟨bl, off + k * 11 + 1, none⟩ = some (.int .i64 h.line) ∧ w.cell? ⟨bl, off + k * 11 + 2, none⟩ = some (.string h.nm) ∧ w.cell? ⟨bl, off + k * 11 + 3, none⟩ = some (.string h.arg) ∧ w.cell? ⟨bl, off + k * 11 + 4, none⟩ = some (.slice s.aoi h.idx.len s.capi) ∧
    w.cell? ⟨bl, off + k * 11 + 5, none⟩ = some (.int .i64 h.xop) ∧ w.cell? ⟨bl, off + k * 11 + 6, none⟩ = some (.int .i64 h.xn) ∧ w.cell? ⟨bl, off + k * 11 + 7, none⟩ = some (.string h.xnm) ∧ w.cell? ⟨bl, off + k * 11 + 8, none⟩ = some (.slice s.aox h.xkids.len s.capx) ∧
    w.cell? ⟨bl, off + k * 11 + 9, none⟩ = some (.slice s.aob b.len s.capb) ∧ w.cell? ⟨bl, off + k * 11 + 10, none⟩ = some (.slice s.aoe e.len s.cape) ∧ r.At w B ao (k + 1) := by
  obtain ⟨⟨b, off, aoi, capi, aox, capx, aob, capb, aoe, cape, e, hB, c0, c1, c2, c3, c4, c5, c6, c7, c8, c9, c10, hok, h1, h2, h3, h4⟩, hr⟩ := hat
  exact ⟨b, off, ⟨aoi, capi, aox, capx, aob, capb, aoe, cape⟩, e, hB, ⟨hok, h1, h2, h3, h4⟩, c0, c1, c2, c3, c4, c5, c6, c7, c8, c9, c10, hr⟩
theorem bxC {w : World} {nb : Nat} {h : StH} {b e : StL} {s : Sl} {t : TypeId} {fr : Nat × Nat} (hb : w.heap[nb]? = some (.cells (stC h b e s).toArray t fr)) : w.cell? ⟨nb, 0, none⟩ = some (.int .i64 h.op) ∧ w.cell? ⟨nb, 1, none⟩ = some (.int .i64 h.line) ∧ w.cell? ⟨nb, 2, none⟩ = some (.string h.nm) ∧ w.cell? ⟨nb, 3, none⟩ = some (.string h.arg) ∧ w.cell? ⟨nb, 4, none⟩ = some (.slice s.aoi h.idx.len s.capi) ∧ w.cell? ⟨nb, 5, none⟩ = some (.int .i64 h.xop) ∧ w.cell? ⟨nb, 6, none⟩ = some (.int .i64 h.xn) ∧ w.cell? ⟨nb, 7, none⟩ = some (.string h.xnm) ∧ w.cell? ⟨nb, 8, none⟩ = some (.slice s.aox h.xkids.len s.capx) ∧ w.cell? ⟨nb, 9, none⟩ = some (.slice s.aob b.len s.capb) ∧ w.cell? ⟨nb, 10, none⟩ = some (.slice s.aoe e.len s.cape) :=
  ⟨(cell_blk hb (j := 0) rfl).2, (cell_blk hb (j := 1) rfl).2, (cell_blk hb (j := 2) rfl).2, (cell_blk hb (j := 3) rfl).2, (cell_blk hb (j := 4) rfl).2, (cell_blk hb (j := 5) rfl).2, (cell_blk hb (j := 6) rfl).2, (cell_blk hb (j := 7) rfl).2, (cell_blk hb (j := 8) rfl).2, (cell_blk hb (j := 9) rfl).2, (cell_blk hb (j := 10) rfl).2⟩
theorem ret2 {x y a b : Value} (h1 : x = a) (h2 : y = b) : Ending.returned (.tuple #[x, y]) = .returned (.tuple #[a, b]) := by rw [h1, h2]
theorem info_st : (Tryz.prog.info? 91).map (fun i => (i.zero, i.size, i.bytes)) = some (some (.agg #[.int .i64 0, .int .i64 0, .string ⟨#[]⟩, .string ⟨#[]⟩, .slice none 0 0, .int .i64 0, .int .i64 0, .string ⟨#[]⟩, .slice none 0 0, .slice none 0 0, .slice none 0 0]), 11, 176) := by kernel_rfl
def zSt : Array Value := #[.int .i64 0, .int .i64 0, .string ⟨#[]⟩, .string ⟨#[]⟩, .slice none 0 0, .int .i64 0, .int .i64 0, .string ⟨#[]⟩, .slice none 0 0, .slice none 0 0, .slice none 0 0]
theorem st_info : ∃ i0, Tryz.prog.info? 91 = some i0 ∧ i0.zero = some (.agg zSt) ∧ i0.size = 11 ∧ i0.bytes = 176 := info_parts info_st
theorem st_size : (Tryz.prog.info? 91).map (·.size) = some 11 := by kernel_rfl
theorem ix0 (a b : Option Addr) (l1 c1 l2 c2 : Nat) (w : World) : (Instr.index 165 (.agg #[.slice a l1 c1, .slice b l2 c2]) (.int .i64 0)).run Tryz.prog w = .ok (.slice a l1 c1) w := by kernel_rfl
theorem ix1 (a b : Option Addr) (l1 c1 l2 c2 : Nat) (w : World) : (Instr.index 165 (.agg #[.slice a l1 c1, .slice b l2 c2]) (.int .i64 1)).run Tryz.prog w = .ok (.slice b l2 c2) w := by kernel_rfl
/-- What is left to be done of a statement and of those behind it: its body (0), its other body (1), the rest (2). -/
def ckT1 (p : Pr) (j : Nat) (tn t0n : ByteArray) (e R ar ar' : StL) (f g : List (List UInt8)) : CkR := if (ckL p j tn t0n e ar' f g).err != 0 then ckL p j tn t0n e ar' f g else ckL p j tn t0n R ar (ckL p j tn t0n e ar' f g).f (ckL p j tn t0n e ar' f g).g
def ckT0 (p : Pr) (j : Nat) (tn t0n : ByteArray) (b e R ar ar' : StL) (f g : List (List UInt8)) : CkR := if (ckL p j tn t0n b ar' f g).err != 0 then ckL p j tn t0n b ar' f g else ckT1 p j tn t0n e R ar ar' (ckL p j tn t0n b ar' f g).f (ckL p j tn t0n b ar' f g).g
def ckT (p : Pr) (j : Nat) (tn t0n : ByteArray) (b e R ar ar' : StL) (k : Nat) (f g : List (List UInt8)) : CkR := if k = 0 then ckT0 p j tn t0n b e R ar ar' f g else if k = 1 then ckT1 p j tn t0n e R ar ar' f g else ckL p j tn t0n R ar f g
/-- What a list leaves. -/
def CkLP (w : World) (L : Lay) (p : Pr) (aoD aoT : Option Addr) (capD capT : Nat) (i : Int) (A : List Fr) (v : Value) (r : CkR) (e : Ending) (w' : World) : Prop :=
  e = .returned (.tuple #[.int .i64 r.err, .int .i64 r.line]) ∧ Kp L v w w' ∧ (r.err = 0 → Few (tNames p) r.f ∧ Few (dNames p) r.g ∧ ∃ v', OwnR w v v' ∧ CkI w' L p aoD aoT capD capT i A (mem r.f) (mem r.g) r.f.length r.g.length v')
def CkSays (L : Lay) (p : Pr) (aoD aoT : Option Addr) (capD capT : Nat) (j : Nat) (t t0 : Th) (l : StL) : Prop :=
  ∀ (w : World) (ao : Option Addr) (cap : Nat) (A : List Fr) (f g : List (List UInt8)) (v : Value), l.len ≤ maxLen → l.At w L.B0 ao 0 → A.length ≤ 6 → Few (tNames p) f → Few (dNames p) g → CkI w L p aoD aoT capD capT (j : Int) A (mem f) (mem g) f.length g.length v →
    Calls Tryz.prog 120 #[.pointer (some ⟨L.bc, 0, none⟩), .slice ao l.len cap] w (CkLP w L p aoD aoT capD capT (j : Int) A v (ckL p j t.nm t0.nm l (frL A) f g))
set_option maxHeartbeats 8000000 in
set_option maxRecDepth 100000 in
theorem ckList_of (L : Lay) (p : Pr) (aoD aoT : Option Addr) (capD capT : Nat) (j : Nat) (t t0 : Th) (r r0 : List Th) (hd : p.ts.drop j = t :: r) (hts : p.ts = t0 :: r0) (hj : I64 (j : Int)) (hT : p.ts.length < maxLen) (hD : p.ds.length < maxLen) (l : StL) (hall : l.All fun _ b e => CkSays L p aoD aoT capD capT j t t0 b ∧ CkSays L p aoD aoT capD capT j t t0 e) : CkSays L p aoD aoT capD capT j t t0 l := by
  intro w ao cap A f g v hl hat hA hf hg hI
  generalize hres : ckL p j t.nm t0.nm l (frL A) f g = res
  have HR := Lib.hid hres
  have HAT := Lib.hid hat
  have HAL := Lib.hid hall
  have HF := Lib.hid hf
  have HG := Lib.hid hg
  have HI := Lib.hid hI
  unfold maxLen at hl
  have HA := Lib.hid hA
  clear hres hat hall hf hg hI hA
  go_enter Tryz.func120, Tryz.ntmps120
  go_wp2_with fail
  go_loopw [7, 8, 10, 11, 12, 15, 51, 52] (fun _ _ _ _ _ s _ _ wr => ∃ (k : Nat) (R : StL) (f1 g1 : List (List UInt8)) (v1 : Value), s = .int .i64 k ∧ k + R.len = l.len ∧ res = ckL p j t.nm t0.nm R (frL A) f1 g1 ∧ (R.All fun _ b e => CkSays L p aoD aoT capD capT j t t0 b ∧ CkSays L p aoD aoT capD capT j t t0 e) ∧ R.At wr L.B0 ao k ∧ Few (tNames p) f1 ∧ Few (dNames p) g1 ∧ Kp L v w wr ∧ OwnR w v v1 ∧ CkI wr L p aoD aoT capD capT (j : Int) A (mem f1) (mem g1) f1.length g1.length v1) (fun _ _ _ _ _ s _ _ _ => l.len - (intOf s).toNat)
  case atStart => exact ⟨0, l, f, g, v, rfl, by simp, HR.out.symm, HAL.out, HAT.out, HF.out, HG.out, Kp.refl _ _ _, .inl rfl, HI.out⟩
  case round =>
    obtain ⟨k, R, f1, g1, v1, rfl, hlen, heq, hall, hrow, hf1, hg1, hKp, hOw, hI⟩ := hrel
    have HE := Lib.hid heq
    have HK := Lib.hid hKp
    have HO := Lib.hid hOw
    clear heq hKp hOw
    cases R with
    | nil =>
      obtain rfl : k = l.len := by simpa [StL.len] using hlen
      have HX : Hid (CkLP w L p aoD aoT capD capT (j : Int) A v res (.returned (.tuple #[.int .i64 0, .int .i64 0])) wr) := Lib.hid (by
        rw [HE.out]; exact ⟨rfl, HK.out, fun _ => ⟨hf1, hg1, v1, HO.out, hI⟩⟩)
      clear hI hall hrow hf1 hg1 HE
      go_wp2_with fail
      go_ret2
      exact HX.out
    | cons h b e R =>
      obtain ⟨bl, off, s, rfl, hbl, hin, x0, x1, x2, x3, x4, x5, x6, x7, x8, x9, x10, hrest⟩ := StL.At.headB hrow
      have hkl : k < l.len := by simp only [StL.len] at hlen; omega
      obtain ⟨hsay, hallr⟩ := hall
      obtain ⟨aoA, capA, rfl, -⟩ := hI.form
      have HSAY := Lib.hid hsay
      have HALR := Lib.hid hallr
      have HF1 := Lib.hid hf1
      have HG1 := Lib.hid hg1
      have HIN := Lib.hid hin
      have HRS := Lib.hid hrest
      have HIR := Lib.hid hI
      clear hrow hin hsay hallr hf1 hg1 hrest hI
      go_upto_region 4 with fail
      obtain ⟨nb, hnb⟩ : ∃ n, wr.heap.size = n := ⟨_, rfl⟩
      generalize hW2 : World.alloc wr _ = W2
      have HBX : Hid (W2.heap[nb]? = some (.cells (stC h b e s).toArray 91 (0, 0))) := Lib.hid (by rw [← hW2, ← hnb]; exact heap_alloc_new _ _)
      have HAB : Hid (Below wr.heap.size wr W2) := Lib.hid (by rw [← hW2]; exact alloc_below _ _)
      have HI2 := Lib.hid (HIR.out.below HAB.out)
      have HK2 : Hid (Kp L v w W2) := Lib.hid (HK.out.trans (.inl HO.out) (Kp.of_below HAB.out))
      have HNB : Hid (L.B1 ≤ nb ∧ nb < W2.heap.size) := Lib.hid ⟨by rw [← hnb]; exact HIR.out.sz, (Array.getElem?_eq_some_iff.1 HBX.out).1⟩
      have HON : Hid (Value.ownBlock (.slice aoA A.length capA) ≠ some nb) := Lib.hid (fun e => by
        have := HIR.out.row.lt _ e; omega)
      have HOZ : Hid (w.heap.size ≤ W2.heap.size) := Lib.hid HK2.out.size
      rw [hnb]
      clear hW2 hnb x0 x1 x2 x3 x4 x5 x6 x7 x8 x9 x10 hbl
      have c3 : W2.cell? ⟨L.bc, 3, none⟩ = some (.slice aoA A.length capA) := (cell_blk HI2.out.blk (j := 3) rfl).2
      have hA6 := HA.out
      obtain ⟨y0, y1, y2, y3, y4, y5, y6, y7, y8, y9, y10⟩ := bxC HBX.out
      by_cases hA5 : A.length = 6
      · have HX : Hid (res = ⟨2, h.line, f1, g1⟩) := Lib.hid (HE.out.trans (by rw [ckL, if_pos (by rw [frL_len, hA5]; rfl)]))
        rw [hA5] at c3
        clear hA6
        go_wp2_with fail
        go_quiet (fail)
        go_wp2_with fail
        go_ret2
        refine ⟨ret2 (by rw [HX.out]; rfl) (by rw [HX.out]; rfl), HK2.out.trans (.inr rfl) (v1 := .slice none 0 0) (Kp.of_below (below_drewN (Below.refl _ _) _)), fun h0 => ?_⟩
        rw [HX.out] at h0; cases h0
      · have hA' : A.length < 6 := by omega
        have hdec : decide (6 < (A.length : Int) + 1) = false := by rw [decide_eq_false_iff_not]; omega
        go_wp2_with fail
        refine (ckStmt_any W2 L p aoD aoT capD capT j A (mem f1) (mem g1) f1.length g1.length _ t t0 r r0 hd hts hj (by unfold maxLen; omega) (Nat.lt_of_le_of_lt HF1.out.le (by simpa [tNames] using hT)) (Nat.lt_of_le_of_lt HG1.out.le (by simpa [dNames] using hD)) HI2.out h b e s (HIN.out.below (HAB.out.mono HIR.out.b0))).mono ?_
        rintro e' w3 ⟨rfl, hK3, hI3⟩
        rw [fS_mem, gS_mem, nS_len, nS_len] at hI3
        have HBX3 : Hid (w3.heap[nb]? = some (.cells (stC h b e s).toArray 91 (0, 0))) := Lib.hid ((hK3.far HNB.out.2 HNB.out.1 (by simp [Value.ownBlock])).trans HBX.out)
        have HI3 := Lib.hid hI3
        have HK3 : Hid (Kp L v w w3) := Lib.hid (HK2.out.trans (.inr rfl) hK3)
        have HK23 := Lib.hid hK3
        have hnb3 : nb < w3.heap.size := (Array.getElem?_eq_some_iff.1 HBX3.out).1
        clear hK3 hI3 y0 y1 y2 y3 y4 y5 y6 y7 y8 y9 y10 c3 hdec hA5
        obtain ⟨y0, y1, y2, y3, y4, y5, y6, y7, y8, y9, y10⟩ := bxC HBX3.out
        have c3 : w3.cell? ⟨L.bc, 3, none⟩ = some (.slice aoA A.length capA) := (cell_blk HI3.out.blk (j := 3) rfl).2
        have HE2 : Hid (res = ckL p j t.nm t0.nm (StL.cons h b e R) (frL A) f1 g1) := HE
        have HSE : Hid (stE p j t.nm t0.nm (frL A) (mem f1) (mem g1) h = 0 → Few (tNames p) (fL 12 h f1) ∧ Few (dNames p) (fL 14 h g1)) := Lib.hid (fun h0 => ⟨few_f HF1.out h0, few_g HG1.out h0⟩)
        have HU : Hid (ckL p j t.nm t0.nm (StL.cons h b e R) (frL A) f1 g1 = if stE p j t.nm t0.nm (frL A) (mem f1) (mem g1) h != 0 then ⟨stE p j t.nm t0.nm (frL A) (mem f1) (mem g1) h, h.line, f1, g1⟩ else ckT p j t.nm t0.nm b e R (frL A) ((frL A).app (.cons h b e .nil)) 0 (fL 12 h f1) (fL 14 h g1)) := Lib.hid (by
          rw [ckL, if_neg (by rw [frL_len, decide_eq_true_iff]; omega)]; rfl)
        generalize stE p j t.nm t0.nm (frL A) (mem f1) (mem g1) h = x at *
        cases hx : (x != 0)
        · have HT : Hid (res = ckT p j t.nm t0.nm b e R (frL A) ((frL A).app (.cons h b e .nil)) 0 (fL 12 h f1) (fL 14 h g1)) := Lib.hid (HE2.out.trans (HU.out.trans (by rw [hx]; rfl)))
          have HFG := Lib.hid (HSE.out (by simpa using hx))
          clear HU HSE HE HE2
          go_upto_region 9 with fail
          have Y0 : ∀ w', Below w3.heap.size w3 w' → w'.cell? ⟨nb, 0, none⟩ = some (.int .i64 h.op) := fun w' hb => (hb.cell (p := ⟨nb, 0, none⟩) hnb3).trans y0
          have Y1 : ∀ w', Below w3.heap.size w3 w' → w'.cell? ⟨nb, 1, none⟩ = some (.int .i64 h.line) := fun w' hb => (hb.cell (p := ⟨nb, 1, none⟩) hnb3).trans y1
          have Y2 : ∀ w', Below w3.heap.size w3 w' → w'.cell? ⟨nb, 2, none⟩ = some (.string h.nm) := fun w' hb => (hb.cell (p := ⟨nb, 2, none⟩) hnb3).trans y2
          have Y3 : ∀ w', Below w3.heap.size w3 w' → w'.cell? ⟨nb, 3, none⟩ = some (.string h.arg) := fun w' hb => (hb.cell (p := ⟨nb, 3, none⟩) hnb3).trans y3
          have Y4 : ∀ w', Below w3.heap.size w3 w' → w'.cell? ⟨nb, 4, none⟩ = some (.slice s.aoi h.idx.len s.capi) := fun w' hb => (hb.cell (p := ⟨nb, 4, none⟩) hnb3).trans y4
          have Y5 : ∀ w', Below w3.heap.size w3 w' → w'.cell? ⟨nb, 5, none⟩ = some (.int .i64 h.xop) := fun w' hb => (hb.cell (p := ⟨nb, 5, none⟩) hnb3).trans y5
          have Y6 : ∀ w', Below w3.heap.size w3 w' → w'.cell? ⟨nb, 6, none⟩ = some (.int .i64 h.xn) := fun w' hb => (hb.cell (p := ⟨nb, 6, none⟩) hnb3).trans y6
          have Y7 : ∀ w', Below w3.heap.size w3 w' → w'.cell? ⟨nb, 7, none⟩ = some (.string h.xnm) := fun w' hb => (hb.cell (p := ⟨nb, 7, none⟩) hnb3).trans y7
          have Y8 : ∀ w', Below w3.heap.size w3 w' → w'.cell? ⟨nb, 8, none⟩ = some (.slice s.aox h.xkids.len s.capx) := fun w' hb => (hb.cell (p := ⟨nb, 8, none⟩) hnb3).trans y8
          have Y9 : ∀ w', Below w3.heap.size w3 w' → w'.cell? ⟨nb, 9, none⟩ = some (.slice s.aob b.len s.capb) := fun w' hb => (hb.cell (p := ⟨nb, 9, none⟩) hnb3).trans y9
          have Y10 : ∀ w', Below w3.heap.size w3 w' → w'.cell? ⟨nb, 10, none⟩ = some (.slice s.aoe e.len s.cape) := fun w' hb => (hb.cell (p := ⟨nb, 10, none⟩) hnb3).trans y10
          have L3 : ∀ w', Below w3.heap.size w3 w' → w'.cell? ⟨L.bc, 3, none⟩ = some (.slice aoA A.length capA) := fun w' hb => (hb.cell (p := ⟨L.bc, 3, none⟩) (by have := HI3.out.sz; have := L.c1; show L.bc < _; omega)).trans c3
          clear y0 y1 y2 y3 y4 y5 y6 y7 y8 y9 y10 c3
          refine wpAny_start (by kernel_rfl) rfl ?_
          refine wpAny_phase 0 7 [] [[], [0], [0, 1], [0, 1, 2], [], [0, 1, 2, 3], [], [0, 1, 2, 3, 4, 5, 6], [0, 1, 2, 3, 4, 5, 6, 7], [0, 1, 2, 3, 4, 5, 6, 7, 8], [0, 1, 2, 3, 4, 5, 6, 7], [0, 1, 2, 3, 4, 5, 6, 7, 10], [0, 1, 2, 3, 4, 5, 6, 7, 10, 11]] [[], [], [], [], [], [], []] (fun _ w' => Below w3.heap.size w3 w') (fun w w' => Below w.heap.size w w') [36, 37, 38, 39, 40, 41, 42] rfl rfl (by rfl) (by kernel_rfl) (by kernel_rfl) (by kernel_rfl) (by kernel_rfl) (by kernel_rfl) (by rfl) (fun _ => Below.refl _ _) (by rfl) (below_drewN (Below.refl _ _) 1) ?_
          simp only [List.take_succ_cons, List.take_zero, List.drop_zero, List.drop_succ_cons, dumE, List.map_cons, List.map_nil]
          apply ObP.step
          case hobl =>
            intro c A w' hok hC hO hD
            have e0 := hO 0 (by rfl)
            simp [Act.eval] at e0
            simp [depsL, IsV, slotv, Act.eval, Region.binds] at hD
            simp [go_sem, gd, Oper.wp, hD, e0]
            exact WPost.mk (Below.refl _ _) hC (IsV.mk _ _)
          apply ObP.step
          case hobl =>
            intro c A w' hok hC hO hD
            simp [depsL, IsV, slotv, Act.eval, Region.binds] at hD
            simp [go_sem, gd, Oper.wp, hD]
            exact WPost.mk (Below.refl _ _) hC (IsV.mk _ _)
          apply ObP.step
          case hobl =>
            intro c A w' hok hC hO hD
            simp [depsL, IsV, slotv, Act.eval, Region.binds] at hD
            simp [go_sem, gd, Oper.wp, hD]
            exact WPost.mk (Below.refl _ _) hC (IsV.mk _ _)
          apply ObP.step
          case hobl =>
            intro c A w' hok hC hO hD
            simp [depsL, IsV, slotv, Act.eval, Region.binds] at hD
            simp [go_sem, gd, Oper.wp, hD, L3, hC]
            exact WPost.mk (Below.refl _ _) hC (IsV.mk _ _)
          apply ObP.step
          case hobl =>
            intro c A w' hok hC hO hD
            have e7 := hO 7 (by rfl)
            simp [Act.eval] at e7
            simp [depsL, IsV, slotv, Act.eval, Region.binds] at hD
            simp [go_sem, gd, Oper.wp, hD, e7, Y0, Y1, Y2, Y3, Y4, Y5, Y6, Y7, Y8, Y9, Y10, hC]
            exact WPost.mk (Below.refl _ _) hC (IsV.mk _ _)
          apply ObP.step
          case hobl =>
            intro c A w' hok hC hO hD
            simp [depsL, IsV, slotv, Act.eval, Region.binds] at hD
            simp [go_sem, gd, Oper.wp, hD]
            exact WPost.mk (Below.refl _ _) hC (IsV.mk _ _)
          refine ObP.some (fun v w' => ∃ bb, v = .slice (some ⟨bb, 0, none⟩) 1 1 ∧ w'.heap[bb]? = some (.cells zSt 91 (0, 0))) ?_ ?_ ?_
          · rintro v w w' hle ⟨bb, rfl, hbb⟩
            exact ⟨bb, rfl, (hle.block bb (Array.getElem?_eq_some_iff.1 hbb).1).trans hbb⟩
          · intro c A w' hok hC hO hD
            simp [go_sem, gd, Oper.wp]
            exact WPost.mk (d := _) (v := .slice (some ⟨_, 0, none⟩) 1 1) (alloc_below _ _) (hC.trans ((alloc_below _ _).mono hC.size)) ⟨_, rfl, heap_alloc_new _ _⟩
          simp only [List.nil_append, List.cons_append]
          refine ObP.done ?_
          intro wz hCz
          simp only [List.drop_zero]
          intro v0 h0 v1 h1 v2 h2 v3 h3 v4 h4 v5 h5 v6 h6
          have h0' : v0 = _ := h0
          have h1' : v1 = _ := h1
          have h2' : v2 = _ := h2
          have h3' : v3 = _ := h3
          have h4' : v4 = _ := h4
          have h5' : v5 = _ := h5
          subst h0' h1' h2' h3' h4' h5'
          obtain ⟨bb, rfl, hbb⟩ := h6
          clear h0 h1 h2 h3 h4 h5
          refine AllVals.nil ?_
          go_simp
          refine wpAny_one 7 [[], [0], [0, 1], [0, 1, 2], [], [0, 1, 2, 3], [], [0, 1, 2, 3, 4, 5, 6], [0, 1, 2, 3, 4, 5, 6, 7], [0, 1, 2, 3, 4, 5, 6, 7, 8], [0, 1, 2, 3, 4, 5, 6, 7], [0, 1, 2, 3, 4, 5, 6, 7, 10], [0, 1, 2, 3, 4, 5, 6, 7, 10, 11]] rfl rfl rfl rfl rfl (by kernel_rfl) (by kernel_rfl) (by kernel_rfl) ?_
          obtain ⟨i0, hi0, hz0, hz1, hz2⟩ := st_info
          have HIz := Lib.hid (HI3.out.below hCz)
          refine wp_append_lies wz _ _ _ (by rfl) L.B1 91 i0 _ 11 176 Tryz.underlying61 hi0 hz0 hz1 hz2 (by rfl) (by omega) (.slice aoA A.length capA) A.length (frC A) (by rfl) HIz.out.row ⟨bb, 0, none⟩ 1 1 zSt.toList (by rfl) (by rfl) (World.news_of_block hbb) (by decide) (by omega) (by unfold maxLen; omega) (by omega) HIz.out.sz wz.heap.size rfl ?_
          intro g' cap' w4 hown4 hgrow4 hat4 hlt4
          clear hi0 hz0 hz1 hz2 hbb Y0 Y1 Y2 Y3 Y4 Y5 Y6 Y7 Y8 Y9 Y10 L3
          have HPU := Lib.hid (HI3.out.push ⟨h, b, e, s⟩ (HIN.out.below ((HAB.out.mono HIR.out.b0).trans (HK23.out.below HI2.out.b0 (by simp [Value.ownBlock])))) hCz hown4 hgrow4 hat4)
          have hgb := (hown4.lt g' rfl).1
          have HB4 : Hid (w4.heap[L.bc]? = some (.cells (ckV p aoD aoT capD capT (j : Int) (.slice aoA A.length capA) L.bs L.bt) 146 (0, 0))) := Lib.hid (by
            rw [hgrow4.block _ (by have := HIz.out.sz; have := L.c1; omega) (fun e' => by
              have := HIz.out.own_ne L.c1
              rcases this with h1 | h1
              · rw [h1] at e'; cases e'
              · exact h1 e'.symm)]
            exact HIz.out.blk)
          have HTH := Lib.hid (owns_there hown4)
          have hgbc : g' ≠ L.bc := by have := L.c1; omega
          clear hown4 hgrow4 hat4 hlt4 hgb
          go_simp
          refine wpAny_phase 8 13 [9, 12] [[], [0], [0, 1], [0, 1, 2], [], [0, 1, 2, 3], [], [0, 1, 2, 3, 4, 5, 6], [0, 1, 2, 3, 4, 5, 6, 7], [0, 1, 2, 3, 4, 5, 6, 7, 8], [0, 1, 2, 3, 4, 5, 6, 7], [0, 1, 2, 3, 4, 5, 6, 7, 10], [0, 1, 2, 3, 4, 5, 6, 7, 10, 11]] [[some false, none], [some false, none], [none, some false], [none, some false], [none, some false]] (PC w4 g' (A.length * 11) (stC h b e s) ⟨L.bc, 3, none⟩ (.slice (some ⟨g', 0, none⟩) (A.length + 1) cap')) (fun _ _ => True) [44, 45, 46] rfl rfl (by rfl) (by kernel_rfl) (by kernel_rfl) (by kernel_rfl) (by kernel_rfl) (by kernel_rfl) (by rfl) (fun _ => trivial) (by rfl) rfl ?_
          simp only [List.take_succ_cons, List.take_zero, List.drop_zero, List.drop_succ_cons, dumE, List.map_cons, List.map_nil]
          have hA0 : (0 : Int) ≤ (A.length : Int) := by omega
          have hA1 : (A.length : Int) < (A.length : Int) + 1 := by omega
          apply ObP.step
          case hobl =>
            intro c A w' hok hC hO hD
            have e43 := hO 43 (by rfl)
            have e41 := hO 41 (by rfl)
            simp [Act.eval] at e43 e41
            simp [depsL, IsV, slotv, Act.eval, Region.binds] at hD
            simp [go_sem, gd, Oper.wp, hD, e43, e41, hA1]
            exact WPost.mk trivial (PC.skip (by rfl) (by rfl) hC) (IsV.mk _ _)
          refine ObP.some (fun _ _ => True) (fun _ _ _ _ _ => trivial) ?_ ?_
          · intro c A' w' hok hC hO hD
            obtain ⟨x, y, rfl⟩ := hC.bits
            obtain ⟨rfl, -⟩ := hok
            have e40 := hO 40 (by rfl)
            simp [depsL, IsV, slotv, Act.eval, Region.binds] at hD
            simp only [gd, if_true]
            refine wp_store_mid _ _ _ (by rfl) g' (A.length * 11) (stC h b e s).toArray (by simp [Act.eval, hD]) (e40.trans (by rfl)) (there_of_block HTH.out (hC.elt_blk hgbc)) st_size (by simp [stC, Value.oneCell']) ?_
            exact WPost.mk0 trivial (PC.elt hgbc (by rfl) (by rfl) hC) trivial
          simp only [List.nil_append, List.cons_append]
          apply ObP.step
          case hobl =>
            intro c A w' hok hC hO hD
            have e36 := hO 36 (by rfl)
            simp [Act.eval] at e36
            simp [depsL, IsV, slotv, Act.eval, Region.binds] at hD
            simp [go_sem, gd, Oper.wp, hD, e36]
            exact WPost.mk trivial (PC.skip (by rfl) (by rfl) hC) (IsV.mk _ _)
          apply ObP.step
          case hobl =>
            intro c A w' hok hC hO hD
            simp [depsL, IsV, slotv, Act.eval, Region.binds] at hD
            simp [go_sem, gd, Oper.wp, hD]
            exact WPost.mk trivial (PC.skip (by rfl) (by rfl) hC) (IsV.mk _ _)
          refine ObP.some (fun _ _ => True) (fun _ _ _ _ _ => trivial) ?_ ?_
          · intro c A' w' hok hC hO hD
            obtain ⟨x, y, rfl⟩ := hC.bits
            obtain ⟨rfl, -⟩ := hok
            have e43 := hO 43 (by rfl)
            simp [Act.eval] at e43
            simp [depsL, IsV, slotv, Act.eval, Region.binds] at hD
            have hbk0 : w'.heap[L.bc]? = w4.heap[L.bc]? := PC.fld_blk (a := ⟨L.bc, 3, none⟩) hgbc hC (Array.getElem?_eq_some_iff.1 HB4.out).1
            have hbk := hbk0.trans HB4.out
            have hcl : w'.cell? ⟨L.bc, 3, none⟩ = some (.slice aoA A.length capA) := (cell_blk hbk (j := 3) rfl).2
            have hfr : w'.frozen? ⟨L.bc, 3, none⟩ = false := free_blk hbk
            simp [go_sem, gd, Oper.wp, hD, e43, hcl, hfr]
            exact WPost.mk0 (v := undef) trivial (PC.fld (by rfl) (by rfl) hC) trivial
          simp only [List.nil_append, List.cons_append, List.drop_succ_cons, List.drop_zero]
          refine ObP.done ?_
          intro w5 hC5
          simp only [List.drop_succ_cons, List.drop_zero]
          intro v0 h0 v1 h1 v2 h2 v3 h3 v4 h4
          clear h0 h1 h2 h3 h4
          refine AllVals.nil ?_
          refine wpAny_end rfl ?_
          have HW5 : Hid (w5 = (w4.setCells g' (A.length * 11) (stC h b e s)).setCell ⟨L.bc, 3, none⟩ (.slice (some ⟨g', 0, none⟩) (A.length + 1) cap')) := Lib.hid hC5
          rw [← HW5.out] at HPU
          have HI5 := Lib.hid HPU.out.1
          have HK5 : Hid (Kp L v w w5) := Lib.hid (HK3.out.trans (.inl (HO.out.trans (.inl rfl) (Nat.le_refl _))) HPU.out.2.1)
          have HK35 := Lib.hid HPU.out.2.1
          have HO35 := Lib.hid HPU.out.2.2
          clear hC5 HW5 HPU HTH HB4 hA0 hA1 hgbc
          go_simp
          have HBX5 : Hid (w5.heap[nb]? = some (.cells (stC h b e s).toArray 91 (0, 0))) := Lib.hid ((HK35.out.far hnb3 HNB.out.1 HON.out).trans HBX3.out)
          have HON5 := Lib.hid (HO35.out.ne hnb3 HON.out)
          have HO5 : Hid (OwnR w v (.slice (some ⟨g', 0, none⟩) (A.length + 1) cap')) := Lib.hid (HO.out.trans HO35.out HK3.out.size)
          have HR5 : Hid (StL.At w5 L.B0 R (some ⟨bl, off, none⟩) (k + 1)) := Lib.hid (HRS.out.below (((HAB.out.mono HIR.out.b0).trans (HK23.out.below HI2.out.b0 (by simp [Value.ownBlock]))).trans (HK35.out.below HI3.out.b0 (fun q hq => (HI3.out.row.lt q hq).1))))
          have HBL : Hid (b.len ≤ maxLen ∧ e.len ≤ maxLen) := Lib.hid HIN.out.1.2.2.2.2.2.2
          obtain ⟨-, -, -, -, -, -, -, -, -, y9, y10⟩ := bxC HBX5.out
          clear hx hnb3 HIz hCz HI3 HK3 HK23 HBX3 HK35 HO35 HON HI2 HK2 HBX HAB HIR HIN HRS HO HK HF1 HG1 HF HG HI HAT
          go_wp2_with fail
          go_loopw [10, 11, 12, 52] (fun _ _ _ s52 wq => ∃ (kk : Nat) (f2 g2 : List (List UInt8)) (v2 : Value), s52 = .int .i64 kk ∧ kk ≤ 2 ∧ res = ckT p j t.nm t0.nm b e R (frL A) ((frL A).app (.cons h b e .nil)) kk f2 g2 ∧ Few (tNames p) f2 ∧ Few (dNames p) g2 ∧ Kp L v w wq ∧ OwnR w v v2 ∧ v2.ownBlock ≠ some nb ∧ wq.heap[nb]? = some (.cells (stC h b e s).toArray 91 (0, 0)) ∧ R.At wq L.B0 (some ⟨bl, off, none⟩) (k + 1) ∧ CkI wq L p aoD aoT capD capT (j : Int) (A ++ [⟨h, b, e, s⟩]) (mem f2) (mem g2) f2.length g2.length v2) (fun _ _ _ s52 _ => 2 - (intOf s52).toNat)
          case atStart => exact ⟨0, _, _, _, rfl, by omega, HT.out, HFG.out.1, HFG.out.2, HK5.out, HO5.out, HON5.out, HBX5.out, HR5.out, HI5.out⟩
          case round =>
            obtain ⟨kk, f2, g2, v2, rfl, hkk, heq2, hf2, hg2, hK6, hO6, hON6, hBX6, hR6, hI6⟩ := hrel
            clear y9 y10
            have HT6 := Lib.hid heq2
            have HF2 := Lib.hid hf2
            have HG2 := Lib.hid hg2
            have HK6 := Lib.hid hK6
            have HO6 := Lib.hid hO6
            have HON6 := Lib.hid hON6
            have HBX6 := Lib.hid hBX6
            have HR6 := Lib.hid hR6
            have HI6 := Lib.hid hI6
            have HIS := Lib.hid (hI6.frs ⟨h, b, e, s⟩ (by simp))
            clear heq2 hf2 hg2 hK6 hO6 hON6 hBX6 hR6 hI6 HT HFG HK5 HO5 HON5 HBX5 HR5 HI5
            have hk3 : kk = 0 ∨ kk = 1 ∨ kk = 2 := by omega
            have ixa := ix0 s.aob s.aoe b.len s.capb e.len s.cape
            have ixb := ix1 s.aob s.aoe b.len s.capb e.len s.cape
            rcases hk3 with rfl | rfl | rfl
            · have HC6 : Hid (res = if (ckL p j t.nm t0.nm b (frL (A ++ [⟨h, b, e, s⟩])) f2 g2).err != 0 then ckL p j t.nm t0.nm b (frL (A ++ [⟨h, b, e, s⟩])) f2 g2 else ckT1 p j t.nm t0.nm e R (frL A) (frL (A ++ [⟨h, b, e, s⟩])) (ckL p j t.nm t0.nm b (frL (A ++ [⟨h, b, e, s⟩])) f2 g2).f (ckL p j t.nm t0.nm b (frL (A ++ [⟨h, b, e, s⟩])) f2 g2).g) := Lib.hid (by rw [frL_snoc]; exact HT6.out)
              clear HT6
              go_wp2_with fail
              refine (HSAY.out.1 _ s.aob s.capb (A ++ [⟨h, b, e, s⟩]) f2 g2 v2 HBL.out.1 HIS.out.2.2.2.1 (by simp; omega) HF2.out HG2.out HI6.out).mono ?_
              rintro e' w7 ⟨rfl, hK7, hq7⟩
              generalize ckL p j t.nm t0.nm b (frL (A ++ [⟨h, b, e, s⟩])) f2 g2 = r1 at *
              have HK7 : Hid (Kp L v w w7) := Lib.hid (HK6.out.trans (.inl HO6.out) hK7)
              have HQ7 := Lib.hid hq7
              have HB7 : Hid (w7.heap[nb]? = some (.cells (stC h b e s).toArray 91 (0, 0))) := Lib.hid ((hK7.far (Array.getElem?_eq_some_iff.1 HBX6.out).1 HNB.out.1 HON6.out).trans HBX6.out)
              have HR7 : Hid (R.At w7 L.B0 (some ⟨bl, off, none⟩) (k + 1)) := Lib.hid (HR6.out.below (hK7.below HI6.out.b0 (fun q hq => (HI6.out.row.lt q hq).1)))
              clear hK7 hq7
              cases hr1 : (r1.err != 0)
              · have HT7 : Hid (res = ckT p j t.nm t0.nm b e R (frL A) ((frL A).app (.cons h b e .nil)) 1 r1.f r1.g) := Lib.hid (HC6.out.trans ((if_neg (by rw [hr1]; decide)).trans (by first | rfl | (simp only [frL_snoc]; rfl))))
                obtain ⟨hf7, hg7, v7, hO7, hI7⟩ := HQ7.out (by simpa using hr1)
                have HW7 := Lib.hid (And.intro hf7 (And.intro hg7 (And.intro hO7 hI7)))
                clear hf7 hg7 hO7 hI7 HQ7 HC6
                go_wp2_with fail
                go_roundw
                case rel => exact ⟨1, r1.f, r1.g, v7, rfl, by omega, HT7.out, HW7.out.1, HW7.out.2.1, HK7.out, HO6.out.trans HW7.out.2.2.1 HK6.out.size, HW7.out.2.2.1.ne (Array.getElem?_eq_some_iff.1 HBX6.out).1 HON6.out, HB7.out, HR7.out, HW7.out.2.2.2⟩
                case measure => simp [intOf]
              · have HX7 : Hid (res = r1) := Lib.hid (HC6.out.trans (if_pos hr1))
                have HX0 : Hid (r1.err ≠ 0) := Lib.hid (by simpa using hr1)
                clear HC6 HQ7
                go_wp2_with fail
                go_ret2
                refine ⟨ret2 (by rw [HX7.out]; rfl) (by rw [HX7.out]; rfl), HK7.out, fun h0 => ?_⟩
                rw [HX7.out] at h0; exact (HX0.out h0).elim
            · have HC6 : Hid (res = if (ckL p j t.nm t0.nm e (frL (A ++ [⟨h, b, e, s⟩])) f2 g2).err != 0 then ckL p j t.nm t0.nm e (frL (A ++ [⟨h, b, e, s⟩])) f2 g2 else ckL p j t.nm t0.nm R (frL A) (ckL p j t.nm t0.nm e (frL (A ++ [⟨h, b, e, s⟩])) f2 g2).f (ckL p j t.nm t0.nm e (frL (A ++ [⟨h, b, e, s⟩])) f2 g2).g) := Lib.hid (by rw [frL_snoc]; exact HT6.out)
              clear HT6
              go_wp2_with fail
              refine (HSAY.out.2 _ s.aoe s.cape (A ++ [⟨h, b, e, s⟩]) f2 g2 v2 HBL.out.2 HIS.out.2.2.2.2 (by simp; omega) HF2.out HG2.out HI6.out).mono ?_
              rintro e' w7 ⟨rfl, hK7, hq7⟩
              generalize ckL p j t.nm t0.nm e (frL (A ++ [⟨h, b, e, s⟩])) f2 g2 = r1 at *
              have HK7 : Hid (Kp L v w w7) := Lib.hid (HK6.out.trans (.inl HO6.out) hK7)
              have HQ7 := Lib.hid hq7
              have HB7 : Hid (w7.heap[nb]? = some (.cells (stC h b e s).toArray 91 (0, 0))) := Lib.hid ((hK7.far (Array.getElem?_eq_some_iff.1 HBX6.out).1 HNB.out.1 HON6.out).trans HBX6.out)
              have HR7 : Hid (R.At w7 L.B0 (some ⟨bl, off, none⟩) (k + 1)) := Lib.hid (HR6.out.below (hK7.below HI6.out.b0 (fun q hq => (HI6.out.row.lt q hq).1)))
              clear hK7 hq7
              cases hr1 : (r1.err != 0)
              · have HT7 : Hid (res = ckT p j t.nm t0.nm b e R (frL A) ((frL A).app (.cons h b e .nil)) 2 r1.f r1.g) := Lib.hid (HC6.out.trans ((if_neg (by rw [hr1]; decide)).trans (by first | rfl | (simp only [frL_snoc]; rfl))))
                obtain ⟨hf7, hg7, v7, hO7, hI7⟩ := HQ7.out (by simpa using hr1)
                have HW7 := Lib.hid (And.intro hf7 (And.intro hg7 (And.intro hO7 hI7)))
                clear hf7 hg7 hO7 hI7 HQ7 HC6
                go_wp2_with fail
                go_roundw
                case rel => exact ⟨2, r1.f, r1.g, v7, rfl, by omega, HT7.out, HW7.out.1, HW7.out.2.1, HK7.out, HO6.out.trans HW7.out.2.2.1 HK6.out.size, HW7.out.2.2.1.ne (Array.getElem?_eq_some_iff.1 HBX6.out).1 HON6.out, HB7.out, HR7.out, HW7.out.2.2.2⟩
                case measure => simp [intOf]
              · have HX7 : Hid (res = r1) := Lib.hid (HC6.out.trans (if_pos hr1))
                have HX0 : Hid (r1.err ≠ 0) := Lib.hid (by simpa using hr1)
                clear HC6 HQ7
                go_wp2_with fail
                go_ret2
                refine ⟨ret2 (by rw [HX7.out]; rfl) (by rw [HX7.out]; rfl), HK7.out, fun h0 => ?_⟩
                rw [HX7.out] at h0; exact (HX0.out h0).elim
            · have HT7 : Hid (res = ckL p j t.nm t0.nm R (frL A) f2 g2) := HT6
              obtain ⟨g7, cap7, rfl, hc7⟩ : ∃ g7 cap7, v2 = .slice (some ⟨g7, 0, none⟩) (A.length + 1) cap7 ∧ A.length + 1 ≤ cap7 := by
                rcases HI6.out.row.2 with ⟨-, hn⟩ | ⟨g', cap, cur, e', -, -, hcc, -⟩
                · simp at hn
                · exact ⟨g', cap, by rw [e']; simp, by simpa using hcc⟩
              have hcl : ∀ w', Below (World.heap wr).size wr w' → w'.cell? ⟨L.bc, 3, none⟩ = some (.slice (some ⟨g7, 0, none⟩) (A.length + 1) cap7) := fun w' hb => (hb.cell (p := ⟨L.bc, 3, none⟩) (by have := HI6.out.sz; have := L.c1; show L.bc < _; omega)).trans (cell_blk HI6.out.blk (j := 3) rfl).2
              have hz1 : (0 : Int) ≤ (A.length : Int) := by omega
              have hz2 : (A.length : Int) ≤ (cap7 : Int) := by omega
              have hwr : IntKind.i64.wrap (A.length : Int) = (A.length : Int) := IntWalk.i64_in _ (by omega)
              have hsb2 : (A.length : Int) + 1 - 1 = (A.length : Int) := by omega
              clear HT6 ixa ixb
              go_upto_region 17 with fail
              refine wpAny_start (by kernel_rfl) rfl ?_
              refine wpAny_phase 0 14 [] [[], [], [1], [1, 2], [1, 2, 3], [], [5], [5, 6], [5, 6, 7], [5, 6, 7, 8], [5, 6, 7, 8, 9], [1, 2, 3, 4, 5, 6, 7, 8, 9, 10], [0, 1, 2, 3, 4, 5, 6, 7, 8, 9, 10, 11], [0, 1, 2, 3, 4, 5, 6, 7, 8, 9, 10, 11, 12], [0, 1, 2, 3, 4, 5, 6, 7, 8, 9, 10, 11, 12, 13]] [[], [], [], [], [], [], [], [], [], [], [], [], [], []] (fun _ w' => Below (World.heap wr).size wr w') (fun w w' => Below w.heap.size w w') [66, 67, 68, 69, 70, 71, 72, 73, 74, 75, 76, 77, 78, 79] rfl rfl (by rfl) (by kernel_rfl) (by kernel_rfl) (by kernel_rfl) (by kernel_rfl) (by kernel_rfl) (by rfl) (fun _ => Below.refl _ _) (by rfl) (below_drewN (Below.refl _ _) 1) ?_
              simp only [List.take_succ_cons, List.take_zero, List.drop_zero, List.drop_succ_cons, dumE, List.map_cons, List.map_nil]
              apply ObP.step
              case hobl =>
                intro c A w' hok hC hO hD
                have e0 := hO 0 (by rfl)
                simp [Act.eval] at e0
                simp [depsL, IsV, slotv, Act.eval, Region.binds] at hD
                simp [go_sem, gd, Oper.wp, hD, e0]
                exact WPost.mk (Below.refl _ _) hC (IsV.mk _ _)
              apply ObP.step
              case hobl =>
                intro c A w' hok hC hO hD
                have e0 := hO 0 (by rfl)
                simp [Act.eval] at e0
                simp [depsL, IsV, slotv, Act.eval, Region.binds] at hD
                simp [go_sem, gd, Oper.wp, hD, e0]
                exact WPost.mk (Below.refl _ _) hC (IsV.mk _ _)
              apply ObP.step
              case hobl =>
                intro c A w' hok hC hO hD
                simp [depsL, IsV, slotv, Act.eval, Region.binds] at hD
                simp [go_sem, gd, Oper.wp, hD]
                exact WPost.mk (Below.refl _ _) hC (IsV.mk _ _)
              apply ObP.step
              case hobl =>
                intro c A w' hok hC hO hD
                simp [depsL, IsV, slotv, Act.eval, Region.binds] at hD
                simp [go_sem, gd, Oper.wp, hD]
                exact WPost.mk (Below.refl _ _) hC (IsV.mk _ _)
              apply ObP.step
              case hobl =>
                intro c A w' hok hC hO hD
                simp [depsL, IsV, slotv, Act.eval, Region.binds] at hD
                simp [go_sem, gd, Oper.wp, hD, hcl, hC]
                exact WPost.mk (Below.refl _ _) hC (IsV.mk _ _)
              simp only [List.nil_append, List.cons_append]
              apply ObP.step
              case hobl =>
                intro c A w' hok hC hO hD
                have e0 := hO 0 (by rfl)
                simp [Act.eval] at e0
                simp [depsL, IsV, slotv, Act.eval, Region.binds] at hD
                simp [go_sem, gd, Oper.wp, hD, e0]
                exact WPost.mk (Below.refl _ _) hC (IsV.mk _ _)
              apply ObP.step
              case hobl =>
                intro c A w' hok hC hO hD
                simp [depsL, IsV, slotv, Act.eval, Region.binds] at hD
                simp [go_sem, gd, Oper.wp, hD]
                exact WPost.mk (Below.refl _ _) hC (IsV.mk _ _)
              apply ObP.step
              case hobl =>
                intro c A w' hok hC hO hD
                simp [depsL, IsV, slotv, Act.eval, Region.binds] at hD
                simp [go_sem, gd, Oper.wp, hD]
                exact WPost.mk (Below.refl _ _) hC (IsV.mk _ _)
              apply ObP.step
              case hobl =>
                intro c A w' hok hC hO hD
                simp [depsL, IsV, slotv, Act.eval, Region.binds] at hD
                simp [go_sem, gd, Oper.wp, hD, hcl, hC]
                exact WPost.mk (Below.refl _ _) hC (IsV.mk _ _)
              apply ObP.step
              case hobl =>
                intro c A w' hok hC hO hD
                simp [depsL, IsV, slotv, Act.eval, Region.binds] at hD
                simp [go_sem, gd, Oper.wp, hD]
                exact WPost.mk (Below.refl _ _) hC (IsV.mk _ _)
              simp only [List.nil_append, List.cons_append]
              apply ObP.step
              case hobl =>
                intro c A w' hok hC hO hD
                simp [depsL, IsV, slotv, Act.eval, Region.binds] at hD
                simp [go_sem, gd, Oper.wp, hD, hsb2, hwr]
                exact WPost.mk (Below.refl _ _) hC (IsV.mk _ _)
              apply ObP.step
              case hobl =>
                intro c A w' hok hC hO hD
                simp [depsL, IsV, slotv, Act.eval, Region.binds] at hD
                simp [go_sem, gd, Oper.wp, hD, hz1, hz2]
                exact WPost.mk (Below.refl _ _) hC (IsV.mk _ _)
              simp only [List.nil_append, List.cons_append]
              apply ObP.step
              case hobl =>
                intro c A w' hok hC hO hD
                simp [depsL, IsV, slotv, Act.eval, Region.binds] at hD
                simp [go_sem, gd, Oper.wp, hD]
                exact WPost.mk (Below.refl _ _) hC (IsV.mk _ _)
              apply ObP.step
              case hobl =>
                intro c A w' hok hC hO hD
                simp [depsL, IsV, slotv, Act.eval, Region.binds] at hD
                simp [go_sem, gd, Oper.wp, hD]
                exact WPost.mk (Below.refl _ _) hC (IsV.mk _ _)
              simp only [List.nil_append, List.cons_append]
              refine ObP.done ?_
              intro wz hCz
              simp only [List.drop_zero]
              intro v0 h0 v1 h1 v2 h2 v3 h3 v4 h4 v5 h5 v6 h6 v7 h7 v8 h8 v9 h9 v10 h10 v11 h11 v12 h12 v13 h13
              have h11' : v11 = _ := h11
              have h13' : v13 = _ := h13
              subst h11' h13'
              clear h0 h1 h2 h3 h4 h5 h6 h7 h8 h9 h10 h11 h12 h13
              refine AllVals.nil ?_
              go_simp
              have HPO := Lib.hid (CkI.pop ⟨h, b, e, s⟩ HI6.out hCz)
              have hclz : wz.cell? ⟨L.bc, 3, none⟩ = some (.slice (some ⟨g7, 0, none⟩) (A.length + 1) cap7) := hcl wz hCz
              have hfrz : wz.frozen? ⟨L.bc, 3, none⟩ = false := free_blk ((HI6.out.below hCz).blk)
              clear hcl hsb2 hwr
              refine wpAny_one 14 [[], [], [1], [1, 2], [1, 2, 3], [], [5], [5, 6], [5, 6, 7], [5, 6, 7, 8], [5, 6, 7, 8, 9], [1, 2, 3, 4, 5, 6, 7, 8, 9, 10], [0, 1, 2, 3, 4, 5, 6, 7, 8, 9, 10, 11], [0, 1, 2, 3, 4, 5, 6, 7, 8, 9, 10, 11, 12], [0, 1, 2, 3, 4, 5, 6, 7, 8, 9, 10, 11, 12, 13]] rfl rfl rfl rfl rfl (by kernel_rfl) (by kernel_rfl) (by kernel_rfl) ?_
              simp [go_sem, Oper.wp, hclz, hfrz]
              refine wpAny_end rfl ?_
              clear hclz hfrz hCz
              go_simp
              go_wp2_with fail
              go_roundw
              case rel => exact ⟨k + 1, R, f2, g2, .slice (some ⟨g7, 0, none⟩) A.length cap7, by go_num, by simp only [StL.len] at hlen; omega, HT7.out, HALR.out, HR6.out.below (HPO.out.2.below HI6.out.b0 (fun q hq => (HI6.out.row.lt q hq).1)), HF2.out, HG2.out, HK6.out.trans (.inl HO6.out) HPO.out.2, HO6.out.trans (.inl rfl) HK6.out.size, HPO.out.1⟩
              case measure => simp [intOf]; omega
        · have HX : Hid (res = ⟨x, h.line, f1, g1⟩) := Lib.hid (HE2.out.trans (HU.out.trans (by rw [hx]; rfl)))
          have HX0 : Hid (x ≠ 0) := Lib.hid (by simpa using hx)
          clear HU HSE HE HE2
          go_wp2_with fail
          go_quiet (fail)
          go_wp2_with fail
          go_ret2
          refine ⟨ret2 (by rw [HX.out]; rfl) (by rw [HX.out]; rfl), HK3.out.trans (.inr rfl) (v1 := .slice none 0 0) (Kp.of_below (below_drewN (Below.refl _ _) _)), fun h0 => ?_⟩
          rw [HX.out] at h0; exact (HX0.out h0).elim
theorem ckList_any (L : Lay) (p : Pr) (aoD aoT : Option Addr) (capD capT : Nat) (j : Nat) (t t0 : Th) (r r0 : List Th) (hd : p.ts.drop j = t :: r) (hts : p.ts = t0 :: r0) (hj : I64 (j : Int)) (hT : p.ts.length < maxLen) (hD : p.ds.length < maxLen) (l : StL) : CkSays L p aoD aoT capD capT j t t0 l :=
  ckList_of L p aoD aoT capD capT j t t0 r r0 hd hts hj hT hD l (StL.all_of (fun _ b e hb he => ⟨ckList_of L p aoD aoT capD capT j t t0 r r0 hd hts hj hT hD b hb, ckList_of L p aoD aoT capD capT j t t0 r r0 hd hts hj hT hD e he⟩) l)
end Go.Proofs.YtommnhglgedflaaGreatDoor
end
section
set_option linter.unusedSimpArgs false
set_option linter.unusedVariables false
namespace Go.Proofs.YtommnhglgedflaaGreatDoor
open Go.RowKit
namespace Md
/-- What comes of the statements of all threads from the j-th on. -/
def stsE (p : Pr) (t0n : ByteArray) : List Th → Nat → List (List UInt8) → List (List UInt8) → CkR
  | [], _, f, g => ⟨0, 0, f, g⟩
  | t :: r, j, f, g => if (ckL p j t.nm t0n t.body .nil f g).err != 0 then ckL p j t.nm t0n t.body .nil f g else stsE p t0n r (j + 1) (ckL p j t.nm t0n t.body .nil f g).f (ckL p j t.nm t0n t.body .nil f g).g
end Md
open Md
/-- Where check.statements lays its things. -/
def layOf (n : Nat) (h : 0 < n) : Lay where
  B0 := n
  B1 := n + 4
  bc := n + 1 + 1 + 1
  bs := n + 1
  bt := n + 1 + 1
  c0 := by omega
  s0 := by omega
  t0 := by omega
  c1 := by omega
  s1 := by omega
  t1 := by omega
  cs := by omega
  ct := by omega
  st := by omega
  kw := h
theorem ckStart {p : Pr} {w W : World} {aoD aoT : Option Addr} {capD capT : Nat} (hp : p.At w aoD aoT) (hkw : KwLaid w)
    (hW : ((((w.alloc (.cells #[.slice aoD p.ds.length capD, .slice aoT p.ts.length capT] 26)).alloc (.map #[] 0)).alloc (.map #[] 0)).alloc (.cells #[.slice aoD p.ds.length capD, .slice aoT p.ts.length capT, .int .i64 0, .slice none 0 0, .map (some (w.heap.size + 1)), .map (some (w.heap.size + 1 + 1))] 146)) = W) :
    CkI W (layOf w.heap.size hkw.lt) p aoD aoT capD capT 0 [] (mem []) (mem []) 0 0 (.slice none 0 0) ∧ Below w.heap.size w W ∧ W.heap[w.heap.size]? = some (.cells #[.slice aoD p.ds.length capD, .slice aoT p.ts.length capT] 26 (0, 0)) := by
  have hb : Below w.heap.size w W := by
    rw [← hW]
    exact ((((Below.refl _ _).alloc (Nat.le_refl _) _).alloc (by simp) _).alloc (by simp; omega) _).alloc (by simp; omega) _
  have h0 : W.heap[w.heap.size]? = some (.cells #[.slice aoD p.ds.length capD, .slice aoT p.ts.length capT] 26 (0, 0)) := by
    rw [← hW, heap_alloc_old _ _ (by simp; omega), heap_alloc_old _ _ (by simp; omega), heap_alloc_old _ _ (by simp)]
    exact heap_alloc_new _ _
  have h1 : MapB W (w.heap.size + 1) 0 (mem []) := by
    have := MapB.made (w.alloc (.cells #[.slice aoD p.ds.length capD, .slice aoT p.ts.length capT] 26))
    have e : (w.alloc (.cells #[.slice aoD p.ds.length capD, .slice aoT p.ts.length capT] 26)).heap.size = w.heap.size + 1 := by simp
    rw [e] at this
    refine MapB.same (f := mem []) this ?_
    rw [← hW, heap_alloc_old _ _ (by simp), heap_alloc_old _ _ (by simp)]
  have h2 : MapB W (w.heap.size + 1 + 1) 0 (mem []) := by
    have := MapB.made ((w.alloc (.cells #[.slice aoD p.ds.length capD, .slice aoT p.ts.length capT] 26)).alloc (.map #[] 0))
    have e : ((w.alloc (.cells #[.slice aoD p.ds.length capD, .slice aoT p.ts.length capT] 26)).alloc (.map #[] 0)).heap.size = w.heap.size + 1 + 1 := by simp
    rw [e] at this
    refine MapB.same (f := mem []) this ?_
    rw [← hW, heap_alloc_old _ _ (by simp)]
  have h3 : W.heap[w.heap.size + 1 + 1 + 1]? = some (.cells (ckV p aoD aoT capD capT 0 (.slice none 0 0) (w.heap.size + 1) (w.heap.size + 1 + 1)) 146 (0, 0)) := by
    rw [← hW]
    have e : (((w.alloc (.cells #[.slice aoD p.ds.length capD, .slice aoT p.ts.length capT] 26)).alloc (.map #[] 0)).alloc (.map #[] 0)).heap.size = w.heap.size + 1 + 1 + 1 := by simp
    rw [← e]; exact heap_alloc_new _ _
  refine ⟨{ blk := h3, row := World.ownsRow_nil _ _ _ _, ms := h1, mt := h2, sz := ?_, dat := ?_, frs := by intro x hx; simp at hx }, hb, h0⟩
  · show w.heap.size + 4 ≤ W.heap.size
    rw [← hW]; simp
  · exact ⟨hp.1, hp.2.1, hp.2.2.1.below hb, hp.2.2.2.below hb, hkw.same hb⟩
theorem CkI.setI {w : World} {L : Lay} {p : Pr} {aoD aoT : Option Addr} {capD capT : Nat} {i i' : Int} {A : List Fr} {f g : List UInt8 → Bool} {n m : Nat} {v : Value}
    (h : CkI w L p aoD aoT capD capT i A f g n m v) : CkI (w.setCell ⟨L.bc, 2, none⟩ (.int .i64 i')) L p aoD aoT capD capT i' A f g n m v := by
  have hg := setCell_grown w ⟨L.bc, 2, none⟩ (.int .i64 i')
  have hbel := grown_below hg L.c0 h.b0
  exact { blk := by rw [setCell_blk h.blk]; rfl, row := h.row.kept hg (h.own_ne L.c1), ms := h.ms.same (setCell_far w _ _ rfl L.cs), mt := h.mt.same (setCell_far w _ _ rfl L.ct), sz := Nat.le_trans h.sz hg.size, dat := h.dat.below hbel, frs := fun x hx => (h.frs x hx).below hbel }
set_option maxHeartbeats 4000000 in
set_option maxRecDepth 100000 in
theorem ckStmts_any (p : Pr) (w : World) (aoD aoT : Option Addr) (capD capT : Nat) (t0 : Th) (r0 : List Th) (hts : p.ts = t0 :: r0) (hT : p.ts.length < maxLen) (hD : p.ds.length < maxLen) (hp : p.At w aoD aoT) (hkw : KwLaid w) :
    Calls Tryz.prog 91 #[.agg #[.slice aoD p.ds.length capD, .slice aoT p.ts.length capT]] w fun e w' => e = .returned (.tuple #[.int .i64 (stsE p t0.nm p.ts 0 [] []).err, .int .i64 (stsE p t0.nm p.ts 0 [] []).line]) ∧ Below w.heap.size w w' := by
  generalize hres : stsE p t0.nm p.ts 0 [] [] = res
  have HR := Lib.hid hres
  have HP := Lib.hid hp
  have HKW := Lib.hid hkw
  have HTS := Lib.hid hts
  have HT := Lib.hid hT
  unfold maxLen at hT
  clear hres hp hkw hts
  have hmm := @run_makeMap Tryz.prog
  go_enter Tryz.func91, Tryz.ntmps91
  go_upto_region 2 with fail
  generalize hW : World.alloc (World.alloc (World.alloc (World.alloc w _) _) _) _ = W
  generalize Value.agg #[_, _] = a0
  have HS := Lib.hid (ckStart HP.out HKW.out hW)
  obtain ⟨L, hL⟩ : ∃ L, layOf w.heap.size HKW.out.lt = L := ⟨_, rfl⟩
  have hLc : w.heap.size + 1 + 1 + 1 = L.bc := by rw [← hL]; rfl
  have HL0 : Hid (w.heap.size = L.B0) := Lib.hid (by rw [← hL]; rfl)
  rw [hL] at HS
  clear hW hL hmm
  have c0 : W.cell? ⟨w.heap.size, 1, none⟩ = some (.slice aoT p.ts.length capT) := (cell_blk HS.out.2.2 (j := 1) rfl).2
  rw [hLc]
  clear hLc
  go_wp2_with fail
  go_loopw [5, 6, 7, 8, 17] (fun _ _ _ _ s wr => ∃ (k : Nat) (R : List Th) (f1 g1 : List (List UInt8)) (v1 : Value) (i1 : Int), s = .int .i64 k ∧ k + R.length = p.ts.length ∧ p.ts.drop k = R ∧ res = stsE p t0.nm R k f1 g1 ∧ Few (tNames p) f1 ∧ Few (dNames p) g1 ∧ Below L.B0 w wr ∧ CkI wr L p aoD aoT capD capT i1 [] (mem f1) (mem g1) f1.length g1.length v1) (fun _ _ _ _ s _ => p.ts.length - (intOf s).toNat)
  case atStart => exact ⟨0, p.ts, [], [], _, 0, rfl, by simp, rfl, HR.out.symm, ⟨List.nodup_nil, by simp⟩, ⟨List.nodup_nil, by simp⟩, by rw [← HL0.out]; exact HS.out.2.1, HS.out.1⟩
  case round =>
    obtain ⟨k, R, f1, g1, v1, i1, rfl, hlen, hdr, heq, hf1, hg1, hB, hI⟩ := hrel
    have HE := Lib.hid heq
    have HF1 := Lib.hid hf1
    have HG1 := Lib.hid hg1
    have HB := Lib.hid hB
    have HI := Lib.hid hI
    have HDR := Lib.hid hdr
    clear heq hf1 hg1 hB hI hdr c0 HS
    cases R with
    | nil =>
      obtain rfl : k = p.ts.length := by simpa using hlen
      have HX : Hid (res.err = 0 ∧ res.line = 0) := Lib.hid (by rw [HE.out]; exact ⟨rfl, rfl⟩)
      go_wp2_with fail
      go_ret2
      exact ⟨ret2 (by rw [HX.out.1]; rfl) (by rw [HX.out.2]; rfl), by rw [HL0.out]; exact HB.out⟩
    | cons t R =>
      have hrow := HI.out.dat.2.2.2.1.drop k
      rw [HDR.out, Nat.zero_add] at hrow
      obtain ⟨⟨bl, off, aol, capl, aob, capb, rfl, hbl, x0, x1, x2, x3, hok, htx, hst, -⟩, -⟩ := hrow
      simp only [List.length_cons] at hlen
      have hkl : k < p.ts.length := by omega
      have HOK := Lib.hid hok
      have HST := Lib.hid hst
      clear hok hst htx hbl
      go_upto_region 5 with fail
      obtain ⟨nb, hnb⟩ : ∃ n, wr.heap.size = n := ⟨_, rfl⟩
      generalize hW2 : World.alloc wr _ = W2
      have HBX : Hid (W2.heap[nb]? = some (.cells #[.string t.nm, .int .i64 t.line, .slice aol t.locs.length capl, .slice aob t.body.len capb] 63 (0, 0))) := Lib.hid (by rw [← hW2, ← hnb]; exact heap_alloc_new _ _)
      have HAB : Hid (Below wr.heap.size wr W2) := Lib.hid (by rw [← hW2]; exact alloc_below _ _)
      have HI2 := Lib.hid (HI.out.below HAB.out)
      have HNB : Hid (L.B1 ≤ nb) := Lib.hid (by rw [← hnb]; exact HI.out.sz)
      have HB2 : Hid (Below L.B0 w W2) := Lib.hid (HB.out.trans (HAB.out.mono HI.out.b0))
      have HST2 := Lib.hid (HST.out.below (HAB.out.mono HI.out.b0))
      rw [hnb]
      clear hW2 hnb x0 x1 x2 x3 HST HB
      have c2 : W2.cell? ⟨L.bc, 2, none⟩ = some (.int .i64 i1) := (cell_blk HI2.out.blk (j := 2) rfl).2
      have f2 : W2.frozen? ⟨L.bc, 2, none⟩ = false := free_blk HI2.out.blk
      go_upto_region 6 with fail
      generalize hW3 : World.setCell W2 _ _ = W3
      have HGR : Hid (W2.grownBy W3 (some L.bc)) := Lib.hid (by rw [← hW3]; exact setCell_grown _ _ _)
      have HI3 : Hid (CkI W3 L p aoD _ capD capT (k : Int) [] (mem f1) (mem g1) f1.length g1.length v1) := Lib.hid (by rw [← hW3]; exact HI2.out.setI)
      have HBX3 : Hid (W3.heap[nb]? = some (.cells #[.string t.nm, .int .i64 t.line, .slice aol t.locs.length capl, .slice aob t.body.len capb] 63 (0, 0))) := Lib.hid ((HGR.out.block _ (Array.getElem?_eq_some_iff.1 HBX.out).1 (by have := L.c1; have := HNB.out; simp; omega)).trans HBX.out)
      have HBE := Lib.hid (grown_below HGR.out L.c0 HI2.out.b0)
      have HB3 := Lib.hid (HB2.out.trans HBE.out)
      have HST3 := Lib.hid (HST2.out.below HBE.out)
      clear hW3 c2 f2 HI2 HBX HAB HB2 HST2 HBE HI
      have y3 : W3.cell? ⟨nb, 3, none⟩ = some (.slice aob t.body.len capb) := (cell_blk HBX3.out (j := 3) rfl).2
      have HC6 : Hid (res = if (ckL p k t.nm t0.nm t.body (frL []) f1 g1).err != 0 then ckL p k t.nm t0.nm t.body (frL []) f1 g1 else stsE p t0.nm R (k + 1) (ckL p k t.nm t0.nm t.body (frL []) f1 g1).f (ckL p k t.nm t0.nm t.body (frL []) f1 g1).g) := Lib.hid HE.out
      clear HE
      go_wp2_with fail
      refine (ckList_any L p _ _ capD capT k t t0 R r0 HDR.out HTS.out (by unfold I64; omega) HT.out hD t.body W3 aob capb [] f1 g1 v1 HOK.out.2.2.2 HST3.out (by simp) HF1.out HG1.out HI3.out).mono ?_
      rintro e' w4 ⟨rfl, hK4, hq4⟩
      generalize ckL p k t.nm t0.nm t.body (frL []) f1 g1 = r1 at *
      have HB4 := Lib.hid (HB3.out.trans (hK4.below HI3.out.b0 (fun q hq => (HI3.out.row.lt q hq).1)))
      have HQ4 := Lib.hid hq4
      clear hK4 hq4
      cases hr1 : (r1.err != 0)
      · have HT7 : Hid (res = stsE p t0.nm R (k + 1) r1.f r1.g) := Lib.hid (HC6.out.trans (if_neg (by rw [hr1]; decide)))
        obtain ⟨hf7, hg7, v7, -, hI7⟩ := HQ4.out (by simpa using hr1)
        have HW7 := Lib.hid (And.intro hf7 (And.intro hg7 hI7))
        have HD7 : Hid (p.ts.drop (k + 1) = R) := Lib.hid (by rw [← List.drop_drop, HDR.out]; rfl)
        clear hf7 hg7 hI7 HQ4 HC6
        go_wp2_with fail
        go_roundw
        case rel => exact ⟨k + 1, R, r1.f, r1.g, v7, _, by go_num, by omega, HD7.out, HT7.out, HW7.out.1, HW7.out.2.1, HB4.out, HW7.out.2.2⟩
        case measure => simp [intOf]; omega
      · have HX7 : Hid (res = r1) := Lib.hid (HC6.out.trans (if_pos hr1))
        clear HC6 HQ4
        go_wp2_with fail
        go_ret2
        exact ⟨ret2 (by rw [HX7.out]; rfl) (by rw [HX7.out]; rfl), by rw [HL0.out]; exact HB4.out⟩
end Go.Proofs.YtommnhglgedflaaGreatDoor
end
