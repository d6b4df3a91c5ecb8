/-
  Contract of the reader's statement: keywords.
-/
import Derived.Test.YtommnhglgedflaaGreatDoorGRC
set_option linter.unusedSimpArgs false
set_option linter.unusedVariables false
namespace Go.Proofs.YtommnhglgedflaaGreatDoor
open Go.RowKit
open Md Pz
theorem kw_pos {ts : Toks} (h : (nextK ts == 3) = true) : ∃ t r, ts = t :: r := by
  cases ts with
  | nil => exact absurd h (by simp [nextK])
  | cons t r => exact ⟨t, r, rfl⟩
theorem eq_conditional (w : World) : (binOp .eql 187 (.func (.func 169) #[] #[]) .nilFunc).run Tryz.prog w = .ok (.bool false) w := by kernel_rfl
set_option maxHeartbeats 4000000 in
set_option maxRecDepth 100000 in
theorem statement_conditional (R : Rp) (ts : Toks) (w : World) (hI : RdI w R ts) (h3 : (nextK ts == 3) = true) (op : Int) (hop : I64 op)
    (HRE : Hid (∀ w, Calls Tryz.prog 151 #[.string (tx (nextT ts))] w fun e w' => e = .returned (.tuple #[.int .i64 op, .func (.func 169) #[] #[]]) ∧ w = w')) (res : Res Sx)
    (HC : Hid (∀ gt W, Pm R (gt + 1) (gt + 2) W ⟨hd op ((nextL ts : Nat) : Int), .nil, .nil, zS⟩ ts.tail → Calls Tryz.prog 169 #[.pointer (some ⟨R.br, 0, none⟩), .pointer (some ⟨gt + 1, 0, none⟩)] W (StmP R (gt + 1) (gt + 2) W res))) :
    Calls Tryz.prog 131 #[.pointer (some ⟨R.br, 0, none⟩)] w (StaP R w (res.map toL)) := by
  have hk : nextK ts = 3 := by simpa using h3
  obtain ⟨t0, r0, hr⟩ := kw_pos h3
  have HR0 := Lib.hid hr
  have HOP := Lib.hid hop
  clear h3 hr hop
  have hnf := eq_conditional
  have HI := Lib.hid hI
  have HL := Lib.hid (line_i64 hI)
  have hlt := hI.lt
  go_enter Tryz.func131, Tryz.ntmps131
  go_upto_region 1 with fail
  generalize hW : World.alloc w _ = W0
  have HB0 : Hid (Below w.heap.size w W0) := Lib.hid (by rw [← hW]; exact alloc_below _ _)
  have HZ0 : Hid (W0.heap[w.heap.size]? = some (.cells zSt11 91 (0, 0))) := Lib.hid (by rw [← hW]; exact heap_alloc_new _ _)
  have HN := Lib.hid (next_any R ts W0 (HI.out.below HB0.out))
  unfold tokV at HN
  rw [hk] at HN
  clear hW hI hk
  go_wp2_with fail
  refine HN.out.mono ?_
  rintro e w1 ⟨rfl, h2⟩
  have HB1 := Lib.hid (HB0.out.trans (h2.mono HB0.out.size))
  have HZ1 := Lib.hid ((h2.block _ (Array.getElem?_eq_some_iff.1 HZ0.out).1).trans HZ0.out)
  clear h2 HN HB0 HZ0
  go_upto_region 3 with fail
  obtain ⟨gt, hg⟩ : ∃ g, w1.heap.size = g := ⟨_, rfl⟩
  rw [hg]
  generalize hW : World.alloc (World.alloc w1 _) _ = W2
  have HP2 := Lib.hid (sta_head HI.out HB1.out HZ1.out HL.out gt hg W2 hW)
  have e0 := HP2.out.2.2.2.1
  have e1 := HP2.out.2.2.2.2.1
  have HLT : Hid (R.br < w.heap.size ∧ w.heap.size < gt) := Lib.hid ⟨hlt, HP2.out.2.2.2.2.2⟩
  clear hW hg HB1 HZ1
  go_wp2_with fail
  refine (HRE.out _).mono ?_
  rintro e w3 ⟨rfl, rfl⟩
  have f0 := HP2.out.1.free 0
  have c0 := HP2.out.1.cell (j := 0) rfl
  go_upto_region 13 with fail
  generalize hW : World.setCell W2 _ _ = W3
  have HP3 : Hid (Pm R (gt + 1) (gt + 2) W3 ⟨hd op ((nextL ts : Nat) : Int), .nil, .nil, zS⟩ ts) := Lib.hid (by rw [← hW]; exact HP2.out.1.op op HOP.out)
  have HF2 : Hid (Fr R.br (gt + 1) W2 W3) := Lib.hid (by rw [← hW]; exact (Fr.refl _ _ _).set _ _ (.inl rfl))
  obtain ⟨pos, hp, q0, q1, fq, HX⟩ := HP3.out.rd.open
  clear hW f0 c0 e0 e1 hnf HRE
  go_upto_region 14 with fail
  generalize hW : World.setCell W3 _ _ = W4
  have HQ : Hid (RdI W4 R ts.tail ∧ W3.grownBy W4 (some R.br)) := Lib.hid (by rw [← hW, HR0.out]; exact HX.out t0 r0 HR0.out)
  have HP4 := Lib.hid (HP3.out.then HQ.out.1 HQ.out.2)
  have HF3 := Lib.hid (HF2.out.trans (Fr.of_gr HQ.out.2))
  clear hW q0 q1 fq HX HP3 HQ HF2
  go_wp2_with fail
  refine (HC.out gt _ HP4.out).mono ?_
  cases res with
  | no q =>
    rintro e w4 ⟨rfl, ⟨x, h2⟩, h3⟩
    have HP4 := Lib.hid h2
    have HF4 := Lib.hid (HF3.out.trans h3)
    clear h2 h3
    have HZ4 := Lib.hid (fr_kept HF4.out HP2.out.2.2.1 (by have := HLT.out; omega) (by have := HLT.out; omega))
    obtain ⟨⟨y0, y1, y2, y3, y4, y5, y6, y7, y8, y9, y10⟩, fz⟩ := z11 HZ4.out
    have z0 := fz 0
    have z1 := fz 1
    have z2 := fz 2
    have z3 := fz 3
    have z4 := fz 4
    have z5 := fz 5
    have z6 := fz 6
    have z7 := fz 7
    have z8 := fz 8
    have z9 := fz 9
    have z10 := fz 10
    obtain ⟨d0, d1, d2, d3, d4, d5, d6, d7, d8, d9, d10⟩ := pm_cells HP4.out
    clear fz
    go_wp2_with fail
    exact bodyPost_ret (v := .tuple #[stV x.h x.b x.e x.s, .bool false]) (by simp [results, Tryz.results131, go_sem, stV, y0, y1, y2, y3, y4, y5, y6, y7, y8, y9, y10]) rfl (sta_no HP4.out (HF4.out.gr HP2.out.2.1 (by have := HLT.out; omega)) HLT.out.1)
  | ok y q =>
    rintro e w4 ⟨rfl, ⟨s, h2⟩, h3⟩
    have HP4 := Lib.hid h2
    have HF4 := Lib.hid (HF3.out.trans h3)
    clear h2 h3
    have HZ4 := Lib.hid (fr_kept HF4.out HP2.out.2.2.1 (by have := HLT.out; omega) (by have := HLT.out; omega))
    obtain ⟨⟨y0, y1, y2, y3, y4, y5, y6, y7, y8, y9, y10⟩, fz⟩ := z11 HZ4.out
    have z0 := fz 0
    have z1 := fz 1
    have z2 := fz 2
    have z3 := fz 3
    have z4 := fz 4
    have z5 := fz 5
    have z6 := fz 6
    have z7 := fz 7
    have z8 := fz 8
    have z9 := fz 9
    have z10 := fz 10
    obtain ⟨d0, d1, d2, d3, d4, d5, d6, d7, d8, d9, d10⟩ := pm_cells HP4.out
    clear fz
    go_wp2_with fail
    exact bodyPost_ret (v := .tuple #[stV y.h y.b y.e s, .bool true]) (by simp [results, Tryz.results131, go_sem, stV, y0, y1, y2, y3, y4, y5, y6, y7, y8, y9, y10]) rfl (sta_ok HP4.out (HF4.out.gr HP2.out.2.1 (by have := HLT.out; omega)) HLT.out.1 (by have := HLT.out; omega))
theorem eq_loop (w : World) : (binOp .eql 187 (.func (.func 170) #[] #[]) .nilFunc).run Tryz.prog w = .ok (.bool false) w := by kernel_rfl
set_option maxHeartbeats 4000000 in
set_option maxRecDepth 100000 in
theorem statement_loop (R : Rp) (ts : Toks) (w : World) (hI : RdI w R ts) (h3 : (nextK ts == 3) = true) (op : Int) (hop : I64 op)
    (HRE : Hid (∀ w, Calls Tryz.prog 151 #[.string (tx (nextT ts))] w fun e w' => e = .returned (.tuple #[.int .i64 op, .func (.func 170) #[] #[]]) ∧ w = w')) (res : Res Sx)
    (HC : Hid (∀ gt W, Pm R (gt + 1) (gt + 2) W ⟨hd op ((nextL ts : Nat) : Int), .nil, .nil, zS⟩ ts.tail → Calls Tryz.prog 170 #[.pointer (some ⟨R.br, 0, none⟩), .pointer (some ⟨gt + 1, 0, none⟩)] W (StmP R (gt + 1) (gt + 2) W res))) :
    Calls Tryz.prog 131 #[.pointer (some ⟨R.br, 0, none⟩)] w (StaP R w (res.map toL)) := by
  have hk : nextK ts = 3 := by simpa using h3
  obtain ⟨t0, r0, hr⟩ := kw_pos h3
  have HR0 := Lib.hid hr
  have HOP := Lib.hid hop
  clear h3 hr hop
  have hnf := eq_loop
  have HI := Lib.hid hI
  have HL := Lib.hid (line_i64 hI)
  have hlt := hI.lt
  go_enter Tryz.func131, Tryz.ntmps131
  go_upto_region 1 with fail
  generalize hW : World.alloc w _ = W0
  have HB0 : Hid (Below w.heap.size w W0) := Lib.hid (by rw [← hW]; exact alloc_below _ _)
  have HZ0 : Hid (W0.heap[w.heap.size]? = some (.cells zSt11 91 (0, 0))) := Lib.hid (by rw [← hW]; exact heap_alloc_new _ _)
  have HN := Lib.hid (next_any R ts W0 (HI.out.below HB0.out))
  unfold tokV at HN
  rw [hk] at HN
  clear hW hI hk
  go_wp2_with fail
  refine HN.out.mono ?_
  rintro e w1 ⟨rfl, h2⟩
  have HB1 := Lib.hid (HB0.out.trans (h2.mono HB0.out.size))
  have HZ1 := Lib.hid ((h2.block _ (Array.getElem?_eq_some_iff.1 HZ0.out).1).trans HZ0.out)
  clear h2 HN HB0 HZ0
  go_upto_region 3 with fail
  obtain ⟨gt, hg⟩ : ∃ g, w1.heap.size = g := ⟨_, rfl⟩
  rw [hg]
  generalize hW : World.alloc (World.alloc w1 _) _ = W2
  have HP2 := Lib.hid (sta_head HI.out HB1.out HZ1.out HL.out gt hg W2 hW)
  have e0 := HP2.out.2.2.2.1
  have e1 := HP2.out.2.2.2.2.1
  have HLT : Hid (R.br < w.heap.size ∧ w.heap.size < gt) := Lib.hid ⟨hlt, HP2.out.2.2.2.2.2⟩
  clear hW hg HB1 HZ1
  go_wp2_with fail
  refine (HRE.out _).mono ?_
  rintro e w3 ⟨rfl, rfl⟩
  have f0 := HP2.out.1.free 0
  have c0 := HP2.out.1.cell (j := 0) rfl
  go_upto_region 13 with fail
  generalize hW : World.setCell W2 _ _ = W3
  have HP3 : Hid (Pm R (gt + 1) (gt + 2) W3 ⟨hd op ((nextL ts : Nat) : Int), .nil, .nil, zS⟩ ts) := Lib.hid (by rw [← hW]; exact HP2.out.1.op op HOP.out)
  have HF2 : Hid (Fr R.br (gt + 1) W2 W3) := Lib.hid (by rw [← hW]; exact (Fr.refl _ _ _).set _ _ (.inl rfl))
  obtain ⟨pos, hp, q0, q1, fq, HX⟩ := HP3.out.rd.open
  clear hW f0 c0 e0 e1 hnf HRE
  go_upto_region 14 with fail
  generalize hW : World.setCell W3 _ _ = W4
  have HQ : Hid (RdI W4 R ts.tail ∧ W3.grownBy W4 (some R.br)) := Lib.hid (by rw [← hW, HR0.out]; exact HX.out t0 r0 HR0.out)
  have HP4 := Lib.hid (HP3.out.then HQ.out.1 HQ.out.2)
  have HF3 := Lib.hid (HF2.out.trans (Fr.of_gr HQ.out.2))
  clear hW q0 q1 fq HX HP3 HQ HF2
  go_wp2_with fail
  refine (HC.out gt _ HP4.out).mono ?_
  cases res with
  | no q =>
    rintro e w4 ⟨rfl, ⟨x, h2⟩, h3⟩
    have HP4 := Lib.hid h2
    have HF4 := Lib.hid (HF3.out.trans h3)
    clear h2 h3
    have HZ4 := Lib.hid (fr_kept HF4.out HP2.out.2.2.1 (by have := HLT.out; omega) (by have := HLT.out; omega))
    obtain ⟨⟨y0, y1, y2, y3, y4, y5, y6, y7, y8, y9, y10⟩, fz⟩ := z11 HZ4.out
    have z0 := fz 0
    have z1 := fz 1
    have z2 := fz 2
    have z3 := fz 3
    have z4 := fz 4
    have z5 := fz 5
    have z6 := fz 6
    have z7 := fz 7
    have z8 := fz 8
    have z9 := fz 9
    have z10 := fz 10
    obtain ⟨d0, d1, d2, d3, d4, d5, d6, d7, d8, d9, d10⟩ := pm_cells HP4.out
    clear fz
    go_wp2_with fail
    exact bodyPost_ret (v := .tuple #[stV x.h x.b x.e x.s, .bool false]) (by simp [results, Tryz.results131, go_sem, stV, y0, y1, y2, y3, y4, y5, y6, y7, y8, y9, y10]) rfl (sta_no HP4.out (HF4.out.gr HP2.out.2.1 (by have := HLT.out; omega)) HLT.out.1)
  | ok y q =>
    rintro e w4 ⟨rfl, ⟨s, h2⟩, h3⟩
    have HP4 := Lib.hid h2
    have HF4 := Lib.hid (HF3.out.trans h3)
    clear h2 h3
    have HZ4 := Lib.hid (fr_kept HF4.out HP2.out.2.2.1 (by have := HLT.out; omega) (by have := HLT.out; omega))
    obtain ⟨⟨y0, y1, y2, y3, y4, y5, y6, y7, y8, y9, y10⟩, fz⟩ := z11 HZ4.out
    have z0 := fz 0
    have z1 := fz 1
    have z2 := fz 2
    have z3 := fz 3
    have z4 := fz 4
    have z5 := fz 5
    have z6 := fz 6
    have z7 := fz 7
    have z8 := fz 8
    have z9 := fz 9
    have z10 := fz 10
    obtain ⟨d0, d1, d2, d3, d4, d5, d6, d7, d8, d9, d10⟩ := pm_cells HP4.out
    clear fz
    go_wp2_with fail
    exact bodyPost_ret (v := .tuple #[stV y.h y.b y.e s, .bool true]) (by simp [results, Tryz.results131, go_sem, stV, y0, y1, y2, y3, y4, y5, y6, y7, y8, y9, y10]) rfl (sta_ok HP4.out (HF4.out.gr HP2.out.2.1 (by have := HLT.out; omega)) HLT.out.1 (by have := HLT.out; omega))
theorem eq_namedBlock (w : World) : (binOp .eql 187 (.func (.func 171) #[] #[]) .nilFunc).run Tryz.prog w = .ok (.bool false) w := by kernel_rfl
set_option maxHeartbeats 4000000 in
set_option maxRecDepth 100000 in
theorem statement_namedBlock (R : Rp) (ts : Toks) (w : World) (hI : RdI w R ts) (h3 : (nextK ts == 3) = true) (op : Int) (hop : I64 op)
    (HRE : Hid (∀ w, Calls Tryz.prog 151 #[.string (tx (nextT ts))] w fun e w' => e = .returned (.tuple #[.int .i64 op, .func (.func 171) #[] #[]]) ∧ w = w')) (res : Res Sx)
    (HC : Hid (∀ gt W, Pm R (gt + 1) (gt + 2) W ⟨hd op ((nextL ts : Nat) : Int), .nil, .nil, zS⟩ ts.tail → Calls Tryz.prog 171 #[.pointer (some ⟨R.br, 0, none⟩), .pointer (some ⟨gt + 1, 0, none⟩)] W (StmP R (gt + 1) (gt + 2) W res))) :
    Calls Tryz.prog 131 #[.pointer (some ⟨R.br, 0, none⟩)] w (StaP R w (res.map toL)) := by
  have hk : nextK ts = 3 := by simpa using h3
  obtain ⟨t0, r0, hr⟩ := kw_pos h3
  have HR0 := Lib.hid hr
  have HOP := Lib.hid hop
  clear h3 hr hop
  have hnf := eq_namedBlock
  have HI := Lib.hid hI
  have HL := Lib.hid (line_i64 hI)
  have hlt := hI.lt
  go_enter Tryz.func131, Tryz.ntmps131
  go_upto_region 1 with fail
  generalize hW : World.alloc w _ = W0
  have HB0 : Hid (Below w.heap.size w W0) := Lib.hid (by rw [← hW]; exact alloc_below _ _)
  have HZ0 : Hid (W0.heap[w.heap.size]? = some (.cells zSt11 91 (0, 0))) := Lib.hid (by rw [← hW]; exact heap_alloc_new _ _)
  have HN := Lib.hid (next_any R ts W0 (HI.out.below HB0.out))
  unfold tokV at HN
  rw [hk] at HN
  clear hW hI hk
  go_wp2_with fail
  refine HN.out.mono ?_
  rintro e w1 ⟨rfl, h2⟩
  have HB1 := Lib.hid (HB0.out.trans (h2.mono HB0.out.size))
  have HZ1 := Lib.hid ((h2.block _ (Array.getElem?_eq_some_iff.1 HZ0.out).1).trans HZ0.out)
  clear h2 HN HB0 HZ0
  go_upto_region 3 with fail
  obtain ⟨gt, hg⟩ : ∃ g, w1.heap.size = g := ⟨_, rfl⟩
  rw [hg]
  generalize hW : World.alloc (World.alloc w1 _) _ = W2
  have HP2 := Lib.hid (sta_head HI.out HB1.out HZ1.out HL.out gt hg W2 hW)
  have e0 := HP2.out.2.2.2.1
  have e1 := HP2.out.2.2.2.2.1
  have HLT : Hid (R.br < w.heap.size ∧ w.heap.size < gt) := Lib.hid ⟨hlt, HP2.out.2.2.2.2.2⟩
  clear hW hg HB1 HZ1
  go_wp2_with fail
  refine (HRE.out _).mono ?_
  rintro e w3 ⟨rfl, rfl⟩
  have f0 := HP2.out.1.free 0
  have c0 := HP2.out.1.cell (j := 0) rfl
  go_upto_region 13 with fail
  generalize hW : World.setCell W2 _ _ = W3
  have HP3 : Hid (Pm R (gt + 1) (gt + 2) W3 ⟨hd op ((nextL ts : Nat) : Int), .nil, .nil, zS⟩ ts) := Lib.hid (by rw [← hW]; exact HP2.out.1.op op HOP.out)
  have HF2 : Hid (Fr R.br (gt + 1) W2 W3) := Lib.hid (by rw [← hW]; exact (Fr.refl _ _ _).set _ _ (.inl rfl))
  obtain ⟨pos, hp, q0, q1, fq, HX⟩ := HP3.out.rd.open
  clear hW f0 c0 e0 e1 hnf HRE
  go_upto_region 14 with fail
  generalize hW : World.setCell W3 _ _ = W4
  have HQ : Hid (RdI W4 R ts.tail ∧ W3.grownBy W4 (some R.br)) := Lib.hid (by rw [← hW, HR0.out]; exact HX.out t0 r0 HR0.out)
  have HP4 := Lib.hid (HP3.out.then HQ.out.1 HQ.out.2)
  have HF3 := Lib.hid (HF2.out.trans (Fr.of_gr HQ.out.2))
  clear hW q0 q1 fq HX HP3 HQ HF2
  go_wp2_with fail
  refine (HC.out gt _ HP4.out).mono ?_
  cases res with
  | no q =>
    rintro e w4 ⟨rfl, ⟨x, h2⟩, h3⟩
    have HP4 := Lib.hid h2
    have HF4 := Lib.hid (HF3.out.trans h3)
    clear h2 h3
    have HZ4 := Lib.hid (fr_kept HF4.out HP2.out.2.2.1 (by have := HLT.out; omega) (by have := HLT.out; omega))
    obtain ⟨⟨y0, y1, y2, y3, y4, y5, y6, y7, y8, y9, y10⟩, fz⟩ := z11 HZ4.out
    have z0 := fz 0
    have z1 := fz 1
    have z2 := fz 2
    have z3 := fz 3
    have z4 := fz 4
    have z5 := fz 5
    have z6 := fz 6
    have z7 := fz 7
    have z8 := fz 8
    have z9 := fz 9
    have z10 := fz 10
    obtain ⟨d0, d1, d2, d3, d4, d5, d6, d7, d8, d9, d10⟩ := pm_cells HP4.out
    clear fz
    go_wp2_with fail
    exact bodyPost_ret (v := .tuple #[stV x.h x.b x.e x.s, .bool false]) (by simp [results, Tryz.results131, go_sem, stV, y0, y1, y2, y3, y4, y5, y6, y7, y8, y9, y10]) rfl (sta_no HP4.out (HF4.out.gr HP2.out.2.1 (by have := HLT.out; omega)) HLT.out.1)
  | ok y q =>
    rintro e w4 ⟨rfl, ⟨s, h2⟩, h3⟩
    have HP4 := Lib.hid h2
    have HF4 := Lib.hid (HF3.out.trans h3)
    clear h2 h3
    have HZ4 := Lib.hid (fr_kept HF4.out HP2.out.2.2.1 (by have := HLT.out; omega) (by have := HLT.out; omega))
    obtain ⟨⟨y0, y1, y2, y3, y4, y5, y6, y7, y8, y9, y10⟩, fz⟩ := z11 HZ4.out
    have z0 := fz 0
    have z1 := fz 1
    have z2 := fz 2
    have z3 := fz 3
    have z4 := fz 4
    have z5 := fz 5
    have z6 := fz 6
    have z7 := fz 7
    have z8 := fz 8
    have z9 := fz 9
    have z10 := fz 10
    obtain ⟨d0, d1, d2, d3, d4, d5, d6, d7, d8, d9, d10⟩ := pm_cells HP4.out
    clear fz
    go_wp2_with fail
    exact bodyPost_ret (v := .tuple #[stV y.h y.b y.e s, .bool true]) (by simp [results, Tryz.results131, go_sem, stV, y0, y1, y2, y3, y4, y5, y6, y7, y8, y9, y10]) rfl (sta_ok HP4.out (HF4.out.gr HP2.out.2.1 (by have := HLT.out; omega)) HLT.out.1 (by have := HLT.out; omega))
theorem eq_plainBlock (w : World) : (binOp .eql 187 (.func (.func 172) #[] #[]) .nilFunc).run Tryz.prog w = .ok (.bool false) w := by kernel_rfl
set_option maxHeartbeats 4000000 in
set_option maxRecDepth 100000 in
theorem statement_plainBlock (R : Rp) (ts : Toks) (w : World) (hI : RdI w R ts) (h3 : (nextK ts == 3) = true) (op : Int) (hop : I64 op)
    (HRE : Hid (∀ w, Calls Tryz.prog 151 #[.string (tx (nextT ts))] w fun e w' => e = .returned (.tuple #[.int .i64 op, .func (.func 172) #[] #[]]) ∧ w = w')) (res : Res Sx)
    (HC : Hid (∀ gt W, Pm R (gt + 1) (gt + 2) W ⟨hd op ((nextL ts : Nat) : Int), .nil, .nil, zS⟩ ts.tail → Calls Tryz.prog 172 #[.pointer (some ⟨R.br, 0, none⟩), .pointer (some ⟨gt + 1, 0, none⟩)] W (StmP R (gt + 1) (gt + 2) W res))) :
    Calls Tryz.prog 131 #[.pointer (some ⟨R.br, 0, none⟩)] w (StaP R w (res.map toL)) := by
  have hk : nextK ts = 3 := by simpa using h3
  obtain ⟨t0, r0, hr⟩ := kw_pos h3
  have HR0 := Lib.hid hr
  have HOP := Lib.hid hop
  clear h3 hr hop
  have hnf := eq_plainBlock
  have HI := Lib.hid hI
  have HL := Lib.hid (line_i64 hI)
  have hlt := hI.lt
  go_enter Tryz.func131, Tryz.ntmps131
  go_upto_region 1 with fail
  generalize hW : World.alloc w _ = W0
  have HB0 : Hid (Below w.heap.size w W0) := Lib.hid (by rw [← hW]; exact alloc_below _ _)
  have HZ0 : Hid (W0.heap[w.heap.size]? = some (.cells zSt11 91 (0, 0))) := Lib.hid (by rw [← hW]; exact heap_alloc_new _ _)
  have HN := Lib.hid (next_any R ts W0 (HI.out.below HB0.out))
  unfold tokV at HN
  rw [hk] at HN
  clear hW hI hk
  go_wp2_with fail
  refine HN.out.mono ?_
  rintro e w1 ⟨rfl, h2⟩
  have HB1 := Lib.hid (HB0.out.trans (h2.mono HB0.out.size))
  have HZ1 := Lib.hid ((h2.block _ (Array.getElem?_eq_some_iff.1 HZ0.out).1).trans HZ0.out)
  clear h2 HN HB0 HZ0
  go_upto_region 3 with fail
  obtain ⟨gt, hg⟩ : ∃ g, w1.heap.size = g := ⟨_, rfl⟩
  rw [hg]
  generalize hW : World.alloc (World.alloc w1 _) _ = W2
  have HP2 := Lib.hid (sta_head HI.out HB1.out HZ1.out HL.out gt hg W2 hW)
  have e0 := HP2.out.2.2.2.1
  have e1 := HP2.out.2.2.2.2.1
  have HLT : Hid (R.br < w.heap.size ∧ w.heap.size < gt) := Lib.hid ⟨hlt, HP2.out.2.2.2.2.2⟩
  clear hW hg HB1 HZ1
  go_wp2_with fail
  refine (HRE.out _).mono ?_
  rintro e w3 ⟨rfl, rfl⟩
  have f0 := HP2.out.1.free 0
  have c0 := HP2.out.1.cell (j := 0) rfl
  go_upto_region 13 with fail
  generalize hW : World.setCell W2 _ _ = W3
  have HP3 : Hid (Pm R (gt + 1) (gt + 2) W3 ⟨hd op ((nextL ts : Nat) : Int), .nil, .nil, zS⟩ ts) := Lib.hid (by rw [← hW]; exact HP2.out.1.op op HOP.out)
  have HF2 : Hid (Fr R.br (gt + 1) W2 W3) := Lib.hid (by rw [← hW]; exact (Fr.refl _ _ _).set _ _ (.inl rfl))
  obtain ⟨pos, hp, q0, q1, fq, HX⟩ := HP3.out.rd.open
  clear hW f0 c0 e0 e1 hnf HRE
  go_upto_region 14 with fail
  generalize hW : World.setCell W3 _ _ = W4
  have HQ : Hid (RdI W4 R ts.tail ∧ W3.grownBy W4 (some R.br)) := Lib.hid (by rw [← hW, HR0.out]; exact HX.out t0 r0 HR0.out)
  have HP4 := Lib.hid (HP3.out.then HQ.out.1 HQ.out.2)
  have HF3 := Lib.hid (HF2.out.trans (Fr.of_gr HQ.out.2))
  clear hW q0 q1 fq HX HP3 HQ HF2
  go_wp2_with fail
  refine (HC.out gt _ HP4.out).mono ?_
  cases res with
  | no q =>
    rintro e w4 ⟨rfl, ⟨x, h2⟩, h3⟩
    have HP4 := Lib.hid h2
    have HF4 := Lib.hid (HF3.out.trans h3)
    clear h2 h3
    have HZ4 := Lib.hid (fr_kept HF4.out HP2.out.2.2.1 (by have := HLT.out; omega) (by have := HLT.out; omega))
    obtain ⟨⟨y0, y1, y2, y3, y4, y5, y6, y7, y8, y9, y10⟩, fz⟩ := z11 HZ4.out
    have z0 := fz 0
    have z1 := fz 1
    have z2 := fz 2
    have z3 := fz 3
    have z4 := fz 4
    have z5 := fz 5
    have z6 := fz 6
    have z7 := fz 7
    have z8 := fz 8
    have z9 := fz 9
    have z10 := fz 10
    obtain ⟨d0, d1, d2, d3, d4, d5, d6, d7, d8, d9, d10⟩ := pm_cells HP4.out
    clear fz
    go_wp2_with fail
    exact bodyPost_ret (v := .tuple #[stV x.h x.b x.e x.s, .bool false]) (by simp [results, Tryz.results131, go_sem, stV, y0, y1, y2, y3, y4, y5, y6, y7, y8, y9, y10]) rfl (sta_no HP4.out (HF4.out.gr HP2.out.2.1 (by have := HLT.out; omega)) HLT.out.1)
  | ok y q =>
    rintro e w4 ⟨rfl, ⟨s, h2⟩, h3⟩
    have HP4 := Lib.hid h2
    have HF4 := Lib.hid (HF3.out.trans h3)
    clear h2 h3
    have HZ4 := Lib.hid (fr_kept HF4.out HP2.out.2.2.1 (by have := HLT.out; omega) (by have := HLT.out; omega))
    obtain ⟨⟨y0, y1, y2, y3, y4, y5, y6, y7, y8, y9, y10⟩, fz⟩ := z11 HZ4.out
    have z0 := fz 0
    have z1 := fz 1
    have z2 := fz 2
    have z3 := fz 3
    have z4 := fz 4
    have z5 := fz 5
    have z6 := fz 6
    have z7 := fz 7
    have z8 := fz 8
    have z9 := fz 9
    have z10 := fz 10
    obtain ⟨d0, d1, d2, d3, d4, d5, d6, d7, d8, d9, d10⟩ := pm_cells HP4.out
    clear fz
    go_wp2_with fail
    exact bodyPost_ret (v := .tuple #[stV y.h y.b y.e s, .bool true]) (by simp [results, Tryz.results131, go_sem, stV, y0, y1, y2, y3, y4, y5, y6, y7, y8, y9, y10]) rfl (sta_ok HP4.out (HF4.out.gr HP2.out.2.1 (by have := HLT.out; omega)) HLT.out.1 (by have := HLT.out; omega))
theorem eq_named (w : World) : (binOp .eql 187 (.func (.func 173) #[] #[]) .nilFunc).run Tryz.prog w = .ok (.bool false) w := by kernel_rfl
set_option maxHeartbeats 4000000 in
set_option maxRecDepth 100000 in
theorem statement_named (R : Rp) (ts : Toks) (w : World) (hI : RdI w R ts) (h3 : (nextK ts == 3) = true) (op : Int) (hop : I64 op)
    (HRE : Hid (∀ w, Calls Tryz.prog 151 #[.string (tx (nextT ts))] w fun e w' => e = .returned (.tuple #[.int .i64 op, .func (.func 173) #[] #[]]) ∧ w = w')) (res : Res Sx)
    (HC : Hid (∀ gt W, Pm R (gt + 1) (gt + 2) W ⟨hd op ((nextL ts : Nat) : Int), .nil, .nil, zS⟩ ts.tail → Calls Tryz.prog 173 #[.pointer (some ⟨R.br, 0, none⟩), .pointer (some ⟨gt + 1, 0, none⟩)] W (StmP R (gt + 1) (gt + 2) W res))) :
    Calls Tryz.prog 131 #[.pointer (some ⟨R.br, 0, none⟩)] w (StaP R w (res.map toL)) := by
  have hk : nextK ts = 3 := by simpa using h3
  obtain ⟨t0, r0, hr⟩ := kw_pos h3
  have HR0 := Lib.hid hr
  have HOP := Lib.hid hop
  clear h3 hr hop
  have hnf := eq_named
  have HI := Lib.hid hI
  have HL := Lib.hid (line_i64 hI)
  have hlt := hI.lt
  go_enter Tryz.func131, Tryz.ntmps131
  go_upto_region 1 with fail
  generalize hW : World.alloc w _ = W0
  have HB0 : Hid (Below w.heap.size w W0) := Lib.hid (by rw [← hW]; exact alloc_below _ _)
  have HZ0 : Hid (W0.heap[w.heap.size]? = some (.cells zSt11 91 (0, 0))) := Lib.hid (by rw [← hW]; exact heap_alloc_new _ _)
  have HN := Lib.hid (next_any R ts W0 (HI.out.below HB0.out))
  unfold tokV at HN
  rw [hk] at HN
  clear hW hI hk
  go_wp2_with fail
  refine HN.out.mono ?_
  rintro e w1 ⟨rfl, h2⟩
  have HB1 := Lib.hid (HB0.out.trans (h2.mono HB0.out.size))
  have HZ1 := Lib.hid ((h2.block _ (Array.getElem?_eq_some_iff.1 HZ0.out).1).trans HZ0.out)
  clear h2 HN HB0 HZ0
  go_upto_region 3 with fail
  obtain ⟨gt, hg⟩ : ∃ g, w1.heap.size = g := ⟨_, rfl⟩
  rw [hg]
  generalize hW : World.alloc (World.alloc w1 _) _ = W2
  have HP2 := Lib.hid (sta_head HI.out HB1.out HZ1.out HL.out gt hg W2 hW)
  have e0 := HP2.out.2.2.2.1
  have e1 := HP2.out.2.2.2.2.1
  have HLT : Hid (R.br < w.heap.size ∧ w.heap.size < gt) := Lib.hid ⟨hlt, HP2.out.2.2.2.2.2⟩
  clear hW hg HB1 HZ1
  go_wp2_with fail
  refine (HRE.out _).mono ?_
  rintro e w3 ⟨rfl, rfl⟩
  have f0 := HP2.out.1.free 0
  have c0 := HP2.out.1.cell (j := 0) rfl
  go_upto_region 13 with fail
  generalize hW : World.setCell W2 _ _ = W3
  have HP3 : Hid (Pm R (gt + 1) (gt + 2) W3 ⟨hd op ((nextL ts : Nat) : Int), .nil, .nil, zS⟩ ts) := Lib.hid (by rw [← hW]; exact HP2.out.1.op op HOP.out)
  have HF2 : Hid (Fr R.br (gt + 1) W2 W3) := Lib.hid (by rw [← hW]; exact (Fr.refl _ _ _).set _ _ (.inl rfl))
  obtain ⟨pos, hp, q0, q1, fq, HX⟩ := HP3.out.rd.open
  clear hW f0 c0 e0 e1 hnf HRE
  go_upto_region 14 with fail
  generalize hW : World.setCell W3 _ _ = W4
  have HQ : Hid (RdI W4 R ts.tail ∧ W3.grownBy W4 (some R.br)) := Lib.hid (by rw [← hW, HR0.out]; exact HX.out t0 r0 HR0.out)
  have HP4 := Lib.hid (HP3.out.then HQ.out.1 HQ.out.2)
  have HF3 := Lib.hid (HF2.out.trans (Fr.of_gr HQ.out.2))
  clear hW q0 q1 fq HX HP3 HQ HF2
  go_wp2_with fail
  refine (HC.out gt _ HP4.out).mono ?_
  cases res with
  | no q =>
    rintro e w4 ⟨rfl, ⟨x, h2⟩, h3⟩
    have HP4 := Lib.hid h2
    have HF4 := Lib.hid (HF3.out.trans h3)
    clear h2 h3
    have HZ4 := Lib.hid (fr_kept HF4.out HP2.out.2.2.1 (by have := HLT.out; omega) (by have := HLT.out; omega))
    obtain ⟨⟨y0, y1, y2, y3, y4, y5, y6, y7, y8, y9, y10⟩, fz⟩ := z11 HZ4.out
    have z0 := fz 0
    have z1 := fz 1
    have z2 := fz 2
    have z3 := fz 3
    have z4 := fz 4
    have z5 := fz 5
    have z6 := fz 6
    have z7 := fz 7
    have z8 := fz 8
    have z9 := fz 9
    have z10 := fz 10
    obtain ⟨d0, d1, d2, d3, d4, d5, d6, d7, d8, d9, d10⟩ := pm_cells HP4.out
    clear fz
    go_wp2_with fail
    exact bodyPost_ret (v := .tuple #[stV x.h x.b x.e x.s, .bool false]) (by simp [results, Tryz.results131, go_sem, stV, y0, y1, y2, y3, y4, y5, y6, y7, y8, y9, y10]) rfl (sta_no HP4.out (HF4.out.gr HP2.out.2.1 (by have := HLT.out; omega)) HLT.out.1)
  | ok y q =>
    rintro e w4 ⟨rfl, ⟨s, h2⟩, h3⟩
    have HP4 := Lib.hid h2
    have HF4 := Lib.hid (HF3.out.trans h3)
    clear h2 h3
    have HZ4 := Lib.hid (fr_kept HF4.out HP2.out.2.2.1 (by have := HLT.out; omega) (by have := HLT.out; omega))
    obtain ⟨⟨y0, y1, y2, y3, y4, y5, y6, y7, y8, y9, y10⟩, fz⟩ := z11 HZ4.out
    have z0 := fz 0
    have z1 := fz 1
    have z2 := fz 2
    have z3 := fz 3
    have z4 := fz 4
    have z5 := fz 5
    have z6 := fz 6
    have z7 := fz 7
    have z8 := fz 8
    have z9 := fz 9
    have z10 := fz 10
    obtain ⟨d0, d1, d2, d3, d4, d5, d6, d7, d8, d9, d10⟩ := pm_cells HP4.out
    clear fz
    go_wp2_with fail
    exact bodyPost_ret (v := .tuple #[stV y.h y.b y.e s, .bool true]) (by simp [results, Tryz.results131, go_sem, stV, y0, y1, y2, y3, y4, y5, y6, y7, y8, y9, y10]) rfl (sta_ok HP4.out (HF4.out.gr HP2.out.2.1 (by have := HLT.out; omega)) HLT.out.1 (by have := HLT.out; omega))
theorem eq_setting (w : World) : (binOp .eql 187 (.func (.func 174) #[] #[]) .nilFunc).run Tryz.prog w = .ok (.bool false) w := by kernel_rfl
set_option maxHeartbeats 4000000 in
set_option maxRecDepth 100000 in
theorem statement_setting (R : Rp) (ts : Toks) (w : World) (hI : RdI w R ts) (h3 : (nextK ts == 3) = true) (op : Int) (hop : I64 op)
    (HRE : Hid (∀ w, Calls Tryz.prog 151 #[.string (tx (nextT ts))] w fun e w' => e = .returned (.tuple #[.int .i64 op, .func (.func 174) #[] #[]]) ∧ w = w')) (res : Res Sx)
    (HC : Hid (∀ gt W, Pm R (gt + 1) (gt + 2) W ⟨hd op ((nextL ts : Nat) : Int), .nil, .nil, zS⟩ ts.tail → Calls Tryz.prog 174 #[.pointer (some ⟨R.br, 0, none⟩), .pointer (some ⟨gt + 1, 0, none⟩)] W (StmP R (gt + 1) (gt + 2) W res))) :
    Calls Tryz.prog 131 #[.pointer (some ⟨R.br, 0, none⟩)] w (StaP R w (res.map toL)) := by
  have hk : nextK ts = 3 := by simpa using h3
  obtain ⟨t0, r0, hr⟩ := kw_pos h3
  have HR0 := Lib.hid hr
  have HOP := Lib.hid hop
  clear h3 hr hop
  have hnf := eq_setting
  have HI := Lib.hid hI
  have HL := Lib.hid (line_i64 hI)
  have hlt := hI.lt
  go_enter Tryz.func131, Tryz.ntmps131
  go_upto_region 1 with fail
  generalize hW : World.alloc w _ = W0
  have HB0 : Hid (Below w.heap.size w W0) := Lib.hid (by rw [← hW]; exact alloc_below _ _)
  have HZ0 : Hid (W0.heap[w.heap.size]? = some (.cells zSt11 91 (0, 0))) := Lib.hid (by rw [← hW]; exact heap_alloc_new _ _)
  have HN := Lib.hid (next_any R ts W0 (HI.out.below HB0.out))
  unfold tokV at HN
  rw [hk] at HN
  clear hW hI hk
  go_wp2_with fail
  refine HN.out.mono ?_
  rintro e w1 ⟨rfl, h2⟩
  have HB1 := Lib.hid (HB0.out.trans (h2.mono HB0.out.size))
  have HZ1 := Lib.hid ((h2.block _ (Array.getElem?_eq_some_iff.1 HZ0.out).1).trans HZ0.out)
  clear h2 HN HB0 HZ0
  go_upto_region 3 with fail
  obtain ⟨gt, hg⟩ : ∃ g, w1.heap.size = g := ⟨_, rfl⟩
  rw [hg]
  generalize hW : World.alloc (World.alloc w1 _) _ = W2
  have HP2 := Lib.hid (sta_head HI.out HB1.out HZ1.out HL.out gt hg W2 hW)
  have e0 := HP2.out.2.2.2.1
  have e1 := HP2.out.2.2.2.2.1
  have HLT : Hid (R.br < w.heap.size ∧ w.heap.size < gt) := Lib.hid ⟨hlt, HP2.out.2.2.2.2.2⟩
  clear hW hg HB1 HZ1
  go_wp2_with fail
  refine (HRE.out _).mono ?_
  rintro e w3 ⟨rfl, rfl⟩
  have f0 := HP2.out.1.free 0
  have c0 := HP2.out.1.cell (j := 0) rfl
  go_upto_region 13 with fail
  generalize hW : World.setCell W2 _ _ = W3
  have HP3 : Hid (Pm R (gt + 1) (gt + 2) W3 ⟨hd op ((nextL ts : Nat) : Int), .nil, .nil, zS⟩ ts) := Lib.hid (by rw [← hW]; exact HP2.out.1.op op HOP.out)
  have HF2 : Hid (Fr R.br (gt + 1) W2 W3) := Lib.hid (by rw [← hW]; exact (Fr.refl _ _ _).set _ _ (.inl rfl))
  obtain ⟨pos, hp, q0, q1, fq, HX⟩ := HP3.out.rd.open
  clear hW f0 c0 e0 e1 hnf HRE
  go_upto_region 14 with fail
  generalize hW : World.setCell W3 _ _ = W4
  have HQ : Hid (RdI W4 R ts.tail ∧ W3.grownBy W4 (some R.br)) := Lib.hid (by rw [← hW, HR0.out]; exact HX.out t0 r0 HR0.out)
  have HP4 := Lib.hid (HP3.out.then HQ.out.1 HQ.out.2)
  have HF3 := Lib.hid (HF2.out.trans (Fr.of_gr HQ.out.2))
  clear hW q0 q1 fq HX HP3 HQ HF2
  go_wp2_with fail
  refine (HC.out gt _ HP4.out).mono ?_
  cases res with
  | no q =>
    rintro e w4 ⟨rfl, ⟨x, h2⟩, h3⟩
    have HP4 := Lib.hid h2
    have HF4 := Lib.hid (HF3.out.trans h3)
    clear h2 h3
    have HZ4 := Lib.hid (fr_kept HF4.out HP2.out.2.2.1 (by have := HLT.out; omega) (by have := HLT.out; omega))
    obtain ⟨⟨y0, y1, y2, y3, y4, y5, y6, y7, y8, y9, y10⟩, fz⟩ := z11 HZ4.out
    have z0 := fz 0
    have z1 := fz 1
    have z2 := fz 2
    have z3 := fz 3
    have z4 := fz 4
    have z5 := fz 5
    have z6 := fz 6
    have z7 := fz 7
    have z8 := fz 8
    have z9 := fz 9
    have z10 := fz 10
    obtain ⟨d0, d1, d2, d3, d4, d5, d6, d7, d8, d9, d10⟩ := pm_cells HP4.out
    clear fz
    go_wp2_with fail
    exact bodyPost_ret (v := .tuple #[stV x.h x.b x.e x.s, .bool false]) (by simp [results, Tryz.results131, go_sem, stV, y0, y1, y2, y3, y4, y5, y6, y7, y8, y9, y10]) rfl (sta_no HP4.out (HF4.out.gr HP2.out.2.1 (by have := HLT.out; omega)) HLT.out.1)
  | ok y q =>
    rintro e w4 ⟨rfl, ⟨s, h2⟩, h3⟩
    have HP4 := Lib.hid h2
    have HF4 := Lib.hid (HF3.out.trans h3)
    clear h2 h3
    have HZ4 := Lib.hid (fr_kept HF4.out HP2.out.2.2.1 (by have := HLT.out; omega) (by have := HLT.out; omega))
    obtain ⟨⟨y0, y1, y2, y3, y4, y5, y6, y7, y8, y9, y10⟩, fz⟩ := z11 HZ4.out
    have z0 := fz 0
    have z1 := fz 1
    have z2 := fz 2
    have z3 := fz 3
    have z4 := fz 4
    have z5 := fz 5
    have z6 := fz 6
    have z7 := fz 7
    have z8 := fz 8
    have z9 := fz 9
    have z10 := fz 10
    obtain ⟨d0, d1, d2, d3, d4, d5, d6, d7, d8, d9, d10⟩ := pm_cells HP4.out
    clear fz
    go_wp2_with fail
    exact bodyPost_ret (v := .tuple #[stV y.h y.b y.e s, .bool true]) (by simp [results, Tryz.results131, go_sem, stV, y0, y1, y2, y3, y4, y5, y6, y7, y8, y9, y10]) rfl (sta_ok HP4.out (HF4.out.gr HP2.out.2.1 (by have := HLT.out; omega)) HLT.out.1 (by have := HLT.out; omega))
theorem eq_getting (w : World) : (binOp .eql 187 (.func (.func 175) #[] #[]) .nilFunc).run Tryz.prog w = .ok (.bool false) w := by kernel_rfl
set_option maxHeartbeats 4000000 in
set_option maxRecDepth 100000 in
theorem statement_getting (R : Rp) (ts : Toks) (w : World) (hI : RdI w R ts) (h3 : (nextK ts == 3) = true) (op : Int) (hop : I64 op)
    (HRE : Hid (∀ w, Calls Tryz.prog 151 #[.string (tx (nextT ts))] w fun e w' => e = .returned (.tuple #[.int .i64 op, .func (.func 175) #[] #[]]) ∧ w = w')) (res : Res Sx)
    (HC : Hid (∀ gt W, Pm R (gt + 1) (gt + 2) W ⟨hd op ((nextL ts : Nat) : Int), .nil, .nil, zS⟩ ts.tail → Calls Tryz.prog 175 #[.pointer (some ⟨R.br, 0, none⟩), .pointer (some ⟨gt + 1, 0, none⟩)] W (StmP R (gt + 1) (gt + 2) W res))) :
    Calls Tryz.prog 131 #[.pointer (some ⟨R.br, 0, none⟩)] w (StaP R w (res.map toL)) := by
  have hk : nextK ts = 3 := by simpa using h3
  obtain ⟨t0, r0, hr⟩ := kw_pos h3
  have HR0 := Lib.hid hr
  have HOP := Lib.hid hop
  clear h3 hr hop
  have hnf := eq_getting
  have HI := Lib.hid hI
  have HL := Lib.hid (line_i64 hI)
  have hlt := hI.lt
  go_enter Tryz.func131, Tryz.ntmps131
  go_upto_region 1 with fail
  generalize hW : World.alloc w _ = W0
  have HB0 : Hid (Below w.heap.size w W0) := Lib.hid (by rw [← hW]; exact alloc_below _ _)
  have HZ0 : Hid (W0.heap[w.heap.size]? = some (.cells zSt11 91 (0, 0))) := Lib.hid (by rw [← hW]; exact heap_alloc_new _ _)
  have HN := Lib.hid (next_any R ts W0 (HI.out.below HB0.out))
  unfold tokV at HN
  rw [hk] at HN
  clear hW hI hk
  go_wp2_with fail
  refine HN.out.mono ?_
  rintro e w1 ⟨rfl, h2⟩
  have HB1 := Lib.hid (HB0.out.trans (h2.mono HB0.out.size))
  have HZ1 := Lib.hid ((h2.block _ (Array.getElem?_eq_some_iff.1 HZ0.out).1).trans HZ0.out)
  clear h2 HN HB0 HZ0
  go_upto_region 3 with fail
  obtain ⟨gt, hg⟩ : ∃ g, w1.heap.size = g := ⟨_, rfl⟩
  rw [hg]
  generalize hW : World.alloc (World.alloc w1 _) _ = W2
  have HP2 := Lib.hid (sta_head HI.out HB1.out HZ1.out HL.out gt hg W2 hW)
  have e0 := HP2.out.2.2.2.1
  have e1 := HP2.out.2.2.2.2.1
  have HLT : Hid (R.br < w.heap.size ∧ w.heap.size < gt) := Lib.hid ⟨hlt, HP2.out.2.2.2.2.2⟩
  clear hW hg HB1 HZ1
  go_wp2_with fail
  refine (HRE.out _).mono ?_
  rintro e w3 ⟨rfl, rfl⟩
  have f0 := HP2.out.1.free 0
  have c0 := HP2.out.1.cell (j := 0) rfl
  go_upto_region 13 with fail
  generalize hW : World.setCell W2 _ _ = W3
  have HP3 : Hid (Pm R (gt + 1) (gt + 2) W3 ⟨hd op ((nextL ts : Nat) : Int), .nil, .nil, zS⟩ ts) := Lib.hid (by rw [← hW]; exact HP2.out.1.op op HOP.out)
  have HF2 : Hid (Fr R.br (gt + 1) W2 W3) := Lib.hid (by rw [← hW]; exact (Fr.refl _ _ _).set _ _ (.inl rfl))
  obtain ⟨pos, hp, q0, q1, fq, HX⟩ := HP3.out.rd.open
  clear hW f0 c0 e0 e1 hnf HRE
  go_upto_region 14 with fail
  generalize hW : World.setCell W3 _ _ = W4
  have HQ : Hid (RdI W4 R ts.tail ∧ W3.grownBy W4 (some R.br)) := Lib.hid (by rw [← hW, HR0.out]; exact HX.out t0 r0 HR0.out)
  have HP4 := Lib.hid (HP3.out.then HQ.out.1 HQ.out.2)
  have HF3 := Lib.hid (HF2.out.trans (Fr.of_gr HQ.out.2))
  clear hW q0 q1 fq HX HP3 HQ HF2
  go_wp2_with fail
  refine (HC.out gt _ HP4.out).mono ?_
  cases res with
  | no q =>
    rintro e w4 ⟨rfl, ⟨x, h2⟩, h3⟩
    have HP4 := Lib.hid h2
    have HF4 := Lib.hid (HF3.out.trans h3)
    clear h2 h3
    have HZ4 := Lib.hid (fr_kept HF4.out HP2.out.2.2.1 (by have := HLT.out; omega) (by have := HLT.out; omega))
    obtain ⟨⟨y0, y1, y2, y3, y4, y5, y6, y7, y8, y9, y10⟩, fz⟩ := z11 HZ4.out
    have z0 := fz 0
    have z1 := fz 1
    have z2 := fz 2
    have z3 := fz 3
    have z4 := fz 4
    have z5 := fz 5
    have z6 := fz 6
    have z7 := fz 7
    have z8 := fz 8
    have z9 := fz 9
    have z10 := fz 10
    obtain ⟨d0, d1, d2, d3, d4, d5, d6, d7, d8, d9, d10⟩ := pm_cells HP4.out
    clear fz
    go_wp2_with fail
    exact bodyPost_ret (v := .tuple #[stV x.h x.b x.e x.s, .bool false]) (by simp [results, Tryz.results131, go_sem, stV, y0, y1, y2, y3, y4, y5, y6, y7, y8, y9, y10]) rfl (sta_no HP4.out (HF4.out.gr HP2.out.2.1 (by have := HLT.out; omega)) HLT.out.1)
  | ok y q =>
    rintro e w4 ⟨rfl, ⟨s, h2⟩, h3⟩
    have HP4 := Lib.hid h2
    have HF4 := Lib.hid (HF3.out.trans h3)
    clear h2 h3
    have HZ4 := Lib.hid (fr_kept HF4.out HP2.out.2.2.1 (by have := HLT.out; omega) (by have := HLT.out; omega))
    obtain ⟨⟨y0, y1, y2, y3, y4, y5, y6, y7, y8, y9, y10⟩, fz⟩ := z11 HZ4.out
    have z0 := fz 0
    have z1 := fz 1
    have z2 := fz 2
    have z3 := fz 3
    have z4 := fz 4
    have z5 := fz 5
    have z6 := fz 6
    have z7 := fz 7
    have z8 := fz 8
    have z9 := fz 9
    have z10 := fz 10
    obtain ⟨d0, d1, d2, d3, d4, d5, d6, d7, d8, d9, d10⟩ := pm_cells HP4.out
    clear fz
    go_wp2_with fail
    exact bodyPost_ret (v := .tuple #[stV y.h y.b y.e s, .bool true]) (by simp [results, Tryz.results131, go_sem, stV, y0, y1, y2, y3, y4, y5, y6, y7, y8, y9, y10]) rfl (sta_ok HP4.out (HF4.out.gr HP2.out.2.1 (by have := HLT.out; omega)) HLT.out.1 (by have := HLT.out; omega))
theorem rest_to {ts : Toks} {op : Int} {v : Value} (h : stOf (nextT ts) = op) (hv : rdV op = v) : ∀ w, Calls Tryz.prog 151 #[.string (tx (nextT ts))] w fun e w' => e = .returned (.tuple #[.int .i64 op, v]) ∧ w = w' := fun w => by
  have := rest_any (tx (nextT ts)) (l := nextT ts) rfl w
  rw [h, hv] at this; exact this
/-- What reads a statement, given what reads blocks. -/
theorem statement_step (R : Rp) (f : Nat) (ts : Toks) (HBS : Hid (∀ q, q.length < ts.length → BlkSays R f q)) (w : World) (hI : RdI w R ts) :
    Calls Tryz.prog 131 #[.pointer (some ⟨R.br, 0, none⟩)] w (StaP R w (ps (f + 1) true ts)) := by
  cases h1 : (nextK ts == 1)
  · cases h3 : (nextK ts == 3)
    · exact statement_other R f ts w hI h1 h3
    · cases h0 : (stOf (nextT ts) == 0)
      · have hlt : ts.tail.length < ts.length := by obtain ⟨t, r, rfl⟩ := kw_pos h3; simp
        have HB1 : Hid (∀ q, q.length < ts.tail.length → BlkSays R f q) := Lib.hid (fun q hq => HBS.out q (by omega))
        have HB2 : Hid (BlkSays R f ts.tail) := Lib.hid (HBS.out _ hlt)
        have HB3 : Hid (isName ts.tail = true → BlkSays R f ts.tail.tail) := Lib.hid (fun hn => HBS.out _ (by have := name_len hn; omega))
        rw [ps_kw h1 h3 h0]
        have hr := stOf_op (nextT ts) h0
        have hi : I64 (stOf (nextT ts)) := by unfold I64; omega
        have hcs : stOf (nextT ts) = 2 ∨ stOf (nextT ts) = 3 ∨ stOf (nextT ts) = 4 ∨ stOf (nextT ts) = 5 ∨ stOf (nextT ts) = 6 ∨ stOf (nextT ts) = 7 ∨ stOf (nextT ts) = 8 ∨ stOf (nextT ts) = 9 ∨ stOf (nextT ts) = 10 ∨ stOf (nextT ts) = 11 ∨ stOf (nextT ts) = 12 ∨ stOf (nextT ts) = 13 ∨ stOf (nextT ts) = 14 ∨ stOf (nextT ts) = 15 := by omega
        rcases hcs with h | h | h | h | h | h | h | h | h | h | h | h | h | h <;> rw [h] at hi ⊢
        · exact statement_conditional R ts w hI h3 2 hi (Lib.hid (rest_to h rfl)) _ (Lib.hid fun gt W hP => cond_any R _ _ f ts.tail HB1 _ _ W hP)
        · exact statement_loop R ts w hI h3 3 hi (Lib.hid (rest_to h rfl)) _ (Lib.hid fun gt W hP => loop_any R _ _ f ts.tail HB1 _ _ W hP)
        · exact statement_namedBlock R ts w hI h3 4 hi (Lib.hid (rest_to h rfl)) _ (Lib.hid fun gt W hP => namedBlock_any R _ _ f ts.tail HB3 _ _ W hP)
        · exact statement_namedBlock R ts w hI h3 5 hi (Lib.hid (rest_to h rfl)) _ (Lib.hid fun gt W hP => namedBlock_any R _ _ f ts.tail HB3 _ _ W hP)
        · exact statement_namedBlock R ts w hI h3 6 hi (Lib.hid (rest_to h rfl)) _ (Lib.hid fun gt W hP => namedBlock_any R _ _ f ts.tail HB3 _ _ W hP)
        · exact statement_plainBlock R ts w hI h3 7 hi (Lib.hid (rest_to h rfl)) _ (Lib.hid fun gt W hP => plain_any R _ _ f ts.tail HB2 _ _ _ W hP)
        · exact statement_plainBlock R ts w hI h3 8 hi (Lib.hid (rest_to h rfl)) _ (Lib.hid fun gt W hP => plain_any R _ _ f ts.tail HB2 _ _ _ W hP)
        · exact statement_named R ts w hI h3 9 hi (Lib.hid (rest_to h rfl)) _ (Lib.hid fun gt W hP => named_any R _ _ ts.tail _ _ W hP)
        · exact statement_named R ts w hI h3 10 hi (Lib.hid (rest_to h rfl)) _ (Lib.hid fun gt W hP => named_any R _ _ ts.tail _ _ W hP)
        · exact statement_named R ts w hI h3 11 hi (Lib.hid (rest_to h rfl)) _ (Lib.hid fun gt W hP => named_any R _ _ ts.tail _ _ W hP)
        · exact statement_named R ts w hI h3 12 hi (Lib.hid (rest_to h rfl)) _ (Lib.hid fun gt W hP => named_any R _ _ ts.tail _ _ W hP)
        · exact statement_named R ts w hI h3 13 hi (Lib.hid (rest_to h rfl)) _ (Lib.hid fun gt W hP => named_any R _ _ ts.tail _ _ W hP)
        · exact statement_setting R ts w hI h3 14 hi (Lib.hid (rest_to h rfl)) _ (Lib.hid fun gt W hP => setting_any R _ _ ts.tail _ _ W hP)
        · exact statement_getting R ts w hI h3 15 hi (Lib.hid (rest_to h rfl)) _ (Lib.hid fun gt W hP => getting_any R _ _ ts.tail _ _ W hP)
      · exact statement_zero R f ts w hI h1 h3 h0
  · exact statement_name R f ts w hI h1
end Go.Proofs.YtommnhglgedflaaGreatDoor
