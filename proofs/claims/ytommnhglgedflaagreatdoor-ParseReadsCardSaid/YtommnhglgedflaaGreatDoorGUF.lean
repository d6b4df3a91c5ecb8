/-
  Contract of the second parser's assignment.
  Contract of the second parser's statement, out of that of block.
-/
import Derived.Test.YtommnhglgedflaaGreatDoorGUD
section
set_option linter.unusedSimpArgs false
set_option linter.unusedVariables false
namespace Go.Proofs.YtommnhglgedflaaGreatDoor
open Go.RowKit
open Md Pz
theorem pn_cells {R : Rp} {w : World} {bz bs B : Nat} {W : World} {x : StI} {s : St} (h : Pn R w bz bs B W x s) :
    W.cell? ⟨bs, 0, none⟩ = some (.int .i64 x.h.op) ∧ W.cell? ⟨bs, 1, none⟩ = some (.int .i64 x.h.line) ∧ W.cell? ⟨bs, 2, none⟩ = some (.string x.h.nm) ∧ W.cell? ⟨bs, 3, none⟩ = some (.string x.h.arg) ∧ W.cell? ⟨bs, 4, none⟩ = some (.slice x.s.aoi x.h.idx.len x.s.capi) ∧
    W.cell? ⟨bs, 5, none⟩ = some (.int .i64 x.h.xop) ∧ W.cell? ⟨bs, 6, none⟩ = some (.int .i64 x.h.xn) ∧ W.cell? ⟨bs, 7, none⟩ = some (.string x.h.xnm) ∧ W.cell? ⟨bs, 8, none⟩ = some (.slice x.s.aox x.h.xkids.len x.s.capx) ∧ W.cell? ⟨bs, 9, none⟩ = some (.slice x.s.aob x.b.len x.s.capb) ∧ W.cell? ⟨bs, 10, none⟩ = some (.slice x.s.aoe x.e.len x.s.cape) :=
  ⟨h.cell rfl, h.cell rfl, h.cell rfl, h.cell rfl, h.cell rfl, h.cell rfl, h.cell rfl, h.cell rfl, h.cell rfl, h.cell rfl, h.cell rfl⟩
theorem rsta_end {R : Rp} {w : World} {bz bs B : Nat} {W : World} {x : StI} {s : St} (h : Pn R w bz bs B W x s) :
    StaR R w (⟨x.h, x.b, x.e⟩, s) (.returned (stV x.h x.b x.e x.s)) (W.setCells bz 0 (StI.f x)) := by
  have hg := setCells_grown bz (StI.f x) 0 W
  have hl := h.lt
  have hb := R.b0
  exact ⟨⟨x.s, rfl, h.ok, (h.st.next (abv_gr hg hl.2.2.2.2.1)).mono (by omega)⟩, rf_grown h.rd hg (by omega) (by omega), gr_grown h.gr hg hl.2.2.2.1⟩
theorem hd_ok {op ln : Int} (h : I64 op) (hl : I64 ln) : StOk (hd op ln) .nil .nil := ⟨h, hl, Nat.zero_le _, Nat.zero_le _, Nat.zero_le _, ⟨i64_0, i64_0, Nat.zero_le _, Nat.zero_le _⟩, Nat.zero_le _, Nat.zero_le _⟩
theorem hd_in (B : Nat) (W : World) (op ln : Int) : Stay B W (StI.I ⟨hd op ln, .nil, .nil, zS⟩) := fun _ _ => ⟨trivial, trivial, trivial, trivial⟩
set_option maxHeartbeats 4000000 in
set_option maxRecDepth 100000 in
theorem rasg_any (R : Rp) (ln : Int) (hln : I64 ln) (s : St) (w : World) (hI : RfI w R s) :
    Calls Tryz.prog 133 #[.pointer (some ⟨R.br, 0, none⟩), stV (hd 0 ln) .nil .nil zS] w (StaR R w (asgSX R.ts (hd 0 ln) s)) := by
  have HI := Lib.hid hI
  have HL := Lib.hid hln
  obtain ⟨q, hq⟩ : ∃ q, nameS R.ts s = q := ⟨_, rfl⟩
  have HNM : Hid (q.1.size ≤ maxLen) := Lib.hid (by rw [← hq]; exact nameS_size hI.ts)
  have HRN : Hid (∀ w, RfI w R s → Calls Tryz.prog 77 #[.pointer (some ⟨R.br, 0, none⟩)] w (NmR R w q)) := Lib.hid (fun w h => by rw [← hq]; exact rname_any R s w h)
  clear hI hln
  unfold asgSX
  rw [hq]
  clear hq
  obtain ⟨nm, s1⟩ := q
  dsimp only
  cases h2 : at' [91] s1.toks
  · have hI2 : asgI R.ts { hd 0 ln with op := 1, nm := nm } s1 = ({ hd 0 ln with op := 1, nm := nm }, s1) := by unfold asgI; rw [if_neg (by rw [h2]; decide)]
    rw [hI2]
    unfold asgEX
    have HX : Hid (∀ w, RfI w R (wantS R.ts [61] s1) → Calls Tryz.prog 44 #[.pointer (some ⟨R.br, 0, none⟩), .int .i64 1] w (ExpR R w (exprT R.ts (wantS R.ts [61] s1)))) := Lib.hid (fun w h => rexpr_any R _ w h)
    clear hI2
    generalize exprT R.ts (wantS R.ts [61] s1) = res at *
    obtain ⟨x, s2⟩ := res
    unfold stV
    go_enter Tryz.func133, Tryz.ntmps133
    go_upto_region 1 with fail
    generalize hW : World.alloc (World.alloc w _) _ = W0
    have HP : Hid (Pn R w (w.heap.size + 1) w.heap.size (w.heap.size + 2) W0 ⟨hd 0 ln, .nil, .nil, zS⟩ s) := Lib.hid (by
      rw [← hW]
      exact ⟨rf_alloc (rf_alloc HI.out _) _, gr_alloc (gr_below (alloc_below _ _)) _, by have := HI.out.lt; omega, by simp, (heap_alloc_old _ _ (by simp)).trans (heap_alloc_new _ _), by
        have := heap_alloc_new (w.alloc (.cells (StI.f ⟨hd 0 ln, .nil, .nil, zS⟩).toArray 91)) (.cells zSt11 91)
        rw [show (w.alloc (.cells (StI.f ⟨hd 0 ln, .nil, .nil, zS⟩).toArray 91)).heap.size = w.heap.size + 1 by simp] at this
        exact this, hd_ok i64_0 HL.out, hd_in _ _ _ _⟩)
    clear hW
    have c0 := HP.out.cell (j := 0) rfl
    have f0 := HP.out.free 0
    go_upto_region 2 with fail
    generalize hW : World.setCell W0 _ _ = W1
    have HQ : Hid (Pn R w (w.heap.size + 1) w.heap.size (w.heap.size + 2) W1 ⟨hd 1 ln, .nil, .nil, zS⟩ s) := Lib.hid (by rw [← hW]; exact HP.out.op 1 (by unfold I64; decide))
    clear hW c0 f0 HP
    have HP := HQ
    clear HQ
    go_wp2_with fail
    refine (HRN.out _ HP.out.rd).mono ?_
    rintro e wn ⟨rfl, h2, h3⟩
    have HQ := Lib.hid (HP.out.then h2 h3)
    have c2 := HQ.out.cell (j := 2) rfl
    have f2 := HQ.out.free 2
    clear h2 h3 HP
    go_upto_region 3 with fail
    generalize hW : World.setCell wn _ _ = WN
    have HP : Hid (Pn R w (w.heap.size + 1) w.heap.size (w.heap.size + 2) WN ⟨{ hd 1 ln with nm := nm }, .nil, .nil, zS⟩ s1) := Lib.hid (by rw [← hW]; exact HQ.out.nm _ HNM.out)
    clear hW c2 f2 HQ
    go_wp2_with fail
    refine (is_b R s1 _ ⟨#[91]⟩ rfl h2 HP.out.rd).mono ?_
    rintro e w6 ⟨rfl, hb6⟩
    have HQ := Lib.hid (HP.out.below hb6)
    clear hb6 HP
    have HP := HQ
    clear HQ
    go_wp2_with fail
    refine (want_any R _ _ ⟨#[61]⟩ rfl HP.out.rd).mono ?_
    rintro e w9 ⟨rfl, h2, h3⟩
    have HQ := Lib.hid (HP.out.then h2 h3)
    clear h2 h3 HP
    have HP := HQ
    clear HQ
    go_wp2_with fail
    refine (HX.out _ HP.out.rd).mono ?_
    rintro e w3 ⟨v, rfl, hv, h2, h3⟩
    have HQ := Lib.hid (HP.out.then h2 h3)
    have HV := Lib.hid (hv.mono HP.out.sz)
    clear h2 h3 hv HP
    obtain ⟨aox, capx, rfl, hokx, hstx⟩ := HV.out
    have HE := Lib.hid (And.intro hokx hstx)
    clear hokx hstx HV
    have c5 := HQ.out.cell (j := 5) rfl
    have c6 := HQ.out.cell (j := 6) rfl
    have c7 := HQ.out.cell (j := 7) rfl
    have c8 := HQ.out.cell (j := 8) rfl
    have f5 := HQ.out.free 5
    have f6 := HQ.out.free 6
    have f7 := HQ.out.free 7
    have f8 := HQ.out.free 8
    unfold exV
    go_upto_region 9 with fail
    generalize hW : World.setCell (World.setCell (World.setCell (World.setCell w3 _ _) _ _) _ _) _ _ = WX
    have HP : Hid (Pn R w (w.heap.size + 1) w.heap.size (w.heap.size + 2) WX ⟨StH.ex { hd 1 ln with nm := nm } x, .nil, .nil, { zS with aox := aox, capx := capx }⟩ s2) := Lib.hid (by rw [← hW]; exact HQ.out.ex x aox capx HE.out.1 HE.out.2)
    clear hW c5 c6 c7 c8 f5 f6 f7 f8 HQ HE
    go_wp2_with fail
    refine (want_any R _ _ ⟨#[59]⟩ rfl HP.out.rd).mono ?_
    rintro e w9 ⟨rfl, h2, h3⟩
    have HQ := Lib.hid (HP.out.then h2 h3)
    clear h2 h3 HP
    have HP := HQ
    clear HQ
    obtain ⟨⟨y0, y1, y2, y3, y4, y5, y6, y7, y8, y9, y10⟩, fz⟩ := z11 HP.out.z
    have z0 := fz 0
    have z1 := fz 1
    have z2 := fz 2
    have z3 := fz 3
    have z4 := fz 4
    have z5 := fz 5
    have z6 := fz 6
    have z7 := fz 7
    have z8 := fz 8
    have z9 := fz 9
    have z10 := fz 10
    obtain ⟨d0, d1, d2, d3, d4, d5, d6, d7, d8, d9, d10⟩ := pn_cells HP.out
    clear fz
    go_wp2_with fail
    exact bodyPost_ret (v := stV _ _ _ _) (by simp [results, Tryz.results133, go_sem, stV, y0, y1, y2, y3, y4, y5, y6, y7, y8, y9, y10]) rfl (rsta_end HP.out)
  · have HNE := Lib.hid (toks_ne h2)
    have HX0 : Hid (∀ w, RfI w R s1.adv → Calls Tryz.prog 44 #[.pointer (some ⟨R.br, 0, none⟩), .int .i64 1] w (ExpR R w (exprT R.ts s1.adv))) := Lib.hid (fun w h => rexpr_any R _ w h)
    have hI2 : asgI R.ts { hd 0 ln with op := 1, nm := nm } s1 = ({ hd 1 ln with nm := nm, idx := .cons (exprT R.ts s1.adv).1.op (exprT R.ts s1.adv).1.n (exprT R.ts s1.adv).1.nm (exprT R.ts s1.adv).1.kids .nil }, wantS R.ts [93] (exprT R.ts s1.adv).2) := by unfold asgI; rw [if_pos h2]; rfl
    rw [hI2]
    clear hI2
    generalize exprT R.ts s1.adv = res0 at *
    obtain ⟨x0, s2⟩ := res0
    unfold asgEX
    have HX : Hid (∀ w, RfI w R (wantS R.ts [61] (wantS R.ts [93] s2)) → Calls Tryz.prog 44 #[.pointer (some ⟨R.br, 0, none⟩), .int .i64 1] w (ExpR R w (exprT R.ts (wantS R.ts [61] (wantS R.ts [93] s2))))) := Lib.hid (fun w h => rexpr_any R _ w h)
    generalize exprT R.ts (wantS R.ts [61] (wantS R.ts [93] s2)) = res at *
    obtain ⟨x, s3⟩ := res
    unfold stV
    go_enter Tryz.func133, Tryz.ntmps133
    go_upto_region 1 with fail
    generalize hW : World.alloc (World.alloc w _) _ = W0
    have HP : Hid (Pn R w (w.heap.size + 1) w.heap.size (w.heap.size + 2) W0 ⟨hd 0 ln, .nil, .nil, zS⟩ s) := Lib.hid (by
      rw [← hW]
      exact ⟨rf_alloc (rf_alloc HI.out _) _, gr_alloc (gr_below (alloc_below _ _)) _, by have := HI.out.lt; omega, by simp, (heap_alloc_old _ _ (by simp)).trans (heap_alloc_new _ _), by
        have := heap_alloc_new (w.alloc (.cells (StI.f ⟨hd 0 ln, .nil, .nil, zS⟩).toArray 91)) (.cells zSt11 91)
        rw [show (w.alloc (.cells (StI.f ⟨hd 0 ln, .nil, .nil, zS⟩).toArray 91)).heap.size = w.heap.size + 1 by simp] at this
        exact this, hd_ok i64_0 HL.out, hd_in _ _ _ _⟩)
    clear hW
    have c0 := HP.out.cell (j := 0) rfl
    have f0 := HP.out.free 0
    go_upto_region 2 with fail
    generalize hW : World.setCell W0 _ _ = W1
    have HQ : Hid (Pn R w (w.heap.size + 1) w.heap.size (w.heap.size + 2) W1 ⟨hd 1 ln, .nil, .nil, zS⟩ s) := Lib.hid (by rw [← hW]; exact HP.out.op 1 (by unfold I64; decide))
    clear hW c0 f0 HP
    have HP := HQ
    clear HQ
    go_wp2_with fail
    refine (HRN.out _ HP.out.rd).mono ?_
    rintro e wn ⟨rfl, h2, h3⟩
    have HQ := Lib.hid (HP.out.then h2 h3)
    have c2 := HQ.out.cell (j := 2) rfl
    have f2 := HQ.out.free 2
    clear h2 h3 HP
    go_upto_region 3 with fail
    generalize hW : World.setCell wn _ _ = WN
    have HP : Hid (Pn R w (w.heap.size + 1) w.heap.size (w.heap.size + 2) WN ⟨{ hd 1 ln with nm := nm }, .nil, .nil, zS⟩ s1) := Lib.hid (by rw [← hW]; exact HQ.out.nm _ HNM.out)
    clear hW c2 f2 HQ
    go_wp2_with fail
    refine (is_b R s1 _ ⟨#[91]⟩ rfl h2 HP.out.rd).mono ?_
    rintro e w6 ⟨rfl, hb6⟩
    have HQ := Lib.hid (HP.out.below hb6)
    clear hb6 HP
    have HP := HQ
    clear HQ
    obtain ⟨pos, bad, ⟨hp, hp2, hl, hlt, hbr⟩, HSA, ⟨hbad0, hbad1⟩, c0, c1, c2, f1, f2⟩ := HP.out.rd.open
    have HA := Lib.hid (HP.out.adv c1 HNE.out)
    go_upto_region 5 with fail
    generalize hW : World.setCell _ _ _ = WA
    rw [hW] at HA
    clear hW c0 c1 c2 f1 f2 HSA hp hp2 hl hlt hbr hbad0 hbad1 HP
    have HP := HA
    clear HA
    go_wp2_with fail
    refine (HX0.out _ HP.out.rd).mono ?_
    rintro e wi ⟨v, rfl, hv, h3, h4⟩
    have HQ := Lib.hid (HP.out.then h3 h4)
    have HV := Lib.hid (hv.mono HP.out.sz)
    clear h3 h4 hv HP
    obtain ⟨aoi, capi, rfl, hokx, hstx⟩ := HV.out
    have HE := Lib.hid (And.intro hokx hstx)
    clear hokx hstx HV
    have c4 := HQ.out.cell (j := 4) rfl
    have f4 := HQ.out.free 4
    have hlt3 : w.heap.size < wi.heap.size := by have := HQ.out.sz; omega
    unfold exV
    go_upto_region 6 with fail
    generalize hW : World.alloc (World.setCell wi _ _) _ = WX
    have HP : Hid (Pn R w (w.heap.size + 1) w.heap.size (w.heap.size + 2) WX ⟨{ hd 1 ln with nm := nm, idx := .cons x0.op x0.n x0.nm x0.kids .nil }, .nil, .nil, { zS with aoi := some ⟨wi.heap.size, 0, none⟩, capi := 1 }⟩ s2) := Lib.hid (by rw [← hW]; exact HQ.out.idx1 x0 aoi capi _ HE.out)
    clear hW c4 f4 hlt3 HQ HE
    go_wp2_with fail
    refine (want_any R _ _ ⟨#[93]⟩ rfl HP.out.rd).mono ?_
    rintro e w9 ⟨rfl, h2, h3⟩
    have HQ := Lib.hid (HP.out.then h2 h3)
    clear h2 h3 HP
    have HP := HQ
    clear HQ
    go_wp2_with fail
    refine (want_any R _ _ ⟨#[61]⟩ rfl HP.out.rd).mono ?_
    rintro e w9 ⟨rfl, h2, h3⟩
    have HQ := Lib.hid (HP.out.then h2 h3)
    clear h2 h3 HP
    have HP := HQ
    clear HQ
    go_wp2_with fail
    refine (HX.out _ HP.out.rd).mono ?_
    rintro e w3 ⟨v, rfl, hv, h2, h3⟩
    have HQ := Lib.hid (HP.out.then h2 h3)
    have HV := Lib.hid (hv.mono HP.out.sz)
    clear h2 h3 hv HP
    obtain ⟨aox, capx, rfl, hokx, hstx⟩ := HV.out
    have HE := Lib.hid (And.intro hokx hstx)
    clear hokx hstx HV
    have c5 := HQ.out.cell (j := 5) rfl
    have c6 := HQ.out.cell (j := 6) rfl
    have c7 := HQ.out.cell (j := 7) rfl
    have c8 := HQ.out.cell (j := 8) rfl
    have f5 := HQ.out.free 5
    have f6 := HQ.out.free 6
    have f7 := HQ.out.free 7
    have f8 := HQ.out.free 8
    unfold exV
    go_upto_region 9 with fail
    generalize hW : World.setCell (World.setCell (World.setCell (World.setCell w3 _ _) _ _) _ _) _ _ = WX
    have HP : Hid (Pn R w (w.heap.size + 1) w.heap.size (w.heap.size + 2) WX ⟨StH.ex { hd 1 ln with nm := nm, idx := .cons x0.op x0.n x0.nm x0.kids .nil } x, .nil, .nil, { zS with aoi := some ⟨wi.heap.size, 0, none⟩, capi := 1, aox := aox, capx := capx }⟩ s3) := Lib.hid (by rw [← hW]; exact HQ.out.ex x aox capx HE.out.1 HE.out.2)
    clear hW c5 c6 c7 c8 f5 f6 f7 f8 HQ HE
    go_wp2_with fail
    refine (want_any R _ _ ⟨#[59]⟩ rfl HP.out.rd).mono ?_
    rintro e w9 ⟨rfl, h2, h3⟩
    have HQ := Lib.hid (HP.out.then h2 h3)
    clear h2 h3 HP
    have HP := HQ
    clear HQ
    obtain ⟨⟨y0, y1, y2, y3, y4, y5, y6, y7, y8, y9, y10⟩, fz⟩ := z11 HP.out.z
    have z0 := fz 0
    have z1 := fz 1
    have z2 := fz 2
    have z3 := fz 3
    have z4 := fz 4
    have z5 := fz 5
    have z6 := fz 6
    have z7 := fz 7
    have z8 := fz 8
    have z9 := fz 9
    have z10 := fz 10
    obtain ⟨d0, d1, d2, d3, d4, d5, d6, d7, d8, d9, d10⟩ := pn_cells HP.out
    clear fz
    go_wp2_with fail
    exact bodyPost_ret (v := stV _ _ _ _) (by simp [results, Tryz.results133, go_sem, stV, y0, y1, y2, y3, y4, y5, y6, y7, y8, y9, y10]) rfl (rsta_end HP.out)
end Go.Proofs.YtommnhglgedflaaGreatDoor
end
section
set_option linter.unusedSimpArgs false
set_option linter.unusedVariables false
namespace Go.Proofs.YtommnhglgedflaaGreatDoor
open Go.RowKit
open Md Pz
def BkSays (R : Rp) (f : Nat) : Prop := ∀ s w, enoughP false (wantS R.ts [123] s) f → RfI w R s → Calls Tryz.prog 81 #[.pointer (some ⟨R.br, 0, none⟩)] w (BlkR R w (bkS R.ts f s))
theorem bk_fuel {ts : Toks} {s s' : St} {f : Nat} (h : enoughP true s (f + 1)) (hl : s'.len < s.len) : enoughP false (wantS ts [123] s') f := by
  unfold enoughP at *
  have := wantS_le (ts := ts) [123] s'
  simp at *; omega
theorem rsta_pass {R : Rp} {w W w' : World} {bz : Nat} {q : Sx × St} {sl : Sl} (hg : w.grownBy W (some R.br)) (hl : R.br < w.heap.size ∧ w.heap.size ≤ bz ∧ bz < W.heap.size)
    (hok : StOk q.1.h q.1.b q.1.e) (hst : Stay W.heap.size w' (StI.I ⟨q.1.h, q.1.b, q.1.e, sl⟩)) (hr : RfI w' R q.2) (h2 : W.grownBy w' (some R.br)) :
    StaR R w q (.returned (stV q.1.h q.1.b q.1.e sl)) (w'.setCells bz 0 (StI.f ⟨q.1.h, q.1.b, q.1.e, sl⟩)) := by
  have hs := setCells_grown bz (StI.f ⟨q.1.h, q.1.b, q.1.e, sl⟩) 0 w'
  have hb := R.b0
  exact ⟨⟨sl, rfl, hok, (hst.next (abv_gr hs hl.2.2)).mono (by omega)⟩, rf_grown hr hs (by omega) (by omega), gr_grown (grow_tr hg h2) hs hl.2.1⟩
theorem name_ts {w : World} {R : Rp} {s : St} (h : RfI w R s) : TsOk (nameS R.ts s.adv).2.toks := by
  have ha : ∀ t ∈ s.adv.toks, t ∈ s.toks := by
    intro t ht
    cases s with
    | go r => exact List.mem_of_mem_tail ht
    | bad n => exact ht
  intro t ht
  refine h.ts t (ha t ?_)
  unfold nameS at ht
  split at ht
  · cases hs : s.adv with
    | go r => rw [hs] at ht; exact List.mem_of_mem_tail ht
    | bad n => rw [hs] at ht; exact ht
  · cases hs : s.adv with
    | go r => rw [hs] at ht; cases ht
    | bad n => rw [hs] at ht; exact ht
theorem word_range (r : Toks) : wordS r = 0 ∨ (2 ≤ wordS r ∧ wordS r ≤ 15) := by
  unfold wordS
  split
  · unfold stOf
    repeat' split
    all_goals omega
  · exact .inl rfl
theorem line_i {w : World} {R : Rp} {s : St} (h : RfI w R s) : I64 ((nextL s.toks : Nat) : Int) := by
  unfold I64
  cases hs : s.toks with
  | nil => simp [nextL]
  | cons t r =>
    have := (h.tsl t (by rw [hs]; simp)).1
    simp only [nextL]; omega
set_option maxHeartbeats 8000000 in
set_option maxRecDepth 100000 in
theorem rstatement_step (R : Rp) (f : Nat) (ih : BkSays R f) (s : St) (w : World) (hen : enoughP true s (f + 1)) (hI : RfI w R s) :
    Calls Tryz.prog 112 #[.pointer (some ⟨R.br, 0, none⟩)] w (StaR R w (stX R.ts f s)) := by
  have HI := Lib.hid hI
  have HF := Lib.hid hen
  have HIH := Lib.hid ih
  obtain ⟨ln, hln⟩ : ∃ ln : Int, ((nextL s.toks : Nat) : Int) = ln := ⟨_, rfl⟩
  have HL : Hid (I64 ln) := Lib.hid (by rw [← hln]; exact line_i hI)
  have HLN : Hid (∀ w, RfI w R s → Calls Tryz.prog 76 #[.pointer (some ⟨R.br, 0, none⟩)] w fun e w' => e = .returned (.int .i64 ln) ∧ Below w.heap.size w w') := Lib.hid (fun w h => by rw [← hln]; exact rline_any R s w h)
  have HW : Hid (∀ w, RfI w R s → Calls Tryz.prog 132 #[.pointer (some ⟨R.br, 0, none⟩)] w fun e w' => e = .returned (.int .i64 (wordS s.toks)) ∧ Below w.heap.size w w') := Lib.hid (fun w h => rword_any R s w h)
  clear hI hen ih
  unfold stX
  rw [hln]
  clear hln
  by_cases h0 : wordS s.toks = 0
  · have HASG : Hid (∀ w, RfI w R s → Calls Tryz.prog 133 #[.pointer (some ⟨R.br, 0, none⟩), stV (hd 0 ln) .nil .nil zS] w (StaR R w (asgSX R.ts (hd 0 ln) s))) := Lib.hid (fun w h => rasg_any R ln HL.out s w h)
    rw [h0] at HW ⊢
    rw [if_pos (by decide)]
    have HOP : Hid (I64 0) := Lib.hid i64_0
    clear h0 HIH HF
    generalize asgSX R.ts (hd 0 ln) s = q at *
    go_enter Tryz.func112, Tryz.ntmps112
    go_upto_region 1 with fail
    generalize hW : World.alloc w _ = W0
    have HB0 : Hid (Below w.heap.size w W0) := Lib.hid (by rw [← hW]; exact alloc_below _ _)
    have HZ0 : Hid (W0.heap[w.heap.size]? = some (.cells zSt11 91 (0, 0))) := Lib.hid (by rw [← hW]; exact heap_alloc_new _ _)
    clear hW
    go_wp2_with fail
    refine (HW.out _ (HI.out.below HB0.out)).mono ?_
    rintro e w1 ⟨rfl, hb⟩
    have HB1 := Lib.hid (HB0.out.trans (hb.mono HB0.out.size))
    have HZ1 := Lib.hid ((hb.block _ (Array.getElem?_eq_some_iff.1 HZ0.out).1).trans HZ0.out)
    clear hb HB0 HZ0
    go_wp2_with fail
    refine (HLN.out _ (HI.out.below HB1.out)).mono ?_
    rintro e w2 ⟨rfl, hb⟩
    have HB2 := Lib.hid (HB1.out.trans (hb.mono HB1.out.size))
    have HZ2 := Lib.hid ((hb.block _ (Array.getElem?_eq_some_iff.1 HZ1.out).1).trans HZ1.out)
    clear hb HB1 HZ1
    go_upto_region 2 with fail
    obtain ⟨g, hg⟩ : ∃ g, w2.heap.size = g := ⟨_, rfl⟩
    generalize hW : World.alloc w2 _ = W3
    have HP : Hid (Pn R w w.heap.size g (g + 1) W3 ⟨hd 0 ln, .nil, .nil, zS⟩ s) := Lib.hid (by
      have hl := HI.out.lt
      have hzl := (Array.getElem?_eq_some_iff.1 HZ2.out).1
      rw [← hW, ← hg]
      exact ⟨(HI.out.below HB2.out).below (alloc_below _ _), gr_alloc (gr_below HB2.out) _, by omega, by simp, heap_alloc_new _ _, (heap_alloc_old _ _ hzl).trans HZ2.out, hd_ok HOP.out HL.out, hd_in _ _ _ _⟩)
    rw [hg]
    clear hW hg HB2 HZ2
    obtain ⟨d0, d1, d2, d3, d4, d5, d6, d7, d8, d9, d10⟩ := pn_cells HP.out
    go_wp2_with fail
    refine (HASG.out _ HP.out.rd).mono ?_
    rintro e w4 ⟨⟨sl, rfl, hok, hst⟩, h2, h3⟩
    have HQ := Lib.hid (And.intro hok (And.intro hst (And.intro h2 h3)))
    have HZ := Lib.hid ((h3.block _ (Array.getElem?_eq_some_iff.1 HP.out.z).1 (by have := HP.out.lt; simp; omega)).trans HP.out.z)
    clear hok hst h2 h3 d0 d1 d2 d3 d4 d5 d6 d7 d8 d9 d10
    obtain ⟨⟨y0, y1, y2, y3, y4, y5, y6, y7, y8, y9, y10⟩, fz⟩ := z11 HZ.out
    have z0 := fz 0
    have z1 := fz 1
    have z2 := fz 2
    have z3 := fz 3
    have z4 := fz 4
    have z5 := fz 5
    have z6 := fz 6
    have z7 := fz 7
    have z8 := fz 8
    have z9 := fz 9
    have z10 := fz 10
    clear fz
    unfold stV
    go_wp2_with fail
    exact bodyPost_ret (v := stV _ _ _ _) (by simp [results, Tryz.results112, go_sem, stV, y0, y1, y2, y3, y4, y5, y6, y7, y8, y9, y10]) rfl (rsta_pass HP.out.gr ⟨HP.out.lt.1, Nat.le_refl _, by have := HP.out.lt; have := HP.out.sz; omega⟩ HQ.out.1 HQ.out.2.1 HQ.out.2.2.1 HQ.out.2.2.2)
  · have hr := word_range s.toks
    have HNE := Lib.hid (word_ne (show (wordS s.toks == 0) = false by rw [beq_eq_false_iff_ne]; exact h0))
    have HLT := Lib.hid (adv_lt HNE.out)
    have hk : wordS s.toks = 2 ∨ wordS s.toks = 3 ∨ (wordS s.toks = 7 ∨ wordS s.toks = 8) ∨ (wordS s.toks = 4 ∨ wordS s.toks = 5 ∨ wordS s.toks = 6) ∨ wordS s.toks = 14 ∨ wordS s.toks = 15 ∨ (wordS s.toks = 9 ∨ wordS s.toks = 10 ∨ wordS s.toks = 11 ∨ wordS s.toks = 12 ∨ wordS s.toks = 13) := by omega
    clear h0 hr
    rcases hk with h | h | h | h | h | h | h
    · rw [h] at HW ⊢
      rw [if_neg (by decide), if_pos (by decide)]
      have HOP : Hid (I64 2) := Lib.hid (by unfold I64; decide)
      have HX : Hid (∀ w, RfI w R s.adv → Calls Tryz.prog 44 #[.pointer (some ⟨R.br, 0, none⟩), .int .i64 1] w (ExpR R w (exprT R.ts s.adv))) := Lib.hid (fun w h => rexpr_any R _ w h)
      have HLE : Hid ((exprT R.ts s.adv).2.len ≤ s.adv.len) := Lib.hid (exprT_le _)
      generalize exprT R.ts s.adv = res at *
      obtain ⟨x, s1⟩ := res
      have HBK : Hid (∀ w, RfI w R s1 → Calls Tryz.prog 81 #[.pointer (some ⟨R.br, 0, none⟩)] w (BlkR R w (bkS R.ts f s1))) := Lib.hid (fun w h => HIH.out s1 w (bk_fuel HF.out (by have h1 : s1.len ≤ s.adv.len := HLE.out; have := HLT.out; omega)) h)
      have HLB : Hid ((bkS R.ts f s1).2.len ≤ s1.len) := Lib.hid (bkS_le f s1)
      dsimp only
      generalize bkS R.ts f s1 = resb at *
      obtain ⟨b, s2⟩ := resb
      unfold elseX
      dsimp only
      cases he : at' [101, 108, 115, 101] s2.toks
      · rw [if_neg (by decide)]
        clear h HIH HF HLE HLT HLB
        go_enter Tryz.func112, Tryz.ntmps112
        go_upto_region 1 with fail
        generalize hW : World.alloc w _ = W0
        have HB0 : Hid (Below w.heap.size w W0) := Lib.hid (by rw [← hW]; exact alloc_below _ _)
        have HZ0 : Hid (W0.heap[w.heap.size]? = some (.cells zSt11 91 (0, 0))) := Lib.hid (by rw [← hW]; exact heap_alloc_new _ _)
        clear hW
        go_wp2_with fail
        refine (HW.out _ (HI.out.below HB0.out)).mono ?_
        rintro e w1 ⟨rfl, hb⟩
        have HB1 := Lib.hid (HB0.out.trans (hb.mono HB0.out.size))
        have HZ1 := Lib.hid ((hb.block _ (Array.getElem?_eq_some_iff.1 HZ0.out).1).trans HZ0.out)
        clear hb HB0 HZ0
        go_wp2_with fail
        refine (HLN.out _ (HI.out.below HB1.out)).mono ?_
        rintro e w2 ⟨rfl, hb⟩
        have HB2 := Lib.hid (HB1.out.trans (hb.mono HB1.out.size))
        have HZ2 := Lib.hid ((hb.block _ (Array.getElem?_eq_some_iff.1 HZ1.out).1).trans HZ1.out)
        clear hb HB1 HZ1
        go_upto_region 2 with fail
        obtain ⟨g, hg⟩ : ∃ g, w2.heap.size = g := ⟨_, rfl⟩
        generalize hW : World.alloc w2 _ = W3
        have HP : Hid (Pn R w w.heap.size g (g + 1) W3 ⟨hd 2 ln, .nil, .nil, zS⟩ s) := Lib.hid (by
          have hl := HI.out.lt
          have hzl := (Array.getElem?_eq_some_iff.1 HZ2.out).1
          rw [← hW, ← hg]
          exact ⟨(HI.out.below HB2.out).below (alloc_below _ _), gr_alloc (gr_below HB2.out) _, by omega, by simp, heap_alloc_new _ _, (heap_alloc_old _ _ hzl).trans HZ2.out, hd_ok HOP.out HL.out, hd_in _ _ _ _⟩)
        rw [hg]
        clear hW hg HB2 HZ2
        have e0 : World.cell? _ ⟨g, 0, none⟩ = some (.int .i64 2) := HP.out.cell (j := 0) rfl
        obtain ⟨pos, bad, ⟨hp, hp2, hl, hlt, hbr⟩, HSA, ⟨hbad0, hbad1⟩, c0, c1, c2, f1, f2⟩ := HP.out.rd.open
        have HA := Lib.hid (HP.out.adv c1 HNE.out)
        go_upto_region 5 with fail
        generalize hW : World.setCell _ _ _ = WA
        rw [hW] at HA
        clear hW c0 c1 c2 f1 f2 HSA hp hp2 hl hlt hbr hbad0 hbad1 HP
        have HP := HA
        clear HA
        clear e0
        have e0 : World.cell? _ ⟨g, 0, none⟩ = some (.int .i64 2) := HP.out.cell (j := 0) rfl
        go_wp2_with fail
        refine (HX.out _ HP.out.rd).mono ?_
        rintro e w3 ⟨v, rfl, hv, h2, h3⟩
        have HQ := Lib.hid (HP.out.then h2 h3)
        have HV := Lib.hid (hv.mono HP.out.sz)
        clear h2 h3 hv HP
        obtain ⟨aox, capx, rfl, hokx, hstx⟩ := HV.out
        have HE := Lib.hid (And.intro hokx hstx)
        clear hokx hstx HV
        have c5 := HQ.out.cell (j := 5) rfl
        have c6 := HQ.out.cell (j := 6) rfl
        have c7 := HQ.out.cell (j := 7) rfl
        have c8 := HQ.out.cell (j := 8) rfl
        have f5 := HQ.out.free 5
        have f6 := HQ.out.free 6
        have f7 := HQ.out.free 7
        have f8 := HQ.out.free 8
        unfold exV
        go_upto_region 12 with fail
        generalize hW : World.setCell (World.setCell (World.setCell (World.setCell w3 _ _) _ _) _ _) _ _ = WX
        have HP : Hid (Pn R w w.heap.size g (g + 1) WX ⟨StH.ex (hd 2 ln) x, .nil, .nil, { zS with aox := aox, capx := capx }⟩ s1) := Lib.hid (by rw [← hW]; exact HQ.out.ex x aox capx HE.out.1 HE.out.2)
        clear hW c5 c6 c7 c8 f5 f6 f7 f8 HQ HE
        clear e0
        have e0 : World.cell? _ ⟨g, 0, none⟩ = some (.int .i64 2) := HP.out.cell (j := 0) rfl
        go_wp2_with fail
        refine (HBK.out _ HP.out.rd).mono ?_
        rintro e wb ⟨⟨aob, capb, rfl, hlb, hstb⟩, h2, h3⟩
        have HQ := Lib.hid (HP.out.then h2 h3)
        have HE := Lib.hid (And.intro hlb (hstb.mono HP.out.sz))
        clear hlb hstb h2 h3 HP
        have c9 := HQ.out.cell (j := 9) rfl
        have f9 := HQ.out.free 9
        go_upto_region 21 with fail
        generalize hW : World.setCell wb _ _ = WB
        have HP : Hid (Pn R w w.heap.size g (g + 1) WB ⟨StH.ex (hd 2 ln) x, b, .nil, { zS with aox := aox, capx := capx, aob := aob, capb := capb }⟩ s2) := Lib.hid (by rw [← hW]; exact HQ.out.body _ aob capb (Nat.le_trans HE.out.1 (by unfold maxLen; decide)) HE.out.2)
        clear hW c9 f9 HQ HE
        clear e0
        have e0 : World.cell? _ ⟨g, 0, none⟩ = some (.int .i64 2) := HP.out.cell (j := 0) rfl
        go_wp2_with fail
        refine (is_b R s2 _ ⟨#[101, 108, 115, 101]⟩ rfl he HP.out.rd).mono ?_
        rintro e w6 ⟨rfl, hb6⟩
        have HQ := Lib.hid (HP.out.below hb6)
        clear hb6 HP e0
        have HP := HQ
        clear HQ
        obtain ⟨⟨y0, y1, y2, y3, y4, y5, y6, y7, y8, y9, y10⟩, fz⟩ := z11 HP.out.z
        have z0 := fz 0
        have z1 := fz 1
        have z2 := fz 2
        have z3 := fz 3
        have z4 := fz 4
        have z5 := fz 5
        have z6 := fz 6
        have z7 := fz 7
        have z8 := fz 8
        have z9 := fz 9
        have z10 := fz 10
        obtain ⟨d0, d1, d2, d3, d4, d5, d6, d7, d8, d9, d10⟩ := pn_cells HP.out
        clear fz
        go_wp2_with fail
        exact bodyPost_ret (v := stV _ _ _ _) (by simp [results, Tryz.results112, go_sem, stV, y0, y1, y2, y3, y4, y5, y6, y7, y8, y9, y10]) rfl (rsta_end HP.out)
      · rw [if_pos rfl]
        have HBE : Hid (∀ w, RfI w R s2.adv → Calls Tryz.prog 81 #[.pointer (some ⟨R.br, 0, none⟩)] w (BlkR R w (bkS R.ts f s2.adv))) := Lib.hid (fun w h => HIH.out s2.adv w (bk_fuel HF.out (by have h1 : s1.len ≤ s.adv.len := HLE.out; have h2 : s2.len ≤ s1.len := HLB.out; have h3 := adv_le s2; have := HLT.out; omega)) h)
        have HNE2 := Lib.hid (toks_ne he)
        clear h HIH HF HLE HLT HLB
        generalize bkS R.ts f s2.adv = rese at *
        obtain ⟨el, s3⟩ := rese
        go_enter Tryz.func112, Tryz.ntmps112
        go_upto_region 1 with fail
        generalize hW : World.alloc w _ = W0
        have HB0 : Hid (Below w.heap.size w W0) := Lib.hid (by rw [← hW]; exact alloc_below _ _)
        have HZ0 : Hid (W0.heap[w.heap.size]? = some (.cells zSt11 91 (0, 0))) := Lib.hid (by rw [← hW]; exact heap_alloc_new _ _)
        clear hW
        go_wp2_with fail
        refine (HW.out _ (HI.out.below HB0.out)).mono ?_
        rintro e w1 ⟨rfl, hb⟩
        have HB1 := Lib.hid (HB0.out.trans (hb.mono HB0.out.size))
        have HZ1 := Lib.hid ((hb.block _ (Array.getElem?_eq_some_iff.1 HZ0.out).1).trans HZ0.out)
        clear hb HB0 HZ0
        go_wp2_with fail
        refine (HLN.out _ (HI.out.below HB1.out)).mono ?_
        rintro e w2 ⟨rfl, hb⟩
        have HB2 := Lib.hid (HB1.out.trans (hb.mono HB1.out.size))
        have HZ2 := Lib.hid ((hb.block _ (Array.getElem?_eq_some_iff.1 HZ1.out).1).trans HZ1.out)
        clear hb HB1 HZ1
        go_upto_region 2 with fail
        obtain ⟨g, hg⟩ : ∃ g, w2.heap.size = g := ⟨_, rfl⟩
        generalize hW : World.alloc w2 _ = W3
        have HP : Hid (Pn R w w.heap.size g (g + 1) W3 ⟨hd 2 ln, .nil, .nil, zS⟩ s) := Lib.hid (by
          have hl := HI.out.lt
          have hzl := (Array.getElem?_eq_some_iff.1 HZ2.out).1
          rw [← hW, ← hg]
          exact ⟨(HI.out.below HB2.out).below (alloc_below _ _), gr_alloc (gr_below HB2.out) _, by omega, by simp, heap_alloc_new _ _, (heap_alloc_old _ _ hzl).trans HZ2.out, hd_ok HOP.out HL.out, hd_in _ _ _ _⟩)
        rw [hg]
        clear hW hg HB2 HZ2
        have e0 : World.cell? _ ⟨g, 0, none⟩ = some (.int .i64 2) := HP.out.cell (j := 0) rfl
        obtain ⟨pos, bad, ⟨hp, hp2, hl, hlt, hbr⟩, HSA, ⟨hbad0, hbad1⟩, c0, c1, c2, f1, f2⟩ := HP.out.rd.open
        have HA := Lib.hid (HP.out.adv c1 HNE.out)
        go_upto_region 5 with fail
        generalize hW : World.setCell _ _ _ = WA
        rw [hW] at HA
        clear hW c0 c1 c2 f1 f2 HSA hp hp2 hl hlt hbr hbad0 hbad1 HP
        have HP := HA
        clear HA
        clear e0
        have e0 : World.cell? _ ⟨g, 0, none⟩ = some (.int .i64 2) := HP.out.cell (j := 0) rfl
        go_wp2_with fail
        refine (HX.out _ HP.out.rd).mono ?_
        rintro e w3 ⟨v, rfl, hv, h2, h3⟩
        have HQ := Lib.hid (HP.out.then h2 h3)
        have HV := Lib.hid (hv.mono HP.out.sz)
        clear h2 h3 hv HP
        obtain ⟨aox, capx, rfl, hokx, hstx⟩ := HV.out
        have HE := Lib.hid (And.intro hokx hstx)
        clear hokx hstx HV
        have c5 := HQ.out.cell (j := 5) rfl
        have c6 := HQ.out.cell (j := 6) rfl
        have c7 := HQ.out.cell (j := 7) rfl
        have c8 := HQ.out.cell (j := 8) rfl
        have f5 := HQ.out.free 5
        have f6 := HQ.out.free 6
        have f7 := HQ.out.free 7
        have f8 := HQ.out.free 8
        unfold exV
        go_upto_region 12 with fail
        generalize hW : World.setCell (World.setCell (World.setCell (World.setCell w3 _ _) _ _) _ _) _ _ = WX
        have HP : Hid (Pn R w w.heap.size g (g + 1) WX ⟨StH.ex (hd 2 ln) x, .nil, .nil, { zS with aox := aox, capx := capx }⟩ s1) := Lib.hid (by rw [← hW]; exact HQ.out.ex x aox capx HE.out.1 HE.out.2)
        clear hW c5 c6 c7 c8 f5 f6 f7 f8 HQ HE
        clear e0
        have e0 : World.cell? _ ⟨g, 0, none⟩ = some (.int .i64 2) := HP.out.cell (j := 0) rfl
        go_wp2_with fail
        refine (HBK.out _ HP.out.rd).mono ?_
        rintro e wb ⟨⟨aob, capb, rfl, hlb, hstb⟩, h2, h3⟩
        have HQ := Lib.hid (HP.out.then h2 h3)
        have HE := Lib.hid (And.intro hlb (hstb.mono HP.out.sz))
        clear hlb hstb h2 h3 HP
        have c9 := HQ.out.cell (j := 9) rfl
        have f9 := HQ.out.free 9
        go_upto_region 21 with fail
        generalize hW : World.setCell wb _ _ = WB
        have HP : Hid (Pn R w w.heap.size g (g + 1) WB ⟨StH.ex (hd 2 ln) x, b, .nil, { zS with aox := aox, capx := capx, aob := aob, capb := capb }⟩ s2) := Lib.hid (by rw [← hW]; exact HQ.out.body _ aob capb (Nat.le_trans HE.out.1 (by unfold maxLen; decide)) HE.out.2)
        clear hW c9 f9 HQ HE
        clear e0
        have e0 : World.cell? _ ⟨g, 0, none⟩ = some (.int .i64 2) := HP.out.cell (j := 0) rfl
        go_wp2_with fail
        refine (is_b R s2 _ ⟨#[101, 108, 115, 101]⟩ rfl he HP.out.rd).mono ?_
        rintro e w6 ⟨rfl, hb6⟩
        have HQ := Lib.hid (HP.out.below hb6)
        clear hb6 HP e0
        have HP := HQ
        clear HQ
        obtain ⟨aob1, hob1⟩ : ∃ a, a = aob := ⟨_, rfl⟩
        obtain ⟨capb1, hcb1⟩ : ∃ a, a = capb := ⟨_, rfl⟩
        rw [← hob1, ← hcb1] at HP
        clear hob1 hcb1
        obtain ⟨pos, bad, ⟨hp, hp2, hl, hlt, hbr⟩, HSA, ⟨hbad0, hbad1⟩, c0, c1, c2, f1, f2⟩ := HP.out.rd.open
        have HA := Lib.hid (HP.out.adv c1 HNE2.out)
        go_upto_region 23 with fail
        generalize hW : World.setCell _ _ _ = WA
        rw [hW] at HA
        clear hW c0 c1 c2 f1 f2 HSA hp hp2 hl hlt hbr hbad0 hbad1 HP
        have HP := HA
        clear HA
        go_wp2_with fail
        refine (HBE.out _ HP.out.rd).mono ?_
        rintro e wb ⟨⟨aob, capb, rfl, hlb, hstb⟩, h2, h3⟩
        have HQ := Lib.hid (HP.out.then h2 h3)
        have HE := Lib.hid (And.intro hlb (hstb.mono HP.out.sz))
        clear hlb hstb h2 h3 HP
        have c9 := HQ.out.cell (j := 10) rfl
        have f9 := HQ.out.free 10
        go_upto_region 24 with fail
        generalize hW : World.setCell wb _ _ = WB
        have HP : Hid (Pn R w w.heap.size g (g + 1) WB ⟨StH.ex (hd 2 ln) x, b, el, { zS with aox := aox, capx := capx, aob := aob1, capb := capb1, aoe := aob, cape := capb }⟩ s3) := Lib.hid (by rw [← hW]; exact HQ.out.els _ aob capb (Nat.le_trans HE.out.1 (by unfold maxLen; decide)) HE.out.2)
        clear hW c9 f9 HQ HE
        obtain ⟨⟨y0, y1, y2, y3, y4, y5, y6, y7, y8, y9, y10⟩, fz⟩ := z11 HP.out.z
        have z0 := fz 0
        have z1 := fz 1
        have z2 := fz 2
        have z3 := fz 3
        have z4 := fz 4
        have z5 := fz 5
        have z6 := fz 6
        have z7 := fz 7
        have z8 := fz 8
        have z9 := fz 9
        have z10 := fz 10
        obtain ⟨d0, d1, d2, d3, d4, d5, d6, d7, d8, d9, d10⟩ := pn_cells HP.out
        clear fz
        go_wp2_with fail
        exact bodyPost_ret (v := stV _ _ _ _) (by simp [results, Tryz.results112, go_sem, stV, y0, y1, y2, y3, y4, y5, y6, y7, y8, y9, y10]) rfl (rsta_end HP.out)
    · rw [h] at HW ⊢
      rw [if_neg (by decide), if_neg (by decide), if_pos (by decide)]
      have HOP : Hid (I64 3) := Lib.hid (by unfold I64; decide)
      have HX : Hid (∀ w, RfI w R s.adv → Calls Tryz.prog 44 #[.pointer (some ⟨R.br, 0, none⟩), .int .i64 1] w (ExpR R w (exprT R.ts s.adv))) := Lib.hid (fun w h => rexpr_any R _ w h)
      have HLE : Hid ((exprT R.ts s.adv).2.len ≤ s.adv.len) := Lib.hid (exprT_le _)
      generalize exprT R.ts s.adv = res at *
      obtain ⟨x, s1⟩ := res
      have HBK : Hid (∀ w, RfI w R s1 → Calls Tryz.prog 81 #[.pointer (some ⟨R.br, 0, none⟩)] w (BlkR R w (bkS R.ts f s1))) := Lib.hid (fun w h => HIH.out s1 w (bk_fuel HF.out (by have h1 : s1.len ≤ s.adv.len := HLE.out; have := HLT.out; omega)) h)
      clear h HIH HF HLE HLT
      dsimp only
      generalize bkS R.ts f s1 = resb at *
      obtain ⟨b, s2⟩ := resb
      go_enter Tryz.func112, Tryz.ntmps112
      go_upto_region 1 with fail
      generalize hW : World.alloc w _ = W0
      have HB0 : Hid (Below w.heap.size w W0) := Lib.hid (by rw [← hW]; exact alloc_below _ _)
      have HZ0 : Hid (W0.heap[w.heap.size]? = some (.cells zSt11 91 (0, 0))) := Lib.hid (by rw [← hW]; exact heap_alloc_new _ _)
      clear hW
      go_wp2_with fail
      refine (HW.out _ (HI.out.below HB0.out)).mono ?_
      rintro e w1 ⟨rfl, hb⟩
      have HB1 := Lib.hid (HB0.out.trans (hb.mono HB0.out.size))
      have HZ1 := Lib.hid ((hb.block _ (Array.getElem?_eq_some_iff.1 HZ0.out).1).trans HZ0.out)
      clear hb HB0 HZ0
      go_wp2_with fail
      refine (HLN.out _ (HI.out.below HB1.out)).mono ?_
      rintro e w2 ⟨rfl, hb⟩
      have HB2 := Lib.hid (HB1.out.trans (hb.mono HB1.out.size))
      have HZ2 := Lib.hid ((hb.block _ (Array.getElem?_eq_some_iff.1 HZ1.out).1).trans HZ1.out)
      clear hb HB1 HZ1
      go_upto_region 2 with fail
      obtain ⟨g, hg⟩ : ∃ g, w2.heap.size = g := ⟨_, rfl⟩
      generalize hW : World.alloc w2 _ = W3
      have HP : Hid (Pn R w w.heap.size g (g + 1) W3 ⟨hd 3 ln, .nil, .nil, zS⟩ s) := Lib.hid (by
        have hl := HI.out.lt
        have hzl := (Array.getElem?_eq_some_iff.1 HZ2.out).1
        rw [← hW, ← hg]
        exact ⟨(HI.out.below HB2.out).below (alloc_below _ _), gr_alloc (gr_below HB2.out) _, by omega, by simp, heap_alloc_new _ _, (heap_alloc_old _ _ hzl).trans HZ2.out, hd_ok HOP.out HL.out, hd_in _ _ _ _⟩)
      rw [hg]
      clear hW hg HB2 HZ2
      have e0 : World.cell? _ ⟨g, 0, none⟩ = some (.int .i64 3) := HP.out.cell (j := 0) rfl
      obtain ⟨pos, bad, ⟨hp, hp2, hl, hlt, hbr⟩, HSA, ⟨hbad0, hbad1⟩, c0, c1, c2, f1, f2⟩ := HP.out.rd.open
      have HA := Lib.hid (HP.out.adv c1 HNE.out)
      go_upto_region 5 with fail
      generalize hW : World.setCell _ _ _ = WA
      rw [hW] at HA
      clear hW c0 c1 c2 f1 f2 HSA hp hp2 hl hlt hbr hbad0 hbad1 HP
      have HP := HA
      clear HA
      clear e0
      have e0 : World.cell? _ ⟨g, 0, none⟩ = some (.int .i64 3) := HP.out.cell (j := 0) rfl
      go_wp2_with fail
      refine (HX.out _ HP.out.rd).mono ?_
      rintro e w3 ⟨v, rfl, hv, h2, h3⟩
      have HQ := Lib.hid (HP.out.then h2 h3)
      have HV := Lib.hid (hv.mono HP.out.sz)
      clear h2 h3 hv HP
      obtain ⟨aox, capx, rfl, hokx, hstx⟩ := HV.out
      have HE := Lib.hid (And.intro hokx hstx)
      clear hokx hstx HV
      have c5 := HQ.out.cell (j := 5) rfl
      have c6 := HQ.out.cell (j := 6) rfl
      have c7 := HQ.out.cell (j := 7) rfl
      have c8 := HQ.out.cell (j := 8) rfl
      have f5 := HQ.out.free 5
      have f6 := HQ.out.free 6
      have f7 := HQ.out.free 7
      have f8 := HQ.out.free 8
      unfold exV
      go_upto_region 12 with fail
      generalize hW : World.setCell (World.setCell (World.setCell (World.setCell w3 _ _) _ _) _ _) _ _ = WX
      have HP : Hid (Pn R w w.heap.size g (g + 1) WX ⟨StH.ex (hd 3 ln) x, .nil, .nil, { zS with aox := aox, capx := capx }⟩ s1) := Lib.hid (by rw [← hW]; exact HQ.out.ex x aox capx HE.out.1 HE.out.2)
      clear hW c5 c6 c7 c8 f5 f6 f7 f8 HQ HE
      clear e0
      have e0 : World.cell? _ ⟨g, 0, none⟩ = some (.int .i64 3) := HP.out.cell (j := 0) rfl
      go_wp2_with fail
      refine (HBK.out _ HP.out.rd).mono ?_
      rintro e wb ⟨⟨aob, capb, rfl, hlb, hstb⟩, h2, h3⟩
      have HQ := Lib.hid (HP.out.then h2 h3)
      have HE := Lib.hid (And.intro hlb (hstb.mono HP.out.sz))
      clear hlb hstb h2 h3 HP
      have c9 := HQ.out.cell (j := 9) rfl
      have f9 := HQ.out.free 9
      go_upto_region 21 with fail
      generalize hW : World.setCell wb _ _ = WB
      have HP : Hid (Pn R w w.heap.size g (g + 1) WB ⟨StH.ex (hd 3 ln) x, b, .nil, { zS with aox := aox, capx := capx, aob := aob, capb := capb }⟩ s2) := Lib.hid (by rw [← hW]; exact HQ.out.body _ aob capb (Nat.le_trans HE.out.1 (by unfold maxLen; decide)) HE.out.2)
      clear hW c9 f9 HQ HE
      clear e0
      have e0 : World.cell? _ ⟨g, 0, none⟩ = some (.int .i64 3) := HP.out.cell (j := 0) rfl
      go_upto_region 24 with fail
      clear e0
      obtain ⟨⟨y0, y1, y2, y3, y4, y5, y6, y7, y8, y9, y10⟩, fz⟩ := z11 HP.out.z
      have z0 := fz 0
      have z1 := fz 1
      have z2 := fz 2
      have z3 := fz 3
      have z4 := fz 4
      have z5 := fz 5
      have z6 := fz 6
      have z7 := fz 7
      have z8 := fz 8
      have z9 := fz 9
      have z10 := fz 10
      obtain ⟨d0, d1, d2, d3, d4, d5, d6, d7, d8, d9, d10⟩ := pn_cells HP.out
      clear fz
      go_wp2_with fail
      exact bodyPost_ret (v := stV _ _ _ _) (by simp [results, Tryz.results112, go_sem, stV, y0, y1, y2, y3, y4, y5, y6, y7, y8, y9, y10]) rfl (rsta_end HP.out)
    · rcases h with h | h
      · rw [h] at HW ⊢
        rw [if_neg (by decide), if_neg (by decide), if_neg (by decide), if_pos (by decide)]
        have HOP : Hid (I64 7) := Lib.hid (by unfold I64; decide)
        have HBK : Hid (∀ w, RfI w R s.adv → Calls Tryz.prog 81 #[.pointer (some ⟨R.br, 0, none⟩)] w (BlkR R w (bkS R.ts f s.adv))) := Lib.hid (fun w h => HIH.out s.adv w (bk_fuel HF.out (by exact HLT.out)) h)
        clear h HIH HF HLT
        try dsimp only
        generalize bkS R.ts f s.adv = resb at *
        obtain ⟨b, s2⟩ := resb
        go_enter Tryz.func112, Tryz.ntmps112
        go_upto_region 1 with fail
        generalize hW : World.alloc w _ = W0
        have HB0 : Hid (Below w.heap.size w W0) := Lib.hid (by rw [← hW]; exact alloc_below _ _)
        have HZ0 : Hid (W0.heap[w.heap.size]? = some (.cells zSt11 91 (0, 0))) := Lib.hid (by rw [← hW]; exact heap_alloc_new _ _)
        clear hW
        go_wp2_with fail
        refine (HW.out _ (HI.out.below HB0.out)).mono ?_
        rintro e w1 ⟨rfl, hb⟩
        have HB1 := Lib.hid (HB0.out.trans (hb.mono HB0.out.size))
        have HZ1 := Lib.hid ((hb.block _ (Array.getElem?_eq_some_iff.1 HZ0.out).1).trans HZ0.out)
        clear hb HB0 HZ0
        go_wp2_with fail
        refine (HLN.out _ (HI.out.below HB1.out)).mono ?_
        rintro e w2 ⟨rfl, hb⟩
        have HB2 := Lib.hid (HB1.out.trans (hb.mono HB1.out.size))
        have HZ2 := Lib.hid ((hb.block _ (Array.getElem?_eq_some_iff.1 HZ1.out).1).trans HZ1.out)
        clear hb HB1 HZ1
        go_upto_region 2 with fail
        obtain ⟨g, hg⟩ : ∃ g, w2.heap.size = g := ⟨_, rfl⟩
        generalize hW : World.alloc w2 _ = W3
        have HP : Hid (Pn R w w.heap.size g (g + 1) W3 ⟨hd 7 ln, .nil, .nil, zS⟩ s) := Lib.hid (by
          have hl := HI.out.lt
          have hzl := (Array.getElem?_eq_some_iff.1 HZ2.out).1
          rw [← hW, ← hg]
          exact ⟨(HI.out.below HB2.out).below (alloc_below _ _), gr_alloc (gr_below HB2.out) _, by omega, by simp, heap_alloc_new _ _, (heap_alloc_old _ _ hzl).trans HZ2.out, hd_ok HOP.out HL.out, hd_in _ _ _ _⟩)
        rw [hg]
        clear hW hg HB2 HZ2
        have e0 : World.cell? _ ⟨g, 0, none⟩ = some (.int .i64 7) := HP.out.cell (j := 0) rfl
        obtain ⟨pos, bad, ⟨hp, hp2, hl, hlt, hbr⟩, HSA, ⟨hbad0, hbad1⟩, c0, c1, c2, f1, f2⟩ := HP.out.rd.open
        have HA := Lib.hid (HP.out.adv c1 HNE.out)
        go_upto_region 5 with fail
        generalize hW : World.setCell _ _ _ = WA
        rw [hW] at HA
        clear hW c0 c1 c2 f1 f2 HSA hp hp2 hl hlt hbr hbad0 hbad1 HP
        have HP := HA
        clear HA
        clear e0
        have e0 : World.cell? _ ⟨g, 0, none⟩ = some (.int .i64 7) := HP.out.cell (j := 0) rfl
        go_upto_region 12 with fail
        go_wp2_with fail
        refine (HBK.out _ HP.out.rd).mono ?_
        rintro e wb ⟨⟨aob, capb, rfl, hlb, hstb⟩, h2, h3⟩
        have HQ := Lib.hid (HP.out.then h2 h3)
        have HE := Lib.hid (And.intro hlb (hstb.mono HP.out.sz))
        clear hlb hstb h2 h3 HP
        have c9 := HQ.out.cell (j := 9) rfl
        have f9 := HQ.out.free 9
        go_upto_region 21 with fail
        generalize hW : World.setCell wb _ _ = WB
        have HP : Hid (Pn R w w.heap.size g (g + 1) WB ⟨hd 7 ln, b, .nil, { zS with aob := aob, capb := capb }⟩ s2) := Lib.hid (by rw [← hW]; exact HQ.out.body _ aob capb (Nat.le_trans HE.out.1 (by unfold maxLen; decide)) HE.out.2)
        clear hW c9 f9 HQ HE
        clear e0
        have e0 : World.cell? _ ⟨g, 0, none⟩ = some (.int .i64 7) := HP.out.cell (j := 0) rfl
        go_upto_region 24 with fail
        clear e0
        obtain ⟨⟨y0, y1, y2, y3, y4, y5, y6, y7, y8, y9, y10⟩, fz⟩ := z11 HP.out.z
        have z0 := fz 0
        have z1 := fz 1
        have z2 := fz 2
        have z3 := fz 3
        have z4 := fz 4
        have z5 := fz 5
        have z6 := fz 6
        have z7 := fz 7
        have z8 := fz 8
        have z9 := fz 9
        have z10 := fz 10
        obtain ⟨d0, d1, d2, d3, d4, d5, d6, d7, d8, d9, d10⟩ := pn_cells HP.out
        clear fz
        go_wp2_with fail
        exact bodyPost_ret (v := stV _ _ _ _) (by simp [results, Tryz.results112, go_sem, stV, y0, y1, y2, y3, y4, y5, y6, y7, y8, y9, y10]) rfl (rsta_end HP.out)
      · rw [h] at HW ⊢
        rw [if_neg (by decide), if_neg (by decide), if_neg (by decide), if_pos (by decide)]
        have HOP : Hid (I64 8) := Lib.hid (by unfold I64; decide)
        have HBK : Hid (∀ w, RfI w R s.adv → Calls Tryz.prog 81 #[.pointer (some ⟨R.br, 0, none⟩)] w (BlkR R w (bkS R.ts f s.adv))) := Lib.hid (fun w h => HIH.out s.adv w (bk_fuel HF.out (by exact HLT.out)) h)
        clear h HIH HF HLT
        try dsimp only
        generalize bkS R.ts f s.adv = resb at *
        obtain ⟨b, s2⟩ := resb
        go_enter Tryz.func112, Tryz.ntmps112
        go_upto_region 1 with fail
        generalize hW : World.alloc w _ = W0
        have HB0 : Hid (Below w.heap.size w W0) := Lib.hid (by rw [← hW]; exact alloc_below _ _)
        have HZ0 : Hid (W0.heap[w.heap.size]? = some (.cells zSt11 91 (0, 0))) := Lib.hid (by rw [← hW]; exact heap_alloc_new _ _)
        clear hW
        go_wp2_with fail
        refine (HW.out _ (HI.out.below HB0.out)).mono ?_
        rintro e w1 ⟨rfl, hb⟩
        have HB1 := Lib.hid (HB0.out.trans (hb.mono HB0.out.size))
        have HZ1 := Lib.hid ((hb.block _ (Array.getElem?_eq_some_iff.1 HZ0.out).1).trans HZ0.out)
        clear hb HB0 HZ0
        go_wp2_with fail
        refine (HLN.out _ (HI.out.below HB1.out)).mono ?_
        rintro e w2 ⟨rfl, hb⟩
        have HB2 := Lib.hid (HB1.out.trans (hb.mono HB1.out.size))
        have HZ2 := Lib.hid ((hb.block _ (Array.getElem?_eq_some_iff.1 HZ1.out).1).trans HZ1.out)
        clear hb HB1 HZ1
        go_upto_region 2 with fail
        obtain ⟨g, hg⟩ : ∃ g, w2.heap.size = g := ⟨_, rfl⟩
        generalize hW : World.alloc w2 _ = W3
        have HP : Hid (Pn R w w.heap.size g (g + 1) W3 ⟨hd 8 ln, .nil, .nil, zS⟩ s) := Lib.hid (by
          have hl := HI.out.lt
          have hzl := (Array.getElem?_eq_some_iff.1 HZ2.out).1
          rw [← hW, ← hg]
          exact ⟨(HI.out.below HB2.out).below (alloc_below _ _), gr_alloc (gr_below HB2.out) _, by omega, by simp, heap_alloc_new _ _, (heap_alloc_old _ _ hzl).trans HZ2.out, hd_ok HOP.out HL.out, hd_in _ _ _ _⟩)
        rw [hg]
        clear hW hg HB2 HZ2
        have e0 : World.cell? _ ⟨g, 0, none⟩ = some (.int .i64 8) := HP.out.cell (j := 0) rfl
        obtain ⟨pos, bad, ⟨hp, hp2, hl, hlt, hbr⟩, HSA, ⟨hbad0, hbad1⟩, c0, c1, c2, f1, f2⟩ := HP.out.rd.open
        have HA := Lib.hid (HP.out.adv c1 HNE.out)
        go_upto_region 5 with fail
        generalize hW : World.setCell _ _ _ = WA
        rw [hW] at HA
        clear hW c0 c1 c2 f1 f2 HSA hp hp2 hl hlt hbr hbad0 hbad1 HP
        have HP := HA
        clear HA
        clear e0
        have e0 : World.cell? _ ⟨g, 0, none⟩ = some (.int .i64 8) := HP.out.cell (j := 0) rfl
        go_upto_region 12 with fail
        go_wp2_with fail
        refine (HBK.out _ HP.out.rd).mono ?_
        rintro e wb ⟨⟨aob, capb, rfl, hlb, hstb⟩, h2, h3⟩
        have HQ := Lib.hid (HP.out.then h2 h3)
        have HE := Lib.hid (And.intro hlb (hstb.mono HP.out.sz))
        clear hlb hstb h2 h3 HP
        have c9 := HQ.out.cell (j := 9) rfl
        have f9 := HQ.out.free 9
        go_upto_region 21 with fail
        generalize hW : World.setCell wb _ _ = WB
        have HP : Hid (Pn R w w.heap.size g (g + 1) WB ⟨hd 8 ln, b, .nil, { zS with aob := aob, capb := capb }⟩ s2) := Lib.hid (by rw [← hW]; exact HQ.out.body _ aob capb (Nat.le_trans HE.out.1 (by unfold maxLen; decide)) HE.out.2)
        clear hW c9 f9 HQ HE
        clear e0
        have e0 : World.cell? _ ⟨g, 0, none⟩ = some (.int .i64 8) := HP.out.cell (j := 0) rfl
        go_upto_region 24 with fail
        clear e0
        obtain ⟨⟨y0, y1, y2, y3, y4, y5, y6, y7, y8, y9, y10⟩, fz⟩ := z11 HP.out.z
        have z0 := fz 0
        have z1 := fz 1
        have z2 := fz 2
        have z3 := fz 3
        have z4 := fz 4
        have z5 := fz 5
        have z6 := fz 6
        have z7 := fz 7
        have z8 := fz 8
        have z9 := fz 9
        have z10 := fz 10
        obtain ⟨d0, d1, d2, d3, d4, d5, d6, d7, d8, d9, d10⟩ := pn_cells HP.out
        clear fz
        go_wp2_with fail
        exact bodyPost_ret (v := stV _ _ _ _) (by simp [results, Tryz.results112, go_sem, stV, y0, y1, y2, y3, y4, y5, y6, y7, y8, y9, y10]) rfl (rsta_end HP.out)
    · rcases h with h | h | h
      · rw [h] at HW ⊢
        rw [if_neg (by decide), if_neg (by decide), if_neg (by decide), if_neg (by decide)]
        have HOP : Hid (I64 4) := Lib.hid (by unfold I64; decide)
        obtain ⟨q, hq⟩ : ∃ q, nameS R.ts s.adv = q := ⟨_, rfl⟩
        have HNM : Hid ((nameS R.ts s.adv).1.size ≤ maxLen) := Lib.hid (nameS_size (by
          intro t ht
          refine HI.out.ts t ?_
          cases s with
          | go r => exact List.mem_of_mem_tail ht
          | bad n => exact ht))
        have HRN : Hid (∀ w, RfI w R s.adv → Calls Tryz.prog 77 #[.pointer (some ⟨R.br, 0, none⟩)] w (NmR R w (nameS R.ts s.adv))) := Lib.hid (fun w h => rname_any R _ w h)
        have HLE : Hid ((nameS R.ts s.adv).2.len ≤ s.adv.len) := Lib.hid (nameS_le _)
        have HTS : Hid (TsOk (nameS R.ts s.adv).2.toks) := Lib.hid (name_ts HI.out)
        rw [hq] at HNM HRN HLE HTS ⊢
        clear hq
        obtain ⟨nm, s1⟩ := q
        dsimp only at HNM HLE HTS ⊢
        unfold tailX
        rw [if_pos (by decide)]
        have HBK : Hid (∀ w, RfI w R s1 → Calls Tryz.prog 81 #[.pointer (some ⟨R.br, 0, none⟩)] w (BlkR R w (bkS R.ts f s1))) := Lib.hid (fun w h => HIH.out s1 w (bk_fuel HF.out (by have h1 := HLE.out; have := HLT.out; omega)) h)
        clear h HIH HF HLT HLE HTS
        generalize bkS R.ts f s1 = resb at *
        obtain ⟨b, s2⟩ := resb
        go_enter Tryz.func112, Tryz.ntmps112
        go_upto_region 1 with fail
        generalize hW : World.alloc w _ = W0
        have HB0 : Hid (Below w.heap.size w W0) := Lib.hid (by rw [← hW]; exact alloc_below _ _)
        have HZ0 : Hid (W0.heap[w.heap.size]? = some (.cells zSt11 91 (0, 0))) := Lib.hid (by rw [← hW]; exact heap_alloc_new _ _)
        clear hW
        go_wp2_with fail
        refine (HW.out _ (HI.out.below HB0.out)).mono ?_
        rintro e w1 ⟨rfl, hb⟩
        have HB1 := Lib.hid (HB0.out.trans (hb.mono HB0.out.size))
        have HZ1 := Lib.hid ((hb.block _ (Array.getElem?_eq_some_iff.1 HZ0.out).1).trans HZ0.out)
        clear hb HB0 HZ0
        go_wp2_with fail
        refine (HLN.out _ (HI.out.below HB1.out)).mono ?_
        rintro e w2 ⟨rfl, hb⟩
        have HB2 := Lib.hid (HB1.out.trans (hb.mono HB1.out.size))
        have HZ2 := Lib.hid ((hb.block _ (Array.getElem?_eq_some_iff.1 HZ1.out).1).trans HZ1.out)
        clear hb HB1 HZ1
        go_upto_region 2 with fail
        obtain ⟨g, hg⟩ : ∃ g, w2.heap.size = g := ⟨_, rfl⟩
        generalize hW : World.alloc w2 _ = W3
        have HP : Hid (Pn R w w.heap.size g (g + 1) W3 ⟨hd 4 ln, .nil, .nil, zS⟩ s) := Lib.hid (by
          have hl := HI.out.lt
          have hzl := (Array.getElem?_eq_some_iff.1 HZ2.out).1
          rw [← hW, ← hg]
          exact ⟨(HI.out.below HB2.out).below (alloc_below _ _), gr_alloc (gr_below HB2.out) _, by omega, by simp, heap_alloc_new _ _, (heap_alloc_old _ _ hzl).trans HZ2.out, hd_ok HOP.out HL.out, hd_in _ _ _ _⟩)
        rw [hg]
        clear hW hg HB2 HZ2
        have e0 : World.cell? _ ⟨g, 0, none⟩ = some (.int .i64 4) := HP.out.cell (j := 0) rfl
        obtain ⟨pos, bad, ⟨hp, hp2, hl, hlt, hbr⟩, HSA, ⟨hbad0, hbad1⟩, c0, c1, c2, f1, f2⟩ := HP.out.rd.open
        have HA := Lib.hid (HP.out.adv c1 HNE.out)
        go_upto_region 5 with fail
        generalize hW : World.setCell _ _ _ = WA
        rw [hW] at HA
        clear hW c0 c1 c2 f1 f2 HSA hp hp2 hl hlt hbr hbad0 hbad1 HP
        have HP := HA
        clear HA
        clear e0
        have e0 : World.cell? _ ⟨g, 0, none⟩ = some (.int .i64 4) := HP.out.cell (j := 0) rfl
        go_wp2_with fail
        refine (HRN.out _ HP.out.rd).mono ?_
        rintro e wn ⟨rfl, h2, h3⟩
        have HQ := Lib.hid (HP.out.then h2 h3)
        have c2 := HQ.out.cell (j := 2) rfl
        have f2 := HQ.out.free 2
        clear h2 h3 HP
        go_upto_region 12 with fail
        generalize hW : World.setCell wn _ _ = WN
        have HP : Hid (Pn R w w.heap.size g (g + 1) WN ⟨{ hd 4 ln with nm := nm }, .nil, .nil, zS⟩ s1) := Lib.hid (by rw [← hW]; exact HQ.out.nm _ HNM.out)
        clear hW c2 f2 HQ
        clear e0
        have e0 : World.cell? _ ⟨g, 0, none⟩ = some (.int .i64 4) := HP.out.cell (j := 0) rfl
        go_wp2_with fail
        refine (HBK.out _ HP.out.rd).mono ?_
        rintro e wb ⟨⟨aob, capb, rfl, hlb, hstb⟩, h2, h3⟩
        have HQ := Lib.hid (HP.out.then h2 h3)
        have HE := Lib.hid (And.intro hlb (hstb.mono HP.out.sz))
        clear hlb hstb h2 h3 HP
        have c9 := HQ.out.cell (j := 9) rfl
        have f9 := HQ.out.free 9
        go_upto_region 21 with fail
        generalize hW : World.setCell wb _ _ = WB
        have HP : Hid (Pn R w w.heap.size g (g + 1) WB ⟨{ hd 4 ln with nm := nm }, b, .nil, { zS with aob := aob, capb := capb }⟩ s2) := Lib.hid (by rw [← hW]; exact HQ.out.body _ aob capb (Nat.le_trans HE.out.1 (by unfold maxLen; decide)) HE.out.2)
        clear hW c9 f9 HQ HE
        clear e0
        have e0 : World.cell? _ ⟨g, 0, none⟩ = some (.int .i64 4) := HP.out.cell (j := 0) rfl
        go_upto_region 24 with fail
        clear e0
        obtain ⟨⟨y0, y1, y2, y3, y4, y5, y6, y7, y8, y9, y10⟩, fz⟩ := z11 HP.out.z
        have z0 := fz 0
        have z1 := fz 1
        have z2 := fz 2
        have z3 := fz 3
        have z4 := fz 4
        have z5 := fz 5
        have z6 := fz 6
        have z7 := fz 7
        have z8 := fz 8
        have z9 := fz 9
        have z10 := fz 10
        obtain ⟨d0, d1, d2, d3, d4, d5, d6, d7, d8, d9, d10⟩ := pn_cells HP.out
        clear fz
        go_wp2_with fail
        exact bodyPost_ret (v := stV _ _ _ _) (by simp [results, Tryz.results112, go_sem, stV, y0, y1, y2, y3, y4, y5, y6, y7, y8, y9, y10]) rfl (rsta_end HP.out)
      · rw [h] at HW ⊢
        rw [if_neg (by decide), if_neg (by decide), if_neg (by decide), if_neg (by decide)]
        have HOP : Hid (I64 5) := Lib.hid (by unfold I64; decide)
        obtain ⟨q, hq⟩ : ∃ q, nameS R.ts s.adv = q := ⟨_, rfl⟩
        have HNM : Hid ((nameS R.ts s.adv).1.size ≤ maxLen) := Lib.hid (nameS_size (by
          intro t ht
          refine HI.out.ts t ?_
          cases s with
          | go r => exact List.mem_of_mem_tail ht
          | bad n => exact ht))
        have HRN : Hid (∀ w, RfI w R s.adv → Calls Tryz.prog 77 #[.pointer (some ⟨R.br, 0, none⟩)] w (NmR R w (nameS R.ts s.adv))) := Lib.hid (fun w h => rname_any R _ w h)
        have HLE : Hid ((nameS R.ts s.adv).2.len ≤ s.adv.len) := Lib.hid (nameS_le _)
        have HTS : Hid (TsOk (nameS R.ts s.adv).2.toks) := Lib.hid (name_ts HI.out)
        rw [hq] at HNM HRN HLE HTS ⊢
        clear hq
        obtain ⟨nm, s1⟩ := q
        dsimp only at HNM HLE HTS ⊢
        unfold tailX
        rw [if_pos (by decide)]
        have HBK : Hid (∀ w, RfI w R s1 → Calls Tryz.prog 81 #[.pointer (some ⟨R.br, 0, none⟩)] w (BlkR R w (bkS R.ts f s1))) := Lib.hid (fun w h => HIH.out s1 w (bk_fuel HF.out (by have h1 := HLE.out; have := HLT.out; omega)) h)
        clear h HIH HF HLT HLE HTS
        generalize bkS R.ts f s1 = resb at *
        obtain ⟨b, s2⟩ := resb
        go_enter Tryz.func112, Tryz.ntmps112
        go_upto_region 1 with fail
        generalize hW : World.alloc w _ = W0
        have HB0 : Hid (Below w.heap.size w W0) := Lib.hid (by rw [← hW]; exact alloc_below _ _)
        have HZ0 : Hid (W0.heap[w.heap.size]? = some (.cells zSt11 91 (0, 0))) := Lib.hid (by rw [← hW]; exact heap_alloc_new _ _)
        clear hW
        go_wp2_with fail
        refine (HW.out _ (HI.out.below HB0.out)).mono ?_
        rintro e w1 ⟨rfl, hb⟩
        have HB1 := Lib.hid (HB0.out.trans (hb.mono HB0.out.size))
        have HZ1 := Lib.hid ((hb.block _ (Array.getElem?_eq_some_iff.1 HZ0.out).1).trans HZ0.out)
        clear hb HB0 HZ0
        go_wp2_with fail
        refine (HLN.out _ (HI.out.below HB1.out)).mono ?_
        rintro e w2 ⟨rfl, hb⟩
        have HB2 := Lib.hid (HB1.out.trans (hb.mono HB1.out.size))
        have HZ2 := Lib.hid ((hb.block _ (Array.getElem?_eq_some_iff.1 HZ1.out).1).trans HZ1.out)
        clear hb HB1 HZ1
        go_upto_region 2 with fail
        obtain ⟨g, hg⟩ : ∃ g, w2.heap.size = g := ⟨_, rfl⟩
        generalize hW : World.alloc w2 _ = W3
        have HP : Hid (Pn R w w.heap.size g (g + 1) W3 ⟨hd 5 ln, .nil, .nil, zS⟩ s) := Lib.hid (by
          have hl := HI.out.lt
          have hzl := (Array.getElem?_eq_some_iff.1 HZ2.out).1
          rw [← hW, ← hg]
          exact ⟨(HI.out.below HB2.out).below (alloc_below _ _), gr_alloc (gr_below HB2.out) _, by omega, by simp, heap_alloc_new _ _, (heap_alloc_old _ _ hzl).trans HZ2.out, hd_ok HOP.out HL.out, hd_in _ _ _ _⟩)
        rw [hg]
        clear hW hg HB2 HZ2
        have e0 : World.cell? _ ⟨g, 0, none⟩ = some (.int .i64 5) := HP.out.cell (j := 0) rfl
        obtain ⟨pos, bad, ⟨hp, hp2, hl, hlt, hbr⟩, HSA, ⟨hbad0, hbad1⟩, c0, c1, c2, f1, f2⟩ := HP.out.rd.open
        have HA := Lib.hid (HP.out.adv c1 HNE.out)
        go_upto_region 5 with fail
        generalize hW : World.setCell _ _ _ = WA
        rw [hW] at HA
        clear hW c0 c1 c2 f1 f2 HSA hp hp2 hl hlt hbr hbad0 hbad1 HP
        have HP := HA
        clear HA
        clear e0
        have e0 : World.cell? _ ⟨g, 0, none⟩ = some (.int .i64 5) := HP.out.cell (j := 0) rfl
        go_wp2_with fail
        refine (HRN.out _ HP.out.rd).mono ?_
        rintro e wn ⟨rfl, h2, h3⟩
        have HQ := Lib.hid (HP.out.then h2 h3)
        have c2 := HQ.out.cell (j := 2) rfl
        have f2 := HQ.out.free 2
        clear h2 h3 HP
        go_upto_region 12 with fail
        generalize hW : World.setCell wn _ _ = WN
        have HP : Hid (Pn R w w.heap.size g (g + 1) WN ⟨{ hd 5 ln with nm := nm }, .nil, .nil, zS⟩ s1) := Lib.hid (by rw [← hW]; exact HQ.out.nm _ HNM.out)
        clear hW c2 f2 HQ
        clear e0
        have e0 : World.cell? _ ⟨g, 0, none⟩ = some (.int .i64 5) := HP.out.cell (j := 0) rfl
        go_wp2_with fail
        refine (HBK.out _ HP.out.rd).mono ?_
        rintro e wb ⟨⟨aob, capb, rfl, hlb, hstb⟩, h2, h3⟩
        have HQ := Lib.hid (HP.out.then h2 h3)
        have HE := Lib.hid (And.intro hlb (hstb.mono HP.out.sz))
        clear hlb hstb h2 h3 HP
        have c9 := HQ.out.cell (j := 9) rfl
        have f9 := HQ.out.free 9
        go_upto_region 21 with fail
        generalize hW : World.setCell wb _ _ = WB
        have HP : Hid (Pn R w w.heap.size g (g + 1) WB ⟨{ hd 5 ln with nm := nm }, b, .nil, { zS with aob := aob, capb := capb }⟩ s2) := Lib.hid (by rw [← hW]; exact HQ.out.body _ aob capb (Nat.le_trans HE.out.1 (by unfold maxLen; decide)) HE.out.2)
        clear hW c9 f9 HQ HE
        clear e0
        have e0 : World.cell? _ ⟨g, 0, none⟩ = some (.int .i64 5) := HP.out.cell (j := 0) rfl
        go_upto_region 24 with fail
        clear e0
        obtain ⟨⟨y0, y1, y2, y3, y4, y5, y6, y7, y8, y9, y10⟩, fz⟩ := z11 HP.out.z
        have z0 := fz 0
        have z1 := fz 1
        have z2 := fz 2
        have z3 := fz 3
        have z4 := fz 4
        have z5 := fz 5
        have z6 := fz 6
        have z7 := fz 7
        have z8 := fz 8
        have z9 := fz 9
        have z10 := fz 10
        obtain ⟨d0, d1, d2, d3, d4, d5, d6, d7, d8, d9, d10⟩ := pn_cells HP.out
        clear fz
        go_wp2_with fail
        exact bodyPost_ret (v := stV _ _ _ _) (by simp [results, Tryz.results112, go_sem, stV, y0, y1, y2, y3, y4, y5, y6, y7, y8, y9, y10]) rfl (rsta_end HP.out)
      · rw [h] at HW ⊢
        rw [if_neg (by decide), if_neg (by decide), if_neg (by decide), if_neg (by decide)]
        have HOP : Hid (I64 6) := Lib.hid (by unfold I64; decide)
        obtain ⟨q, hq⟩ : ∃ q, nameS R.ts s.adv = q := ⟨_, rfl⟩
        have HNM : Hid ((nameS R.ts s.adv).1.size ≤ maxLen) := Lib.hid (nameS_size (by
          intro t ht
          refine HI.out.ts t ?_
          cases s with
          | go r => exact List.mem_of_mem_tail ht
          | bad n => exact ht))
        have HRN : Hid (∀ w, RfI w R s.adv → Calls Tryz.prog 77 #[.pointer (some ⟨R.br, 0, none⟩)] w (NmR R w (nameS R.ts s.adv))) := Lib.hid (fun w h => rname_any R _ w h)
        have HLE : Hid ((nameS R.ts s.adv).2.len ≤ s.adv.len) := Lib.hid (nameS_le _)
        have HTS : Hid (TsOk (nameS R.ts s.adv).2.toks) := Lib.hid (name_ts HI.out)
        rw [hq] at HNM HRN HLE HTS ⊢
        clear hq
        obtain ⟨nm, s1⟩ := q
        dsimp only at HNM HLE HTS ⊢
        unfold tailX
        rw [if_pos (by decide)]
        have HBK : Hid (∀ w, RfI w R s1 → Calls Tryz.prog 81 #[.pointer (some ⟨R.br, 0, none⟩)] w (BlkR R w (bkS R.ts f s1))) := Lib.hid (fun w h => HIH.out s1 w (bk_fuel HF.out (by have h1 := HLE.out; have := HLT.out; omega)) h)
        clear h HIH HF HLT HLE HTS
        generalize bkS R.ts f s1 = resb at *
        obtain ⟨b, s2⟩ := resb
        go_enter Tryz.func112, Tryz.ntmps112
        go_upto_region 1 with fail
        generalize hW : World.alloc w _ = W0
        have HB0 : Hid (Below w.heap.size w W0) := Lib.hid (by rw [← hW]; exact alloc_below _ _)
        have HZ0 : Hid (W0.heap[w.heap.size]? = some (.cells zSt11 91 (0, 0))) := Lib.hid (by rw [← hW]; exact heap_alloc_new _ _)
        clear hW
        go_wp2_with fail
        refine (HW.out _ (HI.out.below HB0.out)).mono ?_
        rintro e w1 ⟨rfl, hb⟩
        have HB1 := Lib.hid (HB0.out.trans (hb.mono HB0.out.size))
        have HZ1 := Lib.hid ((hb.block _ (Array.getElem?_eq_some_iff.1 HZ0.out).1).trans HZ0.out)
        clear hb HB0 HZ0
        go_wp2_with fail
        refine (HLN.out _ (HI.out.below HB1.out)).mono ?_
        rintro e w2 ⟨rfl, hb⟩
        have HB2 := Lib.hid (HB1.out.trans (hb.mono HB1.out.size))
        have HZ2 := Lib.hid ((hb.block _ (Array.getElem?_eq_some_iff.1 HZ1.out).1).trans HZ1.out)
        clear hb HB1 HZ1
        go_upto_region 2 with fail
        obtain ⟨g, hg⟩ : ∃ g, w2.heap.size = g := ⟨_, rfl⟩
        generalize hW : World.alloc w2 _ = W3
        have HP : Hid (Pn R w w.heap.size g (g + 1) W3 ⟨hd 6 ln, .nil, .nil, zS⟩ s) := Lib.hid (by
          have hl := HI.out.lt
          have hzl := (Array.getElem?_eq_some_iff.1 HZ2.out).1
          rw [← hW, ← hg]
          exact ⟨(HI.out.below HB2.out).below (alloc_below _ _), gr_alloc (gr_below HB2.out) _, by omega, by simp, heap_alloc_new _ _, (heap_alloc_old _ _ hzl).trans HZ2.out, hd_ok HOP.out HL.out, hd_in _ _ _ _⟩)
        rw [hg]
        clear hW hg HB2 HZ2
        have e0 : World.cell? _ ⟨g, 0, none⟩ = some (.int .i64 6) := HP.out.cell (j := 0) rfl
        obtain ⟨pos, bad, ⟨hp, hp2, hl, hlt, hbr⟩, HSA, ⟨hbad0, hbad1⟩, c0, c1, c2, f1, f2⟩ := HP.out.rd.open
        have HA := Lib.hid (HP.out.adv c1 HNE.out)
        go_upto_region 5 with fail
        generalize hW : World.setCell _ _ _ = WA
        rw [hW] at HA
        clear hW c0 c1 c2 f1 f2 HSA hp hp2 hl hlt hbr hbad0 hbad1 HP
        have HP := HA
        clear HA
        clear e0
        have e0 : World.cell? _ ⟨g, 0, none⟩ = some (.int .i64 6) := HP.out.cell (j := 0) rfl
        go_wp2_with fail
        refine (HRN.out _ HP.out.rd).mono ?_
        rintro e wn ⟨rfl, h2, h3⟩
        have HQ := Lib.hid (HP.out.then h2 h3)
        have c2 := HQ.out.cell (j := 2) rfl
        have f2 := HQ.out.free 2
        clear h2 h3 HP
        go_upto_region 12 with fail
        generalize hW : World.setCell wn _ _ = WN
        have HP : Hid (Pn R w w.heap.size g (g + 1) WN ⟨{ hd 6 ln with nm := nm }, .nil, .nil, zS⟩ s1) := Lib.hid (by rw [← hW]; exact HQ.out.nm _ HNM.out)
        clear hW c2 f2 HQ
        clear e0
        have e0 : World.cell? _ ⟨g, 0, none⟩ = some (.int .i64 6) := HP.out.cell (j := 0) rfl
        go_wp2_with fail
        refine (HBK.out _ HP.out.rd).mono ?_
        rintro e wb ⟨⟨aob, capb, rfl, hlb, hstb⟩, h2, h3⟩
        have HQ := Lib.hid (HP.out.then h2 h3)
        have HE := Lib.hid (And.intro hlb (hstb.mono HP.out.sz))
        clear hlb hstb h2 h3 HP
        have c9 := HQ.out.cell (j := 9) rfl
        have f9 := HQ.out.free 9
        go_upto_region 21 with fail
        generalize hW : World.setCell wb _ _ = WB
        have HP : Hid (Pn R w w.heap.size g (g + 1) WB ⟨{ hd 6 ln with nm := nm }, b, .nil, { zS with aob := aob, capb := capb }⟩ s2) := Lib.hid (by rw [← hW]; exact HQ.out.body _ aob capb (Nat.le_trans HE.out.1 (by unfold maxLen; decide)) HE.out.2)
        clear hW c9 f9 HQ HE
        clear e0
        have e0 : World.cell? _ ⟨g, 0, none⟩ = some (.int .i64 6) := HP.out.cell (j := 0) rfl
        go_upto_region 24 with fail
        clear e0
        obtain ⟨⟨y0, y1, y2, y3, y4, y5, y6, y7, y8, y9, y10⟩, fz⟩ := z11 HP.out.z
        have z0 := fz 0
        have z1 := fz 1
        have z2 := fz 2
        have z3 := fz 3
        have z4 := fz 4
        have z5 := fz 5
        have z6 := fz 6
        have z7 := fz 7
        have z8 := fz 8
        have z9 := fz 9
        have z10 := fz 10
        obtain ⟨d0, d1, d2, d3, d4, d5, d6, d7, d8, d9, d10⟩ := pn_cells HP.out
        clear fz
        go_wp2_with fail
        exact bodyPost_ret (v := stV _ _ _ _) (by simp [results, Tryz.results112, go_sem, stV, y0, y1, y2, y3, y4, y5, y6, y7, y8, y9, y10]) rfl (rsta_end HP.out)
    · rw [h] at HW ⊢
      rw [if_neg (by decide), if_neg (by decide), if_neg (by decide), if_neg (by decide)]
      have HOP : Hid (I64 14) := Lib.hid (by unfold I64; decide)
      obtain ⟨q, hq⟩ : ∃ q, nameS R.ts s.adv = q := ⟨_, rfl⟩
      have HNM : Hid ((nameS R.ts s.adv).1.size ≤ maxLen) := Lib.hid (nameS_size (by
        intro t ht
        refine HI.out.ts t ?_
        cases s with
        | go r => exact List.mem_of_mem_tail ht
        | bad n => exact ht))
      have HRN : Hid (∀ w, RfI w R s.adv → Calls Tryz.prog 77 #[.pointer (some ⟨R.br, 0, none⟩)] w (NmR R w (nameS R.ts s.adv))) := Lib.hid (fun w h => rname_any R _ w h)
      have HLE : Hid ((nameS R.ts s.adv).2.len ≤ s.adv.len) := Lib.hid (nameS_le _)
      have HTS : Hid (TsOk (nameS R.ts s.adv).2.toks) := Lib.hid (name_ts HI.out)
      rw [hq] at HNM HRN HLE HTS ⊢
      clear hq
      obtain ⟨nm, s1⟩ := q
      dsimp only at HNM HLE HTS ⊢
      unfold tailX
      rw [if_neg (by decide), if_pos (by decide)]
      have HX : Hid (∀ w, RfI w R s1 → Calls Tryz.prog 44 #[.pointer (some ⟨R.br, 0, none⟩), .int .i64 1] w (ExpR R w (exprT R.ts s1))) := Lib.hid (fun w h => rexpr_any R _ w h)
      generalize exprT R.ts s1 = res at *
      obtain ⟨x, s2⟩ := res
      clear h HIH HF HLT HLE HTS
      go_enter Tryz.func112, Tryz.ntmps112
      go_upto_region 1 with fail
      generalize hW : World.alloc w _ = W0
      have HB0 : Hid (Below w.heap.size w W0) := Lib.hid (by rw [← hW]; exact alloc_below _ _)
      have HZ0 : Hid (W0.heap[w.heap.size]? = some (.cells zSt11 91 (0, 0))) := Lib.hid (by rw [← hW]; exact heap_alloc_new _ _)
      clear hW
      go_wp2_with fail
      refine (HW.out _ (HI.out.below HB0.out)).mono ?_
      rintro e w1 ⟨rfl, hb⟩
      have HB1 := Lib.hid (HB0.out.trans (hb.mono HB0.out.size))
      have HZ1 := Lib.hid ((hb.block _ (Array.getElem?_eq_some_iff.1 HZ0.out).1).trans HZ0.out)
      clear hb HB0 HZ0
      go_wp2_with fail
      refine (HLN.out _ (HI.out.below HB1.out)).mono ?_
      rintro e w2 ⟨rfl, hb⟩
      have HB2 := Lib.hid (HB1.out.trans (hb.mono HB1.out.size))
      have HZ2 := Lib.hid ((hb.block _ (Array.getElem?_eq_some_iff.1 HZ1.out).1).trans HZ1.out)
      clear hb HB1 HZ1
      go_upto_region 2 with fail
      obtain ⟨g, hg⟩ : ∃ g, w2.heap.size = g := ⟨_, rfl⟩
      generalize hW : World.alloc w2 _ = W3
      have HP : Hid (Pn R w w.heap.size g (g + 1) W3 ⟨hd 14 ln, .nil, .nil, zS⟩ s) := Lib.hid (by
        have hl := HI.out.lt
        have hzl := (Array.getElem?_eq_some_iff.1 HZ2.out).1
        rw [← hW, ← hg]
        exact ⟨(HI.out.below HB2.out).below (alloc_below _ _), gr_alloc (gr_below HB2.out) _, by omega, by simp, heap_alloc_new _ _, (heap_alloc_old _ _ hzl).trans HZ2.out, hd_ok HOP.out HL.out, hd_in _ _ _ _⟩)
      rw [hg]
      clear hW hg HB2 HZ2
      have e0 : World.cell? _ ⟨g, 0, none⟩ = some (.int .i64 14) := HP.out.cell (j := 0) rfl
      obtain ⟨pos, bad, ⟨hp, hp2, hl, hlt, hbr⟩, HSA, ⟨hbad0, hbad1⟩, c0, c1, c2, f1, f2⟩ := HP.out.rd.open
      have HA := Lib.hid (HP.out.adv c1 HNE.out)
      go_upto_region 5 with fail
      generalize hW : World.setCell _ _ _ = WA
      rw [hW] at HA
      clear hW c0 c1 c2 f1 f2 HSA hp hp2 hl hlt hbr hbad0 hbad1 HP
      have HP := HA
      clear HA
      clear e0
      have e0 : World.cell? _ ⟨g, 0, none⟩ = some (.int .i64 14) := HP.out.cell (j := 0) rfl
      go_wp2_with fail
      refine (HRN.out _ HP.out.rd).mono ?_
      rintro e wn ⟨rfl, h2, h3⟩
      have HQ := Lib.hid (HP.out.then h2 h3)
      have c2 := HQ.out.cell (j := 2) rfl
      have f2 := HQ.out.free 2
      clear h2 h3 HP
      go_upto_region 12 with fail
      generalize hW : World.setCell wn _ _ = WN
      have HP : Hid (Pn R w w.heap.size g (g + 1) WN ⟨{ hd 14 ln with nm := nm }, .nil, .nil, zS⟩ s1) := Lib.hid (by rw [← hW]; exact HQ.out.nm _ HNM.out)
      clear hW c2 f2 HQ
      clear e0
      have e0 : World.cell? _ ⟨g, 0, none⟩ = some (.int .i64 14) := HP.out.cell (j := 0) rfl
      go_wp2_with fail
      refine (HX.out _ HP.out.rd).mono ?_
      rintro e w3 ⟨v, rfl, hv, h2, h3⟩
      have HQ := Lib.hid (HP.out.then h2 h3)
      have HV := Lib.hid (hv.mono HP.out.sz)
      clear h2 h3 hv HP
      obtain ⟨aox, capx, rfl, hokx, hstx⟩ := HV.out
      have HE := Lib.hid (And.intro hokx hstx)
      clear hokx hstx HV
      have c5 := HQ.out.cell (j := 5) rfl
      have c6 := HQ.out.cell (j := 6) rfl
      have c7 := HQ.out.cell (j := 7) rfl
      have c8 := HQ.out.cell (j := 8) rfl
      have f5 := HQ.out.free 5
      have f6 := HQ.out.free 6
      have f7 := HQ.out.free 7
      have f8 := HQ.out.free 8
      unfold exV
      go_upto_region 29 with fail
      generalize hW : World.setCell (World.setCell (World.setCell (World.setCell w3 _ _) _ _) _ _) _ _ = WX
      have HP : Hid (Pn R w w.heap.size g (g + 1) WX ⟨StH.ex { hd 14 ln with nm := nm } x, .nil, .nil, { zS with aox := aox, capx := capx }⟩ s2) := Lib.hid (by rw [← hW]; exact HQ.out.ex x aox capx HE.out.1 HE.out.2)
      clear hW c5 c6 c7 c8 f5 f6 f7 f8 HQ HE
      clear e0
      go_wp2_with fail
      refine (want_any R _ _ ⟨#[59]⟩ rfl HP.out.rd).mono ?_
      rintro e w9 ⟨rfl, h2, h3⟩
      have HQ := Lib.hid (HP.out.then h2 h3)
      clear h2 h3 HP
      have HP := HQ
      clear HQ
      obtain ⟨⟨y0, y1, y2, y3, y4, y5, y6, y7, y8, y9, y10⟩, fz⟩ := z11 HP.out.z
      have z0 := fz 0
      have z1 := fz 1
      have z2 := fz 2
      have z3 := fz 3
      have z4 := fz 4
      have z5 := fz 5
      have z6 := fz 6
      have z7 := fz 7
      have z8 := fz 8
      have z9 := fz 9
      have z10 := fz 10
      obtain ⟨d0, d1, d2, d3, d4, d5, d6, d7, d8, d9, d10⟩ := pn_cells HP.out
      clear fz
      go_wp2_with fail
      exact bodyPost_ret (v := stV _ _ _ _) (by simp [results, Tryz.results112, go_sem, stV, y0, y1, y2, y3, y4, y5, y6, y7, y8, y9, y10]) rfl (rsta_end HP.out)
    · rw [h] at HW ⊢
      rw [if_neg (by decide), if_neg (by decide), if_neg (by decide), if_neg (by decide)]
      have HOP : Hid (I64 15) := Lib.hid (by unfold I64; decide)
      obtain ⟨q, hq⟩ : ∃ q, nameS R.ts s.adv = q := ⟨_, rfl⟩
      have HNM : Hid ((nameS R.ts s.adv).1.size ≤ maxLen) := Lib.hid (nameS_size (by
        intro t ht
        refine HI.out.ts t ?_
        cases s with
        | go r => exact List.mem_of_mem_tail ht
        | bad n => exact ht))
      have HRN : Hid (∀ w, RfI w R s.adv → Calls Tryz.prog 77 #[.pointer (some ⟨R.br, 0, none⟩)] w (NmR R w (nameS R.ts s.adv))) := Lib.hid (fun w h => rname_any R _ w h)
      have HLE : Hid ((nameS R.ts s.adv).2.len ≤ s.adv.len) := Lib.hid (nameS_le _)
      have HTS : Hid (TsOk (nameS R.ts s.adv).2.toks) := Lib.hid (name_ts HI.out)
      rw [hq] at HNM HRN HLE HTS ⊢
      clear hq
      obtain ⟨nm, s1⟩ := q
      dsimp only at HNM HLE HTS ⊢
      unfold tailX
      rw [if_neg (by decide), if_neg (by decide), if_pos (by decide)]
      have HNM2 : Hid ((nameS R.ts s1).1.size ≤ maxLen) := Lib.hid (nameS_size HTS.out)
      have HRN2 : Hid (∀ w, RfI w R s1 → Calls Tryz.prog 77 #[.pointer (some ⟨R.br, 0, none⟩)] w (NmR R w (nameS R.ts s1))) := Lib.hid (fun w h => rname_any R _ w h)
      generalize nameS R.ts s1 = q2 at *
      obtain ⟨nm2, s2⟩ := q2
      clear h HIH HF HLT HLE HTS
      go_enter Tryz.func112, Tryz.ntmps112
      go_upto_region 1 with fail
      generalize hW : World.alloc w _ = W0
      have HB0 : Hid (Below w.heap.size w W0) := Lib.hid (by rw [← hW]; exact alloc_below _ _)
      have HZ0 : Hid (W0.heap[w.heap.size]? = some (.cells zSt11 91 (0, 0))) := Lib.hid (by rw [← hW]; exact heap_alloc_new _ _)
      clear hW
      go_wp2_with fail
      refine (HW.out _ (HI.out.below HB0.out)).mono ?_
      rintro e w1 ⟨rfl, hb⟩
      have HB1 := Lib.hid (HB0.out.trans (hb.mono HB0.out.size))
      have HZ1 := Lib.hid ((hb.block _ (Array.getElem?_eq_some_iff.1 HZ0.out).1).trans HZ0.out)
      clear hb HB0 HZ0
      go_wp2_with fail
      refine (HLN.out _ (HI.out.below HB1.out)).mono ?_
      rintro e w2 ⟨rfl, hb⟩
      have HB2 := Lib.hid (HB1.out.trans (hb.mono HB1.out.size))
      have HZ2 := Lib.hid ((hb.block _ (Array.getElem?_eq_some_iff.1 HZ1.out).1).trans HZ1.out)
      clear hb HB1 HZ1
      go_upto_region 2 with fail
      obtain ⟨g, hg⟩ : ∃ g, w2.heap.size = g := ⟨_, rfl⟩
      generalize hW : World.alloc w2 _ = W3
      have HP : Hid (Pn R w w.heap.size g (g + 1) W3 ⟨hd 15 ln, .nil, .nil, zS⟩ s) := Lib.hid (by
        have hl := HI.out.lt
        have hzl := (Array.getElem?_eq_some_iff.1 HZ2.out).1
        rw [← hW, ← hg]
        exact ⟨(HI.out.below HB2.out).below (alloc_below _ _), gr_alloc (gr_below HB2.out) _, by omega, by simp, heap_alloc_new _ _, (heap_alloc_old _ _ hzl).trans HZ2.out, hd_ok HOP.out HL.out, hd_in _ _ _ _⟩)
      rw [hg]
      clear hW hg HB2 HZ2
      have e0 : World.cell? _ ⟨g, 0, none⟩ = some (.int .i64 15) := HP.out.cell (j := 0) rfl
      obtain ⟨pos, bad, ⟨hp, hp2, hl, hlt, hbr⟩, HSA, ⟨hbad0, hbad1⟩, c0, c1, c2, f1, f2⟩ := HP.out.rd.open
      have HA := Lib.hid (HP.out.adv c1 HNE.out)
      go_upto_region 5 with fail
      generalize hW : World.setCell _ _ _ = WA
      rw [hW] at HA
      clear hW c0 c1 c2 f1 f2 HSA hp hp2 hl hlt hbr hbad0 hbad1 HP
      have HP := HA
      clear HA
      clear e0
      have e0 : World.cell? _ ⟨g, 0, none⟩ = some (.int .i64 15) := HP.out.cell (j := 0) rfl
      go_wp2_with fail
      refine (HRN.out _ HP.out.rd).mono ?_
      rintro e wn ⟨rfl, h2, h3⟩
      have HQ := Lib.hid (HP.out.then h2 h3)
      have c2 := HQ.out.cell (j := 2) rfl
      have f2 := HQ.out.free 2
      clear h2 h3 HP
      go_upto_region 12 with fail
      generalize hW : World.setCell wn _ _ = WN
      have HP : Hid (Pn R w w.heap.size g (g + 1) WN ⟨{ hd 15 ln with nm := nm }, .nil, .nil, zS⟩ s1) := Lib.hid (by rw [← hW]; exact HQ.out.nm _ HNM.out)
      clear hW c2 f2 HQ
      clear e0
      have e0 : World.cell? _ ⟨g, 0, none⟩ = some (.int .i64 15) := HP.out.cell (j := 0) rfl
      go_wp2_with fail
      refine (HRN2.out _ HP.out.rd).mono ?_
      rintro e wn2 ⟨rfl, h2, h3⟩
      have HQ := Lib.hid (HP.out.then h2 h3)
      have c3 := HQ.out.cell (j := 3) rfl
      have f3 := HQ.out.free 3
      clear h2 h3 HP e0
      go_upto_region 29 with fail
      generalize hW : World.setCell wn2 _ _ = WN2
      have HP : Hid (Pn R w w.heap.size g (g + 1) WN2 ⟨{ hd 15 ln with nm := nm, arg := nm2 }, .nil, .nil, zS⟩ s2) := Lib.hid (by rw [← hW]; exact HQ.out.arg _ HNM2.out)
      clear hW c3 f3 HQ
      go_wp2_with fail
      refine (want_any R _ _ ⟨#[59]⟩ rfl HP.out.rd).mono ?_
      rintro e w9 ⟨rfl, h2, h3⟩
      have HQ := Lib.hid (HP.out.then h2 h3)
      clear h2 h3 HP
      have HP := HQ
      clear HQ
      obtain ⟨⟨y0, y1, y2, y3, y4, y5, y6, y7, y8, y9, y10⟩, fz⟩ := z11 HP.out.z
      have z0 := fz 0
      have z1 := fz 1
      have z2 := fz 2
      have z3 := fz 3
      have z4 := fz 4
      have z5 := fz 5
      have z6 := fz 6
      have z7 := fz 7
      have z8 := fz 8
      have z9 := fz 9
      have z10 := fz 10
      obtain ⟨d0, d1, d2, d3, d4, d5, d6, d7, d8, d9, d10⟩ := pn_cells HP.out
      clear fz
      go_wp2_with fail
      exact bodyPost_ret (v := stV _ _ _ _) (by simp [results, Tryz.results112, go_sem, stV, y0, y1, y2, y3, y4, y5, y6, y7, y8, y9, y10]) rfl (rsta_end HP.out)
    · rcases h with h | h | h | h | h
      · rw [h] at HW ⊢
        rw [if_neg (by decide), if_neg (by decide), if_neg (by decide), if_neg (by decide)]
        have HOP : Hid (I64 9) := Lib.hid (by unfold I64; decide)
        obtain ⟨q, hq⟩ : ∃ q, nameS R.ts s.adv = q := ⟨_, rfl⟩
        have HNM : Hid ((nameS R.ts s.adv).1.size ≤ maxLen) := Lib.hid (nameS_size (by
          intro t ht
          refine HI.out.ts t ?_
          cases s with
          | go r => exact List.mem_of_mem_tail ht
          | bad n => exact ht))
        have HRN : Hid (∀ w, RfI w R s.adv → Calls Tryz.prog 77 #[.pointer (some ⟨R.br, 0, none⟩)] w (NmR R w (nameS R.ts s.adv))) := Lib.hid (fun w h => rname_any R _ w h)
        have HLE : Hid ((nameS R.ts s.adv).2.len ≤ s.adv.len) := Lib.hid (nameS_le _)
        have HTS : Hid (TsOk (nameS R.ts s.adv).2.toks) := Lib.hid (name_ts HI.out)
        rw [hq] at HNM HRN HLE HTS ⊢
        clear hq
        obtain ⟨nm, s1⟩ := q
        dsimp only at HNM HLE HTS ⊢
        unfold tailX
        rw [if_neg (by decide), if_neg (by decide), if_neg (by decide)]
        clear h HIH HF HLT HLE HTS
        go_enter Tryz.func112, Tryz.ntmps112
        go_upto_region 1 with fail
        generalize hW : World.alloc w _ = W0
        have HB0 : Hid (Below w.heap.size w W0) := Lib.hid (by rw [← hW]; exact alloc_below _ _)
        have HZ0 : Hid (W0.heap[w.heap.size]? = some (.cells zSt11 91 (0, 0))) := Lib.hid (by rw [← hW]; exact heap_alloc_new _ _)
        clear hW
        go_wp2_with fail
        refine (HW.out _ (HI.out.below HB0.out)).mono ?_
        rintro e w1 ⟨rfl, hb⟩
        have HB1 := Lib.hid (HB0.out.trans (hb.mono HB0.out.size))
        have HZ1 := Lib.hid ((hb.block _ (Array.getElem?_eq_some_iff.1 HZ0.out).1).trans HZ0.out)
        clear hb HB0 HZ0
        go_wp2_with fail
        refine (HLN.out _ (HI.out.below HB1.out)).mono ?_
        rintro e w2 ⟨rfl, hb⟩
        have HB2 := Lib.hid (HB1.out.trans (hb.mono HB1.out.size))
        have HZ2 := Lib.hid ((hb.block _ (Array.getElem?_eq_some_iff.1 HZ1.out).1).trans HZ1.out)
        clear hb HB1 HZ1
        go_upto_region 2 with fail
        obtain ⟨g, hg⟩ : ∃ g, w2.heap.size = g := ⟨_, rfl⟩
        generalize hW : World.alloc w2 _ = W3
        have HP : Hid (Pn R w w.heap.size g (g + 1) W3 ⟨hd 9 ln, .nil, .nil, zS⟩ s) := Lib.hid (by
          have hl := HI.out.lt
          have hzl := (Array.getElem?_eq_some_iff.1 HZ2.out).1
          rw [← hW, ← hg]
          exact ⟨(HI.out.below HB2.out).below (alloc_below _ _), gr_alloc (gr_below HB2.out) _, by omega, by simp, heap_alloc_new _ _, (heap_alloc_old _ _ hzl).trans HZ2.out, hd_ok HOP.out HL.out, hd_in _ _ _ _⟩)
        rw [hg]
        clear hW hg HB2 HZ2
        have e0 : World.cell? _ ⟨g, 0, none⟩ = some (.int .i64 9) := HP.out.cell (j := 0) rfl
        obtain ⟨pos, bad, ⟨hp, hp2, hl, hlt, hbr⟩, HSA, ⟨hbad0, hbad1⟩, c0, c1, c2, f1, f2⟩ := HP.out.rd.open
        have HA := Lib.hid (HP.out.adv c1 HNE.out)
        go_upto_region 5 with fail
        generalize hW : World.setCell _ _ _ = WA
        rw [hW] at HA
        clear hW c0 c1 c2 f1 f2 HSA hp hp2 hl hlt hbr hbad0 hbad1 HP
        have HP := HA
        clear HA
        clear e0
        have e0 : World.cell? _ ⟨g, 0, none⟩ = some (.int .i64 9) := HP.out.cell (j := 0) rfl
        go_wp2_with fail
        refine (HRN.out _ HP.out.rd).mono ?_
        rintro e wn ⟨rfl, h2, h3⟩
        have HQ := Lib.hid (HP.out.then h2 h3)
        have c2 := HQ.out.cell (j := 2) rfl
        have f2 := HQ.out.free 2
        clear h2 h3 HP
        go_upto_region 12 with fail
        generalize hW : World.setCell wn _ _ = WN
        have HP : Hid (Pn R w w.heap.size g (g + 1) WN ⟨{ hd 9 ln with nm := nm }, .nil, .nil, zS⟩ s1) := Lib.hid (by rw [← hW]; exact HQ.out.nm _ HNM.out)
        clear hW c2 f2 HQ
        clear e0
        have e0 : World.cell? _ ⟨g, 0, none⟩ = some (.int .i64 9) := HP.out.cell (j := 0) rfl
        go_upto_region 29 with fail
        clear e0
        go_wp2_with fail
        refine (want_any R _ _ ⟨#[59]⟩ rfl HP.out.rd).mono ?_
        rintro e w9 ⟨rfl, h2, h3⟩
        have HQ := Lib.hid (HP.out.then h2 h3)
        clear h2 h3 HP
        have HP := HQ
        clear HQ
        obtain ⟨⟨y0, y1, y2, y3, y4, y5, y6, y7, y8, y9, y10⟩, fz⟩ := z11 HP.out.z
        have z0 := fz 0
        have z1 := fz 1
        have z2 := fz 2
        have z3 := fz 3
        have z4 := fz 4
        have z5 := fz 5
        have z6 := fz 6
        have z7 := fz 7
        have z8 := fz 8
        have z9 := fz 9
        have z10 := fz 10
        obtain ⟨d0, d1, d2, d3, d4, d5, d6, d7, d8, d9, d10⟩ := pn_cells HP.out
        clear fz
        go_wp2_with fail
        exact bodyPost_ret (v := stV _ _ _ _) (by simp [results, Tryz.results112, go_sem, stV, y0, y1, y2, y3, y4, y5, y6, y7, y8, y9, y10]) rfl (rsta_end HP.out)
      · rw [h] at HW ⊢
        rw [if_neg (by decide), if_neg (by decide), if_neg (by decide), if_neg (by decide)]
        have HOP : Hid (I64 10) := Lib.hid (by unfold I64; decide)
        obtain ⟨q, hq⟩ : ∃ q, nameS R.ts s.adv = q := ⟨_, rfl⟩
        have HNM : Hid ((nameS R.ts s.adv).1.size ≤ maxLen) := Lib.hid (nameS_size (by
          intro t ht
          refine HI.out.ts t ?_
          cases s with
          | go r => exact List.mem_of_mem_tail ht
          | bad n => exact ht))
        have HRN : Hid (∀ w, RfI w R s.adv → Calls Tryz.prog 77 #[.pointer (some ⟨R.br, 0, none⟩)] w (NmR R w (nameS R.ts s.adv))) := Lib.hid (fun w h => rname_any R _ w h)
        have HLE : Hid ((nameS R.ts s.adv).2.len ≤ s.adv.len) := Lib.hid (nameS_le _)
        have HTS : Hid (TsOk (nameS R.ts s.adv).2.toks) := Lib.hid (name_ts HI.out)
        rw [hq] at HNM HRN HLE HTS ⊢
        clear hq
        obtain ⟨nm, s1⟩ := q
        dsimp only at HNM HLE HTS ⊢
        unfold tailX
        rw [if_neg (by decide), if_neg (by decide), if_neg (by decide)]
        clear h HIH HF HLT HLE HTS
        go_enter Tryz.func112, Tryz.ntmps112
        go_upto_region 1 with fail
        generalize hW : World.alloc w _ = W0
        have HB0 : Hid (Below w.heap.size w W0) := Lib.hid (by rw [← hW]; exact alloc_below _ _)
        have HZ0 : Hid (W0.heap[w.heap.size]? = some (.cells zSt11 91 (0, 0))) := Lib.hid (by rw [← hW]; exact heap_alloc_new _ _)
        clear hW
        go_wp2_with fail
        refine (HW.out _ (HI.out.below HB0.out)).mono ?_
        rintro e w1 ⟨rfl, hb⟩
        have HB1 := Lib.hid (HB0.out.trans (hb.mono HB0.out.size))
        have HZ1 := Lib.hid ((hb.block _ (Array.getElem?_eq_some_iff.1 HZ0.out).1).trans HZ0.out)
        clear hb HB0 HZ0
        go_wp2_with fail
        refine (HLN.out _ (HI.out.below HB1.out)).mono ?_
        rintro e w2 ⟨rfl, hb⟩
        have HB2 := Lib.hid (HB1.out.trans (hb.mono HB1.out.size))
        have HZ2 := Lib.hid ((hb.block _ (Array.getElem?_eq_some_iff.1 HZ1.out).1).trans HZ1.out)
        clear hb HB1 HZ1
        go_upto_region 2 with fail
        obtain ⟨g, hg⟩ : ∃ g, w2.heap.size = g := ⟨_, rfl⟩
        generalize hW : World.alloc w2 _ = W3
        have HP : Hid (Pn R w w.heap.size g (g + 1) W3 ⟨hd 10 ln, .nil, .nil, zS⟩ s) := Lib.hid (by
          have hl := HI.out.lt
          have hzl := (Array.getElem?_eq_some_iff.1 HZ2.out).1
          rw [← hW, ← hg]
          exact ⟨(HI.out.below HB2.out).below (alloc_below _ _), gr_alloc (gr_below HB2.out) _, by omega, by simp, heap_alloc_new _ _, (heap_alloc_old _ _ hzl).trans HZ2.out, hd_ok HOP.out HL.out, hd_in _ _ _ _⟩)
        rw [hg]
        clear hW hg HB2 HZ2
        have e0 : World.cell? _ ⟨g, 0, none⟩ = some (.int .i64 10) := HP.out.cell (j := 0) rfl
        obtain ⟨pos, bad, ⟨hp, hp2, hl, hlt, hbr⟩, HSA, ⟨hbad0, hbad1⟩, c0, c1, c2, f1, f2⟩ := HP.out.rd.open
        have HA := Lib.hid (HP.out.adv c1 HNE.out)
        go_upto_region 5 with fail
        generalize hW : World.setCell _ _ _ = WA
        rw [hW] at HA
        clear hW c0 c1 c2 f1 f2 HSA hp hp2 hl hlt hbr hbad0 hbad1 HP
        have HP := HA
        clear HA
        clear e0
        have e0 : World.cell? _ ⟨g, 0, none⟩ = some (.int .i64 10) := HP.out.cell (j := 0) rfl
        go_wp2_with fail
        refine (HRN.out _ HP.out.rd).mono ?_
        rintro e wn ⟨rfl, h2, h3⟩
        have HQ := Lib.hid (HP.out.then h2 h3)
        have c2 := HQ.out.cell (j := 2) rfl
        have f2 := HQ.out.free 2
        clear h2 h3 HP
        go_upto_region 12 with fail
        generalize hW : World.setCell wn _ _ = WN
        have HP : Hid (Pn R w w.heap.size g (g + 1) WN ⟨{ hd 10 ln with nm := nm }, .nil, .nil, zS⟩ s1) := Lib.hid (by rw [← hW]; exact HQ.out.nm _ HNM.out)
        clear hW c2 f2 HQ
        clear e0
        have e0 : World.cell? _ ⟨g, 0, none⟩ = some (.int .i64 10) := HP.out.cell (j := 0) rfl
        go_upto_region 29 with fail
        clear e0
        go_wp2_with fail
        refine (want_any R _ _ ⟨#[59]⟩ rfl HP.out.rd).mono ?_
        rintro e w9 ⟨rfl, h2, h3⟩
        have HQ := Lib.hid (HP.out.then h2 h3)
        clear h2 h3 HP
        have HP := HQ
        clear HQ
        obtain ⟨⟨y0, y1, y2, y3, y4, y5, y6, y7, y8, y9, y10⟩, fz⟩ := z11 HP.out.z
        have z0 := fz 0
        have z1 := fz 1
        have z2 := fz 2
        have z3 := fz 3
        have z4 := fz 4
        have z5 := fz 5
        have z6 := fz 6
        have z7 := fz 7
        have z8 := fz 8
        have z9 := fz 9
        have z10 := fz 10
        obtain ⟨d0, d1, d2, d3, d4, d5, d6, d7, d8, d9, d10⟩ := pn_cells HP.out
        clear fz
        go_wp2_with fail
        exact bodyPost_ret (v := stV _ _ _ _) (by simp [results, Tryz.results112, go_sem, stV, y0, y1, y2, y3, y4, y5, y6, y7, y8, y9, y10]) rfl (rsta_end HP.out)
      · rw [h] at HW ⊢
        rw [if_neg (by decide), if_neg (by decide), if_neg (by decide), if_neg (by decide)]
        have HOP : Hid (I64 11) := Lib.hid (by unfold I64; decide)
        obtain ⟨q, hq⟩ : ∃ q, nameS R.ts s.adv = q := ⟨_, rfl⟩
        have HNM : Hid ((nameS R.ts s.adv).1.size ≤ maxLen) := Lib.hid (nameS_size (by
          intro t ht
          refine HI.out.ts t ?_
          cases s with
          | go r => exact List.mem_of_mem_tail ht
          | bad n => exact ht))
        have HRN : Hid (∀ w, RfI w R s.adv → Calls Tryz.prog 77 #[.pointer (some ⟨R.br, 0, none⟩)] w (NmR R w (nameS R.ts s.adv))) := Lib.hid (fun w h => rname_any R _ w h)
        have HLE : Hid ((nameS R.ts s.adv).2.len ≤ s.adv.len) := Lib.hid (nameS_le _)
        have HTS : Hid (TsOk (nameS R.ts s.adv).2.toks) := Lib.hid (name_ts HI.out)
        rw [hq] at HNM HRN HLE HTS ⊢
        clear hq
        obtain ⟨nm, s1⟩ := q
        dsimp only at HNM HLE HTS ⊢
        unfold tailX
        rw [if_neg (by decide), if_neg (by decide), if_neg (by decide)]
        clear h HIH HF HLT HLE HTS
        go_enter Tryz.func112, Tryz.ntmps112
        go_upto_region 1 with fail
        generalize hW : World.alloc w _ = W0
        have HB0 : Hid (Below w.heap.size w W0) := Lib.hid (by rw [← hW]; exact alloc_below _ _)
        have HZ0 : Hid (W0.heap[w.heap.size]? = some (.cells zSt11 91 (0, 0))) := Lib.hid (by rw [← hW]; exact heap_alloc_new _ _)
        clear hW
        go_wp2_with fail
        refine (HW.out _ (HI.out.below HB0.out)).mono ?_
        rintro e w1 ⟨rfl, hb⟩
        have HB1 := Lib.hid (HB0.out.trans (hb.mono HB0.out.size))
        have HZ1 := Lib.hid ((hb.block _ (Array.getElem?_eq_some_iff.1 HZ0.out).1).trans HZ0.out)
        clear hb HB0 HZ0
        go_wp2_with fail
        refine (HLN.out _ (HI.out.below HB1.out)).mono ?_
        rintro e w2 ⟨rfl, hb⟩
        have HB2 := Lib.hid (HB1.out.trans (hb.mono HB1.out.size))
        have HZ2 := Lib.hid ((hb.block _ (Array.getElem?_eq_some_iff.1 HZ1.out).1).trans HZ1.out)
        clear hb HB1 HZ1
        go_upto_region 2 with fail
        obtain ⟨g, hg⟩ : ∃ g, w2.heap.size = g := ⟨_, rfl⟩
        generalize hW : World.alloc w2 _ = W3
        have HP : Hid (Pn R w w.heap.size g (g + 1) W3 ⟨hd 11 ln, .nil, .nil, zS⟩ s) := Lib.hid (by
          have hl := HI.out.lt
          have hzl := (Array.getElem?_eq_some_iff.1 HZ2.out).1
          rw [← hW, ← hg]
          exact ⟨(HI.out.below HB2.out).below (alloc_below _ _), gr_alloc (gr_below HB2.out) _, by omega, by simp, heap_alloc_new _ _, (heap_alloc_old _ _ hzl).trans HZ2.out, hd_ok HOP.out HL.out, hd_in _ _ _ _⟩)
        rw [hg]
        clear hW hg HB2 HZ2
        have e0 : World.cell? _ ⟨g, 0, none⟩ = some (.int .i64 11) := HP.out.cell (j := 0) rfl
        obtain ⟨pos, bad, ⟨hp, hp2, hl, hlt, hbr⟩, HSA, ⟨hbad0, hbad1⟩, c0, c1, c2, f1, f2⟩ := HP.out.rd.open
        have HA := Lib.hid (HP.out.adv c1 HNE.out)
        go_upto_region 5 with fail
        generalize hW : World.setCell _ _ _ = WA
        rw [hW] at HA
        clear hW c0 c1 c2 f1 f2 HSA hp hp2 hl hlt hbr hbad0 hbad1 HP
        have HP := HA
        clear HA
        clear e0
        have e0 : World.cell? _ ⟨g, 0, none⟩ = some (.int .i64 11) := HP.out.cell (j := 0) rfl
        go_wp2_with fail
        refine (HRN.out _ HP.out.rd).mono ?_
        rintro e wn ⟨rfl, h2, h3⟩
        have HQ := Lib.hid (HP.out.then h2 h3)
        have c2 := HQ.out.cell (j := 2) rfl
        have f2 := HQ.out.free 2
        clear h2 h3 HP
        go_upto_region 12 with fail
        generalize hW : World.setCell wn _ _ = WN
        have HP : Hid (Pn R w w.heap.size g (g + 1) WN ⟨{ hd 11 ln with nm := nm }, .nil, .nil, zS⟩ s1) := Lib.hid (by rw [← hW]; exact HQ.out.nm _ HNM.out)
        clear hW c2 f2 HQ
        clear e0
        have e0 : World.cell? _ ⟨g, 0, none⟩ = some (.int .i64 11) := HP.out.cell (j := 0) rfl
        go_upto_region 29 with fail
        clear e0
        go_wp2_with fail
        refine (want_any R _ _ ⟨#[59]⟩ rfl HP.out.rd).mono ?_
        rintro e w9 ⟨rfl, h2, h3⟩
        have HQ := Lib.hid (HP.out.then h2 h3)
        clear h2 h3 HP
        have HP := HQ
        clear HQ
        obtain ⟨⟨y0, y1, y2, y3, y4, y5, y6, y7, y8, y9, y10⟩, fz⟩ := z11 HP.out.z
        have z0 := fz 0
        have z1 := fz 1
        have z2 := fz 2
        have z3 := fz 3
        have z4 := fz 4
        have z5 := fz 5
        have z6 := fz 6
        have z7 := fz 7
        have z8 := fz 8
        have z9 := fz 9
        have z10 := fz 10
        obtain ⟨d0, d1, d2, d3, d4, d5, d6, d7, d8, d9, d10⟩ := pn_cells HP.out
        clear fz
        go_wp2_with fail
        exact bodyPost_ret (v := stV _ _ _ _) (by simp [results, Tryz.results112, go_sem, stV, y0, y1, y2, y3, y4, y5, y6, y7, y8, y9, y10]) rfl (rsta_end HP.out)
      · rw [h] at HW ⊢
        rw [if_neg (by decide), if_neg (by decide), if_neg (by decide), if_neg (by decide)]
        have HOP : Hid (I64 12) := Lib.hid (by unfold I64; decide)
        obtain ⟨q, hq⟩ : ∃ q, nameS R.ts s.adv = q := ⟨_, rfl⟩
        have HNM : Hid ((nameS R.ts s.adv).1.size ≤ maxLen) := Lib.hid (nameS_size (by
          intro t ht
          refine HI.out.ts t ?_
          cases s with
          | go r => exact List.mem_of_mem_tail ht
          | bad n => exact ht))
        have HRN : Hid (∀ w, RfI w R s.adv → Calls Tryz.prog 77 #[.pointer (some ⟨R.br, 0, none⟩)] w (NmR R w (nameS R.ts s.adv))) := Lib.hid (fun w h => rname_any R _ w h)
        have HLE : Hid ((nameS R.ts s.adv).2.len ≤ s.adv.len) := Lib.hid (nameS_le _)
        have HTS : Hid (TsOk (nameS R.ts s.adv).2.toks) := Lib.hid (name_ts HI.out)
        rw [hq] at HNM HRN HLE HTS ⊢
        clear hq
        obtain ⟨nm, s1⟩ := q
        dsimp only at HNM HLE HTS ⊢
        unfold tailX
        rw [if_neg (by decide), if_neg (by decide), if_neg (by decide)]
        clear h HIH HF HLT HLE HTS
        go_enter Tryz.func112, Tryz.ntmps112
        go_upto_region 1 with fail
        generalize hW : World.alloc w _ = W0
        have HB0 : Hid (Below w.heap.size w W0) := Lib.hid (by rw [← hW]; exact alloc_below _ _)
        have HZ0 : Hid (W0.heap[w.heap.size]? = some (.cells zSt11 91 (0, 0))) := Lib.hid (by rw [← hW]; exact heap_alloc_new _ _)
        clear hW
        go_wp2_with fail
        refine (HW.out _ (HI.out.below HB0.out)).mono ?_
        rintro e w1 ⟨rfl, hb⟩
        have HB1 := Lib.hid (HB0.out.trans (hb.mono HB0.out.size))
        have HZ1 := Lib.hid ((hb.block _ (Array.getElem?_eq_some_iff.1 HZ0.out).1).trans HZ0.out)
        clear hb HB0 HZ0
        go_wp2_with fail
        refine (HLN.out _ (HI.out.below HB1.out)).mono ?_
        rintro e w2 ⟨rfl, hb⟩
        have HB2 := Lib.hid (HB1.out.trans (hb.mono HB1.out.size))
        have HZ2 := Lib.hid ((hb.block _ (Array.getElem?_eq_some_iff.1 HZ1.out).1).trans HZ1.out)
        clear hb HB1 HZ1
        go_upto_region 2 with fail
        obtain ⟨g, hg⟩ : ∃ g, w2.heap.size = g := ⟨_, rfl⟩
        generalize hW : World.alloc w2 _ = W3
        have HP : Hid (Pn R w w.heap.size g (g + 1) W3 ⟨hd 12 ln, .nil, .nil, zS⟩ s) := Lib.hid (by
          have hl := HI.out.lt
          have hzl := (Array.getElem?_eq_some_iff.1 HZ2.out).1
          rw [← hW, ← hg]
          exact ⟨(HI.out.below HB2.out).below (alloc_below _ _), gr_alloc (gr_below HB2.out) _, by omega, by simp, heap_alloc_new _ _, (heap_alloc_old _ _ hzl).trans HZ2.out, hd_ok HOP.out HL.out, hd_in _ _ _ _⟩)
        rw [hg]
        clear hW hg HB2 HZ2
        have e0 : World.cell? _ ⟨g, 0, none⟩ = some (.int .i64 12) := HP.out.cell (j := 0) rfl
        obtain ⟨pos, bad, ⟨hp, hp2, hl, hlt, hbr⟩, HSA, ⟨hbad0, hbad1⟩, c0, c1, c2, f1, f2⟩ := HP.out.rd.open
        have HA := Lib.hid (HP.out.adv c1 HNE.out)
        go_upto_region 5 with fail
        generalize hW : World.setCell _ _ _ = WA
        rw [hW] at HA
        clear hW c0 c1 c2 f1 f2 HSA hp hp2 hl hlt hbr hbad0 hbad1 HP
        have HP := HA
        clear HA
        clear e0
        have e0 : World.cell? _ ⟨g, 0, none⟩ = some (.int .i64 12) := HP.out.cell (j := 0) rfl
        go_wp2_with fail
        refine (HRN.out _ HP.out.rd).mono ?_
        rintro e wn ⟨rfl, h2, h3⟩
        have HQ := Lib.hid (HP.out.then h2 h3)
        have c2 := HQ.out.cell (j := 2) rfl
        have f2 := HQ.out.free 2
        clear h2 h3 HP
        go_upto_region 12 with fail
        generalize hW : World.setCell wn _ _ = WN
        have HP : Hid (Pn R w w.heap.size g (g + 1) WN ⟨{ hd 12 ln with nm := nm }, .nil, .nil, zS⟩ s1) := Lib.hid (by rw [← hW]; exact HQ.out.nm _ HNM.out)
        clear hW c2 f2 HQ
        clear e0
        have e0 : World.cell? _ ⟨g, 0, none⟩ = some (.int .i64 12) := HP.out.cell (j := 0) rfl
        go_upto_region 29 with fail
        clear e0
        go_wp2_with fail
        refine (want_any R _ _ ⟨#[59]⟩ rfl HP.out.rd).mono ?_
        rintro e w9 ⟨rfl, h2, h3⟩
        have HQ := Lib.hid (HP.out.then h2 h3)
        clear h2 h3 HP
        have HP := HQ
        clear HQ
        obtain ⟨⟨y0, y1, y2, y3, y4, y5, y6, y7, y8, y9, y10⟩, fz⟩ := z11 HP.out.z
        have z0 := fz 0
        have z1 := fz 1
        have z2 := fz 2
        have z3 := fz 3
        have z4 := fz 4
        have z5 := fz 5
        have z6 := fz 6
        have z7 := fz 7
        have z8 := fz 8
        have z9 := fz 9
        have z10 := fz 10
        obtain ⟨d0, d1, d2, d3, d4, d5, d6, d7, d8, d9, d10⟩ := pn_cells HP.out
        clear fz
        go_wp2_with fail
        exact bodyPost_ret (v := stV _ _ _ _) (by simp [results, Tryz.results112, go_sem, stV, y0, y1, y2, y3, y4, y5, y6, y7, y8, y9, y10]) rfl (rsta_end HP.out)
      · rw [h] at HW ⊢
        rw [if_neg (by decide), if_neg (by decide), if_neg (by decide), if_neg (by decide)]
        have HOP : Hid (I64 13) := Lib.hid (by unfold I64; decide)
        obtain ⟨q, hq⟩ : ∃ q, nameS R.ts s.adv = q := ⟨_, rfl⟩
        have HNM : Hid ((nameS R.ts s.adv).1.size ≤ maxLen) := Lib.hid (nameS_size (by
          intro t ht
          refine HI.out.ts t ?_
          cases s with
          | go r => exact List.mem_of_mem_tail ht
          | bad n => exact ht))
        have HRN : Hid (∀ w, RfI w R s.adv → Calls Tryz.prog 77 #[.pointer (some ⟨R.br, 0, none⟩)] w (NmR R w (nameS R.ts s.adv))) := Lib.hid (fun w h => rname_any R _ w h)
        have HLE : Hid ((nameS R.ts s.adv).2.len ≤ s.adv.len) := Lib.hid (nameS_le _)
        have HTS : Hid (TsOk (nameS R.ts s.adv).2.toks) := Lib.hid (name_ts HI.out)
        rw [hq] at HNM HRN HLE HTS ⊢
        clear hq
        obtain ⟨nm, s1⟩ := q
        dsimp only at HNM HLE HTS ⊢
        unfold tailX
        rw [if_neg (by decide), if_neg (by decide), if_neg (by decide)]
        clear h HIH HF HLT HLE HTS
        go_enter Tryz.func112, Tryz.ntmps112
        go_upto_region 1 with fail
        generalize hW : World.alloc w _ = W0
        have HB0 : Hid (Below w.heap.size w W0) := Lib.hid (by rw [← hW]; exact alloc_below _ _)
        have HZ0 : Hid (W0.heap[w.heap.size]? = some (.cells zSt11 91 (0, 0))) := Lib.hid (by rw [← hW]; exact heap_alloc_new _ _)
        clear hW
        go_wp2_with fail
        refine (HW.out _ (HI.out.below HB0.out)).mono ?_
        rintro e w1 ⟨rfl, hb⟩
        have HB1 := Lib.hid (HB0.out.trans (hb.mono HB0.out.size))
        have HZ1 := Lib.hid ((hb.block _ (Array.getElem?_eq_some_iff.1 HZ0.out).1).trans HZ0.out)
        clear hb HB0 HZ0
        go_wp2_with fail
        refine (HLN.out _ (HI.out.below HB1.out)).mono ?_
        rintro e w2 ⟨rfl, hb⟩
        have HB2 := Lib.hid (HB1.out.trans (hb.mono HB1.out.size))
        have HZ2 := Lib.hid ((hb.block _ (Array.getElem?_eq_some_iff.1 HZ1.out).1).trans HZ1.out)
        clear hb HB1 HZ1
        go_upto_region 2 with fail
        obtain ⟨g, hg⟩ : ∃ g, w2.heap.size = g := ⟨_, rfl⟩
        generalize hW : World.alloc w2 _ = W3
        have HP : Hid (Pn R w w.heap.size g (g + 1) W3 ⟨hd 13 ln, .nil, .nil, zS⟩ s) := Lib.hid (by
          have hl := HI.out.lt
          have hzl := (Array.getElem?_eq_some_iff.1 HZ2.out).1
          rw [← hW, ← hg]
          exact ⟨(HI.out.below HB2.out).below (alloc_below _ _), gr_alloc (gr_below HB2.out) _, by omega, by simp, heap_alloc_new _ _, (heap_alloc_old _ _ hzl).trans HZ2.out, hd_ok HOP.out HL.out, hd_in _ _ _ _⟩)
        rw [hg]
        clear hW hg HB2 HZ2
        have e0 : World.cell? _ ⟨g, 0, none⟩ = some (.int .i64 13) := HP.out.cell (j := 0) rfl
        obtain ⟨pos, bad, ⟨hp, hp2, hl, hlt, hbr⟩, HSA, ⟨hbad0, hbad1⟩, c0, c1, c2, f1, f2⟩ := HP.out.rd.open
        have HA := Lib.hid (HP.out.adv c1 HNE.out)
        go_upto_region 5 with fail
        generalize hW : World.setCell _ _ _ = WA
        rw [hW] at HA
        clear hW c0 c1 c2 f1 f2 HSA hp hp2 hl hlt hbr hbad0 hbad1 HP
        have HP := HA
        clear HA
        clear e0
        have e0 : World.cell? _ ⟨g, 0, none⟩ = some (.int .i64 13) := HP.out.cell (j := 0) rfl
        go_wp2_with fail
        refine (HRN.out _ HP.out.rd).mono ?_
        rintro e wn ⟨rfl, h2, h3⟩
        have HQ := Lib.hid (HP.out.then h2 h3)
        have c2 := HQ.out.cell (j := 2) rfl
        have f2 := HQ.out.free 2
        clear h2 h3 HP
        go_upto_region 12 with fail
        generalize hW : World.setCell wn _ _ = WN
        have HP : Hid (Pn R w w.heap.size g (g + 1) WN ⟨{ hd 13 ln with nm := nm }, .nil, .nil, zS⟩ s1) := Lib.hid (by rw [← hW]; exact HQ.out.nm _ HNM.out)
        clear hW c2 f2 HQ
        clear e0
        have e0 : World.cell? _ ⟨g, 0, none⟩ = some (.int .i64 13) := HP.out.cell (j := 0) rfl
        go_upto_region 29 with fail
        clear e0
        go_wp2_with fail
        refine (want_any R _ _ ⟨#[59]⟩ rfl HP.out.rd).mono ?_
        rintro e w9 ⟨rfl, h2, h3⟩
        have HQ := Lib.hid (HP.out.then h2 h3)
        clear h2 h3 HP
        have HP := HQ
        clear HQ
        obtain ⟨⟨y0, y1, y2, y3, y4, y5, y6, y7, y8, y9, y10⟩, fz⟩ := z11 HP.out.z
        have z0 := fz 0
        have z1 := fz 1
        have z2 := fz 2
        have z3 := fz 3
        have z4 := fz 4
        have z5 := fz 5
        have z6 := fz 6
        have z7 := fz 7
        have z8 := fz 8
        have z9 := fz 9
        have z10 := fz 10
        obtain ⟨d0, d1, d2, d3, d4, d5, d6, d7, d8, d9, d10⟩ := pn_cells HP.out
        clear fz
        go_wp2_with fail
        exact bodyPost_ret (v := stV _ _ _ _) (by simp [results, Tryz.results112, go_sem, stV, y0, y1, y2, y3, y4, y5, y6, y7, y8, y9, y10]) rfl (rsta_end HP.out)
end Go.Proofs.YtommnhglgedflaaGreatDoor
end
