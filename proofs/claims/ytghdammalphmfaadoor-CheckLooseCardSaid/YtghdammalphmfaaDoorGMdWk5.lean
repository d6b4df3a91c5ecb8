/-
  Contract of the reference walk's one: at spawn and set.
-/
import Derived.Test.YtghdammalphmfaaDoorGM
import Derived.Test.YtghdammalphmfaaDoorGD
import Derived.Test.YtghdammalphmfaaDoorGJ
import Derived.Test.YtghdammalphmfaaDoorGK
import Derived.IntWalk
import Derived.Deep.RegionWith
set_option linter.unusedSimpArgs false
set_option linter.unusedVariables false
namespace Go.Proofs.YtghdammalphmfaaDoor
open Go.RowKit
open Md
/-- What one leaves. -/
def WkOP (w : World) (L : LayW) (p : Pr) (aoD aoT : Option Addr) (capD capT : Nat) (i : Int) (A : List Fr) (fs gs : List ByteArray) (v vs ve : Value) (fs2 gs2 : List ByteArray) (r : Int) (e : Ending) (w' : World) : Prop :=
  e = .returned (.int .i64 r) ∧ Kw L [v, vs, ve] w w' ∧ ∃ fs' gs' vs' ve', OwnL w [v, vs, ve] [v, vs', ve'] ∧ WkI w' L p aoD aoT capD capT i A fs' gs' v vs' ve' ∧ (r = 0 → fs' = fs2 ∧ gs' = gs2)
theorem WkOP.err {w w' : World} {L : LayW} {p : Pr} {aoD aoT : Option Addr} {capD capT : Nat} {i : Int} {A : List Fr} {fs gs : List ByteArray} {v vs ve : Value} {fs2 gs2 : List ByteArray} {r x : Int}
    (hI : WkI w L p aoD aoT capD capT i A fs gs v vs ve) (hr : r = x) (h0 : r ≠ 0) (hb : Below w.heap.size w w') : WkOP w L p aoD aoT capD capT i A fs gs v vs ve fs2 gs2 r (.returned (.int .i64 x)) w' := by
  subst hr
  exact ⟨rfl, Kw.of_below hb, fs, gs, vs, ve, OwnL.refl _ _, hI.below hb, fun h => (h0 h).elim⟩
theorem info_str : (Tryd.prog.info? 9).map (fun i => (i.zero, i.size, i.bytes)) = some (some (.string ⟨#[]⟩), 1, 16) := by kernel_rfl
theorem str_info : ∃ i0, Tryd.prog.info? 9 = some i0 ∧ i0.zero = some (.string ⟨#[]⟩) ∧ i0.size = 1 ∧ i0.bytes = 16 := info_parts info_str
set_option maxHeartbeats 4000000 in
set_option maxRecDepth 100000 in
theorem wkOne12 (L : LayW) (p : Pr) (w : World) (aoD aoT : Option Addr) (capD capT : Nat) (i : Int) (A : List Fr) (fs gs : List ByteArray) (v vs ve : Value) (hI : WkI w L p aoD aoT capD capT i A fs gs v vs ve) (h : StH) (b e : StL) (s : Sl) (hin : StInB w L.B0 h b e s) (hi : I64 i) (hA : A.length ≤ maxLen) (hfs : fs.length ≤ 1000000000000) (hgs : gs.length ≤ 1000000000000) (hop : h.op = 12) :
    Calls Tryd.prog 58 #[.pointer (some ⟨L.bc, 0, none⟩), stV h b e s] w (WkOP w L p aoD aoT capD capT i A fs gs v vs ve (fs ++ [h.nm]) gs (if wantE (conv (mean p i h.nm)) 7 7 != 0 then wantE (conv (mean p i h.nm)) 7 7 else if ((((insR (frL A) 7 7 ⟨#[]⟩ || insR (frL A) 8 8 ⟨#[]⟩) || insR (frL A) 3 3 ⟨#[]⟩) || atTh p.ts h.nm == i) || atTh p.ts h.nm == 0) then 7 else onceE (inTx fs h.nm.toList))) := by
  obtain ⟨aoA, capA, rfl, hat⟩ := hI.form
  obtain ⟨aoS, capS, rfl, htS⟩ := hI.formS
  obtain ⟨aoE, capE, rfl, htE⟩ := hI.formE
  have hp := hI.dat.use hI.b0
  have hh := hI.holds
  have har : (frL A).len ≤ maxLen := by rw [frL_len]; exact hA
  replace hin := hin.use hI.b0
  have HI := Lib.hid hI
  have HTS := Lib.hid htS
  have HTE := Lib.hid htE
  generalize hres : (if wantE (conv (mean p i h.nm)) 7 7 != 0 then wantE (conv (mean p i h.nm)) 7 7 else if ((((insR (frL A) 7 7 ⟨#[]⟩ || insR (frL A) 8 8 ⟨#[]⟩) || insR (frL A) 3 3 ⟨#[]⟩) || atTh p.ts h.nm == i) || atTh p.ts h.nm == 0) then 7 else onceE (inTx fs h.nm.toList)) = res
  have HR : Hid (res = (if wantE (conv (mean p i h.nm)) 7 7 != 0 then wantE (conv (mean p i h.nm)) 7 7 else if ((((insR (frL A) 7 7 ⟨#[]⟩ || insR (frL A) 8 8 ⟨#[]⟩) || insR (frL A) 3 3 ⟨#[]⟩) || atTh p.ts h.nm == i) || atTh p.ts h.nm == 0) then 7 else onceE (inTx fs h.nm.toList))) := Lib.hid (by rw [← hres])
  have HOP := Lib.hid hop
  have HNM := Lib.hid hin.1.2.2.1
  have HFS := Lib.hid hfs
  have HGS := Lib.hid hgs
  clear hres hop hI htS htE hA hfs hgs
  have HH := Lib.hid (show Sit w w _ from ⟨Below.refl _ _, hh⟩)
  have HSI := Lib.hid hin
  have HAR := Lib.hid hat
  have HAL := Lib.hid har
  have HP := Lib.hid hp
  unfold stV
  clear hh hin hat har hp
  go_enter Tryd.func58, Tryd.ntmps58
  go_upto_region 1 with fail
  generalize hW : World.alloc w _ = W
  generalize Value.agg #[_, _, _, _, _, _, _, _, _, _, _] = a0
  have HX : Hid (Sit w W (stF w.heap.size h b e s (wkF L.bc p aoD aoT capD capT i aoA (frL A).len capA aoS fs.length capS aoE gs.length capE))) := Lib.hid (by rw [← hW]; exact HH.out.box11 rfl _ _ _ _ _ _ _ _ _ _ _ _)
  clear hW HH
  have K0 : ∀ w', Below W.heap.size W w' → w'.cell? ⟨L.bc, 0, none⟩ = some (.slice aoD p.ds.length capD) := fun w' hb => (HX.out.next hb).2.2.2.2.2.2.2.2.2.2.2.2.1.2
  have K1 : ∀ w', Below W.heap.size W w' → w'.cell? ⟨L.bc, 1, none⟩ = some (.slice aoT p.ts.length capT) := fun w' hb => (HX.out.next hb).2.2.2.2.2.2.2.2.2.2.2.2.2.1.2
  have K2 : ∀ w', Below W.heap.size W w' → w'.cell? ⟨L.bc, 2, none⟩ = some (.int .i64 i) := fun w' hb => (HX.out.next hb).2.2.2.2.2.2.2.2.2.2.2.2.2.2.1.2
  have HD1 : Below W.heap.size W (W.drewN 1) := below_drewN (Below.refl _ _) 1
  refine wpAny_start (by kernel_rfl) rfl ?_
  generalize W.drewN 1 = W1 at *
  refine wpAny_phase 0 11 [8, 9] [[], [0], [0, 1], [0, 1, 2], [], [4], [4, 5], [4, 5, 6], [], [0, 1, 2, 3, 8], [0, 1, 2, 3, 4, 5, 6, 7, 8, 9]] [[none, some false], [none, some false], [none, some false], [none, some false], [none, none], [none, none], [none, none], [none, none], [some false, some false], [some true, some false], [some true, some true]] (AC W1 (.cells #[.slice none 0 0, .slice none 0 0] 29) (.cells #[.slice aoD p.ds.length capD, .slice aoT p.ts.length capT] 29)) (fun _ _ => True) [15, 16, 17, 18, 19, 20, 21, 22, 5, 6] rfl rfl (by rfl) (by kernel_rfl) (by kernel_rfl) (by kernel_rfl) (by kernel_rfl) (by kernel_rfl) (by rfl) (fun _ => trivial) (by rfl) rfl ?_
  simp only [List.take_succ_cons, List.take_zero, List.drop_zero, List.drop_succ_cons, dumE, List.map_cons, List.map_nil]
  apply ObP.step
  case hobl =>
    intro c A w' hok hC hO hD
    have e0 := hO 0 (by rfl)
    simp [Act.eval] at e0
    simp [depsL, IsV, slotv, Act.eval, Region.binds] at hD
    simp [go_sem, gd, Oper.wp, hD, e0]
    exact WPost.mk trivial (AC.skip (by rfl) (by rfl) hC) (IsV.mk _ _)
  apply ObP.step
  case hobl =>
    intro c A w' hok hC hO hD
    simp [depsL, IsV, slotv, Act.eval, Region.binds] at hD
    simp [go_sem, gd, Oper.wp, hD]
    exact WPost.mk trivial (AC.skip (by rfl) (by rfl) hC) (IsV.mk _ _)
  apply ObP.step
  case hobl =>
    intro c A w' hok hC hO hD
    simp [depsL, IsV, slotv, Act.eval, Region.binds] at hD
    simp [go_sem, gd, Oper.wp, hD]
    exact WPost.mk trivial (AC.skip (by rfl) (by rfl) hC) (IsV.mk _ _)
  apply ObP.step
  case hobl =>
    intro c A w' hok hC hO hD
    simp [depsL, IsV, slotv, Act.eval, Region.binds] at hD
    simp [go_sem, gd, Oper.wp, hD, K0, K1, AC.below HD1 hC]
    exact WPost.mk trivial (AC.skip (by rfl) (by rfl) hC) (IsV.mk _ _)
  apply ObP.step
  case hobl =>
    intro c A w' hok hC hO hD
    have e0 := hO 0 (by rfl)
    simp [Act.eval] at e0
    simp [depsL, IsV, slotv, Act.eval, Region.binds] at hD
    simp [go_sem, gd, Oper.wp, hD, e0]
    exact WPost.mk trivial (AC.skip (by rfl) (by rfl) hC) (IsV.mk _ _)
  simp only [List.nil_append, List.cons_append]
  apply ObP.step
  case hobl =>
    intro c A w' hok hC hO hD
    simp [depsL, IsV, slotv, Act.eval, Region.binds] at hD
    simp [go_sem, gd, Oper.wp, hD]
    exact WPost.mk trivial (AC.skip (by rfl) (by rfl) hC) (IsV.mk _ _)
  apply ObP.step
  case hobl =>
    intro c A w' hok hC hO hD
    simp [depsL, IsV, slotv, Act.eval, Region.binds] at hD
    simp [go_sem, gd, Oper.wp, hD]
    exact WPost.mk trivial (AC.skip (by rfl) (by rfl) hC) (IsV.mk _ _)
  apply ObP.step
  case hobl =>
    intro c A w' hok hC hO hD
    simp [depsL, IsV, slotv, Act.eval, Region.binds] at hD
    simp [go_sem, gd, Oper.wp, hD, K2, AC.below HD1 hC]
    exact WPost.mk trivial (AC.skip (by rfl) (by rfl) hC) (IsV.mk _ _)
  simp only [List.nil_append, List.cons_append]
  apply ObP.step
  case hobl =>
    intro c A w' hok hC hO hD
    obtain ⟨x, y, rfl⟩ := hC.bits
    obtain ⟨rfl, rfl, -⟩ := hok
    have hw : w' = W1 := hC
    subst hw
    simp [go_sem, gd, Oper.wp]
    exact WPost.mk trivial (AC.lay (by rfl) (by rfl)) (IsV.mk _ _)
  refine ObP.some (fun _ _ => True) (fun _ _ _ _ _ => trivial) ?_ ?_
  · intro c A w' hok hC hO hD
    obtain ⟨x, y, rfl⟩ := hC.bits
    obtain ⟨rfl, rfl, -⟩ := hok
    have hw : w' = W1.alloc _ := hC
    subst hw
    simp [depsL, IsV, slotv, Act.eval, Region.binds] at hD
    simp [go_sem, gd, Oper.wp, hD]
    exact WPost.mk0 (v := undef) trivial (AC.fill (by rfl) (by rfl)) trivial
  simp only [List.nil_append, List.cons_append]
  apply ObP.step
  case hobl =>
    intro c A w' hok hC hO hD
    simp [depsL, IsV, slotv, Act.eval, Region.binds] at hD
    simp [go_sem, gd, Oper.wp, hD]
    exact WPost.mk trivial (AC.skip (by rfl) (by rfl) hC) (IsV.mk _ _)
  simp only [List.nil_append, List.cons_append]
  refine ObP.done ?_
  intro wz hCz
  simp only [List.drop_zero]
  intro v0 h0 v1 h1 v2 h2 v3 h3 v4 h4 v5 h5 v6 h6 v7 h7 v8 h8 v9 h9 v10 h10
  have h8' : v8 = _ := h8
  have h10' : v10 = _ := h10
  subst h8' h10'
  clear h0 h1 h2 h3 h4 h5 h6 h7 h8 h9 h10
  refine AllVals.nil ?_
  refine wpAny_end rfl ?_
  have hCz' : wz = W1.alloc _ := hCz
  generalize hn1 : W1.heap.size = n1 at *
  have HY := Lib.hid ((HX.out.next HD1).box2 hn1 (.slice aoD p.ds.length capD) (.slice aoT p.ts.length capT) 29)
  rw [← hCz'] at HY
  clear hCz hCz' HX K0 K1 K2 HD1 hn1
  go_simp
  obtain ⟨-, ⟨-, c0⟩, ⟨-, c1⟩, ⟨-, c2⟩, ⟨-, c3⟩, ⟨-, c4⟩, ⟨-, c5⟩, ⟨-, c6⟩, ⟨-, c7⟩, ⟨-, c8⟩, ⟨-, c9⟩, ⟨-, c10⟩, ⟨-, c11⟩, ⟨-, c12⟩, ⟨-, c13⟩, ⟨-, c14⟩, ⟨-, c15⟩, ⟨-, c16⟩, ⟨-, c17⟩, ⟨-, c18⟩, -⟩ := HY.out
  go_wp2_with fail
  refine (wkInside_any p _ aoD aoT capD capT i aoA capA L.bc aoS fs.length capS aoE gs.length capE (frL A) 7 7 ⟨#[]⟩ HAL.out (HAR.out.same HY.out.1) (wkHolds HY.out)).mono ?_
  rintro e' W ⟨rfl, hb⟩
  replace HY := Lib.hid (HY.out.next hb)
  clear hb c0 c1 c2 c3 c4 c5 c6 c7 c8 c9 c10 c11 c12 c13 c14 c15 c16 c17 c18
  obtain ⟨-, ⟨-, c0⟩, ⟨-, c1⟩, ⟨-, c2⟩, ⟨-, c3⟩, ⟨-, c4⟩, ⟨-, c5⟩, ⟨-, c6⟩, ⟨-, c7⟩, ⟨-, c8⟩, ⟨-, c9⟩, ⟨-, c10⟩, ⟨-, c11⟩, ⟨-, c12⟩, ⟨-, c13⟩, ⟨-, c14⟩, ⟨-, c15⟩, ⟨-, c16⟩, ⟨-, c17⟩, ⟨-, c18⟩, -⟩ := HY.out
  go_wp2_with fail
  refine (wkInside_any p _ aoD aoT capD capT i aoA capA L.bc aoS fs.length capS aoE gs.length capE (frL A) 8 8 ⟨#[]⟩ HAL.out (HAR.out.same HY.out.1) (wkHolds HY.out)).mono ?_
  rintro e' W ⟨rfl, hb⟩
  replace HY := Lib.hid (HY.out.next hb)
  clear hb c0 c1 c2 c3 c4 c5 c6 c7 c8 c9 c10 c11 c12 c13 c14 c15 c16 c17 c18
  obtain ⟨-, ⟨-, c0⟩, ⟨-, c1⟩, ⟨-, c2⟩, ⟨-, c3⟩, ⟨-, c4⟩, ⟨-, c5⟩, ⟨-, c6⟩, ⟨-, c7⟩, ⟨-, c8⟩, ⟨-, c9⟩, ⟨-, c10⟩, ⟨-, c11⟩, ⟨-, c12⟩, ⟨-, c13⟩, ⟨-, c14⟩, ⟨-, c15⟩, ⟨-, c16⟩, ⟨-, c17⟩, ⟨-, c18⟩, -⟩ := HY.out
  go_wp2_with fail
  refine (wkInside_any p _ aoD aoT capD capT i aoA capA L.bc aoS fs.length capS aoE gs.length capE (frL A) 3 3 ⟨#[]⟩ HAL.out (HAR.out.same HY.out.1) (wkHolds HY.out)).mono ?_
  rintro e' W ⟨rfl, hb⟩
  replace HY := Lib.hid (HY.out.next hb)
  clear hb c0 c1 c2 c3 c4 c5 c6 c7 c8 c9 c10 c11 c12 c13 c14 c15 c16 c17 c18
  obtain ⟨-, ⟨-, c0⟩, ⟨-, c1⟩, ⟨-, c2⟩, ⟨-, c3⟩, ⟨-, c4⟩, ⟨-, c5⟩, ⟨-, c6⟩, ⟨-, c7⟩, ⟨-, c8⟩, ⟨-, c9⟩, ⟨-, c10⟩, ⟨-, c11⟩, ⟨-, c12⟩, ⟨-, c13⟩, ⟨-, c14⟩, ⟨-, c15⟩, ⟨-, c16⟩, ⟨-, c17⟩, ⟨-, c18⟩, -⟩ := HY.out
  generalize htx : insR (frL A) 7 7 ⟨#[]⟩ = tx at *
  generalize hat' : insR (frL A) 8 8 ⟨#[]⟩ = atm at *
  generalize hlo : insR (frL A) 3 3 ⟨#[]⟩ = lop at *
  clear htx hat' hlo
  have hop := HOP.out
  have g1 : (h.op == 1) = false := by rw [hop]; rfl
  have g2 : (h.op == 2) = false := by rw [hop]; rfl
  have g3 : (h.op == 3) = false := by rw [hop]; rfl
  have g4 : (h.op == 4) = false := by rw [hop]; rfl
  have g5 : (h.op == 5) = false := by rw [hop]; rfl
  have g6 : (h.op == 6) = false := by rw [hop]; rfl
  have g7 : (h.op == 7) = false := by rw [hop]; rfl
  have g8 : (h.op == 8) = false := by rw [hop]; rfl
  have g9 : (h.op == 9) = false := by rw [hop]; rfl
  have g10 : (h.op == 10) = false := by rw [hop]; rfl
  have g11 : (h.op == 11) = false := by rw [hop]; rfl
  have g12 : (h.op == 12) = true := by rw [hop]; rfl
  have g13 : (h.op == 13) = false := by rw [hop]; rfl
  have g14 : (h.op == 14) = false := by rw [hop]; rfl
  have g15 : (h.op == 15) = false := by rw [hop]; rfl
  clear hop
  go_wp2_with fail
  refine (want_any p i h.nm 7 7 _ aoD aoT capD capT hi (HP.out.same HY.out.1)).mono ?_
  rintro e' W ⟨rfl, hb⟩
  replace HY := Lib.hid (HY.out.next hb)
  clear hb c0 c1 c2 c3 c4 c5 c6 c7 c8 c9 c10 c11 c12 c13 c14 c15 c16 c17 c18
  obtain ⟨-, ⟨-, c0⟩, ⟨-, c1⟩, ⟨-, c2⟩, ⟨-, c3⟩, ⟨-, c4⟩, ⟨-, c5⟩, ⟨-, c6⟩, ⟨-, c7⟩, ⟨-, c8⟩, ⟨-, c9⟩, ⟨-, c10⟩, ⟨-, c11⟩, ⟨-, c12⟩, ⟨-, c13⟩, ⟨-, c14⟩, ⟨-, c15⟩, ⟨-, c16⟩, ⟨-, c17⟩, ⟨-, c18⟩, -⟩ := HY.out
  generalize wantE (conv (mean p i h.nm)) 7 7 = q at *
  cases hq : (q != 0)
  case true =>
    have HR' : Hid (res = q) := Lib.hid (HR.out.trans (if_pos hq))
    have HQ0 : Hid (q ≠ 0) := Lib.hid (by simpa using hq)
    clear HR
    go_wp2_with fail
    go_ret
    exact WkOP.err HI.out HR'.out (by rw [HR'.out]; exact HQ0.out) HY.out.1
  have HR1 := Lib.hid (HR.out.trans (if_neg (by rw [hq]; decide)))
  clear HR
  go_wp2_with fail
  refine (RefThreadAt_any p.ts h.nm _ aoT capT HP.out.2.1 (HP.out.same HY.out.1).2.2.2).mono ?_
  rintro e' W' ⟨rfl, rfl⟩
  generalize atTh p.ts h.nm = kk at *
  go_upto_region 35 with fail
  go_cut [187] (fun s' W3 => W = W3 ∧ s' = .bool ((((tx || atm) || lop) || kk == i) || kk == 0))
  case first =>
    as_aux_lemma =>
      cases tx
      · cases atm
        · cases lop
          · cases hki : (kk == i)
            · cases hk0 : (kk == 0)
              all_goals go_wp2_with fail
              all_goals go_meet
              all_goals exact ⟨rfl, by first | rfl | (rw [hki, hk0]; rfl) | (simp [hki, hk0])⟩
            · go_wp2_with fail
              go_meet
              exact ⟨rfl, by first | rfl | (rw [hki]; rfl) | (simp [hki])⟩
          · go_wp2_with fail
            go_meet
            exact ⟨rfl, by first | rfl | simp⟩
        · go_wp2_with fail
          go_meet
          exact ⟨rfl, by first | rfl | simp⟩
      · go_wp2_with fail
        go_meet
        exact ⟨rfl, by first | rfl | simp⟩
  obtain ⟨rfl, rfl⟩ := hcut
  generalize ((((tx || atm) || lop) || kk == i) || kk == 0) = tt at *
  cases tt
  case true =>
    have HR' : Hid (res = 7) := HR1
    clear HR1
    go_wp2_with fail
    go_ret
    exact WkOP.err HI.out HR'.out (by rw [HR'.out]; decide) HY.out.1
  have HR2 : Hid (res = onceE (inTx fs h.nm.toList)) := HR1
  clear HR1
  have HUS := Lib.hid (atTx_used fs h.nm)
  go_upto_region 37 with fail
  obtain ⟨T, F, hinh, hst, hF, hnext⟩ := calm W
  have HF := Lib.hid hF
  have HNX := Lib.hid hnext
  clear hnext hF
  have d0 := fun x => (HY.out.next (HF.out x)).2.1.2
  have d1 := fun x => (HY.out.next (HF.out x)).2.2.1.2
  have d2 := fun x => (HY.out.next (HF.out x)).2.2.2.1.2
  have d3 := fun x => (HY.out.next (HF.out x)).2.2.2.2.1.2
  have d4 := fun x => (HY.out.next (HF.out x)).2.2.2.2.2.1.2
  have d5 := fun x => (HY.out.next (HF.out x)).2.2.2.2.2.2.1.2
  have d6 := fun x => (HY.out.next (HF.out x)).2.2.2.2.2.2.2.1.2
  have d7 := fun x => (HY.out.next (HF.out x)).2.2.2.2.2.2.2.2.1.2
  have d8 := fun x => (HY.out.next (HF.out x)).2.2.2.2.2.2.2.2.2.1.2
  have d9 := fun x => (HY.out.next (HF.out x)).2.2.2.2.2.2.2.2.2.2.1.2
  have d10 := fun x => (HY.out.next (HF.out x)).2.2.2.2.2.2.2.2.2.2.2.1.2
  have d11 := fun x => (HY.out.next (HF.out x)).2.2.2.2.2.2.2.2.2.2.2.2.1.2
  have d12 := fun x => (HY.out.next (HF.out x)).2.2.2.2.2.2.2.2.2.2.2.2.2.1.2
  have d13 := fun x => (HY.out.next (HF.out x)).2.2.2.2.2.2.2.2.2.2.2.2.2.2.1.2
  have d14 := fun x => (HY.out.next (HF.out x)).2.2.2.2.2.2.2.2.2.2.2.2.2.2.2.1.2
  have d15 := fun x => (HY.out.next (HF.out x)).2.2.2.2.2.2.2.2.2.2.2.2.2.2.2.2.1.2
  have d16 := fun x => (HY.out.next (HF.out x)).2.2.2.2.2.2.2.2.2.2.2.2.2.2.2.2.2.1.2
  have d17 := fun x => (HY.out.next (HF.out x)).2.2.2.2.2.2.2.2.2.2.2.2.2.2.2.2.2.2.1.2
  have d18 := fun x => (HY.out.next (HF.out x)).2.2.2.2.2.2.2.2.2.2.2.2.2.2.2.2.2.2.2.1.2
  clear c0 c1 c2 c3 c4 c5 c6 c7 c8 c9 c10 c11 c12 c13 c14 c15 c16 c17 c18
  rcases HUS.out with ⟨hau, hus⟩ | ⟨jj, hau, hus⟩
  case inr =>
    have HAU := Lib.hid hau
    have HR' : Hid (res = 8) := Lib.hid (HR2.out.trans (by rw [hus]; rfl))
    have hj0 : (0 : Int) ≤ (jj : Int) := by omega
    clear HUS HR2 hau hus
    refine region_calm F (by kernel_rfl) (by kernel_rfl) hst ?_
    repeat (any_goals (first | go_big_quiet_step ((first | (go_at_call 57; refine (RefAt_any fs h.nm _ aoS capS (by have := HFS.out; unfold maxLen; omega) ((HTS.out.same HY.out.1).same (HF.out _))).mono ?_; rintro e w' ⟨rfl, rfl⟩; rw [HAU.out]; exact ⟨rfl, HNX.out _ _ (Below.refl _ _)⟩))) | (refine wpQuiet_step (fun K hK => ?_); go_simp; first | (refine hK _ ?_; clear hK K) | (split <;> first | (refine hK _ ?_; clear hK K) | (apply Exists.intro; refine ⟨fun _ => ?_, hK _ ?_⟩; ((first | (go_at_call 57; refine (RefAt_any fs h.nm _ aoS capS (by have := HFS.out; unfold maxLen; omega) ((HTS.out.same HY.out.1).same (HF.out _))).mono ?_; rintro e w' ⟨rfl, rfl⟩; rw [HAU.out]; exact ⟨rfl, HNX.out _ _ (Below.refl _ _)⟩))); clear hK K)))))
    all_goals (refine wpQuiet_nil ?_; rintro _ ⟨x, rfl⟩)
    replace HY := Lib.hid (HY.out.next (HF.out x))
    clear d0 d1 d2 d3 d4 d5 d6 d7 d8 d9 d10 d11 d12 d13 d14 d15 d16 d17 d18 HF HNX hst
    generalize F x = W2 at *
    go_wp2_with fail
    go_ret
    exact WkOP.err HI.out HR'.out (by rw [HR'.out]; decide) HY.out.1
  have HAU := Lib.hid hau
  have HR' : Hid (res = 0) := Lib.hid (HR2.out.trans (by rw [hus]; rfl))
  clear HUS HR2 hau hus
  refine region_calm F (by kernel_rfl) (by kernel_rfl) hst ?_
  repeat (any_goals (first | go_big_quiet_step ((first | (go_at_call 57; refine (RefAt_any fs h.nm _ aoS capS (by have := HFS.out; unfold maxLen; omega) ((HTS.out.same HY.out.1).same (HF.out _))).mono ?_; rintro e w' ⟨rfl, rfl⟩; rw [HAU.out]; exact ⟨rfl, HNX.out _ _ (Below.refl _ _)⟩))) | (refine wpQuiet_step (fun K hK => ?_); go_simp; first | (refine hK _ ?_; clear hK K) | (split <;> first | (refine hK _ ?_; clear hK K) | (apply Exists.intro; refine ⟨fun _ => ?_, hK _ ?_⟩; ((first | (go_at_call 57; refine (RefAt_any fs h.nm _ aoS capS (by have := HFS.out; unfold maxLen; omega) ((HTS.out.same HY.out.1).same (HF.out _))).mono ?_; rintro e w' ⟨rfl, rfl⟩; rw [HAU.out]; exact ⟨rfl, HNX.out _ _ (Below.refl _ _)⟩))); clear hK K)))))
  all_goals (refine wpQuiet_nil ?_; rintro _ ⟨x, rfl⟩)
  replace HY := Lib.hid (HY.out.next (HF.out x))
  clear d0 d1 d2 d3 d4 d5 d6 d7 d8 d9 d10 d11 d12 d13 d14 d15 d16 d17 d18 HF HNX hst
  generalize F x = W2 at *
  have hI2 := HI.out.below HY.out.1
  have HI2 := Lib.hid hI2
  have K4 : ∀ w', Below W2.heap.size W2 w' → w'.cell? ⟨L.bc, 4, none⟩ = some (.slice aoS fs.length capS) := fun w' hb => (cell_blk (HI2.out.below hb).blk (j := 4) rfl).2
  have K2 : ∀ w', Below W2.heap.size W2 w' → w'.cell? ⟨w.heap.size, 2, none⟩ = some (.string h.nm) := fun w' hb => (HY.out.next hb).2.2.2.2.2.1.2
  have hd1 : Below W2.heap.size W2 (W2.drewN 1) := below_drewN (Below.refl _ _) 1
  have hfs := HFS.out
  clear hI2 hq
  go_upto_region 39 with fail
  refine wpAny_start (by kernel_rfl) rfl ?_
  generalize W2.drewN 1 = W5 at *
  have hd2 : Below W2.heap.size W2 (W5.alloc (.cells #[.string h.nm] 9)) := hd1.trans ((alloc_below _ _).mono hd1.size)
  obtain ⟨i0, hi0, hz0, hz1, hz2⟩ := str_info
  obtain ⟨gg, cap, w4, hrun, hown4, hgrow4, hat4, hlt4⟩ := run_append_lies (P := Tryd.prog) (W5.alloc (.cells #[.string h.nm] 9)) 41 41 L.B1 9 i0 _ 1 16 Tryd.underlying41 hi0 hz0 hz1 hz2 rfl (by omega) (.slice aoS fs.length capS) fs.length (txC fs) (HI2.out.below hd2).rs ⟨W5.heap.size, 0, none⟩ 1 1 [.string h.nm] rfl (World.news_of_block (cs := #[.string h.nm]) (heap_alloc_new W5 _)) (by simp [Value.oneCell']) (by omega) (by unfold maxLen; omega) (by omega) (HI2.out.below hd2).sz _ rfl
  have HRUN := Lib.hid hrun
  have HAD := Lib.hid (HI2.out.addS HNM.out hd2 hown4 hgrow4 hat4)
  have HB4 : Hid (w4.heap[L.bc]? = some (.cells (wkV p aoD aoT capD capT i (.slice aoA A.length capA) (.slice aoS fs.length capS) (.slice aoE gs.length capE)) 67 (0, 0))) := Lib.hid ((hgrow4.block _ (Array.getElem?_eq_some_iff.1 (HI2.out.below hd2).blk).1 (fun e' => HI2.out.bcne (u := .slice aoS fs.length capS) (by simp) e'.symm)).trans (HI2.out.below hd2).blk)
  have k4 : w4.cell? ⟨L.bc, 4, none⟩ = some (.slice aoS fs.length capS) := (cell_blk HB4.out (j := 4) rfl).2
  have f4 : w4.frozen? ⟨L.bc, 4, none⟩ = false := free_blk HB4.out
  clear hrun hown4 hgrow4 hat4 hlt4 hi0 hz0 hz1 hz2 HB4
  refine wpAny_phase 0 12 [7, 8, 11] [[], [], [1], [1, 2], [1, 2, 3], [], [5], [5, 6], [1, 2, 3, 4, 5, 6, 7], [0, 1, 2, 3, 4, 5, 6, 7, 8], [0, 1, 2, 3, 4, 5, 6, 7, 8, 9], [0, 1, 2, 3, 4, 5, 6, 7, 8, 9, 10]] [[none, none, some false], [none, some false, some false], [none, some false, some false], [none, some false, some false], [none, some false, some false], [some false, some false, some false], [some false, some false, some false], [some false, some false, some false], [some true, some false, some false], [some true, some true, some false], [some true, some true, some false], [some true, some true, some false]] (C3 W5 (W5.alloc (.cells #[.string h.nm] 9)) w4 (w4.setCell ⟨L.bc, 4, none⟩ (.slice (some ⟨gg, 0, none⟩) (fs.length + 1) cap))) (fun _ _ => True) [196, 197, 198, 199, 200, 201, 202, 203, 204, 205, 206] rfl rfl (by rfl) (by kernel_rfl) (by kernel_rfl) (by kernel_rfl) (by kernel_rfl) (by kernel_rfl) (by rfl) (fun _ => trivial) (by rfl) rfl ?_
  simp only [List.take_succ_cons, List.take_zero, List.drop_zero, List.drop_succ_cons, dumE, List.map_cons, List.map_nil]
  apply ObP.step
  case hobl =>
    intro c A w' hok hC hO hD
    have e0 := hO 0 (by rfl)
    simp [Act.eval] at e0
    simp [depsL, IsV, slotv, Act.eval, Region.binds] at hD
    simp [go_sem, gd, Oper.wp, hD, e0]
    exact WPost.mk trivial (C3.skip (by rfl) (by rfl) (by rfl) hC) (IsV.mk _ _)
  apply ObP.step
  case hobl =>
    intro c A w' hok hC hO hD
    have e0 := hO 0 (by rfl)
    simp [Act.eval] at e0
    simp [depsL, IsV, slotv, Act.eval, Region.binds] at hD
    simp [go_sem, gd, Oper.wp, hD, e0]
    exact WPost.mk trivial (C3.skip (by rfl) (by rfl) (by rfl) hC) (IsV.mk _ _)
  apply ObP.step
  case hobl =>
    intro c A w' hok hC hO hD
    simp [depsL, IsV, slotv, Act.eval, Region.binds] at hD
    simp [go_sem, gd, Oper.wp, hD]
    exact WPost.mk trivial (C3.skip (by rfl) (by rfl) (by rfl) hC) (IsV.mk _ _)
  apply ObP.step
  case hobl =>
    intro c A w' hok hC hO hD
    simp [depsL, IsV, slotv, Act.eval, Region.binds] at hD
    simp [go_sem, gd, Oper.wp, hD]
    exact WPost.mk trivial (C3.skip (by rfl) (by rfl) (by rfl) hC) (IsV.mk _ _)
  simp only [List.nil_append, List.cons_append]
  apply ObP.step
  case hobl =>
    intro c A w' hok hC hO hD
    simp [depsL, IsV, slotv, Act.eval, Region.binds] at hD
    simp [go_sem, gd, Oper.wp, hD, K4, C3.low hd1 hd2 hok hC]
    exact WPost.mk trivial (C3.skip (by rfl) (by rfl) (by rfl) hC) (IsV.mk _ _)
  apply ObP.step
  case hobl =>
    intro c A w' hok hC hO hD
    have e3 := hO 3 (by rfl)
    simp [Act.eval] at e3
    simp [depsL, IsV, slotv, Act.eval, Region.binds] at hD
    simp [go_sem, gd, Oper.wp, hD, e3]
    exact WPost.mk trivial (C3.skip (by rfl) (by rfl) (by rfl) hC) (IsV.mk _ _)
  apply ObP.step
  case hobl =>
    intro c A w' hok hC hO hD
    simp [depsL, IsV, slotv, Act.eval, Region.binds] at hD
    simp [go_sem, gd, Oper.wp, hD, K2, C3.low hd1 hd2 hok hC]
    exact WPost.mk trivial (C3.skip (by rfl) (by rfl) (by rfl) hC) (IsV.mk _ _)
  simp only [List.nil_append, List.cons_append]
  apply ObP.step
  case hobl =>
    intro c A' w' hok hC hO hD
    obtain ⟨rfl, rfl⟩ := C3.w1 hok hC
    simp [depsL, IsV, slotv, Act.eval, Region.binds] at hD
    simp [go_sem, gd, Oper.wp, hD]
    exact WPost.mk trivial (C3.one (by rfl) (by rfl) (by rfl)) (IsV.mk _ _)
  apply ObP.step
  case hobl =>
    intro c A' w' hok hC hO hD
    obtain ⟨rfl, rfl⟩ := C3.w2 hok hC
    simp [depsL, IsV, slotv, Act.eval, Region.binds] at hD
    simp only [gd, if_true]
    refine wp_append_run _ _ _ (.slice aoS fs.length capS) (.slice (some ⟨W5.heap.size, 0, none⟩) 1 1) _ (by rfl) (by simp [Act.eval, hD]) (by simp [Act.eval, hD]) HRUN.out ?_
    exact WPost.mk trivial (C3.two (by rfl) (by rfl) (by rfl)) (IsV.mk _ _)
  simp only [List.nil_append, List.cons_append]
  apply ObP.step
  case hobl =>
    intro c A w' hok hC hO hD
    simp [depsL, IsV, slotv, Act.eval, Region.binds] at hD
    simp [go_sem, gd, Oper.wp, hD]
    exact WPost.mk trivial (C3.skip (by rfl) (by rfl) (by rfl) hC) (IsV.mk _ _)
  apply ObP.step
  case hobl =>
    intro c A w' hok hC hO hD
    simp [depsL, IsV, slotv, Act.eval, Region.binds] at hD
    simp [go_sem, gd, Oper.wp, hD]
    exact WPost.mk trivial (C3.skip (by rfl) (by rfl) (by rfl) hC) (IsV.mk _ _)
  simp only [List.nil_append, List.cons_append]
  refine ObP.some (fun _ _ => True) (fun _ _ _ _ _ => trivial) ?_ ?_
  · intro c A' w' hok hC hO hD
    obtain ⟨rfl, rfl⟩ := C3.w3 hok hC
    simp [depsL, IsV, slotv, Act.eval, Region.binds] at hD
    simp [go_sem, gd, Oper.wp, hD, k4, f4]
    exact WPost.mk0 (v := undef) trivial (C3.three (by rfl) (by rfl) (by rfl)) trivial
  simp only [List.nil_append, List.cons_append]
  refine ObP.done ?_
  intro wy hCy
  simp only [List.drop_zero]
  intro v0 h0 v1 h1 v2 h2 v3 h3 v4 h4 v5 h5 v6 h6 v7 h7 v8 h8 v9 h9 v10 h10 v11 h11
  clear h0 h1 h2 h3 h4 h5 h6 h7 h8 h9 h10 h11
  refine AllVals.nil ?_
  refine wpAny_end rfl ?_
  have hCy' : wy = w4.setCell _ _ := hCy
  rw [← hCy'] at HAD
  clear hCy hCy' k4 f4 K4 K2 hd1 hd2
  go_simp
  go_wp2_with fail
  go_ret
  exact ⟨ret_int HR'.out.symm, (Kw.of_below HY.out.1).trans (OwnL.refl _ _) HAD.out.2.1, _, _, _, _, (OwnL.refl _ _).trans HAD.out.2.2 HY.out.1.size, HAD.out.1, fun _ => ⟨rfl, rfl⟩⟩
end Go.Proofs.YtghdammalphmfaaDoor
