/-
  Contract of the reference walk's one: at set.
-/
import Derived.Test.YtghdammalphmfaaDoorGMdWk5
import Derived.Test.YtghdammalphmfaaDoorGD
import Derived.Test.YtghdammalphmfaaDoorGJ
import Derived.Test.YtghdammalphmfaaDoorGK
import Derived.IntWalk
import Derived.Deep.RegionWith
set_option linter.unusedSimpArgs false
set_option linter.unusedVariables false
namespace Go.Proofs.YtghdammalphmfaaDoor
open Go.RowKit
open Md
set_option maxHeartbeats 4000000 in
set_option maxRecDepth 100000 in
theorem wkOne14 (L : LayW) (p : Pr) (w : World) (aoD aoT : Option Addr) (capD capT : Nat) (i : Int) (A : List Fr) (fs gs : List ByteArray) (v vs ve : Value) (hI : WkI w L p aoD aoT capD capT i A fs gs v vs ve) (h : StH) (b e : StL) (s : Sl) (hin : StInB w L.B0 h b e s) (hi : I64 i) (hA : A.length ≤ maxLen) (hfs : fs.length ≤ 1000000000000) (hgs : gs.length ≤ 1000000000000) (hop : h.op = 14) :
    Calls Tryd.prog 58 #[.pointer (some ⟨L.bc, 0, none⟩), stV h b e s] w (WkOP w L p aoD aoT capD capT i A fs gs v vs ve fs (gs ++ [h.nm]) (orE (if (orE (wantE (conv (mean p i h.nm)) 6 6) (nest (insR (frL A) 7 7 ⟨#[]⟩ || insR (frL A) 3 3 ⟨#[]⟩)) == 0) && inTx gs h.nm.toList then 8 else orE (wantE (conv (mean p i h.nm)) 6 6) (nest (insR (frL A) 7 7 ⟨#[]⟩ || insR (frL A) 3 3 ⟨#[]⟩))) (exE p i h.xop h.xn h.xnm h.xkids))) := by
  obtain ⟨aoA, capA, rfl, hat⟩ := hI.form
  obtain ⟨aoS, capS, rfl, htS⟩ := hI.formS
  obtain ⟨aoE, capE, rfl, htE⟩ := hI.formE
  have hp := hI.dat.use hI.b0
  have hh := hI.holds
  have har : (frL A).len ≤ maxLen := by rw [frL_len]; exact hA
  have HIB := Lib.hid hin
  replace hin := hin.use hI.b0
  have HI := Lib.hid hI
  have HTS := Lib.hid htS
  have HTE := Lib.hid htE
  generalize hres : (orE (if (orE (wantE (conv (mean p i h.nm)) 6 6) (nest (insR (frL A) 7 7 ⟨#[]⟩ || insR (frL A) 3 3 ⟨#[]⟩)) == 0) && inTx gs h.nm.toList then 8 else orE (wantE (conv (mean p i h.nm)) 6 6) (nest (insR (frL A) 7 7 ⟨#[]⟩ || insR (frL A) 3 3 ⟨#[]⟩))) (exE p i h.xop h.xn h.xnm h.xkids)) = res
  have HR : Hid (res = (orE (if (orE (wantE (conv (mean p i h.nm)) 6 6) (nest (insR (frL A) 7 7 ⟨#[]⟩ || insR (frL A) 3 3 ⟨#[]⟩)) == 0) && inTx gs h.nm.toList then 8 else orE (wantE (conv (mean p i h.nm)) 6 6) (nest (insR (frL A) 7 7 ⟨#[]⟩ || insR (frL A) 3 3 ⟨#[]⟩))) (exE p i h.xop h.xn h.xnm h.xkids))) := Lib.hid (by rw [← hres])
  have HOP := Lib.hid hop
  have HNM := Lib.hid hin.1.2.2.1
  have HFS := Lib.hid hfs
  have HGS := Lib.hid hgs
  clear hres hop hI htS htE hA hfs hgs
  have HH := Lib.hid (show Sit w w _ from ⟨Below.refl _ _, hh⟩)
  have HSI := Lib.hid hin
  have HAR := Lib.hid hat
  have HAL := Lib.hid har
  have HP := Lib.hid hp
  unfold stV
  clear hh hin hat har hp
  go_enter Tryd.func58, Tryd.ntmps58
  go_upto_region 1 with fail
  generalize hW : World.alloc w _ = W
  generalize Value.agg #[_, _, _, _, _, _, _, _, _, _, _] = a0
  have HX : Hid (Sit w W (stF w.heap.size h b e s (wkF L.bc p aoD aoT capD capT i aoA (frL A).len capA aoS fs.length capS aoE gs.length capE))) := Lib.hid (by rw [← hW]; exact HH.out.box11 rfl _ _ _ _ _ _ _ _ _ _ _ _)
  clear hW HH
  have K0 : ∀ w', Below W.heap.size W w' → w'.cell? ⟨L.bc, 0, none⟩ = some (.slice aoD p.ds.length capD) := fun w' hb => (HX.out.next hb).2.2.2.2.2.2.2.2.2.2.2.2.1.2
  have K1 : ∀ w', Below W.heap.size W w' → w'.cell? ⟨L.bc, 1, none⟩ = some (.slice aoT p.ts.length capT) := fun w' hb => (HX.out.next hb).2.2.2.2.2.2.2.2.2.2.2.2.2.1.2
  have K2 : ∀ w', Below W.heap.size W w' → w'.cell? ⟨L.bc, 2, none⟩ = some (.int .i64 i) := fun w' hb => (HX.out.next hb).2.2.2.2.2.2.2.2.2.2.2.2.2.2.1.2
  have HD1 : Below W.heap.size W (W.drewN 1) := below_drewN (Below.refl _ _) 1
  refine wpAny_start (by kernel_rfl) rfl ?_
  generalize W.drewN 1 = W1 at *
  refine wpAny_phase 0 11 [8, 9] [[], [0], [0, 1], [0, 1, 2], [], [4], [4, 5], [4, 5, 6], [], [0, 1, 2, 3, 8], [0, 1, 2, 3, 4, 5, 6, 7, 8, 9]] [[none, some false], [none, some false], [none, some false], [none, some false], [none, none], [none, none], [none, none], [none, none], [some false, some false], [some true, some false], [some true, some true]] (AC W1 (.cells #[.slice none 0 0, .slice none 0 0] 29) (.cells #[.slice aoD p.ds.length capD, .slice aoT p.ts.length capT] 29)) (fun _ _ => True) [15, 16, 17, 18, 19, 20, 21, 22, 5, 6] rfl rfl (by rfl) (by kernel_rfl) (by kernel_rfl) (by kernel_rfl) (by kernel_rfl) (by kernel_rfl) (by rfl) (fun _ => trivial) (by rfl) rfl ?_
  simp only [List.take_succ_cons, List.take_zero, List.drop_zero, List.drop_succ_cons, dumE, List.map_cons, List.map_nil]
  apply ObP.step
  case hobl =>
    intro c A w' hok hC hO hD
    have e0 := hO 0 (by rfl)
    simp [Act.eval] at e0
    simp [depsL, IsV, slotv, Act.eval, Region.binds] at hD
    simp [go_sem, gd, Oper.wp, hD, e0]
    exact WPost.mk trivial (AC.skip (by rfl) (by rfl) hC) (IsV.mk _ _)
  apply ObP.step
  case hobl =>
    intro c A w' hok hC hO hD
    simp [depsL, IsV, slotv, Act.eval, Region.binds] at hD
    simp [go_sem, gd, Oper.wp, hD]
    exact WPost.mk trivial (AC.skip (by rfl) (by rfl) hC) (IsV.mk _ _)
  apply ObP.step
  case hobl =>
    intro c A w' hok hC hO hD
    simp [depsL, IsV, slotv, Act.eval, Region.binds] at hD
    simp [go_sem, gd, Oper.wp, hD]
    exact WPost.mk trivial (AC.skip (by rfl) (by rfl) hC) (IsV.mk _ _)
  apply ObP.step
  case hobl =>
    intro c A w' hok hC hO hD
    simp [depsL, IsV, slotv, Act.eval, Region.binds] at hD
    simp [go_sem, gd, Oper.wp, hD, K0, K1, AC.below HD1 hC]
    exact WPost.mk trivial (AC.skip (by rfl) (by rfl) hC) (IsV.mk _ _)
  apply ObP.step
  case hobl =>
    intro c A w' hok hC hO hD
    have e0 := hO 0 (by rfl)
    simp [Act.eval] at e0
    simp [depsL, IsV, slotv, Act.eval, Region.binds] at hD
    simp [go_sem, gd, Oper.wp, hD, e0]
    exact WPost.mk trivial (AC.skip (by rfl) (by rfl) hC) (IsV.mk _ _)
  simp only [List.nil_append, List.cons_append]
  apply ObP.step
  case hobl =>
    intro c A w' hok hC hO hD
    simp [depsL, IsV, slotv, Act.eval, Region.binds] at hD
    simp [go_sem, gd, Oper.wp, hD]
    exact WPost.mk trivial (AC.skip (by rfl) (by rfl) hC) (IsV.mk _ _)
  apply ObP.step
  case hobl =>
    intro c A w' hok hC hO hD
    simp [depsL, IsV, slotv, Act.eval, Region.binds] at hD
    simp [go_sem, gd, Oper.wp, hD]
    exact WPost.mk trivial (AC.skip (by rfl) (by rfl) hC) (IsV.mk _ _)
  apply ObP.step
  case hobl =>
    intro c A w' hok hC hO hD
    simp [depsL, IsV, slotv, Act.eval, Region.binds] at hD
    simp [go_sem, gd, Oper.wp, hD, K2, AC.below HD1 hC]
    exact WPost.mk trivial (AC.skip (by rfl) (by rfl) hC) (IsV.mk _ _)
  simp only [List.nil_append, List.cons_append]
  apply ObP.step
  case hobl =>
    intro c A w' hok hC hO hD
    obtain ⟨x, y, rfl⟩ := hC.bits
    obtain ⟨rfl, rfl, -⟩ := hok
    have hw : w' = W1 := hC
    subst hw
    simp [go_sem, gd, Oper.wp]
    exact WPost.mk trivial (AC.lay (by rfl) (by rfl)) (IsV.mk _ _)
  refine ObP.some (fun _ _ => True) (fun _ _ _ _ _ => trivial) ?_ ?_
  · intro c A w' hok hC hO hD
    obtain ⟨x, y, rfl⟩ := hC.bits
    obtain ⟨rfl, rfl, -⟩ := hok
    have hw : w' = W1.alloc _ := hC
    subst hw
    simp [depsL, IsV, slotv, Act.eval, Region.binds] at hD
    simp [go_sem, gd, Oper.wp, hD]
    exact WPost.mk0 (v := undef) trivial (AC.fill (by rfl) (by rfl)) trivial
  simp only [List.nil_append, List.cons_append]
  apply ObP.step
  case hobl =>
    intro c A w' hok hC hO hD
    simp [depsL, IsV, slotv, Act.eval, Region.binds] at hD
    simp [go_sem, gd, Oper.wp, hD]
    exact WPost.mk trivial (AC.skip (by rfl) (by rfl) hC) (IsV.mk _ _)
  simp only [List.nil_append, List.cons_append]
  refine ObP.done ?_
  intro wz hCz
  simp only [List.drop_zero]
  intro v0 h0 v1 h1 v2 h2 v3 h3 v4 h4 v5 h5 v6 h6 v7 h7 v8 h8 v9 h9 v10 h10
  have h8' : v8 = _ := h8
  have h10' : v10 = _ := h10
  subst h8' h10'
  clear h0 h1 h2 h3 h4 h5 h6 h7 h8 h9 h10
  refine AllVals.nil ?_
  refine wpAny_end rfl ?_
  have hCz' : wz = W1.alloc _ := hCz
  generalize hn1 : W1.heap.size = n1 at *
  have HY := Lib.hid ((HX.out.next HD1).box2 hn1 (.slice aoD p.ds.length capD) (.slice aoT p.ts.length capT) 29)
  rw [← hCz'] at HY
  have HN1 : Hid (w.heap.size ≤ n1) := Lib.hid (by rw [← hn1]; exact (HX.out.next HD1).1.size)
  clear hCz hCz' HX K0 K1 K2 HD1 hn1
  go_simp
  obtain ⟨-, ⟨-, c0⟩, ⟨-, c1⟩, ⟨-, c2⟩, ⟨-, c3⟩, ⟨-, c4⟩, ⟨-, c5⟩, ⟨-, c6⟩, ⟨-, c7⟩, ⟨-, c8⟩, ⟨-, c9⟩, ⟨-, c10⟩, ⟨-, c11⟩, ⟨-, c12⟩, ⟨-, c13⟩, ⟨-, c14⟩, ⟨-, c15⟩, ⟨-, c16⟩, ⟨-, c17⟩, ⟨-, c18⟩, -⟩ := HY.out
  go_wp2_with fail
  refine (wkInside_any p _ aoD aoT capD capT i aoA capA L.bc aoS fs.length capS aoE gs.length capE (frL A) 7 7 ⟨#[]⟩ HAL.out (HAR.out.same HY.out.1) (wkHolds HY.out)).mono ?_
  rintro e' W ⟨rfl, hb⟩
  replace HY := Lib.hid (HY.out.next hb)
  clear hb c0 c1 c2 c3 c4 c5 c6 c7 c8 c9 c10 c11 c12 c13 c14 c15 c16 c17 c18
  obtain ⟨-, ⟨-, c0⟩, ⟨-, c1⟩, ⟨-, c2⟩, ⟨-, c3⟩, ⟨-, c4⟩, ⟨-, c5⟩, ⟨-, c6⟩, ⟨-, c7⟩, ⟨-, c8⟩, ⟨-, c9⟩, ⟨-, c10⟩, ⟨-, c11⟩, ⟨-, c12⟩, ⟨-, c13⟩, ⟨-, c14⟩, ⟨-, c15⟩, ⟨-, c16⟩, ⟨-, c17⟩, ⟨-, c18⟩, -⟩ := HY.out
  go_wp2_with fail
  refine (wkInside_any p _ aoD aoT capD capT i aoA capA L.bc aoS fs.length capS aoE gs.length capE (frL A) 8 8 ⟨#[]⟩ HAL.out (HAR.out.same HY.out.1) (wkHolds HY.out)).mono ?_
  rintro e' W ⟨rfl, hb⟩
  replace HY := Lib.hid (HY.out.next hb)
  clear hb c0 c1 c2 c3 c4 c5 c6 c7 c8 c9 c10 c11 c12 c13 c14 c15 c16 c17 c18
  obtain ⟨-, ⟨-, c0⟩, ⟨-, c1⟩, ⟨-, c2⟩, ⟨-, c3⟩, ⟨-, c4⟩, ⟨-, c5⟩, ⟨-, c6⟩, ⟨-, c7⟩, ⟨-, c8⟩, ⟨-, c9⟩, ⟨-, c10⟩, ⟨-, c11⟩, ⟨-, c12⟩, ⟨-, c13⟩, ⟨-, c14⟩, ⟨-, c15⟩, ⟨-, c16⟩, ⟨-, c17⟩, ⟨-, c18⟩, -⟩ := HY.out
  go_wp2_with fail
  refine (wkInside_any p _ aoD aoT capD capT i aoA capA L.bc aoS fs.length capS aoE gs.length capE (frL A) 3 3 ⟨#[]⟩ HAL.out (HAR.out.same HY.out.1) (wkHolds HY.out)).mono ?_
  rintro e' W ⟨rfl, hb⟩
  replace HY := Lib.hid (HY.out.next hb)
  clear hb c0 c1 c2 c3 c4 c5 c6 c7 c8 c9 c10 c11 c12 c13 c14 c15 c16 c17 c18
  obtain ⟨-, ⟨-, c0⟩, ⟨-, c1⟩, ⟨-, c2⟩, ⟨-, c3⟩, ⟨-, c4⟩, ⟨-, c5⟩, ⟨-, c6⟩, ⟨-, c7⟩, ⟨-, c8⟩, ⟨-, c9⟩, ⟨-, c10⟩, ⟨-, c11⟩, ⟨-, c12⟩, ⟨-, c13⟩, ⟨-, c14⟩, ⟨-, c15⟩, ⟨-, c16⟩, ⟨-, c17⟩, ⟨-, c18⟩, -⟩ := HY.out
  generalize htx : insR (frL A) 7 7 ⟨#[]⟩ = tx at *
  generalize hat' : insR (frL A) 8 8 ⟨#[]⟩ = atm at *
  generalize hlo : insR (frL A) 3 3 ⟨#[]⟩ = lop at *
  clear htx hat' hlo
  have hop := HOP.out
  have g1 : (h.op == 1) = false := by rw [hop]; rfl
  have g2 : (h.op == 2) = false := by rw [hop]; rfl
  have g3 : (h.op == 3) = false := by rw [hop]; rfl
  have g4 : (h.op == 4) = false := by rw [hop]; rfl
  have g5 : (h.op == 5) = false := by rw [hop]; rfl
  have g6 : (h.op == 6) = false := by rw [hop]; rfl
  have g7 : (h.op == 7) = false := by rw [hop]; rfl
  have g8 : (h.op == 8) = false := by rw [hop]; rfl
  have g9 : (h.op == 9) = false := by rw [hop]; rfl
  have g10 : (h.op == 10) = false := by rw [hop]; rfl
  have g11 : (h.op == 11) = false := by rw [hop]; rfl
  have g12 : (h.op == 12) = false := by rw [hop]; rfl
  have g13 : (h.op == 13) = false := by rw [hop]; rfl
  have g14 : (h.op == 14) = true := by rw [hop]; rfl
  have g15 : (h.op == 15) = false := by rw [hop]; rfl
  clear hop
  go_upto_region 44 with fail
  go_cut [14] (fun s' W3 => s' = .int .i64 (orE (wantE (conv (mean p i h.nm)) 6 6) (nest (tx || lop))) ∧ Sit w W3 ((n1, 0, .slice aoD p.ds.length capD) :: (n1, 1, .slice aoT p.ts.length capT) :: stF w.heap.size h b e s (wkF L.bc p aoD aoT capD capT i aoA (frL A).len capA aoS fs.length capS aoE gs.length capE)))
  case first =>
    as_aux_lemma =>
      cases tx
      · cases lop
        · go_wp2_with fail
          refine (want_any p i h.nm 6 6 _ aoD aoT capD capT hi (HP.out.same HY.out.1)).mono ?_
          rintro e' W ⟨rfl, hb⟩
          replace HY := Lib.hid (HY.out.next hb)
          clear hb c0 c1 c2 c3 c4 c5 c6 c7 c8 c9 c10 c11 c12 c13 c14 c15 c16 c17 c18
          obtain ⟨-, ⟨-, c0⟩, ⟨-, c1⟩, ⟨-, c2⟩, ⟨-, c3⟩, ⟨-, c4⟩, ⟨-, c5⟩, ⟨-, c6⟩, ⟨-, c7⟩, ⟨-, c8⟩, ⟨-, c9⟩, ⟨-, c10⟩, ⟨-, c11⟩, ⟨-, c12⟩, ⟨-, c13⟩, ⟨-, c14⟩, ⟨-, c15⟩, ⟨-, c16⟩, ⟨-, c17⟩, ⟨-, c18⟩, -⟩ := HY.out
          go_wp2_with fail
          refine (RefNesting_any _ _).mono ?_
          rintro e' W' ⟨rfl, rfl⟩
          go_wp2_with fail
          refine (RefOr_any _ _ _).mono ?_
          rintro e' W' ⟨rfl, rfl⟩
          go_wp2_with fail
          go_meet
          exact ⟨rfl, HY.out⟩
        · go_wp2_with fail
          refine (want_any p i h.nm 6 6 _ aoD aoT capD capT hi (HP.out.same HY.out.1)).mono ?_
          rintro e' W ⟨rfl, hb⟩
          replace HY := Lib.hid (HY.out.next hb)
          clear hb c0 c1 c2 c3 c4 c5 c6 c7 c8 c9 c10 c11 c12 c13 c14 c15 c16 c17 c18
          obtain ⟨-, ⟨-, c0⟩, ⟨-, c1⟩, ⟨-, c2⟩, ⟨-, c3⟩, ⟨-, c4⟩, ⟨-, c5⟩, ⟨-, c6⟩, ⟨-, c7⟩, ⟨-, c8⟩, ⟨-, c9⟩, ⟨-, c10⟩, ⟨-, c11⟩, ⟨-, c12⟩, ⟨-, c13⟩, ⟨-, c14⟩, ⟨-, c15⟩, ⟨-, c16⟩, ⟨-, c17⟩, ⟨-, c18⟩, -⟩ := HY.out
          go_wp2_with fail
          refine (RefNesting_any _ _).mono ?_
          rintro e' W' ⟨rfl, rfl⟩
          go_wp2_with fail
          refine (RefOr_any _ _ _).mono ?_
          rintro e' W' ⟨rfl, rfl⟩
          go_wp2_with fail
          go_meet
          exact ⟨rfl, HY.out⟩
      · go_wp2_with fail
        refine (want_any p i h.nm 6 6 _ aoD aoT capD capT hi (HP.out.same HY.out.1)).mono ?_
        rintro e' W ⟨rfl, hb⟩
        replace HY := Lib.hid (HY.out.next hb)
        clear hb c0 c1 c2 c3 c4 c5 c6 c7 c8 c9 c10 c11 c12 c13 c14 c15 c16 c17 c18
        obtain ⟨-, ⟨-, c0⟩, ⟨-, c1⟩, ⟨-, c2⟩, ⟨-, c3⟩, ⟨-, c4⟩, ⟨-, c5⟩, ⟨-, c6⟩, ⟨-, c7⟩, ⟨-, c8⟩, ⟨-, c9⟩, ⟨-, c10⟩, ⟨-, c11⟩, ⟨-, c12⟩, ⟨-, c13⟩, ⟨-, c14⟩, ⟨-, c15⟩, ⟨-, c16⟩, ⟨-, c17⟩, ⟨-, c18⟩, -⟩ := HY.out
        go_wp2_with fail
        refine (RefNesting_any _ _).mono ?_
        rintro e' W' ⟨rfl, rfl⟩
        go_wp2_with fail
        refine (RefOr_any _ _ _).mono ?_
        rintro e' W' ⟨rfl, rfl⟩
        go_wp2_with fail
        go_meet
        exact ⟨rfl, HY.out⟩
  obtain ⟨rfl, hsit⟩ := hcut
  replace HY := Lib.hid hsit
  clear hsit c0 c1 c2 c3 c4 c5 c6 c7 c8 c9 c10 c11 c12 c13 c14 c15 c16 c17 c18
  obtain ⟨W, rfl⟩ : ∃ W : World, W = wc := ⟨_, rfl⟩
  generalize orE (wantE (conv (mean p i h.nm)) 6 6) (nest (tx || lop)) = e1 at *
  obtain ⟨-, ⟨-, c0⟩, ⟨-, c1⟩, ⟨-, c2⟩, ⟨-, c3⟩, ⟨-, c4⟩, ⟨-, c5⟩, ⟨-, c6⟩, ⟨-, c7⟩, ⟨-, c8⟩, ⟨-, c9⟩, ⟨-, c10⟩, ⟨-, c11⟩, ⟨-, c12⟩, ⟨-, c13⟩, ⟨-, c14⟩, ⟨-, c15⟩, ⟨-, c16⟩, ⟨-, c17⟩, ⟨-, c18⟩, -⟩ := HY.out
  have HUS := Lib.hid (atTx_used gs h.nm)
  go_upto_region 45 with fail
  go_cut [253] (fun s' W3 => s' = .bool ((e1 == 0) && inTx gs h.nm.toList) ∧ Sit w W3 ((n1, 0, .slice aoD p.ds.length capD) :: (n1, 1, .slice aoT p.ts.length capT) :: stF w.heap.size h b e s (wkF L.bc p aoD aoT capD capT i aoA (frL A).len capA aoS fs.length capS aoE gs.length capE)))
  case first =>
    as_aux_lemma =>
      obtain ⟨T, F, hinh, hst, hF, hnext⟩ := calm W
      have HF := Lib.hid hF
      have HNX := Lib.hid hnext
      clear hnext hF
      have d0 := fun x => (HY.out.next (HF.out x)).2.1.2
      have d1 := fun x => (HY.out.next (HF.out x)).2.2.1.2
      have d2 := fun x => (HY.out.next (HF.out x)).2.2.2.1.2
      have d3 := fun x => (HY.out.next (HF.out x)).2.2.2.2.1.2
      have d4 := fun x => (HY.out.next (HF.out x)).2.2.2.2.2.1.2
      have d5 := fun x => (HY.out.next (HF.out x)).2.2.2.2.2.2.1.2
      have d6 := fun x => (HY.out.next (HF.out x)).2.2.2.2.2.2.2.1.2
      have d7 := fun x => (HY.out.next (HF.out x)).2.2.2.2.2.2.2.2.1.2
      have d8 := fun x => (HY.out.next (HF.out x)).2.2.2.2.2.2.2.2.2.1.2
      have d9 := fun x => (HY.out.next (HF.out x)).2.2.2.2.2.2.2.2.2.2.1.2
      have d10 := fun x => (HY.out.next (HF.out x)).2.2.2.2.2.2.2.2.2.2.2.1.2
      have d11 := fun x => (HY.out.next (HF.out x)).2.2.2.2.2.2.2.2.2.2.2.2.1.2
      have d12 := fun x => (HY.out.next (HF.out x)).2.2.2.2.2.2.2.2.2.2.2.2.2.1.2
      have d13 := fun x => (HY.out.next (HF.out x)).2.2.2.2.2.2.2.2.2.2.2.2.2.2.1.2
      have d14 := fun x => (HY.out.next (HF.out x)).2.2.2.2.2.2.2.2.2.2.2.2.2.2.2.1.2
      have d15 := fun x => (HY.out.next (HF.out x)).2.2.2.2.2.2.2.2.2.2.2.2.2.2.2.2.1.2
      have d16 := fun x => (HY.out.next (HF.out x)).2.2.2.2.2.2.2.2.2.2.2.2.2.2.2.2.2.1.2
      have d17 := fun x => (HY.out.next (HF.out x)).2.2.2.2.2.2.2.2.2.2.2.2.2.2.2.2.2.2.1.2
      have d18 := fun x => (HY.out.next (HF.out x)).2.2.2.2.2.2.2.2.2.2.2.2.2.2.2.2.2.2.2.1.2
      clear c0 c1 c2 c3 c4 c5 c6 c7 c8 c9 c10 c11 c12 c13 c14 c15 c16 c17 c18
      cases he1 : (e1 == 0)
      · clear HUS
        refine region_calm F (by kernel_rfl) (by kernel_rfl) hst ?_
        repeat (any_goals (first | go_big_quiet_step ((fail)) | (refine wpQuiet_step (fun K hK => ?_); go_simp; first | (refine hK _ ?_; clear hK K) | (split <;> first | (refine hK _ ?_; clear hK K) | (apply Exists.intro; refine ⟨fun _ => ?_, hK _ ?_⟩; ((fail)); clear hK K)))))
        all_goals (refine wpQuiet_nil ?_; rintro _ ⟨x, rfl⟩)
        replace HY := Lib.hid (HY.out.next (HF.out x))
        clear d0 d1 d2 d3 d4 d5 d6 d7 d8 d9 d10 d11 d12 d13 d14 d15 d16 d17 d18 HF HNX hst
        generalize F x = W2 at *
        go_wp2_with fail
        go_meet
        exact ⟨by first | (rw [he1]; rfl) | simp [he1], HY.out⟩
      · obtain rfl : e1 = 0 := by simpa using he1
        rcases HUS.out with ⟨hau, hus⟩ | ⟨jj, hau, hus⟩
        · have HAU := Lib.hid hau
          have HUT := Lib.hid hus
          clear HUS hau hus he1
          refine region_calm F (by kernel_rfl) (by kernel_rfl) hst ?_
          repeat (any_goals (first | go_big_quiet_step ((first | (go_at_call 57; refine (RefAt_any gs h.nm _ aoE capE (by have := HGS.out; unfold maxLen; omega) ((HTE.out.same HY.out.1).same (HF.out _))).mono ?_; rintro e w' ⟨rfl, rfl⟩; rw [HAU.out]; exact ⟨rfl, HNX.out _ _ (Below.refl _ _)⟩))) | (refine wpQuiet_step (fun K hK => ?_); go_simp; first | (refine hK _ ?_; clear hK K) | (split <;> first | (refine hK _ ?_; clear hK K) | (apply Exists.intro; refine ⟨fun _ => ?_, hK _ ?_⟩; ((first | (go_at_call 57; refine (RefAt_any gs h.nm _ aoE capE (by have := HGS.out; unfold maxLen; omega) ((HTE.out.same HY.out.1).same (HF.out _))).mono ?_; rintro e w' ⟨rfl, rfl⟩; rw [HAU.out]; exact ⟨rfl, HNX.out _ _ (Below.refl _ _)⟩))); clear hK K)))))
          all_goals (refine wpQuiet_nil ?_; rintro _ ⟨x, rfl⟩)
          replace HY := Lib.hid (HY.out.next (HF.out x))
          clear d0 d1 d2 d3 d4 d5 d6 d7 d8 d9 d10 d11 d12 d13 d14 d15 d16 d17 d18 HF HNX hst
          generalize F x = W2 at *
          go_wp2_with fail
          go_meet
          exact ⟨by first | (rw [HUT.out]; rfl) | simp [HUT.out], HY.out⟩
        · have HAU := Lib.hid hau
          have HUT := Lib.hid hus
          have hj0 : (0 : Int) ≤ (jj : Int) := by omega
          clear HUS hau hus he1
          refine region_calm F (by kernel_rfl) (by kernel_rfl) hst ?_
          repeat (any_goals (first | go_big_quiet_step ((first | (go_at_call 57; refine (RefAt_any gs h.nm _ aoE capE (by have := HGS.out; unfold maxLen; omega) ((HTE.out.same HY.out.1).same (HF.out _))).mono ?_; rintro e w' ⟨rfl, rfl⟩; rw [HAU.out]; exact ⟨rfl, HNX.out _ _ (Below.refl _ _)⟩))) | (refine wpQuiet_step (fun K hK => ?_); go_simp; first | (refine hK _ ?_; clear hK K) | (split <;> first | (refine hK _ ?_; clear hK K) | (apply Exists.intro; refine ⟨fun _ => ?_, hK _ ?_⟩; ((first | (go_at_call 57; refine (RefAt_any gs h.nm _ aoE capE (by have := HGS.out; unfold maxLen; omega) ((HTE.out.same HY.out.1).same (HF.out _))).mono ?_; rintro e w' ⟨rfl, rfl⟩; rw [HAU.out]; exact ⟨rfl, HNX.out _ _ (Below.refl _ _)⟩))); clear hK K)))))
          all_goals (refine wpQuiet_nil ?_; rintro _ ⟨x, rfl⟩)
          replace HY := Lib.hid (HY.out.next (HF.out x))
          clear d0 d1 d2 d3 d4 d5 d6 d7 d8 d9 d10 d11 d12 d13 d14 d15 d16 d17 d18 HF HNX hst
          generalize F x = W2 at *
          go_wp2_with fail
          go_meet
          exact ⟨by first | (rw [HUT.out]; rfl) | simp [HUT.out], HY.out⟩
  obtain ⟨rfl, hsit⟩ := hcut
  replace HY := Lib.hid hsit
  clear hsit c0 c1 c2 c3 c4 c5 c6 c7 c8 c9 c10 c11 c12 c13 c14 c15 c16 c17 c18 HUS
  obtain ⟨W2, rfl⟩ : ∃ W : World, W = wc := ⟨_, rfl⟩
  generalize ((e1 == 0) && inTx gs h.nm.toList) = tb at *
  go_upto_if 253 with fail
  go_cut [14] (fun s' W3 => s' = .int .i64 (if tb then 8 else e1) ∧ W2 = W3)
  case first =>
    cases tb
    all_goals go_wp2_with fail
    all_goals go_meet
    all_goals exact ⟨rfl, rfl⟩
  obtain ⟨rfl, rfl⟩ := hcut
  generalize (if tb = true then 8 else e1) = e2 at *
  have hI2 := HI.out.below HY.out.1
  have HI2 := Lib.hid hI2
  have K4 : ∀ w', Below W2.heap.size W2 w' → w'.cell? ⟨L.bc, 5, none⟩ = some (.slice aoE gs.length capE) := fun w' hb => (cell_blk (HI2.out.below hb).blk (j := 5) rfl).2
  have K2 : ∀ w', Below W2.heap.size W2 w' → w'.cell? ⟨w.heap.size, 2, none⟩ = some (.string h.nm) := fun w' hb => (HY.out.next hb).2.2.2.2.2.1.2
  have hd1 : Below W2.heap.size W2 (W2.drewN 1) := below_drewN (Below.refl _ _) 1
  have hgs := HGS.out
  clear hI2
  go_upto_region 47 with fail
  refine wpAny_start (by kernel_rfl) rfl ?_
  generalize W2.drewN 1 = W5 at *
  have hd2 : Below W2.heap.size W2 (W5.alloc (.cells #[.string h.nm] 9)) := hd1.trans ((alloc_below _ _).mono hd1.size)
  obtain ⟨i0, hi0, hz0, hz1, hz2⟩ := str_info
  obtain ⟨gg, cap, w4, hrun, hown4, hgrow4, hat4, hlt4⟩ := run_append_lies (P := Tryd.prog) (W5.alloc (.cells #[.string h.nm] 9)) 41 41 L.B1 9 i0 _ 1 16 Tryd.underlying41 hi0 hz0 hz1 hz2 rfl (by omega) (.slice aoE gs.length capE) gs.length (txC gs) (HI2.out.below hd2).re ⟨W5.heap.size, 0, none⟩ 1 1 [.string h.nm] rfl (World.news_of_block (cs := #[.string h.nm]) (heap_alloc_new W5 _)) (by simp [Value.oneCell']) (by omega) (by unfold maxLen; omega) (by omega) (HI2.out.below hd2).sz _ rfl
  have HRUN := Lib.hid hrun
  have HAD := Lib.hid (HI2.out.addE HNM.out hd2 hown4 hgrow4 hat4)
  have HB4 : Hid (w4.heap[L.bc]? = some (.cells (wkV p aoD aoT capD capT i (.slice aoA A.length capA) (.slice aoS fs.length capS) (.slice aoE gs.length capE)) 67 (0, 0))) := Lib.hid ((hgrow4.block _ (Array.getElem?_eq_some_iff.1 (HI2.out.below hd2).blk).1 (fun e' => HI2.out.bcne (u := .slice aoE gs.length capE) (by simp) e'.symm)).trans (HI2.out.below hd2).blk)
  have k4 : w4.cell? ⟨L.bc, 5, none⟩ = some (.slice aoE gs.length capE) := (cell_blk HB4.out (j := 5) rfl).2
  have f4 : w4.frozen? ⟨L.bc, 5, none⟩ = false := free_blk HB4.out
  clear hrun hown4 hgrow4 hat4 hlt4 hi0 hz0 hz1 hz2 HB4
  refine wpAny_phase 0 12 [7, 8, 11] [[], [], [1], [1, 2], [1, 2, 3], [], [5], [5, 6], [1, 2, 3, 4, 5, 6, 7], [0, 1, 2, 3, 4, 5, 6, 7, 8], [0, 1, 2, 3, 4, 5, 6, 7, 8, 9], [0, 1, 2, 3, 4, 5, 6, 7, 8, 9, 10]] [[none, none, some false], [none, some false, some false], [none, some false, some false], [none, some false, some false], [none, some false, some false], [some false, some false, some false], [some false, some false, some false], [some false, some false, some false], [some true, some false, some false], [some true, some true, some false], [some true, some true, some false], [some true, some true, some false]] (C3 W5 (W5.alloc (.cells #[.string h.nm] 9)) w4 (w4.setCell ⟨L.bc, 5, none⟩ (.slice (some ⟨gg, 0, none⟩) (gs.length + 1) cap))) (fun _ _ => True) [254, 255, 256, 257, 258, 259, 260, 261, 262, 263, 264] rfl rfl (by rfl) (by kernel_rfl) (by kernel_rfl) (by kernel_rfl) (by kernel_rfl) (by kernel_rfl) (by rfl) (fun _ => trivial) (by rfl) rfl ?_
  simp only [List.take_succ_cons, List.take_zero, List.drop_zero, List.drop_succ_cons, dumE, List.map_cons, List.map_nil]
  apply ObP.step
  case hobl =>
    intro c A w' hok hC hO hD
    have e0 := hO 0 (by rfl)
    simp [Act.eval] at e0
    simp [depsL, IsV, slotv, Act.eval, Region.binds] at hD
    simp [go_sem, gd, Oper.wp, hD, e0]
    exact WPost.mk trivial (C3.skip (by rfl) (by rfl) (by rfl) hC) (IsV.mk _ _)
  apply ObP.step
  case hobl =>
    intro c A w' hok hC hO hD
    have e0 := hO 0 (by rfl)
    simp [Act.eval] at e0
    simp [depsL, IsV, slotv, Act.eval, Region.binds] at hD
    simp [go_sem, gd, Oper.wp, hD, e0]
    exact WPost.mk trivial (C3.skip (by rfl) (by rfl) (by rfl) hC) (IsV.mk _ _)
  apply ObP.step
  case hobl =>
    intro c A w' hok hC hO hD
    simp [depsL, IsV, slotv, Act.eval, Region.binds] at hD
    simp [go_sem, gd, Oper.wp, hD]
    exact WPost.mk trivial (C3.skip (by rfl) (by rfl) (by rfl) hC) (IsV.mk _ _)
  apply ObP.step
  case hobl =>
    intro c A w' hok hC hO hD
    simp [depsL, IsV, slotv, Act.eval, Region.binds] at hD
    simp [go_sem, gd, Oper.wp, hD]
    exact WPost.mk trivial (C3.skip (by rfl) (by rfl) (by rfl) hC) (IsV.mk _ _)
  simp only [List.nil_append, List.cons_append]
  apply ObP.step
  case hobl =>
    intro c A w' hok hC hO hD
    simp [depsL, IsV, slotv, Act.eval, Region.binds] at hD
    simp [go_sem, gd, Oper.wp, hD, K4, C3.low hd1 hd2 hok hC]
    exact WPost.mk trivial (C3.skip (by rfl) (by rfl) (by rfl) hC) (IsV.mk _ _)
  apply ObP.step
  case hobl =>
    intro c A w' hok hC hO hD
    have e3 := hO 3 (by rfl)
    simp [Act.eval] at e3
    simp [depsL, IsV, slotv, Act.eval, Region.binds] at hD
    simp [go_sem, gd, Oper.wp, hD, e3]
    exact WPost.mk trivial (C3.skip (by rfl) (by rfl) (by rfl) hC) (IsV.mk _ _)
  apply ObP.step
  case hobl =>
    intro c A w' hok hC hO hD
    simp [depsL, IsV, slotv, Act.eval, Region.binds] at hD
    simp [go_sem, gd, Oper.wp, hD, K2, C3.low hd1 hd2 hok hC]
    exact WPost.mk trivial (C3.skip (by rfl) (by rfl) (by rfl) hC) (IsV.mk _ _)
  simp only [List.nil_append, List.cons_append]
  apply ObP.step
  case hobl =>
    intro c A' w' hok hC hO hD
    obtain ⟨rfl, rfl⟩ := C3.w1 hok hC
    simp [depsL, IsV, slotv, Act.eval, Region.binds] at hD
    simp [go_sem, gd, Oper.wp, hD]
    exact WPost.mk trivial (C3.one (by rfl) (by rfl) (by rfl)) (IsV.mk _ _)
  apply ObP.step
  case hobl =>
    intro c A' w' hok hC hO hD
    obtain ⟨rfl, rfl⟩ := C3.w2 hok hC
    simp [depsL, IsV, slotv, Act.eval, Region.binds] at hD
    simp only [gd, if_true]
    refine wp_append_run _ _ _ (.slice aoE gs.length capE) (.slice (some ⟨W5.heap.size, 0, none⟩) 1 1) _ (by rfl) (by simp [Act.eval, hD]) (by simp [Act.eval, hD]) HRUN.out ?_
    exact WPost.mk trivial (C3.two (by rfl) (by rfl) (by rfl)) (IsV.mk _ _)
  simp only [List.nil_append, List.cons_append]
  apply ObP.step
  case hobl =>
    intro c A w' hok hC hO hD
    simp [depsL, IsV, slotv, Act.eval, Region.binds] at hD
    simp [go_sem, gd, Oper.wp, hD]
    exact WPost.mk trivial (C3.skip (by rfl) (by rfl) (by rfl) hC) (IsV.mk _ _)
  apply ObP.step
  case hobl =>
    intro c A w' hok hC hO hD
    simp [depsL, IsV, slotv, Act.eval, Region.binds] at hD
    simp [go_sem, gd, Oper.wp, hD]
    exact WPost.mk trivial (C3.skip (by rfl) (by rfl) (by rfl) hC) (IsV.mk _ _)
  simp only [List.nil_append, List.cons_append]
  refine ObP.some (fun _ _ => True) (fun _ _ _ _ _ => trivial) ?_ ?_
  · intro c A' w' hok hC hO hD
    obtain ⟨rfl, rfl⟩ := C3.w3 hok hC
    simp [depsL, IsV, slotv, Act.eval, Region.binds] at hD
    simp [go_sem, gd, Oper.wp, hD, k4, f4]
    exact WPost.mk0 (v := undef) trivial (C3.three (by rfl) (by rfl) (by rfl)) trivial
  simp only [List.nil_append, List.cons_append]
  refine ObP.done ?_
  intro wy hCy
  simp only [List.drop_zero]
  intro v0 h0 v1 h1 v2 h2 v3 h3 v4 h4 v5 h5 v6 h6 v7 h7 v8 h8 v9 h9 v10 h10 v11 h11
  clear h0 h1 h2 h3 h4 h5 h6 h7 h8 h9 h10 h11
  refine AllVals.nil ?_
  refine wpAny_end rfl ?_
  have hCy' : wy = w4.setCell _ _ := hCy
  rw [← hCy'] at HAD
  clear hCy hCy' k4 f4 K4 K2 hd1 hd2
  go_simp
  have HKF : Hid (∀ k, k < W2.heap.size → w.heap.size ≤ k → wy.heap[k]? = W2.heap[k]?) := Lib.hid (fun k hk hw => HAD.out.2.1.far hk (Nat.le_trans HI.out.sz hw) (fun e => by have := (HI.out.own k e).2; omega))
  have hY := HY.out
  have z0 : wy.cell? ⟨n1, 0, none⟩ = some (.slice aoD p.ds.length capD) := (World.cell?_of_block (a := ⟨n1, 0, none⟩) (HKF.out n1 hY.2.1.1 HN1.out)).trans hY.2.1.2
  have z1 : wy.cell? ⟨n1, 1, none⟩ = some (.slice aoT p.ts.length capT) := (World.cell?_of_block (a := ⟨n1, 1, none⟩) (HKF.out n1 hY.2.1.1 HN1.out)).trans hY.2.2.1.2
  have hn0 : w.heap.size < W2.heap.size := hY.2.2.2.1.1
  have z5 : wy.cell? ⟨w.heap.size, 5, none⟩ = some (.int .i64 h.xop) := (World.cell?_of_block (a := ⟨w.heap.size, 5, none⟩) (HKF.out _ hn0 (Nat.le_refl _))).trans hY.2.2.2.2.2.2.2.2.1.2
  have z6 : wy.cell? ⟨w.heap.size, 6, none⟩ = some (.int .i64 h.xn) := (World.cell?_of_block (a := ⟨w.heap.size, 6, none⟩) (HKF.out _ hn0 (Nat.le_refl _))).trans hY.2.2.2.2.2.2.2.2.2.1.2
  have z7 : wy.cell? ⟨w.heap.size, 7, none⟩ = some (.string h.xnm) := (World.cell?_of_block (a := ⟨w.heap.size, 7, none⟩) (HKF.out _ hn0 (Nat.le_refl _))).trans hY.2.2.2.2.2.2.2.2.2.2.1.2
  have z8 : wy.cell? ⟨w.heap.size, 8, none⟩ = some (.slice s.aox h.xkids.len s.capx) := (World.cell?_of_block (a := ⟨w.heap.size, 8, none⟩) (HKF.out _ hn0 (Nat.le_refl _))).trans hY.2.2.2.2.2.2.2.2.2.2.2.1.2
  have HKD : Hid (h.xkids.At wy L.B0 s.aox 0) := Lib.hid (HIB.out.2.2.1.below ((HY.out.1.mono HI.out.b0).trans (HAD.out.2.1.below HI2.out.b0 (fun k e => (HI2.out.own k e).1))))
  clear hY hn0 HKF
  go_wp2_with fail
  refine (RefExpr_any p i h.xop h.xn h.xnm h.xkids _ aoD aoT s.aox capD capT s.capx hi (HAD.out.1.dat.use HAD.out.1.b0) HSI.out.1.2.2.2.2.2.1 (HKD.out.mono HAD.out.1.b0)).mono ?_
  rintro e' W6 ⟨rfl, hb6⟩
  have HB6 := Lib.hid hb6
  clear hb6 z0 z1 z5 z6 z7 z8
  go_wp2_with fail
  refine (RefOr_any _ _ _).mono ?_
  rintro e' W' ⟨rfl, rfl⟩
  go_wp2_with fail
  go_ret
  exact ⟨ret_int HR.out.symm, ((Kw.of_below HY.out.1).trans (OwnL.refl _ _) HAD.out.2.1).trans ((OwnL.refl _ _).trans HAD.out.2.2 HY.out.1.size) (Kw.of_below HB6.out), _, _, _, _, (OwnL.refl _ _).trans HAD.out.2.2 HY.out.1.size, HAD.out.1.below HB6.out, fun _ => ⟨rfl, rfl⟩⟩
end Go.Proofs.YtghdammalphmfaaDoor
