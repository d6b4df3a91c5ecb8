/-
  The second parser's state; contracts of its methods fail, is, kind.
  Contracts of the second parser's methods is, kind, want, name, number, line.
  Contracts of the second parser's methods kind, want, name, line.
  Contracts of the second parser's methods number, line, binary, word.
  Contracts of the second parser's methods binary, word, declares.
-/
import Derived.Test.YtommnhglgedflaaGreatDoorGUB
import Derived.Test.YtommnhglgedflaaGreatDoorGRA
import Derived.Test.YtommnhglgedflaaGreatDoorGUA
import Derived.Test.YtommnhglgedflaaGreatDoorGZB
import Derived.Test.YtommnhglgedflaaGreatDoorGMB
section
set_option linter.unusedSimpArgs false
set_option linter.unusedVariables false
namespace Go.Proofs.YtommnhglgedflaaGreatDoor
open Go.RowKit
open Md Pz
/-- What the second parser's own fields say. -/
def StAt (ts : Toks) (pos : Nat) (bad : Int) : St → Prop
  | .go r => bad = 0 ∧ ts.drop pos = r
  | .bad n => bad = n ∧ 1 ≤ n ∧ n ≤ 4097
structure RfI (w : World) (R : Rp) (s : St) : Prop where
  blk : ∃ (pos : Nat) (bad : Int), pos ≤ R.ts.length ∧ StAt R.ts pos bad s ∧ w.heap[R.br]? = some (.cells #[.slice R.ao R.ts.length R.cap, .int .i64 (pos : Int), .int .i64 bad] 80 (0, 0))
  tok : TkAt w R.B0 R.ts R.ao 0
  ok : TsOk R.ts ∧ R.ts.length ≤ 4096
  tl : TsL R.ts
section
variable {w w' : World} {R : Rp} {s : St}
theorem RfI.lt (h : RfI w R s) : R.br < w.heap.size := by obtain ⟨a, b, -, -, h⟩ := h.blk; exact (Array.getElem?_eq_some_iff.1 h).1
theorem StAt.mem {ts : Toks} {pos : Nat} {bad : Int} (h : StAt ts pos bad s) : ∀ t ∈ s.toks, t ∈ ts := by
  cases s with
  | go r => obtain ⟨-, rfl⟩ := h; exact fun t ht => List.mem_of_mem_drop ht
  | bad n => intro t ht; cases ht
theorem RfI.ts (h : RfI w R s) : TsOk s.toks := by
  obtain ⟨a, b, -, hs, -⟩ := h.blk
  exact fun t ht => h.ok.1 t (hs.mem t ht)
theorem RfI.tsl (h : RfI w R s) : TsL s.toks := by
  obtain ⟨a, b, -, hs, -⟩ := h.blk
  exact fun t ht => h.tl t (hs.mem t ht)
theorem RfI.len (h : RfI w R s) : s.toks.length ≤ 4096 := by
  obtain ⟨a, b, -, hs, -⟩ := h.blk
  cases s with
  | go r => obtain ⟨-, rfl⟩ := hs; have := h.ok.2; show (R.ts.drop a).length ≤ _; simp; omega
  | bad n => exact Nat.zero_le _
theorem RfI.below (h : RfI w R s) (hb : Below w.heap.size w w') : RfI w' R s := by
  obtain ⟨a, b, h1, h2, h3⟩ := h.blk
  exact ⟨⟨a, b, h1, h2, (hb.block _ h.lt).trans h3⟩, h.tok.below (hb.mono (Nat.le_trans R.b0 (Nat.le_of_lt h.lt))), h.ok, h.tl⟩
/-- The three fields, opened. -/
theorem RfI.open (h : RfI w R s) : ∃ (pos : Nat) (bad : Int), (pos ≤ R.ts.length ∧ pos ≤ 4096 ∧ R.ts.length ≤ 4096 ∧ R.br < w.heap.size ∧ R.B0 ≤ R.br) ∧ Hid (StAt R.ts pos bad s) ∧ (0 ≤ bad ∧ bad ≤ 4097) ∧ w.cell? ⟨R.br, 0, none⟩ = some (.slice R.ao R.ts.length R.cap) ∧ w.cell? ⟨R.br, 1, none⟩ = some (.int .i64 (pos : Int)) ∧ w.cell? ⟨R.br, 2, none⟩ = some (.int .i64 bad) ∧
    w.frozen? ⟨R.br, 1, none⟩ = false ∧ w.frozen? ⟨R.br, 2, none⟩ = false := by
  obtain ⟨pos, bad, h1, h2, h3⟩ := h.blk
  have := h.ok.2
  have hl := h.lt
  have hb := R.b0
  refine ⟨pos, bad, by omega, Lib.hid h2, ?_, cellb h3 rfl, cellb h3 rfl, cellb h3 rfl, free_blk h3, free_blk h3⟩
  cases s with
  | go r => rw [h2.1]; omega
  | bad n => rw [h2.1]; exact ⟨by have := h2.2.1; omega, h2.2.2⟩
/-- One token further. -/
theorem RfI.adv (h : RfI w R s) {pos : Nat} (hp : w.cell? ⟨R.br, 1, none⟩ = some (.int .i64 (pos : Int))) (hne : s.toks ≠ []) : RfI (w.setCell ⟨R.br, 1, none⟩ (.int .i64 ((pos : Int) + 1))) R s.adv := by
  obtain ⟨pos', bad, h1, h2, h3⟩ := h.blk
  have e : pos' = pos := by
    have := cellb (j := 1) h3 rfl
    rw [hp] at this
    injection this with this; injection this with _ this; omega
  subst e
  cases s with
  | bad n => exact absurd rfl hne
  | go r =>
    obtain ⟨rfl, hd⟩ := h2
    have hlt : pos' < R.ts.length := by
      have hne : r ≠ [] := hne
      have := congrArg List.length hd; simp at this
      have := List.length_pos_iff.2 hne; omega
    refine ⟨⟨pos' + 1, 0, hlt, ⟨rfl, ?_⟩, by rw [setCell_blk h3]; rfl⟩, h.tok.below (grown_below (setCell_grown _ _ _) R.b0 (Nat.le_trans R.b0 (Nat.le_of_lt h.lt))), h.ok, h.tl⟩
    rw [← List.drop_drop, hd]; simp
/-- A fault is noted. -/
theorem RfI.fail (h : RfI w R s) {n : Int} (hg : s.good = true) (hn : n = lineAt R.ts s.toks) : RfI (w.setCell ⟨R.br, 2, none⟩ (.int .i64 n)) R (Pz.fail R.ts s) := by
  obtain ⟨pos, bad, h1, h2, h3⟩ := h.blk
  cases s with
  | bad n => cases hg
  | go r =>
    refine ⟨⟨pos, n, h1, ⟨hn, ?_⟩, by rw [setCell_blk h3]; rfl⟩, h.tok.below (grown_below (setCell_grown _ _ _) R.b0 (Nat.le_trans R.b0 (Nat.le_of_lt h.lt))), h.ok, h.tl⟩
    have hq : ∀ t ∈ R.ts, 1 ≤ t.line ∧ t.line ≤ 4097 := fun t ht => (h.tl t ht).1
    obtain ⟨-, rfl⟩ := h2
    show 1 ≤ lineAt R.ts (R.ts.drop pos) ∧ lineAt R.ts (R.ts.drop pos) ≤ 4097
    unfold lineAt
    cases hr : R.ts.drop pos with
    | cons t q =>
      have := hq t (List.mem_of_mem_drop (by rw [hr]; exact List.mem_cons_self))
      dsimp only; omega
    | nil =>
      dsimp only
      cases hl : R.ts.getLast? with
      | none => decide
      | some t => have := hq t (List.mem_of_getLast? hl); dsimp only; omega
end
theorem rf_done {R : Rp} {s : St} {w w' : World} (h1 : RfI w' R s) (h2 : w.grownBy w' (some R.br)) : (Ending.returned (.tuple #[]) = Ending.returned (.tuple #[])) ∧ RfI w' R s ∧ w.grownBy w' (some R.br) := ⟨rfl, h1, h2⟩
theorem gr_drew {w : World} {b : Option Nat} : w.grownBy w.drew b := gr_below (below_drewN (Below.refl _ _) 1)
theorem rf_failed {R : Rp} {s : St} {w W : World} {n : Int} (h : RfI w R s) (hg : s.good = true) (hb : Below w.heap.size w W) (hn : n = lineAt R.ts s.toks) :
    (Ending.returned (.tuple #[]) = Ending.returned (.tuple #[])) ∧ RfI (W.setCell ⟨R.br, 2, none⟩ (.int .i64 n)) R (Pz.fail R.ts s) ∧ w.grownBy (W.setCell ⟨R.br, 2, none⟩ (.int .i64 n)) (some R.br) :=
  ⟨rfl, (h.below hb).fail hg hn, grow_tr (gr_below hb) (setCell_grown _ _ _)⟩
set_option maxRecDepth 100000 in
set_option maxHeartbeats 1000000 in
theorem fail_any (R : Rp) (s : St) (w : World) (hI : RfI w R s) :
    Calls Tryz.prog 45 #[.pointer (some ⟨R.br, 0, none⟩)] w fun e w' => e = .returned (.tuple #[]) ∧ RfI w' R (Pz.fail R.ts s) ∧ w.grownBy w' (some R.br) := by
  obtain ⟨pos, bad, ⟨hp, hp2, hl, hlt, hbr⟩, HS, ⟨hbad0, hbad1⟩, c0, c1, c2, f1, f2⟩ := hI.open
  have HI := Lib.hid hI
  clear hI
  cases s with
  | bad n =>
    obtain ⟨rfl, hn1, hn2⟩ := HS.out
    clear HS
    go_enter Tryz.func45, Tryz.ntmps45
    have hb : decide ((0 : Int) < bad) = true := decide_eq_true (by omega)
    go_wp2_with fail
    exact bodyPost_ret (v := .tuple #[]) (by simp [results, Tryz.results45, go_sem]) rfl ⟨rfl, HI.out, grow_rf _⟩
  | go r =>
    obtain ⟨rfl, hd⟩ := HS.out
    have HD := Lib.hid hd
    clear HS hd hbad0 hbad1
    by_cases hr : R.ts.length ≤ pos
    · have HR : Hid (r = []) := Lib.hid (by rw [← HD.out]; exact List.drop_eq_nil_iff.2 hr)
      have hq : decide (pos < R.ts.length) = false := by rw [decide_eq_false_iff_not]; omega
      by_cases h0 : R.ts.length = 0
      · have HL : Hid ((1 : Int) = lineAt R.ts r) := Lib.hid (by
          have e : R.ts = [] := List.length_eq_zero_iff.1 h0
          rw [HR.out, e]; simp [lineAt])
        rw [h0] at c0 hq
        clear h0 hr
        go_enter Tryz.func45, Tryz.ntmps45
        go_upto_region 2 with fail
        go_quiet (fail)
        go_wp2_with fail
        exact bodyPost_end (v := .tuple #[]) (by simp [results, Tryz.results45, go_sem]) rfl (rf_failed HI.out rfl (below_drewN (Below.refl _ _) _) HL.out)
      · obtain ⟨n, hn⟩ : ∃ n, R.ts.length = n + 1 := ⟨R.ts.length - 1, by omega⟩
        obtain ⟨t, ht, hlast⟩ := last_at hn
        have HL : Hid ((t.line : Int) = lineAt R.ts r) := Lib.hid (by rw [HR.out]; simp [lineAt, hlast])
        have hT' := HI.out.tok.drop n
        rw [Nat.zero_add] at hT'
        obtain ⟨b, off, hao, hb, e0, e1, e2⟩ := tk_at ht hT'
        rw [hao] at c0
        have h0' : decide (0 < R.ts.length) = true := by rw [decide_eq_true_iff]; omega
        have hw : IntKind.i64.wrap ((R.ts.length : Int) - 1) = (n : Int) := by rw [hn]; rw [show ((n + 1 : Nat) : Int) - 1 = (n : Int) by omega]; exact IntWalk.i64_in _ (by omega)
        have hb0 : (0 : Int) ≤ (n : Int) := by omega
        have hb1 : (n : Int) < (R.ts.length : Int) := by omega
        clear hT' ht hlast hao e0 e1 hr h0
        have HN := Lib.hid hn
        have HBB : Hid (b < w.heap.size) := Lib.hid (by omega)
        clear hn hb
        go_enter Tryz.func45, Tryz.ntmps45
        go_upto_region 2 with fail
        go_quiet (fail)
        generalize hW : World.drewN w _ = W1
        have HB : Hid (Below w.heap.size w W1) := Lib.hid (by rw [← hW]; exact below_drewN (Below.refl _ _) _)
        clear hW
        have c0 := (HB.out.cell (p := ⟨R.br, 0, none⟩) hlt).trans c0
        have c1 := (HB.out.cell (p := ⟨R.br, 1, none⟩) hlt).trans c1
        have c2 := (HB.out.cell (p := ⟨R.br, 2, none⟩) hlt).trans c2
        have f2 := (HB.out.frozen (p := ⟨R.br, 2, none⟩) hlt).trans f2
        have e2 := (HB.out.cell (p := ⟨b, off + n * 3 + 2, none⟩) HBB.out).trans e2
        go_upto_region 5 with fail
        go_still_tail 14, (by kernel_rfl)
        change wpList _ _ _ _ _ (World.drew _)
        go_wp2_with fail
        exact bodyPost_end (v := .tuple #[]) (by simp [results, Tryz.results45, go_sem]) rfl (rf_failed HI.out rfl (below_drewN HB.out 1) HL.out)
    · obtain ⟨t, q, hr'⟩ : ∃ t q, r = t :: q := by
        cases hrs : r with
        | nil => rw [hrs] at HD; exact absurd (List.drop_eq_nil_iff.1 HD.out) hr
        | cons t q => exact ⟨t, q, rfl⟩
      have HL : Hid ((t.line : Int) = lineAt R.ts r) := Lib.hid (by rw [hr']; rfl)
      have hT' := HI.out.tok.drop pos
      rw [Nat.zero_add] at hT'
      obtain ⟨b, off, hao, hb, e0, e1, e2⟩ := tk_at (HD.out.trans hr') hT'
      rw [hao] at c0
      have hq : decide (pos < R.ts.length) = true := by rw [decide_eq_true_iff]; omega
      have hb0 : (0 : Int) ≤ (pos : Int) := by omega
      have hb1 : (pos : Int) < (R.ts.length : Int) := by omega
      have HBB : Hid (b < w.heap.size) := Lib.hid (by omega)
      clear hT' hao e0 e1 hr hr' hb
      go_enter Tryz.func45, Tryz.ntmps45
      go_upto_region 2 with fail
      go_quiet (fail)
      generalize hW : World.drewN w _ = W1
      have HB : Hid (Below w.heap.size w W1) := Lib.hid (by rw [← hW]; exact below_drewN (Below.refl _ _) _)
      clear hW
      have c0 := (HB.out.cell (p := ⟨R.br, 0, none⟩) hlt).trans c0
      have c1 := (HB.out.cell (p := ⟨R.br, 1, none⟩) hlt).trans c1
      have c2 := (HB.out.cell (p := ⟨R.br, 2, none⟩) hlt).trans c2
      have f2 := (HB.out.frozen (p := ⟨R.br, 2, none⟩) hlt).trans f2
      have e2 := (HB.out.cell (p := ⟨b, off + pos * 3 + 2, none⟩) HBB.out).trans e2
      go_upto_region 3 with fail
      go_still_tail 12, (by kernel_rfl)
      change wpList _ _ _ _ _ (World.drew _)
      go_wp2_with fail
      exact bodyPost_end (v := .tuple #[]) (by simp [results, Tryz.results45, go_sem]) rfl (rf_failed HI.out rfl (below_drewN HB.out 1) HL.out)
end Go.Proofs.YtommnhglgedflaaGreatDoor
end
section
set_option linter.unusedSimpArgs false
set_option linter.unusedVariables false
namespace Go.Proofs.YtommnhglgedflaaGreatDoor
open Go.RowKit
open Md Pz
theorem at_nil (x : List UInt8) : at' x [] = false := by simp [at', nextK]
set_option maxRecDepth 100000 in
set_option maxHeartbeats 2000000 in
theorem is_any (R : Rp) (s : St) (w : World) (x : ByteArray) {l : List UInt8} (hx : x.data.toList = l) (hI : RfI w R s) :
    Calls Tryz.prog 75 #[.pointer (some ⟨R.br, 0, none⟩), .string x] w fun e w' => e = .returned (.bool (at' l s.toks)) ∧ Below w.heap.size w w' := by
  obtain ⟨pos, bad, ⟨hp, hp2, hl, hlt, hbr⟩, HS, ⟨hbad0, hbad1⟩, c0, c1, c2, f1, f2⟩ := hI.open
  have HI := Lib.hid hI
  have HX := Lib.hid (at_spec x hx s.toks)
  clear hI hx
  cases s with
  | bad n =>
    obtain ⟨rfl, hn1, hn2⟩ := HS.out
    clear HS
    have hq : (bad == 0) = false := by rw [beq_eq_false_iff_ne]; omega
    have HA : Hid (at' l (St.bad bad).toks = false) := Lib.hid (at_nil l)
    go_enter Tryz.func75, Tryz.ntmps75
    go_upto_region 1 with fail
    go_quiet (fail)
    go_wp2_with fail
    go_ret
    exact ⟨ret_bool HA.out.symm, below_drewN (Below.refl _ _) _⟩
  | go r =>
    obtain ⟨rfl, hd⟩ := HS.out
    have HD := Lib.hid hd
    clear HS hd hbad0 hbad1
    by_cases hr : R.ts.length ≤ pos
    · have HR : Hid (at' l r = false) := Lib.hid (by rw [show r = [] by rw [← HD.out]; exact List.drop_eq_nil_iff.2 hr]; exact at_nil l)
      have hq : decide (pos < R.ts.length) = false := by rw [decide_eq_false_iff_not]; omega
      go_enter Tryz.func75, Tryz.ntmps75
      go_upto_region 1 with fail
      go_quiet (fail)
      go_wp2_with fail
      go_ret
      exact ⟨ret_bool HR.out.symm, below_drewN (Below.refl _ _) _⟩
    · obtain ⟨t, q, hr'⟩ : ∃ t q, r = t :: q := by
        cases hrs : r with
        | nil => rw [hrs] at HD; exact absurd (List.drop_eq_nil_iff.1 HD.out) hr
        | cons t q => exact ⟨t, q, rfl⟩
      have hT' := HI.out.tok.drop pos
      rw [Nat.zero_add] at hT'
      obtain ⟨b, off, hao, hb, e0, e1, e2⟩ := tk_at (HD.out.trans hr') hT'
      rw [hao] at c0
      have hq : decide (pos < R.ts.length) = true := by rw [decide_eq_true_iff]; omega
      have hb0 : (0 : Int) ≤ (pos : Int) := by omega
      have hb1 : (pos : Int) < (R.ts.length : Int) := by omega
      have HE : Hid (at' l (St.go r).toks = ((((t.kind : Int) == 3) || ((t.kind : Int) == 4)) && ((tx t.text).toList == x.toList))) := Lib.hid (by rw [HX.out, show (St.go r).toks = r from rfl, hr']; rfl)
      generalize at' l (St.go r).toks = res at *
      clear hT' hao e2 hr hr' hb HX
      generalize tx t.text = tt at *
      generalize (t.kind : Int) = kk at *
      cases ht : (tt.toList == x.toList)
      · have HE' : Hid (res = false) := Lib.hid (by rw [HE.out, ht, Bool.and_false])
        clear HE
        go_enter Tryz.func75, Tryz.ntmps75
        go_upto_region 1 with fail
        go_quiet (fail)
        go_wp2_with fail
        go_ret
        exact ⟨ret_bool HE'.out.symm, below_drewN (Below.refl _ _) _⟩
      · cases h3 : (kk == 3)
        · have HE' : Hid (res = (kk == 4)) := Lib.hid (by rw [HE.out, ht, h3, Bool.and_true, Bool.false_or])
          clear HE
          cases h4 : (kk == 4)
          all_goals
            go_enter Tryz.func75, Tryz.ntmps75
            go_upto_region 1 with fail
            go_quiet (fail)
            go_wp2_with fail
            go_ret
            exact ⟨ret_bool (HE'.out.trans h4).symm, below_drewN (Below.refl _ _) _⟩
        · have HE' : Hid (res = true) := Lib.hid (by rw [HE.out, ht, h3]; rfl)
          clear HE
          go_enter Tryz.func75, Tryz.ntmps75
          go_upto_region 1 with fail
          go_quiet (fail)
          go_wp2_with fail
          go_ret
          exact ⟨ret_bool HE'.out.symm, below_drewN (Below.refl _ _) _⟩
end Go.Proofs.YtommnhglgedflaaGreatDoor
end
section
set_option linter.unusedSimpArgs false
set_option linter.unusedVariables false
namespace Go.Proofs.YtommnhglgedflaaGreatDoor
open Go.RowKit
open Md Pz
theorem knd_spec (n : Nat) (rest : Toks) : (((nextK rest : Nat) : Int) == (n : Int)) = (nextK rest == n) := (kind_spec n rest).symm
set_option maxRecDepth 100000 in
set_option maxHeartbeats 2000000 in
theorem kind_any (R : Rp) (s : St) (w : World) (k : Int) (n : Nat) (hk : k = n) (hn : 1 ≤ n) (hI : RfI w R s) :
    Calls Tryz.prog 78 #[.pointer (some ⟨R.br, 0, none⟩), .int .i64 k] w fun e w' => e = .returned (.bool (nextK s.toks == n)) ∧ Below w.heap.size w w' := by
  obtain ⟨pos, bad, ⟨hp, hp2, hl, hlt, hbr⟩, HS, ⟨hbad0, hbad1⟩, c0, c1, c2, f1, f2⟩ := hI.open
  have HI := Lib.hid hI
  have HN0 : Hid ((0 == n) = false) := Lib.hid (by rw [beq_eq_false_iff_ne]; omega)
  have HK := Lib.hid hk
  clear hI hk
  cases s with
  | bad m =>
    obtain ⟨rfl, hn1, hn2⟩ := HS.out
    clear HS
    have hq : (bad == 0) = false := by rw [beq_eq_false_iff_ne]; omega
    have HA : Hid ((nextK (St.bad bad).toks == n) = false) := HN0
    go_enter Tryz.func78, Tryz.ntmps78
    go_upto_region 1 with fail
    go_quiet (fail)
    go_wp2_with fail
    go_ret
    exact ⟨ret_bool HA.out.symm, below_drewN (Below.refl _ _) _⟩
  | go r =>
    obtain ⟨rfl, hd⟩ := HS.out
    have HD := Lib.hid hd
    clear HS hd hbad0 hbad1
    by_cases hr : R.ts.length ≤ pos
    · have HR : Hid ((nextK (St.go r).toks == n) = false) := Lib.hid (by rw [show r = [] by rw [← HD.out]; exact List.drop_eq_nil_iff.2 hr]; exact HN0.out)
      have hq : decide (pos < R.ts.length) = false := by rw [decide_eq_false_iff_not]; omega
      go_enter Tryz.func78, Tryz.ntmps78
      go_upto_region 1 with fail
      go_quiet (fail)
      go_wp2_with fail
      go_ret
      exact ⟨ret_bool HR.out.symm, below_drewN (Below.refl _ _) _⟩
    · obtain ⟨t, q, hr'⟩ : ∃ t q, r = t :: q := by
        cases hrs : r with
        | nil => rw [hrs] at HD; exact absurd (List.drop_eq_nil_iff.1 HD.out) hr
        | cons t q => exact ⟨t, q, rfl⟩
      have hT' := HI.out.tok.drop pos
      rw [Nat.zero_add] at hT'
      obtain ⟨b, off, hao, hb, e0, e1, e2⟩ := tk_at (HD.out.trans hr') hT'
      rw [hao] at c0
      have hq : decide (pos < R.ts.length) = true := by rw [decide_eq_true_iff]; omega
      have hb0 : (0 : Int) ≤ (pos : Int) := by omega
      have hb1 : (pos : Int) < (R.ts.length : Int) := by omega
      have HE : Hid ((nextK (St.go r).toks == n) = ((t.kind : Int) == k)) := Lib.hid (by rw [HK.out, show (St.go r).toks = r from rfl, hr']; exact kind_spec n (t :: q))
      generalize (nextK (St.go r).toks == n) = res at *
      clear hT' hao e1 e2 hr hr' hb
      generalize (t.kind : Int) = kk at *
      cases h3 : (kk == k)
      all_goals
        go_enter Tryz.func78, Tryz.ntmps78
        go_upto_region 1 with fail
        go_quiet (fail)
        go_wp2_with fail
        go_ret
        exact ⟨ret_bool (HE.out.trans h3).symm, below_drewN (Below.refl _ _) _⟩
theorem wantS_yes {ts : Toks} {l : List UInt8} {s : St} (h : at' l s.toks = true) : wantS ts l s = s.adv := by unfold wantS; rw [if_pos h]
theorem wantS_not {ts : Toks} {l : List UInt8} {s : St} (h : at' l s.toks = false) : wantS ts l s = Pz.fail ts s := by unfold wantS; rw [if_neg (by rw [h]; decide)]
theorem toks_ne {s : St} {l : List UInt8} (h : at' l s.toks = true) : s.toks ≠ [] := by
  obtain ⟨t, r, e⟩ := at_pos h
  rw [e]; exact List.cons_ne_nil _ _
set_option maxRecDepth 100000 in
set_option maxHeartbeats 1000000 in
theorem want_any (R : Rp) (s : St) (w : World) (x : ByteArray) {l : List UInt8} (hx : x.data.toList = l) (hI : RfI w R s) :
    Calls Tryz.prog 80 #[.pointer (some ⟨R.br, 0, none⟩), .string x] w fun e w' => e = .returned (.tuple #[]) ∧ RfI w' R (wantS R.ts l s) ∧ w.grownBy w' (some R.br) := by
  have HIS := Lib.hid (is_any R s w x hx hI)
  have HI := Lib.hid hI
  clear hI hx
  cases h : at' l s.toks
  · rw [h] at HIS
    rw [wantS_not h]
    go_enter Tryz.func80, Tryz.ntmps80
    go_wp2_with fail
    refine HIS.out.mono ?_
    rintro e w1 ⟨rfl, hb⟩
    have HB := Lib.hid hb
    clear hb
    go_wp2_with fail
    refine (fail_any R s _ (HI.out.below HB.out)).mono ?_
    rintro e w2 ⟨rfl, h1, h2⟩
    go_wp2_with fail
    exact bodyPost_ret (v := .tuple #[]) (by simp [results, Tryz.results80, go_sem]) rfl ⟨rfl, h1, grow_tr (gr_below HB.out) h2⟩
  · rw [h] at HIS
    rw [wantS_yes h]
    have HNE := Lib.hid (toks_ne h)
    go_enter Tryz.func80, Tryz.ntmps80
    go_wp2_with fail
    refine HIS.out.mono ?_
    rintro e w1 ⟨rfl, hb⟩
    have HB := Lib.hid hb
    have HI1 := Lib.hid (HI.out.below hb)
    obtain ⟨pos, bad, ⟨hp, hp2, hl, hlt, hbr⟩, HS, ⟨hbad0, hbad1⟩, c0, c1, c2, f1, f2⟩ := HI1.out.open
    have HC := Lib.hid c1
    clear hb
    go_wp2_with fail
    exact bodyPost_end (v := .tuple #[]) (by simp [results, Tryz.results80, go_sem]) rfl ⟨rfl, HI1.out.adv HC.out HNE.out, grow_tr (gr_below HB.out) (setCell_grown _ _ _)⟩
/-- The next token, in memory. -/
theorem RfI.head {w : World} {R : Rp} {s : St} (h : RfI w R s) {pos : Nat} (hp : w.cell? ⟨R.br, 1, none⟩ = some (.int .i64 (pos : Int))) (hne : s.toks ≠ []) :
    pos < R.ts.length ∧ ∃ b off, R.ao = some ⟨b, off, none⟩ ∧ b < R.B0 ∧ w.cell? ⟨b, off + pos * 3, none⟩ = some (.int .i64 ((nextK s.toks : Nat) : Int)) ∧ w.cell? ⟨b, off + pos * 3 + 1, none⟩ = some (.string (tx (nextT s.toks))) ∧ w.cell? ⟨b, off + pos * 3 + 2, none⟩ = some (.int .i64 ((nextL s.toks : Nat) : Int)) := by
  obtain ⟨pos', bad, h1, h2, h3⟩ := h.blk
  have e : pos' = pos := by
    have := cellb (j := 1) h3 rfl
    rw [hp] at this
    injection this with this; injection this with _ this; omega
  subst e
  cases s with
  | bad n => exact absurd rfl hne
  | go r =>
    obtain ⟨-, hd⟩ := h2
    cases r with
    | nil => exact absurd rfl hne
    | cons t q =>
      have hlt : pos' < R.ts.length := by
        have := congrArg List.length hd; simp at this; omega
      have hT := h.tok.drop pos'
      rw [Nat.zero_add] at hT
      obtain ⟨b, off, hao, hb, e0, e1, e2⟩ := tk_at hd hT
      exact ⟨hlt, b, off, hao, hb, e0, e1, e2⟩
theorem nameS_yes {ts : Toks} {s : St} (h : isName s.toks = true) : nameS ts s = (tx (nextT s.toks), s.adv) := by unfold nameS; rw [if_pos h]
theorem nameS_not {ts : Toks} {s : St} (h : isName s.toks = false) : nameS ts s = (⟨#[]⟩, Pz.fail ts s) := by unfold nameS; rw [if_neg (by rw [h]; decide)]
theorem kne {s : St} {k : Nat} (hk : 1 ≤ k) (h : (nextK s.toks == k) = true) : s.toks ≠ [] := by
  intro e; rw [e] at h
  have h : (0 == k) = true := h
  rw [beq_iff_eq] at h; omega
/-- A name is read. -/
def NmR (R : Rp) (w : World) (q : ByteArray × St) (e : Ending) (w' : World) : Prop := e = .returned (.string q.1) ∧ RfI w' R q.2 ∧ w.grownBy w' (some R.br)
set_option maxRecDepth 100000 in
set_option maxHeartbeats 1000000 in
theorem rname_any (R : Rp) (s : St) (w : World) (hI : RfI w R s) :
    Calls Tryz.prog 77 #[.pointer (some ⟨R.br, 0, none⟩)] w (NmR R w (nameS R.ts s)) := by
  have HK := Lib.hid (kind_any R s w 1 1 rfl (Nat.le_refl _) hI)
  have HI := Lib.hid hI
  clear hI
  cases h : (nextK s.toks == 1)
  · rw [h] at HK
    rw [nameS_not h]
    go_enter Tryz.func77, Tryz.ntmps77
    go_wp2_with fail
    refine HK.out.mono ?_
    rintro e w1 ⟨rfl, hb⟩
    have HB := Lib.hid hb
    clear hb
    go_wp2_with fail
    refine (fail_any R s _ (HI.out.below HB.out)).mono ?_
    rintro e w2 ⟨rfl, h1, h2⟩
    go_wp2_with fail
    go_ret
    exact ⟨rfl, h1, grow_tr (gr_below HB.out) h2⟩
  · rw [h] at HK
    rw [nameS_yes h]
    have HNE := Lib.hid (kne (Nat.le_refl _) h)
    go_enter Tryz.func77, Tryz.ntmps77
    go_wp2_with fail
    refine HK.out.mono ?_
    rintro e w1 ⟨rfl, hb⟩
    have HB := Lib.hid hb
    have HI1 := Lib.hid (HI.out.below hb)
    obtain ⟨pos, bad, ⟨hp, hp2, hl, hlt, hbr⟩, HS, ⟨hbad0, hbad1⟩, c0, c1, c2, f1, f2⟩ := HI1.out.open
    have HC := Lib.hid c1
    obtain ⟨hpl, b, off, hao, hbb, e0, e1, e2⟩ := HI1.out.head c1 HNE.out
    have HA := Lib.hid (HI1.out.adv c1 HNE.out)
    clear hb c2 f2 e0 e2
    go_upto_region 5 with fail
    generalize hW : World.setCell w1 _ _ = W2
    rw [hW] at HA
    have d0 : W2.cell? ⟨R.br, 0, none⟩ = some (.slice (some ⟨b, off, none⟩) R.ts.length R.cap) := by
      obtain ⟨_, _, _, h3⟩ := HA.out.blk
      rw [← hao]; exact cellb h3.2 rfl
    have d1 : W2.cell? ⟨R.br, 1, none⟩ = some (.int .i64 ((pos : Int) + 1)) := by
      obtain ⟨p2, b2, -, -, h3⟩ := HI1.out.blk
      rw [← hW]; exact cellb (setCell_blk h3 _) rfl
    have d2 : W2.cell? ⟨b, off + pos * 3 + 1, none⟩ = some (.string (tx (nextT s.toks))) := by
      rw [← hW]; exact (World.cell?_of_block (a := ⟨b, _, none⟩) (setCell_far w1 ⟨R.br, 1, none⟩ _ rfl (by show R.br ≠ b; omega))).trans e1
    have HG : Hid (w.grownBy W2 (some R.br)) := Lib.hid (by rw [← hW]; exact grow_tr (gr_below HB.out) (setCell_grown _ _ _))
    have hw : IntKind.i64.wrap ((pos : Int) + 1 - 1) = (pos : Int) := by rw [show (pos : Int) + 1 - 1 = (pos : Int) by omega]; exact IntWalk.i64_in _ (by omega)
    have hb0 : (0 : Int) ≤ (pos : Int) := by omega
    have hb1 : (pos : Int) < (R.ts.length : Int) := by omega
    clear hW c0 c1 f1 e1
    go_quiet (fail)
    go_wp2_with fail
    go_ret
    exact ⟨rfl, HA.out.below (below_drewN (Below.refl _ _) _), grow_tr HG.out (gr_below (below_drewN (Below.refl _ _) _))⟩
end Go.Proofs.YtommnhglgedflaaGreatDoor
end
section
set_option linter.unusedSimpArgs false
set_option linter.unusedVariables false
namespace Go.Proofs.YtommnhglgedflaaGreatDoor
open Go.RowKit
open Md Pz
theorem numS_yes {ts : Toks} {s : St} (h : isNum s.toks = true) : numS ts s = (((Tk.val (nextT s.toks) : Nat) : Int), s.adv) := by unfold numS; rw [if_pos h]
theorem numS_not {ts : Toks} {s : St} (h : isNum s.toks = false) : numS ts s = (0, Pz.fail ts s) := by unfold numS; rw [if_neg (by rw [h]; decide)]
theorem numV_tok {l : List UInt8} (h : (l.isEmpty = false ∧ l.all Tk.isD = true) ∧ Tk.numOk l = true) : numV l = (Tk.val l, true) := by
  unfold numV; rw [h.1.2, h.2, h.1.1]; rfl
/-- The value of the next token's digits. -/
theorem Number_tok {w0 : World} {R : Rp} {s : St} (h : isNum s.toks = true) (hI : RfI w0 R s) (w : World) :
    Calls Tryz.prog 73 #[.string (tx (nextT s.toks))] w fun e w' => e = .returned (.tuple #[.int .i64 ((Tk.val (nextT s.toks) : Nat) : Int), .bool true]) ∧ w = w' := by
  have hsz : (tx (nextT s.toks)).size ≤ maxLen := by
    obtain ⟨t, r, hr⟩ : ∃ t r, s.toks = t :: r := by
      cases hs : s.toks with
      | nil => rw [hs] at h; exact absurd h (by simp [isNum, nextK])
      | cons t r => exact ⟨t, r, rfl⟩
    have := (hI.tsl t (by rw [hr]; simp)).2.2.2
    rw [hr]; show t.text.toArray.size ≤ _
    unfold maxLen; simp; omega
  have hN := Number_any (tx (nextT s.toks)) w hsz
  rw [show (tx (nextT s.toks)).data.toList = nextT s.toks from by simp [tx], numV_tok (ts_num hI.ts h)] at hN
  exact hN
def NuR (R : Rp) (w : World) (q : Int × St) (e : Ending) (w' : World) : Prop := e = .returned (.int .i64 q.1) ∧ RfI w' R q.2 ∧ w.grownBy w' (some R.br)
set_option maxRecDepth 100000 in
set_option maxHeartbeats 1000000 in
theorem rnum_any (R : Rp) (s : St) (w : World) (hI : RfI w R s) :
    Calls Tryz.prog 79 #[.pointer (some ⟨R.br, 0, none⟩)] w (NuR R w (numS R.ts s)) := by
  have HK := Lib.hid (kind_any R s w 2 2 rfl (by decide) hI)
  have HI := Lib.hid hI
  cases h : (nextK s.toks == 2)
  · clear hI
    rw [h] at HK
    rw [numS_not h]
    go_enter Tryz.func79, Tryz.ntmps79
    go_wp2_with fail
    refine HK.out.mono ?_
    rintro e w1 ⟨rfl, hb⟩
    have HB := Lib.hid hb
    clear hb
    go_wp2_with fail
    refine (fail_any R s _ (HI.out.below HB.out)).mono ?_
    rintro e w2 ⟨rfl, h1, h2⟩
    go_wp2_with fail
    go_ret
    exact ⟨rfl, h1, grow_tr (gr_below HB.out) h2⟩
  · have HNB := Lib.hid (fun w => Number_tok h hI w)
    clear hI
    rw [h] at HK
    rw [numS_yes h]
    have HNE := Lib.hid (kne (by decide) h)
    generalize ((Tk.val (nextT s.toks) : Nat) : Int) = vv at *
    go_enter Tryz.func79, Tryz.ntmps79
    go_wp2_with fail
    refine HK.out.mono ?_
    rintro e w1 ⟨rfl, hb⟩
    have HB := Lib.hid hb
    have HI1 := Lib.hid (HI.out.below hb)
    obtain ⟨pos, bad, ⟨hp, hp2, hl, hlt, hbr⟩, HS, ⟨hbad0, hbad1⟩, c0, c1, c2, f1, f2⟩ := HI1.out.open
    have HC := Lib.hid c1
    obtain ⟨hpl, b, off, hao, hbb, e0, e1, e2⟩ := HI1.out.head c1 HNE.out
    have HA := Lib.hid (HI1.out.adv c1 HNE.out)
    clear hb c2 f2 e0 e2
    go_upto_region 5 with fail
    generalize hW : World.setCell w1 _ _ = W2
    rw [hW] at HA
    have d0 : W2.cell? ⟨R.br, 0, none⟩ = some (.slice (some ⟨b, off, none⟩) R.ts.length R.cap) := by
      obtain ⟨_, _, _, h3⟩ := HA.out.blk
      rw [← hao]; exact cellb h3.2 rfl
    have d1 : W2.cell? ⟨R.br, 1, none⟩ = some (.int .i64 ((pos : Int) + 1)) := by
      obtain ⟨p2, b2, -, -, h3⟩ := HI1.out.blk
      rw [← hW]; exact cellb (setCell_blk h3 _) rfl
    have d2 : W2.cell? ⟨b, off + pos * 3 + 1, none⟩ = some (.string (tx (nextT s.toks))) := by
      rw [← hW]; exact (World.cell?_of_block (a := ⟨b, _, none⟩) (setCell_far w1 ⟨R.br, 1, none⟩ _ rfl (by show R.br ≠ b; omega))).trans e1
    have HG : Hid (w.grownBy W2 (some R.br)) := Lib.hid (by rw [← hW]; exact grow_tr (gr_below HB.out) (setCell_grown _ _ _))
    have hw : IntKind.i64.wrap ((pos : Int) + 1 - 1) = (pos : Int) := by rw [show (pos : Int) + 1 - 1 = (pos : Int) by omega]; exact IntWalk.i64_in _ (by omega)
    have hb0 : (0 : Int) ≤ (pos : Int) := by omega
    have hb1 : (pos : Int) < (R.ts.length : Int) := by omega
    clear hW c0 c1 f1 e1
    go_quiet (first | (go_at_call 73; refine quiet_eq (HNB.out _)))
    go_wp2_with fail
    go_ret
    exact ⟨rfl, HA.out.below (below_drewN (Below.refl _ _) _), grow_tr HG.out (gr_below (below_drewN (Below.refl _ _) _))⟩
set_option maxRecDepth 100000 in
set_option maxHeartbeats 1000000 in
theorem rline_any (R : Rp) (s : St) (w : World) (hI : RfI w R s) :
    Calls Tryz.prog 76 #[.pointer (some ⟨R.br, 0, none⟩)] w fun e w' => e = .returned (.int .i64 ((nextL s.toks : Nat) : Int)) ∧ Below w.heap.size w w' := by
  obtain ⟨pos, bad, ⟨hp, hp2, hl, hlt, hbr⟩, HS, ⟨hbad0, hbad1⟩, c0, c1, c2, f1, f2⟩ := hI.open
  have HI := Lib.hid hI
  clear hI
  cases s with
  | bad m =>
    obtain ⟨rfl, hn1, hn2⟩ := HS.out
    clear HS
    have hq : decide ((0 : Int) < bad) = true := decide_eq_true (by omega)
    go_enter Tryz.func76, Tryz.ntmps76
    go_upto_region 1 with fail
    go_quiet (fail)
    go_wp2_with fail
    go_ret
    exact ⟨rfl, below_drewN (Below.refl _ _) _⟩
  | go r =>
    obtain ⟨rfl, hd⟩ := HS.out
    have HD := Lib.hid hd
    clear HS hd hbad0 hbad1
    by_cases hr : R.ts.length ≤ pos
    · have HR : Hid ((0 : Int) = ((nextL (St.go r).toks : Nat) : Int)) := Lib.hid (by rw [show r = [] by rw [← HD.out]; exact List.drop_eq_nil_iff.2 hr]; rfl)
      have hq : decide (R.ts.length ≤ pos) = true := by rw [decide_eq_true_iff]; omega
      go_enter Tryz.func76, Tryz.ntmps76
      go_upto_region 1 with fail
      go_quiet (fail)
      go_wp2_with fail
      go_ret
      exact ⟨ret_i HR.out, below_drewN (Below.refl _ _) _⟩
    · have hne : (St.go r).toks ≠ [] := by
        intro e
        have e : r = [] := e
        rw [e] at HD; exact absurd (List.drop_eq_nil_iff.1 HD.out) hr
      obtain ⟨hpl, b, off, hao, hbb, e0, e1, e2⟩ := HI.out.head c1 hne
      rw [hao] at c0
      have hq : decide (R.ts.length ≤ pos) = false := by rw [decide_eq_false_iff_not]; omega
      have hb0 : (0 : Int) ≤ (pos : Int) := by omega
      have hb1 : (pos : Int) < (R.ts.length : Int) := by omega
      have HBB : Hid (b < w.heap.size) := Lib.hid (by omega)
      generalize ((nextL (St.go r).toks : Nat) : Int) = ll at *
      clear hao e0 e1 hr hne
      go_enter Tryz.func76, Tryz.ntmps76
      go_upto_region 1 with fail
      go_quiet (fail)
      generalize hW : World.drewN w _ = W1
      have HB : Hid (Below w.heap.size w W1) := Lib.hid (by rw [← hW]; exact below_drewN (Below.refl _ _) _)
      clear hW
      have c0 := (HB.out.cell (p := ⟨R.br, 0, none⟩) hlt).trans c0
      have c1 := (HB.out.cell (p := ⟨R.br, 1, none⟩) hlt).trans c1
      have e2 := (HB.out.cell (p := ⟨b, off + pos * 3 + 2, none⟩) HBB.out).trans e2
      go_upto_region 3 with fail
      go_quiet (fail)
      go_wp2_with fail
      go_ret
      exact ⟨rfl, below_drewN HB.out _⟩
end Go.Proofs.YtommnhglgedflaaGreatDoor
end
section
set_option linter.unusedSimpArgs false
set_option linter.unusedVariables false
namespace Go.Proofs.YtommnhglgedflaaGreatDoor
open Go.RowKit
open Md Pz
def bnX : Array Value := (bnS.map fun x => Value.string (tx x.1)).toArray
def bnO : Array Value := (bnS.map fun x => Value.int .i64 x.2.1).toArray
def bnL : Array Value := (bnS.map fun x => Value.int .i64 x.2.2).toArray
theorem bn_len : bnS.length = 13 := rfl
/-- The three tables, in memory. -/
def BnAt (w : World) (g : Nat) : Prop := w.heap[g]? = some (.cells bnX 9 (0, 0)) ∧ w.heap[g + 1]? = some (.cells bnO 3 (0, 0)) ∧ w.heap[g + 1 + 1]? = some (.cells bnL 3 (0, 0))
theorem BnAt.below {w w' : World} {g : Nat} (h : BnAt w g) (hb : Below w.heap.size w w') : BnAt w' g := by
  obtain ⟨h1, h2, h3⟩ := h
  exact ⟨(hb.block _ (Array.getElem?_eq_some_iff.1 h1).1).trans h1, (hb.block _ (Array.getElem?_eq_some_iff.1 h2).1).trans h2, (hb.block _ (Array.getElem?_eq_some_iff.1 h3).1).trans h3⟩
theorem drop_cons {α : Type} {l : List α} {k : Nat} {x : α} {r : List α} (h : l.drop k = x :: r) : l[k]? = some x ∧ l.drop (k + 1) = r := by
  constructor
  · have := congrArg (·[0]?) h; simpa using this
  · rw [← List.drop_drop, h]; rfl
theorem BnAt.cells {w : World} {g k : Nat} {x : List UInt8 × Int × Int} (h : BnAt w g) (hx : bnS[k]? = some x) :
    w.cell? ⟨g, k, none⟩ = some (.string (tx x.1)) ∧ w.cell? ⟨g + 1, k, none⟩ = some (.int .i64 x.2.1) ∧ w.cell? ⟨g + 1 + 1, k, none⟩ = some (.int .i64 x.2.2) :=
  ⟨cellb h.1 (by simp [bnX, hx]), cellb h.2.1 (by simp [bnO, hx]), cellb h.2.2 (by simp [bnL, hx])⟩
set_option maxRecDepth 100000 in
set_option maxHeartbeats 2000000 in
theorem rbinary_any (R : Rp) (s : St) (w : World) (lv : Int) (hI : RfI w R s) :
    Calls Tryz.prog 84 #[.pointer (some ⟨R.br, 0, none⟩), .int .i64 lv] w fun e w' => e = .returned (.int .i64 (opAt lv s.toks)) ∧ Below w.heap.size w w' := by
  have HE := Lib.hid (bnF_eq lv hI.ts)
  have HI := Lib.hid hI
  clear hI
  generalize opAt lv s.toks = spec at *
  go_enter Tryz.func84, Tryz.ntmps84
  go_upto_region 4 with fail
  generalize hW : World.alloc (World.alloc (World.alloc w _) _) _ = W
  have HB : Hid (Below w.heap.size w W) := Lib.hid (by rw [← hW]; exact ((alloc_below w _).alloc (by simp) _).alloc (by simp <;> omega) _)
  have HT : Hid (BnAt W w.heap.size) := Lib.hid (by
    rw [← hW]
    refine ⟨?_, ?_, ?_⟩
    · rw [heap_alloc_old _ _ (by simp <;> omega), heap_alloc_old _ _ (by simp <;> omega)]; exact heap_alloc_new _ _
    · rw [heap_alloc_old _ _ (by simp <;> omega)]
      have := heap_alloc_new (w.alloc (.cells bnX 9)) (.cells bnO 3)
      rw [show (w.alloc (.cells bnX 9)).heap.size = w.heap.size + 1 by simp] at this; exact this
    · have := heap_alloc_new ((w.alloc (.cells bnX 9)).alloc (.cells bnO 3)) (.cells bnL 3)
      rw [show ((w.alloc (.cells bnX 9)).alloc (.cells bnO 3)).heap.size = w.heap.size + 1 + 1 by simp] at this; exact this)
  clear hW
  go_wp2_with fail
  go_loopw [8] (fun i wr => ∃ (k : Nat) (r : List (List UInt8 × Int × Int)), i = .int .i64 (k : Nat) ∧ k + r.length = 13 ∧ bnS.drop k = r ∧ spec = bnF lv s.toks r ∧ BnAt wr w.heap.size ∧ Below w.heap.size w wr) (fun i _ => 13 - (intOf i).toNat)
  case atStart => exact ⟨0, bnS, rfl, rfl, rfl, HE.out.symm, HT.out, HB.out⟩
  case round =>
    obtain ⟨k, r, rfl, hlen, hdr, hsp, hat, hbl⟩ := hrel
    have HS := Lib.hid hsp
    have HD := Lib.hid hdr
    have HA := Lib.hid hat
    have HL := Lib.hid hbl
    clear hsp hdr hat hbl HB HT HE
    cases r with
    | nil =>
      obtain rfl : k = 13 := by simpa using hlen
      go_wp2_with fail
      go_ret
      exact ⟨ret_i HS.out.symm, HL.out⟩
    | cons x r =>
      obtain ⟨hx, hdr⟩ := drop_cons HD.out
      obtain ⟨y0, y1, y2⟩ := HA.out.cells hx
      have HD2 := Lib.hid hdr
      have hk : k < 13 := by simp only [List.length_cons] at hlen; omega
      have hb0 : (0 : Int) ≤ (k : Int) := by omega
      have hb1 : (k : Int) < 13 := by omega
      have HI1 := Lib.hid (HI.out.below HL.out)
      clear hx hdr HD
      cases h1 : (x.2.2 == lv)
      · have HS2 : Hid (spec = bnF lv s.toks r) := Lib.hid (by
          rw [HS.out]; conv => lhs; unfold bnF
          rw [h1, Bool.false_and, if_neg (by decide)])
        go_wp2_with fail
        go_roundw
        case rel => exact ⟨k + 1, r, by go_num, by simp only [List.length_cons] at hlen; omega, HD2.out, HS2.out, HA.out, HL.out⟩
        case measure => simp [intOf]; omega
      · have HIS := Lib.hid (is_any R s wr (tx x.1) (l := x.1) (by simp [tx]) HI1.out)
        have HS1 : Hid (spec = if at' x.1 s.toks then x.2.1 else bnF lv s.toks r) := Lib.hid (by
          rw [HS.out]; conv => lhs; unfold bnF
          rw [h1, Bool.true_and])
        cases h2 : at' x.1 s.toks
        · rw [h2] at HIS HS1
          have HS2 : Hid (spec = bnF lv s.toks r) := Lib.hid (HS1.out.trans (if_neg (by decide)))
          clear h2 HS1 HS
          go_wp2_with fail
          refine HIS.out.mono ?_
          rintro e w2 ⟨rfl, hb⟩
          have HL2 := Lib.hid (HL.out.trans (hb.mono HL.out.size))
          have HA2 := Lib.hid (HA.out.below hb)
          clear hb y0 y1 y2
          go_wp2_with fail
          go_roundw
          case rel => exact ⟨k + 1, r, by go_num, by simp only [List.length_cons] at hlen; omega, HD2.out, HS2.out, HA2.out, HL2.out⟩
          case measure => simp [intOf]; omega
        · rw [h2] at HIS HS1
          have HS2 : Hid (spec = x.2.1) := Lib.hid (HS1.out.trans (if_pos rfl))
          clear h2 HS1 HS
          go_wp2_with fail
          refine HIS.out.mono ?_
          rintro e w2 ⟨rfl, hb⟩
          have HL2 := Lib.hid (HL.out.trans (hb.mono HL.out.size))
          have HA2 := Lib.hid (HA.out.below hb)
          have y1' := (hb.cell (p := ⟨w.heap.size + 1, k, none⟩) (by have := (Array.getElem?_eq_some_iff.1 HA.out.2.1).1; exact this)).trans y1
          clear hb y0 y1 y2
          go_wp2_with fail
          go_ret
          exact ⟨ret_i HS2.out.symm, HL2.out⟩
def stWX : Array Value := (stW.map fun x => Value.string (tx x)).toArray
set_option maxRecDepth 100000 in
set_option maxHeartbeats 2000000 in
theorem rword_any (R : Rp) (s : St) (w : World) (hI : RfI w R s) :
    Calls Tryz.prog 132 #[.pointer (some ⟨R.br, 0, none⟩)] w fun e w' => e = .returned (.int .i64 (wordS s.toks)) ∧ Below w.heap.size w w' := by
  have HE := Lib.hid (word_eq hI.ts hI.tsl)
  have HI := Lib.hid hI
  clear hI
  generalize wordS s.toks = spec at *
  go_enter Tryz.func132, Tryz.ntmps132
  go_upto_region 2 with fail
  generalize hW : World.alloc w _ = W
  have HB : Hid (Below w.heap.size w W) := Lib.hid (by rw [← hW]; exact alloc_below w _)
  have HT : Hid (W.heap[w.heap.size]? = some (.cells stWX 9 (0, 0))) := Lib.hid (by rw [← hW]; exact heap_alloc_new _ _)
  clear hW
  go_wp2_with fail
  go_loopw [4] (fun i wr => ∃ (k : Nat) (r : List (List UInt8)), i = .int .i64 (k : Nat) ∧ k + r.length = 14 ∧ stW.drop k = r ∧ spec = wdF s.toks r (2 + (k : Int)) ∧ wr.heap[w.heap.size]? = some (.cells stWX 9 (0, 0)) ∧ Below w.heap.size w wr) (fun i _ => 14 - (intOf i).toNat)
  case atStart => exact ⟨0, stW, rfl, rfl, rfl, HE.out.symm, HT.out, HB.out⟩
  case round =>
    obtain ⟨k, r, rfl, hlen, hdr, hsp, hat, hbl⟩ := hrel
    have HS := Lib.hid hsp
    have HD := Lib.hid hdr
    have HA := Lib.hid hat
    have HL := Lib.hid hbl
    clear hsp hdr hat hbl HB HT HE
    cases r with
    | nil =>
      obtain rfl : k = 14 := by simpa using hlen
      go_wp2_with fail
      go_ret
      exact ⟨ret_i HS.out.symm, HL.out⟩
    | cons x r =>
      obtain ⟨hx, hdr⟩ := drop_cons HD.out
      have y0 : wr.cell? ⟨w.heap.size, k, none⟩ = some (.string (tx x)) := cellb HA.out (by simp [stWX, hx])
      have HD2 := Lib.hid hdr
      have hk : k < 14 := by simp only [List.length_cons] at hlen; omega
      have hb0 : (0 : Int) ≤ (k : Int) := by omega
      have hb1 : (k : Int) < 14 := by omega
      have HI1 := Lib.hid (HI.out.below HL.out)
      have HIS := Lib.hid (is_any R s wr (tx x) (l := x) (by simp [tx]) HI1.out)
      have HS1 : Hid (spec = if at' x s.toks then 2 + (k : Int) else wdF s.toks r (2 + (k : Int) + 1)) := Lib.hid (by
        rw [HS.out]; conv => lhs; unfold wdF)
      clear hx hdr HD HS
      cases h2 : at' x s.toks
      · rw [h2] at HIS HS1
        have HS2 : Hid (spec = wdF s.toks r (2 + (k : Int) + 1)) := Lib.hid (HS1.out.trans (if_neg (by decide)))
        clear h2 HS1
        go_wp2_with fail
        refine HIS.out.mono ?_
        rintro e w2 ⟨rfl, hb⟩
        have HL2 := Lib.hid (HL.out.trans (hb.mono HL.out.size))
        have HA2 := Lib.hid ((hb.block _ (Array.getElem?_eq_some_iff.1 HA.out).1).trans HA.out)
        clear hb y0
        go_wp2_with fail
        go_roundw
        case rel => exact ⟨k + 1, r, by go_num, by simp only [List.length_cons] at hlen; omega, HD2.out, by rw [HS2.out]; congr 1, HA2.out, HL2.out⟩
        case measure => simp [intOf]; omega
      · rw [h2] at HIS HS1
        have HS2 : Hid (spec = 2 + (k : Int)) := Lib.hid (HS1.out.trans (if_pos rfl))
        clear h2 HS1
        go_wp2_with fail
        refine HIS.out.mono ?_
        rintro e w2 ⟨rfl, hb⟩
        have HL2 := Lib.hid (HL.out.trans (hb.mono HL.out.size))
        clear hb y0
        go_wp2_with fail
        go_ret
        exact ⟨ret_i (by rw [HS2.out]; omega), HL2.out⟩
theorem isDecl_wd {r : Toks} (h : ∀ t ∈ r, TOk t) (hl : TsL r) : isDecl r = !(wdF r dcW 1 == 0) := by
  rw [decl_eq h hl]
  unfold isDecl dcS
  cases nextK r == 3
  · rfl
  · rfl
theorem isDecl_or {r : Toks} (h : ∀ t ∈ r, TOk t) (hl : TsL r) : isDecl r = (at' [118, 97, 114] r || (at' [118, 111, 108, 97, 116, 105, 108, 101] r || (at' [109, 117, 116, 101, 120] r || (at' [114, 119, 108, 111, 99, 107] r || (at' [99, 111, 110, 100] r || at' [102, 117, 116, 117, 114, 101] r))))) := by
  rw [isDecl_wd h hl]
  unfold dcW
  simp only [wdF]
  cases at' [118, 97, 114] r <;> cases at' [118, 111, 108, 97, 116, 105, 108, 101] r <;> cases at' [109, 117, 116, 101, 120] r <;> cases at' [114, 119, 108, 111, 99, 107] r <;> cases at' [99, 111, 110, 100] r <;> cases at' [102, 117, 116, 117, 114, 101] r <;> rfl
set_option maxRecDepth 100000 in
set_option maxHeartbeats 2000000 in
theorem declares_any (R : Rp) (s : St) (w : World) (hI : RfI w R s) :
    Calls Tryz.prog 40 #[.pointer (some ⟨R.br, 0, none⟩)] w fun e w' => e = .returned (.bool (isDecl s.toks)) ∧ Below w.heap.size w w' := by
  have HE := Lib.hid (isDecl_or hI.ts hI.tsl)
  have HI := Lib.hid hI
  clear hI
  generalize isDecl s.toks = spec at *
  have H1 : Hid (∀ w, RfI w R s → Calls Tryz.prog 75 #[.pointer (some ⟨R.br, 0, none⟩), .string ⟨#[118, 97, 114]⟩] w fun e w' => e = .returned (.bool (at' [118, 97, 114] s.toks)) ∧ Below w.heap.size w w') := Lib.hid (fun w h => is_any R s w _ rfl h)
  have H2 : Hid (∀ w, RfI w R s → Calls Tryz.prog 75 #[.pointer (some ⟨R.br, 0, none⟩), .string ⟨#[118, 111, 108, 97, 116, 105, 108, 101]⟩] w fun e w' => e = .returned (.bool (at' [118, 111, 108, 97, 116, 105, 108, 101] s.toks)) ∧ Below w.heap.size w w') := Lib.hid (fun w h => is_any R s w _ rfl h)
  have H3 : Hid (∀ w, RfI w R s → Calls Tryz.prog 75 #[.pointer (some ⟨R.br, 0, none⟩), .string ⟨#[109, 117, 116, 101, 120]⟩] w fun e w' => e = .returned (.bool (at' [109, 117, 116, 101, 120] s.toks)) ∧ Below w.heap.size w w') := Lib.hid (fun w h => is_any R s w _ rfl h)
  have H4 : Hid (∀ w, RfI w R s → Calls Tryz.prog 75 #[.pointer (some ⟨R.br, 0, none⟩), .string ⟨#[114, 119, 108, 111, 99, 107]⟩] w fun e w' => e = .returned (.bool (at' [114, 119, 108, 111, 99, 107] s.toks)) ∧ Below w.heap.size w w') := Lib.hid (fun w h => is_any R s w _ rfl h)
  have H5 : Hid (∀ w, RfI w R s → Calls Tryz.prog 75 #[.pointer (some ⟨R.br, 0, none⟩), .string ⟨#[99, 111, 110, 100]⟩] w fun e w' => e = .returned (.bool (at' [99, 111, 110, 100] s.toks)) ∧ Below w.heap.size w w') := Lib.hid (fun w h => is_any R s w _ rfl h)
  have H6 : Hid (∀ w, RfI w R s → Calls Tryz.prog 75 #[.pointer (some ⟨R.br, 0, none⟩), .string ⟨#[102, 117, 116, 117, 114, 101]⟩] w fun e w' => e = .returned (.bool (at' [102, 117, 116, 117, 114, 101] s.toks)) ∧ Below w.heap.size w w') := Lib.hid (fun w h => is_any R s w _ rfl h)
  generalize at' [118, 97, 114] s.toks = b1 at *
  generalize at' [118, 111, 108, 97, 116, 105, 108, 101] s.toks = b2 at *
  generalize at' [109, 117, 116, 101, 120] s.toks = b3 at *
  generalize at' [114, 119, 108, 111, 99, 107] s.toks = b4 at *
  generalize at' [99, 111, 110, 100] s.toks = b5 at *
  generalize at' [102, 117, 116, 117, 114, 101] s.toks = b6 at *
  go_enter Tryz.func40, Tryz.ntmps40
  go_wp2_with fail
  refine (H1.out _ HI.out).mono ?_
  rintro e w1 ⟨rfl, hb⟩
  have HB := Lib.hid hb
  clear hb
  cases b1
  case true =>
    go_wp2_with fail
    go_ret
    exact ⟨ret_bool HE.out.symm, HB.out⟩
  go_wp2_with fail
  refine (H2.out _ (HI.out.below HB.out)).mono ?_
  rintro e w2 ⟨rfl, hb⟩
  have HB2 := Lib.hid (HB.out.trans (hb.mono HB.out.size))
  clear hb HB
  cases b2
  case true =>
    go_wp2_with fail
    go_ret
    exact ⟨ret_bool HE.out.symm, HB2.out⟩
  go_wp2_with fail
  refine (H3.out _ (HI.out.below HB2.out)).mono ?_
  rintro e w3 ⟨rfl, hb⟩
  have HB3 := Lib.hid (HB2.out.trans (hb.mono HB2.out.size))
  clear hb HB2
  cases b3
  case true =>
    go_wp2_with fail
    go_ret
    exact ⟨ret_bool HE.out.symm, HB3.out⟩
  go_wp2_with fail
  refine (H4.out _ (HI.out.below HB3.out)).mono ?_
  rintro e w4 ⟨rfl, hb⟩
  have HB4 := Lib.hid (HB3.out.trans (hb.mono HB3.out.size))
  clear hb HB3
  cases b4
  case true =>
    go_wp2_with fail
    go_ret
    exact ⟨ret_bool HE.out.symm, HB4.out⟩
  go_wp2_with fail
  refine (H5.out _ (HI.out.below HB4.out)).mono ?_
  rintro e w5 ⟨rfl, hb⟩
  have HB5 := Lib.hid (HB4.out.trans (hb.mono HB4.out.size))
  clear hb HB4
  cases b5
  case true =>
    go_wp2_with fail
    go_ret
    exact ⟨ret_bool HE.out.symm, HB5.out⟩
  go_wp2_with fail
  refine (H6.out _ (HI.out.below HB5.out)).mono ?_
  rintro e w6 ⟨rfl, hb⟩
  have HB6 := Lib.hid (HB5.out.trans (hb.mono HB5.out.size))
  clear hb HB5
  go_wp2_with fail
  go_ret
  exact ⟨ret_bool HE.out.symm, HB6.out⟩
end Go.Proofs.YtommnhglgedflaaGreatDoor
end
