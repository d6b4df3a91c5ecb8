/-
  Contract of check.declarations.
  Contract of check.threads.
  Contract of the reference's threads.
  Contracts of check.count and of the reference's Count.
  Contract of the reference's decls.
-/
import Derived.Test.YtghdammalphmfaaDoorGD
import Derived.Test.YtghdammalphmfaaDoorGE
import Derived.Deep.CutBlock
import Derived.IntWalk
import Derived.Deep.RegionWith
section
namespace Go.Proofs.YtghdammalphmfaaDoor
open Go.RowKit
namespace Md
/-- What the names of declarations mean (0: nothing). -/
def mD (pre : List De) (l : List UInt8) : Int := ((pre.find? fun d => d.nm.toList == l).map declM).getD 0
def dc (d : De) (c : Int) : Int := if d.kind == 1 || d.kind == 2 then c + max d.size 1 else c
def dl (d : De) (l : Int) : Int := if d.kind == 3 || d.kind == 4 then l + 1 else l
def dn (d : De) (n : Int) : Int := if d.kind == 5 then n + 1 else n
def df (d : De) (f : Int) : Int := if d.kind == 6 then f + 1 else f
def lim (c l n f : Int) : Bool := ((decide (12 < c) || decide (4 < l)) || decide (2 < n)) || decide (2 < f)
/-- The first error of declarations behind others, and its line. -/
def dclS : List De → List De → Int → Int → Int → Int → Int × Int
  | [], _, _, _, _, _ => (0, 0)
  | d :: r, pre, c, l, n, f =>
    if mD pre d.nm.toList != 0 then (4, d.line)
    else if decide (4 < d.size) then (2, d.line)
    else if lim (dc d c) (dl d l) (dn d n) (df d f) then (2, d.line)
    else if d.kind == 5 && mD pre d.on.toList == 0 then (5, d.line)
    else if d.kind == 5 && mD pre d.on.toList != 4 then (6, d.line)
    else dclS r (pre ++ [d]) (dc d c) (dl d l) (dn d n) (df d f)
theorem mD_none {pre : List De} {l : List UInt8} (h : (mD pre l != 0) = false) : pre.find? (fun d => d.nm.toList == l) = none := by
  unfold mD at h
  cases hf : pre.find? (fun d => d.nm.toList == l) with
  | none => rfl
  | some d => rw [hf] at h; have := declM_range d; simp at h; omega
theorem mD_snoc {pre : List De} {d : De} (h : (mD pre d.nm.toList != 0) = false) (l : List UInt8) : (if l = d.nm.toList then declM d else mD pre l) = mD (pre ++ [d]) l := by
  unfold mD
  rw [List.find?_append]
  by_cases hl : l = d.nm.toList
  · subst hl; rw [if_pos rfl, mD_none h]; simp
  · rw [if_neg hl]
    have : (d.nm.toList == l) = false := by rw [beq_eq_false_iff_ne]; exact fun e => hl e.symm
    simp [this]
theorem declM_five (d : De) : (declM d == 6) = (d.kind == 5) := by unfold declM; grind
theorem shpD_facts {d : De} (h : shpD d = true) : 1 ≤ d.kind ∧ d.kind ≤ 6 ∧ 0 ≤ d.size ∧ (d.size = 0 ∨ d.kind = 1) := by
  unfold shpD at h; simp at h; omega
theorem dclS_cons (d : De) (r pre : List De) (c l n f : Int) : dclS (d :: r) pre c l n f = (if mD pre d.nm.toList != 0 then (4, d.line)
    else if decide (4 < d.size) then (2, d.line)
    else if lim (dc d c) (dl d l) (dn d n) (df d f) then (2, d.line)
    else if d.kind == 5 && mD pre d.on.toList == 0 then (5, d.line)
    else if d.kind == 5 && mD pre d.on.toList != 4 then (6, d.line)
    else dclS r (pre ++ [d]) (dc d c) (dl d l) (dn d n) (df d f)) := rfl
end Md
open Md
theorem MapI.congr {w : World} {b n : Nat} {f g : List UInt8 → Int} (h : MapI w b n f) (hfg : ∀ l, f l = g l) : MapI w b n g := by
  obtain ⟨D, h1, h2⟩ := h; exact ⟨D, h1, fun l => by rw [h2, hfg]⟩
theorem MapB.congr {w : World} {b n : Nat} {f g : List UInt8 → Bool} (h : MapB w b n f) (hfg : ∀ l, f l = g l) : MapB w b n g := by
  obtain ⟨D, h1, h2⟩ := h; exact ⟨D, h1, fun l => by rw [h2, hfg]⟩
/-- What holds at each round. -/
def DclRel (ds : List De) (w : World) (res : Int × Int) (g : Nat) (s5 s6 s7 s8 s15 : Value) (wr : World) : Prop :=
  ∃ (k : Nat) (pre R : List De) (c l n f : Int), g = R.length ∧ s15 = .int .i64 k ∧ pre ++ R = ds ∧ pre.length = k ∧ s5 = .int .i64 c ∧ s6 = .int .i64 l ∧ s7 = .int .i64 n ∧ s8 = .int .i64 f ∧
    (0 ≤ c ∧ c ≤ 12 ∧ 0 ≤ l ∧ l ≤ 4 ∧ 0 ≤ n ∧ n ≤ 2 ∧ 0 ≤ f ∧ f ≤ 2) ∧ res = dclS R pre c l n f ∧ MapI wr w.heap.size k (mD pre) ∧ Below w.heap.size w wr

set_option maxHeartbeats 4000000 in
set_option maxRecDepth 100000 in
theorem declarations_any (ds : List De) (w : World) (ao : Option Addr) (cap : Nat) (hl : ds.length ≤ maxLen) (hat : DeAt w w.heap.size ds ao 0) (hsh : ∀ d ∈ ds, shpD d = true) :
    Calls Tryd.prog 28 #[.slice ao ds.length cap] w fun e w' => e = .returned (.tuple #[.int .i64 (dclS ds [] 0 0 0 0).1, .int .i64 (dclS ds [] 0 0 0 0).2]) ∧ Below w.heap.size w w' := by
  generalize hres : dclS ds [] 0 0 0 0 = res
  have HR := Lib.hid hres
  have HAT := Lib.hid hat
  have HSH := Lib.hid hsh
  have hl' := hl
  unfold maxLen at hl
  clear hres hat hsh
  have hmm := @run_makeMap Tryd.prog
  go_enter Tryd.func28, Tryd.ntmps28
  go_wp2_with fail
  go_loopg [5, 6, 7, 8, 10, 11, 15] ds.length (fun g s5 s6 s7 s8 _ _ s15 wr => DclRel ds w res g s5 s6 s7 s8 s15 wr)
  case atStart => exact ⟨0, [], ds, 0, 0, 0, 0, rfl, rfl, rfl, rfl, rfl, rfl, rfl, rfl, by decide, HR.out.symm, (MapI.made w).congr (fun _ => rfl), alloc_below _ _⟩
  case round =>
    obtain ⟨k, pre, R, c, l, n, f, rfl, rfl, hds, hk, rfl, rfl, rfl, rfl, ⟨q1, q2, l1, l2, n1, n2, f1, f2⟩, hr, hmap, hB⟩ := hrel
    have HE := Lib.hid hr
    have HM := Lib.hid hmap
    have HB := Lib.hid hB
    clear hr hmap hB HR
    have hlen : k + R.length = ds.length := by rw [← hds, List.length_append, hk]
    have hrow := (HAT.out.below HB.out).drop k
    rw [Nat.zero_add, ← hds, ← hk, List.drop_left] at hrow
    rw [hk] at hrow
    cases R with
    | nil =>
      obtain rfl : k = ds.length := by simpa using hlen
      have HF := Lib.hid (HE.out.trans (rfl : _ = ((0 : Int), (0 : Int))))
      clear HE hds hk hrow
      go_wp2_with fail
      go_ret2
      exact ⟨ret_two (congrArg Prod.fst HF.out) (congrArg Prod.snd HF.out), HB.out⟩
    | cons d R =>
      have hsd := shpD_facts (HSH.out d (by rw [← hds]; simp))
      have HDS := Lib.hid hds
      have HK := Lib.hid hk
      clear hds hk
      obtain ⟨⟨b, off, rfl, hbB, x0, x1, x2, x3, x4, x5, hok⟩, -⟩ := hrow
      simp only [List.length_cons] at hlen
      have hkl : k < ds.length := by omega
      obtain ⟨g1, g2, g3, g4⟩ := hsd
      rw [dclS_cons] at HE
      go_upto_region 6 with fail
      obtain ⟨nb, hnb⟩ : ∃ n, wr.heap.size = n := ⟨_, rfl⟩
      generalize hW2 : World.alloc wr _ = W2
      have HB2 : Hid (Below w.heap.size w W2) := Lib.hid (by rw [← hW2]; exact HB.out.alloc HB.out.size _)
      have HY : Hid (Sit wr W2 [(nb, 0, .int .i64 d.kind), (nb, 1, .int .i64 d.line), (nb, 2, .string d.nm), (nb, 3, .int .i64 d.size), (nb, 4, .int .i64 d.init), (nb, 5, .string d.on)]) := Lib.hid (by rw [← hW2]; exact (Sit.start wr).box6 hnb _ _ _ _ _ _ _)
      have HM2 := Lib.hid (HM.out.next HY.out.1)
      rw [hnb]
      clear hW2 hnb x0 x1 x2 x3 x4 x5 HM HB
      obtain ⟨-, ⟨-, c0⟩, ⟨-, c1⟩, ⟨-, c2⟩, ⟨-, c3⟩, ⟨-, c4⟩, ⟨-, c5⟩, -⟩ := HY.out
      have hk1 := HM2.out.look d.nm hok.2.2.1
      cases h0 : (mD pre d.nm.toList != 0)
      case true =>
        as_aux_lemma =>
          have HF := Lib.hid (HE.out.trans (if_pos h0))
          go_wp2_with fail
          go_quiet (fail)
          go_wp2_with fail
          go_ret2
          exact ⟨ret_two (congrArg Prod.fst HF.out) (congrArg Prod.snd HF.out), below_drewN HB2.out _⟩
      have HE2 := Lib.hid (HE.out.trans (if_neg (by rw [h0]; decide)))
      clear HE
      go_upto_region 8 with fail
      cases h1 : decide (4 < d.size)
      case true =>
        as_aux_lemma =>
          have HF := Lib.hid (HE2.out.trans (if_pos h1))
          have h1' : 4 < d.size := by simpa using h1
          go_wp2_with fail
          go_quiet (fail)
          go_wp2_with fail
          go_ret2
          exact ⟨ret_two (congrArg Prod.fst HF.out) (congrArg Prod.snd HF.out), below_drewN HB2.out _⟩
      have HE3 := Lib.hid (HE2.out.trans (if_neg (by rw [h1]; decide)))
      have h1' : d.size ≤ 4 := by simpa using h1
      clear HE2 h1
      go_upto_region 10 with fail
      go_wp2_with fail
      refine (declared_any d _).mono ?_
      rintro e w3 ⟨rfl, hb3⟩
      have HZ := Lib.hid (HY.out.next hb3)
      have HB3 := Lib.hid (HB2.out.trans (hb3.mono HB2.out.size))
      have HM3 := Lib.hid (HM2.out.next hb3)
      clear hb3 HY HB2 HM2 c0 c1 c2 c3 c4 c5 hk1
      have HFV := Lib.hid (declM_five d)
      have HDM : Hid (∃ m, declM d = m) := Lib.hid ⟨_, rfl⟩
      obtain ⟨-, ⟨-, c0⟩, ⟨-, c1⟩, ⟨-, c2⟩, ⟨-, c3⟩, ⟨-, c4⟩, ⟨-, c5⟩, -⟩ := HZ.out
      go_upto_block 2 with (fail)
      go_cut [5, 6, 7, 8, 11, 33] (fun s5 s6 s7 s8 s11 _ W3 => w3 = W3 ∧ s11 = .int .i64 (declM d) ∧ s5 = .int .i64 (dc d c) ∧ s6 = .int .i64 (dl d l) ∧ s7 = .int .i64 (dn d n) ∧ s8 = .int .i64 (df d f))
      case first =>
        as_aux_lemma =>
          have hkd : d.kind = 1 ∨ d.kind = 2 ∨ d.kind = 3 ∨ d.kind = 4 ∨ d.kind = 5 ∨ d.kind = 6 := by omega
          rcases hkd with hkd | hkd | hkd | hkd | hkd | hkd
          · by_cases hs0 : d.size = 0
            · have hm : declM d = 2 := by simp [declM, hkd, hs0]
              have HA : Hid (dc d c = c + 1 ∧ dl d l = l ∧ dn d n = n ∧ df d f = f) := Lib.hid (by simp [dc, dl, dn, df, hkd, hs0] <;> first | rfl | omega)
              have HMM := Lib.hid hm
              rw [hm]
              clear hm hkd hs0
              go_wp2_with fail
              go_meet
              exact ⟨rfl, by rw [HMM.out], by rw [HA.out.1], by rw [HA.out.2.1], by rw [HA.out.2.2.1], by rw [HA.out.2.2.2]⟩
            · have hm : declM d = 3 := by simp [declM, hkd, hs0]
              have HA : Hid (dc d c = c + d.size ∧ dl d l = l ∧ dn d n = n ∧ df d f = f) := Lib.hid (by simp [dc, dl, dn, df, hkd] <;> first | rfl | omega)
              have HMM := Lib.hid hm
              rw [hm]
              clear hm hkd hs0
              go_wp2_with fail
              go_meet
              exact ⟨rfl, by rw [HMM.out], by rw [HA.out.1], by rw [HA.out.2.1], by rw [HA.out.2.2.1], by rw [HA.out.2.2.2]⟩
          · have hs0 : d.size = 0 := by omega
            have hm : declM d = 2 := by simp [declM, hkd]
            have HA : Hid (dc d c = c + 1 ∧ dl d l = l ∧ dn d n = n ∧ df d f = f) := Lib.hid (by simp [dc, dl, dn, df, hkd, hs0] <;> first | rfl | omega)
            have HMM := Lib.hid hm
            rw [hm]
            clear hm hkd hs0
            go_wp2_with fail
            go_meet
            exact ⟨rfl, by rw [HMM.out], by rw [HA.out.1], by rw [HA.out.2.1], by rw [HA.out.2.2.1], by rw [HA.out.2.2.2]⟩
          · have hm : declM d = 4 := by simp [declM, hkd]
            have HA : Hid (dc d c = c ∧ dl d l = l + 1 ∧ dn d n = n ∧ df d f = f) := Lib.hid (by simp [dc, dl, dn, df, hkd])
            have HMM := Lib.hid hm
            rw [hm]
            clear hm hkd
            go_wp2_with fail
            go_meet
            exact ⟨rfl, by rw [HMM.out], by rw [HA.out.1], by rw [HA.out.2.1], by rw [HA.out.2.2.1], by rw [HA.out.2.2.2]⟩
          · have hm : declM d = 5 := by simp [declM, hkd]
            have HA : Hid (dc d c = c ∧ dl d l = l + 1 ∧ dn d n = n ∧ df d f = f) := Lib.hid (by simp [dc, dl, dn, df, hkd])
            have HMM := Lib.hid hm
            rw [hm]
            clear hm hkd
            go_wp2_with fail
            go_meet
            exact ⟨rfl, by rw [HMM.out], by rw [HA.out.1], by rw [HA.out.2.1], by rw [HA.out.2.2.1], by rw [HA.out.2.2.2]⟩
          · have hm : declM d = 6 := by simp [declM, hkd]
            have HA : Hid (dc d c = c ∧ dl d l = l ∧ dn d n = n + 1 ∧ df d f = f) := Lib.hid (by simp [dc, dl, dn, df, hkd])
            have HMM := Lib.hid hm
            rw [hm]
            clear hm hkd
            go_wp2_with fail
            go_meet
            exact ⟨rfl, by rw [HMM.out], by rw [HA.out.1], by rw [HA.out.2.1], by rw [HA.out.2.2.1], by rw [HA.out.2.2.2]⟩
          · have hm : declM d = 7 := by simp [declM, hkd]
            have HA : Hid (dc d c = c ∧ dl d l = l ∧ dn d n = n ∧ df d f = f + 1) := Lib.hid (by simp [dc, dl, dn, df, hkd])
            have HMM := Lib.hid hm
            rw [hm]
            clear hm hkd
            go_wp2_with fail
            go_meet
            exact ⟨rfl, by rw [HMM.out], by rw [HA.out.1], by rw [HA.out.2.1], by rw [HA.out.2.2.1], by rw [HA.out.2.2.2]⟩
      obtain ⟨rfl, rfl, rfl, rfl, rfl, rfl⟩ := hcut
      have hc' : 0 ≤ dc d c ∧ dc d c ≤ 16 := by unfold dc; split <;> omega
      have hl'' : 0 ≤ dl d l ∧ dl d l ≤ 5 := by unfold dl; split <;> omega
      have hn' : 0 ≤ dn d n ∧ dn d n ≤ 3 := by unfold dn; split <;> omega
      have hf' : 0 ≤ df d f ∧ df d f ≤ 3 := by unfold df; split <;> omega
      generalize hcc : dc d c = c' at *
      generalize hll : dl d l = l' at *
      generalize hnn : dn d n = n' at *
      generalize hff : df d f = f' at *
      clear hcc hll hnn hff
      go_upto_region 23 with fail
      go_cut [70] (fun s' W3 => w3 = W3 ∧ s' = .bool (lim c' l' n' f'))
      case first =>
        as_aux_lemma =>
          have HF : Hid (lim c' l' n' f' = (((decide (12 < c') || decide (4 < l')) || decide (2 < n')) || decide (2 < f'))) := Lib.hid rfl
          go_wp2_with fail
          all_goals go_meet
          all_goals exact ⟨rfl, by first | (rw [HF.out]; done) | (rw [HF.out]; congr 1; go_light; grind)⟩
      obtain ⟨rfl, rfl⟩ := hcut
      cases h2 : lim c' l' n' f'
      case true =>
        as_aux_lemma =>
          have HF := Lib.hid (HE3.out.trans (if_pos h2))
          go_wp2_with fail
          go_quiet (fail)
          go_wp2_with fail
          go_ret2
          exact ⟨ret_two (congrArg Prod.fst HF.out) (congrArg Prod.snd HF.out), below_drewN HB3.out _⟩
      have HE4 := Lib.hid (HE3.out.trans (if_neg (by rw [h2]; decide)))
      have hlim : c' ≤ 12 ∧ l' ≤ 4 ∧ n' ≤ 2 ∧ f' ≤ 2 := by unfold lim at h2; simp at h2; omega
      clear HE3 h2
      have hkm : k < maxLen := by omega
      cases h5 : (d.kind == 5)
      · have h6 : (declM d == 6) = false := HFV.out.trans h5
        have HF := Lib.hid (HE4.out.trans ((if_neg (by rw [h5]; simp)).trans (if_neg (by rw [h5]; simp))))
        clear HE4
        obtain ⟨w4, hup, hm4, hg4⟩ := HM3.out.put (by omega) d.nm hok.2.2.1 (declM d) (by have := declM_range d; unfold I64; omega)
        have HM4 := Lib.hid ((hm4.congr (mD_snoc h0)))
        have HB4 := Lib.hid (HB3.out.trans (grown_below hg4 (Nat.le_refl _) HB3.out.size))
        clear hm4 hg4
        go_wp2_with fail
        go_roundg R.length
        case measure => simp
        case rel => exact ⟨k + 1, pre ++ [d], R, c', l', n', f', rfl, by go_num, by rw [List.append_assoc]; exact HDS.out, by rw [List.length_append, HK.out]; rfl, rfl, rfl, rfl, rfl, by omega, HF.out, HM4.out, HB4.out⟩
      · have h6 : (declM d == 6) = true := HFV.out.trans h5
        have hk2 := HM3.out.look d.on hok.2.2.2.2.2
        generalize hmo : mD pre d.on.toList = mo at *
        clear hmo
        cases h7 : (mo == 0)
        case true =>
          as_aux_lemma =>
            have HF := Lib.hid (HE4.out.trans (if_pos (by rw [h5, h7]; rfl)))
            go_wp2_with fail
            go_quiet (fail)
            go_wp2_with fail
            go_ret2
            exact ⟨ret_two (congrArg Prod.fst HF.out) (congrArg Prod.snd HF.out), below_drewN HB3.out _⟩
        have HE5 := Lib.hid (HE4.out.trans (if_neg (by rw [h5, h7]; decide)))
        clear HE4
        cases h8 : (mo != 4)
        case true =>
          as_aux_lemma =>
            have HF := Lib.hid (HE5.out.trans (if_pos (by rw [h5, h8]; rfl)))
            go_wp2_with fail
            go_quiet (fail)
            go_wp2_with fail
            go_ret2
            exact ⟨ret_two (congrArg Prod.fst HF.out) (congrArg Prod.snd HF.out), below_drewN HB3.out _⟩
        have HF := Lib.hid (HE5.out.trans (if_neg (by rw [h5, h8]; decide)))
        clear HE5
        obtain ⟨w4, hup, hm4, hg4⟩ := HM3.out.put (by omega) d.nm hok.2.2.1 (declM d) (by have := declM_range d; unfold I64; omega)
        have HM4 := Lib.hid ((hm4.congr (mD_snoc h0)))
        have HB4 := Lib.hid (HB3.out.trans (grown_below hg4 (Nat.le_refl _) HB3.out.size))
        clear hm4 hg4
        go_wp2_with fail
        go_roundg R.length
        case measure => simp
        case rel => exact ⟨k + 1, pre ++ [d], R, c', l', n', f', rfl, by go_num, by rw [List.append_assoc]; exact HDS.out, by rw [List.length_append, HK.out]; rfl, rfl, rfl, rfl, rfl, by omega, HF.out, HM4.out, HB4.out⟩
end Go.Proofs.YtghdammalphmfaaDoor
end
section
namespace Go.Proofs.YtghdammalphmfaaDoor
open Go.RowKit
namespace Md
def usedD (ds : List De) (l : List UInt8) : Bool := ds.any fun d => d.nm.toList == l
def usedT (ts : List Th) (l : List UInt8) : Bool := ts.any fun t => t.nm.toList == l
def inTx (tx : List ByteArray) (l : List UInt8) : Bool := tx.any fun s => s.toList == l
/-- The line of the first thread whose name is used. -/
def thrA (ds : List De) : List Th → List Th → Option Int
  | [], _ => none
  | t :: r, pre => if usedD ds t.nm.toList || usedT pre t.nm.toList then some t.line else thrA ds r (pre ++ [t])
/-- A local is used. -/
def locA (ds : List De) (ts : List Th) : List ByteArray → List ByteArray → Bool
  | [], _ => false
  | s :: r, pre => ((usedD ds s.toList || usedT ts s.toList) || inTx pre s.toList) || locA ds ts r (pre ++ [s])
def thrB (ds : List De) (ts : List Th) : List Th → Int × Int
  | [] => (0, 0)
  | t :: r => if decide ((4 : Int) < t.locs.length) then (2, t.line) else if locA ds ts t.locs [] then (4, t.line) else thrB ds ts r
/-- The first error of the threads' names and locals. -/
def thrS (p : Pr) : Int × Int := match thrA p.ds p.ts [] with
  | some l => (4, l)
  | none => thrB p.ds p.ts p.ts
theorem usedD_snoc (pre : List De) (d : De) (l : List UInt8) : (if l = d.nm.toList then true else usedD pre l) = usedD (pre ++ [d]) l := by
  unfold usedD; rw [List.any_append]; by_cases h : l = d.nm.toList
  · subst h; simp
  · rw [if_neg h]; have : (d.nm.toList == l) = false := by rw [beq_eq_false_iff_ne]; exact fun e => h e.symm
    simp [this]
theorem usedT_snoc (ds : List De) (pre : List Th) (t : Th) (l : List UInt8) : (if l = t.nm.toList then true else (usedD ds l || usedT pre l)) = (usedD ds l || usedT (pre ++ [t]) l) := by
  unfold usedT; rw [List.any_append]; by_cases h : l = t.nm.toList
  · subst h; simp
  · rw [if_neg h]; have : (t.nm.toList == l) = false := by rw [beq_eq_false_iff_ne]; exact fun e => h e.symm
    simp [this]
end Md
open Md
theorem Holds.grown {W W' : World} {bm : Nat} (hg : W.grownBy W' (some bm)) : ∀ {l : List (Nat × Nat × Value)}, (∀ f ∈ l, f.1 ≠ bm) → Holds W l → Holds W' l
  | [], _, _ => trivial
  | f :: _, hne, ⟨⟨h1, h2⟩, h3⟩ => ⟨⟨Nat.lt_of_lt_of_le h1 hg.size, (World.cell?_of_block (a := ⟨f.1, f.2.1, none⟩) (hg.block f.1 h1 (by have := hne f (by simp); simp; exact this))).trans h2⟩, Holds.grown hg (fun x hx => hne x (by simp [hx])) h3⟩
theorem Sit.grown {w W W' : World} {fs : List (Nat × Nat × Value)} {bm : Nat} (h : Sit w W fs) (hg : W.grownBy W' (some bm)) (hb : w.heap.size ≤ bm) (hne : ∀ f ∈ fs, f.1 ≠ bm) : Sit w W' fs :=
  ⟨h.1.trans (grown_below hg hb h.1.size), h.2.grown hg hne⟩

set_option maxHeartbeats 4000000 in
set_option maxRecDepth 100000 in
theorem threads_any (p : Pr) (w : World) (aoD aoT : Option Addr) (capD capT : Nat) (hp : p.At w aoD aoT) (hsum : p.ds.length + p.ts.length < maxLen) :
    Calls Tryd.prog 29 #[.agg #[.slice aoD p.ds.length capD, .slice aoT p.ts.length capT]] w fun e w' => e = .returned (.tuple #[.int .i64 (thrS p).1, .int .i64 (thrS p).2]) ∧ Below w.heap.size w w' := by
  have HR : Hid (thrS p = match thrA p.ds p.ts [] with | some l => (4, l) | none => thrB p.ds p.ts p.ts) := Lib.hid rfl
  generalize thrS p = res at *
  have hld := hp.1
  have hlt := hp.2.1
  unfold maxLen at hld hlt
  have HP := Lib.hid hp
  clear hp
  have hmm := @run_makeMap Tryd.prog
  go_enter Tryd.func29, Tryd.ntmps29
  go_upto_region 1 with fail
  generalize hW : World.alloc w _ = W
  generalize Value.agg #[_, _] = a0
  have HX := Lib.hid ((Sit.start w).box2 rfl (.slice aoD p.ds.length capD) (.slice aoT p.ts.length capT) 29)
  rw [hW] at HX
  have hsz : W.heap.size = w.heap.size + 1 := by rw [← hW]; simp
  clear hW
  go_upto_region 2 with fail
  have HM := Lib.hid (MapB.made W)
  have HY := Lib.hid (HX.out.next (alloc_below W (.map #[] 0)))
  rw [hsz] at HM
  generalize World.alloc W _ = W1 at *
  clear HX hsz
  obtain ⟨-, ⟨-, c0⟩, ⟨-, c1⟩, -⟩ := HY.out
  go_wp2_with fail
  go_loopw [6, 19] (fun _ s wr => ∃ (k : Nat) (pre R : List De), s = .int .i64 k ∧ pre ++ R = p.ds ∧ pre.length = k ∧ MapB wr (w.heap.size + 1) k (usedD pre) ∧ Sit w wr [(w.heap.size, 0, (.slice aoD p.ds.length capD)), (w.heap.size, 1, (.slice aoT p.ts.length capT))]) (fun _ s _ => p.ds.length - (intOf s).toNat)
  case atStart => exact ⟨0, [], p.ds, rfl, rfl, rfl, HM.out.congr (fun _ => rfl), HY.out⟩
  case round =>
    obtain ⟨k, pre, R, rfl, hds, hk, hmap, hsit⟩ := hrel
    have HZ := Lib.hid hsit
    have HM2 := Lib.hid hmap
    clear hsit hmap HY HM c0 c1
    have hlen : k + R.length = p.ds.length := by rw [← hds, List.length_append, hk]
    have hrow := (HP.out.2.2.1.below HZ.out.1).drop k
    rw [Nat.zero_add, ← hds, ← hk, List.drop_left] at hrow
    rw [hk] at hrow
    have HDS := Lib.hid hds
    have HK := Lib.hid hk
    clear hds hk
    cases R with
    | cons d R =>
      obtain ⟨⟨b, off, rfl, hbB, x0, x1, x2, x3, x4, x5, hok⟩, -⟩ := hrow
      simp only [List.length_cons] at hlen
      have hkl : k < p.ds.length := by omega
      have hba := alloc_below wr (.cells #[.int .i64 d.kind, .int .i64 d.line, .string d.nm, .int .i64 d.size, .int .i64 d.init, .string d.on] 46)
      obtain ⟨w4, hup, hm4, hg4⟩ := (HM2.out.next hba).put (by omega) d.nm hok.2.2.1 true
      have HM4 := Lib.hid (hm4.congr (usedD_snoc pre d))
      have HZ4 := Lib.hid ((HZ.out.next hba).grown hg4 (by omega) (by simp))
      clear hm4 hg4 hba hok
      go_wp2_with fail
      go_roundw
      case rel => exact ⟨k + 1, pre ++ [d], R, by go_num, by rw [List.append_assoc]; exact HDS.out, by rw [List.length_append, HK.out]; rfl, HM4.out, HZ4.out⟩
      case measure => simp [intOf]; omega
    | nil =>
      obtain rfl : k = p.ds.length := by simpa using hlen
      have hpre : pre = p.ds := by rw [← HDS.out, List.append_nil]
      subst hpre
      obtain ⟨-, ⟨-, c0⟩, ⟨-, c1⟩, -⟩ := HZ.out
      clear hrow hlen HDS HK
      go_wp2_with fail
      go_loopw [8, 30] (fun _ s wr => ∃ (k : Nat) (pre R : List Th), s = .int .i64 k ∧ pre ++ R = p.ts ∧ pre.length = k ∧ thrA p.ds p.ts [] = thrA p.ds R pre ∧ MapB wr (w.heap.size + 1) (p.ds.length + k) (fun l => usedD p.ds l || usedT pre l) ∧ Sit w wr [(w.heap.size, 0, (.slice aoD p.ds.length capD)), (w.heap.size, 1, (.slice aoT p.ts.length capT))]) (fun _ s _ => p.ts.length - (intOf s).toNat)
      case atStart => exact ⟨0, [], p.ts, rfl, rfl, rfl, rfl, HM2.out.congr (fun l => by simp [usedT]), HZ.out⟩
      case round =>
        obtain ⟨k, pre, R, rfl, hds, hk, heq, hmap, hsit⟩ := hrel
        have HU := Lib.hid hsit
        have HM3 := Lib.hid hmap
        have HE := Lib.hid heq
        clear hsit hmap HZ HM2 c0 c1 heq
        have hlen : k + R.length = p.ts.length := by rw [← hds, List.length_append, hk]
        have hrow := (HP.out.2.2.2.below HU.out.1).drop k
        rw [Nat.zero_add, ← hds, ← hk, List.drop_left] at hrow
        rw [hk] at hrow
        have HDS := Lib.hid hds
        have HK := Lib.hid hk
        clear hds hk
        cases R with
        | cons t R =>
          obtain ⟨⟨b, off, aol, capl, aob, capb, rfl, hB, x0, x1, x2, x3, hok, htx, hst⟩, -⟩ := hrow
          simp only [List.length_cons] at hlen
          have hkl : k < p.ts.length := by omega
          have hba := alloc_below wr (.cells #[.string t.nm, .int .i64 t.line, .slice aol t.locs.length capl, .slice aob t.body.len capb] 44)
          have HM4 := Lib.hid (HM3.out.next hba)
          have hlk := HM4.out.look t.nm hok.1
          have HB3 := Lib.hid (HU.out.next hba).1
          cases hus : (usedD p.ds t.nm.toList || usedT pre t.nm.toList)
          · obtain ⟨w4, hup, hm4, hg4⟩ := HM4.out.put (by omega) t.nm hok.1 true
            have HM5 := Lib.hid (hm4.congr (usedT_snoc p.ds pre t))
            have HU4 := Lib.hid ((HU.out.next hba).grown hg4 (by omega) (by simp))
            have HE' := Lib.hid (HE.out.trans (if_neg (by rw [hus]; decide)))
            clear hm4 hg4 hba hok htx hst
            go_wp2_with fail
            go_roundw
            case rel => exact ⟨k + 1, pre ++ [t], R, by go_num, by rw [List.append_assoc]; exact HDS.out, by rw [List.length_append, HK.out]; rfl, HE'.out, HM5.out, HU4.out⟩
            case measure => simp [intOf]; omega
          · have HF : Hid (res = (4, t.line)) := Lib.hid (HR.out.trans (by rw [HE.out.trans (if_pos hus)]))
            clear hba hok htx hst
            go_wp2_with fail
            go_quiet (fail)
            go_wp2_with fail
            go_ret2
            exact ⟨ret_two (congrArg Prod.fst HF.out) (congrArg Prod.snd HF.out), below_drewN HB3.out _⟩
        | nil =>
          obtain rfl : k = p.ts.length := by simpa using hlen
          have hpre : pre = p.ts := by rw [← HDS.out, List.append_nil]
          subst hpre
          have HR2 : Hid (res = thrB p.ds p.ts p.ts) := Lib.hid (HR.out.trans (by rw [HE.out]; rfl))
          obtain ⟨-, ⟨-, c0⟩, ⟨-, c1⟩, -⟩ := HU.out
          clear hrow hlen HDS HK HE HR
          generalize hff : (fun l => usedD p.ds l || usedT p.ts l) = ff at *
          have HFF := Lib.hid hff
          clear hff
          have hth := HP.out.2.2.2.below HU.out.1
          go_wp2_with fail
          go_loopw [10, 11, 12, 14, 47, 60, 75] (fun _ _ _ _ s _ _ wr => ∃ (k : Nat) (R : List Th), s = .int .i64 k ∧ k + R.length = p.ts.length ∧ thrB p.ds p.ts p.ts = thrB p.ds p.ts R ∧ ThAt wr w.heap.size R aoT k ∧ MapB wr (w.heap.size + 1) (p.ds.length + p.ts.length) ff ∧ Sit w wr [(w.heap.size, 0, (.slice aoD p.ds.length capD)), (w.heap.size, 1, (.slice aoT p.ts.length capT))]) (fun _ _ _ _ s _ _ _ => p.ts.length - (intOf s).toNat)
          case atStart => exact ⟨0, p.ts, rfl, by simp, rfl, hth, HM3.out, HU.out⟩
          case round =>
            obtain ⟨k, R, rfl, hlen, heq, hrow, hmap, hsit⟩ := hrel
            have HV := Lib.hid hsit
            have HM4 := Lib.hid hmap
            have HE := Lib.hid (HR2.out.trans heq)
            have HE0 := Lib.hid heq
            clear hsit hmap HU HM3 c0 c1 heq hth
            cases R with
            | nil =>
              obtain rfl : k = p.ts.length := by simpa using hlen
              have HF := Lib.hid (HE.out.trans (rfl : _ = ((0 : Int), (0 : Int))))
              go_wp2_with fail
              go_ret2
              exact ⟨ret_two (congrArg Prod.fst HF.out) (congrArg Prod.snd HF.out), HV.out.1⟩
            | cons t R =>
              obtain ⟨⟨b, off, aol, capl, aob, capb, rfl, hB, x0, x1, x2, x3, hok, htx, hst⟩, hrest⟩ := hrow
              simp only [List.length_cons] at hlen
              have hkl : k < p.ts.length := by omega
              have hll := hok.2.2.1
              have hcl := hst.2
              unfold maxLen at hll
              clear hst hok
              go_upto_region 17 with fail
              obtain ⟨nb, hnb⟩ : ∃ n, wr.heap.size = n := ⟨_, rfl⟩
              generalize hW2 : World.alloc wr _ = W2
              have HBW : Hid (Below wr.heap.size wr W2) := Lib.hid (by rw [← hW2]; exact alloc_below _ _)
              have HY : Hid (Sit wr W2 [(nb, 0, .string t.nm), (nb, 1, .int .i64 t.line), (nb, 2, .slice aol t.locs.length capl), (nb, 3, .slice aob t.body.len capb)]) := Lib.hid (by rw [← hW2]; exact (Sit.start wr).box4 hnb _ _ _ _ _)
              have HV2 := Lib.hid (HV.out.next HBW.out)
              have HM5 := Lib.hid (HM4.out.next HBW.out)
              have HB3 := Lib.hid HV2.out.1
              have HTX := Lib.hid (htx.below (HBW.out.mono HV.out.1.size))
              have HRS := Lib.hid (hrest.below (HBW.out.mono HV.out.1.size))
              rw [hnb]
              clear hW2 hnb x0 x1 x2 x3 HM4 HV htx hrest HBW
              obtain ⟨-, ⟨-, c0⟩, ⟨-, c1⟩, ⟨-, c2⟩, ⟨-, c3⟩, -⟩ := HY.out
              cases h1 : decide ((4 : Int) < t.locs.length)
              case true =>
                as_aux_lemma =>
                  have HF := Lib.hid (HE.out.trans (if_pos h1))
                  have h1' : 4 < t.locs.length := by simp at h1; omega
                  clear h1
                  go_wp2_with fail
                  go_quiet (fail)
                  go_wp2_with fail
                  go_ret2
                  exact ⟨ret_two (congrArg Prod.fst HF.out) (congrArg Prod.snd HF.out), below_drewN HB3.out _⟩
              have HE2 := Lib.hid (HE.out.trans (if_neg (by rw [h1]; decide)))
              have HE3 := Lib.hid (HE0.out.trans (if_neg (by rw [h1]; decide)))
              have h1' : t.locs.length ≤ 4 := by simp at h1; omega
              clear HE HE0 h1
              go_wp2_with fail
              go_loop [11, 12, 14, 60, 75] (fun _ _ _ s _ => ∃ (k' : Nat) (pre R' : List ByteArray), s = .int .i64 k' ∧ pre ++ R' = t.locs ∧ pre.length = k' ∧ locA p.ds p.ts t.locs [] = locA p.ds p.ts R' pre) (fun _ _ _ s _ => t.locs.length - (intOf s).toNat)
              case atStart => exact ⟨0, [], t.locs, rfl, rfl, rfl, rfl⟩
              case round =>
                obtain ⟨k', pre, R', rfl, hds, hk', heq'⟩ := hrel
                have HE' := Lib.hid heq'
                have hlen' : k' + R'.length = t.locs.length := by rw [← hds, List.length_append, hk']
                have hrow := HTX.out.drop k'
                rw [Nat.zero_add, ← hds, ← hk', List.drop_left] at hrow
                rw [hk'] at hrow
                have HPR := Lib.hid ((hds ▸ HTX.out : TxAt W2 w.heap.size (pre ++ R') aol 0).take)
                have HDS := Lib.hid hds
                have HK := Lib.hid hk'
                clear hds hk' heq'
                cases R' with
                | nil =>
                  obtain rfl : k' = t.locs.length := by simpa using hlen'
                  have HF := Lib.hid (HE3.out.trans (if_neg (by rw [HE'.out]; simp [locA])))
                  go_wp2_with fail
                  go_roundw
                  case rel => exact ⟨k + 1, R, by go_num, by omega, HF.out, HRS.out, HM5.out, HV2.out⟩
                  case measure => simp [intOf]; omega
                | cons s R' =>
                  obtain ⟨⟨b', off', rfl, hB', y0, hs⟩, -⟩ := hrow
                  simp only [List.length_cons] at hlen'
                  have hkl' : k' < t.locs.length := by omega
                  have hlk := HM5.out.look s hs
                  have hfs : ff s.toList = (usedD p.ds s.toList || usedT p.ts s.toList) := by rw [← HFF.out]
                  cases hus : ff s.toList
                  case true =>
                    as_aux_lemma =>
                      have HF := Lib.hid (HE2.out.trans (if_pos (by rw [HE'.out]; unfold locA; rw [← hfs, hus]; rfl)))
                      clear hfs
                      go_wp2_with fail
                      go_quiet (fail)
                      go_wp2_with fail
                      go_ret2
                      exact ⟨ret_two (congrArg Prod.fst HF.out) (congrArg Prod.snd HF.out), below_drewN HB3.out _⟩
                  have HE4 : Hid (locA p.ds p.ts t.locs [] = (inTx pre s.toList || locA p.ds p.ts R' (pre ++ [s]))) := Lib.hid (HE'.out.trans (by rw [locA, ← hfs, hus]; rfl))
                  clear hfs HE'
                  have hk0 : (0 : Int) ≤ k' := by omega
                  have hk2 : k' ≤ capl := by omega
                  go_wp2_with fail
                  go_loop [14, 75] (fun _ s' => ∃ (k'' : Nat) (Q : List ByteArray), s' = .int .i64 k'' ∧ k'' + Q.length = k' ∧ inTx pre s.toList = inTx Q s.toList ∧ TxAt W2 w.heap.size Q (some ⟨b', off', none⟩) k'') (fun _ s' => k' - (intOf s').toNat)
                  case atStart => exact ⟨0, pre, rfl, by rw [Nat.zero_add]; exact HK.out, rfl, HPR.out⟩
                  case round =>
                    obtain ⟨k'', Q, rfl, hlen'', heq'', hrow''⟩ := hrel
                    have HQ := Lib.hid heq''
                    clear heq''
                    cases Q with
                    | nil =>
                      obtain rfl : k'' = k' := by simpa using hlen''
                      have HF := Lib.hid (HE4.out.trans (by rw [HQ.out]; rfl : _ = locA p.ds p.ts R' (pre ++ [s])))
                      go_wp2_with fail
                      go_round
                      case rel => exact ⟨k'' + 1, pre ++ [s], R', by go_num, by rw [List.append_assoc]; exact HDS.out, by rw [List.length_append, HK.out]; rfl, HF.out⟩
                      case measure => simp [intOf]; omega
                    | cons q Q =>
                      obtain ⟨⟨b2, off2, hbe, hB2, z0, hq⟩, hrest''⟩ := hrow''
                      obtain ⟨rfl, rfl⟩ : b' = b2 ∧ off' = off2 := by injection hbe with h; injection h with h1 h2; exact ⟨h1, h2⟩
                      simp only [List.length_cons] at hlen''
                      have hkl'' : k'' < k' := by omega
                      clear hbe
                      have HQ2 : Hid (inTx pre s.toList = ((q.toList == s.toList) || inTx Q s.toList)) := Lib.hid (HQ.out.trans (by simp [inTx]))
                      cases hc : (q.toList == s.toList)
                      · have hc' : (s.toList == q.toList) = false := by rw [beq_eq_false_iff_ne] at hc ⊢; exact fun e => hc e.symm
                        have HF := Lib.hid (HQ2.out.trans (by rw [hc]; rfl : _ = inTx Q s.toList))
                        go_wp2_with fail
                        go_round
                        case rel => exact ⟨k'' + 1, Q, by go_num, by omega, HF.out, hrest''⟩
                        case measure => simp [intOf]; omega
                      · have hc' : (s.toList == q.toList) = true := by rw [beq_iff_eq] at hc ⊢; exact hc.symm
                        have HF := Lib.hid (HE2.out.trans (if_pos (by rw [HE4.out, HQ2.out, hc]; rfl)))
                        go_wp2_with fail
                        go_quiet (fail)
                        go_wp2_with fail
                        go_ret2
                        exact ⟨ret_two (congrArg Prod.fst HF.out) (congrArg Prod.snd HF.out), below_drewN HB3.out _⟩
end Go.Proofs.YtghdammalphmfaaDoor
end
section
namespace Go.Proofs.YtghdammalphmfaaDoor
open Go.RowKit
open Md
theorem atDe_used (ds : List De) (nm : ByteArray) : (atDe ds nm = -1 ∧ usedD ds nm.toList = false) ∨ ∃ j : Nat, atDe ds nm = (j : Int) ∧ usedD ds nm.toList = true := by
  rcases fidx_spec (fun d : De => d.nm.toList == nm.toList) ds 0 with ⟨h1, h2, h3⟩ | ⟨j, d, r, h0, h1, h2, h3, h4⟩
  · exact Or.inl ⟨h1, h3⟩
  · exact Or.inr ⟨j, by rw [← Nat.zero_add j]; exact h1, h4⟩
theorem atTh_used (ts : List Th) (nm : ByteArray) : (atTh ts nm = -1 ∧ usedT ts nm.toList = false) ∨ ∃ j : Nat, atTh ts nm = (j : Int) ∧ usedT ts nm.toList = true := by
  rcases fidx_spec (fun d : Th => d.nm.toList == nm.toList) ts 0 with ⟨h1, h2, h3⟩ | ⟨j, d, r, h0, h1, h2, h3, h4⟩
  · exact Or.inl ⟨h1, h3⟩
  · exact Or.inr ⟨j, by rw [← Nat.zero_add j]; exact h1, h4⟩
theorem atTx_used (ts : List ByteArray) (nm : ByteArray) : (atTx ts nm = -1 ∧ inTx ts nm.toList = false) ∨ ∃ j : Nat, atTx ts nm = (j : Int) ∧ inTx ts nm.toList = true := by
  rcases fidx_spec (fun d : ByteArray => d.toList == nm.toList) ts 0 with ⟨h1, h2, h3⟩ | ⟨j, d, r, h0, h1, h2, h3, h4⟩
  · exact Or.inl ⟨h1, h3⟩
  · exact Or.inr ⟨j, by rw [← Nat.zero_add j]; exact h1, h4⟩

set_option maxHeartbeats 4000000 in
set_option maxRecDepth 100000 in
theorem RefThreads_any (p : Pr) (w : World) (aoD aoT : Option Addr) (capD capT : Nat) (hp : p.At w aoD aoT) (hcT : p.ts.length ≤ capT) :
    Calls Tryd.prog 34 #[.agg #[.slice aoD p.ds.length capD, .slice aoT p.ts.length capT]] w fun e w' => e = .returned (.tuple #[.int .i64 (thrS p).1, .int .i64 (thrS p).2]) ∧ Below w.heap.size w w' := by
  have HR : Hid (thrS p = match thrA p.ds p.ts [] with | some l => (4, l) | none => thrB p.ds p.ts p.ts) := Lib.hid rfl
  generalize thrS p = res at *
  have hld := hp.1
  have hlt := hp.2.1
  have hld' := hp.1
  have hlt' := hp.2.1
  unfold maxLen at hld hlt
  have HP := Lib.hid hp
  clear hp
  go_enter Tryd.func34, Tryd.ntmps34
  go_upto_region 1 with fail
  generalize hW : World.alloc w _ = W
  generalize Value.agg #[_, _] = a0
  have HX := Lib.hid ((Sit.start w).box2 rfl (.slice aoD p.ds.length capD) (.slice aoT p.ts.length capT) 29)
  rw [hW] at HX
  clear hW
  go_wp2_with fail
  go_loopg [4, 5] p.ts.length (fun g s _ wr => ∃ (k : Nat) (pre R : List Th), g = R.length ∧ s = .int .i64 k ∧ pre ++ R = p.ts ∧ pre.length = k ∧ thrA p.ds p.ts [] = thrA p.ds R pre ∧ Sit w wr [(w.heap.size, 0, (.slice aoD p.ds.length capD)), (w.heap.size, 1, (.slice aoT p.ts.length capT))])
  case atStart => exact ⟨0, [], p.ts, rfl, rfl, rfl, rfl, rfl, HX.out⟩
  case round =>
    obtain ⟨k, pre, R, rfl, rfl, hds, hk, heq, hsit⟩ := hrel
    have HU := Lib.hid hsit
    have HE := Lib.hid heq
    clear hsit heq HX
    have hlen : k + R.length = p.ts.length := by rw [← hds, List.length_append, hk]
    have hrow := (HP.out.2.2.2.below HU.out.1).drop k
    rw [Nat.zero_add, ← hds, ← hk, List.drop_left] at hrow
    rw [hk] at hrow
    have HPR := Lib.hid ((hds ▸ HP.out.2.2.2 : ThAt w w.heap.size (pre ++ R) aoT 0).take)
    have HDS := Lib.hid hds
    have HK := Lib.hid hk
    clear hds hk
    cases R with
    | cons t R =>
      obtain ⟨⟨b, off, aol, capl, aob, capb, rfl, hB, x0, x1, x2, x3, hok, htx, hst⟩, -⟩ := hrow
      simp only [List.length_cons] at hlen
      have hkl : k < p.ts.length := by omega
      clear htx hst
      obtain ⟨-, ⟨-, c0⟩, ⟨-, c1⟩, -⟩ := HU.out
      go_upto_region 5 with fail
      clear c0 c1
      obtain ⟨nb, hnb⟩ : ∃ n, wr.heap.size = n := ⟨_, rfl⟩
      generalize hW2 : World.alloc wr _ = W2
      have HY : Hid (Sit w W2 ((nb, 0, .string t.nm) :: (nb, 1, .int .i64 t.line) :: (nb, 2, .slice aol t.locs.length capl) :: (nb, 3, .slice aob t.body.len capb) :: [(w.heap.size, 0, (.slice aoD p.ds.length capD)), (w.heap.size, 1, (.slice (some ⟨b, off, none⟩) p.ts.length capT))])) := Lib.hid (by rw [← hW2]; exact HU.out.box4 hnb _ _ _ _ _)
      rw [hnb]
      clear hW2 hnb x0 x1 x2 x3 HU
      obtain ⟨-, ⟨-, c0⟩, ⟨-, c1⟩, ⟨-, c2⟩, ⟨-, c3⟩, ⟨-, c4⟩, ⟨-, c5⟩, -⟩ := HY.out
      have hpl : pre.length ≤ maxLen := by rw [HK.out]; omega
      have HDA : Hid (∀ nq : Nat, Calls Tryd.prog 55 #[.slice aoD p.ds.length capD, .string t.nm] (W2.drewN nq) fun e w' => e = .returned (.int .i64 (atDe p.ds t.nm)) ∧ W2.drewN nq = w') := Lib.hid (fun nq => by
        have hb' := below_drewN (n := nq) HY.out.1
        exact RefDeclAt_any p.ds t.nm (W2.drewN nq) aoD capD hld' ((HP.out.2.2.1.below hb').mono hb'.size))
      have HTA : Hid (∀ nq : Nat, Calls Tryd.prog 56 #[.slice (some ⟨b, off, none⟩) k capT, .string t.nm] (W2.drewN nq) fun e w' => e = .returned (.int .i64 (atTh pre t.nm)) ∧ W2.drewN nq = w') := Lib.hid (fun nq => by
        have hb' := below_drewN (n := nq) HY.out.1
        have := RefThreadAt_any pre t.nm (W2.drewN nq) (some ⟨b, off, none⟩) capT hpl ((HPR.out.below hb').mono hb'.size)
        rw [HK.out] at this
        exact this)
      have hk0 : (0 : Int) ≤ k := by omega
      have hk1 : (k : Int) ≤ capT := by omega
      have hk2 : k ≤ capT := by omega
      go_cut [37] (fun s' W3 => s' = .bool (usedD p.ds t.nm.toList || usedT pre t.nm.toList) ∧ Sit w W3 ((nb, 0, .string t.nm) :: (nb, 1, .int .i64 t.line) :: (nb, 2, .slice aol t.locs.length capl) :: (nb, 3, .slice aob t.body.len capb) :: [(w.heap.size, 0, (.slice aoD p.ds.length capD)), (w.heap.size, 1, (.slice (some ⟨b, off, none⟩) p.ts.length capT))]))
      case first =>
        as_aux_lemma =>
          rcases atDe_used p.ds t.nm with ⟨e1, e2⟩ | ⟨j, e1, e2⟩
          · rw [e1] at HDA
            rcases atTh_used pre t.nm with ⟨e3, e4⟩ | ⟨j', e3, e4⟩
            all_goals
              rw [e3] at HTA
              have HF := Lib.hid e2
              have HG := Lib.hid e4
              clear e1 e2 e3 e4
              go_quiet (first | (go_at_call 55; exact quiet_eq (HDA.out _)) | (go_at_call 56; exact quiet_eq (HTA.out _)))
              go_wp2_with fail
              go_meet
              exact ⟨by rw [HF.out, HG.out]; rfl, HY.out.draws _⟩
          · rw [e1] at HDA
            have HF := Lib.hid e2
            have hj : decide ((j : Int) ≥ 0) = true := by simp
            clear e1 e2
            go_quiet (first | (go_at_call 55; exact quiet_eq (HDA.out _)) | (go_at_call 56; exact quiet_eq (HTA.out _)))
            go_wp2_with fail
            go_meet
            exact ⟨by rw [HF.out]; rfl, HY.out.draws _⟩
      obtain ⟨rfl, hX⟩ := hcut
      have HZ := Lib.hid hX
      have HB3 := Lib.hid hX.1
      clear hX HY HDA HTA c0 c1 c2 c3 c4 c5
      cases hus : (usedD p.ds t.nm.toList || usedT pre t.nm.toList)
      · have HE' := Lib.hid (HE.out.trans (if_neg (by rw [hus]; decide)))
        go_wp2_with fail
        go_roundg R.length
        case measure => simp
        case rel => exact ⟨k + 1, pre ++ [t], R, rfl, by go_num, by rw [List.append_assoc]; exact HDS.out, by rw [List.length_append, HK.out]; rfl, HE'.out, ⟨HZ.out.1, HZ.out.2.2.2.2.2⟩⟩
      · have HF : Hid (res = (4, t.line)) := Lib.hid (HR.out.trans (by rw [HE.out.trans (if_pos hus)]))
        obtain ⟨-, ⟨-, c0⟩, ⟨-, c1⟩, ⟨-, c2⟩, ⟨-, c3⟩, ⟨-, c4⟩, ⟨-, c5⟩, -⟩ := HZ.out
        go_wp2_with fail
        go_quiet (fail)
        go_wp2_with fail
        go_ret2
        exact ⟨ret_two (congrArg Prod.fst HF.out) (congrArg Prod.snd HF.out), below_drewN HB3.out _⟩
    | nil =>
      obtain rfl : k = p.ts.length := by simpa using hlen
      have HR2 : Hid (res = thrB p.ds p.ts p.ts) := Lib.hid (HR.out.trans (by rw [HE.out]; rfl))
      clear hrow hlen HDS HK HE HR HPR
      have hth := HP.out.2.2.2.below HU.out.1
      obtain ⟨-, ⟨-, c0⟩, ⟨-, c1⟩, -⟩ := HU.out
      go_wp2_with fail
      go_loopg [6, 7, 8, 9] p.ts.length (fun g s _ _ _ wr => ∃ (k : Nat) (R : List Th), g = R.length ∧ s = .int .i64 k ∧ k + R.length = p.ts.length ∧ thrB p.ds p.ts p.ts = thrB p.ds p.ts R ∧ ThAt wr w.heap.size R aoT k ∧ Sit w wr [(w.heap.size, 0, (.slice aoD p.ds.length capD)), (w.heap.size, 1, (.slice aoT p.ts.length capT))])
      case atStart => exact ⟨0, p.ts, rfl, rfl, by simp, rfl, hth, HU.out⟩
      case round =>
        obtain ⟨k, R, rfl, rfl, hlen, heq, hrow, hsit⟩ := hrel
        have HV := Lib.hid hsit
        have HE := Lib.hid (HR2.out.trans heq)
        have HE0 := Lib.hid heq
        clear hsit HU c0 c1 heq hth
        obtain ⟨-, ⟨-, c0⟩, ⟨-, c1⟩, -⟩ := HV.out
        cases R with
        | nil =>
          obtain rfl : k = p.ts.length := by simpa using hlen
          have HF := Lib.hid (HE.out.trans (rfl : _ = ((0 : Int), (0 : Int))))
          go_wp2_with fail
          go_ret2
          exact ⟨ret_two (congrArg Prod.fst HF.out) (congrArg Prod.snd HF.out), HV.out.1⟩
        | cons t R =>
          obtain ⟨⟨b, off, aol, capl, aob, capb, rfl, hB, x0, x1, x2, x3, hok, htx, hst⟩, hrest⟩ := hrow
          simp only [List.length_cons] at hlen
          have hkl : k < p.ts.length := by omega
          have hll' := hok.2.2.1
          have hll := hok.2.2.1
          have hcl := hst.2
          unfold maxLen at hll
          clear hst hok
          go_upto_region 11 with fail
          clear c0 c1
          obtain ⟨nb, hnb⟩ : ∃ n, wr.heap.size = n := ⟨_, rfl⟩
          generalize hW2 : World.alloc wr _ = W2
          have HY : Hid (Sit w W2 ((nb, 0, .string t.nm) :: (nb, 1, .int .i64 t.line) :: (nb, 2, .slice aol t.locs.length capl) :: (nb, 3, .slice aob t.body.len capb) :: [(w.heap.size, 0, (.slice aoD p.ds.length capD)), (w.heap.size, 1, (.slice (some ⟨b, off, none⟩) p.ts.length capT))])) := Lib.hid (by rw [← hW2]; exact HV.out.box4 hnb _ _ _ _ _)
          have HBW : Hid (Below wr.heap.size wr W2) := Lib.hid (by rw [← hW2]; exact alloc_below _ _)
          have HTX := Lib.hid (htx.below (HBW.out.mono HV.out.1.size))
          have HRS := Lib.hid (hrest.below (HBW.out.mono HV.out.1.size))
          have HB3 := Lib.hid HY.out.1
          rw [hnb]
          clear hW2 hnb x0 x1 x2 x3 HV htx hrest HBW
          obtain ⟨-, ⟨-, c0⟩, ⟨-, c1⟩, ⟨-, c2⟩, ⟨-, c3⟩, ⟨-, c4⟩, ⟨-, c5⟩, -⟩ := HY.out
          cases h1 : decide ((4 : Int) < t.locs.length)
          case true =>
            as_aux_lemma =>
              have HF := Lib.hid (HE.out.trans (if_pos h1))
              have h1' : 4 < t.locs.length := by simp at h1; omega
              clear h1
              go_wp2_with fail
              go_quiet (fail)
              go_wp2_with fail
              go_ret2
              exact ⟨ret_two (congrArg Prod.fst HF.out) (congrArg Prod.snd HF.out), below_drewN HB3.out _⟩
          have HE2 := Lib.hid (HE.out.trans (if_neg (by rw [h1]; decide)))
          have HE3 := Lib.hid (HE0.out.trans (if_neg (by rw [h1]; decide)))
          have h1' : t.locs.length ≤ 4 := by simp at h1; omega
          clear HE HE0 h1
          go_wp2_with fail
          go_loopg [8, 9] t.locs.length (fun g s _ wx => W2 = wx ∧ ∃ (k' : Nat) (pre R' : List ByteArray), g = R'.length ∧ s = .int .i64 k' ∧ pre ++ R' = t.locs ∧ pre.length = k' ∧ locA p.ds p.ts t.locs [] = locA p.ds p.ts R' pre)
          case atStart => exact ⟨rfl, 0, [], t.locs, rfl, rfl, rfl, rfl, rfl⟩
          case round =>
            obtain ⟨rfl, k', pre, R', rfl, rfl, hds, hk', heq'⟩ := hrel
            have HE' := Lib.hid heq'
            have hlen' : k' + R'.length = t.locs.length := by rw [← hds, List.length_append, hk']
            have hrow := HTX.out.drop k'
            rw [Nat.zero_add, ← hds, ← hk', List.drop_left] at hrow
            rw [hk'] at hrow
            have HPR := Lib.hid ((hds ▸ HTX.out : TxAt W2 w.heap.size (pre ++ R') aol 0).take)
            have HDS := Lib.hid hds
            have HK := Lib.hid hk'
            clear hds hk' heq'
            cases R' with
            | nil =>
              obtain rfl : k' = t.locs.length := by simpa using hlen'
              have HF := Lib.hid (HE3.out.trans (if_neg (by rw [HE'.out]; simp [locA])))
              go_wp2_with fail
              go_roundg R.length
              case measure => simp
              case rel => exact ⟨k + 1, R, rfl, by go_num, by omega, HF.out, HRS.out, ⟨HY.out.1, HY.out.2.2.2.2.2⟩⟩
            | cons s R' =>
              obtain ⟨⟨b', off', rfl, hB', y0, hs⟩, -⟩ := hrow
              simp only [List.length_cons] at hlen'
              have hkl' : k' < t.locs.length := by omega
              have HL : Hid (locA p.ds p.ts t.locs [] = ((usedD p.ds s.toList || usedT p.ts s.toList) || inTx pre s.toList || locA p.ds p.ts R' (pre ++ [s]))) := Lib.hid (HE'.out.trans (by rw [locA]))
              have hpl : pre.length ≤ maxLen := by rw [HK.out]; omega
              have HDA := Lib.hid (RefDeclAt_any p.ds s W2 aoD capD hld' ((HP.out.2.2.1.below HY.out.1).mono HY.out.1.size))
              have HTA := Lib.hid (RefThreadAt_any p.ts s W2 (some ⟨b, off, none⟩) capT hlt' ((HP.out.2.2.2.below HY.out.1).mono HY.out.1.size))
              have HXA := Lib.hid (RefAt_any pre s W2 (some ⟨b', off', none⟩) capl hpl (HPR.out.mono HY.out.1.size))
              rw [HK.out] at HXA
              have hk0 : (0 : Int) ≤ k' := by omega
              have hk1 : (k' : Int) ≤ capl := by omega
              have hk2 : k' ≤ capl := by omega
              clear HE'
              go_upto_region 17 with fail
              go_cut [90] (fun s' W3 => W2 = W3 ∧ s' = .bool ((usedD p.ds s.toList || usedT p.ts s.toList) || inTx pre s.toList))
              case first =>
                as_aux_lemma =>
                  rcases atDe_used p.ds s with ⟨e1, e2⟩ | ⟨j, e1, e2⟩
                  · rcases atTh_used p.ts s with ⟨e3, e4⟩ | ⟨j, e3, e4⟩
                    · rcases atTx_used pre s with ⟨e5, e6⟩ | ⟨j, e5, e6⟩
                      all_goals
                        rw [e1] at HDA
                        rw [e3] at HTA
                        rw [e5] at HXA
                        have HF : Hid (usedD p.ds s.toList = false ∧ usedT p.ts s.toList = false ∧ inTx pre s.toList = _) := Lib.hid ⟨e2, e4, e6⟩
                        clear e1 e2 e3 e4 e5 e6
                        go_wp2_with (first | (go_at_call 55; refine HDA.out.mono ?_; rintro e w' ⟨rfl, rfl⟩) | (go_at_call 56; refine HTA.out.mono ?_; rintro e w' ⟨rfl, rfl⟩) | (go_at_call 57; refine HXA.out.mono ?_; rintro e w' ⟨rfl, rfl⟩))
                        go_meet
                        exact ⟨rfl, by rw [HF.out.1, HF.out.2.1, HF.out.2.2]; rfl⟩
                    · rw [e1] at HDA
                      rw [e3] at HTA
                      have HF : Hid (usedD p.ds s.toList = false ∧ usedT p.ts s.toList = true) := Lib.hid ⟨e2, e4⟩
                      clear e1 e2 e3 e4
                      go_wp2_with (first | (go_at_call 55; refine HDA.out.mono ?_; rintro e w' ⟨rfl, rfl⟩) | (go_at_call 56; refine HTA.out.mono ?_; rintro e w' ⟨rfl, rfl⟩))
                      go_meet
                      exact ⟨rfl, by rw [HF.out.1, HF.out.2]; rfl⟩
                  · rw [e1] at HDA
                    have HF := Lib.hid e2
                    clear e1 e2
                    go_wp2_with (go_at_call 55; refine HDA.out.mono ?_; rintro e w' ⟨rfl, rfl⟩)
                    go_meet
                    exact ⟨rfl, by rw [HF.out]; rfl⟩
              obtain ⟨rfl, rfl⟩ := hcut
              clear HDA HTA HXA
              cases hus : ((usedD p.ds s.toList || usedT p.ts s.toList) || inTx pre s.toList)
              · have HF : Hid (locA p.ds p.ts t.locs [] = locA p.ds p.ts R' (pre ++ [s])) := Lib.hid (HL.out.trans (by rw [hus]; rfl))
                go_wp2_with fail
                go_roundg R'.length
                case measure => simp
                case rel => exact ⟨rfl, k' + 1, pre ++ [s], R', rfl, by go_num, by rw [List.append_assoc]; exact HDS.out, by rw [List.length_append, HK.out]; rfl, HF.out⟩
              · have HF := Lib.hid (HE2.out.trans (if_pos (by rw [HL.out, hus]; rfl)))
                go_wp2_with fail
                go_quiet (fail)
                go_wp2_with fail
                go_ret2
                exact ⟨ret_two (congrArg Prod.fst HF.out) (congrArg Prod.snd HF.out), below_drewN HB3.out _⟩
end Go.Proofs.YtghdammalphmfaaDoor
end
section
namespace Go.Proofs.YtghdammalphmfaaDoor
open Go.RowKit
namespace Md
/-- The number of statements, with those inside them (as 64 bits hold it). -/
def cntA : StL → Int → Int
  | .nil, n => n
  | .cons _ b e r, n => cntA r (wrap64 (n + (cntA b b.len + cntA e e.len)))
def cntL (l : StL) : Int := cntA l l.len
end Md
open Md
theorem wrap_in (n x : Int) : wrap64 (n + wrap64 x) = wrap64 (n + x) := by
  unfold wrap64; omega
theorem wrap_in' (n x y : Int) : wrap64 (wrap64 (n + x) + y) = wrap64 (n + (x + y)) := by
  unfold wrap64; omega

def CntSays (l : StL) : Prop := ∀ (w : World) (ao : Option Addr) (cap : Nat), l.len ≤ maxLen → l.At w w.heap.size ao 0 →
  Calls Tryd.prog 30 #[.slice ao l.len cap] w fun e w' => e = .returned (.int .i64 (cntL l)) ∧ Below w.heap.size w w'
def RCntSays (l : StL) : Prop := ∀ (w : World) (ao : Option Addr) (cap : Nat), l.len ≤ maxLen → l.At w w.heap.size ao 0 →
  Calls Tryd.prog 15 #[.slice ao l.len cap] w fun e w' => e = .returned (.int .i64 (cntL l)) ∧ Below w.heap.size w w'

set_option maxHeartbeats 2000000 in
set_option maxRecDepth 100000 in
theorem count_of (l : StL) (hall : l.All fun _ b e => CntSays b ∧ CntSays e) : CntSays l := by
  intro w ao cap hl hat
  generalize hres : cntL l = res
  have HR := Lib.hid hres
  have HAT := Lib.hid hat
  have HAL := Lib.hid hall
  unfold maxLen at hl
  clear hres hat hall
  go_enter Tryd.func30, Tryd.ntmps30
  go_wp2_with fail
  go_loopw [3, 5, 10] (fun s3 _ s wr => ∃ (k : Nat) (R : StL) (n : Int), s = .int .i64 k ∧ s3 = .int .i64 n ∧ k + R.len = l.len ∧ res = cntA R n ∧ (R.All fun _ b e => CntSays b ∧ CntSays e) ∧ R.At wr wr.heap.size ao k ∧ Below w.heap.size w wr) (fun _ _ s _ => l.len - (intOf s).toNat)
  case atStart => exact ⟨0, l, l.len, rfl, rfl, by simp, HR.out.symm, HAL.out, HAT.out, Below.refl _ _⟩
  case round =>
    obtain ⟨k, R, n, rfl, rfl, hlen, heq, hall', hrow, hB⟩ := hrel
    have HE := Lib.hid heq
    have HB := Lib.hid hB
    clear heq hB
    cases R with
    | nil =>
      obtain rfl : k = l.len := by simpa [StL.len] using hlen
      go_wp2_with fail
      go_ret
      exact ⟨ret_int HE.out.symm, HB.out⟩
    | cons h b e R =>
      obtain ⟨bl, off, s, rfl, hbl, hin, x0, x1, x2, x3, x4, x5, x6, x7, x8, x9, x10, hrest⟩ := StL.At.head hrow
      obtain ⟨⟨hsb, hse⟩, hall''⟩ := hall'
      have HSB := Lib.hid hsb
      have HSE := Lib.hid hse
      have HIN := Lib.hid hin
      have hkl : k < l.len := by simp only [StL.len] at hlen; omega
      clear hrow hin hsb hse
      go_upto_region 5 with fail
      obtain ⟨nb, hnb⟩ : ∃ n, wr.heap.size = n := ⟨_, rfl⟩
      generalize hW2 : World.alloc wr _ = W2
      have HY : Hid (Sit wr W2 (stF nb h b e s [])) := Lib.hid (by rw [← hW2]; exact (Sit.start wr).box11 hnb _ _ _ _ _ _ _ _ _ _ _ _)
      rw [hnb]
      clear hW2 hnb x0 x1 x2 x3 x4 x5 x6 x7 x8 x9 x10
      obtain ⟨T, F, hinh, hst, hF, hnext⟩ := calm W2
      have HF := Lib.hid hF
      have HNX := Lib.hid hnext
      clear hnext hF
      have d0 := fun x => (HY.out.next (HF.out x)).2.1.2
      have d1 := fun x => (HY.out.next (HF.out x)).2.2.1.2
      have d2 := fun x => (HY.out.next (HF.out x)).2.2.2.1.2
      have d3 := fun x => (HY.out.next (HF.out x)).2.2.2.2.1.2
      have d4 := fun x => (HY.out.next (HF.out x)).2.2.2.2.2.1.2
      have d5 := fun x => (HY.out.next (HF.out x)).2.2.2.2.2.2.1.2
      have d6 := fun x => (HY.out.next (HF.out x)).2.2.2.2.2.2.2.1.2
      have d7 := fun x => (HY.out.next (HF.out x)).2.2.2.2.2.2.2.2.1.2
      have d8 := fun x => (HY.out.next (HF.out x)).2.2.2.2.2.2.2.2.2.1.2
      have d9 := fun x => (HY.out.next (HF.out x)).2.2.2.2.2.2.2.2.2.2.1.2
      have d10 := fun x => (HY.out.next (HF.out x)).2.2.2.2.2.2.2.2.2.2.2.1.2
      clear d0 d1 d2 d3 d4 d5 d6 d7 d8
      refine region_calm F (by kernel_rfl) (by kernel_rfl) hst ?_
      repeat (any_goals (first | go_big_quiet_step ((first | (go_at_call_of 30 (Value.slice s.aob b.len s.capb); refine (HSB.out _ s.aob s.capb HIN.out.1.2.2.2.2.2.2.1 ((HIN.out.same HY.out.1).same (HF.out _)).2.2.2.1).mono ?_; rintro e w' ⟨rfl, hb⟩; exact ⟨rfl, HNX.out _ _ hb⟩) | (go_at_call_of 30 (Value.slice s.aoe e.len s.cape); refine (HSE.out _ s.aoe s.cape HIN.out.1.2.2.2.2.2.2.2 ((HIN.out.same HY.out.1).same (HF.out _)).2.2.2.2).mono ?_; rintro e w' ⟨rfl, hb⟩; exact ⟨rfl, HNX.out _ _ hb⟩))) | (refine wpQuiet_step (fun K hK => ?_); go_simp; first | (refine hK _ ?_; clear hK K) | (split <;> first | (refine hK _ ?_; clear hK K) | (apply Exists.intro; refine ⟨fun _ => ?_, hK _ ?_⟩; ((first | (go_at_call_of 30 (Value.slice s.aob b.len s.capb); refine (HSB.out _ s.aob s.capb HIN.out.1.2.2.2.2.2.2.1 ((HIN.out.same HY.out.1).same (HF.out _)).2.2.2.1).mono ?_; rintro e w' ⟨rfl, hb⟩; exact ⟨rfl, HNX.out _ _ hb⟩) | (go_at_call_of 30 (Value.slice s.aoe e.len s.cape); refine (HSE.out _ s.aoe s.cape HIN.out.1.2.2.2.2.2.2.2 ((HIN.out.same HY.out.1).same (HF.out _)).2.2.2.2).mono ?_; rintro e w' ⟨rfl, hb⟩; exact ⟨rfl, HNX.out _ _ hb⟩))); clear hK K)))))
      all_goals (refine wpQuiet_nil ?_; rintro _ ⟨x, rfl⟩)
      have HB2 := Lib.hid (HY.out.1.trans ((HF.out x).mono HY.out.1.size))
      clear d9 d10 HF HNX hst
      generalize F x = W3 at *
      go_wp2_with fail
      go_roundw
      case rel => exact ⟨k + 1, R, _, by go_num, rfl, by simp only [StL.len] at hlen; omega, HE.out.trans (show cntA R (wrap64 (n + (cntL b + cntL e))) = _ by rw [← wrap_in]), hall'', hrest.same HB2.out, HB.out.trans (HB2.out.mono HB.out.size)⟩
      case measure => simp [intOf]; omega
theorem count_any (l : StL) : CntSays l := count_of l (StL.all_of (fun _ b e hb he => ⟨count_of b hb, count_of e he⟩) l)

set_option maxHeartbeats 2000000 in
set_option maxRecDepth 100000 in
theorem RefCount_of (l : StL) (hall : l.All fun _ b e => RCntSays b ∧ RCntSays e) : RCntSays l := by
  intro w ao cap hl hat
  generalize hres : cntL l = res
  have HR := Lib.hid hres
  have HAT := Lib.hid hat
  have HAL := Lib.hid hall
  unfold maxLen at hl
  clear hres hat hall
  go_enter Tryd.func15, Tryd.ntmps15
  go_wp2_with fail
  go_loopw [3, 4] (fun s3 s wr => ∃ (k : Nat) (R : StL) (n : Int), s = .int .i64 k ∧ s3 = .int .i64 n ∧ k + R.len = l.len ∧ res = cntA R n ∧ (R.All fun _ b e => RCntSays b ∧ RCntSays e) ∧ R.At wr wr.heap.size ao k ∧ Below w.heap.size w wr) (fun _ s _ => l.len - (intOf s).toNat)
  case atStart => exact ⟨0, l, l.len, rfl, rfl, by simp, HR.out.symm, HAL.out, HAT.out, Below.refl _ _⟩
  case round =>
    obtain ⟨k, R, n, rfl, rfl, hlen, heq, hall', hrow, hB⟩ := hrel
    have HE := Lib.hid heq
    have HB := Lib.hid hB
    clear heq hB
    cases R with
    | nil =>
      obtain rfl : k = l.len := by simpa [StL.len] using hlen
      go_wp2_with fail
      go_ret
      exact ⟨ret_int HE.out.symm, HB.out⟩
    | cons h b e R =>
      obtain ⟨bl, off, s, rfl, hbl, hin, -, -, -, -, -, -, -, -, -, x9, x10, hrest⟩ := StL.At.head hrow
      obtain ⟨⟨hsb, hse⟩, hall''⟩ := hall'
      have HSB := Lib.hid hsb
      have HSE := Lib.hid hse
      have HIN := Lib.hid hin
      have hkl : k < l.len := by simp only [StL.len] at hlen; omega
      have hk0 : (0 : Int) ≤ k := by omega
      have hk1 : (k : Int) < l.len := by omega
      clear hrow hin hsb hse
      go_wp2_with fail
      obtain ⟨T, F, hinh, hst, hF, hnext⟩ := calm wr
      have HF := Lib.hid hF
      have HNX := Lib.hid hnext
      clear hF hnext
      have y9 := fun x => ((HF.out x).cell (p := ⟨bl, off + k * 11 + 9, none⟩) hbl).trans x9
      have y10 := fun x => ((HF.out x).cell (p := ⟨bl, off + k * 11 + 10, none⟩) hbl).trans x10
      clear x9 x10
      refine region_calm F (by kernel_rfl) (by kernel_rfl) hst ?_
      repeat (any_goals (first | go_big_quiet_step ((first | (go_at_call_of 15 (Value.slice s.aob b.len s.capb); refine (HSB.out _ s.aob s.capb HIN.out.1.2.2.2.2.2.2.1 (HIN.out.same (HF.out _)).2.2.2.1).mono ?_; rintro e w' ⟨rfl, hb⟩; exact ⟨rfl, HNX.out _ _ hb⟩) | (go_at_call_of 15 (Value.slice s.aoe e.len s.cape); refine (HSE.out _ s.aoe s.cape HIN.out.1.2.2.2.2.2.2.2 (HIN.out.same (HF.out _)).2.2.2.2).mono ?_; rintro e w' ⟨rfl, hb⟩; exact ⟨rfl, HNX.out _ _ hb⟩))) | (refine wpQuiet_step (fun K hK => ?_); go_simp; first | (refine hK _ ?_; clear hK K) | (split <;> first | (refine hK _ ?_; clear hK K) | (apply Exists.intro; refine ⟨fun _ => ?_, hK _ ?_⟩; ((first | (go_at_call_of 15 (Value.slice s.aob b.len s.capb); refine (HSB.out _ s.aob s.capb HIN.out.1.2.2.2.2.2.2.1 (HIN.out.same (HF.out _)).2.2.2.1).mono ?_; rintro e w' ⟨rfl, hb⟩; exact ⟨rfl, HNX.out _ _ hb⟩) | (go_at_call_of 15 (Value.slice s.aoe e.len s.cape); refine (HSE.out _ s.aoe s.cape HIN.out.1.2.2.2.2.2.2.2 (HIN.out.same (HF.out _)).2.2.2.2).mono ?_; rintro e w' ⟨rfl, hb⟩; exact ⟨rfl, HNX.out _ _ hb⟩))); clear hK K)))))
      all_goals (refine wpQuiet_nil ?_; rintro _ ⟨x, rfl⟩)
      have HB2 := Lib.hid (HF.out x)
      clear y9 y10 HF HNX hst
      generalize F x = W3 at *
      go_wp2_with fail
      go_roundw
      case rel => exact ⟨k + 1, R, _, by go_num, rfl, by simp only [StL.len] at hlen; omega, HE.out.trans (show cntA R (wrap64 (n + (cntL b + cntL e))) = _ by rw [← wrap_in']), hall'', hrest.same HB2.out, HB.out.trans (HB2.out.mono HB.out.size)⟩
      case measure => simp [intOf]; omega
theorem RefCount_any (l : StL) : RCntSays l := RefCount_of l (StL.all_of (fun _ b e hb he => ⟨RefCount_of b hb, RefCount_of e he⟩) l)
end Go.Proofs.YtghdammalphmfaaDoor
end
section
namespace Go.Proofs.YtghdammalphmfaaDoor
open Go.RowKit
open Md
theorem atDe_mD (pre : List De) (nm : ByteArray) : (atDe pre nm = -1 ∧ mD pre nm.toList = 0) ∨ ∃ (j : Nat) (d : De) (r : List De), j < pre.length ∧ atDe pre nm = (j : Int) ∧ pre.drop j = d :: r ∧ mD pre nm.toList = declM d := by
  unfold atDe mD
  rcases fidx_spec (fun d : De => d.nm.toList == nm.toList) pre 0 with ⟨h1, h2, h3⟩ | ⟨j, d, r, h0, h1, h2, h3, h4⟩
  · exact Or.inl ⟨h1, by rw [h2]; rfl⟩
  · exact Or.inr ⟨j, d, r, h0, by rw [h1, Nat.zero_add], h2, by rw [h3]; rfl⟩
theorem declM_mutex {d : De} : (declM d != 4) = (d.kind != 3) := by unfold declM; grind
/-- What holds at each round. -/
def DclRelR (ds : List De) (w : World) (res : Int × Int) (g : Nat) (s4 s5 s6 s7 s8 : Value) (wr : World) : Prop :=
  ∃ (k : Nat) (pre R : List De) (c l n f : Int), g = R.length ∧ s8 = .int .i64 k ∧ pre ++ R = ds ∧ pre.length = k ∧ s4 = .int .i64 c ∧ s5 = .int .i64 l ∧ s6 = .int .i64 n ∧ s7 = .int .i64 f ∧
    (0 ≤ c ∧ c ≤ 12 ∧ 0 ≤ l ∧ l ≤ 4 ∧ 0 ≤ n ∧ n ≤ 2 ∧ 0 ≤ f ∧ f ≤ 2) ∧ res = dclS R pre c l n f ∧ Below w.heap.size w wr

set_option maxHeartbeats 4000000 in
set_option maxRecDepth 100000 in
theorem RefDecls_any (ds : List De) (w : World) (ao : Option Addr) (cap : Nat) (hl : ds.length ≤ maxLen) (hcap : ds.length ≤ cap) (hat : DeAt w w.heap.size ds ao 0) (hsh : ∀ d ∈ ds, shpD d = true) :
    Calls Tryd.prog 33 #[.slice ao ds.length cap] w fun e w' => e = .returned (.tuple #[.int .i64 (dclS ds [] 0 0 0 0).1, .int .i64 (dclS ds [] 0 0 0 0).2]) ∧ Below w.heap.size w w' := by
  generalize hres : dclS ds [] 0 0 0 0 = res
  have HR := Lib.hid hres
  have HAT := Lib.hid hat
  have HSH := Lib.hid hsh
  have hl' := hl
  unfold maxLen at hl
  clear hres hat hsh
  go_enter Tryd.func33, Tryd.ntmps33
  go_wp2_with fail
  go_loopg [4, 5, 6, 7, 8, 9, 10] ds.length (fun g s4 s5 s6 s7 s8 _ _ wr => DclRelR ds w res g s4 s5 s6 s7 s8 wr)
  case atStart => exact ⟨0, [], ds, 0, 0, 0, 0, rfl, rfl, rfl, rfl, rfl, rfl, rfl, rfl, by decide, HR.out.symm, Below.refl _ _⟩
  case round =>
    obtain ⟨k, pre, R, c, l, n, f, rfl, rfl, hds, hk, rfl, rfl, rfl, rfl, ⟨q1, q2, l1, l2, n1, n2, f1, f2⟩, hr, hB⟩ := hrel
    have HE := Lib.hid hr
    have HB := Lib.hid hB
    clear hr hB HR
    have hlen : k + R.length = ds.length := by rw [← hds, List.length_append, hk]
    have hrow := (HAT.out.below HB.out).drop k
    rw [Nat.zero_add, ← hds, ← hk, List.drop_left] at hrow
    rw [hk] at hrow
    cases R with
    | nil =>
      obtain rfl : k = ds.length := by simpa using hlen
      have HF := Lib.hid (HE.out.trans (rfl : _ = ((0 : Int), (0 : Int))))
      clear HE hds hk hrow
      go_wp2_with fail
      go_ret2
      exact ⟨ret_two (congrArg Prod.fst HF.out) (congrArg Prod.snd HF.out), HB.out⟩
    | cons d R =>
      have hsd := shpD_facts (HSH.out d (by rw [← hds]; simp))
      have HDS := Lib.hid hds
      have HK := Lib.hid hk
      have HPR := Lib.hid ((hds ▸ HAT.out : DeAt w w.heap.size (pre ++ d :: R) ao 0).take)
      clear hds hk
      obtain ⟨⟨b, off, rfl, hbB, x0, x1, x2, x3, x4, x5, hok⟩, -⟩ := hrow
      simp only [List.length_cons] at hlen
      have hkl : k < ds.length := by omega
      obtain ⟨g1, g2, g3, g4⟩ := hsd
      rw [dclS_cons] at HE
      go_upto_region 6 with fail
      obtain ⟨nb, hnb⟩ : ∃ n, wr.heap.size = n := ⟨_, rfl⟩
      generalize hW2 : World.alloc wr _ = W2
      have HB2 : Hid (Below w.heap.size w W2) := Lib.hid (by rw [← hW2]; exact HB.out.alloc HB.out.size _)
      have HY : Hid (Sit wr W2 [(nb, 0, .int .i64 d.kind), (nb, 1, .int .i64 d.line), (nb, 2, .string d.nm), (nb, 3, .int .i64 d.size), (nb, 4, .int .i64 d.init), (nb, 5, .string d.on)]) := Lib.hid (by rw [← hW2]; exact (Sit.start wr).box6 hnb _ _ _ _ _ _ _)
      rw [hnb]
      clear hW2 hnb x0 x1 x2 x3 x4 x5 HB
      obtain ⟨-, ⟨-, c0⟩, ⟨-, c1⟩, ⟨-, c2⟩, ⟨-, c3⟩, ⟨-, c4⟩, ⟨-, c5⟩, -⟩ := HY.out
      have hpl : pre.length ≤ maxLen := by rw [HK.out]; omega
      have HDA : Hid (∀ (nm : ByteArray) (nq : Nat), Calls Tryd.prog 55 #[.slice (some ⟨b, off, none⟩) k cap, .string nm] (W2.drewN nq) fun e w' => e = .returned (.int .i64 (atDe pre nm)) ∧ W2.drewN nq = w') := Lib.hid (fun nm nq => by
        have hb' := below_drewN (n := nq) HB2.out
        have := RefDeclAt_any pre nm (W2.drewN nq) (some ⟨b, off, none⟩) cap hpl ((HPR.out.below hb').mono hb'.size)
        rw [HK.out] at this
        exact this)
      have hk0 : (0 : Int) ≤ k := by omega
      have hk1 : (k : Int) ≤ cap := by omega
      have hk2 : k ≤ cap := by omega
      go_quiet ((go_at_call 55; exact quiet_eq (HDA.out _ _)))
      have HZ := Lib.hid (HY.out.draws nq)
      have HB3 := Lib.hid (below_drewN (n := nq) HB2.out)
      clear HY HB2 HDA c0 c1 c2 c3 c4 c5
      generalize W2.drewN nq = w3 at *
      obtain ⟨-, ⟨-, c0⟩, ⟨-, c1⟩, ⟨-, c2⟩, ⟨-, c3⟩, ⟨-, c4⟩, ⟨-, c5⟩, -⟩ := HZ.out
      rcases atDe_mD pre d.nm with ⟨e1, e2⟩ | ⟨j, d', r, e0, e1, -, e2⟩
      case inr =>
        as_aux_lemma =>
          rw [e1]
          have HF := Lib.hid (HE.out.trans (if_pos (by rw [e2, bne_iff_ne]; have := declM_range d'; omega)))
          clear e1 e2
          go_wp2_with fail
          go_quiet (fail)
          go_wp2_with fail
          go_ret2
          exact ⟨ret_two (congrArg Prod.fst HF.out) (congrArg Prod.snd HF.out), below_drewN HB3.out _⟩
      rw [e1]
      have h0 : (mD pre d.nm.toList != 0) = false := by rw [e2]; rfl
      have HE2 := Lib.hid (HE.out.trans (if_neg (by rw [h0]; decide)))
      clear HE e1 e2
      go_upto_region 8 with fail
      cases h1 : decide (4 < d.size)
      case true =>
        as_aux_lemma =>
          have HF := Lib.hid (HE2.out.trans (if_pos h1))
          have h1' : 4 < d.size := by simpa using h1
          go_wp2_with fail
          go_quiet (fail)
          go_wp2_with fail
          go_ret2
          exact ⟨ret_two (congrArg Prod.fst HF.out) (congrArg Prod.snd HF.out), below_drewN HB3.out _⟩
      have HE3 := Lib.hid (HE2.out.trans (if_neg (by rw [h1]; decide)))
      have h1' : d.size ≤ 4 := by simpa using h1
      clear HE2 h1
      go_upto_region 10 with fail

      go_upto_block 2 with (fail)
      go_cut [4, 5, 6, 7, 36] (fun s4 s5 s6 s7 _ W3 => w3 = W3 ∧ s4 = .int .i64 (dc d c) ∧ s5 = .int .i64 (dl d l) ∧ s6 = .int .i64 (dn d n) ∧ s7 = .int .i64 (df d f))
      case first =>
        as_aux_lemma =>
          have hkd : d.kind = 1 ∨ d.kind = 2 ∨ d.kind = 3 ∨ d.kind = 4 ∨ d.kind = 5 ∨ d.kind = 6 := by omega
          have hmx : 0 ≤ max d.size 1 ∧ max d.size 1 ≤ 4 := by omega
          rcases hkd with hkd | hkd | hkd | hkd | hkd | hkd
          · have HA : Hid (dc d c = c + max d.size 1 ∧ dl d l = l ∧ dn d n = n ∧ df d f = f) := Lib.hid (by simp [dc, dl, dn, df, hkd] <;> first | rfl | omega)
            have hk3 : (d.kind == 1) = true := by rw [hkd]; rfl
            have hk4 : (d.kind == 2) = false := by rw [hkd]; rfl
            have hk5 : (d.kind == 3) = false := by rw [hkd]; rfl
            have hk6 : (d.kind == 4) = false := by rw [hkd]; rfl
            have hk7 : (d.kind == 5) = false := by rw [hkd]; rfl
            clear hkd
            go_wp2_with fail
            go_meet
            exact ⟨rfl, by rw [HA.out.1], by rw [HA.out.2.1], by rw [HA.out.2.2.1], by rw [HA.out.2.2.2]⟩
          · have HA : Hid (dc d c = c + max d.size 1 ∧ dl d l = l ∧ dn d n = n ∧ df d f = f) := Lib.hid (by simp [dc, dl, dn, df, hkd] <;> first | rfl | omega)
            have hk3 : (d.kind == 1) = false := by rw [hkd]; rfl
            have hk4 : (d.kind == 2) = true := by rw [hkd]; rfl
            have hk5 : (d.kind == 3) = false := by rw [hkd]; rfl
            have hk6 : (d.kind == 4) = false := by rw [hkd]; rfl
            have hk7 : (d.kind == 5) = false := by rw [hkd]; rfl
            clear hkd
            go_wp2_with fail
            go_meet
            exact ⟨rfl, by rw [HA.out.1], by rw [HA.out.2.1], by rw [HA.out.2.2.1], by rw [HA.out.2.2.2]⟩
          · have HA : Hid (dc d c = c ∧ dl d l = l + 1 ∧ dn d n = n ∧ df d f = f) := Lib.hid (by simp [dc, dl, dn, df, hkd] <;> first | rfl | omega)
            have hk3 : (d.kind == 1) = false := by rw [hkd]; rfl
            have hk4 : (d.kind == 2) = false := by rw [hkd]; rfl
            have hk5 : (d.kind == 3) = true := by rw [hkd]; rfl
            have hk6 : (d.kind == 4) = false := by rw [hkd]; rfl
            have hk7 : (d.kind == 5) = false := by rw [hkd]; rfl
            clear hkd
            go_wp2_with fail
            go_meet
            exact ⟨rfl, by rw [HA.out.1], by rw [HA.out.2.1], by rw [HA.out.2.2.1], by rw [HA.out.2.2.2]⟩
          · have HA : Hid (dc d c = c ∧ dl d l = l + 1 ∧ dn d n = n ∧ df d f = f) := Lib.hid (by simp [dc, dl, dn, df, hkd] <;> first | rfl | omega)
            have hk3 : (d.kind == 1) = false := by rw [hkd]; rfl
            have hk4 : (d.kind == 2) = false := by rw [hkd]; rfl
            have hk5 : (d.kind == 3) = false := by rw [hkd]; rfl
            have hk6 : (d.kind == 4) = true := by rw [hkd]; rfl
            have hk7 : (d.kind == 5) = false := by rw [hkd]; rfl
            clear hkd
            go_wp2_with fail
            go_meet
            exact ⟨rfl, by rw [HA.out.1], by rw [HA.out.2.1], by rw [HA.out.2.2.1], by rw [HA.out.2.2.2]⟩
          · have HA : Hid (dc d c = c ∧ dl d l = l ∧ dn d n = n + 1 ∧ df d f = f) := Lib.hid (by simp [dc, dl, dn, df, hkd] <;> first | rfl | omega)
            have hk3 : (d.kind == 1) = false := by rw [hkd]; rfl
            have hk4 : (d.kind == 2) = false := by rw [hkd]; rfl
            have hk5 : (d.kind == 3) = false := by rw [hkd]; rfl
            have hk6 : (d.kind == 4) = false := by rw [hkd]; rfl
            have hk7 : (d.kind == 5) = true := by rw [hkd]; rfl
            clear hkd
            go_wp2_with fail
            go_meet
            exact ⟨rfl, by rw [HA.out.1], by rw [HA.out.2.1], by rw [HA.out.2.2.1], by rw [HA.out.2.2.2]⟩
          · have HA : Hid (dc d c = c ∧ dl d l = l ∧ dn d n = n ∧ df d f = f + 1) := Lib.hid (by simp [dc, dl, dn, df, hkd] <;> first | rfl | omega)
            have hk3 : (d.kind == 1) = false := by rw [hkd]; rfl
            have hk4 : (d.kind == 2) = false := by rw [hkd]; rfl
            have hk5 : (d.kind == 3) = false := by rw [hkd]; rfl
            have hk6 : (d.kind == 4) = false := by rw [hkd]; rfl
            have hk7 : (d.kind == 5) = false := by rw [hkd]; rfl
            clear hkd
            go_wp2_with fail
            go_meet
            exact ⟨rfl, by rw [HA.out.1], by rw [HA.out.2.1], by rw [HA.out.2.2.1], by rw [HA.out.2.2.2]⟩
      obtain ⟨rfl, rfl, rfl, rfl, rfl⟩ := hcut
      have hc' : 0 ≤ dc d c ∧ dc d c ≤ 16 := by unfold dc; split <;> omega
      have hl'' : 0 ≤ dl d l ∧ dl d l ≤ 5 := by unfold dl; split <;> omega
      have hn' : 0 ≤ dn d n ∧ dn d n ≤ 3 := by unfold dn; split <;> omega
      have hf' : 0 ≤ df d f ∧ df d f ≤ 3 := by unfold df; split <;> omega
      generalize hcc : dc d c = c' at *
      generalize hll : dl d l = l' at *
      generalize hnn : dn d n = n' at *
      generalize hff : df d f = f' at *
      clear hcc hll hnn hff
      go_upto_region 20 with fail
      go_cut [69] (fun s' W3 => w3 = W3 ∧ s' = .bool (lim c' l' n' f'))
      case first =>
        as_aux_lemma =>
          have HF : Hid (lim c' l' n' f' = (((decide (12 < c') || decide (4 < l')) || decide (2 < n')) || decide (2 < f'))) := Lib.hid rfl
          go_wp2_with fail
          all_goals go_meet
          all_goals exact ⟨rfl, by first | (rw [HF.out]; done) | (rw [HF.out]; congr 1; go_light; grind)⟩
      obtain ⟨rfl, rfl⟩ := hcut
      cases h2 : lim c' l' n' f'
      case true =>
        as_aux_lemma =>
          have HF := Lib.hid (HE3.out.trans (if_pos h2))
          go_wp2_with fail
          go_quiet (fail)
          go_wp2_with fail
          go_ret2
          exact ⟨ret_two (congrArg Prod.fst HF.out) (congrArg Prod.snd HF.out), below_drewN HB3.out _⟩
      have HE4 := Lib.hid (HE3.out.trans (if_neg (by rw [h2]; decide)))
      have hlim : c' ≤ 12 ∧ l' ≤ 4 ∧ n' ≤ 2 ∧ f' ≤ 2 := by unfold lim at h2; simp at h2; omega
      clear HE3 h2
      go_upto_region 22 with fail
      cases h5 : (d.kind == 5)
      · have HF := Lib.hid (HE4.out.trans ((if_neg (by rw [h5]; simp)).trans (if_neg (by rw [h5]; simp))))
        clear HE4
        go_wp2_with fail
        go_roundg R.length
        case measure => simp
        case rel => exact ⟨k + 1, pre ++ [d], R, c', l', n', f', rfl, by go_num, by rw [List.append_assoc]; exact HDS.out, by rw [List.length_append, HK.out]; rfl, rfl, rfl, rfl, rfl, by omega, HF.out, HB3.out⟩
      · go_wp2_with fail
        have HDA : Hid (∀ (nm : ByteArray) (nq : Nat), Calls Tryd.prog 55 #[.slice (some ⟨b, off, none⟩) k cap, .string nm] (w3.drewN nq) fun e w' => e = .returned (.int .i64 (atDe pre nm)) ∧ w3.drewN nq = w') := Lib.hid (fun nm nq => by
          have hb' := below_drewN (n := nq) HB3.out
          have := RefDeclAt_any pre nm (w3.drewN nq) (some ⟨b, off, none⟩) cap hpl ((HPR.out.below hb').mono hb'.size)
          rw [HK.out] at this
          exact this)
        go_quiet ((go_at_call 55; exact quiet_eq (HDA.out _ _)))
        have HZ2 := Lib.hid (HZ.out.draws nq)
        have HB4 := Lib.hid (below_drewN (n := nq) HB3.out)
        clear HZ HDA c0 c1 c2 c3 c4 c5 HB3
        generalize w3.drewN nq = w5 at *
        have HB3 := HB4
        clear HB4
        obtain ⟨-, ⟨-, c0⟩, ⟨-, c1⟩, ⟨-, c2⟩, ⟨-, c3⟩, ⟨-, c4⟩, ⟨-, c5⟩, -⟩ := HZ2.out
        rcases atDe_mD pre d.on with ⟨e1, e2⟩ | ⟨j, d', r, e0, e1, e3, e2⟩
        · have HF := Lib.hid (HE4.out.trans (if_pos (by rw [h5, e2]; rfl)))
          rw [e1]
          clear e1 e2
          go_wp2_with fail
          go_quiet (fail)
          go_wp2_with fail
          go_ret2
          exact ⟨ret_two (congrArg Prod.fst HF.out) (congrArg Prod.snd HF.out), below_drewN HB3.out _⟩
        · have HE5 := Lib.hid (HE4.out.trans (if_neg (by rw [h5, e2]; have := declM_range d'; simp; omega)))
          rw [e2, declM_mutex] at HE5
          have hrow := (HPR.out.below HB3.out).drop j
          rw [e3, Nat.zero_add] at hrow
          obtain ⟨⟨b2, off2, hbe, hbB2, z0, -⟩, -⟩ := hrow
          obtain ⟨rfl, rfl⟩ : b = b2 ∧ off = off2 := by injection hbe with h; injection h with h1 h2; exact ⟨h1, h2⟩
          have hjl : j < ds.length := by have := HK.out; omega
          rw [e1]
          clear e1 e2 e3 hbe HE4
          cases h8 : (d'.kind != 3)
          case true =>
            as_aux_lemma =>
              have HF := Lib.hid (HE5.out.trans (if_pos (by rw [h5, h8]; rfl)))
              go_wp2_with fail
              go_quiet (fail)
              go_wp2_with fail
              go_ret2
              exact ⟨ret_two (congrArg Prod.fst HF.out) (congrArg Prod.snd HF.out), below_drewN HB3.out _⟩
          have HF := Lib.hid (HE5.out.trans (if_neg (by rw [h5, h8]; decide)))
          clear HE5
          go_wp2_with fail
          go_roundg R.length
          case measure => simp
          case rel => exact ⟨k + 1, pre ++ [d], R, c', l', n', f', rfl, by go_num, by rw [List.append_assoc]; exact HDS.out, by rw [List.length_append, HK.out]; rfl, rfl, rfl, rfl, rfl, by omega, HF.out, HB3.out⟩
end Go.Proofs.YtghdammalphmfaaDoor
end
