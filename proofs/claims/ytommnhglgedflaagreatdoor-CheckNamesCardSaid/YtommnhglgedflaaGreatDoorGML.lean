/-
  Contract of check.count.
  Contract of check.Program.
-/
import Derived.Test.YtommnhglgedflaaGreatDoorGMD
import Derived.IntWalk
import Derived.Deep.RegionWith
import Derived.Test.YtommnhglgedflaaGreatDoorGMK
import Derived.Test.YtommnhglgedflaaGreatDoorGME
section
namespace Go.Proofs.YtommnhglgedflaaGreatDoor
open Go.RowKit
namespace Md
/-- The number of statements, with those inside them (as 64 bits hold it). -/
def cntA : StL → Int → Int
  | .nil, n => n
  | .cons _ b e r, n => cntA r (wrap64 (n + (cntA b b.len + cntA e e.len)))
def cntL (l : StL) : Int := cntA l l.len
end Md
open Md
theorem wrap_in (n x : Int) : wrap64 (n + wrap64 x) = wrap64 (n + x) := by
  unfold wrap64; omega
theorem wrap_in' (n x y : Int) : wrap64 (wrap64 (n + x) + y) = wrap64 (n + (x + y)) := by
  unfold wrap64; omega

def CntSays (l : StL) : Prop := ∀ (w : World) (ao : Option Addr) (cap : Nat), l.len ≤ maxLen → l.At w w.heap.size ao 0 →
  Calls Tryz.prog 90 #[.slice ao l.len cap] w fun e w' => e = .returned (.int .i64 (cntL l)) ∧ Below w.heap.size w w'
set_option maxHeartbeats 2000000 in
set_option maxRecDepth 100000 in
theorem count_of (l : StL) (hall : l.All fun _ b e => CntSays b ∧ CntSays e) : CntSays l := by
  intro w ao cap hl hat
  generalize hres : cntL l = res
  have HR := Lib.hid hres
  have HAT := Lib.hid hat
  have HAL := Lib.hid hall
  unfold maxLen at hl
  clear hres hat hall
  go_enter Tryz.func90, Tryz.ntmps90
  go_wp2_with fail
  go_loopw [3, 5, 10] (fun s3 _ s wr => ∃ (k : Nat) (R : StL) (n : Int), s = .int .i64 k ∧ s3 = .int .i64 n ∧ k + R.len = l.len ∧ res = cntA R n ∧ (R.All fun _ b e => CntSays b ∧ CntSays e) ∧ R.At wr wr.heap.size ao k ∧ Below w.heap.size w wr) (fun _ _ s _ => l.len - (intOf s).toNat)
  case atStart => exact ⟨0, l, l.len, rfl, rfl, by simp, HR.out.symm, HAL.out, HAT.out, Below.refl _ _⟩
  case round =>
    obtain ⟨k, R, n, rfl, rfl, hlen, heq, hall', hrow, hB⟩ := hrel
    have HE := Lib.hid heq
    have HB := Lib.hid hB
    clear heq hB
    cases R with
    | nil =>
      obtain rfl : k = l.len := by simpa [StL.len] using hlen
      go_wp2_with fail
      go_ret
      exact ⟨ret_int HE.out.symm, HB.out⟩
    | cons h b e R =>
      obtain ⟨bl, off, s, rfl, hbl, hin, x0, x1, x2, x3, x4, x5, x6, x7, x8, x9, x10, hrest⟩ := StL.At.head hrow
      obtain ⟨⟨hsb, hse⟩, hall''⟩ := hall'
      have HSB := Lib.hid hsb
      have HSE := Lib.hid hse
      have HIN := Lib.hid hin
      have hkl : k < l.len := by simp only [StL.len] at hlen; omega
      clear hrow hin hsb hse
      go_upto_region 5 with fail
      obtain ⟨nb, hnb⟩ : ∃ n, wr.heap.size = n := ⟨_, rfl⟩
      generalize hW2 : World.alloc wr _ = W2
      have HY : Hid (Sit wr W2 (stF nb h b e s [])) := Lib.hid (by rw [← hW2]; exact (Sit.start wr).box11 hnb _ _ _ _ _ _ _ _ _ _ _ _)
      rw [hnb]
      clear hW2 hnb x0 x1 x2 x3 x4 x5 x6 x7 x8 x9 x10
      obtain ⟨T, F, hinh, hst, hF, hnext⟩ := calm W2
      have HF := Lib.hid hF
      have HNX := Lib.hid hnext
      clear hnext hF
      have d0 := fun x => (HY.out.next (HF.out x)).2.1.2
      have d1 := fun x => (HY.out.next (HF.out x)).2.2.1.2
      have d2 := fun x => (HY.out.next (HF.out x)).2.2.2.1.2
      have d3 := fun x => (HY.out.next (HF.out x)).2.2.2.2.1.2
      have d4 := fun x => (HY.out.next (HF.out x)).2.2.2.2.2.1.2
      have d5 := fun x => (HY.out.next (HF.out x)).2.2.2.2.2.2.1.2
      have d6 := fun x => (HY.out.next (HF.out x)).2.2.2.2.2.2.2.1.2
      have d7 := fun x => (HY.out.next (HF.out x)).2.2.2.2.2.2.2.2.1.2
      have d8 := fun x => (HY.out.next (HF.out x)).2.2.2.2.2.2.2.2.2.1.2
      have d9 := fun x => (HY.out.next (HF.out x)).2.2.2.2.2.2.2.2.2.2.1.2
      have d10 := fun x => (HY.out.next (HF.out x)).2.2.2.2.2.2.2.2.2.2.2.1.2
      clear d0 d1 d2 d3 d4 d5 d6 d7 d8
      refine region_calm F (by kernel_rfl) (by kernel_rfl) hst ?_
      repeat (any_goals (first | go_big_quiet_step ((first | (go_at_call_of 90 (Value.slice s.aob b.len s.capb); refine (HSB.out _ s.aob s.capb HIN.out.1.2.2.2.2.2.2.1 ((HIN.out.same HY.out.1).same (HF.out _)).2.2.2.1).mono ?_; rintro e w' ⟨rfl, hb⟩; exact ⟨rfl, HNX.out _ _ hb⟩) | (go_at_call_of 90 (Value.slice s.aoe e.len s.cape); refine (HSE.out _ s.aoe s.cape HIN.out.1.2.2.2.2.2.2.2 ((HIN.out.same HY.out.1).same (HF.out _)).2.2.2.2).mono ?_; rintro e w' ⟨rfl, hb⟩; exact ⟨rfl, HNX.out _ _ hb⟩))) | (refine wpQuiet_step (fun K hK => ?_); go_simp; first | (refine hK _ ?_; clear hK K) | (split <;> first | (refine hK _ ?_; clear hK K) | (apply Exists.intro; refine ⟨fun _ => ?_, hK _ ?_⟩; ((first | (go_at_call_of 90 (Value.slice s.aob b.len s.capb); refine (HSB.out _ s.aob s.capb HIN.out.1.2.2.2.2.2.2.1 ((HIN.out.same HY.out.1).same (HF.out _)).2.2.2.1).mono ?_; rintro e w' ⟨rfl, hb⟩; exact ⟨rfl, HNX.out _ _ hb⟩) | (go_at_call_of 90 (Value.slice s.aoe e.len s.cape); refine (HSE.out _ s.aoe s.cape HIN.out.1.2.2.2.2.2.2.2 ((HIN.out.same HY.out.1).same (HF.out _)).2.2.2.2).mono ?_; rintro e w' ⟨rfl, hb⟩; exact ⟨rfl, HNX.out _ _ hb⟩))); clear hK K)))))
      all_goals (refine wpQuiet_nil ?_; rintro _ ⟨x, rfl⟩)
      have HB2 := Lib.hid (HY.out.1.trans ((HF.out x).mono HY.out.1.size))
      clear d9 d10 HF HNX hst
      generalize F x = W3 at *
      go_wp2_with fail
      go_roundw
      case rel => exact ⟨k + 1, R, _, by go_num, rfl, by simp only [StL.len] at hlen; omega, HE.out.trans (show cntA R (wrap64 (n + (cntL b + cntL e))) = _ by rw [← wrap_in]), hall'', hrest.same HB2.out, HB.out.trans (HB2.out.mono HB.out.size)⟩
      case measure => simp [intOf]; omega
theorem count_any (l : StL) : CntSays l := count_of l (StL.all_of (fun _ b e hb he => ⟨count_of b hb, count_of e he⟩) l)
end Go.Proofs.YtommnhglgedflaaGreatDoor
end
section
set_option linter.unusedSimpArgs false
set_option linter.unusedVariables false
namespace Go.Proofs.YtommnhglgedflaaGreatDoor
open Go.RowKit
namespace Md
/-- The number of statements of threads, from n on. -/
def cntT : List Th → Int → Int
  | [], n => n
  | t :: r, n => cntT r (wrap64 (n + cntL t.body))
theorem dclS_len : ∀ (ds pre : List De) (c l n f : Int), (∀ d ∈ ds, shpD d = true) → (dclS ds pre c l n f).1 = 0 → c + l + n + f ≤ 20 → (ds.length : Int) + (c + l + n + f) ≤ 20
  | [], _, _, _, _, _, _, _, h => by simpa using h
  | d :: r, pre, c, l, n, f, hs, h0, h => by
    have hd := shpD_facts (hs d (by simp))
    rw [dclS_cons] at h0
    split at h0
    · simp at h0
    split at h0
    · simp at h0
    split at h0
    · simp at h0
    rename_i hlim
    split at h0
    · simp at h0
    split at h0
    · simp at h0
    have hl : dc d c ≤ 12 ∧ dl d l ≤ 4 ∧ dn d n ≤ 2 ∧ df d f ≤ 2 := by
      unfold lim at hlim
      simp only [Bool.or_eq_true, decide_eq_true_eq, not_or] at hlim
      omega
    have ih := dclS_len r (pre ++ [d]) _ _ _ _ (fun x hx => hs x (by simp [hx])) h0 (by omega)
    have hsum : c + l + n + f + 1 ≤ dc d c + dl d l + dn d n + df d f := by
      unfold dc dl dn df
      have hk : d.kind = 1 ∨ d.kind = 2 ∨ d.kind = 3 ∨ d.kind = 4 ∨ d.kind = 5 ∨ d.kind = 6 := by omega
      rcases hk with hk | hk | hk | hk | hk | hk <;> simp [hk] <;> omega
    simp only [List.length_cons]
    omega
def headN (p : Pr) : ByteArray := (p.ts.head?.map (·.nm)).getD ⟨#[]⟩
/-- The first error of a program and its line. -/
def prgE (p : Pr) : Int × Int :=
  if !shpP p then (3, 0) else if (dclS p.ds [] 0 0 0 0).1 != 0 then dclS p.ds [] 0 0 0 0 else
  if decide ((4 : Int) < p.ts.length) then (2, 0) else if (thrS p).1 != 0 then thrS p else
  if decide (60 < cntT p.ts 0) then (2, 0) else ((stsE p (headN p) p.ts 0 [] []).err, (stsE p (headN p) p.ts 0 [] []).line)
end Md
open Md
set_option maxHeartbeats 4000000 in
set_option maxRecDepth 100000 in
theorem Program_any (p : Pr) (w : World) (aoD aoT : Option Addr) (capD capT : Nat) (hp : p.At w aoD aoT) (hkw : KwLaid w) :
    Calls Tryz.prog 55 #[.agg #[.slice aoD p.ds.length capD, .slice aoT p.ts.length capT]] w fun e w' => e = .returned (.tuple #[.int .i64 (prgE p).1, .int .i64 (prgE p).2]) ∧ Below w.heap.size w w' := by
  have HS : Hid (prgE p = if !shpP p then (3, 0) else if (dclS p.ds [] 0 0 0 0).1 != 0 then dclS p.ds [] 0 0 0 0 else
    if decide ((4 : Int) < p.ts.length) then (2, 0) else if (thrS p).1 != 0 then thrS p else
    if decide (60 < cntT p.ts 0) then (2, 0) else ((stsE p (headN p) p.ts 0 [] []).err, (stsE p (headN p) p.ts 0 [] []).line)) := Lib.hid rfl
  generalize prgE p = res at *
  have hld := hp.1
  have hlt := hp.2.1
  unfold maxLen at hld hlt
  have HP := Lib.hid hp
  have HKW := Lib.hid hkw
  clear hp hkw
  go_enter Tryz.func55, Tryz.ntmps55
  go_upto_region 1 with fail
  generalize hW : World.alloc w _ = W
  generalize Value.agg #[_, _] = a0
  have HX := Lib.hid ((Sit.start w).box2 rfl (.slice aoD p.ds.length capD) (.slice aoT p.ts.length capT) 26)
  rw [hW] at HX
  clear hW
  obtain ⟨-, ⟨-, c0⟩, ⟨-, c1⟩, -⟩ := HX.out
  go_wp2_with fail
  refine (Shaped_any p _ aoD aoT capD capT (HP.out.same HX.out.1) (HKW.out.same HX.out.1)).mono ?_
  rintro e w1 ⟨rfl, hb1⟩
  have HY := Lib.hid (HX.out.next hb1)
  clear HX hb1 c0 c1
  obtain ⟨-, ⟨-, c0⟩, ⟨-, c1⟩, -⟩ := HY.out
  have HSH : Hid (shpP p = true → (∀ d ∈ p.ds, shpD d = true) ∧ ∃ t0 r0, p.ts = t0 :: r0) := Lib.hid (fun h => by
    unfold shpP at h
    simp only [Bool.and_eq_true, List.all_eq_true, decide_eq_true_eq] at h
    refine ⟨h.1.1, ?_⟩
    cases hts : p.ts with
    | nil => rw [hts] at h; simp at h
    | cons a b => exact ⟨a, b, rfl⟩)
  cases hS : shpP p
  · have HE : Hid (res = (3, 0)) := Lib.hid (HS.out.trans (by rw [hS]; rfl))
    clear HSH
    go_wp2_with fail
    go_ret2
    exact ⟨ret2 (by rw [HE.out]; rfl) (by rw [HE.out]; rfl), HY.out.1⟩
  · have HE : Hid (res = if (dclS p.ds [] 0 0 0 0).1 != 0 then dclS p.ds [] 0 0 0 0 else
      if decide ((4 : Int) < p.ts.length) then (2, 0) else if (thrS p).1 != 0 then thrS p else
      if decide (60 < cntT p.ts 0) then (2, 0) else ((stsE p (headN p) p.ts 0 [] []).err, (stsE p (headN p) p.ts 0 [] []).line)) := Lib.hid (HS.out.trans (by rw [hS]; rfl))
    have HSD := Lib.hid (HSH.out hS)
    have HDL : Hid ((dclS p.ds [] 0 0 0 0).1 = 0 → p.ds.length ≤ 20) := Lib.hid (fun h0 => by
      have := dclS_len p.ds [] 0 0 0 0 HSD.out.1 h0 (by omega); omega)
    clear HS HSH
    go_wp2_with fail
    refine (declarations_any p.ds _ aoD capD HP.out.1 ((HP.out.same HY.out.1).2.2.1) HSD.out.1).mono ?_
    rintro e w2 ⟨rfl, hb2⟩
    have HZ := Lib.hid (HY.out.next hb2)
    clear HY hb2 c0 c1
    obtain ⟨-, ⟨-, c0⟩, ⟨-, c1⟩, -⟩ := HZ.out
    generalize dclS p.ds [] 0 0 0 0 = dd at *
    cases h1 : (dd.1 != 0)
    case true =>
      have HE' : Hid (res = dd) := Lib.hid (HE.out.trans (if_pos h1))
      clear HE HSD HDL
      go_wp2_with fail
      go_ret2
      exact ⟨ret2 (by rw [HE'.out]; rfl) (by rw [HE'.out]; rfl), HZ.out.1⟩
    have HSU := Lib.hid (HDL.out (by simpa using h1))
    clear HDL
    have HE1 : Hid (res = if decide ((4 : Int) < p.ts.length) then (2, 0) else if (thrS p).1 != 0 then thrS p else
      if decide (60 < cntT p.ts 0) then (2, 0) else ((stsE p (headN p) p.ts 0 [] []).err, (stsE p (headN p) p.ts 0 [] []).line)) := Lib.hid (HE.out.trans (if_neg (by rw [h1]; decide)))
    clear HE
    by_cases h4 : (4 : Int) < (p.ts.length : Int)
    · have HE' : Hid (res = (2, 0)) := Lib.hid (HE1.out.trans (if_pos (by simpa using h4)))
      clear HE1 HSD
      go_wp2_with fail
      go_ret2
      exact ⟨ret2 (by rw [HE'.out]; rfl) (by rw [HE'.out]; rfl), HZ.out.1⟩
    have HE2 : Hid (res = if (thrS p).1 != 0 then thrS p else
      if decide (60 < cntT p.ts 0) then (2, 0) else ((stsE p (headN p) p.ts 0 [] []).err, (stsE p (headN p) p.ts 0 [] []).line)) := Lib.hid (HE1.out.trans (if_neg (by simpa using h4)))
    have h4' : (p.ts.length : Int) ≤ 4 := by omega
    have HT4 : Hid (p.ts.length ≤ 4) := Lib.hid (by omega)
    clear HE1
    go_wp2_with fail
    refine (threads_any p _ aoD aoT capD capT (HP.out.same HZ.out.1) (by have := HSU.out; have := HT4.out; unfold maxLen; omega)).mono ?_
    rintro e w3 ⟨rfl, hb3⟩
    have HV := Lib.hid (HZ.out.next hb3)
    clear HZ hb3 c0 c1 h1
    obtain ⟨-, ⟨-, c0⟩, ⟨-, c1⟩, -⟩ := HV.out
    generalize thrS p = tt at *
    cases h2 : (tt.1 != 0)
    case true =>
      have HE' : Hid (res = tt) := Lib.hid (HE2.out.trans (if_pos h2))
      clear HE2 HSD
      go_wp2_with fail
      go_ret2
      exact ⟨ret2 (by rw [HE'.out]; rfl) (by rw [HE'.out]; rfl), HV.out.1⟩
    have HE3 : Hid (res = if decide (60 < cntT p.ts 0) then (2, 0) else ((stsE p (headN p) p.ts 0 [] []).err, (stsE p (headN p) p.ts 0 [] []).line)) := Lib.hid (HE2.out.trans (if_neg (by rw [h2]; decide)))
    clear HE2
    have hthr := (HP.out.same HV.out.1).2.2.2
    go_wp2_with fail
    go_loopw [8, 10, 40] (fun s8 _ s wr => ∃ (k : Nat) (R : List Th) (n : Int), s = .int .i64 k ∧ s8 = .int .i64 n ∧ k + R.length = p.ts.length ∧ cntT p.ts 0 = cntT R n ∧ ThAt wr wr.heap.size R aoT k ∧ Sit w wr [(w.heap.size, 0, (.slice aoD p.ds.length capD)), (w.heap.size, 1, (.slice aoT p.ts.length capT))]) (fun _ _ s _ => p.ts.length - (intOf s).toNat)
    case atStart => exact ⟨0, p.ts, 0, rfl, rfl, by simp, rfl, hthr, HV.out⟩
    case round =>
      obtain ⟨k, R, n, rfl, rfl, hlen, heq, hrow, hsit⟩ := hrel
      have HU := Lib.hid hsit
      have HQ := Lib.hid heq
      clear hsit HV c0 c1 hthr heq h2
      obtain ⟨-, ⟨-, c0⟩, ⟨-, c1⟩, -⟩ := HU.out
      cases R with
      | nil =>
        obtain rfl : k = p.ts.length := by simpa using hlen
        have HN : Hid (cntT p.ts 0 = n) := HQ
        by_cases h6 : 60 < n
        · have HE' : Hid (res = (2, 0)) := Lib.hid (HE3.out.trans (if_pos (by rw [HN.out]; simpa using h6)))
          clear HE3 HSD
          go_wp2_with fail
          go_ret2
          exact ⟨ret2 (by rw [HE'.out]; rfl) (by rw [HE'.out]; rfl), HU.out.1⟩
        · have h6' : n ≤ 60 := by omega
          obtain ⟨-, t0, r0, hts⟩ := HSD.out
          have HTS := Lib.hid hts
          have HHN : Hid (headN p = t0.nm) := Lib.hid (by unfold headN; rw [hts]; rfl)
          have HE' : Hid (res = ((stsE p t0.nm p.ts 0 [] []).err, (stsE p t0.nm p.ts 0 [] []).line)) := Lib.hid (HE3.out.trans ((if_neg (by rw [HN.out]; simpa using h6)).trans (by rw [HHN.out])))
          clear HE3 HSD hts
          go_wp2_with fail
          refine (ckStmts_any p _ aoD aoT capD capT t0 r0 HTS.out (by have := HT4.out; unfold maxLen; omega) (by have := HSU.out; unfold maxLen; omega) (HP.out.same HU.out.1) (HKW.out.same HU.out.1)).mono ?_
          rintro e w4 ⟨rfl, hb4⟩
          go_wp2_with fail
          go_ret2
          exact ⟨ret2 (by rw [HE'.out]; rfl) (by rw [HE'.out]; rfl), (HU.out.next hb4).1⟩
      | cons t R =>
        obtain ⟨⟨b, off, aol, capl, aob, capb, rfl, hB, x0, x1, x2, x3, hok, htx, hst, hcl⟩, hrest⟩ := hrow
        simp only [List.length_cons] at hlen
        have hkl : k < p.ts.length := by omega
        have HOK := Lib.hid hok
        have HST := Lib.hid hst
        clear hok htx hst hcl
        go_upto_region 15 with fail
        clear c0 c1
        obtain ⟨n2, hn2⟩ : ∃ n, wr.heap.size = n := ⟨_, rfl⟩
        generalize hW2 : World.alloc wr _ = W2
        have HB2 : Hid (Below wr.heap.size wr W2) := Lib.hid (by rw [← hW2]; exact alloc_below _ _)
        have HV : Hid (Sit w W2 ((n2, 0, .string t.nm) :: (n2, 1, .int .i64 t.line) :: (n2, 2, .slice aol t.locs.length capl) :: (n2, 3, .slice aob t.body.len capb) :: [(w.heap.size, 0, (.slice aoD p.ds.length capD)), (w.heap.size, 1, (.slice (some ⟨b, off, none⟩) p.ts.length capT))])) := Lib.hid (by rw [← hW2]; exact HU.out.box4 hn2 _ _ _ _ _)
        rw [hn2]
        clear hW2 hn2 x0 x1 x2 x3
        obtain ⟨-, ⟨-, c0⟩, ⟨-, c1⟩, ⟨-, c2⟩, ⟨-, c3⟩, ⟨-, c4⟩, ⟨-, c5⟩, -⟩ := HV.out
        go_wp2_with fail
        refine (count_any t.body _ aob capb HOK.out.2.2.2 (HST.out.same HB2.out)).mono ?_
        rintro e' w4 ⟨rfl, hb4⟩
        have HB5 := Lib.hid (HB2.out.trans (hb4.mono HB2.out.size))
        clear hb4 c0 c1 c2 c3 c4 c5
        go_wp2_with fail
        go_roundw
        case rel => exact ⟨k + 1, R, _, by go_num, rfl, by omega, HQ.out.trans rfl, hrest.same HB5.out, HU.out.next HB5.out⟩
        case measure => simp [intOf]; omega
end Go.Proofs.YtommnhglgedflaaGreatDoor
end
