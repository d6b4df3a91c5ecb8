/-
  Contracts of check.declared and check.meaning.
  Contracts of check.kindOf, extent, names, Expr.
  Maps that a call makes, keyed by texts, with integers and truth values: what they hold as a plain function.
  Contract of check.declarations.
  Contract of check.threads.
-/
import Derived.Test.YtommnhglgedflaaGreatDoorGMA
import Derived.Test.YtommnhglgedflaaGreatDoorGMC
import Derived.Deep.CutBlock
import Derived.Test.YtommnhglgedflaaGreatDoorGMB
import Derived.Maps.Own
import Derived.Maps.OwnSet
import Derived.Maps.Views
section
namespace Go.Proofs.YtommnhglgedflaaGreatDoor
open Go.RowKit
open Md

theorem ckDeclared_any (d : De) (w : World) :
    Calls Tryz.prog 119 #[.agg #[.int .i64 d.kind, .int .i64 d.line, .string d.nm, .int .i64 d.size, .int .i64 d.init, .string d.on]] w fun e w' => e = .returned (.int .i64 (declM d)) ∧ Below w.heap.size w w' := by
  unfold declM
  go_enter Tryz.func119, Tryz.ntmps119
  go_wp2
  all_goals go_ret
  all_goals refine ⟨ret_int ?_, alloc_below _ _⟩
  all_goals first | (simp [*]; done) | (go_light; grind)

theorem isLoc_cons (s : ByteArray) (r : List ByteArray) (nm : ByteArray) : isLoc (s :: r) nm = ((s.toList == nm.toList) || isLoc r nm) := by simp [isLoc]
theorem meanD_cons (d : De) (r : List De) (nm : ByteArray) : meanD (d :: r) nm = if d.nm.toList == nm.toList then some (declM d) else meanD r nm := by
  unfold meanD; rw [List.find?_cons]; cases h : (d.nm.toList == nm.toList) <;> simp
theorem meanT_cons (t : Th) (r : List Th) (nm : ByteArray) : meanT (t :: r) nm = if t.nm.toList == nm.toList then 8 else meanT r nm := by
  unfold meanT; rw [List.any_cons]; cases h : (t.nm.toList == nm.toList) <;> simp
theorem locsAt_none {ts : List Th} {i : Int} (h : ¬ (0 ≤ i ∧ i < ts.length)) : locsAt ts i = [] := by
  unfold locsAt
  split
  · rw [List.getElem?_eq_none (by omega)]; rfl
  · rfl
theorem locsAt_nat {ts : List Th} {i : Nat} {t : Th} {r : List Th} (h : ts.drop i = t :: r) : locsAt ts (i : Int) = t.locs := by
  have h2 : ts[i]? = some t := by have := List.getElem?_drop (xs := ts) (i := i) (j := 0); rw [h] at this; simpa using this.symm
  unfold locsAt
  rw [if_pos (by omega)]
  simp [h2]

set_option maxHeartbeats 2000000 in
theorem meaning_any (p : Pr) (i : Int) (nm : ByteArray) (w : World) (aoD aoT : Option Addr) (capD capT : Nat) (hi : I64 i) (hp : p.At w aoD aoT) :
    Calls Tryz.prog 187 #[.agg #[.slice aoD p.ds.length capD, .slice aoT p.ts.length capT], .int .i64 i, .string nm] w fun e w' => e = .returned (.int .i64 (mean p i nm)) ∧ Below w.heap.size w w' := by
  obtain ⟨i1, i2⟩ := hi
  have hld := hp.1
  have hlt := hp.2.1
  unfold maxLen at hld hlt
  have HP := Lib.hid hp
  clear hp
  go_enter Tryz.func187, Tryz.ntmps187
  go_upto_region 1 with fail
  generalize hW : World.alloc w _ = W
  generalize Value.agg #[_, _] = a0
  have HX := Lib.hid ((Sit.start w).box2 rfl (.slice aoD p.ds.length capD) (.slice aoT p.ts.length capT) 26)
  rw [hW] at HX
  clear hW
  obtain ⟨-, ⟨-, c0⟩, ⟨-, c1⟩, -⟩ := HX.out
  go_cut [21] (fun s W2 => W = W2 ∧ ∃ b, s = .bool b ∧ decide (0 ≤ i ∧ i < p.ts.length) = b)
  case first =>
    go_wp2_with fail
    all_goals go_meet
    all_goals exact ⟨rfl, _, rfl, by go_light; grind⟩
  obtain ⟨rfl, bi, rfl, hbi⟩ := hcut
  have HBI := Lib.hid hbi
  clear hbi
  go_upto_if 21 with fail
  go_cut [6, 8] (fun s6 s8 W2 => isLoc (locsAt p.ts i) nm = false ∧ Sit w W2 [(w.heap.size, 0, (.slice aoD p.ds.length capD)), (w.heap.size, 1, (.slice aoT p.ts.length capT))])
  case first =>
    cases bi
    · go_wp2_with fail
      go_meet
      exact ⟨by rw [locsAt_none (by simpa using HBI.out)]; rfl, HX.out⟩
    · have hbi : 0 ≤ i ∧ i < p.ts.length := by simpa using HBI.out
      obtain ⟨j, rfl⟩ := Int.eq_ofNat_of_zero_le hbi.1
      have hj : j < p.ts.length := by omega
      have hth := (HP.out.same HX.out.1).2.2.2.drop j
      cases hd : p.ts.drop j with
      | nil => exfalso; have := congrArg List.length hd; simp at this; omega
      | cons t r =>
        rw [hd, Nat.zero_add] at hth
        have HL := Lib.hid (locsAt_nat hd)
        clear hd hbi HBI
        obtain ⟨⟨b, off, aol, capl, aob, capb, rfl, hB, x0, x1, x2, x3, hok, htx, hst⟩, -⟩ := hth
        have hll := hok.2.2.1
        unfold maxLen at hll
        clear hst hok
        go_wp2_with fail
        go_loop [8, 29] (fun _ s => ∃ (k : Nat) (R : List ByteArray), s = .int .i64 k ∧ k + R.length = t.locs.length ∧ isLoc t.locs nm = isLoc R nm ∧ TxAt W W.heap.size R aol k) (fun _ s => t.locs.length - (intOf s).toNat)
        case atStart => exact ⟨0, t.locs, rfl, by simp, rfl, htx⟩
        case round =>
          obtain ⟨k, R, rfl, hlen, heq, hrow⟩ := hrel
          cases R with
          | nil =>
            obtain rfl : k = t.locs.length := by simpa using hlen
            go_wp2_with fail
            go_meet
            exact ⟨by rw [HL.out, heq]; rfl, HX.out⟩
          | cons s R =>
            obtain ⟨⟨b', off', rfl, hB', y0, hs⟩, hrest⟩ := hrow
            simp only [List.length_cons] at hlen
            have hkl : k < t.locs.length := by omega
            rw [isLoc_cons] at heq
            have HE := Lib.hid heq
            clear heq
            cases hc : (s.toList == nm.toList)
            · have HE' := Lib.hid (HE.out.trans (by rw [hc]; rfl : _ = isLoc R nm))
              go_wp2_with fail
              go_round
              case rel => exact ⟨k + 1, R, by go_num, by omega, HE'.out, hrest⟩
              case measure => simp [intOf]; omega
            · have HE' := Lib.hid (HE.out.trans (by rw [hc]; rfl : _ = true))
              go_wp2_with fail
              go_ret
              exact ⟨ret_int (by unfold mean; rw [HL.out, HE'.out]; rfl), HX.out.1⟩
  case rest =>
    obtain ⟨hno, hX⟩ := hcut
    have HY := Lib.hid hX
    have HM : Hid (mean p i nm = (meanD p.ds nm).getD (meanT p.ts nm)) := Lib.hid (by unfold mean; rw [hno]; rfl)
    clear hno hX HX c0 c1
    obtain ⟨-, ⟨-, c0⟩, ⟨-, c1⟩, -⟩ := HY.out
    have hde := (HP.out.same HY.out.1).2.2.1
    go_wp2_with fail
    go_loopw [10, 40] (fun _ s wr => ∃ (k : Nat) (R : List De), s = .int .i64 k ∧ k + R.length = p.ds.length ∧ meanD p.ds nm = meanD R nm ∧ DeAt wr wr.heap.size R aoD k ∧ Sit w wr [(w.heap.size, 0, (.slice aoD p.ds.length capD)), (w.heap.size, 1, (.slice aoT p.ts.length capT))]) (fun _ s _ => p.ds.length - (intOf s).toNat)
    case atStart => exact ⟨0, p.ds, rfl, by simp, rfl, hde, HY.out⟩
    case round =>
      obtain ⟨k, R, rfl, hlen, heq, hrow, hsit⟩ := hrel
      have HZ := Lib.hid hsit
      clear hsit HY c0 c1 hde
      cases R with
      | nil =>
        obtain rfl : k = p.ds.length := by simpa using hlen
        obtain ⟨-, ⟨-, c0⟩, ⟨-, c1⟩, -⟩ := HZ.out
        have hth := (HP.out.same HZ.out.1).2.2.2
        have HM' := Lib.hid (HM.out.trans (by rw [heq]; rfl : _ = meanT p.ts nm))
        clear heq HM
        go_wp2_with fail
        go_loopw [12, 54] (fun _ s wr => ∃ (k : Nat) (R : List Th), s = .int .i64 k ∧ k + R.length = p.ts.length ∧ meanT p.ts nm = meanT R nm ∧ ThAt wr wr.heap.size R aoT k ∧ Sit w wr [(w.heap.size, 0, (.slice aoD p.ds.length capD)), (w.heap.size, 1, (.slice aoT p.ts.length capT))]) (fun _ s _ => p.ts.length - (intOf s).toNat)
        case atStart => exact ⟨0, p.ts, rfl, by simp, rfl, hth, HZ.out⟩
        case round =>
          obtain ⟨k, R, rfl, hlen, heq, hrow, hsit⟩ := hrel
          have HU := Lib.hid hsit
          clear hsit HZ c0 c1 hth
          cases R with
          | nil =>
            obtain rfl : k = p.ts.length := by simpa using hlen
            go_wp2_with fail
            go_ret
            exact ⟨ret_int (HM'.out.trans heq).symm, HU.out.1⟩
          | cons t R =>
            obtain ⟨⟨b, off, aol, capl, aob, capb, rfl, hB, x0, x1, x2, x3, hok, htx, hst⟩, hrest⟩ := hrow
            simp only [List.length_cons] at hlen
            have hkl : k < p.ts.length := by omega
            rw [meanT_cons] at heq
            have HE := Lib.hid heq
            clear heq hok htx hst
            cases hc : (t.nm.toList == nm.toList)
            · have HE' := Lib.hid (HE.out.trans (by rw [hc]; rfl : _ = meanT R nm))
              go_wp2_with fail
              go_roundw
              case rel => exact ⟨k + 1, R, by go_num, by omega, HE'.out, hrest.same (alloc_below _ _), HU.out.next (alloc_below _ _)⟩
              case measure => simp [intOf]; omega
            · have HE' := Lib.hid (HE.out.trans (if_pos hc))
              go_wp2_with fail
              go_ret
              exact ⟨ret_int (HM'.out.trans HE'.out).symm, (HU.out.next (alloc_below _ _)).1⟩
      | cons d R =>
        obtain ⟨⟨b, off, rfl, hB, x0, x1, x2, x3, x4, x5, hok⟩, hrest⟩ := hrow
        simp only [List.length_cons] at hlen
        have hkl : k < p.ds.length := by omega
        rw [meanD_cons] at heq
        have HE := Lib.hid heq
        clear heq hok
        cases hc : (d.nm.toList == nm.toList)
        · have HE' := Lib.hid (HE.out.trans (by rw [hc]; rfl : _ = meanD R nm))
          go_wp2_with fail
          go_roundw
          case rel => exact ⟨k + 1, R, by go_num, by omega, HE'.out, hrest.same (alloc_below _ _), HZ.out.next (alloc_below _ _)⟩
          case measure => simp [intOf]; omega
        · have HE' := Lib.hid (HE.out.trans (if_pos hc))
          go_wp2_with fail
          refine (ckDeclared_any d _).mono ?_
          rintro e w2 ⟨rfl, hb2⟩
          go_wp2_with fail
          go_ret
          exact ⟨ret_int (HM.out.trans (by rw [HE'.out]; rfl)).symm, ((HZ.out.next (alloc_below _ _)).next hb2).1⟩
theorem declM_range (d : De) : 2 ≤ declM d ∧ declM d ≤ 9 ∧ declM d ≠ 8 := by unfold declM; grind
end Go.Proofs.YtommnhglgedflaaGreatDoor
end
section
namespace Go.Proofs.YtommnhglgedflaaGreatDoor
open Go.RowKit
namespace Md
/-- Integers in memory. -/
def InAt (w : World) (B : Nat) : List Int → Option Addr → Nat → Prop
  | [], _, _ => True
  | s :: r, ao, k => (∃ b off, ao = some ⟨b, off, none⟩ ∧ b < B ∧ w.cell? ⟨b, off + k, none⟩ = some (.int .i64 s)) ∧ InAt w B r ao (k + 1)
section
variable {w w' : World} {B B' : Nat}
theorem InAt.below (hb : Below B w w') : ∀ {l : List Int} {ao : Option Addr} {k : Nat}, InAt w B l ao k → InAt w' B l ao k
  | [], _, _, _ => trivial
  | _ :: _, _, _, ⟨⟨b, off, e, hB, c⟩, hr⟩ => ⟨⟨b, off, e, hB, (hb.cell hB).trans c⟩, InAt.below hb hr⟩
theorem InAt.mono (h : B ≤ B') : ∀ {l : List Int} {ao : Option Addr} {k : Nat}, InAt w B l ao k → InAt w B' l ao k
  | [], _, _, _ => trivial
  | _ :: _, _, _, ⟨⟨b, off, e, hB, c⟩, hr⟩ => ⟨⟨b, off, e, Nat.lt_of_lt_of_le hB h, c⟩, InAt.mono h hr⟩
theorem InAt.same {l : List Int} {ao : Option Addr} {k : Nat} (h : InAt w w.heap.size l ao k) (hb : Below w.heap.size w w') : InAt w' w'.heap.size l ao k := (h.below hb).mono hb.size
end
/-- The error of a name with a meaning, where some are wanted. -/
def kindE (m : Int) (l : List Int) : Int := if m == 0 then 5 else if l.any (fun k => m == k) then 0 else 6
/-- Nodes and depth. -/
def extA : ExL → Int → Int → Int × Int
  | .nil, n, d => (n, d)
  | .cons _ _ _ kids rest, n, d => extA rest (wrap64 (n + (extA kids 1 0).1)) (max d (wrap64 ((extA kids 1 0).2 + 1)))
def ext (kids : ExL) : Int × Int := ((extA kids 1 0).1, wrap64 ((extA kids 1 0).2 + 1))
theorem extA_cons (op m : Int) (nm : ByteArray) (kids rest : ExL) (n d : Int) : extA (.cons op m nm kids rest) n d = extA rest (wrap64 (n + (ext kids).1)) (max d (ext kids).2) := rfl
/-- The first error of the names. -/
def nm1 (p : Pr) (i op : Int) (nm : ByteArray) : Int := if op == 2 then kindE (mean p i nm) [1, 2] else if op == 3 then kindE (mean p i nm) [3] else 0
def nmsL (p : Pr) (i : Int) : ExL → Int
  | .nil => 0
  | .cons op _ nm kids rest => if nm1 p i op nm == 0 then (if nmsL p i kids == 0 then nmsL p i rest else nmsL p i kids) else nm1 p i op nm
def nmsE (p : Pr) (i op : Int) (nm : ByteArray) (kids : ExL) : Int := if nm1 p i op nm == 0 then nmsL p i kids else nm1 p i op nm
theorem nmsL_cons (p : Pr) (i op n : Int) (nm : ByteArray) (kids rest : ExL) : nmsL p i (.cons op n nm kids rest) = if nmsE p i op nm kids == 0 then nmsL p i rest else nmsE p i op nm kids := by
  rw [nmsL]; unfold nmsE
  cases h : (nm1 p i op nm == 0) <;> simp
  · intro h'; simp [h'] at h
/-- The error of an expression. -/
def exE (p : Pr) (i op n : Int) (nm : ByteArray) (kids : ExL) : Int :=
  if shpE op n nm kids then (if decide (24 < (ext kids).1) || decide (6 < (ext kids).2) then 2 else nmsE p i op nm kids) else 3
end Md
open Md

theorem any_cons_int (m k : Int) (l : List Int) : (k :: l).any (fun k => m == k) = ((m == k) || l.any (fun k => m == k)) := by simp

set_option maxHeartbeats 2000000 in
theorem kindOf_any (p : Pr) (i : Int) (nm : ByteArray) (l : List Int) (w : World) (aoD aoT ao : Option Addr) (capD capT cap : Nat) (hi : I64 i) (hl : l.length ≤ maxLen) (hp : p.At w aoD aoT) (hw : InAt w w.heap.size l ao 0) :
    Calls Tryz.prog 177 #[.agg #[.slice aoD p.ds.length capD, .slice aoT p.ts.length capT], .int .i64 i, .string nm, .slice ao l.length cap] w fun e w' => e = .returned (.int .i64 (kindE (mean p i nm) l)) ∧ Below w.heap.size w w' := by
  unfold maxLen at hl
  have HP := Lib.hid hp
  have HW := Lib.hid hw
  clear hp hw
  go_enter Tryz.func177, Tryz.ntmps177
  go_wp2_with fail
  refine (meaning_any p i nm _ aoD aoT capD capT hi (HP.out.same (alloc_below _ _))).mono ?_
  rintro e w2 ⟨rfl, hb2⟩
  have HB := Lib.hid ((alloc_below w (.cells #[.slice aoD p.ds.length capD, .slice aoT p.ts.length capT] 26)).trans (hb2.mono (by simp)))
  clear hb2
  have hrow := HW.out.same HB.out
  generalize hmm : mean p i nm = m at *
  have HM := Lib.hid hmm
  clear hmm
  cases h0 : (m == 0)
  · go_wp2_with fail
    go_loop [11, 20] (fun _ s => ∃ (k : Nat) (R : List Int), s = .int .i64 k ∧ k + R.length = l.length ∧ l.any (fun k => m == k) = R.any (fun k => m == k) ∧ InAt w2 w2.heap.size R ao k) (fun _ s => l.length - (intOf s).toNat)
    case atStart => exact ⟨0, l, rfl, by simp, rfl, hrow⟩
    case round =>
      obtain ⟨k, R, rfl, hlen, heq, hrow'⟩ := hrel
      cases R with
      | nil =>
        obtain rfl : k = l.length := by simpa using hlen
        have HE : Hid (kindE m l = 6) := Lib.hid (by unfold kindE; rw [h0, heq]; rfl)
        clear heq
        go_wp2_with fail
        go_ret
        exact ⟨ret_int (by rw [HM.out, HE.out]), HB.out⟩
      | cons a R =>
        obtain ⟨⟨b, off, rfl, hB, y0⟩, hrest⟩ := hrow'
        simp only [List.length_cons] at hlen
        have hkl : k < l.length := by omega
        rw [any_cons_int] at heq
        have HE := Lib.hid heq
        clear heq
        cases hc : (m == a)
        · have HE' := Lib.hid (HE.out.trans (by rw [hc]; rfl : _ = R.any (fun k => m == k)))
          go_wp2_with fail
          go_round
          case rel => exact ⟨k + 1, R, by go_num, by omega, HE'.out, hrest⟩
          case measure => simp [intOf]; omega
        · have HE' : Hid (kindE m l = 0) := Lib.hid (by unfold kindE; rw [h0, HE.out, hc]; rfl)
          go_wp2_with fail
          go_ret
          exact ⟨ret_int (by rw [HM.out, HE'.out]), HB.out⟩
  · have HE : Hid (kindE m l = 5) := Lib.hid (by unfold kindE; rw [h0]; rfl)
    go_wp2_with fail
    go_ret
    exact ⟨ret_int (by rw [HM.out, HE.out]), HB.out⟩

theorem ret_two {a b c d : Int} (h1 : c = a) (h2 : d = b) : Ending.returned (.tuple #[.int .i64 a, .int .i64 b]) = .returned (.tuple #[.int .i64 c, .int .i64 d]) := by rw [h1, h2]
theorem ext_nil {kids : ExL} {a d : Int} (h : extA kids 1 0 = extA .nil a d) : (ext kids).1 = a ∧ (ext kids).2 = wrap64 (d + 1) := by unfold ext; rw [h]; exact ⟨rfl, rfl⟩
/-- What extent answers. -/
def ExtSays (op n : Int) (nm : ByteArray) (kids : ExL) : Prop :=
  ∀ (w : World) (ao : Option Addr) (cap : Nat), ExOk op n nm kids → kids.At w w.heap.size ao 0 →
    Calls Tryz.prog 185 #[.agg #[.int .i64 op, .int .i64 n, .string nm, .slice ao kids.len cap]] w fun e w' => e = .returned (.tuple #[.int .i64 (ext kids).1, .int .i64 (ext kids).2]) ∧ Below w.heap.size w w'
set_option maxHeartbeats 2000000 in
theorem extent_step (op n : Int) (nm : ByteArray) (kids : ExL) (ih : kids.All ExtSays) : ExtSays op n nm kids := by
  intro w ao cap hok hat
  obtain ⟨-, -, -, hl⟩ := hok
  unfold maxLen at hl
  have HIH := Lib.hid ih
  have HAT := Lib.hid hat
  clear ih hat
  go_enter Tryz.func185, Tryz.ntmps185
  go_upto_region 2 with fail
  generalize hW : World.alloc w _ = W
  generalize Value.agg #[_, _, _, _] = a0
  have HX := Lib.hid ((Sit.start w).box4 rfl (.int .i64 op) (.int .i64 n) (.string nm) (.slice ao kids.len cap) 38)
  rw [hW] at HX
  clear hW
  obtain ⟨-, ⟨-, c0⟩, ⟨-, c1⟩, ⟨-, c2⟩, ⟨-, c3⟩, -⟩ := HX.out
  go_wp2_with fail
  go_loopw [4, 5, 7, 8, 9, 13] (fun s4 s5 _ _ _ s wr => ∃ (k : Nat) (R : ExL) (a d : Int), s = .int .i64 k ∧ s4 = .int .i64 a ∧ s5 = .int .i64 d ∧ k + R.len = kids.len ∧ extA kids 1 0 = extA R a d ∧ R.All ExtSays ∧ R.At wr wr.heap.size ao k ∧ Below w.heap.size w wr) (fun _ _ _ _ _ s _ => kids.len - (intOf s).toNat)
  case atStart => exact ⟨0, kids, 1, 0, rfl, rfl, rfl, by simp, rfl, HIH.out, HAT.out.same HX.out.1, HX.out.1⟩
  case round =>
    obtain ⟨k, R, a, d, rfl, rfl, rfl, hlen, heq, hall, hrow, hB⟩ := hrel
    have HE := Lib.hid heq
    clear heq c0 c1 c2 c3
    cases R with
    | nil =>
      obtain rfl : k = kids.len := by simpa [ExL.len] using hlen
      go_wp2_with fail
      go_ret2
      exact ⟨ret_two (ext_nil HE.out).1 (ext_nil HE.out).2, hB⟩
    | cons op' n' nm' kids' rest =>
      obtain ⟨⟨b, off, ao', cap', rfl, hbB, x0, x1, x2, x3, hok', hkids⟩, hrest⟩ := hrow
      obtain ⟨hsay, hall'⟩ := hall
      have hlt : k < kids.len := by simp only [ExL.len] at hlen; omega
      go_wp2_with fail
      have hba := alloc_below wr (.cells #[.int .i64 op', .int .i64 n', .string nm', .slice ao' kids'.len cap'] 38)
      refine (hsay _ _ _ hok' (hkids.same hba)).mono ?_
      rintro e w2 ⟨rfl, hb2⟩
      have HB3 := Lib.hid (hba.trans (hb2.mono (by simp)))
      clear hba hb2 x0 x1 x2 x3 hkids
      go_wp2_with fail
      go_roundw
      case rel => exact ⟨k + 1, rest, _, _, by go_num, rfl, rfl, by simp only [ExL.len] at hlen; omega, HE.out, hall', hrest.same HB3.out, hB.trans (HB3.out.mono hB.size)⟩
      case measure => simp [intOf]; omega
theorem extent_any (op n : Int) (nm : ByteArray) (kids : ExL) : ExtSays op n nm kids := ExL.of_all extent_step op n nm kids

/-- What names answers. -/
def NmsSays (p : Pr) (i : Int) (op n : Int) (nm : ByteArray) (kids : ExL) : Prop :=
  ∀ (w : World) (aoD aoT ao : Option Addr) (capD capT cap : Nat), I64 i → p.At w aoD aoT → ExOk op n nm kids → kids.At w w.heap.size ao 0 →
    Calls Tryz.prog 186 #[.agg #[.slice aoD p.ds.length capD, .slice aoT p.ts.length capT], .int .i64 i, .agg #[.int .i64 op, .int .i64 n, .string nm, .slice ao kids.len cap]] w fun e w' => e = .returned (.int .i64 (nmsE p i op nm kids)) ∧ Below w.heap.size w w'
theorem inAt_two (w : World) (a b : Int) (t : TypeId) : InAt (w.alloc (.cells #[.int .i64 a, .int .i64 b] t)) (w.alloc (.cells #[.int .i64 a, .int .i64 b] t)).heap.size [a, b] (some ⟨w.heap.size, 0, none⟩) 0 :=
  ⟨⟨_, _, rfl, by simp, box_cells w [.int .i64 a, .int .i64 b] t 0⟩, ⟨_, _, rfl, by simp, box_cells w [.int .i64 a, .int .i64 b] t 1⟩, trivial⟩
theorem inAt_one (w : World) (a : Int) (t : TypeId) : InAt (w.alloc (.cells #[.int .i64 a] t)) (w.alloc (.cells #[.int .i64 a] t)).heap.size [a] (some ⟨w.heap.size, 0, none⟩) 0 :=
  ⟨⟨_, _, rfl, by simp, box_cells w [.int .i64 a] t 0⟩, trivial⟩
set_option maxHeartbeats 2000000 in
theorem names_step (p : Pr) (i : Int) (op n : Int) (nm : ByteArray) (kids : ExL) (ih : kids.All (NmsSays p i)) : NmsSays p i op n nm kids := by
  intro w aoD aoT ao capD capT cap hi hp hok hat
  obtain ⟨-, -, -, hl⟩ := hok
  unfold maxLen at hl
  have HIH := Lib.hid ih
  have HAT := Lib.hid hat
  have HP := Lib.hid hp
  clear ih hat hp
  go_enter Tryz.func186, Tryz.ntmps186
  go_upto_region 1 with fail
  generalize hW : World.alloc (World.alloc w _) _ = W
  generalize Value.agg #[_, _] = a0
  generalize Value.agg #[_, _, _, _] = a1
  have HX := Lib.hid (((Sit.start w).box2 rfl (.slice aoD p.ds.length capD) (.slice aoT p.ts.length capT) 26).box4 (n := w.heap.size + 1) (by simp) (.int .i64 op) (.int .i64 n) (.string nm) (.slice ao kids.len cap) 38)
  rw [hW] at HX
  clear hW
  obtain ⟨-, ⟨-, c0⟩, ⟨-, c1⟩, ⟨-, c2⟩, ⟨-, c3⟩, ⟨-, c4⟩, ⟨-, c5⟩, -⟩ := HX.out
  go_upto_block 0 with (fail)
  go_cut [7, 10] (fun s7 _ W2 => s7 = .int .i64 (nm1 p i op nm) ∧ Sit w W2 [(w.heap.size + 1, 0, .int .i64 op), (w.heap.size + 1, 1, .int .i64 n), (w.heap.size + 1, 2, .string nm), (w.heap.size + 1, 3, .slice ao kids.len cap), (w.heap.size, 0, .slice aoD p.ds.length capD), (w.heap.size, 1, .slice aoT p.ts.length capT)])
  case first =>
    cases h2 : (op == 2)
    · cases h3 : (op == 3)
      · have HE : Hid (nm1 p i op nm = 0) := Lib.hid (by unfold nm1; rw [h2, h3]; rfl)
        go_wp2_with fail
        go_meet
        exact ⟨by rw [HE.out], HX.out⟩
      · have HE : Hid (nm1 p i op nm = kindE (mean p i nm) [3]) := Lib.hid (by unfold nm1; rw [h2, h3]; rfl)
        go_wp2_with fail
        refine (kindOf_any p i nm [3] _ aoD aoT _ capD capT _ hi (by decide) ((HP.out.same HX.out.1).same (alloc_below _ _)) (inAt_one W 3 _)).mono ?_
        rintro e w2 ⟨rfl, hb2⟩
        go_wp2_with fail
        go_meet
        exact ⟨by rw [HE.out], (HX.out.next (alloc_below _ _)).next hb2⟩
    · have HE : Hid (nm1 p i op nm = kindE (mean p i nm) [1, 2]) := Lib.hid (by unfold nm1; rw [h2]; rfl)
      go_wp2_with fail
      refine (kindOf_any p i nm [1, 2] _ aoD aoT _ capD capT _ hi (by decide) ((HP.out.same HX.out.1).same (alloc_below _ _)) (inAt_two W 1 2 _)).mono ?_
      rintro e w2 ⟨rfl, hb2⟩
      go_wp2_with fail
      go_meet
      exact ⟨by rw [HE.out], (HX.out.next (alloc_below _ _)).next hb2⟩
  case rest =>
    obtain ⟨rfl, hX⟩ := hcut
    have HY := Lib.hid hX
    clear hX HX c0 c1 c2 c3 c4 c5
    have HR : Hid (nmsE p i op nm kids = if nm1 p i op nm == 0 then nmsL p i kids else nm1 p i op nm) := Lib.hid rfl
    generalize nm1 p i op nm = r0 at *
    go_wp2_with fail
    go_loopw [7, 8] (fun s7 s8 wr => ∃ (k : Nat) (R : ExL) (r : Int), s8 = .int .i64 k ∧ s7 = .int .i64 r ∧ k + R.len = kids.len ∧ nmsE p i op nm kids = (if r == 0 then nmsL p i R else r) ∧ R.All (NmsSays p i) ∧ R.At wr wr.heap.size ao k ∧ Sit w wr [(w.heap.size + 1, 0, .int .i64 op), (w.heap.size + 1, 1, .int .i64 n), (w.heap.size + 1, 2, .string nm), (w.heap.size + 1, 3, .slice ao kids.len cap), (w.heap.size, 0, .slice aoD p.ds.length capD), (w.heap.size, 1, .slice aoT p.ts.length capT)]) (fun _ s _ => kids.len - (intOf s).toNat)
    case atStart => exact ⟨0, kids, r0, rfl, rfl, by simp, HR.out, HIH.out, HAT.out.same HY.out.1, HY.out⟩
    case round =>
      obtain ⟨k, R, r, rfl, rfl, hlen, heq, hall, hrow, hsit⟩ := hrel
      have HE := Lib.hid heq
      have HZ := Lib.hid hsit
      clear heq hsit
      obtain ⟨-, ⟨-, c0⟩, ⟨-, c1⟩, ⟨-, c2⟩, ⟨-, c3⟩, ⟨-, c4⟩, ⟨-, c5⟩, -⟩ := HZ.out
      cases R with
      | nil =>
        obtain rfl : k = kids.len := by simpa [ExL.len] using hlen
        go_wp2_with fail
        go_ret
        exact ⟨ret_int (HE.out.trans (by cases h : (r == 0) <;> simp_all [nmsL])).symm, HZ.out.1⟩
      | cons op' n' nm' kids' rest =>
        obtain ⟨⟨b, off, ao', cap', rfl, hbB, x0, x1, x2, x3, hok', hkids⟩, hrest⟩ := hrow
        obtain ⟨hsay, hall'⟩ := hall
        have hlt : k < kids.len := by simp only [ExL.len] at hlen; omega
        cases hr : (r == 0)
        · have HE' := Lib.hid (HE.out.trans (by rw [hr]; rfl : _ = r))
          go_wp2_with fail
          go_ret
          exact ⟨ret_int HE'.out.symm, HZ.out.1⟩
        · have HE' := Lib.hid (HE.out.trans (by rw [hr]; rfl : _ = nmsL p i (.cons op' n' nm' kids' rest)))
          go_wp2_with fail
          obtain ⟨T, F, hinh, hst, hF, hnext⟩ := calm wr
          have HF := Lib.hid hF
          have HNX := Lib.hid hnext
          clear hnext hF
          have d0 := fun x => (HZ.out.next (HF.out x)).2.1.2
          have d1 := fun x => (HZ.out.next (HF.out x)).2.2.1.2
          have d2 := fun x => (HZ.out.next (HF.out x)).2.2.2.1.2
          have d3 := fun x => (HZ.out.next (HF.out x)).2.2.2.2.1.2
          have d4 := fun x => (HZ.out.next (HF.out x)).2.2.2.2.2.1.2
          have d5 := fun x => (HZ.out.next (HF.out x)).2.2.2.2.2.2.1.2
          have y0 := fun x => ((HF.out x).cell (p := ⟨b, off + k * 4, none⟩) hbB).trans x0
          have y1 := fun x => ((HF.out x).cell (p := ⟨b, off + k * 4 + 1, none⟩) hbB).trans x1
          have y2 := fun x => ((HF.out x).cell (p := ⟨b, off + k * 4 + 2, none⟩) hbB).trans x2
          have y3 := fun x => ((HF.out x).cell (p := ⟨b, off + k * 4 + 3, none⟩) hbB).trans x3
          clear c0 c1 c2 c3 c4 c5 x0 x1 x2 x3
          have hk0 : (0 : Int) ≤ k := by omega
          have hk1 : (k : Int) < kids.len := by omega
          refine region_calm F (by kernel_rfl) (by kernel_rfl) hst ?_
          repeat (any_goals (first | go_big_quiet_step ((go_at_call 186; refine (hsay _ aoD aoT ao' capD capT cap' hi ((HP.out.same HZ.out.1).same (HF.out _)) hok' (hkids.same (HF.out _))).mono ?_; rintro e w' ⟨rfl, hb⟩; exact ⟨rfl, HNX.out _ _ hb⟩)) | (refine wpQuiet_step (fun K hK => ?_); go_simp; first | (refine hK _ ?_; clear hK K) | (split <;> first | (refine hK _ ?_; clear hK K) | (apply Exists.intro; refine ⟨fun _ => ?_, hK _ ?_⟩; ((go_at_call 186; refine (hsay _ aoD aoT ao' capD capT cap' hi ((HP.out.same HZ.out.1).same (HF.out _)) hok' (hkids.same (HF.out _))).mono ?_; rintro e w' ⟨rfl, hb⟩; exact ⟨rfl, HNX.out _ _ hb⟩)); clear hK K)))))
          all_goals (refine wpQuiet_nil ?_; rintro _ ⟨x, rfl⟩)
          have HB2 := Lib.hid (HF.out x)
          clear d0 d1 d2 d3 d4 d5 y0 y1 y2 y3 HF HNX hst
          generalize F x = W2 at *
          go_wp2_with fail
          go_roundw
          case rel => exact ⟨k + 1, rest, _, by go_num, rfl, by simp only [ExL.len] at hlen; omega, HE'.out.trans (nmsL_cons p i op' n' nm' kids' rest), hall', hrest.same HB2.out, HZ.out.next HB2.out⟩
          case measure => simp [intOf]; omega
theorem names_any (p : Pr) (i : Int) (op n : Int) (nm : ByteArray) (kids : ExL) : NmsSays p i op n nm kids := ExL.of_all (names_step p i) op n nm kids

set_option maxHeartbeats 2000000 in
theorem CheckExpr_any (p : Pr) (i : Int) (op n : Int) (nm : ByteArray) (kids : ExL) (w : World) (aoD aoT ao : Option Addr) (capD capT cap : Nat) (hi : I64 i) (hp : p.At w aoD aoT) (hok : ExOk op n nm kids) (hat : kids.At w w.heap.size ao 0) (hkw : KwLaid w) :
    Calls Tryz.prog 176 #[.agg #[.slice aoD p.ds.length capD, .slice aoT p.ts.length capT], .int .i64 i, .agg #[.int .i64 op, .int .i64 n, .string nm, .slice ao kids.len cap]] w fun e w' => e = .returned (.int .i64 (exE p i op n nm kids)) ∧ Below w.heap.size w w' := by
  have HAT := Lib.hid hat
  have HP := Lib.hid hp
  clear hat hp
  go_enter Tryz.func176, Tryz.ntmps176
  go_upto_region 1 with fail
  generalize hW : World.alloc (World.alloc w _) _ = W
  generalize Value.agg #[_, _] = a0
  generalize Value.agg #[_, _, _, _] = a1
  have HX := Lib.hid (((Sit.start w).box2 rfl (.slice aoD p.ds.length capD) (.slice aoT p.ts.length capT) 26).box4 (n := w.heap.size + 1) (by simp) (.int .i64 op) (.int .i64 n) (.string nm) (.slice ao kids.len cap) 38)
  rw [hW] at HX
  clear hW
  obtain ⟨-, ⟨-, c0⟩, ⟨-, c1⟩, ⟨-, c2⟩, ⟨-, c3⟩, ⟨-, c4⟩, ⟨-, c5⟩, -⟩ := HX.out
  go_wp2_with fail
  refine (ShapedExpr_any op n nm kids _ ao cap hok (HAT.out.same HX.out.1) (hkw.same HX.out.1)).mono ?_
  rintro e w1 ⟨rfl, hb1⟩
  have HY := Lib.hid (HX.out.next hb1)
  clear HX hb1 c0 c1 c2 c3 c4 c5
  obtain ⟨-, ⟨-, c0⟩, ⟨-, c1⟩, ⟨-, c2⟩, ⟨-, c3⟩, ⟨-, c4⟩, ⟨-, c5⟩, -⟩ := HY.out
  cases hS : shpE op n nm kids
  · have HE : Hid (exE p i op n nm kids = 3) := Lib.hid (by unfold exE; rw [hS]; rfl)
    go_wp2_with fail
    go_ret
    exact ⟨ret_int HE.out.symm, HY.out.1⟩
  · have HE : Hid (exE p i op n nm kids = if decide (24 < (ext kids).1) || decide (6 < (ext kids).2) then 2 else nmsE p i op nm kids) := Lib.hid (by unfold exE; rw [hS]; rfl)
    go_wp2_with fail
    refine (extent_any op n nm kids _ ao cap hok (HAT.out.same HY.out.1)).mono ?_
    rintro e w2 ⟨rfl, hb2⟩
    have HZ := Lib.hid (HY.out.next hb2)
    clear HY hb2 c0 c1 c2 c3 c4 c5
    obtain ⟨-, ⟨-, c0⟩, ⟨-, c1⟩, ⟨-, c2⟩, ⟨-, c3⟩, ⟨-, c4⟩, ⟨-, c5⟩, -⟩ := HZ.out
    generalize (ext kids).1 = a at *
    generalize (ext kids).2 = d at *
    cases h1 : decide (24 < a)
    · cases h2 : decide (6 < d)
      · have HE' := Lib.hid (HE.out.trans (by rw [h1, h2]; rfl : _ = nmsE p i op nm kids))
        have q1 : a ≤ 24 := by simpa using h1
        have q2 : d ≤ 6 := by simpa using h2
        go_wp2_with fail
        refine (names_any p i op n nm kids _ aoD aoT ao capD capT cap hi (HP.out.same HZ.out.1) hok (HAT.out.same HZ.out.1)).mono ?_
        rintro e w3 ⟨rfl, hb3⟩
        go_wp2_with fail
        go_ret
        exact ⟨ret_int HE'.out.symm, (HZ.out.next hb3).1⟩
      · have HE' := Lib.hid (HE.out.trans (if_pos (by rw [h1, h2]; rfl)))
        have q1 : a ≤ 24 := by simpa using h1
        have q2 : 6 < d := by simpa using h2
        go_wp2_with fail
        go_ret
        exact ⟨ret_int HE'.out.symm, HZ.out.1⟩
    · have HE' := Lib.hid (HE.out.trans (if_pos (by rw [h1]; rfl)))
      have q1 : 24 < a := by simpa using h1
      go_wp2_with fail
      go_ret
      exact ⟨ret_int HE'.out.symm, HZ.out.1⟩
end Go.Proofs.YtommnhglgedflaaGreatDoor
end
section
namespace Go.Proofs.YtommnhglgedflaaGreatDoor
open Go.RowKit
open Md

theorem str_keyed : Maps.Keyed Tryz.prog 9 := Maps.string_keyed Tryz.underlying9
theorem keyOf_str (s : ByteArray) (hs : s.size ≤ maxLen) : keyOf Tryz.prog 9 (.string s) = some (.string s.toList) := by
  unfold keyOf mapKey; simp [Tryz.underlying9, hs, Lib.toList_data]
/-- The map in a block holds the integers that a function gives (0: nothing). -/
def MapI (w : World) (b n : Nat) (f : List UInt8 → Int) : Prop :=
  ∃ D : DataW Unit, w.ownsMap Tryz.prog 9 (plainElem Tryz.prog 3) b n D ∧ ∀ l, D.atKey (.string l) (.lit (.int .i64 0)) = .lit (.int .i64 (f l))
def MapB (w : World) (b n : Nat) (f : List UInt8 → Bool) : Prop :=
  ∃ D : DataW Unit, w.ownsMap Tryz.prog 9 (plainElem Tryz.prog 4) b n D ∧ ∀ l, D.atKey (.string l) (.lit (.bool false)) = .lit (.bool (f l))
theorem MapI.made (w : World) : MapI (w.alloc (.map #[] 0)) w.heap.size 0 (fun _ => 0) := ⟨_, World.ownsMap_made w _ _ _, fun _ => rfl⟩
theorem MapB.made (w : World) : MapB (w.alloc (.map #[] 0)) w.heap.size 0 (fun _ => false) := ⟨_, World.ownsMap_made w _ _ _, fun _ => rfl⟩
theorem MapI.lt {w : World} {b n : Nat} {f : List UInt8 → Int} (h : MapI w b n f) : b < w.heap.size := by obtain ⟨D, h, _⟩ := h; exact h.lt
theorem MapB.lt {w : World} {b n : Nat} {f : List UInt8 → Bool} (h : MapB w b n f) : b < w.heap.size := by obtain ⟨D, h, _⟩ := h; exact h.lt
theorem MapI.same {w w' : World} {b n : Nat} {f : List UInt8 → Int} (h : MapI w b n f) (hb : w'.heap[b]? = w.heap[b]?) : MapI w' b n f := by
  obtain ⟨D, ⟨es, clock, h1, h2⟩, h3⟩ := h; exact ⟨D, ⟨es, clock, hb.trans h1, h2⟩, h3⟩
theorem MapB.same {w w' : World} {b n : Nat} {f : List UInt8 → Bool} (h : MapB w b n f) (hb : w'.heap[b]? = w.heap[b]?) : MapB w' b n f := by
  obtain ⟨D, ⟨es, clock, h1, h2⟩, h3⟩ := h; exact ⟨D, ⟨es, clock, hb.trans h1, h2⟩, h3⟩
theorem MapI.next {w w' : World} {b n : Nat} {f : List UInt8 → Int} (h : MapI w b n f) (hb : Below w.heap.size w w') : MapI w' b n f := h.same (hb.block b h.lt)
theorem MapB.next {w w' : World} {b n : Nat} {f : List UInt8 → Bool} (h : MapB w b n f) (hb : Below w.heap.size w w') : MapB w' b n f := h.same (hb.block b h.lt)

theorem zero_int (w : World) : (zeroValue 3).run Tryz.prog w = .ok (.int .i64 0) w := by kernel_rfl
theorem zero_bool (w : World) : (zeroValue 4).run Tryz.prog w = .ok (.bool false) w := by kernel_rfl
theorem wf64 {v : Int} (hv : I64 v) : (Lit.int .i64 v).wf = true := by
  unfold Lit.wf; rw [Bool.and_eq_true, decide_eq_true_iff, decide_eq_true_iff]; exact hv
theorem MapI.look {w : World} {b n : Nat} {f : List UInt8 → Int} (h : MapI w b n f) (s : ByteArray) (hs : s.size ≤ maxLen) :
    (Instr.lookup 141 (.map (some b)) (.string s) false).run Tryz.prog w = .ok (.int .i64 (f s.toList)) w := by
  obtain ⟨D, ho, hf⟩ := h
  obtain ⟨c, hrun, hat, -⟩ := ho.lookup_int (t := 141) str_keyed Tryz.underlying141 Tryz.underlying3 (zero_int w) (keyOf_str s hs)
  rw [hf] at hat
  obtain rfl : f s.toList = c := (Lit.int.inj (DataW.lit.inj hat)).2
  exact hrun
theorem bool_inv {H : Type} {v : Value} {x : Bool} {ps : List MemPlace} (hv : plainElem (H := H) Tryz.prog 4 v = some (.lit (.bool x), ps)) : v = .bool x := by
  unfold plainElem at hv
  generalize hu : Program.underlying Tryz.prog 4 = u at hv
  rw [Tryz.underlying4] at hu
  subst hu
  cases v with
  | bool y => exact congrArg Value.bool (Lit.bool.inj (DataW.lit.inj (Prod.mk.inj (Option.some.inj hv)).1))
  | _ => exact absurd hv (by intro h; cases h)
theorem MapB.look {w : World} {b n : Nat} {f : List UInt8 → Bool} (h : MapB w b n f) (s : ByteArray) (hs : s.size ≤ maxLen) :
    (Instr.lookup 143 (.map (some b)) (.string s) false).run Tryz.prog w = .ok (.bool (f s.toList)) w := by
  obtain ⟨D, ho, hf⟩ := h
  obtain ⟨v, ps, hrun, hv⟩ := ho.lookup (t := 143) str_keyed Tryz.underlying143 (zero_bool w) (plainElem_bool Tryz.underlying4 false) (keyOf_str s hs)
  rw [hf] at hv
  have hv' : v = .bool (f s.toList) := by
    exact bool_inv hv
  rw [hrun, hv']
theorem MapI.put {w : World} {b n : Nat} {f : List UInt8 → Int} (h : MapI w b n f) (hn : n < maxLen) (s : ByteArray) (hs : s.size ≤ maxLen) (v : Int) (hv : I64 v) :
    ∃ w', (Instr.mapUpdate 141 (.map (some b)) (.string s) (.int .i64 v)).run Tryz.prog w = .ok () w' ∧ MapI w' b (n + 1) (fun l => if l = s.toList then v else f l) ∧ w.grownBy w' (some b) := by
  obtain ⟨D, ho, hf⟩ := h
  obtain ⟨w', hrun, ho', hg⟩ := ho.update (t := 141) str_keyed Tryz.underlying141 hn (keyOf_str s hs) (plainElem_int Tryz.underlying3 (a := v) (wf64 hv))
  refine ⟨w', hrun, ⟨_, ho', fun l => ?_⟩, hg⟩
  show _ = DataW.lit (.int .i64 (if l = s.toList then v else f l))
  by_cases hl : l = s.toList
  · subst hl; rw [if_pos rfl, Maps.atKey_put_same ho.isMap (str_keyed.key (keyOf_str s hs))]
  · rw [if_neg hl, Maps.atKey_put_other (by intro h; injection h with h; exact hl h), hf]
theorem MapB.put {w : World} {b n : Nat} {f : List UInt8 → Bool} (h : MapB w b n f) (hn : n < maxLen) (s : ByteArray) (hs : s.size ≤ maxLen) (v : Bool) :
    ∃ w', (Instr.mapUpdate 143 (.map (some b)) (.string s) (.bool v)).run Tryz.prog w = .ok () w' ∧ MapB w' b (n + 1) (fun l => if l = s.toList then v else f l) ∧ w.grownBy w' (some b) := by
  obtain ⟨D, ho, hf⟩ := h
  obtain ⟨w', hrun, ho', hg⟩ := ho.update (t := 143) str_keyed Tryz.underlying143 hn (keyOf_str s hs) (plainElem_bool Tryz.underlying4 v)
  refine ⟨w', hrun, ⟨_, ho', fun l => ?_⟩, hg⟩
  show _ = DataW.lit (.bool (if l = s.toList then v else f l))
  by_cases hl : l = s.toList
  · subst hl; rw [if_pos rfl, Maps.atKey_put_same ho.isMap (str_keyed.key (keyOf_str s hs))]
  · rw [if_neg hl, Maps.atKey_put_other (by intro h; injection h with h; exact hl h), hf]
end Go.Proofs.YtommnhglgedflaaGreatDoor
end
section
namespace Go.Proofs.YtommnhglgedflaaGreatDoor
open Go.RowKit
namespace Md
/-- What the names of declarations mean (0: nothing). -/
def mD (pre : List De) (l : List UInt8) : Int := ((pre.find? fun d => d.nm.toList == l).map declM).getD 0
def dc (d : De) (c : Int) : Int := if d.kind == 1 || d.kind == 2 then c + max d.size 1 else c
def dl (d : De) (l : Int) : Int := if d.kind == 3 || d.kind == 4 then l + 1 else l
def dn (d : De) (n : Int) : Int := if d.kind == 5 then n + 1 else n
def df (d : De) (f : Int) : Int := if d.kind == 6 then f + 1 else f
def lim (c l n f : Int) : Bool := ((decide (12 < c) || decide (4 < l)) || decide (2 < n)) || decide (2 < f)
/-- The first error of declarations behind others, and its line. -/
def dclS : List De → List De → Int → Int → Int → Int → Int × Int
  | [], _, _, _, _, _ => (0, 0)
  | d :: r, pre, c, l, n, f =>
    if mD pre d.nm.toList != 0 then (4, d.line)
    else if decide (4 < d.size) then (2, d.line)
    else if lim (dc d c) (dl d l) (dn d n) (df d f) then (2, d.line)
    else if d.kind == 5 && mD pre d.on.toList == 0 then (5, d.line)
    else if d.kind == 5 && mD pre d.on.toList != 4 then (6, d.line)
    else dclS r (pre ++ [d]) (dc d c) (dl d l) (dn d n) (df d f)
theorem mD_none {pre : List De} {l : List UInt8} (h : (mD pre l != 0) = false) : pre.find? (fun d => d.nm.toList == l) = none := by
  unfold mD at h
  cases hf : pre.find? (fun d => d.nm.toList == l) with
  | none => rfl
  | some d => rw [hf] at h; have := declM_range d; simp at h; omega
theorem mD_snoc {pre : List De} {d : De} (h : (mD pre d.nm.toList != 0) = false) (l : List UInt8) : (if l = d.nm.toList then declM d else mD pre l) = mD (pre ++ [d]) l := by
  unfold mD
  rw [List.find?_append]
  by_cases hl : l = d.nm.toList
  · subst hl; rw [if_pos rfl, mD_none h]; simp
  · rw [if_neg hl]
    have : (d.nm.toList == l) = false := by rw [beq_eq_false_iff_ne]; exact fun e => hl e.symm
    simp [this]
theorem declM_five (d : De) : (declM d == 6) = (d.kind == 5) := by unfold declM; grind
theorem shpD_facts {d : De} (h : shpD d = true) : 1 ≤ d.kind ∧ d.kind ≤ 6 ∧ 0 ≤ d.size ∧ (d.size = 0 ∨ d.kind = 1) := by
  unfold shpD at h; simp at h; omega
theorem dclS_cons (d : De) (r pre : List De) (c l n f : Int) : dclS (d :: r) pre c l n f = (if mD pre d.nm.toList != 0 then (4, d.line)
    else if decide (4 < d.size) then (2, d.line)
    else if lim (dc d c) (dl d l) (dn d n) (df d f) then (2, d.line)
    else if d.kind == 5 && mD pre d.on.toList == 0 then (5, d.line)
    else if d.kind == 5 && mD pre d.on.toList != 4 then (6, d.line)
    else dclS r (pre ++ [d]) (dc d c) (dl d l) (dn d n) (df d f)) := rfl
end Md
open Md
theorem MapI.congr {w : World} {b n : Nat} {f g : List UInt8 → Int} (h : MapI w b n f) (hfg : ∀ l, f l = g l) : MapI w b n g := by
  obtain ⟨D, h1, h2⟩ := h; exact ⟨D, h1, fun l => by rw [h2, hfg]⟩
theorem MapB.congr {w : World} {b n : Nat} {f g : List UInt8 → Bool} (h : MapB w b n f) (hfg : ∀ l, f l = g l) : MapB w b n g := by
  obtain ⟨D, h1, h2⟩ := h; exact ⟨D, h1, fun l => by rw [h2, hfg]⟩
/-- What holds at each round. -/
def DclRel (ds : List De) (w : World) (res : Int × Int) (g : Nat) (s5 s6 s7 s8 s15 : Value) (wr : World) : Prop :=
  ∃ (k : Nat) (pre R : List De) (c l n f : Int), g = R.length ∧ s15 = .int .i64 k ∧ pre ++ R = ds ∧ pre.length = k ∧ s5 = .int .i64 c ∧ s6 = .int .i64 l ∧ s7 = .int .i64 n ∧ s8 = .int .i64 f ∧
    (0 ≤ c ∧ c ≤ 12 ∧ 0 ≤ l ∧ l ≤ 4 ∧ 0 ≤ n ∧ n ≤ 2 ∧ 0 ≤ f ∧ f ≤ 2) ∧ res = dclS R pre c l n f ∧ MapI wr w.heap.size k (mD pre) ∧ Below w.heap.size w wr

set_option maxHeartbeats 4000000 in
set_option maxRecDepth 100000 in
theorem declarations_any (ds : List De) (w : World) (ao : Option Addr) (cap : Nat) (hl : ds.length ≤ maxLen) (hat : DeAt w w.heap.size ds ao 0) (hsh : ∀ d ∈ ds, shpD d = true) :
    Calls Tryz.prog 88 #[.slice ao ds.length cap] w fun e w' => e = .returned (.tuple #[.int .i64 (dclS ds [] 0 0 0 0).1, .int .i64 (dclS ds [] 0 0 0 0).2]) ∧ Below w.heap.size w w' := by
  generalize hres : dclS ds [] 0 0 0 0 = res
  have HR := Lib.hid hres
  have HAT := Lib.hid hat
  have HSH := Lib.hid hsh
  have hl' := hl
  unfold maxLen at hl
  clear hres hat hsh
  have hmm := @run_makeMap Tryz.prog
  go_enter Tryz.func88, Tryz.ntmps88
  go_wp2_with fail
  go_loopg [5, 6, 7, 8, 10, 11, 15] ds.length (fun g s5 s6 s7 s8 _ _ s15 wr => DclRel ds w res g s5 s6 s7 s8 s15 wr)
  case atStart => exact ⟨0, [], ds, 0, 0, 0, 0, rfl, rfl, rfl, rfl, rfl, rfl, rfl, rfl, by decide, HR.out.symm, (MapI.made w).congr (fun _ => rfl), alloc_below _ _⟩
  case round =>
    obtain ⟨k, pre, R, c, l, n, f, rfl, rfl, hds, hk, rfl, rfl, rfl, rfl, ⟨q1, q2, l1, l2, n1, n2, f1, f2⟩, hr, hmap, hB⟩ := hrel
    have HE := Lib.hid hr
    have HM := Lib.hid hmap
    have HB := Lib.hid hB
    clear hr hmap hB HR
    have hlen : k + R.length = ds.length := by rw [← hds, List.length_append, hk]
    have hrow := (HAT.out.below HB.out).drop k
    rw [Nat.zero_add, ← hds, ← hk, List.drop_left] at hrow
    rw [hk] at hrow
    cases R with
    | nil =>
      obtain rfl : k = ds.length := by simpa using hlen
      have HF := Lib.hid (HE.out.trans (rfl : _ = ((0 : Int), (0 : Int))))
      clear HE hds hk hrow
      go_wp2_with fail
      go_ret2
      exact ⟨ret_two (congrArg Prod.fst HF.out) (congrArg Prod.snd HF.out), HB.out⟩
    | cons d R =>
      have hsd := shpD_facts (HSH.out d (by rw [← hds]; simp))
      have HDS := Lib.hid hds
      have HK := Lib.hid hk
      clear hds hk
      obtain ⟨⟨b, off, rfl, hbB, x0, x1, x2, x3, x4, x5, hok⟩, -⟩ := hrow
      simp only [List.length_cons] at hlen
      have hkl : k < ds.length := by omega
      obtain ⟨g1, g2, g3, g4⟩ := hsd
      rw [dclS_cons] at HE
      go_upto_region 6 with fail
      obtain ⟨nb, hnb⟩ : ∃ n, wr.heap.size = n := ⟨_, rfl⟩
      generalize hW2 : World.alloc wr _ = W2
      have HB2 : Hid (Below w.heap.size w W2) := Lib.hid (by rw [← hW2]; exact HB.out.alloc HB.out.size _)
      have HY : Hid (Sit wr W2 [(nb, 0, .int .i64 d.kind), (nb, 1, .int .i64 d.line), (nb, 2, .string d.nm), (nb, 3, .int .i64 d.size), (nb, 4, .int .i64 d.init), (nb, 5, .string d.on)]) := Lib.hid (by rw [← hW2]; exact (Sit.start wr).box6 hnb _ _ _ _ _ _ _)
      have HM2 := Lib.hid (HM.out.next HY.out.1)
      rw [hnb]
      clear hW2 hnb x0 x1 x2 x3 x4 x5 HM HB
      obtain ⟨-, ⟨-, c0⟩, ⟨-, c1⟩, ⟨-, c2⟩, ⟨-, c3⟩, ⟨-, c4⟩, ⟨-, c5⟩, -⟩ := HY.out
      have hk1 := HM2.out.look d.nm hok.2.2.1
      cases h0 : (mD pre d.nm.toList != 0)
      case true =>
        as_aux_lemma =>
          have HF := Lib.hid (HE.out.trans (if_pos h0))
          go_wp2_with fail
          go_quiet (fail)
          go_wp2_with fail
          go_ret2
          exact ⟨ret_two (congrArg Prod.fst HF.out) (congrArg Prod.snd HF.out), below_drewN HB2.out _⟩
      have HE2 := Lib.hid (HE.out.trans (if_neg (by rw [h0]; decide)))
      clear HE
      go_upto_region 8 with fail
      cases h1 : decide (4 < d.size)
      case true =>
        as_aux_lemma =>
          have HF := Lib.hid (HE2.out.trans (if_pos h1))
          have h1' : 4 < d.size := by simpa using h1
          go_wp2_with fail
          go_quiet (fail)
          go_wp2_with fail
          go_ret2
          exact ⟨ret_two (congrArg Prod.fst HF.out) (congrArg Prod.snd HF.out), below_drewN HB2.out _⟩
      have HE3 := Lib.hid (HE2.out.trans (if_neg (by rw [h1]; decide)))
      have h1' : d.size ≤ 4 := by simpa using h1
      clear HE2 h1
      go_upto_region 10 with fail
      go_wp2_with fail
      refine (ckDeclared_any d _).mono ?_
      rintro e w3 ⟨rfl, hb3⟩
      have HZ := Lib.hid (HY.out.next hb3)
      have HB3 := Lib.hid (HB2.out.trans (hb3.mono HB2.out.size))
      have HM3 := Lib.hid (HM2.out.next hb3)
      clear hb3 HY HB2 HM2 c0 c1 c2 c3 c4 c5 hk1
      have HFV := Lib.hid (declM_five d)
      have HDM : Hid (∃ m, declM d = m) := Lib.hid ⟨_, rfl⟩
      obtain ⟨-, ⟨-, c0⟩, ⟨-, c1⟩, ⟨-, c2⟩, ⟨-, c3⟩, ⟨-, c4⟩, ⟨-, c5⟩, -⟩ := HZ.out
      go_upto_block 2 with (fail)
      go_cut [5, 6, 7, 8, 11, 33] (fun s5 s6 s7 s8 s11 _ W3 => w3 = W3 ∧ s11 = .int .i64 (declM d) ∧ s5 = .int .i64 (dc d c) ∧ s6 = .int .i64 (dl d l) ∧ s7 = .int .i64 (dn d n) ∧ s8 = .int .i64 (df d f))
      case first =>
        as_aux_lemma =>
          have hkd : d.kind = 1 ∨ d.kind = 2 ∨ d.kind = 3 ∨ d.kind = 4 ∨ d.kind = 5 ∨ d.kind = 6 := by omega
          rcases hkd with hkd | hkd | hkd | hkd | hkd | hkd
          · by_cases hs0 : d.size = 0
            · have hm : declM d = 2 := by simp [declM, hkd, hs0]
              have HA : Hid (dc d c = c + 1 ∧ dl d l = l ∧ dn d n = n ∧ df d f = f) := Lib.hid (by simp [dc, dl, dn, df, hkd, hs0] <;> first | rfl | omega)
              have HMM := Lib.hid hm
              rw [hm]
              clear hm hkd hs0
              go_wp2_with fail
              go_meet
              exact ⟨rfl, by rw [HMM.out], by rw [HA.out.1], by rw [HA.out.2.1], by rw [HA.out.2.2.1], by rw [HA.out.2.2.2]⟩
            · have hm : declM d = 3 := by simp [declM, hkd, hs0]
              have HA : Hid (dc d c = c + d.size ∧ dl d l = l ∧ dn d n = n ∧ df d f = f) := Lib.hid (by simp [dc, dl, dn, df, hkd] <;> first | rfl | omega)
              have HMM := Lib.hid hm
              rw [hm]
              clear hm hkd hs0
              go_wp2_with fail
              go_meet
              exact ⟨rfl, by rw [HMM.out], by rw [HA.out.1], by rw [HA.out.2.1], by rw [HA.out.2.2.1], by rw [HA.out.2.2.2]⟩
          · have hs0 : d.size = 0 := by omega
            have hm : declM d = 2 := by simp [declM, hkd]
            have HA : Hid (dc d c = c + 1 ∧ dl d l = l ∧ dn d n = n ∧ df d f = f) := Lib.hid (by simp [dc, dl, dn, df, hkd, hs0] <;> first | rfl | omega)
            have HMM := Lib.hid hm
            rw [hm]
            clear hm hkd hs0
            go_wp2_with fail
            go_meet
            exact ⟨rfl, by rw [HMM.out], by rw [HA.out.1], by rw [HA.out.2.1], by rw [HA.out.2.2.1], by rw [HA.out.2.2.2]⟩
          · have hm : declM d = 4 := by simp [declM, hkd]
            have HA : Hid (dc d c = c ∧ dl d l = l + 1 ∧ dn d n = n ∧ df d f = f) := Lib.hid (by simp [dc, dl, dn, df, hkd])
            have HMM := Lib.hid hm
            rw [hm]
            clear hm hkd
            go_wp2_with fail
            go_meet
            exact ⟨rfl, by rw [HMM.out], by rw [HA.out.1], by rw [HA.out.2.1], by rw [HA.out.2.2.1], by rw [HA.out.2.2.2]⟩
          · have hm : declM d = 5 := by simp [declM, hkd]
            have HA : Hid (dc d c = c ∧ dl d l = l + 1 ∧ dn d n = n ∧ df d f = f) := Lib.hid (by simp [dc, dl, dn, df, hkd])
            have HMM := Lib.hid hm
            rw [hm]
            clear hm hkd
            go_wp2_with fail
            go_meet
            exact ⟨rfl, by rw [HMM.out], by rw [HA.out.1], by rw [HA.out.2.1], by rw [HA.out.2.2.1], by rw [HA.out.2.2.2]⟩
          · have hm : declM d = 6 := by simp [declM, hkd]
            have HA : Hid (dc d c = c ∧ dl d l = l ∧ dn d n = n + 1 ∧ df d f = f) := Lib.hid (by simp [dc, dl, dn, df, hkd])
            have HMM := Lib.hid hm
            rw [hm]
            clear hm hkd
            go_wp2_with fail
            go_meet
            exact ⟨rfl, by rw [HMM.out], by rw [HA.out.1], by rw [HA.out.2.1], by rw [HA.out.2.2.1], by rw [HA.out.2.2.2]⟩
          · have hm : declM d = 7 := by simp [declM, hkd]
            have HA : Hid (dc d c = c ∧ dl d l = l ∧ dn d n = n ∧ df d f = f + 1) := Lib.hid (by simp [dc, dl, dn, df, hkd])
            have HMM := Lib.hid hm
            rw [hm]
            clear hm hkd
            go_wp2_with fail
            go_meet
            exact ⟨rfl, by rw [HMM.out], by rw [HA.out.1], by rw [HA.out.2.1], by rw [HA.out.2.2.1], by rw [HA.out.2.2.2]⟩
      obtain ⟨rfl, rfl, rfl, rfl, rfl, rfl⟩ := hcut
      have hc' : 0 ≤ dc d c ∧ dc d c ≤ 16 := by unfold dc; split <;> omega
      have hl'' : 0 ≤ dl d l ∧ dl d l ≤ 5 := by unfold dl; split <;> omega
      have hn' : 0 ≤ dn d n ∧ dn d n ≤ 3 := by unfold dn; split <;> omega
      have hf' : 0 ≤ df d f ∧ df d f ≤ 3 := by unfold df; split <;> omega
      generalize hcc : dc d c = c' at *
      generalize hll : dl d l = l' at *
      generalize hnn : dn d n = n' at *
      generalize hff : df d f = f' at *
      clear hcc hll hnn hff
      go_upto_region 23 with fail
      go_cut [70] (fun s' W3 => w3 = W3 ∧ s' = .bool (lim c' l' n' f'))
      case first =>
        as_aux_lemma =>
          have HF : Hid (lim c' l' n' f' = (((decide (12 < c') || decide (4 < l')) || decide (2 < n')) || decide (2 < f'))) := Lib.hid rfl
          go_wp2_with fail
          all_goals go_meet
          all_goals exact ⟨rfl, by first | (rw [HF.out]; done) | (rw [HF.out]; congr 1; go_light; grind)⟩
      obtain ⟨rfl, rfl⟩ := hcut
      cases h2 : lim c' l' n' f'
      case true =>
        as_aux_lemma =>
          have HF := Lib.hid (HE3.out.trans (if_pos h2))
          go_wp2_with fail
          go_quiet (fail)
          go_wp2_with fail
          go_ret2
          exact ⟨ret_two (congrArg Prod.fst HF.out) (congrArg Prod.snd HF.out), below_drewN HB3.out _⟩
      have HE4 := Lib.hid (HE3.out.trans (if_neg (by rw [h2]; decide)))
      have hlim : c' ≤ 12 ∧ l' ≤ 4 ∧ n' ≤ 2 ∧ f' ≤ 2 := by unfold lim at h2; simp at h2; omega
      clear HE3 h2
      have hkm : k < maxLen := by omega
      cases h5 : (d.kind == 5)
      · have h6 : (declM d == 6) = false := HFV.out.trans h5
        have HF := Lib.hid (HE4.out.trans ((if_neg (by rw [h5]; simp)).trans (if_neg (by rw [h5]; simp))))
        clear HE4
        obtain ⟨w4, hup, hm4, hg4⟩ := HM3.out.put (by omega) d.nm hok.2.2.1 (declM d) (by have := declM_range d; unfold I64; omega)
        have HM4 := Lib.hid ((hm4.congr (mD_snoc h0)))
        have HB4 := Lib.hid (HB3.out.trans (grown_below hg4 (Nat.le_refl _) HB3.out.size))
        clear hm4 hg4
        go_wp2_with fail
        go_roundg R.length
        case measure => simp
        case rel => exact ⟨k + 1, pre ++ [d], R, c', l', n', f', rfl, by go_num, by rw [List.append_assoc]; exact HDS.out, by rw [List.length_append, HK.out]; rfl, rfl, rfl, rfl, rfl, by omega, HF.out, HM4.out, HB4.out⟩
      · have h6 : (declM d == 6) = true := HFV.out.trans h5
        have hk2 := HM3.out.look d.on hok.2.2.2.2.2
        generalize hmo : mD pre d.on.toList = mo at *
        clear hmo
        cases h7 : (mo == 0)
        case true =>
          as_aux_lemma =>
            have HF := Lib.hid (HE4.out.trans (if_pos (by rw [h5, h7]; rfl)))
            go_wp2_with fail
            go_quiet (fail)
            go_wp2_with fail
            go_ret2
            exact ⟨ret_two (congrArg Prod.fst HF.out) (congrArg Prod.snd HF.out), below_drewN HB3.out _⟩
        have HE5 := Lib.hid (HE4.out.trans (if_neg (by rw [h5, h7]; decide)))
        clear HE4
        cases h8 : (mo != 4)
        case true =>
          as_aux_lemma =>
            have HF := Lib.hid (HE5.out.trans (if_pos (by rw [h5, h8]; rfl)))
            go_wp2_with fail
            go_quiet (fail)
            go_wp2_with fail
            go_ret2
            exact ⟨ret_two (congrArg Prod.fst HF.out) (congrArg Prod.snd HF.out), below_drewN HB3.out _⟩
        have HF := Lib.hid (HE5.out.trans (if_neg (by rw [h5, h8]; decide)))
        clear HE5
        obtain ⟨w4, hup, hm4, hg4⟩ := HM3.out.put (by omega) d.nm hok.2.2.1 (declM d) (by have := declM_range d; unfold I64; omega)
        have HM4 := Lib.hid ((hm4.congr (mD_snoc h0)))
        have HB4 := Lib.hid (HB3.out.trans (grown_below hg4 (Nat.le_refl _) HB3.out.size))
        clear hm4 hg4
        go_wp2_with fail
        go_roundg R.length
        case measure => simp
        case rel => exact ⟨k + 1, pre ++ [d], R, c', l', n', f', rfl, by go_num, by rw [List.append_assoc]; exact HDS.out, by rw [List.length_append, HK.out]; rfl, rfl, rfl, rfl, rfl, by omega, HF.out, HM4.out, HB4.out⟩
end Go.Proofs.YtommnhglgedflaaGreatDoor
end
section
namespace Go.Proofs.YtommnhglgedflaaGreatDoor
open Go.RowKit
namespace Md
def usedD (ds : List De) (l : List UInt8) : Bool := ds.any fun d => d.nm.toList == l
def usedT (ts : List Th) (l : List UInt8) : Bool := ts.any fun t => t.nm.toList == l
def inTx (tx : List ByteArray) (l : List UInt8) : Bool := tx.any fun s => s.toList == l
/-- The line of the first thread whose name is used. -/
def thrA (ds : List De) : List Th → List Th → Option Int
  | [], _ => none
  | t :: r, pre => if usedD ds t.nm.toList || usedT pre t.nm.toList then some t.line else thrA ds r (pre ++ [t])
/-- A local is used. -/
def locA (ds : List De) (ts : List Th) : List ByteArray → List ByteArray → Bool
  | [], _ => false
  | s :: r, pre => ((usedD ds s.toList || usedT ts s.toList) || inTx pre s.toList) || locA ds ts r (pre ++ [s])
def thrB (ds : List De) (ts : List Th) : List Th → Int × Int
  | [] => (0, 0)
  | t :: r => if decide ((4 : Int) < t.locs.length) then (2, t.line) else if locA ds ts t.locs [] then (4, t.line) else thrB ds ts r
/-- The first error of the threads' names and locals. -/
def thrS (p : Pr) : Int × Int := match thrA p.ds p.ts [] with
  | some l => (4, l)
  | none => thrB p.ds p.ts p.ts
theorem usedD_snoc (pre : List De) (d : De) (l : List UInt8) : (if l = d.nm.toList then true else usedD pre l) = usedD (pre ++ [d]) l := by
  unfold usedD; rw [List.any_append]; by_cases h : l = d.nm.toList
  · subst h; simp
  · rw [if_neg h]; have : (d.nm.toList == l) = false := by rw [beq_eq_false_iff_ne]; exact fun e => h e.symm
    simp [this]
theorem usedT_snoc (ds : List De) (pre : List Th) (t : Th) (l : List UInt8) : (if l = t.nm.toList then true else (usedD ds l || usedT pre l)) = (usedD ds l || usedT (pre ++ [t]) l) := by
  unfold usedT; rw [List.any_append]; by_cases h : l = t.nm.toList
  · subst h; simp
  · rw [if_neg h]; have : (t.nm.toList == l) = false := by rw [beq_eq_false_iff_ne]; exact fun e => h e.symm
    simp [this]
end Md
open Md
theorem Holds.grown {W W' : World} {bm : Nat} (hg : W.grownBy W' (some bm)) : ∀ {l : List (Nat × Nat × Value)}, (∀ f ∈ l, f.1 ≠ bm) → Holds W l → Holds W' l
  | [], _, _ => trivial
  | f :: _, hne, ⟨⟨h1, h2⟩, h3⟩ => ⟨⟨Nat.lt_of_lt_of_le h1 hg.size, (World.cell?_of_block (a := ⟨f.1, f.2.1, none⟩) (hg.block f.1 h1 (by have := hne f (by simp); simp; exact this))).trans h2⟩, Holds.grown hg (fun x hx => hne x (by simp [hx])) h3⟩
theorem Sit.grown {w W W' : World} {fs : List (Nat × Nat × Value)} {bm : Nat} (h : Sit w W fs) (hg : W.grownBy W' (some bm)) (hb : w.heap.size ≤ bm) (hne : ∀ f ∈ fs, f.1 ≠ bm) : Sit w W' fs :=
  ⟨h.1.trans (grown_below hg hb h.1.size), h.2.grown hg hne⟩

set_option maxHeartbeats 4000000 in
set_option maxRecDepth 100000 in
theorem threads_any (p : Pr) (w : World) (aoD aoT : Option Addr) (capD capT : Nat) (hp : p.At w aoD aoT) (hsum : p.ds.length + p.ts.length < maxLen) :
    Calls Tryz.prog 89 #[.agg #[.slice aoD p.ds.length capD, .slice aoT p.ts.length capT]] w fun e w' => e = .returned (.tuple #[.int .i64 (thrS p).1, .int .i64 (thrS p).2]) ∧ Below w.heap.size w w' := by
  have HR : Hid (thrS p = match thrA p.ds p.ts [] with | some l => (4, l) | none => thrB p.ds p.ts p.ts) := Lib.hid rfl
  generalize thrS p = res at *
  have hld := hp.1
  have hlt := hp.2.1
  unfold maxLen at hld hlt
  have HP := Lib.hid hp
  clear hp
  have hmm := @run_makeMap Tryz.prog
  go_enter Tryz.func89, Tryz.ntmps89
  go_upto_region 1 with fail
  generalize hW : World.alloc w _ = W
  generalize Value.agg #[_, _] = a0
  have HX := Lib.hid ((Sit.start w).box2 rfl (.slice aoD p.ds.length capD) (.slice aoT p.ts.length capT) 26)
  rw [hW] at HX
  have hsz : W.heap.size = w.heap.size + 1 := by rw [← hW]; simp
  clear hW
  go_upto_region 2 with fail
  have HM := Lib.hid (MapB.made W)
  have HY := Lib.hid (HX.out.next (alloc_below W (.map #[] 0)))
  rw [hsz] at HM
  generalize World.alloc W _ = W1 at *
  clear HX hsz
  obtain ⟨-, ⟨-, c0⟩, ⟨-, c1⟩, -⟩ := HY.out
  go_wp2_with fail
  go_loopw [6, 19] (fun _ s wr => ∃ (k : Nat) (pre R : List De), s = .int .i64 k ∧ pre ++ R = p.ds ∧ pre.length = k ∧ MapB wr (w.heap.size + 1) k (usedD pre) ∧ Sit w wr [(w.heap.size, 0, (.slice aoD p.ds.length capD)), (w.heap.size, 1, (.slice aoT p.ts.length capT))]) (fun _ s _ => p.ds.length - (intOf s).toNat)
  case atStart => exact ⟨0, [], p.ds, rfl, rfl, rfl, HM.out.congr (fun _ => rfl), HY.out⟩
  case round =>
    obtain ⟨k, pre, R, rfl, hds, hk, hmap, hsit⟩ := hrel
    have HZ := Lib.hid hsit
    have HM2 := Lib.hid hmap
    clear hsit hmap HY HM c0 c1
    have hlen : k + R.length = p.ds.length := by rw [← hds, List.length_append, hk]
    have hrow := (HP.out.2.2.1.below HZ.out.1).drop k
    rw [Nat.zero_add, ← hds, ← hk, List.drop_left] at hrow
    rw [hk] at hrow
    have HDS := Lib.hid hds
    have HK := Lib.hid hk
    clear hds hk
    cases R with
    | cons d R =>
      obtain ⟨⟨b, off, rfl, hbB, x0, x1, x2, x3, x4, x5, hok⟩, -⟩ := hrow
      simp only [List.length_cons] at hlen
      have hkl : k < p.ds.length := by omega
      have hba := alloc_below wr (.cells #[.int .i64 d.kind, .int .i64 d.line, .string d.nm, .int .i64 d.size, .int .i64 d.init, .string d.on] 58)
      obtain ⟨w4, hup, hm4, hg4⟩ := (HM2.out.next hba).put (by omega) d.nm hok.2.2.1 true
      have HM4 := Lib.hid (hm4.congr (usedD_snoc pre d))
      have HZ4 := Lib.hid ((HZ.out.next hba).grown hg4 (by omega) (by simp))
      clear hm4 hg4 hba hok
      go_wp2_with fail
      go_roundw
      case rel => exact ⟨k + 1, pre ++ [d], R, by go_num, by rw [List.append_assoc]; exact HDS.out, by rw [List.length_append, HK.out]; rfl, HM4.out, HZ4.out⟩
      case measure => simp [intOf]; omega
    | nil =>
      obtain rfl : k = p.ds.length := by simpa using hlen
      have hpre : pre = p.ds := by rw [← HDS.out, List.append_nil]
      subst hpre
      obtain ⟨-, ⟨-, c0⟩, ⟨-, c1⟩, -⟩ := HZ.out
      clear hrow hlen HDS HK
      go_wp2_with fail
      go_loopw [8, 30] (fun _ s wr => ∃ (k : Nat) (pre R : List Th), s = .int .i64 k ∧ pre ++ R = p.ts ∧ pre.length = k ∧ thrA p.ds p.ts [] = thrA p.ds R pre ∧ MapB wr (w.heap.size + 1) (p.ds.length + k) (fun l => usedD p.ds l || usedT pre l) ∧ Sit w wr [(w.heap.size, 0, (.slice aoD p.ds.length capD)), (w.heap.size, 1, (.slice aoT p.ts.length capT))]) (fun _ s _ => p.ts.length - (intOf s).toNat)
      case atStart => exact ⟨0, [], p.ts, rfl, rfl, rfl, rfl, HM2.out.congr (fun l => by simp [usedT]), HZ.out⟩
      case round =>
        obtain ⟨k, pre, R, rfl, hds, hk, heq, hmap, hsit⟩ := hrel
        have HU := Lib.hid hsit
        have HM3 := Lib.hid hmap
        have HE := Lib.hid heq
        clear hsit hmap HZ HM2 c0 c1 heq
        have hlen : k + R.length = p.ts.length := by rw [← hds, List.length_append, hk]
        have hrow := (HP.out.2.2.2.below HU.out.1).drop k
        rw [Nat.zero_add, ← hds, ← hk, List.drop_left] at hrow
        rw [hk] at hrow
        have HDS := Lib.hid hds
        have HK := Lib.hid hk
        clear hds hk
        cases R with
        | cons t R =>
          obtain ⟨⟨b, off, aol, capl, aob, capb, rfl, hB, x0, x1, x2, x3, hok, htx, hst⟩, -⟩ := hrow
          simp only [List.length_cons] at hlen
          have hkl : k < p.ts.length := by omega
          have hba := alloc_below wr (.cells #[.string t.nm, .int .i64 t.line, .slice aol t.locs.length capl, .slice aob t.body.len capb] 63)
          have HM4 := Lib.hid (HM3.out.next hba)
          have hlk := HM4.out.look t.nm hok.1
          have HB3 := Lib.hid (HU.out.next hba).1
          cases hus : (usedD p.ds t.nm.toList || usedT pre t.nm.toList)
          · obtain ⟨w4, hup, hm4, hg4⟩ := HM4.out.put (by omega) t.nm hok.1 true
            have HM5 := Lib.hid (hm4.congr (usedT_snoc p.ds pre t))
            have HU4 := Lib.hid ((HU.out.next hba).grown hg4 (by omega) (by simp))
            have HE' := Lib.hid (HE.out.trans (if_neg (by rw [hus]; decide)))
            clear hm4 hg4 hba hok htx hst
            go_wp2_with fail
            go_roundw
            case rel => exact ⟨k + 1, pre ++ [t], R, by go_num, by rw [List.append_assoc]; exact HDS.out, by rw [List.length_append, HK.out]; rfl, HE'.out, HM5.out, HU4.out⟩
            case measure => simp [intOf]; omega
          · have HF : Hid (res = (4, t.line)) := Lib.hid (HR.out.trans (by rw [HE.out.trans (if_pos hus)]))
            clear hba hok htx hst
            go_wp2_with fail
            go_quiet (fail)
            go_wp2_with fail
            go_ret2
            exact ⟨ret_two (congrArg Prod.fst HF.out) (congrArg Prod.snd HF.out), below_drewN HB3.out _⟩
        | nil =>
          obtain rfl : k = p.ts.length := by simpa using hlen
          have hpre : pre = p.ts := by rw [← HDS.out, List.append_nil]
          subst hpre
          have HR2 : Hid (res = thrB p.ds p.ts p.ts) := Lib.hid (HR.out.trans (by rw [HE.out]; rfl))
          obtain ⟨-, ⟨-, c0⟩, ⟨-, c1⟩, -⟩ := HU.out
          clear hrow hlen HDS HK HE HR
          generalize hff : (fun l => usedD p.ds l || usedT p.ts l) = ff at *
          have HFF := Lib.hid hff
          clear hff
          have hth := HP.out.2.2.2.below HU.out.1
          go_wp2_with fail
          go_loopw [10, 11, 12, 14, 47, 60, 75] (fun _ _ _ _ s _ _ wr => ∃ (k : Nat) (R : List Th), s = .int .i64 k ∧ k + R.length = p.ts.length ∧ thrB p.ds p.ts p.ts = thrB p.ds p.ts R ∧ ThAt wr w.heap.size R aoT k ∧ MapB wr (w.heap.size + 1) (p.ds.length + p.ts.length) ff ∧ Sit w wr [(w.heap.size, 0, (.slice aoD p.ds.length capD)), (w.heap.size, 1, (.slice aoT p.ts.length capT))]) (fun _ _ _ _ s _ _ _ => p.ts.length - (intOf s).toNat)
          case atStart => exact ⟨0, p.ts, rfl, by simp, rfl, hth, HM3.out, HU.out⟩
          case round =>
            obtain ⟨k, R, rfl, hlen, heq, hrow, hmap, hsit⟩ := hrel
            have HV := Lib.hid hsit
            have HM4 := Lib.hid hmap
            have HE := Lib.hid (HR2.out.trans heq)
            have HE0 := Lib.hid heq
            clear hsit hmap HU HM3 c0 c1 heq hth
            cases R with
            | nil =>
              obtain rfl : k = p.ts.length := by simpa using hlen
              have HF := Lib.hid (HE.out.trans (rfl : _ = ((0 : Int), (0 : Int))))
              go_wp2_with fail
              go_ret2
              exact ⟨ret_two (congrArg Prod.fst HF.out) (congrArg Prod.snd HF.out), HV.out.1⟩
            | cons t R =>
              obtain ⟨⟨b, off, aol, capl, aob, capb, rfl, hB, x0, x1, x2, x3, hok, htx, hst⟩, hrest⟩ := hrow
              simp only [List.length_cons] at hlen
              have hkl : k < p.ts.length := by omega
              have hll := hok.2.2.1
              have hcl := hst.2
              unfold maxLen at hll
              clear hst hok
              go_upto_region 17 with fail
              obtain ⟨nb, hnb⟩ : ∃ n, wr.heap.size = n := ⟨_, rfl⟩
              generalize hW2 : World.alloc wr _ = W2
              have HBW : Hid (Below wr.heap.size wr W2) := Lib.hid (by rw [← hW2]; exact alloc_below _ _)
              have HY : Hid (Sit wr W2 [(nb, 0, .string t.nm), (nb, 1, .int .i64 t.line), (nb, 2, .slice aol t.locs.length capl), (nb, 3, .slice aob t.body.len capb)]) := Lib.hid (by rw [← hW2]; exact (Sit.start wr).box4 hnb _ _ _ _ _)
              have HV2 := Lib.hid (HV.out.next HBW.out)
              have HM5 := Lib.hid (HM4.out.next HBW.out)
              have HB3 := Lib.hid HV2.out.1
              have HTX := Lib.hid (htx.below (HBW.out.mono HV.out.1.size))
              have HRS := Lib.hid (hrest.below (HBW.out.mono HV.out.1.size))
              rw [hnb]
              clear hW2 hnb x0 x1 x2 x3 HM4 HV htx hrest HBW
              obtain ⟨-, ⟨-, c0⟩, ⟨-, c1⟩, ⟨-, c2⟩, ⟨-, c3⟩, -⟩ := HY.out
              cases h1 : decide ((4 : Int) < t.locs.length)
              case true =>
                as_aux_lemma =>
                  have HF := Lib.hid (HE.out.trans (if_pos h1))
                  have h1' : 4 < t.locs.length := by simp at h1; omega
                  clear h1
                  go_wp2_with fail
                  go_quiet (fail)
                  go_wp2_with fail
                  go_ret2
                  exact ⟨ret_two (congrArg Prod.fst HF.out) (congrArg Prod.snd HF.out), below_drewN HB3.out _⟩
              have HE2 := Lib.hid (HE.out.trans (if_neg (by rw [h1]; decide)))
              have HE3 := Lib.hid (HE0.out.trans (if_neg (by rw [h1]; decide)))
              have h1' : t.locs.length ≤ 4 := by simp at h1; omega
              clear HE HE0 h1
              go_wp2_with fail
              go_loop [11, 12, 14, 60, 75] (fun _ _ _ s _ => ∃ (k' : Nat) (pre R' : List ByteArray), s = .int .i64 k' ∧ pre ++ R' = t.locs ∧ pre.length = k' ∧ locA p.ds p.ts t.locs [] = locA p.ds p.ts R' pre) (fun _ _ _ s _ => t.locs.length - (intOf s).toNat)
              case atStart => exact ⟨0, [], t.locs, rfl, rfl, rfl, rfl⟩
              case round =>
                obtain ⟨k', pre, R', rfl, hds, hk', heq'⟩ := hrel
                have HE' := Lib.hid heq'
                have hlen' : k' + R'.length = t.locs.length := by rw [← hds, List.length_append, hk']
                have hrow := HTX.out.drop k'
                rw [Nat.zero_add, ← hds, ← hk', List.drop_left] at hrow
                rw [hk'] at hrow
                have HPR := Lib.hid ((hds ▸ HTX.out : TxAt W2 w.heap.size (pre ++ R') aol 0).take)
                have HDS := Lib.hid hds
                have HK := Lib.hid hk'
                clear hds hk' heq'
                cases R' with
                | nil =>
                  obtain rfl : k' = t.locs.length := by simpa using hlen'
                  have HF := Lib.hid (HE3.out.trans (if_neg (by rw [HE'.out]; simp [locA])))
                  go_wp2_with fail
                  go_roundw
                  case rel => exact ⟨k + 1, R, by go_num, by omega, HF.out, HRS.out, HM5.out, HV2.out⟩
                  case measure => simp [intOf]; omega
                | cons s R' =>
                  obtain ⟨⟨b', off', rfl, hB', y0, hs⟩, -⟩ := hrow
                  simp only [List.length_cons] at hlen'
                  have hkl' : k' < t.locs.length := by omega
                  have hlk := HM5.out.look s hs
                  have hfs : ff s.toList = (usedD p.ds s.toList || usedT p.ts s.toList) := by rw [← HFF.out]
                  cases hus : ff s.toList
                  case true =>
                    as_aux_lemma =>
                      have HF := Lib.hid (HE2.out.trans (if_pos (by rw [HE'.out]; unfold locA; rw [← hfs, hus]; rfl)))
                      clear hfs
                      go_wp2_with fail
                      go_quiet (fail)
                      go_wp2_with fail
                      go_ret2
                      exact ⟨ret_two (congrArg Prod.fst HF.out) (congrArg Prod.snd HF.out), below_drewN HB3.out _⟩
                  have HE4 : Hid (locA p.ds p.ts t.locs [] = (inTx pre s.toList || locA p.ds p.ts R' (pre ++ [s]))) := Lib.hid (HE'.out.trans (by rw [locA, ← hfs, hus]; rfl))
                  clear hfs HE'
                  have hk0 : (0 : Int) ≤ k' := by omega
                  have hk2 : k' ≤ capl := by omega
                  go_wp2_with fail
                  go_loop [14, 75] (fun _ s' => ∃ (k'' : Nat) (Q : List ByteArray), s' = .int .i64 k'' ∧ k'' + Q.length = k' ∧ inTx pre s.toList = inTx Q s.toList ∧ TxAt W2 w.heap.size Q (some ⟨b', off', none⟩) k'') (fun _ s' => k' - (intOf s').toNat)
                  case atStart => exact ⟨0, pre, rfl, by rw [Nat.zero_add]; exact HK.out, rfl, HPR.out⟩
                  case round =>
                    obtain ⟨k'', Q, rfl, hlen'', heq'', hrow''⟩ := hrel
                    have HQ := Lib.hid heq''
                    clear heq''
                    cases Q with
                    | nil =>
                      obtain rfl : k'' = k' := by simpa using hlen''
                      have HF := Lib.hid (HE4.out.trans (by rw [HQ.out]; rfl : _ = locA p.ds p.ts R' (pre ++ [s])))
                      go_wp2_with fail
                      go_round
                      case rel => exact ⟨k'' + 1, pre ++ [s], R', by go_num, by rw [List.append_assoc]; exact HDS.out, by rw [List.length_append, HK.out]; rfl, HF.out⟩
                      case measure => simp [intOf]; omega
                    | cons q Q =>
                      obtain ⟨⟨b2, off2, hbe, hB2, z0, hq⟩, hrest''⟩ := hrow''
                      obtain ⟨rfl, rfl⟩ : b' = b2 ∧ off' = off2 := by injection hbe with h; injection h with h1 h2; exact ⟨h1, h2⟩
                      simp only [List.length_cons] at hlen''
                      have hkl'' : k'' < k' := by omega
                      clear hbe
                      have HQ2 : Hid (inTx pre s.toList = ((q.toList == s.toList) || inTx Q s.toList)) := Lib.hid (HQ.out.trans (by simp [inTx]))
                      cases hc : (q.toList == s.toList)
                      · have hc' : (s.toList == q.toList) = false := by rw [beq_eq_false_iff_ne] at hc ⊢; exact fun e => hc e.symm
                        have HF := Lib.hid (HQ2.out.trans (by rw [hc]; rfl : _ = inTx Q s.toList))
                        go_wp2_with fail
                        go_round
                        case rel => exact ⟨k'' + 1, Q, by go_num, by omega, HF.out, hrest''⟩
                        case measure => simp [intOf]; omega
                      · have hc' : (s.toList == q.toList) = true := by rw [beq_iff_eq] at hc ⊢; exact hc.symm
                        have HF := Lib.hid (HE2.out.trans (if_pos (by rw [HE4.out, HQ2.out, hc]; rfl)))
                        go_wp2_with fail
                        go_quiet (fail)
                        go_wp2_with fail
                        go_ret2
                        exact ⟨ret_two (congrArg Prod.fst HF.out) (congrArg Prod.snd HF.out), below_drewN HB3.out _⟩
end Go.Proofs.YtommnhglgedflaaGreatDoor
end
