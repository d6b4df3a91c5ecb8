/-
  Contracts of check.declared and check.meaning.
  Contracts of check.kindOf, extent, names, Expr.
  Contracts of the reference's At, DeclAt, ThreadAt, KindOf, want, Nodes, names, Expr.
  Contracts of the reference's want, Nodes, names, Expr.
  Maps that a call makes, keyed by texts, with integers and truth values: what they hold as a plain function.
-/
import Derived.Test.YtghdammalphmfaaDoorGC
import Derived.Deep.CutBlock
import Derived.Maps.Own
import Derived.Maps.OwnSet
import Derived.Maps.Views
section
namespace Go.Proofs.YtghdammalphmfaaDoor
open Go.RowKit
open Md

theorem declared_any (d : De) (w : World) :
    Calls Tryd.prog 51 #[.agg #[.int .i64 d.kind, .int .i64 d.line, .string d.nm, .int .i64 d.size, .int .i64 d.init, .string d.on]] w fun e w' => e = .returned (.int .i64 (declM d)) ∧ Below w.heap.size w w' := by
  unfold declM
  go_enter Tryd.func51, Tryd.ntmps51
  go_wp2
  all_goals go_ret
  all_goals refine ⟨ret_int ?_, alloc_below _ _⟩
  all_goals first | (simp [*]; done) | (go_light; grind)

theorem isLoc_cons (s : ByteArray) (r : List ByteArray) (nm : ByteArray) : isLoc (s :: r) nm = ((s.toList == nm.toList) || isLoc r nm) := by simp [isLoc]
theorem meanD_cons (d : De) (r : List De) (nm : ByteArray) : meanD (d :: r) nm = if d.nm.toList == nm.toList then some (declM d) else meanD r nm := by
  unfold meanD; rw [List.find?_cons]; cases h : (d.nm.toList == nm.toList) <;> simp
theorem meanT_cons (t : Th) (r : List Th) (nm : ByteArray) : meanT (t :: r) nm = if t.nm.toList == nm.toList then 8 else meanT r nm := by
  unfold meanT; rw [List.any_cons]; cases h : (t.nm.toList == nm.toList) <;> simp
theorem locsAt_none {ts : List Th} {i : Int} (h : ¬ (0 ≤ i ∧ i < ts.length)) : locsAt ts i = [] := by
  unfold locsAt
  split
  · rw [List.getElem?_eq_none (by omega)]; rfl
  · rfl
theorem locsAt_nat {ts : List Th} {i : Nat} {t : Th} {r : List Th} (h : ts.drop i = t :: r) : locsAt ts (i : Int) = t.locs := by
  have h2 : ts[i]? = some t := by have := List.getElem?_drop (xs := ts) (i := i) (j := 0); rw [h] at this; simpa using this.symm
  unfold locsAt
  rw [if_pos (by omega)]
  simp [h2]

set_option maxHeartbeats 2000000 in
theorem meaning_any (p : Pr) (i : Int) (nm : ByteArray) (w : World) (aoD aoT : Option Addr) (capD capT : Nat) (hi : I64 i) (hp : p.At w aoD aoT) :
    Calls Tryd.prog 61 #[.agg #[.slice aoD p.ds.length capD, .slice aoT p.ts.length capT], .int .i64 i, .string nm] w fun e w' => e = .returned (.int .i64 (mean p i nm)) ∧ Below w.heap.size w w' := by
  obtain ⟨i1, i2⟩ := hi
  have hld := hp.1
  have hlt := hp.2.1
  unfold maxLen at hld hlt
  have HP := Lib.hid hp
  clear hp
  go_enter Tryd.func61, Tryd.ntmps61
  go_upto_region 1 with fail
  generalize hW : World.alloc w _ = W
  generalize Value.agg #[_, _] = a0
  have HX := Lib.hid ((Sit.start w).box2 rfl (.slice aoD p.ds.length capD) (.slice aoT p.ts.length capT) 29)
  rw [hW] at HX
  clear hW
  obtain ⟨-, ⟨-, c0⟩, ⟨-, c1⟩, -⟩ := HX.out
  go_cut [21] (fun s W2 => W = W2 ∧ ∃ b, s = .bool b ∧ decide (0 ≤ i ∧ i < p.ts.length) = b)
  case first =>
    go_wp2_with fail
    all_goals go_meet
    all_goals exact ⟨rfl, _, rfl, by go_light; grind⟩
  obtain ⟨rfl, bi, rfl, hbi⟩ := hcut
  have HBI := Lib.hid hbi
  clear hbi
  go_upto_if 21 with fail
  go_cut [6, 8] (fun s6 s8 W2 => isLoc (locsAt p.ts i) nm = false ∧ Sit w W2 [(w.heap.size, 0, (.slice aoD p.ds.length capD)), (w.heap.size, 1, (.slice aoT p.ts.length capT))])
  case first =>
    cases bi
    · go_wp2_with fail
      go_meet
      exact ⟨by rw [locsAt_none (by simpa using HBI.out)]; rfl, HX.out⟩
    · have hbi : 0 ≤ i ∧ i < p.ts.length := by simpa using HBI.out
      obtain ⟨j, rfl⟩ := Int.eq_ofNat_of_zero_le hbi.1
      have hj : j < p.ts.length := by omega
      have hth := (HP.out.same HX.out.1).2.2.2.drop j
      cases hd : p.ts.drop j with
      | nil => exfalso; have := congrArg List.length hd; simp at this; omega
      | cons t r =>
        rw [hd, Nat.zero_add] at hth
        have HL := Lib.hid (locsAt_nat hd)
        clear hd hbi HBI
        obtain ⟨⟨b, off, aol, capl, aob, capb, rfl, hB, x0, x1, x2, x3, hok, htx, hst⟩, -⟩ := hth
        have hll := hok.2.2.1
        unfold maxLen at hll
        clear hst hok
        go_wp2_with fail
        go_loop [8, 29] (fun _ s => ∃ (k : Nat) (R : List ByteArray), s = .int .i64 k ∧ k + R.length = t.locs.length ∧ isLoc t.locs nm = isLoc R nm ∧ TxAt W W.heap.size R aol k) (fun _ s => t.locs.length - (intOf s).toNat)
        case atStart => exact ⟨0, t.locs, rfl, by simp, rfl, htx⟩
        case round =>
          obtain ⟨k, R, rfl, hlen, heq, hrow⟩ := hrel
          cases R with
          | nil =>
            obtain rfl : k = t.locs.length := by simpa using hlen
            go_wp2_with fail
            go_meet
            exact ⟨by rw [HL.out, heq]; rfl, HX.out⟩
          | cons s R =>
            obtain ⟨⟨b', off', rfl, hB', y0, hs⟩, hrest⟩ := hrow
            simp only [List.length_cons] at hlen
            have hkl : k < t.locs.length := by omega
            rw [isLoc_cons] at heq
            have HE := Lib.hid heq
            clear heq
            cases hc : (s.toList == nm.toList)
            · have HE' := Lib.hid (HE.out.trans (by rw [hc]; rfl : _ = isLoc R nm))
              go_wp2_with fail
              go_round
              case rel => exact ⟨k + 1, R, by go_num, by omega, HE'.out, hrest⟩
              case measure => simp [intOf]; omega
            · have HE' := Lib.hid (HE.out.trans (by rw [hc]; rfl : _ = true))
              go_wp2_with fail
              go_ret
              exact ⟨ret_int (by unfold mean; rw [HL.out, HE'.out]; rfl), HX.out.1⟩
  case rest =>
    obtain ⟨hno, hX⟩ := hcut
    have HY := Lib.hid hX
    have HM : Hid (mean p i nm = (meanD p.ds nm).getD (meanT p.ts nm)) := Lib.hid (by unfold mean; rw [hno]; rfl)
    clear hno hX HX c0 c1
    obtain ⟨-, ⟨-, c0⟩, ⟨-, c1⟩, -⟩ := HY.out
    have hde := (HP.out.same HY.out.1).2.2.1
    go_wp2_with fail
    go_loopw [10, 40] (fun _ s wr => ∃ (k : Nat) (R : List De), s = .int .i64 k ∧ k + R.length = p.ds.length ∧ meanD p.ds nm = meanD R nm ∧ DeAt wr wr.heap.size R aoD k ∧ Sit w wr [(w.heap.size, 0, (.slice aoD p.ds.length capD)), (w.heap.size, 1, (.slice aoT p.ts.length capT))]) (fun _ s _ => p.ds.length - (intOf s).toNat)
    case atStart => exact ⟨0, p.ds, rfl, by simp, rfl, hde, HY.out⟩
    case round =>
      obtain ⟨k, R, rfl, hlen, heq, hrow, hsit⟩ := hrel
      have HZ := Lib.hid hsit
      clear hsit HY c0 c1 hde
      cases R with
      | nil =>
        obtain rfl : k = p.ds.length := by simpa using hlen
        obtain ⟨-, ⟨-, c0⟩, ⟨-, c1⟩, -⟩ := HZ.out
        have hth := (HP.out.same HZ.out.1).2.2.2
        have HM' := Lib.hid (HM.out.trans (by rw [heq]; rfl : _ = meanT p.ts nm))
        clear heq HM
        go_wp2_with fail
        go_loopw [12, 54] (fun _ s wr => ∃ (k : Nat) (R : List Th), s = .int .i64 k ∧ k + R.length = p.ts.length ∧ meanT p.ts nm = meanT R nm ∧ ThAt wr wr.heap.size R aoT k ∧ Sit w wr [(w.heap.size, 0, (.slice aoD p.ds.length capD)), (w.heap.size, 1, (.slice aoT p.ts.length capT))]) (fun _ s _ => p.ts.length - (intOf s).toNat)
        case atStart => exact ⟨0, p.ts, rfl, by simp, rfl, hth, HZ.out⟩
        case round =>
          obtain ⟨k, R, rfl, hlen, heq, hrow, hsit⟩ := hrel
          have HU := Lib.hid hsit
          clear hsit HZ c0 c1 hth
          cases R with
          | nil =>
            obtain rfl : k = p.ts.length := by simpa using hlen
            go_wp2_with fail
            go_ret
            exact ⟨ret_int (HM'.out.trans heq).symm, HU.out.1⟩
          | cons t R =>
            obtain ⟨⟨b, off, aol, capl, aob, capb, rfl, hB, x0, x1, x2, x3, hok, htx, hst⟩, hrest⟩ := hrow
            simp only [List.length_cons] at hlen
            have hkl : k < p.ts.length := by omega
            rw [meanT_cons] at heq
            have HE := Lib.hid heq
            clear heq hok htx hst
            cases hc : (t.nm.toList == nm.toList)
            · have HE' := Lib.hid (HE.out.trans (by rw [hc]; rfl : _ = meanT R nm))
              go_wp2_with fail
              go_roundw
              case rel => exact ⟨k + 1, R, by go_num, by omega, HE'.out, hrest.same (alloc_below _ _), HU.out.next (alloc_below _ _)⟩
              case measure => simp [intOf]; omega
            · have HE' := Lib.hid (HE.out.trans (if_pos hc))
              go_wp2_with fail
              go_ret
              exact ⟨ret_int (HM'.out.trans HE'.out).symm, (HU.out.next (alloc_below _ _)).1⟩
      | cons d R =>
        obtain ⟨⟨b, off, rfl, hB, x0, x1, x2, x3, x4, x5, hok⟩, hrest⟩ := hrow
        simp only [List.length_cons] at hlen
        have hkl : k < p.ds.length := by omega
        rw [meanD_cons] at heq
        have HE := Lib.hid heq
        clear heq hok
        cases hc : (d.nm.toList == nm.toList)
        · have HE' := Lib.hid (HE.out.trans (by rw [hc]; rfl : _ = meanD R nm))
          go_wp2_with fail
          go_roundw
          case rel => exact ⟨k + 1, R, by go_num, by omega, HE'.out, hrest.same (alloc_below _ _), HZ.out.next (alloc_below _ _)⟩
          case measure => simp [intOf]; omega
        · have HE' := Lib.hid (HE.out.trans (if_pos hc))
          go_wp2_with fail
          refine (declared_any d _).mono ?_
          rintro e w2 ⟨rfl, hb2⟩
          go_wp2_with fail
          go_ret
          exact ⟨ret_int (HM.out.trans (by rw [HE'.out]; rfl)).symm, ((HZ.out.next (alloc_below _ _)).next hb2).1⟩
end Go.Proofs.YtghdammalphmfaaDoor
end
section
namespace Go.Proofs.YtghdammalphmfaaDoor
open Go.RowKit
namespace Md
/-- Integers in memory. -/
def InAt (w : World) (B : Nat) : List Int → Option Addr → Nat → Prop
  | [], _, _ => True
  | s :: r, ao, k => (∃ b off, ao = some ⟨b, off, none⟩ ∧ b < B ∧ w.cell? ⟨b, off + k, none⟩ = some (.int .i64 s)) ∧ InAt w B r ao (k + 1)
section
variable {w w' : World} {B B' : Nat}
theorem InAt.below (hb : Below B w w') : ∀ {l : List Int} {ao : Option Addr} {k : Nat}, InAt w B l ao k → InAt w' B l ao k
  | [], _, _, _ => trivial
  | _ :: _, _, _, ⟨⟨b, off, e, hB, c⟩, hr⟩ => ⟨⟨b, off, e, hB, (hb.cell hB).trans c⟩, InAt.below hb hr⟩
theorem InAt.mono (h : B ≤ B') : ∀ {l : List Int} {ao : Option Addr} {k : Nat}, InAt w B l ao k → InAt w B' l ao k
  | [], _, _, _ => trivial
  | _ :: _, _, _, ⟨⟨b, off, e, hB, c⟩, hr⟩ => ⟨⟨b, off, e, Nat.lt_of_lt_of_le hB h, c⟩, InAt.mono h hr⟩
theorem InAt.same {l : List Int} {ao : Option Addr} {k : Nat} (h : InAt w w.heap.size l ao k) (hb : Below w.heap.size w w') : InAt w' w'.heap.size l ao k := (h.below hb).mono hb.size
end
/-- The error of a name with a meaning, where some are wanted. -/
def kindE (m : Int) (l : List Int) : Int := if m == 0 then 5 else if l.any (fun k => m == k) then 0 else 6
/-- Nodes and depth. -/
def extA : ExL → Int → Int → Int × Int
  | .nil, n, d => (n, d)
  | .cons _ _ _ kids rest, n, d => extA rest (wrap64 (n + (extA kids 1 0).1)) (max d (wrap64 ((extA kids 1 0).2 + 1)))
def ext (kids : ExL) : Int × Int := ((extA kids 1 0).1, wrap64 ((extA kids 1 0).2 + 1))
theorem extA_cons (op m : Int) (nm : ByteArray) (kids rest : ExL) (n d : Int) : extA (.cons op m nm kids rest) n d = extA rest (wrap64 (n + (ext kids).1)) (max d (ext kids).2) := rfl
/-- The first error of the names. -/
def nm1 (p : Pr) (i op : Int) (nm : ByteArray) : Int := if op == 2 then kindE (mean p i nm) [1, 2] else if op == 3 then kindE (mean p i nm) [3] else 0
def nmsL (p : Pr) (i : Int) : ExL → Int
  | .nil => 0
  | .cons op _ nm kids rest => if nm1 p i op nm == 0 then (if nmsL p i kids == 0 then nmsL p i rest else nmsL p i kids) else nm1 p i op nm
def nmsE (p : Pr) (i op : Int) (nm : ByteArray) (kids : ExL) : Int := if nm1 p i op nm == 0 then nmsL p i kids else nm1 p i op nm
theorem nmsL_cons (p : Pr) (i op n : Int) (nm : ByteArray) (kids rest : ExL) : nmsL p i (.cons op n nm kids rest) = if nmsE p i op nm kids == 0 then nmsL p i rest else nmsE p i op nm kids := by
  rw [nmsL]; unfold nmsE
  cases h : (nm1 p i op nm == 0) <;> simp
  · intro h'; simp [h'] at h
/-- The error of an expression. -/
def exE (p : Pr) (i op n : Int) (nm : ByteArray) (kids : ExL) : Int :=
  if shpE op n nm kids then (if decide (24 < (ext kids).1) || decide (6 < (ext kids).2) then 2 else nmsE p i op nm kids) else 3
end Md
open Md

theorem any_cons_int (m k : Int) (l : List Int) : (k :: l).any (fun k => m == k) = ((m == k) || l.any (fun k => m == k)) := by simp

set_option maxHeartbeats 2000000 in
theorem kindOf_any (p : Pr) (i : Int) (nm : ByteArray) (l : List Int) (w : World) (aoD aoT ao : Option Addr) (capD capT cap : Nat) (hi : I64 i) (hl : l.length ≤ maxLen) (hp : p.At w aoD aoT) (hw : InAt w w.heap.size l ao 0) :
    Calls Tryd.prog 44 #[.agg #[.slice aoD p.ds.length capD, .slice aoT p.ts.length capT], .int .i64 i, .string nm, .slice ao l.length cap] w fun e w' => e = .returned (.int .i64 (kindE (mean p i nm) l)) ∧ Below w.heap.size w w' := by
  unfold maxLen at hl
  have HP := Lib.hid hp
  have HW := Lib.hid hw
  clear hp hw
  go_enter Tryd.func44, Tryd.ntmps44
  go_wp2_with fail
  refine (meaning_any p i nm _ aoD aoT capD capT hi (HP.out.same (alloc_below _ _))).mono ?_
  rintro e w2 ⟨rfl, hb2⟩
  have HB := Lib.hid ((alloc_below w (.cells #[.slice aoD p.ds.length capD, .slice aoT p.ts.length capT] 29)).trans (hb2.mono (by simp)))
  clear hb2
  have hrow := HW.out.same HB.out
  generalize hmm : mean p i nm = m at *
  have HM := Lib.hid hmm
  clear hmm
  cases h0 : (m == 0)
  · go_wp2_with fail
    go_loop [11, 20] (fun _ s => ∃ (k : Nat) (R : List Int), s = .int .i64 k ∧ k + R.length = l.length ∧ l.any (fun k => m == k) = R.any (fun k => m == k) ∧ InAt w2 w2.heap.size R ao k) (fun _ s => l.length - (intOf s).toNat)
    case atStart => exact ⟨0, l, rfl, by simp, rfl, hrow⟩
    case round =>
      obtain ⟨k, R, rfl, hlen, heq, hrow'⟩ := hrel
      cases R with
      | nil =>
        obtain rfl : k = l.length := by simpa using hlen
        have HE : Hid (kindE m l = 6) := Lib.hid (by unfold kindE; rw [h0, heq]; rfl)
        clear heq
        go_wp2_with fail
        go_ret
        exact ⟨ret_int (by rw [HM.out, HE.out]), HB.out⟩
      | cons a R =>
        obtain ⟨⟨b, off, rfl, hB, y0⟩, hrest⟩ := hrow'
        simp only [List.length_cons] at hlen
        have hkl : k < l.length := by omega
        rw [any_cons_int] at heq
        have HE := Lib.hid heq
        clear heq
        cases hc : (m == a)
        · have HE' := Lib.hid (HE.out.trans (by rw [hc]; rfl : _ = R.any (fun k => m == k)))
          go_wp2_with fail
          go_round
          case rel => exact ⟨k + 1, R, by go_num, by omega, HE'.out, hrest⟩
          case measure => simp [intOf]; omega
        · have HE' : Hid (kindE m l = 0) := Lib.hid (by unfold kindE; rw [h0, HE.out, hc]; rfl)
          go_wp2_with fail
          go_ret
          exact ⟨ret_int (by rw [HM.out, HE'.out]), HB.out⟩
  · have HE : Hid (kindE m l = 5) := Lib.hid (by unfold kindE; rw [h0]; rfl)
    go_wp2_with fail
    go_ret
    exact ⟨ret_int (by rw [HM.out, HE.out]), HB.out⟩

theorem ret_two {a b c d : Int} (h1 : c = a) (h2 : d = b) : Ending.returned (.tuple #[.int .i64 a, .int .i64 b]) = .returned (.tuple #[.int .i64 c, .int .i64 d]) := by rw [h1, h2]
theorem ext_nil {kids : ExL} {a d : Int} (h : extA kids 1 0 = extA .nil a d) : (ext kids).1 = a ∧ (ext kids).2 = wrap64 (d + 1) := by unfold ext; rw [h]; exact ⟨rfl, rfl⟩
/-- What extent answers. -/
def ExtSays (op n : Int) (nm : ByteArray) (kids : ExL) : Prop :=
  ∀ (w : World) (ao : Option Addr) (cap : Nat), ExOk op n nm kids → kids.At w w.heap.size ao 0 →
    Calls Tryd.prog 22 #[.agg #[.int .i64 op, .int .i64 n, .string nm, .slice ao kids.len cap]] w fun e w' => e = .returned (.tuple #[.int .i64 (ext kids).1, .int .i64 (ext kids).2]) ∧ Below w.heap.size w w'
set_option maxHeartbeats 2000000 in
theorem extent_step (op n : Int) (nm : ByteArray) (kids : ExL) (ih : kids.All ExtSays) : ExtSays op n nm kids := by
  intro w ao cap hok hat
  obtain ⟨-, -, -, hl⟩ := hok
  unfold maxLen at hl
  have HIH := Lib.hid ih
  have HAT := Lib.hid hat
  clear ih hat
  go_enter Tryd.func22, Tryd.ntmps22
  go_upto_region 2 with fail
  generalize hW : World.alloc w _ = W
  generalize Value.agg #[_, _, _, _] = a0
  have HX := Lib.hid ((Sit.start w).box4 rfl (.int .i64 op) (.int .i64 n) (.string nm) (.slice ao kids.len cap) 25)
  rw [hW] at HX
  clear hW
  obtain ⟨-, ⟨-, c0⟩, ⟨-, c1⟩, ⟨-, c2⟩, ⟨-, c3⟩, -⟩ := HX.out
  go_wp2_with fail
  go_loopw [4, 5, 7, 8, 9, 13] (fun s4 s5 _ _ _ s wr => ∃ (k : Nat) (R : ExL) (a d : Int), s = .int .i64 k ∧ s4 = .int .i64 a ∧ s5 = .int .i64 d ∧ k + R.len = kids.len ∧ extA kids 1 0 = extA R a d ∧ R.All ExtSays ∧ R.At wr wr.heap.size ao k ∧ Below w.heap.size w wr) (fun _ _ _ _ _ s _ => kids.len - (intOf s).toNat)
  case atStart => exact ⟨0, kids, 1, 0, rfl, rfl, rfl, by simp, rfl, HIH.out, HAT.out.same HX.out.1, HX.out.1⟩
  case round =>
    obtain ⟨k, R, a, d, rfl, rfl, rfl, hlen, heq, hall, hrow, hB⟩ := hrel
    have HE := Lib.hid heq
    clear heq c0 c1 c2 c3
    cases R with
    | nil =>
      obtain rfl : k = kids.len := by simpa [ExL.len] using hlen
      go_wp2_with fail
      go_ret2
      exact ⟨ret_two (ext_nil HE.out).1 (ext_nil HE.out).2, hB⟩
    | cons op' n' nm' kids' rest =>
      obtain ⟨⟨b, off, ao', cap', rfl, hbB, x0, x1, x2, x3, hok', hkids⟩, hrest⟩ := hrow
      obtain ⟨hsay, hall'⟩ := hall
      have hlt : k < kids.len := by simp only [ExL.len] at hlen; omega
      go_wp2_with fail
      have hba := alloc_below wr (.cells #[.int .i64 op', .int .i64 n', .string nm', .slice ao' kids'.len cap'] 25)
      refine (hsay _ _ _ hok' (hkids.same hba)).mono ?_
      rintro e w2 ⟨rfl, hb2⟩
      have HB3 := Lib.hid (hba.trans (hb2.mono (by simp)))
      clear hba hb2 x0 x1 x2 x3 hkids
      go_wp2_with fail
      go_roundw
      case rel => exact ⟨k + 1, rest, _, _, by go_num, rfl, rfl, by simp only [ExL.len] at hlen; omega, HE.out, hall', hrest.same HB3.out, hB.trans (HB3.out.mono hB.size)⟩
      case measure => simp [intOf]; omega
theorem extent_any (op n : Int) (nm : ByteArray) (kids : ExL) : ExtSays op n nm kids := ExL.of_all extent_step op n nm kids

/-- What names answers. -/
def NmsSays (p : Pr) (i : Int) (op n : Int) (nm : ByteArray) (kids : ExL) : Prop :=
  ∀ (w : World) (aoD aoT ao : Option Addr) (capD capT cap : Nat), I64 i → p.At w aoD aoT → ExOk op n nm kids → kids.At w w.heap.size ao 0 →
    Calls Tryd.prog 23 #[.agg #[.slice aoD p.ds.length capD, .slice aoT p.ts.length capT], .int .i64 i, .agg #[.int .i64 op, .int .i64 n, .string nm, .slice ao kids.len cap]] w fun e w' => e = .returned (.int .i64 (nmsE p i op nm kids)) ∧ Below w.heap.size w w'
theorem inAt_two (w : World) (a b : Int) (t : TypeId) : InAt (w.alloc (.cells #[.int .i64 a, .int .i64 b] t)) (w.alloc (.cells #[.int .i64 a, .int .i64 b] t)).heap.size [a, b] (some ⟨w.heap.size, 0, none⟩) 0 :=
  ⟨⟨_, _, rfl, by simp, box_cells w [.int .i64 a, .int .i64 b] t 0⟩, ⟨_, _, rfl, by simp, box_cells w [.int .i64 a, .int .i64 b] t 1⟩, trivial⟩
theorem inAt_one (w : World) (a : Int) (t : TypeId) : InAt (w.alloc (.cells #[.int .i64 a] t)) (w.alloc (.cells #[.int .i64 a] t)).heap.size [a] (some ⟨w.heap.size, 0, none⟩) 0 :=
  ⟨⟨_, _, rfl, by simp, box_cells w [.int .i64 a] t 0⟩, trivial⟩
set_option maxHeartbeats 2000000 in
theorem names_step (p : Pr) (i : Int) (op n : Int) (nm : ByteArray) (kids : ExL) (ih : kids.All (NmsSays p i)) : NmsSays p i op n nm kids := by
  intro w aoD aoT ao capD capT cap hi hp hok hat
  obtain ⟨-, -, -, hl⟩ := hok
  unfold maxLen at hl
  have HIH := Lib.hid ih
  have HAT := Lib.hid hat
  have HP := Lib.hid hp
  clear ih hat hp
  go_enter Tryd.func23, Tryd.ntmps23
  go_upto_region 1 with fail
  generalize hW : World.alloc (World.alloc w _) _ = W
  generalize Value.agg #[_, _] = a0
  generalize Value.agg #[_, _, _, _] = a1
  have HX := Lib.hid (((Sit.start w).box2 rfl (.slice aoD p.ds.length capD) (.slice aoT p.ts.length capT) 29).box4 (n := w.heap.size + 1) (by simp) (.int .i64 op) (.int .i64 n) (.string nm) (.slice ao kids.len cap) 25)
  rw [hW] at HX
  clear hW
  obtain ⟨-, ⟨-, c0⟩, ⟨-, c1⟩, ⟨-, c2⟩, ⟨-, c3⟩, ⟨-, c4⟩, ⟨-, c5⟩, -⟩ := HX.out
  go_upto_block 0 with (fail)
  go_cut [7, 10] (fun s7 _ W2 => s7 = .int .i64 (nm1 p i op nm) ∧ Sit w W2 [(w.heap.size + 1, 0, .int .i64 op), (w.heap.size + 1, 1, .int .i64 n), (w.heap.size + 1, 2, .string nm), (w.heap.size + 1, 3, .slice ao kids.len cap), (w.heap.size, 0, .slice aoD p.ds.length capD), (w.heap.size, 1, .slice aoT p.ts.length capT)])
  case first =>
    cases h2 : (op == 2)
    · cases h3 : (op == 3)
      · have HE : Hid (nm1 p i op nm = 0) := Lib.hid (by unfold nm1; rw [h2, h3]; rfl)
        go_wp2_with fail
        go_meet
        exact ⟨by rw [HE.out], HX.out⟩
      · have HE : Hid (nm1 p i op nm = kindE (mean p i nm) [3]) := Lib.hid (by unfold nm1; rw [h2, h3]; rfl)
        go_wp2_with fail
        refine (kindOf_any p i nm [3] _ aoD aoT _ capD capT _ hi (by decide) ((HP.out.same HX.out.1).same (alloc_below _ _)) (inAt_one W 3 _)).mono ?_
        rintro e w2 ⟨rfl, hb2⟩
        go_wp2_with fail
        go_meet
        exact ⟨by rw [HE.out], (HX.out.next (alloc_below _ _)).next hb2⟩
    · have HE : Hid (nm1 p i op nm = kindE (mean p i nm) [1, 2]) := Lib.hid (by unfold nm1; rw [h2]; rfl)
      go_wp2_with fail
      refine (kindOf_any p i nm [1, 2] _ aoD aoT _ capD capT _ hi (by decide) ((HP.out.same HX.out.1).same (alloc_below _ _)) (inAt_two W 1 2 _)).mono ?_
      rintro e w2 ⟨rfl, hb2⟩
      go_wp2_with fail
      go_meet
      exact ⟨by rw [HE.out], (HX.out.next (alloc_below _ _)).next hb2⟩
  case rest =>
    obtain ⟨rfl, hX⟩ := hcut
    have HY := Lib.hid hX
    clear hX HX c0 c1 c2 c3 c4 c5
    have HR : Hid (nmsE p i op nm kids = if nm1 p i op nm == 0 then nmsL p i kids else nm1 p i op nm) := Lib.hid rfl
    generalize nm1 p i op nm = r0 at *
    go_wp2_with fail
    go_loopw [7, 8] (fun s7 s8 wr => ∃ (k : Nat) (R : ExL) (r : Int), s8 = .int .i64 k ∧ s7 = .int .i64 r ∧ k + R.len = kids.len ∧ nmsE p i op nm kids = (if r == 0 then nmsL p i R else r) ∧ R.All (NmsSays p i) ∧ R.At wr wr.heap.size ao k ∧ Sit w wr [(w.heap.size + 1, 0, .int .i64 op), (w.heap.size + 1, 1, .int .i64 n), (w.heap.size + 1, 2, .string nm), (w.heap.size + 1, 3, .slice ao kids.len cap), (w.heap.size, 0, .slice aoD p.ds.length capD), (w.heap.size, 1, .slice aoT p.ts.length capT)]) (fun _ s _ => kids.len - (intOf s).toNat)
    case atStart => exact ⟨0, kids, r0, rfl, rfl, by simp, HR.out, HIH.out, HAT.out.same HY.out.1, HY.out⟩
    case round =>
      obtain ⟨k, R, r, rfl, rfl, hlen, heq, hall, hrow, hsit⟩ := hrel
      have HE := Lib.hid heq
      have HZ := Lib.hid hsit
      clear heq hsit
      obtain ⟨-, ⟨-, c0⟩, ⟨-, c1⟩, ⟨-, c2⟩, ⟨-, c3⟩, ⟨-, c4⟩, ⟨-, c5⟩, -⟩ := HZ.out
      cases R with
      | nil =>
        obtain rfl : k = kids.len := by simpa [ExL.len] using hlen
        go_wp2_with fail
        go_ret
        exact ⟨ret_int (HE.out.trans (by cases h : (r == 0) <;> simp_all [nmsL])).symm, HZ.out.1⟩
      | cons op' n' nm' kids' rest =>
        obtain ⟨⟨b, off, ao', cap', rfl, hbB, x0, x1, x2, x3, hok', hkids⟩, hrest⟩ := hrow
        obtain ⟨hsay, hall'⟩ := hall
        have hlt : k < kids.len := by simp only [ExL.len] at hlen; omega
        cases hr : (r == 0)
        · have HE' := Lib.hid (HE.out.trans (by rw [hr]; rfl : _ = r))
          go_wp2_with fail
          go_ret
          exact ⟨ret_int HE'.out.symm, HZ.out.1⟩
        · have HE' := Lib.hid (HE.out.trans (by rw [hr]; rfl : _ = nmsL p i (.cons op' n' nm' kids' rest)))
          go_wp2_with fail
          obtain ⟨T, F, hinh, hst, hF, hnext⟩ := calm wr
          have HF := Lib.hid hF
          have HNX := Lib.hid hnext
          clear hnext hF
          have d0 := fun x => (HZ.out.next (HF.out x)).2.1.2
          have d1 := fun x => (HZ.out.next (HF.out x)).2.2.1.2
          have d2 := fun x => (HZ.out.next (HF.out x)).2.2.2.1.2
          have d3 := fun x => (HZ.out.next (HF.out x)).2.2.2.2.1.2
          have d4 := fun x => (HZ.out.next (HF.out x)).2.2.2.2.2.1.2
          have d5 := fun x => (HZ.out.next (HF.out x)).2.2.2.2.2.2.1.2
          have y0 := fun x => ((HF.out x).cell (p := ⟨b, off + k * 4, none⟩) hbB).trans x0
          have y1 := fun x => ((HF.out x).cell (p := ⟨b, off + k * 4 + 1, none⟩) hbB).trans x1
          have y2 := fun x => ((HF.out x).cell (p := ⟨b, off + k * 4 + 2, none⟩) hbB).trans x2
          have y3 := fun x => ((HF.out x).cell (p := ⟨b, off + k * 4 + 3, none⟩) hbB).trans x3
          clear c0 c1 c2 c3 c4 c5 x0 x1 x2 x3
          have hk0 : (0 : Int) ≤ k := by omega
          have hk1 : (k : Int) < kids.len := by omega
          refine region_calm F (by kernel_rfl) (by kernel_rfl) hst ?_
          repeat (any_goals (first | go_big_quiet_step ((go_at_call 23; refine (hsay _ aoD aoT ao' capD capT cap' hi ((HP.out.same HZ.out.1).same (HF.out _)) hok' (hkids.same (HF.out _))).mono ?_; rintro e w' ⟨rfl, hb⟩; exact ⟨rfl, HNX.out _ _ hb⟩)) | (refine wpQuiet_step (fun K hK => ?_); go_simp; first | (refine hK _ ?_; clear hK K) | (split <;> first | (refine hK _ ?_; clear hK K) | (apply Exists.intro; refine ⟨fun _ => ?_, hK _ ?_⟩; ((go_at_call 23; refine (hsay _ aoD aoT ao' capD capT cap' hi ((HP.out.same HZ.out.1).same (HF.out _)) hok' (hkids.same (HF.out _))).mono ?_; rintro e w' ⟨rfl, hb⟩; exact ⟨rfl, HNX.out _ _ hb⟩)); clear hK K)))))
          all_goals (refine wpQuiet_nil ?_; rintro _ ⟨x, rfl⟩)
          have HB2 := Lib.hid (HF.out x)
          clear d0 d1 d2 d3 d4 d5 y0 y1 y2 y3 HF HNX hst
          generalize F x = W2 at *
          go_wp2_with fail
          go_roundw
          case rel => exact ⟨k + 1, rest, _, by go_num, rfl, by simp only [ExL.len] at hlen; omega, HE'.out.trans (nmsL_cons p i op' n' nm' kids' rest), hall', hrest.same HB2.out, HZ.out.next HB2.out⟩
          case measure => simp [intOf]; omega
theorem names_any (p : Pr) (i : Int) (op n : Int) (nm : ByteArray) (kids : ExL) : NmsSays p i op n nm kids := ExL.of_all (names_step p i) op n nm kids

set_option maxHeartbeats 2000000 in
theorem CheckExpr_any (p : Pr) (i : Int) (op n : Int) (nm : ByteArray) (kids : ExL) (w : World) (aoD aoT ao : Option Addr) (capD capT cap : Nat) (hi : I64 i) (hp : p.At w aoD aoT) (hok : ExOk op n nm kids) (hat : kids.At w w.heap.size ao 0) (hkw : KwLaid w) :
    Calls Tryd.prog 9 #[.agg #[.slice aoD p.ds.length capD, .slice aoT p.ts.length capT], .int .i64 i, .agg #[.int .i64 op, .int .i64 n, .string nm, .slice ao kids.len cap]] w fun e w' => e = .returned (.int .i64 (exE p i op n nm kids)) ∧ Below w.heap.size w w' := by
  have HAT := Lib.hid hat
  have HP := Lib.hid hp
  clear hat hp
  go_enter Tryd.func9, Tryd.ntmps9
  go_upto_region 1 with fail
  generalize hW : World.alloc (World.alloc w _) _ = W
  generalize Value.agg #[_, _] = a0
  generalize Value.agg #[_, _, _, _] = a1
  have HX := Lib.hid (((Sit.start w).box2 rfl (.slice aoD p.ds.length capD) (.slice aoT p.ts.length capT) 29).box4 (n := w.heap.size + 1) (by simp) (.int .i64 op) (.int .i64 n) (.string nm) (.slice ao kids.len cap) 25)
  rw [hW] at HX
  clear hW
  obtain ⟨-, ⟨-, c0⟩, ⟨-, c1⟩, ⟨-, c2⟩, ⟨-, c3⟩, ⟨-, c4⟩, ⟨-, c5⟩, -⟩ := HX.out
  go_wp2_with fail
  refine (ShapedExpr_any op n nm kids _ ao cap hok (HAT.out.same HX.out.1) (hkw.same HX.out.1)).mono ?_
  rintro e w1 ⟨rfl, hb1⟩
  have HY := Lib.hid (HX.out.next hb1)
  clear HX hb1 c0 c1 c2 c3 c4 c5
  obtain ⟨-, ⟨-, c0⟩, ⟨-, c1⟩, ⟨-, c2⟩, ⟨-, c3⟩, ⟨-, c4⟩, ⟨-, c5⟩, -⟩ := HY.out
  cases hS : shpE op n nm kids
  · have HE : Hid (exE p i op n nm kids = 3) := Lib.hid (by unfold exE; rw [hS]; rfl)
    go_wp2_with fail
    go_ret
    exact ⟨ret_int HE.out.symm, HY.out.1⟩
  · have HE : Hid (exE p i op n nm kids = if decide (24 < (ext kids).1) || decide (6 < (ext kids).2) then 2 else nmsE p i op nm kids) := Lib.hid (by unfold exE; rw [hS]; rfl)
    go_wp2_with fail
    refine (extent_any op n nm kids _ ao cap hok (HAT.out.same HY.out.1)).mono ?_
    rintro e w2 ⟨rfl, hb2⟩
    have HZ := Lib.hid (HY.out.next hb2)
    clear HY hb2 c0 c1 c2 c3 c4 c5
    obtain ⟨-, ⟨-, c0⟩, ⟨-, c1⟩, ⟨-, c2⟩, ⟨-, c3⟩, ⟨-, c4⟩, ⟨-, c5⟩, -⟩ := HZ.out
    generalize (ext kids).1 = a at *
    generalize (ext kids).2 = d at *
    cases h1 : decide (24 < a)
    · cases h2 : decide (6 < d)
      · have HE' := Lib.hid (HE.out.trans (by rw [h1, h2]; rfl : _ = nmsE p i op nm kids))
        have q1 : a ≤ 24 := by simpa using h1
        have q2 : d ≤ 6 := by simpa using h2
        go_wp2_with fail
        refine (names_any p i op n nm kids _ aoD aoT ao capD capT cap hi (HP.out.same HZ.out.1) hok (HAT.out.same HZ.out.1)).mono ?_
        rintro e w3 ⟨rfl, hb3⟩
        go_wp2_with fail
        go_ret
        exact ⟨ret_int HE'.out.symm, (HZ.out.next hb3).1⟩
      · have HE' := Lib.hid (HE.out.trans (if_pos (by rw [h1, h2]; rfl)))
        have q1 : a ≤ 24 := by simpa using h1
        have q2 : 6 < d := by simpa using h2
        go_wp2_with fail
        go_ret
        exact ⟨ret_int HE'.out.symm, HZ.out.1⟩
    · have HE' := Lib.hid (HE.out.trans (if_pos (by rw [h1]; rfl)))
      have q1 : 24 < a := by simpa using h1
      go_wp2_with fail
      go_ret
      exact ⟨ret_int HE'.out.symm, HZ.out.1⟩
end Go.Proofs.YtghdammalphmfaaDoor
end
section
namespace Go.Proofs.YtghdammalphmfaaDoor
open Go.RowKit
namespace Md
/-- The place of the first that is wanted, from place k on. -/
def fidx {α : Type} (f : α → Bool) : List α → Nat → Int
  | [], _ => -1
  | x :: r, k => if f x then (k : Int) else fidx f r (k + 1)
theorem fidx_spec {α : Type} (f : α → Bool) : ∀ (l : List α) (k : Nat), (fidx f l k = -1 ∧ l.find? f = none ∧ l.any f = false) ∨ ∃ (j : Nat) (d : α) (r : List α), j < l.length ∧ fidx f l k = ((k + j : Nat) : Int) ∧ l.drop j = d :: r ∧ l.find? f = some d ∧ l.any f = true
  | [], _ => Or.inl ⟨rfl, rfl, rfl⟩
  | x :: r, k => by
    cases h : f x
    · rcases fidx_spec f r (k + 1) with ⟨h1, h2, h3⟩ | ⟨j, d, r', h0, h1, h2, h3, h4⟩
      · exact Or.inl ⟨by simp [fidx, h, h1], by simp [h, h2], by simp [h, h3]⟩
      · exact Or.inr ⟨j + 1, d, r', by simp; omega, by simp only [fidx, h]; rw [if_neg (by decide), h1]; omega, by simpa using h2, by simp [h, h3], by simp [h, h4]⟩
    · exact Or.inr ⟨0, x, r, by simp, by simp [fidx, h], rfl, by simp [h], by simp [h]⟩
def atTx (l : List ByteArray) (nm : ByteArray) : Int := fidx (fun s => s.toList == nm.toList) l 0
def atDe (l : List De) (nm : ByteArray) : Int := fidx (fun d => d.nm.toList == nm.toList) l 0
def atTh (l : List Th) (nm : ByteArray) : Int := fidx (fun t => t.nm.toList == nm.toList) l 0
/-- The reference's numbers of the meanings. -/
def conv (m : Int) : Int := if m == 0 then 0 else if m == 1 then 8 else if m == 9 then 9 else m - 1
def wantE (k a b : Int) : Int := if k == 0 then 5 else if (k != a) && (k != b) then 6 else 0
theorem declM_range (d : De) : 2 ≤ declM d ∧ declM d ≤ 9 ∧ declM d ≠ 8 := by unfold declM; grind
theorem mean_range (p : Pr) (i : Int) (nm : ByteArray) : 0 ≤ mean p i nm ∧ mean p i nm ≤ 9 := by
  unfold mean meanD meanT
  split
  · decide
  · cases p.ds.find? (fun d => d.nm.toList == nm.toList) with
    | none => simp; split <;> decide
    | some d => have := declM_range d; simp; omega
theorem ten {m : Int} (h : 0 ≤ m ∧ m ≤ 9) : m = 0 ∨ m = 1 ∨ m = 2 ∨ m = 3 ∨ m = 4 ∨ m = 5 ∨ m = 6 ∨ m = 7 ∨ m = 8 ∨ m = 9 := by omega
theorem conv_inj {m a : Int} (hm : 0 ≤ m ∧ m ≤ 9) (ha : 0 ≤ a ∧ a ≤ 9) : (conv m == conv a) = (m == a) := by
  rcases ten hm with rfl | rfl | rfl | rfl | rfl | rfl | rfl | rfl | rfl | rfl <;> rcases ten ha with rfl | rfl | rfl | rfl | rfl | rfl | rfl | rfl | rfl | rfl <;> rfl
theorem conv_zero {m : Int} (hm : 0 ≤ m ∧ m ≤ 9) : (conv m == 0) = (m == 0) := conv_inj hm (a := 0) (by decide)
theorem want_one (m a : Int) (hm : 0 ≤ m ∧ m ≤ 9) (ha : 0 ≤ a ∧ a ≤ 9) : wantE (conv m) (conv a) (conv a) = kindE m [a] := by
  unfold wantE kindE bne; rw [conv_zero hm, conv_inj hm ha]
  simp only [List.any_cons, List.any_nil, Bool.or_false]; cases h : (m == a) <;> rfl
theorem want_two (m a b : Int) (hm : 0 ≤ m ∧ m ≤ 9) (ha : 0 ≤ a ∧ a ≤ 9) (hb : 0 ≤ b ∧ b ≤ 9) : wantE (conv m) (conv a) (conv b) = kindE m [a, b] := by
  unfold wantE kindE bne; rw [conv_zero hm, conv_inj hm ha, conv_inj hm hb]
  simp only [List.any_cons, List.any_nil, Bool.or_false]; cases h : (m == a) <;> cases h' : (m == b) <;> rfl
end Md
open Md

set_option maxHeartbeats 1000000 in
theorem RefAt_any (l : List ByteArray) (nm : ByteArray) (w : World) (ao : Option Addr) (cap : Nat) (hl : l.length ≤ maxLen) (hw : TxAt w w.heap.size l ao 0) :
    Calls Tryd.prog 57 #[.slice ao l.length cap, .string nm] w fun e w' => e = .returned (.int .i64 (atTx l nm)) ∧ w = w' := by
  unfold maxLen at hl
  go_enter Tryd.func57, Tryd.ntmps57
  go_wp2_with fail
  go_loop [5] (fun s => ∃ (k : Nat) (R : List ByteArray), s = .int .i64 k ∧ k + R.length = l.length ∧ atTx l nm = fidx (fun s => s.toList == nm.toList) R k ∧ TxAt w w.heap.size R ao k) (fun s => l.length - (intOf s).toNat)
  case atStart => exact ⟨0, l, rfl, by simp, rfl, hw⟩
  case round =>
    obtain ⟨k, R, rfl, hlen, heq, hrow⟩ := hrel
    have HE := Lib.hid heq
    clear heq
    cases R with
    | nil =>
      obtain rfl : k = l.length := by simpa using hlen
      go_wp2_with fail
      go_ret
      exact ⟨ret_int HE.out.symm, rfl⟩
    | cons s R =>
      obtain ⟨⟨b, off, rfl, hB, y0, hs⟩, hrest⟩ := hrow
      simp only [List.length_cons] at hlen
      have hkl : k < l.length := by omega
      cases hc : (s.toList == nm.toList)
      · have HE' := Lib.hid (HE.out.trans (if_neg (show ¬ (s.toList == nm.toList) = true by rw [hc]; decide)))
        go_wp2_with fail
        go_round
        case rel => exact ⟨k + 1, R, by go_num, by omega, HE'.out, hrest⟩
        case measure => simp [intOf]; omega
      · have HE' := Lib.hid (HE.out.trans (if_pos hc))
        go_wp2_with fail
        go_ret
        exact ⟨ret_int HE'.out.symm, rfl⟩
set_option maxHeartbeats 1000000 in
theorem RefDeclAt_any (l : List De) (nm : ByteArray) (w : World) (ao : Option Addr) (cap : Nat) (hl : l.length ≤ maxLen) (hw : DeAt w w.heap.size l ao 0) :
    Calls Tryd.prog 55 #[.slice ao l.length cap, .string nm] w fun e w' => e = .returned (.int .i64 (atDe l nm)) ∧ w = w' := by
  unfold maxLen at hl
  go_enter Tryd.func55, Tryd.ntmps55
  go_wp2_with fail
  go_loop [5] (fun s => ∃ (k : Nat) (R : List De), s = .int .i64 k ∧ k + R.length = l.length ∧ atDe l nm = fidx (fun d => d.nm.toList == nm.toList) R k ∧ DeAt w w.heap.size R ao k) (fun s => l.length - (intOf s).toNat)
  case atStart => exact ⟨0, l, rfl, by simp, rfl, hw⟩
  case round =>
    obtain ⟨k, R, rfl, hlen, heq, hrow⟩ := hrel
    have HE := Lib.hid heq
    clear heq
    cases R with
    | nil =>
      obtain rfl : k = l.length := by simpa using hlen
      go_wp2_with fail
      go_ret
      exact ⟨ret_int HE.out.symm, rfl⟩
    | cons s R =>
      obtain ⟨⟨b, off, rfl, hB, y0, y1, y2, y3, y4, y5, hs⟩, hrest⟩ := hrow
      simp only [List.length_cons] at hlen
      have hkl : k < l.length := by omega
      cases hc : (s.nm.toList == nm.toList)
      · have HE' := Lib.hid (HE.out.trans (if_neg (show ¬ (s.nm.toList == nm.toList) = true by rw [hc]; decide)))
        go_wp2_with fail
        go_round
        case rel => exact ⟨k + 1, R, by go_num, by omega, HE'.out, hrest⟩
        case measure => simp [intOf]; omega
      · have HE' := Lib.hid (HE.out.trans (if_pos hc))
        go_wp2_with fail
        go_ret
        exact ⟨ret_int HE'.out.symm, rfl⟩
set_option maxHeartbeats 1000000 in
theorem RefThreadAt_any (l : List Th) (nm : ByteArray) (w : World) (ao : Option Addr) (cap : Nat) (hl : l.length ≤ maxLen) (hw : ThAt w w.heap.size l ao 0) :
    Calls Tryd.prog 56 #[.slice ao l.length cap, .string nm] w fun e w' => e = .returned (.int .i64 (atTh l nm)) ∧ w = w' := by
  unfold maxLen at hl
  go_enter Tryd.func56, Tryd.ntmps56
  go_wp2_with fail
  go_loop [5] (fun s => ∃ (k : Nat) (R : List Th), s = .int .i64 k ∧ k + R.length = l.length ∧ atTh l nm = fidx (fun d => d.nm.toList == nm.toList) R k ∧ ThAt w w.heap.size R ao k) (fun s => l.length - (intOf s).toNat)
  case atStart => exact ⟨0, l, rfl, by simp, rfl, hw⟩
  case round =>
    obtain ⟨k, R, rfl, hlen, heq, hrow⟩ := hrel
    have HE := Lib.hid heq
    clear heq
    cases R with
    | nil =>
      obtain rfl : k = l.length := by simpa using hlen
      go_wp2_with fail
      go_ret
      exact ⟨ret_int HE.out.symm, rfl⟩
    | cons s R =>
      obtain ⟨⟨b, off, aol, capl, aob, capb, rfl, hB, y0, y1, y2, y3, hs, ht, hst⟩, hrest⟩ := hrow
      simp only [List.length_cons] at hlen
      have hkl : k < l.length := by omega
      clear hs ht hst
      cases hc : (s.nm.toList == nm.toList)
      · have HE' := Lib.hid (HE.out.trans (if_neg (show ¬ (s.nm.toList == nm.toList) = true by rw [hc]; decide)))
        go_wp2_with fail
        go_round
        case rel => exact ⟨k + 1, R, by go_num, by omega, HE'.out, hrest⟩
        case measure => simp [intOf]; omega
      · have HE' := Lib.hid (HE.out.trans (if_pos hc))
        go_wp2_with fail
        go_ret
        exact ⟨ret_int HE'.out.symm, rfl⟩

theorem kind_loc {p : Pr} {i : Int} {nm : ByteArray} (h : isLoc (locsAt p.ts i) nm = true) : conv (mean p i nm) = 8 := by unfold mean; rw [h]; rfl
theorem kind_dec {p : Pr} {i : Int} {nm : ByteArray} {d : De} (h : isLoc (locsAt p.ts i) nm = false) (hd : p.ds.find? (fun d => d.nm.toList == nm.toList) = some d) : conv (mean p i nm) = conv (declM d) := by
  unfold mean meanD; rw [h, hd]; rfl
theorem kind_thr {p : Pr} {i : Int} {nm : ByteArray} {b : Bool} (h : isLoc (locsAt p.ts i) nm = false) (hd : p.ds.find? (fun d => d.nm.toList == nm.toList) = none) (ht : p.ts.any (fun t => t.nm.toList == nm.toList) = b) : conv (mean p i nm) = if b then 7 else 0 := by
  unfold mean meanD meanT; rw [h, hd, ht]; cases b <;> rfl
theorem conv_decl (d : De) : conv (declM d) = if d.kind == 1 then (if d.size != 0 then 2 else 1) else if d.kind == 2 then 1 else if (d.kind == 3 || d.kind == 4) || (d.kind == 5 || d.kind == 6) then d.kind else 9 := by
  by_cases h1 : d.kind = 1
  · by_cases h0 : d.size = 0 <;> simp [declM, conv, h1, h0]
  by_cases h2 : d.kind = 2
  · simp [declM, conv, h2]
  by_cases h3 : d.kind = 3
  · simp [declM, conv, h3]
  by_cases h4 : d.kind = 4
  · simp [declM, conv, h4]
  by_cases h5 : d.kind = 5
  · simp [declM, conv, h5]
  by_cases h6 : d.kind = 6
  · simp [declM, conv, h6]
  simp [declM, conv, h1, h2, h3, h4, h5, h6]

set_option maxHeartbeats 2000000 in
theorem KindOf_any (p : Pr) (i : Int) (nm : ByteArray) (w : World) (aoD aoT : Option Addr) (capD capT : Nat) (hi : I64 i) (hp : p.At w aoD aoT) :
    Calls Tryd.prog 65 #[.agg #[.slice aoD p.ds.length capD, .slice aoT p.ts.length capT], .int .i64 i, .string nm] w fun e w' => e = .returned (.int .i64 (conv (mean p i nm))) ∧ Below w.heap.size w w' := by
  obtain ⟨i1, i2⟩ := hi
  have hld := hp.1
  have hlt := hp.2.1
  have hld' := hp.1
  have hlt' := hp.2.1
  unfold maxLen at hld hlt
  have HP := Lib.hid hp
  clear hp
  go_enter Tryd.func65, Tryd.ntmps65
  go_upto_region 1 with fail
  generalize hW : World.alloc w _ = W
  generalize Value.agg #[_, _] = a0
  have HX := Lib.hid ((Sit.start w).box2 rfl (.slice aoD p.ds.length capD) (.slice aoT p.ts.length capT) 29)
  rw [hW] at HX
  clear hW
  obtain ⟨-, ⟨-, c0⟩, ⟨-, c1⟩, -⟩ := HX.out
  go_cut [27] (fun s W2 => W = W2 ∧ s = .bool (isLoc (locsAt p.ts i) nm))
  case first =>
    cases hbi : decide (0 ≤ i ∧ i < p.ts.length)
    · have HN : Hid (isLoc (locsAt p.ts i) nm = false) := Lib.hid (by rw [locsAt_none (by simpa using hbi)]; rfl)
      rcases (show i < 0 ∨ (0 ≤ i ∧ (p.ts.length : Int) ≤ i) by simp at hbi; omega) with h | ⟨h, h'⟩
      all_goals clear hbi
      all_goals go_wp2_with fail
      all_goals go_meet
      all_goals exact ⟨rfl, by rw [HN.out]⟩
    · have hbi' : 0 ≤ i ∧ i < p.ts.length := by simpa using hbi
      clear hbi
      obtain ⟨j, rfl⟩ := Int.eq_ofNat_of_zero_le hbi'.1
      have hj : j < p.ts.length := by omega
      have hth := (HP.out.same HX.out.1).2.2.2.drop j
      cases hd : p.ts.drop j with
      | nil => exfalso; have := congrArg List.length hd; simp at this; omega
      | cons t r =>
        rw [hd, Nat.zero_add] at hth
        have HL := Lib.hid (locsAt_nat hd)
        clear hd hbi'
        obtain ⟨⟨b, off, aol, capl, aob, capb, rfl, hB, x0, x1, x2, x3, hok, htx, hst⟩, -⟩ := hth
        have hll := hok.2.2.1
        clear hst hok
        go_wp2_with fail
        refine (RefAt_any t.locs nm _ aol capl hll htx).mono ?_
        rintro e w2 ⟨rfl, rfl⟩
        rcases fidx_spec (fun s : ByteArray => s.toList == nm.toList) t.locs 0 with ⟨h1, h2, h3⟩ | ⟨j', d, r', h0, h1, h2, h3, h4⟩
        · have HT : Hid (isLoc (locsAt p.ts j) nm = false) := Lib.hid (by rw [HL.out]; exact h3)
          have h1' : atTx t.locs nm = -1 := h1
          rw [h1']
          clear h1 h2 h3 h1'
          go_wp2_with fail
          go_meet
          exact ⟨rfl, by rw [HT.out]⟩
        · have HT : Hid (isLoc (locsAt p.ts j) nm = true) := Lib.hid (by rw [HL.out]; exact h4)
          have h1' : atTx t.locs nm = (j' : Int) := by rw [← Nat.zero_add j']; exact h1
          rw [h1']
          clear h1 h2 h3 h1' h4
          go_wp2_with fail
          go_meet
          exact ⟨rfl, by rw [HT.out]⟩
  case rest =>
    obtain ⟨rfl, rfl⟩ := hcut
    cases hloc : isLoc (locsAt p.ts i) nm
    · go_wp2_with fail
      refine (RefDeclAt_any p.ds nm _ aoD capD hld' (HP.out.same HX.out.1).2.2.1).mono ?_
      rintro e w2 ⟨rfl, rfl⟩
      rcases fidx_spec (fun d : De => d.nm.toList == nm.toList) p.ds 0 with ⟨h1, h2, h3⟩ | ⟨j', d, r', h0, h1, h2, h3, h4⟩
      · have h1' : atDe p.ds nm = -1 := h1
        rw [h1']
        have HK := Lib.hid (fun b ht => kind_thr (b := b) hloc h2 ht)
        clear h1 h2 h3 h1' hloc
        go_wp2_with fail
        refine (RefThreadAt_any p.ts nm _ aoT capT hlt' (HP.out.same HX.out.1).2.2.2).mono ?_
        rintro e w2 ⟨rfl, rfl⟩
        rcases fidx_spec (fun d : Th => d.nm.toList == nm.toList) p.ts 0 with ⟨h1, h2, h3⟩ | ⟨j', d, r', h0, h1, h2, h3, h4⟩
        · have h1' : atTh p.ts nm = -1 := h1
          rw [h1']
          have HK' := Lib.hid (HK.out _ h3)
          clear h1 h2 h3 h1' HK
          go_wp2_with fail
          go_ret
          exact ⟨ret_int HK'.out.symm, HX.out.1⟩
        · have h1' : atTh p.ts nm = (j' : Int) := by rw [← Nat.zero_add j']; exact h1
          rw [h1']
          have HK' := Lib.hid (HK.out _ h4)
          clear h1 h2 h3 h1' h4 HK
          go_wp2_with fail
          go_ret
          exact ⟨ret_int HK'.out.symm, HX.out.1⟩
      · have h1' : atDe p.ds nm = (j' : Int) := by rw [← Nat.zero_add j']; exact h1
        rw [h1']
        have HK := Lib.hid ((kind_dec hloc h3).trans (conv_decl d))
        have hth := (HP.out.same HX.out.1).2.2.1.drop j'
        rw [h2, Nat.zero_add] at hth
        obtain ⟨⟨b, off, rfl, hB, x0, x1, x2, x3, x4, x5, hok⟩, -⟩ := hth
        clear h1 h2 h3 h4 h1' hloc hok
        go_wp2_with fail
        all_goals go_ret
        all_goals refine ⟨ret_int (HK.out.trans ?_).symm, HX.out.1⟩
        all_goals (go_light; grind)
    · have HK := Lib.hid (kind_loc hloc)
      go_wp2_with fail
      go_ret
      exact ⟨ret_int HK.out.symm, HX.out.1⟩
end Go.Proofs.YtghdammalphmfaaDoor
end
section
namespace Go.Proofs.YtghdammalphmfaaDoor
open Go.RowKit
open Md

set_option maxHeartbeats 1000000 in
theorem want_any (p : Pr) (i : Int) (nm : ByteArray) (a b : Int) (w : World) (aoD aoT : Option Addr) (capD capT : Nat) (hi : I64 i) (hp : p.At w aoD aoT) :
    Calls Tryd.prog 47 #[.agg #[.slice aoD p.ds.length capD, .slice aoT p.ts.length capT], .int .i64 i, .string nm, .int .i64 a, .int .i64 b] w fun e w' => e = .returned (.int .i64 (wantE (conv (mean p i nm)) a b)) ∧ Below w.heap.size w w' := by
  have HP := Lib.hid hp
  clear hp
  go_enter Tryd.func47, Tryd.ntmps47
  go_wp2_with fail
  refine (KindOf_any p i nm _ aoD aoT capD capT hi (HP.out.same (alloc_below _ _))).mono ?_
  rintro e w2 ⟨rfl, hb2⟩
  have HB := Lib.hid ((alloc_below w (.cells #[.slice aoD p.ds.length capD, .slice aoT p.ts.length capT] 29)).trans (hb2.mono (by simp)))
  clear hb2
  have HE : Hid (wantE (conv (mean p i nm)) a b = if conv (mean p i nm) == 0 then 5 else if (conv (mean p i nm) != a) && (conv (mean p i nm) != b) then 6 else 0) := Lib.hid rfl
  generalize hmm : conv (mean p i nm) = m at *
  have HM := Lib.hid hmm
  clear hmm
  go_wp2_with fail
  all_goals go_ret
  all_goals refine ⟨ret_int ?_, HB.out⟩
  all_goals rw [HM.out, HE.out]
  all_goals (go_light; grind)

/-- What the reference's Nodes answers. -/
def NodSays (op n : Int) (nm : ByteArray) (kids : ExL) : Prop :=
  ∀ (w : World) (ao : Option Addr) (cap : Nat), ExOk op n nm kids → kids.At w w.heap.size ao 0 →
    Calls Tryd.prog 25 #[.agg #[.int .i64 op, .int .i64 n, .string nm, .slice ao kids.len cap]] w fun e w' => e = .returned (.tuple #[.int .i64 (ext kids).1, .int .i64 (ext kids).2]) ∧ Below w.heap.size w w'
set_option maxHeartbeats 2000000 in
theorem Nodes_step (op n : Int) (nm : ByteArray) (kids : ExL) (ih : kids.All NodSays) : NodSays op n nm kids := by
  intro w ao cap hok hat
  obtain ⟨-, -, -, hl⟩ := hok
  unfold maxLen at hl
  have HIH := Lib.hid ih
  have HAT := Lib.hid hat
  clear ih hat
  go_enter Tryd.func25, Tryd.ntmps25
  go_upto_region 2 with fail
  generalize hW : World.alloc w _ = W
  generalize Value.agg #[_, _, _, _] = a0
  have HX := Lib.hid ((Sit.start w).box4 rfl (.int .i64 op) (.int .i64 n) (.string nm) (.slice ao kids.len cap) 25)
  rw [hW] at HX
  clear hW
  go_wp2_with fail
  go_loopw [4, 5, 6, 7, 8] (fun s4 s5 s _ _ wr => ∃ (k : Nat) (R : ExL) (a d : Int), s = .int .i64 k ∧ s4 = .int .i64 a ∧ s5 = .int .i64 d ∧ k + R.len = kids.len ∧ extA kids 1 0 = extA R a d ∧ R.All NodSays ∧ R.At wr wr.heap.size ao k ∧ Sit w wr [(w.heap.size, 0, .int .i64 op), (w.heap.size, 1, .int .i64 n), (w.heap.size, 2, .string nm), (w.heap.size, 3, .slice ao kids.len cap)]) (fun _ _ s _ _ _ => kids.len - (intOf s).toNat)
  case atStart => exact ⟨0, kids, 1, 0, rfl, rfl, rfl, by simp, rfl, HIH.out, HAT.out.same HX.out.1, HX.out⟩
  case round =>
    obtain ⟨k, R, a, d, rfl, rfl, rfl, hlen, heq, hall, hrow, hB⟩ := hrel
    have HE := Lib.hid heq
    have HY := Lib.hid hB
    clear heq hB HX
    obtain ⟨-, ⟨-, c0⟩, ⟨-, c1⟩, ⟨-, c2⟩, ⟨-, c3⟩, -⟩ := HY.out
    cases R with
    | nil =>
      obtain rfl : k = kids.len := by simpa [ExL.len] using hlen
      go_wp2_with fail
      go_ret2
      exact ⟨ret_two (ext_nil HE.out).1 (ext_nil HE.out).2, HY.out.1⟩
    | cons op' n' nm' kids' rest =>
      obtain ⟨⟨b, off, ao', cap', rfl, hbB, x0, x1, x2, x3, hok', hkids⟩, hrest⟩ := hrow
      obtain ⟨hsay, hall'⟩ := hall
      have hlt : k < kids.len := by simp only [ExL.len] at hlen; omega
      go_wp2_with fail
      refine (hsay _ _ _ hok' hkids).mono ?_
      rintro e w2 ⟨rfl, hb2⟩
      have HB3 := Lib.hid hb2
      clear hb2 x0 x1 x2 x3 c0 c1 c2 c3 hkids
      go_wp2_with fail
      go_roundw
      case rel => exact ⟨k + 1, rest, _, _, by go_num, rfl, rfl, by simp only [ExL.len] at hlen; omega, HE.out, hall', hrest.same HB3.out, HY.out.next HB3.out⟩
      case measure => simp [intOf]; omega
theorem RefNodes_any (op n : Int) (nm : ByteArray) (kids : ExL) : NodSays op n nm kids := ExL.of_all Nodes_step op n nm kids

/-- What the reference's names answers. -/
def RefNmsSays (p : Pr) (i : Int) (op n : Int) (nm : ByteArray) (kids : ExL) : Prop :=
  ∀ (w : World) (aoD aoT ao : Option Addr) (capD capT cap : Nat), I64 i → p.At w aoD aoT → ExOk op n nm kids → kids.At w w.heap.size ao 0 →
    Calls Tryd.prog 26 #[.agg #[.slice aoD p.ds.length capD, .slice aoT p.ts.length capT], .int .i64 i, .agg #[.int .i64 op, .int .i64 n, .string nm, .slice ao kids.len cap]] w fun e w' => e = .returned (.int .i64 (nmsE p i op nm kids)) ∧ Below w.heap.size w w'
set_option maxHeartbeats 2000000 in
theorem RefNames_step (p : Pr) (i : Int) (op n : Int) (nm : ByteArray) (kids : ExL) (ih : kids.All (RefNmsSays p i)) : RefNmsSays p i op n nm kids := by
  intro w aoD aoT ao capD capT cap hi hp hok hat
  obtain ⟨-, -, -, hl⟩ := hok
  unfold maxLen at hl
  have HIH := Lib.hid ih
  have HAT := Lib.hid hat
  have HP := Lib.hid hp
  clear ih hat hp
  go_enter Tryd.func26, Tryd.ntmps26
  go_upto_region 1 with fail
  generalize hW : World.alloc (World.alloc w _) _ = W
  generalize Value.agg #[_, _] = a0
  generalize Value.agg #[_, _, _, _] = a1
  have HX := Lib.hid (((Sit.start w).box2 rfl (.slice aoD p.ds.length capD) (.slice aoT p.ts.length capT) 29).box4 (n := w.heap.size + 1) (by simp) (.int .i64 op) (.int .i64 n) (.string nm) (.slice ao kids.len cap) 25)
  rw [hW] at HX
  clear hW
  obtain ⟨-, ⟨-, c0⟩, ⟨-, c1⟩, ⟨-, c2⟩, ⟨-, c3⟩, ⟨-, c4⟩, ⟨-, c5⟩, -⟩ := HX.out
  go_upto_block 0 with (fail)
  go_cut [7, 10] (fun s7 _ W2 => s7 = .int .i64 (nm1 p i op nm) ∧ Sit w W2 [(w.heap.size + 1, 0, .int .i64 op), (w.heap.size + 1, 1, .int .i64 n), (w.heap.size + 1, 2, .string nm), (w.heap.size + 1, 3, .slice ao kids.len cap), (w.heap.size, 0, .slice aoD p.ds.length capD), (w.heap.size, 1, .slice aoT p.ts.length capT)])
  case first =>
    cases h2 : (op == 2)
    · cases h3 : (op == 3)
      · have HE : Hid (nm1 p i op nm = 0) := Lib.hid (by unfold nm1; rw [h2, h3]; rfl)
        go_wp2_with fail
        go_meet
        exact ⟨by rw [HE.out], HX.out⟩
      · have HE : Hid (nm1 p i op nm = wantE (conv (mean p i nm)) 2 2) := Lib.hid (by unfold nm1; rw [h2, h3]; exact (want_one _ 3 (mean_range p i nm) (by decide)).symm)
        go_wp2_with fail
        refine (want_any p i nm 2 2 _ aoD aoT capD capT hi (HP.out.same HX.out.1)).mono ?_
        rintro e w2 ⟨rfl, hb2⟩
        go_wp2_with fail
        go_meet
        exact ⟨by rw [HE.out], HX.out.next hb2⟩
    · have HE : Hid (nm1 p i op nm = wantE (conv (mean p i nm)) 8 1) := Lib.hid (by unfold nm1; rw [h2]; exact (want_two _ 1 2 (mean_range p i nm) (by decide) (by decide)).symm)
      go_wp2_with fail
      refine (want_any p i nm 8 1 _ aoD aoT capD capT hi (HP.out.same HX.out.1)).mono ?_
      rintro e w2 ⟨rfl, hb2⟩
      go_wp2_with fail
      go_meet
      exact ⟨by rw [HE.out], HX.out.next hb2⟩
  case rest =>
    obtain ⟨rfl, hX⟩ := hcut
    have HY := Lib.hid hX
    clear hX HX c0 c1 c2 c3 c4 c5
    have HR : Hid (nmsE p i op nm kids = if nm1 p i op nm == 0 then nmsL p i kids else nm1 p i op nm) := Lib.hid rfl
    generalize nm1 p i op nm = r0 at *
    go_wp2_with fail
    go_loopw [7, 8] (fun s7 s8 wr => ∃ (k : Nat) (R : ExL) (r : Int), s8 = .int .i64 k ∧ s7 = .int .i64 r ∧ k + R.len = kids.len ∧ nmsE p i op nm kids = (if r == 0 then nmsL p i R else r) ∧ R.All (RefNmsSays p i) ∧ R.At wr wr.heap.size ao k ∧ Sit w wr [(w.heap.size + 1, 0, .int .i64 op), (w.heap.size + 1, 1, .int .i64 n), (w.heap.size + 1, 2, .string nm), (w.heap.size + 1, 3, .slice ao kids.len cap), (w.heap.size, 0, .slice aoD p.ds.length capD), (w.heap.size, 1, .slice aoT p.ts.length capT)]) (fun _ s _ => kids.len - (intOf s).toNat)
    case atStart => exact ⟨0, kids, r0, rfl, rfl, by simp, HR.out, HIH.out, HAT.out.same HY.out.1, HY.out⟩
    case round =>
      obtain ⟨k, R, r, rfl, rfl, hlen, heq, hall, hrow, hsit⟩ := hrel
      have HE := Lib.hid heq
      have HZ := Lib.hid hsit
      clear heq hsit
      obtain ⟨-, ⟨-, c0⟩, ⟨-, c1⟩, ⟨-, c2⟩, ⟨-, c3⟩, ⟨-, c4⟩, ⟨-, c5⟩, -⟩ := HZ.out
      cases R with
      | nil =>
        obtain rfl : k = kids.len := by simpa [ExL.len] using hlen
        go_wp2_with fail
        go_ret
        exact ⟨ret_int (HE.out.trans (by cases h : (r == 0) <;> simp_all [nmsL])).symm, HZ.out.1⟩
      | cons op' n' nm' kids' rest =>
        obtain ⟨⟨b, off, ao', cap', rfl, hbB, x0, x1, x2, x3, hok', hkids⟩, hrest⟩ := hrow
        obtain ⟨hsay, hall'⟩ := hall
        have hlt : k < kids.len := by simp only [ExL.len] at hlen; omega
        cases hr : (r == 0)
        · have HE' := Lib.hid (HE.out.trans (by rw [hr]; rfl : _ = r))
          go_wp2_with fail
          go_ret
          exact ⟨ret_int HE'.out.symm, HZ.out.1⟩
        · have HE' := Lib.hid (HE.out.trans (by rw [hr]; rfl : _ = nmsL p i (.cons op' n' nm' kids' rest)))
          go_wp2_with fail
          obtain ⟨T, F, hinh, hst, hF, hnext⟩ := calm wr
          have HF := Lib.hid hF
          have HNX := Lib.hid hnext
          clear hnext hF
          have d0 := fun x => (HZ.out.next (HF.out x)).2.1.2
          have d1 := fun x => (HZ.out.next (HF.out x)).2.2.1.2
          have d2 := fun x => (HZ.out.next (HF.out x)).2.2.2.1.2
          have d3 := fun x => (HZ.out.next (HF.out x)).2.2.2.2.1.2
          have d4 := fun x => (HZ.out.next (HF.out x)).2.2.2.2.2.1.2
          have d5 := fun x => (HZ.out.next (HF.out x)).2.2.2.2.2.2.1.2
          have y0 := fun x => ((HF.out x).cell (p := ⟨b, off + k * 4, none⟩) hbB).trans x0
          have y1 := fun x => ((HF.out x).cell (p := ⟨b, off + k * 4 + 1, none⟩) hbB).trans x1
          have y2 := fun x => ((HF.out x).cell (p := ⟨b, off + k * 4 + 2, none⟩) hbB).trans x2
          have y3 := fun x => ((HF.out x).cell (p := ⟨b, off + k * 4 + 3, none⟩) hbB).trans x3
          clear c0 c1 c2 c3 c4 c5 x0 x1 x2 x3
          have hk0 : (0 : Int) ≤ k := by omega
          have hk1 : (k : Int) < kids.len := by omega
          refine region_calm F (by kernel_rfl) (by kernel_rfl) hst ?_
          repeat (any_goals (first | go_big_quiet_step ((go_at_call 26; refine (hsay _ aoD aoT ao' capD capT cap' hi ((HP.out.same HZ.out.1).same (HF.out _)) hok' (hkids.same (HF.out _))).mono ?_; rintro e w' ⟨rfl, hb⟩; exact ⟨rfl, HNX.out _ _ hb⟩)) | (refine wpQuiet_step (fun K hK => ?_); go_simp; first | (refine hK _ ?_; clear hK K) | (split <;> first | (refine hK _ ?_; clear hK K) | (apply Exists.intro; refine ⟨fun _ => ?_, hK _ ?_⟩; ((go_at_call 26; refine (hsay _ aoD aoT ao' capD capT cap' hi ((HP.out.same HZ.out.1).same (HF.out _)) hok' (hkids.same (HF.out _))).mono ?_; rintro e w' ⟨rfl, hb⟩; exact ⟨rfl, HNX.out _ _ hb⟩)); clear hK K)))))
          all_goals (refine wpQuiet_nil ?_; rintro _ ⟨x, rfl⟩)
          have HB2 := Lib.hid (HF.out x)
          clear d0 d1 d2 d3 d4 d5 y0 y1 y2 y3 HF HNX hst
          generalize F x = W2 at *
          go_wp2_with fail
          go_roundw
          case rel => exact ⟨k + 1, rest, _, by go_num, rfl, by simp only [ExL.len] at hlen; omega, HE'.out.trans (nmsL_cons p i op' n' nm' kids' rest), hall', hrest.same HB2.out, HZ.out.next HB2.out⟩
          case measure => simp [intOf]; omega
theorem RefNames_any (p : Pr) (i : Int) (op n : Int) (nm : ByteArray) (kids : ExL) : RefNmsSays p i op n nm kids := ExL.of_all (RefNames_step p i) op n nm kids

set_option maxHeartbeats 2000000 in
theorem RefExpr_any (p : Pr) (i : Int) (op n : Int) (nm : ByteArray) (kids : ExL) (w : World) (aoD aoT ao : Option Addr) (capD capT cap : Nat) (hi : I64 i) (hp : p.At w aoD aoT) (hok : ExOk op n nm kids) (hat : kids.At w w.heap.size ao 0) :
    Calls Tryd.prog 10 #[.agg #[.slice aoD p.ds.length capD, .slice aoT p.ts.length capT], .int .i64 i, .agg #[.int .i64 op, .int .i64 n, .string nm, .slice ao kids.len cap]] w fun e w' => e = .returned (.int .i64 (exE p i op n nm kids)) ∧ Below w.heap.size w w' := by
  have HAT := Lib.hid hat
  have HP := Lib.hid hp
  clear hat hp
  go_enter Tryd.func10, Tryd.ntmps10
  go_upto_region 1 with fail
  generalize hW : World.alloc (World.alloc w _) _ = W
  generalize Value.agg #[_, _] = a0
  generalize Value.agg #[_, _, _, _] = a1
  have HX := Lib.hid (((Sit.start w).box2 rfl (.slice aoD p.ds.length capD) (.slice aoT p.ts.length capT) 29).box4 (n := w.heap.size + 1) (by simp) (.int .i64 op) (.int .i64 n) (.string nm) (.slice ao kids.len cap) 25)
  rw [hW] at HX
  clear hW
  obtain ⟨-, ⟨-, c0⟩, ⟨-, c1⟩, ⟨-, c2⟩, ⟨-, c3⟩, ⟨-, c4⟩, ⟨-, c5⟩, -⟩ := HX.out
  go_wp2_with fail
  refine (RefShapedExpr_any op n nm kids _ ao cap hok (HAT.out.same HX.out.1)).mono ?_
  rintro e w1 ⟨rfl, hb1⟩
  have HY := Lib.hid (HX.out.next hb1)
  clear HX hb1 c0 c1 c2 c3 c4 c5
  obtain ⟨-, ⟨-, c0⟩, ⟨-, c1⟩, ⟨-, c2⟩, ⟨-, c3⟩, ⟨-, c4⟩, ⟨-, c5⟩, -⟩ := HY.out
  cases hS : shpE op n nm kids
  · have HE : Hid (exE p i op n nm kids = 3) := Lib.hid (by unfold exE; rw [hS]; rfl)
    go_wp2_with fail
    go_ret
    exact ⟨ret_int HE.out.symm, HY.out.1⟩
  · have HE : Hid (exE p i op n nm kids = if decide (24 < (ext kids).1) || decide (6 < (ext kids).2) then 2 else nmsE p i op nm kids) := Lib.hid (by unfold exE; rw [hS]; rfl)
    go_wp2_with fail
    refine (RefNodes_any op n nm kids _ ao cap hok (HAT.out.same HY.out.1)).mono ?_
    rintro e w2 ⟨rfl, hb2⟩
    have HZ := Lib.hid (HY.out.next hb2)
    clear HY hb2 c0 c1 c2 c3 c4 c5
    obtain ⟨-, ⟨-, c0⟩, ⟨-, c1⟩, ⟨-, c2⟩, ⟨-, c3⟩, ⟨-, c4⟩, ⟨-, c5⟩, -⟩ := HZ.out
    generalize (ext kids).1 = a at *
    generalize (ext kids).2 = d at *
    cases h1 : decide (24 < a)
    · cases h2 : decide (6 < d)
      · have HE' := Lib.hid (HE.out.trans (by rw [h1, h2]; rfl : _ = nmsE p i op nm kids))
        have q1 : a ≤ 24 := by simpa using h1
        have q2 : d ≤ 6 := by simpa using h2
        go_wp2_with fail
        refine (RefNames_any p i op n nm kids _ aoD aoT ao capD capT cap hi (HP.out.same HZ.out.1) hok (HAT.out.same HZ.out.1)).mono ?_
        rintro e w3 ⟨rfl, hb3⟩
        go_wp2_with fail
        go_ret
        exact ⟨ret_int HE'.out.symm, (HZ.out.next hb3).1⟩
      · have HE' := Lib.hid (HE.out.trans (if_pos (by rw [h1, h2]; rfl)))
        have q1 : a ≤ 24 := by simpa using h1
        have q2 : 6 < d := by simpa using h2
        go_wp2_with fail
        go_ret
        exact ⟨ret_int HE'.out.symm, HZ.out.1⟩
    · have HE' := Lib.hid (HE.out.trans (if_pos (by rw [h1]; rfl)))
      have q1 : 24 < a := by simpa using h1
      go_wp2_with fail
      go_ret
      exact ⟨ret_int HE'.out.symm, HZ.out.1⟩
end Go.Proofs.YtghdammalphmfaaDoor
end
section
namespace Go.Proofs.YtghdammalphmfaaDoor
open Go.RowKit
open Md

theorem str_keyed : Maps.Keyed Tryd.prog 9 := Maps.string_keyed Tryd.underlying9
theorem keyOf_str (s : ByteArray) (hs : s.size ≤ maxLen) : keyOf Tryd.prog 9 (.string s) = some (.string s.toList) := by
  unfold keyOf mapKey; simp [Tryd.underlying9, hs, Lib.toList_data]
/-- The map in a block holds the integers that a function gives (0: nothing). -/
def MapI (w : World) (b n : Nat) (f : List UInt8 → Int) : Prop :=
  ∃ D : DataW Unit, w.ownsMap Tryd.prog 9 (plainElem Tryd.prog 3) b n D ∧ ∀ l, D.atKey (.string l) (.lit (.int .i64 0)) = .lit (.int .i64 (f l))
def MapB (w : World) (b n : Nat) (f : List UInt8 → Bool) : Prop :=
  ∃ D : DataW Unit, w.ownsMap Tryd.prog 9 (plainElem Tryd.prog 4) b n D ∧ ∀ l, D.atKey (.string l) (.lit (.bool false)) = .lit (.bool (f l))
theorem MapI.made (w : World) : MapI (w.alloc (.map #[] 0)) w.heap.size 0 (fun _ => 0) := ⟨_, World.ownsMap_made w _ _ _, fun _ => rfl⟩
theorem MapB.made (w : World) : MapB (w.alloc (.map #[] 0)) w.heap.size 0 (fun _ => false) := ⟨_, World.ownsMap_made w _ _ _, fun _ => rfl⟩
theorem MapI.lt {w : World} {b n : Nat} {f : List UInt8 → Int} (h : MapI w b n f) : b < w.heap.size := by obtain ⟨D, h, _⟩ := h; exact h.lt
theorem MapB.lt {w : World} {b n : Nat} {f : List UInt8 → Bool} (h : MapB w b n f) : b < w.heap.size := by obtain ⟨D, h, _⟩ := h; exact h.lt
theorem MapI.same {w w' : World} {b n : Nat} {f : List UInt8 → Int} (h : MapI w b n f) (hb : w'.heap[b]? = w.heap[b]?) : MapI w' b n f := by
  obtain ⟨D, ⟨es, clock, h1, h2⟩, h3⟩ := h; exact ⟨D, ⟨es, clock, hb.trans h1, h2⟩, h3⟩
theorem MapB.same {w w' : World} {b n : Nat} {f : List UInt8 → Bool} (h : MapB w b n f) (hb : w'.heap[b]? = w.heap[b]?) : MapB w' b n f := by
  obtain ⟨D, ⟨es, clock, h1, h2⟩, h3⟩ := h; exact ⟨D, ⟨es, clock, hb.trans h1, h2⟩, h3⟩
theorem MapI.next {w w' : World} {b n : Nat} {f : List UInt8 → Int} (h : MapI w b n f) (hb : Below w.heap.size w w') : MapI w' b n f := h.same (hb.block b h.lt)
theorem MapB.next {w w' : World} {b n : Nat} {f : List UInt8 → Bool} (h : MapB w b n f) (hb : Below w.heap.size w w') : MapB w' b n f := h.same (hb.block b h.lt)

theorem zero_int (w : World) : (zeroValue 3).run Tryd.prog w = .ok (.int .i64 0) w := by kernel_rfl
theorem zero_bool (w : World) : (zeroValue 4).run Tryd.prog w = .ok (.bool false) w := by kernel_rfl
theorem wf64 {v : Int} (hv : I64 v) : (Lit.int .i64 v).wf = true := by
  unfold Lit.wf; rw [Bool.and_eq_true, decide_eq_true_iff, decide_eq_true_iff]; exact hv
theorem MapI.look {w : World} {b n : Nat} {f : List UInt8 → Int} (h : MapI w b n f) (s : ByteArray) (hs : s.size ≤ maxLen) :
    (Instr.lookup 84 (.map (some b)) (.string s) false).run Tryd.prog w = .ok (.int .i64 (f s.toList)) w := by
  obtain ⟨D, ho, hf⟩ := h
  obtain ⟨c, hrun, hat, -⟩ := ho.lookup_int (t := 84) str_keyed Tryd.underlying84 Tryd.underlying3 (zero_int w) (keyOf_str s hs)
  rw [hf] at hat
  obtain rfl : f s.toList = c := (Lit.int.inj (DataW.lit.inj hat)).2
  exact hrun
theorem bool_inv {H : Type} {v : Value} {x : Bool} {ps : List MemPlace} (hv : plainElem (H := H) Tryd.prog 4 v = some (.lit (.bool x), ps)) : v = .bool x := by
  unfold plainElem at hv
  generalize hu : Program.underlying Tryd.prog 4 = u at hv
  rw [Tryd.underlying4] at hu
  subst hu
  cases v with
  | bool y => exact congrArg Value.bool (Lit.bool.inj (DataW.lit.inj (Prod.mk.inj (Option.some.inj hv)).1))
  | _ => exact absurd hv (by intro h; cases h)
theorem MapB.look {w : World} {b n : Nat} {f : List UInt8 → Bool} (h : MapB w b n f) (s : ByteArray) (hs : s.size ≤ maxLen) :
    (Instr.lookup 86 (.map (some b)) (.string s) false).run Tryd.prog w = .ok (.bool (f s.toList)) w := by
  obtain ⟨D, ho, hf⟩ := h
  obtain ⟨v, ps, hrun, hv⟩ := ho.lookup (t := 86) str_keyed Tryd.underlying86 (zero_bool w) (plainElem_bool Tryd.underlying4 false) (keyOf_str s hs)
  rw [hf] at hv
  have hv' : v = .bool (f s.toList) := by
    exact bool_inv hv
  rw [hrun, hv']
theorem MapI.put {w : World} {b n : Nat} {f : List UInt8 → Int} (h : MapI w b n f) (hn : n < maxLen) (s : ByteArray) (hs : s.size ≤ maxLen) (v : Int) (hv : I64 v) :
    ∃ w', (Instr.mapUpdate 84 (.map (some b)) (.string s) (.int .i64 v)).run Tryd.prog w = .ok () w' ∧ MapI w' b (n + 1) (fun l => if l = s.toList then v else f l) ∧ w.grownBy w' (some b) := by
  obtain ⟨D, ho, hf⟩ := h
  obtain ⟨w', hrun, ho', hg⟩ := ho.update (t := 84) str_keyed Tryd.underlying84 hn (keyOf_str s hs) (plainElem_int Tryd.underlying3 (a := v) (wf64 hv))
  refine ⟨w', hrun, ⟨_, ho', fun l => ?_⟩, hg⟩
  show _ = DataW.lit (.int .i64 (if l = s.toList then v else f l))
  by_cases hl : l = s.toList
  · subst hl; rw [if_pos rfl, Maps.atKey_put_same ho.isMap (str_keyed.key (keyOf_str s hs))]
  · rw [if_neg hl, Maps.atKey_put_other (by intro h; injection h with h; exact hl h), hf]
theorem MapB.put {w : World} {b n : Nat} {f : List UInt8 → Bool} (h : MapB w b n f) (hn : n < maxLen) (s : ByteArray) (hs : s.size ≤ maxLen) (v : Bool) :
    ∃ w', (Instr.mapUpdate 86 (.map (some b)) (.string s) (.bool v)).run Tryd.prog w = .ok () w' ∧ MapB w' b (n + 1) (fun l => if l = s.toList then v else f l) ∧ w.grownBy w' (some b) := by
  obtain ⟨D, ho, hf⟩ := h
  obtain ⟨w', hrun, ho', hg⟩ := ho.update (t := 86) str_keyed Tryd.underlying86 hn (keyOf_str s hs) (plainElem_bool Tryd.underlying4 v)
  refine ⟨w', hrun, ⟨_, ho', fun l => ?_⟩, hg⟩
  show _ = DataW.lit (.bool (if l = s.toList then v else f l))
  by_cases hl : l = s.toList
  · subst hl; rw [if_pos rfl, Maps.atKey_put_same ho.isMap (str_keyed.key (keyOf_str s hs))]
  · rw [if_neg hl, Maps.atKey_put_other (by intro h; injection h with h; exact hl h), hf]
/-- A world in which one block of the call's own was written. -/
theorem grown_below {w w' : World} {b B : Nat} (h : w.grownBy w' (some b)) (hB : B ≤ b) (hB' : B ≤ w.heap.size) : Below B w w' :=
  ⟨h.os, h.tape, h.output, h.size, fun k hk => h.block k (by omega) (by simp; omega)⟩
end Go.Proofs.YtghdammalphmfaaDoor
end
