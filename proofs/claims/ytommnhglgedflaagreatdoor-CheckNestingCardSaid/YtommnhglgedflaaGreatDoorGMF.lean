/-
  Contracts of check.first, nesting, and of the checker's kind, expr, own, mutexOf.
  Contracts of the checker's inside, insideNamed.
  Contract of the checker's assignment.
  Contract of check.once.
-/
import Derived.Test.YtommnhglgedflaaGreatDoorGMD
import Derived.Test.YtommnhglgedflaaGreatDoorGME
import Derived.Test.YtommnhglgedflaaGreatDoorGMB
section
namespace Go.Proofs.YtommnhglgedflaaGreatDoor
open Go.RowKit
namespace Md
def firstE : List Int → Int
  | [] => 0
  | a :: r => if a != 0 then a else firstE r
def nest (b : Bool) : Int := if b then 7 else 0
/-- The name of the mutex of a condition. -/
def mutexP (ds : List De) (nm : ByteArray) : ByteArray := ((ds.find? fun d => d.kind == 5 && d.nm.toList == nm.toList).map (·.on)).getD ⟨#[]⟩
theorem mutexP_cons (d : De) (r : List De) (nm : ByteArray) : mutexP (d :: r) nm = if d.kind == 5 && d.nm.toList == nm.toList then d.on else mutexP r nm := by
  unfold mutexP; rw [List.find?_cons]; cases h : (d.kind == 5 && d.nm.toList == nm.toList) <;> simp
end Md
open Md

/-- The cells of a checker. -/
def ckF (bc : Nat) (p : Pr) (aoD aoT : Option Addr) (capD capT : Nat) (i : Int) (aoA : Option Addr) (lenA capA bs bt : Nat) : List (Nat × Nat × Value) :=
  [(bc, 0, .slice aoD p.ds.length capD), (bc, 1, .slice aoT p.ts.length capT), (bc, 2, .int .i64 i), (bc, 3, .slice aoA lenA capA), (bc, 4, .map (some bs)), (bc, 5, .map (some bt))]

theorem nesting_any (b : Bool) (w : World) :
    Calls Tryz.prog 156 #[.bool b] w fun e w' => e = .returned (.int .i64 (nest b)) ∧ w = w' := by
  cases b
  all_goals
    go_enter Tryz.func156, Tryz.ntmps156
    go_wp2
    go_ret
    exact ⟨rfl, rfl⟩

theorem ckFirst_any (l : List Int) (w : World) (ao : Option Addr) (cap : Nat) (hl : l.length ≤ maxLen) (hat : InAt w w.heap.size l ao 0) :
    Calls Tryz.prog 154 #[.slice ao l.length cap] w fun e w' => e = .returned (.int .i64 (firstE l)) ∧ w = w' := by
  unfold maxLen at hl
  generalize hres : firstE l = res
  have HR := Lib.hid hres
  clear hres
  go_enter Tryz.func154, Tryz.ntmps154
  go_wp2_with fail
  go_loop [4, 7] (fun _ s => ∃ (k : Nat) (R : List Int), s = .int .i64 k ∧ k + R.length = l.length ∧ res = firstE R ∧ InAt w w.heap.size R ao k) (fun _ s => l.length - (intOf s).toNat)
  case atStart => exact ⟨0, l, rfl, by simp, HR.out.symm, hat⟩
  case round =>
    obtain ⟨k, R, rfl, hlen, heq, hrow⟩ := hrel
    have HE := Lib.hid heq
    clear heq
    cases R with
    | nil =>
      obtain rfl : k = l.length := by simpa using hlen
      go_wp2_with fail
      go_ret
      exact ⟨ret_int HE.out.symm, rfl⟩
    | cons a R =>
      obtain ⟨⟨b, off, rfl, hB, y0⟩, hrest⟩ := hrow
      simp only [List.length_cons] at hlen
      have hkl : k < l.length := by omega
      cases hc : (a != 0)
      · have HE' := Lib.hid (HE.out.trans (if_neg (by rw [hc]; decide)))
        go_wp2_with fail
        go_round
        case rel => exact ⟨k + 1, R, by go_num, by omega, HE'.out, hrest⟩
        case measure => simp [intOf]; omega
      · have HE' := Lib.hid (HE.out.trans (if_pos hc))
        go_wp2_with fail
        go_ret
        exact ⟨ret_int HE'.out.symm, rfl⟩

section
variable (p : Pr) (w : World) (aoD aoT : Option Addr) (capD capT : Nat) (i : Int) (aoA : Option Addr) (lenA capA bs bt bc : Nat)

set_option maxHeartbeats 1000000 in
theorem ckKind_any (nm : ByteArray) (l : List Int) (ao : Option Addr) (cap : Nat) (hi : I64 i) (hl : l.length ≤ maxLen) (hp : p.At w aoD aoT) (hw : InAt w w.heap.size l ao 0) (hh : Holds w (ckF bc p aoD aoT capD capT i aoA lenA capA bs bt)) :
    Calls Tryz.prog 155 #[.pointer (some ⟨bc, 0, none⟩), .string nm, .slice ao l.length cap] w fun e w' => e = .returned (.int .i64 (kindE (mean p i nm) l)) ∧ Below w.heap.size w w' := by
  have HH := Lib.hid (show Sit w w _ from ⟨Below.refl _ _, hh⟩)
  have HP := Lib.hid hp
  have HW := Lib.hid hw
  clear hp hw hh
  go_enter Tryz.func155, Tryz.ntmps155
  go_wp2_with fail
  obtain ⟨T, F, hinh, hst, hF, hnext⟩ := calm w
  have HF := Lib.hid hF
  have HNX := Lib.hid hnext
  clear hnext hF
  have d0 := fun x => (HH.out.next (HF.out x)).2.1.2
  have d1 := fun x => (HH.out.next (HF.out x)).2.2.1.2
  have d2 := fun x => (HH.out.next (HF.out x)).2.2.2.1.2
  have d3 := fun x => (HH.out.next (HF.out x)).2.2.2.2.1.2
  have d4 := fun x => (HH.out.next (HF.out x)).2.2.2.2.2.1.2
  have d5 := fun x => (HH.out.next (HF.out x)).2.2.2.2.2.2.1.2
  refine region_calm F (by kernel_rfl) (by kernel_rfl) hst ?_
  repeat (any_goals (first | go_big_quiet_step ((go_at_call 177; refine (kindOf_any p i nm l _ aoD aoT ao capD capT cap hi hl (HP.out.same (HF.out _)) (HW.out.same (HF.out _))).mono ?_; rintro e w' ⟨rfl, hb⟩; exact ⟨rfl, HNX.out _ _ hb⟩)) | (refine wpQuiet_step (fun K hK => ?_); go_simp; first | (refine hK _ ?_; clear hK K) | (split <;> first | (refine hK _ ?_; clear hK K) | (apply Exists.intro; refine ⟨fun _ => ?_, hK _ ?_⟩; ((go_at_call 177; refine (kindOf_any p i nm l _ aoD aoT ao capD capT cap hi hl (HP.out.same (HF.out _)) (HW.out.same (HF.out _))).mono ?_; rintro e w' ⟨rfl, hb⟩; exact ⟨rfl, HNX.out _ _ hb⟩)); clear hK K)))))
  all_goals (refine wpQuiet_nil ?_; rintro _ ⟨x, rfl⟩)
  go_wp2_with fail
  go_ret
  exact ⟨rfl, HF.out x⟩

set_option maxHeartbeats 1000000 in
theorem ckExpr_any (op n : Int) (nm : ByteArray) (kids : ExL) (ao : Option Addr) (cap : Nat) (hi : I64 i) (hp : p.At w aoD aoT) (hok : ExOk op n nm kids) (hat : kids.At w w.heap.size ao 0) (hkw : KwLaid w) (hh : Holds w (ckF bc p aoD aoT capD capT i aoA lenA capA bs bt)) :
    Calls Tryz.prog 153 #[.pointer (some ⟨bc, 0, none⟩), .agg #[.int .i64 op, .int .i64 n, .string nm, .slice ao kids.len cap]] w fun e w' => e = .returned (.int .i64 (exE p i op n nm kids)) ∧ Below w.heap.size w w' := by
  have HH := Lib.hid (show Sit w w _ from ⟨Below.refl _ _, hh⟩)
  have HP := Lib.hid hp
  have HAT := Lib.hid hat
  have HKW := Lib.hid hkw
  clear hp hat hh hkw
  go_enter Tryz.func153, Tryz.ntmps153
  go_upto_region 1 with fail
  generalize hW : World.alloc w _ = W
  generalize Value.agg #[_, _, _, _] = a0
  have HX := Lib.hid (HH.out.box4 rfl (.int .i64 op) (.int .i64 n) (.string nm) (.slice ao kids.len cap) 38)
  rw [hW] at HX
  clear hW
  obtain ⟨T, F, hinh, hst, hF, hnext⟩ := calm W
  have HF := Lib.hid hF
  have HNX := Lib.hid hnext
  clear hnext hF
  have d0 := fun x => (HX.out.next (HF.out x)).2.1.2
  have d1 := fun x => (HX.out.next (HF.out x)).2.2.1.2
  have d2 := fun x => (HX.out.next (HF.out x)).2.2.2.1.2
  have d3 := fun x => (HX.out.next (HF.out x)).2.2.2.2.1.2
  have d4 := fun x => (HX.out.next (HF.out x)).2.2.2.2.2.1.2
  have d5 := fun x => (HX.out.next (HF.out x)).2.2.2.2.2.2.1.2
  have d6 := fun x => (HX.out.next (HF.out x)).2.2.2.2.2.2.2.1.2
  have d7 := fun x => (HX.out.next (HF.out x)).2.2.2.2.2.2.2.2.1.2
  have d8 := fun x => (HX.out.next (HF.out x)).2.2.2.2.2.2.2.2.2.1.2
  have d9 := fun x => (HX.out.next (HF.out x)).2.2.2.2.2.2.2.2.2.2.1.2
  refine region_calm F (by kernel_rfl) (by kernel_rfl) hst ?_
  repeat (any_goals (first | go_big_quiet_step ((go_at_call 176; refine (CheckExpr_any p i op n nm kids _ aoD aoT ao capD capT cap hi ((HP.out.same HX.out.1).same (HF.out _)) hok ((HAT.out.same HX.out.1).same (HF.out _)) ((HKW.out.same HX.out.1).same (HF.out _))).mono ?_; rintro e w' ⟨rfl, hb⟩; exact ⟨rfl, HNX.out _ _ hb⟩)) | (refine wpQuiet_step (fun K hK => ?_); go_simp; first | (refine hK _ ?_; clear hK K) | (split <;> first | (refine hK _ ?_; clear hK K) | (apply Exists.intro; refine ⟨fun _ => ?_, hK _ ?_⟩; ((go_at_call 176; refine (CheckExpr_any p i op n nm kids _ aoD aoT ao capD capT cap hi ((HP.out.same HX.out.1).same (HF.out _)) hok ((HAT.out.same HX.out.1).same (HF.out _)) ((HKW.out.same HX.out.1).same (HF.out _))).mono ?_; rintro e w' ⟨rfl, hb⟩; exact ⟨rfl, HNX.out _ _ hb⟩)); clear hK K)))))
  all_goals (refine wpQuiet_nil ?_; rintro _ ⟨x, rfl⟩)
  go_wp2_with fail
  go_ret
  exact ⟨rfl, (HX.out.next (HF.out x)).1⟩

set_option maxHeartbeats 1000000 in
theorem ckOwn_any (j : Nat) (t : Th) (r : List Th) (hd : p.ts.drop j = t :: r) (hp : p.At w aoD aoT) (hh : Holds w (ckF bc p aoD aoT capD capT (j : Int) aoA lenA capA bs bt)) :
    Calls Tryz.prog 160 #[.pointer (some ⟨bc, 0, none⟩)] w fun e w' => e = .returned (.string t.nm) ∧ Below w.heap.size w w' := by
  have HH := Lib.hid (show Sit w w _ from ⟨Below.refl _ _, hh⟩)
  have hj : j < p.ts.length := by
    have := congrArg List.length hd; simp at this; omega
  have hth := hp.2.2.2.drop j
  rw [hd, Nat.zero_add] at hth
  obtain ⟨⟨b, off, aol, capl, aob, capb, rfl, hB, x0, -⟩, -⟩ := hth
  clear hp hd hh
  obtain ⟨-, ⟨-, c0⟩, ⟨-, c1⟩, ⟨-, c2⟩, ⟨-, c3⟩, ⟨-, c4⟩, ⟨-, c5⟩, -⟩ := HH.out
  have hj0 : (0 : Int) ≤ j := by omega
  have hj1 : (j : Int) < p.ts.length := by omega
  go_enter Tryz.func160, Tryz.ntmps160
  go_wp2_with fail
  go_quiet (fail)
  go_wp2_with fail
  go_ret
  exact ⟨rfl, below_drewN (Below.refl _ _) _⟩

set_option maxHeartbeats 1000000 in
theorem ckMutexOf_any (nm : ByteArray) (hp : p.At w aoD aoT) (hh : Holds w (ckF bc p aoD aoT capD capT i aoA lenA capA bs bt)) :
    Calls Tryz.prog 159 #[.pointer (some ⟨bc, 0, none⟩), .string nm] w fun e w' => e = .returned (.string (mutexP p.ds nm)) ∧ Below w.heap.size w w' := by
  have HH := Lib.hid (show Sit w w _ from ⟨Below.refl _ _, hh⟩)
  have HP := Lib.hid hp
  have hld := hp.1
  unfold maxLen at hld
  generalize hres : mutexP p.ds nm = res
  have HR := Lib.hid hres
  clear hp hh hres
  obtain ⟨-, ⟨-, c0⟩, ⟨-, c1⟩, ⟨-, c2⟩, ⟨-, c3⟩, ⟨-, c4⟩, ⟨-, c5⟩, -⟩ := HH.out
  go_enter Tryz.func159, Tryz.ntmps159
  go_wp2_with fail
  go_loopw [6, 13] (fun _ s wr => ∃ (k : Nat) (R : List De), s = .int .i64 k ∧ k + R.length = p.ds.length ∧ res = mutexP R nm ∧ DeAt wr wr.heap.size R aoD k ∧ Below w.heap.size w wr) (fun _ s _ => p.ds.length - (intOf s).toNat)
  case atStart => exact ⟨0, p.ds, rfl, by simp, HR.out.symm, HP.out.2.2.1, Below.refl _ _⟩
  case round =>
    obtain ⟨k, R, rfl, hlen, heq, hrow, hB⟩ := hrel
    have HE := Lib.hid heq
    have HB := Lib.hid hB
    clear heq hB c0 c1 c2 c3 c4 c5
    cases R with
    | nil =>
      obtain rfl : k = p.ds.length := by simpa using hlen
      go_wp2_with fail
      go_ret
      exact ⟨by rw [HE.out]; rfl, HB.out⟩
    | cons d R =>
      obtain ⟨⟨b, off, rfl, hB, x0, x1, x2, x3, x4, x5, hok⟩, hrest⟩ := hrow
      simp only [List.length_cons] at hlen
      have hkl : k < p.ds.length := by omega
      rw [mutexP_cons] at HE
      have HB2 := Lib.hid (HB.out.trans ((alloc_below wr (.cells #[.int .i64 d.kind, .int .i64 d.line, .string d.nm, .int .i64 d.size, .int .i64 d.init, .string d.on] 58)).mono HB.out.size))
      clear hok
      cases h5 : (d.kind == 5)
      · have HE' := Lib.hid (HE.out.trans (if_neg (by rw [h5]; simp)))
        go_wp2_with fail
        go_roundw
        case rel => exact ⟨k + 1, R, by go_num, by omega, HE'.out, hrest.same (alloc_below _ _), HB2.out⟩
        case measure => simp [intOf]; omega
      · cases hc : (d.nm.toList == nm.toList)
        · have HE' := Lib.hid (HE.out.trans (if_neg (by rw [h5, hc]; decide)))
          go_wp2_with fail
          go_roundw
          case rel => exact ⟨k + 1, R, by go_num, by omega, HE'.out, hrest.same (alloc_below _ _), HB2.out⟩
          case measure => simp [intOf]; omega
        · have HE' := Lib.hid (HE.out.trans (if_pos (by rw [h5, hc]; rfl)))
          go_wp2_with fail
          go_ret
          exact ⟨by rw [HE'.out]; rfl, HB2.out⟩
end
end Go.Proofs.YtommnhglgedflaaGreatDoor
end
section
namespace Go.Proofs.YtommnhglgedflaaGreatDoor
open Go.RowKit
namespace Md
/-- A statement with one of the operators is around; one of this name. -/
def insP : StL → List Int → Bool
  | .nil, _ => false
  | .cons h _ _ r, l => (l.any fun k => h.op == k) || insP r l
def insN : StL → ByteArray → List Int → Bool
  | .nil, _, _ => false
  | .cons h _ _ r, nm, l => (l.any fun k => h.op == k && h.nm.toList == nm.toList) || insN r nm l
end Md
open Md
section
variable (p : Pr) (w : World) (aoD aoT : Option Addr) (capD capT : Nat) (i : Int) (aoA : Option Addr) (capA bs bt bc : Nat)

set_option maxHeartbeats 2000000 in
set_option maxRecDepth 100000 in
theorem ckInside_any (ar : StL) (l : List Int) (ao : Option Addr) (cap : Nat) (hl : l.length ≤ maxLen) (hw : InAt w w.heap.size l ao 0) (har : ar.len ≤ maxLen) (hat : ar.At w w.heap.size aoA 0) (hh : Holds w (ckF bc p aoD aoT capD capT i aoA ar.len capA bs bt)) :
    Calls Tryz.prog 157 #[.pointer (some ⟨bc, 0, none⟩), .slice ao l.length cap] w fun e w' => e = .returned (.bool (insP ar l)) ∧ Below w.heap.size w w' := by
  have HH := Lib.hid (show Sit w w _ from ⟨Below.refl _ _, hh⟩)
  have HW := Lib.hid hw
  have HAT := Lib.hid hat
  generalize hres : insP ar l = res
  have HR := Lib.hid hres
  unfold maxLen at hl har
  clear hh hw hat hres
  obtain ⟨-, ⟨-, c0⟩, ⟨-, c1⟩, ⟨-, c2⟩, ⟨-, c3⟩, ⟨-, c4⟩, ⟨-, c5⟩, -⟩ := HH.out
  go_enter Tryz.func157, Tryz.ntmps157
  go_wp2_with fail
  go_loopw [6, 8, 14, 18, 19, 20] (fun _ _ s _ _ _ wr => ∃ (k : Nat) (R : StL), s = .int .i64 k ∧ k + R.len = ar.len ∧ res = insP R l ∧ R.At wr wr.heap.size aoA k ∧ Below w.heap.size w wr) (fun _ _ s _ _ _ _ => ar.len - (intOf s).toNat)
  case atStart => exact ⟨0, ar, rfl, by simp, HR.out.symm, HAT.out, Below.refl _ _⟩
  case round =>
    obtain ⟨k, R, rfl, hlen, heq, hrow, hB⟩ := hrel
    have HE := Lib.hid heq
    have HB := Lib.hid hB
    clear heq hB c0 c1 c2 c3 c4 c5
    cases R with
    | nil =>
      obtain rfl : k = ar.len := by simpa [StL.len] using hlen
      go_wp2_with fail
      go_ret
      exact ⟨ret_bool HE.out.symm, HB.out⟩
    | cons h b e R =>
      obtain ⟨bl, off, s, rfl, hbl, hin, x0, x1, x2, x3, x4, x5, x6, x7, x8, x9, x10, hrest⟩ := StL.At.head hrow
      have hkl : k < ar.len := by simp only [StL.len] at hlen; omega
      clear hrow hin
      go_upto_region 4 with fail
      obtain ⟨nb, hnb⟩ : ∃ n, wr.heap.size = n := ⟨_, rfl⟩
      generalize hW2 : World.alloc wr _ = W2
      have HY : Hid (Sit wr W2 (stF nb h b e s [])) := Lib.hid (by rw [← hW2]; exact (Sit.start wr).box11 hnb _ _ _ _ _ _ _ _ _ _ _ _)
      have HB2 := Lib.hid (HB.out.trans (HY.out.1.mono HB.out.size))
      have HRS := Lib.hid (hrest.same HY.out.1)
      have hrowl := HW.out.same HB2.out
      rw [hnb]
      clear hW2 hnb x0 x1 x2 x3 x4 x5 x6 x7 x8 x9 x10 hrest
      obtain ⟨-, ⟨-, c0⟩, ⟨-, c1⟩, ⟨-, c2⟩, ⟨-, c3⟩, ⟨-, c4⟩, ⟨-, c5⟩, ⟨-, c6⟩, ⟨-, c7⟩, ⟨-, c8⟩, ⟨-, c9⟩, ⟨-, c10⟩, -⟩ := HY.out
      clear c1 c2 c3 c4 c5 c6 c7 c8 c9 c10
      go_wp2_with fail
      go_loop [8, 20] (fun _ s' => ∃ (k' : Nat) (Q : List Int), s' = .int .i64 k' ∧ k' + Q.length = l.length ∧ (l.any fun k => h.op == k) = (Q.any fun k => h.op == k) ∧ InAt W2 W2.heap.size Q ao k') (fun _ s' => l.length - (intOf s').toNat)
      case atStart => exact ⟨0, l, rfl, by simp, rfl, hrowl⟩
      case round =>
        obtain ⟨k', Q, rfl, hlen', heq', hrow'⟩ := hrel
        have HQ := Lib.hid heq'
        clear heq' hrowl
        cases Q with
        | nil =>
          obtain rfl : k' = l.length := by simpa using hlen'
          have HF : Hid (res = insP R l) := Lib.hid (HE.out.trans (by rw [insP, HQ.out]; rfl))
          go_wp2_with fail
          go_roundw
          case rel => exact ⟨k + 1, R, by go_num, by simp only [StL.len] at hlen; omega, HF.out, HRS.out, HB2.out⟩
          case measure => simp [intOf]; omega
        | cons q Q =>
          obtain ⟨⟨b2, off2, rfl, hB2, z0⟩, hrest'⟩ := hrow'
          simp only [List.length_cons] at hlen'
          have hkl' : k' < l.length := by omega
          have HQ2 : Hid ((l.any fun k => h.op == k) = ((h.op == q) || (Q.any fun k => h.op == k))) := Lib.hid (HQ.out.trans (by simp))
          cases hc : (h.op == q)
          · have HF := Lib.hid (HQ2.out.trans (by rw [hc]; rfl : _ = (Q.any fun k => h.op == k)))
            go_wp2_with fail
            go_round
            case rel => exact ⟨k' + 1, Q, by go_num, by omega, HF.out, hrest'⟩
            case measure => simp [intOf]; omega
          · have HF : Hid (res = true) := Lib.hid (HE.out.trans (by rw [insP, HQ2.out, hc]; rfl))
            go_wp2_with fail
            go_ret
            exact ⟨ret_bool HF.out.symm, HB2.out⟩

set_option maxHeartbeats 2000000 in
set_option maxRecDepth 100000 in
theorem ckInsideNamed_any (ar : StL) (nm : ByteArray) (l : List Int) (ao : Option Addr) (cap : Nat) (hl : l.length ≤ maxLen) (hw : InAt w w.heap.size l ao 0) (har : ar.len ≤ maxLen) (hat : ar.At w w.heap.size aoA 0) (hh : Holds w (ckF bc p aoD aoT capD capT i aoA ar.len capA bs bt)) :
    Calls Tryz.prog 158 #[.pointer (some ⟨bc, 0, none⟩), .string nm, .slice ao l.length cap] w fun e w' => e = .returned (.bool (insN ar nm l)) ∧ Below w.heap.size w w' := by
  have HH := Lib.hid (show Sit w w _ from ⟨Below.refl _ _, hh⟩)
  have HW := Lib.hid hw
  have HAT := Lib.hid hat
  generalize hres : insN ar nm l = res
  have HR := Lib.hid hres
  unfold maxLen at hl har
  clear hh hw hat hres
  obtain ⟨-, ⟨-, c0⟩, ⟨-, c1⟩, ⟨-, c2⟩, ⟨-, c3⟩, ⟨-, c4⟩, ⟨-, c5⟩, -⟩ := HH.out
  go_enter Tryz.func158, Tryz.ntmps158
  go_wp2_with fail
  go_loopw [8, 10, 16, 20, 21, 22] (fun _ _ s _ _ _ wr => ∃ (k : Nat) (R : StL), s = .int .i64 k ∧ k + R.len = ar.len ∧ res = insN R nm l ∧ R.At wr wr.heap.size aoA k ∧ Below w.heap.size w wr) (fun _ _ s _ _ _ _ => ar.len - (intOf s).toNat)
  case atStart => exact ⟨0, ar, rfl, by simp, HR.out.symm, HAT.out, Below.refl _ _⟩
  case round =>
    obtain ⟨k, R, rfl, hlen, heq, hrow, hB⟩ := hrel
    have HE := Lib.hid heq
    have HB := Lib.hid hB
    clear heq hB c0 c1 c2 c3 c4 c5
    cases R with
    | nil =>
      obtain rfl : k = ar.len := by simpa [StL.len] using hlen
      go_wp2_with fail
      go_ret
      exact ⟨ret_bool HE.out.symm, HB.out⟩
    | cons h b e R =>
      obtain ⟨bl, off, s, rfl, hbl, hin, x0, x1, x2, x3, x4, x5, x6, x7, x8, x9, x10, hrest⟩ := StL.At.head hrow
      have hkl : k < ar.len := by simp only [StL.len] at hlen; omega
      clear hrow hin
      go_upto_region 4 with fail
      obtain ⟨nb, hnb⟩ : ∃ n, wr.heap.size = n := ⟨_, rfl⟩
      generalize hW2 : World.alloc wr _ = W2
      have HY : Hid (Sit wr W2 (stF nb h b e s [])) := Lib.hid (by rw [← hW2]; exact (Sit.start wr).box11 hnb _ _ _ _ _ _ _ _ _ _ _ _)
      have HB2 := Lib.hid (HB.out.trans (HY.out.1.mono HB.out.size))
      have HRS := Lib.hid (hrest.same HY.out.1)
      have hrowl := HW.out.same HB2.out
      rw [hnb]
      clear hW2 hnb x0 x1 x2 x3 x4 x5 x6 x7 x8 x9 x10 hrest
      obtain ⟨-, ⟨-, c0⟩, ⟨-, c1⟩, ⟨-, c2⟩, ⟨-, c3⟩, ⟨-, c4⟩, ⟨-, c5⟩, ⟨-, c6⟩, ⟨-, c7⟩, ⟨-, c8⟩, ⟨-, c9⟩, ⟨-, c10⟩, -⟩ := HY.out
      clear c1 c3 c4 c5 c6 c7 c8 c9 c10
      go_wp2_with fail
      go_loop [10, 22] (fun _ s' => ∃ (k' : Nat) (Q : List Int), s' = .int .i64 k' ∧ k' + Q.length = l.length ∧ (l.any fun k => h.op == k && h.nm.toList == nm.toList) = (Q.any fun k => h.op == k && h.nm.toList == nm.toList) ∧ InAt W2 W2.heap.size Q ao k') (fun _ s' => l.length - (intOf s').toNat)
      case atStart => exact ⟨0, l, rfl, by simp, rfl, hrowl⟩
      case round =>
        obtain ⟨k', Q, rfl, hlen', heq', hrow'⟩ := hrel
        have HQ := Lib.hid heq'
        clear heq' hrowl
        cases Q with
        | nil =>
          obtain rfl : k' = l.length := by simpa using hlen'
          have HF : Hid (res = insN R nm l) := Lib.hid (HE.out.trans (by rw [insN, HQ.out]; rfl))
          go_wp2_with fail
          go_roundw
          case rel => exact ⟨k + 1, R, by go_num, by simp only [StL.len] at hlen; omega, HF.out, HRS.out, HB2.out⟩
          case measure => simp [intOf]; omega
        | cons q Q =>
          obtain ⟨⟨b2, off2, rfl, hB2, z0⟩, hrest'⟩ := hrow'
          simp only [List.length_cons] at hlen'
          have hkl' : k' < l.length := by omega
          have HQ2 : Hid ((l.any fun k => h.op == k && h.nm.toList == nm.toList) = ((h.op == q && h.nm.toList == nm.toList) || (Q.any fun k => h.op == k && h.nm.toList == nm.toList))) := Lib.hid (HQ.out.trans (by simp))
          cases hc : (h.op == q)
          · have HF := Lib.hid (HQ2.out.trans (by rw [hc]; rfl : _ = (Q.any fun k => h.op == k && h.nm.toList == nm.toList)))
            go_wp2_with fail
            go_round
            case rel => exact ⟨k' + 1, Q, by go_num, by omega, HF.out, hrest'⟩
            case measure => simp [intOf]; omega
          · cases hn : (h.nm.toList == nm.toList)
            · have HF := Lib.hid (HQ2.out.trans (by rw [hc, hn]; rfl : _ = (Q.any fun k => h.op == k && h.nm.toList == nm.toList)))
              rw [hn] at HF
              go_wp2_with fail
              go_round
              case rel => exact ⟨k' + 1, Q, by go_num, by omega, HF.out, hrest'⟩
              case measure => simp [intOf]; omega
            · have HF : Hid (res = true) := Lib.hid (HE.out.trans (by rw [insN, HQ2.out, hc, hn]; rfl))
              go_wp2_with fail
              go_ret
              exact ⟨ret_bool HF.out.symm, HB2.out⟩
end
end Go.Proofs.YtommnhglgedflaaGreatDoor
end
section
set_option linter.unusedSimpArgs false
set_option linter.unusedVariables false
namespace Go.Proofs.YtommnhglgedflaaGreatDoor
open Go.RowKit
namespace Md
/-- The first expression of a list, of which there is one. -/
def ex1 (p : Pr) (i : Int) : ExL → Int
  | .nil => 0
  | .cons op n nm kids _ => exE p i op n nm kids
/-- The error of an assignment. -/
def asgE (p : Pr) (i : Int) (h : StH) : Int :=
  if decide ((h.idx.len : Int) = 0) then firstE [kindE (mean p i h.nm) [1, 2], exE p i h.xop h.xn h.xnm h.xkids] else firstE [kindE (mean p i h.nm) [3], ex1 p i h.idx, exE p i h.xop h.xn h.xnm h.xkids]
end Md
open Md
theorem inAt_three (w : World) (a b c : Int) (t : TypeId) : InAt (w.alloc (.cells #[.int .i64 a, .int .i64 b, .int .i64 c] t)) (w.alloc (.cells #[.int .i64 a, .int .i64 b, .int .i64 c] t)).heap.size [a, b, c] (some ⟨w.heap.size, 0, none⟩) 0 :=
  ⟨⟨_, _, rfl, by simp, box_cells w [.int .i64 a, .int .i64 b, .int .i64 c] t 0⟩, ⟨_, _, rfl, by simp, box_cells w [.int .i64 a, .int .i64 b, .int .i64 c] t 1⟩, ⟨_, _, rfl, by simp, box_cells w [.int .i64 a, .int .i64 b, .int .i64 c] t 2⟩, trivial⟩
theorem AllVals.nil {w : World} {K : Act → Prop} {a : Act} (h : K a) : AllVals w K [] a := h
section
variable (p : Pr) (w : World) (aoD aoT : Option Addr) (capD capT : Nat) (i : Int) (aoA : Option Addr) (lenA capA bs bt bc : Nat)
set_option maxHeartbeats 4000000 in
set_option maxRecDepth 100000 in
theorem ckAssign_any (h : StH) (b e : StL) (s : Sl) (hi : I64 i) (hp : p.At w aoD aoT) (hin : StIn w h b e s) (hkw : KwLaid w) (hh : Holds w (ckF bc p aoD aoT capD capT i aoA lenA capA bs bt)) :
    Calls Tryz.prog 152 #[.pointer (some ⟨bc, 0, none⟩), stV h b e s] w fun e' w' => e' = .returned (.int .i64 (asgE p i h)) ∧ Below w.heap.size w w' := by
  have HH := Lib.hid (show Sit w w _ from ⟨Below.refl _ _, hh⟩)
  obtain ⟨aoi, capi, aox, capx, aob, capb, aoe, cape⟩ := s
  have hil := hin.1.2.2.2.2.1
  have hxk := hin.1.2.2.2.2.2.1
  unfold maxLen at hil
  have HE : Hid (asgE p i h = if decide ((h.idx.len : Int) = 0) then firstE [kindE (mean p i h.nm) [1, 2], exE p i h.xop h.xn h.xnm h.xkids] else firstE [kindE (mean p i h.nm) [3], ex1 p i h.idx, exE p i h.xop h.xn h.xnm h.xkids]) := Lib.hid rfl
  generalize asgE p i h = res at *
  unfold stV
  dsimp only
  go_enter Tryz.func152, Tryz.ntmps152
  go_upto_region 1 with fail
  generalize hW : World.alloc w _ = W
  generalize Value.agg #[_, _, _, _, _, _, _, _, _, _, _] = a0
  have HX : Hid (Sit w W (stF w.heap.size h b e ⟨aoi, capi, aox, capx, aob, capb, aoe, cape⟩ (ckF bc p aoD aoT capD capT i aoA lenA capA bs bt))) := Lib.hid (by rw [← hW]; exact HH.out.box11 rfl _ _ _ _ _ _ _ _ _ _ _ _)
  clear hW HH
  have HP := Lib.hid (hp.same HX.out.1)
  have HKW := Lib.hid (hkw.same HX.out.1)
  have HAX := Lib.hid (hin.2.2.1.same HX.out.1)
  have HAI := Lib.hid (hin.2.1.same HX.out.1)
  have HK : Hid (∀ w', Below W.heap.size W w' → Holds w' (ckF bc p aoD aoT capD capT i aoA lenA capA bs bt)) := Lib.hid (fun w' hb => (HX.out.next hb).2.2.2.2.2.2.2.2.2.2.2.2)
  clear hp hkw hh hin
  have L0 : ∀ w', Below W.heap.size W w' → w'.cell? ⟨w.heap.size, 0, none⟩ = some (.int .i64 h.op) := fun w' hb => (HX.out.next hb).2.1.2
  have L2 : ∀ w', Below W.heap.size W w' → w'.cell? ⟨w.heap.size, 2, none⟩ = some (.string h.nm) := fun w' hb => (HX.out.next hb).2.2.2.1.2
  have L3 : ∀ w', Below W.heap.size W w' → w'.cell? ⟨w.heap.size, 3, none⟩ = some (.string h.arg) := fun w' hb => (HX.out.next hb).2.2.2.2.1.2
  have L4 : ∀ w', Below W.heap.size W w' → w'.cell? ⟨w.heap.size, 4, none⟩ = some (.slice aoi h.idx.len capi) := fun w' hb => (HX.out.next hb).2.2.2.2.2.1.2
  have L5 : ∀ w', Below W.heap.size W w' → w'.cell? ⟨w.heap.size, 5, none⟩ = some (.int .i64 h.xop) := fun w' hb => (HX.out.next hb).2.2.2.2.2.2.1.2
  have L6 : ∀ w', Below W.heap.size W w' → w'.cell? ⟨w.heap.size, 6, none⟩ = some (.int .i64 h.xn) := fun w' hb => (HX.out.next hb).2.2.2.2.2.2.2.1.2
  have L7 : ∀ w', Below W.heap.size W w' → w'.cell? ⟨w.heap.size, 7, none⟩ = some (.string h.xnm) := fun w' hb => (HX.out.next hb).2.2.2.2.2.2.2.2.1.2
  have L8 : ∀ w', Below W.heap.size W w' → w'.cell? ⟨w.heap.size, 8, none⟩ = some (.slice aox h.xkids.len capx) := fun w' hb => (HX.out.next hb).2.2.2.2.2.2.2.2.2.1.2
  have l4 := L4 W (Below.refl _ _)
  cases hix : h.idx with
  | nil =>
    have h0 : h.idx.len = 0 := by rw [hix]; rfl
    have HF := Lib.hid (HE.out.trans (if_pos (by rw [h0]; rfl)))
    rw [h0] at l4
    clear HE hix L4 h0
    go_upto_region 2 with fail
    refine wp_region_wild (fun w' => Below W.heap.size W w') (fun w w' => Below w.heap.size w w') [9, 10, 11, 12, 13, 14, 15, 16, 17, 18, 19, 4] (by kernel_rfl) (by kernel_rfl) (fun _ => Below.refl _ _) (by rfl) (below_drewN (Below.refl _ _) 1) ?_
    
    apply ObE.step
    case hobl =>
      intro β A w' hβ hC hO hD
      have e0 := hO 0 (by rfl)
      have e3 := hO 3 (by rfl)
      simp [Act.eval] at e0 e3
      simp [depsL, IsV, slotv, Act.eval, Region.binds] at hD
      simp [go_sem, gd, Oper.wp, e0, e3, hD]
      exact WPost.mk (Below.refl _ _) hC (IsV.mk _ _)
    apply ObE.step
    case hobl =>
      intro β A w' hβ hC hO hD
      have e0 := hO 0 (by rfl)
      have e3 := hO 3 (by rfl)
      simp [Act.eval] at e0 e3
      simp [depsL, IsV, slotv, Act.eval, Region.binds] at hD
      simp [go_sem, gd, Oper.wp, e0, e3, hD]
      exact WPost.mk (Below.refl _ _) hC (IsV.mk _ _)
    apply ObE.step
    case hobl =>
      intro β A w' hβ hC hO hD
      have e0 := hO 0 (by rfl)
      have e3 := hO 3 (by rfl)
      simp [Act.eval] at e0 e3
      simp [depsL, IsV, slotv, Act.eval, Region.binds] at hD
      simp [go_sem, gd, Oper.wp, e0, e3, hD, L2, hC]
      exact WPost.mk (Below.refl _ _) hC (IsV.mk _ _)
    refine ObE.some (fun v w' => ∃ b, v = .slice (some ⟨b, 0, none⟩) 2 2 ∧ InAt w' w'.heap.size [1, 2] (some ⟨b, 0, none⟩) 0) ?_ ?_ ?_
    · rintro v w w' hle ⟨b, rfl, hin⟩
      exact ⟨b, rfl, hin.same hle⟩
    · intro β A w' hβ hC hO hD
      simp [go_sem, gd, Oper.wp]
      exact WPost.mk (d := _) (v := .slice (some ⟨_, 0, none⟩) 2 2) (alloc_below _ _) (hC.trans ((alloc_below _ _).mono hC.size)) ⟨_, rfl, inAt_two _ 1 2 _⟩
    apply ObE.step
    case hobl =>
      intro β A w' hβ hC hO hD
      simp [depsL, IsV, slotv, Act.eval, Region.binds] at hD
      obtain ⟨d9, d11, b12, d12, hin12⟩ := hD
      simp [go_sem, gd, Oper.wp, d9, d11, d12]
      refine (ckKind_any p w' aoD aoT capD capT _ aoA _ capA bs bt bc h.nm [1, 2] _ 2 hi (by decide) (HP.out.same hC) hin12 (HK.out _ hC)).mono ?_
      rintro e' w2 ⟨rfl, hb⟩
      exact WPost.mk hb (hC.trans (hb.mono hC.size)) (IsV.mk _ _)
    apply ObE.step
    case hobl =>
      intro β A w' hβ hC hO hD
      have e0 := hO 0 (by rfl)
      have e3 := hO 3 (by rfl)
      simp [Act.eval] at e0 e3
      simp [depsL, IsV, slotv, Act.eval, Region.binds] at hD
      simp [go_sem, gd, Oper.wp, e0, e3, hD]
      exact WPost.mk (Below.refl _ _) hC (IsV.mk _ _)
    apply ObE.step
    case hobl =>
      intro β A w' hβ hC hO hD
      have e0 := hO 0 (by rfl)
      have e3 := hO 3 (by rfl)
      simp [Act.eval] at e0 e3
      simp [depsL, IsV, slotv, Act.eval, Region.binds] at hD
      simp [go_sem, gd, Oper.wp, e0, e3, hD]
      exact WPost.mk (Below.refl _ _) hC (IsV.mk _ _)
    apply ObE.step
    case hobl =>
      intro β A w' hβ hC hO hD
      have e0 := hO 0 (by rfl)
      have e3 := hO 3 (by rfl)
      simp [Act.eval] at e0 e3
      simp [depsL, IsV, slotv, Act.eval, Region.binds] at hD
      simp [go_sem, gd, Oper.wp, e0, e3, hD, L5, L6, L7, L8, hC]
      exact WPost.mk (Below.refl _ _) hC (IsV.mk _ _)
    apply ObE.step
    case hobl =>
      intro β A w' hβ hC hO hD
      simp [depsL, IsV, slotv, Act.eval, Region.binds] at hD
      obtain ⟨d14, d16, -⟩ := hD
      simp [go_sem, gd, Oper.wp, d14, d16]
      refine (ckExpr_any p w' aoD aoT capD capT _ aoA _ capA bs bt bc h.xop h.xn h.xnm h.xkids aox capx hi (HP.out.same hC) hxk (HAX.out.same hC) (HKW.out.same hC) (HK.out _ hC)).mono ?_
      rintro e' w2 ⟨rfl, hb⟩
      exact WPost.mk hb (hC.trans (hb.mono hC.size)) (IsV.mk _ _)
    refine ObE.some (fun v w' => ∃ b, v = .slice (some ⟨b, 0, none⟩) 2 2 ∧ InAt w' w'.heap.size [kindE (mean p i h.nm) [1, 2], exE p i h.xop h.xn h.xnm h.xkids] (some ⟨b, 0, none⟩) 0) ?_ ?_ ?_
    · rintro v w w' hle ⟨b, rfl, hin⟩
      exact ⟨b, rfl, hin.same hle⟩
    · intro β A w' hβ hC hO hD
      simp [depsL, IsV, slotv, Act.eval, Region.binds] at hD
      simp [go_sem, gd, Oper.wp, hD]
      exact WPost.mk (d := _) (v := .slice (some ⟨_, 0, none⟩) 2 2) (alloc_below _ _) (hC.trans ((alloc_below _ _).mono hC.size)) ⟨_, rfl, inAt_two _ _ _ _⟩
    apply ObE.step
    case hobl =>
      intro β A w' hβ hC hO hD
      simp [depsL, IsV, slotv, Act.eval, Region.binds] at hD
      obtain ⟨⟨b18, d18, hin18⟩, -⟩ := hD
      simp [go_sem, gd, Oper.wp, d18]
      refine (ckFirst_any [kindE (mean p i h.nm) [1, 2], exE p i h.xop h.xn h.xnm h.xkids] w' _ _ (by simp [maxLen]) hin18).mono ?_
      rintro e' w2 ⟨rfl, rfl⟩
      exact WPost.mk (Below.refl _ _) hC (IsV.mk _ _)
    apply ObE.step
    case hobl =>
      intro β A w' hβ hC hO hD
      have e0 := hO 0 (by rfl)
      have e3 := hO 3 (by rfl)
      simp [Act.eval] at e0 e3
      simp [depsL, IsV, slotv, Act.eval, Region.binds] at hD
      simp [go_sem, gd, Oper.wp, e0, e3, hD]
      exact WPost.mk (Below.refl _ _) hC (IsV.mk _ _)
    intro wz hCz
    intro v0 h0 v1 h1 v2 h2 v3 h3 v4 h4 v5 h5 v6 h6 v7 h7 v8 h8 v9 h9 v10 h10 v11 h11
    have h11' : v11 = _ := h11
    subst h11'
    clear h0 h1 h2 h3 h4 h5 h6 h7 h8 h9 h10 h11
    refine AllVals.nil ?_
    go_wp2_with fail
    go_ret
    exact ⟨ret_int HF.out.symm, (HX.out.next hCz).1⟩
  | cons op' n' nm' kids' rest =>
    have hrow := HAI.out
    rw [hix] at hrow
    have HF : Hid (res = firstE [kindE (mean p i h.nm) [3], exE p i op' n' nm' kids', exE p i h.xop h.xn h.xnm h.xkids]) := Lib.hid (HE.out.trans ((if_neg (by rw [hix, decide_eq_true_iff]; simp only [ExL.len]; omega)).trans (by rw [hix]; rfl)))
    have hpos : 0 < h.idx.len := by rw [hix]; simp [ExL.len]
    have hpos' : (0 : Int) < h.idx.len := by omega
    have hne0 : ((h.idx.len : Int) == 0) = false := by rw [beq_eq_false_iff_ne]; omega
    obtain ⟨⟨b', off', ao', cap', rfl, hbB, x0, x1, x2, x3, hok', hkids⟩, -⟩ := hrow
    simp only [Nat.zero_mul, Nat.add_zero] at x0 x1 x2 x3
    have M0 : ∀ w', Below W.heap.size W w' → w'.cell? ⟨b', off', none⟩ = some (.int .i64 op') := fun w' hb => (hb.cell (p := ⟨b', off', none⟩) hbB).trans x0
    have M1 : ∀ w', Below W.heap.size W w' → w'.cell? ⟨b', off' + 1, none⟩ = some (.int .i64 n') := fun w' hb => (hb.cell (p := ⟨b', off' + 1, none⟩) hbB).trans x1
    have M2 : ∀ w', Below W.heap.size W w' → w'.cell? ⟨b', off' + 2, none⟩ = some (.string nm') := fun w' hb => (hb.cell (p := ⟨b', off' + 2, none⟩) hbB).trans x2
    have M3 : ∀ w', Below W.heap.size W w' → w'.cell? ⟨b', off' + 3, none⟩ = some (.slice ao' kids'.len cap') := fun w' hb => (hb.cell (p := ⟨b', off' + 3, none⟩) hbB).trans x3
    have HAK := Lib.hid hkids
    clear HE hix x0 x1 x2 x3 hkids
    go_upto_region 3 with fail
    refine wp_region_wild (fun w' => Below W.heap.size W w') (fun w w' => Below w.heap.size w w') [20, 21, 22, 23, 24, 25, 26, 27, 28, 29, 30, 31, 32, 33, 34, 35, 36, 4] (by kernel_rfl) (by kernel_rfl) (fun _ => Below.refl _ _) (by rfl) (below_drewN (Below.refl _ _) 1) ?_
    
    apply ObE.step
    case hobl =>
      intro β A w' hβ hC hO hD
      have e0 := hO 0 (by rfl)
      have e3 := hO 3 (by rfl)
      simp [Act.eval] at e0 e3
      simp [depsL, IsV, slotv, Act.eval, Region.binds] at hD
      simp [go_sem, gd, Oper.wp, e0, e3, hD]
      exact WPost.mk (Below.refl _ _) hC (IsV.mk _ _)
    apply ObE.step
    case hobl =>
      intro β A w' hβ hC hO hD
      have e0 := hO 0 (by rfl)
      have e3 := hO 3 (by rfl)
      simp [Act.eval] at e0 e3
      simp [depsL, IsV, slotv, Act.eval, Region.binds] at hD
      simp [go_sem, gd, Oper.wp, e0, e3, hD]
      exact WPost.mk (Below.refl _ _) hC (IsV.mk _ _)
    apply ObE.step
    case hobl =>
      intro β A w' hβ hC hO hD
      have e0 := hO 0 (by rfl)
      have e3 := hO 3 (by rfl)
      simp [Act.eval] at e0 e3
      simp [depsL, IsV, slotv, Act.eval, Region.binds] at hD
      simp [go_sem, gd, Oper.wp, e0, e3, hD, L2, hC]
      exact WPost.mk (Below.refl _ _) hC (IsV.mk _ _)
    refine ObE.some (fun v w' => ∃ b, v = .slice (some ⟨b, 0, none⟩) 1 1 ∧ InAt w' w'.heap.size [3] (some ⟨b, 0, none⟩) 0) ?_ ?_ ?_
    · rintro v w w' hle ⟨b, rfl, hin⟩
      exact ⟨b, rfl, hin.same hle⟩
    · intro β A w' hβ hC hO hD
      simp [go_sem, gd, Oper.wp]
      exact WPost.mk (d := _) (v := .slice (some ⟨_, 0, none⟩) 1 1) (alloc_below _ _) (hC.trans ((alloc_below _ _).mono hC.size)) ⟨_, rfl, inAt_one _ 3 _⟩
    apply ObE.step
    case hobl =>
      intro β A w' hβ hC hO hD
      simp [depsL, IsV, slotv, Act.eval, Region.binds] at hD
      obtain ⟨d20, d22, b23, d23, hin23⟩ := hD
      simp [go_sem, gd, Oper.wp, d20, d22, d23]
      refine (ckKind_any p w' aoD aoT capD capT _ aoA _ capA bs bt bc h.nm [3] _ 1 hi (by decide) (HP.out.same hC) hin23 (HK.out _ hC)).mono ?_
      rintro e' w2 ⟨rfl, hb⟩
      exact WPost.mk hb (hC.trans (hb.mono hC.size)) (IsV.mk _ _)
    apply ObE.step
    case hobl =>
      intro β A w' hβ hC hO hD
      have e0 := hO 0 (by rfl)
      have e3 := hO 3 (by rfl)
      simp [Act.eval] at e0 e3
      simp [depsL, IsV, slotv, Act.eval, Region.binds] at hD
      simp [go_sem, gd, Oper.wp, e0, e3, hD]
      exact WPost.mk (Below.refl _ _) hC (IsV.mk _ _)
    apply ObE.step
    case hobl =>
      intro β A w' hβ hC hO hD
      have e0 := hO 0 (by rfl)
      have e3 := hO 3 (by rfl)
      simp [Act.eval] at e0 e3
      simp [depsL, IsV, slotv, Act.eval, Region.binds] at hD
      simp [go_sem, gd, Oper.wp, e0, e3, hD]
      exact WPost.mk (Below.refl _ _) hC (IsV.mk _ _)
    apply ObE.step
    case hobl =>
      intro β A w' hβ hC hO hD
      have e0 := hO 0 (by rfl)
      have e3 := hO 3 (by rfl)
      simp [Act.eval] at e0 e3
      simp [depsL, IsV, slotv, Act.eval, Region.binds] at hD
      simp [go_sem, gd, Oper.wp, e0, e3, hD, L4, hC]
      exact WPost.mk (Below.refl _ _) hC (IsV.mk _ _)
    apply ObE.step
    case hobl =>
      intro β A w' hβ hC hO hD
      have e0 := hO 0 (by rfl)
      have e3 := hO 3 (by rfl)
      simp [Act.eval] at e0 e3
      simp [depsL, IsV, slotv, Act.eval, Region.binds] at hD
      simp [go_sem, gd, Oper.wp, e0, e3, hD, hpos, hpos']
      exact WPost.mk (Below.refl _ _) hC (IsV.mk _ _)
    apply ObE.step
    case hobl =>
      intro β A w' hβ hC hO hD
      have e0 := hO 0 (by rfl)
      have e3 := hO 3 (by rfl)
      simp [Act.eval] at e0 e3
      simp [depsL, IsV, slotv, Act.eval, Region.binds] at hD
      simp [go_sem, gd, Oper.wp, e0, e3, hD, M0, M1, M2, M3, hC]
      exact WPost.mk (Below.refl _ _) hC (IsV.mk _ _)
    apply ObE.step
    case hobl =>
      intro β A w' hβ hC hO hD
      simp [depsL, IsV, slotv, Act.eval, Region.binds] at hD
      obtain ⟨d25, d29, -⟩ := hD
      simp [go_sem, gd, Oper.wp, d25, d29]
      refine (ckExpr_any p w' aoD aoT capD capT _ aoA _ capA bs bt bc op' n' nm' kids' ao' cap' hi (HP.out.same hC) hok' (HAK.out.same hC) (HKW.out.same hC) (HK.out _ hC)).mono ?_
      rintro e' w2 ⟨rfl, hb⟩
      exact WPost.mk hb (hC.trans (hb.mono hC.size)) (IsV.mk _ _)
    apply ObE.step
    case hobl =>
      intro β A w' hβ hC hO hD
      have e0 := hO 0 (by rfl)
      have e3 := hO 3 (by rfl)
      simp [Act.eval] at e0 e3
      simp [depsL, IsV, slotv, Act.eval, Region.binds] at hD
      simp [go_sem, gd, Oper.wp, e0, e3, hD]
      exact WPost.mk (Below.refl _ _) hC (IsV.mk _ _)
    apply ObE.step
    case hobl =>
      intro β A w' hβ hC hO hD
      have e0 := hO 0 (by rfl)
      have e3 := hO 3 (by rfl)
      simp [Act.eval] at e0 e3
      simp [depsL, IsV, slotv, Act.eval, Region.binds] at hD
      simp [go_sem, gd, Oper.wp, e0, e3, hD]
      exact WPost.mk (Below.refl _ _) hC (IsV.mk _ _)
    apply ObE.step
    case hobl =>
      intro β A w' hβ hC hO hD
      have e0 := hO 0 (by rfl)
      have e3 := hO 3 (by rfl)
      simp [Act.eval] at e0 e3
      simp [depsL, IsV, slotv, Act.eval, Region.binds] at hD
      simp [go_sem, gd, Oper.wp, e0, e3, hD, L5, L6, L7, L8, hC]
      exact WPost.mk (Below.refl _ _) hC (IsV.mk _ _)
    apply ObE.step
    case hobl =>
      intro β A w' hβ hC hO hD
      simp [depsL, IsV, slotv, Act.eval, Region.binds] at hD
      obtain ⟨d31, d33, -⟩ := hD
      simp [go_sem, gd, Oper.wp, d31, d33]
      refine (ckExpr_any p w' aoD aoT capD capT _ aoA _ capA bs bt bc h.xop h.xn h.xnm h.xkids aox capx hi (HP.out.same hC) hxk (HAX.out.same hC) (HKW.out.same hC) (HK.out _ hC)).mono ?_
      rintro e' w2 ⟨rfl, hb⟩
      exact WPost.mk hb (hC.trans (hb.mono hC.size)) (IsV.mk _ _)
    refine ObE.some (fun v w' => ∃ b, v = .slice (some ⟨b, 0, none⟩) 3 3 ∧ InAt w' w'.heap.size [kindE (mean p i h.nm) [3], exE p i op' n' nm' kids', exE p i h.xop h.xn h.xnm h.xkids] (some ⟨b, 0, none⟩) 0) ?_ ?_ ?_
    · rintro v w w' hle ⟨b, rfl, hin⟩
      exact ⟨b, rfl, hin.same hle⟩
    · intro β A w' hβ hC hO hD
      simp [depsL, IsV, slotv, Act.eval, Region.binds] at hD
      simp [go_sem, gd, Oper.wp, hD]
      exact WPost.mk (d := _) (v := .slice (some ⟨_, 0, none⟩) 3 3) (alloc_below _ _) (hC.trans ((alloc_below _ _).mono hC.size)) ⟨_, rfl, inAt_three _ _ _ _ _⟩
    apply ObE.step
    case hobl =>
      intro β A w' hβ hC hO hD
      simp [depsL, IsV, slotv, Act.eval, Region.binds] at hD
      obtain ⟨⟨b35, d35, hin35⟩, -⟩ := hD
      simp [go_sem, gd, Oper.wp, d35]
      refine (ckFirst_any [kindE (mean p i h.nm) [3], exE p i op' n' nm' kids', exE p i h.xop h.xn h.xnm h.xkids] w' _ _ (by simp [maxLen]) hin35).mono ?_
      rintro e' w2 ⟨rfl, rfl⟩
      exact WPost.mk (Below.refl _ _) hC (IsV.mk _ _)
    apply ObE.step
    case hobl =>
      intro β A w' hβ hC hO hD
      have e0 := hO 0 (by rfl)
      have e3 := hO 3 (by rfl)
      simp [Act.eval] at e0 e3
      simp [depsL, IsV, slotv, Act.eval, Region.binds] at hD
      simp [go_sem, gd, Oper.wp, e0, e3, hD]
      exact WPost.mk (Below.refl _ _) hC (IsV.mk _ _)
    intro wz hCz
    intro v0 h0 v1 h1 v2 h2 v3 h3 v4 h4 v5 h5 v6 h6 v7 h7 v8 h8 v9 h9 v10 h10 v11 h11 v12 h12 v13 h13 v14 h14 v15 h15 v16 h16 v17 h17
    have h17' : v17 = _ := h17
    subst h17'
    clear h0 h1 h2 h3 h4 h5 h6 h7 h8 h9 h10 h11 h12 h13 h14 h15 h16 h17
    refine AllVals.nil ?_
    go_wp2_with fail
    go_ret
    exact ⟨ret_int HF.out.symm, (HX.out.next hCz).1⟩
end
end Go.Proofs.YtommnhglgedflaaGreatDoor
end
section
namespace Go.Proofs.YtommnhglgedflaaGreatDoor
open Go.RowKit
open Md
/-- A set with one more. -/
def setP (f : List UInt8 → Bool) (l : List UInt8) : List UInt8 → Bool := fun x => if x = l then true else f x
/-- The error of a name that is in the set already. -/
def onceE (b : Bool) : Int := if b then 8 else 0
/-- What once leaves. -/
def OncePost (nm : ByteArray) (w : World) (bs n : Nat) (f : List UInt8 → Bool) (e : Ending) (w' : World) : Prop :=
  e = .returned (.int .i64 (onceE (f nm.toList))) ∧ MapB w' bs (n + 1) (setP f nm.toList) ∧ w.grownBy w' (some bs)
set_option maxRecDepth 100000 in
theorem once_any (nm : ByteArray) (w : World) (bs n : Nat) (f : List UInt8 → Bool) (hn : n < maxLen) (hs : nm.size ≤ maxLen) (hm : MapB w bs n f) :
    Calls Tryz.prog 161 #[.map (some bs), .string nm] w (OncePost nm w bs n f) := by
  have HM := Lib.hid hm
  have hlk := hm.look nm hs
  clear hm
  cases hf : f nm.toList
  · obtain ⟨w4, hup, hm4, hg4⟩ := HM.out.put hn nm hs true
    have HM4 := Lib.hid hm4
    have HG := Lib.hid hg4
    clear hm4 hg4 hn hs
    go_enter Tryz.func161, Tryz.ntmps161
    go_wp2_with fail
    go_ret
    exact ⟨by rw [hf]; rfl, HM4.out, HG.out⟩
  · have HM4 : Hid (MapB w bs (n + 1) (setP f nm.toList)) := Lib.hid (by
      obtain ⟨D, h1, h2⟩ := HM.out
      refine ⟨D, h1.mono (by omega), fun l => ?_⟩
      rw [h2]; unfold setP; by_cases h : l = nm.toList
      · rw [if_pos h, h, hf]
      · rw [if_neg h])
    clear hn hs
    go_enter Tryz.func161, Tryz.ntmps161
    go_wp2_with fail
    go_ret
    exact ⟨by rw [hf]; rfl, HM4.out, ⟨rfl, rfl, rfl, Nat.le_refl _, fun _ _ _ => rfl⟩⟩
end Go.Proofs.YtommnhglgedflaaGreatDoor
end
