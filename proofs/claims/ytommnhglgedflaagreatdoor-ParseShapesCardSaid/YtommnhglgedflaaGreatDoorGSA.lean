/-
  Contracts of the reference's Keywords, Signs, IsKeyword, IsName, Number, signAt.
  Contracts of the reference's Operands and ShapedExpr.
-/
import Derived.Test.YtommnhglgedflaaGreatDoorGNA
import Derived.Test.YtommnhglgedflaaGreatDoorGMC
import Derived.BigQuiet
import Derived.Deep.DeepCutAuto
section
namespace Go.Proofs.YtommnhglgedflaaGreatDoor
open Go.RowKit

def kwCellsL : List Value := Tk.kws.map fun l => Value.string ⟨l.toArray⟩
theorem kwCellsL_at (k : Nat) (h : k < 22) : kwCellsL[k]? = some (.string (kwAt k)) := by
  have hl : Tk.kws.length = 22 := rfl
  unfold kwCellsL kwAt
  rw [List.getElem?_map, List.getElem?_eq_getElem (by omega), kwL_eq k (by omega)]
  rfl

set_option maxRecDepth 100000 in
theorem Keywords_any (w : World) :
    Calls Tryz.prog 110 #[] w fun e w' => e = .returned (.slice (some ⟨w.heap.size, 0, none⟩) 22 22) ∧ w.alloc (.cells kwCellsL.toArray 9) = w' := by
  go_enter Tryz.func110, Tryz.ntmps110
  go_wp2
  go_ret
  exact ⟨rfl, rfl⟩
set_option maxHeartbeats 400000 in
theorem RefIsKeyword_any (s : ByteArray) (w : World) :
    Calls Tryz.prog 71 #[.string s] w fun e w' => e = .returned (.bool (Tk.isKw s.data.toList)) ∧ Below w.heap.size w w' := by
  rw [← Lib.toList_data]
  go_enter Tryz.func71, Tryz.ntmps71
  go_wp2_with fail
  refine (Keywords_any _).mono ?_
  rintro e w1 ⟨rfl, hw⟩
  have hcell : ∀ k, k < 22 → w1.cell? ⟨w.heap.size, k, none⟩ = some (.string (kwAt k)) := fun k hk => by
    rw [← hw, laid_cell, kwCellsL_at k hk]
  have HB : Hid (Below w.heap.size w w1) := Lib.hid (by rw [← hw]; exact (Below.refl _ _).alloc (Nat.le_refl _) _)
  have HC := Lib.hid hcell
  clear hw hcell
  go_wp2
  go_loop [4] (fun i => ∃ k : Nat, k ≤ 22 ∧ i = .int .i64 k ∧ NoKw s.toList k) (fun i => 22 - (intOf i).toNat)
  case atStart => exact ⟨0, Nat.zero_le _, rfl, fun j hj => absurd hj (by omega)⟩
  case round =>
    obtain ⟨k, hk, rfl, hno⟩ := hrel
    by_cases hlt : k < 22
    · have hix := HC.out k hlt
      have hat := kwAt_toList k
      by_cases he : (s.toList == kwL k) = true
      · have he2 : (kwL k == s.toList) = true := by rw [beq_iff_eq] at he ⊢; exact he.symm
        have HY := Lib.hid (kw_yes k hlt _ he)
        clear he
        go_wp2
        go_ret
        exact ⟨ret_bool HY.out.symm, HB.out⟩
      · have he' : (s.toList == kwL k) = false := by simpa using he
        have he2 : (kwL k == s.toList) = false := by rw [beq_eq_false_iff_ne] at he' ⊢; exact he'.symm
        have hst := hno.step he'
        clear he he'
        go_wp2
        go_round
        case rel => exact ⟨k + 1, by omega, by go_num, hst⟩
        case measure => simp [intOf]; omega
    · obtain rfl : k = 22 := by omega
      go_wp2
      go_ret
      exact ⟨ret_bool (kw_no _ hno).symm, HB.out⟩

theorem inner_b (c : UInt8) (b : Bool) (h : Tk.isI c = b) : Tk.innI (c.toNat : Int) = b := h

def Alli (s : ByteArray) (k : Nat) : Prop := ∀ j (h : j < s.size), j < k → Tk.isI s[j] = true
theorem alli_yes (s : ByteArray) (h : Alli s s.size) : s.data.toList.all Tk.isI = true := by
  rw [List.all_eq_true]
  intro c hc
  obtain ⟨j, hj, rfl⟩ := List.getElem_of_mem hc
  have hj' : j < s.size := by rw [Lib.size_eq]; exact hj
  exact h j hj' hj'
theorem alli_no (s : ByteArray) (k : Nat) (hk : k < s.size) (h : Tk.isI s[k] = false) : s.data.toList.all Tk.isI = false := by
  rw [List.all_eq_false]
  exact ⟨s[k], List.getElem_mem (by rw [← Lib.size_eq]; exact hk), by rw [h]; decide⟩
theorem Alli.step {s : ByteArray} {k : Nat} (h : Alli s k) (hk : k < s.size) (hp : Tk.isI s[k] = true) : Alli s (k + 1) := by
  intro j hj hjk
  by_cases e : j = k
  · subst e; exact hp
  · exact h j hj (by omega)

set_option maxHeartbeats 2000000 in
theorem RefIsName_any (s : ByteArray) (w : World) (hm : s.size ≤ maxLen) :
    Calls Tryz.prog 50 #[.string s] w fun e w' => e = .returned (.bool (Tk.isNm s.data.toList)) ∧ Below w.heap.size w w' := by
  have HN := Lib.hid (isNm_eq s.data.toList)
  rw [← Lib.size_eq] at HN
  unfold maxLen at hm
  by_cases h1 : s.size < 1
  · have HR : Hid (Tk.isNm s.data.toList = false) := by
      apply Lib.hid; rw [HN.out, show decide (1 ≤ s.size) = false from decide_eq_false (by omega)]; rfl
    clear HN
    go_enter Tryz.func50, Tryz.ntmps50
    go_wp2
    go_ret
    exact ⟨ret_bool HR.out.symm, Below.refl _ _⟩
  · by_cases h2 : 12 < s.size
    · have HR : Hid (Tk.isNm s.data.toList = false) := by
        apply Lib.hid; rw [HN.out, show decide (s.size ≤ 12) = false from decide_eq_false (by omega)]; simp
      clear HN
      go_enter Tryz.func50, Tryz.ntmps50
      go_wp2
      go_ret
      exact ⟨ret_bool HR.out.symm, Below.refl _ _⟩
    · have h0 : 0 < s.size := by omega
      have hhd : s.data.toList.head?.any Tk.isL = Tk.isL s[0] := by rw [Tk.data_cons s h0]; rfl
      cases hL : Tk.isL s[0]
      · have HR : Hid (Tk.isNm s.data.toList = false) := by
          apply Lib.hid; rw [HN.out]; unfold nmB; rw [hhd, hL]; simp
        have hL' : Tk.lttI (s[0].toNat : Int) = false := hL
        clear HN hhd
        go_enter Tryz.func50, Tryz.ntmps50
        go_wp2_with (go_at_call 69; refine (Letter_any _ _).mono ?_; rintro e w' ⟨rfl, rfl⟩)
        go_ret
        exact ⟨ret_bool HR.out.symm, Below.refl _ _⟩
      · have hL' : Tk.lttI (s[0].toNat : Int) = true := hL
        cases hK : Tk.isKw s.data.toList
        · have HR : Hid (Tk.isNm s.data.toList = s.data.toList.all Tk.isI) := by
            apply Lib.hid; rw [HN.out]; unfold nmB; rw [hhd, hL, hK, show decide (s.size ≤ 12) = true from by simp; omega, show decide (1 ≤ s.size) = true from by simp; omega]; rfl
          clear HN hhd hL
          go_enter Tryz.func50, Tryz.ntmps50
          go_wp2_with (first | (go_at_call 69; refine (Letter_any _ _).mono ?_; rintro e w' ⟨rfl, rfl⟩) | (go_at_call 71; refine (RefIsKeyword_any _ _).mono ?_; rintro e w1 ⟨rfl, hb1⟩))
          have HB := Lib.hid hb1
          clear hb1
          go_loop [3] (fun i => ∃ k : Nat, k ≤ s.size ∧ i = .int .i64 k ∧ Alli s k) (fun i => s.size - (intOf i).toNat)
          case atStart => exact ⟨0, Nat.zero_le _, rfl, fun j hj h => absurd h (by omega)⟩
          case round =>
            obtain ⟨k, hk, rfl, hok⟩ := hrel
            by_cases hlt : k < s.size
            · cases hi : Tk.isI s[k]
              · have hi' : Tk.innI (s[k].toNat : Int) = false := hi
                have HF := Lib.hid (alli_no s k hlt hi)
                clear hi
                go_wp2_with (go_at_call 70; refine (inner_any _ _).mono ?_; rintro e w' ⟨rfl, rfl⟩)
                go_ret
                exact ⟨ret_bool (HR.out.trans HF.out).symm, HB.out⟩
              · have hi' : Tk.innI (s[k].toNat : Int) = true := hi
                have hst := hok.step hlt hi
                clear hi
                go_wp2_with (go_at_call 70; refine (inner_any _ _).mono ?_; rintro e w' ⟨rfl, rfl⟩)
                go_round
                case rel => exact ⟨k + 1, by omega, by go_num, hst⟩
                case measure => simp [intOf]; omega
            · obtain rfl : k = s.size := by omega
              have HT := Lib.hid (alli_yes s hok)
              go_wp2
              go_ret
              exact ⟨ret_bool (HR.out.trans HT.out).symm, HB.out⟩
        · have HR : Hid (Tk.isNm s.data.toList = false) := by
            apply Lib.hid; rw [HN.out, hK]; simp
          clear HN hhd hL
          go_enter Tryz.func50, Tryz.ntmps50
          go_wp2_with (first | (go_at_call 69; refine (Letter_any _ _).mono ?_; rintro e w' ⟨rfl, rfl⟩) | (go_at_call 71; refine (RefIsKeyword_any _ _).mono ?_; rintro e w1 ⟨rfl, hb1⟩))
          go_ret
          exact ⟨ret_bool HR.out.symm, hb1⟩

end Go.Proofs.YtommnhglgedflaaGreatDoor
end
section
namespace Go.Proofs.YtommnhglgedflaaGreatDoor
open Go.RowKit
open Md

theorem Operands_any (op : Int) (w : World) :
    Calls Tryz.prog 54 #[.int .i64 op] w fun e w' => e = .returned (.int .i64 (opsOf op)) ∧ w = w' := by
  unfold opsOf
  go_enter Tryz.func54, Tryz.ntmps54
  go_wp2
  all_goals go_ret
  all_goals refine ⟨ret_int ?_, rfl⟩
  all_goals first | (simp [*]; done) | ((repeat' split) <;> simp_all <;> omega)

/-- What the reference's ShapedExpr answers at an expression. -/
def RefSays (op n : Int) (nm : ByteArray) (kids : ExL) : Prop :=
  ∀ (w : World) (ao : Option Addr) (cap : Nat), ExOk op n nm kids → kids.At w w.heap.size ao 0 →
    Calls Tryz.prog 25 #[.agg #[.int .i64 op, .int .i64 n, .string nm, .slice ao kids.len cap]] w fun e w' => e = .returned (.bool (shpE op n nm kids)) ∧ Below w.heap.size w w'

theorem isNm_nil : Tk.isNm [] = false := rfl
theorem toList_empty {nm : ByteArray} {b : Bool} (h : nm.toList.isEmpty = b) : nm.data.toList.isEmpty = b := by rw [← Lib.toList_data]; exact h

theorem shpE_eq (op n : Int) (nm : ByteArray) (kids : ExL) : shpE op n nm kids = (((decide (opsOf op = (kids.len : Int)) && (decide (0 ≤ n) && (decide (op = 1) || decide (n = 0)))) && (if ((op == 2) || (op == 3)) then Tk.isNm nm.data.toList else decide (nm.toList = []))) && shpL kids) := by
  have h1 : ((kids.len : Int) == opsOf op) = decide (opsOf op = (kids.len : Int)) := by
    rw [Bool.eq_iff_iff]; simp; exact eq_comm
  have h2 : nmOr nm (named op) = if ((op == 2) || (op == 3)) then Tk.isNm nm.data.toList else decide (nm.toList = []) := by
    unfold nmOr named; split
    · rfl
    · rw [Lib.toList_data, Bool.eq_iff_iff]; simp
  have h3 : (!(decide (n < 0) || (!(n == 0) && !(op == 1)))) = (decide (0 ≤ n) && (decide (op = 1) || decide (n = 0))) := by
    rw [Bool.eq_iff_iff]; simp; omega
  unfold shpE shp1
  rw [h1, h2, h3]
  simp only [Bool.and_assoc]
theorem isNm_emp {nm : ByteArray} (h : nm.toList = []) : Tk.isNm nm.data.toList = false := by rw [← Lib.toList_data, h]; rfl

set_option maxHeartbeats 4000000 in
theorem RefShapedExpr_step (op n : Int) (nm : ByteArray) (kids : ExL) (ih : kids.All RefSays) : RefSays op n nm kids := by
  intro w ao cap hok hat
  obtain ⟨⟨o1, o2⟩, ⟨n1, n2⟩, hm, hl⟩ := hok
  unfold maxLen at hl
  have hl' : kids.len ≤ 9223372036854775807 := hl
  have HS := Lib.hid (shpE_eq op n nm kids)
  have HIH := Lib.hid ih
  have HAT := Lib.hid hat
  clear ih hat
  go_enter Tryz.func25, Tryz.ntmps25
  go_upto_region 1 with fail
  generalize hW : World.alloc w _ = W
  generalize Value.agg #[_, _, _, _] = a0
  have HX := Lib.hid (Box4.mk hW)
  clear hW
  obtain ⟨-, hs, c0, c1, c2, c3⟩ := HX.out
  go_cut [3] (fun s W2 => W = W2 ∧ ∃ b, s = .bool b ∧ ((op == 2) || (op == 3)) = b)
  case first =>
    go_wp2_with fail
    all_goals go_meet
    all_goals exact ⟨rfl, _, rfl, by grind⟩
  obtain ⟨rfl, bn, rfl, hbn⟩ := hcut
  rw [hbn] at HS
  clear hbn
  go_upto_region 2 with fail
  go_cut [3, 50] (fun _ s W2 => ∃ b, s = .bool b ∧ shpE op n nm kids = (!b && shpL kids) ∧ Box4 w W2 (.int .i64 op) (.int .i64 n) (.string nm) (.slice ao kids.len cap))
  case first =>
    cases bn
    all_goals
      obtain ⟨T, F, hinh, hst, hF, hnext⟩ := calm W
      have HF := Lib.hid hF
      have HNX := Lib.hid hnext
      clear hnext
      have d0 := fun x => ((HF.out x).cell (p := ⟨w.heap.size, 0, none⟩) hs).trans c0
      have d1 := fun x => ((HF.out x).cell (p := ⟨w.heap.size, 1, none⟩) hs).trans c1
      have d2 := fun x => ((HF.out x).cell (p := ⟨w.heap.size, 2, none⟩) hs).trans c2
      have d3 := fun x => ((HF.out x).cell (p := ⟨w.heap.size, 3, none⟩) hs).trans c3
      clear hF c0 c1 c2 c3
      refine region_calm F (by kernel_rfl) (by kernel_rfl) hst ?_
      repeat (any_goals (first | go_big_quiet_step (first | (go_at_call 54; refine (Operands_any _ _).mono ?_; rintro e w' ⟨rfl, rfl⟩; exact ⟨rfl, _, rfl⟩) | (go_at_call 50; refine (RefIsName_any _ _ hm).mono ?_; rintro e w' ⟨rfl, hb⟩; exact ⟨rfl, HNX.out _ _ hb⟩)) | (refine wpQuiet_step (fun K hK => ?_); go_simp; first | (refine hK _ ?_; clear hK K) | (split <;> first | (refine hK _ ?_; clear hK K) | (apply Exists.intro; refine ⟨fun _ => ?_, hK _ ?_⟩; (first | (go_at_call 54; refine (Operands_any _ _).mono ?_; rintro e w' ⟨rfl, rfl⟩; exact ⟨rfl, _, rfl⟩) | (go_at_call 50; refine (RefIsName_any _ _ hm).mono ?_; rintro e w' ⟨rfl, hb⟩; exact ⟨rfl, HNX.out _ _ hb⟩)); clear hK K)))))
      all_goals (refine wpQuiet_nil ?_; rintro _ ⟨x, rfl⟩; go_wp2_with fail; go_meet)
      all_goals exact ⟨_, rfl, HS.out.trans (by go_light; grind [isNm_emp]), HX.out.next (HF.out _)⟩
  case rest =>
    obtain ⟨b, rfl, hR, HX'⟩ := hcut
    have HZ := Lib.hid HX'
    have HR := Lib.hid hR
    clear HX HX' hR HS c0 c1 c2 c3 hs
    cases b
    · go_wp2_with fail
      go_loopw [4] (fun i wr => ∃ k R, i = .int .i64 (k : Nat) ∧ ShpLeft kids R k ∧ R.All RefSays ∧ R.At wr wr.heap.size ao k ∧ Box4 w wr (Value.int IntKind.i64 op) (Value.int IntKind.i64 n) (Value.string nm) (Value.slice ao kids.len cap)) (fun i _ => kids.len - (intOf i).toNat)
      case atStart => exact ⟨0, kids, rfl, ⟨Nat.zero_add _, rfl⟩, HIH.out, HAT.out.same HZ.out.1, HZ.out⟩
      case round =>
        obtain ⟨k, R, rfl, ⟨hlen, heq⟩, hall, hrow, hbox⟩ := hrel
        have HT := Lib.hid (HR.out.trans (show (!false && shpL kids) = shpL R by rw [heq]; rfl))
        have HBX := Lib.hid hbox
        clear hbox
        obtain ⟨-, -, c0, c1, c2, c3⟩ := HBX.out
        cases R with
        | nil =>
          obtain rfl : k = kids.len := by simpa [ExL.len] using hlen
          go_wp2_with fail
          go_ret
          exact ⟨ret_bool HT.out.symm, HBX.out.1⟩
        | cons op' n' nm' kids' rest =>
          obtain ⟨⟨b, off, ao', cap', rfl, hbB, x0, x1, x2, x3, hok', hkids⟩, hrest⟩ := hrow
          obtain ⟨hsay, hall'⟩ := hall
          have hlt : k < kids.len := by simp only [ExL.len] at hlen; omega
          go_wp2_with fail
          refine (hsay _ _ _ hok' hkids).mono ?_
          rintro e w2 ⟨rfl, hb2⟩
          have HBY := Lib.hid (HBX.out.next hb2)
          have hrest' := hrest.same hb2
          clear hb2 HBX hrest x0 x1 x2 x3 c0 c1 c2 c3 hkids
          cases hS : shpE op' n' nm' kids'
          · have HF := Lib.hid (HT.out.trans (by rw [shpL_cons, hS]; rfl : shpL (.cons op' n' nm' kids' rest) = false))
            go_wp2_with fail
            go_ret
            exact ⟨ret_bool HF.out.symm, HBY.out.1⟩
          · have HF := Lib.hid (heq.trans (by rw [shpL_cons, hS]; rfl : shpL (.cons op' n' nm' kids' rest) = shpL rest))
            go_wp2_with fail
            go_roundw
            case rel => exact ⟨k + 1, rest, by go_num, ⟨by simp only [ExL.len] at hlen; omega, HF.out⟩, hall', hrest', HBY.out⟩
            case measure => simp [intOf]; omega
    · go_wp2_with fail
      go_ret
      exact ⟨ret_bool HR.out.symm, HZ.out.1⟩
theorem RefShapedExpr_any (op n : Int) (nm : ByteArray) (kids : ExL) : RefSays op n nm kids := ExL.of_all RefShapedExpr_step op n nm kids
end Go.Proofs.YtommnhglgedflaaGreatDoor
end
