/-
  Contract of the reference's SameExpr at two expressions that are alike.
-/
import Derived.Test.YtommnhglgedflaaDoorGMA
import Derived.StillTailTactics
import Derived.Deep.QuietTactic
set_option linter.unusedSimpArgs false
set_option linter.unusedVariables false
namespace Go.Proofs.YtommnhglgedflaaDoor
open Go.RowKit
open Md
/-- What SameExpr answers at an expression that lies twice. -/
def SmSays (op n : Int) (nm : ByteArray) (kids : ExL) : Prop :=
  ∀ (w : World) (ao : Option Addr) (cap : Nat) (ao2 : Option Addr) (cap2 : Nat), ExOk op n nm kids → kids.At w w.heap.size ao 0 → kids.At w w.heap.size ao2 0 →
    Calls Tryd.prog 8 #[.agg #[.int .i64 op, .int .i64 n, .string nm, .slice ao kids.len cap], .agg #[.int .i64 op, .int .i64 n, .string nm, .slice ao2 kids.len cap2]] w fun e w' => e = .returned (.bool true) ∧ Below w.heap.size w w'
set_option maxHeartbeats 4000000 in
set_option maxRecDepth 100000 in
theorem SameExpr_step (op n : Int) (nm : ByteArray) (kids : ExL) (ih : kids.All SmSays) : SmSays op n nm kids := by
  intro w ao cap ao2 cap2 hok hat hat2
  have hl := hok.2.2.2
  unfold maxLen at hl
  have HIH := Lib.hid ih
  have HAT := Lib.hid hat
  have HAT2 := Lib.hid hat2
  clear ih hat hat2 hok
  go_enter Tryd.func8, Tryd.ntmps8
  go_upto_region 1 with fail
  have HX := Lib.hid (((Sit.start w).box4 rfl (.int .i64 op) (.int .i64 n) (.string nm) (.slice ao kids.len cap) 26).box4 (n := w.heap.size + 1) (by simp) (.int .i64 op) (.int .i64 n) (.string nm) (.slice ao2 kids.len cap2) 26)
  generalize hW : World.alloc (World.alloc w _) _ = W at *
  clear hW
  obtain ⟨-, ⟨-, c0⟩, ⟨-, c1⟩, ⟨-, c2⟩, ⟨-, c3⟩, ⟨-, c4⟩, ⟨-, c5⟩, ⟨-, c6⟩, ⟨-, c7⟩, -⟩ := HX.out
  go_wp2_with fail
  go_loopw [5] (fun i wr => ∃ (k : Nat) (R : ExL), i = .int .i64 (k : Nat) ∧ k + R.len = kids.len ∧ R.All SmSays ∧ R.At wr wr.heap.size ao k ∧ R.At wr wr.heap.size ao2 k ∧ Sit w wr [(w.heap.size + 1, 0, .int .i64 op), (w.heap.size + 1, 1, .int .i64 n), (w.heap.size + 1, 2, .string nm), (w.heap.size + 1, 3, .slice ao2 kids.len cap2), (w.heap.size, 0, .int .i64 op), (w.heap.size, 1, .int .i64 n), (w.heap.size, 2, .string nm), (w.heap.size, 3, .slice ao kids.len cap)]) (fun i _ => kids.len - (intOf i).toNat)
  case atStart => exact ⟨0, kids, rfl, Nat.zero_add _, HIH.out, HAT.out.same HX.out.1, HAT2.out.same HX.out.1, HX.out⟩
  case round =>
    obtain ⟨k, R, rfl, hlen, hall, hrow, hrow2, hsit⟩ := hrel
    have HY := Lib.hid hsit
    clear hsit HX c0 c1 c2 c3 c4 c5 c6 c7
    obtain ⟨-, ⟨-, c0⟩, ⟨-, c1⟩, ⟨-, c2⟩, ⟨-, c3⟩, ⟨-, c4⟩, ⟨-, c5⟩, ⟨-, c6⟩, ⟨-, c7⟩, -⟩ := HY.out
    cases R with
    | nil =>
      obtain rfl : k = kids.len := by simpa [ExL.len] using hlen
      go_wp2_with fail
      go_ret
      exact ⟨rfl, HY.out.1⟩
    | cons op' n' nm' kids' rest =>
      obtain ⟨⟨b, off, ao', cap', rfl, hbB, x0, x1, x2, x3, hok', hkids⟩, hrest⟩ := hrow
      obtain ⟨⟨b2, off2, ao2', cap2', rfl, hbB2, y0, y1, y2, y3, -, hkids2⟩, hrest2⟩ := hrow2
      obtain ⟨hsay, hall'⟩ := hall
      have hlt : k < kids.len := by simp only [ExL.len] at hlen; omega
      have hb0 : (0 : Int) ≤ (k : Int) := by omega
      have hb1 : (k : Int) < (kids.len : Int) := by omega
      have HK := Lib.hid (And.intro hkids (And.intro hkids2 (And.intro hrest (And.intro hrest2 hok'))))
      have HS := Lib.hid hsay
      clear hkids hkids2 hrest hrest2 hok' hsay
      go_upto_region 6 with fail
      go_still_tail 10, (by kernel_rfl)
      change wpList _ _ _ _ _ (World.drew _)
      have hbd : Below wr.heap.size wr wr.drew := below_drewN (Below.refl _ _) 1
      go_wp2_with fail
      refine (HS.out _ ao' cap' ao2' cap2' HK.out.2.2.2.2 (HK.out.1.same hbd) (HK.out.2.1.same hbd)).mono ?_
      rintro e w2 ⟨rfl, hb2⟩
      have hb3 : Below wr.heap.size wr w2 := hbd.trans (hb2.mono hbd.size)
      have HZ := Lib.hid (HY.out.next hb3)
      have HR := Lib.hid (And.intro (HK.out.2.2.1.same hb3) (HK.out.2.2.2.1.same hb3))
      clear hb2 hb3 hbd HY HK x0 x1 x2 x3 y0 y1 y2 y3 c0 c1 c2 c3 c4 c5 c6 c7
      go_wp2_with fail
      go_roundw
      case rel => exact ⟨k + 1, rest, by go_num, by simp only [ExL.len] at hlen; omega, hall', HR.out.1, HR.out.2, HZ.out⟩
      case measure => simp [intOf]; omega
theorem SameExpr_any (op n : Int) (nm : ByteArray) (kids : ExL) : SmSays op n nm kids := ExL.of_all SameExpr_step op n nm kids
end Go.Proofs.YtommnhglgedflaaDoor
