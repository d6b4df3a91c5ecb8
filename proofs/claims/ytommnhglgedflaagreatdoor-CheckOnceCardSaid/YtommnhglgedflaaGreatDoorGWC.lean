/-
  What the closed programs of three laws are parsed and checked as, by evaluation of plain functions.
  Contracts of the check law's with, refuses, accepts.
-/
import Derived.Test.YtommnhglgedflaaGreatDoorGZA
import Derived.Test.YtommnhglgedflaaGreatDoorGML
import Derived.Test.YtommnhglgedflaaGreatDoorGRF
import Derived.Test.YtommnhglgedflaaGreatDoorGZC
section
namespace Go.Proofs.YtommnhglgedflaaGreatDoor.Pz
open Go.RowKit Md Tk
def withT (a b : List UInt8) : List UInt8 := [118, 97, 114, 32, 120, 59, 32, 118, 97, 114, 32, 113, 91, 50, 93, 59, 32, 118, 111, 108, 97, 116, 105, 108, 101, 32, 118, 59, 32, 109, 117, 116, 101, 120, 32, 109, 59, 32, 109, 117, 116, 101, 120, 32, 110, 59, 32, 114, 119, 108, 111, 99, 107, 32, 114, 59, 32, 99, 111, 110, 100, 32, 99, 32, 109, 59, 32, 102, 117, 116, 117, 114, 101, 32, 102, 59, 10, 116, 104, 114, 101, 97, 100, 32, 116, 40, 97, 41, 32, 123, 10] ++ a ++ [10, 125, 10, 116, 104, 114, 101, 97, 100, 32, 117, 40, 98, 41, 32, 123, 10] ++ b ++ [10, 125, 10, 116, 104, 114, 101, 97, 100, 32, 119, 40, 41, 32, 123, 32, 125]
def withP (a b : List UInt8) : Pr := (parse (withT a b)).1
theorem CheckNames0 : prgE (withP [120, 32, 61, 32, 97, 59, 32, 118, 32, 61, 32, 113, 91, 120, 93, 59, 32, 97, 32, 61, 32, 49, 59, 32, 113, 91, 48, 93, 32, 61, 32, 118, 59] [98, 32, 61, 32, 120, 59]) = (0, 0) ∧ (withP [120, 32, 61, 32, 97, 59, 32, 118, 32, 61, 32, 113, 91, 120, 93, 59, 32, 97, 32, 61, 32, 49, 59, 32, 113, 91, 48, 93, 32, 61, 32, 118, 59] [98, 32, 61, 32, 120, 59]).ts.length = 3 := by decide +kernel
theorem CheckNames1 : prgE (withP [121, 32, 61, 32, 49, 59] []) = (5, 3) := by decide +kernel
theorem CheckNames2 : prgE (withP [109, 32, 61, 32, 49, 59] []) = (6, 3) := by decide +kernel
theorem CheckNames3 : prgE (withP [113, 32, 61, 32, 49, 59] []) = (6, 3) := by decide +kernel
theorem CheckNames4 : prgE (withP [120, 91, 48, 93, 32, 61, 32, 49, 59] []) = (6, 3) := by decide +kernel
theorem CheckNames5 : prgE (withP [] [98, 32, 61, 32, 97, 59]) = (5, 6) := by decide +kernel
theorem CheckNames6 : prgE (withP [120, 32, 61, 32, 113, 59] []) = (6, 3) := by decide +kernel
theorem CheckNames7 : prgE (withP [108, 111, 99, 107, 32, 114, 32, 123, 32, 125] []) = (6, 3) := by decide +kernel
theorem CheckNames8 : prgE (withP [114, 101, 97, 100, 32, 109, 32, 123, 32, 125] []) = (6, 3) := by decide +kernel
theorem CheckNames9 : prgE (withP [119, 97, 105, 116, 32, 109, 59] []) = (6, 3) := by decide +kernel
theorem CheckNames10 : prgE (withP [103, 101, 116, 32, 120, 32, 102, 59] []) = (6, 3) := by decide +kernel
theorem CheckNames11 : prgE (withP [103, 101, 116, 32, 97, 32, 109, 59] []) = (6, 3) := by decide +kernel
theorem CheckNames12 : prgE (withP [108, 111, 99, 107, 32, 97, 32, 123, 32, 125] []) = (6, 3) := by decide +kernel
theorem CheckNesting0 : prgE (withP [108, 111, 99, 107, 32, 109, 32, 123, 32, 108, 111, 99, 107, 32, 110, 32, 123, 32, 119, 97, 105, 116, 32, 99, 59, 32, 125, 32, 110, 111, 116, 105, 102, 121, 32, 99, 59, 32, 125] [114, 101, 97, 100, 32, 114, 32, 123, 32, 116, 114, 97, 110, 115, 97, 99, 116, 105, 111, 110, 32, 123, 32, 120, 32, 61, 32, 49, 59, 32, 125, 32, 125]) = (0, 0) ∧ (withP [108, 111, 99, 107, 32, 109, 32, 123, 32, 108, 111, 99, 107, 32, 110, 32, 123, 32, 119, 97, 105, 116, 32, 99, 59, 32, 125, 32, 110, 111, 116, 105, 102, 121, 32, 99, 59, 32, 125] [114, 101, 97, 100, 32, 114, 32, 123, 32, 116, 114, 97, 110, 115, 97, 99, 116, 105, 111, 110, 32, 123, 32, 120, 32, 61, 32, 49, 59, 32, 125, 32, 125]).ts.length = 3 := by decide +kernel
theorem CheckNesting1 : prgE (withP [108, 111, 99, 107, 32, 109, 32, 123, 32, 108, 111, 99, 107, 32, 109, 32, 123, 32, 125, 32, 125] []) = (7, 3) := by decide +kernel
theorem CheckNesting2 : prgE (withP [114, 101, 97, 100, 32, 114, 32, 123, 32, 119, 114, 105, 116, 101, 32, 114, 32, 123, 32, 125, 32, 125] []) = (7, 3) := by decide +kernel
theorem CheckNesting3 : prgE (withP [119, 97, 105, 116, 32, 99, 59] []) = (7, 3) := by decide +kernel
theorem CheckNesting4 : prgE (withP [108, 111, 99, 107, 32, 110, 32, 123, 32, 110, 111, 116, 105, 102, 121, 32, 99, 59, 32, 125] []) = (7, 3) := by decide +kernel
theorem CheckNesting5 : prgE (withP [97, 116, 111, 109, 105, 99, 32, 123, 32, 108, 111, 99, 107, 32, 109, 32, 123, 32, 119, 97, 105, 116, 32, 99, 59, 32, 125, 32, 125] []) = (7, 3) := by decide +kernel
theorem CheckNesting6 : prgE (withP [97, 116, 111, 109, 105, 99, 32, 123, 32, 108, 111, 99, 107, 32, 109, 32, 123, 32, 110, 111, 116, 105, 102, 121, 97, 108, 108, 32, 99, 59, 32, 125, 32, 125] []) = (0, 0) ∧ (withP [97, 116, 111, 109, 105, 99, 32, 123, 32, 108, 111, 99, 107, 32, 109, 32, 123, 32, 110, 111, 116, 105, 102, 121, 97, 108, 108, 32, 99, 59, 32, 125, 32, 125] []).ts.length = 3 := by decide +kernel
theorem CheckNesting7 : prgE (withP [116, 114, 97, 110, 115, 97, 99, 116, 105, 111, 110, 32, 123, 32, 108, 111, 99, 107, 32, 109, 32, 123, 32, 125, 32, 125] []) = (7, 3) := by decide +kernel
theorem CheckNesting8 : prgE (withP [116, 114, 97, 110, 115, 97, 99, 116, 105, 111, 110, 32, 123, 32, 116, 114, 97, 110, 115, 97, 99, 116, 105, 111, 110, 32, 123, 32, 125, 32, 125] []) = (7, 3) := by decide +kernel
theorem CheckNesting9 : prgE (withP [97, 116, 111, 109, 105, 99, 32, 123, 32, 97, 116, 111, 109, 105, 99, 32, 123, 32, 125, 32, 125] []) = (7, 3) := by decide +kernel
theorem CheckNesting10 : prgE (withP [] [97, 116, 111, 109, 105, 99, 32, 123, 32, 106, 111, 105, 110, 32, 119, 59, 32, 125]) = (7, 6) := by decide +kernel
theorem CheckNesting11 : prgE (withP [116, 114, 97, 110, 115, 97, 99, 116, 105, 111, 110, 32, 123, 32, 103, 101, 116, 32, 97, 32, 102, 59, 32, 125] []) = (7, 3) := by decide +kernel
theorem CheckOnce0 : prgE (withP [115, 112, 97, 119, 110, 32, 117, 59, 32, 115, 101, 116, 32, 102, 32, 49, 59] [115, 112, 97, 119, 110, 32, 119, 59, 32, 106, 111, 105, 110, 32, 116, 59]) = (0, 0) ∧ (withP [115, 112, 97, 119, 110, 32, 117, 59, 32, 115, 101, 116, 32, 102, 32, 49, 59] [115, 112, 97, 119, 110, 32, 119, 59, 32, 106, 111, 105, 110, 32, 116, 59]).ts.length = 3 := by decide +kernel
theorem CheckOnce1 : prgE (withP [115, 112, 97, 119, 110, 32, 117, 59] [115, 112, 97, 119, 110, 32, 117, 59]) = (7, 6) := by decide +kernel
theorem CheckOnce2 : prgE (withP [115, 112, 97, 119, 110, 32, 119, 59] [115, 112, 97, 119, 110, 32, 119, 59]) = (8, 6) := by decide +kernel
theorem CheckOnce3 : prgE (withP [115, 112, 97, 119, 110, 32, 116, 59] []) = (7, 3) := by decide +kernel
theorem CheckOnce4 : prgE (withP [] [115, 112, 97, 119, 110, 32, 116, 59]) = (7, 6) := by decide +kernel
theorem CheckOnce5 : prgE (withP [119, 104, 105, 108, 101, 32, 120, 32, 123, 32, 115, 112, 97, 119, 110, 32, 117, 59, 32, 125] []) = (7, 3) := by decide +kernel
theorem CheckOnce6 : prgE (withP [115, 101, 116, 32, 102, 32, 49, 59, 32, 115, 101, 116, 32, 102, 32, 50, 59] []) = (8, 3) := by decide +kernel
theorem CheckOnce7 : prgE (withP [119, 104, 105, 108, 101, 32, 120, 32, 123, 32, 115, 101, 116, 32, 102, 32, 49, 59, 32, 125] []) = (7, 3) := by decide +kernel
theorem CheckOnce8 : prgE (withP [106, 111, 105, 110, 32, 116, 59] []) = (7, 3) := by decide +kernel
end Go.Proofs.YtommnhglgedflaaGreatDoor.Pz
end
section
set_option linter.unusedSimpArgs false
set_option linter.unusedVariables false
namespace Go.Proofs.YtommnhglgedflaaGreatDoor
open Go.RowKit
open Md Pz
theorem with_text (a b : List UInt8) : ((((⟨#[118, 97, 114, 32, 120, 59, 32, 118, 97, 114, 32, 113, 91, 50, 93, 59, 32, 118, 111, 108, 97, 116, 105, 108, 101, 32, 118, 59, 32, 109, 117, 116, 101, 120, 32, 109, 59, 32, 109, 117, 116, 101, 120, 32, 110, 59, 32, 114, 119, 108, 111, 99, 107, 32, 114, 59, 32, 99, 111, 110, 100, 32, 99, 32, 109, 59, 32, 102, 117, 116, 117, 114, 101, 32, 102, 59, 10, 116, 104, 114, 101, 97, 100, 32, 116, 40, 97, 41, 32, 123, 10]⟩ : ByteArray) ++ tx a) ++ ⟨#[10, 125, 10, 116, 104, 114, 101, 97, 100, 32, 117, 40, 98, 41, 32, 123, 10]⟩) ++ tx b) ++ ⟨#[10, 125, 10, 116, 104, 114, 101, 97, 100, 32, 119, 40, 41, 32, 123, 32, 125]⟩ = tx (withT a b) := by
  apply bytes_eq
  simp [withT, tx]
theorem with_size (a b : List UInt8) (ha : a.length ≤ 100) (hb : b.length ≤ 100) : (tx (withT a b)).size ≤ 4000 := by
  have : (tx (withT a b)).size = (withT a b).length := by simp [tx, ByteArray.size]
  rw [this]
  simp only [withT, List.length_append, List.length_cons, List.length_nil]
  omega
/-- What with answers. -/
def WithP (p : Pr) (w : World) (e : Ending) (w' : World) : Prop :=
  ∃ aoD capD aoT capT, e = .returned (.agg #[.slice aoD p.ds.length capD, .slice aoT p.ts.length capT]) ∧ p.At w' aoD aoT ∧ Below w.heap.size w w'
set_option maxHeartbeats 4000000 in
set_option maxRecDepth 100000 in
theorem with_any (a b : List UInt8) (ha : a.length ≤ 100) (hb : b.length ≤ 100) (w : World) (hkw : KwLaid w) :
    Calls Tryz.prog 56 #[.string (tx a), .string (tx b)] w (WithP (withP a b) w) := by
  have HKW := Lib.hid hkw
  have hs1 : (tx a).size ≤ 100 := ha
  have hs2 : (tx b).size ≤ 100 := hb
  clear hkw
  go_enter Tryz.func56, Tryz.ntmps56
  have HPA : Hid (∀ w, KwLaid w → Calls Tryz.prog 14 #[.string (tx (withT a b))] w (ParP (tx (withT a b)).size w (parse (withT a b)))) := Lib.hid (fun w h => by
    have := Parse_any (tx (withT a b)) w h (Nat.le_trans (with_size a b ha hb) (by unfold maxLen; decide))
    rw [show (tx (withT a b)).data.toList = withT a b by simp [tx]] at this
    exact this)
  have HWP : Hid ((parse (withT a b)).1 = withP a b) := Lib.hid rfl
  obtain ⟨res, HRES⟩ : ∃ res, Hid (parse (withT a b) = res) := ⟨_, Lib.hid rfl⟩
  rw [HRES.out] at HPA HWP
  generalize withP a b = p at *
  clear HRES
  go_upto_region 1 with fail
  generalize hW : World.alloc w _ = W0
  have HB0 : Hid (Below w.heap.size w W0) := Lib.hid (by rw [← hW]; exact alloc_below _ _)
  have HZ0 : Hid (W0.heap[w.heap.size]? = some (.cells zP2 26 (0, 0))) := Lib.hid (by rw [← hW]; exact heap_alloc_new _ _)
  clear hW
  go_wp2_with fail
  rw [with_text]
  refine (HPA.out _ (HKW.out.same HB0.out)).mono ?_
  rintro e w1 ⟨aoD, capD, aoT, capT, rfl, hl, hat, hb, -⟩
  rw [HWP.out] at hl hat ⊢
  have HL := Lib.hid hl
  have HAT := Lib.hid hat
  have HB1 := Lib.hid (HB0.out.trans (hb.mono HB0.out.size))
  have HZ1 := Lib.hid ((hb.block _ (Array.getElem?_eq_some_iff.1 HZ0.out).1).trans HZ0.out)
  clear hl hat hb HPA HWP hs1 hs2 HB0 HZ0
  go_upto_region 2 with fail
  generalize hW : World.alloc w1 _ = W2
  have HB2 : Hid (Below w.heap.size w W2 ∧ Below w1.heap.size w1 W2) := Lib.hid (by rw [← hW]; exact ⟨HB1.out.trans ((alloc_below w1 _).mono HB1.out.size), alloc_below w1 _⟩)
  have HZ2 : Hid (W2.heap[w.heap.size]? = some (.cells zP2 26 (0, 0))) := Lib.hid ((HB2.out.2.block _ (Array.getElem?_eq_some_iff.1 HZ1.out).1).trans HZ1.out)
  have HC2 : Hid (W2.heap[w1.heap.size]? = some (.cells #[.slice aoD p.ds.length capD, .slice aoT p.ts.length capT] 26 (0, 0))) := Lib.hid (by rw [← hW]; exact heap_alloc_new _ _)
  clear hW
  have c0 : W2.cell? ⟨w1.heap.size, 0, none⟩ = some (.slice aoD p.ds.length capD) := cellb HC2.out rfl
  have c1 : W2.cell? ⟨w1.heap.size, 1, none⟩ = some (.slice aoT p.ts.length capT) := cellb HC2.out rfl
  obtain ⟨y0, y1, g0, g1⟩ := z2p HZ2.out
  have hlt : w.heap.size < W2.heap.size := (Array.getElem?_eq_some_iff.1 HZ2.out).1
  have HFN : Hid (∀ W, (W2.setCell ⟨w.heap.size, 0, none⟩ (.slice aoD p.ds.length capD)).setCell ⟨w.heap.size, 1, none⟩ (.slice aoT p.ts.length capT) = W → WithP p w (.returned (.agg #[.slice aoD p.ds.length capD, .slice aoT p.ts.length capT])) W) := Lib.hid (fun W hW => by
    subst hW
    have hA : p.At W2 aoD aoT := ⟨Nat.le_trans HL.out.1 (by unfold maxLen; decide), Nat.le_trans HL.out.2.1 (by unfold maxLen; decide), HAT.out.1.same HB2.out.2, HAT.out.2.same HB2.out.2⟩
    exact ⟨aoD, capD, aoT, capT, rfl, hA.off (OffB.of HZ2.out rfl) ((Oth.set W2 _ _ _).trans (by simp [World.setCell]) (Oth.set _ _ _ _)) (by simp [World.setCell]), below_set (below_set HB2.out.1 _ _ (Nat.le_refl _)) _ _ (Nat.le_refl _)⟩)
  go_wp2_with fail
  exact bodyPost_ret (v := .agg #[.slice aoD p.ds.length capD, .slice aoT p.ts.length capT]) (by simp [results, Tryz.results56, go_sem, y0, y1, hlt]) rfl (HFN.out _ rfl)
set_option maxRecDepth 100000 in
set_option maxHeartbeats 1000000 in
theorem refuses_any (a b : List UInt8) (er ln : Int) (ha : a.length ≤ 100) (hb : b.length ≤ 100) (h : prgE (withP a b) = (er, ln)) (w : World) (hkw : KwLaid w) :
    Calls Tryz.prog 27 #[.string (tx a), .string (tx b), .int .i64 er, .int .i64 ln] w fun e w' => e = .returned (.bool true) ∧ Below w.heap.size w w' := by
  have HKW := Lib.hid hkw
  have HW := Lib.hid (with_any a b ha hb w hkw)
  have HPR := Lib.hid h
  clear hkw h
  generalize withP a b = p at *
  go_enter Tryz.func27, Tryz.ntmps27
  go_wp2_with fail
  refine HW.out.mono ?_
  rintro e w1 ⟨aoD, capD, aoT, capT, rfl, hat, hb1⟩
  have HAT := Lib.hid hat
  have HB := Lib.hid hb1
  clear hat hb1 HW
  have HC := Lib.hid (Program_any p w1 aoD aoT capD capT HAT.out (HKW.out.same HB.out))
  rw [HPR.out] at HC
  go_wp2_with fail
  refine HC.out.mono ?_
  rintro e w2 ⟨rfl, hb2⟩
  go_wp2_with fail
  go_ret
  exact ⟨rfl, HB.out.trans (hb2.mono HB.out.size)⟩
theorem fldP1 (a a' : Option Addr) (n c n' c' : Nat) (w : World) : (Instr.field 26 (.agg #[.slice a n c, .slice a' n' c']) 1).run Tryz.prog w = .ok (.slice a' n' c') w := by kernel_rfl
set_option maxRecDepth 100000 in
set_option maxHeartbeats 1000000 in
theorem accepts_any (a b : List UInt8) (ha : a.length ≤ 100) (hb : b.length ≤ 100) (h : prgE (withP a b) = (0, 0) ∧ (withP a b).ts.length = 3) (w : World) (hkw : KwLaid w) :
    Calls Tryz.prog 26 #[.string (tx a), .string (tx b)] w fun e w' => e = .returned (.bool true) ∧ Below w.heap.size w w' := by
  have HKW := Lib.hid hkw
  have HW := Lib.hid (fun w h => with_any a b ha hb w h)
  have HPR := Lib.hid h
  clear hkw h
  generalize withP a b = p at *
  go_enter Tryz.func26, Tryz.ntmps26
  go_wp2_with fail
  refine (HW.out _ HKW.out).mono ?_
  rintro e w1 ⟨aoD, capD, aoT, capT, rfl, hat, hb1⟩
  have HAT := Lib.hid hat
  have HB := Lib.hid hb1
  clear hat hb1
  have HC := Lib.hid (Program_any p w1 aoD aoT capD capT HAT.out (HKW.out.same HB.out))
  rw [HPR.out.1] at HC
  go_wp2_with fail
  refine HC.out.mono ?_
  rintro e w2 ⟨rfl, hb2⟩
  have HB2 := Lib.hid (HB.out.trans (hb2.mono HB.out.size))
  clear hb2 HC
  go_wp2_with fail
  refine (HW.out _ (HKW.out.same HB2.out)).mono ?_
  rintro e w3 ⟨aoD2, capD2, aoT2, capT2, rfl, hat, hb1⟩
  have HB3 := Lib.hid (HB2.out.trans (hb1.mono HB2.out.size))
  clear hat hb1
  have hl := HPR.out.2
  rw [hl]
  clear hl
  have hfp := fldP1
  go_wp2_with fail
  go_ret
  exact ⟨rfl, HB3.out⟩
end Go.Proofs.YtommnhglgedflaaGreatDoor
end
