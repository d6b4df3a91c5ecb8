/-
  An argument that is a slice of bytes, opened.
-/
import Derived.Test.YtmnacfdbjlfooaaDoorLawSigns
import Derived.ProofKit
import Derived.OpenShut
namespace Go.Proofs.YtmnacfdbjlfooaaDoor
open Go.ChangeShapes Go.WideShapes Go.ChangeAt Go.RowKit
open Go.WideMaps Go.WideElems

theorem Tryd.laidOut : laidOutB Tryd.prog = true := by kernel_rfl
theorem cellsU8 : Tryd.prog.cellsOf 5 = 1 := by kernel_rfl

theorem bytes_arg {H : Type} {enc : TypeId × Value → H} {W : World} {base : Nat} {v : Value} {d : DataW H} {p : List MemPlace} (hv : Value.okWide Tryd.prog W .any base 32 v)
    (h : DataW.Trod enc Tryd.prog W 0 (fun _ => true) true 32 v d p) (hlt : ∀ x ∈ p, x.block < W.heap.size) :
    ∃ ao len cap zs, v = .slice ao len cap ∧ zs.length = len ∧ len ≤ maxLen ∧ Bytes W ao zs := by
  obtain ⟨a0, len, cap, rfl⟩ := okWide_slice Tryd.underlying32 hv
  obtain ⟨fuel, hf⟩ := h
  rcases open_ints Tryd.underlying32 Tryd.underlying5 cellsU8 hf with ⟨hcs, hx⟩ | ⟨a, len', cap', zs, hcs, _, hl, hm, hz, hx, hcell, hwz⟩
  · simp [Value.cells] at hcs
    obtain ⟨rfl, rfl, rfl⟩ := hcs
    exact ⟨none, 0, 0, [], rfl, rfl, Nat.zero_le _, fun k hk => absurd hk (by simp)⟩
  · simp [Value.cells] at hcs
    obtain ⟨rfl, rfl, rfl⟩ := hcs
    simp only [Prod.mk.injEq] at hx
    obtain ⟨rfl, rfl⟩ := hx
    simp only [if_true] at hz
    refine ⟨some a, len, cap, zs.take len, rfl, by rw [List.length_take]; omega, by omega, fun k hk => ?_⟩
    have hk' : k < zs.length := by rw [List.length_take] at hk; omega
    obtain ⟨b, off, spot⟩ := a
    have hspot : spot = none := by simpa [Addr.add] using World.cell?_spot (hcell 0 (by omega))
    subst hspot
    have hbW : b < W.heap.size := hlt (.cell b off) (MemPlace.mem_row.2 ⟨0, by omega, by simp⟩)
    have hb := bounds_u8 (hwz zs[k] (List.getElem_mem hk'))
    refine ⟨b, off, rfl, hbW, ?_, ?_⟩
    · rw [← add_plain, hcell k hk', List.getElem_take]
      simp [hk']
    · rw [List.getElem_take]; exact hb
end Go.Proofs.YtmnacfdbjlfooaaDoor
