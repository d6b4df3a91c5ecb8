/-
  The walk of the law TokenSigns.
-/
import Derived.Test.YtmnacfdbjlfooaaDoorLawBlanks
namespace Go.Proofs.YtmnacfdbjlfooaaDoor
open Go.RowKit

/-- The number of the sign that a byte chooses. -/
def sgNo (z : Int) : Nat := (z % 23).toNat
theorem sgNo_lt (z : Int) (_h : 0 ≤ z) : sgNo z < 23 := by unfold sgNo; omega
def sgTs (zs : List Int) : List Tk.Tok := zs.map fun z => ⟨4, sgL (sgNo z), 1⟩
theorem sgTs_at (zs : List Int) (k : Nat) (h : k < (sgTs zs).length) (h' : k < zs.length) : (sgTs zs)[k] = ⟨4, sgL (sgNo zs[k]), 1⟩ := by simp [sgTs]
theorem sgL_mem (k : Nat) (h : k < 23) : sgL k ∈ Tk.sgs := by rw [sgL_eq k h]; exact List.getElem_mem _
theorem sg_good (zs : List Int) (h : ∀ z ∈ zs, 0 ≤ z) : ∀ t ∈ sgTs zs, Tk.Good t.kind t.text := by
  intro t ht
  obtain ⟨z, hz, rfl⟩ := List.mem_map.1 ht
  exact Tk.good_sign _ (sgL_mem _ (sgNo_lt z (h z hz)))
theorem sg_tlen (zs : List Int) (h : ∀ z ∈ zs, 0 ≤ z) : Tk.tlen (sgTs zs) ≤ 2 * zs.length := by
  induction zs with
  | nil => exact Nat.le_refl _
  | cons z zs ih =>
    have h1 := ih (fun x hx => h x (List.mem_cons_of_mem _ hx))
    have h2 := (sg_bound (sgNo z) (sgNo_lt z (h z (List.mem_cons_self ..)))).2
    rw [sgAt_size] at h2
    unfold sgTs Tk.tlen at *
    simp only [List.map_cons, List.sum_cons, List.length_cons]
    omega
theorem low_same (zs : List Int) : (sgTs zs).map low = sgTs zs := by
  unfold sgTs; rw [List.map_map]; rfl

/-- The argument in memory, below a block number. -/
def Bytes (w : World) (ao : Option Addr) (zs : List Int) : Prop := ∀ k (hk : k < zs.length), ∃ b off, ao = some ⟨b, off, none⟩ ∧ b < w.heap.size ∧ w.cell? ⟨b, off + k, none⟩ = some (.int .u8 zs[k]) ∧ 0 ≤ zs[k] ∧ zs[k] ≤ 255

set_option maxRecDepth 100000 in
set_option maxHeartbeats 4000000 in
theorem TokenSigns_walk (ao : Option Addr) (len cap : Nat) (zs : List Int) (hlen : zs.length = len) (hcap : len ≤ maxLen) (w : World) (hz : Bytes w ao zs) (hkw : KwLaid w) :
    Calls Tryd.prog 9 #[.slice ao len cap] w fun e w' => e = .returned (.bool true) ∧ Below w.heap.size w w' := by
  have hm := hcap
  unfold maxLen at hm
  by_cases hbig : 200 < len
  · clear hlen
    go_enter Tryd.func9, Tryd.ntmps9
    go_wp2
    go_ret
    exact ⟨rfl, Below.refl _ _⟩
  · have HL := Lib.hid hlen
    have HZ := Lib.hid hz
    clear hlen hz
    go_enter Tryd.func9, Tryd.ntmps9
    go_wp2
    generalize hw1 : World.alloc w _ = w1
    have hcell : ∀ k, k < 23 → w1.cell? ⟨w.heap.size, k, none⟩ = some (.string (sgAt k)) := fun k hk => by
      rw [← hw1]
      show (w.alloc (.cells sgCellsL.toArray 9)).cell? _ = _
      rw [laid_cell, sgCellsL_at k hk]
    have hb1 : Below w.heap.size w w1 := by rw [← hw1]; exact (Below.refl _ _).alloc (Nat.le_refl _) _
    have hz1 : w.heap.size < w1.heap.size := by rw [← hw1]; simp
    have HC := Lib.hid hcell
    have HB1 := Lib.hid hb1
    have kw1 := hkw.same hb1
    have hall : ∀ z ∈ zs, 0 ≤ z := fun z hz => by
      obtain ⟨j, hj, rfl⟩ := List.getElem_of_mem hz
      obtain ⟨_, _, _, _, _, h0, _⟩ := HZ.out j hj
      exact h0
    have HG := Lib.hid (sg_good zs hall)
    have htl := sg_tlen zs hall
    have htsl : (sgTs zs).length = zs.length := by unfold sgTs; rw [List.length_map]
    rw [HL.out] at htl htsl
    have HTS := Lib.hid htsl
    clear hw1 hcell hb1 hkw hall htsl
    go_loop [4, 5] (fun v i => ∃ k : Nat, k ≤ len ∧ i = .int .i64 k ∧ v = .string (joinS (txts (sgTs zs) k))) (fun _ i => len - (intOf i).toNat)
    case atStart => exact ⟨0, Nat.zero_le _, rfl, rfl⟩
    case round =>
      obtain ⟨k, hk, rfl, rfl⟩ := hrel
      by_cases hlt : k < len
      · have hkz : k < zs.length := by rw [HL.out]; exact hlt
        obtain ⟨b, off, rfl, hbl, hc, z0, z1⟩ := HZ.out k hkz
        rw [← HB1.out.cell hbl] at hc
        have hkt : k < (sgTs zs).length := by rw [HTS.out]; exact hlt
        have hsn := joinS_snoc (txts (sgTs zs) k) (sgTs zs)[k].text
        rw [← txts_snoc (sgTs zs) k hkt] at hsn
        have e1 : (⟨(sgTs zs)[k].text.toArray⟩ : ByteArray) = sgAt (zs[k] % 23).toNat := by
          rw [sgTs_at zs k hkt hkz]; rfl
        rw [e1] at hsn
        have HS := Lib.hid hsn
        have z2 := txts_len (sgTs zs) k
        rw [← joinS_size, HTS.out] at z2
        have hsl : (zs[k] % 23).toNat < 23 := by omega
        obtain ⟨zz1, zz2⟩ := sg_bound _ hsl
        have hsc := HC.out _ hsl
        clear hsn e1
        generalize zs[k]'_ = z at *
        have q1 : ¬ 9223372036854775807 < (joinS (txts (sgTs zs) k)).size + (sgAt (z % 23).toNat).size + 1 := by omega
        go_wp2
        go_round
        case rel => exact ⟨k + 1, by omega, by go_num, congrArg Value.string HS.out⟩
        case measure => simp [intOf]; omega
      · obtain rfl : k = len := by omega
        have hR := scan_txts (sgTs zs) HG.out (by rw [HTS.out]; omega)
        rw [low_same, HTS.out] at hR
        have z1 := txts_len (sgTs zs) k
        rw [← joinS_size, HTS.out] at z1
        have hsz : (joinS (txts (sgTs zs) k)).size ≤ maxLen := by unfold maxLen; omega
        go_wp2_with fail
        refine (Scan_at _ _ w1 hR kw1 hsz).mono ?_
        rintro e w2 ⟨v2, rfl, hown2, hb2⟩
        obtain ⟨a2, c2, hv2, hr2⟩ := tok_row hown2
        rw [hv2]
        have HR2 := Lib.hid hr2
        have kw2 := kw1.same hb2
        have hB := HB1.out.trans (hb2.mono HB1.out.size)
        have HB := Lib.hid hB
        have hb2s := hb2.size
        have HC2 : Hid (∀ k, k < 23 → w2.cell? ⟨w.heap.size, k, none⟩ = some (.string (sgAt k))) := Lib.hid fun k hk => (hb2.cell (by exact hz1)).trans (HC.out k hk)
        simp only [HTS.out]
        clear hR hsz hv2 hown2 hr2 hb2 kw1 HB1 HC hB
        go_wp2
        go_loopw [9] (fun i wr => ∃ j m : Nat, j ≤ k ∧ i = .int .i64 j ∧ wr = w2.drewN m) (fun i _ => k - (intOf i).toNat)
        case atStart => exact ⟨0, 0, Nat.zero_le _, rfl, rfl⟩
        case round =>
          obtain ⟨j, m, hj, rfl, rfl⟩ := hrel
          by_cases hlt : j < k
          · have hkz : j < zs.length := by rw [HL.out]; exact hlt
            have hkt : j < (sgTs zs).length := by rw [HTS.out]; exact hlt
            obtain ⟨b, off, rfl, hbl, hc, z0, z1⟩ := HZ.out j hkz
            rw [← HB.out.cell hbl] at hc
            obtain ⟨g2, rfl, hgg2, x0, x1, x2⟩ := HR2.out j hkt
            rw [sgTs_at zs j hkt hkz] at x0 x1 x2
            have x0' : w2.cell? ⟨g2, j * 3, none⟩ = some (.int .i64 4) := x0
            have x1' : w2.cell? ⟨g2, j * 3 + 1, none⟩ = some (.string (sgAt (zs[j] % 23).toNat)) := x1
            clear x0 x1 x2
            have hsl : (zs[j] % 23).toNat < 23 := by omega
            have hsc := HC2.out _ hsl
            generalize zs[j]'_ = z at *
            have p1 : IntKind.i64.wrap z = z := IntWalk.i64_in _ (by omega)
            have p2 : z.tmod 23 = z % 23 := by rw [Int.tmod_eq_emod_of_nonneg z0]
            have p3 : IntKind.i64.wrap (z % 23) = z % 23 := IntWalk.i64_in _ (by omega)
            have p4 : 0 ≤ z % 23 := by omega
            have p5 : z % 23 < 23 := by omega
            go_wp2
            go_quiet (fail)
            clear p1 p2 p3 p4 p5
            go_wp2
            go_roundw
            case rel => exact ⟨j + 1, _, by omega, by go_num, rfl⟩
            case measure => simp [intOf]; omega
          · obtain rfl : j = k := by omega
            go_wp2_with (go_at_call 14; refine (awake_any _ (kw2.same (below_drewN (Below.refl _ _) m))).mono ?_; rintro e w4 ⟨rfl, hb4⟩)
            go_ret
            have h2 := (below_drewN HB.out m)
            exact ⟨rfl, h2.trans (hb4.mono h2.size)⟩
end Go.Proofs.YtmnacfdbjlfooaaDoor
