/-
  The walk of the law TokenBlanks.
-/
import Derived.Test.YtmnacfdbjlfooaaDoorLawLines
import Derived.Test.YtmnacfdbjlfooaaDoorTokJoin
namespace Go.Proofs.YtmnacfdbjlfooaaDoor
open Go.RowKit

def joinS (l : List (List UInt8)) : ByteArray := ⟨(Tk.join l).toArray⟩
theorem joinS_data (l : List (List UInt8)) : (joinS l).data.toList = Tk.join l := rfl
theorem joinS_size (l : List (List UInt8)) : (joinS l).size = (Tk.join l).length := Lib.size_mk _
theorem joinS_snoc (l : List (List UInt8)) (x : List UInt8) : joinS l ++ ⟨x.toArray⟩ ++ ⟨#[32]⟩ = joinS (l ++ [x]) := by
  unfold joinS
  rw [Tk.join_snoc, ByteArray.mk_append_mk, ByteArray.mk_append_mk]
theorem sum_take_le (l : List Nat) (k : Nat) : (l.take k).sum ≤ l.sum := by
  have := List.take_append_drop k l
  rw [← this, List.sum_append]
  rw [List.take_append_drop]
  omega
/-- The texts of the first tokens. -/
def txts (ts : List Tk.Tok) (k : Nat) : List (List UInt8) := (ts.take k).map (·.text)
theorem txts_snoc (ts : List Tk.Tok) (k : Nat) (h : k < ts.length) : txts ts (k + 1) = txts ts k ++ [ts[k].text] := by
  unfold txts; rw [List.take_succ_eq_append_getElem h, List.map_append]; rfl
theorem txts_len (ts : List Tk.Tok) (k : Nat) : (Tk.join (txts ts k)).length ≤ Tk.tlen ts + ts.length := by
  rw [Tk.join_len]
  unfold txts Tk.tlen
  have h1 := sum_take_le (ts.map fun t => t.text.length) k
  rw [← List.map_take] at h1
  rw [List.map_map, List.length_map, List.length_take]
  have : (List.map (List.length ∘ fun x => x.text) (List.take k ts)).sum = (List.map (fun t => t.text.length) (List.take k ts)).sum := rfl
  omega
def low (t : Tk.Tok) : Tk.Tok := ⟨t.kind, t.text, 1⟩
theorem scan_txts (ts : List Tk.Tok) (h : ∀ t ∈ ts, Tk.Good t.kind t.text) (hl : Tk.tlen ts + ts.length ≤ 4096) : Tk.scan (joinS (txts ts ts.length)).data.toList = (ts.map low, 0, 0) := by
  have h1 := txts_len ts ts.length
  have e : txts ts ts.length = (ts.map fun t => (t.kind, t.text)).map (·.2) := by
    unfold txts; rw [List.take_length, List.map_map]; rfl
  rw [joinS_data, e]
  rw [e] at h1
  rw [Tk.scan_join _ (fun p hp => by
    obtain ⟨t, ht, rfl⟩ := List.mem_map.1 hp
    exact h t ht) (by omega), List.map_map]
  rfl

set_option maxRecDepth 100000 in
set_option maxHeartbeats 4000000 in
theorem TokenBlanks_walk (s : ByteArray) (hs : s.size ≤ maxLen) (w : World) (hkw : KwLaid w) :
    Calls Tryd.prog 6 #[.string s] w fun e w' => e = .returned (.bool true) ∧ Below w.heap.size w w' := by
  have hm := hs
  unfold maxLen at hm
  by_cases hbig : 1000 < s.size
  · go_enter Tryd.func6, Tryd.ntmps6
    go_wp2
    go_ret
    exact ⟨rfl, Below.refl _ _⟩
  · obtain ⟨hg1, hg2⟩ := Tk.scan_goods s.data.toList
    obtain ⟨_, ha2, _⟩ := scan_ok s.data.toList
    have hl1 : (Tk.scan s.data.toList).1.length ≤ 1000 := by
      unfold Tk.scan
      rw [if_neg (by rw [← Lib.size_eq]; omega)]
      have := scanA_len s.data.toList _ s.data.toList.length 0 1 [] (Tk.SP.start _) (by omega)
      rw [← Lib.size_eq] at this
      rw [← Lib.size_eq]
      omega
    rw [← Lib.size_eq] at hg2
    go_enter Tryd.func6, Tryd.ntmps6
    go_wp2_with fail
    refine (Scan_any s w hkw hs).mono ?_
    rintro e w1 ⟨v1, rfl, hown1, hb1⟩
    obtain ⟨a1, c1, hv1, hr1⟩ := tok_row hown1
    rw [hv1]
    clear hv1 hown1
    have kw1 := hkw.same hb1
    have HB1 := Lib.hid hb1
    clear hb1 hkw
    generalize Tk.scan s.data.toList = A at *
    obtain ⟨ts, ea, la⟩ := A
    simp only [] at *
    by_cases hea : ea = 0
    · subst hea
      have HG := Lib.hid hg1
      have HR1 := Lib.hid hr1
      clear hg1 hr1 ha2
      go_wp2
      go_loop [6, 7] (fun v i => ∃ k : Nat, k ≤ ts.length ∧ i = .int .i64 k ∧ v = .string (joinS (txts ts k))) (fun _ i => ts.length - (intOf i).toNat)
      case atStart => exact ⟨0, Nat.zero_le _, rfl, rfl⟩
      case round =>
        obtain ⟨k, hk, rfl, rfl⟩ := hrel
        by_cases hlt : k < ts.length
        · obtain ⟨g1, rfl, hgg, y0, y1, y2⟩ := HR1.out k hlt
          have hsn := joinS_snoc (txts ts k) ts[k].text
          rw [← txts_snoc ts k hlt] at hsn
          have HS := Lib.hid hsn
          have z1 := txts_len ts k
          rw [← joinS_size] at z1
          have z3 := txts_len ts (k + 1)
          rw [← joinS_size, ← hsn, ByteArray.size_append, ByteArray.size_append] at z3
          have z4 : (⟨#[32]⟩ : ByteArray).size = 1 := rfl
          rw [z4] at z3
          clear hsn z4
          rw [Lib.size_mk ts[k].text] at z3
          generalize ts[k]'_ = t at *
          have z9 : ¬ 9223372036854775807 < (joinS (txts ts k)).size + t.text.length + 1 := by omega
          go_wp2
          go_round
          case rel => exact ⟨k + 1, by omega, by go_num, congrArg Value.string HS.out⟩
          case measure => simp [intOf]; omega
        · obtain rfl : k = ts.length := by omega
          have hR := scan_txts ts HG.out (by omega)
          have z1 := txts_len ts ts.length
          rw [← joinS_size] at z1
          have hsz : (joinS (txts ts ts.length)).size ≤ maxLen := by unfold maxLen; omega
          go_wp2_with fail
          refine (Scan_at _ _ w1 hR kw1 hsz).mono ?_
          rintro e w2 ⟨v2, rfl, hown2, hb2⟩
          obtain ⟨a2, c2, hv2, hr2⟩ := tok_row hown2
          rw [hv2]
          have hr1' := (HR1.out.below hb2).mono hb2.size
          have HR1' := Lib.hid hr1'
          have HR2 := Lib.hid hr2
          have kw2 := kw1.same hb2
          have hB := HB1.out.trans (hb2.mono HB1.out.size)
          have HB := Lib.hid hB
          simp only [List.length_map]
          clear hR hsz hv2 hown2 hr1' hr2 hB hb2 HR1 kw1 HB1
          go_wp2
          go_loopw [11] (fun i wr => ∃ k m : Nat, k ≤ ts.length ∧ i = .int .i64 k ∧ wr = w2.drewN m) (fun i _ => ts.length - (intOf i).toNat)
          case atStart => exact ⟨0, 0, Nat.zero_le _, rfl, rfl⟩
          case round =>
            obtain ⟨k, m, hk, rfl, rfl⟩ := hrel
            by_cases hlt : k < ts.length
            · obtain ⟨g1, rfl, hgg, y0, y1, y2⟩ := HR1'.out k hlt
              obtain ⟨g2, rfl, hgg2, x0, x1, x2⟩ := HR2.out k (by rw [List.length_map]; exact hlt)
              simp only [List.getElem_map] at x0 x1 x2
              have x0' : w2.cell? ⟨g2, k * 3, none⟩ = some (.int .i64 ts[k].kind) := x0
              have x1' : w2.cell? ⟨g2, k * 3 + 1, none⟩ = some (.string ⟨ts[k].text.toArray⟩) := x1
              have x2' : w2.cell? ⟨g2, k * 3 + 2, none⟩ = some (.int .i64 1) := x2
              clear x0 x1 x2
              generalize ts[k]'_ = t at *
              go_wp2
              go_quiet (fail)
              go_wp2
              go_roundw
              case rel => exact ⟨k + 1, _, by omega, by go_num, rfl⟩
              case measure => simp [intOf]; omega
            · obtain rfl : k = ts.length := by omega
              go_wp2_with (go_at_call 14; refine (awake_any _ (kw2.same (below_drewN (Below.refl _ _) m))).mono ?_; rintro e w4 ⟨rfl, hb4⟩)
              go_ret
              have h2 := (below_drewN HB.out m)
              exact ⟨rfl, h2.trans (hb4.mono h2.size)⟩
    · have q1 : ((ea : Int) == 0) = false := by rw [beq_eq_false_iff_ne]; omega
      have q2 : ((ea : Int) != 0) = true := by rw [bne_iff_ne]; omega
      obtain rfl := ha2 hea
      clear hr1 hg1
      go_wp2
      go_ret
      exact ⟨rfl, HB1.out⟩
end Go.Proofs.YtmnacfdbjlfooaaDoor
