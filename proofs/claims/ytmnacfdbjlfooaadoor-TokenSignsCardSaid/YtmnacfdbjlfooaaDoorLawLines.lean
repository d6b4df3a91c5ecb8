/-
  The walk of the law TokenLines.
-/
import Derived.Test.YtmnacfdbjlfooaaDoorLawComments
namespace Go.Proofs.YtmnacfdbjlfooaaDoor
open Go.RowKit

theorem nls_take (s : ByteArray) (k : Nat) (h : k < s.size) : Tk.nls (s.data.toList.take (k + 1)) = Tk.nls (s.data.toList.take k) + if s[k] = 10 then 1 else 0 := by
  rw [take_snoc s k h, Tk.nls_append, Tk.nls_cons]
  simp [Tk.nls]
theorem nls_le (l : List UInt8) : Tk.nls l ≤ l.length := List.count_le_length

/-- What is known of every scan. -/
theorem scanA_ok (l : List UInt8) (R : List Tk.Tok × Nat × Nat) : ∀ (f : Nat) (k line : Nat) (acc : List Tk.Tok), Tk.SP l R k line acc → (∀ t ∈ acc, t.line ≤ l.length + 1) → l.length - k ≤ f →
    R.2.2 ≤ l.length + 1 ∧ (R.2.1 ≠ 0 → R.1 = []) ∧ ∀ t ∈ R.1, t.line ≤ l.length + 1 := by
  intro f
  induction f with
  | zero =>
    intro k line acc h ha hf
    have := h.done (by have := h.1; omega)
    rw [this]
    exact ⟨Nat.zero_le _, fun h => absurd rfl h, ha⟩
  | succ f ih =>
    intro k line acc h ha hf
    by_cases hk : k < l.length
    · have hline := h.2.1
      by_cases h10 : l[k] = 10
      · exact ih _ _ _ (h.nl hk h10) ha (by omega)
      · by_cases hb : l[k] = 32 ∨ l[k] = 9 ∨ l[k] = 13
        · exact ih _ _ _ (h.blank hk hb) ha (by omega)
        · cases hp : [47, 47].isPrefixOf (l.drop k)
          · by_cases he : (Tk.first (l.drop k)).1 = 0
            · obtain ⟨h1, h2⟩ := h.tok hk h10 hb hp he
              refine ih _ _ _ h1 (fun t ht => ?_) (by omega)
              rw [List.mem_append] at ht
              rcases ht with ht | ht
              · exact ha t ht
              · rw [List.mem_singleton] at ht
                subst ht
                show line ≤ _
                omega
            · rw [h.err hk h10 hb hp he]
              exact ⟨by show line ≤ _; omega, fun _ => rfl, fun t ht => by cases ht⟩
          · obtain ⟨h1, h2⟩ := h.cmt hk h10 hb hp
            exact ih _ _ _ h1 ha (by omega)
    · rw [h.done hk]
      exact ⟨Nat.zero_le _, fun h => absurd rfl h, ha⟩
theorem scan_ok (l : List UInt8) : (Tk.scan l).2.2 ≤ 4097 ∧ ((Tk.scan l).2.1 ≠ 0 → (Tk.scan l).1 = []) ∧ ∀ t ∈ (Tk.scan l).1, t.line ≤ 4097 := by
  unfold Tk.scan
  split
  · exact ⟨Nat.zero_le _, fun _ => rfl, fun t ht => by cases ht⟩
  · have := scanA_ok l _ l.length 0 1 [] (Tk.SP.start l) (fun t ht => by cases ht) (by omega)
    exact ⟨by omega, this.2.1, fun t ht => by have := this.2.2 t ht; omega⟩

/-- A row of tokens in memory below a block number. -/
def TokRow (w : World) (B : Nat) (ao : Option Addr) (ts : List Tk.Tok) : Prop :=
  ∀ k (hk : k < ts.length), ∃ g, ao = some ⟨g, 0, none⟩ ∧ g < B ∧ w.cell? ⟨g, k * 3, none⟩ = some (.int .i64 ts[k].kind) ∧ w.cell? ⟨g, k * 3 + 1, none⟩ = some (.string ⟨ts[k].text.toArray⟩) ∧ w.cell? ⟨g, k * 3 + 2, none⟩ = some (.int .i64 ts[k].line)
theorem TokRow.below {w w' : World} {B : Nat} {ao : Option Addr} {ts : List Tk.Tok} (h : TokRow w B ao ts) (hb : Below B w w') : TokRow w' B ao ts := by
  intro k hk
  obtain ⟨g, e, hg, c0, c1, c2⟩ := h k hk
  exact ⟨g, e, hg, (hb.cell hg).trans c0, (hb.cell hg).trans c1, (hb.cell hg).trans c2⟩
theorem TokRow.mono {w : World} {B B' : Nat} {ao : Option Addr} {ts : List Tk.Tok} (h : TokRow w B ao ts) (hB : B ≤ B') : TokRow w B' ao ts := by
  intro k hk
  obtain ⟨g, e, hg, c⟩ := h k hk
  exact ⟨g, e, by omega, c⟩
theorem tok_row {w : World} {base : Nat} {v : Value} {ts : List Tk.Tok} (h : w.ownsRow base 27 3 v ts.length (Tk.cellsOf ts)) : ∃ ao cap, v = .slice ao ts.length cap ∧ TokRow w w.heap.size ao ts := by
  obtain ⟨ao, cap, rfl, hc⟩ := own_any h
  refine ⟨ao, cap, rfl, fun k hk => ?_⟩
  obtain ⟨g, e, _, hg, hcell⟩ := hc k hk
  obtain ⟨h0, h1, h2⟩ := cells_at ts k hk
  exact ⟨g, e, hg, (hcell _ (by omega)).trans h0, (hcell _ (by omega)).trans h1, (hcell _ (by omega)).trans h2⟩

set_option maxRecDepth 100000 in
set_option maxHeartbeats 4000000 in
theorem TokenLines_walk (a : ByteArray) (ha : a.size ≤ maxLen) (b : ByteArray) (hb : b.size ≤ maxLen) (w : World) (hkw : KwLaid w) :
    Calls Tryd.prog 7 #[.string a, .string b] w fun e w' => e = .returned (.bool true) ∧ Below w.heap.size w w' := by
  have hm := ha
  have hm2 := hb
  unfold maxLen at hm hm2
  by_cases hbig : 500 < a.size
  · go_enter Tryd.func7, Tryd.ntmps7
    go_wp2
    go_ret
    exact ⟨rfl, Below.refl _ _⟩
  · by_cases hbig2 : 500 < b.size
    · go_enter Tryd.func7, Tryd.ntmps7
      go_wp2
      go_ret
      exact ⟨rfl, Below.refl _ _⟩
    · have hsc := Tk.scan_lines a.data.toList b.data.toList (by rw [← Lib.size_eq]; omega) (by rw [← Lib.size_eq]; omega)
      have hRc : Tk.scan (a ++ (⟨#[10]⟩ : ByteArray) ++ b).data.toList = Tk.scan (a.data.toList ++ 10 :: b.data.toList) := by
        rw [ByteArray.data_append, ByteArray.data_append, Array.toList_append, Array.toList_append, List.append_assoc]
        rfl
      rw [hsc] at hRc
      clear hsc
      have HRc := Lib.hid hRc
      clear hRc
      have hsz : (a ++ (⟨#[10]⟩ : ByteArray) ++ b).size ≤ maxLen := by rw [ByteArray.size_append, ByteArray.size_append]; show a.size + 1 + b.size ≤ _; unfold maxLen; omega
      go_enter Tryd.func7, Tryd.ntmps7
      go_wp2
      go_loop [5, 6] (fun v i => ∃ k n : Nat, k ≤ a.size ∧ i = .int .i64 k ∧ v = .int .i64 n ∧ n = 1 + Tk.nls (a.data.toList.take k)) (fun _ i => a.size - (intOf i).toNat)
      case atStart => exact ⟨0, 1, Nat.zero_le _, rfl, rfl, rfl⟩
      case round =>
        obtain ⟨k, n, hk, rfl, rfl, hn⟩ := hrel
        have hnk : n ≤ 501 := by
          have := nls_le (a.data.toList.take k)
          rw [List.length_take] at this
          omega
        have HN := Lib.hid hn
        clear hn
        by_cases hlt : k < a.size
        · have hnx := nls_take a k hlt
          by_cases h10 : a[k] = 10
          · have hbb : ((a[k].toNat : Int) == 10) = true := by rw [h10]; rfl
            rw [if_pos h10] at hnx
            have HX := Lib.hid hnx
            clear h10 hnx
            go_wp2
            go_round
            case rel => exact ⟨k + 1, n + 1, by omega, by go_num, by go_num, by rw [HX.out, HN.out]; omega⟩
            case measure => simp [intOf]; omega
          · have hbb := not10 _ h10
            rw [if_neg h10] at hnx
            have HX := Lib.hid hnx
            clear h10 hnx
            go_wp2
            go_round
            case rel => exact ⟨k + 1, n, by omega, by go_num, rfl, by rw [HX.out, HN.out]; rfl⟩
            case measure => simp [intOf]; omega
        · obtain rfl : k = a.size := by omega
          have HNN : Hid (Tk.nls a.data.toList + 1 = n) := by
            apply Lib.hid
            rw [HN.out, Lib.size_eq, List.take_length]; omega
          clear HN
          go_wp2_with fail
          refine (Scan_any a w hkw ha).mono ?_
          rintro e w1 ⟨v1, rfl, hown1, hb1⟩
          go_wp2_with fail
          refine (Scan_any b w1 (hkw.same hb1) hb).mono ?_
          rintro e w2 ⟨v2, rfl, hown2, hb2⟩
          go_wp2_with fail
          refine (Scan_at _ _ w2 HRc.out ((hkw.same hb1).same hb2) hsz).mono ?_
          rintro e w3 ⟨v3, rfl, hown3, hb3⟩
          rw [HNN.out] at hown3 ⊢
          have hl1 := scan_len a.data.toList
          have hl2 := scan_len b.data.toList
          obtain ⟨ha1, ha2, ha3⟩ := scan_ok a.data.toList
          obtain ⟨hb1', hb2', hb3'⟩ := scan_ok b.data.toList
          have kw3 := ((hkw.same hb1).same hb2).same hb3
          have hB2 := hb1.trans (hb2.mono hb1.size)
          have hB3 := hB2.trans (hb3.mono hB2.size)
          have HB := Lib.hid hB3
          obtain ⟨a1, c1, hv1, hr1⟩ := tok_row hown1
          obtain ⟨a2, c2, hv2, hr2⟩ := tok_row hown2
          have hr1' := ((hr1.below hb2).mono hb2.size).below hb3
          have hr1'' := hr1'.mono hb3.size
          have hr2' := (hr2.below hb3).mono hb3.size
          obtain ⟨a3, c3, hv3, hr3⟩ := tok_row hown3
          rw [hv1, hv2, hv3]
          clear hv1 hv2 hv3 hr1 hr2 hr1' hown1 hown2 hown3 hB2 hB3 hb1 hb2 hb3 HRc HNN hkw
          generalize Tk.scan a.data.toList = A at *
          generalize Tk.scan b.data.toList = B at *
          obtain ⟨ta, ea, la⟩ := A
          obtain ⟨tb, eb, lb⟩ := B
          simp only [] at *
          by_cases hea : ea = 0
          · subst hea
            by_cases heb : eb = 0
            · subst heb
              simp only [if_pos] at *
              have h3 : ∀ k, (hk : k < ta.length) → ∃ g, a3 = some ⟨g, 0, none⟩ ∧ g < w3.heap.size ∧ w3.cell? ⟨g, k * 3, none⟩ = some (.int .i64 ta[k].kind) ∧ w3.cell? ⟨g, k * 3 + 1, none⟩ = some (.string ⟨ta[k].text.toArray⟩) ∧ w3.cell? ⟨g, k * 3 + 2, none⟩ = some (.int .i64 ta[k].line) := fun k hk => by
                have := hr3 k (by rw [List.length_append]; omega)
                rw [List.getElem_append_left hk] at this
                exact this
              have h4 : ∀ k, (hk : k < tb.length) → ∃ g, a3 = some ⟨g, 0, none⟩ ∧ g < w3.heap.size ∧ w3.cell? ⟨g, (ta.length + k) * 3, none⟩ = some (.int .i64 tb[k].kind) ∧ w3.cell? ⟨g, (ta.length + k) * 3 + 1, none⟩ = some (.string ⟨tb[k].text.toArray⟩) ∧ w3.cell? ⟨g, (ta.length + k) * 3 + 2, none⟩ = some (.int .i64 ((tb[k].line : Int) + (n : Int))) := fun k hk => by
                have := hr3 (ta.length + k) (by rw [List.length_append, List.length_map]; omega)
                rw [List.getElem_append_right (by omega)] at this
                simp only [Nat.add_sub_cancel_left, List.getElem_map] at this
                exact this
              have H3 := Lib.hid h3
              have H4 := Lib.hid h4
              have HR1 := Lib.hid hr1''
              have HR2 := Lib.hid hr2'
              have HL2 := Lib.hid hb3'
              rw [List.length_append, List.length_map]
              clear hr1'' hr2' hr3 h3 h4 hb3' ha3 ha2 hb2' ha1 hb1'
              have q1 : (((ta.length + tb.length : Nat) : Int) != (ta.length : Int) + (tb.length : Int)) = false := by simp
              go_wp2
              clear q1
              go_loopw [16] (fun i wr => ∃ k : Nat, k ≤ ta.length + tb.length ∧ i = .int .i64 k ∧ Below w3.heap.size w3 wr) (fun i _ => ta.length + tb.length - (intOf i).toNat)
              case atStart => exact ⟨0, Nat.zero_le _, rfl, Below.refl _ _⟩
              case round =>
                obtain ⟨k, hk, rfl, hbel⟩ := hrel
                by_cases hlt : k < ta.length + tb.length
                · by_cases hta : k < ta.length
                  · obtain ⟨g3, rfl, hg3, x0, x1, x2⟩ := H3.out k hta
                    obtain ⟨g1, rfl, hg1, y0, y1, y2⟩ := HR1.out k hta
                    rw [← hbel.cell hg3] at x0 x1 x2
                    rw [← hbel.cell hg1] at y0 y1 y2
                    have q1 : decide ((k : Int) < (ta.length : Int)) = true := by simp; omega
                    generalize ta[k]'_ = t at *
                    go_wp2
                    go_quiet (fail)
                    go_wp2
                    go_roundw
                    case rel => exact ⟨k + 1, by omega, by go_num, below_drewN hbel _⟩
                    case measure => simp [intOf]; omega
                  · have hj : k - ta.length < tb.length := by omega
                    obtain ⟨g3, rfl, hg3, x0, x1, x2⟩ := H4.out _ hj
                    obtain ⟨g2, rfl, hg2, y0, y1, y2⟩ := HR2.out _ hj
                    rw [← hbel.cell hg3, show ta.length + (k - ta.length) = k from by omega] at x0 x1 x2
                    rw [← hbel.cell hg2] at y0 y1 y2
                    have q1 : decide (k < ta.length) = false := decide_eq_false hta
                    have hln := HL2.out _ (List.getElem_mem hj)
                    have hbs := hbel.size
                    generalize tb[k - ta.length]'_ = t at *
                    go_wp2
                    go_quiet (fail)
                    have x0' : (wr.drewN nq).cell? ⟨g3, k * 3, none⟩ = some (.int .i64 t.kind) := x0
                    have x1' : (wr.drewN nq).cell? ⟨g3, k * 3 + 1, none⟩ = some (.string ⟨t.text.toArray⟩) := x1
                    have x2' : (wr.drewN nq).cell? ⟨g3, k * 3 + 2, none⟩ = some (.int .i64 ((t.line : Int) + (n : Int))) := x2
                    have y0' : (wr.drewN nq).cell? ⟨g2, (k - ta.length) * 3, none⟩ = some (.int .i64 t.kind) := y0
                    have y1' : (wr.drewN nq).cell? ⟨g2, (k - ta.length) * 3 + 1, none⟩ = some (.string ⟨t.text.toArray⟩) := y1
                    have y2' : (wr.drewN nq).cell? ⟨g2, (k - ta.length) * 3 + 2, none⟩ = some (.int .i64 t.line) := y2
                    have hbel' := below_drewN hbel nq
                    clear x0 x1 x2 y0 y1 y2 hbel hbs q1
                    generalize wr.drewN nq = wq at *
                    have hbs := hbel'.size
                    have hn3 : g3 ≠ wq.heap.size := by omega
                    have hl3 : g3 < wq.heap.size := by omega
                    have hl2' : g2 < wq.heap.size := by omega
                    go_wp2
                    go_quiet (fail)
                    go_wp2
                    go_roundw
                    case rel => exact ⟨k + 1, by omega, by go_num, below_drewN (hbel'.alloc hbs _) _⟩
                    case measure => simp [intOf]; omega
                · obtain rfl : k = ta.length + tb.length := by omega
                  go_wp2_with (go_at_call 14; refine (awake_any _ (kw3.same hbel)).mono ?_; rintro e w4 ⟨rfl, hb4⟩)
                  go_ret
                  have h1 := HB.out.trans (hbel.mono HB.out.size)
                  exact ⟨rfl, h1.trans (hb4.mono h1.size)⟩
            · have q1 : ((eb : Int) == 0) = false := by rw [beq_eq_false_iff_ne]; omega
              have q2 : ((eb : Int) != 0) = true := by rw [bne_iff_ne]; omega
              simp only [if_pos, if_neg heb] at *
              go_wp2_with (go_at_call 14; refine (awake_any _ kw3).mono ?_; rintro e w4 ⟨rfl, hb4⟩)
              go_ret
              exact ⟨rfl, HB.out.trans (hb4.mono HB.out.size)⟩
          · have q1 : ((ea : Int) == 0) = false := by rw [beq_eq_false_iff_ne]; omega
            have q2 : ((ea : Int) != 0) = true := by rw [bne_iff_ne]; omega
            obtain rfl := ha2 hea
            simp only [if_neg hea] at *
            go_wp2_with (go_at_call 14; refine (awake_any _ kw3).mono ?_; rintro e w4 ⟨rfl, hb4⟩)
            go_ret
            exact ⟨rfl, HB.out.trans (hb4.mono HB.out.size)⟩
end Go.Proofs.YtmnacfdbjlfooaaDoor
