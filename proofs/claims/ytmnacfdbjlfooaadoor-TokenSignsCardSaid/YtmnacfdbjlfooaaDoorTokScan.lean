/-
  Contract of token.Scan.
-/
import Derived.Test.YtmnacfdbjlfooaaDoorTokFst2
import Derived.Test.YtmnacfdbjlfooaaDoorTokStep
namespace Go.Proofs.YtmnacfdbjlfooaaDoor
open Go.RowKit

theorem Tryd.infoTok : (Tryd.prog.info? 27).map (fun i => (i.zero, i.size, i.bytes)) = some (some (.agg #[.int .i64 0, .string ⟨#[]⟩, .int .i64 0]), 3, 32) := by kernel_rfl

/-- What a scan leaves: the slice of tokens is the call's own; the error and its line. -/
def ScanPost (w : World) (r : List Tk.Tok × Nat × Nat) (e : Ending) (w' : World) : Prop :=
  ∃ v : Value, e = .returned (.tuple #[v, .int .i64 r.2.1, .int .i64 r.2.2]) ∧ w'.ownsRow w.heap.size 27 3 v r.1.length (Tk.cellsOf r.1) ∧ Below w.heap.size w w'

theorem own_below {w w' : World} {base : Nat} {e : TypeId} {size : Nat} {v : Value} {n : Nat} {xs : List Value} (h : w.ownsRow base e size v n xs) (hb : Below w.heap.size w w') : w'.ownsRow base e size v n xs :=
  h.kept (row := none) ⟨hb.os, hb.tape, hb.output, hb.size, fun i hi _ => hb.block i hi⟩ (by cases hv : v.ownBlock <;> simp)

/-- A block that was laid just ahead of an append is as it was. -/
theorem tok_cell {w1 w2 : World} {base : Nat} {e : TypeId} {size : Nat} {u : Value} {n : Nat} {xs : List Value} (h : w1.ownsRow base e size u n xs) (cs : Array Value) (t : TypeId) (o : Obj)
    (hg : ((w1.alloc (.cells cs t)).alloc o).grownBy w2 u.ownBlock) (j : Nat) : w2.cell? ⟨w1.heap.size, j, none⟩ = cs[j]? := by
  have e1 : w2.heap[w1.heap.size]? = ((w1.alloc (.cells cs t)).alloc o).heap[w1.heap.size]? := hg.block _ (by simp; omega) (fun e => by have := (h.lt _ e.symm).2; omega)
  have e2 : ((w1.alloc (.cells cs t)).alloc o).heap[w1.heap.size]? = some (.cells cs t (0, 0)) := by
    rw [Below.heap_alloc _ _ _ (by simp)]
    exact heap_alloc_new w1 _
  exact cell_of_row w2 w1.heap.size j cs t (0, 0) (e1.trans e2)
theorem tok_below {B : Nat} {w w1 w2 : World} {e : TypeId} {size : Nat} {u : Value} {n : Nat} {xs : List Value} (h : w1.ownsRow B e size u n xs) (hb : Below B w w1) (hB : B ≤ w1.heap.size) (o1 o2 : Obj)
    (hg : ((w1.alloc o1).alloc o2).grownBy w2 u.ownBlock) : Below B w w2 :=
  ((hb.alloc hB o1).alloc (by simp; omega) o2).grown hg (by simp; omega) (fun k hk => (h.lt _ hk).1)

/-- Tests on a string's end, of no program. -/
def pre2 (s : ByteArray) : Bool := [47, 47].isPrefixOf s.data.toList
def cmtB (s : ByteArray) : Nat := Tk.cmt s.data.toList
theorem HasPrefix_slash (s : ByteArray) (w : World) :
    Calls Tryd.prog 19 #[.string s, .string ⟨#[47, 47]⟩] w fun e w' => e = .returned (.bool (pre2 s)) ∧ w = w' := HasPrefix_any s _ w
theorem comment_b (s : ByteArray) (w : World) (hs : s.size ≤ 4096) :
    Calls Tryd.prog 20 #[.string s] w fun e w' => e = .returned (.int .i64 (cmtB s)) ∧ w = w' := comment_any s w hs
theorem tail_data (s : ByteArray) (k : Nat) : (s.extract k s.size).data.toList = s.data.toList.drop k := by
  rw [Lib.extract_data, List.take_of_length_le (by rw [List.length_drop, Lib.size_eq]; exact Nat.le_refl _)]

theorem not10 (c : UInt8) (h : c ≠ 10) : ((c.toNat : Int) == 10) = false := by
  rw [beq_eq_false_iff_ne]; intro e; exact h (UInt8.toNat_inj.1 (by rw [show c.toNat = 10 from by omega]; rfl))
theorem blank_parts (c : UInt8) : ((c = 32 ∨ c = 9 ∨ c = 13) ∧ (((c.toNat : Int) == 32) = true ∨ (((c.toNat : Int) == 32) = false ∧ ((c.toNat : Int) == 9) = true) ∨ (((c.toNat : Int) == 32) = false ∧ ((c.toNat : Int) == 9) = false ∧ ((c.toNat : Int) == 13) = true))) ∨
    (¬ (c = 32 ∨ c = 9 ∨ c = 13) ∧ ((c.toNat : Int) == 32) = false ∧ ((c.toNat : Int) == 9) = false ∧ ((c.toNat : Int) == 13) = false) := by
  by_cases h1 : c = 32
  · subst h1; left; exact ⟨.inl rfl, .inl rfl⟩
  · by_cases h2 : c = 9
    · subst h2; left; exact ⟨.inr (.inl rfl), .inr (.inl ⟨rfl, rfl⟩)⟩
    · by_cases h3 : c = 13
      · subst h3; left; exact ⟨.inr (.inr rfl), .inr (.inr ⟨rfl, rfl, rfl⟩)⟩
      · right
        have nb : ∀ x : UInt8, c ≠ x → ((c.toNat : Int) == (x.toNat : Int)) = false := by
          intro x h; rw [beq_eq_false_iff_ne]; intro e; exact h (UInt8.toNat_inj.1 (by omega))
        exact ⟨by simp [h1, h2, h3], nb 32 h1, nb 9 h2, nb 13 h3⟩

set_option maxHeartbeats 4000000 in
theorem Scan_any (s : ByteArray) (w : World) (hkw : KwLaid w) (hm : s.size ≤ maxLen) :
    Calls Tryd.prog 11 #[.string s] w (ScanPost w (Tk.scan s.data.toList)) := by
  have hsz := Lib.size_eq s
  unfold maxLen at hm
  by_cases hbig : 4096 < s.size
  · have HR : Hid (Tk.scan s.data.toList = ([], 2, 0)) := by apply Lib.hid; unfold Tk.scan; rw [if_pos (by omega)]
    clear hsz
    go_enter Tryd.func11, Tryd.ntmps11
    go_wp2
    go_ret3
    rw [HR.out]
    exact ⟨_, rfl, World.ownsRow_nil _ _ _ _, Below.refl _ _⟩
  · have HR : Hid (Tk.scan s.data.toList = Tk.scanA s.data.toList.length s.data.toList 1 []) := by apply Lib.hid; unfold Tk.scan; rw [if_neg (by omega)]
    have hst := Tk.SP.start s.data.toList
    rw [← HR.out] at hst
    generalize Tk.scan s.data.toList = R at *
    clear HR hsz
    obtain ⟨i0, hi, hz0, hz1, hz2⟩ := info_parts Tryd.infoTok
    have hs : s.size ≤ 4096 := by omega
    clear hbig hm
    go_enter Tryd.func11, Tryd.ntmps11
    go_wp2
    go_loopw [5, 6, 7] (fun v ln i wr => ∃ (k line : Nat) (acc : List Tk.Tok), i = .int .i64 k ∧ ln = .int .i64 line ∧ Tk.SP s.data.toList R k line acc ∧
      wr.ownsRow w.heap.size 27 3 v acc.length (Tk.cellsOf acc) ∧ Below w.heap.size w wr) (fun _ _ i _ => s.size - (intOf i).toNat)
    case atStart => exact ⟨0, 1, [], rfl, rfl, hst, World.ownsRow_nil _ _ _ _, Below.refl _ _⟩
    case round =>
      obtain ⟨k, line, acc, rfl, rfl, hsp, hown, hbel⟩ := hrel
      clear hst
      have hk : k ≤ s.size := by rw [Lib.size_eq]; exact hsp.1
      have hline : line ≤ k + 1 := hsp.2.1
      by_cases hlt : k < s.size
      · have hlt' : k < s.data.toList.length := by rw [← Lib.size_eq]; exact hlt
        have hget : s.data.toList[k] = s[k] := rfl
        by_cases h10 : s[k] = 10
        · have hnx := hsp.nl hlt' h10
          have hb : ((s[k].toNat : Int) == 10) = true := by rw [h10]; rfl
          clear h10 hget
          go_wp2
          go_roundw
          case rel => exact ⟨k + 1, line + 1, acc, by go_num, by go_num, hnx, hown, hbel⟩
          case measure => simp [intOf]; omega
        · have hb := not10 _ h10
          rcases blank_parts s[k] with ⟨hbl, hcase⟩ | ⟨hbl, t1, t2, t3⟩
          · have hnx := hsp.blank hlt' hbl
            clear h10 hget hbl
            rcases hcase with t1 | ⟨t1, t2⟩ | ⟨t1, t2, t3⟩
            all_goals
              go_wp2
              go_roundw
              case rel => exact ⟨k + 1, line, acc, by go_num, rfl, hnx, hown, hbel⟩
              case measure => simp [intOf]; omega
          · have hts : (s.extract k s.size).size = s.size - k := by simp
            have hkwr : KwLaid wr := hkw.below hbel hkw.lt
            cases hp : pre2 (s.extract k s.size)
            · have hp' : [47, 47].isPrefixOf (s.data.toList.drop k) = false := by rw [← tail_data]; exact hp
              have hte : (s.extract k s.size).size ≤ 4096 := by omega
              have ht0 : 0 < (s.extract k s.size).size := by omega
              have hok := fun h4 => hsp.tok hlt' h10 hbl hp' h4
              have herr := fun h4 => hsp.err hlt' h10 hbl hp' h4
              have Hd := Lib.hid (tail_data s k)
              clear h10 hget hbl hp' hts
              generalize hr : Tk.first (s.data.toList.drop k) = r at *
              have Hr := Lib.hid hr
              clear hr
              obtain ⟨en, kind, text⟩ := r
              by_cases he : en = 0
              · subst he
                obtain ⟨hnx, htl⟩ := hok rfl
                simp only [] at hnx htl
                clear hok herr
                have hle : k + text.length ≤ s.size := by have := hnx.1; rw [← Lib.size_eq] at this; exact this
                have hacc : acc.length ≤ 4096 := by have := hsp.2.2.1; omega
                have hth : (⟨text.toArray⟩ : ByteArray).size = text.length := Lib.size_mk _
                go_wp2_with (go_at_call 19; refine (HasPrefix_slash _ _).mono ?_; rintro e w' ⟨rfl, rfl⟩)
                refine (first_any _ _ hte ht0 hkwr).mono ?_
                rintro e w1 ⟨rfl, hb1⟩
                rw [Hd.out, Hr.out]
                unfold tokV
                have hown1 := own_below hown hb1
                have hbs := hbel.size
                have hbs1 := hb1.size
                go_wp2_with (at_builtin; refine wpList_append_own _ rfl _ _ 22 rfl w.heap.size 27 i0 _ 3 32 Tryd.underlying22 hi hz0 hz1 hz2 rfl (by decide) _ _ _ rfl ((hown1.alloc _).alloc _) ⟨w1.heap.size + 1, 0, none⟩ 1 1 [.int .i64 kind, .string ⟨text.toArray⟩, .int .i64 line] rfl rfl ?c1 ?c2 ?c3 ?c4 ?c5 ?_)
                case c1 =>
                  intro j u hj
                  match j, hj with
                  | 0, hj => simp at hj; subst hj; simp [Addr.add]
                  | 1, hj => simp at hj; subst hj; simp [Addr.add]
                  | 2, hj => simp at hj; subst hj; simp [Addr.add]
                case c2 => intro u hu; simp at hu; rcases hu with rfl | rfl | rfl <;> rfl
                case c3 => unfold maxLen; omega
                case c4 => omega
                case c5 => simp; omega
                intro v' w2 hown2 hgrow2 _
                have hcell := tok_cell hown1 _ _ _ hgrow2 1
                have hbel2 := tok_below hown1 (hbel.trans (hb1.mono hbs)) (by omega) _ _ hgrow2
                have hown3 : w2.ownsRow w.heap.size 27 3 v' (acc ++ [(⟨kind, text, line⟩ : Tk.Tok)]).length (Tk.cellsOf (acc ++ [(⟨kind, text, line⟩ : Tk.Tok)])) := by
                  rw [Tk.cells_append, Tk.cells_one, List.length_append]; exact hown2
                clear hown2 hgrow2 hown1 hown hb1 hbel hi hz0 hz1 hz2
                simp only [List.getElem?_toArray, List.getElem?_cons_succ, List.getElem?_cons_zero] at hcell
                go_wp2
                go_roundw
                case rel => exact ⟨k + text.length, line, _, by go_num, rfl, hnx, hown3, hbel2⟩
                case measure => simp [intOf]; omega
              · have hR := Lib.hid (herr he)
                have he1 : ((en : Int) == 0) = false := by rw [beq_eq_false_iff_ne]; omega
                have he2 : ((en : Int) != 0) = true := by rw [bne_iff_ne]; omega
                clear hok herr he
                go_wp2_with (go_at_call 19; refine (HasPrefix_slash _ _).mono ?_; rintro e w' ⟨rfl, rfl⟩)
                refine (first_any _ _ hte ht0 hkwr).mono ?_
                rintro e w1 ⟨rfl, hb1⟩
                rw [Hd.out, Hr.out]
                unfold tokV
                have hbs := hbel.size
                go_wp2
                go_ret3
                rw [hR.out]
                exact ⟨_, rfl, World.ownsRow_nil _ _ _ _, (hbel.trans (hb1.mono hbs)).alloc (by have := hb1.size; omega) _⟩
            · have hp' : [47, 47].isPrefixOf (s.data.toList.drop k) = true := by rw [← tail_data]; exact hp
              obtain ⟨hnx, hc1⟩ := hsp.cmt hlt' h10 hbl hp'
              rw [← tail_data] at hnx hc1
              have hc1' : 1 ≤ cmtB (s.extract k s.size) := hc1
              have hle : k + cmtB (s.extract k s.size) ≤ s.size := by have := hnx.1; rw [← Lib.size_eq] at this; exact this
              have hte : (s.extract k s.size).size ≤ 4096 := by omega
              clear h10 hget hbl hp' hc1 hts
              go_wp2_with (first | (go_at_call 19; refine (HasPrefix_slash _ _).mono ?_; rintro e w' ⟨rfl, rfl⟩) | (go_at_call 20; refine (comment_b _ _ hte).mono ?_; rintro e w' ⟨rfl, rfl⟩))
              go_roundw
              case rel => exact ⟨k + cmtB (s.extract k s.size), line, acc, by go_num, rfl, hnx, hown, hbel⟩
              case measure => simp [intOf]; omega
      · have hR := Lib.hid (hsp.done (by rw [← Lib.size_eq]; exact hlt))
        go_wp2
        go_ret3
        rw [hR.out]
        exact ⟨_, rfl, hown, hbel⟩
end Go.Proofs.YtmnacfdbjlfooaaDoor
