/-
  Contracts of parse.Parse and parse.Expr.
-/
import Derived.Test.YtommnhglgedflaaGreatDoorGRE
import Derived.Test.YtommnhglgedflaaGreatDoorGTC
set_option linter.unusedSimpArgs false
set_option linter.unusedVariables false
namespace Go.Proofs.YtommnhglgedflaaGreatDoor
open Go.RowKit
open Md Pz
theorem tok_len (t : Tk.Tok) : (Tk.Tok.cells t).length = 3 := rfl
theorem tkAt_of {w : World} {g B : Nat} {ts : Toks} (hB : g < B) : ∀ (l : Toks) (k : Nat), (∀ i t, l[i]? = some t → ∀ j u, (Tk.Tok.cells t)[j]? = some u → w.cell? ⟨g, (k + i) * 3 + j, none⟩ = some u) → TkAt w B l (some ⟨g, 0, none⟩) k
  | [], _, _ => trivial
  | t :: r, k, h => by
    have h0 := h 0 t rfl
    refine ⟨⟨g, 0, rfl, hB, ?_, ?_, ?_⟩, tkAt_of (ts := ts) hB r (k + 1) (fun i t' ht j u hu => by rw [show k + 1 + i = k + (i + 1) by omega]; exact h (i + 1) t' (by simpa using ht) j u hu)⟩
    · have := h0 0 _ rfl; rw [Nat.zero_add]; exact this
    · have := h0 1 _ rfl; rw [Nat.zero_add]; exact this
    · have := h0 2 _ rfl; rw [Nat.zero_add]; exact this
/-- The tokens that a scan leaves. -/
theorem tk_of_own {w : World} {base : Nat} {v : Value} {ts : Toks} (h : w.ownsRow base 104 3 v ts.length (Tk.cellsOf ts)) : ∃ ao cap, v = .slice ao ts.length cap ∧ TkAt w w.heap.size ts ao 0 := by
  rcases h.2 with ⟨h1, h2⟩ | ⟨g, cap, cur, h1, hB, hg, hc, -, hs, ht⟩
  · have : ts = [] := by
      cases ts with
      | nil => rfl
      | cons t r => simp at h2
    subst this
    exact ⟨none, 0, h1, trivial⟩
  · refine ⟨some ⟨g, 0, none⟩, cap, h1, tkAt_of (ts := ts) (Array.getElem?_eq_some_iff.1 hg).1 ts 0 (fun i t hi j u hu => ?_)⟩
    have hF := flat_get tok_len ts i t j u hi hu
    have hF' : (Tk.cellsOf ts)[i * 3 + j]? = some u := hF
    rw [← ht] at hF'
    have hlt := (List.getElem?_eq_some_iff.1 hF').1
    rw [List.getElem?_take_of_lt (by rw [List.length_take] at hlt; omega)] at hF'
    rw [Nat.zero_add]
    exact cellb hg (by rw [← hF']; simp)
/-- What Parse leaves. -/
def ParP (N : Nat) (w : World) (r : Pr × Int × Int) (e : Ending) (w' : World) : Prop :=
  ∃ aoD capD aoT capT, e = .returned (.tuple #[.agg #[.slice aoD r.1.ds.length capD, .slice aoT r.1.ts.length capT], .int .i64 r.2.1, .int .i64 r.2.2]) ∧ (r.1.ds.length ≤ 4096 ∧ r.1.ts.length ≤ 4096 ∧ r.1.ds.length ≤ capD ∧ r.1.ts.length ≤ capT) ∧ (DeAt w' w'.heap.size r.1.ds aoD 0 ∧ ThAt w' w'.heap.size r.1.ts aoT 0) ∧ Below w.heap.size w w' ∧ (N ≤ 4096 → r.2.1 ≠ 0 → 1 ≤ r.2.2)
theorem parse_err {s : List UInt8} (h : ¬ (Tk.scan s).2.1 = 0) : parse s = ((⟨[], []⟩ : Pr), ((Tk.scan s).2.1 : Int), ((Tk.scan s).2.2 : Int)) := by unfold parse; rw [if_neg h]
theorem parse_no {s : List UInt8} {rest : Toks} (h : (Tk.scan s).2.1 = 0) (h1 : prog (Tk.scan s).1 = .no rest) : parse s = (⟨[], []⟩, 3, lineAt (Tk.scan s).1 rest) := by unfold parse; rw [if_pos h, h1]
theorem parse_bad {s : List UInt8} {p : Pr} {rest : Toks} (h : (Tk.scan s).2.1 = 0) (h1 : prog (Tk.scan s).1 = .ok p rest) (h2 : (p.ts.isEmpty || !rest.isEmpty) = true) : parse s = (⟨[], []⟩, 3, lineAt (Tk.scan s).1 rest) := by
  unfold parse; rw [if_pos h, h1]; exact if_pos h2
theorem parse_good {s : List UInt8} {p : Pr} {rest : Toks} (h : (Tk.scan s).2.1 = 0) (h1 : prog (Tk.scan s).1 = .ok p rest) (h2 : (p.ts.isEmpty || !rest.isEmpty) = false) : parse s = (p, 0, 0) := by
  unfold parse; rw [if_pos h, h1]; exact if_neg (by rw [h2]; decide)
theorem line_pos {ts rest : Toks} (h : ∀ t ∈ ts, TL 4097 t) {pos : Nat} (hd : ts.drop pos = rest) : (1 : Int) ≤ lineAt ts rest := by
  unfold lineAt
  cases rest with
  | cons t r =>
    have := (h t (List.mem_of_mem_drop (by rw [hd]; exact List.mem_cons_self))).1.1
    dsimp only; omega
  | nil =>
    dsimp only
    cases hl : ts.getLast? with
    | none => decide
    | some t => have := (h t (List.mem_of_getLast? hl)).1.1; dsimp only; omega
theorem par_err {N : Nat} {w W : World} {r : Pr × Int × Int} {n l : Int} (e : r = (⟨[], []⟩, n, l)) (hb : Below w.heap.size w W) (hln : N ≤ 4096 → n ≠ 0 → 1 ≤ l) : ParP N w r (.returned (.tuple #[.agg #[.slice none 0 0, .slice none 0 0], .int .i64 n, .int .i64 l])) W := by
  subst e
  exact ⟨none, 0, none, 0, rfl, ⟨Nat.zero_le _, Nat.zero_le _, Nat.le_refl _, Nat.le_refl _⟩, ⟨trivial, trivial⟩, hb, hln⟩
theorem below_sets {w W : World} (h : Below w.heap.size w W) (o : Nat) (vs : List Value) : Below w.heap.size w (W.setCells w.heap.size o vs) :=
  ⟨(setCells_grown w.heap.size vs o W).os.trans h.os, (setCells_grown w.heap.size vs o W).tape.trans h.tape, (setCells_grown w.heap.size vs o W).output.trans h.output, Nat.le_trans h.size (setCells_grown w.heap.size vs o W).size, fun k hk => ((setCells_grown w.heap.size vs o W).block k (Nat.lt_of_lt_of_le hk h.size) (by simp; omega)).trans (h.block k hk)⟩
theorem par_ok {w W : World} {res : Pr × Int × Int} {p : Pr} {a a' : Option Addr} {n c n' c' : Nat} (e : res = (p, 0, 0)) (hn : n = p.ds.length) (hn' : n' = p.ts.length) (hl : n ≤ 4096 ∧ n' ≤ 4096 ∧ n ≤ c ∧ n' ≤ c') (hst : DeAt W W.heap.size p.ds a 0 ∧ ThAt W W.heap.size p.ts a' 0) (hb : Below w.heap.size w W) {N : Nat} :
    ParP N w res (.returned (.tuple #[.agg #[.slice a n c, .slice a' n' c'], .int .i64 0, .int .i64 0])) W := by
  subst e; subst hn; subst hn'
  exact ⟨a, c, a', c', rfl, hl, hst, hb, fun _ h => absurd rfl h⟩
/-- What the reader's program yields, as Parse goes on with it. -/
def PrgU (R : Rp) (w : World) (ts : Toks) (res : Pr × Int × Int) (e : Ending) (w' : World) : Prop :=
  ∃ (r : Toks) (a : Option Addr) (n c : Nat) (a' : Option Addr) (n' c' : Nat) (b : Bool), e = .returned (.tuple #[.agg #[.slice a n c, .slice a' n' c'], .bool b]) ∧ RdI w' R r ∧ w.grownBy w' (some R.br) ∧
    ((b && r.isEmpty) = false → res = (⟨[], []⟩, 3, lineAt ts r)) ∧
    ((b && r.isEmpty) = true → ∃ p : Pr, res = (p, 0, 0) ∧ n = p.ds.length ∧ n' = p.ts.length ∧ (n ≤ 4096 ∧ n' ≤ 4096 ∧ n ≤ c ∧ n' ≤ c') ∧ Stay w.heap.size w' (fun w2 => DeAt w2 w2.heap.size p.ds a 0 ∧ ThAt w2 w2.heap.size p.ts a' 0))
theorem prg_u {R : Rp} {w w' : World} {ts : Toks} {res : Pr × Int × Int} {e : Ending} {pr : Res Pr}
    (h2 : ∀ rest, pr = .no rest → res = (⟨[], []⟩, 3, lineAt ts rest))
    (h3 : ∀ p rest, pr = .ok p rest → (p.ts.isEmpty || !rest.isEmpty) = true → res = (⟨[], []⟩, 3, lineAt ts rest))
    (h4 : ∀ p rest, pr = .ok p rest → (p.ts.isEmpty || !rest.isEmpty) = false → res = (p, 0, 0)) (h : PrgP R w pr e w') : PrgU R w ts res e w' := by
  cases pr with
  | no r =>
    obtain ⟨⟨a, n, c, a', n', c', he⟩, hr, hg⟩ := h
    exact ⟨r, a, n, c, a', n', c', false, he, hr, hg, fun _ => h2 r rfl, fun h => by simp at h⟩
  | ok p r =>
    obtain ⟨⟨aoD, capD, aoT, capT, he, hl, hst⟩, hr, hg⟩ := h
    refine ⟨r, aoD, _, capD, aoT, _, capT, _, he, hr, hg, fun h => h3 p r rfl ?_, fun h => ⟨p, h4 p r rfl ?_, rfl, rfl, hl, hst⟩⟩
    · cases hp : p.ts.isEmpty <;> cases hq : r.isEmpty <;> simp_all
    · cases hp : p.ts.isEmpty <;> cases hq : r.isEmpty <;> simp_all
/-- A fresh reader. -/
def rdNew (w : World) (ao : Option Addr) (cap : Nat) (ts : Toks) : Rp := ⟨w.heap.size, w.heap.size, ao, cap, ts, Nat.le_refl _⟩
theorem rd_new {w W : World} {ao : Option Addr} {cap : Nat} {ts : Toks} (hW : w.alloc (.cells #[.slice ao ts.length cap, .int .i64 0] 72) = W) (ht : TkAt w w.heap.size ts ao 0) (ok : ∀ t ∈ ts, TOk t) (tl : (∀ t ∈ ts, TL 4097 t) ∧ ts.length ≤ 4096) : RdI W (rdNew w ao cap ts) ts := by
  subst hW
  exact ⟨⟨0, Nat.zero_le _, rfl, heap_alloc_new _ _⟩, ht.below (alloc_below _ _), ⟨ok, tl.2⟩, tl.1⟩
set_option maxHeartbeats 4000000 in
set_option maxRecDepth 100000 in
theorem Parse_any (s : ByteArray) (w : World) (hkw : KwLaid w) (hm : s.size ≤ maxLen) :
    Calls Tryz.prog 14 #[.string s] w (ParP s.size w (parse s.data.toList)) := by
  have HKW := Lib.hid hkw
  have HSC := Lib.hid (scan_ok s.data.toList)
  have HTL := Lib.hid (scan_tl s.data.toList)
  obtain ⟨res, HRES⟩ : ∃ res, Hid (parse s.data.toList = res) := ⟨_, Lib.hid rfl⟩
  have HE1 : Hid (¬ (Tk.scan s.data.toList).2.1 = 0 → res = ((⟨[], []⟩ : Pr), ((Tk.scan s.data.toList).2.1 : Int), ((Tk.scan s.data.toList).2.2 : Int))) := Lib.hid (fun h => HRES.out.symm.trans (parse_err h))
  have HE2 : Hid (∀ rest, (Tk.scan s.data.toList).2.1 = 0 → prog (Tk.scan s.data.toList).1 = .no rest → res = (⟨[], []⟩, 3, lineAt (Tk.scan s.data.toList).1 rest)) := Lib.hid (fun rest h h1 => HRES.out.symm.trans (parse_no h h1))
  have HE3 : Hid (∀ p rest, (Tk.scan s.data.toList).2.1 = 0 → prog (Tk.scan s.data.toList).1 = .ok p rest → (p.ts.isEmpty || !rest.isEmpty) = true → res = (⟨[], []⟩, 3, lineAt (Tk.scan s.data.toList).1 rest)) := Lib.hid (fun p rest h h1 h2 => HRES.out.symm.trans (parse_bad h h1 h2))
  have HE4 : Hid (∀ p rest, (Tk.scan s.data.toList).2.1 = 0 → prog (Tk.scan s.data.toList).1 = .ok p rest → (p.ts.isEmpty || !rest.isEmpty) = false → res = (p, 0, 0)) := Lib.hid (fun p rest h h1 h2 => HRES.out.symm.trans (parse_good h h1 h2))
  have HSN : Hid (∀ w, KwLaid w → Calls Tryz.prog 34 #[.string s] w (ScanPost w (Tk.scan s.data.toList))) := Lib.hid (fun w h => Scan_any s w h hm)
  rw [HRES.out]
  clear HRES hkw hm
  generalize Tk.scan s.data.toList = sc at *
  go_enter Tryz.func14, Tryz.ntmps14
  go_upto_region 1 with fail
  generalize hW : World.alloc w _ = W0
  have HB0 : Hid (Below w.heap.size w W0) := Lib.hid (by rw [← hW]; exact alloc_below _ _)
  have HZ0 : Hid (W0.heap[w.heap.size]? = some (.cells zP2 26 (0, 0))) := Lib.hid (by rw [← hW]; exact heap_alloc_new _ _)
  clear hW
  go_wp2_with fail
  refine (HSN.out _ (HKW.out.same HB0.out)).mono ?_
  rintro e w1 ⟨v, rfl, hown, hb⟩
  obtain ⟨ao, cap, rfl, htk⟩ := tk_of_own hown
  have HTK := Lib.hid htk
  have HB1 := Lib.hid (HB0.out.trans (hb.mono HB0.out.size))
  have HZ1 := Lib.hid ((hb.block _ (Array.getElem?_eq_some_iff.1 HZ0.out).1).trans HZ0.out)
  clear hown hb htk HSN HB0 HZ0
  have y0 : w1.cell? ⟨w.heap.size, 0, none⟩ = some (.slice none 0 0) := cellb HZ1.out rfl
  have y1 : w1.cell? ⟨w.heap.size, 1, none⟩ = some (.slice none 0 0) := cellb HZ1.out rfl
  have f0 : w1.frozen? ⟨w.heap.size, 0, none⟩ = false := free_blk HZ1.out
  have f1 : w1.frozen? ⟨w.heap.size, 1, none⟩ = false := free_blk HZ1.out
  have hlt : w.heap.size < w1.heap.size := (Array.getElem?_eq_some_iff.1 HZ1.out).1
  by_cases h0 : sc.2.1 = 0
  · have HPU : Hid (∀ (R : Rp) (wr : World), RdI wr R sc.1 → Calls Tryz.prog 35 #[.pointer (some ⟨R.br, 0, none⟩)] wr (PrgU R wr sc.1 res)) := Lib.hid (fun R wr h => (program_any R sc.1 wr h).mono (fun e w' hp => prg_u (fun r => HE2.out r h0) (fun p r => HE3.out p r h0) (fun p r => HE4.out p r h0) hp))
    have HTL2 := Lib.hid (And.intro HTL.out.1 HTL.out.2.1)
    rw [h0]
    go_upto_region 5 with fail
    generalize hW : World.alloc w1 _ = W1
    have HR1 := Lib.hid (rd_new hW HTK.out HSC.out HTL2.out)
    have HB2 : Hid (Below w.heap.size w W1) := Lib.hid (by rw [← hW]; exact HB1.out.trans ((alloc_below w1 _).mono HB1.out.size))
    have HZ2 : Hid (W1.heap[w.heap.size]? = some (.cells zP2 26 (0, 0))) := Lib.hid (by rw [← hW]; exact ((alloc_below w1 _).block _ hlt).trans HZ1.out)
    clear hW y0 y1 f0 f1 HE1 HE2 HE3 HE4 HTL HSC HKW HTK HTL2 HB1 HZ1
    go_wp2_with fail
    refine (HPU.out _ _ HR1.out).mono ?_
    rintro e w2 ⟨r, a, n, c, a', n', c', b, rfl, h1, h2, h3, h4⟩
    go_upto_region 6 with fail
    generalize hW : World.alloc w2 _ = W3
    have H3 := Lib.hid h3
    have H4 := Lib.hid h4
    have HG := Lib.hid h2
    have HB3 : Hid (Below w.heap.size w W3) := Lib.hid (by rw [← hW]; exact (HB2.out.trans (grown_below h2 (Nat.le_of_lt hlt) HB2.out.size)).trans ((alloc_below w2 _).mono (Nat.le_trans HB2.out.size h2.size)))
    have HB23 : Hid (Below w2.heap.size w2 W3) := Lib.hid (by rw [← hW]; exact alloc_below w2 _)
    have HR3 : Hid (RdI W3 (rdNew w1 ao cap sc.1) r) := Lib.hid (h1.below HB23.out)
    have HZ3 : Hid (W3.heap[w.heap.size]? = some (.cells zP2 26 (0, 0))) := Lib.hid (by
      have k1 := (Array.getElem?_eq_some_iff.1 HZ2.out).1
      exact (HB23.out.block _ (Nat.lt_of_lt_of_le k1 h2.size)).trans ((h2.block _ k1 (by simp [rdNew]; omega)).trans HZ2.out))
    have HD3 : Hid (W3.heap[w2.heap.size]? = some (.cells #[.slice a n c, .slice a' n' c'] 26 (0, 0))) := Lib.hid (by rw [← hW]; exact heap_alloc_new _ _)
    obtain ⟨pos, hpos, hdrop, c0, c1⟩ := HR3.out.pos
    have c0 : W3.cell? ⟨w1.heap.size, 0, none⟩ = some (.slice ao sc.1.length cap) := c0
    have c1 : W3.cell? ⟨w1.heap.size, 1, none⟩ = some (.int .i64 (pos : Int)) := c1
    have hpos : pos ≤ sc.1.length := hpos
    have hdrop : sc.1.drop pos = r := hdrop
    have hlt3 : w.heap.size < W3.heap.size := (Array.getElem?_eq_some_iff.1 HZ3.out).1
    have hways : b = false ∨ (b = true ∧ r.isEmpty = false ∧ pos < sc.1.length) ∨ (b = true ∧ r.isEmpty = true ∧ ¬ pos < sc.1.length) := by
      cases b
      · exact .inl rfl
      · right
        cases hr : r with
        | nil => rw [hr] at hdrop; have := List.drop_eq_nil_iff.1 hdrop; exact .inr ⟨rfl, rfl, by omega⟩
        | cons t q => rw [hr] at hdrop; have := congrArg List.length hdrop; simp at this; exact .inl ⟨rfl, rfl, by omega⟩
    have hltW : w.heap.size < W1.heap.size := (Array.getElem?_eq_some_iff.1 HZ2.out).1
    clear hW h1 h2 h3 h4 HPU HR1 HZ2 hpos hdrop
    rcases hways with hb | ⟨hb, hr, hq⟩ | ⟨hb, hr, hq⟩
    · subst hb
      go_quiet (fail)
      generalize hW4 : World.drewN W3 _ = W4
      have HB4 : Hid (Below W3.heap.size W3 W4) := Lib.hid (by rw [← hW4]; exact below_drewN (Below.refl _ _) _)
      clear hW4
      have HR4 := Lib.hid (HR3.out.below HB4.out)
      go_wp2_with fail
      refine (line_any _ r _ HR4.out).mono ?_
      rintro e w5 ⟨rfl, hb5⟩
      have HB5 := Lib.hid (HB3.out.trans ((HB4.out.trans (hb5.mono HB4.out.size)).mono HB3.out.size))
      have HZ5 := Lib.hid ((hb5.block _ (Nat.lt_of_lt_of_le hlt3 HB4.out.size)).trans ((HB4.out.block _ hlt3).trans HZ3.out))
      clear hb5
      have y0 : w5.cell? ⟨w.heap.size, 0, none⟩ = some (.slice none 0 0) := cellb HZ5.out rfl
      have y1 : w5.cell? ⟨w.heap.size, 1, none⟩ = some (.slice none 0 0) := cellb HZ5.out rfl
      have f0 : w5.frozen? ⟨w.heap.size, 0, none⟩ = false := free_blk HZ5.out
      have f1 : w5.frozen? ⟨w.heap.size, 1, none⟩ = false := free_blk HZ5.out
      have hlt5 : w.heap.size < w5.heap.size := (Array.getElem?_eq_some_iff.1 HZ5.out).1
      have HRE := Lib.hid (H3.out rfl)
      go_wp2_with fail
      exact bodyPost_ret (v := .tuple #[.agg #[.slice none 0 0, .slice none 0 0], .int .i64 3, .int .i64 (lineAt sc.1 r)]) (by simp [results, Tryz.results14, go_sem, y0, y1, hlt5, rdNew]) rfl (par_err HRE.out (below_set (below_set HB5.out _ _ (Nat.le_refl _)) _ _ (Nat.le_refl _)) (fun _ _ => by obtain ⟨q, _, hq, _⟩ := HR4.out.blk; exact line_pos HR4.out.tl hq))
    · subst hb
      go_quiet (fail)
      generalize hW4 : World.drewN W3 _ = W4
      have HB4 : Hid (Below W3.heap.size W3 W4) := Lib.hid (by rw [← hW4]; exact below_drewN (Below.refl _ _) _)
      clear hW4
      have HR4 := Lib.hid (HR3.out.below HB4.out)
      go_wp2_with fail
      refine (line_any _ r _ HR4.out).mono ?_
      rintro e w5 ⟨rfl, hb5⟩
      have HB5 := Lib.hid (HB3.out.trans ((HB4.out.trans (hb5.mono HB4.out.size)).mono HB3.out.size))
      have HZ5 := Lib.hid ((hb5.block _ (Nat.lt_of_lt_of_le hlt3 HB4.out.size)).trans ((HB4.out.block _ hlt3).trans HZ3.out))
      clear hb5
      have y0 : w5.cell? ⟨w.heap.size, 0, none⟩ = some (.slice none 0 0) := cellb HZ5.out rfl
      have y1 : w5.cell? ⟨w.heap.size, 1, none⟩ = some (.slice none 0 0) := cellb HZ5.out rfl
      have f0 : w5.frozen? ⟨w.heap.size, 0, none⟩ = false := free_blk HZ5.out
      have f1 : w5.frozen? ⟨w.heap.size, 1, none⟩ = false := free_blk HZ5.out
      have hlt5 : w.heap.size < w5.heap.size := (Array.getElem?_eq_some_iff.1 HZ5.out).1
      have HRE := Lib.hid (H3.out (by rw [hr]; rfl))
      go_wp2_with fail
      exact bodyPost_ret (v := .tuple #[.agg #[.slice none 0 0, .slice none 0 0], .int .i64 3, .int .i64 (lineAt sc.1 r)]) (by simp [results, Tryz.results14, go_sem, y0, y1, hlt5, rdNew]) rfl (par_err HRE.out (below_set (below_set HB5.out _ _ (Nat.le_refl _)) _ _ (Nat.le_refl _)) (fun _ _ => by obtain ⟨q, _, hq, _⟩ := HR4.out.blk; exact line_pos HR4.out.tl hq))
    · subst hb
      obtain ⟨p, hres, hn, hn', hl, hst⟩ := H4.out (by rw [hr]; rfl)
      have HP := Lib.hid (And.intro hres (And.intro hn (And.intro hn' (And.intro hl hst))))
      clear hres hn hn' hl hst
      go_quiet (fail)
      generalize hW4 : World.drewN W3 _ = W4
      have HB4 : Hid (Below W3.heap.size W3 W4) := Lib.hid (by rw [← hW4]; exact below_drewN (Below.refl _ _) _)
      clear hW4
      have HZ4 := Lib.hid ((HB4.out.block _ hlt3).trans HZ3.out)
      have HD4 := Lib.hid ((HB4.out.block _ (Array.getElem?_eq_some_iff.1 HD3.out).1).trans HD3.out)
      have y0 : W4.cell? ⟨w.heap.size, 0, none⟩ = some (.slice none 0 0) := cellb HZ4.out rfl
      have y1 : W4.cell? ⟨w.heap.size, 1, none⟩ = some (.slice none 0 0) := cellb HZ4.out rfl
      have f0 : W4.frozen? ⟨w.heap.size, 0, none⟩ = false := free_blk HZ4.out
      have f1 : W4.frozen? ⟨w.heap.size, 1, none⟩ = false := free_blk HZ4.out
      have d0 : W4.cell? ⟨w2.heap.size, 0, none⟩ = some (.slice a n c) := cellb HD4.out rfl
      have d1 : W4.cell? ⟨w2.heap.size, 1, none⟩ = some (.slice a' n' c') := cellb HD4.out rfl
      have hlt4 : w.heap.size < W4.heap.size := (Array.getElem?_eq_some_iff.1 HZ4.out).1
      go_wp2_with fail
      obtain ⟨hres, hn, hn', hl, hst⟩ := HP.out
      have hfin : Abv W1.heap.size w2 ((W4.setCell ⟨w.heap.size, 0, none⟩ (.slice a n c)).setCell ⟨w.heap.size, 1, none⟩ (.slice a' n' c')) :=
        ((abv_below (B := W1.heap.size) (HB23.out.trans (HB4.out.mono HB23.out.size))).trans (abv_set W4 _ _ hltW)).trans (abv_set _ _ _ hltW)
      exact bodyPost_ret (v := .tuple #[.agg #[.slice a n c, .slice a' n' c'], .int .i64 0, .int .i64 0]) (by simp [results, Tryz.results14, go_sem, y0, y1, hlt4]) rfl (par_ok hres hn hn' hl (hst.next hfin).now (below_set (below_set (HB3.out.trans (HB4.out.mono HB3.out.size)) _ _ (Nat.le_refl _)) _ _ (Nat.le_refl _)))
  · have hq : (((sc.2.1 : Nat) : Int) == 0) = false := by rw [beq_eq_false_iff_ne]; omega
    have HRE := Lib.hid (HE1.out h0)
    go_wp2_with fail
    exact bodyPost_ret (v := .tuple #[.agg #[.slice none 0 0, .slice none 0 0], .int .i64 (sc.2.1 : Int), .int .i64 (sc.2.2 : Int)]) (by simp [results, Tryz.results14, go_sem, y0, y1, hlt]) rfl (par_err HRE.out (below_set (below_set HB1.out _ _ (Nat.le_refl _)) _ _ (Nat.le_refl _)) (fun hn h => by have := HTL.out.2.2 h0 (by rw [← Lib.size_eq]; exact hn); omega))
end Go.Proofs.YtommnhglgedflaaGreatDoor
