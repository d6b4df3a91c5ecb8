/-
  A program, an expression as an argument: from what the row reads to the data of this proof.
-/
import Derived.Test.YtommnhglgedflaaGreatDoorGMA
import Derived.ProofKit
import Derived.OpenShut
import Derived.ChangeArms
import Derived.Deep.Slices
set_option maxRecDepth 100000
set_option linter.unusedVariables false
set_option linter.unusedSimpArgs false
namespace Go.Proofs.YtommnhglgedflaaGreatDoor
open Go.ChangeShapes Go.WideShapes Go.ChangeAt Go.RowKit
open Md
theorem cellsExpr : Tryz.prog.cellsOf 38 = 4 := by kernel_rfl
theorem cellsStmt : Tryz.prog.cellsOf 91 = 11 := by kernel_rfl
theorem cellsDecl : Tryz.prog.cellsOf 58 = 6 := by kernel_rfl
theorem cellsThread : Tryz.prog.cellsOf 63 = 4 := by kernel_rfl
theorem cellsProgram : Tryz.prog.cellsOf 26 = 2 := by kernel_rfl
theorem cellsInt : Tryz.prog.cellsOf 3 = 1 := by kernel_rfl
theorem cellsI64 : Tryz.prog.cellsOf 2 = 1 := by kernel_rfl
theorem cellsString : Tryz.prog.cellsOf 9 = 1 := by kernel_rfl
theorem cellsExprs : Tryz.prog.cellsOf 36 = 1 := by kernel_rfl
theorem cellsStmts : Tryz.prog.cellsOf 61 = 1 := by kernel_rfl
theorem cellsDecls : Tryz.prog.cellsOf 23 = 1 := by kernel_rfl
theorem cellsThreads : Tryz.prog.cellsOf 24 = 1 := by kernel_rfl
theorem cellsStrings : Tryz.prog.cellsOf 60 = 1 := by kernel_rfl
section
variable {H : Type} {enc : TypeId × Value → H} {W : World} {base : Nat} {sp : Nat → Bool} {held : Bool}
theorem int_cell {n : Nat} {t : TypeId} {v : Value} {y : DataW H × List MemPlace} (ht : Tryz.prog.underlying t = some (.int .i64)) (h : DataW.trod enc Tryz.prog W base sp held n t [v] = some y) : ∃ z : Int, v = .int .i64 z ∧ I64 z := by
  obtain ⟨z, hc, _, hw⟩ := DataW.trod_int ht h
  exact ⟨z, by simpa using hc, bounds_i64 hw⟩
theorem str_cell {n : Nat} {v : Value} {y : DataW H × List MemPlace} (h : DataW.trod enc Tryz.prog W base sp held n 9 [v] = some y) : ∃ s : ByteArray, v = .string s ∧ s.size ≤ maxLen := by
  obtain ⟨s, hc, _, hs⟩ := DataW.trod_string Tryz.underlying9 h
  exact ⟨s, by simpa using hc, hs⟩
/-- A slice: nil, or a row whose elements are read. -/
theorem slice_els {t e : TypeId} {fuel sz : Nat} {v : Value} {x : DataW H × List MemPlace} (ht : Tryz.prog.underlying t = some (.slice e)) (hsz : Tryz.prog.cellsOf e = sz) (h0 : 0 < sz) (h : DataW.trod enc Tryz.prog W base sp held fuel t [v] = some x) :
    v = .slice none 0 0 ∨ ∃ (a : Addr) (len cap n : Nat), fuel = n + 1 ∧ v = .slice (some a) len cap ∧ len ≤ cap ∧ cap ≤ maxLen ∧
      ∀ i, i < len → ∃ (b off : Nat) (cs : List Value) (y : DataW H × List MemPlace), a = ⟨b, off, none⟩ ∧ b < W.heap.size ∧ cs.length = sz ∧ (∀ j u, cs[j]? = some u → W.cell? ⟨b, off + i * sz + j, none⟩ = some u) ∧ DataW.trod enc Tryz.prog W base sp held n e cs = some y := by
  rcases DataW.trod_slice ht h with ⟨hcs, -⟩ | ⟨a, len, cap, elems, rest, n, hf, hcs, -, hb, hl, hm, hlen, hel, -, -⟩
  · exact .inl (by simpa using hcs)
  · refine .inr ⟨a, len, cap, n, hf, by simpa using hcs, hl, hm, fun i hi => ?_⟩
    have hspot : a.spot = none := by
      have := hel 0 (by omega)
      rw [List.getElem?_eq_getElem (by omega), hsz] at this
      obtain ⟨cs, h1, h2⟩ := Option.bind_eq_some_iff.1 this
      obtain ⟨-, hcl, hcell⟩ := World.cells?_some h1
      have h3 := hcell 0 (by omega)
      rw [List.getElem?_eq_getElem (by omega)] at h3
      simpa [Addr.add] using World.cell?_spot h3
    have := hel i hi
    rw [List.getElem?_eq_getElem (by omega), hsz] at this
    obtain ⟨cs, h1, h2⟩ := Option.bind_eq_some_iff.1 this
    obtain ⟨-, hcl, hcell⟩ := World.cells?_some h1
    obtain ⟨b, off, spot⟩ := a
    subst hspot
    have hc2 : ∀ j u, cs[j]? = some u → W.cell? ⟨b, off + i * sz + j, none⟩ = some u := fun j u hu => by
      have hj : j < cs.length := (List.getElem?_eq_some_iff.1 hu).1
      have h3 := hcell j (by omega)
      rw [hu, add_plain, add_plain] at h3
      exact h3
    refine ⟨b, off, cs, _, rfl, ?_, hcl, hc2, h2⟩
    exact World.block_lt_of_cell? _ _ (hc2 0 _ (List.getElem?_eq_getElem (by omega)))
/-- An expression's own cells, opened; its operands by what is known of less fuel. -/
def ExlOpens (enc : TypeId × Value → H) (W : World) (base : Nat) (sp : Nat → Bool) (held : Bool) (n : Nat) : Prop := ∀ (v : Value) (x : DataW H × List MemPlace), DataW.trod enc Tryz.prog W base sp held n 36 [v] = some x → ∃ ao l cap, v = .slice ao (ExL.len l) cap ∧ l.At W W.heap.size ao 0 ∧ l.len ≤ maxLen
theorem expr_cells {n : Nat} {cs : List Value} {x : DataW H × List MemPlace} (hl : cs.length = 4) (h : DataW.trod enc Tryz.prog W base sp held n 38 cs = some x) (ih : ∀ m, m < n → ExlOpens enc W base sp held m) :
    ∃ (op k : Int) (nm : ByteArray) (kids : ExL) (ao : Option Addr) (cap : Nat), cs = [.int .i64 op, .int .i64 k, .string nm, .slice ao kids.len cap] ∧ ExOk op k nm kids ∧ kids.At W W.heap.size ao 0 := by
  obtain ⟨xs, m, rfl, -, -, hlen, hg⟩ := DataW.trod_struct Tryz.underlying38 h
  match cs, hl with
  | [v0, v1, v2, v3], _ =>
    match xs, hlen with
    | [y0, y1, y2, y3], _ =>
      have g0 := hg 0 _ rfl
      have g1 := hg 1 _ rfl
      have g2 := hg 2 _ rfl
      have g3 := hg 3 _ rfl
      simp only [cellsInt, cellsI64, cellsString, cellsExprs, List.drop_zero, List.drop_succ_cons, List.take_succ_cons, List.take_zero, List.getElem?_cons_zero, List.getElem?_cons_succ] at g0 g1 g2 g3
      obtain ⟨z0, rfl, h0⟩ := int_cell Tryz.underlying3 g0
      obtain ⟨z1, rfl, h1⟩ := int_cell Tryz.underlying2 g1
      obtain ⟨s, rfl, h2⟩ := str_cell g2
      obtain ⟨ao, l, cap, rfl, h3, h4⟩ := ih m (by omega) _ _ g3
      exact ⟨z0, z1, s, l, ao, cap, rfl, ⟨h0, h1, h2, h4⟩, h3⟩
theorem exl_build {ao : Option Addr} : ∀ (m k : Nat), (∀ i, k ≤ i → i < k + m → ∃ (op n : Int) (nm : ByteArray) (kids : ExL) (b off : Nat) (ao' : Option Addr) (cap : Nat), ao = some ⟨b, off, none⟩ ∧ b < W.heap.size ∧ W.cell? ⟨b, off + i * 4, none⟩ = some (.int .i64 op) ∧ W.cell? ⟨b, off + i * 4 + 1, none⟩ = some (.int .i64 n) ∧
      W.cell? ⟨b, off + i * 4 + 2, none⟩ = some (.string nm) ∧ W.cell? ⟨b, off + i * 4 + 3, none⟩ = some (.slice ao' kids.len cap) ∧ ExOk op n nm kids ∧ kids.At W W.heap.size ao' 0) → ∃ l : ExL, l.len = m ∧ l.At W W.heap.size ao k
  | 0, _, _ => ⟨.nil, rfl, trivial⟩
  | m + 1, k, h => by
    obtain ⟨op, n, nm, kids, b, off, ao', cap, hx⟩ := h k (Nat.le_refl _) (by omega)
    obtain ⟨l, hl, hat⟩ := exl_build m (k + 1) (fun i h1 h2 => h i (by omega) (by omega))
    exact ⟨.cons op n nm kids l, by simp [ExL.len, hl], ⟨b, off, ao', cap, hx⟩, hat⟩
theorem exl_opens : ∀ n, ExlOpens enc W base sp held n := fun n => by
  induction n using Nat.strongRecOn with
  | _ n ih =>
    intro v x h
    rcases slice_els Tryz.underlying36 cellsExpr (by omega) h with rfl | ⟨a, len, cap, m, rfl, rfl, hl, hm, hel⟩
    · exact ⟨none, .nil, 0, rfl, trivial, Nat.zero_le _⟩
    · obtain ⟨l, h1, h2⟩ := exl_build (W := W) (ao := some a) len 0 (fun i _ hi => by
        obtain ⟨b, off, cs, y, rfl, hb, hcl, hc, ht⟩ := hel i (by omega)
        obtain ⟨op, k, nm, kids, ao, c, rfl, hok, hk⟩ := expr_cells hcl ht (fun j hj => ih j (by omega))
        exact ⟨op, k, nm, kids, b, off, ao, c, rfl, hb, hc 0 _ rfl, hc 1 _ rfl, hc 2 _ rfl, hc 3 _ rfl, hok, hk⟩)
      exact ⟨some a, l, cap, by rw [h1], h2, by omega⟩
def StlOpens (enc : TypeId × Value → H) (W : World) (base : Nat) (sp : Nat → Bool) (held : Bool) (n : Nat) : Prop := ∀ (v : Value) (x : DataW H × List MemPlace), DataW.trod enc Tryz.prog W base sp held n 61 [v] = some x → ∃ ao l cap, v = .slice ao (StL.len l) cap ∧ l.At W W.heap.size ao 0 ∧ l.len ≤ maxLen
theorem stl_build {ao : Option Addr} : ∀ (m k : Nat), (∀ i, k ≤ i → i < k + m → ∃ (h : StH) (body els : StL) (b off : Nat) (aoi : Option Addr) (capi : Nat) (aox : Option Addr) (capx : Nat) (aob : Option Addr) (capb : Nat) (aoe : Option Addr) (cape : Nat), ao = some ⟨b, off, none⟩ ∧ b < W.heap.size ∧ W.cell? ⟨b, off + i * 11, none⟩ = some (.int .i64 h.op) ∧ W.cell? ⟨b, off + i * 11 + 1, none⟩ = some (.int .i64 h.line) ∧
      W.cell? ⟨b, off + i * 11 + 2, none⟩ = some (.string h.nm) ∧ W.cell? ⟨b, off + i * 11 + 3, none⟩ = some (.string h.arg) ∧ W.cell? ⟨b, off + i * 11 + 4, none⟩ = some (.slice aoi h.idx.len capi) ∧
      W.cell? ⟨b, off + i * 11 + 5, none⟩ = some (.int .i64 h.xop) ∧ W.cell? ⟨b, off + i * 11 + 6, none⟩ = some (.int .i64 h.xn) ∧ W.cell? ⟨b, off + i * 11 + 7, none⟩ = some (.string h.xnm) ∧ W.cell? ⟨b, off + i * 11 + 8, none⟩ = some (.slice aox h.xkids.len capx) ∧
      W.cell? ⟨b, off + i * 11 + 9, none⟩ = some (.slice aob body.len capb) ∧ W.cell? ⟨b, off + i * 11 + 10, none⟩ = some (.slice aoe els.len cape) ∧ StOk h body els ∧
      h.idx.At W W.heap.size aoi 0 ∧ h.xkids.At W W.heap.size aox 0 ∧ body.At W W.heap.size aob 0 ∧ els.At W W.heap.size aoe 0) → ∃ l : StL, l.len = m ∧ l.At W W.heap.size ao k
  | 0, _, _ => ⟨.nil, rfl, trivial⟩
  | m + 1, k, h => by
    obtain ⟨hh, body, els, b, off, aoi, capi, aox, capx, aob, capb, aoe, cape, hx⟩ := h k (Nat.le_refl _) (by omega)
    obtain ⟨l, hl, hat⟩ := stl_build m (k + 1) (fun i h1 h2 => h i (by omega) (by omega))
    exact ⟨.cons hh body els l, by simp [StL.len, hl], ⟨b, off, aoi, capi, aox, capx, aob, capb, aoe, cape, hx⟩, hat⟩
theorem stl_opens : ∀ n, StlOpens enc W base sp held n := fun n => by
  induction n using Nat.strongRecOn with
  | _ n ih =>
    intro v x h
    rcases slice_els Tryz.underlying61 cellsStmt (by omega) h with rfl | ⟨a, len, cap, m, rfl, rfl, hl, hm, hel⟩
    · exact ⟨none, .nil, 0, rfl, trivial, Nat.zero_le _⟩
    · obtain ⟨l, h1, h2⟩ := stl_build (W := W) (ao := some a) len 0 (fun i _ hi => by
        obtain ⟨b, off, cs, y, rfl, hb, hcl, hc, ht⟩ := hel i (by omega)
        obtain ⟨xs, q, rfl, -, -, hlen, hg⟩ := DataW.trod_struct Tryz.underlying91 ht
        match cs, hcl with
        | [v0, v1, v2, v3, v4, v5, v6, v7, v8, v9, v10], _ =>
          match xs, hlen with
          | [y0, y1, y2, y3, y4, y5, y6, y7], _ =>
            have g0 := hg 0 _ rfl
            have g1 := hg 1 _ rfl
            have g2 := hg 2 _ rfl
            have g3 := hg 3 _ rfl
            have g4 := hg 4 _ rfl
            have g5 := hg 5 _ rfl
            have g6 := hg 6 _ rfl
            have g7 := hg 7 _ rfl
            simp only [cellsInt, cellsI64, cellsString, cellsExprs, cellsExpr, cellsStmts, List.drop_zero, List.drop_succ_cons, List.take_succ_cons, List.take_zero, List.getElem?_cons_zero, List.getElem?_cons_succ] at g0 g1 g2 g3 g4 g5 g6 g7
            obtain ⟨z0, rfl, k0⟩ := int_cell Tryz.underlying3 g0
            obtain ⟨z1, rfl, k1⟩ := int_cell Tryz.underlying3 g1
            obtain ⟨s2, rfl, k2⟩ := str_cell g2
            obtain ⟨s3, rfl, k3⟩ := str_cell g3
            obtain ⟨aoi, li, capi, rfl, k4, k4'⟩ := exl_opens q _ _ g4
            obtain ⟨xop, xn, xnm, xk, aox, capx, hx, k5, k5'⟩ := expr_cells rfl g5 (fun j _ => exl_opens j)
            simp [cellsExpr] at hx
            obtain ⟨rfl, rfl, rfl, rfl⟩ := hx
            obtain ⟨aob, lb, capb, rfl, k6, k6'⟩ := ih q (by omega) _ _ g6
            obtain ⟨aoe, le, cape, rfl, k7, k7'⟩ := ih q (by omega) _ _ g7
            exact ⟨⟨z0, z1, s2, s3, li, xop, xn, xnm, xk⟩, lb, le, b, off, aoi, capi, aox, capx, aob, capb, aoe, cape, rfl, hb, hc 0 _ rfl, hc 1 _ rfl, hc 2 _ rfl, hc 3 _ rfl, hc 4 _ rfl, hc 5 _ rfl, hc 6 _ rfl, hc 7 _ rfl, hc 8 _ rfl, hc 9 _ rfl, hc 10 _ rfl, ⟨k0, k1, k2, k3, k4', k5, k6', k7'⟩, k4, k5', k6, k7⟩)
      exact ⟨some a, l, cap, by rw [h1], h2, by omega⟩
theorem tx_opens {n : Nat} {v : Value} {x : DataW H × List MemPlace} (h : DataW.trod enc Tryz.prog W base sp held n 60 [v] = some x) : ∃ ao l cap, v = .slice ao (List.length l) cap ∧ TxAt W W.heap.size l ao 0 ∧ l.length ≤ maxLen ∧ l.length ≤ cap := by
  have build : ∀ (ao : Option Addr) (m k : Nat), (∀ i, k ≤ i → i < k + m → ∃ (s : ByteArray) (b off : Nat), ao = some ⟨b, off, none⟩ ∧ b < W.heap.size ∧ W.cell? ⟨b, off + i, none⟩ = some (.string s) ∧ s.size ≤ maxLen) → ∃ l : List ByteArray, l.length = m ∧ TxAt W W.heap.size l ao k := by
    intro ao m
    induction m with
    | zero => exact fun k _ => ⟨[], rfl, trivial⟩
    | succ m ih =>
      intro k h
      obtain ⟨s, b, off, hx⟩ := h k (Nat.le_refl _) (by omega)
      obtain ⟨l, hl, hat⟩ := ih (k + 1) (fun i h1 h2 => h i (by omega) (by omega))
      exact ⟨s :: l, by simp [hl], ⟨b, off, hx⟩, hat⟩
  rcases slice_els Tryz.underlying60 cellsString (by omega) h with rfl | ⟨a, len, cap, m, rfl, rfl, hl, hm, hel⟩
  · exact ⟨none, [], 0, rfl, trivial, Nat.zero_le _, Nat.zero_le _⟩
  · obtain ⟨l, h1, h2⟩ := build (some a) len 0 (fun i _ hi => by
      obtain ⟨b, off, cs, y, rfl, hb, hcl, hc, ht⟩ := hel i (by omega)
      match cs, hcl with
      | [v0], _ =>
        obtain ⟨s, rfl, hs⟩ := str_cell ht
        exact ⟨s, b, off, rfl, hb, by have := hc 0 _ rfl; simpa using this, hs⟩)
    exact ⟨some a, l, cap, by rw [h1], h2, by omega, by omega⟩
theorem de_opens {n : Nat} {v : Value} {x : DataW H × List MemPlace} (h : DataW.trod enc Tryz.prog W base sp held n 23 [v] = some x) : ∃ ao l cap, v = .slice ao (List.length l) cap ∧ DeAt W W.heap.size l ao 0 ∧ l.length ≤ maxLen ∧ l.length ≤ cap := by
  have build : ∀ (ao : Option Addr) (m k : Nat), (∀ i, k ≤ i → i < k + m → ∃ (d : De) (b off : Nat), ao = some ⟨b, off, none⟩ ∧ b < W.heap.size ∧ W.cell? ⟨b, off + i * 6, none⟩ = some (.int .i64 d.kind) ∧ W.cell? ⟨b, off + i * 6 + 1, none⟩ = some (.int .i64 d.line) ∧
      W.cell? ⟨b, off + i * 6 + 2, none⟩ = some (.string d.nm) ∧ W.cell? ⟨b, off + i * 6 + 3, none⟩ = some (.int .i64 d.size) ∧ W.cell? ⟨b, off + i * 6 + 4, none⟩ = some (.int .i64 d.init) ∧ W.cell? ⟨b, off + i * 6 + 5, none⟩ = some (.string d.on) ∧ d.Ok) → ∃ l : List De, l.length = m ∧ DeAt W W.heap.size l ao k := by
    intro ao m
    induction m with
    | zero => exact fun k _ => ⟨[], rfl, trivial⟩
    | succ m ih =>
      intro k h
      obtain ⟨s, b, off, hx⟩ := h k (Nat.le_refl _) (by omega)
      obtain ⟨l, hl, hat⟩ := ih (k + 1) (fun i h1 h2 => h i (by omega) (by omega))
      exact ⟨s :: l, by simp [hl], ⟨b, off, hx⟩, hat⟩
  rcases slice_els Tryz.underlying23 cellsDecl (by omega) h with rfl | ⟨a, len, cap, m, rfl, rfl, hl, hm, hel⟩
  · exact ⟨none, [], 0, rfl, trivial, Nat.zero_le _, Nat.zero_le _⟩
  · obtain ⟨l, h1, h2⟩ := build (some a) len 0 (fun i _ hi => by
      obtain ⟨b, off, cs, y, rfl, hb, hcl, hc, ht⟩ := hel i (by omega)
      obtain ⟨xs, q, rfl, -, -, hlen, hg⟩ := DataW.trod_struct Tryz.underlying58 ht
      match cs, hcl with
      | [v0, v1, v2, v3, v4, v5], _ =>
        match xs, hlen with
        | [y0, y1, y2, y3, y4, y5], _ =>
          have g0 := hg 0 _ rfl
          have g1 := hg 1 _ rfl
          have g2 := hg 2 _ rfl
          have g3 := hg 3 _ rfl
          have g4 := hg 4 _ rfl
          have g5 := hg 5 _ rfl
          simp only [cellsInt, cellsI64, cellsString, List.drop_zero, List.drop_succ_cons, List.take_succ_cons, List.take_zero, List.getElem?_cons_zero, List.getElem?_cons_succ] at g0 g1 g2 g3 g4 g5
          obtain ⟨z0, rfl, k0⟩ := int_cell Tryz.underlying3 g0
          obtain ⟨z1, rfl, k1⟩ := int_cell Tryz.underlying3 g1
          obtain ⟨s2, rfl, k2⟩ := str_cell g2
          obtain ⟨z3, rfl, k3⟩ := int_cell Tryz.underlying3 g3
          obtain ⟨z4, rfl, k4⟩ := int_cell Tryz.underlying2 g4
          obtain ⟨s5, rfl, k5⟩ := str_cell g5
          exact ⟨⟨z0, z1, s2, z3, z4, s5⟩, b, off, rfl, hb, hc 0 _ rfl, hc 1 _ rfl, hc 2 _ rfl, hc 3 _ rfl, hc 4 _ rfl, hc 5 _ rfl, k0, k1, k2, k3, k4, k5⟩)
    exact ⟨some a, l, cap, by rw [h1], h2, by omega, by omega⟩
theorem th_opens {n : Nat} {v : Value} {x : DataW H × List MemPlace} (h : DataW.trod enc Tryz.prog W base sp held n 24 [v] = some x) : ∃ ao l cap, v = .slice ao (List.length l) cap ∧ ThAt W W.heap.size l ao 0 ∧ l.length ≤ maxLen ∧ l.length ≤ cap := by
  have build : ∀ (ao : Option Addr) (m k : Nat), (∀ i, k ≤ i → i < k + m → ∃ (t : Th) (b off : Nat) (aol : Option Addr) (capl : Nat) (aob : Option Addr) (capb : Nat), ao = some ⟨b, off, none⟩ ∧ b < W.heap.size ∧ W.cell? ⟨b, off + i * 4, none⟩ = some (.string t.nm) ∧ W.cell? ⟨b, off + i * 4 + 1, none⟩ = some (.int .i64 t.line) ∧
      W.cell? ⟨b, off + i * 4 + 2, none⟩ = some (.slice aol t.locs.length capl) ∧ W.cell? ⟨b, off + i * 4 + 3, none⟩ = some (.slice aob t.body.len capb) ∧ t.Ok ∧ TxAt W W.heap.size t.locs aol 0 ∧ t.body.At W W.heap.size aob 0 ∧ t.locs.length ≤ capl) → ∃ l : List Th, l.length = m ∧ ThAt W W.heap.size l ao k := by
    intro ao m
    induction m with
    | zero => exact fun k _ => ⟨[], rfl, trivial⟩
    | succ m ih =>
      intro k h
      obtain ⟨s, b, off, aol, capl, aob, capb, hx⟩ := h k (Nat.le_refl _) (by omega)
      obtain ⟨l, hl, hat⟩ := ih (k + 1) (fun i h1 h2 => h i (by omega) (by omega))
      exact ⟨s :: l, by simp [hl], ⟨b, off, aol, capl, aob, capb, hx⟩, hat⟩
  rcases slice_els Tryz.underlying24 cellsThread (by omega) h with rfl | ⟨a, len, cap, m, rfl, rfl, hl, hm, hel⟩
  · exact ⟨none, [], 0, rfl, trivial, Nat.zero_le _, Nat.zero_le _⟩
  · obtain ⟨l, h1, h2⟩ := build (some a) len 0 (fun i _ hi => by
      obtain ⟨b, off, cs, y, rfl, hb, hcl, hc, ht⟩ := hel i (by omega)
      obtain ⟨xs, q, rfl, -, -, hlen, hg⟩ := DataW.trod_struct Tryz.underlying63 ht
      match cs, hcl with
      | [v0, v1, v2, v3], _ =>
        match xs, hlen with
        | [y0, y1, y2, y3], _ =>
          have g0 := hg 0 _ rfl
          have g1 := hg 1 _ rfl
          have g2 := hg 2 _ rfl
          have g3 := hg 3 _ rfl
          simp only [cellsInt, cellsString, cellsStrings, cellsStmts, List.drop_zero, List.drop_succ_cons, List.take_succ_cons, List.take_zero, List.getElem?_cons_zero, List.getElem?_cons_succ] at g0 g1 g2 g3
          obtain ⟨s0, rfl, k0⟩ := str_cell g0
          obtain ⟨z1, rfl, k1⟩ := int_cell Tryz.underlying3 g1
          obtain ⟨aol, ll, capl, rfl, k2, k2', k2''⟩ := tx_opens g2
          obtain ⟨aob, lb, capb, rfl, k3, k3'⟩ := stl_opens _ _ _ g3
          exact ⟨⟨s0, z1, ll, lb⟩, b, off, aol, capl, aob, capb, rfl, hb, hc 0 _ rfl, hc 1 _ rfl, hc 2 _ rfl, hc 3 _ rfl, ⟨k0, k1, k2', k3'⟩, k2, k3, k2''⟩)
    exact ⟨some a, l, cap, by rw [h1], h2, by omega, by omega⟩
/-- A program as an argument. -/
theorem open_prog {v : Value} {d : DataW H} {p : List MemPlace} (hv : Value.okWide Tryz.prog W .any base 26 v)
    (h : DataW.Trod enc Tryz.prog W 0 (fun _ => true) true 26 v d p) :
    ∃ (q : Pr) (aoD aoT : Option Addr) (capD capT : Nat), v = .agg #[.slice aoD q.ds.length capD, .slice aoT q.ts.length capT] ∧ q.At W aoD aoT ∧ q.ds.length ≤ capD ∧ q.ts.length ≤ capT := by
  obtain ⟨cs, rfl, hsz⟩ := okWide_struct Tryz.underlying26 hv
  rw [cellsProgram] at hsz
  obtain ⟨l⟩ := cs
  match l, hsz with
  | [v0, v1], _ =>
    obtain ⟨fuel, hf⟩ := h
    obtain ⟨xs, n, _, hx, _, hlen, hg⟩ := DataW.trod_struct Tryz.underlying26 hf
    match xs, hlen with
    | [y0, y1], _ =>
      have g0 := hg 0 _ rfl
      have g1 := hg 1 _ rfl
      simp only [Value.cells, cellsDecls, cellsThreads, List.drop_zero, List.drop_succ_cons, List.take_succ_cons, List.take_zero, List.getElem?_cons_zero, List.getElem?_cons_succ] at g0 g1
      obtain ⟨aoD, ds, capD, rfl, h0, h0', h0''⟩ := de_opens g0
      obtain ⟨aoT, ts, capT, rfl, h1, h1', h1''⟩ := th_opens g1
      exact ⟨⟨ds, ts⟩, aoD, aoT, capD, capT, rfl, ⟨h0', h1', h0, h1⟩, h0'', h1''⟩
/-- An expression as an argument. -/
theorem open_expr {v : Value} {d : DataW H} {p : List MemPlace} (hv : Value.okWide Tryz.prog W .any base 38 v)
    (h : DataW.Trod enc Tryz.prog W 0 (fun _ => true) true 38 v d p) :
    ∃ (op k : Int) (nm : ByteArray) (kids : ExL) (ao : Option Addr) (cap : Nat), v = .agg #[.int .i64 op, .int .i64 k, .string nm, .slice ao kids.len cap] ∧ ExOk op k nm kids ∧ kids.At W W.heap.size ao 0 := by
  obtain ⟨cs, rfl, hsz⟩ := okWide_struct Tryz.underlying38 hv
  rw [cellsExpr] at hsz
  obtain ⟨fuel, hf⟩ := h
  obtain ⟨op, k, nm, kids, ao, cap, hc, hok, hat⟩ := expr_cells (by simpa [Value.cells] using hsz) hf (fun j _ => exl_opens j)
  refine ⟨op, k, nm, kids, ao, cap, ?_, hok, hat⟩
  simp only [Value.cells] at hc
  rw [← hc]
end
end Go.Proofs.YtommnhglgedflaaGreatDoor
