/-
  From the row's list of variables to the tables in memory; a world that holds what the row lists; an instruction as an argument.
-/
import Derived.Test.YtmijlhhaogmeeaaDoorCards
import Derived.Test.YtmijlhhaogmeeaaDoorTie
import Derived.Test.YtmijlhhaogmeeaaDoorLawTexts
import Derived.ProofKit
import Derived.OpenShut
import Derived.Deep.DeepHandedRow
import Derived.Lib.LaidTab
import Derived.Lib.SmallJoins
import Derived.Stop.LaidErr
namespace Go.Proofs.YtmijlhhaogmeeaaDoor
open Go.ChangeShapes Go.WideShapes Go.ChangeAt Go.RowKit Go.Joins Go.Deep

theorem own : ownKnob Tryd.prog.godebug = none := by kernel_rfl
theorem Tryd.laidOut : laidOutB Tryd.prog = true := by kernel_rfl

/-- An array of strings that reads as a table of strings holds them, cell for cell. -/
theorem strs_of_tab {H : Type} {enc : TypeId × Value → H} {P : Program} {w : World} {base : Nat} {sp : Nat → Bool} {held : Bool} {fuel : Nat} {t e : TypeId} {n : Nat} {cs : List Value} {ls : List (List UInt8)} {p : List MemPlace}
    (ht : P.underlying t = some (.array n e)) (he : P.underlying e = some .string) (hce : P.cellsOf e = 1) (hct : P.cellsOf t = n)
    (h : DataW.trod enc P w base sp held fuel t cs = some (.agg (ls.map fun b => .lit (.string b)), p)) : cs = ls.map fun b => Value.string ⟨b.toArray⟩ := by
  obtain ⟨xs, m, _, hx, hlen, hxl, hat⟩ := DataW.trod_array ht h
  rw [hct] at hlen
  rw [hce] at hat
  have hxs : xs.map (·.1) = ls.map fun b => (DataW.lit (.string b) : DataW H) := by
    have := congrArg Prod.fst hx
    simpa using this.symm
  have hll : ls.length = n := by
    have := congrArg List.length hxs
    simp at this
    omega
  apply List.ext_getElem?
  intro i
  by_cases hi : i < n
  · have h1 := hat i hi
    rw [Nat.mul_one, List.getElem?_eq_getElem (by omega)] at h1
    obtain ⟨s, hc, hd, _⟩ := DataW.trod_string he h1
    have hcs : cs[i]? = some (.string s) := by
      have := congrArg (·[0]?) hc
      simpa [List.getElem?_take, List.getElem?_drop] using this
    have h2 : (xs.map (·.1))[i]? = some (DataW.lit (.string s.data.toList) : DataW H) := by
      rw [List.getElem?_map, List.getElem?_eq_getElem (by omega), hd]; rfl
    rw [hxs, List.getElem?_map] at h2
    obtain ⟨b, hb, e2⟩ := Option.map_eq_some_iff.1 h2
    simp only [DataW.lit.injEq, Lit.string.injEq] at e2
    rw [hcs, List.getElem?_map, hb, e2]
    rfl
  · rw [List.getElem?_eq_none (by omega), List.getElem?_eq_none (by simp; omega)]

theorem cellsWds : Tryd.prog.cellsOf 27 = 29 := by kernel_rfl
theorem cellsStr : Tryd.prog.cellsOf 9 = 1 := by kernel_rfl
theorem cellsPow : Tryd.prog.cellsOf 40 = 20 := by kernel_rfl
theorem cellsU64 : Tryd.prog.cellsOf 32 = 1 := by kernel_rfl

theorem words_of_laid {W : World} {n : String} {rest : List (String × DataW Unit)} (hg : Tryd.prog.globalNamed n = some 0) (h : laidMet Tryd.prog ((n, Rows.laid_interleave_compile_words) :: rest) W) : WordsLaid W := by
  obtain ⟨ps, ⟨g', t', cs, fuel, p, q, hg', ht', hvar, hd, _, _⟩, _⟩ := h
  obtain rfl := Option.some.inj (hg.symm.trans hg')
  have hty : (Tryd.prog.globals[0]?).map (·.type) = some 27 := by kernel_rfl
  obtain rfl := Option.some.inj (hty.symm.trans ht')
  have hcs : cs.toList = wds.map fun b => Value.string ⟨b.toArray⟩ := strs_of_tab (ls := wds) Tryd.underlying27 Tryd.underlying9 cellsStr cellsWds hd
  intro i hi
  have hc := World.var?_cell hg' hvar i
  rw [hc, ← Array.getElem?_toList, hcs, List.getElem?_map]
  have hl : wds.length = 29 := rfl
  rw [List.getElem?_eq_getElem (by omega)]
  unfold wdAt
  have e : wds.getD i [] = wds[i]'(by omega) := by
    rw [List.getD_eq_getElem?_getD, List.getElem?_eq_getElem (by omega)]; rfl
  rw [e]
  rfl
theorem pow_of_laid {W : World} {rest : List (String × DataW Unit)} (h : laidMet Tryd.prog (("internal/strconv.uint64pow10", Rows.laid_internal_strconv_uint64pow10) :: rest) W) : PowLaid W :=
  Lib.tabIs_of_head (zs := Lib.pow10Tab) gPow (by kernel_rfl) Tryd.underlying40 Tryd.underlying32 cellsU64 cellsPow h

def LaidAll (w : World) : Prop := WordsLaid w ∧ PowLaid w ∧ 3 < w.heap.size
theorem last_global {W : World} {n : String} {d : DataW Unit} {rest : List (String × DataW Unit)} (hg : Tryd.prog.globalNamed n = some 3) (h : laidMet Tryd.prog ((n, d) :: rest) W) : 3 < W.heap.size := by
  obtain ⟨ps, ⟨g', t', cs, fuel, p, q, hg', ht', hvar, hd, _, _⟩, _⟩ := h
  unfold World.var? at hvar
  rw [hg] at hvar
  simp only [Option.bind_some] at hvar
  split at hvar
  · rename_i c t fr hh
    exact (Array.getElem?_eq_some_iff.1 hh).1
  · cases hvar
theorem laidOf {W : World} (h : laidMetH Tryd.prog Rows.compileTextsRow.laid W) : LaidAll W := by
  have h0 : laidMet Tryd.prog Rows.compileTextsRow.laid W := h
  have h1 := laidMet.tail h0
  have h2 := laidMet.tail h1
  have h3 := laidMet.tail h2
  exact ⟨words_of_laid (by kernel_rfl) h3, pow_of_laid h2, last_global (by kernel_rfl) h1⟩

/-- The cells of a datum of at most two levels of arrays. -/
def flat1 : DataW Unit → List Value
  | .lit (.int k n) => [.int k n]
  | .lit (.string s) => [.string ⟨s.toArray⟩]
  | _ => []
def flat3 : DataW Unit → Array Value
  | .agg l => (l.flatMap flat1).toArray
  | d => (flat1 d).toArray
def lay (cs : Array Value) : Obj → Obj
  | .cells _ t frozen => .cells cs t frozen
  | o => o
/-- A world for the witness: the settled one, the listed variables holding what is listed. -/
noncomputable def laidWorld (os : Os) : World :=
  { World.holding Tryd.prog os ⟨#[], #[], []⟩ with heap := ((((World.holding Tryd.prog os ⟨#[], #[], []⟩).heap.modify 0 (lay (flat3 Rows.laid_interleave_compile_words))).modify 1 (lay (flat3 Rows.laid_internal_strconv_uint64pow10))).modify 2 (lay (flat3 Rows.laid_math_bits_deBruijn32tab))).modify 3 (lay (flat3 Rows.laid_math_bits_deBruijn64tab)) }

theorem cellsInstr : Tryd.prog.cellsOf 23 = 6 := by kernel_rfl
theorem int_cell {H : Type} {enc : TypeId × Value → H} {W : World} {base : Nat} {sp : Nat → Bool} {held : Bool} {n : Nat} {t : TypeId} {v : Value} {y : DataW H × List MemPlace} (ht : Tryd.prog.underlying t = some (.int .i64)) (h : DataW.trod enc Tryd.prog W base sp held n t [v] = some y) :
    ∃ z : Int, v = .int .i64 z ∧ -9223372036854775808 ≤ z ∧ z ≤ 9223372036854775807 := by
  obtain ⟨z, hc, _, hw⟩ := DataW.trod_int ht h
  exact ⟨z, by simpa using hc, (bounds_i64 hw).1, (bounds_i64 hw).2⟩
/-- An instruction as an argument: six integers. -/
theorem open_instr {H : Type} {enc : TypeId × Value → H} {W : World} {base : Nat} {v : Value} {d : DataW H} {p : List MemPlace} (hv : Value.okWide Tryd.prog W .any base 23 v)
    (h : DataW.Trod enc Tryd.prog W 0 (fun _ => true) true 23 v d p) :
    ∃ o a b c n s : Int, v = .agg #[.int .i64 o, .int .i64 a, .int .i64 b, .int .i64 c, .int .i64 n, .int .i64 s] ∧
      (-9223372036854775808 ≤ a ∧ a ≤ 9223372036854775807) ∧ (-9223372036854775808 ≤ b ∧ b ≤ 9223372036854775807) ∧ (-9223372036854775808 ≤ c ∧ c ≤ 9223372036854775807) ∧ (-9223372036854775808 ≤ n ∧ n ≤ 9223372036854775807) := by
  have hs := Tryd.underlying23
  obtain ⟨cs, rfl, hsz⟩ := okWide_struct hs hv
  rw [cellsInstr] at hsz
  obtain ⟨l⟩ := cs
  match l, hsz with
  | [v0, v1, v2, v3, v4, v5], _ =>
    obtain ⟨fuel, hf⟩ := h
    obtain ⟨xs, n, _, hx, _, hlen, hg⟩ := DataW.trod_struct hs hf
    match xs, hlen with
    | [y0, y1, y2, y3, y4, y5], _ =>
      have g0 := hg 0 _ rfl
      have g1 := hg 1 _ rfl
      have g2 := hg 2 _ rfl
      have g3 := hg 3 _ rfl
      have g4 := hg 4 _ rfl
      have g5 := hg 5 _ rfl
      simp only [Value.cells, List.getElem?_cons_zero, List.getElem?_cons_succ] at g0 g1 g2 g3 g4 g5
      obtain ⟨z0, rfl, _⟩ := int_cell Tryd.underlying3 g0
      obtain ⟨z1, rfl, h1⟩ := int_cell Tryd.underlying3 g1
      obtain ⟨z2, rfl, h2⟩ := int_cell Tryd.underlying3 g2
      obtain ⟨z3, rfl, h3⟩ := int_cell Tryd.underlying3 g3
      obtain ⟨z4, rfl, h4⟩ := int_cell Tryd.underlying2 g4
      obtain ⟨z5, rfl, _⟩ := int_cell Tryd.underlying3 g5
      exact ⟨z0, z1, z2, z3, z4, z5, rfl, h1, h2, h3, h4⟩
end Go.Proofs.YtmijlhhaogmeeaaDoor
