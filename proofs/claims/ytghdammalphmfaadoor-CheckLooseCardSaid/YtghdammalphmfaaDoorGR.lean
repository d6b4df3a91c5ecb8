/-
  What the reference's walk says of a statement is what the checker says; the contract of the walk's one at every operator.
  Contract of the reference walk's all.
  Contract of the reference's Program; the walks of awake and of the law CheckTells.
-/
import Derived.Test.YtghdammalphmfaaDoorGMdWk6
import Derived.Test.YtghdammalphmfaaDoorGMdWk3
import Derived.Test.YtghdammalphmfaaDoorGMdWk4
import Derived.Test.YtghdammalphmfaaDoorGJ
import Derived.Test.YtghdammalphmfaaDoorGL
import Derived.Test.YtghdammalphmfaaDoorGF
section
set_option linter.unusedSimpArgs false
set_option linter.unusedVariables false
namespace Go.Proofs.YtghdammalphmfaaDoor
open Go.RowKit
namespace Md
def nms (l : List ByteArray) : List (List UInt8) := (l.map (·.toList)).reverse
def adS (k : Int) (h : StH) (l : List ByteArray) : List ByteArray := if h.op == k then l ++ [h.nm] else l
theorem nms_adS (k : Int) (h : StH) (l : List ByteArray) : nms (adS k h l) = fL k h (nms l) := by
  unfold nms adS fL; cases h.op == k <;> simp
theorem mem_nms (l : List ByteArray) (x : List UInt8) : mem (nms l) x = inTx l x := by
  unfold mem nms inTx
  rw [Bool.eq_iff_iff, List.contains_iff_mem]
  simp [List.any_eq_true]
theorem nms_len (l : List ByteArray) : (nms l).length = l.length := by simp [nms]
theorem thrA_none {ds : List De} : ∀ (ts pre : List Th), thrA ds ts pre = none → ∀ (k : Nat) (d : Th) (r : List Th), ts.drop k = d :: r → usedT (pre ++ ts.take k) d.nm.toList = false
  | [], _, _, k, d, r, hd => by simp at hd
  | t :: ts, pre, h, k, d, r, hd => by
    unfold thrA at h
    split at h
    · cases h
    · rename_i hc
      cases k with
      | zero =>
        simp only [List.drop_zero, List.cons.injEq] at hd
        obtain ⟨rfl, rfl⟩ := hd
        simp only [Bool.or_eq_true, not_or, Bool.not_eq_true] at hc
        simpa using hc.2
      | succ k =>
        have := thrA_none ts (pre ++ [t]) h k d r (by simpa using hd)
        simpa using this
theorem usedT_mem {l : List Th} {x : List UInt8} (h : usedT l x = false) : ∀ t ∈ l, t.nm.toList ≠ x := fun t ht e => by
  unfold usedT at h
  rw [List.any_eq_false] at h
  exact h t ht (by simp [e])
theorem mean_any {p : Pr} {j : Int} {nm : ByteArray} (h : mean p j nm = 8) : p.ts.any (fun t => t.nm.toList == nm.toList) = true := by
  have := mean_thread h
  unfold tNames at this
  obtain ⟨t, ht, e⟩ := List.mem_map.1 this
  exact List.any_eq_true.2 ⟨t, ht, by simp [e]⟩
theorem mem_take_of_drop {ts : List Th} {j k : Nat} {t : Th} {r : List Th} (hd : ts.drop j = t :: r) (hjk : j < k) : t ∈ ts.take k := by
  have h1 : ts[j]? = some t := by have := List.getElem?_drop (xs := ts) (i := j) (j := 0); rw [hd] at this; simpa using this.symm
  have h2 : (ts.take k)[j]? = some t := by rw [List.getElem?_take, if_pos hjk]; exact h1
  exact List.mem_of_getElem? h2
theorem atTh_eq {p : Pr} {i : Int} {nm : ByteArray} {j : Nat} {t : Th} {r : List Th} (hthr : thrA p.ds p.ts [] = none) (hd : p.ts.drop j = t :: r) (hm : mean p i nm = 8) : (atTh p.ts nm == (j : Int)) = (nm.toList == t.nm.toList) := by
  have ha := mean_any hm
  rcases fidx_spec (fun t : Th => t.nm.toList == nm.toList) p.ts 0 with ⟨-, -, hn⟩ | ⟨k, d, r', hk, hf, hdk, hs, -⟩
  · rw [ha] at hn; cases hn
  · have hdn : d.nm.toList = nm.toList := by simpa using List.find?_some hs
    have hU := thrA_none p.ts [] hthr
    have e : atTh p.ts nm = (k : Int) := by unfold atTh; simpa using hf
    rw [e, Bool.eq_iff_iff, beq_iff_eq, beq_iff_eq]
    constructor
    · intro hkj
      have : k = j := by omega
      subst this
      rw [hd] at hdk
      injection hdk with h1 h2
      rw [h1]; exact hdn.symm
    · intro hnm
      by_cases hlt : k < j
      · exact absurd (by rw [hdn, hnm]) (usedT_mem (hU j t r hd) d (by simpa using mem_take_of_drop hdk hlt))
      · by_cases hgt : j < k
        · exact absurd (by rw [hdn, hnm]) (usedT_mem (hU k d r' hdk) t (by simpa using mem_take_of_drop hd hgt))
        · omega
theorem name_ne {nm : ByteArray} (h : nmOr nm true = true) : nm.toList.isEmpty = false := by
  unfold nmOr at h
  rw [if_pos rfl] at h
  rw [Lib.toList_data]
  cases hl : nm.data.toList with
  | nil => rw [hl] at h; exact absurd h (by decide)
  | cons a r => rfl
theorem shpS1_op {h : StH} {bl el : Nat} (hs : shpS1 h bl el = true) : 1 ≤ h.op ∧ h.op ≤ 15 := by
  unfold shpS1 fO at hs
  simp only [Bool.and_eq_true, decide_eq_true_eq] at hs
  exact ⟨hs.1.1.1.1, hs.1.1.1.2⟩
theorem shpS1_nm {h : StH} {bl el : Nat} (hs : shpS1 h bl el = true) (hf : fN h.op = true) : h.nm.toList.isEmpty = false := by
  unfold shpS1 at hs
  simp only [Bool.and_eq_true] at hs
  have := hs.1.1.2.1
  rw [hf] at this
  exact name_ne this
theorem shpD_on {d : De} (hs : shpD d = true) (hk : d.kind = 5) : d.on.toList.isEmpty = false := by
  unfold shpD at hs
  simp only [Bool.and_eq_true] at hs
  have := hs.2.2
  rw [hk] at this
  exact name_ne this
theorem want_kind (p : Pr) (i : Int) (nm : ByteArray) (k a : Int) (hk : 0 ≤ k ∧ k ≤ 9) (ha : conv k = a) (h0 : wantE (conv (mean p i nm)) a a = 0) : mean p i nm = k := by
  rw [← kind_want p i nm k a hk ha] at h0; exact kindE_zero h0
theorem or_cong {a x y : Int} (h : a = 0 → x = y) : orE a x = orE a y := by
  unfold orE
  cases ha : (a != 0)
  · exact h (by simpa using ha)
  · rfl
theorem if_or (a b : Int) : (if a != 0 then a else b) = orE a b := rfl
section
variable {p : Pr} {j : Nat} {tn t0n : ByteArray} {ar : StL} {f g : List UInt8 → Bool} {h : StH}
theorem st_9 (hsd : ∀ d ∈ p.ds, shpD d = true) (q : Bool) :
    (if wantE (conv (mean p j h.nm)) 5 5 != 0 then wantE (conv (mean p j h.nm)) 5 5 else nest ((insR ar 7 7 ⟨#[]⟩ || !insR ar 4 4 (mutexP p.ds h.nm)) || (q && insR ar 8 8 ⟨#[]⟩))) = firstE [kindE (mean p j h.nm) [6], nest ((insP ar [7] || !insN ar (mutexP p.ds h.nm) [4]) || (q && insP ar [8]))] := by
  rw [first_two, if_or, kind_want p j h.nm 6 5 (by decide) rfl, insR_P, insR_P]
  refine or_cong (fun h0 => ?_)
  obtain ⟨k, d, r, -, -, -, hm, hk, hmu⟩ := decl_first h0
  rw [hmu, insR_one 4 d.on (shpD_on (hsd d hm) hk)]
theorem st_12 {t t0 : Th} {r r0 : List Th} (hthr : thrA p.ds p.ts [] = none) (hd : p.ts.drop j = t :: r) (hts : p.ts = t0 :: r0) {fs : List ByteArray} :
    (if wantE (conv (mean p j h.nm)) 7 7 != 0 then wantE (conv (mean p j h.nm)) 7 7 else if ((((insR ar 7 7 ⟨#[]⟩ || insR ar 8 8 ⟨#[]⟩) || insR ar 3 3 ⟨#[]⟩) || atTh p.ts h.nm == (j : Int)) || atTh p.ts h.nm == 0) then 7 else onceE (inTx fs h.nm.toList)) =
    firstE [kindE (mean p j h.nm) [8], nest (insP ar [7, 8, 3] || (h.nm.toList == t.nm.toList || h.nm.toList == t0.nm.toList)), onceE (mem (nms fs) h.nm.toList)] := by
  rw [first_three, if_or, kind_want p j h.nm 8 7 (by decide) rfl, insR_P, insR_P, insR_P, insP_three]
  refine or_cong (fun h0 => ?_)
  have hm := want_kind p j h.nm 8 7 (by decide) rfl h0
  have e0 := atTh_eq (j := 0) (t := t0) (r := r0) hthr (by simpa using hts) hm
  have e1 := atTh_eq hthr hd hm
  rw [e1, show ((0 : Int)) = ((0 : Nat) : Int) from rfl, e0, mem_nms, Bool.or_assoc (_ || _) (_ == _)]
  cases ((insP ar [7] || insP ar [8] || insP ar [3]) || (h.nm.toList == t.nm.toList || h.nm.toList == t0.nm.toList)) <;> simp [nest, orE]
theorem st_13 {t : Th} {r : List Th} (hthr : thrA p.ds p.ts [] = none) (hd : p.ts.drop j = t :: r) :
    orE (wantE (conv (mean p j h.nm)) 7 7) (nest ((insR ar 7 7 ⟨#[]⟩ || insR ar 8 8 ⟨#[]⟩) || atTh p.ts h.nm == (j : Int))) = firstE [kindE (mean p j h.nm) [8], nest (insP ar [7, 8] || h.nm.toList == t.nm.toList)] := by
  rw [first_two, kind_want p j h.nm 8 7 (by decide) rfl, insR_P, insR_P, insP_two]
  refine or_cong (fun h0 => ?_)
  rw [atTh_eq hthr hd (want_kind p j h.nm 8 7 (by decide) rfl h0)]
theorem st_14 {gs : List ByteArray} {x : Int} :
    orE (if (orE (wantE (conv (mean p j h.nm)) 6 6) (nest (insR ar 7 7 ⟨#[]⟩ || insR ar 3 3 ⟨#[]⟩)) == 0) && inTx gs h.nm.toList then 8 else orE (wantE (conv (mean p j h.nm)) 6 6) (nest (insR ar 7 7 ⟨#[]⟩ || insR ar 3 3 ⟨#[]⟩))) x =
    firstE [kindE (mean p j h.nm) [7], nest (insP ar [7, 3]), onceE (mem (nms gs) h.nm.toList), x] := by
  rw [insR_P, insR_P, insP_two, mem_nms, kind_want p j h.nm 7 6 (by decide) rfl]
  generalize wantE (conv (mean p j h.nm)) 6 6 = a
  generalize nest (insP ar [7] || insP ar [3]) = b
  generalize inTx gs h.nm.toList = c
  unfold firstE firstE firstE firstE orE onceE
  cases ha : (a != 0) <;> cases hb : (b != 0) <;> cases c <;> simp_all [firstE]
  all_goals (intro hx; exact hx.symm)
end
end Md
open Md
theorem WkOP.plain {w w' : World} {L : LayW} {p : Pr} {aoD aoT : Option Addr} {capD capT : Nat} {i : Int} {A : List Fr} {fs gs : List ByteArray} {v vs ve : Value} {h : StH} {r x : Int} {e : Ending}
    (hI : WkI w L p aoD aoT capD capT i A fs gs v vs ve) (h12 : (h.op == 12) = false) (h14 : (h.op == 14) = false) (hr : x = r) (hp : e = .returned (.int .i64 x) ∧ Below w.heap.size w w') : WkOP w L p aoD aoT capD capT i A fs gs v vs ve (adS 12 h fs) (adS 14 h gs) r e w' := by
  subst hr
  refine ⟨hp.1, Kw.of_below hp.2, fs, gs, vs, ve, OwnL.refl _ _, hI.below hp.2, fun _ => ?_⟩
  unfold adS; rw [h12, h14]; exact ⟨rfl, rfl⟩
theorem wkOne_any (L : LayW) (p : Pr) (w : World) (aoD aoT : Option Addr) (capD capT : Nat) (j : Nat) (A : List Fr) (fs gs : List ByteArray) (v vs ve : Value) (hI : WkI w L p aoD aoT capD capT (j : Int) A fs gs v vs ve) (h : StH) (b e : StL) (s : Sl) (hin : StInB w L.B0 h b e s) (hj : I64 (j : Int)) (hA : A.length ≤ maxLen) (hfs : fs.length ≤ 1000000000000) (hgs : gs.length ≤ 1000000000000)
    (t t0 : Th) (r r0 : List Th) (hd : p.ts.drop j = t :: r) (hts : p.ts = t0 :: r0) (hthr : thrA p.ds p.ts [] = none) (hsd : ∀ d ∈ p.ds, shpD d = true) (hsh : shpS1 h b.len e.len = true) :
    Calls Tryd.prog 58 #[.pointer (some ⟨L.bc, 0, none⟩), stV h b e s] w (WkOP w L p aoD aoT capD capT (j : Int) A fs gs v vs ve (adS 12 h fs) (adS 14 h gs) (stE p j t.nm t0.nm (frL A) (mem (nms fs)) (mem (nms gs)) h)) := by
  have hop := shpS1_op hsh
  have hnm := shpS1_nm hsh
  have hc : h.op = 12 ∨ h.op = 14 ∨ h.op = 1 ∨ h.op = 2 ∨ h.op = 3 ∨ h.op = 4 ∨ h.op = 5 ∨ h.op = 6 ∨ h.op = 7 ∨ h.op = 8 ∨ h.op = 9 ∨ h.op = 10 ∨ h.op = 11 ∨ h.op = 13 ∨ h.op = 15 := by omega
  rcases hc with hc | hc | hc
  · refine (wkOne12 L p w aoD aoT capD capT j A fs gs v vs ve hI h b e s hin hj hA hfs hgs hc).mono (fun e' w' hr => ?_)
    have e1 : adS 12 h fs = fs ++ [h.nm] := by unfold adS; rw [hc]; rfl
    have e2 : adS 14 h gs = gs := by unfold adS; rw [hc]; rfl
    have e3 : stE p j t.nm t0.nm (frL A) (mem (nms fs)) (mem (nms gs)) h = firstE [kindE (mean p j h.nm) [8], nest (insP (frL A) [7, 8, 3] || (h.nm.toList == t.nm.toList || h.nm.toList == t0.nm.toList)), onceE (mem (nms fs) h.nm.toList)] := by unfold stE; simp [hc]
    rw [e1, e2, e3, ← st_12 hthr hd hts]
    exact hr
  · refine (wkOne14 L p w aoD aoT capD capT j A fs gs v vs ve hI h b e s hin hj hA hfs hgs hc).mono (fun e' w' hr => ?_)
    have e1 : adS 12 h fs = fs := by unfold adS; rw [hc]; rfl
    have e2 : adS 14 h gs = gs ++ [h.nm] := by unfold adS; rw [hc]; rfl
    have e3 : stE p j t.nm t0.nm (frL A) (mem (nms fs)) (mem (nms gs)) h = firstE [kindE (mean p j h.nm) [7], nest (insP (frL A) [7, 3]), onceE (mem (nms gs) h.nm.toList), exE p j h.xop h.xn h.xnm h.xkids] := by unfold stE; simp [hc]
    rw [e1, e2, e3, ← st_14]
    exact hr
  · obtain ⟨aoA, capA, rfl, hat⟩ := hI.form
    obtain ⟨aoS, capS, rfl, -⟩ := hI.formS
    obtain ⟨aoE, capE, rfl, -⟩ := hI.formE
    have hp := hI.dat.use hI.b0
    have hin' := hin.use hI.b0
    have hal : (frL A).len ≤ maxLen := by rw [frL_len]; exact hA
    have hh := hI.holds
    rcases hc with hc | hc | hc | hc | hc | hc | hc | hc | hc | hc | hc | hc | hc
    · cases hix : h.idx with
      | nil =>
        refine (wkOne1a p w aoD aoT capD capT j aoA capA L.bc aoS _ capS aoE _ capE h b e (frL A) s hj hp hin' hal hat hh hc (by rw [hix]; rfl)).mono (fun e' w' hr => WkOP.plain hI (by rw [hc]; rfl) (by rw [hc]; rfl) ?_ hr)
        rw [← kind_want2, ← first_two]; unfold stE asgE; simp [hc, hix, ExL.len]
      | cons op0 n0 nm0 kids0 rest0 =>
        refine (wkOne1b p w aoD aoT capD capT j aoA capA L.bc aoS _ capS aoE _ capE h b e (frL A) s hj hp hin' hal hat hh hc op0 n0 nm0 kids0 rest0 hix).mono (fun e' w' hr => WkOP.plain hI (by rw [hc]; rfl) (by rw [hc]; rfl) ?_ hr)
        have hne : ¬ ((rest0.len : Int) + 1 = 0) := by omega
        rw [← kind_want p j h.nm 3 2 (by decide) rfl, ← first_three]; unfold stE asgE ex1; simp [hc, hix, ExL.len, hne]
    · exact (wkOne2 p w aoD aoT capD capT j aoA capA L.bc aoS _ capS aoE _ capE h b e (frL A) s hj hp hin' hal hat hh hc).mono (fun e' w' hr => WkOP.plain hI (by rw [hc]; rfl) (by rw [hc]; rfl) (by unfold stE; simp [hc]) hr)
    · exact (wkOne3 p w aoD aoT capD capT j aoA capA L.bc aoS _ capS aoE _ capE h b e (frL A) s hj hp hin' hal hat hh hc).mono (fun e' w' hr => WkOP.plain hI (by rw [hc]; rfl) (by rw [hc]; rfl) (by unfold stE; simp [hc]) hr)
    · refine (wkOne4 p w aoD aoT capD capT j aoA capA L.bc aoS _ capS aoE _ capE h b e (frL A) s hj hp hin' hal hat hh hc).mono (fun e' w' hr => WkOP.plain hI (by rw [hc]; rfl) (by rw [hc]; rfl) ?_ hr)
      rw [← kind_want p j h.nm 4 3 (by decide) rfl, ← first_two, insR_P, insR_one 4 h.nm (hnm (by rw [hc]; rfl))]; unfold stE; simp [hc]
    · refine (wkOne5 p w aoD aoT capD capT j aoA capA L.bc aoS _ capS aoE _ capE h b e (frL A) s hj hp hin' hal hat hh hc).mono (fun e' w' hr => WkOP.plain hI (by rw [hc]; rfl) (by rw [hc]; rfl) ?_ hr)
      rw [← kind_want p j h.nm 5 4 (by decide) rfl, ← first_two, insR_P, insR_two 5 6 h.nm (hnm (by rw [hc]; rfl))]; unfold stE; simp [hc]
    · refine (wkOne6 p w aoD aoT capD capT j aoA capA L.bc aoS _ capS aoE _ capE h b e (frL A) s hj hp hin' hal hat hh hc).mono (fun e' w' hr => WkOP.plain hI (by rw [hc]; rfl) (by rw [hc]; rfl) ?_ hr)
      rw [← kind_want p j h.nm 5 4 (by decide) rfl, ← first_two, insR_P, insR_two 5 6 h.nm (hnm (by rw [hc]; rfl))]; unfold stE; simp [hc]
    · refine (wkOne7 p w aoD aoT capD capT j aoA capA L.bc aoS _ capS aoE _ capE h b e (frL A) s hj hp hin' hal hat hh hc).mono (fun e' w' hr => WkOP.plain hI (by rw [hc]; rfl) (by rw [hc]; rfl) ?_ hr)
      rw [insR_P]; unfold stE; simp [hc]
    · refine (wkOne8 p w aoD aoT capD capT j aoA capA L.bc aoS _ capS aoE _ capE h b e (frL A) s hj hp hin' hal hat hh hc).mono (fun e' w' hr => WkOP.plain hI (by rw [hc]; rfl) (by rw [hc]; rfl) ?_ hr)
      rw [insR_P, insR_P, ← insP_two]; unfold stE; simp [hc]
    · refine (wkOne9 p w aoD aoT capD capT j aoA capA L.bc aoS _ capS aoE _ capE h b e (frL A) s hj hp hin' hal hat hh hc).mono (fun e' w' hr => WkOP.plain hI (by rw [hc]; rfl) (by rw [hc]; rfl) ?_ hr)
      rw [st_9 hsd]; unfold stE; simp [hc]
    · refine (wkOne10 p w aoD aoT capD capT j aoA capA L.bc aoS _ capS aoE _ capE h b e (frL A) s hj hp hin' hal hat hh hc).mono (fun e' w' hr => WkOP.plain hI (by rw [hc]; rfl) (by rw [hc]; rfl) ?_ hr)
      rw [st_9 hsd]; unfold stE; simp [hc]
    · refine (wkOne11 p w aoD aoT capD capT j aoA capA L.bc aoS _ capS aoE _ capE h b e (frL A) s hj hp hin' hal hat hh hc).mono (fun e' w' hr => WkOP.plain hI (by rw [hc]; rfl) (by rw [hc]; rfl) ?_ hr)
      rw [st_9 hsd]; unfold stE; simp [hc]
    · refine (wkOne13 p w aoD aoT capD capT j aoA capA L.bc aoS _ capS aoE _ capE h b e (frL A) s hj hp hin' hal hat hh hc).mono (fun e' w' hr => WkOP.plain hI (by rw [hc]; rfl) (by rw [hc]; rfl) ?_ hr)
      rw [st_13 hthr hd]; unfold stE; simp [hc]
    · refine (wkOne15 p w aoD aoT capD capT j aoA capA L.bc aoS _ capS aoE _ capE h b e (frL A) s hj hp hin' hal hat hh hc).mono (fun e' w' hr => WkOP.plain hI (by rw [hc]; rfl) (by rw [hc]; rfl) ?_ hr)
      rw [← kind_want p j h.nm 1 8 (by decide) rfl, ← kind_want p j h.arg 7 6 (by decide) rfl, insR_P, ← first_three]; unfold stE; simp [hc]
end Go.Proofs.YtghdammalphmfaaDoor
end
section
set_option linter.unusedSimpArgs false
set_option linter.unusedVariables false
namespace Go.Proofs.YtghdammalphmfaaDoor
open Go.RowKit
open Md
/-- What a list leaves. -/
def WkLP (w : World) (L : LayW) (p : Pr) (aoD aoT : Option Addr) (capD capT : Nat) (i : Int) (A : List Fr) (v vs ve : Value) (r : CkR) (e : Ending) (w' : World) : Prop :=
  e = .returned (.tuple #[.int .i64 r.err, .int .i64 r.line]) ∧ Kw L [v, vs, ve] w w' ∧ ∃ fs' gs' v' vs' ve', OwnL w [v, vs, ve] [v', vs', ve'] ∧ WkI w' L p aoD aoT capD capT i A fs' gs' v' vs' ve' ∧ (r.err = 0 → Few (tNames p) r.f ∧ Few (dNames p) r.g ∧ nms fs' = r.f ∧ nms gs' = r.g)
def WkSays (L : LayW) (p : Pr) (aoD aoT : Option Addr) (capD capT : Nat) (j : Nat) (t t0 : Th) (l : StL) : Prop :=
  ∀ (w : World) (ao : Option Addr) (cap : Nat) (A : List Fr) (fs gs : List ByteArray) (v vs ve : Value), l.len ≤ maxLen → l.At w L.B0 ao 0 → shpSL l = true → A.length ≤ 6 → Few (tNames p) (nms fs) → Few (dNames p) (nms gs) → WkI w L p aoD aoT capD capT (j : Int) A fs gs v vs ve →
    Calls Tryd.prog 35 #[.pointer (some ⟨L.bc, 0, none⟩), .slice ao l.len cap] w (WkLP w L p aoD aoT capD capT (j : Int) A v vs ve (ckL p j t.nm t0.nm l (frL A) (nms fs) (nms gs)))
theorem few_tl {p : Pr} {fs : List ByteArray} {n : Nat} (h : Few (tNames p) (nms fs)) (hT : p.ts.length ≤ n) : fs.length ≤ n := by
  have := h.le; rw [nms_len] at this; unfold tNames at this; rw [List.length_map] at this; omega
theorem few_dl {p : Pr} {fs : List ByteArray} {n : Nat} (h : Few (dNames p) (nms fs)) (hT : p.ds.length ≤ n) : fs.length ≤ n := by
  have := h.le; rw [nms_len] at this; unfold dNames at this; rw [List.length_map] at this; omega
set_option maxHeartbeats 8000000 in
set_option maxRecDepth 100000 in
theorem wkAll_of (L : LayW) (p : Pr) (aoD aoT : Option Addr) (capD capT : Nat) (j : Nat) (t t0 : Th) (r r0 : List Th) (hd : p.ts.drop j = t :: r) (hts : p.ts = t0 :: r0) (hj : I64 (j : Int)) (hT : p.ts.length ≤ 1000000000000) (hD : p.ds.length ≤ 1000000000000) (hthr : thrA p.ds p.ts [] = none) (hsd : ∀ d ∈ p.ds, shpD d = true) (l : StL) (hall : l.All fun _ b e => WkSays L p aoD aoT capD capT j t t0 b ∧ WkSays L p aoD aoT capD capT j t t0 e) : WkSays L p aoD aoT capD capT j t t0 l := by
  intro w ao cap A fs gs v vs ve hl hat hsh hA hf hg hI
  generalize hres : ckL p j t.nm t0.nm l (frL A) (nms fs) (nms gs) = res
  have HR := Lib.hid hres
  have HAT := Lib.hid hat
  have HAL := Lib.hid hall
  have HSH := Lib.hid hsh
  have HF := Lib.hid hf
  have HG := Lib.hid hg
  have HI := Lib.hid hI
  have HTH := Lib.hid hthr
  have HSD := Lib.hid hsd
  have HTT := Lib.hid hT
  have HDD := Lib.hid hD
  have HD := Lib.hid hd
  have HTS := Lib.hid hts
  unfold maxLen at hl
  have HA := Lib.hid hA
  clear hres hat hall hf hg hI hA hsh hthr hsd hT hD hd hts
  go_enter Tryd.func35, Tryd.ntmps35
  go_wp2_with fail
  go_loopw [6, 7, 8, 9] (fun s _ _ _ wr => ∃ (k : Nat) (R : StL) (f1 g1 : List ByteArray) (v1 s1 e1 : Value), s = .int .i64 k ∧ k + R.len = l.len ∧ res = ckL p j t.nm t0.nm R (frL A) (nms f1) (nms g1) ∧ (R.All fun _ b e => WkSays L p aoD aoT capD capT j t t0 b ∧ WkSays L p aoD aoT capD capT j t t0 e) ∧ R.At wr L.B0 ao k ∧ shpSL R = true ∧ Few (tNames p) (nms f1) ∧ Few (dNames p) (nms g1) ∧ Kw L [v, vs, ve] w wr ∧ OwnL w [v, vs, ve] [v1, s1, e1] ∧ WkI wr L p aoD aoT capD capT (j : Int) A f1 g1 v1 s1 e1) (fun s _ _ _ _ => l.len - (intOf s).toNat)
  case atStart => exact ⟨0, l, fs, gs, v, vs, ve, rfl, by simp, HR.out.symm, HAL.out, HAT.out, HSH.out, HF.out, HG.out, Kw.refl _ _ _, OwnL.refl _ _, HI.out⟩
  case round =>
    obtain ⟨k, R, f1, g1, v1, s1, e1, rfl, hlen, heq, hall, hrow, hsl, hf1, hg1, hKw, hOw, hI⟩ := hrel
    have HE := Lib.hid heq
    have HK := Lib.hid hKw
    have HO := Lib.hid hOw
    have HSL := Lib.hid hsl
    clear heq hKw hOw hsl
    cases R with
    | nil =>
      obtain rfl : k = l.len := by simpa [StL.len] using hlen
      have HX : Hid (WkLP w L p aoD aoT capD capT (j : Int) A v vs ve res (.returned (.tuple #[.int .i64 0, .int .i64 0])) wr) := Lib.hid (by
        rw [HE.out]; exact ⟨rfl, HK.out, f1, g1, v1, s1, e1, HO.out, hI, fun _ => ⟨hf1, hg1, rfl, rfl⟩⟩)
      clear hI hall hrow hf1 hg1 HE
      go_wp2_with fail
      go_ret2
      exact HX.out
    | cons h b e R =>
      obtain ⟨bl, off, s, rfl, hbl, hin, x0, x1, x2, x3, x4, x5, x6, x7, x8, x9, x10, hrest⟩ := StL.At.headB hrow
      have hkl : k < l.len := by simp only [StL.len] at hlen; omega
      obtain ⟨hsay, hallr⟩ := hall
      obtain ⟨aoA, capA, rfl, -⟩ := hI.form
      have HSAY := Lib.hid hsay
      have HALR := Lib.hid hallr
      have HF1 := Lib.hid hf1
      have HG1 := Lib.hid hg1
      have HIN := Lib.hid hin
      have HRS := Lib.hid hrest
      have HIR := Lib.hid hI
      have HS3 : Hid (shpS1 h b.len e.len = true ∧ shpSL b = true ∧ shpSL e = true ∧ shpSL R = true) := Lib.hid (by
        have := HSL.out
        unfold shpSL at this
        simp only [Bool.and_eq_true] at this
        exact ⟨this.1.1, this.1.2.1, this.1.2.2, this.2⟩)
      clear hrow hin hsay hallr hf1 hg1 hrest hI HSL
      go_upto_region 5 with fail
      obtain ⟨nb, hnb⟩ : ∃ n, wr.heap.size = n := ⟨_, rfl⟩
      generalize hW2 : World.alloc wr _ = W2
      have HBX : Hid (W2.heap[nb]? = some (.cells (stC h b e s).toArray 48 (0, 0))) := Lib.hid (by rw [← hW2, ← hnb]; exact heap_alloc_new _ _)
      have HAB : Hid (Below wr.heap.size wr W2) := Lib.hid (by rw [← hW2]; exact alloc_below _ _)
      have HI2 := Lib.hid (HIR.out.below HAB.out)
      have HK2 : Hid (Kw L [v, vs, ve] w W2) := Lib.hid (HK.out.trans HO.out (Kw.of_below HAB.out))
      have HNB : Hid (L.B1 ≤ nb ∧ nb < W2.heap.size) := Lib.hid ⟨by rw [← hnb]; exact HIR.out.sz, (Array.getElem?_eq_some_iff.1 HBX.out).1⟩
      have HON : Hid (¬ Own [.slice aoA A.length capA, s1, e1] nb) := Lib.hid (fun e => by
        have := (HIR.out.own _ e).2; omega)
      rw [hnb]
      clear hW2 hnb x0 x1 x2 x3 x4 x5 x6 x7 x8 x9 x10 hbl
      have hA6 := HA.out
      obtain ⟨y0, y1, y2, y3, y4, y5, y6, y7, y8, y9, y10⟩ := bxC HBX.out
      go_wp2_with fail
      refine (wkOne_any L p W2 aoD aoT capD capT j A f1 g1 _ s1 e1 HI2.out h b e s (HIN.out.below (HAB.out.mono HIR.out.b0)) hj (by unfold maxLen; omega) (few_tl HF1.out HTT.out) (few_dl HG1.out HDD.out) t t0 r r0 HD.out HTS.out HTH.out HSD.out HS3.out.1).mono ?_
      rintro e' w3 ⟨rfl, hK3, f3, g3, s3, e3, hO3, hI3, hq3⟩
      have HBX3 : Hid (w3.heap[nb]? = some (.cells (stC h b e s).toArray 48 (0, 0))) := Lib.hid ((hK3.far HNB.out.2 HNB.out.1 HON.out).trans HBX.out)
      have HI3 := Lib.hid hI3
      have HK23 := Lib.hid hK3
      have HK3 : Hid (Kw L [v, vs, ve] w w3) := Lib.hid (HK2.out.trans HO.out hK3)
      have HO3 : Hid (OwnL w [v, vs, ve] [.slice aoA A.length capA, s3, e3]) := Lib.hid (HO.out.trans hO3 HK2.out.size)
      have HON3 : Hid (¬ Own [.slice aoA A.length capA, s3, e3] nb) := Lib.hid (hO3.ne HNB.out.2 HON.out)
      have HQ3 := Lib.hid hq3
      have hnb3 : nb < w3.heap.size := (Array.getElem?_eq_some_iff.1 HBX3.out).1
      clear hK3 hI3 hO3 hq3 y0 y1 y2 y3 y4 y5 y6 y7 y8 y9 y10
      obtain ⟨y0, y1, y2, y3, y4, y5, y6, y7, y8, y9, y10⟩ := bxC HBX3.out
      have c3 : w3.cell? ⟨L.bc, 3, none⟩ = some (.slice aoA A.length capA) := (cell_blk HI3.out.blk (j := 3) rfl).2
      by_cases hA5 : A.length = 6
      · have HX : Hid (res = ⟨2, h.line, nms f1, nms g1⟩) := Lib.hid (HE.out.trans (by rw [ckL, if_pos (by rw [frL_len, hA5]; rfl)]))
        rw [hA5] at c3
        clear hA6
        go_wp2_with fail
        go_quiet (fail)
        go_wp2_with fail
        go_ret2
        refine ⟨ret2 (by rw [HX.out]; rfl) (by rw [HX.out]; rfl), HK3.out.trans (OwnL.refl _ _) (Kw.of_below (below_drewN (Below.refl _ _) _)), f3, g3, _, s3, e3, HO3.out, HI3.out.below (below_drewN (Below.refl _ _) _), fun h0 => ?_⟩
        rw [HX.out] at h0; cases h0
      · have hA' : A.length < 6 := by omega
        have hdec : decide (6 < (A.length : Int) + 1) = false := by rw [decide_eq_false_iff_not]; omega
        have HSE : Hid (stE p j t.nm t0.nm (frL A) (mem (nms f1)) (mem (nms g1)) h = 0 → Few (tNames p) (fL 12 h (nms f1)) ∧ Few (dNames p) (fL 14 h (nms g1))) := Lib.hid (fun h0 => ⟨few_f HF1.out h0, few_g HG1.out h0⟩)
        have HU : Hid (res = if stE p j t.nm t0.nm (frL A) (mem (nms f1)) (mem (nms g1)) h != 0 then ⟨stE p j t.nm t0.nm (frL A) (mem (nms f1)) (mem (nms g1)) h, h.line, nms f1, nms g1⟩ else ckT p j t.nm t0.nm b e R (frL A) ((frL A).app (.cons h b e .nil)) 0 (fL 12 h (nms f1)) (fL 14 h (nms g1))) := Lib.hid (HE.out.trans (by
          rw [ckL, if_neg (by rw [frL_len, decide_eq_true_iff]; omega)]; rfl))
        clear HE hA5
        generalize stE p j t.nm t0.nm (frL A) (mem (nms f1)) (mem (nms g1)) h = x at *
        cases hx : (x != 0)
        case true =>
          have HX : Hid (res = ⟨x, h.line, nms f1, nms g1⟩) := Lib.hid (HU.out.trans (by rw [hx]; rfl))
          have HX0 : Hid (x ≠ 0) := Lib.hid (by simpa using hx)
          clear HU HSE
          go_wp2_with fail
          go_quiet (fail)
          go_wp2_with fail
          go_ret2
          refine ⟨ret2 (by rw [HX.out]; rfl) (by rw [HX.out]; rfl), HK3.out.trans (OwnL.refl _ _) (Kw.of_below (below_drewN (Below.refl _ _) _)), f3, g3, _, s3, e3, HO3.out, HI3.out.below (below_drewN (Below.refl _ _) _), fun h0 => ?_⟩
          rw [HX.out] at h0; exact (HX0.out h0).elim
        have HT : Hid (res = ckT0 p j t.nm t0.nm b e R (frL A) ((frL A).app (.cons h b e .nil)) (nms f3) (nms g3)) := Lib.hid (HU.out.trans (by
          rw [hx, (HQ3.out (by simpa using hx)).1, (HQ3.out (by simpa using hx)).2, nms_adS, nms_adS]; rfl))
        have HFG : Hid (Few (tNames p) (nms f3) ∧ Few (dNames p) (nms g3)) := Lib.hid (by
          rw [(HQ3.out (by simpa using hx)).1, (HQ3.out (by simpa using hx)).2, nms_adS, nms_adS]; exact HSE.out (by simpa using hx))
        clear HU HSE HQ3
        go_upto_region 10 with fail
        have Y0 : ∀ w', Below w3.heap.size w3 w' → w'.cell? ⟨nb, 0, none⟩ = some (.int .i64 h.op) := fun w' hb => (hb.cell (p := ⟨nb, 0, none⟩) hnb3).trans y0
        have Y1 : ∀ w', Below w3.heap.size w3 w' → w'.cell? ⟨nb, 1, none⟩ = some (.int .i64 h.line) := fun w' hb => (hb.cell (p := ⟨nb, 1, none⟩) hnb3).trans y1
        have Y2 : ∀ w', Below w3.heap.size w3 w' → w'.cell? ⟨nb, 2, none⟩ = some (.string h.nm) := fun w' hb => (hb.cell (p := ⟨nb, 2, none⟩) hnb3).trans y2
        have Y3 : ∀ w', Below w3.heap.size w3 w' → w'.cell? ⟨nb, 3, none⟩ = some (.string h.arg) := fun w' hb => (hb.cell (p := ⟨nb, 3, none⟩) hnb3).trans y3
        have Y4 : ∀ w', Below w3.heap.size w3 w' → w'.cell? ⟨nb, 4, none⟩ = some (.slice s.aoi h.idx.len s.capi) := fun w' hb => (hb.cell (p := ⟨nb, 4, none⟩) hnb3).trans y4
        have Y5 : ∀ w', Below w3.heap.size w3 w' → w'.cell? ⟨nb, 5, none⟩ = some (.int .i64 h.xop) := fun w' hb => (hb.cell (p := ⟨nb, 5, none⟩) hnb3).trans y5
        have Y6 : ∀ w', Below w3.heap.size w3 w' → w'.cell? ⟨nb, 6, none⟩ = some (.int .i64 h.xn) := fun w' hb => (hb.cell (p := ⟨nb, 6, none⟩) hnb3).trans y6
        have Y7 : ∀ w', Below w3.heap.size w3 w' → w'.cell? ⟨nb, 7, none⟩ = some (.string h.xnm) := fun w' hb => (hb.cell (p := ⟨nb, 7, none⟩) hnb3).trans y7
        have Y8 : ∀ w', Below w3.heap.size w3 w' → w'.cell? ⟨nb, 8, none⟩ = some (.slice s.aox h.xkids.len s.capx) := fun w' hb => (hb.cell (p := ⟨nb, 8, none⟩) hnb3).trans y8
        have Y9 : ∀ w', Below w3.heap.size w3 w' → w'.cell? ⟨nb, 9, none⟩ = some (.slice s.aob b.len s.capb) := fun w' hb => (hb.cell (p := ⟨nb, 9, none⟩) hnb3).trans y9
        have Y10 : ∀ w', Below w3.heap.size w3 w' → w'.cell? ⟨nb, 10, none⟩ = some (.slice s.aoe e.len s.cape) := fun w' hb => (hb.cell (p := ⟨nb, 10, none⟩) hnb3).trans y10
        have L3 : ∀ w', Below w3.heap.size w3 w' → w'.cell? ⟨L.bc, 3, none⟩ = some (.slice aoA A.length capA) := fun w' hb => (hb.cell (p := ⟨L.bc, 3, none⟩) (by have := HI3.out.sz; have := L.c1; show L.bc < _; omega)).trans c3
        clear y0 y1 y2 y3 y4 y5 y6 y7 y8 y9 y10 c3 hdec
        refine wpAny_start (by kernel_rfl) rfl ?_
        refine wpAny_phase 0 7 [] [[], [0], [0, 1], [0, 1, 2], [], [0, 1, 2, 3], [], [0, 1, 2, 3, 4, 5, 6], [0, 1, 2, 3, 4, 5, 6, 7], [0, 1, 2, 3, 4, 5, 6, 7, 8], [0, 1, 2, 3, 4, 5, 6, 7], [0, 1, 2, 3, 4, 5, 6, 7, 10], [0, 1, 2, 3, 4, 5, 6, 7, 10, 11]] [[], [], [], [], [], [], []] (fun _ w' => Below w3.heap.size w3 w') (fun w w' => Below w.heap.size w w') [35, 36, 37, 38, 39, 40, 41] rfl rfl (by rfl) (by kernel_rfl) (by kernel_rfl) (by kernel_rfl) (by kernel_rfl) (by kernel_rfl) (by rfl) (fun _ => Below.refl _ _) (by rfl) (below_drewN (Below.refl _ _) 1) ?_
        simp only [List.take_succ_cons, List.take_zero, List.drop_zero, List.drop_succ_cons, dumE, List.map_cons, List.map_nil]
        apply ObP.step
        case hobl =>
          intro c A w' hok hC hO hD
          have e0 := hO 0 (by rfl)
          simp [Act.eval] at e0
          simp [depsL, IsV, slotv, Act.eval, Region.binds] at hD
          simp [go_sem, gd, Oper.wp, hD, e0]
          exact WPost.mk (Below.refl _ _) hC (IsV.mk _ _)
        apply ObP.step
        case hobl =>
          intro c A w' hok hC hO hD
          simp [depsL, IsV, slotv, Act.eval, Region.binds] at hD
          simp [go_sem, gd, Oper.wp, hD]
          exact WPost.mk (Below.refl _ _) hC (IsV.mk _ _)
        apply ObP.step
        case hobl =>
          intro c A w' hok hC hO hD
          simp [depsL, IsV, slotv, Act.eval, Region.binds] at hD
          simp [go_sem, gd, Oper.wp, hD]
          exact WPost.mk (Below.refl _ _) hC (IsV.mk _ _)
        apply ObP.step
        case hobl =>
          intro c A w' hok hC hO hD
          simp [depsL, IsV, slotv, Act.eval, Region.binds] at hD
          simp [go_sem, gd, Oper.wp, hD, L3, hC]
          exact WPost.mk (Below.refl _ _) hC (IsV.mk _ _)
        apply ObP.step
        case hobl =>
          intro c A w' hok hC hO hD
          have e7 := hO 7 (by rfl)
          simp [Act.eval] at e7
          simp [depsL, IsV, slotv, Act.eval, Region.binds] at hD
          simp [go_sem, gd, Oper.wp, hD, e7, Y0, Y1, Y2, Y3, Y4, Y5, Y6, Y7, Y8, Y9, Y10, hC]
          exact WPost.mk (Below.refl _ _) hC (IsV.mk _ _)
        apply ObP.step
        case hobl =>
          intro c A w' hok hC hO hD
          simp [depsL, IsV, slotv, Act.eval, Region.binds] at hD
          simp [go_sem, gd, Oper.wp, hD]
          exact WPost.mk (Below.refl _ _) hC (IsV.mk _ _)
        refine ObP.some (fun v w' => ∃ bb, v = .slice (some ⟨bb, 0, none⟩) 1 1 ∧ w'.heap[bb]? = some (.cells zSt 48 (0, 0))) ?_ ?_ ?_
        · rintro v w w' hle ⟨bb, rfl, hbb⟩
          exact ⟨bb, rfl, (hle.block bb (Array.getElem?_eq_some_iff.1 hbb).1).trans hbb⟩
        · intro c A w' hok hC hO hD
          simp [go_sem, gd, Oper.wp]
          exact WPost.mk (d := _) (v := .slice (some ⟨_, 0, none⟩) 1 1) (alloc_below _ _) (hC.trans ((alloc_below _ _).mono hC.size)) ⟨_, rfl, heap_alloc_new _ _⟩
        simp only [List.nil_append, List.cons_append]
        refine ObP.done ?_
        intro wz hCz
        simp only [List.drop_zero]
        intro v0 h0 v1 h1 v2 h2 v3 h3 v4 h4 v5 h5 v6 h6
        have h0' : v0 = _ := h0
        have h1' : v1 = _ := h1
        have h2' : v2 = _ := h2
        have h3' : v3 = _ := h3
        have h4' : v4 = _ := h4
        have h5' : v5 = _ := h5
        subst h0' h1' h2' h3' h4' h5'
        obtain ⟨bb, rfl, hbb⟩ := h6
        clear h0 h1 h2 h3 h4 h5
        refine AllVals.nil ?_
        go_simp
        refine wpAny_one 7 [[], [0], [0, 1], [0, 1, 2], [], [0, 1, 2, 3], [], [0, 1, 2, 3, 4, 5, 6], [0, 1, 2, 3, 4, 5, 6, 7], [0, 1, 2, 3, 4, 5, 6, 7, 8], [0, 1, 2, 3, 4, 5, 6, 7], [0, 1, 2, 3, 4, 5, 6, 7, 10], [0, 1, 2, 3, 4, 5, 6, 7, 10, 11]] rfl rfl rfl rfl rfl (by kernel_rfl) (by kernel_rfl) (by kernel_rfl) ?_
        obtain ⟨i0, hi0, hz0, hz1, hz2⟩ := st_info
        have HIz := Lib.hid (HI3.out.below hCz)
        refine wp_append_lies wz _ _ _ (by rfl) L.B1 48 i0 _ 11 176 Tryd.underlying42 hi0 hz0 hz1 hz2 (by rfl) (by omega) (.slice aoA A.length capA) A.length (frC A) (by rfl) HIz.out.row ⟨bb, 0, none⟩ 1 1 zSt.toList (by rfl) (by rfl) (World.news_of_block hbb) (by decide) (by omega) (by unfold maxLen; omega) (by omega) HIz.out.sz wz.heap.size rfl ?_
        intro g' cap' w4 hown4 hgrow4 hat4 hlt4
        clear hi0 hz0 hz1 hz2 hbb Y0 Y1 Y2 Y3 Y4 Y5 Y6 Y7 Y8 Y9 Y10 L3
        have HINx : Hid (StInB w3 L.B0 h b e s) := Lib.hid (HIN.out.below ((HAB.out.mono HIR.out.b0).trans (HK23.out.below HI2.out.b0 (fun k e => (HI2.out.own k e).1))))
        have HPU := Lib.hid (HI3.out.push ⟨h, b, e, s⟩ HINx.out hCz hown4 hgrow4 hat4)
        have hgb := (hown4.lt g' rfl).1
        have HB4 : Hid (w4.heap[L.bc]? = some (.cells (wkV p aoD aoT capD capT (j : Int) (.slice aoA A.length capA) s3 e3) 67 (0, 0))) := Lib.hid ((hgrow4.block _ (Array.getElem?_eq_some_iff.1 HIz.out.blk).1 (fun e' => HIz.out.bcne (u := .slice aoA A.length capA) (by simp) e'.symm)).trans HIz.out.blk)
        have HTHR := Lib.hid (owns_there hown4)
        have hgbc : g' ≠ L.bc := by have := L.c1; omega
        clear hown4 hgrow4 hat4 hlt4 hgb
        go_simp
        refine wpAny_phase 8 13 [9, 12] [[], [0], [0, 1], [0, 1, 2], [], [0, 1, 2, 3], [], [0, 1, 2, 3, 4, 5, 6], [0, 1, 2, 3, 4, 5, 6, 7], [0, 1, 2, 3, 4, 5, 6, 7, 8], [0, 1, 2, 3, 4, 5, 6, 7], [0, 1, 2, 3, 4, 5, 6, 7, 10], [0, 1, 2, 3, 4, 5, 6, 7, 10, 11]] [[some false, none], [some false, none], [none, some false], [none, some false], [none, some false]] (PC w4 g' (A.length * 11) (stC h b e s) ⟨L.bc, 3, none⟩ (.slice (some ⟨g', 0, none⟩) (A.length + 1) cap')) (fun _ _ => True) [43, 44, 45] rfl rfl (by rfl) (by kernel_rfl) (by kernel_rfl) (by kernel_rfl) (by kernel_rfl) (by kernel_rfl) (by rfl) (fun _ => trivial) (by rfl) rfl ?_
        simp only [List.take_succ_cons, List.take_zero, List.drop_zero, List.drop_succ_cons, dumE, List.map_cons, List.map_nil]
        have hA0 : (0 : Int) ≤ (A.length : Int) := by omega
        have hA1 : (A.length : Int) < (A.length : Int) + 1 := by omega
        apply ObP.step
        case hobl =>
          intro c A w' hok hC hO hD
          have e42 := hO 42 (by rfl)
          have e40 := hO 40 (by rfl)
          simp [Act.eval] at e42 e40
          simp [depsL, IsV, slotv, Act.eval, Region.binds] at hD
          simp [go_sem, gd, Oper.wp, hD, e42, e40, hA1]
          exact WPost.mk trivial (PC.skip (by rfl) (by rfl) hC) (IsV.mk _ _)
        refine ObP.some (fun _ _ => True) (fun _ _ _ _ _ => trivial) ?_ ?_
        · intro c A' w' hok hC hO hD
          obtain ⟨x, y, rfl⟩ := hC.bits
          obtain ⟨rfl, -⟩ := hok
          have e39 := hO 39 (by rfl)
          simp [depsL, IsV, slotv, Act.eval, Region.binds] at hD
          simp only [gd, if_true]
          refine wp_store_mid _ _ _ (by rfl) g' (A.length * 11) (stC h b e s).toArray (by simp [Act.eval, hD]) (e39.trans (by rfl)) (there_of_block HTHR.out (hC.elt_blk hgbc)) st_size (by simp [stC, Value.oneCell']) ?_
          exact WPost.mk0 trivial (PC.elt hgbc (by rfl) (by rfl) hC) trivial
        simp only [List.nil_append, List.cons_append]
        apply ObP.step
        case hobl =>
          intro c A w' hok hC hO hD
          have e35 := hO 35 (by rfl)
          simp [Act.eval] at e35
          simp [depsL, IsV, slotv, Act.eval, Region.binds] at hD
          simp [go_sem, gd, Oper.wp, hD, e35]
          exact WPost.mk trivial (PC.skip (by rfl) (by rfl) hC) (IsV.mk _ _)
        apply ObP.step
        case hobl =>
          intro c A w' hok hC hO hD
          simp [depsL, IsV, slotv, Act.eval, Region.binds] at hD
          simp [go_sem, gd, Oper.wp, hD]
          exact WPost.mk trivial (PC.skip (by rfl) (by rfl) hC) (IsV.mk _ _)
        refine ObP.some (fun _ _ => True) (fun _ _ _ _ _ => trivial) ?_ ?_
        · intro c A' w' hok hC hO hD
          obtain ⟨x, y, rfl⟩ := hC.bits
          obtain ⟨rfl, -⟩ := hok
          have e42 := hO 42 (by rfl)
          simp [Act.eval] at e42
          simp [depsL, IsV, slotv, Act.eval, Region.binds] at hD
          have hbk0 : w'.heap[L.bc]? = w4.heap[L.bc]? := PC.fld_blk (a := ⟨L.bc, 3, none⟩) hgbc hC (Array.getElem?_eq_some_iff.1 HB4.out).1
          have hbk := hbk0.trans HB4.out
          have hcl : w'.cell? ⟨L.bc, 3, none⟩ = some (.slice aoA A.length capA) := (cell_blk hbk (j := 3) rfl).2
          have hfr : w'.frozen? ⟨L.bc, 3, none⟩ = false := free_blk hbk
          simp [go_sem, gd, Oper.wp, hD, e42, hcl, hfr]
          exact WPost.mk0 (v := undef) trivial (PC.fld (by rfl) (by rfl) hC) trivial
        simp only [List.nil_append, List.cons_append, List.drop_succ_cons, List.drop_zero]
        refine ObP.done ?_
        intro w5 hC5
        simp only [List.drop_succ_cons, List.drop_zero]
        intro v0 h0 v1 h1 v2 h2 v3 h3 v4 h4
        clear h0 h1 h2 h3 h4
        refine AllVals.nil ?_
        refine wpAny_end rfl ?_
        have HW5 : Hid (w5 = (w4.setCells g' (A.length * 11) (stC h b e s)).setCell ⟨L.bc, 3, none⟩ (.slice (some ⟨g', 0, none⟩) (A.length + 1) cap')) := Lib.hid hC5
        rw [← HW5.out] at HPU
        have HI5 := Lib.hid HPU.out.1
        have HK35 := Lib.hid HPU.out.2.1
        have HO35 := Lib.hid HPU.out.2.2
        have HK5 : Hid (Kw L [v, vs, ve] w w5) := Lib.hid (HK3.out.trans HO3.out HPU.out.2.1)
        have HO5 : Hid (OwnL w [v, vs, ve] [.slice (some ⟨g', 0, none⟩) (A.length + 1) cap', s3, e3]) := Lib.hid (HO3.out.trans HPU.out.2.2 HK3.out.size)
        have HON5 : Hid (¬ Own [.slice (some ⟨g', 0, none⟩) (A.length + 1) cap', s3, e3] nb) := Lib.hid (HO35.out.ne hnb3 HON3.out)
        have HBX5 : Hid (w5.heap[nb]? = some (.cells (stC h b e s).toArray 48 (0, 0))) := Lib.hid ((HK35.out.far hnb3 HNB.out.1 HON3.out).trans HBX3.out)
        have HB35 := Lib.hid (HK35.out.below HI3.out.b0 (fun k e => (HI3.out.own k e).1))
        have HR5 : Hid (StL.At w5 L.B0 R (some ⟨bl, off, none⟩) (k + 1)) := Lib.hid (HRS.out.below (((HAB.out.mono HIR.out.b0).trans (HK23.out.below HI2.out.b0 (fun k e => (HI2.out.own k e).1))).trans HB35.out))
        have HIN5 := Lib.hid (HINx.out.below HB35.out)
        have HBL : Hid (b.len ≤ maxLen ∧ e.len ≤ maxLen) := Lib.hid HIN.out.1.2.2.2.2.2.2
        have hnb5 : nb < w5.heap.size := (Array.getElem?_eq_some_iff.1 HBX5.out).1
        obtain ⟨-, -, -, -, -, -, -, -, -, y9, y10⟩ := bxC HBX5.out
        clear hC5 HW5 HPU HTHR HB4 hA0 hA1 hgbc
        clear hx hnb3 HIz hCz HI3 HK3 HK23 HBX3 HK35 HO35 HON HI2 HK2 HBX HAB HIR HIN HINx HRS HO HK HF1 HG1 HF HG HI HAT HO3 HON3 HB35
        go_simp
        have HC5 : Hid (res = if (ckL p j t.nm t0.nm b (frL (A ++ [⟨h, b, e, s⟩])) (nms f3) (nms g3)).err != 0 then ckL p j t.nm t0.nm b (frL (A ++ [⟨h, b, e, s⟩])) (nms f3) (nms g3) else ckT1 p j t.nm t0.nm e R (frL A) (frL (A ++ [⟨h, b, e, s⟩])) (ckL p j t.nm t0.nm b (frL (A ++ [⟨h, b, e, s⟩])) (nms f3) (nms g3)).f (ckL p j t.nm t0.nm b (frL (A ++ [⟨h, b, e, s⟩])) (nms f3) (nms g3)).g) := Lib.hid (by rw [frL_snoc]; exact HT.out)
        clear HT
        go_wp2_with fail
        refine (HSAY.out.1 _ s.aob s.capb (A ++ [⟨h, b, e, s⟩]) f3 g3 _ s3 e3 HBL.out.1 HIN5.out.2.2.2.1 HS3.out.2.1 (by simp; omega) HFG.out.1 HFG.out.2 HI5.out).mono ?_
        rintro e' w6 ⟨rfl, hK6, f6, g6, v6, s6, e6, hO6, hI6, hq6⟩
        generalize ckL p j t.nm t0.nm b (frL (A ++ [⟨h, b, e, s⟩])) (nms f3) (nms g3) = r1 at *
        have HB56 := Lib.hid (hK6.below HI5.out.b0 (fun k e => (HI5.out.own k e).1))
        have HK6 : Hid (Kw L [v, vs, ve] w w6) := Lib.hid (HK5.out.trans HO5.out hK6)
        have HO6 : Hid (OwnL w [v, vs, ve] [v6, s6, e6]) := Lib.hid (HO5.out.trans hO6 HK5.out.size)
        have HON6 : Hid (¬ Own [v6, s6, e6] nb) := Lib.hid (hO6.ne hnb5 HON5.out)
        have HBX6 : Hid (w6.heap[nb]? = some (.cells (stC h b e s).toArray 48 (0, 0))) := Lib.hid ((hK6.far hnb5 HNB.out.1 HON5.out).trans HBX5.out)
        have HR6 := Lib.hid (HR5.out.below HB56.out)
        have HIN6 := Lib.hid (HIN5.out.below HB56.out)
        have HI6 := Lib.hid hI6
        have HQ6 := Lib.hid hq6
        clear hK6 hO6 hI6 hq6 HB56 HK5 HO5 HON5 HBX5 HR5 HIN5 HI5 hnb5 y9 y10 HFG
        obtain ⟨-, -, -, -, -, -, -, -, -, y9, y10⟩ := bxC HBX6.out
        go_upto_if 54 with fail
        go_cut [8, 9] (fun s8 s9 W7 => ∃ (r2 : CkR) (f7 g7 : List ByteArray) (v7 s7 e7 : Value), s8 = .int .i64 r2.err ∧ s9 = .int .i64 r2.line ∧ (res = if r2.err != 0 then r2 else ckL p j t.nm t0.nm R (frL A) r2.f r2.g) ∧ Kw L [v, vs, ve] w W7 ∧ OwnL w [v, vs, ve] [v7, s7, e7] ∧ R.At W7 L.B0 (some ⟨bl, off, none⟩) (k + 1) ∧ WkI W7 L p aoD aoT capD capT (j : Int) (A ++ [⟨h, b, e, s⟩]) f7 g7 v7 s7 e7 ∧ (r2.err = 0 → Few (tNames p) r2.f ∧ Few (dNames p) r2.g ∧ nms f7 = r2.f ∧ nms g7 = r2.g))
        case first =>
          cases hr1 : (r1.err == 0)
          · have HX1 : Hid (res = if r1.err != 0 then r1 else ckL p j t.nm t0.nm R (frL A) r1.f r1.g) := Lib.hid (by
              have hb : (r1.err != 0) = true := by simpa using hr1
              rw [hb]; exact HC5.out.trans (by rw [hb]; rfl))
            clear HC5
            go_wp2_with fail
            go_meet
            exact ⟨r1, f6, g6, v6, s6, e6, rfl, rfl, HX1.out, HK6.out, HO6.out, HR6.out, HI6.out, HQ6.out⟩
          · have hr0 : r1.err = 0 := by simpa using hr1
            have HFG := Lib.hid (HQ6.out hr0)
            have HX1 : Hid (res = ckT1 p j t.nm t0.nm e R (frL A) (frL (A ++ [⟨h, b, e, s⟩])) (nms f6) (nms g6)) := Lib.hid (HC5.out.trans (by
              rw [hr0, HFG.out.2.2.1, HFG.out.2.2.2]; rfl))
            have hnb6 : nb < w6.heap.size := (Array.getElem?_eq_some_iff.1 HBX6.out).1
            clear HC5 HQ6 hr0
            go_wp2_with fail
            refine (HSAY.out.2 _ s.aoe s.cape (A ++ [⟨h, b, e, s⟩]) f6 g6 v6 s6 e6 HBL.out.2 HIN6.out.2.2.2.2 HS3.out.2.2.1 (by simp; omega) (by rw [HFG.out.2.2.1]; exact HFG.out.1) (by rw [HFG.out.2.2.2]; exact HFG.out.2.1) HI6.out).mono ?_
            rintro e' w7 ⟨rfl, hK7, f7, g7, v7, s7, e7, hO7, hI7, hq7⟩
            have HX2 : Hid (res = if (ckL p j t.nm t0.nm e (frL (A ++ [⟨h, b, e, s⟩])) (nms f6) (nms g6)).err != 0 then ckL p j t.nm t0.nm e (frL (A ++ [⟨h, b, e, s⟩])) (nms f6) (nms g6) else ckL p j t.nm t0.nm R (frL A) (ckL p j t.nm t0.nm e (frL (A ++ [⟨h, b, e, s⟩])) (nms f6) (nms g6)).f (ckL p j t.nm t0.nm e (frL (A ++ [⟨h, b, e, s⟩])) (nms f6) (nms g6)).g) := Lib.hid HX1.out
            generalize ckL p j t.nm t0.nm e (frL (A ++ [⟨h, b, e, s⟩])) (nms f6) (nms g6) = r2 at *
            have HB67 := Lib.hid (hK7.below HI6.out.b0 (fun k e => (HI6.out.own k e).1))
            have HK7 : Hid (Kw L [v, vs, ve] w w7) := Lib.hid (HK6.out.trans HO6.out hK7)
            have HO7 : Hid (OwnL w [v, vs, ve] [v7, s7, e7]) := Lib.hid (HO6.out.trans hO7 HK6.out.size)
            have HR7 := Lib.hid (HR6.out.below HB67.out)
            have HI7 := Lib.hid hI7
            have HQ7 := Lib.hid hq7
            clear hK7 hO7 hI7 hq7 HX1 y9 y10
            go_wp2_with fail
            go_meet
            exact ⟨r2, f7, g7, v7, s7, e7, rfl, rfl, HX2.out, HK7.out, HO7.out, HR7.out, HI7.out, HQ7.out⟩
        obtain ⟨r2, f7, g7, v7, s7, e7, rfl, rfl, hX, hK7, hO7, hR7, hI7, hq7⟩ := hcut
        obtain ⟨W7, rfl⟩ : ∃ W : World, W = wc := ⟨_, rfl⟩
        have HX := Lib.hid hX
        have HK7 := Lib.hid hK7
        have HO7 := Lib.hid hO7
        have HR7 := Lib.hid hR7
        have HI7 := Lib.hid hI7
        have HQ7 := Lib.hid hq7
        clear hX hK7 hO7 hR7 hI7 hq7 y9 y10 HC5 HK6 HO6 HON6 HBX6 HR6 HIN6 HI6 HQ6
        obtain ⟨g9, cap9, rfl, hc9⟩ : ∃ g9 cap9, v7 = .slice (some ⟨g9, 0, none⟩) (A.length + 1) cap9 ∧ A.length + 1 ≤ cap9 := by
          rcases HI7.out.row.2 with ⟨-, hn⟩ | ⟨g', cap, cur, e', -, -, hcc, -⟩
          · simp at hn
          · exact ⟨g', cap, by rw [e']; simp, by simpa using hcc⟩
        have hcl : ∀ w', Below W7.heap.size W7 w' → w'.cell? ⟨L.bc, 3, none⟩ = some (.slice (some ⟨g9, 0, none⟩) (A.length + 1) cap9) := fun w' hb => (hb.cell (p := ⟨L.bc, 3, none⟩) (by have := HI7.out.sz; have := L.c1; show L.bc < _; omega)).trans (cell_blk HI7.out.blk (j := 3) rfl).2
        have hz1 : (0 : Int) ≤ (A.length : Int) := by omega
        have hz2 : (A.length : Int) ≤ (cap9 : Int) := by omega
        have hwr : IntKind.i64.wrap (A.length : Int) = (A.length : Int) := IntWalk.i64_in _ (by omega)
        have hsb2 : (A.length : Int) + 1 - 1 = (A.length : Int) := by omega
        go_upto_region 14 with fail
        refine wpAny_start (by kernel_rfl) rfl ?_
        refine wpAny_phase 0 14 [] [[], [], [1], [1, 2], [1, 2, 3], [], [5], [5, 6], [5, 6, 7], [5, 6, 7, 8], [5, 6, 7, 8, 9], [1, 2, 3, 4, 5, 6, 7, 8, 9, 10], [0, 1, 2, 3, 4, 5, 6, 7, 8, 9, 10, 11], [0, 1, 2, 3, 4, 5, 6, 7, 8, 9, 10, 11, 12], [0, 1, 2, 3, 4, 5, 6, 7, 8, 9, 10, 11, 12, 13]] [[], [], [], [], [], [], [], [], [], [], [], [], [], []] (fun _ w' => Below W7.heap.size W7 w') (fun w w' => Below w.heap.size w w') [62, 63, 64, 65, 66, 67, 68, 69, 70, 71, 72, 73, 74, 75] rfl rfl (by rfl) (by kernel_rfl) (by kernel_rfl) (by kernel_rfl) (by kernel_rfl) (by kernel_rfl) (by rfl) (fun _ => Below.refl _ _) (by rfl) (below_drewN (Below.refl _ _) 1) ?_
        simp only [List.take_succ_cons, List.take_zero, List.drop_zero, List.drop_succ_cons, dumE, List.map_cons, List.map_nil]
        apply ObP.step
        case hobl =>
          intro c A w' hok hC hO hD
          have e0 := hO 0 (by rfl)
          simp [Act.eval] at e0
          simp [depsL, IsV, slotv, Act.eval, Region.binds] at hD
          simp [go_sem, gd, Oper.wp, hD, e0]
          exact WPost.mk (Below.refl _ _) hC (IsV.mk _ _)
        apply ObP.step
        case hobl =>
          intro c A w' hok hC hO hD
          have e0 := hO 0 (by rfl)
          simp [Act.eval] at e0
          simp [depsL, IsV, slotv, Act.eval, Region.binds] at hD
          simp [go_sem, gd, Oper.wp, hD, e0]
          exact WPost.mk (Below.refl _ _) hC (IsV.mk _ _)
        apply ObP.step
        case hobl =>
          intro c A w' hok hC hO hD
          simp [depsL, IsV, slotv, Act.eval, Region.binds] at hD
          simp [go_sem, gd, Oper.wp, hD]
          exact WPost.mk (Below.refl _ _) hC (IsV.mk _ _)
        apply ObP.step
        case hobl =>
          intro c A w' hok hC hO hD
          simp [depsL, IsV, slotv, Act.eval, Region.binds] at hD
          simp [go_sem, gd, Oper.wp, hD]
          exact WPost.mk (Below.refl _ _) hC (IsV.mk _ _)
        apply ObP.step
        case hobl =>
          intro c A w' hok hC hO hD
          simp [depsL, IsV, slotv, Act.eval, Region.binds] at hD
          simp [go_sem, gd, Oper.wp, hD, hcl, hC]
          exact WPost.mk (Below.refl _ _) hC (IsV.mk _ _)
        simp only [List.nil_append, List.cons_append]
        apply ObP.step
        case hobl =>
          intro c A w' hok hC hO hD
          have e0 := hO 0 (by rfl)
          simp [Act.eval] at e0
          simp [depsL, IsV, slotv, Act.eval, Region.binds] at hD
          simp [go_sem, gd, Oper.wp, hD, e0]
          exact WPost.mk (Below.refl _ _) hC (IsV.mk _ _)
        apply ObP.step
        case hobl =>
          intro c A w' hok hC hO hD
          simp [depsL, IsV, slotv, Act.eval, Region.binds] at hD
          simp [go_sem, gd, Oper.wp, hD]
          exact WPost.mk (Below.refl _ _) hC (IsV.mk _ _)
        apply ObP.step
        case hobl =>
          intro c A w' hok hC hO hD
          simp [depsL, IsV, slotv, Act.eval, Region.binds] at hD
          simp [go_sem, gd, Oper.wp, hD]
          exact WPost.mk (Below.refl _ _) hC (IsV.mk _ _)
        apply ObP.step
        case hobl =>
          intro c A w' hok hC hO hD
          simp [depsL, IsV, slotv, Act.eval, Region.binds] at hD
          simp [go_sem, gd, Oper.wp, hD, hcl, hC]
          exact WPost.mk (Below.refl _ _) hC (IsV.mk _ _)
        apply ObP.step
        case hobl =>
          intro c A w' hok hC hO hD
          simp [depsL, IsV, slotv, Act.eval, Region.binds] at hD
          simp [go_sem, gd, Oper.wp, hD]
          exact WPost.mk (Below.refl _ _) hC (IsV.mk _ _)
        simp only [List.nil_append, List.cons_append]
        apply ObP.step
        case hobl =>
          intro c A w' hok hC hO hD
          simp [depsL, IsV, slotv, Act.eval, Region.binds] at hD
          simp [go_sem, gd, Oper.wp, hD, hsb2, hwr]
          exact WPost.mk (Below.refl _ _) hC (IsV.mk _ _)
        apply ObP.step
        case hobl =>
          intro c A w' hok hC hO hD
          simp [depsL, IsV, slotv, Act.eval, Region.binds] at hD
          simp [go_sem, gd, Oper.wp, hD, hz1, hz2]
          exact WPost.mk (Below.refl _ _) hC (IsV.mk _ _)
        simp only [List.nil_append, List.cons_append]
        apply ObP.step
        case hobl =>
          intro c A w' hok hC hO hD
          simp [depsL, IsV, slotv, Act.eval, Region.binds] at hD
          simp [go_sem, gd, Oper.wp, hD]
          exact WPost.mk (Below.refl _ _) hC (IsV.mk _ _)
        apply ObP.step
        case hobl =>
          intro c A w' hok hC hO hD
          simp [depsL, IsV, slotv, Act.eval, Region.binds] at hD
          simp [go_sem, gd, Oper.wp, hD]
          exact WPost.mk (Below.refl _ _) hC (IsV.mk _ _)
        simp only [List.nil_append, List.cons_append]
        refine ObP.done ?_
        intro wz hCz
        simp only [List.drop_zero]
        intro v0 h0 v1 h1 v2 h2 v3 h3 v4 h4 v5 h5 v6 h6 v7 h7 v8 h8 v9 h9 v10 h10 v11 h11 v12 h12 v13 h13
        have h11' : v11 = _ := h11
        have h13' : v13 = _ := h13
        subst h11' h13'
        clear h0 h1 h2 h3 h4 h5 h6 h7 h8 h9 h10 h11 h12 h13
        refine AllVals.nil ?_
        go_simp
        have HPO := Lib.hid (WkI.pop ⟨h, b, e, s⟩ HI7.out hCz)
        have hclz : wz.cell? ⟨L.bc, 3, none⟩ = some (.slice (some ⟨g9, 0, none⟩) (A.length + 1) cap9) := hcl wz hCz
        have hfrz : wz.frozen? ⟨L.bc, 3, none⟩ = false := free_blk ((HI7.out.below hCz).blk)
        clear hcl hsb2 hwr
        refine wpAny_one 14 [[], [], [1], [1, 2], [1, 2, 3], [], [5], [5, 6], [5, 6, 7], [5, 6, 7, 8], [5, 6, 7, 8, 9], [1, 2, 3, 4, 5, 6, 7, 8, 9, 10], [0, 1, 2, 3, 4, 5, 6, 7, 8, 9, 10, 11], [0, 1, 2, 3, 4, 5, 6, 7, 8, 9, 10, 11, 12], [0, 1, 2, 3, 4, 5, 6, 7, 8, 9, 10, 11, 12, 13]] rfl rfl rfl rfl rfl (by kernel_rfl) (by kernel_rfl) (by kernel_rfl) ?_
        simp [go_sem, Oper.wp, hclz, hfrz]
        refine wpAny_end rfl ?_
        clear hclz hfrz hCz
        go_simp
        have HK8 := Lib.hid (HK7.out.trans HO7.out HPO.out.2)
        have HO8 : Hid (OwnL w [v, vs, ve] [.slice (some ⟨g9, 0, none⟩) A.length cap9, s7, e7]) := Lib.hid (fun k hk => HO7.out k (by
          rcases own3.1 hk with e | e | e
          · exact own3.2 (.inl e)
          · exact own3.2 (.inr (.inl e))
          · exact own3.2 (.inr (.inr e))))
        have HR8 := Lib.hid (HR7.out.below (HPO.out.2.below HI7.out.b0 (fun k e => (HI7.out.own k e).1)))
        have HI8 := Lib.hid HPO.out.1
        clear HPO HK7 HO7 HR7 HI7
        cases hr2 : (r2.err != 0)
        · have HT8 : Hid (res = ckL p j t.nm t0.nm R (frL A) (nms f7) (nms g7)) := Lib.hid (HX.out.trans (by rw [hr2, (HQ7.out (by simpa using hr2)).2.2.1, (HQ7.out (by simpa using hr2)).2.2.2]; rfl))
          have HFG : Hid (Few (tNames p) (nms f7) ∧ Few (dNames p) (nms g7)) := Lib.hid (by
            have := HQ7.out (by simpa using hr2)
            rw [this.2.2.1, this.2.2.2]; exact ⟨this.1, this.2.1⟩)
          clear HX HQ7
          go_wp2_with fail
          go_roundw
          case rel => exact ⟨k + 1, R, f7, g7, _, s7, e7, by go_num, by simp only [StL.len] at hlen; omega, HT8.out, HALR.out, HR8.out, HS3.out.2.2.2, HFG.out.1, HFG.out.2, HK8.out, HO8.out, HI8.out⟩
          case measure => simp [intOf]; omega
        · have HT8 : Hid (res = r2) := Lib.hid (HX.out.trans (if_pos hr2))
          have HX0 : Hid (r2.err ≠ 0) := Lib.hid (by simpa using hr2)
          clear HX HQ7
          go_wp2_with fail
          go_ret2
          refine ⟨ret2 (by rw [HT8.out]; rfl) (by rw [HT8.out]; rfl), HK8.out, f7, g7, _, s7, e7, HO8.out, HI8.out, fun h0 => ?_⟩
          rw [HT8.out] at h0; exact (HX0.out h0).elim
theorem wkAll_any (L : LayW) (p : Pr) (aoD aoT : Option Addr) (capD capT : Nat) (j : Nat) (t t0 : Th) (r r0 : List Th) (hd : p.ts.drop j = t :: r) (hts : p.ts = t0 :: r0) (hj : I64 (j : Int)) (hT : p.ts.length ≤ 1000000000000) (hD : p.ds.length ≤ 1000000000000) (hthr : thrA p.ds p.ts [] = none) (hsd : ∀ d ∈ p.ds, shpD d = true) (l : StL) : WkSays L p aoD aoT capD capT j t t0 l :=
  wkAll_of L p aoD aoT capD capT j t t0 r r0 hd hts hj hT hD hthr hsd l (StL.all_of (fun _ b e hb he => ⟨wkAll_of L p aoD aoT capD capT j t t0 r r0 hd hts hj hT hD hthr hsd b hb, wkAll_of L p aoD aoT capD capT j t t0 r r0 hd hts hj hT hD hthr hsd e he⟩) l)
end Go.Proofs.YtghdammalphmfaaDoor
end
section
set_option linter.unusedSimpArgs false
set_option linter.unusedVariables false
namespace Go.Proofs.YtghdammalphmfaaDoor
open Go.RowKit
namespace Md
theorem thrS_zero {p : Pr} (h : (thrS p).1 = 0) : thrA p.ds p.ts [] = none := by
  unfold thrS at h
  split at h
  · simp at h
  · rename_i h'; exact h'
end Md
open Md
theorem wkStart {p : Pr} {w W : World} {aoD aoT : Option Addr} {capD capT n : Nat} (hn : w.heap.size = n) (hp : p.At w aoD aoT)
    (hW : w.alloc (.cells #[.slice aoD p.ds.length capD, .slice aoT p.ts.length capT, .int .i64 0, .slice none 0 0, .slice none 0 0, .slice none 0 0] 67) = W) :
    WkI W ⟨n, n + 1, n, Nat.le_refl _, Nat.lt_succ_self _⟩ p aoD aoT capD capT 0 [] [] [] (.slice none 0 0) (.slice none 0 0) (.slice none 0 0) ∧ Below w.heap.size w W := by
  subst hn
  have hb : Below w.heap.size w W := by rw [← hW]; exact alloc_below _ _
  refine ⟨{ blk := by rw [← hW]; exact heap_alloc_new _ _, row := World.ownsRow_nil _ _ _ _, rs := World.ownsRow_nil _ _ _ _, re := World.ownsRow_nil _ _ _ _, d1 := by intro k hk; simp [Value.ownBlock] at hk, d2 := by intro k hk; simp [Value.ownBlock] at hk, d3 := by intro k hk; simp [Value.ownBlock] at hk, sz := by rw [← hW]; simp, dat := ⟨hp.1, hp.2.1, hp.2.2.1.below hb, hp.2.2.2.below hb⟩, frs := by intro x hx; simp at hx, fo := by intro x hx; simp at hx, go := by intro x hx; simp at hx }, hb⟩
set_option maxHeartbeats 4000000 in
set_option maxRecDepth 100000 in
theorem RefProgram_any (p : Pr) (w : World) (aoD aoT : Option Addr) (capD capT : Nat) (hp : p.At w aoD aoT) (hcD : p.ds.length ≤ capD) (hcT : p.ts.length ≤ capT) :
    Calls Tryd.prog 12 #[.agg #[.slice aoD p.ds.length capD, .slice aoT p.ts.length capT]] w fun e w' => e = .returned (.tuple #[.int .i64 (prgE p).1, .int .i64 (prgE p).2]) ∧ Below w.heap.size w w' := by
  have HS : Hid (prgE p = if !shpP p then (3, 0) else if (dclS p.ds [] 0 0 0 0).1 != 0 then dclS p.ds [] 0 0 0 0 else
    if decide ((4 : Int) < p.ts.length) then (2, 0) else if (thrS p).1 != 0 then thrS p else
    if decide (60 < cntT p.ts 0) then (2, 0) else ((stsE p (headN p) p.ts 0 [] []).err, (stsE p (headN p) p.ts 0 [] []).line)) := Lib.hid rfl
  generalize prgE p = res at *
  have hld := hp.1
  have hlt := hp.2.1
  unfold maxLen at hld hlt
  have HP := Lib.hid hp
  have HCD := Lib.hid hcD
  have HCT := Lib.hid hcT
  clear hp hcD hcT
  go_enter Tryd.func12, Tryd.ntmps12
  go_upto_region 1 with fail
  generalize hW : World.alloc w _ = W
  generalize Value.agg #[_, _] = a0
  have HX := Lib.hid ((Sit.start w).box2 rfl (.slice aoD p.ds.length capD) (.slice aoT p.ts.length capT) 29)
  rw [hW] at HX
  clear hW
  obtain ⟨-, ⟨-, c0⟩, ⟨-, c1⟩, -⟩ := HX.out
  go_wp2_with fail
  refine (RefShaped_any p _ aoD aoT capD capT (HP.out.same HX.out.1)).mono ?_
  rintro e w1 ⟨rfl, hb1⟩
  have HY := Lib.hid (HX.out.next hb1)
  clear HX hb1 c0 c1
  obtain ⟨-, ⟨-, c0⟩, ⟨-, c1⟩, -⟩ := HY.out
  have HSH : Hid (shpP p = true → (∀ d ∈ p.ds, shpD d = true) ∧ (∀ t ∈ p.ts, shpSL t.body = true) ∧ ∃ t0 r0, p.ts = t0 :: r0) := Lib.hid (fun h => by
    unfold shpP at h
    simp only [Bool.and_eq_true, List.all_eq_true, decide_eq_true_eq] at h
    refine ⟨h.1.1, fun t ht => ?_, ?_⟩
    · have := h.1.2 t ht
      unfold shpT at this
      simp only [Bool.and_eq_true] at this
      exact this.2
    · cases hts : p.ts with
      | nil => rw [hts] at h; simp at h
      | cons a b => exact ⟨a, b, rfl⟩)
  cases hS : shpP p
  · have HE : Hid (res = (3, 0)) := Lib.hid (HS.out.trans (by rw [hS]; rfl))
    clear HSH
    go_wp2_with fail
    go_ret2
    exact ⟨ret2 (by rw [HE.out]; rfl) (by rw [HE.out]; rfl), HY.out.1⟩
  · have HE : Hid (res = if (dclS p.ds [] 0 0 0 0).1 != 0 then dclS p.ds [] 0 0 0 0 else
      if decide ((4 : Int) < p.ts.length) then (2, 0) else if (thrS p).1 != 0 then thrS p else
      if decide (60 < cntT p.ts 0) then (2, 0) else ((stsE p (headN p) p.ts 0 [] []).err, (stsE p (headN p) p.ts 0 [] []).line)) := Lib.hid (HS.out.trans (by rw [hS]; rfl))
    have HSD := Lib.hid (HSH.out hS)
    have HDL : Hid ((dclS p.ds [] 0 0 0 0).1 = 0 → p.ds.length ≤ 1000000000000) := Lib.hid (fun h0 => by
      have := dclS_len p.ds [] 0 0 0 0 HSD.out.1 h0 (by omega); omega)
    clear HS HSH
    go_wp2_with fail
    refine (RefDecls_any p.ds _ aoD capD HP.out.1 HCD.out ((HP.out.same HY.out.1).2.2.1) HSD.out.1).mono ?_
    rintro e w2 ⟨rfl, hb2⟩
    have HZ := Lib.hid (HY.out.next hb2)
    clear HY hb2 c0 c1
    obtain ⟨-, ⟨-, c0⟩, ⟨-, c1⟩, -⟩ := HZ.out
    generalize dclS p.ds [] 0 0 0 0 = dd at *
    cases h1 : (dd.1 != 0)
    case true =>
      have HE' : Hid (res = dd) := Lib.hid (HE.out.trans (if_pos h1))
      clear HE HSD HDL
      go_wp2_with fail
      go_ret2
      exact ⟨ret2 (by rw [HE'.out]; rfl) (by rw [HE'.out]; rfl), HZ.out.1⟩
    have HE1 : Hid (res = if decide ((4 : Int) < p.ts.length) then (2, 0) else if (thrS p).1 != 0 then thrS p else
      if decide (60 < cntT p.ts 0) then (2, 0) else ((stsE p (headN p) p.ts 0 [] []).err, (stsE p (headN p) p.ts 0 [] []).line)) := Lib.hid (HE.out.trans (if_neg (by rw [h1]; decide)))
    have HD20 := Lib.hid (HDL.out (by simpa using h1))
    clear HE HDL
    by_cases h4 : (4 : Int) < (p.ts.length : Int)
    · have HE' : Hid (res = (2, 0)) := Lib.hid (HE1.out.trans (if_pos (by simpa using h4)))
      clear HE1 HSD
      go_wp2_with fail
      go_ret2
      exact ⟨ret2 (by rw [HE'.out]; rfl) (by rw [HE'.out]; rfl), HZ.out.1⟩
    have HE2 : Hid (res = if (thrS p).1 != 0 then thrS p else
      if decide (60 < cntT p.ts 0) then (2, 0) else ((stsE p (headN p) p.ts 0 [] []).err, (stsE p (headN p) p.ts 0 [] []).line)) := Lib.hid (HE1.out.trans (if_neg (by simpa using h4)))
    have h4' : (p.ts.length : Int) ≤ 4 := by omega
    have HT4 : Hid (p.ts.length ≤ 4) := Lib.hid (by omega)
    have HTZ := Lib.hid (thrS_zero (p := p))
    clear HE1
    go_wp2_with fail
    refine (RefThreads_any p _ aoD aoT capD capT (HP.out.same HZ.out.1) HCT.out).mono ?_
    rintro e w3 ⟨rfl, hb3⟩
    have HV := Lib.hid (HZ.out.next hb3)
    clear HZ hb3 c0 c1 h1
    obtain ⟨-, ⟨-, c0⟩, ⟨-, c1⟩, -⟩ := HV.out
    generalize thrS p = tt at *
    cases h2 : (tt.1 != 0)
    case true =>
      have HE' : Hid (res = tt) := Lib.hid (HE2.out.trans (if_pos h2))
      clear HE2 HSD HTZ
      go_wp2_with fail
      go_ret2
      exact ⟨ret2 (by rw [HE'.out]; rfl) (by rw [HE'.out]; rfl), HV.out.1⟩
    have HE3 : Hid (res = if decide (60 < cntT p.ts 0) then (2, 0) else ((stsE p (headN p) p.ts 0 [] []).err, (stsE p (headN p) p.ts 0 [] []).line)) := Lib.hid (HE2.out.trans (if_neg (by rw [h2]; decide)))
    have HTN := Lib.hid (HTZ.out (by simpa using h2))
    clear HE2 HTZ
    have hthr := (HP.out.same HV.out.1).2.2.2
    go_wp2_with fail
    go_loopw [8, 9] (fun s8 s wr => ∃ (k : Nat) (R : List Th) (n : Int), s = .int .i64 k ∧ s8 = .int .i64 n ∧ k + R.length = p.ts.length ∧ cntT p.ts 0 = cntT R n ∧ ThAt wr wr.heap.size R aoT k ∧ Sit w wr [(w.heap.size, 0, (.slice aoD p.ds.length capD)), (w.heap.size, 1, (.slice aoT p.ts.length capT))]) (fun _ s _ => p.ts.length - (intOf s).toNat)
    case atStart => exact ⟨0, p.ts, 0, rfl, rfl, by simp, rfl, hthr, HV.out⟩
    case round =>
      obtain ⟨k, R, n, rfl, rfl, hlen, heq, hrow, hsit⟩ := hrel
      have HU := Lib.hid hsit
      have HQ := Lib.hid heq
      clear hsit HV c0 c1 hthr heq h2
      obtain ⟨-, ⟨-, c0⟩, ⟨-, c1⟩, -⟩ := HU.out
      cases R with
      | cons t R =>
        obtain ⟨⟨b, off, aol, capl, aob, capb, rfl, hB, x0, x1, x2, x3, hok, htx, hst, hcl⟩, hrest⟩ := hrow
        simp only [List.length_cons] at hlen
        have hkl : k < p.ts.length := by omega
        have HOK := Lib.hid hok
        have HST := Lib.hid hst
        clear hok htx hst hcl
        go_wp2_with fail
        refine (RefCount_any t.body _ aob capb HOK.out.2.2.2 HST.out).mono ?_
        rintro e' w4 ⟨rfl, hb4⟩
        have HB5 := Lib.hid hb4
        clear hb4 c0 c1 x0 x1 x2 x3
        go_wp2_with fail
        go_roundw
        case rel => exact ⟨k + 1, R, _, by go_num, rfl, by omega, HQ.out.trans rfl, hrest.same HB5.out, HU.out.next HB5.out⟩
        case measure => simp [intOf]; omega
      | nil =>
        obtain rfl : k = p.ts.length := by simpa using hlen
        have HN : Hid (cntT p.ts 0 = n) := HQ
        by_cases h6 : 60 < n
        · have HE' : Hid (res = (2, 0)) := Lib.hid (HE3.out.trans (if_pos (by rw [HN.out]; simpa using h6)))
          clear HE3 HSD
          go_wp2_with fail
          go_ret2
          exact ⟨ret2 (by rw [HE'.out]; rfl) (by rw [HE'.out]; rfl), HU.out.1⟩
        · have h6' : n ≤ 60 := by omega
          obtain ⟨-, -, t0, r0, hts⟩ := HSD.out
          have HTS := Lib.hid hts
          have HHN : Hid (headN p = t0.nm) := Lib.hid (by unfold headN; rw [hts]; rfl)
          have HE' : Hid (res = ((stsE p t0.nm p.ts 0 [] []).err, (stsE p t0.nm p.ts 0 [] []).line)) := Lib.hid (HE3.out.trans ((if_neg (by rw [HN.out]; simpa using h6)).trans (by rw [HHN.out])))
          clear HE3 hts hrow
          go_upto_region 19 with fail
          obtain ⟨wo, rfl⟩ : ∃ wo : World, wo = wr := ⟨_, rfl⟩
          obtain ⟨nb, hnb⟩ : ∃ n, wo.heap.size = n := ⟨_, rfl⟩
          generalize hW2 : World.alloc wo _ = W2
          have HSTA := Lib.hid (wkStart hnb (HP.out.same HU.out.1) hW2)
          have HNB := Lib.hid hnb
          have HBC : Hid (w.heap.size < nb) := Lib.hid (by rw [← hnb]; exact HU.out.2.1.1)
          rw [hnb]
          clear hW2 hnb c0 c1
          have HBO : Hid (Below nb wo W2) := Lib.hid (by rw [← HNB.out]; exact HSTA.out.2)
          generalize hL : (⟨nb, nb + 1, nb, Nat.le_refl _, Nat.lt_succ_self _⟩ : LayW) = L at *
          have HLB : Hid (L.B0 = nb ∧ L.bc = nb) := Lib.hid (by rw [← hL]; exact ⟨rfl, rfl⟩)
          have hLc : nb = L.bc := HLB.out.2.symm
          have HB0 : Hid (Below L.B0 wo W2) := Lib.hid (by rw [HLB.out.1]; exact HBO.out)
          clear hL
          generalize hrr : stsE p t0.nm p.ts 0 [] [] = rr at *
          have HRR := Lib.hid hrr
          rw [hLc]
          clear hrr hLc HBO HNB
          have c1 : W2.cell? ⟨w.heap.size, 1, none⟩ = some (.slice aoT p.ts.length capT) := (HB0.out.cell (p := ⟨w.heap.size, 1, none⟩) (by have := HBC.out; have := HLB.out.1; show w.heap.size < _; omega)).trans HU.out.2.2.1.2
          go_wp2_with fail
          go_loopw [11, 12, 13] (fun s _ _ wr => ∃ (k : Nat) (R : List Th) (f1 g1 : List ByteArray) (v1 s1 e1 : Value) (i1 : Int), s = .int .i64 k ∧ k + R.length = p.ts.length ∧ p.ts.drop k = R ∧ rr = stsE p t0.nm R k (nms f1) (nms g1) ∧ Few (tNames p) (nms f1) ∧ Few (dNames p) (nms g1) ∧ Below L.B0 wo wr ∧ WkI wr L p aoD aoT capD capT i1 [] f1 g1 v1 s1 e1) (fun s _ _ _ => p.ts.length - (intOf s).toNat)
          case atStart => exact ⟨0, p.ts, [], [], _, _, _, 0, rfl, by simp, rfl, HRR.out.symm, ⟨List.nodup_nil, by simp [nms]⟩, ⟨List.nodup_nil, by simp [nms]⟩, HB0.out, HSTA.out.1⟩
          case round =>
            obtain ⟨k, R, f1, g1, v1, s1, e1, i1, rfl, hlen, hdr, heq, hf1, hg1, hB, hI⟩ := hrel
            have HE := Lib.hid heq
            have HF1 := Lib.hid hf1
            have HG1 := Lib.hid hg1
            have HB := Lib.hid hB
            have HI := Lib.hid hI
            have HDR := Lib.hid hdr
            clear heq hf1 hg1 hB hI hdr c1
            have c1 : wr.cell? ⟨w.heap.size, 1, none⟩ = some (.slice aoT p.ts.length capT) := (HB.out.cell (p := ⟨w.heap.size, 1, none⟩) (by have := HBC.out; have := HLB.out.1; show w.heap.size < _; omega)).trans HU.out.2.2.1.2
            have HWB : Hid (∀ w', Below L.B0 wr w' → Below w.heap.size w w') := Lib.hid (fun w' hb => HU.out.1.trans ((HB.out.trans hb).mono (by have := HBC.out; have := HLB.out.1; omega)))
            cases R with
            | nil =>
              obtain rfl : k = p.ts.length := by simpa using hlen
              have HX : Hid (rr.err = 0 ∧ rr.line = 0) := Lib.hid (by rw [HE.out]; exact ⟨rfl, rfl⟩)
              go_wp2_with fail
              go_ret2
              exact ⟨ret2 (by rw [HE'.out, HX.out.1]; rfl) (by rw [HE'.out, HX.out.2]; rfl), HWB.out _ (Below.refl _ _)⟩
            | cons t R =>
              simp only [List.length_cons] at hlen
              have hkl : k < p.ts.length := by omega
              have HSB : Hid (shpSL t.body = true) := Lib.hid (HSD.out.2.1 t (by
                have : t ∈ p.ts.drop k := by rw [HDR.out]; simp
                exact List.mem_of_mem_drop this))
              have c2 : wr.cell? ⟨L.bc, 2, none⟩ = some (.int .i64 i1) := (cell_blk HI.out.blk (j := 2) rfl).2
              have f2 : wr.frozen? ⟨L.bc, 2, none⟩ = false := free_blk HI.out.blk
              go_upto_region 23 with fail
              generalize hW3 : World.setCell wr _ _ = W3
              have HGR : Hid (wr.grownBy W3 (some L.bc)) := Lib.hid (by rw [← hW3]; exact setCell_grown _ _ _)
              have HI3 : Hid (WkI W3 L p aoD aoT capD capT (k : Int) [] f1 g1 v1 s1 e1) := Lib.hid (by rw [← hW3]; exact HI.out.setI)
              have HBE := Lib.hid (grown_below HGR.out L.c0 HI.out.b0)
              have HB3 := Lib.hid (HB.out.trans HBE.out)
              have hrow := HI3.out.dat.2.2.2.drop k
              rw [HDR.out, Nat.zero_add] at hrow
              obtain ⟨⟨bl, off, aol, capl, aob, capb, rfl, hbl, x0, x1, x2, x3, hok, htx, hst, -⟩, -⟩ := hrow
              have HOK := Lib.hid hok
              have HST := Lib.hid hst
              clear hW3 c1 c2 f2 HGR HB hok hst htx HI
              have c1 : W3.cell? ⟨w.heap.size, 1, none⟩ = some (.slice (some ⟨bl, off, none⟩) p.ts.length capT) := (HB3.out.cell (p := ⟨w.heap.size, 1, none⟩) (by have := HBC.out; have := HLB.out.1; show w.heap.size < _; omega)).trans HU.out.2.2.1.2
              have HC6 : Hid (rr = if (ckL p k t.nm t0.nm t.body (frL []) (nms f1) (nms g1)).err != 0 then ckL p k t.nm t0.nm t.body (frL []) (nms f1) (nms g1) else stsE p t0.nm R (k + 1) (ckL p k t.nm t0.nm t.body (frL []) (nms f1) (nms g1)).f (ckL p k t.nm t0.nm t.body (frL []) (nms f1) (nms g1)).g) := Lib.hid HE.out
              clear HE
              go_wp2_with fail
              refine (wkAll_any L p _ _ capD capT k t t0 R r0 HDR.out HTS.out (by unfold I64; omega) (by have := HT4.out; omega) HD20.out HTN.out HSD.out.1 t.body W3 aob capb [] f1 g1 v1 s1 e1 HOK.out.2.2.2 HST.out HSB.out (by simp) HF1.out HG1.out HI3.out).mono ?_
              rintro e' w4 ⟨rfl, hK4, f4, g4, v4, s4, e4, hO4, hI4, hq4⟩
              generalize ckL p k t.nm t0.nm t.body (frL []) (nms f1) (nms g1) = r1 at *
              have HBK := Lib.hid (hK4.below HI3.out.b0 (fun q hq => (HI3.out.own q hq).1))
              have HB4 := Lib.hid (HB3.out.trans HBK.out)
              have HW4 := Lib.hid (HWB.out _ (HBE.out.trans HBK.out))
              have HI4 := Lib.hid hI4
              have HQ4 := Lib.hid hq4
              clear hK4 hq4 hI4 hO4 x0 x1 x2 x3 c1
              cases hr1 : (r1.err != 0)
              · have HT7 : Hid (rr = stsE p t0.nm R (k + 1) (nms f4) (nms g4)) := Lib.hid (HC6.out.trans ((if_neg (by rw [hr1]; decide)).trans (by rw [(HQ4.out (by simpa using hr1)).2.2.1, (HQ4.out (by simpa using hr1)).2.2.2])))
                have HFG : Hid (Few (tNames p) (nms f4) ∧ Few (dNames p) (nms g4)) := Lib.hid (by
                  have := HQ4.out (by simpa using hr1)
                  rw [this.2.2.1, this.2.2.2]; exact ⟨this.1, this.2.1⟩)
                have HD7 : Hid (p.ts.drop (k + 1) = R) := Lib.hid (by rw [← List.drop_drop, HDR.out]; rfl)
                clear HQ4 HC6
                go_wp2_with fail
                go_roundw
                case rel => exact ⟨k + 1, R, f4, g4, v4, s4, e4, _, by go_num, by omega, HD7.out, HT7.out, HFG.out.1, HFG.out.2, HB4.out, HI4.out⟩
                case measure => simp [intOf]; omega
              · have HX7 : Hid (rr = r1) := Lib.hid (HC6.out.trans (if_pos hr1))
                clear HC6 HQ4
                go_wp2_with fail
                go_ret2
                exact ⟨ret2 (by rw [HE'.out, HX7.out]; rfl) (by rw [HE'.out, HX7.out]; rfl), HW4.out⟩
set_option maxHeartbeats 1000000 in
theorem awake_any (w : World) (hkw : KwLaid w) :
    Calls Tryd.prog 13 #[] w fun e w' => e = .returned (.bool true) ∧ Below w.heap.size w w' := by
  go_enter Tryd.func13, Tryd.ntmps13
  go_wp2_with fail
  refine (Program_any ⟨[], []⟩ w none none 0 0 ⟨by simp, by simp, trivial, trivial⟩ hkw).mono ?_
  rintro e w1 ⟨rfl, hb1⟩
  have h1 : (prgE ⟨[], []⟩).1 = 3 := rfl
  have h2 : (prgE ⟨[], []⟩).2 = 0 := rfl
  rw [h1, h2]
  go_wp2_with fail
  go_ret
  exact ⟨rfl, hb1⟩
set_option maxHeartbeats 1000000 in
theorem CheckTells_walk (p : Pr) (aoD aoT : Option Addr) (capD capT : Nat) {w : World} (hp : p.At w aoD aoT) (hcD : p.ds.length ≤ capD) (hcT : p.ts.length ≤ capT) (hkw : KwLaid w) :
    Calls Tryd.prog 4 #[.agg #[.slice aoD p.ds.length capD, .slice aoT p.ts.length capT]] w fun e w' => e = .returned (.bool true) ∧ Below w.heap.size w w' := by
  have HP := Lib.hid hp
  have HKW := Lib.hid hkw
  have HCD := Lib.hid hcD
  have HCT := Lib.hid hcT
  clear hp hkw hcD hcT
  go_enter Tryd.func4, Tryd.ntmps4
  go_upto_region 1 with fail
  generalize hW : World.alloc w _ = W
  generalize Value.agg #[_, _] = a0
  have HX := Lib.hid ((Sit.start w).box2 rfl (.slice aoD p.ds.length capD) (.slice aoT p.ts.length capT) 29)
  rw [hW] at HX
  clear hW
  obtain ⟨-, ⟨-, c0⟩, ⟨-, c1⟩, -⟩ := HX.out
  go_wp2_with fail
  refine (Program_any p _ aoD aoT capD capT (HP.out.same HX.out.1) (HKW.out.same HX.out.1)).mono ?_
  rintro e w1 ⟨rfl, hb1⟩
  have HY := Lib.hid (HX.out.next hb1)
  clear HX hb1 c0 c1
  obtain ⟨-, ⟨-, c0⟩, ⟨-, c1⟩, -⟩ := HY.out
  go_wp2_with fail
  refine (RefProgram_any p _ aoD aoT capD capT (HP.out.same HY.out.1) HCD.out HCT.out).mono ?_
  rintro e w2 ⟨rfl, hb2⟩
  have HZ := Lib.hid (HY.out.next hb2)
  clear HY hb2 c0 c1
  generalize prgE p = res
  go_wp2_with fail
  refine (awake_any _ (HKW.out.same HZ.out.1)).mono ?_
  rintro e w3 ⟨rfl, hb3⟩
  have HV := Lib.hid (HZ.out.next hb3)
  clear HZ hb3
  go_wp2_with fail
  go_ret
  exact ⟨rfl, HV.out.1⟩
end Go.Proofs.YtghdammalphmfaaDoor
end
