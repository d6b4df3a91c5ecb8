/-
  A region that draws its order, with a ghost beside the world: whatever came up first, what each operation yields has a property that stays. No program in sight.
  Two boxes that are made in an open order, then filled. No program in sight.
  Contracts of the reference's SameTexts and SameStmts where the lists are alike.
  Contract of the reference's Same where two programs are alike.
-/
import Derived.Test.YtommnhglgedflaaGreatDoorGMB
import Derived.Test.YtommnhglgedflaaGreatDoorGMA
import Derived.Test.YtommnhglgedflaaGreatDoorGUE
import Derived.Deep.MidRow
import Derived.Sort.AtCall
import Derived.Deep.RegionWith
section
namespace Go.Proofs.YtommnhglgedflaaGreatDoor
open Go.RowKit

/-- What is known of a value, beside a ghost, in a world. -/
abbrev RG (G : Type) := Value → G → World → Prop
section
variable {G : Type}
def depsG (ents : List (Option Tmp × RG G)) (A : Act) (g : G) (w : World) : List Edge → Prop
  | [] => True
  | e :: r => (if Region.binds .any e = true then (match ents[e.on]? with | some (d, R) => R (slotv A d) g w | none => True) else True) ∧ depsG ents A g w r
def gdG (ents : List (Option Tmp × RG G)) (A : Act) (o : Oper) : Bool :=
  match o.guard with
  | none => true
  | some (g, b) => match ents[g]? with
    | some (some d, _) => match A.eval (.tmp d) with
      | .bool x => x == b
      | _ => false
    | _ => false
def WPostG (C : G → World → Prop) (Le : G → World → G → World → Prop) (R : RG G) (A : Act) (dst : Option Tmp) (g : G) (w : World) (a' : Act) (w' : World) : Prop :=
  ∃ v g', a' = A.put dst v ∧ Le g w g' w' ∧ C g' w' ∧ R (if dst.isSome then v else undef) g' w'
theorem WPostG.mk {C : G → World → Prop} {Le : G → World → G → World → Prop} {R : RG G} {A : Act} {d : Tmp} {g g' : G} {w w' : World} {v : Value} (hle : Le g w g' w') (hC : C g' w') (hR : R v g' w') : WPostG C Le R A (some d) g w (A.put (some d) v) w' := ⟨v, g', rfl, hle, hC, hR⟩
theorem WPostG.mk0 {C : G → World → Prop} {Le : G → World → G → World → Prop} {R : RG G} {A : Act} {g g' : G} {w w' : World} {v : Value} (hle : Le g w g' w') (hC : C g' w') (hR : R undef g' w') : WPostG C Le R A none g w (A.put none v) w' := ⟨v, g', rfl, hle, hC, hR⟩
/-- One more has come up. -/
def onD (D : Nat → Bool) (i : Nat) : Nat → Bool := fun k => D k || k == i
def OblG (P : Program) (a0 : Act) (Q : Exit → Act → World → Prop) (C : (Nat → Bool) → G → World → Prop) (Le : G → World → G → World → Prop) (alld : List Tmp) (ents : List (Option Tmp × RG G)) (o : Oper) (R : RG G) (i : Nat) : Prop :=
  ∀ D A g w, D i = false → C D g w → (∀ s, alld.contains s = false → A.eval (.tmp s) = a0.eval (.tmp s)) → depsG ents A g w o.after.toList →
    if gdG ents A o then o.wp P A w (WPostG (C (onD D i)) Le R A o.dst g w) Q else (C (onD D i) g w ∧ R undef g w)
/-- It is this value. -/
def IsG (c : Value) : RG G := fun v _ _ => v = c
theorem IsG.mk (c : Value) (g : G) (w : World) : IsG c c g w := rfl
/-- The properties beside one ghost. -/
def atG (g : G) (ents : List (Option Tmp × RG G)) : List (Option Tmp × RP) := ents.map fun x => (x.1, fun v w => x.2 v g w)
def ObG (P : Program) (a0 : Act) (Q : Exit → Act → World → Prop) (C : (Nat → Bool) → G → World → Prop) (Le : G → World → G → World → Prop) (alld : List Tmp) : List Oper → List (Option Tmp × RG G) → Prop
  | [], ents => ∀ D g w, (∀ i, i < ents.length → D i = true) → C D g w → AllVals w (fun a => Q .normal a w) (atG g ents) a0
  | o :: rest, ents => ∃ R : RG G, (∀ v g w g' w', Le g w g' w' → R v g w → R v g' w') ∧ OblG P a0 Q C Le alld ents o R ents.length ∧ ObG P a0 Q C Le alld rest (ents ++ [(o.dst, R)])
variable {P : Program} {a0 : Act} {Q : Exit → Act → World → Prop} {C : (Nat → Bool) → G → World → Prop} {Le : G → World → G → World → Prop} {alld : List Tmp}
theorem ObG.full : ∀ {l : List Oper} {ents : List (Option Tmp × RG G)}, ObG P a0 Q C Le alld l ents → ∃ full : List (Option Tmp × RG G), full.length = ents.length + l.length ∧ full.take ents.length = ents ∧
    (∀ (i : Nat) (o : Oper), l[i]? = some o → ∃ R, full[ents.length + i]? = some (o.dst, R) ∧ (∀ v g w g' w', Le g w g' w' → R v g w → R v g' w') ∧ OblG P a0 Q C Le alld (full.take (ents.length + i)) o R (ents.length + i)) ∧
    ∀ D g w, (∀ i, i < full.length → D i = true) → C D g w → AllVals w (fun a => Q .normal a w) (atG g full) a0
  | [], ents, h => ⟨ents, by simp, by simp, by simp, h⟩
  | o :: rest, ents, h => by
    obtain ⟨R, hm, ho, hr⟩ := h
    obtain ⟨full, h1, h2, h3, h4⟩ := ObG.full hr
    simp only [List.length_append, List.length_cons, List.length_nil, Nat.zero_add] at h1 h2 h3
    have hlen : ents.length < full.length := by omega
    have hget : full[ents.length]? = some (o.dst, R) := by
      have := congrArg (fun l => l[ents.length]?) h2
      simpa using this
    refine ⟨full, by simp; omega, ?_, ?_, h4⟩
    · have := congrArg (List.take ents.length) h2
      simpa [List.take_take] using this
    · intro i o' hi
      cases i with
      | zero =>
        simp only [List.getElem?_cons_zero, Option.some.injEq] at hi
        subst hi
        refine ⟨R, by simpa using hget, hm, ?_⟩
        have : full.take (ents.length + 0) = ents := by
          have := congrArg (List.take ents.length) h2
          simpa [List.take_take] using this
        rw [this]; exact ho
      | succ i =>
        have hi' : rest[i]? = some o' := by simpa using hi
        have := h3 i o' hi'
        rw [show ents.length + (i + 1) = ents.length + 1 + i by omega]
        exact this
theorem ObG.step {o : Oper} {rest : List Oper} {ents : List (Option Tmp × RG G)} {v : Value} (hobl : OblG P a0 Q C Le alld ents o (IsG v) ents.length) (hrest : ObG P a0 Q C Le alld rest (ents ++ [(o.dst, IsG v)])) : ObG P a0 Q C Le alld (o :: rest) ents :=
  ⟨IsG v, fun _ _ _ _ _ _ h => h, hobl, hrest⟩
theorem ObG.some {o : Oper} {rest : List Oper} {ents : List (Option Tmp × RG G)} (R : RG G) (hmono : ∀ v g w g' w', Le g w g' w' → R v g w → R v g' w') (hobl : OblG P a0 Q C Le alld ents o R ents.length) (hrest : ObG P a0 Q C Le alld rest (ents ++ [(o.dst, R)])) : ObG P a0 Q C Le alld (o :: rest) ents :=
  ⟨R, hmono, hobl, hrest⟩
theorem ObG.done {ents : List (Option Tmp × RG G)} (h : ∀ D g w, (∀ i, i < ents.length → D i = true) → C D g w → AllVals w (fun a => Q .normal a w) (atG g ents) a0) : ObG P a0 Q C Le alld [] ents := h
theorem depsG_of {full : List (Option Tmp × RG G)} {A : Act} {g : G} {w : World} {i : Nat} : ∀ {l : List Edge}, (∀ e ∈ l, Region.binds .any e = true → ∀ (d : Option Tmp) (R : RG G), full[e.on]? = some (d, R) → R (slotv A d) g w) → depsG (full.take i) A g w l
  | [], _ => trivial
  | e :: r, h => by
    refine ⟨?_, depsG_of fun e' he' => h e' (by simp [he'])⟩
    split
    case isFalse => trivial
    case isTrue hb =>
    cases hg : (full.take i)[e.on]? with
    | none => trivial
    | some x =>
      obtain ⟨d, R⟩ := x
      rw [List.getElem?_take] at hg
      split at hg
      · exact h e (by simp) hb d R hg
      · cases hg
def dOf (listed : Array Bool) : Nat → Bool := fun i => listed.getD i false
theorem dOf_set {listed : Array Bool} {i : Nat} (hi : i < listed.size) : dOf (listed.setIfInBounds i true) = onD (dOf listed) i := by
  funext k
  unfold dOf onD
  by_cases hk : i = k
  · subst hk; simp [hi]
  · rw [getD_set_ne false hk]
    have : (k == i) = false := by rw [beq_eq_false_iff_ne]; exact fun e => hk e.symm
    rw [this, Bool.or_false]
/-- What holds while the operations come up. -/
def WInvG (a0 : Act) (C : (Nat → Bool) → G → World → Prop) (full : List (Option Tmp × RG G)) (n : Nat) (listed : Array Bool) (a : Act) (g : G) (w : World) : Prop :=
  listed.size = n ∧ C (dOf listed) g w ∧ a.defers = a0.defers ∧ a.tmps.size = a0.tmps.size ∧
  (∀ s : Nat, (∀ (i : Nat) (d : Tmp) (R : RG G), full[i]? = some (some d, R) → listed.getD i false = true → d ≠ s) → a.tmps[s]? = a0.tmps[s]?) ∧
  ∀ (i : Nat) (d : Option Tmp) (R : RG G), full[i]? = some (d, R) → listed.getD i false = true → R (slotv a d) g w
theorem wantedG {ops : Array Oper} {full : List (Option Tmp × RG G)} {o : Oper} {A : Act} {i : Nat} (hf : ∀ (k : Nat) (ok : Oper), ops[k]? = some ok → ∃ R, full[k]? = some (ok.dst, R)) (hlen : full.length = ops.size)
    (hg : ∀ g b, o.guard = some (g, b) → g < i) : Region.wanted o (yielded ops A.tmps) = gdG (full.take i) A o := by
  unfold Region.wanted gdG
  cases ho : o.guard with
  | none => rfl
  | some x =>
    obtain ⟨g, b⟩ := x
    have hgi := hg g b ho
    simp only
    rw [List.getElem?_take, if_pos hgi]
    unfold yielded
    cases hk : ops[g]? with
    | none =>
      have : full[g]? = none := List.getElem?_eq_none (by rw [hlen]; exact Array.getElem?_eq_none_iff.1 hk)
      rw [this]; rfl
    | some ok =>
      obtain ⟨R, hR⟩ := hf g ok hk
      rw [hR]
      simp only [Option.bind_some]
      cases hd : ok.dst with
      | none => rfl
      | some d =>
        simp only [Option.bind_some, Act.eval]
        cases ht : A.tmps[d]? with
        | none => simp [ht, undef]
        | some v =>
          simp only [Array.getD_eq_getD_getElem?, ht, Option.getD_some]
          cases v <;> first | rfl | (rename_i x; cases x <;> cases b <;> rfl)
theorem wildG_any {l : List Oper} {full : List (Option Tmp × RG G)} (hLe : ∀ g w, Le g w g w) (hbd : ∀ d ∈ alld, d < a0.tmps.size) (hlen : full.length = l.length) (hnd : (l.filterMap (·.dst)).Nodup) (halld : l.filterMap (·.dst) = alld)
    (hed : ∀ (i : Nat) (o : Oper), l[i]? = some o → ∀ d ∈ edgesOf o, d < i) (hgu : ∀ (i : Nat) (o : Oper), l[i]? = some o → ∀ g b, o.guard = some (g, b) → g < i)
    (hf : ∀ (i : Nat) (o : Oper), l[i]? = some o → ∃ R, full[i]? = some (o.dst, R) ∧ (∀ v g w g' w', Le g w g' w' → R v g w → R v g' w') ∧ OblG P a0 Q C Le alld (full.take i) o R i)
    (hend : ∀ D g w, (∀ i, i < full.length → D i = true) → C D g w → AllVals w (fun a => Q .normal a w) (atG g full) a0) :
    ∀ (fuel : Nat) (listed : Array Bool) (a : Act) (g : G) (w : World), cnt listed l.length ≤ fuel → WInvG a0 C full l.length listed a g w → wpAny P .any l.toArray Q fuel listed a w := by
  have hmono : ∀ (i : Nat) (d : Option Tmp) (R : RG G), full[i]? = some (d, R) → ∀ v g w g' w', Le g w g' w' → R v g w → R v g' w' := fun i d R hi => by
    have hlt : i < l.length := by rw [← hlen]; exact (List.getElem?_eq_some_iff.1 hi).1
    obtain ⟨R', h1, h2, -⟩ := hf i l[i] (List.getElem?_eq_getElem hlt)
    rw [hi] at h1
    simp only [Option.some.injEq, Prod.mk.injEq] at h1
    rw [h1.2]; exact h2
  have hdst : ∀ (i : Nat) (d : Option Tmp) (R : RG G), full[i]? = some (d, R) → ∃ o, l[i]? = some o ∧ o.dst = d := fun i d R hi => by
    have hlt : i < l.length := by rw [← hlen]; exact (List.getElem?_eq_some_iff.1 hi).1
    obtain ⟨R', h1, -⟩ := hf i l[i] (List.getElem?_eq_getElem hlt)
    rw [hi] at h1
    simp only [Option.some.injEq, Prod.mk.injEq] at h1
    exact ⟨l[i], List.getElem?_eq_getElem hlt, h1.1.symm⟩
  have hall : ∀ listed a g w, WInvG a0 C full l.length listed a g w → (∀ i, i < l.length → listed.getD i false = true) → Q .normal a w := fun listed a g w hI ha => by
    obtain ⟨hsz0, hC, hd, hz, hs, hR⟩ := hI
    refine (hend (dOf listed) g w (fun i hi => ha i (by rw [← hlen]; exact hi)) hC).use (a' := a) (fun i d R hi => ?_) hd hz (fun s hne => hs s (fun i d R hi _ => hne i d (fun v w => R v g w) (by unfold atG; rw [List.getElem?_map, hi]; rfl)))
    unfold atG at hi
    rw [List.getElem?_map] at hi
    cases hq : full[i]? with
    | none => rw [hq] at hi; cases hi
    | some x =>
      obtain ⟨d', R'⟩ := x
      rw [hq] at hi
      simp only [Option.map_some, Option.some.injEq, Prod.mk.injEq] at hi
      obtain ⟨rfl, rfl⟩ := hi
      refine hR i d' R' hq (ha i ?_)
      rw [← hlen]; exact (List.getElem?_eq_some_iff.1 hq).1
  have hready : ∀ listed : Array Bool, listed.size = l.length → Region.ready .any l.toArray listed = [] → ∀ i, i < l.length → listed.getD i false = true := fun listed hsz hr i => by
    induction i using Nat.strongRecOn with
    | _ i ih =>
      intro hi
      cases hg : listed.getD i false with
      | true => rfl
      | false =>
        exfalso
        have : i ∈ Region.ready .any l.toArray listed := mem_ready.2 ⟨by
            have h1 : i < listed.size := by omega
            simp [h1] at hg ⊢; exact hg, l[i], by simp [hi], fun e he hb => ih e.on (hed i l[i] (List.getElem?_eq_getElem hi) e.on (mem_edges he hb)) (by
              have := hed i l[i] (List.getElem?_eq_getElem hi) e.on (mem_edges he hb); omega)⟩
        rw [hr] at this; cases this
  intro fuel
  induction fuel with
  | zero =>
    intro listed a g w hc hI
    have ha := cnt_zero (Nat.le_zero.1 hc)
    refine ⟨?_, hall listed a g w hI ha⟩
    rw [List.eq_nil_iff_forall_not_mem]
    intro i hi
    obtain ⟨h0, o, ho, -⟩ := mem_ready.1 hi
    have hlt : i < l.length := by simpa using (Array.getElem?_eq_some_iff.1 ho).1
    have := ha i hlt
    have h1 : i < listed.size := by rw [hI.1]; exact hlt
    simp [h1] at h0 this; rw [h0] at this; cases this
  | succ fuel ih =>
    intro listed a g w hc hI
    refine ⟨fun hr => hall listed a g w hI (hready listed hI.1 hr), fun i hi => ?_⟩
    obtain ⟨h0, o, ho, hdep⟩ := mem_ready.1 hi
    have hlt : i < l.length := by simpa using (Array.getElem?_eq_some_iff.1 ho).1
    have hlo : l[i]? = some o := by simpa using ho
    have hls : i < listed.size := by rw [hI.1]; exact hlt
    have hun : listed.getD i false = false := by simp [hls] at h0 ⊢; exact h0
    obtain ⟨R, hRi, hRm, hob⟩ := hf i o hlo
    obtain ⟨hsz, hC, hd, hz, hs, hR⟩ := hI
    have hW := wantedG (A := a) (o := o) (i := i) (ops := l.toArray) (full := full) (fun k ok hk => by
      obtain ⟨R', h1, -⟩ := hf k ok (by simpa using hk)
      exact ⟨R', h1⟩) (by simpa using hlen) (hgu i o hlo)
    have hstep := hob (dOf listed) a g w hun hC (fun s hs' => by
      have : a.tmps[s]? = a0.tmps[s]? := hs s (fun k d R' hk _ e => by
        obtain ⟨ok, hok, hdk⟩ := hdst k (some d) R' hk
        have : d ∈ alld := by rw [← halld]; exact List.mem_filterMap.2 ⟨ok, List.mem_of_getElem? hok, hdk⟩
        rw [e] at this
        simp at hs'
        exact hs' this)
      simp [Act.eval, this]) (depsG_of (fun e he hb d R' hR' => hR e.on d R' hR' (hdep e (by simpa using he) hb)))
    have hnext : ∀ (v : Value) (g' : G) (w' : World), Le g w g' w' → C (onD (dOf listed) i) g' w' → R (slotv (a.put o.dst v) o.dst) g' w' → wpAny P .any l.toArray Q fuel (listed.setIfInBounds i true) (a.put o.dst v) w' := fun v g' w' hle hC' hv => by
      refine ih _ _ g' _ ?_ ⟨by simp [hsz], by rw [dOf_set hls]; exact hC', ?_, ?_, ?_, ?_⟩
      · have := cnt_set hls hun l.length
        rw [if_pos hlt] at this
        omega
      · cases o.dst <;> simpa [Act.put] using hd
      · cases o.dst <;> simpa [Act.put] using hz
      · intro s hne
        have h1 : a.tmps[s]? = a0.tmps[s]? := hs s (fun k d R' hk hl => hne k d R' hk (getD_set_true hl))
        cases hod : o.dst with
        | none => simpa [Act.put] using h1
        | some d =>
          have hds : d ≠ s := hne i d R (by rw [hRi, hod]) (by simp [hls])
          simp only [Act.put]
          rw [Array.getElem?_setIfInBounds_ne hds]; exact h1
      · intro k d R' hk hl
        by_cases hik : i = k
        · subst hik
          rw [hRi] at hk
          simp only [Option.some.injEq, Prod.mk.injEq] at hk
          obtain ⟨rfl, rfl⟩ := hk
          exact hv
        · have hl' : listed.getD k false = true := by rwa [getD_set_ne false hik] at hl
          have h1 := hmono k d R' hk _ _ _ _ _ hle (hR k d R' hk hl')
          have : slotv (a.put o.dst v) d = slotv a d := by
            cases hod : o.dst with
            | none => rfl
            | some d1 =>
              cases d with
              | none => rfl
              | some d2 =>
                have hne : d1 ≠ d2 := fun e => by
                  obtain ⟨ok, hok, hdk⟩ := hdst k (some d2) R' hk
                  exact hik (nodup_dst hnd i k o ok d2 hlo hok (by rw [hod, e]) hdk)
                simp [slotv, Act.eval, Act.put, Array.getElem?_setIfInBounds_ne hne]
          rw [this]; exact h1
    unfold wpOp
    simp only [ho]
    rw [hW]
    cases hgd : gdG (full.take i) a o with
    | true =>
      rw [hgd] at hstep
      simp only [if_true] at hstep ⊢
      refine Or.inl (Oper.wp_mono ?_ hstep)
      rintro a' w' ⟨v, g', rfl, hle, hC', hv⟩
      refine hnext v g' w' hle hC' ?_
      cases hod : o.dst with
      | none => rw [hod] at hv; exact hv
      | some d =>
        rw [hod] at hv
        simp only [Option.isSome_some, if_true] at hv
        have hdl : d < a.tmps.size := by
          rw [hz]; exact hbd d (by rw [← halld]; exact List.mem_filterMap.2 ⟨o, List.mem_of_getElem? hlo, hod⟩)
        simpa [slotv, Act.eval, Act.put, hdl] using hv
    | false =>
      rw [hgd] at hstep
      simp only [Bool.false_eq_true, if_false] at hstep ⊢
      refine hnext undef g w (hLe g w) hstep.1 ?_
      cases hod : o.dst with
      | none => exact hstep.2
      | some d =>
        have hdl : d < a.tmps.size := by
          rw [hz]; exact hbd d (by rw [← halld]; exact List.mem_filterMap.2 ⟨o, List.mem_of_getElem? hlo, hod⟩)
        simpa [slotv, Act.eval, Act.put, hdl] using hstep.2
/-- **Whatever order is drawn, with a ghost.** -/
theorem wp_region_ghost {id : Nat} {l : List Oper} {w : World} (C : (Nat → Bool) → G → World → Prop) (Le : G → World → G → World → Prop) (alld : List Tmp) (g0 : G) (hm : P.follows .mixedOrders = true) (hB : (l.filterMap (·.dst) == alld && formB l) = true) (hLe : ∀ g w, Le g w g w) (hbd : (alld.all fun d => decide (d < a0.tmps.size)) = true) (hC : C (fun _ => false) g0 (w.drewN 1))
    (h : ObG P a0 Q C Le alld l []) : (Code.region id l.toArray true).wp P Q a0 w := by
  unfold formB at hB
  simp only [Bool.and_eq_true, beq_iff_eq, decide_eq_true_eq] at hB
  obtain ⟨halld, hnd, hz⟩ := hB
  obtain ⟨full, h1, -, h3, h4⟩ := h.full
  simp only [List.length_nil, Nat.zero_add] at h1 h3
  have hed : ∀ (i : Nat) (o : Oper), l[i]? = some o → (∀ d ∈ edgesOf o, d < i) ∧ ∀ g b, o.guard = some (g, b) → g < i := fun i o hi => by
    have := zip_all hz i o hi
    simp only [Bool.and_eq_true, List.all_eq_true, decide_eq_true_eq] at this
    refine ⟨this.1, fun g b hg => ?_⟩
    have h2 := this.2
    rw [hg] at h2
    simpa using h2
  refine wp_region_any hm ?_
  have hdr : ({ w with drawn := w.drawn + 1 } : World) = w.drewN 1 := rfl
  rw [hdr]
  have hD : dOf (Array.replicate l.toArray.size false) = fun _ => false := by
    funext k; unfold dOf; rw [Array.getD_eq_getD_getElem?]; by_cases hk : k < l.length <;> simp [hk]
  refine wildG_any hLe (fun d hd => by rw [List.all_eq_true] at hbd; simpa using hbd d hd) h1 hnd halld (fun i o hi => (hed i o hi).1) (fun i o hi => (hed i o hi).2) h3 h4 _ _ _ g0 _ ?_ ⟨by simp, by rw [hD]; exact hC, rfl, rfl, fun _ _ => rfl, fun i d R _ hl => ?_⟩
  · have : ∀ n, cnt (Array.replicate l.toArray.size false) n ≤ n := fun n => by
      induction n with
      | zero => simp [cnt]
      | succ n ih => simp only [cnt]; split <;> omega
    simpa using this l.length
  · exfalso
    rw [Array.getD_eq_getD_getElem?] at hl
    by_cases hi : i < l.length
    · simp [hi] at hl
    · rw [Array.getElem?_eq_none (by simpa using hi)] at hl; cases hl
end
end Go.Proofs.YtommnhglgedflaaGreatDoor
end
section
set_option linter.unusedVariables false
namespace Go.Proofs.YtommnhglgedflaaGreatDoor
open Go.RowKit
theorem allG_nil {w : World} {K : Act → Prop} {a : Act} (h : K a) : AllVals w K [] a := h
structure Gb where
  o8 : Option Nat
  o9 : Option Nat
  s8 : Bool
  s9 : Bool
def Gb.le (g g' : Gb) : Prop := (∀ b, g.o8 = some b → g'.o8 = some b) ∧ (∀ b, g.o9 = some b → g'.o9 = some b) ∧ (g.s8 = true → g'.s8 = true) ∧ (g.s9 = true → g'.s9 = true)
theorem Gb.le_refl (g : Gb) : g.le g := ⟨fun _ h => h, fun _ h => h, fun h => h, fun h => h⟩
structure BxC (wr : World) (n : Nat) (Z X Y : Array Value) (ty : TypeId) (D : Nat → Bool) (g : Gb) (w : World) : Prop where
  bl : Below wr.heap.size wr w
  d8 : D n = false → g.o8 = none
  d9 : D (n + 1) = false → g.o9 = none
  e8 : D (n + 2) = false → g.s8 = false
  e9 : D (n + 3) = false → g.s9 = false
  f8 : g.o8 = none → g.s8 = false
  f9 : g.o9 = none → g.s9 = false
  b8 : ∀ b, g.o8 = some b → wr.heap.size ≤ b ∧ w.heap[b]? = some (.cells (if g.s8 then X else Z) ty (0, 0))
  b9 : ∀ b, g.o9 = some b → wr.heap.size ≤ b ∧ w.heap[b]? = some (.cells (if g.s9 then Y else Z) ty (0, 0))
  ne : ∀ b b', g.o8 = some b → g.o9 = some b' → b ≠ b'
section
variable {wr w : World} {n : Nat} {Z X Y : Array Value} {ty : TypeId} {D : Nat → Bool} {g : Gb}
theorem onD_f {D : Nat → Bool} {i k : Nat} (h : onD D i k = false) : D k = false := by
  unfold onD at h; rw [Bool.or_eq_false_iff] at h; exact h.1
theorem onD_t {D : Nat → Bool} {i : Nat} (h : onD D i i = false) : False := by
  unfold onD at h; simp at h
theorem BxC.start : BxC wr n Z X Y ty (fun _ => false) ⟨none, none, false, false⟩ (wr.drewN 1) :=
  ⟨below_drewN (Below.refl _ _) 1, fun _ => rfl, fun _ => rfl, fun _ => rfl, fun _ => rfl, fun _ => rfl, fun _ => rfl, (fun b h => by cases h), (fun b h => by cases h), (fun b b' h _ => by cases h)⟩
theorem BxC.skip (h : BxC wr n Z X Y ty D g w) (i : Nat) : BxC wr n Z X Y ty (onD D i) g w :=
  ⟨h.bl, fun e => h.d8 (onD_f e), fun e => h.d9 (onD_f e), fun e => h.e8 (onD_f e), fun e => h.e9 (onD_f e), h.f8, h.f9, h.b8, h.b9, h.ne⟩
theorem BxC.mk8 (h : BxC wr n Z X Y ty D g w) (hD : D n = false) : Gb.le g { g with o8 := some w.heap.size } ∧ BxC wr n Z X Y ty (onD D n) { g with o8 := some w.heap.size } (w.alloc (.cells Z ty)) := by
  have h0 := h.d8 hD
  have hs := h.f8 h0
  have hb := alloc_below w (.cells Z ty)
  refine ⟨⟨(fun b e => by rw [h0] at e; cases e), fun _ e => e, fun e => e, fun e => e⟩, h.bl.trans (hb.mono h.bl.size), fun e => (onD_t e).elim, fun e => h.d9 (onD_f e), fun e => hs, fun e => h.e9 (onD_f e), fun _ => hs, h.f9, fun b e => ?_, fun b e => ?_, fun b b' e e' => ?_⟩
  · injection e with e; subst e
    exact ⟨h.bl.size, by rw [hs]; exact heap_alloc_new _ _⟩
  · obtain ⟨h1, h2⟩ := h.b9 b e
    exact ⟨h1, (heap_alloc_old _ _ (Array.getElem?_eq_some_iff.1 h2).1).trans h2⟩
  · injection e with e; subst e
    have := (Array.getElem?_eq_some_iff.1 (h.b9 b' e').2).1
    omega
theorem BxC.mk9 (h : BxC wr n Z X Y ty D g w) (hD : D (n + 1) = false) : Gb.le g { g with o9 := some w.heap.size } ∧ BxC wr n Z X Y ty (onD D (n + 1)) { g with o9 := some w.heap.size } (w.alloc (.cells Z ty)) := by
  have h0 := h.d9 hD
  have hs := h.f9 h0
  have hb := alloc_below w (.cells Z ty)
  refine ⟨⟨fun _ e => e, (fun b e => by rw [h0] at e; cases e), fun e => e, fun e => e⟩, h.bl.trans (hb.mono h.bl.size), fun e => h.d8 (onD_f e), fun e => (onD_t e).elim, fun e => h.e8 (onD_f e), fun e => hs, h.f8, fun _ => hs, fun b e => ?_, fun b e => ?_, fun b b' e e' => ?_⟩
  · obtain ⟨h1, h2⟩ := h.b8 b e
    exact ⟨h1, (heap_alloc_old _ _ (Array.getElem?_eq_some_iff.1 h2).1).trans h2⟩
  · injection e with e; subst e
    exact ⟨h.bl.size, by rw [hs]; exact heap_alloc_new _ _⟩
  · injection e' with e'; subst e'
    have := (Array.getElem?_eq_some_iff.1 (h.b8 b e).2).1
    omega
theorem setCells_far {w : World} {b k : Nat} {vs : List Value} (hk : k ≠ b) (hl : k < w.heap.size) : (w.setCells b 0 vs).heap[k]? = w.heap[k]? :=
  (setCells_grown b vs 0 w).block k hl (by simp; exact hk)
theorem BxC.st8 (h : BxC wr n Z X Y ty D g w) (hD : D (n + 2) = false) {b : Nat} (hb : g.o8 = some b) (hX : X.size = Z.size) : Gb.le g { g with s8 := true } ∧ BxC wr n Z X Y ty (onD D (n + 2)) { g with s8 := true } (w.setCells b 0 X.toList) := by
  obtain ⟨h1, h2⟩ := h.b8 b hb
  rw [h.e8 hD] at h2
  have hg := setCells_grown b X.toList 0 w
  refine ⟨⟨fun _ e => e, fun _ e => e, fun _ => rfl, fun e => e⟩, ?_, fun e => h.d8 (onD_f e), fun e => h.d9 (onD_f e), fun e => (onD_t e).elim, fun e => h.e9 (onD_f e), (fun e => by rw [hb] at e; cases e), h.f9, fun b' e => ?_, fun b' e => ?_, h.ne⟩
  · exact ⟨hg.os.trans h.bl.os, hg.tape.trans h.bl.tape, hg.output.trans h.bl.output, Nat.le_trans h.bl.size hg.size, fun k hk => (setCells_far (by omega) (Nat.lt_of_lt_of_le hk h.bl.size)).trans (h.bl.block k hk)⟩
  · have e' : b = b' := by rw [hb] at e; injection e
    subst e'
    exact ⟨h1, (setCells_all h2 (by simp [hX])).trans (by simp)⟩
  · obtain ⟨h3, h4⟩ := h.b9 b' e
    exact ⟨h3, (setCells_far (fun e2 => h.ne b b' hb e e2.symm) (Array.getElem?_eq_some_iff.1 h4).1).trans h4⟩
theorem BxC.st9 (h : BxC wr n Z X Y ty D g w) (hD : D (n + 3) = false) {b : Nat} (hb : g.o9 = some b) (hY : Y.size = Z.size) : Gb.le g { g with s9 := true } ∧ BxC wr n Z X Y ty (onD D (n + 3)) { g with s9 := true } (w.setCells b 0 Y.toList) := by
  obtain ⟨h1, h2⟩ := h.b9 b hb
  rw [h.e9 hD] at h2
  have hg := setCells_grown b Y.toList 0 w
  refine ⟨⟨fun _ e => e, fun _ e => e, fun e => e, fun _ => rfl⟩, ?_, fun e => h.d8 (onD_f e), fun e => h.d9 (onD_f e), fun e => h.e8 (onD_f e), fun e => (onD_t e).elim, h.f8, (fun e => by rw [hb] at e; cases e), fun b' e => ?_, fun b' e => ?_, h.ne⟩
  · exact ⟨hg.os.trans h.bl.os, hg.tape.trans h.bl.tape, hg.output.trans h.bl.output, Nat.le_trans h.bl.size hg.size, fun k hk => (setCells_far (by omega) (Nat.lt_of_lt_of_le hk h.bl.size)).trans (h.bl.block k hk)⟩
  · obtain ⟨h3, h4⟩ := h.b8 b' e
    exact ⟨h3, (setCells_far (fun e2 => h.ne b' b e hb e2) (Array.getElem?_eq_some_iff.1 h4).1).trans h4⟩
  · have e' : b = b' := by rw [hb] at e; injection e
    subst e'
    exact ⟨h1, (setCells_all h2 (by simp [hY])).trans (by simp)⟩
theorem BxC.there8 (h : BxC wr n Z X Y ty D g w) (hD : D (n + 2) = false) {b m : Nat} (hb : g.o8 = some b) (hm : m ≤ Z.size) : w.there b 0 m := by
  obtain ⟨h1, h2⟩ := h.b8 b hb
  rw [h.e8 hD] at h2
  exact thereS h2 hm
theorem BxC.there9 (h : BxC wr n Z X Y ty D g w) (hD : D (n + 3) = false) {b m : Nat} (hb : g.o9 = some b) (hm : m ≤ Z.size) : w.there b 0 m := by
  obtain ⟨h1, h2⟩ := h.b9 b hb
  rw [h.e9 hD] at h2
  exact thereS h2 hm
/-- What is left: two filled boxes. -/
theorem BxC.two (h : BxC wr n Z X Y ty D g w) {b b' : Nat} (h8 : g.o8 = some b) (h9 : g.o9 = some b') (hs : g.s8 = true) (hs' : g.s9 = true) :
    Below wr.heap.size wr w ∧ wr.heap.size ≤ b ∧ wr.heap.size ≤ b' ∧ b ≠ b' ∧ w.heap[b]? = some (.cells X ty (0, 0)) ∧ w.heap[b']? = some (.cells Y ty (0, 0)) := by
  obtain ⟨h1, h2⟩ := h.b8 b h8
  obtain ⟨h3, h4⟩ := h.b9 b' h9
  rw [hs] at h2
  rw [hs'] at h4
  exact ⟨h.bl, h1, h3, h.ne b b' h8 h9, h2, h4⟩
end
end Go.Proofs.YtommnhglgedflaaGreatDoor
end
section
set_option linter.unusedSimpArgs false
set_option linter.unusedVariables false
namespace Go.Proofs.YtommnhglgedflaaGreatDoor
open Go.RowKit
open Md
set_option maxHeartbeats 2000000 in
theorem SameTexts_any (l : List ByteArray) (w : World) (ao ao2 : Option Addr) (cap cap2 : Nat) (hl : l.length ≤ maxLen) (h1 : TxAt w w.heap.size l ao 0) (h2 : TxAt w w.heap.size l ao2 0) :
    Calls Tryz.prog 37 #[.slice ao l.length cap, .slice ao2 l.length cap2] w fun e w' => e = .returned (.bool true) ∧ Below w.heap.size w w' := by
  unfold maxLen at hl
  go_enter Tryz.func37, Tryz.ntmps37
  go_wp2_with fail
  go_loopw [5] (fun s wr => ∃ (k : Nat) (R : List ByteArray), s = .int .i64 k ∧ k + R.length = l.length ∧ TxAt wr wr.heap.size R ao k ∧ TxAt wr wr.heap.size R ao2 k ∧ Below w.heap.size w wr) (fun s _ => l.length - (intOf s).toNat)
  case atStart => exact ⟨0, l, rfl, by simp, h1, h2, Below.refl _ _⟩
  case round =>
    obtain ⟨k, R, rfl, hlen, hr1, hr2, hB⟩ := hrel
    cases R with
    | nil =>
      obtain rfl : k = l.length := by simpa using hlen
      go_wp2_with fail
      go_ret
      exact ⟨rfl, hB⟩
    | cons s R =>
      obtain ⟨⟨b, off, rfl, hb, x0, -⟩, hr1⟩ := hr1
      obtain ⟨⟨b2, off2, rfl, hb2, y0, -⟩, hr2⟩ := hr2
      have hkl : k < l.length := by simp only [List.length_cons] at hlen; omega
      have hb0 : (0 : Int) ≤ (k : Int) := by omega
      have hb1 : (k : Int) < (l.length : Int) := by omega
      have HR := Lib.hid (And.intro hr1 (And.intro hr2 hB))
      clear hr1 hr2 hB h1 h2
      go_upto_region 6 with fail
      go_quiet (fail)
      generalize hW : World.drewN wr _ = W1
      have HB : Hid (Below wr.heap.size wr W1) := Lib.hid (by rw [← hW]; exact below_drewN (Below.refl _ _) _)
      clear hW
      go_wp2_with fail
      go_roundw
      case rel => exact ⟨k + 1, R, by go_num, by simp only [List.length_cons] at hlen; omega, HR.out.1.same HB.out, HR.out.2.1.same HB.out, HR.out.2.2.trans (HB.out.mono HR.out.2.2.size)⟩
      case measure => simp [intOf]; omega
namespace Md
/-- Lists of statements that are the same, lines counted or not. -/
def StL.Alk (ln : Bool) : StL → StL → Prop
  | .nil, .nil => True
  | .cons h b e r, .cons h' b' e' r' => (h' = { h with line := h'.line } ∧ (ln = true → h'.line = h.line)) ∧ b.Alk ln b' ∧ e.Alk ln e' ∧ r.Alk ln r'
  | _, _ => False
theorem StL.Alk.len {ln : Bool} : ∀ {l l' : StL}, l.Alk ln l' → l'.len = l.len
  | .nil, .nil, _ => rfl
  | .cons .., .cons .., h => by simp only [StL.len]; rw [StL.Alk.len h.2.2.2]
  | .nil, .cons .., h => h.elim
  | .cons .., .nil, h => h.elim
theorem StL.Alk.refl {ln : Bool} : ∀ l : StL, l.Alk ln l
  | .nil => trivial
  | .cons h b e r => ⟨⟨rfl, fun _ => rfl⟩, refl b, refl e, refl r⟩
end Md
def SsSays (l : StL) : Prop :=
  ∀ (w : World) (ao : Option Addr) (cap : Nat) (l' : StL) (ao2 : Option Addr) (cap2 : Nat) (ln : Bool), l.len ≤ maxLen → l.Alk ln l' → l.At w w.heap.size ao 0 → l'.At w w.heap.size ao2 0 →
    Calls Tryz.prog 38 #[.slice ao l.len cap, .slice ao2 l'.len cap2, .bool ln] w fun e w' => e = .returned (.bool true) ∧ Below w.heap.size w w'
def zSs : Array Value := #[.int .i64 0, .int .i64 0, .string ⟨#[]⟩, .string ⟨#[]⟩, .slice none 0 0, .int .i64 0, .int .i64 0, .string ⟨#[]⟩, .slice none 0 0, .slice none 0 0, .slice none 0 0]
theorem ss_size : (Tryz.prog.info? 91).map (·.size) = some 11 := by kernel_rfl
def ssC (h : StH) (b e : StL) (s : Sl) : Array Value := #[.int .i64 h.op, .int .i64 h.line, .string h.nm, .string h.arg, .slice s.aoi h.idx.len s.capi, .int .i64 h.xop, .int .i64 h.xn, .string h.xnm, .slice s.aox h.xkids.len s.capx, .slice s.aob b.len s.capb, .slice s.aoe e.len s.cape]
set_option maxHeartbeats 4000000 in
set_option maxRecDepth 100000 in
theorem SameStmts_step (l : StL) (ih : l.All (fun _ b e => SsSays b ∧ SsSays e)) : SsSays l := by
  intro w ao cap l' ao2 cap2 ln hl halk h1 h2
  unfold maxLen at hl
  have hlen' := halk.len
  rw [hlen']
  clear hlen'
  go_enter Tryz.func38, Tryz.ntmps38
  go_wp2_with fail
  go_loopw [7] (fun s wr => ∃ (k : Nat) (R R' : StL), s = .int .i64 k ∧ k + R.len = l.len ∧ R.Alk ln R' ∧ R.All (fun _ b e => SsSays b ∧ SsSays e) ∧ R.At wr wr.heap.size ao k ∧ R'.At wr wr.heap.size ao2 k ∧ Below w.heap.size w wr) (fun s _ => l.len - (intOf s).toNat)
  case atStart => exact ⟨0, l, l', rfl, by simp, halk, ih, h1, h2, Below.refl _ _⟩
  case round =>
    obtain ⟨k, R, R', rfl, hlen, hal, hall, hr1, hr2, hB⟩ := hrel
    clear halk ih h1 h2
    match R, R', hal with
    | .nil, .nil, _ =>
      obtain rfl : k = l.len := by simpa [StL.len] using hlen
      go_wp2_with fail
      go_ret
      exact ⟨rfl, hB⟩
    | .cons h b e R, .cons h' b' e' R', hal =>
      obtain ⟨⟨hh, hln⟩, halb, hale, halr⟩ := hal
      obtain ⟨⟨hsb, hse⟩, hall⟩ := hall
      obtain ⟨bl, off, s, rfl, hbl, hin, x0, x1, x2, x3, x4, x5, x6, x7, x8, x9, x10, hq1⟩ := StL.At.head hr1
      obtain ⟨bl2, off2, s2, rfl, hbl2, hin2, y0, y1, y2, y3, y4, y5, y6, y7, y8, y9, y10, hq2⟩ := StL.At.head hr2
      clear hr1 hr2
      obtain ⟨line', rfl⟩ : ∃ n, h' = { h with line := n } := ⟨_, hh⟩
      dsimp only at y0 y1 y2 y3 y4 y5 y6 y7 y8 y9 y10 hln
      have hkl : k < l.len := by simp only [StL.len] at hlen; omega
      have hb0 : (0 : Int) ≤ (k : Int) := by omega
      have hb1 : (k : Int) < (l.len : Int) := by omega
      have HIN := Lib.hid (And.intro hin hin2)
      have HSY := Lib.hid (And.intro hsb hse)
      have HAL := Lib.hid (And.intro halb (And.intro hale halr))
      have HR := Lib.hid (And.intro hq1 (And.intro hq2 hB))
      have HLN := Lib.hid hln
      have HALL := Lib.hid hall
      have HLEN := Lib.hid hlen
      have e1 := halb.len
      have e2 := hale.len
      rw [e1] at y9
      rw [e2] at y10
      clear hin hin2 hsb hse halb hale halr hq1 hq2 hB hln hall hlen hh e1 e2
      go_upto_region 6 with fail
      refine wp_region_ghost (BxC wr 8 zSs (ssC h b e s) (ssC { h with line := line' } b e s2) 91) (fun g _ g' _ => Gb.le g g') [21, 22, 23, 24, 25, 26, 27, 28, 8, 9] ⟨none, none, false, false⟩ (by kernel_rfl) (by kernel_rfl) (fun g _ => Gb.le_refl g) (by rfl) BxC.start ?_
      apply ObG.step
      case hobl =>
        intro D A g w' hDn hC hO hD
        have e0 := hO 0 (by rfl)
        simp [Act.eval] at e0
        simp [depsG, IsG, slotv, Act.eval, Region.binds] at hD
        simp [go_sem, gdG, Oper.wp, hD, e0]
        exact WPostG.mk (Gb.le_refl g) (hC.skip _) (IsG.mk _ _ _)
      apply ObG.step
      case hobl =>
        intro D A g w' hDn hC hO hD
        have e7 := hO 7 (by rfl)
        simp [Act.eval] at e7
        simp [depsG, IsG, slotv, Act.eval, Region.binds] at hD
        simp [go_sem, gdG, Oper.wp, hD, e7]
        exact WPostG.mk (Gb.le_refl g) (hC.skip _) (IsG.mk _ _ _)
      apply ObG.step
      case hobl =>
        intro D A g w' hDn hC hO hD
        simp [depsG, IsG, slotv, Act.eval, Region.binds] at hD
        simp [go_sem, gdG, Oper.wp, hD, hb0, hb1]
        exact WPostG.mk (Gb.le_refl g) (hC.skip _) (IsG.mk _ _ _)
      apply ObG.step
      case hobl =>
        intro D A g w' hDn hC hO hD
        have z0 := (hC.bl.cell (p := ⟨bl, off + k * 11, none⟩) hbl).trans x0
        have z1 := (hC.bl.cell (p := ⟨bl, off + k * 11 + 1, none⟩) hbl).trans x1
        have z2 := (hC.bl.cell (p := ⟨bl, off + k * 11 + 2, none⟩) hbl).trans x2
        have z3 := (hC.bl.cell (p := ⟨bl, off + k * 11 + 3, none⟩) hbl).trans x3
        have z4 := (hC.bl.cell (p := ⟨bl, off + k * 11 + 4, none⟩) hbl).trans x4
        have z5 := (hC.bl.cell (p := ⟨bl, off + k * 11 + 5, none⟩) hbl).trans x5
        have z6 := (hC.bl.cell (p := ⟨bl, off + k * 11 + 6, none⟩) hbl).trans x6
        have z7 := (hC.bl.cell (p := ⟨bl, off + k * 11 + 7, none⟩) hbl).trans x7
        have z8 := (hC.bl.cell (p := ⟨bl, off + k * 11 + 8, none⟩) hbl).trans x8
        have z9 := (hC.bl.cell (p := ⟨bl, off + k * 11 + 9, none⟩) hbl).trans x9
        have z10 := (hC.bl.cell (p := ⟨bl, off + k * 11 + 10, none⟩) hbl).trans x10
        simp [depsG, IsG, slotv, Act.eval, Region.binds] at hD
        simp [go_sem, gdG, Oper.wp, hD, z0, z1, z2, z3, z4, z5, z6, z7, z8, z9, z10]
        exact WPostG.mk (Gb.le_refl g) (hC.skip _) (IsG.mk _ _ _)
      apply ObG.step
      case hobl =>
        intro D A g w' hDn hC hO hD
        have e1 := hO 1 (by rfl)
        simp [Act.eval] at e1
        simp [depsG, IsG, slotv, Act.eval, Region.binds] at hD
        simp [go_sem, gdG, Oper.wp, hD, e1]
        exact WPostG.mk (Gb.le_refl g) (hC.skip _) (IsG.mk _ _ _)
      apply ObG.step
      case hobl =>
        intro D A g w' hDn hC hO hD
        have e7 := hO 7 (by rfl)
        simp [Act.eval] at e7
        simp [depsG, IsG, slotv, Act.eval, Region.binds] at hD
        simp [go_sem, gdG, Oper.wp, hD, e7]
        exact WPostG.mk (Gb.le_refl g) (hC.skip _) (IsG.mk _ _ _)
      apply ObG.step
      case hobl =>
        intro D A g w' hDn hC hO hD
        simp [depsG, IsG, slotv, Act.eval, Region.binds] at hD
        simp [go_sem, gdG, Oper.wp, hD, hb0, hb1]
        exact WPostG.mk (Gb.le_refl g) (hC.skip _) (IsG.mk _ _ _)
      apply ObG.step
      case hobl =>
        intro D A g w' hDn hC hO hD
        have z0 := (hC.bl.cell (p := ⟨bl2, off2 + k * 11, none⟩) hbl2).trans y0
        have z1 := (hC.bl.cell (p := ⟨bl2, off2 + k * 11 + 1, none⟩) hbl2).trans y1
        have z2 := (hC.bl.cell (p := ⟨bl2, off2 + k * 11 + 2, none⟩) hbl2).trans y2
        have z3 := (hC.bl.cell (p := ⟨bl2, off2 + k * 11 + 3, none⟩) hbl2).trans y3
        have z4 := (hC.bl.cell (p := ⟨bl2, off2 + k * 11 + 4, none⟩) hbl2).trans y4
        have z5 := (hC.bl.cell (p := ⟨bl2, off2 + k * 11 + 5, none⟩) hbl2).trans y5
        have z6 := (hC.bl.cell (p := ⟨bl2, off2 + k * 11 + 6, none⟩) hbl2).trans y6
        have z7 := (hC.bl.cell (p := ⟨bl2, off2 + k * 11 + 7, none⟩) hbl2).trans y7
        have z8 := (hC.bl.cell (p := ⟨bl2, off2 + k * 11 + 8, none⟩) hbl2).trans y8
        have z9 := (hC.bl.cell (p := ⟨bl2, off2 + k * 11 + 9, none⟩) hbl2).trans y9
        have z10 := (hC.bl.cell (p := ⟨bl2, off2 + k * 11 + 10, none⟩) hbl2).trans y10
        simp [depsG, IsG, slotv, Act.eval, Region.binds] at hD
        simp [go_sem, gdG, Oper.wp, hD, z0, z1, z2, z3, z4, z5, z6, z7, z8, z9, z10]
        exact WPostG.mk (Gb.le_refl g) (hC.skip _) (IsG.mk _ _ _)
      refine ObG.some (fun v g _ => ∃ b, v = .pointer (some ⟨b, 0, none⟩) ∧ g.o8 = some b) (fun v g w g' w' hle h => by obtain ⟨b, h1, h2⟩ := h; exact ⟨b, h1, hle.1 b h2⟩) ?_ ?_
      · intro D A g w' hDn hC hO hD
        simp [go_sem, gdG, Oper.wp]
        have hM := hC.mk8 hDn
        exact WPostG.mk hM.1 hM.2 ⟨_, rfl, rfl⟩
      refine ObG.some (fun v g _ => ∃ b, v = .pointer (some ⟨b, 0, none⟩) ∧ g.o9 = some b) (fun v g w g' w' hle h => by obtain ⟨b, h1, h2⟩ := h; exact ⟨b, h1, hle.2.1 b h2⟩) ?_ ?_
      · intro D A g w' hDn hC hO hD
        simp [go_sem, gdG, Oper.wp]
        have hM := hC.mk9 hDn
        exact WPostG.mk hM.1 hM.2 ⟨_, rfl, rfl⟩
      refine ObG.some (fun _ g _ => g.s8 = true) (fun v g w g' w' hle h => hle.2.2.1 h) ?_ ?_
      · intro D A g w' hDn hC hO hD
        simp [depsG, IsG, slotv, Act.eval, Region.binds] at hD
        obtain ⟨⟨gb, hv, hgb⟩, hx, -⟩ := hD
        simp only [gdG, if_true]
        refine wp_store_mid _ _ _ (by rfl) gb 0 (ssC h b e s) (by simp [Act.eval, hv]) (by simp [Act.eval, hx, ssC]) (hC.there8 hDn hgb (Nat.le_refl _)) ss_size (by simp [Value.oneCell', ssC]) ?_
        have hF := hC.st8 hDn hgb rfl
        exact WPostG.mk0 hF.1 hF.2 rfl
      refine ObG.some (fun _ g _ => g.s9 = true) (fun v g w g' w' hle h => hle.2.2.2 h) ?_ ?_
      · intro D A g w' hDn hC hO hD
        simp [depsG, IsG, slotv, Act.eval, Region.binds] at hD
        obtain ⟨⟨gb, hv, hgb⟩, hx, -⟩ := hD
        simp only [gdG, if_true]
        refine wp_store_mid _ _ _ (by rfl) gb 0 (ssC { h with line := line' } b e s2) (by simp [Act.eval, hv]) (by simp [Act.eval, hx, ssC]) (hC.there9 hDn hgb (Nat.le_refl _)) ss_size (by simp [Value.oneCell', ssC]) ?_
        have hF := hC.st9 hDn hgb rfl
        exact WPostG.mk0 hF.1 hF.2 rfl
      refine ObG.done ?_
      intro D g W hD hC
      simp only [atG, List.nil_append, List.cons_append, List.map_cons, List.map_nil]
      intro x0' h0' x1' h1' x2' h2' x3' h3' x4' h4' x5' h5' x6' h6' x7' h7' x8' h8' x9' h9' x10' h10' x11' h11'
      obtain ⟨g8, rfl, hg8⟩ := h8'
      obtain ⟨g9, rfl, hg9⟩ := h9'
      obtain ⟨hB, hl8, hl9, hne, hb8, hb9⟩ := hC.two hg8 hg9 h10' h11'
      have HBX := Lib.hid (And.intro hB (And.intro hl8 (And.intro hl9 (And.intro hne (And.intro hb8 hb9)))))
      clear h0' h1' h2' h3' h4' h5' h6' h7' hC hD hg8 hg9 h10' h11' hB hl8 hl9 hne hb8 hb9
      clear x0 x1 x2 x3 x4 x5 x6 x7 x8 x9 x10 y0 y1 y2 y3 y4 y5 y6 y7 y8 y9 y10
      refine allG_nil ?_
      go_simp
      obtain ⟨op, line, nm, arg, idx, xop, xn, xnm, xkids⟩ := h
      dsimp only at HIN HAL HR HLN HBX
      have hlt8 := (Array.getElem?_eq_some_iff.1 HBX.out.2.2.2.2.1).1
      have hlt9 := (Array.getElem?_eq_some_iff.1 HBX.out.2.2.2.2.2).1
      have HS : Hid (Sit wr W [(g8, 0, .int .i64 op), (g8, 1, .int .i64 line), (g8, 2, .string nm), (g8, 3, .string arg), (g8, 4, .slice s.aoi idx.len s.capi), (g8, 5, .int .i64 xop), (g8, 6, .int .i64 xn), (g8, 7, .string xnm), (g8, 8, .slice s.aox xkids.len s.capx), (g8, 9, .slice s.aob b.len s.capb), (g8, 10, .slice s.aoe e.len s.cape), (g9, 0, .int .i64 op), (g9, 1, .int .i64 line'), (g9, 2, .string nm), (g9, 3, .string arg), (g9, 4, .slice s2.aoi idx.len s2.capi), (g9, 5, .int .i64 xop), (g9, 6, .int .i64 xn), (g9, 7, .string xnm), (g9, 8, .slice s2.aox xkids.len s2.capx), (g9, 9, .slice s2.aob b.len s2.capb), (g9, 10, .slice s2.aoe e.len s2.cape)]) := Lib.hid ⟨HBX.out.1, ⟨hlt8, cellb HBX.out.2.2.2.2.1 rfl⟩, ⟨hlt8, cellb HBX.out.2.2.2.2.1 rfl⟩, ⟨hlt8, cellb HBX.out.2.2.2.2.1 rfl⟩, ⟨hlt8, cellb HBX.out.2.2.2.2.1 rfl⟩, ⟨hlt8, cellb HBX.out.2.2.2.2.1 rfl⟩, ⟨hlt8, cellb HBX.out.2.2.2.2.1 rfl⟩, ⟨hlt8, cellb HBX.out.2.2.2.2.1 rfl⟩, ⟨hlt8, cellb HBX.out.2.2.2.2.1 rfl⟩, ⟨hlt8, cellb HBX.out.2.2.2.2.1 rfl⟩, ⟨hlt8, cellb HBX.out.2.2.2.2.1 rfl⟩, ⟨hlt8, cellb HBX.out.2.2.2.2.1 rfl⟩, ⟨hlt9, cellb HBX.out.2.2.2.2.2 rfl⟩, ⟨hlt9, cellb HBX.out.2.2.2.2.2 rfl⟩, ⟨hlt9, cellb HBX.out.2.2.2.2.2 rfl⟩, ⟨hlt9, cellb HBX.out.2.2.2.2.2 rfl⟩, ⟨hlt9, cellb HBX.out.2.2.2.2.2 rfl⟩, ⟨hlt9, cellb HBX.out.2.2.2.2.2 rfl⟩, ⟨hlt9, cellb HBX.out.2.2.2.2.2 rfl⟩, ⟨hlt9, cellb HBX.out.2.2.2.2.2 rfl⟩, ⟨hlt9, cellb HBX.out.2.2.2.2.2 rfl⟩, ⟨hlt9, cellb HBX.out.2.2.2.2.2 rfl⟩, ⟨hlt9, cellb HBX.out.2.2.2.2.2 rfl⟩, trivial⟩
      have HSB : Hid (∀ W, Below wr.heap.size wr W → Calls Tryz.prog 38 #[.slice s.aob b.len s.capb, .slice s2.aob b.len s2.capb, .bool ln] W fun e w' => e = .returned (.bool true) ∧ Below W.heap.size W w') := Lib.hid (fun W hB => by
        have := HSY.out.1 W s.aob s.capb b' s2.aob s2.capb ln HIN.out.1.1.2.2.2.2.2.2.1 HAL.out.1 (HIN.out.1.same hB).2.2.2.1 (HIN.out.2.same hB).2.2.2.1
        rw [HAL.out.1.len] at this
        exact this)
      have HSE : Hid (∀ W, Below wr.heap.size wr W → Calls Tryz.prog 38 #[.slice s.aoe e.len s.cape, .slice s2.aoe e.len s2.cape, .bool ln] W fun e w' => e = .returned (.bool true) ∧ Below W.heap.size W w') := Lib.hid (fun W hB => by
        have := HSY.out.2 W s.aoe s.cape e' s2.aoe s2.cape ln HIN.out.1.1.2.2.2.2.2.2.2 HAL.out.2.1 (HIN.out.1.same hB).2.2.2.2 (HIN.out.2.same hB).2.2.2.2
        rw [HAL.out.2.1.len] at this
        exact this)
      have HSX : Hid (∀ W, Below wr.heap.size wr W → Calls Tryz.prog 20 #[.agg #[.int .i64 xop, .int .i64 xn, .string xnm, .slice s.aox xkids.len s.capx], .agg #[.int .i64 xop, .int .i64 xn, .string xnm, .slice s2.aox xkids.len s2.capx]] W fun e w' => e = .returned (.bool true) ∧ Below W.heap.size W w') := Lib.hid (fun W hB =>
        SameExpr_any _ _ _ _ W s.aox s.capx s2.aox s2.capx HIN.out.1.1.2.2.2.2.2.1 (HIN.out.1.same hB).2.2.1 (HIN.out.2.same hB).2.2.1)
      clear HSY hlt8 hlt9 HBX
      obtain ⟨-, ⟨-, c0⟩, ⟨-, c1⟩, ⟨-, c2⟩, ⟨-, c3⟩, ⟨-, c4⟩, ⟨-, c5⟩, ⟨-, c6⟩, ⟨-, c7⟩, ⟨-, c8⟩, ⟨-, c9⟩, ⟨-, c10⟩, ⟨-, c11⟩, ⟨-, c12⟩, ⟨-, c13⟩, ⟨-, c14⟩, ⟨-, c15⟩, ⟨-, c16⟩, ⟨-, c17⟩, ⟨-, c18⟩, ⟨-, c19⟩, ⟨-, c20⟩, ⟨-, c21⟩, -⟩ := HS.out
      go_upto_region 7 with fail
      go_cut [74] (fun v W' => v = .bool false ∧ Sit wr W' [(g8, 0, .int .i64 op), (g8, 1, .int .i64 line), (g8, 2, .string nm), (g8, 3, .string arg), (g8, 4, .slice s.aoi idx.len s.capi), (g8, 5, .int .i64 xop), (g8, 6, .int .i64 xn), (g8, 7, .string xnm), (g8, 8, .slice s.aox xkids.len s.capx), (g8, 9, .slice s.aob b.len s.capb), (g8, 10, .slice s.aoe e.len s.cape), (g9, 0, .int .i64 op), (g9, 1, .int .i64 line'), (g9, 2, .string nm), (g9, 3, .string arg), (g9, 4, .slice s2.aoi idx.len s2.capi), (g9, 5, .int .i64 xop), (g9, 6, .int .i64 xn), (g9, 7, .string xnm), (g9, 8, .slice s2.aox xkids.len s2.capx), (g9, 9, .slice s2.aob b.len s2.capb), (g9, 10, .slice s2.aoe e.len s2.cape)])
      case first =>
        cases ln
        · go_wp2_with fail
          refine (HSX.out _ HS.out.1).mono ?_
          rintro e w2 ⟨rfl, hb⟩
          have HS2 := Lib.hid (HS.out.next hb)
          clear hb c0 c1 c2 c3 c4 c5 c6 c7 c8 c9 c10 c11 c12 c13 c14 c15 c16 c17 c18 c19 c20 c21
          obtain ⟨-, ⟨-, c0⟩, ⟨-, c1⟩, ⟨-, c2⟩, ⟨-, c3⟩, ⟨-, c4⟩, ⟨-, c5⟩, ⟨-, c6⟩, ⟨-, c7⟩, ⟨-, c8⟩, ⟨-, c9⟩, ⟨-, c10⟩, ⟨-, c11⟩, ⟨-, c12⟩, ⟨-, c13⟩, ⟨-, c14⟩, ⟨-, c15⟩, ⟨-, c16⟩, ⟨-, c17⟩, ⟨-, c18⟩, ⟨-, c19⟩, ⟨-, c20⟩, ⟨-, c21⟩, -⟩ := HS2.out
          go_wp2_with fail
          go_meet
          exact ⟨rfl, HS2.out⟩
        · have hl := HLN.out rfl
          subst hl
          go_wp2_with fail
          refine (HSX.out _ HS.out.1).mono ?_
          rintro e w2 ⟨rfl, hb⟩
          have HS2 := Lib.hid (HS.out.next hb)
          clear hb c0 c1 c2 c3 c4 c5 c6 c7 c8 c9 c10 c11 c12 c13 c14 c15 c16 c17 c18 c19 c20 c21
          obtain ⟨-, ⟨-, c0⟩, ⟨-, c1⟩, ⟨-, c2⟩, ⟨-, c3⟩, ⟨-, c4⟩, ⟨-, c5⟩, ⟨-, c6⟩, ⟨-, c7⟩, ⟨-, c8⟩, ⟨-, c9⟩, ⟨-, c10⟩, ⟨-, c11⟩, ⟨-, c12⟩, ⟨-, c13⟩, ⟨-, c14⟩, ⟨-, c15⟩, ⟨-, c16⟩, ⟨-, c17⟩, ⟨-, c18⟩, ⟨-, c19⟩, ⟨-, c20⟩, ⟨-, c21⟩, -⟩ := HS2.out
          go_wp2_with fail
          go_meet
          exact ⟨rfl, HS2.out⟩
      obtain ⟨rfl, hsit⟩ := hcut
      have HT := Lib.hid hsit
      clear hsit HS c0 c1 c2 c3 c4 c5 c6 c7 c8 c9 c10 c11 c12 c13 c14 c15 c16 c17 c18 c19 c20 c21 HSX
      obtain ⟨W3, rfl⟩ : ∃ W : World, W = wc := ⟨_, rfl⟩
      cases idx with
      | nil =>
        go_upto_region 9 with fail
        obtain ⟨T, F, hinh, hst, hF, hnext⟩ := calm W3
        have HF := Lib.hid hF
        have HNX := Lib.hid hnext
        clear hnext hF
        have d0 := fun x => (HT.out.next (HF.out x)).2.1.2
        have d1 := fun x => (HT.out.next (HF.out x)).2.2.1.2
        have d2 := fun x => (HT.out.next (HF.out x)).2.2.2.1.2
        have d3 := fun x => (HT.out.next (HF.out x)).2.2.2.2.1.2
        have d4 := fun x => (HT.out.next (HF.out x)).2.2.2.2.2.1.2
        have d5 := fun x => (HT.out.next (HF.out x)).2.2.2.2.2.2.1.2
        have d6 := fun x => (HT.out.next (HF.out x)).2.2.2.2.2.2.2.1.2
        have d7 := fun x => (HT.out.next (HF.out x)).2.2.2.2.2.2.2.2.1.2
        have d8 := fun x => (HT.out.next (HF.out x)).2.2.2.2.2.2.2.2.2.1.2
        have d9 := fun x => (HT.out.next (HF.out x)).2.2.2.2.2.2.2.2.2.2.1.2
        have d10 := fun x => (HT.out.next (HF.out x)).2.2.2.2.2.2.2.2.2.2.2.1.2
        have d11 := fun x => (HT.out.next (HF.out x)).2.2.2.2.2.2.2.2.2.2.2.2.1.2
        have d12 := fun x => (HT.out.next (HF.out x)).2.2.2.2.2.2.2.2.2.2.2.2.2.1.2
        have d13 := fun x => (HT.out.next (HF.out x)).2.2.2.2.2.2.2.2.2.2.2.2.2.2.1.2
        have d14 := fun x => (HT.out.next (HF.out x)).2.2.2.2.2.2.2.2.2.2.2.2.2.2.2.1.2
        have d15 := fun x => (HT.out.next (HF.out x)).2.2.2.2.2.2.2.2.2.2.2.2.2.2.2.2.1.2
        have d16 := fun x => (HT.out.next (HF.out x)).2.2.2.2.2.2.2.2.2.2.2.2.2.2.2.2.2.1.2
        have d17 := fun x => (HT.out.next (HF.out x)).2.2.2.2.2.2.2.2.2.2.2.2.2.2.2.2.2.2.1.2
        have d18 := fun x => (HT.out.next (HF.out x)).2.2.2.2.2.2.2.2.2.2.2.2.2.2.2.2.2.2.2.1.2
        have d19 := fun x => (HT.out.next (HF.out x)).2.2.2.2.2.2.2.2.2.2.2.2.2.2.2.2.2.2.2.2.1.2
        have d20 := fun x => (HT.out.next (HF.out x)).2.2.2.2.2.2.2.2.2.2.2.2.2.2.2.2.2.2.2.2.2.1.2
        have d21 := fun x => (HT.out.next (HF.out x)).2.2.2.2.2.2.2.2.2.2.2.2.2.2.2.2.2.2.2.2.2.2.1.2
        simp only [ExL.len] at d4 d15
        refine region_calm F (by kernel_rfl) (by kernel_rfl) hst ?_
        repeat (any_goals (first | go_big_quiet_step ((first | (go_at_call_of 38 (Value.slice s.aob b.len s.capb); refine (HSB.out _ (HT.out.1.trans ((HF.out _).mono HT.out.1.size))).mono ?_; rintro e w' ⟨rfl, hb⟩; exact ⟨rfl, HNX.out _ _ hb⟩) | (go_at_call_of 38 (Value.slice s.aoe e.len s.cape); refine (HSE.out _ (HT.out.1.trans ((HF.out _).mono HT.out.1.size))).mono ?_; rintro e w' ⟨rfl, hb⟩; exact ⟨rfl, HNX.out _ _ hb⟩))) | (refine wpQuiet_step (fun K hK => ?_); go_simp; first | (refine hK _ ?_; clear hK K) | (split <;> first | (refine hK _ ?_; clear hK K) | (apply Exists.intro; refine ⟨fun _ => ?_, hK _ ?_⟩; ((first | (go_at_call_of 38 (Value.slice s.aob b.len s.capb); refine (HSB.out _ (HT.out.1.trans ((HF.out _).mono HT.out.1.size))).mono ?_; rintro e w' ⟨rfl, hb⟩; exact ⟨rfl, HNX.out _ _ hb⟩) | (go_at_call_of 38 (Value.slice s.aoe e.len s.cape); refine (HSE.out _ (HT.out.1.trans ((HF.out _).mono HT.out.1.size))).mono ?_; rintro e w' ⟨rfl, hb⟩; exact ⟨rfl, HNX.out _ _ hb⟩))); clear hK K)))))
        all_goals (refine wpQuiet_nil ?_; rintro _ ⟨x, rfl⟩)
        have HU := Lib.hid (HT.out.1.trans ((HF.out x).mono HT.out.1.size))
        clear d0 d1 d2 d3 d4 d5 d6 d7 d8 d9 d10 d11 d12 d13 d14 d15 d16 d17 d18 d19 d20 d21 HF HNX hst HT
        generalize F x = W4 at *
        go_wp2_with fail
        go_roundw
        case rel => exact ⟨k + 1, R, R', by go_num, by have := HLEN.out; simp only [StL.len] at this; omega, HAL.out.2.2, HALL.out, HR.out.1.same HU.out, HR.out.2.1.same HU.out, HR.out.2.2.trans (HU.out.mono HR.out.2.2.size)⟩
        case measure => simp [intOf]; omega
      | cons op0 n0 nm0 kids0 rest0 =>
        obtain ⟨⟨bi, oi, ao0, cap0, hei, hbi, p0, p1, p2, p3, hok0, hk0⟩, -⟩ := HIN.out.1.2.1
        obtain ⟨⟨bj, oj, ao1, cap1, hej, hbj, q0, q1, q2, q3, -, hk1⟩, -⟩ := HIN.out.2.2.1
        have HPX := Lib.hid (And.intro hbi (And.intro p0 (And.intro p1 (And.intro p2 p3))))
        have HQX := Lib.hid (And.intro hbj (And.intro q0 (And.intro q1 (And.intro q2 q3))))
        have HOK0 := Lib.hid (And.intro hok0 (And.intro hk0 hk1))
        have HEI := Lib.hid hei
        have HEJ := Lib.hid hej
        clear hbi p0 p1 p2 p3 hbj q0 q1 q2 q3 hok0 hk0 hk1 hei hej
        go_upto_region 9 with fail
        obtain ⟨T, F, hinh, hst, hF, hnext⟩ := calm W3
        have HF := Lib.hid hF
        have HNX := Lib.hid hnext
        clear hnext hF
        have d0 := fun x => (HT.out.next (HF.out x)).2.1.2
        have d1 := fun x => (HT.out.next (HF.out x)).2.2.1.2
        have d2 := fun x => (HT.out.next (HF.out x)).2.2.2.1.2
        have d3 := fun x => (HT.out.next (HF.out x)).2.2.2.2.1.2
        have d4 := fun x => (HT.out.next (HF.out x)).2.2.2.2.2.1.2
        have d5 := fun x => (HT.out.next (HF.out x)).2.2.2.2.2.2.1.2
        have d6 := fun x => (HT.out.next (HF.out x)).2.2.2.2.2.2.2.1.2
        have d7 := fun x => (HT.out.next (HF.out x)).2.2.2.2.2.2.2.2.1.2
        have d8 := fun x => (HT.out.next (HF.out x)).2.2.2.2.2.2.2.2.2.1.2
        have d9 := fun x => (HT.out.next (HF.out x)).2.2.2.2.2.2.2.2.2.2.1.2
        have d10 := fun x => (HT.out.next (HF.out x)).2.2.2.2.2.2.2.2.2.2.2.1.2
        have d11 := fun x => (HT.out.next (HF.out x)).2.2.2.2.2.2.2.2.2.2.2.2.1.2
        have d12 := fun x => (HT.out.next (HF.out x)).2.2.2.2.2.2.2.2.2.2.2.2.2.1.2
        have d13 := fun x => (HT.out.next (HF.out x)).2.2.2.2.2.2.2.2.2.2.2.2.2.2.1.2
        have d14 := fun x => (HT.out.next (HF.out x)).2.2.2.2.2.2.2.2.2.2.2.2.2.2.2.1.2
        have d15 := fun x => (HT.out.next (HF.out x)).2.2.2.2.2.2.2.2.2.2.2.2.2.2.2.2.1.2
        have d16 := fun x => (HT.out.next (HF.out x)).2.2.2.2.2.2.2.2.2.2.2.2.2.2.2.2.2.1.2
        have d17 := fun x => (HT.out.next (HF.out x)).2.2.2.2.2.2.2.2.2.2.2.2.2.2.2.2.2.2.1.2
        have d18 := fun x => (HT.out.next (HF.out x)).2.2.2.2.2.2.2.2.2.2.2.2.2.2.2.2.2.2.2.1.2
        have d19 := fun x => (HT.out.next (HF.out x)).2.2.2.2.2.2.2.2.2.2.2.2.2.2.2.2.2.2.2.2.1.2
        have d20 := fun x => (HT.out.next (HF.out x)).2.2.2.2.2.2.2.2.2.2.2.2.2.2.2.2.2.2.2.2.2.1.2
        have d21 := fun x => (HT.out.next (HF.out x)).2.2.2.2.2.2.2.2.2.2.2.2.2.2.2.2.2.2.2.2.2.2.1.2
        have y0 := fun x => (((HT.out.1.trans ((HF.out x).mono HT.out.1.size)).cell (p := ⟨bi, oi + 0 * 4, none⟩) HPX.out.1)).trans HPX.out.2.1
        have y1 := fun x => (((HT.out.1.trans ((HF.out x).mono HT.out.1.size)).cell (p := ⟨bi, oi + 0 * 4 + 1, none⟩) HPX.out.1)).trans HPX.out.2.2.1
        have y2 := fun x => (((HT.out.1.trans ((HF.out x).mono HT.out.1.size)).cell (p := ⟨bi, oi + 0 * 4 + 2, none⟩) HPX.out.1)).trans HPX.out.2.2.2.1
        have y3 := fun x => (((HT.out.1.trans ((HF.out x).mono HT.out.1.size)).cell (p := ⟨bi, oi + 0 * 4 + 3, none⟩) HPX.out.1)).trans HPX.out.2.2.2.2
        have z0 := fun x => (((HT.out.1.trans ((HF.out x).mono HT.out.1.size)).cell (p := ⟨bj, oj + 0 * 4, none⟩) HQX.out.1)).trans HQX.out.2.1
        have z1 := fun x => (((HT.out.1.trans ((HF.out x).mono HT.out.1.size)).cell (p := ⟨bj, oj + 0 * 4 + 1, none⟩) HQX.out.1)).trans HQX.out.2.2.1
        have z2 := fun x => (((HT.out.1.trans ((HF.out x).mono HT.out.1.size)).cell (p := ⟨bj, oj + 0 * 4 + 2, none⟩) HQX.out.1)).trans HQX.out.2.2.2.1
        have z3 := fun x => (((HT.out.1.trans ((HF.out x).mono HT.out.1.size)).cell (p := ⟨bj, oj + 0 * 4 + 3, none⟩) HQX.out.1)).trans HQX.out.2.2.2.2
        simp only [Nat.zero_mul, Nat.add_zero] at y0 y1 y2 y3 z0 z1 z2 z3
        simp only [HEI.out, ExL.len] at d4
        simp only [HEJ.out, ExL.len] at d15
        have hz0 : (0 : Int) < (rest0.len : Int) + 1 := by omega
        have hz1 : (0 : Int) < ((rest0.len + 1 : Nat) : Int) := by omega
        refine region_calm F (by kernel_rfl) (by kernel_rfl) hst ?_
        repeat (any_goals (first | go_big_quiet_step ((first | (go_at_call_of 38 (Value.slice s.aob b.len s.capb); refine (HSB.out _ (HT.out.1.trans ((HF.out _).mono HT.out.1.size))).mono ?_; rintro e w' ⟨rfl, hb⟩; exact ⟨rfl, HNX.out _ _ hb⟩) | (go_at_call_of 38 (Value.slice s.aoe e.len s.cape); refine (HSE.out _ (HT.out.1.trans ((HF.out _).mono HT.out.1.size))).mono ?_; rintro e w' ⟨rfl, hb⟩; exact ⟨rfl, HNX.out _ _ hb⟩) | (go_at_call 20; refine (SameExpr_any op0 n0 nm0 kids0 _ ao0 cap0 ao1 cap1 HOK0.out.1 (HOK0.out.2.1.same (HT.out.1.trans ((HF.out _).mono HT.out.1.size))) (HOK0.out.2.2.same (HT.out.1.trans ((HF.out _).mono HT.out.1.size)))).mono ?_; rintro e w' ⟨rfl, hb⟩; exact ⟨rfl, HNX.out _ _ hb⟩))) | (refine wpQuiet_step (fun K hK => ?_); go_simp; first | (refine hK _ ?_; clear hK K) | (split <;> first | (refine hK _ ?_; clear hK K) | (apply Exists.intro; refine ⟨fun _ => ?_, hK _ ?_⟩; ((first | (go_at_call_of 38 (Value.slice s.aob b.len s.capb); refine (HSB.out _ (HT.out.1.trans ((HF.out _).mono HT.out.1.size))).mono ?_; rintro e w' ⟨rfl, hb⟩; exact ⟨rfl, HNX.out _ _ hb⟩) | (go_at_call_of 38 (Value.slice s.aoe e.len s.cape); refine (HSE.out _ (HT.out.1.trans ((HF.out _).mono HT.out.1.size))).mono ?_; rintro e w' ⟨rfl, hb⟩; exact ⟨rfl, HNX.out _ _ hb⟩) | (go_at_call 20; refine (SameExpr_any op0 n0 nm0 kids0 _ ao0 cap0 ao1 cap1 HOK0.out.1 (HOK0.out.2.1.same (HT.out.1.trans ((HF.out _).mono HT.out.1.size))) (HOK0.out.2.2.same (HT.out.1.trans ((HF.out _).mono HT.out.1.size)))).mono ?_; rintro e w' ⟨rfl, hb⟩; exact ⟨rfl, HNX.out _ _ hb⟩))); clear hK K)))))
        all_goals (refine wpQuiet_nil ?_; rintro _ ⟨x, rfl⟩)
        have HU := Lib.hid (HT.out.1.trans ((HF.out x).mono HT.out.1.size))
        clear d0 d1 d2 d3 d4 d5 d6 d7 d8 d9 d10 d11 d12 d13 d14 d15 d16 d17 d18 d19 d20 d21 y0 y1 y2 y3 z0 z1 z2 z3 HF HNX hst HT
        generalize F x = W4 at *
        go_wp2_with fail
        go_roundw
        case rel => exact ⟨k + 1, R, R', by go_num, by have := HLEN.out; simp only [StL.len] at this; omega, HAL.out.2.2, HALL.out, HR.out.1.same HU.out, HR.out.2.1.same HU.out, HR.out.2.2.trans (HU.out.mono HR.out.2.2.size)⟩
        case measure => simp [intOf]; omega
    | .nil, .cons .., hal => exact hal.elim
    | .cons .., .nil, hal => exact hal.elim
theorem SameStmts_any (l : StL) : SsSays l := SameStmts_step l (StL.all_of (fun h b e hb he => ⟨SameStmts_step b hb, SameStmts_step e he⟩) l)
end Go.Proofs.YtommnhglgedflaaGreatDoor
end
section
set_option linter.unusedSimpArgs false
set_option linter.unusedVariables false
namespace Go.Proofs.YtommnhglgedflaaGreatDoor
open Go.RowKit
open Md
namespace Md
def alkD (ln : Bool) : List De → List De → Prop
  | [], [] => True
  | d :: r, d' :: r' => (d' = { d with line := d'.line } ∧ (ln = true → d'.line = d.line)) ∧ alkD ln r r'
  | _, _ => False
def alkT (ln : Bool) : List Th → List Th → Prop
  | [], [] => True
  | t :: r, t' :: r' => ((t'.nm = t.nm ∧ t'.locs = t.locs) ∧ (ln = true → t'.line = t.line) ∧ t.body.Alk ln t'.body) ∧ alkT ln r r'
  | _, _ => False
theorem alkD_len {ln : Bool} : ∀ {l l' : List De}, alkD ln l l' → l'.length = l.length
  | [], [], _ => rfl
  | _ :: _, _ :: _, h => by simp only [List.length_cons]; rw [alkD_len h.2]
  | [], _ :: _, h => h.elim
  | _ :: _, [], h => h.elim
theorem alkT_len {ln : Bool} : ∀ {l l' : List Th}, alkT ln l l' → l'.length = l.length
  | [], [], _ => rfl
  | _ :: _, _ :: _, h => by simp only [List.length_cons]; rw [alkT_len h.2]
  | [], _ :: _, h => h.elim
  | _ :: _, [], h => h.elim
theorem alkD_refl {ln : Bool} : ∀ l : List De, alkD ln l l
  | [] => trivial
  | _ :: r => ⟨⟨rfl, fun _ => rfl⟩, alkD_refl r⟩
theorem alkT_refl {ln : Bool} : ∀ l : List Th, alkT ln l l
  | [] => trivial
  | _ :: r => ⟨⟨⟨rfl, rfl⟩, fun _ => rfl, StL.Alk.refl _⟩, alkT_refl r⟩
/-- Programs that are the same, lines counted or not. -/
def Pr.Alk (ln : Bool) (p p' : Pr) : Prop := alkD ln p.ds p'.ds ∧ alkT ln p.ts p'.ts
theorem Pr.Alk.refl {ln : Bool} (p : Pr) : p.Alk ln p := ⟨alkD_refl _, alkT_refl _⟩
end Md
theorem below_setB {B : Nat} {w w' : World} (h : Below B w w') (a : Addr) (v : Value) (hb : B ≤ a.block) : Below B w (w'.setCell a v) :=
  ⟨h.os, h.tape, h.output, by have := h.size; simpa [World.setCell] using this, fun k hk => (setCell_far w' a v rfl (by omega)).trans (h.block k hk)⟩
def smD6 : Array Value := #[.int .i64 0, .int .i64 0, .string ⟨#[]⟩, .int .i64 0, .int .i64 0, .string ⟨#[]⟩]
def smT4 : Array Value := #[.string ⟨#[]⟩, .int .i64 0, .slice none 0 0, .slice none 0 0]
def smD (d : De) : Array Value := #[.int .i64 d.kind, .int .i64 d.line, .string d.nm, .int .i64 d.size, .int .i64 d.init, .string d.on]
def smT (t : Th) (aol : Option Addr) (capl : Nat) (aob : Option Addr) (capb : Nat) : Array Value := #[.string t.nm, .int .i64 t.line, .slice aol t.locs.length capl, .slice aob t.body.len capb]
theorem smd_cells {w : World} {b : Nat} {d : De} {t : TypeId} {fr : Nat × Nat} (h : w.heap[b]? = some (.cells (smD d) t fr)) : w.cell? ⟨b, 0, none⟩ = some (.int .i64 d.kind) ∧ w.cell? ⟨b, 1, none⟩ = some (.int .i64 d.line) ∧ w.cell? ⟨b, 2, none⟩ = some (.string d.nm) ∧ w.cell? ⟨b, 3, none⟩ = some (.int .i64 d.size) ∧ w.cell? ⟨b, 4, none⟩ = some (.int .i64 d.init) ∧ w.cell? ⟨b, 5, none⟩ = some (.string d.on) :=
  ⟨cellb h rfl, cellb h rfl, cellb h rfl, cellb h rfl, cellb h rfl, cellb h rfl⟩
theorem smd_size : (Tryz.prog.info? 58).map (·.size) = some 6 := by kernel_rfl
theorem smt_size : (Tryz.prog.info? 63).map (·.size) = some 4 := by kernel_rfl
set_option maxHeartbeats 4000000 in
set_option maxRecDepth 100000 in
theorem Same_any (p p' : Pr) (ln : Bool) (w : World) (aoD aoT : Option Addr) (capD capT : Nat) (aoD' aoT' : Option Addr) (capD' capT' : Nat) (hk : p.Alk ln p') (h1 : p.At w aoD aoT) (h2 : p'.At w aoD' aoT') :
    Calls Tryz.prog 15 #[.agg #[.slice aoD p.ds.length capD, .slice aoT p.ts.length capT], .agg #[.slice aoD' p'.ds.length capD', .slice aoT' p'.ts.length capT'], .bool ln] w fun e w' => e = .returned (.bool true) ∧ Below w.heap.size w w' := by
  have hld := h1.1
  have hlt := h1.2.1
  unfold maxLen at hld hlt
  rw [alkD_len hk.1, alkT_len hk.2]
  have HK := Lib.hid hk
  have HP := Lib.hid h1
  have HP' := Lib.hid h2
  clear hk h1 h2
  go_enter Tryz.func15, Tryz.ntmps15
  go_upto_region 1 with fail
  have HX := Lib.hid (((Sit.start w).box2 rfl (.slice aoD p.ds.length capD) (.slice aoT p.ts.length capT) 26).box2 (n := w.heap.size + 1) (by simp) (.slice aoD' p.ds.length capD') (.slice aoT' p.ts.length capT') 26)
  generalize hW : World.alloc (World.alloc w _) _ = W at *
  clear hW
  obtain ⟨-, ⟨-, c0⟩, ⟨-, c1⟩, ⟨-, c2⟩, ⟨-, c3⟩, -⟩ := HX.out
  go_wp2_with fail
  go_loopw [7] (fun s wr => ∃ (k : Nat) (R R' : List De), s = .int .i64 k ∧ k + R.length = p.ds.length ∧ alkD ln R R' ∧ DeAt wr wr.heap.size R aoD k ∧ DeAt wr wr.heap.size R' aoD' k ∧ Sit w wr [(w.heap.size + 1, 0, .slice aoD' p.ds.length capD'), (w.heap.size + 1, 1, .slice aoT' p.ts.length capT'), (w.heap.size, 0, .slice aoD p.ds.length capD), (w.heap.size, 1, .slice aoT p.ts.length capT)]) (fun s _ => p.ds.length - (intOf s).toNat)
  case atStart => exact ⟨0, p.ds, p'.ds, rfl, by simp, HK.out.1, (HP.out.same HX.out.1).2.2.1, (HP'.out.same HX.out.1).2.2.1, HX.out⟩
  case round =>
    obtain ⟨k, R, R', rfl, hlen, hal, hr1, hr2, hsit⟩ := hrel
    have HS := Lib.hid hsit
    clear hsit HX c0 c1 c2 c3
    obtain ⟨-, ⟨-, c0⟩, ⟨-, c1⟩, ⟨-, c2⟩, ⟨-, c3⟩, -⟩ := HS.out
    match R, R', hal with
    | [], [], _ =>
      obtain rfl : k = p.ds.length := by simpa using hlen
      clear hlen hal hr1 hr2
      have hr1 := (HP.out.same HS.out.1).2.2.2
      have hr2 := (HP'.out.same HS.out.1).2.2.2
      go_wp2_with fail
      go_loopw [10] (fun s wr => ∃ (k : Nat) (R R' : List Th), s = .int .i64 k ∧ k + R.length = p.ts.length ∧ alkT ln R R' ∧ ThAt wr wr.heap.size R aoT k ∧ ThAt wr wr.heap.size R' aoT' k ∧ Sit w wr [(w.heap.size + 1, 0, .slice aoD' p.ds.length capD'), (w.heap.size + 1, 1, .slice aoT' p.ts.length capT'), (w.heap.size, 0, .slice aoD p.ds.length capD), (w.heap.size, 1, .slice aoT p.ts.length capT)]) (fun s _ => p.ts.length - (intOf s).toNat)
      case atStart => exact ⟨0, p.ts, p'.ts, rfl, by simp, HK.out.2, hr1, hr2, HS.out⟩
      case round =>
        obtain ⟨k, R, R', rfl, hlen, hal, hr1, hr2, hsit⟩ := hrel
        have HS := Lib.hid hsit
        clear hsit c0 c1 c2 c3
        obtain ⟨-, ⟨-, c0⟩, ⟨-, c1⟩, ⟨-, c2⟩, ⟨-, c3⟩, -⟩ := HS.out
        match R, R', hal with
        | [], [], _ =>
          obtain rfl : k = p.ts.length := by simpa using hlen
          go_wp2_with fail
          go_ret
          exact ⟨rfl, HS.out.1⟩
        | t :: R, t' :: R', hal =>
          obtain ⟨⟨⟨hnm, hlc⟩, hln, hbd⟩, hal⟩ := hal
          obtain ⟨⟨bl, off, aol, capl, aob, capb, rfl, hbl, x0, x1, x2, x3, hok, htx, hbo, -⟩, hq1⟩ := hr1
          obtain ⟨⟨bl2, off2, aol2, capl2, aob2, capb2, rfl, hbl2, y0, y1, y2, y3, hok2, htx2, hbo2, -⟩, hq2⟩ := hr2
          obtain ⟨nm, line, locs, body⟩ := t
          obtain ⟨nm', line', locs', body'⟩ := t'
          dsimp only at x0 x1 x2 x3 y0 y1 y2 y3 hln hnm hlc hbd htx htx2 hbo hbo2
          subst hnm
          subst hlc
          rw [hbd.len] at y3
          have hkl : k < p.ts.length := by simp only [List.length_cons] at hlen; omega
          have hb0 : (0 : Int) ≤ (k : Int) := by omega
          have hb1 : (k : Int) < (p.ts.length : Int) := by omega
          have HR := Lib.hid (And.intro hq1 hq2)
          have HAL := Lib.hid hal
          have HLN := Lib.hid hln
          have HLEN := Lib.hid hlen
          have HOK := Lib.hid (And.intro hok hok2)
          have HTX := Lib.hid (And.intro htx htx2)
          have HBO := Lib.hid (And.intro hbd (And.intro hbo hbo2))
          have hlt0 := HS.out.2.1.1
          have hlt1 := HS.out.2.2.2.1.1
          clear hq1 hq2 hal hln hlen hok hok2 htx htx2 hbo hbo2 hbd hr1 hr2
          go_upto_region 14 with fail
          refine wp_region_ghost (BxC wr 10 smT4 #[.string nm', .int .i64 line, .slice aol locs'.length capl, .slice aob body.len capb] #[.string nm', .int .i64 line', .slice aol2 locs'.length capl2, .slice aob2 body.len capb2] 63) (fun g _ g' _ => Gb.le g g') [60, 61, 62, 63, 64, 65, 66, 67, 68, 69, 11, 12] ⟨none, none, false, false⟩ (by kernel_rfl) (by kernel_rfl) (fun g _ => Gb.le_refl g) (by rfl) BxC.start ?_
          apply ObG.step
          case hobl =>
            intro D A g w' hDn hC hO hD
            have e3 := hO 3 (by rfl)
            simp [Act.eval] at e3
            simp [depsG, IsG, slotv, Act.eval, Region.binds] at hD
            simp [go_sem, gdG, Oper.wp, hD, e3]
            exact WPostG.mk (Gb.le_refl g) (hC.skip _) (IsG.mk _ _ _)
          apply ObG.step
          case hobl =>
            intro D A g w' hDn hC hO hD
            have m0 := (hC.bl.cell (p := ⟨w.heap.size, 1, none⟩) hlt1).trans c3
            simp [depsG, IsG, slotv, Act.eval, Region.binds] at hD
            simp [go_sem, gdG, Oper.wp, hD, m0]
            exact WPostG.mk (Gb.le_refl g) (hC.skip _) (IsG.mk _ _ _)
          apply ObG.step
          case hobl =>
            intro D A g w' hDn hC hO hD
            have e10 := hO 10 (by rfl)
            simp [Act.eval] at e10
            simp [depsG, IsG, slotv, Act.eval, Region.binds] at hD
            simp [go_sem, gdG, Oper.wp, hD, e10]
            exact WPostG.mk (Gb.le_refl g) (hC.skip _) (IsG.mk _ _ _)
          apply ObG.step
          case hobl =>
            intro D A g w' hDn hC hO hD
            simp [depsG, IsG, slotv, Act.eval, Region.binds] at hD
            simp [go_sem, gdG, Oper.wp, hD, hb0, hb1]
            exact WPostG.mk (Gb.le_refl g) (hC.skip _) (IsG.mk _ _ _)
          apply ObG.step
          case hobl =>
            intro D A g w' hDn hC hO hD
            have z0 := (hC.bl.cell (p := ⟨bl, off + k * 4, none⟩) hbl).trans x0
            have z1 := (hC.bl.cell (p := ⟨bl, off + k * 4 + 1, none⟩) hbl).trans x1
            have z2 := (hC.bl.cell (p := ⟨bl, off + k * 4 + 2, none⟩) hbl).trans x2
            have z3 := (hC.bl.cell (p := ⟨bl, off + k * 4 + 3, none⟩) hbl).trans x3
            simp [depsG, IsG, slotv, Act.eval, Region.binds] at hD
            simp [go_sem, gdG, Oper.wp, hD, z0, z1, z2, z3]
            exact WPostG.mk (Gb.le_refl g) (hC.skip _) (IsG.mk _ _ _)
          apply ObG.step
          case hobl =>
            intro D A g w' hDn hC hO hD
            have e4 := hO 4 (by rfl)
            simp [Act.eval] at e4
            simp [depsG, IsG, slotv, Act.eval, Region.binds] at hD
            simp [go_sem, gdG, Oper.wp, hD, e4]
            exact WPostG.mk (Gb.le_refl g) (hC.skip _) (IsG.mk _ _ _)
          apply ObG.step
          case hobl =>
            intro D A g w' hDn hC hO hD
            have m0 := (hC.bl.cell (p := ⟨w.heap.size + 1, 1, none⟩) hlt0).trans c1
            simp [depsG, IsG, slotv, Act.eval, Region.binds] at hD
            simp [go_sem, gdG, Oper.wp, hD, m0]
            exact WPostG.mk (Gb.le_refl g) (hC.skip _) (IsG.mk _ _ _)
          apply ObG.step
          case hobl =>
            intro D A g w' hDn hC hO hD
            have e10 := hO 10 (by rfl)
            simp [Act.eval] at e10
            simp [depsG, IsG, slotv, Act.eval, Region.binds] at hD
            simp [go_sem, gdG, Oper.wp, hD, e10]
            exact WPostG.mk (Gb.le_refl g) (hC.skip _) (IsG.mk _ _ _)
          apply ObG.step
          case hobl =>
            intro D A g w' hDn hC hO hD
            simp [depsG, IsG, slotv, Act.eval, Region.binds] at hD
            simp [go_sem, gdG, Oper.wp, hD, hb0, hb1]
            exact WPostG.mk (Gb.le_refl g) (hC.skip _) (IsG.mk _ _ _)
          apply ObG.step
          case hobl =>
            intro D A g w' hDn hC hO hD
            have z0 := (hC.bl.cell (p := ⟨bl2, off2 + k * 4, none⟩) hbl2).trans y0
            have z1 := (hC.bl.cell (p := ⟨bl2, off2 + k * 4 + 1, none⟩) hbl2).trans y1
            have z2 := (hC.bl.cell (p := ⟨bl2, off2 + k * 4 + 2, none⟩) hbl2).trans y2
            have z3 := (hC.bl.cell (p := ⟨bl2, off2 + k * 4 + 3, none⟩) hbl2).trans y3
            simp [depsG, IsG, slotv, Act.eval, Region.binds] at hD
            simp [go_sem, gdG, Oper.wp, hD, z0, z1, z2, z3]
            exact WPostG.mk (Gb.le_refl g) (hC.skip _) (IsG.mk _ _ _)
          refine ObG.some (fun v g _ => ∃ b, v = .pointer (some ⟨b, 0, none⟩) ∧ g.o8 = some b) (fun v g w g' w' hle h => by obtain ⟨b, h1, h2⟩ := h; exact ⟨b, h1, hle.1 b h2⟩) ?_ ?_
          · intro D A g w' hDn hC hO hD
            simp [go_sem, gdG, Oper.wp]
            have hM := hC.mk8 hDn
            exact WPostG.mk hM.1 hM.2 ⟨_, rfl, rfl⟩
          refine ObG.some (fun v g _ => ∃ b, v = .pointer (some ⟨b, 0, none⟩) ∧ g.o9 = some b) (fun v g w g' w' hle h => by obtain ⟨b, h1, h2⟩ := h; exact ⟨b, h1, hle.2.1 b h2⟩) ?_ ?_
          · intro D A g w' hDn hC hO hD
            simp [go_sem, gdG, Oper.wp]
            have hM := hC.mk9 hDn
            exact WPostG.mk hM.1 hM.2 ⟨_, rfl, rfl⟩
          refine ObG.some (fun _ g _ => g.s8 = true) (fun v g w g' w' hle h => hle.2.2.1 h) ?_ ?_
          · intro D A g w' hDn hC hO hD
            simp [depsG, IsG, slotv, Act.eval, Region.binds] at hD
            obtain ⟨⟨gb, hv, hgb⟩, hx, -⟩ := hD
            simp only [gdG, if_true]
            refine wp_store_mid _ _ _ (by rfl) gb 0 #[.string nm', .int .i64 line, .slice aol locs'.length capl, .slice aob body.len capb] (by simp [Act.eval, hv]) (by simp [Act.eval, hx]) (hC.there8 hDn hgb (Nat.le_refl _)) smt_size (by simp [Value.oneCell']) ?_
            have hF := hC.st8 hDn hgb rfl
            exact WPostG.mk0 hF.1 hF.2 rfl
          refine ObG.some (fun _ g _ => g.s9 = true) (fun v g w g' w' hle h => hle.2.2.2 h) ?_ ?_
          · intro D A g w' hDn hC hO hD
            simp [depsG, IsG, slotv, Act.eval, Region.binds] at hD
            obtain ⟨⟨gb, hv, hgb⟩, hx, -⟩ := hD
            simp only [gdG, if_true]
            refine wp_store_mid _ _ _ (by rfl) gb 0 #[.string nm', .int .i64 line', .slice aol2 locs'.length capl2, .slice aob2 body.len capb2] (by simp [Act.eval, hv]) (by simp [Act.eval, hx]) (hC.there9 hDn hgb (Nat.le_refl _)) smt_size (by simp [Value.oneCell']) ?_
            have hF := hC.st9 hDn hgb rfl
            exact WPostG.mk0 hF.1 hF.2 rfl
          refine ObG.done ?_
          intro D g W hD hC
          simp only [atG, List.nil_append, List.cons_append, List.map_cons, List.map_nil]
          intro x0' h0' x1' h1' x2' h2' x3' h3' x4' h4' x5' h5' x6' h6' x7' h7' x8' h8' x9' h9' x10' h10' x11' h11' x12' h12' x13' h13'
          obtain ⟨g8, rfl, hg8⟩ := h10'
          obtain ⟨g9, rfl, hg9⟩ := h11'
          obtain ⟨hB, hl8, hl9, hne, hb8, hb9⟩ := hC.two hg8 hg9 h12' h13'
          have HSN : Hid (Sit wr W [(g8, 0, .string nm'), (g8, 1, .int .i64 line), (g8, 2, .slice aol locs'.length capl), (g8, 3, .slice aob body.len capb), (g9, 0, .string nm'), (g9, 1, .int .i64 line'), (g9, 2, .slice aol2 locs'.length capl2), (g9, 3, .slice aob2 body.len capb2)]) := Lib.hid (by
            have q8 := (Array.getElem?_eq_some_iff.1 hb8).1
            have q9 := (Array.getElem?_eq_some_iff.1 hb9).1
            exact ⟨hB, ⟨q8, cellb hb8 rfl⟩, ⟨q8, cellb hb8 rfl⟩, ⟨q8, cellb hb8 rfl⟩, ⟨q8, cellb hb8 rfl⟩, ⟨q9, cellb hb9 rfl⟩, ⟨q9, cellb hb9 rfl⟩, ⟨q9, cellb hb9 rfl⟩, ⟨q9, cellb hb9 rfl⟩, trivial⟩)
          have HTT : Hid (∀ W, Below wr.heap.size wr W → Calls Tryz.prog 37 #[.slice aol locs'.length capl, .slice aol2 locs'.length capl2] W fun e w' => e = .returned (.bool true) ∧ Below W.heap.size W w') := Lib.hid (fun W hB => SameTexts_any _ W _ _ _ _ HOK.out.1.2.2.1 (HTX.out.1.same hB) (HTX.out.2.same hB))
          have HSB : Hid (∀ W, Below wr.heap.size wr W → Calls Tryz.prog 38 #[.slice aob body.len capb, .slice aob2 body.len capb2, .bool ln] W fun e w' => e = .returned (.bool true) ∧ Below W.heap.size W w') := Lib.hid (fun W hB => by
            have := SameStmts_any body W aob capb body' aob2 capb2 ln HOK.out.1.2.2.2 HBO.out.1 (HBO.out.2.1.same hB) (HBO.out.2.2.same hB)
            rw [HBO.out.1.len] at this
            exact this)
          clear h0' h1' h2' h3' h4' h5' h6' h7' h8' h9' hC hD hg8 hg9 h12' h13' hB hl8 hl9 hne hb8 hb9 hlt0 hlt1
          clear x0 x1 x2 x3 y0 y1 y2 y3 c0 c1 c2 c3
          refine allG_nil ?_
          go_simp
          obtain ⟨-, ⟨-, c0⟩, ⟨-, c1⟩, ⟨-, c2⟩, ⟨-, c3⟩, ⟨-, c4⟩, ⟨-, c5⟩, ⟨-, c6⟩, ⟨-, c7⟩, -⟩ := HSN.out
          go_upto_region 15 with fail
          go_cut [101] (fun v W' => v = .bool false ∧ Below wr.heap.size wr W')
          case first =>
            cases ln
            all_goals (try (have hl := HLN.out rfl; subst hl))
            all_goals
              go_wp2_with fail
              refine (HTT.out _ HSN.out.1).mono ?_
              rintro e w2 ⟨rfl, hb⟩
              have HS2 := Lib.hid (HSN.out.next hb)
              clear hb c0 c1 c2 c3 c4 c5 c6 c7
              obtain ⟨-, ⟨-, c0⟩, ⟨-, c1⟩, ⟨-, c2⟩, ⟨-, c3⟩, ⟨-, c4⟩, ⟨-, c5⟩, ⟨-, c6⟩, ⟨-, c7⟩, -⟩ := HS2.out
              go_wp2_with fail
              refine (HSB.out _ HS2.out.1).mono ?_
              rintro e w3 ⟨rfl, hb⟩
              have HS3 := Lib.hid (HS2.out.next hb)
              clear hb c0 c1 c2 c3 c4 c5 c6 c7
              go_wp2_with fail
              go_meet
              exact ⟨rfl, HS3.out.1⟩
          obtain ⟨rfl, hB⟩ := hcut
          obtain ⟨W3, rfl⟩ : ∃ W : World, W = wc := ⟨_, rfl⟩
          have HU := Lib.hid hB
          clear hB c0 c1 c2 c3 c4 c5 c6 c7
          go_wp2_with fail
          go_roundw
          case rel => exact ⟨k + 1, R, R', by go_num, by have := HLEN.out; simp only [List.length_cons] at this; omega, HAL.out, HR.out.1.same HU.out, HR.out.2.same HU.out, HS.out.next HU.out⟩
          case measure => simp [intOf]; omega
        | [], _ :: _, hal => exact hal.elim
        | _ :: _, [], hal => exact hal.elim
    | d :: R, d' :: R', hal =>
      obtain ⟨⟨hh, hln⟩, hal⟩ := hal
      obtain ⟨⟨bl, off, rfl, hbl, x0, x1, x2, x3, x4, x5, hok⟩, hq1⟩ := hr1
      obtain ⟨⟨bl2, off2, rfl, hbl2, y0, y1, y2, y3, y4, y5, -⟩, hq2⟩ := hr2
      obtain ⟨line', rfl⟩ : ∃ n, d' = { d with line := n } := ⟨_, hh⟩
      dsimp only at y0 y1 y2 y3 y4 y5 hln
      obtain ⟨kind, line, nm, size, init, on⟩ := d
      dsimp only at x0 x1 x2 x3 x4 x5 y0 y1 y2 y3 y4 y5 hln
      have hkl : k < p.ds.length := by simp only [List.length_cons] at hlen; omega
      have hb0 : (0 : Int) ≤ (k : Int) := by omega
      have hb1 : (k : Int) < (p.ds.length : Int) := by omega
      have HR := Lib.hid (And.intro hq1 hq2)
      have HAL := Lib.hid hal
      have HLN := Lib.hid hln
      have HLEN := Lib.hid hlen
      have HOK := Lib.hid hok
      have hlt0 := HS.out.2.1.1
      have hlt1 := HS.out.2.2.2.1.1
      clear hq1 hq2 hal hln hlen hok hh
      go_upto_region 6 with fail
      refine wp_region_ghost (BxC wr 10 smD6 (smD ⟨kind, line, nm, size, init, on⟩) (smD ⟨kind, line', nm, size, init, on⟩) 58) (fun g _ g' _ => Gb.le g g') [36, 37, 38, 39, 40, 41, 42, 43, 44, 45, 8, 9] ⟨none, none, false, false⟩ (by kernel_rfl) (by kernel_rfl) (fun g _ => Gb.le_refl g) (by rfl) BxC.start ?_
      apply ObG.step
      case hobl =>
        intro D A g w' hDn hC hO hD
        have e3 := hO 3 (by rfl)
        simp [Act.eval] at e3
        simp [depsG, IsG, slotv, Act.eval, Region.binds] at hD
        simp [go_sem, gdG, Oper.wp, hD, e3]
        exact WPostG.mk (Gb.le_refl g) (hC.skip _) (IsG.mk _ _ _)
      apply ObG.step
      case hobl =>
        intro D A g w' hDn hC hO hD
        have m0 := (hC.bl.cell (p := ⟨w.heap.size, 0, none⟩) hlt1).trans c2
        simp [depsG, IsG, slotv, Act.eval, Region.binds] at hD
        simp [go_sem, gdG, Oper.wp, hD, m0]
        exact WPostG.mk (Gb.le_refl g) (hC.skip _) (IsG.mk _ _ _)
      apply ObG.step
      case hobl =>
        intro D A g w' hDn hC hO hD
        have e7 := hO 7 (by rfl)
        simp [Act.eval] at e7
        simp [depsG, IsG, slotv, Act.eval, Region.binds] at hD
        simp [go_sem, gdG, Oper.wp, hD, e7]
        exact WPostG.mk (Gb.le_refl g) (hC.skip _) (IsG.mk _ _ _)
      apply ObG.step
      case hobl =>
        intro D A g w' hDn hC hO hD
        simp [depsG, IsG, slotv, Act.eval, Region.binds] at hD
        simp [go_sem, gdG, Oper.wp, hD, hb0, hb1]
        exact WPostG.mk (Gb.le_refl g) (hC.skip _) (IsG.mk _ _ _)
      apply ObG.step
      case hobl =>
        intro D A g w' hDn hC hO hD
        have z0 := (hC.bl.cell (p := ⟨bl, off + k * 6, none⟩) hbl).trans x0
        have z1 := (hC.bl.cell (p := ⟨bl, off + k * 6 + 1, none⟩) hbl).trans x1
        have z2 := (hC.bl.cell (p := ⟨bl, off + k * 6 + 2, none⟩) hbl).trans x2
        have z3 := (hC.bl.cell (p := ⟨bl, off + k * 6 + 3, none⟩) hbl).trans x3
        have z4 := (hC.bl.cell (p := ⟨bl, off + k * 6 + 4, none⟩) hbl).trans x4
        have z5 := (hC.bl.cell (p := ⟨bl, off + k * 6 + 5, none⟩) hbl).trans x5
        simp [depsG, IsG, slotv, Act.eval, Region.binds] at hD
        simp [go_sem, gdG, Oper.wp, hD, z0, z1, z2, z3, z4, z5]
        exact WPostG.mk (Gb.le_refl g) (hC.skip _) (IsG.mk _ _ _)
      apply ObG.step
      case hobl =>
        intro D A g w' hDn hC hO hD
        have e4 := hO 4 (by rfl)
        simp [Act.eval] at e4
        simp [depsG, IsG, slotv, Act.eval, Region.binds] at hD
        simp [go_sem, gdG, Oper.wp, hD, e4]
        exact WPostG.mk (Gb.le_refl g) (hC.skip _) (IsG.mk _ _ _)
      apply ObG.step
      case hobl =>
        intro D A g w' hDn hC hO hD
        have m0 := (hC.bl.cell (p := ⟨w.heap.size + 1, 0, none⟩) hlt0).trans c0
        simp [depsG, IsG, slotv, Act.eval, Region.binds] at hD
        simp [go_sem, gdG, Oper.wp, hD, m0]
        exact WPostG.mk (Gb.le_refl g) (hC.skip _) (IsG.mk _ _ _)
      apply ObG.step
      case hobl =>
        intro D A g w' hDn hC hO hD
        have e7 := hO 7 (by rfl)
        simp [Act.eval] at e7
        simp [depsG, IsG, slotv, Act.eval, Region.binds] at hD
        simp [go_sem, gdG, Oper.wp, hD, e7]
        exact WPostG.mk (Gb.le_refl g) (hC.skip _) (IsG.mk _ _ _)
      apply ObG.step
      case hobl =>
        intro D A g w' hDn hC hO hD
        simp [depsG, IsG, slotv, Act.eval, Region.binds] at hD
        simp [go_sem, gdG, Oper.wp, hD, hb0, hb1]
        exact WPostG.mk (Gb.le_refl g) (hC.skip _) (IsG.mk _ _ _)
      apply ObG.step
      case hobl =>
        intro D A g w' hDn hC hO hD
        have z0 := (hC.bl.cell (p := ⟨bl2, off2 + k * 6, none⟩) hbl2).trans y0
        have z1 := (hC.bl.cell (p := ⟨bl2, off2 + k * 6 + 1, none⟩) hbl2).trans y1
        have z2 := (hC.bl.cell (p := ⟨bl2, off2 + k * 6 + 2, none⟩) hbl2).trans y2
        have z3 := (hC.bl.cell (p := ⟨bl2, off2 + k * 6 + 3, none⟩) hbl2).trans y3
        have z4 := (hC.bl.cell (p := ⟨bl2, off2 + k * 6 + 4, none⟩) hbl2).trans y4
        have z5 := (hC.bl.cell (p := ⟨bl2, off2 + k * 6 + 5, none⟩) hbl2).trans y5
        simp [depsG, IsG, slotv, Act.eval, Region.binds] at hD
        simp [go_sem, gdG, Oper.wp, hD, z0, z1, z2, z3, z4, z5]
        exact WPostG.mk (Gb.le_refl g) (hC.skip _) (IsG.mk _ _ _)
      refine ObG.some (fun v g _ => ∃ b, v = .pointer (some ⟨b, 0, none⟩) ∧ g.o8 = some b) (fun v g w g' w' hle h => by obtain ⟨b, h1, h2⟩ := h; exact ⟨b, h1, hle.1 b h2⟩) ?_ ?_
      · intro D A g w' hDn hC hO hD
        simp [go_sem, gdG, Oper.wp]
        have hM := hC.mk8 hDn
        exact WPostG.mk hM.1 hM.2 ⟨_, rfl, rfl⟩
      refine ObG.some (fun v g _ => ∃ b, v = .pointer (some ⟨b, 0, none⟩) ∧ g.o9 = some b) (fun v g w g' w' hle h => by obtain ⟨b, h1, h2⟩ := h; exact ⟨b, h1, hle.2.1 b h2⟩) ?_ ?_
      · intro D A g w' hDn hC hO hD
        simp [go_sem, gdG, Oper.wp]
        have hM := hC.mk9 hDn
        exact WPostG.mk hM.1 hM.2 ⟨_, rfl, rfl⟩
      refine ObG.some (fun _ g _ => g.s8 = true) (fun v g w g' w' hle h => hle.2.2.1 h) ?_ ?_
      · intro D A g w' hDn hC hO hD
        simp [depsG, IsG, slotv, Act.eval, Region.binds] at hD
        obtain ⟨⟨gb, hv, hgb⟩, hx, -⟩ := hD
        simp only [gdG, if_true]
        refine wp_store_mid _ _ _ (by rfl) gb 0 (smD ⟨kind, line, nm, size, init, on⟩) (by simp [Act.eval, hv]) (by simp [Act.eval, hx, smD]) (hC.there8 hDn hgb (Nat.le_refl _)) smd_size (by simp [Value.oneCell', smD]) ?_
        have hF := hC.st8 hDn hgb rfl
        exact WPostG.mk0 hF.1 hF.2 rfl
      refine ObG.some (fun _ g _ => g.s9 = true) (fun v g w g' w' hle h => hle.2.2.2 h) ?_ ?_
      · intro D A g w' hDn hC hO hD
        simp [depsG, IsG, slotv, Act.eval, Region.binds] at hD
        obtain ⟨⟨gb, hv, hgb⟩, hx, -⟩ := hD
        simp only [gdG, if_true]
        refine wp_store_mid _ _ _ (by rfl) gb 0 (smD ⟨kind, line', nm, size, init, on⟩) (by simp [Act.eval, hv]) (by simp [Act.eval, hx, smD]) (hC.there9 hDn hgb (Nat.le_refl _)) smd_size (by simp [Value.oneCell', smD]) ?_
        have hF := hC.st9 hDn hgb rfl
        exact WPostG.mk0 hF.1 hF.2 rfl
      refine ObG.done ?_
      intro D g W hD hC
      simp only [atG, List.nil_append, List.cons_append, List.map_cons, List.map_nil]
      intro x0' h0' x1' h1' x2' h2' x3' h3' x4' h4' x5' h5' x6' h6' x7' h7' x8' h8' x9' h9' x10' h10' x11' h11' x12' h12' x13' h13'
      obtain ⟨g8, rfl, hg8⟩ := h10'
      obtain ⟨g9, rfl, hg9⟩ := h11'
      obtain ⟨hB, hl8, hl9, hne, hb8, hb9⟩ := hC.two hg8 hg9 h12' h13'
      have HBX := Lib.hid (And.intro hB (And.intro hl8 (And.intro hl9 (And.intro hne (And.intro hb8 hb9)))))
      clear h0' h1' h2' h3' h4' h5' h6' h7' h8' h9' hC hD hg8 hg9 h12' h13' hB hl8 hl9 hne hb8 hb9 hlt0 hlt1
      clear x0 x1 x2 x3 x4 x5 y0 y1 y2 y3 y4 y5 c0 c1 c2 c3
      refine allG_nil ?_
      go_simp
      cases ln
      · obtain ⟨e0, e1, e2, e3, e4, e5⟩ := smd_cells HBX.out.2.2.2.2.1
        obtain ⟨u0, u1, u2, u3, u4, u5⟩ := smd_cells HBX.out.2.2.2.2.2
        have f1 : W.frozen? ⟨g8, 1, none⟩ = false := free_blk HBX.out.2.2.2.2.1
        have f2 : W.frozen? ⟨g9, 1, none⟩ = false := free_blk HBX.out.2.2.2.2.2
        have hne := HBX.out.2.2.2.1
        have hne' := hne.symm
        go_upto_region 9 with fail
        generalize hW' : World.setCell (World.setCell W _ _) _ _ = W'
        have HB' : Hid (Below wr.heap.size W W' ∧ W'.heap[g8]? = some (.cells (smD ⟨kind, 0, nm, size, init, on⟩) 58 (0, 0)) ∧ W'.heap[g9]? = some (.cells (smD ⟨kind, 0, nm, size, init, on⟩) 58 (0, 0))) := Lib.hid (by
          rw [← hW']
          have q1 : (W.setCell ⟨g8, 1, none⟩ (.int .i64 0)).heap[g9]? = some (.cells (smD ⟨kind, line', nm, size, init, on⟩) 58 (0, 0)) := (setCell_far W ⟨g8, 1, none⟩ _ rfl (by show g8 ≠ g9; exact hne)).trans HBX.out.2.2.2.2.2
          exact ⟨below_setB (below_setB (Below.refl _ _) _ _ HBX.out.2.1) _ _ HBX.out.2.2.1, by rw [setCell_far _ ⟨g9, 1, none⟩ _ rfl (show g9 ≠ g8 from hne'), setCell_blk HBX.out.2.2.2.2.1]; rfl, by rw [setCell_blk q1]; rfl⟩)
        clear hW' e0 e1 e2 e3 e4 e5 u0 u1 u2 u3 u4 u5 f1 f2 hne hne'
        obtain ⟨e0, e1, e2, e3, e4, e5⟩ := smd_cells HB'.out.2.1
        obtain ⟨u0, u1, u2, u3, u4, u5⟩ := smd_cells HB'.out.2.2
        dsimp only at e0 e1 e2 e3 e4 e5 u0 u1 u2 u3 u4 u5
        have HU : Hid (Below wr.heap.size wr W') := Lib.hid (HBX.out.1.trans HB'.out.1)
        go_wp2_with fail
        go_roundw
        case rel => exact ⟨k + 1, R, R', by go_num, by have := HLEN.out; simp only [List.length_cons] at this; omega, HAL.out, HR.out.1.same HU.out, HR.out.2.same HU.out, HS.out.next HU.out⟩
        case measure => simp [intOf]; omega
      · have hl := HLN.out rfl
        subst hl
        obtain ⟨e0, e1, e2, e3, e4, e5⟩ := smd_cells HBX.out.2.2.2.2.1
        obtain ⟨u0, u1, u2, u3, u4, u5⟩ := smd_cells HBX.out.2.2.2.2.2
        dsimp only at e0 e1 e2 e3 e4 e5 u0 u1 u2 u3 u4 u5
        have HU : Hid (Below wr.heap.size wr W) := Lib.hid HBX.out.1
        go_wp2_with fail
        go_roundw
        case rel => exact ⟨k + 1, R, R', by go_num, by have := HLEN.out; simp only [List.length_cons] at this; omega, HAL.out, HR.out.1.same HU.out, HR.out.2.same HU.out, HS.out.next HU.out⟩
        case measure => simp [intOf]; omega
    | [], _ :: _, hal => exact hal.elim
    | _ :: _, [], hal => exact hal.elim
end Go.Proofs.YtommnhglgedflaaGreatDoor
end
