/- A region that draws its order, whose operations may make memory and call functions that write: whatever the order, what each operation yields has a property that stays. No program in sight. And what hangs on it. -/
import Derived.Test.YtgjmahnblcajbaaGreatDoorGMA
import Derived.Deep.AppendLies
import Derived.Deep.MidRow
set_option linter.unusedSimpArgs false
set_option linter.unusedVariables false
set_option maxHeartbeats 40000000
set_option maxRecDepth 1000000
namespace Go.Proofs.YtgjmahnblcajbaaGreatDoor
section
open Go.RowKit
abbrev RP:=Value->World->Prop
def eU (a:Act):Option Tmp->Value
 | none=>undef
 | some d=>a.eval (.tmp d)
def IB (ents:List (Option Tmp × RP)) (A:Act) (w:World):List Edge->Prop
 | []=>True
 | e ::r=>(if Region.binds .any e=true then (match ents[e.on]? with | some (d,R)=>R (eU A d) w | none=>True) else True)∧IB ents A w r
def gd (ents:List (Option Tmp × RP)) (A:Act) (o:Oper):Bool:=
 match o.guard with
 | none=>true
 | some (g,b)=>match ents[g]? with
   | some (some d,_)=>match A.eval (.tmp d) with
     | .bool x=>x == b
     | _=>false
   | _=>false
def aI (C:World->Prop) (Le:World->World->Prop) (R:RP) (A:Act) (dst:Option Tmp) (w:World) (a':Act) (w':World):Prop:=
 ∃v,a'=A.put dst v∧Le w w'∧C w'∧R (if dst.isSome then v else undef) w'
theorem aI.mk {C:World->Prop} {Le:World->World->Prop} {R:RP} {A:Act} {d:Tmp} {w w':World} {v:Value} (hle:Le w w') (hC:C w') (hR:R v w'):aI C Le R A (some d) w (A.put (some d) v) w':=⟨v,rfl,hle,hC,hR⟩
theorem aI.LC {C:World->Prop} {Le:World->World->Prop} {R:RP} {A:Act} {w w':World} {v:Value} (hle:Le w w') (hC:C w') (hR:R undef w'):aI C Le R A none w (A.put none v) w':=⟨v,rfl,hle,hC,hR⟩
def Tx (P:Program) (a0:Act) (Q:Exit->Act->World->Prop) (C:Bool->World->Prop) (Le:World->World->Prop) (dD:List Tmp) (ents:List (Option Tmp × RP)) (o:Oper) (R:RP) (isK:Bool):Prop:=
 ∀β A w,(isK=true->β=false)->C β w->(∀s,dD.contains s=false->A.eval (.tmp s)=a0.eval (.tmp s))->IB ents A w o.after.toList->
  if gd ents A o then o.wp P A w (aI (C (β || isK)) Le R A o.dst w) Q else (isK=false∧R undef w)
def bG (c:Value):RP:=fun v _=>v=c
theorem bG.mono {c:Value} {Le:World->World->Prop} : ∀v w w',Le w w'->bG c v w->bG c v w':=fun _ _ _ _ h=>h
theorem bG.mk (c:Value) (w:World):bG c c w:=rfl
def eu (w:World) (K:Act->Prop):List (Option Tmp × RP)->Act->Prop
 | [],a=>K a
 | (d,R) ::r,a=> ∀v,R v w->eu w K r (a.put d v)
theorem Er {w:World} {K:Act->Prop} {a:Act} {d:Option Tmp} {x:Value} {r:List (Option Tmp × RP)} (h:eu w K r (a.put d x)):eu w K ((d,bG x) ::r) a:=fun v hv=>by
 rw [show v=x from hv]; exact h
attribute [simp] IB bG eU Region.binds
def dA (P:Program) (a0:Act) (Q:Exit->Act->World->Prop) (C:Bool->World->Prop) (Le:World->World->Prop) (dD:List Tmp) (k0:Nat):List Oper->List (Option Tmp × RP)->Prop
 | [],ents=> ∀w,C (decide (k0 < ents.length)) w->eu w (fun a=>Q .normal a w) ents a0
 | o ::rest,ents=> ∃R:RP,(∀v w w',Le w w'->R v w->R v w')∧Tx P a0 Q C Le dD ents o R (decide (ents.length=k0))∧dA P a0 Q C Le dD k0 rest (ents++[(o.dst,R)])
section
variable {P:Program} {a0:Act} {Q:Exit->Act->World->Prop} {C:Bool->World->Prop} {Le:World->World->Prop} {dD:List Tmp} {k0:Nat}
theorem dA.full: ∀ {l:List Oper} {ents:List (Option Tmp × RP)},dA P a0 Q C Le dD k0 l ents-> ∃full:List (Option Tmp × RP),full.length=ents.length + l.length∧full.take ents.length=ents∧
 (∀(i:Nat) (o:Oper),l[i]? =some o-> ∃R,full[ents.length + i]? =some (o.dst,R)∧(∀v w w',Le w w'->R v w->R v w')∧Tx P a0 Q C Le dD (full.take (ents.length + i)) o R (decide (ents.length + i=k0)))∧
 ∀w,C (decide (k0 < full.length)) w->eu w (fun a=>Q .normal a w) full a0
 | [],ents,h=>⟨ents,by simp,by simp,by simp,h⟩
 | o ::rest,ents,h=>by
   obtain ⟨R,hm,ho,hr⟩:=h;obtain ⟨full,h1,h2,h3,h4⟩:=dA.full hr;simp only [List.length_append,List.length_cons,List.length_nil,Nat.zero_add] at h1 h2 h3;have hlen:ents.length < full.length:=by omega
   have hget:full[ents.length]? =some (o.dst,R):=by have:=congrArg (fun l=>l[ents.length]?) h2;simpa using this
   refine ⟨full,by simp; omega,?_,?_,h4⟩
   ·have:=congrArg (List.take ents.length) h2;simpa [List.take_take] using this
   ·intro i o' hi;cases i with
    | zero=>simp only [List.getElem?_cons_zero,Option.some.injEq] at hi;subst hi;refine ⟨R,by simpa using hget,hm,?_⟩;have:full.take (ents.length + 0)=ents:=(by have:=congrArg (List.take ents.length) h2;simpa [List.take_take] using this);rw [this]; exact ho
    | succ i=>have hi':rest[i]? =some o':=(by simpa using hi);have:=h3 i o' hi';rw [show ents.length + (i + 1)=ents.length + 1 + i by omega];exact this
theorem dA.step {o:Oper} {rest:List Oper} {ents:List (Option Tmp × RP)} {v:Value} (aP:Tx P a0 Q C Le dD ents o (bG v) (decide (ents.length=k0))) (hrest:dA P a0 Q C Le dD k0 rest (ents++[(o.dst,bG v)])):dA P a0 Q C Le dD k0 (o ::rest) ents:=
 ⟨bG v,bG.mono,aP,hrest⟩
theorem dA.some {o:Oper} {rest:List Oper} {ents:List (Option Tmp × RP)} (R:RP) (hmono: ∀v w w',Le w w'->R v w->R v w') (aP:Tx P a0 Q C Le dD ents o R (decide (ents.length=k0))) (hrest:dA P a0 Q C Le dD k0 rest (ents++[(o.dst,R)])):dA P a0 Q C Le dD k0 (o ::rest) ents:=
 ⟨R,hmono,aP,hrest⟩
theorem eu.use {w:World} {K:Act->Prop} {a':Act} : ∀ {ents:List (Option Tmp × RP)} {a:Act},eu w K ents a->(∀(i:Nat) (d:Option Tmp) (R:RP),ents[i]? =some (d,R)->R (eU a' d) w)->
 a'.defers=a.defers->a'.tmps.size=a.tmps.size->(∀s:Nat,(∀(i:Nat) (d:Tmp) (R:RP),ents[i]? =some (some d,R)->d≠s)->a'.tmps[s]? =a.tmps[s]?)->K a'
 | [],a,h,_,hd,_,hs=>by
   have e:a'=a:=by cases a'; cases a;simp only at hd hs ⊢;congr 1;exact Array.ext_getElem? (fun s=>hs s (by simp))
   rw [e]; exact h
 | (d,R) ::r,a,h,hR,hd,hz,hs=>by
   have h1:=h (eU a' d) (hR 0 d R rfl);refine eu.use h1 (fun i d' R' hi=>hR (i + 1) d' R' (by simpa using hi)) ?_ ?_ ?_
   ·cases d <;> simpa [Act.put] using hd
   ·cases d <;> simpa [Act.put] using hz
   ·intro s hne;cases d with
    | none=>exact hs s (fun i d' R' hi=>by
     cases i with
     | zero=>simp at hi
     | succ i=>exact hne i d' R' (by simpa using hi))
    | some d=>
      by_cases hds:d=s
      ·subst hds;simp only [Act.put,eU,Act.eval];by_cases hlt:d < a.tmps.size
       ·have hlt':d < a'.tmps.size:=(by rw [hz]; exact hlt);rw [Array.getElem?_setIfInBounds_self_of_lt hlt];simp [Array.getElem?_eq_getElem hlt']
       ·have hge:a.tmps.size<=d:=Nat.le_of_not_lt hlt;rw [Array.getElem?_eq_none (by rw [hz]; exact hge),Array.getElem?_eq_none (by rw [Array.size_setIfInBounds]; exact hge)]
      ·rw [hs s (fun i d' R' hi=>by
        cases i with
        | zero=>simp at hi; rw [<- hi.1]; exact hds
        | succ i=>exact hne i d' R' (by simpa using hi))]
       simp [Act.put,Array.getElem?_setIfInBounds_ne hds]
def cnt (listed:Array Bool):Nat->Nat
 | 0=>0
 | k + 1=>cnt listed k + if listed.getD k false then 0 else 1
theorem Fj {listed:Array Bool} {i:Nat} (hi:i < listed.size) (hu:listed.getD i false=false): ∀n,cnt (listed.setIfInBounds i true) n + (if i < n then 1 else 0)=cnt listed n
 | 0=>by simp [cnt]
 | n + 1=>by
   have ih:=Fj hi hu n;simp only [cnt];by_cases hin:i=n
   ·subst hin;have h1:(listed.setIfInBounds i true).getD i false=true:=by simp [hi]
    rw [h1,hu];simp only [Nat.lt_irrefl,if_false] at ih;simp; omega
   ·rw [getD_set_ne false hin];by_cases hlt:i < n
    ·have h2:i < n + 1:=(by omega);simp only [hlt,if_true] at ih; simp only [h2,if_true]; omega
    ·have h2: ¬ i < n + 1:=(by omega);simp only [hlt,if_false] at ih; simp only [h2,if_false]; omega
theorem CY {listed:Array Bool} : ∀ {n:Nat},cnt listed n=0-> ∀i,i < n->listed.getD i false=true
 | 0,_,_,hi=>absurd hi (by omega)
 | n + 1,h,i,hi=>by
   simp only [cnt] at h;by_cases hin:i=n
   ·subst hin; cases hg:listed.getD i false
    ·rw [hg] at h; simp at h
    ·rfl
   ·exact CY (n:=n) (by omega) i (by omega)
def SE (dD:List Tmp) (l:List Oper):Bool:=
 (l.filterMap (·.dst) == dD) && decide dD.Nodup && (l.zipIdx.all fun x=>(x.1.after.all fun e=>decide (e.on < x.2)) && (match x.1.guard with | none=>true | some (g,_)=>decide (g < x.2)))
theorem AV: ∀ {l:List Oper},(l.filterMap (·.dst)).Nodup-> ∀(i j:Nat) (oi oj:Oper) (d:Tmp),l[i]? =some oi->l[j]? =some oj->oi.dst=some d->oj.dst=some d->i=j
 | [],_,i,_,_,_,_,h,_,_,_=>by simp at h
 | o ::r,hn,i,j,oi,oj,d,hi,hj,hdi,hdj=>by
   have key: ∀(k:Nat) (ok:Oper),r[k]? =some ok->ok.dst=some d->o.dst=some d->False:=fun k ok hk hdk ho=>by rw [List.filterMap_cons_some ho] at hn;exact (List.nodup_cons.1 hn).1 (List.mem_filterMap.2 ⟨ok,List.mem_of_getElem? hk,hdk⟩)
   have hn':(r.filterMap (·.dst)).Nodup:=by
    cases ho:o.dst with
    | none=>rwa [List.filterMap_cons_none ho] at hn
    | some d'=>rw [List.filterMap_cons_some ho] at hn; exact (List.nodup_cons.1 hn).2
   cases i with
   | zero=>
     cases j with
     | zero=>rfl
     | succ j=>simp only [List.getElem?_cons_zero,Option.some.injEq,List.getElem?_cons_succ] at hi hj;subst hi;exact (key j oj hj hdj hdi).elim
   | succ i=>
     cases j with
     | zero=>simp only [List.getElem?_cons_zero,Option.some.injEq,List.getElem?_cons_succ] at hi hj;subst hj;exact (key i oi hi hdi hdj).elim
     | succ j=>simp only [List.getElem?_cons_succ] at hi hj;rw [AV hn' i j oi oj d hi hj hdi hdj]
theorem JM {full:List (Option Tmp × RP)} {A:Act} {w:World} {i:Nat} : ∀ {l:List Edge},(∀e ∈ l,Region.binds .any e=true-> ∀(d:Option Tmp) (R:RP),full[e.on]? =some (d,R)->R (eU A d) w)->IB (full.take i) A w l
 | [],_=>trivial
 | e ::r,h=>by
   refine ⟨?_,JM fun e' he'=>h e' (by simp [he'])⟩;split
   case isFalse=>trivial
   case isTrue hb=>
   cases hg:(full.take i)[e.on]? with
   | none=>trivial
   | some x=>
     obtain ⟨d,R⟩:=x;rw [List.getElem?_take] at hg;split at hg
     ·exact h e (by simp) hb d R hg
     ·cases hg
def ag3 (a0:Act) (C:Bool->World->Prop) (k0:Nat) (full:List (Option Tmp × RP)) (n:Nat) (listed:Array Bool) (a:Act) (w:World):Prop:=
 listed.size=n∧C (listed.getD k0 false) w∧a.defers=a0.defers∧a.tmps.size=a0.tmps.size∧
 (∀s:Nat,(∀(i:Nat) (d:Tmp) (R:RP),full[i]? =some (some d,R)->listed.getD i false=true->d≠s)->a.tmps[s]? =a0.tmps[s]?)∧
 ∀(i:Nat) (d:Option Tmp) (R:RP),full[i]? =some (d,R)->listed.getD i false=true->R (eU a d) w
theorem Vj {ops:Array Oper} {full:List (Option Tmp × RP)} {o:Oper} {A:Act} {i:Nat} (hf: ∀(k:Nat) (ok:Oper),ops[k]? =some ok-> ∃R,full[k]? =some (ok.dst,R)) (hlen:full.length=ops.size)
 (hg: ∀g b,o.guard=some (g,b)->g < i):Region.wanted o (yielded ops A.tmps)=gd (full.take i) A o:=by
 unfold Region.wanted gd;cases ho:o.guard with
 | none=>rfl
 | some x=>
   obtain ⟨g,b⟩:=x;have hgi:=hg g b ho;simp only;rw [List.getElem?_take,if_pos hgi];unfold yielded;cases hk:ops[g]? with
   | none=>have:full[g]? =none:=List.getElem?_eq_none (by rw [hlen]; exact Array.getElem?_eq_none_iff.1 hk);rw [this]; rfl
   | some ok=>
     obtain ⟨R,hR⟩:=hf g ok hk;rw [hR];simp only [Option.bind_some];cases hd:ok.dst with
     | none=>rfl
     | some d=>
       simp only [Option.bind_some,Act.eval];cases ht:A.tmps[d]? with
       | none=>simp [ht,undef]
       | some v=>simp only [Array.getD_eq_getD_getElem?,ht,Option.getD_some];cases v <;> first | rfl | (rename_i x; cases x <;> cases b <;> rfl)
theorem XF {l:List Oper} {full:List (Option Tmp × RP)} (Co: ∀w,Le w w) (hbd: ∀d ∈ dD,d < a0.tmps.size) (hlen:full.length=l.length) (hnd:(l.filterMap (·.dst)).Nodup) (qp:l.filterMap (·.dst)=dD)
 (hed: ∀(i:Nat) (o:Oper),l[i]? =some o-> ∀e ∈ o.after,e.on < i) (hgu: ∀(i:Nat) (o:Oper),l[i]? =some o-> ∀g b,o.guard=some (g,b)->g < i)
 (hf: ∀(i:Nat) (o:Oper),l[i]? =some o-> ∃R,full[i]? =some (o.dst,R)∧(∀v w w',Le w w'->R v w->R v w')∧Tx P a0 Q C Le dD (full.take i) o R (decide (i=k0)))
 (hend: ∀w,C (decide (k0 < l.length)) w->eu w (fun a=>Q .normal a w) full a0):
 ∀(fuel:Nat) (listed:Array Bool) (a:Act) (w:World),cnt listed l.length<=fuel->ag3 a0 C k0 full l.length listed a w->wpAny P .any l.toArray Q fuel listed a w:=by
 have hmono: ∀(i:Nat) (d:Option Tmp) (R:RP),full[i]? =some (d,R)-> ∀v w w',Le w w'->R v w->R v w':=fun i d R hi=>by
  have hlt:i < l.length:=by rw [<- hlen]; exact (List.getElem?_eq_some_iff.1 hi).1
  obtain ⟨R',h1,h2,-⟩:=hf i l[i] (List.getElem?_eq_getElem hlt);rw [hi] at h1;simp only [Option.some.injEq,Prod.mk.injEq] at h1;rw [h1.2]; exact h2
 have hdst: ∀(i:Nat) (d:Option Tmp) (R:RP),full[i]? =some (d,R)-> ∃o,l[i]? =some o∧o.dst=d:=fun i d R hi=>by
  have hlt:i < l.length:=by rw [<- hlen]; exact (List.getElem?_eq_some_iff.1 hi).1
  obtain ⟨R',h1,-⟩:=hf i l[i] (List.getElem?_eq_getElem hlt);rw [hi] at h1;simp only [Option.some.injEq,Prod.mk.injEq] at h1;exact ⟨l[i],List.getElem?_eq_getElem hlt,h1.1.symm⟩
 have hall: ∀listed a w,ag3 a0 C k0 full l.length listed a w->(∀i,i < l.length->listed.getD i false=true)->Q .normal a w:=fun listed a w hI ha=>by
  obtain ⟨hsz0,hC,hd,hz,hs,hR⟩:=hI;have hk:listed.getD k0 false=decide (k0 < l.length):=by
   by_cases h:k0 < l.length
   ·rw [ha k0 h,decide_eq_true h]
   ·have hsz:listed.size=l.length:=(by assumption);rw [decide_eq_false h]; simp [Array.getElem?_eq_none (show listed.size<=k0 by omega)]
  rw [hk] at hC;refine (hend w hC).use (fun i d R hi=>hR i d R hi (ha i ?_)) hd hz (fun s hne=>hs s (fun i d R hi _=>hne i d R hi));rw [<- hlen]; exact (List.getElem?_eq_some_iff.1 hi).1
 have EK: ∀listed:Array Bool,listed.size=l.length->Region.ready .any l.toArray listed=[]-> ∀i,i < l.length->listed.getD i false=true:=fun listed hsz hr i=>by
  induction i using Nat.strongRecOn with
  | _ i ih=>
    intro hi;cases hg:listed.getD i false with
    | true=>rfl
    | false=>exfalso;have:i ∈ Region.ready .any l.toArray listed:=mem_ready.2 ⟨by have h1:i < listed.size:=(by omega);simp [h1] at hg ⊢; exact hg,l[i],by simp [hi],fun e he _=>ih e.on (hed i l[i] (List.getElem?_eq_getElem hi) e he) (by have:=hed i l[i] (List.getElem?_eq_getElem hi) e he; omega)⟩;rw [hr] at this; cases this
 intro fuel
 induction fuel with
 | zero=>
   intro listed a w hc hI;have ha:=CY (Nat.le_zero.1 hc);refine ⟨?_,hall listed a w hI ha⟩;rw [List.eq_nil_iff_forall_not_mem];intro i hi;obtain ⟨h0,o,ho,-⟩:=mem_ready.1 hi;have hlt:i < l.length:=by simpa using (Array.getElem?_eq_some_iff.1 ho).1
   have:=ha i hlt;have h1:i < listed.size:=by rw [hI.1]; exact hlt
   simp [h1] at h0 this; rw [h0] at this; cases this
 | succ fuel ih=>
   intro listed a w hc hI;refine ⟨fun hr=>hall listed a w hI (EK listed hI.1 hr),fun i hi=> ?_⟩;obtain ⟨h0,o,ho,Bp⟩:=mem_ready.1 hi;have hlt:i < l.length:=by simpa using (Array.getElem?_eq_some_iff.1 ho).1
   have hlo:l[i]? =some o:=by simpa using ho
   have hls:i < listed.size:=by rw [hI.1]; exact hlt
   have hun:listed.getD i false=false:=by simp [hls] at h0 ⊢; exact h0
   obtain ⟨R,FT,hRm,Uk⟩:=hf i o hlo;obtain ⟨hsz,hC,hd,hz,hs,hR⟩:=hI;have hW:=Vj (A:=a) (o:=o) (i:=i) (ops:=l.toArray) (full:=full) (fun k ok hk=>by obtain ⟨R',h1,-⟩:=hf k ok (by simpa using hk);exact ⟨R',h1⟩) (by simpa using hlen) (hgu i o hlo);have hstep:=Uk (listed.getD k0 false) a w (fun hk=>by rw [<- of_decide_eq_true hk]; exact hun) hC (fun s hs'=>by have:a.tmps[s]? =a0.tmps[s]?:=hs s (fun k d R' hk _ e=>by obtain ⟨ok,hok,hdk⟩:=hdst k (some d) R' hk;have:d ∈ dD:=(by rw [<- qp]; exact List.mem_filterMap.2 ⟨ok,List.mem_of_getElem? hok,hdk⟩);rw [e] at this;simp at hs';exact hs' this);simp [Act.eval,this]) (JM (fun e he hb d R' hR'=>hR e.on d R' hR' (Bp e (by simpa using he) hb)));have hnext: ∀(v:Value) (w':World),Le w w'->C (listed.getD k0 false || decide (i=k0)) w'->R (eU (a.put o.dst v) o.dst) w'->wpAny P .any l.toArray Q fuel (listed.setIfInBounds i true) (a.put o.dst v) w':=fun v w' hle hC' hv=>by
    refine ih _ _ _ ?_ ⟨by simp [hsz],?_,?_,?_,?_,?_⟩
    rotate_left
    ·have:(listed.setIfInBounds i true).getD k0 false=(listed.getD k0 false || decide (i=k0)):=by
      by_cases hk:i=k0
      ·subst hk; simp [hls]
      ·rw [getD_set_ne false hk,decide_eq_false hk,Bool.or_false]
     rw [this]; exact hC'
    rotate_right
    ·have:=Fj hls hun l.length;rw [if_pos hlt] at this;omega
    ·cases o.dst <;> simpa [Act.put] using hd
    ·cases o.dst <;> simpa [Act.put] using hz
    ·intro s hne;have h1:a.tmps[s]? =a0.tmps[s]?:=hs s (fun k d R' hk hl=>hne k d R' hk (getD_set_true hl));cases hod:o.dst with
     | none=>simpa [Act.put] using h1
     | some d=>have hds:d≠s:=hne i d R (by rw [FT,hod]) (by simp [hls]);simp only [Act.put];rw [Array.getElem?_setIfInBounds_ne hds]; exact h1
    ·intro k d R' hk hl;by_cases hik:i=k
     ·subst hik;rw [FT] at hk;simp only [Option.some.injEq,Prod.mk.injEq] at hk;obtain ⟨rfl,rfl⟩:=hk;exact hv
     ·have hl':listed.getD k false=true:=(by rwa [getD_set_ne false hik] at hl);have h1:=hmono k d R' hk _ _ _ hle (hR k d R' hk hl');have:eU (a.put o.dst v) d=eU a d:=by
       cases hod:o.dst with
       | none=>rfl
       | some d1=>
         cases d with
         | none=>rfl
         | some d2=>
           have hne:d1≠d2:=fun e=>by obtain ⟨ok,hok,hdk⟩:=hdst k (some d2) R' hk;exact hik (AV hnd i k o ok d2 hlo hok (by rw [hod,e]) hdk)
           simp [eU,Act.eval,Act.put,Array.getElem?_setIfInBounds_ne hne]
      rw [this]; exact h1
   unfold wpOp;simp only [ho];rw [hW];cases hgd:gd (full.take i) a o with
   | true=>
     rw [hgd] at hstep;simp only [if_true] at hstep ⊢;refine Or.inl (Oper.wp_mono ?_ hstep);rintro a' w' ⟨v,rfl,hle,hC',hv⟩;refine hnext v w' hle hC' ?_;cases hod:o.dst with
     | none=>rw [hod] at hv; exact hv
     | some d=>rw [hod] at hv;simp only [Option.isSome_some,if_true] at hv;have hdl:d < a.tmps.size:=(by rw [hz]; exact hbd d (by rw [<- qp]; exact List.mem_filterMap.2 ⟨o,List.mem_of_getElem? hlo,hod⟩));simpa [eU,Act.eval,Act.put,hdl] using hv
   | false=>
     rw [hgd] at hstep;simp only [Bool.false_eq_true,if_false] at hstep ⊢;refine hnext undef w (Co w) (by rw [hstep.1,Bool.or_false]; exact hC) ?_;cases hod:o.dst with
     | none=>exact hstep.2
     | some d=>have hdl:d < a.tmps.size:=(by rw [hz]; exact hbd d (by rw [<- qp]; exact List.mem_filterMap.2 ⟨o,List.mem_of_getElem? hlo,hod⟩));simpa [eU,Act.eval,Act.put,hdl] using hstep.2
theorem uI {f:Oper × Nat->Bool} {l:List Oper} (h:l.zipIdx.all f=true) (i:Nat) (o:Oper) (hi:l[i]? =some o):f (o,i)=true:=by
 rw [List.all_eq_true] at h;refine h (o,i) (List.mem_of_getElem? (i:=i) ?_);rw [List.getElem?_zipIdx,hi]; simp
theorem vQ {id:Nat} {l:List Oper} {w:World} (k0:Nat) (C:Bool->World->Prop) (Le:World->World->Prop) (dD:List Tmp) (hm:P.follows .mixedOrders=true) (hB:SE dD l=true) (Co: ∀w,Le w w) (hbd:(dD.all fun d=>decide (d < a0.tmps.size))=true) (hC:C false (w.drewN 1))
 (h:dA P a0 Q C Le dD k0 l []):(Code.region id l.toArray true).wp P Q a0 w:=by
 unfold SE at hB;simp only [Bool.and_eq_true,beq_iff_eq,decide_eq_true_eq] at hB;obtain ⟨⟨qp,hnd⟩,hz⟩:=hB;obtain ⟨full,h1,-,h3,h4⟩:=h.full;simp only [List.length_nil,Nat.zero_add] at h1 h3;have hed: ∀(i:Nat) (o:Oper),l[i]? =some o->(∀e ∈ o.after,e.on < i)∧ ∀g b,o.guard=some (g,b)->g < i:=fun i o hi=>by have:=uI hz i o hi;simp only [Bool.and_eq_true,Array.all_eq_true_iff_forall_mem,decide_eq_true_eq] at this;refine ⟨this.1,fun g b hg=> ?_⟩;have h2:=this.2;rw [hg] at h2;simpa using h2
 refine wp_region_any hm ?_;have hdr:({w with drawn:=w.drawn + 1} :World)=w.drewN 1:=rfl;rw [hdr];refine XF Co (fun d hd=>by rw [List.all_eq_true] at hbd; simpa using hbd d hd) h1 (by rw [qp]; exact hnd) qp (fun i o hi=>(hed i o hi).1) (fun i o hi=>(hed i o hi).2) h3 (by rw [<- h1]; exact h4) _ _ _ _ ?_ ⟨by simp,by rw [show (Array.replicate l.toArray.size false).getD k0 false=false by (rw [Array.getD_eq_getD_getElem?]; by_cases hk:k0 < l.length <;> simp [hk])]; exact hC,rfl,rfl,fun _ _=>rfl,fun i d R _ hl=> ?_⟩
 ·have: ∀n,cnt (Array.replicate l.toArray.size false) n<=n:=fun n=>by
   induction n with
   | zero=>simp [cnt]
   | succ n ih=>simp only [cnt]; split <;> omega
  simpa using this l.length
 ·exfalso;rw [Array.getD_eq_getD_getElem?] at hl;by_cases hi:i < l.length
  ·simp [hi] at hl
  ·rw [Array.getElem?_eq_none (by simpa using hi)] at hl; cases hl
theorem ow {id:Nat} {l:List Oper} {w:World} (C:World->Prop) (Le:World->World->Prop) (dD:List Tmp) (hm:P.follows .mixedOrders=true) (hB:SE dD l=true) (Co: ∀w,Le w w) (hbd:(dD.all fun d=>decide (d < a0.tmps.size))=true) (hC:C (w.drewN 1))
 (h:dA P a0 Q (fun _=>C) Le dD 1000000 l []):(Code.region id l.toArray true).wp P Q a0 w:=vQ 1000000 (fun _=>C) Le dD hm hB Co hbd hC h
end
end
open Go.RowKit
def kR (o:Oper):List Nat:=(o.after.toList.filter (Region.binds .any)).map (·.on)
def R6 (l:List Oper) (oD:List (List Nat)):Bool:=l.zipIdx.all fun x=>(oD.getD x.2 []).all fun k=>(kR x.1).any fun d=>d == k || (oD.getD d []).contains k
def okB:List (Option Bool)->List Bool->Prop
 | some x ::r,b ::bs=>b=x∧okB r bs
 | none ::r,_ ::bs=>okB r bs
 | [],[]=>True
 | _,_=>False
def jD:List Nat->List Bool->Nat->List Bool
 | x ::r,b ::bs,i=>(b || x == i) ::jD r bs i
 | _,_,_=>[]
def VR (n:Nat) (ws:List Nat) (oD:List (List Nat)) (bnd:List (List (Option Bool))):Bool:=
 decide (bnd.length=n) && (ws.all fun w=>decide (w < n)) && (List.range n).all fun i=>decide ((bnd.getD i []).length=ws.length) && ((bnd.getD i []).zip ws).all fun x=>match x.1 with | none=>true | some true=>(oD.getD i []).contains x.2 | some false=>(oD.getD x.2 []).contains i || x.2 == i
theorem xO {o:Oper} {e:Edge} (he:e ∈ o.after) (hb:Region.binds .any e=true):e.on ∈ kR o:=by
 unfold kR; exact List.mem_map.2 ⟨e,List.mem_filter.2 ⟨by simpa using he,hb⟩,rfl⟩
def ET (n:Nat) (oD:List (List Nat)) (k1:Nat):Bool:=(List.range n).all fun i=>decide (i < k1) || (List.range k1).all fun j=>(oD.getD i []).contains j
def jY (n k:Nat):Array Bool:=((List.range n).map fun i=>decide (i < k)).toArray
theorem iQ (n k i:Nat):(jY n k).getD i false=(decide (i < n) && decide (i < k)):=by
 unfold jY;rw [Array.getD_eq_getD_getElem?,List.getElem?_toArray,List.getElem?_map];by_cases h:i < n
 ·rw [List.getElem?_range h]; simp [h]
 ·rw [List.getElem?_eq_none (by simp; omega)]; simp [h]
theorem oH (n k:Nat):(jY n k).size=n:=by simp [jY]
theorem K6 {n k:Nat} {listed:Array Bool} (hs:listed.size=n) (h1: ∀i,i < k->listed.getD i false=true) (h2: ∀i,k<=i->listed.getD i false=false):listed=jY n k:=by
 refine Array.ext (by rw [hs,oH]) (fun i hi hi'=> ?_);have e1:listed.getD i false=listed[i]:=by rw [Array.getD_eq_getD_getElem?,Array.getElem?_eq_getElem hi]; rfl
 have e2:(jY n k).getD i false=(jY n k)[i]:=by rw [Array.getD_eq_getD_getElem?,Array.getElem?_eq_getElem hi']; rfl
 rw [<- e1,<- e2,iQ];have hin:i < n:=by rw [<- hs]; exact hi
 by_cases hk:i < k
 ·rw [h1 i hk]; simp [hin,hk]
 ·rw [h2 i (by omega)]; simp [hk]
theorem Gm (n k:Nat) (hk:k<=n): ∀m,m<=n->cnt (jY n k) m=m - k
 | 0,_=>by simp [cnt]
 | m + 1,hm=>by
   have ih:=Gm n k hk m (by omega);simp only [cnt,ih,iQ];by_cases h:m < k
   ·have:m < n:=by omega
    simp [h,this]; omega
   ·simp [h]; omega
def MV (P:Program) (a0:Act) (Q:Exit->Act->World->Prop) (C:List Bool->World->Prop) (Le:World->World->Prop) (dD:List Tmp) (ents:List (Option Tmp × RP)) (o:Oper) (R:RP) (ws:List Nat) (pat:List (Option Bool)):Prop:=
 ∀c A w,okB pat c->C c w->(∀s,dD.contains s=false->A.eval (.tmp s)=a0.eval (.tmp s))->IB ents A w o.after.toList->
  if gd ents A o then o.wp P A w (aI (C (jD ws c ents.length)) Le R A o.dst w) Q else (C (jD ws c ents.length) w∧R undef w)
def dQ (P:Program) (a0:Act) (Q:Exit->Act->World->Prop) (C:List Bool->World->Prop) (Le:World->World->Prop) (dD:List Tmp) (ws:List Nat) (K:Act->World->Prop) (k0:Nat):List Oper->List (List (Option Bool))->List (Option Tmp × RP)->Prop
 | o ::rest,b ::bs,ents=> ∃R:RP,(∀v w w',Le w w'->R v w->R v w')∧MV P a0 Q C Le dD ents o R ws b∧dQ P a0 Q C Le dD ws K k0 rest bs (ents++[(o.dst,R)])
 | _,_,ents=> ∀w,C (ws.map fun _=>true) w->eu w (fun a=>K a w) (ents.drop k0) a0
def EC (l:List Oper):List (Option Tmp × RP):=l.map fun o=>(o.dst,fun _ _=>True)
theorem qB {α:Type} :(∀(n:Nat) (a:α) (l:List α),(a ::l).take (n + 1)=a ::l.take n)∧(∀l:List α,l.take 0=[])∧(∀l:List α,l.drop 0=l)∧ ∀(n:Nat) (a:α) (l:List α),(a ::l).drop (n + 1)=l.drop n:=⟨fun _ _ _=>rfl,fun _=>rfl,fun _=>rfl,fun _ _ _=>rfl⟩
theorem yC:EC []=[]∧ ∀o l,EC (o ::l)=(o.dst,fun _ _=>True) ::EC l:=⟨rfl,fun _ _=>rfl⟩
section
variable {P:Program} {a0:Act} {Q:Exit->Act->World->Prop} {C:List Bool->World->Prop} {Le:World->World->Prop} {dD:List Tmp} {ws:List Nat} {K:Act->World->Prop} {k0:Nat}
theorem dQ.full: ∀ {l:List Oper} {bnd:List (List (Option Bool))} {ents:List (Option Tmp × RP)},bnd.length=l.length->dQ P a0 Q C Le dD ws K k0 l bnd ents-> ∃full:List (Option Tmp × RP),full.length=ents.length + l.length∧full.take ents.length=ents∧
 (∀(i:Nat) (o:Oper),l[i]? =some o-> ∃R,full[ents.length + i]? =some (o.dst,R)∧(∀v w w',Le w w'->R v w->R v w')∧MV P a0 Q C Le dD (full.take (ents.length + i)) o R ws (bnd.getD i []))∧
 ∀w,C (ws.map fun _=>true) w->eu w (fun a=>K a w) (full.drop k0) a0
 | [],bnd,ents,_,h=>⟨ents,by simp,by simp,by simp,by cases bnd <;> exact h⟩
 | o ::rest,[],ents,hl,h=>by simp at hl
 | o ::rest,b ::bs,ents,hl,h=>by
   obtain ⟨R,hm,ho,hr⟩:=h;obtain ⟨full,h1,h2,h3,h4⟩:=dQ.full (by simpa using hl) hr;simp only [List.length_append,List.length_cons,List.length_nil,Nat.zero_add] at h1 h2 h3;have hlen:ents.length < full.length:=by omega
   have hget:full[ents.length]? =some (o.dst,R):=by have:=congrArg (fun l=>l[ents.length]?) h2;simpa using this
   refine ⟨full,by simp; omega,?_,?_,h4⟩
   ·have:=congrArg (List.take ents.length) h2;simpa [List.take_take] using this
   ·intro i o' hi;cases i with
    | zero=>simp only [List.getElem?_cons_zero,Option.some.injEq] at hi;subst hi;refine ⟨R,by simpa using hget,hm,?_⟩;have:full.take (ents.length + 0)=ents:=(by have:=congrArg (List.take ents.length) h2;simpa [List.take_take] using this);rw [this]; exact ho
    | succ i=>have hi':rest[i]? =some o':=(by simpa using hi);have:=h3 i o' hi';rw [show ents.length + (i + 1)=ents.length + 1 + i by omega];exact this
theorem dQ.step {o:Oper} {rest:List Oper} {b:List (Option Bool)} {bs:List (List (Option Bool))} {ents:List (Option Tmp × RP)} {v:Value} (aP:MV P a0 Q C Le dD ents o (bG v) ws b) (hrest:dQ P a0 Q C Le dD ws K k0 rest bs (ents++[(o.dst,bG v)])):dQ P a0 Q C Le dD ws K k0 (o ::rest) (b ::bs) ents:=
 ⟨bG v,bG.mono,aP,hrest⟩
theorem dQ.some {o:Oper} {rest:List Oper} {b:List (Option Bool)} {bs:List (List (Option Bool))} {ents:List (Option Tmp × RP)} (R:RP) (hmono: ∀v w w',Le w w'->R v w->R v w') (aP:MV P a0 Q C Le dD ents o R ws b) (hrest:dQ P a0 Q C Le dD ws K k0 rest bs (ents++[(o.dst,R)])):dQ P a0 Q C Le dD ws K k0 (o ::rest) (b ::bs) ents:=
 ⟨R,hmono,aP,hrest⟩
theorem dQ.done {ents:List (Option Tmp × RP)} (h: ∀w,C (ws.map fun _=>true) w->eu w (fun a=>K a w) (ents.drop k0) a0):dQ P a0 Q C Le dD ws K k0 [] [] ents:=h
def DC (l:List Oper) (listed:Array Bool):Prop:= ∀(i:Nat) (o:Oper),l[i]? =some o->listed.getD i false=true-> ∀d ∈ kR o,listed.getD d false=true
def cw (ws:List Nat) (listed:Array Bool):List Bool:=ws.map fun w=>listed.getD w false
theorem Io {l:List Oper} {oD:List (List Nat)} {listed:Array Bool} (ha:R6 l oD=true) (hed: ∀(i:Nat) (o:Oper),l[i]? =some o-> ∀d ∈ kR o,d < i) (hd:DC l listed) (hsz:listed.size=l.length): ∀(i:Nat),listed.getD i false=true-> ∀k ∈ oD.getD i [],listed.getD k false=true:=by
 intro i
 induction i using Nat.strongRecOn with
 | _ i ih=>
   intro hl k hk;by_cases hi:i < l.length
   ·have hz:=uI ha i l[i] (List.getElem?_eq_getElem hi);rw [List.all_eq_true] at hz;have:=hz k hk;rw [List.any_eq_true] at this;obtain ⟨d,hd1,hd2⟩:=this;have hdl:=hd i l[i] (List.getElem?_eq_getElem hi) hl d hd1;simp only [Bool.or_eq_true,beq_iff_eq,List.contains_iff_mem] at hd2;rcases hd2 with rfl | hd2
    ·exact hdl
    ·exact ih d (hed i l[i] (List.getElem?_eq_getElem hi) d hd1) hdl k hd2
   ·exfalso;rw [Array.getD_eq_getD_getElem?,Array.getElem?_eq_none (by omega)] at hl; cases hl
theorem U1 {listed:Array Bool} {i:Nat} (hi:i < listed.size): ∀ws:List Nat,cw ws (listed.setIfInBounds i true)=jD ws (cw ws listed) i
 | []=>rfl
 | x ::r=>by
   have ih:=U1 hi r;unfold cw at ih ⊢;rw [List.map_cons,ih,List.map_cons,jD];congr 1;by_cases hx:x=i
   ·subst hx; simp [hi]
   ·rw [getD_set_ne false (fun e=>hx e.symm)]; simp [hx]
theorem Oj {listed:Array Bool} : ∀(pat:List (Option Bool)) (ws:List Nat),pat.length=ws.length->(∀x ∈ pat.zip ws,∀b,x.1=some b->listed.getD x.2 false=b)->okB pat (cw ws listed)
 | [],[],_,_=>trivial
 | [],_ ::_,h,_=>by simp at h
 | _ ::_,[],h,_=>by simp at h
 | none ::r,x ::ws,h,hb=>Oj r ws (by simpa using h) (fun y hy=>hb y (by simp [hy]))
 | some b ::r,x ::ws,h,hb=>⟨hb (some b,x) (by simp) b rfl,Oj r ws (by simpa using h) (fun y hy=>hb y (by simp [hy]))⟩
def Yk (a0:Act) (C:List Bool->World->Prop) (ws:List Nat) (l:List Oper) (k0 k1:Nat) (full:List (Option Tmp × RP)) (listed:Array Bool) (a:Act) (w:World):Prop:=
 listed.size=l.length∧(∀i,i < k0->listed.getD i false=true)∧(∀i,k1<=i->listed.getD i false=false)∧C (cw ws listed) w∧a.defers=a0.defers∧a.tmps.size=a0.tmps.size∧DC l listed∧
 (∀s:Nat,(∀(i:Nat) (d:Tmp) (R:RP),full[i]? =some (some d,R)->k0<=i->listed.getD i false=true->d≠s)->a.tmps[s]? =a0.tmps[s]?)∧
 ∀(i:Nat) (d:Option Tmp) (R:RP),full[i]? =some (d,R)->listed.getD i false=true->R (eU a d) w
theorem Vl {l:List Oper} {full:List (Option Tmp × RP)} {oD:List (List Nat)} {bnd:List (List (Option Bool))} {k0 k1:Nat} (hk1:k1<=l.length) (Gx:R6 l oD=true) (IW:ET l.length oD k1=true)
 (Gz:VR l.length ws oD bnd=true) (hws: ∀x ∈ ws,x < k1) (Co: ∀w,Le w w) (hbd: ∀d ∈ dD,d < a0.tmps.size) (hlen:full.length=k1) (hnd:(l.filterMap (·.dst)).Nodup) (qp:((l.take k1).drop k0).filterMap (·.dst)=dD)
 (hed: ∀(i:Nat) (o:Oper),l[i]? =some o-> ∀d ∈ kR o,d < i) (hgu: ∀(i:Nat) (o:Oper),l[i]? =some o-> ∀g b,o.guard=some (g,b)->g < i)
 (ai8: ∀(i:Nat) (o:Oper),l[i]? =some o->i < k0->full[i]? =some (o.dst,fun _ _=>True))
 (hf: ∀(i:Nat) (o:Oper),l[i]? =some o->k0<=i->i < k1-> ∃R,full[i]? =some (o.dst,R)∧(∀v w w',Le w w'->R v w->R v w')∧MV P a0 Q C Le dD (full.take i) o R ws (bnd.getD i []))
 (hend: ∀w,C (ws.map fun _=>true) w->eu w (fun a=>wpAny P .any l.toArray Q (l.length - k1) (jY l.length k1) a w) (full.drop k0) a0):
 ∀(fuel:Nat) (listed:Array Bool) (a:Act) (w:World),cnt listed l.length=fuel->Yk a0 C ws l k0 k1 full listed a w->wpAny P .any l.toArray Q fuel listed a w:=by
 have hB:bnd.length=l.length∧(∀x ∈ ws,x < l.length)∧ ∀i,i < l.length->(bnd.getD i []).length=ws.length∧ ∀x ∈ (bnd.getD i []).zip ws,(match x.1 with | none=>true | some true=>(oD.getD i []).contains x.2 | some false=>(oD.getD x.2 []).contains i || x.2 == i)=true:=by unfold VR at Gz;simp only [Bool.and_eq_true,decide_eq_true_eq,List.all_eq_true,List.mem_range] at Gz;exact ⟨Gz.1.1,Gz.1.2,fun i hi=>Gz.2 i hi⟩
 have hP: ∀i,i < l.length->k1<=i-> ∀j,j < k1->j ∈ oD.getD i []:=fun i hi hki j hj=>by
  unfold ET at IW;simp only [List.all_eq_true,List.mem_range,Bool.or_eq_true,decide_eq_true_eq,List.contains_iff_mem] at IW;rcases IW i hi with h | h
  ·omega
  ·exact h j hj
 have hdst: ∀(i:Nat) (d:Option Tmp) (R:RP),full[i]? =some (d,R)-> ∃o,l[i]? =some o∧o.dst=d∧ ∀v w w',Le w w'->R v w->R v w':=fun i d R hi=>by
  have hlt:i < k1:=by rw [<- hlen]; exact (List.getElem?_eq_some_iff.1 hi).1
  have hll:i < l.length:=by omega
  by_cases hik:i < k0
  ·have h1:=ai8 i l[i] (List.getElem?_eq_getElem hll) hik;rw [hi] at h1;simp only [Option.some.injEq,Prod.mk.injEq] at h1;exact ⟨l[i],List.getElem?_eq_getElem hll,h1.1.symm,by rw [h1.2]; exact fun _ _ _ _ _=>trivial⟩
  ·obtain ⟨R',h1,h2,-⟩:=hf i l[i] (List.getElem?_eq_getElem hll) (by omega) hlt;rw [hi] at h1;simp only [Option.some.injEq,Prod.mk.injEq] at h1;exact ⟨l[i],List.getElem?_eq_getElem hll,h1.1.symm,by rw [h1.2]; exact h2⟩
 have hfe: ∀(i:Nat) (o:Oper),l[i]? =some o->i < k1-> ∃R,full[i]? =some (o.dst,R):=fun i o hi hik=>by
  by_cases h:i < k0
  ·exact ⟨_,ai8 i o hi h⟩
  ·obtain ⟨R,h1,-⟩:=hf i o hi (by omega) hik; exact ⟨R,h1⟩
 have hmem: ∀(k:Nat) (d:Tmp) (R:RP),full[k]? =some (some d,R)->k0<=k->d ∈ dD:=fun k d R hk' hkk=>by
  obtain ⟨ok,hok,hdk,-⟩:=hdst k (some d) R hk';have hlt:k < k1:=by rw [<- hlen]; exact (List.getElem?_eq_some_iff.1 hk').1
  rw [<- qp];refine List.mem_filterMap.2 ⟨ok,List.mem_of_getElem? (i:=k - k0) ?_,hdk⟩;rw [List.getElem?_drop,List.getElem?_take,show k0 + (k - k0)=k by omega,if_pos hlt]; exact hok
 have EK: ∀listed:Array Bool,listed.size=l.length->Region.ready .any l.toArray listed=[]-> ∀i,i < l.length->listed.getD i false=true:=fun listed hsz hr i=>by
  induction i using Nat.strongRecOn with
  | _ i ih=>
    intro hi;cases hg:listed.getD i false with
    | true=>rfl
    | false=>exfalso;have:i ∈ Region.ready .any l.toArray listed:=mem_ready.2 ⟨by have h1:i < listed.size:=(by omega);simp [h1] at hg ⊢; exact hg,l[i],by simp [hi],fun e he hb=>ih e.on (hed i l[i] (List.getElem?_eq_getElem hi) e.on (xO he hb)) (by have:=hed i l[i] (List.getElem?_eq_getElem hi) e.on (xO he hb); omega)⟩;rw [hr] at this; cases this
 have hall: ∀fuel listed a w,cnt listed l.length=fuel->Yk a0 C ws l k0 k1 full listed a w->(∀i,i < k1->listed.getD i false=true)->wpAny P .any l.toArray Q fuel listed a w:=fun fuel listed a w hc hI ha=>by
  obtain ⟨hsz0,-,hno,hC,hd,hz,hdc,hs,hR⟩:=hI;have he:listed=jY l.length k1:=K6 hsz0 ha hno;have hkk:cw ws listed=ws.map fun _=>true:=by unfold cw; exact List.map_congr_left (fun x hx=>ha x (hws x hx))
  rw [hkk] at hC;have hfu:fuel=l.length - k1:=by rw [<- hc,he,Gm _ _ hk1 _ (Nat.le_refl _)]
  have:=(hend w hC).use (a':=a) (fun i d R hi=>by rw [List.getElem?_drop] at hi;exact hR (k0 + i) d R hi (ha _ (by rw [<- hlen]; exact (List.getElem?_eq_some_iff.1 hi).1))) hd hz (fun s hne=>hs s (fun i d R hi hki _=>hne (i - k0) d R (by rw [List.getElem?_drop,show k0 + (i - k0)=i by omega]; exact hi)));rw [hfu,he]; exact this
 intro fuel
 induction fuel with
 | zero=>intro listed a w hc hI;exact hall 0 listed a w hc hI (fun i hi=>CY hc i (by omega))
 | succ fuel ih=>
   intro listed a w hc hI;by_cases hdone: ∀i,i < k1->listed.getD i false=true
   ·exact hall _ listed a w hc hI hdone
   refine ⟨fun hr=>(hdone (fun i hi=>EK listed hI.1 hr i (by omega))).elim,fun i hi=> ?_⟩;obtain ⟨h0,o,ho,Bp⟩:=mem_ready.1 hi;have hlt:i < l.length:=by simpa using (Array.getElem?_eq_some_iff.1 ho).1
   have hlo:l[i]? =some o:=by simpa using ho
   have hls:i < listed.size:=by rw [hI.1]; exact hlt
   have hun:listed.getD i false=false:=by simp [hls] at h0 ⊢; exact h0
   obtain ⟨hsz,hpre,hno,hC,hd,hz,hdc,hs,hR⟩:=hI;have Yv:=Io Gx hed hdc hsz;have hself: ∀k ∈ oD.getD i [],listed.getD k false=true:=fun k hk=>by
    have hz':=uI Gx i o hlo;rw [List.all_eq_true] at hz';have:=hz' k hk;rw [List.any_eq_true] at this;obtain ⟨d,hd1,hd2⟩:=this;simp only [kR,List.mem_map,List.mem_filter,Array.mem_toList_iff] at hd1;obtain ⟨e,⟨he,hb⟩,rfl⟩:=hd1;simp only [Bool.or_eq_true,beq_iff_eq,List.contains_iff_mem] at hd2;rcases hd2 with rfl | hd2
    ·exact Bp e he hb
    ·exact Yv e.on (Bp e he hb) k hd2
   have RJ:k0<=i:=by
    rcases Nat.lt_or_ge i k0 with h | h
    ·rw [hpre i h] at hun; cases hun
    ·exact h
   have aL9:i < k1:=by
    rcases Nat.lt_or_ge i k1 with h | h
    ·exact h
    ·exact (hdone (fun j hj=>hself j (hP i hlt h j hj))).elim
   obtain ⟨R,FT,hRm,Uk⟩:=hf i o hlo RJ aL9;have hW:Region.wanted o (yielded l.toArray a.tmps)=gd (full.take i) a o:=by
    unfold Region.wanted gd;cases hgo:o.guard with
    | none=>rfl
    | some x=>
      obtain ⟨g,b⟩:=x;have hgi:=hgu i o hlo g b hgo;simp only;rw [List.getElem?_take,if_pos hgi];unfold yielded;have hgl:g < l.length:=(by omega);have hk':l.toArray[g]? =some l[g]:=(by simp [hgl]);obtain ⟨R',hR'⟩:=hfe g l[g] (List.getElem?_eq_getElem hgl) (by omega);rw [hk',hR'];simp only [Option.bind_some];cases hd':l[g].dst with
      | none=>rfl
      | some d=>
        simp only [Option.bind_some,Act.eval];cases ht:a.tmps[d]? with
        | none=>simp [ht,undef]
        | some v=>simp only [Array.getD_eq_getD_getElem?,ht,Option.getD_some];cases v <;> first | rfl | (rename_i x; cases x <;> cases b <;> rfl)
   have aL7:DC l (listed.setIfInBounds i true):=fun j oj hj hl d hdj=>by
    by_cases hij:i=j
    ·subst hij;rw [hlo] at hj; injection hj with hj; subst hj;simp only [kR,List.mem_map,List.mem_filter,Array.mem_toList_iff] at hdj;obtain ⟨e,⟨he,hb⟩,rfl⟩:=hdj;exact getD_set_true (Bp e he hb)
    ·rw [getD_set_ne false hij] at hl;exact getD_set_true (hdc j oj hj hl d hdj)
   have hok:okB (bnd.getD i []) (cw ws listed):=Oj _ _ (hB.2.2 i hlt).1 (fun x hx b hb=>by
    have:=(hB.2.2 i hlt).2 x hx;rw [hb] at this;cases b with
    | true=>exact hself x.2 (by simpa using this)
    | false=>
      cases hcc:listed.getD x.2 false with
      | false=>rfl
      | true=>
        exfalso;simp only [Bool.or_eq_true,List.contains_iff_mem,beq_iff_eq] at this;rcases this with h1 | h1
        ·have:=Yv x.2 hcc i h1; rw [hun] at this; cases this
        ·rw [h1,hun] at hcc; cases hcc)
   have htk:(full.take i).length=i:=by rw [List.length_take,hlen]; omega
   have hstep:=Uk (cw ws listed) a w hok hC (fun s hs'=>by have:a.tmps[s]? =a0.tmps[s]?:=hs s (fun k d R' hk' hkk _ e=>by have:=hmem k d R' hk' hkk;rw [e] at this;simp at hs';exact hs' this);simp [Act.eval,this]) (JM (fun e he hb d R' hR'=>hR e.on d R' hR' (Bp e (by simpa using he) hb)));rw [htk] at hstep;have hnext: ∀(v:Value) (w':World),Le w w'->C (jD ws (cw ws listed) i) w'->R (eU (a.put o.dst v) o.dst) w'->wpAny P .any l.toArray Q fuel (listed.setIfInBounds i true) (a.put o.dst v) w':=fun v w' hle hC' hv=>by
    refine ih _ _ _ ?_ ⟨by simp [hsz],fun j hj=>getD_set_true (hpre j hj),fun j hj=>by rw [getD_set_ne false (by omega)]; exact hno j hj,by rw [U1 hls]; exact hC',?_,?_,aL7,?_,?_⟩
    ·have:=Fj hls hun l.length;rw [if_pos hlt] at this;omega
    ·cases o.dst <;> simpa [Act.put] using hd
    ·cases o.dst <;> simpa [Act.put] using hz
    ·intro s hne;have h1:a.tmps[s]? =a0.tmps[s]?:=hs s (fun k d R' hk hkk hl=>hne k d R' hk hkk (getD_set_true hl));cases hod:o.dst with
     | none=>simpa [Act.put] using h1
     | some d=>have hds:d≠s:=hne i d R (by rw [FT,hod]) RJ (by simp [hls]);simp only [Act.put];rw [Array.getElem?_setIfInBounds_ne hds]; exact h1
    ·intro k d R' hk hl;by_cases hik:i=k
     ·subst hik;rw [FT] at hk;simp only [Option.some.injEq,Prod.mk.injEq] at hk;obtain ⟨rfl,rfl⟩:=hk;exact hv
     ·have hl':listed.getD k false=true:=(by rwa [getD_set_ne false hik] at hl);obtain ⟨ok,hok',hdk,hmon⟩:=hdst k d R' hk;have h1:=hmon _ _ _ hle (hR k d R' hk hl');have:eU (a.put o.dst v) d=eU a d:=by
       cases hod:o.dst with
       | none=>rfl
       | some d1=>
         cases d with
         | none=>rfl
         | some d2=>have hne:d1≠d2:=fun e=>hik (AV hnd i k o ok d2 hlo hok' (by rw [hod,e]) hdk);simp [eU,Act.eval,Act.put,Array.getElem?_setIfInBounds_ne hne]
      rw [this]; exact h1
   unfold wpOp;simp only [ho];rw [hW];cases hgd:gd (full.take i) a o with
   | true=>
     rw [hgd] at hstep;simp only [if_true] at hstep ⊢;refine Or.inl (Oper.wp_mono ?_ hstep);rintro a' w' ⟨v,rfl,hle,hC',hv⟩;refine hnext v w' hle hC' ?_;cases hod:o.dst with
     | none=>rw [hod] at hv; exact hv
     | some d=>rw [hod] at hv;simp only [Option.isSome_some,if_true] at hv;have hdl:d < a.tmps.size:=(by rw [hz]; exact hbd d (hmem i d R (by rw [FT,hod]) RJ));simpa [eU,Act.eval,Act.put,hdl] using hv
   | false=>
     rw [hgd] at hstep;simp only [Bool.false_eq_true,if_false] at hstep ⊢;refine hnext undef w (Co w) hstep.1 ?_;cases hod:o.dst with
     | none=>exact hstep.2
     | some d=>have hdl:d < a.tmps.size:=(by rw [hz]; exact hbd d (hmem i d R (by rw [FT,hod]) RJ));simpa [eU,Act.eval,Act.put,hdl] using hstep.2
def Fp (l:List Oper):Bool:=decide (l.filterMap (·.dst)).Nodup && (l.zipIdx.all fun x=>((kR x.1).all fun d=>decide (d < x.2)) && (match x.1.guard with | none=>true | some (g,_)=>decide (g < x.2)))
theorem gq {l:List Oper} {w:World} {n r:Nat} (k0 k1:Nat) (ws:List Nat) (oD:List (List Nat)) (bnd:List (List (Option Bool))) (C:List Bool->World->Prop) (Le:World->World->Prop) (dD:List Tmp)
 (hn:l.length=n) (hr:n - k0=r) (hk:(decide (k0<=k1) && decide (k1<=n) && decide (bnd.length=k1 - k0) && ws.all fun x=>decide (x < k1))=true) (hB:Fp l=true) (Gx:R6 l oD=true) (IW:ET n oD k1=true)
 (Gz:VR n ws oD ((List.replicate k0 (ws.map fun _=>none))++bnd++List.replicate (n - k1) (ws.map fun _=>none))=true) (aL2:(((l.take k1).drop k0).filterMap (·.dst) == dD)=true) (hws:(ws.all fun x=>decide (k0<=x))=true) (Co: ∀w,Le w w) (hbd:(dD.all fun d=>decide (d < a0.tmps.size))=true) (hC:C (ws.map fun _=>false) w)
 (h:dQ P a0 Q C Le dD ws (wpAny P .any l.toArray Q (n - k1) (jY n k1)) k0 ((l.take k1).drop k0) bnd (EC (l.take k0))):wpAny P .any l.toArray Q r (jY n k0) a0 w:=by
 subst hn; subst hr;simp only [Bool.and_eq_true,decide_eq_true_eq,List.all_eq_true] at hk;obtain ⟨⟨⟨h01,h1n⟩,hbl⟩,hwk⟩:=hk;unfold Fp at hB;simp only [Bool.and_eq_true,decide_eq_true_eq] at hB;obtain ⟨hnd,hz⟩:=hB;have hdl:(EC (l.take k0)).length=k0:=by simp [EC]; omega
 obtain ⟨full,h1,h2,h3,h4⟩:=h.full (by simp [hbl]; omega);rw [hdl] at h1 h2 h3;have hlen:full.length=k1:=by rw [h1]; simp; omega
 have hed: ∀(i:Nat) (o:Oper),l[i]? =some o->(∀d ∈ kR o,d < i)∧ ∀g b,o.guard=some (g,b)->g < i:=fun i o hi=>by have:=uI hz i o hi;simp only [Bool.and_eq_true,List.all_eq_true,decide_eq_true_eq] at this;refine ⟨this.1,fun g b hg=> ?_⟩;have h2:=this.2;rw [hg] at h2;simpa using h2
 refine Vl h1n Gx IW Gz hwk Co (fun d hd=>by rw [List.all_eq_true] at hbd; simpa using hbd d hd) hlen hnd (by simpa using aL2) (fun i o hi=>(hed i o hi).1) (fun i o hi=>(hed i o hi).2) ?_ ?_ h4 _ _ _ _ (by rw [Gm _ _ (by omega) _ (Nat.le_refl _)]) ⟨oH _ _,?_,?_,?_,rfl,rfl,?_,fun _ _=>rfl,?_⟩
 ·intro i o hi hik;have:=congrArg (fun l=>l[i]?) h2;rw [List.getElem?_take,if_pos hik] at this;rw [this];simp [EC,hik,hi]
 ·intro i o hi hki hik;have hgo:((l.take k1).drop k0)[i - k0]? =some o:=by rw [List.getElem?_drop,List.getElem?_take,show k0 + (i - k0)=i by omega,if_pos hik]; exact hi
  obtain ⟨R,ha,hb,hc⟩:=h3 (i - k0) o hgo;rw [show k0 + (i - k0)=i by omega] at ha hc;refine ⟨R,ha,hb,?_⟩;have:((List.replicate k0 (ws.map fun _=>(none:Option Bool)))++bnd++List.replicate (l.length - k1) (ws.map fun _=>none)).getD i []=bnd.getD (i - k0) []:=by rw [List.getD_eq_getElem?_getD,List.getD_eq_getElem?_getD,List.append_assoc,List.getElem?_append_right (by simp; omega),List.getElem?_append_left (by simp; omega)];simp
  rw [this]; exact hc
 ·intro i hi; rw [iQ]; simp; omega
 ·intro i hi; rw [iQ]; simp; omega
 ·have:cw ws (jY l.length k0)=ws.map fun _=>false:=by unfold cw; refine List.map_congr_left (fun x hx=> ?_);rw [List.all_eq_true] at hws;have:=hws x hx;rw [iQ]; simp at this ⊢; omega
  rw [this]; exact hC
 ·intro i o hi hl d hd;rw [iQ] at hl ⊢;simp only [Bool.and_eq_true,decide_eq_true_eq] at hl ⊢;have:=(hed i o hi).1 d hd;omega
 ·intro i d R hi hl;rw [iQ] at hl;simp only [Bool.and_eq_true,decide_eq_true_eq] at hl;have:=congrArg (fun l=>l[i]?) h2;rw [List.getElem?_take,if_pos hl.2,hi] at this;simp only [EC,List.getElem?_map,List.getElem?_take,if_pos hl.2,List.getElem?_eq_getElem hl.1,Option.map_some,Option.some.injEq,Prod.mk.injEq] at this;rw [this.2]; trivial
theorem gM {id:Nat} {l:List Oper} {n:Nat} {w:World} (hm:P.follows .mixedOrders=true) (hn:l.length=n) (h:wpAny P .any l.toArray Q n (jY n 0) a0 (w.drewN 1)):(Code.region id l.toArray true).wp P Q a0 w:=by
 subst hn;refine wp_region_any hm ?_;have hdr:({w with drawn:=w.drawn + 1} :World)=w.drewN 1:=rfl;have hp:Array.replicate l.toArray.size false=jY l.length 0:=K6 (by simp) (by intro i hi; omega) (fun i _=>by rw [Array.getD_eq_getD_getElem?]; by_cases hk:i < l.length <;> simp [hk]);rw [hdr,hp];exact h
theorem iU {l:List Oper} {n:Nat} {w:World} (hn:l.length=n) (h:Q .normal a0 w):wpAny P .any l.toArray Q 0 (jY n n) a0 w:=by
 subst hn;refine ⟨?_,h⟩;rw [List.eq_nil_iff_forall_not_mem];intro i hi;obtain ⟨h0,o,ho,-⟩:=mem_ready.1 hi;have hlt:i < l.length:=by simpa using (Array.getElem?_eq_some_iff.1 ho).1
 have h1:i < (jY l.length l.length).size:=by rw [oH]; exact hlt
 have:=iQ l.length l.length i;simp [h1] at h0 this;rw [this] at h0; simp at h0; omega
theorem iB {l:List Oper} {o:Oper} {n r k1:Nat} {w:World} (k:Nat) (oD:List (List Nat)) (hn:l.length=n) (hr:n - k=r + 1) (hk1:k + 1=k1) (ho:l[k]? =some o) (hgu:o.guard=none) (hB:Fp l=true) (Gx:R6 l oD=true) (IW:ET n oD k1=true)
 (h:o.wp P a0 w (wpAny P .any l.toArray Q r (jY n k1)) Q):wpAny P .any l.toArray Q (r + 1) (jY n k) a0 w:=by
 subst hn; subst hk1;unfold Fp at hB;simp only [Bool.and_eq_true,decide_eq_true_eq] at hB;have hkn:k < l.length:=by omega
 have hnx:(jY l.length k).setIfInBounds k true=jY l.length (k + 1):=by
  refine K6 (by simp [oH]) (fun i hi=> ?_) (fun i hi=> ?_)
  ·by_cases hik:i=k
   ·subst hik; rw [Array.getD_eq_getD_getElem?,Array.getElem?_setIfInBounds_self_of_lt (by rw [oH]; exact hkn)]; rfl
   ·exact getD_set_true (by rw [iQ]; simp; omega)
  ·rw [getD_set_ne false (by omega),iQ]; simp; omega
 have aM1: ∀i ∈ Region.ready .any l.toArray (jY l.length k),i=k:=fun i hi=>by
  obtain ⟨h0,oi,hoi,Bp⟩:=mem_ready.1 hi;have hlt:i < l.length:=by simpa using (Array.getElem?_eq_some_iff.1 hoi).1
  have hge:k<=i:=by
   have h1:i < (jY l.length k).size:=by rw [oH]; exact hlt
   have:=iQ l.length k i;simp [h1] at h0 this;rw [this] at h0; simp at h0; omega
  rcases Nat.lt_or_ge k i with hki | hki
  ·exfalso;unfold ET at IW;simp only [List.all_eq_true,List.mem_range,Bool.or_eq_true,decide_eq_true_eq,List.contains_iff_mem] at IW;have hka:k ∈ oD.getD i []:=by
    rcases IW i hlt with h | h
    ·omega
    ·exact h k (by omega)
   have aM0:l[i]? =some oi:=by simpa using hoi
   have hz':=uI Gx i oi aM0;rw [List.all_eq_true] at hz';have:=hz' k hka;rw [List.any_eq_true] at this;obtain ⟨d,hd1,hd2⟩:=this;simp only [kR,List.mem_map,List.mem_filter,Array.mem_toList_iff] at hd1;obtain ⟨e,⟨he,hb⟩,rfl⟩:=hd1;have hdl:=Bp e he hb;have hed: ∀(i:Nat) (o:Oper),l[i]? =some o-> ∀d ∈ kR o,d < i:=fun i o hi=>by have:=uI hB.2 i o hi;simp only [Bool.and_eq_true,List.all_eq_true,decide_eq_true_eq] at this;exact this.1
   have hdc:DC l (jY l.length k):=by intro i o hi hl d hd;rw [iQ] at hl ⊢;simp only [Bool.and_eq_true,decide_eq_true_eq] at hl ⊢;have:=hed i o hi d hd;omega
   simp only [Bool.or_eq_true,beq_iff_eq,List.contains_iff_mem] at hd2;have hkl:(jY l.length k).getD k false=true:=by
    rcases hd2 with h2 | hd2
    ·rw [h2] at hdl; exact hdl
    ·exact Io Gx hed hdc (oH _ _) e.on hdl k hd2
   rw [iQ] at hkl; simp at hkl
  ·omega
 refine ⟨fun hr0=> ?_,fun i hi=> ?_⟩
 ·exfalso;have hlk:l[k]? =some l[k]:=List.getElem?_eq_getElem hkn;have:k ∈ Region.ready .any l.toArray (jY l.length k):=mem_ready.2 ⟨by
   have h1:k < (jY l.length k).size:=by rw [oH]; exact hkn
   have:=iQ l.length k k;simp [h1] at this ⊢; rw [this],l[k],by simp [hkn],fun e he hb=>by have:=uI hB.2 k l[k] hlk;simp only [Bool.and_eq_true,List.all_eq_true,decide_eq_true_eq] at this;have:=this.1 e.on (xO he hb);rw [iQ]; simp; omega⟩
  rw [hr0] at this; cases this
 ·obtain rfl:=aM1 i hi;unfold wpOp;have:l.toArray[i]? =some o:=by simpa using ho
  simp only [this,Region.wanted,hgu,if_true];rw [hnx];exact Or.inl h
end
theorem dN {w:World} {b o:Nat} {cur:Array Value} {e:TypeId} {fr:Nat × Nat} (h:w.heap[b]? =some (.cells cur e fr)) (v:Value):(w.setCell ⟨b,o,none⟩ v).heap[b]? =some (.cells (cur.setIfInBounds o v) e fr):=by
 unfold World.setCell;simp only [Array.getElem?_modify,if_true,h,Option.map_some];rfl
theorem aY (w:World) {b k:Nat} (a:Addr) (v:Value) (hb:a.block=b) (hk:b≠k):(w.setCell a v).heap[k]? =w.heap[k]?:=by
 unfold World.setCell;simp only [Array.getElem?_modify];rw [if_neg (by rw [hb]; exact hk)]
theorem bQ (w:World) (a:Addr) (v:Value):w.grownBy (w.setCell a v) (some a.block):=
 ⟨rfl,rfl,rfl,by simp [World.setCell],fun k _ hk=>aY w a v rfl (fun e=>hk (by rw [e]))⟩
theorem eP {b:Option Nat} {w1 w2 w3:World} (h:w1.grownBy w2 b) (k:w2.grownBy w3 b):w1.grownBy w3 b:=
 ⟨k.os.trans h.os,k.tape.trans h.tape,k.output.trans h.output,Nat.le_trans h.size k.size,fun j hj hne=>(k.block j (Nat.lt_of_lt_of_le hj h.size) hne).trans (h.block j hj hne)⟩
theorem bK {w w':World} {b B:Nat} (h:w.grownBy w' (some b)) (hB:B<=b) (hB':B<=w.heap.size):Below B w w':=
 ⟨h.os,h.tape,h.output,h.size,fun k hk=>h.block k (by omega) (by simp; omega)⟩
theorem JU {b:Option Nat} (w:World):w.grownBy w b:=⟨rfl,rfl,rfl,Nat.le_refl _,fun _ _ _=>rfl⟩
theorem bW (b:Nat): ∀(vs:List Value) (o:Nat) (w:World),w.grownBy (w.setCells b o vs) (some b)
 | [],_,w=>JU w
 | v ::vs,o,w=>eP (bQ w ⟨b,o,none⟩ v) (bW b vs (o + 1) _)
theorem A8 {b:Nat} {e:TypeId} {fr:Nat × Nat} : ∀(vs:List Value) (o:Nat) (w:World) (cur:Array Value),w.heap[b]? =some (.cells cur e fr)->o + vs.length<=cur.size->
 ∃cur',(w.setCells b o vs).heap[b]? =some (.cells cur' e fr)∧cur'.size=cur.size∧cur'.toList.take (o + vs.length)=cur.toList.take o++vs
 | [],o,w,cur,h,_=>⟨cur,h,rfl,by simp⟩
 | v ::vs,o,w,cur,h,hl=>by
   simp only [List.length_cons] at hl;obtain ⟨cur',h1,h2,h3⟩:=A8 vs (o + 1) (w.setCell ⟨b,o,none⟩ v) (cur.setIfInBounds o v) (dN h v) (by simp; omega);refine ⟨cur',h1,by simpa using h2,?_⟩;rw [List.length_cons,show o + (vs.length + 1)=o + 1 + vs.length by omega,h3,Array.toList_setIfInBounds];have ho:o < cur.toList.length:=by simp; omega
   rw [List.take_succ_eq_append_getElem (by rw [List.length_set]; exact ho),List.take_set,List.getElem_set_self];rw [List.set_eq_of_length_le (by simp; omega)]; simp
section
variable {w:World} {base:Nat} {e:TypeId} {size:Nat} {n cap g:Nat} {xs:List Value}
theorem Si (h:w.ownsRow base e size (.slice (some ⟨g,0,none⟩) (n + 1) cap) (n + 1) xs):w.there g (n * size) size:=by
 rcases h.2 with ⟨h1,-⟩ | ⟨g',cap',cur,e1,-,hg,hc,-,hs,-⟩
 ·cases h1
 ·injection e1 with e1 e2 e3; injection e1 with e1; injection e1 with e1; subst e1; subst e3;intro j hj;have hlt:n * size + j < cur.size:=by rw [hs];have:(n + 1) * size<=cap * size:=Nat.mul_le_mul_right _ hc;rw [Nat.add_mul] at this; omega
  refine ⟨?_,?_⟩
  ·rw [cell_of_row w g _ cur e (0,0) hg]; simp [hlt]
  ·simp [World.frozen?,hg]
theorem Xa {zs vs:List Value} (h:w.ownsRow base e size (.slice (some ⟨g,0,none⟩) (n + 1) cap) (n + 1) (xs++zs)) (hx:xs.length=n * size) (hv:vs.length=size):
 (w.setCells g (n * size) vs).ownsRow base e size (.slice (some ⟨g,0,none⟩) (n + 1) cap) (n + 1) (xs++vs):=by
 have hl:=h.1;rcases h.2 with ⟨h1,-⟩ | ⟨g',cap',cur,e1,hb,hg,hc,hm,hs,ht⟩
 ·cases h1
 ·injection e1 with e1 e2 e3; injection e1 with e1; injection e1 with e1; subst e1; subst e3;have hle:(n + 1) * size<=cap * size:=Nat.mul_le_mul_right _ hc;have hsp:(n + 1) * size=n * size + size:=by rw [Nat.add_mul]; simp
  obtain ⟨cur',k1,k2,k3⟩:=A8 vs (n * size) w cur hg (by rw [hv,hs]; omega);refine ⟨by simp [hx,hv,hsp],.inr ⟨g,cap,cur',rfl,hb,k1,hc,hm,by rw [k2,hs],?_⟩⟩;rw [hsp];rw [hv] at k3;rw [k3];congr 1;have:=congrArg (List.take (n * size)) ht;rw [List.take_take,Nat.min_eq_left (by omega)] at this;rw [this,List.take_append_of_le_length (by omega),List.take_of_length_le (by omega)]
theorem UM {ys:List Value} (h:w.ownsRow base e size (.slice (some ⟨g,0,none⟩) (n + 1) cap) (n + 1) (xs++ys)) (hx:xs.length=n * size):w.ownsRow base e size (.slice (some ⟨g,0,none⟩) n cap) n xs:=by
 rcases h.2 with ⟨h1,-⟩ | ⟨g',cap',cur,e1,hb,hg,hc,hm,hs,ht⟩
 ·cases h1
 ·injection e1 with e1 e2 e3; injection e1 with e1; injection e1 with e1; subst e1; subst e3;have hsp:(n + 1) * size=n * size + size:=by rw [Nat.add_mul]; simp
  refine ⟨hx,.inr ⟨g,cap,cur,rfl,hb,hg,by omega,hm,hs,?_⟩⟩;have:=congrArg (List.take (n * size)) ht;rw [List.take_take,Nat.min_eq_left (by omega)] at this;rw [this,List.take_append_of_le_length (by omega),List.take_of_length_le (by omega)]
end
theorem Kk {w w':World} {b o n:Nat} (h:w.there b o n) (hb:w'.heap[b]? =w.heap[b]?):w'.there b o n:=fun j hj=>by
 rw [World.cell?_of_block (a:=⟨b,o + j,none⟩) hb,World.frozen?_of_block (a:=⟨b,o + j,none⟩) hb]; exact h j hj
theorem aU {w:World} {b o:Nat} {cs:Array Value} {t:TypeId} (h:w.heap[b]? =some (.cells cs t (0,0))):w.frozen? ⟨b,o,none⟩=false:=by simp [World.frozen?,h]
open Md
theorem ak {w:World} {b j:Nat} {cs:Array Value} {t:TypeId} {fr:Nat × Nat} {u:Value} (h:w.heap[b]? =some (.cells cs t fr)) (hu:cs[j]? =some u):w.cell? ⟨b,j,none⟩=some u:=by
 rw [cell_of_row w b j cs t fr h,hu]
def jE (B:Nat) (w w':World):Prop:=w.heap.size<=w'.heap.size∧ ∀k,B<=k->k < w.heap.size->w'.heap[k]? =w.heap[k]?
theorem jE.refl (B:Nat) (w:World):jE B w w:=⟨Nat.le_refl _,fun _ _ _=>rfl⟩
theorem jE.trans {B:Nat} {w w1 w2:World} (h:jE B w w1) (k:jE B w1 w2):jE B w w2:=⟨Nat.le_trans h.1 k.1,fun j h1 h2=>(k.2 j h1 (Nat.lt_of_lt_of_le h2 h.1)).trans (h.2 j h1 h2)⟩
theorem jE.mono {B B':Nat} {w w':World} (h:jE B w w') (hB:B<=B'):jE B' w w':=⟨h.1,fun j h1 h2=>h.2 j (Nat.le_trans hB h1) h2⟩
theorem bg {B:Nat} {w w':World} (h:Below w.heap.size w w'):jE B w w':=⟨h.size,fun k _ h2=>h.block k h2⟩
theorem gX {B:Nat} (w:World) (a:Addr) (v:Value) (h:a.block < B):jE B w (w.setCell a v):=⟨by simp [World.setCell],fun k h1 _=>aY w a v rfl (by omega)⟩
def eB (B:Nat) (w:World) (Q:World->Prop):Prop:= ∀w',jE B w w'->Q w'
theorem eB.next {B:Nat} {w w1:World} {Q:World->Prop} (h:eB B w Q) (hm:jE B w w1):eB B w1 Q:=fun w' h'=>h w' (hm.trans h')
theorem eB.now {B:Nat} {w:World} {Q:World->Prop} (h:eB B w Q):Q w:=h w (jE.refl _ _)
theorem eB.mono {B B':Nat} {w:World} {Q:World->Prop} (h:eB B' w Q) (hB:B<=B'):eB B w Q:=fun w' h'=>h w' (h'.mono hB)
def DW (B:Nat) (g:Option Nat) (w w':World):Prop:=w.heap.size<=w'.heap.size∧ ∀k,B<=k->some k≠g->k < w.heap.size->w'.heap[k]? =w.heap[k]?
def gN (B:Nat) (g:Option Nat) (w:World) (Q:World->Prop):Prop:= ∀w',DW B g w w'->Q w'
section
variable {B B1:Nat} {g:Option Nat} {w w' w1:World} {Q:World->Prop}
theorem jE.x (h:jE B w w'):DW B g w w':=⟨h.1,fun k h1 _ h2=>h.2 k h1 h2⟩
theorem DW.trans (h:DW B g w w1) (k:DW B g w1 w'):DW B g w w':=⟨Nat.le_trans h.1 k.1,fun j h1 h2 h3=>(k.2 j h1 h2 (Nat.lt_of_lt_of_le h3 h.1)).trans (h.2 j h1 h2 h3)⟩
theorem gN.next (h:gN B g w Q) (ha:DW B g w w1):gN B g w1 Q:=fun w' h'=>h w' (ha.trans h')
theorem gN.stay (h:gN B g w Q):eB B w Q:=fun w' ha=>h w' ha.x
theorem H8 (h:eB B1 w Q) (hB:B<=B1) (hg: ∀k,g=some k->k < B1):gN B g w Q:=fun w' ha=>
 h w' ⟨ha.1,fun k h1 h2=>ha.2 k (Nat.le_trans hB h1) (fun e=>absurd (hg k e.symm) (by omega)) h2⟩
theorem gN.move {g':Nat} (h:gN B g w Q) (hg:w.grownBy w' g) (hn:g=some g'∨g'=w.heap.size):gN B (some g') w' Q:=fun w2 h2=>
 h w2 ⟨Nat.le_trans hg.size h2.1,fun k h3 h4 h5=>by
   have hk:some k≠some g':=fun e=>by
    rcases hn with rfl | rfl
    ·exact h4 e
    ·injection e with e; omega
   exact (h2.2 k h3 hk (Nat.lt_of_lt_of_le h5 hg.size)).trans (hg.block k h5 h4)⟩
end
theorem D6 {α:Type} {f:α->List Value} {m:Nat} (hf: ∀x,(f x).length=m): ∀xs:List α,(xs.flatMap f).length=xs.length * m
 | []=>by simp
 | x ::xs=>by rw [List.flatMap_cons,List.length_append,D6 hf xs,hf,List.length_cons,Nat.add_mul,Nat.one_mul,Nat.add_comm]
theorem flat_get {α:Type} {f:α->List Value} {m:Nat} (hf: ∀x,(f x).length=m): ∀(xs:List α) (k:Nat) (x:α) (j:Nat) (u:Value),xs[k]? =some x->(f x)[j]? =some u->(xs.flatMap f)[k * m + j]? =some u
 | [],_,_,_,_,h,_=>by simp at h
 | y ::xs,0,x,j,u,h,hu=>by simp at h; subst h;have hj:j < (f y).length:=(List.getElem?_eq_some_iff.1 hu).1;rw [List.flatMap_cons,Nat.zero_mul,Nat.zero_add,List.getElem?_append_left hj]; exact hu
 | y ::xs,k + 1,x,j,u,h,hu=>by have ih:=flat_get hf xs k x j u (by simpa using h) hu;rw [List.flatMap_cons,List.getElem?_append_right (by rw [hf,Nat.add_mul]; omega),hf,show (k + 1) * m + j - m=k * m + j by rw [Nat.add_mul]; omega];exact ih
structure Grow {α:Type} (f:α->List Value) (m:Nat) (I:α->World->Prop) (ty:TypeId) (B:Nat) (w:World) (v:Value) (xs:List α):Prop where
 own:w.ownsRow B ty m v xs.length (xs.flatMap f)
 stay: ∀x ∈ xs,gN B v.ownBlock w (I x)
section
variable {α:Type} {f:α->List Value} {m:Nat} {I:α->World->Prop} {ty:TypeId} {B:Nat} {w w':World} {v:Value} {xs:List α}
theorem Grow.nil (f:α->List Value) (m:Nat) (I:α->World->Prop) (ty:TypeId) (B:Nat) (w:World):Grow f m I ty B w (.slice none 0 0) []:=⟨World.ownsRow_nil _ _ _ _,fun x hx=>by cases hx⟩
theorem Grow.lt (h:Grow f m I ty B w v xs): ∀k,v.ownBlock=some k->B<=k∧k < w.heap.size:=h.own.lt
theorem Grow.len (h:Grow f m I ty B w v xs): ∃ao cap,v= .slice ao xs.length cap:=by
 rcases h.own.2 with ⟨h1,h2⟩ | ⟨g,cap,cur,h1,-⟩
 ·exact ⟨none,0,by rw [h1,h2]⟩
 ·exact ⟨_,_,h1⟩
theorem Grow.next (h:Grow f m I ty B w v xs) (ha:jE B w w'):Grow f m I ty B w' v xs:=by
 refine ⟨⟨h.own.1,?_⟩,fun x hx=>(h.stay x hx).next ha.x⟩;rcases h.own.2 with h1 | ⟨g,cap,cur,h1,h2,h3,h4⟩
 ·exact .inl h1
 ·exact .inr ⟨g,cap,cur,h1,h2,(ha.2 g h2 (Array.getElem?_eq_some_iff.1 h3).1).trans h3,h4⟩
theorem Grow.push {x:α} {g cap n:Nat} (h:Grow f m I ty B w v xs) (hx:gN B v.ownBlock w (I x)) (hn:n=xs.length + 1) (hown:w'.ownsRow B ty m (.slice (some ⟨g,0,none⟩) n cap) n (xs.flatMap f++f x)) (hg:w.grownBy w' v.ownBlock) (hmv:v.ownBlock=some g∨g=w.heap.size):
 Grow f m I ty B w' (.slice (some ⟨g,0,none⟩) n cap) (xs++[x]):=by
 subst hn;refine ⟨by rw [List.flatMap_append,List.flatMap_singleton,List.length_append]; exact hown,fun y hy=> ?_⟩;show gN B (some g) w' (I y);rcases List.mem_append.1 hy with hy | hy
 ·exact (h.stay y hy).move hg hmv
 ·rw [List.mem_singleton.1 hy]; exact hx.move hg hmv
theorem Grow.cells (hf: ∀x,(f x).length=m) (h:Grow f m I ty B w v xs):eB B w (fun w2=>(∀x ∈ xs,I x w2)∧ ∃ao cap,v= .slice ao xs.length cap∧xs.length<=cap∧ ∀k x,xs[k]? =some x-> ∃g,ao=some ⟨g,0,none⟩∧B<=g∧g < w2.heap.size∧ ∀j u,(f x)[j]? =some u->w2.cell? ⟨g,k * m + j,none⟩=some u):=fun w2 h2=>by
 refine ⟨fun x hx=>(h.stay x hx) w2 h2.x,?_⟩;rcases h.own.2 with ⟨h1,h3⟩ | ⟨g,cap,cur,h1,hB,hg,hc,-,hs,ht⟩
 ·refine ⟨none,0,by rw [h1,h3],by omega,fun k x hk=> ?_⟩;have:=(List.getElem?_eq_some_iff.1 hk).1; omega
 ·refine ⟨some ⟨g,0,none⟩,cap,h1,hc,fun k x hk=>⟨g,rfl,hB,?_⟩⟩;have hg2:=(h2.2 g hB (Array.getElem?_eq_some_iff.1 hg).1).trans hg;refine ⟨(Array.getElem?_eq_some_iff.1 hg2).1,fun j u hu=> ?_⟩;have hF:=flat_get hf xs k x j u hk hu;rw [<- ht] at hF;have hlt:=(List.getElem?_eq_some_iff.1 hF).1;rw [List.getElem?_take_of_lt (by rw [List.length_take] at hlt; omega)] at hF;exact ak hg2 (by rw [<- hF]; simp)
end
theorem iP {W:World} {cs:List Value} {t:TypeId} {fr:Nat × Nat} {g:Nat} (h:W.heap[g]? =some (.cells cs.toArray t fr)): ∀j u,cs[j]? =some u->W.cell? ((⟨g,0,none⟩:Addr).add j)=some u:=fun j u hu=>by
 have:=ak (j:=j) (u:=u) h (by simpa using hu);rcases Nat.eq_zero_or_pos j with rfl | hj
 ·simpa [Addr.add] using this
 ·simpa [Addr.add,Nat.ne_of_gt hj] using this
namespace Md
theorem cell0 {w:World} {g k m:Nat} {u:Value} (h:w.cell? ⟨g,k * m + 0,none⟩=some u):w.cell? ⟨g,0 + k * m,none⟩=some u:=by rw [Nat.zero_add]; exact h
theorem mq {w:World} {g k m j:Nat} {u:Value} (h:w.cell? ⟨g,k * m + j,none⟩=some u):w.cell? ⟨g,0 + k * m + j,none⟩=some u:=by rw [Nat.zero_add]; exact h
structure iZ where
 h:aX
 b:aJ
 e:aJ
 s:Sl
def iZ.f (x:iZ):List Value:=[.int .i64 x.h.op,.int .i64 x.h.line,.string x.h.nm,.string x.h.arg,.slice x.s.dw x.h.idx.len x.s.bJ,.int .i64 x.h.dP,.int .i64 x.h.xn,.string x.h.dO,.slice x.s.dZ x.h.aO.len x.s.dI,.slice x.s.cK x.b.len x.s.aZ,.slice x.s.fF x.e.len x.s.dX]
def iZ.I (x:iZ) (w:World):Prop:=x.h.idx.At w w.heap.size x.s.dw 0∧x.h.aO.At w w.heap.size x.s.dZ 0∧x.b.At w w.heap.size x.s.cK 0∧x.e.At w w.heap.size x.s.fF 0
def pG:List iZ->aJ
 | []=> .nil
 | x ::r=> .cons x.h x.b x.e (pG r)
theorem F3: ∀l,(pG l).len=l.length
 | []=>rfl
 | _ ::r=>by show (pG r).len + 1=_; rw [F3 r]; rfl
theorem V8 {w:World} {ao:Option Addr} : ∀(l:List iZ) (k:Nat),(∀x ∈ l,uP x.h x.b x.e∧x.I w)->(∀i x,l[i]? =some x-> ∃g,ao=some ⟨g,0,none⟩∧g < w.heap.size∧ ∀j u,x.f[j]? =some u->w.cell? ⟨g,(k + i) * 11 + j,none⟩=some u)->(pG l).At w w.heap.size ao k
 | [],_,_,_=>trivial
 | x ::r,k,h1,h2=>by obtain ⟨g,rfl,hg,hc⟩:=h2 0 x rfl;obtain ⟨hok,i1,i2,i3,i4⟩:=h1 x (by simp);refine ⟨⟨g,0,x.s.dw,x.s.bJ,x.s.dZ,x.s.dI,x.s.cK,x.s.aZ,x.s.fF,x.s.dX,rfl,hg,cell0 (hc 0 _ rfl),mq (hc 1 _ rfl),mq (hc 2 _ rfl),mq (hc 3 _ rfl),mq (hc 4 _ rfl),mq (hc 5 _ rfl),mq (hc 6 _ rfl),mq (hc 7 _ rfl),mq (hc 8 _ rfl),mq (hc 9 _ rfl),mq (hc 10 _ rfl),hok,i1,i2,i3,i4⟩,?_⟩;exact V8 r (k + 1) (fun y hy=>h1 y (by simp [hy])) (fun i y hy=>by obtain ⟨g',e,hg',hc'⟩:=h2 (i + 1) y (by simpa using hy);exact ⟨g',e,hg',fun j u hu=>by rw [show k + 1 + i=k + (i + 1) by omega]; exact hc' j u hu⟩)
theorem ZM (x:iZ):(iZ.f x).length=11:=rfl
abbrev Ho (B:Nat) (w:World) (v:Value) (l:List iZ):Prop:=Grow iZ.f 11 iZ.I 107 B w v l
theorem Ho.says {B:Nat} {w:World} {v:Value} {l:List iZ} (h:Ho B w v l) (hok: ∀x ∈ l,uP x.h x.b x.e): ∃ao cap,v= .slice ao (pG l).len cap∧eB B w (fun w2=>(pG l).At w2 w2.heap.size ao 0):=by
 obtain ⟨ao,cap,e⟩:=h.len;refine ⟨ao,cap,by rw [e,F3],fun w2 h2=> ?_⟩;obtain ⟨hI,mH,cap',e',-,hc⟩:=h.cells ZM w2 h2;rw [e] at e'; injection e' with e1 e2 e3; subst e1;exact V8 l 0 (fun x hx=>⟨hok x hx,hI x hx⟩) (fun i x hx=>by obtain ⟨g,h1,-,h3,h4⟩:=hc i x hx;exact ⟨g,h1,h3,fun j u hu=>by rw [Nat.zero_add]; exact h4 j u hu⟩)
def jV (d:De):List Value:=[.int .i64 d.kind,.int .i64 d.line,.string d.nm,.int .i64 d.size,.int .i64 d.init,.string d.on]
theorem Yp {w:World} {ao:Option Addr} : ∀(l:List De) (k:Nat),(∀x ∈ l,x.Ok)->(∀i x,l[i]? =some x-> ∃g,ao=some ⟨g,0,none⟩∧g < w.heap.size∧ ∀j u,(jV x)[j]? =some u->w.cell? ⟨g,(k + i) * 6 + j,none⟩=some u)->gQ w w.heap.size l ao k
 | [],_,_,_=>trivial
 | x ::r,k,h1,h2=>by obtain ⟨g,rfl,hg,hc⟩:=h2 0 x rfl;refine ⟨⟨g,0,rfl,hg,cell0 (hc 0 _ rfl),mq (hc 1 _ rfl),mq (hc 2 _ rfl),mq (hc 3 _ rfl),mq (hc 4 _ rfl),mq (hc 5 _ rfl),h1 x (by simp)⟩,?_⟩;exact Yp r (k + 1) (fun y hy=>h1 y (by simp [hy])) (fun i y hy=>by obtain ⟨g',e,hg',hc'⟩:=h2 (i + 1) y (by simpa using hy);exact ⟨g',e,hg',fun j u hu=>by rw [show k + 1 + i=k + (i + 1) by omega]; exact hc' j u hu⟩)
theorem Qg (x:De):(jV x).length=6:=rfl
abbrev Fa (B:Nat) (w:World) (v:Value) (l:List De):Prop:=Grow jV 6 (fun _ _=>True) 86 B w v l
theorem Fa.says {B:Nat} {w:World} {v:Value} {l:List De} (h:Fa B w v l) (hok: ∀x ∈ l,x.Ok): ∃ao cap,v= .slice ao l.length cap∧l.length<=cap∧eB B w (fun w2=>gQ w2 w2.heap.size l ao 0):=by
 obtain ⟨-,ao,cap,e,hl,-⟩:=h.cells Qg w (jE.refl _ _);refine ⟨ao,cap,e,hl,fun w2 h2=> ?_⟩;obtain ⟨-,mH,cap',e',-,hc⟩:=h.cells Qg w2 h2;rw [e] at e'; injection e' with e1 e2 e3; subst e1;exact Yp l 0 hok (fun i x hx=>by obtain ⟨g,h1,-,h3,h4⟩:=hc i x hx;exact ⟨g,h1,h3,fun j u hu=>by rw [Nat.zero_add]; exact h4 j u hu⟩)
def rC (s:ByteArray):List Value:=[.string s]
theorem YK {w:World} {ao:Option Addr} : ∀(l:List ByteArray) (k:Nat),(∀x ∈ l,x.size<=maxLen)->(∀i x,l[i]? =some x-> ∃g,ao=some ⟨g,0,none⟩∧g < w.heap.size∧ ∀j u,(rC x)[j]? =some u->w.cell? ⟨g,(k + i) * 1 + j,none⟩=some u)->dU w w.heap.size l ao k
 | [],_,_,_=>trivial
 | x ::r,k,h1,h2=>by obtain ⟨g,rfl,hg,hc⟩:=h2 0 x rfl;refine ⟨⟨g,0,rfl,hg,by have:=cell0 (hc 0 _ rfl); simpa using this,h1 x (by simp)⟩,?_⟩;exact YK r (k + 1) (fun y hy=>h1 y (by simp [hy])) (fun i y hy=>by obtain ⟨g',e,hg',hc'⟩:=h2 (i + 1) y (by simpa using hy);exact ⟨g',e,hg',fun j u hu=>by rw [show k + 1 + i=k + (i + 1) by omega]; exact hc' j u hu⟩)
theorem QI (x:ByteArray):(rC x).length=1:=rfl
abbrev jB (B:Nat) (w:World) (v:Value) (l:List ByteArray):Prop:=Grow rC 1 (fun _ _=>True) 9 B w v l
theorem jB.says {B:Nat} {w:World} {v:Value} {l:List ByteArray} (h:jB B w v l) (hok: ∀x ∈ l,x.size<=maxLen): ∃ao cap,v= .slice ao l.length cap∧l.length<=cap∧eB B w (fun w2=>dU w2 w2.heap.size l ao 0):=by
 obtain ⟨-,ao,cap,e,hl,-⟩:=h.cells QI w (jE.refl _ _);refine ⟨ao,cap,e,hl,fun w2 h2=> ?_⟩;obtain ⟨-,mH,cap',e',-,hc⟩:=h.cells QI w2 h2;rw [e] at e'; injection e' with e1 e2 e3; subst e1;exact YK l 0 hok (fun i x hx=>by obtain ⟨g,h1,-,h3,h4⟩:=hc i x hx;exact ⟨g,h1,h3,fun j u hu=>by rw [Nat.zero_add]; exact h4 j u hu⟩)
structure kQ where
 t:Th
 eZ:Option Addr
 dM:Nat
 cK:Option Addr
 aZ:Nat
def kQ.f (x:kQ):List Value:=[.string x.t.nm,.int .i64 x.t.line,.slice x.eZ x.t.cu.length x.dM,.slice x.cK x.t.body.len x.aZ]
def kQ.I (x:kQ) (w:World):Prop:=dU w w.heap.size x.t.cu x.eZ 0∧x.t.body.At w w.heap.size x.cK 0
theorem YJ {w:World} {ao:Option Addr} : ∀(l:List kQ) (k:Nat),(∀x ∈ l,(x.t.Ok∧x.t.cu.length<=x.dM)∧x.I w)->(∀i x,l[i]? =some x-> ∃g,ao=some ⟨g,0,none⟩∧g < w.heap.size∧ ∀j u,x.f[j]? =some u->w.cell? ⟨g,(k + i) * 4 + j,none⟩=some u)->gF w w.heap.size (l.map (·.t)) ao k
 | [],_,_,_=>trivial
 | x ::r,k,h1,h2=>by obtain ⟨g,rfl,hg,hc⟩:=h2 0 x rfl;obtain ⟨⟨hok,hcl⟩,i1,i2⟩:=h1 x (by simp);refine ⟨⟨g,0,x.eZ,x.dM,x.cK,x.aZ,rfl,hg,cell0 (hc 0 _ rfl),mq (hc 1 _ rfl),mq (hc 2 _ rfl),mq (hc 3 _ rfl),hok,i1,i2,hcl⟩,?_⟩;exact YJ r (k + 1) (fun y hy=>h1 y (by simp [hy])) (fun i y hy=>by obtain ⟨g',e,hg',hc'⟩:=h2 (i + 1) y (by simpa using hy);exact ⟨g',e,hg',fun j u hu=>by rw [show k + 1 + i=k + (i + 1) by omega]; exact hc' j u hu⟩)
theorem QG (x:kQ):(kQ.f x).length=4:=rfl
abbrev BG (B:Nat) (w:World) (v:Value) (l:List kQ):Prop:=Grow kQ.f 4 kQ.I 71 B w v l
theorem BG.says {B:Nat} {w:World} {v:Value} {l:List kQ} (h:BG B w v l) (hok: ∀x ∈ l,x.t.Ok∧x.t.cu.length<=x.dM): ∃ao cap,v= .slice ao (l.map (·.t)).length cap∧l.length<=cap∧eB B w (fun w2=>gF w2 w2.heap.size (l.map (·.t)) ao 0):=by
 obtain ⟨-,ao,cap,e,hl,-⟩:=h.cells QG w (jE.refl _ _);refine ⟨ao,cap,by rw [e,List.length_map],hl,fun w2 h2=> ?_⟩;obtain ⟨hI,mH,cap',e',-,hc⟩:=h.cells QG w2 h2;rw [e] at e'; injection e' with e1 e2 e3; subst e1;exact YJ l 0 (fun x hx=>⟨hok x hx,hI x hx⟩) (fun i x hx=>by obtain ⟨g,h1,-,h3,h4⟩:=hc i x hx;exact ⟨g,h1,h3,fun j u hu=>by rw [Nat.zero_add]; exact h4 j u hu⟩)
end Md
def FP (op n:Int) (nm:ByteArray) (kids:bf) (ao:Option Addr) (cap:Nat):List Value:=[.int .i64 op,.int .i64 n,.string nm,.slice ao kids.len cap]
def exV (op n:Int) (nm:ByteArray) (kids:bf) (ao:Option Addr) (cap:Nat):Value:= .agg #[.int .i64 op,.int .i64 n,.string nm,.slice ao kids.len cap]
theorem Xv {B:Nat} {w:World} {g:Nat} {cs:Array Value} {t:TypeId} {fr:Nat × Nat} (hb:w.heap[g]? =some (.cells cs t fr)) (ht:B<=g):eB B w (fun w2=>g < w2.heap.size∧ ∀j u,cs[j]? =some u->w2.cell? ⟨g,j,none⟩=some u):=fun w2 h=>by
 have h2:=(h.2 g ht (Array.getElem?_eq_some_iff.1 hb).1).trans hb;exact ⟨(Array.getElem?_eq_some_iff.1 h2).1,fun j u hu=>ak h2 hu⟩
theorem He {B:Nat} {w:World} {g:Nat} {op n:Int} {nm:ByteArray} {kids:bf} {ao:Option Addr} {cap:Nat} {t:TypeId} {fr:Nat × Nat} (hb:w.heap[g]? =some (.cells (FP op n nm kids ao cap).toArray t fr)) (ht:B<=g) (hok:xW op n nm kids) (hk:eB B w (fun w2=>kids.At w2 w2.heap.size ao 0)):
 eB B w (fun w2=>(bf.cons op n nm kids .nil).At w2 w2.heap.size (some ⟨g,0,none⟩) 0):=fun w2 h=>by
 obtain ⟨hl,hc⟩:=Xv hb ht w2 h;exact ⟨⟨g,0,ao,cap,rfl,hl,hc 0 _ rfl,hc 1 _ rfl,hc 2 _ rfl,hc 3 _ rfl,hok,hk w2 h⟩,trivial⟩
theorem F5 {w:World} {g:Nat} {cs:Array Value} {t:TypeId} (h:w.heap[g]? =some (.cells cs t (0,0))) {n:Nat} (hn:n<=cs.size):w.there g 0 n:=fun j hj=>by
 refine ⟨?_,aU h⟩;rw [cell_of_row w g _ cs t (0,0) h];simp; omega
theorem kL {w:World} {g:Nat} {cs:Array Value} {t:TypeId} {vs:List Value} (h:w.heap[g]? =some (.cells cs t (0,0))) (hl:vs.length=cs.size):(w.setCells g 0 vs).heap[g]? =some (.cells vs.toArray t (0,0)):=by
 obtain ⟨cur',h1,h2,h3⟩:=A8 vs 0 w cs h (by omega);rw [h1];have e:cur'.toList=vs:=by rw [Nat.zero_add,List.take_of_length_le (by simp; omega)] at h3;simpa using h3
 rw [<- e]
end Go.Proofs.YtgjmahnblcajbaaGreatDoor
