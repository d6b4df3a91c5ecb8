/- A region that draws its order, whose operations may make memory and call functions that write: whatever the order, what each operation yields has a property that stays. No program in sight. And what hangs on it. -/
import Derived.Test.YtkmllehjemjgpaaGreatDoorGMA
import Derived.Deep.AppendLies
import Derived.Deep.MidRow
set_option linter.unusedSimpArgs false
set_option linter.unusedVariables false
set_option maxHeartbeats 40000000
set_option maxRecDepth 1000000
namespace Go.Proofs.YtkmllehjemjgpaaGreatDoor
section
open Go.RowKit
abbrev RP:=Value->World->Prop
def dL (a:Act):Option Tmp->Value
 |none=>undef
 |some d=>a.eval (.tmp d)
def Jh (ents:List (Option Tmp×RP)) (A:Act) (w:World):List Edge->Prop
 | []=>True
 |e::r=>(if Region.binds .any e=true then(match ents[e.on]? with|some (d,R)=>R (dL A d) w|none=>True)else True)∧Jh ents A w r
def gd (ents:List (Option Tmp×RP)) (A:Act) (o:Oper):Bool:=
 match o.guard with
 |none=>true
 |some (g,b)=>match ents[g]? with
  |some (some d,_)=>match A.eval (.tmp d)with
   | .bool x=>x==b
   |_=>false
  |_=>false
def aG (C:World->Prop) (Le:World->World->Prop) (R:RP) (A:Act) (dst:Option Tmp) (w:World) (a':Act) (w':World):Prop:=
 ∃v,a'=A.put dst v∧Le w w'∧C w'∧R (if dst.isSome then v else undef) w'
theorem aG.mk {C:World->Prop} {Le:World->World->Prop} {R:RP} {A:Act} {d:Tmp} {w w':World} {v:Value} (hle:Le w w') (hC:C w') (hR:R v w'):aG C Le R A (some d) w (A.put (some d) v) w':=⟨v,rfl,hle,hC,hR⟩
theorem aG.yQ {C:World->Prop} {Le:World->World->Prop} {R:RP} {A:Act} {w w':World} {v:Value} (hle:Le w w') (hC:C w') (hR:R undef w'):aG C Le R A none w (A.put none v) w':=⟨v,rfl,hle,hC,hR⟩
def U9 (P:Program) (a0:Act) (Q:Exit->Act->World->Prop) (C:Bool->World->Prop) (Le:World->World->Prop) (dS:List Tmp) (ents:List (Option Tmp×RP)) (o:Oper) (R:RP) (isK:Bool):Prop:=
 ∀β A w,(isK=true->β=false)->C β w->(∀s,dS.contains s=false->A.eval (.tmp s)=a0.eval (.tmp s))->Jh ents A w o.after.toList->
  if gd ents A o then o.wp P A w (aG (C (β||isK)) Le R A o.dst w) Q else(isK=false∧R undef w)
def aW (c:Value):RP:=λv _=>v=c
theorem aW.mono {c:Value} {Le:World->World->Prop} : ∀v w w',Le w w'->aW c v w->aW c v w':=λ_ _ _ _ h=>h
theorem aW.mk (c:Value) (w:World):aW c c w:=rfl
def dA (w:World) (K:Act->Prop):List (Option Tmp×RP)->Act->Prop
 | [],a=>K a
 |(d,R)::r,a=> ∀v,R v w->dA w K r (a.put d v)
theorem jv {w:World} {K:Act->Prop} {a:Act} {d:Option Tmp} {x:Value} {r:List (Option Tmp×RP)} (h:dA w K r (a.put d x)):dA w K ((d,aW x)::r) a:=λv hv=>by
 rw[show v=x from hv];exact h
attribute [simp] Jh aW dL Region.binds
def dQ (P:Program) (a0:Act) (Q:Exit->Act->World->Prop) (C:Bool->World->Prop) (Le:World->World->Prop) (dS:List Tmp) (k0:Nat):List Oper->List (Option Tmp×RP)->Prop
 | [],ents=> ∀w,C (decide (k0<ents.length)) w->dA w (λa=>Q .normal a w) ents a0
 |o::rest,ents=> ∃R:RP,(∀v w w',Le w w'->R v w->R v w')∧U9 P a0 Q C Le dS ents o R (decide (ents.length=k0))∧dQ P a0 Q C Le dS k0 rest (ents++[(o.dst,R)])
section
variable {P:Program} {a0:Act} {Q:Exit->Act->World->Prop} {C:Bool->World->Prop} {Le:World->World->Prop} {dS:List Tmp} {k0:Nat}
theorem dQ.full: ∀ {l:List Oper} {ents:List (Option Tmp×RP)},dQ P a0 Q C Le dS k0 l ents->∃full:List (Option Tmp×RP),full.length=ents.length+l.length∧full.take ents.length=ents∧
 (∀(i:Nat) (o:Oper),l[i]? =some o->∃R,full[ents.length+i]? =some (o.dst,R)∧(∀v w w',Le w w'->R v w->R v w')∧U9 P a0 Q C Le dS (full.take (ents.length+i)) o R (decide (ents.length+i=k0)))∧
 ∀w,C (decide (k0<full.length)) w->dA w (λa=>Q .normal a w) full a0
 | [],ents,h=>⟨ents,by simp,by simp,by simp,h⟩
 |o::rest,ents,h=>by
  obtain⟨R,hm,ho,hr⟩:=h;obtain⟨full,h1,h2,h3,h4⟩:=dQ.full hr;simp only[List.length_append,List.length_cons,List.length_nil,Nat.zero_add]at h1 h2 h3;have hlen:ents.length<full.length:=by omega
  have hget:full[ents.length]? =some (o.dst,R):=by have:=congrArg (λl=>l[ents.length]?) h2;simpa using this
  refine⟨full,by simp;omega,?_,?_,h4⟩
  ·have:=congrArg (List.take ents.length) h2;simpa[List.take_take]using this
  ·intro i o' hi;cases i with
   |zero=>simp only[List.getElem?_cons_zero,Option.some.injEq]at hi;subst hi;refine⟨R,by simpa using hget,hm,?_⟩;have:full.take (ents.length+0)=ents:=(by have:=congrArg (List.take ents.length) h2;simpa[List.take_take]using this);rw[this];exact ho
   |succ i=>have hi':rest[i]? =some o':=(by simpa using hi);have:=h3 i o' hi';rw[show ents.length+(i+1)=ents.length+1+i by omega];exact this
theorem dQ.step {o:Oper} {rest:List Oper} {ents:List (Option Tmp×RP)} {v:Value} (aJ:U9 P a0 Q C Le dS ents o (aW v) (decide (ents.length=k0))) (hrest:dQ P a0 Q C Le dS k0 rest (ents++[(o.dst,aW v)])):dQ P a0 Q C Le dS k0 (o::rest) ents:=
 ⟨aW v,aW.mono,aJ,hrest⟩
theorem dQ.some {o:Oper} {rest:List Oper} {ents:List (Option Tmp×RP)} (R:RP) (hmono: ∀v w w',Le w w'->R v w->R v w') (aJ:U9 P a0 Q C Le dS ents o R (decide (ents.length=k0))) (hrest:dQ P a0 Q C Le dS k0 rest (ents++[(o.dst,R)])):dQ P a0 Q C Le dS k0 (o::rest) ents:=
 ⟨R,hmono,aJ,hrest⟩
theorem dA.use {w:World} {K:Act->Prop} {a':Act} : ∀ {ents:List (Option Tmp×RP)} {a:Act},dA w K ents a->(∀(i:Nat) (d:Option Tmp) (R:RP),ents[i]? =some (d,R)->R (dL a' d) w)->
 a'.defers=a.defers->a'.tmps.size=a.tmps.size->(∀s:Nat,(∀(i:Nat) (d:Tmp) (R:RP),ents[i]? =some (some d,R)->d≠s)->a'.tmps[s]? =a.tmps[s]?)->K a'
 | [],a,h,_,hd,_,hs=>by
   have e:a'=a:=by cases a';cases a;simp only at hd hs⊢;congr 1;exact Array.ext_getElem? (λs=>hs s (by simp))
   rw[e];exact h
 |(d,R)::r,a,h,hR,hd,hz,hs=>by
  have h1:=h (dL a' d) (hR 0 d R rfl);refine dA.use h1 (λi d' R' hi=>hR (i+1) d' R' (by simpa using hi)) ?_ ?_ ?_
  ·cases d <;> simpa[Act.put]using hd
  ·cases d <;> simpa[Act.put]using hz
  ·intro s hne;cases d with
   |none=>exact hs s (λi d' R' hi=>by
    cases i with
    |zero=>simp at hi
    |succ i=>exact hne i d' R' (by simpa using hi))
   |some d=>
    by_cases hds:d=s
    ·subst hds;simp only[Act.put,dL,Act.eval];by_cases hlt:d<a.tmps.size
     ·have hlt':d<a'.tmps.size:=(by rw[hz];exact hlt);rw[Array.getElem?_setIfInBounds_self_of_lt hlt];simp[Array.getElem?_eq_getElem hlt']
     ·have hge:a.tmps.size<=d:=Nat.le_of_not_lt hlt;rw[Array.getElem?_eq_none (by rw[hz];exact hge),Array.getElem?_eq_none (by rw[Array.size_setIfInBounds];exact hge)]
    ·rw[hs s (λi d' R' hi=>by
      cases i with
      |zero=>simp at hi;rw[<- hi.1];exact hds
      |succ i=>exact hne i d' R' (by simpa using hi))]
     simp[Act.put,Array.getElem?_setIfInBounds_ne hds]
def cnt (listed:Array Bool):Nat->Nat
 |0=>0
 |k+1=>cnt listed k+if listed.getD k false then 0 else 1
theorem FY {listed:Array Bool} {i:Nat} (hi:i<listed.size) (hu:listed.getD i false=false): ∀n,cnt (listed.setIfInBounds i true) n+(if i<n then 1 else 0)=cnt listed n
 |0=>by simp[cnt]
 |n+1=>by
  have ih:=FY hi hu n;simp only[cnt];by_cases hin:i=n
  ·subst hin;have h1:(listed.setIfInBounds i true).getD i false=true:=by simp[hi]
   rw[h1,hu];simp only[Nat.lt_irrefl,if_false]at ih;simp;omega
  ·rw[getD_set_ne false hin];by_cases hlt:i<n
   ·have h2:i<n+1:=(by omega);simp only[hlt,if_true]at ih;simp only[h2,if_true];omega
   ·have h2: ¬i<n+1:=(by omega);simp only[hlt,if_false]at ih;simp only[h2,if_false];omega
theorem Di {listed:Array Bool} : ∀ {n:Nat},cnt listed n=0->∀i,i<n->listed.getD i false=true
 |0,_,_,hi=>absurd hi (by omega)
 |n+1,h,i,hi=>by
  simp only[cnt]at h;by_cases hin:i=n
  ·subst hin;cases hg:listed.getD i false
   ·rw[hg]at h;simp at h
   ·rfl
  ·exact Di (n:=n) (by omega) i (by omega)
def Tj (dS:List Tmp) (l:List Oper):Bool:=
 (l.filterMap (·.dst)==dS)&&decide dS.Nodup&&(l.zipIdx.all λx=>(x.1.after.all λe=>decide (e.on<x.2))&&(match x.1.guard with|none=>true|some (g,_)=>decide (g<x.2)))
theorem BF: ∀ {l:List Oper},(l.filterMap (·.dst)).Nodup->∀(i j:Nat) (oi oj:Oper) (d:Tmp),l[i]? =some oi->l[j]? =some oj->oi.dst=some d->oj.dst=some d->i=j
 | [],_,i,_,_,_,_,h,_,_,_=>by simp at h
 |o::r,hn,i,j,oi,oj,d,hi,hj,hdi,hdj=>by
  have key: ∀(k:Nat) (ok:Oper),r[k]? =some ok->ok.dst=some d->o.dst=some d->False:=λk ok hk hdk ho=>by rw[List.filterMap_cons_some ho]at hn;exact(List.nodup_cons.1 hn).1 (List.mem_filterMap.2 ⟨ok,List.mem_of_getElem? hk,hdk⟩)
  have hn':(r.filterMap (·.dst)).Nodup:=by
   cases ho:o.dst with
   |none=>rwa [List.filterMap_cons_none ho]at hn
   |some d'=>rw[List.filterMap_cons_some ho]at hn;exact(List.nodup_cons.1 hn).2
  cases i with
  |zero=>
   cases j with
   |zero=>rfl
   |succ j=>simp only[List.getElem?_cons_zero,Option.some.injEq,List.getElem?_cons_succ]at hi hj;subst hi;exact(key j oj hj hdj hdi).elim
  |succ i=>
   cases j with
   |zero=>simp only[List.getElem?_cons_zero,Option.some.injEq,List.getElem?_cons_succ]at hi hj;subst hj;exact(key i oi hi hdi hdj).elim
   |succ j=>simp only[List.getElem?_cons_succ]at hi hj;rw[BF hn' i j oi oj d hi hj hdi hdj]
theorem Kc {full:List (Option Tmp×RP)} {A:Act} {w:World} {i:Nat} : ∀ {l:List Edge},(∀e∈l,Region.binds .any e=true->∀(d:Option Tmp) (R:RP),full[e.on]? =some (d,R)->R (dL A d) w)->Jh (full.take i) A w l
 | [],_=>trivial
 |e::r,h=>by
  refine⟨?_,Kc λe' he'=>h e' (by simp[he'])⟩;split
  case isFalse=>trivial
  case isTrue hb=>
  cases hg:(full.take i)[e.on]? with
  |none=>trivial
  |some x=>
   obtain⟨d,R⟩:=x;rw[List.getElem?_take]at hg;split at hg
   ·exact h e (by simp) hb d R hg
   ·cases hg
def ap3 (a0:Act) (C:Bool->World->Prop) (k0:Nat) (full:List (Option Tmp×RP)) (n:Nat) (listed:Array Bool) (a:Act) (w:World):Prop:=
 listed.size=n∧C (listed.getD k0 false) w∧a.defers=a0.defers∧a.tmps.size=a0.tmps.size∧
 (∀s:Nat,(∀(i:Nat) (d:Tmp) (R:RP),full[i]? =some (some d,R)->listed.getD i false=true->d≠s)->a.tmps[s]? =a0.tmps[s]?)∧
 ∀(i:Nat) (d:Option Tmp) (R:RP),full[i]? =some (d,R)->listed.getD i false=true->R (dL a d) w
theorem Ws {ops:Array Oper} {full:List (Option Tmp×RP)} {o:Oper} {A:Act} {i:Nat} (hf: ∀(k:Nat) (ok:Oper),ops[k]? =some ok->∃R,full[k]? =some (ok.dst,R)) (hlen:full.length=ops.size)
 (hg: ∀g b,o.guard=some (g,b)->g<i):Region.wanted o (yielded ops A.tmps)=gd (full.take i) A o:=by
 unfold Region.wanted gd;cases ho:o.guard with
 |none=>rfl
 |some x=>
  obtain⟨g,b⟩:=x;have hgi:=hg g b ho;simp only;rw[List.getElem?_take,if_pos hgi];unfold yielded;cases hk:ops[g]? with
  |none=>have:full[g]? =none:=List.getElem?_eq_none (by rw[hlen];exact Array.getElem?_eq_none_iff.1 hk);rw[this];rfl
  |some ok=>
   obtain⟨R,hR⟩:=hf g ok hk;rw[hR];simp only[Option.bind_some];cases hd:ok.dst with
   |none=>rfl
   |some d=>
    simp only[Option.bind_some,Act.eval];cases ht:A.tmps[d]? with
    |none=>simp[ht,undef]
    |some v=>simp only[Array.getD_eq_getD_getElem?,ht,Option.getD_some];cases v <;> first|rfl|(rename_i x;cases x <;> cases b <;> rfl)
theorem YT {l:List Oper} {full:List (Option Tmp×RP)} (CG: ∀w,Le w w) (hbd: ∀d∈dS,d<a0.tmps.size) (hlen:full.length=l.length) (hnd:(l.filterMap (·.dst)).Nodup) (rW:l.filterMap (·.dst)=dS)
 (hed: ∀(i:Nat) (o:Oper),l[i]? =some o->∀e∈o.after,e.on<i) (hgu: ∀(i:Nat) (o:Oper),l[i]? =some o->∀g b,o.guard=some (g,b)->g<i)
 (hf: ∀(i:Nat) (o:Oper),l[i]? =some o->∃R,full[i]? =some (o.dst,R)∧(∀v w w',Le w w'->R v w->R v w')∧U9 P a0 Q C Le dS (full.take i) o R (decide (i=k0)))
 (hend: ∀w,C (decide (k0<l.length)) w->dA w (λa=>Q .normal a w) full a0):
 ∀(fuel:Nat) (listed:Array Bool) (a:Act) (w:World),cnt listed l.length<=fuel->ap3 a0 C k0 full l.length listed a w->wpAny P .any l.toArray Q fuel listed a w:=by
 have hmono: ∀(i:Nat) (d:Option Tmp) (R:RP),full[i]? =some (d,R)->∀v w w',Le w w'->R v w->R v w':=λi d R hi=>by
  have hlt:i<l.length:=by rw[<- hlen];exact(List.getElem?_eq_some_iff.1 hi).1
  obtain⟨R',h1,h2,-⟩:=hf i l[i] (List.getElem?_eq_getElem hlt);rw[hi]at h1;simp only[Option.some.injEq,Prod.mk.injEq]at h1;rw[h1.2];exact h2
 have hdst: ∀(i:Nat) (d:Option Tmp) (R:RP),full[i]? =some (d,R)->∃o,l[i]? =some o∧o.dst=d:=λi d R hi=>by
  have hlt:i<l.length:=by rw[<- hlen];exact(List.getElem?_eq_some_iff.1 hi).1
  obtain⟨R',h1,-⟩:=hf i l[i] (List.getElem?_eq_getElem hlt);rw[hi]at h1;simp only[Option.some.injEq,Prod.mk.injEq]at h1;exact⟨l[i],List.getElem?_eq_getElem hlt,h1.1.symm⟩
 have hall: ∀listed a w,ap3 a0 C k0 full l.length listed a w->(∀i,i<l.length->listed.getD i false=true)->Q .normal a w:=λlisted a w hI ha=>by
  obtain⟨hsz0,hC,hd,hz,hs,hR⟩:=hI;have hk:listed.getD k0 false=decide (k0<l.length):=by
   by_cases h:k0<l.length
   ·rw[ha k0 h,decide_eq_true h]
   ·have hsz:listed.size=l.length:=(by assumption);rw[decide_eq_false h];simp[Array.getElem?_eq_none (show listed.size<=k0 by omega)]
  rw[hk]at hC;refine(hend w hC).use (λi d R hi=>hR i d R hi (ha i ?_)) hd hz (λs hne=>hs s (λi d R hi _=>hne i d R hi));rw[<- hlen];exact(List.getElem?_eq_some_iff.1 hi).1
 have Fb: ∀listed:Array Bool,listed.size=l.length->Region.ready .any l.toArray listed=[]->∀i,i<l.length->listed.getD i false=true:=λlisted hsz hr i=>by
  induction i using Nat.strongRecOn with
  |_ i ih=>
   intro hi;cases hg:listed.getD i false with
   |true=>rfl
   |false=>exfalso;have:i∈Region.ready .any l.toArray listed:=mem_ready.2 ⟨by have h1:i<listed.size:=(by omega);simp[h1]at hg⊢;exact hg,l[i],by simp[hi],λe he _=>ih e.on (hed i l[i] (List.getElem?_eq_getElem hi) e he) (by have:=hed i l[i] (List.getElem?_eq_getElem hi) e he;omega)⟩;rw[hr]at this;cases this
 intro fuel
 induction fuel with
 |zero=>
  intro listed a w hc hI;have ha:=Di (Nat.le_zero.1 hc);refine⟨?_,hall listed a w hI ha⟩;rw[List.eq_nil_iff_forall_not_mem];intro i hi;obtain⟨h0,o,ho,-⟩:=mem_ready.1 hi;have hlt:i<l.length:=by simpa using(Array.getElem?_eq_some_iff.1 ho).1
  have:=ha i hlt;have h1:i<listed.size:=by rw[hI.1];exact hlt
  simp[h1]at h0 this;rw[h0]at this;cases this
 |succ fuel ih=>
  intro listed a w hc hI;refine⟨λhr=>hall listed a w hI (Fb listed hI.1 hr),λi hi=> ?_⟩;obtain⟨h0,o,ho,BU⟩:=mem_ready.1 hi;have hlt:i<l.length:=by simpa using(Array.getElem?_eq_some_iff.1 ho).1
  have hlo:l[i]? =some o:=by simpa using ho
  have hls:i<listed.size:=by rw[hI.1];exact hlt
  have hun:listed.getD i false=false:=by simp[hls]at h0⊢;exact h0
  obtain⟨R,GN,hRm,V6⟩:=hf i o hlo;obtain⟨hsz,hC,hd,hz,hs,hR⟩:=hI;have hW:=Ws (A:=a) (o:=o) (i:=i) (ops:=l.toArray) (full:=full) (λk ok hk=>by obtain⟨R',h1,-⟩:=hf k ok (by simpa using hk);exact⟨R',h1⟩) (by simpa using hlen) (hgu i o hlo);have hstep:=V6 (listed.getD k0 false) a w (λhk=>by rw[<- of_decide_eq_true hk];exact hun) hC (λs hs'=>by have:a.tmps[s]? =a0.tmps[s]?:=hs s (λk d R' hk _ e=>by obtain⟨ok,hok,hdk⟩:=hdst k (some d) R' hk;have:d∈dS:=(by rw[<- rW];exact List.mem_filterMap.2 ⟨ok,List.mem_of_getElem? hok,hdk⟩);rw[e]at this;simp at hs';exact hs' this);simp[Act.eval,this]) (Kc (λe he hb d R' hR'=>hR e.on d R' hR' (BU e (by simpa using he) hb)));have hnext: ∀(v:Value) (w':World),Le w w'->C (listed.getD k0 false||decide (i=k0)) w'->R (dL (a.put o.dst v) o.dst) w'->wpAny P .any l.toArray Q fuel (listed.setIfInBounds i true) (a.put o.dst v) w':=λv w' hle hC' hv=>by
   refine ih _ _ _ ?_ ⟨by simp[hsz],?_,?_,?_,?_,?_⟩
   rotate_left
   ·have:(listed.setIfInBounds i true).getD k0 false=(listed.getD k0 false||decide (i=k0)):=by
     by_cases hk:i=k0
     ·subst hk;simp[hls]
     ·rw[getD_set_ne false hk,decide_eq_false hk,Bool.or_false]
    rw[this];exact hC'
   rotate_right
   ·have:=FY hls hun l.length;rw[if_pos hlt]at this;omega
   ·cases o.dst <;> simpa[Act.put]using hd
   ·cases o.dst <;> simpa[Act.put]using hz
   ·intro s hne;have h1:a.tmps[s]? =a0.tmps[s]?:=hs s (λk d R' hk hl=>hne k d R' hk (getD_set_true hl));cases hod:o.dst with
    |none=>simpa[Act.put]using h1
    |some d=>have hds:d≠s:=hne i d R (by rw[GN,hod]) (by simp[hls]);simp only[Act.put];rw[Array.getElem?_setIfInBounds_ne hds];exact h1
   ·intro k d R' hk hl;by_cases hik:i=k
    ·subst hik;rw[GN]at hk;simp only[Option.some.injEq,Prod.mk.injEq]at hk;obtain⟨rfl,rfl⟩:=hk;exact hv
    ·have hl':listed.getD k false=true:=(by rwa [getD_set_ne false hik]at hl);have h1:=hmono k d R' hk _ _ _ hle (hR k d R' hk hl');have:dL (a.put o.dst v) d=dL a d:=by
      cases hod:o.dst with
      |none=>rfl
      |some d1=>
       cases d with
       |none=>rfl
       |some d2=>
        have hne:d1≠d2:=λe=>by obtain⟨ok,hok,hdk⟩:=hdst k (some d2) R' hk;exact hik (BF hnd i k o ok d2 hlo hok (by rw[hod,e]) hdk)
        simp[dL,Act.eval,Act.put,Array.getElem?_setIfInBounds_ne hne]
     rw[this];exact h1
  unfold wpOp;simp only[ho];rw[hW];cases hgd:gd (full.take i) a o with
  |true=>
   rw[hgd]at hstep;simp only[if_true]at hstep⊢;refine Or.inl (Oper.wp_mono ?_ hstep);rintro a' w' ⟨v,rfl,hle,hC',hv⟩;refine hnext v w' hle hC' ?_;cases hod:o.dst with
   |none=>rw[hod]at hv;exact hv
   |some d=>rw[hod]at hv;simp only[Option.isSome_some,if_true]at hv;have hdl:d<a.tmps.size:=(by rw[hz];exact hbd d (by rw[<- rW];exact List.mem_filterMap.2 ⟨o,List.mem_of_getElem? hlo,hod⟩));simpa[dL,Act.eval,Act.put,hdl]using hv
  |false=>
   rw[hgd]at hstep;simp only[Bool.false_eq_true,if_false]at hstep⊢;refine hnext undef w (CG w) (by rw[hstep.1,Bool.or_false];exact hC) ?_;cases hod:o.dst with
   |none=>exact hstep.2
   |some d=>have hdl:d<a.tmps.size:=(by rw[hz];exact hbd d (by rw[<- rW];exact List.mem_filterMap.2 ⟨o,List.mem_of_getElem? hlo,hod⟩));simpa[dL,Act.eval,Act.put,hdl]using hstep.2
theorem wE {f:Oper×Nat->Bool} {l:List Oper} (h:l.zipIdx.all f=true) (i:Nat) (o:Oper) (hi:l[i]? =some o):f (o,i)=true:=by
 rw[List.all_eq_true]at h;refine h (o,i) (List.mem_of_getElem? (i:=i) ?_);rw[List.getElem?_zipIdx,hi];simp
theorem xC {id:Nat} {l:List Oper} {w:World} (k0:Nat) (C:Bool->World->Prop) (Le:World->World->Prop) (dS:List Tmp) (hm:P.follows .mixedOrders=true) (hB:Tj dS l=true) (CG: ∀w,Le w w) (hbd:(dS.all λd=>decide (d<a0.tmps.size))=true) (hC:C false (w.drewN 1))
 (h:dQ P a0 Q C Le dS k0 l []):(Code.region id l.toArray true).wp P Q a0 w:=by
 unfold Tj at hB;simp only[Bool.and_eq_true,beq_iff_eq,decide_eq_true_eq]at hB;obtain⟨⟨rW,hnd⟩,hz⟩:=hB;obtain⟨full,h1,-,h3,h4⟩:=h.full;simp only[List.length_nil,Nat.zero_add]at h1 h3;have hed: ∀(i:Nat) (o:Oper),l[i]? =some o->(∀e∈o.after,e.on<i)∧∀g b,o.guard=some (g,b)->g<i:=λi o hi=>by have:=wE hz i o hi;simp only[Bool.and_eq_true,Array.all_eq_true_iff_forall_mem,decide_eq_true_eq]at this;refine⟨this.1,λg b hg=> ?_⟩;have h2:=this.2;rw[hg]at h2;simpa using h2
 refine wp_region_any hm ?_;have hdr:({w with drawn:=w.drawn+1} :World)=w.drewN 1:=rfl;rw[hdr];refine YT CG (λd hd=>by rw[List.all_eq_true]at hbd;simpa using hbd d hd) h1 (by rw[rW];exact hnd) rW (λi o hi=>(hed i o hi).1) (λi o hi=>(hed i o hi).2) h3 (by rw[<- h1];exact h4) _ _ _ _ ?_ ⟨by simp,by rw[show(Array.replicate l.toArray.size false).getD k0 false=false by(rw[Array.getD_eq_getD_getElem?];by_cases hk:k0<l.length <;> simp[hk])];exact hC,rfl,rfl,λ_ _=>rfl,λi d R _ hl=> ?_⟩
 ·have: ∀n,cnt (Array.replicate l.toArray.size false) n<=n:=λn=>by
   induction n with
   |zero=>simp[cnt]
   |succ n ih=>simp only[cnt];split <;> omega
  simpa using this l.length
 ·exfalso;rw[Array.getD_eq_getD_getElem?]at hl;by_cases hi:i<l.length
  ·simp[hi]at hl
  ·rw[Array.getElem?_eq_none (by simpa using hi)]at hl;cases hl
theorem qE {id:Nat} {l:List Oper} {w:World} (C:World->Prop) (Le:World->World->Prop) (dS:List Tmp) (hm:P.follows .mixedOrders=true) (hB:Tj dS l=true) (CG: ∀w,Le w w) (hbd:(dS.all λd=>decide (d<a0.tmps.size))=true) (hC:C (w.drewN 1))
 (h:dQ P a0 Q (λ_=>C) Le dS 1000000 l []):(Code.region id l.toArray true).wp P Q a0 w:=xC 1000000 (λ_=>C) Le dS hm hB CG hbd hC h
end
end
open Go.RowKit
def nH (o:Oper):List Nat:=(o.after.toList.filter (Region.binds .any)).map (·.on)
def RQ (l:List Oper) (qG:List (List Nat)):Bool:=l.zipIdx.all λx=>(qG.getD x.2 []).all λk=>(nH x.1).any λd=>d==k||(qG.getD d []).contains k
def okB:List (Option Bool)->List Bool->Prop
 |some x::r,b::bs=>b=x∧okB r bs
 |none::r,_::bs=>okB r bs
 | [],[]=>True
 |_,_=>False
def gJ:List Nat->List Bool->Nat->List Bool
 |x::r,b::bs,i=>(b||x==i)::gJ r bs i
 |_,_,_=>[]
def Xq (n:Nat) (ws:List Nat) (qG:List (List Nat)) (bnd:List (List (Option Bool))):Bool:=
 decide (bnd.length=n)&&(ws.all λw=>decide (w<n))&&(List.range n).all λi=>decide ((bnd.getD i []).length=ws.length)&&((bnd.getD i []).zip ws).all λx=>match x.1 with|none=>true|some true=>(qG.getD i []).contains x.2|some false=>(qG.getD x.2 []).contains i||x.2==i
theorem yP {o:Oper} {e:Edge} (he:e∈o.after) (hb:Region.binds .any e=true):e.on∈nH o:=by
 unfold nH;exact List.mem_map.2 ⟨e,List.mem_filter.2 ⟨by simpa using he,hb⟩,rfl⟩
def Fy (n:Nat) (qG:List (List Nat)) (k1:Nat):Bool:=(List.range n).all λi=>decide (i<k1)||(List.range k1).all λj=>(qG.getD i []).contains j
def mP (n k:Nat):Array Bool:=((List.range n).map λi=>decide (i<k)).toArray
theorem jJ (n k i:Nat):(mP n k).getD i false=(decide (i<n)&&decide (i<k)):=by
 unfold mP;rw[Array.getD_eq_getD_getElem?,List.getElem?_toArray,List.getElem?_map];by_cases h:i<n
 ·rw[List.getElem?_range h];simp[h]
 ·rw[List.getElem?_eq_none (by simp;omega)];simp[h]
theorem qK (n k:Nat):(mP n k).size=n:=by simp[mP]
theorem Kn {n k:Nat} {listed:Array Bool} (hs:listed.size=n) (h1: ∀i,i<k->listed.getD i false=true) (h2: ∀i,k<=i->listed.getD i false=false):listed=mP n k:=by
 refine Array.ext (by rw[hs,qK]) (λi hi hi'=> ?_);have e1:listed.getD i false=listed[i]:=by rw[Array.getD_eq_getD_getElem?,Array.getElem?_eq_getElem hi];rfl
 have e2:(mP n k).getD i false=(mP n k)[i]:=by rw[Array.getD_eq_getD_getElem?,Array.getElem?_eq_getElem hi'];rfl
 rw[<- e1,<- e2,jJ];have hin:i<n:=by rw[<- hs];exact hi
 by_cases hk:i<k
 ·rw[h1 i hk];simp[hin,hk]
 ·rw[h2 i (by omega)];simp[hk]
theorem I5 (n k:Nat) (hk:k<=n): ∀m,m<=n->cnt (mP n k) m=m -k
 |0,_=>by simp[cnt]
 |m+1,hm=>by
  have ih:=I5 n k hk m (by omega);simp only[cnt,ih,jJ];by_cases h:m<k
  ·have:m<n:=by omega
   simp[h,this];omega
  ·simp[h];omega
def Nk (P:Program) (a0:Act) (Q:Exit->Act->World->Prop) (C:List Bool->World->Prop) (Le:World->World->Prop) (dS:List Tmp) (ents:List (Option Tmp×RP)) (o:Oper) (R:RP) (ws:List Nat) (pat:List (Option Bool)):Prop:=
 ∀c A w,okB pat c->C c w->(∀s,dS.contains s=false->A.eval (.tmp s)=a0.eval (.tmp s))->Jh ents A w o.after.toList->
  if gd ents A o then o.wp P A w (aG (C (gJ ws c ents.length)) Le R A o.dst w) Q else(C (gJ ws c ents.length) w∧R undef w)
def aR (P:Program) (a0:Act) (Q:Exit->Act->World->Prop) (C:List Bool->World->Prop) (Le:World->World->Prop) (dS:List Tmp) (ws:List Nat) (K:Act->World->Prop) (k0:Nat):List Oper->List (List (Option Bool))->List (Option Tmp×RP)->Prop
 |o::rest,b::bs,ents=> ∃R:RP,(∀v w w',Le w w'->R v w->R v w')∧Nk P a0 Q C Le dS ents o R ws b∧aR P a0 Q C Le dS ws K k0 rest bs (ents++[(o.dst,R)])
 |_,_,ents=> ∀w,C (ws.map λ_=>true) w->dA w (λa=>K a w) (ents.drop k0) a0
def EU (l:List Oper):List (Option Tmp×RP):=l.map λo=>(o.dst,λ_ _=>True)
theorem eP {α:Type} :(∀(n:Nat) (a:α) (l:List α),(a::l).take (n+1)=a::l.take n)∧(∀l:List α,l.take 0=[])∧(∀l:List α,l.drop 0=l)∧∀(n:Nat) (a:α) (l:List α),(a::l).drop (n+1)=l.drop n:=⟨λ_ _ _=>rfl,λ_=>rfl,λ_=>rfl,λ_ _ _=>rfl⟩
theorem jq:EU []=[]∧∀o l,EU (o::l)=(o.dst,λ_ _=>True)::EU l:=⟨rfl,λ_ _=>rfl⟩
section
variable {P:Program} {a0:Act} {Q:Exit->Act->World->Prop} {C:List Bool->World->Prop} {Le:World->World->Prop} {dS:List Tmp} {ws:List Nat} {K:Act->World->Prop} {k0:Nat}
theorem aR.full: ∀ {l:List Oper} {bnd:List (List (Option Bool))} {ents:List (Option Tmp×RP)},bnd.length=l.length->aR P a0 Q C Le dS ws K k0 l bnd ents->∃full:List (Option Tmp×RP),full.length=ents.length+l.length∧full.take ents.length=ents∧
 (∀(i:Nat) (o:Oper),l[i]? =some o->∃R,full[ents.length+i]? =some (o.dst,R)∧(∀v w w',Le w w'->R v w->R v w')∧Nk P a0 Q C Le dS (full.take (ents.length+i)) o R ws (bnd.getD i []))∧
 ∀w,C (ws.map λ_=>true) w->dA w (λa=>K a w) (full.drop k0) a0
 | [],bnd,ents,_,h=>⟨ents,by simp,by simp,by simp,by cases bnd <;> exact h⟩
 |o::rest,[],ents,hl,h=>by simp at hl
 |o::rest,b::bs,ents,hl,h=>by
  obtain⟨R,hm,ho,hr⟩:=h;obtain⟨full,h1,h2,h3,h4⟩:=aR.full (by simpa using hl) hr;simp only[List.length_append,List.length_cons,List.length_nil,Nat.zero_add]at h1 h2 h3;have hlen:ents.length<full.length:=by omega
  have hget:full[ents.length]? =some (o.dst,R):=by have:=congrArg (λl=>l[ents.length]?) h2;simpa using this
  refine⟨full,by simp;omega,?_,?_,h4⟩
  ·have:=congrArg (List.take ents.length) h2;simpa[List.take_take]using this
  ·intro i o' hi;cases i with
   |zero=>simp only[List.getElem?_cons_zero,Option.some.injEq]at hi;subst hi;refine⟨R,by simpa using hget,hm,?_⟩;have:full.take (ents.length+0)=ents:=(by have:=congrArg (List.take ents.length) h2;simpa[List.take_take]using this);rw[this];exact ho
   |succ i=>have hi':rest[i]? =some o':=(by simpa using hi);have:=h3 i o' hi';rw[show ents.length+(i+1)=ents.length+1+i by omega];exact this
theorem aR.step {o:Oper} {rest:List Oper} {b:List (Option Bool)} {bs:List (List (Option Bool))} {ents:List (Option Tmp×RP)} {v:Value} (aJ:Nk P a0 Q C Le dS ents o (aW v) ws b) (hrest:aR P a0 Q C Le dS ws K k0 rest bs (ents++[(o.dst,aW v)])):aR P a0 Q C Le dS ws K k0 (o::rest) (b::bs) ents:=
 ⟨aW v,aW.mono,aJ,hrest⟩
theorem aR.some {o:Oper} {rest:List Oper} {b:List (Option Bool)} {bs:List (List (Option Bool))} {ents:List (Option Tmp×RP)} (R:RP) (hmono: ∀v w w',Le w w'->R v w->R v w') (aJ:Nk P a0 Q C Le dS ents o R ws b) (hrest:aR P a0 Q C Le dS ws K k0 rest bs (ents++[(o.dst,R)])):aR P a0 Q C Le dS ws K k0 (o::rest) (b::bs) ents:=
 ⟨R,hmono,aJ,hrest⟩
theorem aR.done {ents:List (Option Tmp×RP)} (h: ∀w,C (ws.map λ_=>true) w->dA w (λa=>K a w) (ents.drop k0) a0):aR P a0 Q C Le dS ws K k0 [] [] ents:=h
def DC (l:List Oper) (listed:Array Bool):Prop:= ∀(i:Nat) (o:Oper),l[i]? =some o->listed.getD i false=true->∀d∈nH o,listed.getD d false=true
def cw (ws:List Nat) (listed:Array Bool):List Bool:=ws.map λw=>listed.getD w false
theorem J7 {l:List Oper} {qG:List (List Nat)} {listed:Array Bool} (ha:RQ l qG=true) (hed: ∀(i:Nat) (o:Oper),l[i]? =some o->∀d∈nH o,d<i) (hd:DC l listed) (hsz:listed.size=l.length): ∀(i:Nat),listed.getD i false=true->∀k∈qG.getD i [],listed.getD k false=true:=by
 intro i
 induction i using Nat.strongRecOn with
 |_ i ih=>
  intro hl k hk;by_cases hi:i<l.length
  ·have hz:=wE ha i l[i] (List.getElem?_eq_getElem hi);rw[List.all_eq_true]at hz;have:=hz k hk;rw[List.any_eq_true]at this;obtain⟨d,hd1,hd2⟩:=this;have hdl:=hd i l[i] (List.getElem?_eq_getElem hi) hl d hd1;simp only[Bool.or_eq_true,beq_iff_eq,List.contains_iff_mem]at hd2;rcases hd2 with rfl|hd2
   ·exact hdl
   ·exact ih d (hed i l[i] (List.getElem?_eq_getElem hi) d hd1) hdl k hd2
  ·exfalso;rw[Array.getD_eq_getD_getElem?,Array.getElem?_eq_none (by omega)]at hl;cases hl
theorem Uy {listed:Array Bool} {i:Nat} (hi:i<listed.size): ∀ws:List Nat,cw ws (listed.setIfInBounds i true)=gJ ws (cw ws listed) i
 | []=>rfl
 |x::r=>by
  have ih:=Uy hi r;unfold cw at ih⊢;rw[List.map_cons,ih,List.map_cons,gJ];congr 1;by_cases hx:x=i
  ·subst hx;simp[hi]
  ·rw[getD_set_ne false (λe=>hx e.symm)];simp[hx]
theorem OD {listed:Array Bool} : ∀(pat:List (Option Bool)) (ws:List Nat),pat.length=ws.length->(∀x∈pat.zip ws,∀b,x.1=some b->listed.getD x.2 false=b)->okB pat (cw ws listed)
 | [],[],_,_=>trivial
 | [],_::_,h,_=>by simp at h
 |_::_,[],h,_=>by simp at h
 |none::r,x::ws,h,hb=>OD r ws (by simpa using h) (λy hy=>hb y (by simp[hy]))
 |some b::r,x::ws,h,hb=>⟨hb (some b,x) (by simp) b rfl,OD r ws (by simpa using h) (λy hy=>hb y (by simp[hy]))⟩
def Zr (a0:Act) (C:List Bool->World->Prop) (ws:List Nat) (l:List Oper) (k0 k1:Nat) (full:List (Option Tmp×RP)) (listed:Array Bool) (a:Act) (w:World):Prop:=
 listed.size=l.length∧(∀i,i<k0->listed.getD i false=true)∧(∀i,k1<=i->listed.getD i false=false)∧C (cw ws listed) w∧a.defers=a0.defers∧a.tmps.size=a0.tmps.size∧DC l listed∧
 (∀s:Nat,(∀(i:Nat) (d:Tmp) (R:RP),full[i]? =some (some d,R)->k0<=i->listed.getD i false=true->d≠s)->a.tmps[s]? =a0.tmps[s]?)∧
 ∀(i:Nat) (d:Option Tmp) (R:RP),full[i]? =some (d,R)->listed.getD i false=true->R (dL a d) w
theorem Wu {l:List Oper} {full:List (Option Tmp×RP)} {qG:List (List Nat)} {bnd:List (List (Option Bool))} {k0 k1:Nat} (hk1:k1<=l.length) (Ie:RQ l qG=true) (Jr:Fy l.length qG k1=true)
 (Ig:Xq l.length ws qG bnd=true) (hws: ∀x∈ws,x<k1) (CG: ∀w,Le w w) (hbd: ∀d∈dS,d<a0.tmps.size) (hlen:full.length=k1) (hnd:(l.filterMap (·.dst)).Nodup) (rW:((l.take k1).drop k0).filterMap (·.dst)=dS)
 (hed: ∀(i:Nat) (o:Oper),l[i]? =some o->∀d∈nH o,d<i) (hgu: ∀(i:Nat) (o:Oper),l[i]? =some o->∀g b,o.guard=some (g,b)->g<i)
 (at0: ∀(i:Nat) (o:Oper),l[i]? =some o->i<k0->full[i]? =some (o.dst,λ_ _=>True))
 (hf: ∀(i:Nat) (o:Oper),l[i]? =some o->k0<=i->i<k1->∃R,full[i]? =some (o.dst,R)∧(∀v w w',Le w w'->R v w->R v w')∧Nk P a0 Q C Le dS (full.take i) o R ws (bnd.getD i []))
 (hend: ∀w,C (ws.map λ_=>true) w->dA w (λa=>wpAny P .any l.toArray Q (l.length -k1) (mP l.length k1) a w) (full.drop k0) a0):
 ∀(fuel:Nat) (listed:Array Bool) (a:Act) (w:World),cnt listed l.length=fuel->Zr a0 C ws l k0 k1 full listed a w->wpAny P .any l.toArray Q fuel listed a w:=by
 have hB:bnd.length=l.length∧(∀x∈ws,x<l.length)∧∀i,i<l.length->(bnd.getD i []).length=ws.length∧∀x∈(bnd.getD i []).zip ws,(match x.1 with|none=>true|some true=>(qG.getD i []).contains x.2|some false=>(qG.getD x.2 []).contains i||x.2==i)=true:=by unfold Xq at Ig;simp only[Bool.and_eq_true,decide_eq_true_eq,List.all_eq_true,List.mem_range]at Ig;exact⟨Ig.1.1,Ig.1.2,λi hi=>Ig.2 i hi⟩
 have hP: ∀i,i<l.length->k1<=i->∀j,j<k1->j∈qG.getD i []:=λi hi hki j hj=>by
  unfold Fy at Jr;simp only[List.all_eq_true,List.mem_range,Bool.or_eq_true,decide_eq_true_eq,List.contains_iff_mem]at Jr;rcases Jr i hi with h|h
  ·omega
  ·exact h j hj
 have hdst: ∀(i:Nat) (d:Option Tmp) (R:RP),full[i]? =some (d,R)->∃o,l[i]? =some o∧o.dst=d∧∀v w w',Le w w'->R v w->R v w':=λi d R hi=>by
  have hlt:i<k1:=by rw[<- hlen];exact(List.getElem?_eq_some_iff.1 hi).1
  have hll:i<l.length:=by omega
  by_cases hik:i<k0
  ·have h1:=at0 i l[i] (List.getElem?_eq_getElem hll) hik;rw[hi]at h1;simp only[Option.some.injEq,Prod.mk.injEq]at h1;exact⟨l[i],List.getElem?_eq_getElem hll,h1.1.symm,by rw[h1.2];exact λ_ _ _ _ _=>trivial⟩
  ·obtain⟨R',h1,h2,-⟩:=hf i l[i] (List.getElem?_eq_getElem hll) (by omega) hlt;rw[hi]at h1;simp only[Option.some.injEq,Prod.mk.injEq]at h1;exact⟨l[i],List.getElem?_eq_getElem hll,h1.1.symm,by rw[h1.2];exact h2⟩
 have hfe: ∀(i:Nat) (o:Oper),l[i]? =some o->i<k1->∃R,full[i]? =some (o.dst,R):=λi o hi hik=>by
  by_cases h:i<k0
  ·exact⟨_,at0 i o hi h⟩
  ·obtain⟨R,h1,-⟩:=hf i o hi (by omega) hik;exact⟨R,h1⟩
 have hmem: ∀(k:Nat) (d:Tmp) (R:RP),full[k]? =some (some d,R)->k0<=k->d∈dS:=λk d R hk' hkk=>by
  obtain⟨ok,hok,hdk,-⟩:=hdst k (some d) R hk';have hlt:k<k1:=by rw[<- hlen];exact(List.getElem?_eq_some_iff.1 hk').1
  rw[<- rW];refine List.mem_filterMap.2 ⟨ok,List.mem_of_getElem? (i:=k -k0) ?_,hdk⟩;rw[List.getElem?_drop,List.getElem?_take,show k0+(k -k0)=k by omega,if_pos hlt];exact hok
 have Fb: ∀listed:Array Bool,listed.size=l.length->Region.ready .any l.toArray listed=[]->∀i,i<l.length->listed.getD i false=true:=λlisted hsz hr i=>by
  induction i using Nat.strongRecOn with
  |_ i ih=>
   intro hi;cases hg:listed.getD i false with
   |true=>rfl
   |false=>exfalso;have:i∈Region.ready .any l.toArray listed:=mem_ready.2 ⟨by have h1:i<listed.size:=(by omega);simp[h1]at hg⊢;exact hg,l[i],by simp[hi],λe he hb=>ih e.on (hed i l[i] (List.getElem?_eq_getElem hi) e.on (yP he hb)) (by have:=hed i l[i] (List.getElem?_eq_getElem hi) e.on (yP he hb);omega)⟩;rw[hr]at this;cases this
 have hall: ∀fuel listed a w,cnt listed l.length=fuel->Zr a0 C ws l k0 k1 full listed a w->(∀i,i<k1->listed.getD i false=true)->wpAny P .any l.toArray Q fuel listed a w:=λfuel listed a w hc hI ha=>by
  obtain⟨hsz0,-,hno,hC,hd,hz,hdc,hs,hR⟩:=hI;have he:listed=mP l.length k1:=Kn hsz0 ha hno;have hkk:cw ws listed=ws.map λ_=>true:=by unfold cw;exact List.map_congr_left (λx hx=>ha x (hws x hx))
  rw[hkk]at hC;have hfu:fuel=l.length -k1:=by rw[<- hc,he,I5 _ _ hk1 _ (Nat.le_refl _)]
  have:=(hend w hC).use (a':=a) (λi d R hi=>by rw[List.getElem?_drop]at hi;exact hR (k0+i) d R hi (ha _ (by rw[<- hlen];exact(List.getElem?_eq_some_iff.1 hi).1))) hd hz (λs hne=>hs s (λi d R hi hki _=>hne (i -k0) d R (by rw[List.getElem?_drop,show k0+(i -k0)=i by omega];exact hi)));rw[hfu,he];exact this
 intro fuel
 induction fuel with
 |zero=>intro listed a w hc hI;exact hall 0 listed a w hc hI (λi hi=>Di hc i (by omega))
 |succ fuel ih=>
  intro listed a w hc hI;by_cases hdone: ∀i,i<k1->listed.getD i false=true
  ·exact hall _ listed a w hc hI hdone
  refine⟨λhr=>(hdone (λi hi=>Fb listed hI.1 hr i (by omega))).elim,λi hi=> ?_⟩;obtain⟨h0,o,ho,BU⟩:=mem_ready.1 hi;have hlt:i<l.length:=by simpa using(Array.getElem?_eq_some_iff.1 ho).1
  have hlo:l[i]? =some o:=by simpa using ho
  have hls:i<listed.size:=by rw[hI.1];exact hlt
  have hun:listed.getD i false=false:=by simp[hls]at h0⊢;exact h0
  obtain⟨hsz,hpre,hno,hC,hd,hz,hdc,hs,hR⟩:=hI;have ZG:=J7 Ie hed hdc hsz;have hself: ∀k∈qG.getD i [],listed.getD k false=true:=λk hk=>by
   have hz':=wE Ie i o hlo;rw[List.all_eq_true]at hz';have:=hz' k hk;rw[List.any_eq_true]at this;obtain⟨d,hd1,hd2⟩:=this;simp only[nH,List.mem_map,List.mem_filter,Array.mem_toList_iff]at hd1;obtain⟨e,⟨he,hb⟩,rfl⟩:=hd1;simp only[Bool.or_eq_true,beq_iff_eq,List.contains_iff_mem]at hd2;rcases hd2 with rfl|hd2
   ·exact BU e he hb
   ·exact ZG e.on (BU e he hb) k hd2
  have Sr:k0<=i:=by
   rcases Nat.lt_or_ge i k0 with h|h
   ·rw[hpre i h]at hun;cases hun
   ·exact h
  have aW1:i<k1:=by
   rcases Nat.lt_or_ge i k1 with h|h
   ·exact h
   ·exact(hdone (λj hj=>hself j (hP i hlt h j hj))).elim
  obtain⟨R,GN,hRm,V6⟩:=hf i o hlo Sr aW1;have hW:Region.wanted o (yielded l.toArray a.tmps)=gd (full.take i) a o:=by
   unfold Region.wanted gd;cases hgo:o.guard with
   |none=>rfl
   |some x=>
    obtain⟨g,b⟩:=x;have hgi:=hgu i o hlo g b hgo;simp only;rw[List.getElem?_take,if_pos hgi];unfold yielded;have hgl:g<l.length:=(by omega);have hk':l.toArray[g]? =some l[g]:=(by simp[hgl]);obtain⟨R',hR'⟩:=hfe g l[g] (List.getElem?_eq_getElem hgl) (by omega);rw[hk',hR'];simp only[Option.bind_some];cases hd':l[g].dst with
    |none=>rfl
    |some d=>
     simp only[Option.bind_some,Act.eval];cases ht:a.tmps[d]? with
     |none=>simp[ht,undef]
     |some v=>simp only[Array.getD_eq_getD_getElem?,ht,Option.getD_some];cases v <;> first|rfl|(rename_i x;cases x <;> cases b <;> rfl)
  have aW0:DC l (listed.setIfInBounds i true):=λj oj hj hl d hdj=>by
   by_cases hij:i=j
   ·subst hij;rw[hlo]at hj;injection hj with hj;subst hj;simp only[nH,List.mem_map,List.mem_filter,Array.mem_toList_iff]at hdj;obtain⟨e,⟨he,hb⟩,rfl⟩:=hdj;exact getD_set_true (BU e he hb)
   ·rw[getD_set_ne false hij]at hl;exact getD_set_true (hdc j oj hj hl d hdj)
  have hok:okB (bnd.getD i []) (cw ws listed):=OD _ _ (hB.2.2 i hlt).1 (λx hx b hb=>by
   have:=(hB.2.2 i hlt).2 x hx;rw[hb]at this;cases b with
   |true=>exact hself x.2 (by simpa using this)
   |false=>
    cases hcc:listed.getD x.2 false with
    |false=>rfl
    |true=>
     exfalso;simp only[Bool.or_eq_true,List.contains_iff_mem,beq_iff_eq]at this;rcases this with h1|h1
     ·have:=ZG x.2 hcc i h1;rw[hun]at this;cases this
     ·rw[h1,hun]at hcc;cases hcc)
  have htk:(full.take i).length=i:=by rw[List.length_take,hlen];omega
  have hstep:=V6 (cw ws listed) a w hok hC (λs hs'=>by have:a.tmps[s]? =a0.tmps[s]?:=hs s (λk d R' hk' hkk _ e=>by have:=hmem k d R' hk' hkk;rw[e]at this;simp at hs';exact hs' this);simp[Act.eval,this]) (Kc (λe he hb d R' hR'=>hR e.on d R' hR' (BU e (by simpa using he) hb)));rw[htk]at hstep;have hnext: ∀(v:Value) (w':World),Le w w'->C (gJ ws (cw ws listed) i) w'->R (dL (a.put o.dst v) o.dst) w'->wpAny P .any l.toArray Q fuel (listed.setIfInBounds i true) (a.put o.dst v) w':=λv w' hle hC' hv=>by
   refine ih _ _ _ ?_ ⟨by simp[hsz],λj hj=>getD_set_true (hpre j hj),λj hj=>by rw[getD_set_ne false (by omega)];exact hno j hj,by rw[Uy hls];exact hC',?_,?_,aW0,?_,?_⟩
   ·have:=FY hls hun l.length;rw[if_pos hlt]at this;omega
   ·cases o.dst <;> simpa[Act.put]using hd
   ·cases o.dst <;> simpa[Act.put]using hz
   ·intro s hne;have h1:a.tmps[s]? =a0.tmps[s]?:=hs s (λk d R' hk hkk hl=>hne k d R' hk hkk (getD_set_true hl));cases hod:o.dst with
    |none=>simpa[Act.put]using h1
    |some d=>have hds:d≠s:=hne i d R (by rw[GN,hod]) Sr (by simp[hls]);simp only[Act.put];rw[Array.getElem?_setIfInBounds_ne hds];exact h1
   ·intro k d R' hk hl;by_cases hik:i=k
    ·subst hik;rw[GN]at hk;simp only[Option.some.injEq,Prod.mk.injEq]at hk;obtain⟨rfl,rfl⟩:=hk;exact hv
    ·have hl':listed.getD k false=true:=(by rwa [getD_set_ne false hik]at hl);obtain⟨ok,hok',hdk,hmon⟩:=hdst k d R' hk;have h1:=hmon _ _ _ hle (hR k d R' hk hl');have:dL (a.put o.dst v) d=dL a d:=by
      cases hod:o.dst with
      |none=>rfl
      |some d1=>
       cases d with
       |none=>rfl
       |some d2=>have hne:d1≠d2:=λe=>hik (BF hnd i k o ok d2 hlo hok' (by rw[hod,e]) hdk);simp[dL,Act.eval,Act.put,Array.getElem?_setIfInBounds_ne hne]
     rw[this];exact h1
  unfold wpOp;simp only[ho];rw[hW];cases hgd:gd (full.take i) a o with
  |true=>
   rw[hgd]at hstep;simp only[if_true]at hstep⊢;refine Or.inl (Oper.wp_mono ?_ hstep);rintro a' w' ⟨v,rfl,hle,hC',hv⟩;refine hnext v w' hle hC' ?_;cases hod:o.dst with
   |none=>rw[hod]at hv;exact hv
   |some d=>rw[hod]at hv;simp only[Option.isSome_some,if_true]at hv;have hdl:d<a.tmps.size:=(by rw[hz];exact hbd d (hmem i d R (by rw[GN,hod]) Sr));simpa[dL,Act.eval,Act.put,hdl]using hv
  |false=>
   rw[hgd]at hstep;simp only[Bool.false_eq_true,if_false]at hstep⊢;refine hnext undef w (CG w) hstep.1 ?_;cases hod:o.dst with
   |none=>exact hstep.2
   |some d=>have hdl:d<a.tmps.size:=(by rw[hz];exact hbd d (hmem i d R (by rw[GN,hod]) Sr));simpa[dL,Act.eval,Act.put,hdl]using hstep.2
def G7 (l:List Oper):Bool:=decide (l.filterMap (·.dst)).Nodup&&(l.zipIdx.all λx=>((nH x.1).all λd=>decide (d<x.2))&&(match x.1.guard with|none=>true|some (g,_)=>decide (g<x.2)))
theorem aX {l:List Oper} {w:World} {n r:Nat} (k0 k1:Nat) (ws:List Nat) (qG:List (List Nat)) (bnd:List (List (Option Bool))) (C:List Bool->World->Prop) (Le:World->World->Prop) (dS:List Tmp)
 (hn:l.length=n) (hr:n -k0=r) (hk:(decide (k0<=k1)&&decide (k1<=n)&&decide (bnd.length=k1 -k0)&&ws.all λx=>decide (x<k1))=true) (hB:G7 l=true) (Ie:RQ l qG=true) (Jr:Fy n qG k1=true)
 (Ig:Xq n ws qG ((List.replicate k0 (ws.map λ_=>none))++bnd++List.replicate (n -k1) (ws.map λ_=>none))=true) (aV4:(((l.take k1).drop k0).filterMap (·.dst)==dS)=true) (hws:(ws.all λx=>decide (k0<=x))=true) (CG: ∀w,Le w w) (hbd:(dS.all λd=>decide (d<a0.tmps.size))=true) (hC:C (ws.map λ_=>false) w)
 (h:aR P a0 Q C Le dS ws (wpAny P .any l.toArray Q (n -k1) (mP n k1)) k0 ((l.take k1).drop k0) bnd (EU (l.take k0))):wpAny P .any l.toArray Q r (mP n k0) a0 w:=by
 subst hn;subst hr;simp only[Bool.and_eq_true,decide_eq_true_eq,List.all_eq_true]at hk;obtain⟨⟨⟨h01,h1n⟩,hbl⟩,hwk⟩:=hk;unfold G7 at hB;simp only[Bool.and_eq_true,decide_eq_true_eq]at hB;obtain⟨hnd,hz⟩:=hB;have hdl:(EU (l.take k0)).length=k0:=by simp[EU];omega
 obtain⟨full,h1,h2,h3,h4⟩:=h.full (by simp[hbl];omega);rw[hdl]at h1 h2 h3;have hlen:full.length=k1:=by rw[h1];simp;omega
 have hed: ∀(i:Nat) (o:Oper),l[i]? =some o->(∀d∈nH o,d<i)∧∀g b,o.guard=some (g,b)->g<i:=λi o hi=>by have:=wE hz i o hi;simp only[Bool.and_eq_true,List.all_eq_true,decide_eq_true_eq]at this;refine⟨this.1,λg b hg=> ?_⟩;have h2:=this.2;rw[hg]at h2;simpa using h2
 refine Wu h1n Ie Jr Ig hwk CG (λd hd=>by rw[List.all_eq_true]at hbd;simpa using hbd d hd) hlen hnd (by simpa using aV4) (λi o hi=>(hed i o hi).1) (λi o hi=>(hed i o hi).2) ?_ ?_ h4 _ _ _ _ (by rw[I5 _ _ (by omega) _ (Nat.le_refl _)]) ⟨qK _ _,?_,?_,?_,rfl,rfl,?_,λ_ _=>rfl,?_⟩
 ·intro i o hi hik;have:=congrArg (λl=>l[i]?) h2;rw[List.getElem?_take,if_pos hik]at this;rw[this];simp[EU,hik,hi]
 ·intro i o hi hki hik;have hgo:((l.take k1).drop k0)[i -k0]? =some o:=by rw[List.getElem?_drop,List.getElem?_take,show k0+(i -k0)=i by omega,if_pos hik];exact hi
  obtain⟨R,ha,hb,hc⟩:=h3 (i -k0) o hgo;rw[show k0+(i -k0)=i by omega]at ha hc;refine⟨R,ha,hb,?_⟩;have:((List.replicate k0 (ws.map λ_=>(none:Option Bool)))++bnd++List.replicate (l.length -k1) (ws.map λ_=>none)).getD i []=bnd.getD (i -k0) []:=by rw[List.getD_eq_getElem?_getD,List.getD_eq_getElem?_getD,List.append_assoc,List.getElem?_append_right (by simp;omega),List.getElem?_append_left (by simp;omega)];simp
  rw[this];exact hc
 ·intro i hi;rw[jJ];simp;omega
 ·intro i hi;rw[jJ];simp;omega
 ·have:cw ws (mP l.length k0)=ws.map λ_=>false:=by unfold cw;refine List.map_congr_left (λx hx=> ?_);rw[List.all_eq_true]at hws;have:=hws x hx;rw[jJ];simp at this⊢;omega
  rw[this];exact hC
 ·intro i o hi hl d hd;rw[jJ]at hl⊢;simp only[Bool.and_eq_true,decide_eq_true_eq]at hl⊢;have:=(hed i o hi).1 d hd;omega
 ·intro i d R hi hl;rw[jJ]at hl;simp only[Bool.and_eq_true,decide_eq_true_eq]at hl;have:=congrArg (λl=>l[i]?) h2;rw[List.getElem?_take,if_pos hl.2,hi]at this;simp only[EU,List.getElem?_map,List.getElem?_take,if_pos hl.2,List.getElem?_eq_getElem hl.1,Option.map_some,Option.some.injEq,Prod.mk.injEq]at this;rw[this.2];trivial
theorem bf {id:Nat} {l:List Oper} {n:Nat} {w:World} (hm:P.follows .mixedOrders=true) (hn:l.length=n) (h:wpAny P .any l.toArray Q n (mP n 0) a0 (w.drewN 1)):(Code.region id l.toArray true).wp P Q a0 w:=by
 subst hn;refine wp_region_any hm ?_;have hdr:({w with drawn:=w.drawn+1} :World)=w.drewN 1:=rfl;have hp:Array.replicate l.toArray.size false=mP l.length 0:=Kn (by simp) (by intro i hi;omega) (λi _=>by rw[Array.getD_eq_getD_getElem?];by_cases hk:i<l.length <;> simp[hk]);rw[hdr,hp];exact h
theorem bT {l:List Oper} {n:Nat} {w:World} (hn:l.length=n) (h:Q .normal a0 w):wpAny P .any l.toArray Q 0 (mP n n) a0 w:=by
 subst hn;refine⟨?_,h⟩;rw[List.eq_nil_iff_forall_not_mem];intro i hi;obtain⟨h0,o,ho,-⟩:=mem_ready.1 hi;have hlt:i<l.length:=by simpa using(Array.getElem?_eq_some_iff.1 ho).1
 have h1:i<(mP l.length l.length).size:=by rw[qK];exact hlt
 have:=jJ l.length l.length i;simp[h1]at h0 this;rw[this]at h0;simp at h0;omega
theorem cK {l:List Oper} {o:Oper} {n r k1:Nat} {w:World} (k:Nat) (qG:List (List Nat)) (hn:l.length=n) (hr:n -k=r+1) (hk1:k+1=k1) (ho:l[k]? =some o) (hgu:o.guard=none) (hB:G7 l=true) (Ie:RQ l qG=true) (Jr:Fy n qG k1=true)
 (h:o.wp P a0 w (wpAny P .any l.toArray Q r (mP n k1)) Q):wpAny P .any l.toArray Q (r+1) (mP n k) a0 w:=by
 subst hn;subst hk1;unfold G7 at hB;simp only[Bool.and_eq_true,decide_eq_true_eq]at hB;have hkn:k<l.length:=by omega
 have hnx:(mP l.length k).setIfInBounds k true=mP l.length (k+1):=by
  refine Kn (by simp[qK]) (λi hi=> ?_) (λi hi=> ?_)
  ·by_cases hik:i=k
   ·subst hik;rw[Array.getD_eq_getD_getElem?,Array.getElem?_setIfInBounds_self_of_lt (by rw[qK];exact hkn)];rfl
   ·exact getD_set_true (by rw[jJ];simp;omega)
  ·rw[getD_set_ne false (by omega),jJ];simp;omega
 have aW5: ∀i∈Region.ready .any l.toArray (mP l.length k),i=k:=λi hi=>by
  obtain⟨h0,oi,hoi,BU⟩:=mem_ready.1 hi;have hlt:i<l.length:=by simpa using(Array.getElem?_eq_some_iff.1 hoi).1
  have hge:k<=i:=by
   have h1:i<(mP l.length k).size:=by rw[qK];exact hlt
   have:=jJ l.length k i;simp[h1]at h0 this;rw[this]at h0;simp at h0;omega
  rcases Nat.lt_or_ge k i with hki|hki
  ·exfalso;unfold Fy at Jr;simp only[List.all_eq_true,List.mem_range,Bool.or_eq_true,decide_eq_true_eq,List.contains_iff_mem]at Jr;have hka:k∈qG.getD i []:=by
    rcases Jr i hlt with h|h
    ·omega
    ·exact h k (by omega)
   have aW4:l[i]? =some oi:=by simpa using hoi
   have hz':=wE Ie i oi aW4;rw[List.all_eq_true]at hz';have:=hz' k hka;rw[List.any_eq_true]at this;obtain⟨d,hd1,hd2⟩:=this;simp only[nH,List.mem_map,List.mem_filter,Array.mem_toList_iff]at hd1;obtain⟨e,⟨he,hb⟩,rfl⟩:=hd1;have hdl:=BU e he hb;have hed: ∀(i:Nat) (o:Oper),l[i]? =some o->∀d∈nH o,d<i:=λi o hi=>by have:=wE hB.2 i o hi;simp only[Bool.and_eq_true,List.all_eq_true,decide_eq_true_eq]at this;exact this.1
   have hdc:DC l (mP l.length k):=by intro i o hi hl d hd;rw[jJ]at hl⊢;simp only[Bool.and_eq_true,decide_eq_true_eq]at hl⊢;have:=hed i o hi d hd;omega
   simp only[Bool.or_eq_true,beq_iff_eq,List.contains_iff_mem]at hd2;have hkl:(mP l.length k).getD k false=true:=by
    rcases hd2 with h2|hd2
    ·rw[h2]at hdl;exact hdl
    ·exact J7 Ie hed hdc (qK _ _) e.on hdl k hd2
   rw[jJ]at hkl;simp at hkl
  ·omega
 refine⟨λhr0=> ?_,λi hi=> ?_⟩
 ·exfalso;have hlk:l[k]? =some l[k]:=List.getElem?_eq_getElem hkn;have:k∈Region.ready .any l.toArray (mP l.length k):=mem_ready.2 ⟨by
   have h1:k<(mP l.length k).size:=by rw[qK];exact hkn
   have:=jJ l.length k k;simp[h1]at this⊢;rw[this],l[k],by simp[hkn],λe he hb=>by have:=wE hB.2 k l[k] hlk;simp only[Bool.and_eq_true,List.all_eq_true,decide_eq_true_eq]at this;have:=this.1 e.on (yP he hb);rw[jJ];simp;omega⟩
  rw[hr0]at this;cases this
 ·obtain rfl:=aW5 i hi;unfold wpOp;have:l.toArray[i]? =some o:=by simpa using ho
  simp only[this,Region.wanted,hgu,if_true];rw[hnx];exact Or.inl h
end
theorem eZ {w:World} {b o:Nat} {cur:Array Value} {e:TypeId} {fr:Nat×Nat} (h:w.heap[b]? =some (.cells cur e fr)) (v:Value):(w.setCell ⟨b,o,none⟩ v).heap[b]? =some (.cells (cur.setIfInBounds o v) e fr):=by
 unfold World.setCell;simp only[Array.getElem?_modify,if_true,h,Option.map_some];rfl
theorem bY (w:World) {b k:Nat} (a:Addr) (v:Value) (hb:a.block=b) (hk:b≠k):(w.setCell a v).heap[k]? =w.heap[k]?:=by
 unfold World.setCell;simp only[Array.getElem?_modify];rw[if_neg (by rw[hb];exact hk)]
theorem bQ (w:World) (a:Addr) (v:Value):w.grownBy (w.setCell a v) (some a.block):=
 ⟨rfl,rfl,rfl,by simp[World.setCell],λk _ hk=>bY w a v rfl (λe=>hk (by rw[e]))⟩
theorem gY {b:Option Nat} {w1 w2 w3:World} (h:w1.grownBy w2 b) (k:w2.grownBy w3 b):w1.grownBy w3 b:=
 ⟨k.os.trans h.os,k.tape.trans h.tape,k.output.trans h.output,Nat.le_trans h.size k.size,λj hj hne=>(k.block j (Nat.lt_of_lt_of_le hj h.size) hne).trans (h.block j hj hne)⟩
theorem bL {w w':World} {b B:Nat} (h:w.grownBy w' (some b)) (hB:B<=b) (hB':B<=w.heap.size):Below B w w':=
 ⟨h.os,h.tape,h.output,h.size,λk hk=>h.block k (by omega) (by simp;omega)⟩
theorem zV {b:Option Nat} (w:World):w.grownBy w b:=⟨rfl,rfl,rfl,Nat.le_refl _,λ_ _ _=>rfl⟩
theorem bU (b:Nat): ∀(vs:List Value) (o:Nat) (w:World),w.grownBy (w.setCells b o vs) (some b)
 | [],_,w=>zV w
 |v::vs,o,w=>gY (bQ w ⟨b,o,none⟩ v) (bU b vs (o+1) _)
theorem AX {b:Nat} {e:TypeId} {fr:Nat×Nat} : ∀(vs:List Value) (o:Nat) (w:World) (cur:Array Value),w.heap[b]? =some (.cells cur e fr)->o+vs.length<=cur.size->
 ∃cur',(w.setCells b o vs).heap[b]? =some (.cells cur' e fr)∧cur'.size=cur.size∧cur'.toList.take (o+vs.length)=cur.toList.take o++vs
 | [],o,w,cur,h,_=>⟨cur,h,rfl,by simp⟩
 |v::vs,o,w,cur,h,hl=>by
  simp only[List.length_cons]at hl;obtain⟨cur',h1,h2,h3⟩:=AX vs (o+1) (w.setCell ⟨b,o,none⟩ v) (cur.setIfInBounds o v) (eZ h v) (by simp;omega);refine⟨cur',h1,by simpa using h2,?_⟩;rw[List.length_cons,show o+(vs.length+1)=o+1+vs.length by omega,h3,Array.toList_setIfInBounds];have ho:o<cur.toList.length:=by simp;omega
  rw[List.take_succ_eq_append_getElem (by rw[List.length_set];exact ho),List.take_set,List.getElem_set_self];rw[List.set_eq_of_length_le (by simp;omega)];simp
section
variable {w:World} {base:Nat} {e:TypeId} {size:Nat} {n cap g:Nat} {xs:List Value}
theorem JI (h:w.ownsRow base e size (.slice (some ⟨g,0,none⟩) (n+1) cap) (n+1) xs):w.there g (n*size) size:=by
 rcases h.2 with⟨h1,-⟩|⟨g',cap',cur,e1,-,hg,hc,-,hs,-⟩
 ·cases h1
 ·injection e1 with e1 e2 e3;injection e1 with e1;injection e1 with e1;subst e1;subst e3;intro j hj;have hlt:n*size+j<cur.size:=by rw[hs];have:(n+1)*size<=cap*size:=Nat.mul_le_mul_right _ hc;rw[Nat.add_mul]at this;omega
  refine⟨?_,?_⟩
  ·rw[cell_of_row w g _ cur e (0,0) hg];simp[hlt]
  ·simp[World.frozen?,hg]
theorem OH {zs vs:List Value} (h:w.ownsRow base e size (.slice (some ⟨g,0,none⟩) (n+1) cap) (n+1) (xs++zs)) (hx:xs.length=n*size) (hv:vs.length=size):
 (w.setCells g (n*size) vs).ownsRow base e size (.slice (some ⟨g,0,none⟩) (n+1) cap) (n+1) (xs++vs):=by
 have hl:=h.1;rcases h.2 with⟨h1,-⟩|⟨g',cap',cur,e1,hb,hg,hc,hm,hs,ht⟩
 ·cases h1
 ·injection e1 with e1 e2 e3;injection e1 with e1;injection e1 with e1;subst e1;subst e3;have hle:(n+1)*size<=cap*size:=Nat.mul_le_mul_right _ hc;have hsp:(n+1)*size=n*size+size:=by rw[Nat.add_mul];simp
  obtain⟨cur',k1,k2,k3⟩:=AX vs (n*size) w cur hg (by rw[hv,hs];omega);refine⟨by simp[hx,hv,hsp],.inr ⟨g,cap,cur',rfl,hb,k1,hc,hm,by rw[k2,hs],?_⟩⟩;rw[hsp];rw[hv]at k3;rw[k3];congr 1;have:=congrArg (List.take (n*size)) ht;rw[List.take_take,Nat.min_eq_left (by omega)]at this;rw[this,List.take_append_of_le_length (by omega),List.take_of_length_le (by omega)]
theorem LJ {ys:List Value} (h:w.ownsRow base e size (.slice (some ⟨g,0,none⟩) (n+1) cap) (n+1) (xs++ys)) (hx:xs.length=n*size):w.ownsRow base e size (.slice (some ⟨g,0,none⟩) n cap) n xs:=by
 rcases h.2 with⟨h1,-⟩|⟨g',cap',cur,e1,hb,hg,hc,hm,hs,ht⟩
 ·cases h1
 ·injection e1 with e1 e2 e3;injection e1 with e1;injection e1 with e1;subst e1;subst e3;have hsp:(n+1)*size=n*size+size:=by rw[Nat.add_mul];simp
  refine⟨hx,.inr ⟨g,cap,cur,rfl,hb,hg,by omega,hm,hs,?_⟩⟩;have:=congrArg (List.take (n*size)) ht;rw[List.take_take,Nat.min_eq_left (by omega)]at this;rw[this,List.take_append_of_le_length (by omega),List.take_of_length_le (by omega)]
end
theorem CU {w w':World} {b o n:Nat} (h:w.there b o n) (hb:w'.heap[b]? =w.heap[b]?):w'.there b o n:=λj hj=>by
 rw[World.cell?_of_block (a:=⟨b,o+j,none⟩) hb,World.frozen?_of_block (a:=⟨b,o+j,none⟩) hb];exact h j hj
theorem bG {w:World} {b o:Nat} {cs:Array Value} {t:TypeId} (h:w.heap[b]? =some (.cells cs t (0,0))):w.frozen? ⟨b,o,none⟩=false:=by simp[World.frozen?,h]
open Md
theorem au {w:World} {b j:Nat} {cs:Array Value} {t:TypeId} {fr:Nat×Nat} {u:Value} (h:w.heap[b]? =some (.cells cs t fr)) (hu:cs[j]? =some u):w.cell? ⟨b,j,none⟩=some u:=by
 rw[cell_of_row w b j cs t fr h,hu]
def lF (B:Nat) (w w':World):Prop:=w.heap.size<=w'.heap.size∧∀k,B<=k->k<w.heap.size->w'.heap[k]? =w.heap[k]?
theorem lF.refl (B:Nat) (w:World):lF B w w:=⟨Nat.le_refl _,λ_ _ _=>rfl⟩
theorem lF.trans {B:Nat} {w w1 w2:World} (h:lF B w w1) (k:lF B w1 w2):lF B w w2:=⟨Nat.le_trans h.1 k.1,λj h1 h2=>(k.2 j h1 (Nat.lt_of_lt_of_le h2 h.1)).trans (h.2 j h1 h2)⟩
theorem lF.mono {B B':Nat} {w w':World} (h:lF B w w') (hB:B<=B'):lF B' w w':=⟨h.1,λj h1 h2=>h.2 j (Nat.le_trans hB h1) h2⟩
theorem dN {B:Nat} {w w':World} (h:Below w.heap.size w w'):lF B w w':=⟨h.size,λk _ h2=>h.block k h2⟩
theorem jg {B:Nat} (w:World) (a:Addr) (v:Value) (h:a.block<B):lF B w (w.setCell a v):=⟨by simp[World.setCell],λk h1 _=>bY w a v rfl (by omega)⟩
def ig (B:Nat) (w:World) (Q:World->Prop):Prop:= ∀w',lF B w w'->Q w'
theorem ig.next {B:Nat} {w w1:World} {Q:World->Prop} (h:ig B w Q) (hm:lF B w w1):ig B w1 Q:=λw' h'=>h w' (hm.trans h')
theorem ig.now {B:Nat} {w:World} {Q:World->Prop} (h:ig B w Q):Q w:=h w (lF.refl _ _)
theorem ig.mono {B B':Nat} {w:World} {Q:World->Prop} (h:ig B' w Q) (hB:B<=B'):ig B w Q:=λw' h'=>h w' (h'.mono hB)
def H7 (B:Nat) (g:Option Nat) (w w':World):Prop:=w.heap.size<=w'.heap.size∧∀k,B<=k->some k≠g->k<w.heap.size->w'.heap[k]? =w.heap[k]?
def nG (B:Nat) (g:Option Nat) (w:World) (Q:World->Prop):Prop:= ∀w',H7 B g w w'->Q w'
section
variable {B B1:Nat} {g:Option Nat} {w w' w1:World} {Q:World->Prop}
theorem lF.x (h:lF B w w'):H7 B g w w':=⟨h.1,λk h1 _ h2=>h.2 k h1 h2⟩
theorem H7.trans (h:H7 B g w w1) (k:H7 B g w1 w'):H7 B g w w':=⟨Nat.le_trans h.1 k.1,λj h1 h2 h3=>(k.2 j h1 h2 (Nat.lt_of_lt_of_le h3 h.1)).trans (h.2 j h1 h2 h3)⟩
theorem nG.next (h:nG B g w Q) (ha:H7 B g w w1):nG B g w1 Q:=λw' h'=>h w' (ha.trans h')
theorem nG.stay (h:nG B g w Q):ig B w Q:=λw' ha=>h w' ha.x
theorem P5 (h:ig B1 w Q) (hB:B<=B1) (hg: ∀k,g=some k->k<B1):nG B g w Q:=λw' ha=>
 h w' ⟨ha.1,λk h1 h2=>ha.2 k (Nat.le_trans hB h1) (λe=>absurd (hg k e.symm) (by omega)) h2⟩
theorem nG.move {g':Nat} (h:nG B g w Q) (hg:w.grownBy w' g) (hn:g=some g'∨g'=w.heap.size):nG B (some g') w' Q:=λw2 h2=>
 h w2 ⟨Nat.le_trans hg.size h2.1,λk h3 h4 h5=>by
   have hk:some k≠some g':=λe=>by
    rcases hn with rfl|rfl
    ·exact h4 e
    ·injection e with e;omega
   exact(h2.2 k h3 hk (Nat.lt_of_lt_of_le h5 hg.size)).trans (hg.block k h5 h4)⟩
end
theorem Dl {α:Type} {f:α->List Value} {m:Nat} (hf: ∀x,(f x).length=m): ∀xs:List α,(xs.flatMap f).length=xs.length*m
 | []=>by simp
 |x::xs=>by rw[List.flatMap_cons,List.length_append,Dl hf xs,hf,List.length_cons,Nat.add_mul,Nat.one_mul,Nat.add_comm]
theorem flat_get {α:Type} {f:α->List Value} {m:Nat} (hf: ∀x,(f x).length=m): ∀(xs:List α) (k:Nat) (x:α) (j:Nat) (u:Value),xs[k]? =some x->(f x)[j]? =some u->(xs.flatMap f)[k*m+j]? =some u
 | [],_,_,_,_,h,_=>by simp at h
 |y::xs,0,x,j,u,h,hu=>by simp at h;subst h;have hj:j<(f y).length:=(List.getElem?_eq_some_iff.1 hu).1;rw[List.flatMap_cons,Nat.zero_mul,Nat.zero_add,List.getElem?_append_left hj];exact hu
 |y::xs,k+1,x,j,u,h,hu=>by have ih:=flat_get hf xs k x j u (by simpa using h) hu;rw[List.flatMap_cons,List.getElem?_append_right (by rw[hf,Nat.add_mul];omega),hf,show(k+1)*m+j -m=k*m+j by rw[Nat.add_mul];omega];exact ih
structure Grow {α:Type} (f:α->List Value) (m:Nat) (I:α->World->Prop) (ty:TypeId) (B:Nat) (w:World) (v:Value) (xs:List α):Prop where
 own:w.ownsRow B ty m v xs.length (xs.flatMap f)
 stay: ∀x∈xs,nG B v.ownBlock w (I x)
section
variable {α:Type} {f:α->List Value} {m:Nat} {I:α->World->Prop} {ty:TypeId} {B:Nat} {w w':World} {v:Value} {xs:List α}
theorem Grow.nil (f:α->List Value) (m:Nat) (I:α->World->Prop) (ty:TypeId) (B:Nat) (w:World):Grow f m I ty B w (.slice none 0 0) []:=⟨World.ownsRow_nil _ _ _ _,λx hx=>by cases hx⟩
theorem Grow.lt (h:Grow f m I ty B w v xs): ∀k,v.ownBlock=some k->B<=k∧k<w.heap.size:=h.own.lt
theorem Grow.len (h:Grow f m I ty B w v xs): ∃ao cap,v= .slice ao xs.length cap:=by
 rcases h.own.2 with⟨h1,h2⟩|⟨g,cap,cur,h1,-⟩
 ·exact⟨none,0,by rw[h1,h2]⟩
 ·exact⟨_,_,h1⟩
theorem Grow.next (h:Grow f m I ty B w v xs) (ha:lF B w w'):Grow f m I ty B w' v xs:=by
 refine⟨⟨h.own.1,?_⟩,λx hx=>(h.stay x hx).next ha.x⟩;rcases h.own.2 with h1|⟨g,cap,cur,h1,h2,h3,h4⟩
 ·exact .inl h1
 ·exact .inr ⟨g,cap,cur,h1,h2,(ha.2 g h2 (Array.getElem?_eq_some_iff.1 h3).1).trans h3,h4⟩
theorem Grow.push {x:α} {g cap n:Nat} (h:Grow f m I ty B w v xs) (hx:nG B v.ownBlock w (I x)) (hn:n=xs.length+1) (hown:w'.ownsRow B ty m (.slice (some ⟨g,0,none⟩) n cap) n (xs.flatMap f++f x)) (hg:w.grownBy w' v.ownBlock) (hmv:v.ownBlock=some g∨g=w.heap.size):
 Grow f m I ty B w' (.slice (some ⟨g,0,none⟩) n cap) (xs++[x]):=by
 subst hn;refine⟨by rw[List.flatMap_append,List.flatMap_singleton,List.length_append];exact hown,λy hy=> ?_⟩;show nG B (some g) w' (I y);rcases List.mem_append.1 hy with hy|hy
 ·exact(h.stay y hy).move hg hmv
 ·rw[List.mem_singleton.1 hy];exact hx.move hg hmv
theorem Grow.cells (hf: ∀x,(f x).length=m) (h:Grow f m I ty B w v xs):ig B w (λw2=>(∀x∈xs,I x w2)∧∃ao cap,v= .slice ao xs.length cap∧xs.length<=cap∧∀k x,xs[k]? =some x->∃g,ao=some ⟨g,0,none⟩∧B<=g∧g<w2.heap.size∧∀j u,(f x)[j]? =some u->w2.cell? ⟨g,k*m+j,none⟩=some u):=λw2 h2=>by
 refine⟨λx hx=>(h.stay x hx) w2 h2.x,?_⟩;rcases h.own.2 with⟨h1,h3⟩|⟨g,cap,cur,h1,hB,hg,hc,-,hs,ht⟩
 ·refine⟨none,0,by rw[h1,h3],by omega,λk x hk=> ?_⟩;have:=(List.getElem?_eq_some_iff.1 hk).1;omega
 ·refine⟨some ⟨g,0,none⟩,cap,h1,hc,λk x hk=>⟨g,rfl,hB,?_⟩⟩;have hg2:=(h2.2 g hB (Array.getElem?_eq_some_iff.1 hg).1).trans hg;refine⟨(Array.getElem?_eq_some_iff.1 hg2).1,λj u hu=> ?_⟩;have hF:=flat_get hf xs k x j u hk hu;rw[<- ht]at hF;have hlt:=(List.getElem?_eq_some_iff.1 hF).1;rw[List.getElem?_take_of_lt (by rw[List.length_take]at hlt;omega)]at hF;exact au hg2 (by rw[<- hF];simp)
end
theorem gq {W:World} {cs:List Value} {t:TypeId} {fr:Nat×Nat} {g:Nat} (h:W.heap[g]? =some (.cells cs.toArray t fr)): ∀j u,cs[j]? =some u->W.cell? ((⟨g,0,none⟩:Addr).add j)=some u:=λj u hu=>by
 have:=au (j:=j) (u:=u) h (by simpa using hu);rcases Nat.eq_zero_or_pos j with rfl|hj
 ·simpa[Addr.add]using this
 ·simpa[Addr.add,Nat.ne_of_gt hj]using this
namespace Md
theorem cell0 {w:World} {g k m:Nat} {u:Value} (h:w.cell? ⟨g,k*m+0,none⟩=some u):w.cell? ⟨g,0+k*m,none⟩=some u:=by rw[Nat.zero_add];exact h
theorem oM {w:World} {g k m j:Nat} {u:Value} (h:w.cell? ⟨g,k*m+j,none⟩=some u):w.cell? ⟨g,0+k*m+j,none⟩=some u:=by rw[Nat.zero_add];exact h
structure lK where
 h:cB
 b:aH
 e:aH
 s:Sl
def lK.f (x:lK):List Value:=[.int .i64 x.h.op,.int .i64 x.h.line,.string x.h.nm,.string x.h.arg,.slice x.s.eu x.h.idx.len x.s.dI,.int .i64 x.h.cu,.int .i64 x.h.xn,.string x.h.bZ,.slice x.s.dR x.h.aK.len x.s.cO,.slice x.s.bR x.b.len x.s.aY,.slice x.s.fH x.e.len x.s.dX]
def lK.I (x:lK) (w:World):Prop:=x.h.idx.At w w.heap.size x.s.eu 0∧x.h.aK.At w w.heap.size x.s.dR 0∧x.b.At w w.heap.size x.s.bR 0∧x.e.At w w.heap.size x.s.fH 0
def zR:List lK->aH
 | []=> .nil
 |x::r=> .cons x.h x.b x.e (zR r)
theorem FI: ∀l,(zR l).len=l.length
 | []=>rfl
 |_::r=>by show(zR r).len+1=_;rw[FI r];rfl
theorem VW {w:World} {ao:Option Addr} : ∀(l:List lK) (k:Nat),(∀x∈l,uY x.h x.b x.e∧x.I w)->(∀i x,l[i]? =some x->∃g,ao=some ⟨g,0,none⟩∧g<w.heap.size∧∀j u,x.f[j]? =some u->w.cell? ⟨g,(k+i)*11+j,none⟩=some u)->(zR l).At w w.heap.size ao k
 | [],_,_,_=>trivial
 |x::r,k,h1,h2=>by obtain⟨g,rfl,hg,hc⟩:=h2 0 x rfl;obtain⟨hok,i1,i2,i3,i4⟩:=h1 x (by simp);refine⟨⟨g,0,x.s.eu,x.s.dI,x.s.dR,x.s.cO,x.s.bR,x.s.aY,x.s.fH,x.s.dX,rfl,hg,cell0 (hc 0 _ rfl),oM (hc 1 _ rfl),oM (hc 2 _ rfl),oM (hc 3 _ rfl),oM (hc 4 _ rfl),oM (hc 5 _ rfl),oM (hc 6 _ rfl),oM (hc 7 _ rfl),oM (hc 8 _ rfl),oM (hc 9 _ rfl),oM (hc 10 _ rfl),hok,i1,i2,i3,i4⟩,?_⟩;exact VW r (k+1) (λy hy=>h1 y (by simp[hy])) (λi y hy=>by obtain⟨g',e,hg',hc'⟩:=h2 (i+1) y (by simpa using hy);exact⟨g',e,hg',λj u hu=>by rw[show k+1+i=k+(i+1) by omega];exact hc' j u hu⟩)
theorem ae9 (x:lK):(lK.f x).length=11:=rfl
abbrev Iz (B:Nat) (w:World) (v:Value) (l:List lK):Prop:=Grow lK.f 11 lK.I 90 B w v l
theorem Iz.says {B:Nat} {w:World} {v:Value} {l:List lK} (h:Iz B w v l) (hok: ∀x∈l,uY x.h x.b x.e): ∃ao cap,v= .slice ao (zR l).len cap∧ig B w (λw2=>(zR l).At w2 w2.heap.size ao 0):=by
 obtain⟨ao,cap,e⟩:=h.len;refine⟨ao,cap,by rw[e,FI],λw2 h2=> ?_⟩;obtain⟨hI,nR,cap',e',-,hc⟩:=h.cells ae9 w2 h2;rw[e]at e';injection e' with e1 e2 e3;subst e1;exact VW l 0 (λx hx=>⟨hok x hx,hI x hx⟩) (λi x hx=>by obtain⟨g,h1,-,h3,h4⟩:=hc i x hx;exact⟨g,h1,h3,λj u hu=>by rw[Nat.zero_add];exact h4 j u hu⟩)
def rV (d:De):List Value:=[.int .i64 d.kind,.int .i64 d.line,.string d.nm,.int .i64 d.size,.int .i64 d.init,.string d.on]
theorem Zy {w:World} {ao:Option Addr} : ∀(l:List De) (k:Nat),(∀x∈l,x.Ok)->(∀i x,l[i]? =some x->∃g,ao=some ⟨g,0,none⟩∧g<w.heap.size∧∀j u,(rV x)[j]? =some u->w.cell? ⟨g,(k+i)*6+j,none⟩=some u)->gM w w.heap.size l ao k
 | [],_,_,_=>trivial
 |x::r,k,h1,h2=>by obtain⟨g,rfl,hg,hc⟩:=h2 0 x rfl;refine⟨⟨g,0,rfl,hg,cell0 (hc 0 _ rfl),oM (hc 1 _ rfl),oM (hc 2 _ rfl),oM (hc 3 _ rfl),oM (hc 4 _ rfl),oM (hc 5 _ rfl),h1 x (by simp)⟩,?_⟩;exact Zy r (k+1) (λy hy=>h1 y (by simp[hy])) (λi y hy=>by obtain⟨g',e,hg',hc'⟩:=h2 (i+1) y (by simpa using hy);exact⟨g',e,hg',λj u hu=>by rw[show k+1+i=k+(i+1) by omega];exact hc' j u hu⟩)
theorem QA (x:De):(rV x).length=6:=rfl
abbrev FN (B:Nat) (w:World) (v:Value) (l:List De):Prop:=Grow rV 6 (λ_ _=>True) 75 B w v l
theorem FN.says {B:Nat} {w:World} {v:Value} {l:List De} (h:FN B w v l) (hok: ∀x∈l,x.Ok): ∃ao cap,v= .slice ao l.length cap∧l.length<=cap∧ig B w (λw2=>gM w2 w2.heap.size l ao 0):=by
 obtain⟨-,ao,cap,e,hl,-⟩:=h.cells QA w (lF.refl _ _);refine⟨ao,cap,e,hl,λw2 h2=> ?_⟩;obtain⟨-,nR,cap',e',-,hc⟩:=h.cells QA w2 h2;rw[e]at e';injection e' with e1 e2 e3;subst e1;exact Zy l 0 hok (λi x hx=>by obtain⟨g,h1,-,h3,h4⟩:=hc i x hx;exact⟨g,h1,h3,λj u hu=>by rw[Nat.zero_add];exact h4 j u hu⟩)
def tH (s:ByteArray):List Value:=[.string s]
theorem aa5 {w:World} {ao:Option Addr} : ∀(l:List ByteArray) (k:Nat),(∀x∈l,x.size<=maxLen)->(∀i x,l[i]? =some x->∃g,ao=some ⟨g,0,none⟩∧g<w.heap.size∧∀j u,(tH x)[j]? =some u->w.cell? ⟨g,(k+i)*1+j,none⟩=some u)->eD w w.heap.size l ao k
 | [],_,_,_=>trivial
 |x::r,k,h1,h2=>by obtain⟨g,rfl,hg,hc⟩:=h2 0 x rfl;refine⟨⟨g,0,rfl,hg,by have:=cell0 (hc 0 _ rfl);simpa using this,h1 x (by simp)⟩,?_⟩;exact aa5 r (k+1) (λy hy=>h1 y (by simp[hy])) (λi y hy=>by obtain⟨g',e,hg',hc'⟩:=h2 (i+1) y (by simpa using hy);exact⟨g',e,hg',λj u hu=>by rw[show k+1+i=k+(i+1) by omega];exact hc' j u hu⟩)
theorem Ro (x:ByteArray):(tH x).length=1:=rfl
abbrev mU (B:Nat) (w:World) (v:Value) (l:List ByteArray):Prop:=Grow tH 1 (λ_ _=>True) 9 B w v l
theorem mU.says {B:Nat} {w:World} {v:Value} {l:List ByteArray} (h:mU B w v l) (hok: ∀x∈l,x.size<=maxLen): ∃ao cap,v= .slice ao l.length cap∧l.length<=cap∧ig B w (λw2=>eD w2 w2.heap.size l ao 0):=by
 obtain⟨-,ao,cap,e,hl,-⟩:=h.cells Ro w (lF.refl _ _);refine⟨ao,cap,e,hl,λw2 h2=> ?_⟩;obtain⟨-,nR,cap',e',-,hc⟩:=h.cells Ro w2 h2;rw[e]at e';injection e' with e1 e2 e3;subst e1;exact aa5 l 0 hok (λi x hx=>by obtain⟨g,h1,-,h3,h4⟩:=hc i x hx;exact⟨g,h1,h3,λj u hu=>by rw[Nat.zero_add];exact h4 j u hu⟩)
structure ni where
 t:Th
 fC:Option Addr
 dw:Nat
 bR:Option Addr
 aY:Nat
def ni.f (x:ni):List Value:=[.string x.t.nm,.int .i64 x.t.line,.slice x.fC x.t.bg.length x.dw,.slice x.bR x.t.body.len x.aY]
def ni.I (x:ni) (w:World):Prop:=eD w w.heap.size x.t.bg x.fC 0∧x.t.body.At w w.heap.size x.bR 0
theorem aa2 {w:World} {ao:Option Addr} : ∀(l:List ni) (k:Nat),(∀x∈l,(x.t.Ok∧x.t.bg.length<=x.dw)∧x.I w)->(∀i x,l[i]? =some x->∃g,ao=some ⟨g,0,none⟩∧g<w.heap.size∧∀j u,x.f[j]? =some u->w.cell? ⟨g,(k+i)*4+j,none⟩=some u)->fQ w w.heap.size (l.map (·.t)) ao k
 | [],_,_,_=>trivial
 |x::r,k,h1,h2=>by obtain⟨g,rfl,hg,hc⟩:=h2 0 x rfl;obtain⟨⟨hok,hcl⟩,i1,i2⟩:=h1 x (by simp);refine⟨⟨g,0,x.fC,x.dw,x.bR,x.aY,rfl,hg,cell0 (hc 0 _ rfl),oM (hc 1 _ rfl),oM (hc 2 _ rfl),oM (hc 3 _ rfl),hok,i1,i2,hcl⟩,?_⟩;exact aa2 r (k+1) (λy hy=>h1 y (by simp[hy])) (λi y hy=>by obtain⟨g',e,hg',hc'⟩:=h2 (i+1) y (by simpa using hy);exact⟨g',e,hg',λj u hu=>by rw[show k+1+i=k+(i+1) by omega];exact hc' j u hu⟩)
theorem Rm (x:ni):(ni.f x).length=4:=rfl
abbrev C9 (B:Nat) (w:World) (v:Value) (l:List ni):Prop:=Grow ni.f 4 ni.I 52 B w v l
theorem C9.says {B:Nat} {w:World} {v:Value} {l:List ni} (h:C9 B w v l) (hok: ∀x∈l,x.t.Ok∧x.t.bg.length<=x.dw): ∃ao cap,v= .slice ao (l.map (·.t)).length cap∧l.length<=cap∧ig B w (λw2=>fQ w2 w2.heap.size (l.map (·.t)) ao 0):=by
 obtain⟨-,ao,cap,e,hl,-⟩:=h.cells Rm w (lF.refl _ _);refine⟨ao,cap,by rw[e,List.length_map],hl,λw2 h2=> ?_⟩;obtain⟨hI,nR,cap',e',-,hc⟩:=h.cells Rm w2 h2;rw[e]at e';injection e' with e1 e2 e3;subst e1;exact aa2 l 0 (λx hx=>⟨hok x hx,hI x hx⟩) (λi x hx=>by obtain⟨g,h1,-,h3,h4⟩:=hc i x hx;exact⟨g,h1,h3,λj u hu=>by rw[Nat.zero_add];exact h4 j u hu⟩)
end Md
def exC (op n:Int) (nm:ByteArray) (kids:bC) (ao:Option Addr) (cap:Nat):List Value:=[.int .i64 op,.int .i64 n,.string nm,.slice ao kids.len cap]
def exV (op n:Int) (nm:ByteArray) (kids:bC) (ao:Option Addr) (cap:Nat):Value:= .agg #[.int .i64 op,.int .i64 n,.string nm,.slice ao kids.len cap]
theorem YM {B:Nat} {w:World} {g:Nat} {cs:Array Value} {t:TypeId} {fr:Nat×Nat} (hb:w.heap[g]? =some (.cells cs t fr)) (ht:B<=g):ig B w (λw2=>g<w2.heap.size∧∀j u,cs[j]? =some u->w2.cell? ⟨g,j,none⟩=some u):=λw2 h=>by
 have h2:=(h.2 g ht (Array.getElem?_eq_some_iff.1 hb).1).trans hb;exact⟨(Array.getElem?_eq_some_iff.1 h2).1,λj u hu=>au h2 hu⟩
theorem YL {B:Nat} {w:World} {g:Nat} {op n:Int} {nm:ByteArray} {kids:bC} {ao:Option Addr} {cap:Nat} {t:TypeId} {fr:Nat×Nat} (hb:w.heap[g]? =some (.cells (exC op n nm kids ao cap).toArray t fr)) (ht:B<=g) (hok:sD op n nm kids) (hk:ig B w (λw2=>kids.At w2 w2.heap.size ao 0)):
 ig B w (λw2=>(bC.cons op n nm kids .nil).At w2 w2.heap.size (some ⟨g,0,none⟩) 0):=λw2 h=>by
 obtain⟨hl,hc⟩:=YM hb ht w2 h;exact⟨⟨g,0,ao,cap,rfl,hl,hc 0 _ rfl,hc 1 _ rfl,hc 2 _ rfl,hc 3 _ rfl,hok,hk w2 h⟩,trivial⟩
theorem CS {w:World} {g:Nat} {cs:Array Value} {t:TypeId} (h:w.heap[g]? =some (.cells cs t (0,0))) {n:Nat} (hn:n<=cs.size):w.there g 0 n:=λj hj=>by
 refine⟨?_,bG h⟩;rw[cell_of_row w g _ cs t (0,0) h];simp;omega
theorem iE {w:World} {g:Nat} {cs:Array Value} {t:TypeId} {vs:List Value} (h:w.heap[g]? =some (.cells cs t (0,0))) (hl:vs.length=cs.size):(w.setCells g 0 vs).heap[g]? =some (.cells vs.toArray t (0,0)):=by
 obtain⟨cur',h1,h2,h3⟩:=AX vs 0 w cs h (by omega);rw[h1];have e:cur'.toList=vs:=by rw[Nat.zero_add,List.take_of_length_le (by simp;omega)]at h3;simpa using h3
 rw[<- e]
end Go.Proofs.YtkmllehjemjgpaaGreatDoor
