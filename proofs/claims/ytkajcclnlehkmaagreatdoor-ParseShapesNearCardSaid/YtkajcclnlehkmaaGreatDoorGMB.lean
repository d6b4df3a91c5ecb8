/- A region that draws its order, whose operations may make memory and call functions that write: whatever the order, what each operation yields has a property that stays. No program in sight. And what hangs on it. -/
import Derived.Test.YtkajcclnlehkmaaGreatDoorGMA
import Derived.Deep.AppendLies
import Derived.Deep.MidRow
set_option linter.unusedSimpArgs false
set_option linter.unusedVariables false
set_option maxHeartbeats 40000000
set_option maxRecDepth 1000000
namespace Go.Proofs.YtkajcclnlehkmaaGreatDoor
section
open Go.RowKit
abbrev RP:=Value->World->Prop
def lF (a:Act):Option Tmp->Value
 | none=>undef
 | some d=>a.eval (.tmp d)
def yK (ents:List (Option Tmp × RP)) (A:Act) (w:World):List Edge->Prop
 | []=>True
 | e ::r=>(if Region.binds .any e=true then (match ents[e.on]? with | some (d,R)=>R (lF A d) w | none=>True) else True)∧yK ents A w r
def gd (ents:List (Option Tmp × RP)) (A:Act) (o:Oper):Bool:=
 match o.guard with
 | none=>true
 | some (g,b)=>match ents[g]? with
   | some (some d,_)=>match A.eval (.tmp d) with
     | .bool x=>x == b
     | _=>false
   | _=>false
def aC (C:World->Prop) (Le:World->World->Prop) (R:RP) (A:Act) (dst:Option Tmp) (w:World) (a':Act) (w':World):Prop:=
 ∃v,a'=A.put dst v∧Le w w'∧C w'∧R (if dst.isSome then v else undef) w'
theorem aC.mk {C:World->Prop} {Le:World->World->Prop} {R:RP} {A:Act} {d:Tmp} {w w':World} {v:Value} (hle:Le w w') (hC:C w') (hR:R v w'):aC C Le R A (some d) w (A.put (some d) v) w':=⟨v,rfl,hle,hC,hR⟩
theorem aC.wW {C:World->Prop} {Le:World->World->Prop} {R:RP} {A:Act} {w w':World} {v:Value} (hle:Le w w') (hC:C w') (hR:R undef w'):aC C Le R A none w (A.put none v) w':=⟨v,rfl,hle,hC,hR⟩
def KJ (P:Program) (a0:Act) (Q:Exit->Act->World->Prop) (C:Bool->World->Prop) (Le:World->World->Prop) (fJ:List Tmp) (ents:List (Option Tmp × RP)) (o:Oper) (R:RP) (isK:Bool):Prop:=
 ∀β A w,(isK=true->β=false)->C β w->(∀s,fJ.contains s=false->A.eval (.tmp s)=a0.eval (.tmp s))->yK ents A w o.after.toList->
  if gd ents A o then o.wp P A w (aC (C (β || isK)) Le R A o.dst w) Q else (isK=false∧R undef w)
def dh (c:Value):RP:=fun v _=>v=c
theorem dh.mono {c:Value} {Le:World->World->Prop} : ∀v w w',Le w w'->dh c v w->dh c v w':=fun _ _ _ _ h=>h
theorem dh.mk (c:Value) (w:World):dh c c w:=rfl
def cK (w:World) (K:Act->Prop):List (Option Tmp × RP)->Act->Prop
 | [],a=>K a
 | (d,R) ::r,a=> ∀v,R v w->cK w K r (a.put d v)
theorem xA {w:World} {K:Act->Prop} {a:Act} {d:Option Tmp} {x:Value} {r:List (Option Tmp × RP)} (h:cK w K r (a.put d x)):cK w K ((d,dh x) ::r) a:=fun v hv=>by
 rw [show v=x from hv]; exact h
attribute [simp] yK dh lF Region.binds
def wQ (P:Program) (a0:Act) (Q:Exit->Act->World->Prop) (C:Bool->World->Prop) (Le:World->World->Prop) (fJ:List Tmp) (k0:Nat):List Oper->List (Option Tmp × RP)->Prop
 | [],ents=> ∀w,C (decide (k0 < ents.length)) w->cK w (fun a=>Q .normal a w) ents a0
 | o ::rest,ents=> ∃R:RP,(∀v w w',Le w w'->R v w->R v w')∧KJ P a0 Q C Le fJ ents o R (decide (ents.length=k0))∧wQ P a0 Q C Le fJ k0 rest (ents++[(o.dst,R)])
section
variable {P:Program} {a0:Act} {Q:Exit->Act->World->Prop} {C:Bool->World->Prop} {Le:World->World->Prop} {fJ:List Tmp} {k0:Nat}
theorem wQ.full: ∀ {l:List Oper} {ents:List (Option Tmp × RP)},wQ P a0 Q C Le fJ k0 l ents-> ∃full:List (Option Tmp × RP),full.length=ents.length + l.length∧full.take ents.length=ents∧
 (∀(i:Nat) (o:Oper),l[i]? =some o-> ∃R,full[ents.length + i]? =some (o.dst,R)∧(∀v w w',Le w w'->R v w->R v w')∧KJ P a0 Q C Le fJ (full.take (ents.length + i)) o R (decide (ents.length + i=k0)))∧
 ∀w,C (decide (k0 < full.length)) w->cK w (fun a=>Q .normal a w) full a0
 | [],ents,h=>⟨ents,by simp,by simp,by simp,h⟩
 | o ::rest,ents,h=>by
   obtain ⟨R,hm,ho,hr⟩:=h;obtain ⟨full,h1,h2,h3,h4⟩:=wQ.full hr;simp only [List.length_append,List.length_cons,List.length_nil,Nat.zero_add] at h1 h2 h3;have hlen:ents.length < full.length:=by omega
   have hget:full[ents.length]? =some (o.dst,R):=by have:=congrArg (fun l=>l[ents.length]?) h2;simpa using this
   refine ⟨full,by simp; omega,?_,?_,h4⟩
   ·have:=congrArg (List.take ents.length) h2;simpa [List.take_take] using this
   ·intro i o' hi;cases i with
    | zero=>simp only [List.getElem?_cons_zero,Option.some.injEq] at hi;subst hi;refine ⟨R,by simpa using hget,hm,?_⟩;have:full.take (ents.length + 0)=ents:=(by have:=congrArg (List.take ents.length) h2;simpa [List.take_take] using this);rw [this]; exact ho
    | succ i=>have hi':rest[i]? =some o':=(by simpa using hi);have:=h3 i o' hi';rw [show ents.length + (i + 1)=ents.length + 1 + i by omega];exact this
theorem wQ.step {o:Oper} {rest:List Oper} {ents:List (Option Tmp × RP)} {v:Value} (bU:KJ P a0 Q C Le fJ ents o (dh v) (decide (ents.length=k0))) (hrest:wQ P a0 Q C Le fJ k0 rest (ents++[(o.dst,dh v)])):wQ P a0 Q C Le fJ k0 (o ::rest) ents:=
 ⟨dh v,dh.mono,bU,hrest⟩
theorem wQ.some {o:Oper} {rest:List Oper} {ents:List (Option Tmp × RP)} (R:RP) (hmono: ∀v w w',Le w w'->R v w->R v w') (bU:KJ P a0 Q C Le fJ ents o R (decide (ents.length=k0))) (hrest:wQ P a0 Q C Le fJ k0 rest (ents++[(o.dst,R)])):wQ P a0 Q C Le fJ k0 (o ::rest) ents:=
 ⟨R,hmono,bU,hrest⟩
theorem cK.use {w:World} {K:Act->Prop} {a':Act} : ∀ {ents:List (Option Tmp × RP)} {a:Act},cK w K ents a->(∀(i:Nat) (d:Option Tmp) (R:RP),ents[i]? =some (d,R)->R (lF a' d) w)->
 a'.defers=a.defers->a'.tmps.size=a.tmps.size->(∀s:Nat,(∀(i:Nat) (d:Tmp) (R:RP),ents[i]? =some (some d,R)->d≠s)->a'.tmps[s]? =a.tmps[s]?)->K a'
 | [],a,h,_,hd,_,hs=>by
   have e:a'=a:=by cases a'; cases a;simp only at hd hs ⊢;congr 1;exact Array.ext_getElem? (fun s=>hs s (by simp))
   rw [e]; exact h
 | (d,R) ::r,a,h,hR,hd,hz,hs=>by
   have h1:=h (lF a' d) (hR 0 d R rfl);refine cK.use h1 (fun i d' R' hi=>hR (i + 1) d' R' (by simpa using hi)) ?_ ?_ ?_
   ·cases d <;> simpa [Act.put] using hd
   ·cases d <;> simpa [Act.put] using hz
   ·intro s hne;cases d with
    | none=>exact hs s (fun i d' R' hi=>by
     cases i with
     | zero=>simp at hi
     | succ i=>exact hne i d' R' (by simpa using hi))
    | some d=>
      by_cases hds:d=s
      ·subst hds;simp only [Act.put,lF,Act.eval];by_cases hlt:d < a.tmps.size
       ·have hlt':d < a'.tmps.size:=(by rw [hz]; exact hlt);rw [Array.getElem?_setIfInBounds_self_of_lt hlt];simp [Array.getElem?_eq_getElem hlt']
       ·have hge:a.tmps.size<=d:=Nat.le_of_not_lt hlt;rw [Array.getElem?_eq_none (by rw [hz]; exact hge),Array.getElem?_eq_none (by rw [Array.size_setIfInBounds]; exact hge)]
      ·rw [hs s (fun i d' R' hi=>by
        cases i with
        | zero=>simp at hi; rw [<- hi.1]; exact hds
        | succ i=>exact hne i d' R' (by simpa using hi))]
       simp [Act.put,Array.getElem?_setIfInBounds_ne hds]
def cnt (listed:Array Bool):Nat->Nat
 | 0=>0
 | k + 1=>cnt listed k + if listed.getD k false then 0 else 1
theorem Es {listed:Array Bool} {i:Nat} (hi:i < listed.size) (hu:listed.getD i false=false): ∀n,cnt (listed.setIfInBounds i true) n + (if i < n then 1 else 0)=cnt listed n
 | 0=>by simp [cnt]
 | n + 1=>by
   have ih:=Es hi hu n;simp only [cnt];by_cases hin:i=n
   ·subst hin;have h1:(listed.setIfInBounds i true).getD i false=true:=by simp [hi]
    rw [h1,hu];simp only [Nat.lt_irrefl,if_false] at ih;simp; omega
   ·rw [getD_set_ne false hin];by_cases hlt:i < n
    ·have h2:i < n + 1:=(by omega);simp only [hlt,if_true] at ih; simp only [h2,if_true]; omega
    ·have h2: ¬ i < n + 1:=(by omega);simp only [hlt,if_false] at ih; simp only [h2,if_false]; omega
theorem Cn {listed:Array Bool} : ∀ {n:Nat},cnt listed n=0-> ∀i,i < n->listed.getD i false=true
 | 0,_,_,hi=>absurd hi (by omega)
 | n + 1,h,i,hi=>by
   simp only [cnt] at h;by_cases hin:i=n
   ·subst hin; cases hg:listed.getD i false
    ·rw [hg] at h; simp at h
    ·rfl
   ·exact Cn (n:=n) (by omega) i (by omega)
theorem Bc: ∀ {l:List Oper},(l.filterMap (·.dst)).Nodup-> ∀(i j:Nat) (oi oj:Oper) (d:Tmp),l[i]? =some oi->l[j]? =some oj->oi.dst=some d->oj.dst=some d->i=j
 | [],_,i,_,_,_,_,h,_,_,_=>by simp at h
 | o ::r,hn,i,j,oi,oj,d,hi,hj,hdi,hdj=>by
   have key: ∀(k:Nat) (ok:Oper),r[k]? =some ok->ok.dst=some d->o.dst=some d->False:=fun k ok hk hdk ho=>by rw [List.filterMap_cons_some ho] at hn;exact (List.nodup_cons.1 hn).1 (List.mem_filterMap.2 ⟨ok,List.mem_of_getElem? hk,hdk⟩)
   have hn':(r.filterMap (·.dst)).Nodup:=by
    cases ho:o.dst with
    | none=>rwa [List.filterMap_cons_none ho] at hn
    | some d'=>rw [List.filterMap_cons_some ho] at hn; exact (List.nodup_cons.1 hn).2
   cases i with
   | zero=>
     cases j with
     | zero=>rfl
     | succ j=>simp only [List.getElem?_cons_zero,Option.some.injEq,List.getElem?_cons_succ] at hi hj;subst hi;exact (key j oj hj hdj hdi).elim
   | succ i=>
     cases j with
     | zero=>simp only [List.getElem?_cons_zero,Option.some.injEq,List.getElem?_cons_succ] at hi hj;subst hj;exact (key i oi hi hdi hdj).elim
     | succ j=>simp only [List.getElem?_cons_succ] at hi hj;rw [Bc hn' i j oi oj d hi hj hdi hdj]
theorem Eu {full:List (Option Tmp × RP)} {A:Act} {w:World} {i:Nat} : ∀ {l:List Edge},(∀e ∈ l,Region.binds .any e=true-> ∀(d:Option Tmp) (R:RP),full[e.on]? =some (d,R)->R (lF A d) w)->yK (full.take i) A w l
 | [],_=>trivial
 | e ::r,h=>by
   refine ⟨?_,Eu fun e' he'=>h e' (by simp [he'])⟩;split
   case isFalse=>trivial
   case isTrue hb=>
   cases hg:(full.take i)[e.on]? with
   | none=>trivial
   | some x=>
     obtain ⟨d,R⟩:=x;rw [List.getElem?_take] at hg;split at hg
     ·exact h e (by simp) hb d R hg
     ·cases hg
theorem pX {f:Oper × Nat->Bool} {l:List Oper} (h:l.zipIdx.all f=true) (i:Nat) (o:Oper) (hi:l[i]? =some o):f (o,i)=true:=by
 rw [List.all_eq_true] at h;refine h (o,i) (List.mem_of_getElem? (i:=i) ?_);rw [List.getElem?_zipIdx,hi]; simp
end
end
open Go.RowKit
def jq (o:Oper):List Nat:=(o.after.toList.filter (Region.binds .any)).map (·.on)
def Fj (l:List Oper) (jU:List (List Nat)):Bool:=l.zipIdx.all fun x=>(jU.getD x.2 []).all fun k=>(jq x.1).any fun d=>d == k || (jU.getD d []).contains k
def okB:List (Option Bool)->List Bool->Prop
 | some x ::r,b ::bs=>b=x∧okB r bs
 | none ::r,_ ::bs=>okB r bs
 | [],[]=>True
 | _,_=>False
def jo:List Nat->List Bool->Nat->List Bool
 | x ::r,b ::bs,i=>(b || x == i) ::jo r bs i
 | _,_,_=>[]
def Jh (n:Nat) (ws:List Nat) (jU:List (List Nat)) (bnd:List (List (Option Bool))):Bool:=
 decide (bnd.length=n) && (ws.all fun w=>decide (w < n)) && (List.range n).all fun i=>decide ((bnd.getD i []).length=ws.length) && ((bnd.getD i []).zip ws).all fun x=>match x.1 with | none=>true | some true=>(jU.getD i []).contains x.2 | some false=>(jU.getD x.2 []).contains i || x.2 == i
theorem vJ {o:Oper} {e:Edge} (he:e ∈ o.after) (hb:Region.binds .any e=true):e.on ∈ jq o:=by
 unfold jq; exact List.mem_map.2 ⟨e,List.mem_filter.2 ⟨by simpa using he,hb⟩,rfl⟩
def vK (n:Nat) (jU:List (List Nat)) (k1:Nat):Bool:=(List.range n).all fun i=>decide (i < k1) || (List.range k1).all fun j=>(jU.getD i []).contains j
def gZ (n k:Nat):Array Bool:=((List.range n).map fun i=>decide (i < k)).toArray
theorem fP (n k i:Nat):(gZ n k).getD i false=(decide (i < n) && decide (i < k)):=by
 unfold gZ;rw [Array.getD_eq_getD_getElem?,List.getElem?_toArray,List.getElem?_map];by_cases h:i < n
 ·rw [List.getElem?_range h]; simp [h]
 ·rw [List.getElem?_eq_none (by simp; omega)]; simp [h]
theorem jV (n k:Nat):(gZ n k).size=n:=by simp [gZ]
theorem zO {n k:Nat} {listed:Array Bool} (hs:listed.size=n) (h1: ∀i,i < k->listed.getD i false=true) (h2: ∀i,k<=i->listed.getD i false=false):listed=gZ n k:=by
 refine Array.ext (by rw [hs,jV]) (fun i hi hi'=> ?_);have e1:listed.getD i false=listed[i]:=by rw [Array.getD_eq_getD_getElem?,Array.getElem?_eq_getElem hi]; rfl
 have e2:(gZ n k).getD i false=(gZ n k)[i]:=by rw [Array.getD_eq_getD_getElem?,Array.getElem?_eq_getElem hi']; rfl
 rw [<- e1,<- e2,fP];have hin:i < n:=by rw [<- hs]; exact hi
 by_cases hk:i < k
 ·rw [h1 i hk]; simp [hin,hk]
 ·rw [h2 i (by omega)]; simp [hk]
theorem xB (n k:Nat) (hk:k<=n): ∀m,m<=n->cnt (gZ n k) m=m - k
 | 0,_=>by simp [cnt]
 | m + 1,hm=>by
   have ih:=xB n k hk m (by omega);simp only [cnt,ih,fP];by_cases h:m < k
   ·have:m < n:=by omega
    simp [h,this]; omega
   ·simp [h]; omega
def Ce (P:Program) (a0:Act) (Q:Exit->Act->World->Prop) (C:List Bool->World->Prop) (Le:World->World->Prop) (fJ:List Tmp) (ents:List (Option Tmp × RP)) (o:Oper) (R:RP) (ws:List Nat) (pat:List (Option Bool)):Prop:=
 ∀c A w,okB pat c->C c w->(∀s,fJ.contains s=false->A.eval (.tmp s)=a0.eval (.tmp s))->yK ents A w o.after.toList->
  if gd ents A o then o.wp P A w (aC (C (jo ws c ents.length)) Le R A o.dst w) Q else (C (jo ws c ents.length) w∧R undef w)
def aJ (P:Program) (a0:Act) (Q:Exit->Act->World->Prop) (C:List Bool->World->Prop) (Le:World->World->Prop) (fJ:List Tmp) (ws:List Nat) (K:Act->World->Prop) (k0:Nat):List Oper->List (List (Option Bool))->List (Option Tmp × RP)->Prop
 | o ::rest,b ::bs,ents=> ∃R:RP,(∀v w w',Le w w'->R v w->R v w')∧Ce P a0 Q C Le fJ ents o R ws b∧aJ P a0 Q C Le fJ ws K k0 rest bs (ents++[(o.dst,R)])
 | _,_,ents=> ∀w,C (ws.map fun _=>true) w->cK w (fun a=>K a w) (ents.drop k0) a0
def vg (l:List Oper):List (Option Tmp × RP):=l.map fun o=>(o.dst,fun _ _=>True)
theorem jm {α:Type} :(∀(n:Nat) (a:α) (l:List α),(a ::l).take (n + 1)=a ::l.take n)∧(∀l:List α,l.take 0=[])∧(∀l:List α,l.drop 0=l)∧ ∀(n:Nat) (a:α) (l:List α),(a ::l).drop (n + 1)=l.drop n:=⟨fun _ _ _=>rfl,fun _=>rfl,fun _=>rfl,fun _ _ _=>rfl⟩
theorem kX:vg []=[]∧ ∀o l,vg (o ::l)=(o.dst,fun _ _=>True) ::vg l:=⟨rfl,fun _ _=>rfl⟩
section
variable {P:Program} {a0:Act} {Q:Exit->Act->World->Prop} {C:List Bool->World->Prop} {Le:World->World->Prop} {fJ:List Tmp} {ws:List Nat} {K:Act->World->Prop} {k0:Nat}
theorem aJ.full: ∀ {l:List Oper} {bnd:List (List (Option Bool))} {ents:List (Option Tmp × RP)},bnd.length=l.length->aJ P a0 Q C Le fJ ws K k0 l bnd ents-> ∃full:List (Option Tmp × RP),full.length=ents.length + l.length∧full.take ents.length=ents∧
 (∀(i:Nat) (o:Oper),l[i]? =some o-> ∃R,full[ents.length + i]? =some (o.dst,R)∧(∀v w w',Le w w'->R v w->R v w')∧Ce P a0 Q C Le fJ (full.take (ents.length + i)) o R ws (bnd.getD i []))∧
 ∀w,C (ws.map fun _=>true) w->cK w (fun a=>K a w) (full.drop k0) a0
 | [],bnd,ents,_,h=>⟨ents,by simp,by simp,by simp,by cases bnd <;> exact h⟩
 | o ::rest,[],ents,hl,h=>by simp at hl
 | o ::rest,b ::bs,ents,hl,h=>by
   obtain ⟨R,hm,ho,hr⟩:=h;obtain ⟨full,h1,h2,h3,h4⟩:=aJ.full (by simpa using hl) hr;simp only [List.length_append,List.length_cons,List.length_nil,Nat.zero_add] at h1 h2 h3;have hlen:ents.length < full.length:=by omega
   have hget:full[ents.length]? =some (o.dst,R):=by have:=congrArg (fun l=>l[ents.length]?) h2;simpa using this
   refine ⟨full,by simp; omega,?_,?_,h4⟩
   ·have:=congrArg (List.take ents.length) h2;simpa [List.take_take] using this
   ·intro i o' hi;cases i with
    | zero=>simp only [List.getElem?_cons_zero,Option.some.injEq] at hi;subst hi;refine ⟨R,by simpa using hget,hm,?_⟩;have:full.take (ents.length + 0)=ents:=(by have:=congrArg (List.take ents.length) h2;simpa [List.take_take] using this);rw [this]; exact ho
    | succ i=>have hi':rest[i]? =some o':=(by simpa using hi);have:=h3 i o' hi';rw [show ents.length + (i + 1)=ents.length + 1 + i by omega];exact this
theorem aJ.step {o:Oper} {rest:List Oper} {b:List (Option Bool)} {bs:List (List (Option Bool))} {ents:List (Option Tmp × RP)} {v:Value} (bU:Ce P a0 Q C Le fJ ents o (dh v) ws b) (hrest:aJ P a0 Q C Le fJ ws K k0 rest bs (ents++[(o.dst,dh v)])):aJ P a0 Q C Le fJ ws K k0 (o ::rest) (b ::bs) ents:=
 ⟨dh v,dh.mono,bU,hrest⟩
theorem aJ.some {o:Oper} {rest:List Oper} {b:List (Option Bool)} {bs:List (List (Option Bool))} {ents:List (Option Tmp × RP)} (R:RP) (hmono: ∀v w w',Le w w'->R v w->R v w') (bU:Ce P a0 Q C Le fJ ents o R ws b) (hrest:aJ P a0 Q C Le fJ ws K k0 rest bs (ents++[(o.dst,R)])):aJ P a0 Q C Le fJ ws K k0 (o ::rest) (b ::bs) ents:=
 ⟨R,hmono,bU,hrest⟩
theorem aJ.done {ents:List (Option Tmp × RP)} (h: ∀w,C (ws.map fun _=>true) w->cK w (fun a=>K a w) (ents.drop k0) a0):aJ P a0 Q C Le fJ ws K k0 [] [] ents:=h
def DC (l:List Oper) (listed:Array Bool):Prop:= ∀(i:Nat) (o:Oper),l[i]? =some o->listed.getD i false=true-> ∀d ∈ jq o,listed.getD d false=true
def cw (ws:List Nat) (listed:Array Bool):List Bool:=ws.map fun w=>listed.getD w false
theorem yE {l:List Oper} {jU:List (List Nat)} {listed:Array Bool} (ha:Fj l jU=true) (hed: ∀(i:Nat) (o:Oper),l[i]? =some o-> ∀d ∈ jq o,d < i) (hd:DC l listed) (hsz:listed.size=l.length): ∀(i:Nat),listed.getD i false=true-> ∀k ∈ jU.getD i [],listed.getD k false=true:=by
 intro i
 induction i using Nat.strongRecOn with
 | _ i ih=>
   intro hl k hk;by_cases hi:i < l.length
   ·have hz:=pX ha i l[i] (List.getElem?_eq_getElem hi);rw [List.all_eq_true] at hz;have:=hz k hk;rw [List.any_eq_true] at this;obtain ⟨d,hd1,hd2⟩:=this;have hdl:=hd i l[i] (List.getElem?_eq_getElem hi) hl d hd1;simp only [Bool.or_eq_true,beq_iff_eq,List.contains_iff_mem] at hd2;rcases hd2 with rfl | hd2
    ·exact hdl
    ·exact ih d (hed i l[i] (List.getElem?_eq_getElem hi) d hd1) hdl k hd2
   ·exfalso;rw [Array.getD_eq_getD_getElem?,Array.getElem?_eq_none (by omega)] at hl; cases hl
theorem GQ {listed:Array Bool} {i:Nat} (hi:i < listed.size): ∀ws:List Nat,cw ws (listed.setIfInBounds i true)=jo ws (cw ws listed) i
 | []=>rfl
 | x ::r=>by
   have ih:=GQ hi r;unfold cw at ih ⊢;rw [List.map_cons,ih,List.map_cons,jo];congr 1;by_cases hx:x=i
   ·subst hx; simp [hi]
   ·rw [getD_set_ne false (fun e=>hx e.symm)]; simp [hx]
theorem D6 {listed:Array Bool} : ∀(pat:List (Option Bool)) (ws:List Nat),pat.length=ws.length->(∀x ∈ pat.zip ws,∀b,x.1=some b->listed.getD x.2 false=b)->okB pat (cw ws listed)
 | [],[],_,_=>trivial
 | [],_ ::_,h,_=>by simp at h
 | _ ::_,[],h,_=>by simp at h
 | none ::r,x ::ws,h,hb=>D6 r ws (by simpa using h) (fun y hy=>hb y (by simp [hy]))
 | some b ::r,x ::ws,h,hb=>⟨hb (some b,x) (by simp) b rfl,D6 r ws (by simpa using h) (fun y hy=>hb y (by simp [hy]))⟩
def KR (a0:Act) (C:List Bool->World->Prop) (ws:List Nat) (l:List Oper) (k0 k1:Nat) (full:List (Option Tmp × RP)) (listed:Array Bool) (a:Act) (w:World):Prop:=
 listed.size=l.length∧(∀i,i < k0->listed.getD i false=true)∧(∀i,k1<=i->listed.getD i false=false)∧C (cw ws listed) w∧a.defers=a0.defers∧a.tmps.size=a0.tmps.size∧DC l listed∧
 (∀s:Nat,(∀(i:Nat) (d:Tmp) (R:RP),full[i]? =some (some d,R)->k0<=i->listed.getD i false=true->d≠s)->a.tmps[s]? =a0.tmps[s]?)∧
 ∀(i:Nat) (d:Option Tmp) (R:RP),full[i]? =some (d,R)->listed.getD i false=true->R (lF a d) w
theorem J4 {l:List Oper} {full:List (Option Tmp × RP)} {jU:List (List Nat)} {bnd:List (List (Option Bool))} {k0 k1:Nat} (hk1:k1<=l.length) (xH:Fj l jU=true) (yR:vK l.length jU k1=true)
 (xI:Jh l.length ws jU bnd=true) (hws: ∀x ∈ ws,x < k1) (Oh: ∀w,Le w w) (hbd: ∀d ∈ fJ,d < a0.tmps.size) (hlen:full.length=k1) (hnd:(l.filterMap (·.dst)).Nodup) (Qh:((l.take k1).drop k0).filterMap (·.dst)=fJ)
 (hed: ∀(i:Nat) (o:Oper),l[i]? =some o-> ∀d ∈ jq o,d < i) (hgu: ∀(i:Nat) (o:Oper),l[i]? =some o-> ∀g b,o.guard=some (g,b)->g < i)
 (Ol: ∀(i:Nat) (o:Oper),l[i]? =some o->i < k0->full[i]? =some (o.dst,fun _ _=>True))
 (hf: ∀(i:Nat) (o:Oper),l[i]? =some o->k0<=i->i < k1-> ∃R,full[i]? =some (o.dst,R)∧(∀v w w',Le w w'->R v w->R v w')∧Ce P a0 Q C Le fJ (full.take i) o R ws (bnd.getD i []))
 (hend: ∀w,C (ws.map fun _=>true) w->cK w (fun a=>wpAny P .any l.toArray Q (l.length - k1) (gZ l.length k1) a w) (full.drop k0) a0):
 ∀(fuel:Nat) (listed:Array Bool) (a:Act) (w:World),cnt listed l.length=fuel->KR a0 C ws l k0 k1 full listed a w->wpAny P .any l.toArray Q fuel listed a w:=by
 have hB:bnd.length=l.length∧(∀x ∈ ws,x < l.length)∧ ∀i,i < l.length->(bnd.getD i []).length=ws.length∧ ∀x ∈ (bnd.getD i []).zip ws,(match x.1 with | none=>true | some true=>(jU.getD i []).contains x.2 | some false=>(jU.getD x.2 []).contains i || x.2 == i)=true:=by unfold Jh at xI;simp only [Bool.and_eq_true,decide_eq_true_eq,List.all_eq_true,List.mem_range] at xI;exact ⟨xI.1.1,xI.1.2,fun i hi=>xI.2 i hi⟩
 have hP: ∀i,i < l.length->k1<=i-> ∀j,j < k1->j ∈ jU.getD i []:=fun i hi hki j hj=>by
  unfold vK at yR;simp only [List.all_eq_true,List.mem_range,Bool.or_eq_true,decide_eq_true_eq,List.contains_iff_mem] at yR;rcases yR i hi with h | h
  ·omega
  ·exact h j hj
 have hdst: ∀(i:Nat) (d:Option Tmp) (R:RP),full[i]? =some (d,R)-> ∃o,l[i]? =some o∧o.dst=d∧ ∀v w w',Le w w'->R v w->R v w':=fun i d R hi=>by
  have hlt:i < k1:=by rw [<- hlen]; exact (List.getElem?_eq_some_iff.1 hi).1
  have hll:i < l.length:=by omega
  by_cases hik:i < k0
  ·have h1:=Ol i l[i] (List.getElem?_eq_getElem hll) hik;rw [hi] at h1;simp only [Option.some.injEq,Prod.mk.injEq] at h1;exact ⟨l[i],List.getElem?_eq_getElem hll,h1.1.symm,by rw [h1.2]; exact fun _ _ _ _ _=>trivial⟩
  ·obtain ⟨R',h1,h2,-⟩:=hf i l[i] (List.getElem?_eq_getElem hll) (by omega) hlt;rw [hi] at h1;simp only [Option.some.injEq,Prod.mk.injEq] at h1;exact ⟨l[i],List.getElem?_eq_getElem hll,h1.1.symm,by rw [h1.2]; exact h2⟩
 have hfe: ∀(i:Nat) (o:Oper),l[i]? =some o->i < k1-> ∃R,full[i]? =some (o.dst,R):=fun i o hi hik=>by
  by_cases h:i < k0
  ·exact ⟨_,Ol i o hi h⟩
  ·obtain ⟨R,h1,-⟩:=hf i o hi (by omega) hik; exact ⟨R,h1⟩
 have hmem: ∀(k:Nat) (d:Tmp) (R:RP),full[k]? =some (some d,R)->k0<=k->d ∈ fJ:=fun k d R hk' hkk=>by
  obtain ⟨ok,hok,hdk,-⟩:=hdst k (some d) R hk';have hlt:k < k1:=by rw [<- hlen]; exact (List.getElem?_eq_some_iff.1 hk').1
  rw [<- Qh];refine List.mem_filterMap.2 ⟨ok,List.mem_of_getElem? (i:=k - k0) ?_,hdk⟩;rw [List.getElem?_drop,List.getElem?_take,show k0 + (k - k0)=k by omega,if_pos hlt]; exact hok
 have Oy: ∀listed:Array Bool,listed.size=l.length->Region.ready .any l.toArray listed=[]-> ∀i,i < l.length->listed.getD i false=true:=fun listed hsz hr i=>by
  induction i using Nat.strongRecOn with
  | _ i ih=>
    intro hi;cases hg:listed.getD i false with
    | true=>rfl
    | false=>exfalso;have:i ∈ Region.ready .any l.toArray listed:=mem_ready.2 ⟨by have h1:i < listed.size:=(by omega);simp [h1] at hg ⊢; exact hg,l[i],by simp [hi],fun e he hb=>ih e.on (hed i l[i] (List.getElem?_eq_getElem hi) e.on (vJ he hb)) (by have:=hed i l[i] (List.getElem?_eq_getElem hi) e.on (vJ he hb); omega)⟩;rw [hr] at this; cases this
 have hall: ∀fuel listed a w,cnt listed l.length=fuel->KR a0 C ws l k0 k1 full listed a w->(∀i,i < k1->listed.getD i false=true)->wpAny P .any l.toArray Q fuel listed a w:=fun fuel listed a w hc hI ha=>by
  obtain ⟨hsz0,-,hno,hC,hd,hz,hdc,hs,hR⟩:=hI;have he:listed=gZ l.length k1:=zO hsz0 ha hno;have hkk:cw ws listed=ws.map fun _=>true:=by unfold cw; exact List.map_congr_left (fun x hx=>ha x (hws x hx))
  rw [hkk] at hC;have hfu:fuel=l.length - k1:=by rw [<- hc,he,xB _ _ hk1 _ (Nat.le_refl _)]
  have:=(hend w hC).use (a':=a) (fun i d R hi=>by rw [List.getElem?_drop] at hi;exact hR (k0 + i) d R hi (ha _ (by rw [<- hlen]; exact (List.getElem?_eq_some_iff.1 hi).1))) hd hz (fun s hne=>hs s (fun i d R hi hki _=>hne (i - k0) d R (by rw [List.getElem?_drop,show k0 + (i - k0)=i by omega]; exact hi)));rw [hfu,he]; exact this
 intro fuel
 induction fuel with
 | zero=>intro listed a w hc hI;exact hall 0 listed a w hc hI (fun i hi=>Cn hc i (by omega))
 | succ fuel ih=>
   intro listed a w hc hI;by_cases hdone: ∀i,i < k1->listed.getD i false=true
   ·exact hall _ listed a w hc hI hdone
   refine ⟨fun hr=>(hdone (fun i hi=>Oy listed hI.1 hr i (by omega))).elim,fun i hi=> ?_⟩;obtain ⟨h0,o,ho,zJ⟩:=mem_ready.1 hi;have hlt:i < l.length:=by simpa using (Array.getElem?_eq_some_iff.1 ho).1
   have hlo:l[i]? =some o:=by simpa using ho
   have hls:i < listed.size:=by rw [hI.1]; exact hlt
   have hun:listed.getD i false=false:=by simp [hls] at h0 ⊢; exact h0
   obtain ⟨hsz,hpre,hno,hC,hd,hz,hdc,hs,hR⟩:=hI;have L8:=yE xH hed hdc hsz;have hself: ∀k ∈ jU.getD i [],listed.getD k false=true:=fun k hk=>by
    have hz':=pX xH i o hlo;rw [List.all_eq_true] at hz';have:=hz' k hk;rw [List.any_eq_true] at this;obtain ⟨d,hd1,hd2⟩:=this;simp only [jq,List.mem_map,List.mem_filter,Array.mem_toList_iff] at hd1;obtain ⟨e,⟨he,hb⟩,rfl⟩:=hd1;simp only [Bool.or_eq_true,beq_iff_eq,List.contains_iff_mem] at hd2;rcases hd2 with rfl | hd2
    ·exact zJ e he hb
    ·exact L8 e.on (zJ e he hb) k hd2
   have FB:k0<=i:=by
    rcases Nat.lt_or_ge i k0 with h | h
    ·rw [hpre i h] at hun; cases hun
    ·exact h
   have SX:i < k1:=by
    rcases Nat.lt_or_ge i k1 with h | h
    ·exact h
    ·exact (hdone (fun j hj=>hself j (hP i hlt h j hj))).elim
   obtain ⟨R,L6,UH,Ua⟩:=hf i o hlo FB SX;have hW:Region.wanted o (yielded l.toArray a.tmps)=gd (full.take i) a o:=by
    unfold Region.wanted gd;cases hgo:o.guard with
    | none=>rfl
    | some x=>
      obtain ⟨g,b⟩:=x;have hgi:=hgu i o hlo g b hgo;simp only;rw [List.getElem?_take,if_pos hgi];unfold yielded;have hgl:g < l.length:=(by omega);have hk':l.toArray[g]? =some l[g]:=(by simp [hgl]);obtain ⟨R',hR'⟩:=hfe g l[g] (List.getElem?_eq_getElem hgl) (by omega);rw [hk',hR'];simp only [Option.bind_some];cases hd':l[g].dst with
      | none=>rfl
      | some d=>
        simp only [Option.bind_some,Act.eval];cases ht:a.tmps[d]? with
        | none=>simp [ht,undef]
        | some v=>simp only [Array.getD_eq_getD_getElem?,ht,Option.getD_some];cases v <;> first | rfl | (rename_i x; cases x <;> cases b <;> rfl)
   have SV:DC l (listed.setIfInBounds i true):=fun j oj hj hl d hdj=>by
    by_cases hij:i=j
    ·subst hij;rw [hlo] at hj; injection hj with hj; subst hj;simp only [jq,List.mem_map,List.mem_filter,Array.mem_toList_iff] at hdj;obtain ⟨e,⟨he,hb⟩,rfl⟩:=hdj;exact getD_set_true (zJ e he hb)
    ·rw [getD_set_ne false hij] at hl;exact getD_set_true (hdc j oj hj hl d hdj)
   have hok:okB (bnd.getD i []) (cw ws listed):=D6 _ _ (hB.2.2 i hlt).1 (fun x hx b hb=>by
    have:=(hB.2.2 i hlt).2 x hx;rw [hb] at this;cases b with
    | true=>exact hself x.2 (by simpa using this)
    | false=>
      cases hcc:listed.getD x.2 false with
      | false=>rfl
      | true=>
        exfalso;simp only [Bool.or_eq_true,List.contains_iff_mem,beq_iff_eq] at this;rcases this with h1 | h1
        ·have:=L8 x.2 hcc i h1; rw [hun] at this; cases this
        ·rw [h1,hun] at hcc; cases hcc)
   have htk:(full.take i).length=i:=by rw [List.length_take,hlen]; omega
   have hstep:=Ua (cw ws listed) a w hok hC (fun s hs'=>by have:a.tmps[s]? =a0.tmps[s]?:=hs s (fun k d R' hk' hkk _ e=>by have:=hmem k d R' hk' hkk;rw [e] at this;simp at hs';exact hs' this);simp [Act.eval,this]) (Eu (fun e he hb d R' hR'=>hR e.on d R' hR' (zJ e (by simpa using he) hb)));rw [htk] at hstep;have hnext: ∀(v:Value) (w':World),Le w w'->C (jo ws (cw ws listed) i) w'->R (lF (a.put o.dst v) o.dst) w'->wpAny P .any l.toArray Q fuel (listed.setIfInBounds i true) (a.put o.dst v) w':=fun v w' hle hC' hv=>by
    refine ih _ _ _ ?_ ⟨by simp [hsz],fun j hj=>getD_set_true (hpre j hj),fun j hj=>by rw [getD_set_ne false (by omega)]; exact hno j hj,by rw [GQ hls]; exact hC',?_,?_,SV,?_,?_⟩
    ·have:=Es hls hun l.length;rw [if_pos hlt] at this;omega
    ·cases o.dst <;> simpa [Act.put] using hd
    ·cases o.dst <;> simpa [Act.put] using hz
    ·intro s hne;have h1:a.tmps[s]? =a0.tmps[s]?:=hs s (fun k d R' hk hkk hl=>hne k d R' hk hkk (getD_set_true hl));cases hod:o.dst with
     | none=>simpa [Act.put] using h1
     | some d=>have hds:d≠s:=hne i d R (by rw [L6,hod]) FB (by simp [hls]);simp only [Act.put];rw [Array.getElem?_setIfInBounds_ne hds]; exact h1
    ·intro k d R' hk hl;by_cases hik:i=k
     ·subst hik;rw [L6] at hk;simp only [Option.some.injEq,Prod.mk.injEq] at hk;obtain ⟨rfl,rfl⟩:=hk;exact hv
     ·have hl':listed.getD k false=true:=(by rwa [getD_set_ne false hik] at hl);obtain ⟨ok,hok',hdk,hmon⟩:=hdst k d R' hk;have h1:=hmon _ _ _ hle (hR k d R' hk hl');have:lF (a.put o.dst v) d=lF a d:=by
       cases hod:o.dst with
       | none=>rfl
       | some d1=>
         cases d with
         | none=>rfl
         | some d2=>have hne:d1≠d2:=fun e=>hik (Bc hnd i k o ok d2 hlo hok' (by rw [hod,e]) hdk);simp [lF,Act.eval,Act.put,Array.getElem?_setIfInBounds_ne hne]
      rw [this]; exact h1
   unfold wpOp;simp only [ho];rw [hW];cases hgd:gd (full.take i) a o with
   | true=>
     rw [hgd] at hstep;simp only [if_true] at hstep ⊢;refine Or.inl (Oper.wp_mono ?_ hstep);rintro a' w' ⟨v,rfl,hle,hC',hv⟩;refine hnext v w' hle hC' ?_;cases hod:o.dst with
     | none=>rw [hod] at hv; exact hv
     | some d=>rw [hod] at hv;simp only [Option.isSome_some,if_true] at hv;have hdl:d < a.tmps.size:=(by rw [hz]; exact hbd d (hmem i d R (by rw [L6,hod]) FB));simpa [lF,Act.eval,Act.put,hdl] using hv
   | false=>
     rw [hgd] at hstep;simp only [Bool.false_eq_true,if_false] at hstep ⊢;refine hnext undef w (Oh w) hstep.1 ?_;cases hod:o.dst with
     | none=>exact hstep.2
     | some d=>have hdl:d < a.tmps.size:=(by rw [hz]; exact hbd d (hmem i d R (by rw [L6,hod]) FB));simpa [lF,Act.eval,Act.put,hdl] using hstep.2
def Bw (l:List Oper):Bool:=decide (l.filterMap (·.dst)).Nodup && (l.zipIdx.all fun x=>((jq x.1).all fun d=>decide (d < x.2)) && (match x.1.guard with | none=>true | some (g,_)=>decide (g < x.2)))
theorem bS {l:List Oper} {w:World} {n r:Nat} (k0 k1:Nat) (ws:List Nat) (jU:List (List Nat)) (bnd:List (List (Option Bool))) (C:List Bool->World->Prop) (Le:World->World->Prop) (fJ:List Tmp)
 (hn:l.length=n) (hr:n - k0=r) (hk:(decide (k0<=k1) && decide (k1<=n) && decide (bnd.length=k1 - k0) && ws.all fun x=>decide (x < k1))=true) (hB:Bw l=true) (xH:Fj l jU=true) (yR:vK n jU k1=true)
 (xI:Jh n ws jU ((List.replicate k0 (ws.map fun _=>none))++bnd++List.replicate (n - k1) (ws.map fun _=>none))=true) (SS:(((l.take k1).drop k0).filterMap (·.dst) == fJ)=true) (hws:(ws.all fun x=>decide (k0<=x))=true) (Oh: ∀w,Le w w) (hbd:(fJ.all fun d=>decide (d < a0.tmps.size))=true) (hC:C (ws.map fun _=>false) w)
 (h:aJ P a0 Q C Le fJ ws (wpAny P .any l.toArray Q (n - k1) (gZ n k1)) k0 ((l.take k1).drop k0) bnd (vg (l.take k0))):wpAny P .any l.toArray Q r (gZ n k0) a0 w:=by
 subst hn; subst hr;simp only [Bool.and_eq_true,decide_eq_true_eq,List.all_eq_true] at hk;obtain ⟨⟨⟨h01,U6⟩,hbl⟩,hwk⟩:=hk;unfold Bw at hB;simp only [Bool.and_eq_true,decide_eq_true_eq] at hB;obtain ⟨hnd,hz⟩:=hB;have hdl:(vg (l.take k0)).length=k0:=by simp [vg]; omega
 obtain ⟨full,h1,h2,h3,h4⟩:=h.full (by simp [hbl]; omega);rw [hdl] at h1 h2 h3;have hlen:full.length=k1:=by rw [h1]; simp; omega
 have hed: ∀(i:Nat) (o:Oper),l[i]? =some o->(∀d ∈ jq o,d < i)∧ ∀g b,o.guard=some (g,b)->g < i:=fun i o hi=>by have:=pX hz i o hi;simp only [Bool.and_eq_true,List.all_eq_true,decide_eq_true_eq] at this;refine ⟨this.1,fun g b hg=> ?_⟩;have h2:=this.2;rw [hg] at h2;simpa using h2
 refine J4 U6 xH yR xI hwk Oh (fun d hd=>by rw [List.all_eq_true] at hbd; simpa using hbd d hd) hlen hnd (by simpa using SS) (fun i o hi=>(hed i o hi).1) (fun i o hi=>(hed i o hi).2) ?_ ?_ h4 _ _ _ _ (by rw [xB _ _ (by omega) _ (Nat.le_refl _)]) ⟨jV _ _,?_,?_,?_,rfl,rfl,?_,fun _ _=>rfl,?_⟩
 ·intro i o hi hik;have:=congrArg (fun l=>l[i]?) h2;rw [List.getElem?_take,if_pos hik] at this;rw [this];simp [vg,hik,hi]
 ·intro i o hi hki hik;have hgo:((l.take k1).drop k0)[i - k0]? =some o:=by rw [List.getElem?_drop,List.getElem?_take,show k0 + (i - k0)=i by omega,if_pos hik]; exact hi
  obtain ⟨R,ha,hb,hc⟩:=h3 (i - k0) o hgo;rw [show k0 + (i - k0)=i by omega] at ha hc;refine ⟨R,ha,hb,?_⟩;have:((List.replicate k0 (ws.map fun _=>(none:Option Bool)))++bnd++List.replicate (l.length - k1) (ws.map fun _=>none)).getD i []=bnd.getD (i - k0) []:=by rw [List.getD_eq_getElem?_getD,List.getD_eq_getElem?_getD,List.append_assoc,List.getElem?_append_right (by simp; omega),List.getElem?_append_left (by simp; omega)];simp
  rw [this]; exact hc
 ·intro i hi; rw [fP]; simp; omega
 ·intro i hi; rw [fP]; simp; omega
 ·have:cw ws (gZ l.length k0)=ws.map fun _=>false:=by unfold cw; refine List.map_congr_left (fun x hx=> ?_);rw [List.all_eq_true] at hws;have:=hws x hx;rw [fP]; simp at this ⊢; omega
  rw [this]; exact hC
 ·intro i o hi hl d hd;rw [fP] at hl ⊢;simp only [Bool.and_eq_true,decide_eq_true_eq] at hl ⊢;have:=(hed i o hi).1 d hd;omega
 ·intro i d R hi hl;rw [fP] at hl;simp only [Bool.and_eq_true,decide_eq_true_eq] at hl;have:=congrArg (fun l=>l[i]?) h2;rw [List.getElem?_take,if_pos hl.2,hi] at this;simp only [vg,List.getElem?_map,List.getElem?_take,if_pos hl.2,List.getElem?_eq_getElem hl.1,Option.map_some,Option.some.injEq,Prod.mk.injEq] at this;rw [this.2]; trivial
theorem dB {id:Nat} {l:List Oper} {n:Nat} {w:World} (hm:P.follows .mixedOrders=true) (hn:l.length=n) (h:wpAny P .any l.toArray Q n (gZ n 0) a0 (w.drewN 1)):(Code.region id l.toArray true).wp P Q a0 w:=by
 subst hn;refine wp_region_any hm ?_;have hdr:({w with drawn:=w.drawn + 1} :World)=w.drewN 1:=rfl;have hp:Array.replicate l.toArray.size false=gZ l.length 0:=zO (by simp) (by intro i hi; omega) (fun i _=>by rw [Array.getD_eq_getD_getElem?]; by_cases hk:i < l.length <;> simp [hk]);rw [hdr,hp];exact h
theorem eB {l:List Oper} {n:Nat} {w:World} (hn:l.length=n) (h:Q .normal a0 w):wpAny P .any l.toArray Q 0 (gZ n n) a0 w:=by
 subst hn;refine ⟨?_,h⟩;rw [List.eq_nil_iff_forall_not_mem];intro i hi;obtain ⟨h0,o,ho,-⟩:=mem_ready.1 hi;have hlt:i < l.length:=by simpa using (Array.getElem?_eq_some_iff.1 ho).1
 have h1:i < (gZ l.length l.length).size:=by rw [jV]; exact hlt
 have:=fP l.length l.length i;simp [h1] at h0 this;rw [this] at h0; simp at h0; omega
theorem fu {l:List Oper} {o:Oper} {n r k1:Nat} {w:World} (k:Nat) (jU:List (List Nat)) (hn:l.length=n) (hr:n - k=r + 1) (hk1:k + 1=k1) (ho:l[k]? =some o) (hgu:o.guard=none) (hB:Bw l=true) (xH:Fj l jU=true) (yR:vK n jU k1=true)
 (h:o.wp P a0 w (wpAny P .any l.toArray Q r (gZ n k1)) Q):wpAny P .any l.toArray Q (r + 1) (gZ n k) a0 w:=by
 subst hn; subst hk1;unfold Bw at hB;simp only [Bool.and_eq_true,decide_eq_true_eq] at hB;have hkn:k < l.length:=by omega
 have hnx:(gZ l.length k).setIfInBounds k true=gZ l.length (k + 1):=by
  refine zO (by simp [jV]) (fun i hi=> ?_) (fun i hi=> ?_)
  ·by_cases hik:i=k
   ·subst hik; rw [Array.getD_eq_getD_getElem?,Array.getElem?_setIfInBounds_self_of_lt (by rw [jV]; exact hkn)]; rfl
   ·exact getD_set_true (by rw [fP]; simp; omega)
  ·rw [getD_set_ne false (by omega),fP]; simp; omega
 have Tf: ∀i ∈ Region.ready .any l.toArray (gZ l.length k),i=k:=fun i hi=>by
  obtain ⟨h0,oi,hoi,zJ⟩:=mem_ready.1 hi;have hlt:i < l.length:=by simpa using (Array.getElem?_eq_some_iff.1 hoi).1
  have hge:k<=i:=by
   have h1:i < (gZ l.length k).size:=by rw [jV]; exact hlt
   have:=fP l.length k i;simp [h1] at h0 this;rw [this] at h0; simp at h0; omega
  rcases Nat.lt_or_ge k i with hki | hki
  ·exfalso;unfold vK at yR;simp only [List.all_eq_true,List.mem_range,Bool.or_eq_true,decide_eq_true_eq,List.contains_iff_mem] at yR;have hka:k ∈ jU.getD i []:=by
    rcases yR i hlt with h | h
    ·omega
    ·exact h k (by omega)
   have Td:l[i]? =some oi:=by simpa using hoi
   have hz':=pX xH i oi Td;rw [List.all_eq_true] at hz';have:=hz' k hka;rw [List.any_eq_true] at this;obtain ⟨d,hd1,hd2⟩:=this;simp only [jq,List.mem_map,List.mem_filter,Array.mem_toList_iff] at hd1;obtain ⟨e,⟨he,hb⟩,rfl⟩:=hd1;have hdl:=zJ e he hb;have hed: ∀(i:Nat) (o:Oper),l[i]? =some o-> ∀d ∈ jq o,d < i:=fun i o hi=>by have:=pX hB.2 i o hi;simp only [Bool.and_eq_true,List.all_eq_true,decide_eq_true_eq] at this;exact this.1
   have hdc:DC l (gZ l.length k):=by intro i o hi hl d hd;rw [fP] at hl ⊢;simp only [Bool.and_eq_true,decide_eq_true_eq] at hl ⊢;have:=hed i o hi d hd;omega
   simp only [Bool.or_eq_true,beq_iff_eq,List.contains_iff_mem] at hd2;have hkl:(gZ l.length k).getD k false=true:=by
    rcases hd2 with h2 | hd2
    ·rw [h2] at hdl; exact hdl
    ·exact yE xH hed hdc (jV _ _) e.on hdl k hd2
   rw [fP] at hkl; simp at hkl
  ·omega
 refine ⟨fun hr0=> ?_,fun i hi=> ?_⟩
 ·exfalso;have hlk:l[k]? =some l[k]:=List.getElem?_eq_getElem hkn;have:k ∈ Region.ready .any l.toArray (gZ l.length k):=mem_ready.2 ⟨by
   have h1:k < (gZ l.length k).size:=by rw [jV]; exact hkn
   have:=fP l.length k k;simp [h1] at this ⊢; rw [this],l[k],by simp [hkn],fun e he hb=>by have:=pX hB.2 k l[k] hlk;simp only [Bool.and_eq_true,List.all_eq_true,decide_eq_true_eq] at this;have:=this.1 e.on (vJ he hb);rw [fP]; simp; omega⟩
  rw [hr0] at this; cases this
 ·obtain rfl:=Tf i hi;unfold wpOp;have:l.toArray[i]? =some o:=by simpa using ho
  simp only [this,Region.wanted,hgu,if_true];rw [hnx];exact Or.inl h
end
theorem aY {w:World} {b o:Nat} {cur:Array Value} {e:TypeId} {fr:Nat × Nat} (h:w.heap[b]? =some (.cells cur e fr)) (v:Value):(w.setCell ⟨b,o,none⟩ v).heap[b]? =some (.cells (cur.setIfInBounds o v) e fr):=by
 unfold World.setCell;simp only [Array.getElem?_modify,if_true,h,Option.map_some];rfl
theorem aW (w:World) {b k:Nat} (a:Addr) (v:Value) (hb:a.block=b) (hk:b≠k):(w.setCell a v).heap[k]? =w.heap[k]?:=by
 unfold World.setCell;simp only [Array.getElem?_modify];rw [if_neg (by rw [hb]; exact hk)]
theorem dD (w:World) (a:Addr) (v:Value):w.grownBy (w.setCell a v) (some a.block):=
 ⟨rfl,rfl,rfl,by simp [World.setCell],fun k _ hk=>aW w a v rfl (fun e=>hk (by rw [e]))⟩
theorem eu {b:Option Nat} {w1 w2 w3:World} (h:w1.grownBy w2 b) (k:w2.grownBy w3 b):w1.grownBy w3 b:=
 ⟨k.os.trans h.os,k.tape.trans h.tape,k.output.trans h.output,Nat.le_trans h.size k.size,fun j hj hne=>(k.block j (Nat.lt_of_lt_of_le hj h.size) hne).trans (h.block j hj hne)⟩
theorem dL {w w':World} {b B:Nat} (h:w.grownBy w' (some b)) (hB:B<=b) (hB':B<=w.heap.size):Below B w w':=
 ⟨h.os,h.tape,h.output,h.size,fun k hk=>h.block k (by omega) (by simp; omega)⟩
theorem Ey {b:Option Nat} (w:World):w.grownBy w b:=⟨rfl,rfl,rfl,Nat.le_refl _,fun _ _ _=>rfl⟩
theorem aQ (b:Nat): ∀(vs:List Value) (o:Nat) (w:World),w.grownBy (w.setCells b o vs) (some b)
 | [],_,w=>Ey w
 | v ::vs,o,w=>eu (dD w ⟨b,o,none⟩ v) (aQ b vs (o + 1) _)
theorem qF {b:Nat} {e:TypeId} {fr:Nat × Nat} : ∀(vs:List Value) (o:Nat) (w:World) (cur:Array Value),w.heap[b]? =some (.cells cur e fr)->o + vs.length<=cur.size->
 ∃cur',(w.setCells b o vs).heap[b]? =some (.cells cur' e fr)∧cur'.size=cur.size∧cur'.toList.take (o + vs.length)=cur.toList.take o++vs
 | [],o,w,cur,h,_=>⟨cur,h,rfl,by simp⟩
 | v ::vs,o,w,cur,h,hl=>by
   simp only [List.length_cons] at hl;obtain ⟨cur',h1,h2,h3⟩:=qF vs (o + 1) (w.setCell ⟨b,o,none⟩ v) (cur.setIfInBounds o v) (aY h v) (by simp; omega);refine ⟨cur',h1,by simpa using h2,?_⟩;rw [List.length_cons,show o + (vs.length + 1)=o + 1 + vs.length by omega,h3,Array.toList_setIfInBounds];have ho:o < cur.toList.length:=by simp; omega
   rw [List.take_succ_eq_append_getElem (by rw [List.length_set]; exact ho),List.take_set,List.getElem_set_self];rw [List.set_eq_of_length_le (by simp; omega)]; simp
section
variable {w:World} {base:Nat} {e:TypeId} {size:Nat} {n cap g:Nat} {xs:List Value}
theorem tN (h:w.ownsRow base e size (.slice (some ⟨g,0,none⟩) (n + 1) cap) (n + 1) xs):w.there g (n * size) size:=by
 rcases h.2 with ⟨h1,-⟩ | ⟨g',cap',cur,e1,-,hg,hc,-,hs,-⟩
 ·cases h1
 ·injection e1 with e1 e2 e3; injection e1 with e1; injection e1 with e1; subst e1; subst e3;intro j hj;have hlt:n * size + j < cur.size:=by rw [hs];have:(n + 1) * size<=cap * size:=Nat.mul_le_mul_right _ hc;rw [Nat.add_mul] at this; omega
  refine ⟨?_,?_⟩
  ·rw [cell_of_row w g _ cur e (0,0) hg]; simp [hlt]
  ·simp [World.frozen?,hg]
end
theorem nS {w w':World} {b o n:Nat} (h:w.there b o n) (hb:w'.heap[b]? =w.heap[b]?):w'.there b o n:=fun j hj=>by
 rw [World.cell?_of_block (a:=⟨b,o + j,none⟩) hb,World.frozen?_of_block (a:=⟨b,o + j,none⟩) hb]; exact h j hj
theorem aB {w:World} {b o:Nat} {cs:Array Value} {t:TypeId} (h:w.heap[b]? =some (.cells cs t (0,0))):w.frozen? ⟨b,o,none⟩=false:=by simp [World.frozen?,h]
open Md
theorem au {w:World} {b j:Nat} {cs:Array Value} {t:TypeId} {fr:Nat × Nat} {u:Value} (h:w.heap[b]? =some (.cells cs t fr)) (hu:cs[j]? =some u):w.cell? ⟨b,j,none⟩=some u:=by
 rw [cell_of_row w b j cs t fr h,hu]
def dH (B:Nat) (w w':World):Prop:=w.heap.size<=w'.heap.size∧ ∀k,B<=k->k < w.heap.size->w'.heap[k]? =w.heap[k]?
theorem dH.refl (B:Nat) (w:World):dH B w w:=⟨Nat.le_refl _,fun _ _ _=>rfl⟩
theorem dH.trans {B:Nat} {w w1 w2:World} (h:dH B w w1) (k:dH B w1 w2):dH B w w2:=⟨Nat.le_trans h.1 k.1,fun j h1 h2=>(k.2 j h1 (Nat.lt_of_lt_of_le h2 h.1)).trans (h.2 j h1 h2)⟩
theorem dH.mono {B B':Nat} {w w':World} (h:dH B w w') (hB:B<=B'):dH B' w w':=⟨h.1,fun j h1 h2=>h.2 j (Nat.le_trans hB h1) h2⟩
theorem aO {B:Nat} {w w':World} (h:Below w.heap.size w w'):dH B w w':=⟨h.size,fun k _ h2=>h.block k h2⟩
theorem bH {B:Nat} (w:World) (a:Addr) (v:Value) (h:a.block < B):dH B w (w.setCell a v):=⟨by simp [World.setCell],fun k h1 _=>aW w a v rfl (by omega)⟩
def bZ (B:Nat) (w:World) (Q:World->Prop):Prop:= ∀w',dH B w w'->Q w'
theorem bZ.next {B:Nat} {w w1:World} {Q:World->Prop} (h:bZ B w Q) (hm:dH B w w1):bZ B w1 Q:=fun w' h'=>h w' (hm.trans h')
theorem bZ.now {B:Nat} {w:World} {Q:World->Prop} (h:bZ B w Q):Q w:=h w (dH.refl _ _)
theorem bZ.mono {B B':Nat} {w:World} {Q:World->Prop} (h:bZ B' w Q) (hB:B<=B'):bZ B w Q:=fun w' h'=>h w' (h'.mono hB)
def lM (B:Nat) (g:Option Nat) (w w':World):Prop:=w.heap.size<=w'.heap.size∧ ∀k,B<=k->some k≠g->k < w.heap.size->w'.heap[k]? =w.heap[k]?
def dN (B:Nat) (g:Option Nat) (w:World) (Q:World->Prop):Prop:= ∀w',lM B g w w'->Q w'
section
variable {B B1:Nat} {g:Option Nat} {w w' w1:World} {Q:World->Prop}
theorem dH.x (h:dH B w w'):lM B g w w':=⟨h.1,fun k h1 _ h2=>h.2 k h1 h2⟩
theorem lM.trans (h:lM B g w w1) (k:lM B g w1 w'):lM B g w w':=⟨Nat.le_trans h.1 k.1,fun j h1 h2 h3=>(k.2 j h1 h2 (Nat.lt_of_lt_of_le h3 h.1)).trans (h.2 j h1 h2 h3)⟩
theorem lM.xP (h:w.grownBy w' g):lM B g w w':=⟨h.size,fun k _ h2 h3=>h.block k h3 h2⟩
theorem dN.next (h:dN B g w Q) (ha:lM B g w w1):dN B g w1 Q:=fun w' h'=>h w' (ha.trans h')
theorem dN.stay (h:dN B g w Q):bZ B w Q:=fun w' ha=>h w' ha.x
theorem qG (h:bZ B1 w Q) (hB:B<=B1) (hg: ∀k,g=some k->k < B1):dN B g w Q:=fun w' ha=>
 h w' ⟨ha.1,fun k h1 h2=>ha.2 k (Nat.le_trans hB h1) (fun e=>absurd (hg k e.symm) (by omega)) h2⟩
theorem dN.move {g':Nat} (h:dN B g w Q) (hg:w.grownBy w' g) (hn:g=some g'∨g'=w.heap.size):dN B (some g') w' Q:=fun w2 h2=>
 h w2 ⟨Nat.le_trans hg.size h2.1,fun k h3 h4 h5=>by
   have hk:some k≠some g':=fun e=>by
    rcases hn with rfl | rfl
    ·exact h4 e
    ·injection e with e; omega
   exact (h2.2 k h3 hk (Nat.lt_of_lt_of_le h5 hg.size)).trans (hg.block k h5 h4)⟩
end
theorem xE {α:Type} {f:α->List Value} {m:Nat} (hf: ∀x,(f x).length=m): ∀xs:List α,(xs.flatMap f).length=xs.length * m
 | []=>by simp
 | x ::xs=>by rw [List.flatMap_cons,List.length_append,xE hf xs,hf,List.length_cons,Nat.add_mul,Nat.one_mul,Nat.add_comm]
theorem flat_get {α:Type} {f:α->List Value} {m:Nat} (hf: ∀x,(f x).length=m): ∀(xs:List α) (k:Nat) (x:α) (j:Nat) (u:Value),xs[k]? =some x->(f x)[j]? =some u->(xs.flatMap f)[k * m + j]? =some u
 | [],_,_,_,_,h,_=>by simp at h
 | y ::xs,0,x,j,u,h,hu=>by simp at h; subst h;have hj:j < (f y).length:=(List.getElem?_eq_some_iff.1 hu).1;rw [List.flatMap_cons,Nat.zero_mul,Nat.zero_add,List.getElem?_append_left hj]; exact hu
 | y ::xs,k + 1,x,j,u,h,hu=>by have ih:=flat_get hf xs k x j u (by simpa using h) hu;rw [List.flatMap_cons,List.getElem?_append_right (by rw [hf,Nat.add_mul]; omega),hf,show (k + 1) * m + j - m=k * m + j by rw [Nat.add_mul]; omega];exact ih
structure Grow {α:Type} (f:α->List Value) (m:Nat) (I:α->World->Prop) (ty:TypeId) (B:Nat) (w:World) (v:Value) (xs:List α):Prop where
 own:w.ownsRow B ty m v xs.length (xs.flatMap f)
 stay: ∀x ∈ xs,dN B v.ownBlock w (I x)
section
variable {α:Type} {f:α->List Value} {m:Nat} {I:α->World->Prop} {ty:TypeId} {B:Nat} {w w':World} {v:Value} {xs:List α}
theorem Grow.nil (f:α->List Value) (m:Nat) (I:α->World->Prop) (ty:TypeId) (B:Nat) (w:World):Grow f m I ty B w (.slice none 0 0) []:=⟨World.ownsRow_nil _ _ _ _,fun x hx=>by cases hx⟩
theorem Grow.lt (h:Grow f m I ty B w v xs): ∀k,v.ownBlock=some k->B<=k∧k < w.heap.size:=h.own.lt
theorem Grow.len (h:Grow f m I ty B w v xs): ∃ao cap,v= .slice ao xs.length cap:=by
 rcases h.own.2 with ⟨h1,h2⟩ | ⟨g,cap,cur,h1,-⟩
 ·exact ⟨none,0,by rw [h1,h2]⟩
 ·exact ⟨_,_,h1⟩
theorem Grow.next (h:Grow f m I ty B w v xs) (ha:dH B w w'):Grow f m I ty B w' v xs:=by
 refine ⟨⟨h.own.1,?_⟩,fun x hx=>(h.stay x hx).next ha.x⟩;rcases h.own.2 with h1 | ⟨g,cap,cur,h1,h2,h3,h4⟩
 ·exact .inl h1
 ·exact .inr ⟨g,cap,cur,h1,h2,(ha.2 g h2 (Array.getElem?_eq_some_iff.1 h3).1).trans h3,h4⟩
theorem Grow.push {x:α} {g cap n:Nat} (h:Grow f m I ty B w v xs) (hx:dN B v.ownBlock w (I x)) (hn:n=xs.length + 1) (hown:w'.ownsRow B ty m (.slice (some ⟨g,0,none⟩) n cap) n (xs.flatMap f++f x)) (hg:w.grownBy w' v.ownBlock) (hmv:v.ownBlock=some g∨g=w.heap.size):
 Grow f m I ty B w' (.slice (some ⟨g,0,none⟩) n cap) (xs++[x]):=by
 subst hn;refine ⟨by rw [List.flatMap_append,List.flatMap_singleton,List.length_append]; exact hown,fun y hy=> ?_⟩;show dN B (some g) w' (I y);rcases List.mem_append.1 hy with hy | hy
 ·exact (h.stay y hy).move hg hmv
 ·rw [List.mem_singleton.1 hy]; exact hx.move hg hmv
theorem Grow.cells (hf: ∀x,(f x).length=m) (h:Grow f m I ty B w v xs):bZ B w (fun w2=>(∀x ∈ xs,I x w2)∧ ∃ao cap,v= .slice ao xs.length cap∧xs.length<=cap∧ ∀k x,xs[k]? =some x-> ∃g,ao=some ⟨g,0,none⟩∧B<=g∧g < w2.heap.size∧ ∀j u,(f x)[j]? =some u->w2.cell? ⟨g,k * m + j,none⟩=some u):=fun w2 h2=>by
 refine ⟨fun x hx=>(h.stay x hx) w2 h2.x,?_⟩;rcases h.own.2 with ⟨h1,h3⟩ | ⟨g,cap,cur,h1,hB,hg,hc,-,hs,ht⟩
 ·refine ⟨none,0,by rw [h1,h3],by omega,fun k x hk=> ?_⟩;have:=(List.getElem?_eq_some_iff.1 hk).1; omega
 ·refine ⟨some ⟨g,0,none⟩,cap,h1,hc,fun k x hk=>⟨g,rfl,hB,?_⟩⟩;have hg2:=(h2.2 g hB (Array.getElem?_eq_some_iff.1 hg).1).trans hg;refine ⟨(Array.getElem?_eq_some_iff.1 hg2).1,fun j u hu=> ?_⟩;have hF:=flat_get hf xs k x j u hk hu;rw [<- ht] at hF;have hlt:=(List.getElem?_eq_some_iff.1 hF).1;rw [List.getElem?_take_of_lt (by rw [List.length_take] at hlt; omega)] at hF;exact au hg2 (by rw [<- hF]; simp)
end
theorem iH {W:World} {cs:List Value} {t:TypeId} {fr:Nat × Nat} {g:Nat} (h:W.heap[g]? =some (.cells cs.toArray t fr)): ∀j u,cs[j]? =some u->W.cell? ((⟨g,0,none⟩:Addr).add j)=some u:=fun j u hu=>by
 have:=au (j:=j) (u:=u) h (by simpa using hu);rcases Nat.eq_zero_or_pos j with rfl | hj
 ·simpa [Addr.add] using this
 ·simpa [Addr.add,Nat.ne_of_gt hj] using this
namespace Md
theorem cell0 {w:World} {g k m:Nat} {u:Value} (h:w.cell? ⟨g,k * m + 0,none⟩=some u):w.cell? ⟨g,0 + k * m,none⟩=some u:=by rw [Nat.zero_add]; exact h
theorem jg {w:World} {g k m j:Nat} {u:Value} (h:w.cell? ⟨g,k * m + j,none⟩=some u):w.cell? ⟨g,0 + k * m + j,none⟩=some u:=by rw [Nat.zero_add]; exact h
structure bF where
 h:bD
 b:aL
 e:aL
 s:Sl
def bF.f (x:bF):List Value:=[.int .i64 x.h.op,.int .i64 x.h.line,.string x.h.nm,.string x.h.arg,.slice x.s.eT x.h.idx.len x.s.dO,.int .i64 x.h.iJ,.int .i64 x.h.xn,.string x.h.iP,.slice x.s.eZ x.h.dn.len x.s.dS,.slice x.s.bg x.b.len x.s.aU,.slice x.s.fG x.e.len x.s.dZ]
def bF.I (x:bF) (w:World):Prop:=x.h.idx.At w w.heap.size x.s.eT 0∧x.h.dn.At w w.heap.size x.s.eZ 0∧x.b.At w w.heap.size x.s.bg 0∧x.e.At w w.heap.size x.s.fG 0
def gF:List bF->aL
 | []=> .nil
 | x ::r=> .cons x.h x.b x.e (gF r)
theorem lq: ∀l,(gF l).len=l.length
 | []=>rfl
 | _ ::r=>by show (gF r).len + 1=_; rw [lq r]; rfl
theorem vQ: ∀l,(∀x ∈ l,mE x.h x.b x.e=true)->dX (gF l)=true
 | [],_=>rfl
 | x ::r,h=>by show (mE x.h x.b x.e && dX (gF r))=true;rw [h x (by simp),vQ r (fun y hy=>h y (by simp [hy]))]; rfl
theorem IQ {w:World} {ao:Option Addr} : ∀(l:List bF) (k:Nat),(∀x ∈ l,kS x.h x.b x.e∧x.I w)->(∀i x,l[i]? =some x-> ∃g,ao=some ⟨g,0,none⟩∧g < w.heap.size∧ ∀j u,x.f[j]? =some u->w.cell? ⟨g,(k + i) * 11 + j,none⟩=some u)->(gF l).At w w.heap.size ao k
 | [],_,_,_=>trivial
 | x ::r,k,h1,h2=>by obtain ⟨g,rfl,hg,hc⟩:=h2 0 x rfl;obtain ⟨hok,i1,i2,i3,i4⟩:=h1 x (by simp);refine ⟨⟨g,0,x.s.eT,x.s.dO,x.s.eZ,x.s.dS,x.s.bg,x.s.aU,x.s.fG,x.s.dZ,rfl,hg,cell0 (hc 0 _ rfl),jg (hc 1 _ rfl),jg (hc 2 _ rfl),jg (hc 3 _ rfl),jg (hc 4 _ rfl),jg (hc 5 _ rfl),jg (hc 6 _ rfl),jg (hc 7 _ rfl),jg (hc 8 _ rfl),jg (hc 9 _ rfl),jg (hc 10 _ rfl),hok,i1,i2,i3,i4⟩,?_⟩;exact IQ r (k + 1) (fun y hy=>h1 y (by simp [hy])) (fun i y hy=>by obtain ⟨g',e,hg',hc'⟩:=h2 (i + 1) y (by simpa using hy);exact ⟨g',e,hg',fun j u hu=>by rw [show k + 1 + i=k + (i + 1) by omega]; exact hc' j u hu⟩)
theorem ER (x:bF):(bF.f x).length=11:=rfl
abbrev yc (B:Nat) (w:World) (v:Value) (l:List bF):Prop:=Grow bF.f 11 bF.I 59 B w v l
theorem yc.says {B:Nat} {w:World} {v:Value} {l:List bF} (h:yc B w v l) (hok: ∀x ∈ l,kS x.h x.b x.e): ∃ao cap,v= .slice ao (gF l).len cap∧bZ B w (fun w2=>(gF l).At w2 w2.heap.size ao 0):=by
 obtain ⟨ao,cap,e⟩:=h.len;refine ⟨ao,cap,by rw [e,lq],fun w2 h2=> ?_⟩;obtain ⟨hI,dY,cap',e',-,hc⟩:=h.cells ER w2 h2;rw [e] at e'; injection e' with e1 e2 e3; subst e1;exact IQ l 0 (fun x hx=>⟨hok x hx,hI x hx⟩) (fun i x hx=>by obtain ⟨g,h1,-,h3,h4⟩:=hc i x hx;exact ⟨g,h1,h3,fun j u hu=>by rw [Nat.zero_add]; exact h4 j u hu⟩)
def eX (d:De):List Value:=[.int .i64 d.kind,.int .i64 d.line,.string d.nm,.int .i64 d.size,.int .i64 d.init,.string d.on]
theorem KU {w:World} {ao:Option Addr} : ∀(l:List De) (k:Nat),(∀x ∈ l,x.Ok)->(∀i x,l[i]? =some x-> ∃g,ao=some ⟨g,0,none⟩∧g < w.heap.size∧ ∀j u,(eX x)[j]? =some u->w.cell? ⟨g,(k + i) * 6 + j,none⟩=some u)->fZ w w.heap.size l ao k
 | [],_,_,_=>trivial
 | x ::r,k,h1,h2=>by obtain ⟨g,rfl,hg,hc⟩:=h2 0 x rfl;refine ⟨⟨g,0,rfl,hg,cell0 (hc 0 _ rfl),jg (hc 1 _ rfl),jg (hc 2 _ rfl),jg (hc 3 _ rfl),jg (hc 4 _ rfl),jg (hc 5 _ rfl),h1 x (by simp)⟩,?_⟩;exact KU r (k + 1) (fun y hy=>h1 y (by simp [hy])) (fun i y hy=>by obtain ⟨g',e,hg',hc'⟩:=h2 (i + 1) y (by simpa using hy);exact ⟨g',e,hg',fun j u hu=>by rw [show k + 1 + i=k + (i + 1) by omega]; exact hc' j u hu⟩)
theorem pQ (x:De):(eX x).length=6:=rfl
abbrev lY (B:Nat) (w:World) (v:Value) (l:List De):Prop:=Grow eX 6 (fun _ _=>True) 42 B w v l
theorem lY.says {B:Nat} {w:World} {v:Value} {l:List De} (h:lY B w v l) (hok: ∀x ∈ l,x.Ok): ∃ao cap,v= .slice ao l.length cap∧l.length<=cap∧bZ B w (fun w2=>fZ w2 w2.heap.size l ao 0):=by
 obtain ⟨-,ao,cap,e,hl,-⟩:=h.cells pQ w (dH.refl _ _);refine ⟨ao,cap,e,hl,fun w2 h2=> ?_⟩;obtain ⟨-,dY,cap',e',-,hc⟩:=h.cells pQ w2 h2;rw [e] at e'; injection e' with e1 e2 e3; subst e1;exact KU l 0 hok (fun i x hx=>by obtain ⟨g,h1,-,h3,h4⟩:=hc i x hx;exact ⟨g,h1,h3,fun j u hu=>by rw [Nat.zero_add]; exact h4 j u hu⟩)
def nK (s:ByteArray):List Value:=[.string s]
theorem Lr {w:World} {ao:Option Addr} : ∀(l:List ByteArray) (k:Nat),(∀x ∈ l,x.size<=maxLen)->(∀i x,l[i]? =some x-> ∃g,ao=some ⟨g,0,none⟩∧g < w.heap.size∧ ∀j u,(nK x)[j]? =some u->w.cell? ⟨g,(k + i) * 1 + j,none⟩=some u)->gX w w.heap.size l ao k
 | [],_,_,_=>trivial
 | x ::r,k,h1,h2=>by obtain ⟨g,rfl,hg,hc⟩:=h2 0 x rfl;refine ⟨⟨g,0,rfl,hg,by have:=cell0 (hc 0 _ rfl); simpa using this,h1 x (by simp)⟩,?_⟩;exact Lr r (k + 1) (fun y hy=>h1 y (by simp [hy])) (fun i y hy=>by obtain ⟨g',e,hg',hc'⟩:=h2 (i + 1) y (by simpa using hy);exact ⟨g',e,hg',fun j u hu=>by rw [show k + 1 + i=k + (i + 1) by omega]; exact hc' j u hu⟩)
theorem pV (x:ByteArray):(nK x).length=1:=rfl
abbrev nT (B:Nat) (w:World) (v:Value) (l:List ByteArray):Prop:=Grow nK 1 (fun _ _=>True) 9 B w v l
theorem nT.says {B:Nat} {w:World} {v:Value} {l:List ByteArray} (h:nT B w v l) (hok: ∀x ∈ l,x.size<=maxLen): ∃ao cap,v= .slice ao l.length cap∧l.length<=cap∧bZ B w (fun w2=>gX w2 w2.heap.size l ao 0):=by
 obtain ⟨-,ao,cap,e,hl,-⟩:=h.cells pV w (dH.refl _ _);refine ⟨ao,cap,e,hl,fun w2 h2=> ?_⟩;obtain ⟨-,dY,cap',e',-,hc⟩:=h.cells pV w2 h2;rw [e] at e'; injection e' with e1 e2 e3; subst e1;exact Lr l 0 hok (fun i x hx=>by obtain ⟨g,h1,-,h3,h4⟩:=hc i x hx;exact ⟨g,h1,h3,fun j u hu=>by rw [Nat.zero_add]; exact h4 j u hu⟩)
structure dR where
 t:Th
 dw:Option Addr
 bG:Nat
 bg:Option Addr
 aU:Nat
def dR.f (x:dR):List Value:=[.string x.t.nm,.int .i64 x.t.line,.slice x.dw x.t.cu.length x.bG,.slice x.bg x.t.body.len x.aU]
def dR.I (x:dR) (w:World):Prop:=gX w w.heap.size x.t.cu x.dw 0∧x.t.body.At w w.heap.size x.bg 0
theorem Lm {w:World} {ao:Option Addr} : ∀(l:List dR) (k:Nat),(∀x ∈ l,(x.t.Ok∧x.t.cu.length<=x.bG)∧x.I w)->(∀i x,l[i]? =some x-> ∃g,ao=some ⟨g,0,none⟩∧g < w.heap.size∧ ∀j u,x.f[j]? =some u->w.cell? ⟨g,(k + i) * 4 + j,none⟩=some u)->gq w w.heap.size (l.map (·.t)) ao k
 | [],_,_,_=>trivial
 | x ::r,k,h1,h2=>by obtain ⟨g,rfl,hg,hc⟩:=h2 0 x rfl;obtain ⟨⟨hok,hcl⟩,i1,i2⟩:=h1 x (by simp);refine ⟨⟨g,0,x.dw,x.bG,x.bg,x.aU,rfl,hg,cell0 (hc 0 _ rfl),jg (hc 1 _ rfl),jg (hc 2 _ rfl),jg (hc 3 _ rfl),hok,i1,i2,hcl⟩,?_⟩;exact Lm r (k + 1) (fun y hy=>h1 y (by simp [hy])) (fun i y hy=>by obtain ⟨g',e,hg',hc'⟩:=h2 (i + 1) y (by simpa using hy);exact ⟨g',e,hg',fun j u hu=>by rw [show k + 1 + i=k + (i + 1) by omega]; exact hc' j u hu⟩)
theorem A8 (x:dR):(dR.f x).length=4:=rfl
abbrev rW (B:Nat) (w:World) (v:Value) (l:List dR):Prop:=Grow dR.f 4 dR.I 47 B w v l
theorem rW.says {B:Nat} {w:World} {v:Value} {l:List dR} (h:rW B w v l) (hok: ∀x ∈ l,x.t.Ok∧x.t.cu.length<=x.bG): ∃ao cap,v= .slice ao (l.map (·.t)).length cap∧l.length<=cap∧bZ B w (fun w2=>gq w2 w2.heap.size (l.map (·.t)) ao 0):=by
 obtain ⟨-,ao,cap,e,hl,-⟩:=h.cells A8 w (dH.refl _ _);refine ⟨ao,cap,by rw [e,List.length_map],hl,fun w2 h2=> ?_⟩;obtain ⟨hI,dY,cap',e',-,hc⟩:=h.cells A8 w2 h2;rw [e] at e'; injection e' with e1 e2 e3; subst e1;exact Lm l 0 (fun x hx=>⟨hok x hx,hI x hx⟩) (fun i x hx=>by obtain ⟨g,h1,-,h3,h4⟩:=hc i x hx;exact ⟨g,h1,h3,fun j u hu=>by rw [Nat.zero_add]; exact h4 j u hu⟩)
end Md
def jf (op n:Int) (nm:ByteArray) (kids:aG) (ao:Option Addr) (cap:Nat):List Value:=[.int .i64 op,.int .i64 n,.string nm,.slice ao kids.len cap]
def exV (op n:Int) (nm:ByteArray) (kids:aG) (ao:Option Addr) (cap:Nat):Value:= .agg #[.int .i64 op,.int .i64 n,.string nm,.slice ao kids.len cap]
theorem K9 {B:Nat} {w:World} {g:Nat} {cs:Array Value} {t:TypeId} {fr:Nat × Nat} (hb:w.heap[g]? =some (.cells cs t fr)) (ht:B<=g):bZ B w (fun w2=>g < w2.heap.size∧ ∀j u,cs[j]? =some u->w2.cell? ⟨g,j,none⟩=some u):=fun w2 h=>by
 have h2:=(h.2 g ht (Array.getElem?_eq_some_iff.1 hb).1).trans hb;exact ⟨(Array.getElem?_eq_some_iff.1 h2).1,fun j u hu=>au h2 hu⟩
theorem xW {B:Nat} {w:World} {g:Nat} {op n:Int} {nm:ByteArray} {kids:aG} {ao:Option Addr} {cap:Nat} {t:TypeId} {fr:Nat × Nat} (hb:w.heap[g]? =some (.cells (jf op n nm kids ao cap).toArray t fr)) (ht:B<=g) (hok:lZ op n nm kids) (hk:bZ B w (fun w2=>kids.At w2 w2.heap.size ao 0)):
 bZ B w (fun w2=>(aG.cons op n nm kids .nil).At w2 w2.heap.size (some ⟨g,0,none⟩) 0):=fun w2 h=>by
 obtain ⟨hl,hc⟩:=K9 hb ht w2 h;exact ⟨⟨g,0,ao,cap,rfl,hl,hc 0 _ rfl,hc 1 _ rfl,hc 2 _ rfl,hc 3 _ rfl,hok,hk w2 h⟩,trivial⟩
theorem oF {w:World} {g:Nat} {cs:Array Value} {t:TypeId} (h:w.heap[g]? =some (.cells cs t (0,0))) {n:Nat} (hn:n<=cs.size):w.there g 0 n:=fun j hj=>by
 refine ⟨?_,aB h⟩;rw [cell_of_row w g _ cs t (0,0) h];simp; omega
theorem iI {w:World} {g:Nat} {cs:Array Value} {t:TypeId} {vs:List Value} (h:w.heap[g]? =some (.cells cs t (0,0))) (hl:vs.length=cs.size):(w.setCells g 0 vs).heap[g]? =some (.cells vs.toArray t (0,0)):=by
 obtain ⟨cur',h1,h2,h3⟩:=qF vs 0 w cs h (by omega);rw [h1];have e:cur'.toList=vs:=by rw [Nat.zero_add,List.take_of_length_le (by simp; omega)] at h3;simpa using h3
 rw [<- e]
end Go.Proofs.YtkajcclnlehkmaaGreatDoor
