/- A region that draws its order, with a ghost beside the world: whatever came up first, what each operation yields has a property that stays. No program in sight. And what hangs on it. -/
import Derived.Test.YtfbbaiejbjdfbaaGreatDoorGMB
import Derived.Test.YtfbbaiejbjdfbaaGreatDoorGMA
set_option linter.unusedSimpArgs false
set_option linter.unusedVariables false
set_option maxHeartbeats 40000000
set_option maxRecDepth 1000000
namespace Go.Proofs.YtfbbaiejbjdfbaaGreatDoor
open Go.RowKit
abbrev RG (G:Type):=Value->G->World->Prop
section
variable {G:Type}
def iZ (ents:List (Option Tmp × RG G)) (A:Act) (g:G) (w:World):List Edge->Prop
 | []=>True
 | e ::r=>(if Region.binds .any e=true then (match ents[e.on]? with | some (d,R)=>R (dZ A d) g w | none=>True) else True)∧iZ ents A g w r
def nL (ents:List (Option Tmp × RG G)) (A:Act) (o:Oper):Bool:=
 match o.guard with
 | none=>true
 | some (g,b)=>match ents[g]? with
   | some (some d,_)=>match A.eval (.tmp d) with
     | .bool x=>x == b
     | _=>false
   | _=>false
def gG (C:G->World->Prop) (Le:G->World->G->World->Prop) (R:RG G) (A:Act) (dst:Option Tmp) (g:G) (w:World) (a':Act) (w':World):Prop:=
 ∃v g',a'=A.put dst v∧Le g w g' w'∧C g' w'∧R (if dst.isSome then v else undef) g' w'
theorem gG.mk {C:G->World->Prop} {Le:G->World->G->World->Prop} {R:RG G} {A:Act} {d:Tmp} {g g':G} {w w':World} {v:Value} (hle:Le g w g' w') (hC:C g' w') (hR:R v g' w'):gG C Le R A (some d) g w (A.put (some d) v) w':=⟨v,g',rfl,hle,hC,hR⟩
theorem gG.CX {C:G->World->Prop} {Le:G->World->G->World->Prop} {R:RG G} {A:Act} {g g':G} {w w':World} {v:Value} (hle:Le g w g' w') (hC:C g' w') (hR:R undef g' w'):gG C Le R A none g w (A.put none v) w':=⟨v,g',rfl,hle,hC,hR⟩
def tT (D:Nat->Bool) (i:Nat):Nat->Bool:=fun k=>D k || k == i
def PO (P:Program) (a0:Act) (Q:Exit->Act->World->Prop) (C:(Nat->Bool)->G->World->Prop) (Le:G->World->G->World->Prop) (eU:List Tmp) (ents:List (Option Tmp × RG G)) (o:Oper) (R:RG G) (i:Nat):Prop:=
 ∀D A g w,D i=false->C D g w->(∀s,eU.contains s=false->A.eval (.tmp s)=a0.eval (.tmp s))->iZ ents A g w o.after.toList->
  if nL ents A o then o.wp P A w (gG (C (tT D i)) Le R A o.dst g w) Q else (C (tT D i) g w∧R undef g w)
def iV (c:Value):RG G:=fun v _ _=>v=c
theorem iV.mk (c:Value) (g:G) (w:World):iV c c g w:=rfl
def KS (g:G) (ents:List (Option Tmp × RG G)):List (Option Tmp × RP):=ents.map fun x=>(x.1,fun v w=>x.2 v g w)
def jZ (P:Program) (a0:Act) (Q:Exit->Act->World->Prop) (C:(Nat->Bool)->G->World->Prop) (Le:G->World->G->World->Prop) (eU:List Tmp):List Oper->List (Option Tmp × RG G)->Prop
 | [],ents=> ∀D g w,(∀i,i < ents.length->D i=true)->C D g w->dJ w (fun a=>Q .normal a w) (KS g ents) a0
 | o ::rest,ents=> ∃R:RG G,(∀v g w g' w',Le g w g' w'->R v g w->R v g' w')∧PO P a0 Q C Le eU ents o R ents.length∧jZ P a0 Q C Le eU rest (ents++[(o.dst,R)])
variable {P:Program} {a0:Act} {Q:Exit->Act->World->Prop} {C:(Nat->Bool)->G->World->Prop} {Le:G->World->G->World->Prop} {eU:List Tmp}
theorem jZ.full: ∀ {l:List Oper} {ents:List (Option Tmp × RG G)},jZ P a0 Q C Le eU l ents-> ∃full:List (Option Tmp × RG G),full.length=ents.length + l.length∧full.take ents.length=ents∧
 (∀(i:Nat) (o:Oper),l[i]? =some o-> ∃R,full[ents.length + i]? =some (o.dst,R)∧(∀v g w g' w',Le g w g' w'->R v g w->R v g' w')∧PO P a0 Q C Le eU (full.take (ents.length + i)) o R (ents.length + i))∧
 ∀D g w,(∀i,i < full.length->D i=true)->C D g w->dJ w (fun a=>Q .normal a w) (KS g full) a0
 | [],ents,h=>⟨ents,by simp,by simp,by simp,h⟩
 | o ::rest,ents,h=>by
   obtain ⟨R,hm,ho,hr⟩:=h;obtain ⟨full,h1,h2,h3,h4⟩:=jZ.full hr;simp only [List.length_append,List.length_cons,List.length_nil,Nat.zero_add] at h1 h2 h3;have hlen:ents.length < full.length:=by omega
   have hget:full[ents.length]? =some (o.dst,R):=by have:=congrArg (fun l=>l[ents.length]?) h2;simpa using this
   refine ⟨full,by simp; omega,?_,?_,h4⟩
   ·have:=congrArg (List.take ents.length) h2;simpa [List.take_take] using this
   ·intro i o' hi;cases i with
    | zero=>simp only [List.getElem?_cons_zero,Option.some.injEq] at hi;subst hi;refine ⟨R,by simpa using hget,hm,?_⟩;have:full.take (ents.length + 0)=ents:=(by have:=congrArg (List.take ents.length) h2;simpa [List.take_take] using this);rw [this]; exact ho
    | succ i=>have hi':rest[i]? =some o':=(by simpa using hi);have:=h3 i o' hi';rw [show ents.length + (i + 1)=ents.length + 1 + i by omega];exact this
theorem jZ.step {o:Oper} {rest:List Oper} {ents:List (Option Tmp × RG G)} {v:Value} (aM:PO P a0 Q C Le eU ents o (iV v) ents.length) (hrest:jZ P a0 Q C Le eU rest (ents++[(o.dst,iV v)])):jZ P a0 Q C Le eU (o ::rest) ents:=
 ⟨iV v,fun _ _ _ _ _ _ h=>h,aM,hrest⟩
theorem jZ.some {o:Oper} {rest:List Oper} {ents:List (Option Tmp × RG G)} (R:RG G) (hmono: ∀v g w g' w',Le g w g' w'->R v g w->R v g' w') (aM:PO P a0 Q C Le eU ents o R ents.length) (hrest:jZ P a0 Q C Le eU rest (ents++[(o.dst,R)])):jZ P a0 Q C Le eU (o ::rest) ents:=
 ⟨R,hmono,aM,hrest⟩
theorem jZ.done {ents:List (Option Tmp × RG G)} (h: ∀D g w,(∀i,i < ents.length->D i=true)->C D g w->dJ w (fun a=>Q .normal a w) (KS g ents) a0):jZ P a0 Q C Le eU [] ents:=h
theorem Qk {full:List (Option Tmp × RG G)} {A:Act} {g:G} {w:World} {i:Nat} : ∀ {l:List Edge},(∀e ∈ l,Region.binds .any e=true-> ∀(d:Option Tmp) (R:RG G),full[e.on]? =some (d,R)->R (dZ A d) g w)->iZ (full.take i) A g w l
 | [],_=>trivial
 | e ::r,h=>by
   refine ⟨?_,Qk fun e' he'=>h e' (by simp [he'])⟩;split
   case isFalse=>trivial
   case isTrue hb=>
   cases hg:(full.take i)[e.on]? with
   | none=>trivial
   | some x=>
     obtain ⟨d,R⟩:=x;rw [List.getElem?_take] at hg;split at hg
     ·exact h e (by simp) hb d R hg
     ·cases hg
def KX (listed:Array Bool):Nat->Bool:=fun i=>listed.getD i false
theorem aj5 {listed:Array Bool} {i:Nat} (hi:i < listed.size):KX (listed.setIfInBounds i true)=tT (KX listed) i:=by
 funext k;unfold KX tT;by_cases hk:i=k
 ·subst hk; simp [hi]
 ·rw [getD_set_ne false hk];have:(k == i)=false:=by rw [beq_eq_false_iff_ne]; exact fun e=>hk e.symm
  rw [this,Bool.or_false]
def ae2 (a0:Act) (C:(Nat->Bool)->G->World->Prop) (full:List (Option Tmp × RG G)) (n:Nat) (listed:Array Bool) (a:Act) (g:G) (w:World):Prop:=
 listed.size=n∧C (KX listed) g w∧a.defers=a0.defers∧a.tmps.size=a0.tmps.size∧
 (∀s:Nat,(∀(i:Nat) (d:Tmp) (R:RG G),full[i]? =some (some d,R)->listed.getD i false=true->d≠s)->a.tmps[s]? =a0.tmps[s]?)∧
 ∀(i:Nat) (d:Option Tmp) (R:RG G),full[i]? =some (d,R)->listed.getD i false=true->R (dZ a d) g w
theorem al8 {ops:Array Oper} {full:List (Option Tmp × RG G)} {o:Oper} {A:Act} {i:Nat} (hf: ∀(k:Nat) (ok:Oper),ops[k]? =some ok-> ∃R,full[k]? =some (ok.dst,R)) (hlen:full.length=ops.size)
 (hg: ∀g b,o.guard=some (g,b)->g < i):Region.wanted o (yielded ops A.tmps)=nL (full.take i) A o:=by
 unfold Region.wanted nL;cases ho:o.guard with
 | none=>rfl
 | some x=>
   obtain ⟨g,b⟩:=x;have hgi:=hg g b ho;simp only;rw [List.getElem?_take,if_pos hgi];unfold yielded;cases hk:ops[g]? with
   | none=>have:full[g]? =none:=List.getElem?_eq_none (by rw [hlen]; exact Array.getElem?_eq_none_iff.1 hk);rw [this]; rfl
   | some ok=>
     obtain ⟨R,hR⟩:=hf g ok hk;rw [hR];simp only [Option.bind_some];cases hd:ok.dst with
     | none=>rfl
     | some d=>
       simp only [Option.bind_some,Act.eval];cases ht:A.tmps[d]? with
       | none=>simp [ht,undef]
       | some v=>simp only [Array.getD_eq_getD_getElem?,ht,Option.getD_some];cases v <;> first | rfl | (rename_i x; cases x <;> cases b <;> rfl)
theorem Yq {l:List Oper} {full:List (Option Tmp × RG G)} (Ez: ∀g w,Le g w g w) (hbd: ∀d ∈ eU,d < a0.tmps.size) (hlen:full.length=l.length) (hnd:(l.filterMap (·.dst)).Nodup) (uZ:l.filterMap (·.dst)=eU)
 (hed: ∀(i:Nat) (o:Oper),l[i]? =some o-> ∀d ∈ pR o,d < i) (hgu: ∀(i:Nat) (o:Oper),l[i]? =some o-> ∀g b,o.guard=some (g,b)->g < i)
 (hf: ∀(i:Nat) (o:Oper),l[i]? =some o-> ∃R,full[i]? =some (o.dst,R)∧(∀v g w g' w',Le g w g' w'->R v g w->R v g' w')∧PO P a0 Q C Le eU (full.take i) o R i)
 (hend: ∀D g w,(∀i,i < full.length->D i=true)->C D g w->dJ w (fun a=>Q .normal a w) (KS g full) a0):
 ∀(fuel:Nat) (listed:Array Bool) (a:Act) (g:G) (w:World),cnt listed l.length<=fuel->ae2 a0 C full l.length listed a g w->wpAny P .any l.toArray Q fuel listed a w:=by
 have hmono: ∀(i:Nat) (d:Option Tmp) (R:RG G),full[i]? =some (d,R)-> ∀v g w g' w',Le g w g' w'->R v g w->R v g' w':=fun i d R hi=>by
  have hlt:i < l.length:=by rw [<- hlen]; exact (List.getElem?_eq_some_iff.1 hi).1
  obtain ⟨R',h1,h2,-⟩:=hf i l[i] (List.getElem?_eq_getElem hlt);rw [hi] at h1;simp only [Option.some.injEq,Prod.mk.injEq] at h1;rw [h1.2]; exact h2
 have hdst: ∀(i:Nat) (d:Option Tmp) (R:RG G),full[i]? =some (d,R)-> ∃o,l[i]? =some o∧o.dst=d:=fun i d R hi=>by
  have hlt:i < l.length:=by rw [<- hlen]; exact (List.getElem?_eq_some_iff.1 hi).1
  obtain ⟨R',h1,-⟩:=hf i l[i] (List.getElem?_eq_getElem hlt);rw [hi] at h1;simp only [Option.some.injEq,Prod.mk.injEq] at h1;exact ⟨l[i],List.getElem?_eq_getElem hlt,h1.1.symm⟩
 have hall: ∀listed a g w,ae2 a0 C full l.length listed a g w->(∀i,i < l.length->listed.getD i false=true)->Q .normal a w:=fun listed a g w hI ha=>by
  obtain ⟨hsz0,hC,hd,hz,hs,hR⟩:=hI;refine (hend (KX listed) g w (fun i hi=>ha i (by rw [<- hlen]; exact hi)) hC).use (a':=a) (fun i d R hi=> ?_) hd hz (fun s hne=>hs s (fun i d R hi _=>hne i d (fun v w=>R v g w) (by unfold KS; rw [List.getElem?_map,hi]; rfl)));unfold KS at hi;rw [List.getElem?_map] at hi;cases hq:full[i]? with
  | none=>rw [hq] at hi; cases hi
  | some x=>obtain ⟨d',R'⟩:=x;rw [hq] at hi;simp only [Option.map_some,Option.some.injEq,Prod.mk.injEq] at hi;obtain ⟨rfl,rfl⟩:=hi;refine hR i d' R' hq (ha i ?_);rw [<- hlen]; exact (List.getElem?_eq_some_iff.1 hq).1
 have GV: ∀listed:Array Bool,listed.size=l.length->Region.ready .any l.toArray listed=[]-> ∀i,i < l.length->listed.getD i false=true:=fun listed hsz hr i=>by
  induction i using Nat.strongRecOn with
  | _ i ih=>
    intro hi;cases hg:listed.getD i false with
    | true=>rfl
    | false=>exfalso;have:i ∈ Region.ready .any l.toArray listed:=mem_ready.2 ⟨by have h1:i < listed.size:=(by omega);simp [h1] at hg ⊢; exact hg,l[i],by simp [hi],fun e he hb=>ih e.on (hed i l[i] (List.getElem?_eq_getElem hi) e.on (AU he hb)) (by have:=hed i l[i] (List.getElem?_eq_getElem hi) e.on (AU he hb); omega)⟩;rw [hr] at this; cases this
 intro fuel
 induction fuel with
 | zero=>
   intro listed a g w hc hI;have ha:=EY (Nat.le_zero.1 hc);refine ⟨?_,hall listed a g w hI ha⟩;rw [List.eq_nil_iff_forall_not_mem];intro i hi;obtain ⟨h0,o,ho,-⟩:=mem_ready.1 hi;have hlt:i < l.length:=by simpa using (Array.getElem?_eq_some_iff.1 ho).1
   have:=ha i hlt;have h1:i < listed.size:=by rw [hI.1]; exact hlt
   simp [h1] at h0 this; rw [h0] at this; cases this
 | succ fuel ih=>
   intro listed a g w hc hI;refine ⟨fun hr=>hall listed a g w hI (GV listed hI.1 hr),fun i hi=> ?_⟩;obtain ⟨h0,o,ho,DV⟩:=mem_ready.1 hi;have hlt:i < l.length:=by simpa using (Array.getElem?_eq_some_iff.1 ho).1
   have hlo:l[i]? =some o:=by simpa using ho
   have hls:i < listed.size:=by rw [hI.1]; exact hlt
   have hun:listed.getD i false=false:=by simp [hls] at h0 ⊢; exact h0
   obtain ⟨R,Jl,hRm,Xn⟩:=hf i o hlo;obtain ⟨hsz,hC,hd,hz,hs,hR⟩:=hI;have hW:=al8 (A:=a) (o:=o) (i:=i) (ops:=l.toArray) (full:=full) (fun k ok hk=>by obtain ⟨R',h1,-⟩:=hf k ok (by simpa using hk);exact ⟨R',h1⟩) (by simpa using hlen) (hgu i o hlo);have hstep:=Xn (KX listed) a g w hun hC (fun s hs'=>by have:a.tmps[s]? =a0.tmps[s]?:=hs s (fun k d R' hk _ e=>by obtain ⟨ok,hok,hdk⟩:=hdst k (some d) R' hk;have:d ∈ eU:=(by rw [<- uZ]; exact List.mem_filterMap.2 ⟨ok,List.mem_of_getElem? hok,hdk⟩);rw [e] at this;simp at hs';exact hs' this);simp [Act.eval,this]) (Qk (fun e he hb d R' hR'=>hR e.on d R' hR' (DV e (by simpa using he) hb)));have hnext: ∀(v:Value) (g':G) (w':World),Le g w g' w'->C (tT (KX listed) i) g' w'->R (dZ (a.put o.dst v) o.dst) g' w'->wpAny P .any l.toArray Q fuel (listed.setIfInBounds i true) (a.put o.dst v) w':=fun v g' w' hle hC' hv=>by
    refine ih _ _ g' _ ?_ ⟨by simp [hsz],by rw [aj5 hls]; exact hC',?_,?_,?_,?_⟩
    ·have:=Im hls hun l.length;rw [if_pos hlt] at this;omega
    ·cases o.dst <;> simpa [Act.put] using hd
    ·cases o.dst <;> simpa [Act.put] using hz
    ·intro s hne;have h1:a.tmps[s]? =a0.tmps[s]?:=hs s (fun k d R' hk hl=>hne k d R' hk (getD_set_true hl));cases hod:o.dst with
     | none=>simpa [Act.put] using h1
     | some d=>have hds:d≠s:=hne i d R (by rw [Jl,hod]) (by simp [hls]);simp only [Act.put];rw [Array.getElem?_setIfInBounds_ne hds]; exact h1
    ·intro k d R' hk hl;by_cases hik:i=k
     ·subst hik;rw [Jl] at hk;simp only [Option.some.injEq,Prod.mk.injEq] at hk;obtain ⟨rfl,rfl⟩:=hk;exact hv
     ·have hl':listed.getD k false=true:=(by rwa [getD_set_ne false hik] at hl);have h1:=hmono k d R' hk _ _ _ _ _ hle (hR k d R' hk hl');have:dZ (a.put o.dst v) d=dZ a d:=by
       cases hod:o.dst with
       | none=>rfl
       | some d1=>
         cases d with
         | none=>rfl
         | some d2=>
           have hne:d1≠d2:=fun e=>by obtain ⟨ok,hok,hdk⟩:=hdst k (some d2) R' hk;exact hik (Dw hnd i k o ok d2 hlo hok (by rw [hod,e]) hdk)
           simp [dZ,Act.eval,Act.put,Array.getElem?_setIfInBounds_ne hne]
      rw [this]; exact h1
   unfold wpOp;simp only [ho];rw [hW];cases hgd:nL (full.take i) a o with
   | true=>
     rw [hgd] at hstep;simp only [if_true] at hstep ⊢;refine Or.inl (Oper.wp_mono ?_ hstep);rintro a' w' ⟨v,g',rfl,hle,hC',hv⟩;refine hnext v g' w' hle hC' ?_;cases hod:o.dst with
     | none=>rw [hod] at hv; exact hv
     | some d=>rw [hod] at hv;simp only [Option.isSome_some,if_true] at hv;have hdl:d < a.tmps.size:=(by rw [hz]; exact hbd d (by rw [<- uZ]; exact List.mem_filterMap.2 ⟨o,List.mem_of_getElem? hlo,hod⟩));simpa [dZ,Act.eval,Act.put,hdl] using hv
   | false=>
     rw [hgd] at hstep;simp only [Bool.false_eq_true,if_false] at hstep ⊢;refine hnext undef g w (Ez g w) hstep.1 ?_;cases hod:o.dst with
     | none=>exact hstep.2
     | some d=>have hdl:d < a.tmps.size:=(by rw [hz]; exact hbd d (by rw [<- uZ]; exact List.mem_filterMap.2 ⟨o,List.mem_of_getElem? hlo,hod⟩));simpa [dZ,Act.eval,Act.put,hdl] using hstep.2
theorem zC {id:Nat} {l:List Oper} {w:World} (C:(Nat->Bool)->G->World->Prop) (Le:G->World->G->World->Prop) (eU:List Tmp) (g0:G) (hm:P.follows .mixedOrders=true) (hB:(l.filterMap (·.dst) == eU && Io l)=true) (Ez: ∀g w,Le g w g w) (hbd:(eU.all fun d=>decide (d < a0.tmps.size))=true) (hC:C (fun _=>false) g0 (w.drewN 1))
 (h:jZ P a0 Q C Le eU l []):(Code.region id l.toArray true).wp P Q a0 w:=by
 unfold Io at hB;simp only [Bool.and_eq_true,beq_iff_eq,decide_eq_true_eq] at hB;obtain ⟨uZ,hnd,hz⟩:=hB;obtain ⟨full,h1,-,h3,h4⟩:=h.full;simp only [List.length_nil,Nat.zero_add] at h1 h3;have hed: ∀(i:Nat) (o:Oper),l[i]? =some o->(∀d ∈ pR o,d < i)∧ ∀g b,o.guard=some (g,b)->g < i:=fun i o hi=>by have:=yO hz i o hi;simp only [Bool.and_eq_true,List.all_eq_true,decide_eq_true_eq] at this;refine ⟨this.1,fun g b hg=> ?_⟩;have h2:=this.2;rw [hg] at h2;simpa using h2
 refine wp_region_any hm ?_;have hdr:({w with drawn:=w.drawn + 1} :World)=w.drewN 1:=rfl;rw [hdr];have hD:KX (Array.replicate l.toArray.size false)=fun _=>false:=by funext k; unfold KX; rw [Array.getD_eq_getD_getElem?]; by_cases hk:k < l.length <;> simp [hk]
 refine Yq Ez (fun d hd=>by rw [List.all_eq_true] at hbd; simpa using hbd d hd) h1 hnd uZ (fun i o hi=>(hed i o hi).1) (fun i o hi=>(hed i o hi).2) h3 h4 _ _ _ g0 _ ?_ ⟨by simp,by rw [hD]; exact hC,rfl,rfl,fun _ _=>rfl,fun i d R _ hl=> ?_⟩
 ·have: ∀n,cnt (Array.replicate l.toArray.size false) n<=n:=fun n=>by
   induction n with
   | zero=>simp [cnt]
   | succ n ih=>simp only [cnt]; split <;> omega
  simpa using this l.length
 ·exfalso;rw [Array.getD_eq_getD_getElem?] at hl;by_cases hi:i < l.length
  ·simp [hi] at hl
  ·rw [Array.getElem?_eq_none (by simpa using hi)] at hl; cases hl
end
open Md
theorem kH {w:World} {K:Act->Prop} {a:Act} (h:K a):dJ w K [] a:=h
structure Ag where
 o:Option Nat
 h:Bool
 p:Option (Nat × Nat)
def Ag.le (n0:Nat) (g:Ag) (w:World) (g':Ag) (w':World):Prop:=(∀b,g.o=some b->g'.o=some b)∧(g.h=true->g'.h=true)∧(∀q,g.p=some q->g'.p=some q)∧w.heap.size<=w'.heap.size∧ ∀k,n0<=k->k < w.heap.size->w'.heap[k]? =w.heap[k]?
theorem Ag.le_refl (n0:Nat) (g:Ag) (w:World):Ag.le n0 g w g w:=⟨fun _ h=>h,fun h=>h,fun _ h=>h,Nat.le_refl _,fun _ _ _=>rfl⟩
theorem vS {D:Nat->Bool} {i k:Nat} (h:tT D i k=false):D k=false:=by
 unfold tT at h; rw [Bool.or_eq_false_iff] at h; exact h.1
theorem Lb {D:Nat->Bool} {i:Nat} (h:tT D i i=false):False:=by
 unfold tT at h; simp at h
theorem Qo {D:Nat->Bool} {i k:Nat} (hn:k≠i) (h:tT D i k=true):D k=true:=by
 unfold tT at h; rw [Bool.or_eq_true] at h;rcases h with h | h
 ·exact h
 ·exact absurd (by simpa using h) hn
structure vD (wr:World) (i8 yI i11 tF:Nat) (Row:Nat × Nat->World->Prop) (yF:Addr) (vv:Nat × Nat->Value) (cs:Array Value) (ty:TypeId) (D:Nat->Bool) (g:Ag) (w:World):Prop where
 d8:D i8=false->g.h=false
 xq:D yI=false->g.o=none
 uX:D i11=false->g.p=none
 op:g.o=none->g.p=none
 oh:g.h=false->g.p=none
 xP:g.p=none->D tF=false
 pre:g.p=none->Below wr.heap.size wr w
 row: ∀b,g.o=some b->wr.heap.size<=b∧w.heap[b]? =some (.cells cs ty (0,0))
 post: ∀q,g.p=some q->D tF=false->Row q w
 fin: ∀q,g.p=some q->D tF=true-> ∃w5,Row q w5∧w=w5.setCell yF (vv q)
section
variable {wr w w':World} {i8 yI i11 tF:Nat} {Row:Nat × Nat->World->Prop} {yF:Addr} {vv:Nat × Nat->Value} {cs:Array Value} {ty:TypeId} {D:Nat->Bool} {g:Ag}
theorem vD.start:vD wr i8 yI i11 tF Row yF vv cs ty (fun _=>false) ⟨none,false,none⟩ (wr.drewN 1):=
 ⟨fun _=>rfl,fun _=>rfl,fun _=>rfl,fun _=>rfl,fun _=>rfl,fun _=>rfl,fun _=>below_drewN (Below.refl _ _) 1,(fun _ h=>(by cases h)),(fun _ h=>(by cases h)),(fun _ h=>(by cases h))⟩
theorem vD.skip (h:vD wr i8 yI i11 tF Row yF vv cs ty D g w) (i:Nat) (uY:tF≠i):vD wr i8 yI i11 tF Row yF vv cs ty (tT D i) g w:=
 ⟨fun e=>h.d8 (vS e),fun e=>h.xq (vS e),fun e=>h.uX (vS e),h.op,h.oh,fun e=>(by
  cases hq:tT D i tF
  ·rfl
  ·have:=Qo uY hq; rw [h.xP e] at this; cases this),h.pre,h.row,fun q hq e=>h.post q hq (vS e),fun q hq e=>h.fin q hq (Qo uY e)⟩
theorem vD.aE9 (h:vD wr i8 yI i11 tF Row yF vv cs ty D g w) (hD:D yI=false) (uY:tF≠yI):Ag.le wr.heap.size g w {g with o:=some w.heap.size} (w.alloc (.cells cs ty))∧vD wr i8 yI i11 tF Row yF vv cs ty (tT D yI) {g with o:=some w.heap.size} (w.alloc (.cells cs ty)):=by
 have h0:=h.xq hD;have hp:=h.op h0;refine ⟨⟨fun b e=>(by rw [h0] at e; cases e),fun e=>e,fun q e=>e,(ak _ _).size,fun k _ hk=>(ak _ _).block k hk⟩,fun e=>h.d8 (vS e),fun e=>(Lb e).elim,fun e=>h.uX (vS e),fun e=>(by cases e),h.oh,fun e=>(h.skip yI uY).xP e,fun e=>(h.pre e).trans ((ak _ _).mono (h.pre e).size),fun b e=> ?_,fun q e=> ?_,fun q e=> ?_⟩
 ·injection e with e; subst e;exact ⟨(h.pre hp).size,heap_alloc_new _ _⟩
 ·rw [show g.p=some q from e] at hp; cases hp
 ·rw [show g.p=some q from e] at hp; cases hp
theorem vD.aF0 {q:Nat × Nat} (h:vD wr i8 yI i11 tF Row yF vv cs ty D g w) (hD:D i11=false) (uY:tF≠i11) {b:Nat} (hb:g.o=some b) (hh:g.h=true) (hr:Row q w') (hs:w.heap.size<=w'.heap.size) (hk: ∀k,wr.heap.size<=k->k < w.heap.size->w'.heap[k]? =w.heap[k]?):Ag.le wr.heap.size g w {g with p:=some q} w'∧vD wr i8 yI i11 tF Row yF vv cs ty (tT D i11) {g with p:=some q} w':=by
 have h0:=h.uX hD;refine ⟨⟨fun b e=>e,fun e=>e,fun q' e=>(by rw [h0] at e; cases e),hs,hk⟩,fun e=>h.d8 (vS e),fun e=>h.xq (vS e),fun e=>(Lb e).elim,fun e=> ?_,fun e=> ?_,fun e=>(by cases e),fun e=>(by cases e),fun b' e=> ?_,fun q' e _=>(by injection e with e; subst e; exact hr),fun q' e e2=> ?_⟩
 ·rw [show g.o=none from e] at hb; cases hb
 ·rw [show g.h=false from e] at hh; cases hh
 ·obtain ⟨h1,h2⟩:=h.row b' e;exact ⟨h1,(hk b' h1 (Array.getElem?_eq_some_iff.1 h2).1).trans h2⟩
 ·have:=Qo uY e2; rw [h.xP h0] at this; cases this
theorem vD.aF1 {q:Nat × Nat} (h:vD wr i8 yI i11 tF Row yF vv cs ty D g w) (hD:D tF=false) (hq:g.p=some q) (ha:yF.block < wr.heap.size) (h1:yI≠tF) (h2:i11≠tF):Ag.le wr.heap.size g w g (w.setCell yF (vv q))∧vD wr i8 yI i11 tF Row yF vv cs ty (tT D tF) g (w.setCell yF (vv q)):=by
 refine ⟨⟨fun b e=>e,fun e=>e,fun q e=>e,by simp [World.setCell],fun k hk _=>aV _ _ _ rfl (by omega)⟩,fun e=>h.d8 (vS e),fun e=>h.xq (vS e),fun e=>h.uX (vS e),h.op,h.oh,fun e=>(by rw [hq] at e; cases e),fun e=>(by rw [hq] at e; cases e),fun b e=> ?_,fun q' _ e=>(Lb e).elim,fun q' e _=> ?_⟩
 ·obtain ⟨k1,k2⟩:=h.row b e;exact ⟨k1,(aV _ _ _ rfl (by omega)).trans k2⟩
 ·rw [hq] at e; injection e with e; subst e;exact ⟨w,h.post q hq hD,rfl⟩
theorem vD.mk8 (h:vD wr i8 yI i11 tF Row yF vv cs ty D g w) (hD:D i8=false) (uY:tF≠i8):g.p=none∧Ag.le wr.heap.size g w {g with h:=true} w∧vD wr i8 yI i11 tF Row yF vv cs ty (tT D i8) {g with h:=true} w:=by
 have hp:=h.oh (h.d8 hD);have hs:=h.skip i8 uY;exact ⟨hp,⟨fun b e=>e,fun _=>rfl,fun q e=>e,Nat.le_refl _,fun _ _ _=>rfl⟩,fun e=>(Lb e).elim,hs.xq,hs.uX,hs.op,fun e=>(by cases e),hs.xP,hs.pre,hs.row,hs.post,hs.fin⟩
end
def QB (n:Nat) (q:Nat × Nat):Value:= .slice (some ⟨q.1,0,none⟩) n q.2
def Z9 (ty:TypeId) (m:Nat) (wr:World) (B:Nat) (own:Option Nat) (n:Nat) (xs:List Value) (q:Nat × Nat) (w5:World):Prop:=w5.ownsRow B ty m (QB n q) n xs∧wr.grownBy w5 own∧(own=some q.1∨wr.heap.size<=q.1)
theorem vD.cell {wr w:World} {te:TypeId} {m:Nat} {i8 yI i11 tF B n:Nat} {own:Option Nat} {xs:List Value} {yF:Addr} {vv:Nat × Nat->Value} {cs:Array Value} {ty:TypeId} {D:Nat->Bool} {g:Ag} (h:vD wr i8 yI i11 tF (Z9 te m wr B own n xs) yF vv cs ty D g w) {b j:Nat} {u:Value} (hb:b < wr.heap.size) (hne:own≠some b) (ha:yF.block≠b) (hc:wr.cell? ⟨b,j,none⟩=some u):w.cell? ⟨b,j,none⟩=some u:=by
 cases hp:g.p with
 | none=>exact ((h.pre hp).cell hb).trans hc
 | some q=>
   cases hd:D tF with
   | false=>exact (World.cell?_of_block (a:=⟨b,j,none⟩) ((h.post q hp hd).2.1.block b hb (fun e=>hne e.symm))).trans hc
   | true=>obtain ⟨w5,h1,rfl⟩:=h.fin q hp hd;exact (World.cell?_of_block (a:=⟨b,j,none⟩) ((aV w5 yF (vv q) rfl ha).trans (h1.2.1.block b hb (fun e=>hne e.symm)))).trans hc
theorem Ey {w w':World} {own:Option Nat} (h:Below w.heap.size w w'):w.grownBy w' own:=⟨h.os,h.tape,h.output,h.size,fun k hk _=>h.block k hk⟩
theorem Za {w:World} {K:Act->Prop} {a:Act} (h:K a):dJ w K [] a:=h
structure Gb where
 o8:Option Nat
 o9:Option Nat
 s8:Bool
 s9:Bool
def Gb.le (g g':Gb):Prop:=(∀b,g.o8=some b->g'.o8=some b)∧(∀b,g.o9=some b->g'.o9=some b)∧(g.s8=true->g'.s8=true)∧(g.s9=true->g'.s9=true)
theorem Gb.le_refl (g:Gb):g.le g:=⟨fun _ h=>h,fun _ h=>h,fun h=>h,fun h=>h⟩
structure uD (wr:World) (n:Nat) (Z X Y:Array Value) (ty:TypeId) (D:Nat->Bool) (g:Gb) (w:World):Prop where
 bl:Below wr.heap.size wr w
 d8:D n=false->g.o8=none
 d9:D (n + 1)=false->g.o9=none
 e8:D (n + 2)=false->g.s8=false
 e9:D (n + 3)=false->g.s9=false
 f8:g.o8=none->g.s8=false
 f9:g.o9=none->g.s9=false
 b8: ∀b,g.o8=some b->wr.heap.size<=b∧w.heap[b]? =some (.cells (if g.s8 then X else Z) ty (0,0))
 b9: ∀b,g.o9=some b->wr.heap.size<=b∧w.heap[b]? =some (.cells (if g.s9 then Y else Z) ty (0,0))
 ne: ∀b b',g.o8=some b->g.o9=some b'->b≠b'
section
variable {wr w:World} {n:Nat} {Z X Y:Array Value} {ty:TypeId} {D:Nat->Bool} {g:Gb}
theorem vw {D:Nat->Bool} {i k:Nat} (h:tT D i k=false):D k=false:=by
 unfold tT at h; rw [Bool.or_eq_false_iff] at h; exact h.1
theorem OH {D:Nat->Bool} {i:Nat} (h:tT D i i=false):False:=by
 unfold tT at h; simp at h
theorem uD.start:uD wr n Z X Y ty (fun _=>false) ⟨none,none,false,false⟩ (wr.drewN 1):=
 ⟨below_drewN (Below.refl _ _) 1,fun _=>rfl,fun _=>rfl,fun _=>rfl,fun _=>rfl,fun _=>rfl,fun _=>rfl,(fun b h=>by cases h),(fun b h=>by cases h),(fun b b' h _=>by cases h)⟩
theorem uD.skip (h:uD wr n Z X Y ty D g w) (i:Nat):uD wr n Z X Y ty (tT D i) g w:=
 ⟨h.bl,fun e=>h.d8 (vw e),fun e=>h.d9 (vw e),fun e=>h.e8 (vw e),fun e=>h.e9 (vw e),h.f8,h.f9,h.b8,h.b9,h.ne⟩
theorem uD.mk8 (h:uD wr n Z X Y ty D g w) (hD:D n=false):Gb.le g {g with o8:=some w.heap.size} ∧uD wr n Z X Y ty (tT D n) {g with o8:=some w.heap.size} (w.alloc (.cells Z ty)):=by
 have h0:=h.d8 hD;have hs:=h.f8 h0;have hb:=ak w (.cells Z ty);refine ⟨⟨(fun b e=>by rw [h0] at e; cases e),fun _ e=>e,fun e=>e,fun e=>e⟩,h.bl.trans (hb.mono h.bl.size),fun e=>(OH e).elim,fun e=>h.d9 (vw e),fun e=>hs,fun e=>h.e9 (vw e),fun _=>hs,h.f9,fun b e=> ?_,fun b e=> ?_,fun b b' e e'=> ?_⟩
 ·injection e with e; subst e;exact ⟨h.bl.size,by rw [hs]; exact heap_alloc_new _ _⟩
 ·obtain ⟨h1,h2⟩:=h.b9 b e;exact ⟨h1,(heap_alloc_old _ _ (Array.getElem?_eq_some_iff.1 h2).1).trans h2⟩
 ·injection e with e; subst e;have:=(Array.getElem?_eq_some_iff.1 (h.b9 b' e').2).1;omega
theorem uD.mk9 (h:uD wr n Z X Y ty D g w) (hD:D (n + 1)=false):Gb.le g {g with o9:=some w.heap.size} ∧uD wr n Z X Y ty (tT D (n + 1)) {g with o9:=some w.heap.size} (w.alloc (.cells Z ty)):=by
 have h0:=h.d9 hD;have hs:=h.f9 h0;have hb:=ak w (.cells Z ty);refine ⟨⟨fun _ e=>e,(fun b e=>by rw [h0] at e; cases e),fun e=>e,fun e=>e⟩,h.bl.trans (hb.mono h.bl.size),fun e=>h.d8 (vw e),fun e=>(OH e).elim,fun e=>h.e8 (vw e),fun e=>hs,h.f8,fun _=>hs,fun b e=> ?_,fun b e=> ?_,fun b b' e e'=> ?_⟩
 ·obtain ⟨h1,h2⟩:=h.b8 b e;exact ⟨h1,(heap_alloc_old _ _ (Array.getElem?_eq_some_iff.1 h2).1).trans h2⟩
 ·injection e with e; subst e;exact ⟨h.bl.size,by rw [hs]; exact heap_alloc_new _ _⟩
 ·injection e' with e'; subst e';have:=(Array.getElem?_eq_some_iff.1 (h.b8 b e).2).1;omega
theorem zx {w:World} {b k:Nat} {vs:List Value} (hk:k≠b) (hl:k < w.heap.size):(w.setCells b 0 vs).heap[k]? =w.heap[k]?:=
 (ig b vs 0 w).block k hl (by simp; exact hk)
theorem uD.st8 (h:uD wr n Z X Y ty D g w) (hD:D (n + 2)=false) {b:Nat} (hb:g.o8=some b) (hX:X.size=Z.size):Gb.le g {g with s8:=true} ∧uD wr n Z X Y ty (tT D (n + 2)) {g with s8:=true} (w.setCells b 0 X.toList):=by
 obtain ⟨h1,h2⟩:=h.b8 b hb;rw [h.e8 hD] at h2;have hg:=ig b X.toList 0 w;refine ⟨⟨fun _ e=>e,fun _ e=>e,fun _=>rfl,fun e=>e⟩,?_,fun e=>h.d8 (vw e),fun e=>h.d9 (vw e),fun e=>(OH e).elim,fun e=>h.e9 (vw e),(fun e=>by rw [hb] at e; cases e),h.f9,fun b' e=> ?_,fun b' e=> ?_,h.ne⟩
 ·exact ⟨hg.os.trans h.bl.os,hg.tape.trans h.bl.tape,hg.output.trans h.bl.output,Nat.le_trans h.bl.size hg.size,fun k hk=>(zx (by omega) (Nat.lt_of_lt_of_le hk h.bl.size)).trans (h.bl.block k hk)⟩
 ·have e':b=b':=by rw [hb] at e; injection e
  subst e';exact ⟨h1,(mM h2 (by simp [hX])).trans (by simp)⟩
 ·obtain ⟨h3,h4⟩:=h.b9 b' e;exact ⟨h3,(zx (fun e2=>h.ne b b' hb e e2.symm) (Array.getElem?_eq_some_iff.1 h4).1).trans h4⟩
theorem uD.st9 (h:uD wr n Z X Y ty D g w) (hD:D (n + 3)=false) {b:Nat} (hb:g.o9=some b) (hY:Y.size=Z.size):Gb.le g {g with s9:=true} ∧uD wr n Z X Y ty (tT D (n + 3)) {g with s9:=true} (w.setCells b 0 Y.toList):=by
 obtain ⟨h1,h2⟩:=h.b9 b hb;rw [h.e9 hD] at h2;have hg:=ig b Y.toList 0 w;refine ⟨⟨fun _ e=>e,fun _ e=>e,fun e=>e,fun _=>rfl⟩,?_,fun e=>h.d8 (vw e),fun e=>h.d9 (vw e),fun e=>h.e8 (vw e),fun e=>(OH e).elim,h.f8,(fun e=>by rw [hb] at e; cases e),fun b' e=> ?_,fun b' e=> ?_,h.ne⟩
 ·exact ⟨hg.os.trans h.bl.os,hg.tape.trans h.bl.tape,hg.output.trans h.bl.output,Nat.le_trans h.bl.size hg.size,fun k hk=>(zx (by omega) (Nat.lt_of_lt_of_le hk h.bl.size)).trans (h.bl.block k hk)⟩
 ·obtain ⟨h3,h4⟩:=h.b8 b' e;exact ⟨h3,(zx (fun e2=>h.ne b' b e hb e2) (Array.getElem?_eq_some_iff.1 h4).1).trans h4⟩
 ·have e':b=b':=by rw [hb] at e; injection e
  subst e';exact ⟨h1,(mM h2 (by simp [hY])).trans (by simp)⟩
theorem uD.aI2 (h:uD wr n Z X Y ty D g w) (hD:D (n + 2)=false) {b m:Nat} (hb:g.o8=some b) (hm:m<=Z.size):w.there b 0 m:=by
 obtain ⟨h1,h2⟩:=h.b8 b hb;rw [h.e8 hD] at h2;exact I4 h2 hm
theorem uD.aI3 (h:uD wr n Z X Y ty D g w) (hD:D (n + 3)=false) {b m:Nat} (hb:g.o9=some b) (hm:m<=Z.size):w.there b 0 m:=by
 obtain ⟨h1,h2⟩:=h.b9 b hb;rw [h.e9 hD] at h2;exact I4 h2 hm
theorem uD.two (h:uD wr n Z X Y ty D g w) {b b':Nat} (h8:g.o8=some b) (h9:g.o9=some b') (hs:g.s8=true) (hs':g.s9=true):
 Below wr.heap.size wr w∧wr.heap.size<=b∧wr.heap.size<=b'∧b≠b'∧w.heap[b]? =some (.cells X ty (0,0))∧w.heap[b']? =some (.cells Y ty (0,0)):=by
 obtain ⟨h1,h2⟩:=h.b8 b h8;obtain ⟨h3,h4⟩:=h.b9 b' h9;rw [hs] at h2;rw [hs'] at h4;exact ⟨h.bl,h1,h3,h.ne b b' h8 h9,h2,h4⟩
end
end Go.Proofs.YtfbbaiejbjdfbaaGreatDoor
