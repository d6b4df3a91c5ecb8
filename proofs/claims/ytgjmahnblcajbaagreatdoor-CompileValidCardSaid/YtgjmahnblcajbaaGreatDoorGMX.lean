/- A region that draws its order, with a ghost beside the world: whatever came up first, what each operation yields has a property that stays. No program in sight. And what hangs on it. -/
import Derived.Test.YtgjmahnblcajbaaGreatDoorGMB
import Derived.Test.YtgjmahnblcajbaaGreatDoorGMA
set_option linter.unusedSimpArgs false
set_option linter.unusedVariables false
set_option maxHeartbeats 40000000
set_option maxRecDepth 1000000
namespace Go.Proofs.YtgjmahnblcajbaaGreatDoor
open Go.RowKit
abbrev RG (G:Type):=Value->G->World->Prop
section
variable {G:Type}
def qo (ents:List (Option Tmp × RG G)) (A:Act) (g:G) (w:World):List Edge->Prop
 | []=>True
 | e ::r=>(if Region.binds .any e=true then (match ents[e.on]? with | some (d,R)=>R (eU A d) g w | none=>True) else True)∧qo ents A g w r
def zP (ents:List (Option Tmp × RG G)) (A:Act) (o:Oper):Bool:=
 match o.guard with
 | none=>true
 | some (g,b)=>match ents[g]? with
   | some (some d,_)=>match A.eval (.tmp d) with
     | .bool x=>x == b
     | _=>false
   | _=>false
def lq (C:G->World->Prop) (Le:G->World->G->World->Prop) (R:RG G) (A:Act) (dst:Option Tmp) (g:G) (w:World) (a':Act) (w':World):Prop:=
 ∃v g',a'=A.put dst v∧Le g w g' w'∧C g' w'∧R (if dst.isSome then v else undef) g' w'
theorem lq.mk {C:G->World->Prop} {Le:G->World->G->World->Prop} {R:RG G} {A:Act} {d:Tmp} {g g':G} {w w':World} {v:Value} (hle:Le g w g' w') (hC:C g' w') (hR:R v g' w'):lq C Le R A (some d) g w (A.put (some d) v) w':=⟨v,g',rfl,hle,hC,hR⟩
theorem lq.LC {C:G->World->Prop} {Le:G->World->G->World->Prop} {R:RG G} {A:Act} {g g':G} {w w':World} {v:Value} (hle:Le g w g' w') (hC:C g' w') (hR:R undef g' w'):lq C Le R A none g w (A.put none v) w':=⟨v,g',rfl,hle,hC,hR⟩
def xR (D:Nat->Bool) (i:Nat):Nat->Bool:=fun k=>D k || k == i
def MU (P:Program) (a0:Act) (Q:Exit->Act->World->Prop) (C:(Nat->Bool)->G->World->Prop) (Le:G->World->G->World->Prop) (dD:List Tmp) (ents:List (Option Tmp × RG G)) (o:Oper) (R:RG G) (i:Nat):Prop:=
 ∀D A g w,D i=false->C D g w->(∀s,dD.contains s=false->A.eval (.tmp s)=a0.eval (.tmp s))->qo ents A g w o.after.toList->
  if zP ents A o then o.wp P A w (lq (C (xR D i)) Le R A o.dst g w) Q else (C (xR D i) g w∧R undef g w)
def qI (c:Value):RG G:=fun v _ _=>v=c
theorem qI.mk (c:Value) (g:G) (w:World):qI c c g w:=rfl
def Ni (g:G) (ents:List (Option Tmp × RG G)):List (Option Tmp × RP):=ents.map fun x=>(x.1,fun v w=>x.2 v g w)
def pQ (P:Program) (a0:Act) (Q:Exit->Act->World->Prop) (C:(Nat->Bool)->G->World->Prop) (Le:G->World->G->World->Prop) (dD:List Tmp):List Oper->List (Option Tmp × RG G)->Prop
 | [],ents=> ∀D g w,(∀i,i < ents.length->D i=true)->C D g w->eu w (fun a=>Q .normal a w) (Ni g ents) a0
 | o ::rest,ents=> ∃R:RG G,(∀v g w g' w',Le g w g' w'->R v g w->R v g' w')∧MU P a0 Q C Le dD ents o R ents.length∧pQ P a0 Q C Le dD rest (ents++[(o.dst,R)])
variable {P:Program} {a0:Act} {Q:Exit->Act->World->Prop} {C:(Nat->Bool)->G->World->Prop} {Le:G->World->G->World->Prop} {dD:List Tmp}
theorem pQ.full: ∀ {l:List Oper} {ents:List (Option Tmp × RG G)},pQ P a0 Q C Le dD l ents-> ∃full:List (Option Tmp × RG G),full.length=ents.length + l.length∧full.take ents.length=ents∧
 (∀(i:Nat) (o:Oper),l[i]? =some o-> ∃R,full[ents.length + i]? =some (o.dst,R)∧(∀v g w g' w',Le g w g' w'->R v g w->R v g' w')∧MU P a0 Q C Le dD (full.take (ents.length + i)) o R (ents.length + i))∧
 ∀D g w,(∀i,i < full.length->D i=true)->C D g w->eu w (fun a=>Q .normal a w) (Ni g full) a0
 | [],ents,h=>⟨ents,by simp,by simp,by simp,h⟩
 | o ::rest,ents,h=>by
   obtain ⟨R,hm,ho,hr⟩:=h;obtain ⟨full,h1,h2,h3,h4⟩:=pQ.full hr;simp only [List.length_append,List.length_cons,List.length_nil,Nat.zero_add] at h1 h2 h3;have hlen:ents.length < full.length:=by omega
   have hget:full[ents.length]? =some (o.dst,R):=by have:=congrArg (fun l=>l[ents.length]?) h2;simpa using this
   refine ⟨full,by simp; omega,?_,?_,h4⟩
   ·have:=congrArg (List.take ents.length) h2;simpa [List.take_take] using this
   ·intro i o' hi;cases i with
    | zero=>simp only [List.getElem?_cons_zero,Option.some.injEq] at hi;subst hi;refine ⟨R,by simpa using hget,hm,?_⟩;have:full.take (ents.length + 0)=ents:=(by have:=congrArg (List.take ents.length) h2;simpa [List.take_take] using this);rw [this]; exact ho
    | succ i=>have hi':rest[i]? =some o':=(by simpa using hi);have:=h3 i o' hi';rw [show ents.length + (i + 1)=ents.length + 1 + i by omega];exact this
theorem pQ.step {o:Oper} {rest:List Oper} {ents:List (Option Tmp × RG G)} {v:Value} (aP:MU P a0 Q C Le dD ents o (qI v) ents.length) (hrest:pQ P a0 Q C Le dD rest (ents++[(o.dst,qI v)])):pQ P a0 Q C Le dD (o ::rest) ents:=
 ⟨qI v,fun _ _ _ _ _ _ h=>h,aP,hrest⟩
theorem pQ.some {o:Oper} {rest:List Oper} {ents:List (Option Tmp × RG G)} (R:RG G) (hmono: ∀v g w g' w',Le g w g' w'->R v g w->R v g' w') (aP:MU P a0 Q C Le dD ents o R ents.length) (hrest:pQ P a0 Q C Le dD rest (ents++[(o.dst,R)])):pQ P a0 Q C Le dD (o ::rest) ents:=
 ⟨R,hmono,aP,hrest⟩
theorem pQ.done {ents:List (Option Tmp × RG G)} (h: ∀D g w,(∀i,i < ents.length->D i=true)->C D g w->eu w (fun a=>Q .normal a w) (Ni g ents) a0):pQ P a0 Q C Le dD [] ents:=h
theorem Nz {full:List (Option Tmp × RG G)} {A:Act} {g:G} {w:World} {i:Nat} : ∀ {l:List Edge},(∀e ∈ l,Region.binds .any e=true-> ∀(d:Option Tmp) (R:RG G),full[e.on]? =some (d,R)->R (eU A d) g w)->qo (full.take i) A g w l
 | [],_=>trivial
 | e ::r,h=>by
   refine ⟨?_,Nz fun e' he'=>h e' (by simp [he'])⟩;split
   case isFalse=>trivial
   case isTrue hb=>
   cases hg:(full.take i)[e.on]? with
   | none=>trivial
   | some x=>
     obtain ⟨d,R⟩:=x;rw [List.getElem?_take] at hg;split at hg
     ·exact h e (by simp) hb d R hg
     ·cases hg
def Iw (listed:Array Bool):Nat->Bool:=fun i=>listed.getD i false
theorem Z5 {listed:Array Bool} {i:Nat} (hi:i < listed.size):Iw (listed.setIfInBounds i true)=xR (Iw listed) i:=by
 funext k;unfold Iw xR;by_cases hk:i=k
 ·subst hk; simp [hi]
 ·rw [getD_set_ne false hk];have:(k == i)=false:=by rw [beq_eq_false_iff_ne]; exact fun e=>hk e.symm
  rw [this,Bool.or_false]
def Yj (a0:Act) (C:(Nat->Bool)->G->World->Prop) (full:List (Option Tmp × RG G)) (n:Nat) (listed:Array Bool) (a:Act) (g:G) (w:World):Prop:=
 listed.size=n∧C (Iw listed) g w∧a.defers=a0.defers∧a.tmps.size=a0.tmps.size∧
 (∀s:Nat,(∀(i:Nat) (d:Tmp) (R:RG G),full[i]? =some (some d,R)->listed.getD i false=true->d≠s)->a.tmps[s]? =a0.tmps[s]?)∧
 ∀(i:Nat) (d:Option Tmp) (R:RG G),full[i]? =some (d,R)->listed.getD i false=true->R (eU a d) g w
theorem ZX {ops:Array Oper} {full:List (Option Tmp × RG G)} {o:Oper} {A:Act} {i:Nat} (hf: ∀(k:Nat) (ok:Oper),ops[k]? =some ok-> ∃R,full[k]? =some (ok.dst,R)) (hlen:full.length=ops.size)
 (hg: ∀g b,o.guard=some (g,b)->g < i):Region.wanted o (yielded ops A.tmps)=zP (full.take i) A o:=by
 unfold Region.wanted zP;cases ho:o.guard with
 | none=>rfl
 | some x=>
   obtain ⟨g,b⟩:=x;have hgi:=hg g b ho;simp only;rw [List.getElem?_take,if_pos hgi];unfold yielded;cases hk:ops[g]? with
   | none=>have:full[g]? =none:=List.getElem?_eq_none (by rw [hlen]; exact Array.getElem?_eq_none_iff.1 hk);rw [this]; rfl
   | some ok=>
     obtain ⟨R,hR⟩:=hf g ok hk;rw [hR];simp only [Option.bind_some];cases hd:ok.dst with
     | none=>rfl
     | some d=>
       simp only [Option.bind_some,Act.eval];cases ht:A.tmps[d]? with
       | none=>simp [ht,undef]
       | some v=>simp only [Array.getD_eq_getD_getElem?,ht,Option.getD_some];cases v <;> first | rfl | (rename_i x; cases x <;> cases b <;> rfl)
theorem Vk {l:List Oper} {full:List (Option Tmp × RG G)} (Co: ∀g w,Le g w g w) (hbd: ∀d ∈ dD,d < a0.tmps.size) (hlen:full.length=l.length) (hnd:(l.filterMap (·.dst)).Nodup) (qp:l.filterMap (·.dst)=dD)
 (hed: ∀(i:Nat) (o:Oper),l[i]? =some o-> ∀d ∈ kR o,d < i) (hgu: ∀(i:Nat) (o:Oper),l[i]? =some o-> ∀g b,o.guard=some (g,b)->g < i)
 (hf: ∀(i:Nat) (o:Oper),l[i]? =some o-> ∃R,full[i]? =some (o.dst,R)∧(∀v g w g' w',Le g w g' w'->R v g w->R v g' w')∧MU P a0 Q C Le dD (full.take i) o R i)
 (hend: ∀D g w,(∀i,i < full.length->D i=true)->C D g w->eu w (fun a=>Q .normal a w) (Ni g full) a0):
 ∀(fuel:Nat) (listed:Array Bool) (a:Act) (g:G) (w:World),cnt listed l.length<=fuel->Yj a0 C full l.length listed a g w->wpAny P .any l.toArray Q fuel listed a w:=by
 have hmono: ∀(i:Nat) (d:Option Tmp) (R:RG G),full[i]? =some (d,R)-> ∀v g w g' w',Le g w g' w'->R v g w->R v g' w':=fun i d R hi=>by
  have hlt:i < l.length:=by rw [<- hlen]; exact (List.getElem?_eq_some_iff.1 hi).1
  obtain ⟨R',h1,h2,-⟩:=hf i l[i] (List.getElem?_eq_getElem hlt);rw [hi] at h1;simp only [Option.some.injEq,Prod.mk.injEq] at h1;rw [h1.2]; exact h2
 have hdst: ∀(i:Nat) (d:Option Tmp) (R:RG G),full[i]? =some (d,R)-> ∃o,l[i]? =some o∧o.dst=d:=fun i d R hi=>by
  have hlt:i < l.length:=by rw [<- hlen]; exact (List.getElem?_eq_some_iff.1 hi).1
  obtain ⟨R',h1,-⟩:=hf i l[i] (List.getElem?_eq_getElem hlt);rw [hi] at h1;simp only [Option.some.injEq,Prod.mk.injEq] at h1;exact ⟨l[i],List.getElem?_eq_getElem hlt,h1.1.symm⟩
 have hall: ∀listed a g w,Yj a0 C full l.length listed a g w->(∀i,i < l.length->listed.getD i false=true)->Q .normal a w:=fun listed a g w hI ha=>by
  obtain ⟨hsz0,hC,hd,hz,hs,hR⟩:=hI;refine (hend (Iw listed) g w (fun i hi=>ha i (by rw [<- hlen]; exact hi)) hC).use (a':=a) (fun i d R hi=> ?_) hd hz (fun s hne=>hs s (fun i d R hi _=>hne i d (fun v w=>R v g w) (by unfold Ni; rw [List.getElem?_map,hi]; rfl)));unfold Ni at hi;rw [List.getElem?_map] at hi;cases hq:full[i]? with
  | none=>rw [hq] at hi; cases hi
  | some x=>obtain ⟨d',R'⟩:=x;rw [hq] at hi;simp only [Option.map_some,Option.some.injEq,Prod.mk.injEq] at hi;obtain ⟨rfl,rfl⟩:=hi;refine hR i d' R' hq (ha i ?_);rw [<- hlen]; exact (List.getElem?_eq_some_iff.1 hq).1
 have EK: ∀listed:Array Bool,listed.size=l.length->Region.ready .any l.toArray listed=[]-> ∀i,i < l.length->listed.getD i false=true:=fun listed hsz hr i=>by
  induction i using Nat.strongRecOn with
  | _ i ih=>
    intro hi;cases hg:listed.getD i false with
    | true=>rfl
    | false=>exfalso;have:i ∈ Region.ready .any l.toArray listed:=mem_ready.2 ⟨by have h1:i < listed.size:=(by omega);simp [h1] at hg ⊢; exact hg,l[i],by simp [hi],fun e he hb=>ih e.on (hed i l[i] (List.getElem?_eq_getElem hi) e.on (xO he hb)) (by have:=hed i l[i] (List.getElem?_eq_getElem hi) e.on (xO he hb); omega)⟩;rw [hr] at this; cases this
 intro fuel
 induction fuel with
 | zero=>
   intro listed a g w hc hI;have ha:=CY (Nat.le_zero.1 hc);refine ⟨?_,hall listed a g w hI ha⟩;rw [List.eq_nil_iff_forall_not_mem];intro i hi;obtain ⟨h0,o,ho,-⟩:=mem_ready.1 hi;have hlt:i < l.length:=by simpa using (Array.getElem?_eq_some_iff.1 ho).1
   have:=ha i hlt;have h1:i < listed.size:=by rw [hI.1]; exact hlt
   simp [h1] at h0 this; rw [h0] at this; cases this
 | succ fuel ih=>
   intro listed a g w hc hI;refine ⟨fun hr=>hall listed a g w hI (EK listed hI.1 hr),fun i hi=> ?_⟩;obtain ⟨h0,o,ho,Bp⟩:=mem_ready.1 hi;have hlt:i < l.length:=by simpa using (Array.getElem?_eq_some_iff.1 ho).1
   have hlo:l[i]? =some o:=by simpa using ho
   have hls:i < listed.size:=by rw [hI.1]; exact hlt
   have hun:listed.getD i false=false:=by simp [hls] at h0 ⊢; exact h0
   obtain ⟨R,FT,hRm,Uk⟩:=hf i o hlo;obtain ⟨hsz,hC,hd,hz,hs,hR⟩:=hI;have hW:=ZX (A:=a) (o:=o) (i:=i) (ops:=l.toArray) (full:=full) (fun k ok hk=>by obtain ⟨R',h1,-⟩:=hf k ok (by simpa using hk);exact ⟨R',h1⟩) (by simpa using hlen) (hgu i o hlo);have hstep:=Uk (Iw listed) a g w hun hC (fun s hs'=>by have:a.tmps[s]? =a0.tmps[s]?:=hs s (fun k d R' hk _ e=>by obtain ⟨ok,hok,hdk⟩:=hdst k (some d) R' hk;have:d ∈ dD:=(by rw [<- qp]; exact List.mem_filterMap.2 ⟨ok,List.mem_of_getElem? hok,hdk⟩);rw [e] at this;simp at hs';exact hs' this);simp [Act.eval,this]) (Nz (fun e he hb d R' hR'=>hR e.on d R' hR' (Bp e (by simpa using he) hb)));have hnext: ∀(v:Value) (g':G) (w':World),Le g w g' w'->C (xR (Iw listed) i) g' w'->R (eU (a.put o.dst v) o.dst) g' w'->wpAny P .any l.toArray Q fuel (listed.setIfInBounds i true) (a.put o.dst v) w':=fun v g' w' hle hC' hv=>by
    refine ih _ _ g' _ ?_ ⟨by simp [hsz],by rw [Z5 hls]; exact hC',?_,?_,?_,?_⟩
    ·have:=Fj hls hun l.length;rw [if_pos hlt] at this;omega
    ·cases o.dst <;> simpa [Act.put] using hd
    ·cases o.dst <;> simpa [Act.put] using hz
    ·intro s hne;have h1:a.tmps[s]? =a0.tmps[s]?:=hs s (fun k d R' hk hl=>hne k d R' hk (getD_set_true hl));cases hod:o.dst with
     | none=>simpa [Act.put] using h1
     | some d=>have hds:d≠s:=hne i d R (by rw [FT,hod]) (by simp [hls]);simp only [Act.put];rw [Array.getElem?_setIfInBounds_ne hds]; exact h1
    ·intro k d R' hk hl;by_cases hik:i=k
     ·subst hik;rw [FT] at hk;simp only [Option.some.injEq,Prod.mk.injEq] at hk;obtain ⟨rfl,rfl⟩:=hk;exact hv
     ·have hl':listed.getD k false=true:=(by rwa [getD_set_ne false hik] at hl);have h1:=hmono k d R' hk _ _ _ _ _ hle (hR k d R' hk hl');have:eU (a.put o.dst v) d=eU a d:=by
       cases hod:o.dst with
       | none=>rfl
       | some d1=>
         cases d with
         | none=>rfl
         | some d2=>
           have hne:d1≠d2:=fun e=>by obtain ⟨ok,hok,hdk⟩:=hdst k (some d2) R' hk;exact hik (AV hnd i k o ok d2 hlo hok (by rw [hod,e]) hdk)
           simp [eU,Act.eval,Act.put,Array.getElem?_setIfInBounds_ne hne]
      rw [this]; exact h1
   unfold wpOp;simp only [ho];rw [hW];cases hgd:zP (full.take i) a o with
   | true=>
     rw [hgd] at hstep;simp only [if_true] at hstep ⊢;refine Or.inl (Oper.wp_mono ?_ hstep);rintro a' w' ⟨v,g',rfl,hle,hC',hv⟩;refine hnext v g' w' hle hC' ?_;cases hod:o.dst with
     | none=>rw [hod] at hv; exact hv
     | some d=>rw [hod] at hv;simp only [Option.isSome_some,if_true] at hv;have hdl:d < a.tmps.size:=(by rw [hz]; exact hbd d (by rw [<- qp]; exact List.mem_filterMap.2 ⟨o,List.mem_of_getElem? hlo,hod⟩));simpa [eU,Act.eval,Act.put,hdl] using hv
   | false=>
     rw [hgd] at hstep;simp only [Bool.false_eq_true,if_false] at hstep ⊢;refine hnext undef g w (Co g w) hstep.1 ?_;cases hod:o.dst with
     | none=>exact hstep.2
     | some d=>have hdl:d < a.tmps.size:=(by rw [hz]; exact hbd d (by rw [<- qp]; exact List.mem_filterMap.2 ⟨o,List.mem_of_getElem? hlo,hod⟩));simpa [eU,Act.eval,Act.put,hdl] using hstep.2
theorem Jp {id:Nat} {l:List Oper} {w:World} (C:(Nat->Bool)->G->World->Prop) (Le:G->World->G->World->Prop) (dD:List Tmp) (g0:G) (hm:P.follows .mixedOrders=true) (hB:(l.filterMap (·.dst) == dD && Fp l)=true) (Co: ∀g w,Le g w g w) (hbd:(dD.all fun d=>decide (d < a0.tmps.size))=true) (hC:C (fun _=>false) g0 (w.drewN 1))
 (h:pQ P a0 Q C Le dD l []):(Code.region id l.toArray true).wp P Q a0 w:=by
 unfold Fp at hB;simp only [Bool.and_eq_true,beq_iff_eq,decide_eq_true_eq] at hB;obtain ⟨qp,hnd,hz⟩:=hB;obtain ⟨full,h1,-,h3,h4⟩:=h.full;simp only [List.length_nil,Nat.zero_add] at h1 h3;have hed: ∀(i:Nat) (o:Oper),l[i]? =some o->(∀d ∈ kR o,d < i)∧ ∀g b,o.guard=some (g,b)->g < i:=fun i o hi=>by have:=uI hz i o hi;simp only [Bool.and_eq_true,List.all_eq_true,decide_eq_true_eq] at this;refine ⟨this.1,fun g b hg=> ?_⟩;have h2:=this.2;rw [hg] at h2;simpa using h2
 refine wp_region_any hm ?_;have hdr:({w with drawn:=w.drawn + 1} :World)=w.drewN 1:=rfl;rw [hdr];have hD:Iw (Array.replicate l.toArray.size false)=fun _=>false:=by funext k; unfold Iw; rw [Array.getD_eq_getD_getElem?]; by_cases hk:k < l.length <;> simp [hk]
 refine Vk Co (fun d hd=>by rw [List.all_eq_true] at hbd; simpa using hbd d hd) h1 hnd qp (fun i o hi=>(hed i o hi).1) (fun i o hi=>(hed i o hi).2) h3 h4 _ _ _ g0 _ ?_ ⟨by simp,by rw [hD]; exact hC,rfl,rfl,fun _ _=>rfl,fun i d R _ hl=> ?_⟩
 ·have: ∀n,cnt (Array.replicate l.toArray.size false) n<=n:=fun n=>by
   induction n with
   | zero=>simp [cnt]
   | succ n ih=>simp only [cnt]; split <;> omega
  simpa using this l.length
 ·exfalso;rw [Array.getD_eq_getD_getElem?] at hl;by_cases hi:i < l.length
  ·simp [hi] at hl
  ·rw [Array.getElem?_eq_none (by simpa using hi)] at hl; cases hl
end
open Md
theorem yM {w:World} {K:Act->Prop} {a:Act} (h:K a):eu w K [] a:=h
structure Ag where
 o:Option Nat
 h:Bool
 p:Option (Nat × Nat)
def Ag.le (n0:Nat) (g:Ag) (w:World) (g':Ag) (w':World):Prop:=(∀b,g.o=some b->g'.o=some b)∧(g.h=true->g'.h=true)∧(∀q,g.p=some q->g'.p=some q)∧w.heap.size<=w'.heap.size∧ ∀k,n0<=k->k < w.heap.size->w'.heap[k]? =w.heap[k]?
theorem Ag.le_refl (n0:Nat) (g:Ag) (w:World):Ag.le n0 g w g w:=⟨fun _ h=>h,fun h=>h,fun _ h=>h,Nat.le_refl _,fun _ _ _=>rfl⟩
theorem qQ {D:Nat->Bool} {i k:Nat} (h:xR D i k=false):D k=false:=by
 unfold xR at h; rw [Bool.or_eq_false_iff] at h; exact h.1
theorem IK {D:Nat->Bool} {i:Nat} (h:xR D i i=false):False:=by
 unfold xR at h; simp at h
theorem NG {D:Nat->Bool} {i k:Nat} (hn:k≠i) (h:xR D i k=true):D k=true:=by
 unfold xR at h; rw [Bool.or_eq_true] at h;rcases h with h | h
 ·exact h
 ·exact absurd (by simpa using h) hn
structure sj (wr:World) (i8 uh i11 nY:Nat) (Row:Nat × Nat->World->Prop) (tY:Addr) (vv:Nat × Nat->Value) (cs:Array Value) (ty:TypeId) (D:Nat->Bool) (g:Ag) (w:World):Prop where
 d8:D i8=false->g.h=false
 nV:D uh=false->g.o=none
 Lb:D i11=false->g.p=none
 op:g.o=none->g.p=none
 oh:g.h=false->g.p=none
 Qe:g.p=none->D nY=false
 pre:g.p=none->Below wr.heap.size wr w
 row: ∀b,g.o=some b->wr.heap.size<=b∧w.heap[b]? =some (.cells cs ty (0,0))
 post: ∀q,g.p=some q->D nY=false->Row q w
 fin: ∀q,g.p=some q->D nY=true-> ∃w5,Row q w5∧w=w5.setCell tY (vv q)
section
variable {wr w w':World} {i8 uh i11 nY:Nat} {Row:Nat × Nat->World->Prop} {tY:Addr} {vv:Nat × Nat->Value} {cs:Array Value} {ty:TypeId} {D:Nat->Bool} {g:Ag}
theorem sj.start:sj wr i8 uh i11 nY Row tY vv cs ty (fun _=>false) ⟨none,false,none⟩ (wr.drewN 1):=
 ⟨fun _=>rfl,fun _=>rfl,fun _=>rfl,fun _=>rfl,fun _=>rfl,fun _=>rfl,fun _=>below_drewN (Below.refl _ _) 1,(fun _ h=>(by cases h)),(fun _ h=>(by cases h)),(fun _ h=>(by cases h))⟩
theorem sj.skip (h:sj wr i8 uh i11 nY Row tY vv cs ty D g w) (i:Nat) (uf:nY≠i):sj wr i8 uh i11 nY Row tY vv cs ty (xR D i) g w:=
 ⟨fun e=>h.d8 (qQ e),fun e=>h.nV (qQ e),fun e=>h.Lb (qQ e),h.op,h.oh,fun e=>(by
  cases hq:xR D i nY
  ·rfl
  ·have:=NG uf hq; rw [h.Qe e] at this; cases this),h.pre,h.row,fun q hq e=>h.post q hq (qQ e),fun q hq e=>h.fin q hq (NG uf e)⟩
theorem sj.aM9 (h:sj wr i8 uh i11 nY Row tY vv cs ty D g w) (hD:D uh=false) (uf:nY≠uh):Ag.le wr.heap.size g w {g with o:=some w.heap.size} (w.alloc (.cells cs ty))∧sj wr i8 uh i11 nY Row tY vv cs ty (xR D uh) {g with o:=some w.heap.size} (w.alloc (.cells cs ty)):=by
 have h0:=h.nV hD;have hp:=h.op h0;refine ⟨⟨fun b e=>(by rw [h0] at e; cases e),fun e=>e,fun q e=>e,(au _ _).size,fun k _ hk=>(au _ _).block k hk⟩,fun e=>h.d8 (qQ e),fun e=>(IK e).elim,fun e=>h.Lb (qQ e),fun e=>(by cases e),h.oh,fun e=>(h.skip uh uf).Qe e,fun e=>(h.pre e).trans ((au _ _).mono (h.pre e).size),fun b e=> ?_,fun q e=> ?_,fun q e=> ?_⟩
 ·injection e with e; subst e;exact ⟨(h.pre hp).size,heap_alloc_new _ _⟩
 ·rw [show g.p=some q from e] at hp; cases hp
 ·rw [show g.p=some q from e] at hp; cases hp
theorem sj.aN0 {q:Nat × Nat} (h:sj wr i8 uh i11 nY Row tY vv cs ty D g w) (hD:D i11=false) (uf:nY≠i11) {b:Nat} (hb:g.o=some b) (hh:g.h=true) (hr:Row q w') (hs:w.heap.size<=w'.heap.size) (hk: ∀k,wr.heap.size<=k->k < w.heap.size->w'.heap[k]? =w.heap[k]?):Ag.le wr.heap.size g w {g with p:=some q} w'∧sj wr i8 uh i11 nY Row tY vv cs ty (xR D i11) {g with p:=some q} w':=by
 have h0:=h.Lb hD;refine ⟨⟨fun b e=>e,fun e=>e,fun q' e=>(by rw [h0] at e; cases e),hs,hk⟩,fun e=>h.d8 (qQ e),fun e=>h.nV (qQ e),fun e=>(IK e).elim,fun e=> ?_,fun e=> ?_,fun e=>(by cases e),fun e=>(by cases e),fun b' e=> ?_,fun q' e _=>(by injection e with e; subst e; exact hr),fun q' e e2=> ?_⟩
 ·rw [show g.o=none from e] at hb; cases hb
 ·rw [show g.h=false from e] at hh; cases hh
 ·obtain ⟨h1,h2⟩:=h.row b' e;exact ⟨h1,(hk b' h1 (Array.getElem?_eq_some_iff.1 h2).1).trans h2⟩
 ·have:=NG uf e2; rw [h.Qe h0] at this; cases this
theorem sj.aN1 {q:Nat × Nat} (h:sj wr i8 uh i11 nY Row tY vv cs ty D g w) (hD:D nY=false) (hq:g.p=some q) (ha:tY.block < wr.heap.size) (h1:uh≠nY) (h2:i11≠nY):Ag.le wr.heap.size g w g (w.setCell tY (vv q))∧sj wr i8 uh i11 nY Row tY vv cs ty (xR D nY) g (w.setCell tY (vv q)):=by
 refine ⟨⟨fun b e=>e,fun e=>e,fun q e=>e,by simp [World.setCell],fun k hk _=>aY _ _ _ rfl (by omega)⟩,fun e=>h.d8 (qQ e),fun e=>h.nV (qQ e),fun e=>h.Lb (qQ e),h.op,h.oh,fun e=>(by rw [hq] at e; cases e),fun e=>(by rw [hq] at e; cases e),fun b e=> ?_,fun q' _ e=>(IK e).elim,fun q' e _=> ?_⟩
 ·obtain ⟨k1,k2⟩:=h.row b e;exact ⟨k1,(aY _ _ _ rfl (by omega)).trans k2⟩
 ·rw [hq] at e; injection e with e; subst e;exact ⟨w,h.post q hq hD,rfl⟩
theorem sj.mk8 (h:sj wr i8 uh i11 nY Row tY vv cs ty D g w) (hD:D i8=false) (uf:nY≠i8):g.p=none∧Ag.le wr.heap.size g w {g with h:=true} w∧sj wr i8 uh i11 nY Row tY vv cs ty (xR D i8) {g with h:=true} w:=by
 have hp:=h.oh (h.d8 hD);have hs:=h.skip i8 uf;exact ⟨hp,⟨fun b e=>e,fun _=>rfl,fun q e=>e,Nat.le_refl _,fun _ _ _=>rfl⟩,fun e=>(IK e).elim,hs.nV,hs.Lb,hs.op,fun e=>(by cases e),hs.Qe,hs.pre,hs.row,hs.post,hs.fin⟩
end
def Yx (n:Nat) (q:Nat × Nat):Value:= .slice (some ⟨q.1,0,none⟩) n q.2
def ag1 (ty:TypeId) (m:Nat) (wr:World) (B:Nat) (own:Option Nat) (n:Nat) (xs:List Value) (q:Nat × Nat) (w5:World):Prop:=w5.ownsRow B ty m (Yx n q) n xs∧wr.grownBy w5 own∧(own=some q.1∨wr.heap.size<=q.1)
theorem sj.cell {wr w:World} {te:TypeId} {m:Nat} {i8 uh i11 nY B n:Nat} {own:Option Nat} {xs:List Value} {tY:Addr} {vv:Nat × Nat->Value} {cs:Array Value} {ty:TypeId} {D:Nat->Bool} {g:Ag} (h:sj wr i8 uh i11 nY (ag1 te m wr B own n xs) tY vv cs ty D g w) {b j:Nat} {u:Value} (hb:b < wr.heap.size) (hne:own≠some b) (ha:tY.block≠b) (hc:wr.cell? ⟨b,j,none⟩=some u):w.cell? ⟨b,j,none⟩=some u:=by
 cases hp:g.p with
 | none=>exact ((h.pre hp).cell hb).trans hc
 | some q=>
   cases hd:D nY with
   | false=>exact (World.cell?_of_block (a:=⟨b,j,none⟩) ((h.post q hp hd).2.1.block b hb (fun e=>hne e.symm))).trans hc
   | true=>obtain ⟨w5,h1,rfl⟩:=h.fin q hp hd;exact (World.cell?_of_block (a:=⟨b,j,none⟩) ((aY w5 tY (vv q) rfl ha).trans (h1.2.1.block b hb (fun e=>hne e.symm)))).trans hc
theorem JV {w w':World} {own:Option Nat} (h:Below w.heap.size w w'):w.grownBy w' own:=⟨h.os,h.tape,h.output,h.size,fun k hk _=>h.block k hk⟩
end Go.Proofs.YtgjmahnblcajbaaGreatDoor
