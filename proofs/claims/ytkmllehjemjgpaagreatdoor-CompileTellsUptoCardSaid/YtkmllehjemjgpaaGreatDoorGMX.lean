/- Small facts on new blocks and on the cells of a block, many at once. No program in sight. And what hangs on it. -/
import Derived.Test.YtkmllehjemjgpaaGreatDoorGMB
import Derived.Test.YtkmllehjemjgpaaGreatDoorGMA
set_option linter.unusedSimpArgs false
set_option linter.unusedVariables false
set_option maxHeartbeats 40000000
set_option maxRecDepth 1000000
namespace Go.Proofs.YtkmllehjemjgpaaGreatDoor
open Go.RowKit
open Md
section
variable {w W1:World} {cs ds:Array Value} {t u:TypeId} {b:Nat} {f:Nat×Nat} {x y z p q s x' y' z' p' q':Value} {r:List Value}
theorem Ct (h:w.alloc (.cells cs t)=W1): ∃nb,w.heap.size=nb∧aj (w.heap.size=nb)∧aj (Below nb w W1)∧aj (W1.heap[nb]? =some (.cells cs t (0,0)))∧aj (W1.heap.size=nb+1):=by
 subst h;exact⟨_,rfl,ah rfl,ah (ak _ _),ah (heap_alloc_new _ _),ah (by simp)⟩
theorem Uf (h:(w.alloc (.cells cs t)).alloc (.cells ds u)=W1): ∃nb,w.heap.size=nb∧aj (w.heap.size=nb)∧aj (Below nb w W1)∧aj (W1.heap[nb]? =some (.cells cs t (0,0)))∧aj (W1.heap[nb+1]? =some (.cells ds u (0,0)))∧aj (W1.heap.size=nb+2):=by
 subst h;have h2:=heap_alloc_new (w.alloc (.cells cs t)) (.cells ds u);exact⟨_,rfl,ah rfl,ah ((ak _ _).alloc (by simp) _),ah (by rw[heap_alloc_old _ _ (by simp)];exact heap_alloc_new _ _),ah (by simpa using h2),ah (by simp)⟩
theorem Cx (h:w.heap[b]? =some (.cells (x::y::r).toArray t f)):w.cell? ⟨b,0,none⟩=some x∧w.cell? ⟨b,1,none⟩=some y:=⟨au (j:=0) h rfl,au (j:=1) h rfl⟩
theorem Qz (h:w.heap[b]? =some (.cells (x::y::z::r).toArray t f)):w.cell? ⟨b,0,none⟩=some x∧w.cell? ⟨b,1,none⟩=some y∧w.cell? ⟨b,2,none⟩=some z:=⟨(Cx h).1,(Cx h).2,au (j:=2) h rfl⟩
theorem Zx (h:w.heap[b]? =some (.cells (x::y::z::p::q::r).toArray t f)):w.cell? ⟨b,0,none⟩=some x∧w.cell? ⟨b,1,none⟩=some y∧w.cell? ⟨b,2,none⟩=some z∧w.cell? ⟨b,3,none⟩=some p∧w.cell? ⟨b,4,none⟩=some q:=⟨(Qz h).1,(Qz h).2.1,(Qz h).2.2,au (j:=3) h rfl,au (j:=4) h rfl⟩
theorem vR (h:w.heap[b]? =some (.cells (x::y::z::p::q::s::r).toArray t f)):w.cell? ⟨b,0,none⟩=some x∧w.cell? ⟨b,1,none⟩=some y∧w.cell? ⟨b,2,none⟩=some z∧w.cell? ⟨b,3,none⟩=some p∧w.cell? ⟨b,4,none⟩=some q∧w.cell? ⟨b,5,none⟩=some s:=⟨(Qz h).1,(Qz h).2.1,(Qz h).2.2,au (j:=3) h rfl,au (j:=4) h rfl,au (j:=5) h rfl⟩
theorem fM {o:Nat} (h:b<w.heap.size) (hc:w.cell? ⟨b,o,none⟩=some x): ∀w',Below w.heap.size w w'->w'.cell? ⟨b,o,none⟩=some x:=λw' hb=>(hb.cell (p:=⟨b,o,none⟩) h).trans hc
theorem bl6 (h:b<w.heap.size) (h0:w.cell? ⟨b,0,none⟩=some x) (h1:w.cell? ⟨b,1,none⟩=some y) (h2:w.cell? ⟨b,2,none⟩=some z) (h3:w.cell? ⟨b,3,none⟩=some p) (h4:w.cell? ⟨b,4,none⟩=some q) (h5:w.cell? ⟨b,5,none⟩=some s):
 (∀w',Below w.heap.size w w'->w'.cell? ⟨b,0,none⟩=some x)∧(∀w',Below w.heap.size w w'->w'.cell? ⟨b,1,none⟩=some y)∧(∀w',Below w.heap.size w w'->w'.cell? ⟨b,2,none⟩=some z)∧(∀w',Below w.heap.size w w'->w'.cell? ⟨b,3,none⟩=some p)∧(∀w',Below w.heap.size w w'->w'.cell? ⟨b,4,none⟩=some q)∧(∀w',Below w.heap.size w w'->w'.cell? ⟨b,5,none⟩=some s):=
 ⟨fM h h0,fM h h1,fM h h2,fM h h3,fM h h4,fM h h5⟩
theorem yg (h:b<w.heap.size) (h0:w.cell? ⟨b,0,none⟩=some x) (h1:w.cell? ⟨b,1,none⟩=some y) (h2:w.cell? ⟨b,2,none⟩=some z) (h3:w.cell? ⟨b,3,none⟩=some p) (h4:w.cell? ⟨b,4,none⟩=some q) (h5:w.cell? ⟨b,5,none⟩=some s)
 (h6:w.cell? ⟨b,6,none⟩=some x') (h7:w.cell? ⟨b,7,none⟩=some y') (h8:w.cell? ⟨b,8,none⟩=some z') (h9:w.cell? ⟨b,9,none⟩=some p') (h10:w.cell? ⟨b,10,none⟩=some q'):
 (∀w',Below w.heap.size w w'->w'.cell? ⟨b,0,none⟩=some x)∧(∀w',Below w.heap.size w w'->w'.cell? ⟨b,1,none⟩=some y)∧(∀w',Below w.heap.size w w'->w'.cell? ⟨b,2,none⟩=some z)∧(∀w',Below w.heap.size w w'->w'.cell? ⟨b,3,none⟩=some p)∧(∀w',Below w.heap.size w w'->w'.cell? ⟨b,4,none⟩=some q)∧(∀w',Below w.heap.size w w'->w'.cell? ⟨b,5,none⟩=some s)∧
 (∀w',Below w.heap.size w w'->w'.cell? ⟨b,6,none⟩=some x')∧(∀w',Below w.heap.size w w'->w'.cell? ⟨b,7,none⟩=some y')∧(∀w',Below w.heap.size w w'->w'.cell? ⟨b,8,none⟩=some z')∧(∀w',Below w.heap.size w w'->w'.cell? ⟨b,9,none⟩=some p')∧(∀w',Below w.heap.size w w'->w'.cell? ⟨b,10,none⟩=some q'):=
 have h':=bl6 h h0 h1 h2 h3 h4 h5
 ⟨h'.1,h'.2.1,h'.2.2.1,h'.2.2.2.1,h'.2.2.2.2.1,h'.2.2.2.2.2,fM h h6,fM h h7,fM h h8,fM h h9,fM h h10⟩
end
abbrev RG (G:Type):=Value->G->World->Prop
section
variable {G:Type}
def gV (ents:List (Option Tmp×RG G)) (A:Act) (g:G) (w:World):List Edge->Prop
 | []=>True
 |e::r=>(if Region.binds .any e=true then(match ents[e.on]? with|some (d,R)=>R (dL A d) g w|none=>True)else True)∧gV ents A g w r
def lg (ents:List (Option Tmp×RG G)) (A:Act) (o:Oper):Bool:=
 match o.guard with
 |none=>true
 |some (g,b)=>match ents[g]? with
  |some (some d,_)=>match A.eval (.tmp d)with
   | .bool x=>x==b
   |_=>false
  |_=>false
def fu (C:G->World->Prop) (Le:G->World->G->World->Prop) (R:RG G) (A:Act) (dst:Option Tmp) (g:G) (w:World) (a':Act) (w':World):Prop:=
 ∃v g',a'=A.put dst v∧Le g w g' w'∧C g' w'∧R (if dst.isSome then v else undef) g' w'
theorem fu.mk {C:G->World->Prop} {Le:G->World->G->World->Prop} {R:RG G} {A:Act} {d:Tmp} {g g':G} {w w':World} {v:Value} (hle:Le g w g' w') (hC:C g' w') (hR:R v g' w'):fu C Le R A (some d) g w (A.put (some d) v) w':=⟨v,g',rfl,hle,hC,hR⟩
theorem fu.yQ {C:G->World->Prop} {Le:G->World->G->World->Prop} {R:RG G} {A:Act} {g g':G} {w w':World} {v:Value} (hle:Le g w g' w') (hC:C g' w') (hR:R undef g' w'):fu C Le R A none g w (A.put none v) w':=⟨v,g',rfl,hle,hC,hR⟩
def qJ (D:Nat->Bool) (i:Nat):Nat->Bool:=λk=>D k||k==i
def Nj (P:Program) (a0:Act) (Q:Exit->Act->World->Prop) (C:(Nat->Bool)->G->World->Prop) (Le:G->World->G->World->Prop) (dS:List Tmp) (ents:List (Option Tmp×RG G)) (o:Oper) (R:RG G) (i:Nat):Prop:=
 ∀D A g w,D i=false->C D g w->(∀s,dS.contains s=false->A.eval (.tmp s)=a0.eval (.tmp s))->gV ents A g w o.after.toList->
  if lg ents A o then o.wp P A w (fu (C (qJ D i)) Le R A o.dst g w) Q else(C (qJ D i) g w∧R undef g w)
def gN (c:Value):RG G:=λv _ _=>v=c
theorem gN.mk (c:Value) (g:G) (w:World):gN c c g w:=rfl
def J8 (g:G) (ents:List (Option Tmp×RG G)):List (Option Tmp×RP):=ents.map λx=>(x.1,λv w=>x.2 v g w)
def jh (P:Program) (a0:Act) (Q:Exit->Act->World->Prop) (C:(Nat->Bool)->G->World->Prop) (Le:G->World->G->World->Prop) (dS:List Tmp):List Oper->List (Option Tmp×RG G)->Prop
 | [],ents=> ∀D g w,(∀i,i<ents.length->D i=true)->C D g w->dA w (λa=>Q .normal a w) (J8 g ents) a0
 |o::rest,ents=> ∃R:RG G,(∀v g w g' w',Le g w g' w'->R v g w->R v g' w')∧Nj P a0 Q C Le dS ents o R ents.length∧jh P a0 Q C Le dS rest (ents++[(o.dst,R)])
variable {P:Program} {a0:Act} {Q:Exit->Act->World->Prop} {C:(Nat->Bool)->G->World->Prop} {Le:G->World->G->World->Prop} {dS:List Tmp}
theorem jh.full: ∀ {l:List Oper} {ents:List (Option Tmp×RG G)},jh P a0 Q C Le dS l ents->∃full:List (Option Tmp×RG G),full.length=ents.length+l.length∧full.take ents.length=ents∧
 (∀(i:Nat) (o:Oper),l[i]? =some o->∃R,full[ents.length+i]? =some (o.dst,R)∧(∀v g w g' w',Le g w g' w'->R v g w->R v g' w')∧Nj P a0 Q C Le dS (full.take (ents.length+i)) o R (ents.length+i))∧
 ∀D g w,(∀i,i<full.length->D i=true)->C D g w->dA w (λa=>Q .normal a w) (J8 g full) a0
 | [],ents,h=>⟨ents,by simp,by simp,by simp,h⟩
 |o::rest,ents,h=>by
  obtain⟨R,hm,ho,hr⟩:=h;obtain⟨full,h1,h2,h3,h4⟩:=jh.full hr;simp only[List.length_append,List.length_cons,List.length_nil,Nat.zero_add]at h1 h2 h3;have hlen:ents.length<full.length:=by omega
  have hget:full[ents.length]? =some (o.dst,R):=by have:=congrArg (λl=>l[ents.length]?) h2;simpa using this
  refine⟨full,by simp;omega,?_,?_,h4⟩
  ·have:=congrArg (List.take ents.length) h2;simpa[List.take_take]using this
  ·intro i o' hi;cases i with
   |zero=>simp only[List.getElem?_cons_zero,Option.some.injEq]at hi;subst hi;refine⟨R,by simpa using hget,hm,?_⟩;have:full.take (ents.length+0)=ents:=(by have:=congrArg (List.take ents.length) h2;simpa[List.take_take]using this);rw[this];exact ho
   |succ i=>have hi':rest[i]? =some o':=(by simpa using hi);have:=h3 i o' hi';rw[show ents.length+(i+1)=ents.length+1+i by omega];exact this
theorem jh.step {o:Oper} {rest:List Oper} {ents:List (Option Tmp×RG G)} {v:Value} (aJ:Nj P a0 Q C Le dS ents o (gN v) ents.length) (hrest:jh P a0 Q C Le dS rest (ents++[(o.dst,gN v)])):jh P a0 Q C Le dS (o::rest) ents:=
 ⟨gN v,λ_ _ _ _ _ _ h=>h,aJ,hrest⟩
theorem jh.some {o:Oper} {rest:List Oper} {ents:List (Option Tmp×RG G)} (R:RG G) (hmono: ∀v g w g' w',Le g w g' w'->R v g w->R v g' w') (aJ:Nj P a0 Q C Le dS ents o R ents.length) (hrest:jh P a0 Q C Le dS rest (ents++[(o.dst,R)])):jh P a0 Q C Le dS (o::rest) ents:=
 ⟨R,hmono,aJ,hrest⟩
theorem jh.done {ents:List (Option Tmp×RG G)} (h: ∀D g w,(∀i,i<ents.length->D i=true)->C D g w->dA w (λa=>Q .normal a w) (J8 g ents) a0):jh P a0 Q C Le dS [] ents:=h
theorem NQ {full:List (Option Tmp×RG G)} {A:Act} {g:G} {w:World} {i:Nat} : ∀ {l:List Edge},(∀e∈l,Region.binds .any e=true->∀(d:Option Tmp) (R:RG G),full[e.on]? =some (d,R)->R (dL A d) g w)->gV (full.take i) A g w l
 | [],_=>trivial
 |e::r,h=>by
  refine⟨?_,NQ λe' he'=>h e' (by simp[he'])⟩;split
  case isFalse=>trivial
  case isTrue hb=>
  cases hg:(full.take i)[e.on]? with
  |none=>trivial
  |some x=>
   obtain⟨d,R⟩:=x;rw[List.getElem?_take]at hg;split at hg
   ·exact h e (by simp) hb d R hg
   ·cases hg
def Jf (listed:Array Bool):Nat->Bool:=λi=>listed.getD i false
theorem ab8 {listed:Array Bool} {i:Nat} (hi:i<listed.size):Jf (listed.setIfInBounds i true)=qJ (Jf listed) i:=by
 funext k;unfold Jf qJ;by_cases hk:i=k
 ·subst hk;simp[hi]
 ·rw[getD_set_ne false hk];have:(k==i)=false:=by rw[beq_eq_false_iff_ne];exact λe=>hk e.symm
  rw[this,Bool.or_false]
def Zq (a0:Act) (C:(Nat->Bool)->G->World->Prop) (full:List (Option Tmp×RG G)) (n:Nat) (listed:Array Bool) (a:Act) (g:G) (w:World):Prop:=
 listed.size=n∧C (Jf listed) g w∧a.defers=a0.defers∧a.tmps.size=a0.tmps.size∧
 (∀s:Nat,(∀(i:Nat) (d:Tmp) (R:RG G),full[i]? =some (some d,R)->listed.getD i false=true->d≠s)->a.tmps[s]? =a0.tmps[s]?)∧
 ∀(i:Nat) (d:Option Tmp) (R:RG G),full[i]? =some (d,R)->listed.getD i false=true->R (dL a d) g w
theorem af5 {ops:Array Oper} {full:List (Option Tmp×RG G)} {o:Oper} {A:Act} {i:Nat} (hf: ∀(k:Nat) (ok:Oper),ops[k]? =some ok->∃R,full[k]? =some (ok.dst,R)) (hlen:full.length=ops.size)
 (hg: ∀g b,o.guard=some (g,b)->g<i):Region.wanted o (yielded ops A.tmps)=lg (full.take i) A o:=by
 unfold Region.wanted lg;cases ho:o.guard with
 |none=>rfl
 |some x=>
  obtain⟨g,b⟩:=x;have hgi:=hg g b ho;simp only;rw[List.getElem?_take,if_pos hgi];unfold yielded;cases hk:ops[g]? with
  |none=>have:full[g]? =none:=List.getElem?_eq_none (by rw[hlen];exact Array.getElem?_eq_none_iff.1 hk);rw[this];rfl
  |some ok=>
   obtain⟨R,hR⟩:=hf g ok hk;rw[hR];simp only[Option.bind_some];cases hd:ok.dst with
   |none=>rfl
   |some d=>
    simp only[Option.bind_some,Act.eval];cases ht:A.tmps[d]? with
    |none=>simp[ht,undef]
    |some v=>simp only[Array.getD_eq_getD_getElem?,ht,Option.getD_some];cases v <;> first|rfl|(rename_i x;cases x <;> cases b <;> rfl)
theorem Wt {l:List Oper} {full:List (Option Tmp×RG G)} (CG: ∀g w,Le g w g w) (hbd: ∀d∈dS,d<a0.tmps.size) (hlen:full.length=l.length) (hnd:(l.filterMap (·.dst)).Nodup) (rW:l.filterMap (·.dst)=dS)
 (hed: ∀(i:Nat) (o:Oper),l[i]? =some o->∀d∈nH o,d<i) (hgu: ∀(i:Nat) (o:Oper),l[i]? =some o->∀g b,o.guard=some (g,b)->g<i)
 (hf: ∀(i:Nat) (o:Oper),l[i]? =some o->∃R,full[i]? =some (o.dst,R)∧(∀v g w g' w',Le g w g' w'->R v g w->R v g' w')∧Nj P a0 Q C Le dS (full.take i) o R i)
 (hend: ∀D g w,(∀i,i<full.length->D i=true)->C D g w->dA w (λa=>Q .normal a w) (J8 g full) a0):
 ∀(fuel:Nat) (listed:Array Bool) (a:Act) (g:G) (w:World),cnt listed l.length<=fuel->Zq a0 C full l.length listed a g w->wpAny P .any l.toArray Q fuel listed a w:=by
 have hmono: ∀(i:Nat) (d:Option Tmp) (R:RG G),full[i]? =some (d,R)->∀v g w g' w',Le g w g' w'->R v g w->R v g' w':=λi d R hi=>by
  have hlt:i<l.length:=by rw[<- hlen];exact(List.getElem?_eq_some_iff.1 hi).1
  obtain⟨R',h1,h2,-⟩:=hf i l[i] (List.getElem?_eq_getElem hlt);rw[hi]at h1;simp only[Option.some.injEq,Prod.mk.injEq]at h1;rw[h1.2];exact h2
 have hdst: ∀(i:Nat) (d:Option Tmp) (R:RG G),full[i]? =some (d,R)->∃o,l[i]? =some o∧o.dst=d:=λi d R hi=>by
  have hlt:i<l.length:=by rw[<- hlen];exact(List.getElem?_eq_some_iff.1 hi).1
  obtain⟨R',h1,-⟩:=hf i l[i] (List.getElem?_eq_getElem hlt);rw[hi]at h1;simp only[Option.some.injEq,Prod.mk.injEq]at h1;exact⟨l[i],List.getElem?_eq_getElem hlt,h1.1.symm⟩
 have hall: ∀listed a g w,Zq a0 C full l.length listed a g w->(∀i,i<l.length->listed.getD i false=true)->Q .normal a w:=λlisted a g w hI ha=>by
  obtain⟨hsz0,hC,hd,hz,hs,hR⟩:=hI;refine(hend (Jf listed) g w (λi hi=>ha i (by rw[<- hlen];exact hi)) hC).use (a':=a) (λi d R hi=> ?_) hd hz (λs hne=>hs s (λi d R hi _=>hne i d (λv w=>R v g w) (by unfold J8;rw[List.getElem?_map,hi];rfl)));unfold J8 at hi;rw[List.getElem?_map]at hi;cases hq:full[i]? with
  |none=>rw[hq]at hi;cases hi
  |some x=>obtain⟨d',R'⟩:=x;rw[hq]at hi;simp only[Option.map_some,Option.some.injEq,Prod.mk.injEq]at hi;obtain⟨rfl,rfl⟩:=hi;refine hR i d' R' hq (ha i ?_);rw[<- hlen];exact(List.getElem?_eq_some_iff.1 hq).1
 have Fb: ∀listed:Array Bool,listed.size=l.length->Region.ready .any l.toArray listed=[]->∀i,i<l.length->listed.getD i false=true:=λlisted hsz hr i=>by
  induction i using Nat.strongRecOn with
  |_ i ih=>
   intro hi;cases hg:listed.getD i false with
   |true=>rfl
   |false=>exfalso;have:i∈Region.ready .any l.toArray listed:=mem_ready.2 ⟨by have h1:i<listed.size:=(by omega);simp[h1]at hg⊢;exact hg,l[i],by simp[hi],λe he hb=>ih e.on (hed i l[i] (List.getElem?_eq_getElem hi) e.on (yP he hb)) (by have:=hed i l[i] (List.getElem?_eq_getElem hi) e.on (yP he hb);omega)⟩;rw[hr]at this;cases this
 intro fuel
 induction fuel with
 |zero=>
  intro listed a g w hc hI;have ha:=Di (Nat.le_zero.1 hc);refine⟨?_,hall listed a g w hI ha⟩;rw[List.eq_nil_iff_forall_not_mem];intro i hi;obtain⟨h0,o,ho,-⟩:=mem_ready.1 hi;have hlt:i<l.length:=by simpa using(Array.getElem?_eq_some_iff.1 ho).1
  have:=ha i hlt;have h1:i<listed.size:=by rw[hI.1];exact hlt
  simp[h1]at h0 this;rw[h0]at this;cases this
 |succ fuel ih=>
  intro listed a g w hc hI;refine⟨λhr=>hall listed a g w hI (Fb listed hI.1 hr),λi hi=> ?_⟩;obtain⟨h0,o,ho,BU⟩:=mem_ready.1 hi;have hlt:i<l.length:=by simpa using(Array.getElem?_eq_some_iff.1 ho).1
  have hlo:l[i]? =some o:=by simpa using ho
  have hls:i<listed.size:=by rw[hI.1];exact hlt
  have hun:listed.getD i false=false:=by simp[hls]at h0⊢;exact h0
  obtain⟨R,GN,hRm,V6⟩:=hf i o hlo;obtain⟨hsz,hC,hd,hz,hs,hR⟩:=hI;have hW:=af5 (A:=a) (o:=o) (i:=i) (ops:=l.toArray) (full:=full) (λk ok hk=>by obtain⟨R',h1,-⟩:=hf k ok (by simpa using hk);exact⟨R',h1⟩) (by simpa using hlen) (hgu i o hlo);have hstep:=V6 (Jf listed) a g w hun hC (λs hs'=>by have:a.tmps[s]? =a0.tmps[s]?:=hs s (λk d R' hk _ e=>by obtain⟨ok,hok,hdk⟩:=hdst k (some d) R' hk;have:d∈dS:=(by rw[<- rW];exact List.mem_filterMap.2 ⟨ok,List.mem_of_getElem? hok,hdk⟩);rw[e]at this;simp at hs';exact hs' this);simp[Act.eval,this]) (NQ (λe he hb d R' hR'=>hR e.on d R' hR' (BU e (by simpa using he) hb)));have hnext: ∀(v:Value) (g':G) (w':World),Le g w g' w'->C (qJ (Jf listed) i) g' w'->R (dL (a.put o.dst v) o.dst) g' w'->wpAny P .any l.toArray Q fuel (listed.setIfInBounds i true) (a.put o.dst v) w':=λv g' w' hle hC' hv=>by
   refine ih _ _ g' _ ?_ ⟨by simp[hsz],by rw[ab8 hls];exact hC',?_,?_,?_,?_⟩
   ·have:=FY hls hun l.length;rw[if_pos hlt]at this;omega
   ·cases o.dst <;> simpa[Act.put]using hd
   ·cases o.dst <;> simpa[Act.put]using hz
   ·intro s hne;have h1:a.tmps[s]? =a0.tmps[s]?:=hs s (λk d R' hk hl=>hne k d R' hk (getD_set_true hl));cases hod:o.dst with
    |none=>simpa[Act.put]using h1
    |some d=>have hds:d≠s:=hne i d R (by rw[GN,hod]) (by simp[hls]);simp only[Act.put];rw[Array.getElem?_setIfInBounds_ne hds];exact h1
   ·intro k d R' hk hl;by_cases hik:i=k
    ·subst hik;rw[GN]at hk;simp only[Option.some.injEq,Prod.mk.injEq]at hk;obtain⟨rfl,rfl⟩:=hk;exact hv
    ·have hl':listed.getD k false=true:=(by rwa [getD_set_ne false hik]at hl);have h1:=hmono k d R' hk _ _ _ _ _ hle (hR k d R' hk hl');have:dL (a.put o.dst v) d=dL a d:=by
      cases hod:o.dst with
      |none=>rfl
      |some d1=>
       cases d with
       |none=>rfl
       |some d2=>
        have hne:d1≠d2:=λe=>by obtain⟨ok,hok,hdk⟩:=hdst k (some d2) R' hk;exact hik (BF hnd i k o ok d2 hlo hok (by rw[hod,e]) hdk)
        simp[dL,Act.eval,Act.put,Array.getElem?_setIfInBounds_ne hne]
     rw[this];exact h1
  unfold wpOp;simp only[ho];rw[hW];cases hgd:lg (full.take i) a o with
  |true=>
   rw[hgd]at hstep;simp only[if_true]at hstep⊢;refine Or.inl (Oper.wp_mono ?_ hstep);rintro a' w' ⟨v,g',rfl,hle,hC',hv⟩;refine hnext v g' w' hle hC' ?_;cases hod:o.dst with
   |none=>rw[hod]at hv;exact hv
   |some d=>rw[hod]at hv;simp only[Option.isSome_some,if_true]at hv;have hdl:d<a.tmps.size:=(by rw[hz];exact hbd d (by rw[<- rW];exact List.mem_filterMap.2 ⟨o,List.mem_of_getElem? hlo,hod⟩));simpa[dL,Act.eval,Act.put,hdl]using hv
  |false=>
   rw[hgd]at hstep;simp only[Bool.false_eq_true,if_false]at hstep⊢;refine hnext undef g w (CG g w) hstep.1 ?_;cases hod:o.dst with
   |none=>exact hstep.2
   |some d=>have hdl:d<a.tmps.size:=(by rw[hz];exact hbd d (by rw[<- rW];exact List.mem_filterMap.2 ⟨o,List.mem_of_getElem? hlo,hod⟩));simpa[dL,Act.eval,Act.put,hdl]using hstep.2
theorem xB {id:Nat} {l:List Oper} {w:World} (C:(Nat->Bool)->G->World->Prop) (Le:G->World->G->World->Prop) (dS:List Tmp) (g0:G) (hm:P.follows .mixedOrders=true) (hB:(l.filterMap (·.dst)==dS&&G7 l)=true) (CG: ∀g w,Le g w g w) (hbd:(dS.all λd=>decide (d<a0.tmps.size))=true) (hC:C (λ_=>false) g0 (w.drewN 1))
 (h:jh P a0 Q C Le dS l []):(Code.region id l.toArray true).wp P Q a0 w:=by
 unfold G7 at hB;simp only[Bool.and_eq_true,beq_iff_eq,decide_eq_true_eq]at hB;obtain⟨rW,hnd,hz⟩:=hB;obtain⟨full,h1,-,h3,h4⟩:=h.full;simp only[List.length_nil,Nat.zero_add]at h1 h3;have hed: ∀(i:Nat) (o:Oper),l[i]? =some o->(∀d∈nH o,d<i)∧∀g b,o.guard=some (g,b)->g<i:=λi o hi=>by have:=wE hz i o hi;simp only[Bool.and_eq_true,List.all_eq_true,decide_eq_true_eq]at this;refine⟨this.1,λg b hg=> ?_⟩;have h2:=this.2;rw[hg]at h2;simpa using h2
 refine wp_region_any hm ?_;have hdr:({w with drawn:=w.drawn+1} :World)=w.drewN 1:=rfl;rw[hdr];have hD:Jf (Array.replicate l.toArray.size false)=λ_=>false:=by funext k;unfold Jf;rw[Array.getD_eq_getD_getElem?];by_cases hk:k<l.length <;> simp[hk]
 refine Wt CG (λd hd=>by rw[List.all_eq_true]at hbd;simpa using hbd d hd) h1 hnd rW (λi o hi=>(hed i o hi).1) (λi o hi=>(hed i o hi).2) h3 h4 _ _ _ g0 _ ?_ ⟨by simp,by rw[hD];exact hC,rfl,rfl,λ_ _=>rfl,λi d R _ hl=> ?_⟩
 ·have: ∀n,cnt (Array.replicate l.toArray.size false) n<=n:=λn=>by
   induction n with
   |zero=>simp[cnt]
   |succ n ih=>simp only[cnt];split <;> omega
  simpa using this l.length
 ·exfalso;rw[Array.getD_eq_getD_getElem?]at hl;by_cases hi:i<l.length
  ·simp[hi]at hl
  ·rw[Array.getElem?_eq_none (by simpa using hi)]at hl;cases hl
end
theorem jB {w:World} {K:Act->Prop} {a:Act} (h:K a):dA w K [] a:=h
structure Ag where
 o:Option Nat
 h:Bool
 p:Option (Nat×Nat)
def Ag.le (n0:Nat) (g:Ag) (w:World) (g':Ag) (w':World):Prop:=(∀b,g.o=some b->g'.o=some b)∧(g.h=true->g'.h=true)∧(∀q,g.p=some q->g'.p=some q)∧w.heap.size<=w'.heap.size∧∀k,n0<=k->k<w.heap.size->w'.heap[k]? =w.heap[k]?
theorem Ag.le_refl (n0:Nat) (g:Ag) (w:World):Ag.le n0 g w g w:=⟨λ_ h=>h,λh=>h,λ_ h=>h,Nat.le_refl _,λ_ _ _=>rfl⟩
theorem sP {D:Nat->Bool} {i k:Nat} (h:qJ D i k=false):D k=false:=by
 unfold qJ at h;rw[Bool.or_eq_false_iff]at h;exact h.1
theorem Jm {D:Nat->Bool} {i:Nat} (h:qJ D i i=false):False:=by
 unfold qJ at h;simp at h
theorem NT {D:Nat->Bool} {i k:Nat} (hn:k≠i) (h:qJ D i k=true):D k=true:=by
 unfold qJ at h;rw[Bool.or_eq_true]at h;rcases h with h|h
 ·exact h
 ·exact absurd (by simpa using h) hn
structure sw (wr:World) (i8 vX i11 qB:Nat) (Row:Nat×Nat->World->Prop) (vO:Addr) (vv:Nat×Nat->Value) (cs:Array Value) (ty:TypeId) (D:Nat->Bool) (g:Ag) (w:World):Prop where
 d8:D i8=false->g.h=false
 qH:D vX=false->g.o=none
 rU:D i11=false->g.p=none
 op:g.o=none->g.p=none
 oh:g.h=false->g.p=none
 uO:g.p=none->D qB=false
 pre:g.p=none->Below wr.heap.size wr w
 row: ∀b,g.o=some b->wr.heap.size<=b∧w.heap[b]? =some (.cells cs ty (0,0))
 post: ∀q,g.p=some q->D qB=false->Row q w
 fin: ∀q,g.p=some q->D qB=true->∃w5,Row q w5∧w=w5.setCell vO (vv q)
section
variable {wr w w':World} {i8 vX i11 qB:Nat} {Row:Nat×Nat->World->Prop} {vO:Addr} {vv:Nat×Nat->Value} {cs:Array Value} {ty:TypeId} {D:Nat->Bool} {g:Ag}
theorem sw.start:sw wr i8 vX i11 qB Row vO vv cs ty (λ_=>false) ⟨none,false,none⟩ (wr.drewN 1):=
 ⟨λ_=>rfl,λ_=>rfl,λ_=>rfl,λ_=>rfl,λ_=>rfl,λ_=>rfl,λ_=>below_drewN (Below.refl _ _) 1,(λ_ h=>(by cases h)),(λ_ h=>(by cases h)),(λ_ h=>(by cases h))⟩
theorem sw.skip (h:sw wr i8 vX i11 qB Row vO vv cs ty D g w) (i:Nat) (um:qB≠i):sw wr i8 vX i11 qB Row vO vv cs ty (qJ D i) g w:=
 ⟨λe=>h.d8 (sP e),λe=>h.qH (sP e),λe=>h.rU (sP e),h.op,h.oh,λe=>(by
  cases hq:qJ D i qB
  ·rfl
  ·have:=NT um hq;rw[h.uO e]at this;cases this),h.pre,h.row,λq hq e=>h.post q hq (sP e),λq hq e=>h.fin q hq (NT um e)⟩
theorem sw.ax5 (h:sw wr i8 vX i11 qB Row vO vv cs ty D g w) (hD:D vX=false) (um:qB≠vX):Ag.le wr.heap.size g w {g with o:=some w.heap.size} (w.alloc (.cells cs ty))∧sw wr i8 vX i11 qB Row vO vv cs ty (qJ D vX) {g with o:=some w.heap.size} (w.alloc (.cells cs ty)):=by
 have h0:=h.qH hD;have hp:=h.op h0;refine⟨⟨λb e=>(by rw[h0]at e;cases e),λe=>e,λq e=>e,(ak _ _).size,λk _ hk=>(ak _ _).block k hk⟩,λe=>h.d8 (sP e),λe=>(Jm e).elim,λe=>h.rU (sP e),λe=>(by cases e),h.oh,λe=>(h.skip vX um).uO e,λe=>(h.pre e).trans ((ak _ _).mono (h.pre e).size),λb e=> ?_,λq e=> ?_,λq e=> ?_⟩
 ·injection e with e;subst e;exact⟨(h.pre hp).size,heap_alloc_new _ _⟩
 ·rw[show g.p=some q from e]at hp;cases hp
 ·rw[show g.p=some q from e]at hp;cases hp
theorem sw.ax6 {q:Nat×Nat} (h:sw wr i8 vX i11 qB Row vO vv cs ty D g w) (hD:D i11=false) (um:qB≠i11) {b:Nat} (hb:g.o=some b) (hh:g.h=true) (hr:Row q w') (hs:w.heap.size<=w'.heap.size) (hk: ∀k,wr.heap.size<=k->k<w.heap.size->w'.heap[k]? =w.heap[k]?):Ag.le wr.heap.size g w {g with p:=some q} w'∧sw wr i8 vX i11 qB Row vO vv cs ty (qJ D i11) {g with p:=some q} w':=by
 have h0:=h.rU hD;refine⟨⟨λb e=>e,λe=>e,λq' e=>(by rw[h0]at e;cases e),hs,hk⟩,λe=>h.d8 (sP e),λe=>h.qH (sP e),λe=>(Jm e).elim,λe=> ?_,λe=> ?_,λe=>(by cases e),λe=>(by cases e),λb' e=> ?_,λq' e _=>(by injection e with e;subst e;exact hr),λq' e e2=> ?_⟩
 ·rw[show g.o=none from e]at hb;cases hb
 ·rw[show g.h=false from e]at hh;cases hh
 ·obtain⟨h1,h2⟩:=h.row b' e;exact⟨h1,(hk b' h1 (Array.getElem?_eq_some_iff.1 h2).1).trans h2⟩
 ·have:=NT um e2;rw[h.uO h0]at this;cases this
theorem sw.ax7 {q:Nat×Nat} (h:sw wr i8 vX i11 qB Row vO vv cs ty D g w) (hD:D qB=false) (hq:g.p=some q) (ha:vO.block<wr.heap.size) (h1:vX≠qB) (h2:i11≠qB):Ag.le wr.heap.size g w g (w.setCell vO (vv q))∧sw wr i8 vX i11 qB Row vO vv cs ty (qJ D qB) g (w.setCell vO (vv q)):=by
 refine⟨⟨λb e=>e,λe=>e,λq e=>e,by simp[World.setCell],λk hk _=>bY _ _ _ rfl (by omega)⟩,λe=>h.d8 (sP e),λe=>h.qH (sP e),λe=>h.rU (sP e),h.op,h.oh,λe=>(by rw[hq]at e;cases e),λe=>(by rw[hq]at e;cases e),λb e=> ?_,λq' _ e=>(Jm e).elim,λq' e _=> ?_⟩
 ·obtain⟨k1,k2⟩:=h.row b e;exact⟨k1,(bY _ _ _ rfl (by omega)).trans k2⟩
 ·rw[hq]at e;injection e with e;subst e;exact⟨w,h.post q hq hD,rfl⟩
theorem sw.ZR (h:sw wr i8 vX i11 qB Row vO vv cs ty D g w) (hD:D i8=false) (um:qB≠i8):g.p=none∧Ag.le wr.heap.size g w {g with h:=true} w∧sw wr i8 vX i11 qB Row vO vv cs ty (qJ D i8) {g with h:=true} w:=by
 have hp:=h.oh (h.d8 hD);have hs:=h.skip i8 um;exact⟨hp,⟨λb e=>e,λ_=>rfl,λq e=>e,Nat.le_refl _,λ_ _ _=>rfl⟩,λe=>(Jm e).elim,hs.qH,hs.rU,hs.op,λe=>(by cases e),hs.uO,hs.pre,hs.row,hs.post,hs.fin⟩
end
def O7 (n:Nat) (q:Nat×Nat):Value:= .slice (some ⟨q.1,0,none⟩) n q.2
def Xk (ty:TypeId) (m:Nat) (wr:World) (B:Nat) (own:Option Nat) (n:Nat) (xs:List Value) (q:Nat×Nat) (w5:World):Prop:=w5.ownsRow B ty m (O7 n q) n xs∧wr.grownBy w5 own∧(own=some q.1∨wr.heap.size<=q.1)
theorem sw.cell {wr w:World} {te:TypeId} {m:Nat} {i8 vX i11 qB B n:Nat} {own:Option Nat} {xs:List Value} {vO:Addr} {vv:Nat×Nat->Value} {cs:Array Value} {ty:TypeId} {D:Nat->Bool} {g:Ag} (h:sw wr i8 vX i11 qB (Xk te m wr B own n xs) vO vv cs ty D g w) {b j:Nat} {u:Value} (hb:b<wr.heap.size) (hne:own≠some b) (ha:vO.block≠b) (hc:wr.cell? ⟨b,j,none⟩=some u):w.cell? ⟨b,j,none⟩=some u:=by
 cases hp:g.p with
 |none=>exact((h.pre hp).cell hb).trans hc
 |some q=>
  cases hd:D qB with
  |false=>exact(World.cell?_of_block (a:=⟨b,j,none⟩) ((h.post q hp hd).2.1.block b hb (λe=>hne e.symm))).trans hc
  |true=>obtain⟨w5,h1,rfl⟩:=h.fin q hp hd;exact(World.cell?_of_block (a:=⟨b,j,none⟩) ((bY w5 vO (vv q) rfl ha).trans (h1.2.1.block b hb (λe=>hne e.symm)))).trans hc
theorem CF {w w':World} {own:Option Nat} (h:Below w.heap.size w w'):w.grownBy w' own:=⟨h.os,h.tape,h.output,h.size,λk hk _=>h.block k hk⟩
theorem Xn {w:World} {K:Act->Prop} {a:Act} (h:K a):dA w K [] a:=h
structure Gb where
 o8:Option Nat
 o9:Option Nat
 s8:Bool
 s9:Bool
def Gb.le (g g':Gb):Prop:=(∀b,g.o8=some b->g'.o8=some b)∧(∀b,g.o9=some b->g'.o9=some b)∧(g.s8=true->g'.s8=true)∧(g.s9=true->g'.s9=true)
theorem Gb.le_refl (g:Gb):g.le g:=⟨λ_ h=>h,λ_ h=>h,λh=>h,λh=>h⟩
structure qW (wr:World) (n:Nat) (Z X Y:Array Value) (ty:TypeId) (D:Nat->Bool) (g:Gb) (w:World):Prop where
 bl:Below wr.heap.size wr w
 d8:D n=false->g.o8=none
 d9:D (n+1)=false->g.o9=none
 e8:D (n+2)=false->g.s8=false
 e9:D (n+3)=false->g.s9=false
 f8:g.o8=none->g.s8=false
 f9:g.o9=none->g.s9=false
 b8: ∀b,g.o8=some b->wr.heap.size<=b∧w.heap[b]? =some (.cells (if g.s8 then X else Z) ty (0,0))
 b9: ∀b,g.o9=some b->wr.heap.size<=b∧w.heap[b]? =some (.cells (if g.s9 then Y else Z) ty (0,0))
 ne: ∀b b',g.o8=some b->g.o9=some b'->b≠b'
section
variable {wr w:World} {n:Nat} {Z X Y:Array Value} {ty:TypeId} {D:Nat->Bool} {g:Gb}
theorem rZ {D:Nat->Bool} {i k:Nat} (h:qJ D i k=false):D k=false:=by
 unfold qJ at h;rw[Bool.or_eq_false_iff]at h;exact h.1
theorem Mf {D:Nat->Bool} {i:Nat} (h:qJ D i i=false):False:=by
 unfold qJ at h;simp at h
theorem qW.start:qW wr n Z X Y ty (λ_=>false) ⟨none,none,false,false⟩ (wr.drewN 1):=
 ⟨below_drewN (Below.refl _ _) 1,λ_=>rfl,λ_=>rfl,λ_=>rfl,λ_=>rfl,λ_=>rfl,λ_=>rfl,(λb h=>by cases h),(λb h=>by cases h),(λb b' h _=>by cases h)⟩
theorem qW.skip (h:qW wr n Z X Y ty D g w) (i:Nat):qW wr n Z X Y ty (qJ D i) g w:=
 ⟨h.bl,λe=>h.d8 (rZ e),λe=>h.d9 (rZ e),λe=>h.e8 (rZ e),λe=>h.e9 (rZ e),h.f8,h.f9,h.b8,h.b9,h.ne⟩
theorem qW.ZR (h:qW wr n Z X Y ty D g w) (hD:D n=false):Gb.le g {g with o8:=some w.heap.size} ∧qW wr n Z X Y ty (qJ D n) {g with o8:=some w.heap.size} (w.alloc (.cells Z ty)):=by
 have h0:=h.d8 hD;have hs:=h.f8 h0;have hb:=ak w (.cells Z ty);refine⟨⟨(λb e=>by rw[h0]at e;cases e),λ_ e=>e,λe=>e,λe=>e⟩,h.bl.trans (hb.mono h.bl.size),λe=>(Mf e).elim,λe=>h.d9 (rZ e),λe=>hs,λe=>h.e9 (rZ e),λ_=>hs,h.f9,λb e=> ?_,λb e=> ?_,λb b' e e'=> ?_⟩
 ·injection e with e;subst e;exact⟨h.bl.size,by rw[hs];exact heap_alloc_new _ _⟩
 ·obtain⟨h1,h2⟩:=h.b9 b e;exact⟨h1,(heap_alloc_old _ _ (Array.getElem?_eq_some_iff.1 h2).1).trans h2⟩
 ·injection e with e;subst e;have:=(Array.getElem?_eq_some_iff.1 (h.b9 b' e').2).1;omega
theorem qW.mk9 (h:qW wr n Z X Y ty D g w) (hD:D (n+1)=false):Gb.le g {g with o9:=some w.heap.size} ∧qW wr n Z X Y ty (qJ D (n+1)) {g with o9:=some w.heap.size} (w.alloc (.cells Z ty)):=by
 have h0:=h.d9 hD;have hs:=h.f9 h0;have hb:=ak w (.cells Z ty);refine⟨⟨λ_ e=>e,(λb e=>by rw[h0]at e;cases e),λe=>e,λe=>e⟩,h.bl.trans (hb.mono h.bl.size),λe=>h.d8 (rZ e),λe=>(Mf e).elim,λe=>h.e8 (rZ e),λe=>hs,h.f8,λ_=>hs,λb e=> ?_,λb e=> ?_,λb b' e e'=> ?_⟩
 ·obtain⟨h1,h2⟩:=h.b8 b e;exact⟨h1,(heap_alloc_old _ _ (Array.getElem?_eq_some_iff.1 h2).1).trans h2⟩
 ·injection e with e;subst e;exact⟨h.bl.size,by rw[hs];exact heap_alloc_new _ _⟩
 ·injection e' with e';subst e';have:=(Array.getElem?_eq_some_iff.1 (h.b8 b e).2).1;omega
theorem xg {w:World} {b k:Nat} {vs:List Value} (hk:k≠b) (hl:k<w.heap.size):(w.setCells b 0 vs).heap[k]? =w.heap[k]?:=
 (bU b vs 0 w).block k hl (by simp;exact hk)
theorem qW.st8 (h:qW wr n Z X Y ty D g w) (hD:D (n+2)=false) {b:Nat} (hb:g.o8=some b) (hX:X.size=Z.size):Gb.le g {g with s8:=true} ∧qW wr n Z X Y ty (qJ D (n+2)) {g with s8:=true} (w.setCells b 0 X.toList):=by
 obtain⟨h1,h2⟩:=h.b8 b hb;rw[h.e8 hD]at h2;have hg:=bU b X.toList 0 w;refine⟨⟨λ_ e=>e,λ_ e=>e,λ_=>rfl,λe=>e⟩,?_,λe=>h.d8 (rZ e),λe=>h.d9 (rZ e),λe=>(Mf e).elim,λe=>h.e9 (rZ e),(λe=>by rw[hb]at e;cases e),h.f9,λb' e=> ?_,λb' e=> ?_,h.ne⟩
 ·exact⟨hg.os.trans h.bl.os,hg.tape.trans h.bl.tape,hg.output.trans h.bl.output,Nat.le_trans h.bl.size hg.size,λk hk=>(xg (by omega) (Nat.lt_of_lt_of_le hk h.bl.size)).trans (h.bl.block k hk)⟩
 ·have e':b=b':=by rw[hb]at e;injection e
  subst e';exact⟨h1,(iE h2 (by simp[hX])).trans (by simp)⟩
 ·obtain⟨h3,h4⟩:=h.b9 b' e;exact⟨h3,(xg (λe2=>h.ne b b' hb e e2.symm) (Array.getElem?_eq_some_iff.1 h4).1).trans h4⟩
theorem qW.st9 (h:qW wr n Z X Y ty D g w) (hD:D (n+3)=false) {b:Nat} (hb:g.o9=some b) (hY:Y.size=Z.size):Gb.le g {g with s9:=true} ∧qW wr n Z X Y ty (qJ D (n+3)) {g with s9:=true} (w.setCells b 0 Y.toList):=by
 obtain⟨h1,h2⟩:=h.b9 b hb;rw[h.e9 hD]at h2;have hg:=bU b Y.toList 0 w;refine⟨⟨λ_ e=>e,λ_ e=>e,λe=>e,λ_=>rfl⟩,?_,λe=>h.d8 (rZ e),λe=>h.d9 (rZ e),λe=>h.e8 (rZ e),λe=>(Mf e).elim,h.f8,(λe=>by rw[hb]at e;cases e),λb' e=> ?_,λb' e=> ?_,h.ne⟩
 ·exact⟨hg.os.trans h.bl.os,hg.tape.trans h.bl.tape,hg.output.trans h.bl.output,Nat.le_trans h.bl.size hg.size,λk hk=>(xg (by omega) (Nat.lt_of_lt_of_le hk h.bl.size)).trans (h.bl.block k hk)⟩
 ·obtain⟨h3,h4⟩:=h.b8 b' e;exact⟨h3,(xg (λe2=>h.ne b' b e hb e2) (Array.getElem?_eq_some_iff.1 h4).1).trans h4⟩
 ·have e':b=b':=by rw[hb]at e;injection e
  subst e';exact⟨h1,(iE h2 (by simp[hY])).trans (by simp)⟩
theorem qW.aA5 (h:qW wr n Z X Y ty D g w) (hD:D (n+2)=false) {b m:Nat} (hb:g.o8=some b) (hm:m<=Z.size):w.there b 0 m:=by
 obtain⟨h1,h2⟩:=h.b8 b hb;rw[h.e8 hD]at h2;exact CS h2 hm
theorem qW.aA6 (h:qW wr n Z X Y ty D g w) (hD:D (n+3)=false) {b m:Nat} (hb:g.o9=some b) (hm:m<=Z.size):w.there b 0 m:=by
 obtain⟨h1,h2⟩:=h.b9 b hb;rw[h.e9 hD]at h2;exact CS h2 hm
theorem qW.two (h:qW wr n Z X Y ty D g w) {b b':Nat} (h8:g.o8=some b) (h9:g.o9=some b') (hs:g.s8=true) (hs':g.s9=true):
 Below wr.heap.size wr w∧wr.heap.size<=b∧wr.heap.size<=b'∧b≠b'∧w.heap[b]? =some (.cells X ty (0,0))∧w.heap[b']? =some (.cells Y ty (0,0)):=by
 obtain⟨h1,h2⟩:=h.b8 b h8;obtain⟨h3,h4⟩:=h.b9 b' h9;rw[hs]at h2;rw[hs']at h4;exact⟨h.bl,h1,h3,h.ne b b' h8 h9,h2,h4⟩
end
end Go.Proofs.YtkmllehjemjgpaaGreatDoor
