/- Expressions as data, and what it is that a row of them lies in memory. No program in sight. And what hangs on it. -/
import Derived.Test.YtcjgfgkllmldpaaGreatDoorGA
set_option linter.unusedSimpArgs false
set_option linter.unusedVariables false
set_option maxHeartbeats 40000000
set_option maxRecDepth 1000000
namespace Go.Proofs.YtcjgfgkllmldpaaGreatDoor
open Go.RowKit
theorem fu (w:World) (cs:List Value) (t:TypeId) (j:Nat):(w.alloc (.cells cs.toArray t)).cell? ⟨w.heap.size,j,none⟩=cs[j]?:=Rj w cs t j
def xO (w W:World) (a b c d:Value):Prop:=
 Below w.heap.size w W∧w.heap.size<W.heap.size∧W.cell? ⟨w.heap.size,0,none⟩=some a∧W.cell? ⟨w.heap.size,1,none⟩=some b∧W.cell? ⟨w.heap.size,2,none⟩=some c∧W.cell? ⟨w.heap.size,3,none⟩=some d
theorem xO.mk {w W:World} {a b c d:Value} {t:TypeId} (h:w.alloc (.cells #[a,b,c,d] t)=W):xO w W a b c d:=by
 subst h;exact⟨(ak _ _).alloc (aD _) _,ahh,fu w [a,b,c,d] t 0,fu w [a,b,c,d] t 1,fu w [a,b,c,d] t 2,fu w [a,b,c,d] t 3⟩
theorem xO.next {w W W':World} {a b c d:Value} (h:xO w W a b c d) (hb:Below W.heap.size W W'):xO w W' a b c d:=by
 obtain⟨h0,hs,c0,c1,c2,c3⟩:=h;exact⟨h0.trans (hb.mono h0.size),aV hs hb.size,(hb.cell hs).trans c0,(hb.cell hs).trans c1,(hb.cell hs).trans c2,(hb.cell hs).trans c3⟩
theorem xO.draws {w W:World} {a b c d:Value} (h:xO w W a b c d) (n:Nat):xO w (W.drewN n) a b c d:=h.next (below_drewN (ak _ _) n)
namespace Md
def cO (n:Int):Prop:= -9223372036854775808<=n∧n<=9223372036854775807
inductive bV where
 |nil
 |cons (op n:Int) (nm:ByteArray) (kids rest:bV)
def bV.len:bV->Nat
 | .nil=>0
 | .cons _ _ _ _ r=>r.len+1
def qR (op n:Int) (nm:ByteArray) (kids:bV):Prop:=cO op∧cO n∧nm.size<=maxLen∧kids.len<=maxLen
def bV.At (w:World) (B:Nat):bV->Option Addr->Nat->Prop
 | .nil,_,_=>True
 | .cons op n nm kids rest,ao,k=>
   (∃b off mK cap,ao=some ⟨b,off,none⟩∧b<B∧w.cell? ⟨b,off+k*4,none⟩=some (.int .i64 op)∧w.cell? ⟨b,off+k*4+1,none⟩=some (.int .i64 n)∧
    w.cell? ⟨b,off+k*4+2,none⟩=some (.string nm)∧w.cell? ⟨b,off+k*4+3,none⟩=some (.slice mK kids.len cap)∧qR op n nm kids∧kids.At w B mK 0)∧
   rest.At w B ao (k+1)
theorem bV.At.below {w w':World} {B:Nat} (hb:Below B w w'): ∀ {l:bV} {ao:Option Addr} {k:Nat},l.At w B ao k->l.At w' B ao k
 | .nil,_,_,_=>trivial
 | .cons _ _ _ _ _,_,_,h=>by obtain⟨⟨b,off,mK,cap,e,hB,c0,c1,c2,c3,hok,hk⟩,hr⟩:=h;exact⟨⟨b,off,mK,cap,e,hB,(hb.cell hB).trans c0,(hb.cell hB).trans c1,(hb.cell hB).trans c2,(hb.cell hB).trans c3,hok,hk.below hb⟩,hr.below hb⟩
theorem bV.At.mono {w:World} {B B':Nat} (hB':B<=B'): ∀ {l:bV} {ao:Option Addr} {k:Nat},l.At w B ao k->l.At w B' ao k
 | .nil,_,_,_=>trivial
 | .cons _ _ _ _ _,_,_,h=>by obtain⟨⟨b,off,mK,cap,e,hB,c0,c1,c2,c3,hok,hk⟩,hr⟩:=h;exact⟨⟨b,off,mK,cap,e,aV hB hB',c0,c1,c2,c3,hok,hk.mono hB'⟩,hr.mono hB'⟩
theorem bV.At.same {w w':World} {l:bV} {ao:Option Addr} {k:Nat} (h:l.At w w.heap.size ao k) (hb:Below w.heap.size w w'):l.At w' w'.heap.size ao k:=
 (h.below hb).mono hb.size
def bV.All (Q:Int->Int->ByteArray->bV->Prop):bV->Prop
 | .nil=>True
 | .cons op n nm kids rest=>Q op n nm kids∧rest.All Q
theorem bV.qG {Q:Int->Int->ByteArray->bV->Prop} (step: ∀op n nm kids,kids.All Q->Q op n nm kids): ∀l:bV,l.All Q
 | .nil=>trivial
 | .cons op n nm kids rest=>⟨step op n nm kids (qG step kids),qG step rest⟩
theorem bV.BS {Q:Int->Int->ByteArray->bV->Prop} (step: ∀op n nm kids,kids.All Q->Q op n nm kids) (op n:Int) (nm:ByteArray) (kids:bV):Q op n nm kids:=
 step op n nm kids (bV.qG step kids)
def opsOf (op:Int):Int:=if op==1||op==2 then 0 else if op==3||op==4||op==5 then 1 else if decide (6<=op)&&decide (op<=18)then 2 else -1
def named (op:Int):Bool:=op==2||op==3
def lQ (nm:ByteArray) (b:Bool):Bool:=if b then Tk.ji nm.data.toList else nm.data.toList.isEmpty
def KQ (op n:Int) (nm:ByteArray) (len:Nat):Bool:=((len:Int)==opsOf op)&&(!(decide (n<0)||(!(n==0)&& !(op==1)))&&lQ nm (named op))
def nD:bV->Bool
 | .nil=>true
 | .cons op n nm kids rest=>(KQ op n nm kids.len&&nD kids)&&nD rest
def jZ (op n:Int) (nm:ByteArray) (kids:bV):Bool:=KQ op n nm kids.len&&nD kids
end Md
open Md
theorem kJ {P:Program} {f:FuncId} {args:Array Value} {w:World} {n:Nat} {v:Value} (h:Calls P f args (w.drewN n) λe w'=>e= .returned v∧w.drewN n=w'):
 Calls P f args (w.drewN n) λe w''=>e= .returned v∧∃m,w''=w.drewN m:=h.mono λ_ _ ⟨he,hm⟩=>⟨he,n,hm.symm⟩
theorem gX {P:Program} {id:Nat} {Q:Exit->Act->World->Prop} {a:Act} {w:World} {l:List Oper} {T:Type} (F:T->World) (hm:P.follows .mixedOrders=true) (hB:Region.lexB .any l.toArray=true)
 (h1: ∃x,w.drewN 1=F x) (h:wpQuiet P l.toArray (λw'=> ∃x,w'=F x) (λa'=> ∀w',(∃x,w'=F x)->Q .normal a' w') l a):(Code.region id l.toArray true).wp P Q a w:=
 wp_region_quiet (C:=λw'=> ∃x,w'=F x) hm hB h1 aiy
theorem calm (W:World): ∃(T:Type) (F:T->World),Nonempty T∧(∃x,W.drewN 1=F x)∧(∀x,Below W.heap.size W (F x))∧∀x w',Below (F x).heap.size (F x) w'->∃y,w'=F y:=
 ⟨{W' // Below W.heap.size W W'},Subtype.val,⟨⟨_,ak _ _⟩⟩,⟨⟨_,below_drewN (ak _ _) 1⟩,rfl⟩,λx=>x.2,λx w' hb=>⟨⟨w',x.2.trans (hb.mono x.2.size)⟩,rfl⟩⟩
section
abbrev RP:=Value->World->Prop
def gQ (a:Act):Option Tmp->Value
 |none=>undef
 |some d=>a.eval (.tmp d)
def Oc (ents:List (Option Tmp×RP)) (A:Act) (w:World):List Edge->Prop
 | []=>True
 |e::r=>(if Region.binds .any e=true then(match ents[e.on]? with|some (d,R)=>R (gQ A d) w|none=>True)else True)∧Oc ents A w r
def gd (ents:List (Option Tmp×RP)) (A:Act) (o:Oper):Bool:=
 match o.guard with
 |none=>true
 |some (g,b)=>match ents[g]? with
  |some (some d,_)=>match A.eval (.tmp d)with
   | .bool x=>x==b
   |_=>false
  |_=>false
def aZ (C:World->Prop) (Le:World->World->Prop) (R:RP) (A:Act) (dst:Option Tmp) (w:World) (a':Act) (w':World):Prop:=
 ∃v,a'=A.put dst v∧Le w w'∧C w'∧R (if dst.isSome then v else undef) w'
theorem aZ.mk {C:World->Prop} {Le:World->World->Prop} {R:RP} {A:Act} {d:Tmp} {w w':World} {v:Value} (hle:Le w w') (hC:C w') (hR:R v w'):aZ C Le R A (some d) w (A.put (some d) v) w':=⟨v,rfl,hle,hC,hR⟩
theorem aZ.EA {C:World->Prop} {Le:World->World->Prop} {R:RP} {A:Act} {w w':World} {v:Value} (hle:Le w w') (hC:C w') (hR:R undef w'):aZ C Le R A none w (A.put none v) w':=⟨v,rfl,hle,hC,hR⟩
def Obl (P:Program) (a0:Act) (Q:Exit->Act->World->Prop) (C:Bool->World->Prop) (Le:World->World->Prop) (fC:List Tmp) (ents:List (Option Tmp×RP)) (o:Oper) (R:RP) (isK:Bool):Prop:=
 ∀β A w,(isK=true->β=false)->C β w->(∀s,fC.contains s=false->A.eval (.tmp s)=a0.eval (.tmp s))->Oc ents A w o.after.toList->
  if gd ents A o then o.wp P A w (aZ (C (β||isK)) Le R A o.dst w) Q else(isK=false∧R undef w)
def dO (c:Value):RP:=λv _=>v=c
theorem dO.mono {c:Value} {Le:World->World->Prop} : ∀v w w',Le w w'->dO c v w->dO c v w':=λ_ _ _ _ h=>h
theorem dO.mk (c:Value) (w:World):dO c c w:=rfl
def eY (w:World) (K:Act->Prop):List (Option Tmp×RP)->Act->Prop
 | [],a=>K a
 |(d,R)::r,a=> ∀v,R v w->eY w K r (a.put d v)
theorem kZ {w:World} {K:Act->Prop} {a:Act} {d:Option Tmp} {x:Value} {r:List (Option Tmp×RP)} (h:eY w K r (a.put d x)):eY w K ((d,dO x)::r) a:=λv hv=>by
 rw[show v=x from hv];exact h
attribute [simp] Oc dO gQ Region.binds
def qP (P:Program) (a0:Act) (Q:Exit->Act->World->Prop) (C:Bool->World->Prop) (Le:World->World->Prop) (fC:List Tmp) (k0:Nat):List Oper->List (Option Tmp×RP)->Prop
 | [],ents=> ∀w,C (decide (k0<ents.length)) w->eY w (λa=>Q .normal a w) ents a0
 |o::rest,ents=> ∃R:RP,(∀v w w',Le w w'->R v w->R v w')∧Obl P a0 Q C Le fC ents o R (decide (ents.length=k0))∧qP P a0 Q C Le fC k0 rest (ents++[(o.dst,R)])
section
variable {P:Program} {a0:Act} {Q:Exit->Act->World->Prop} {C:Bool->World->Prop} {Le:World->World->Prop} {fC:List Tmp} {k0:Nat}
theorem qP.full: ∀ {l:List Oper} {ents:List (Option Tmp×RP)},qP P a0 Q C Le fC k0 l ents->∃full:List (Option Tmp×RP),full.length=ents.length+l.length∧full.take ents.length=ents∧
 (∀(i:Nat) (o:Oper),l[i]? =some o->∃R,full[ents.length+i]? =some (o.dst,R)∧(∀v w w',Le w w'->R v w->R v w')∧Obl P a0 Q C Le fC (full.take (ents.length+i)) o R (decide (ents.length+i=k0)))∧
 ∀w,C (decide (k0<full.length)) w->eY w (λa=>Q .normal a w) full a0
 | [],ents,h=>⟨ents,ahh,ahh,ahh,h⟩
 |o::rest,ents,h=>by
  obtain⟨R,hm,ho,hr⟩:=h;obtain⟨full,h1,h2,h3,h4⟩:=qP.full hr;simp only[au,aB,aP,aU]at h1 h2 h3;have hlen:ents.length<full.length:=ahf
  have hget:full[ents.length]? =some (o.dst,R):=abb
  refine⟨full,ahi,?_,?_,h4⟩
  ·have:=congrArg (List.take ents.length) h2;simpa[List.take_take]using this
  ·exact Aap
theorem qP.step {o:Oper} {rest:List Oper} {ents:List (Option Tmp×RP)} {v:Value} (cu:Obl P a0 Q C Le fC ents o (dO v) (decide (ents.length=k0))) (hrest:qP P a0 Q C Le fC k0 rest (ents++[(o.dst,dO v)])):qP P a0 Q C Le fC k0 (o::rest) ents:=
 ⟨dO v,dO.mono,cu,hrest⟩
theorem qP.some {o:Oper} {rest:List Oper} {ents:List (Option Tmp×RP)} (R:RP) (hmono: ∀v w w',Le w w'->R v w->R v w') (cu:Obl P a0 Q C Le fC ents o R (decide (ents.length=k0))) (hrest:qP P a0 Q C Le fC k0 rest (ents++[(o.dst,R)])):qP P a0 Q C Le fC k0 (o::rest) ents:=
 ⟨R,hmono,cu,hrest⟩
theorem eY.use {w:World} {K:Act->Prop} {a':Act} : ∀ {ents:List (Option Tmp×RP)} {a:Act},eY w K ents a->(∀(i:Nat) (d:Option Tmp) (R:RP),ents[i]? =some (d,R)->R (gQ a' d) w)->
 a'.defers=a.defers->a'.tmps.size=a.tmps.size->(∀s:Nat,(∀(i:Nat) (d:Tmp) (R:RP),ents[i]? =some (some d,R)->d≠s)->a'.tmps[s]? =a.tmps[s]?)->K a'
 | [],a,h,_,hd,_,hs=>by
   have e:a'=a:=by cases a';cases a;simp only at hd hs⊢;congr 1;exact Array.ext_getElem? (λs=>hs s ahh)
   rw[e];exact h
 |(d,R)::r,a,h,hR,hd,hz,hs=>by
  have h1:=h (gQ a' d) (hR 0 d R rfl);refine eY.use h1 (λi d' R' hi=>hR (i+1) d' R' ahE) ?_ ?_ ?_
  ·cases d <;> simpa[Act.put]using hd
  ·cases d <;> simpa[Act.put]using hz
  ·intro s hne;cases d with
   |none=>exact hs s (λi d' R' hi=>by
    cases i with
    |zero=>simp at hi
    |succ i=>exact hne i d' R' ahE)
   |some d=>
    by_cases hds:d=s
    ·subst hds;simp only[Act.put,gQ,Act.eval];by_cases hlt:d<a.tmps.size
     ·have hlt':d<a'.tmps.size:=(by rw[hz];exact hlt);rw[Array.getElem?_setIfInBounds_self_of_lt hlt];simp[Array.getElem?_eq_getElem hlt']
     ·have hge:a.tmps.size<=d:=Nat.le_of_not_lt hlt;rw[Array.getElem?_eq_none (by rw[hz];exact hge),Array.getElem?_eq_none (by rw[Array.size_setIfInBounds];exact hge)]
    ·rw[hs s (λi d' R' hi=>by
      cases i with
      |zero=>simp at hi;rw[<- hi.1];exact hds
      |succ i=>exact hne i d' R' ahE)]
     simp[Act.put,Array.getElem?_setIfInBounds_ne hds]
def cnt (listed:Array Bool):Nat->Nat
 |0=>0
 |k+1=>cnt listed k+if listed.getD k false then 0 else 1
theorem Li {listed:Array Bool} {i:Nat} (hi:i<listed.size) (hu:listed.getD i false=false): ∀n,cnt (listed.setIfInBounds i true) n+(if i<n then 1 else 0)=cnt listed n
 |0=>by simp[cnt]
 |n+1=>by
  have ih:=Li hi hu n;simp only[cnt];by_cases hin:i=n
  ·subst hin;have h1:(listed.setIfInBounds i true).getD i false=true:=by simp[hi]
   rw[h1,hu];simp only[Nat.lt_irrefl,if_false]at ih;simp;omega
  ·rw[getD_set_ne false hin];by_cases hlt:i<n
   ·have h2:i<n+1:=ahf;simp only[hlt,if_true]at ih;simp only[h2,if_true];omega
   ·have h2: ¬i<n+1:=ahf;simp only[hlt,if_false]at ih;simp only[h2,if_false];omega
theorem Ic {listed:Array Bool} : ∀ {n:Nat},cnt listed n=0->∀i,i<n->listed.getD i false=true
 |0,_,_,hi=>absurd hi ahf
 |n+1,h,i,hi=>by
  simp only[cnt]at h;by_cases hin:i=n
  ·subst hin;cases hg:listed.getD i false
   ·rw[hg]at h;simp at h
   ·rfl
  ·exact Ic (n:=n) ahf i ahf
def ZR (fC:List Tmp) (l:List Oper):Bool:=
 (l.filterMap (·.dst)==fC)&&decide fC.Nodup&&(l.zipIdx.all λx=>(x.1.after.all λe=>decide (e.on<x.2))&&(match x.1.guard with|none=>true|some (g,_)=>decide (g<x.2)))
theorem Fq: ∀ {l:List Oper},(l.filterMap (·.dst)).Nodup->∀(i j:Nat) (oi oj:Oper) (d:Tmp),l[i]? =some oi->l[j]? =some oj->oi.dst=some d->oj.dst=some d->i=j
 | [],_,i,_,_,_,_,h,_,_,_=>ahv
 |o::r,hn,i,j,oi,oj,d,hi,hj,hdi,hdj=>by
  have key: ∀(k:Nat) (ok:Oper),r[k]? =some ok->ok.dst=some d->o.dst=some d->False:=λk ok hk hdk ho=>by rw[List.filterMap_cons_some ho]at hn;exact(List.nodup_cons.1 hn).1 (List.mem_filterMap.2 ⟨ok,List.mem_of_getElem? hk,hdk⟩)
  have hn':(r.filterMap (·.dst)).Nodup:=by
   cases ho:o.dst with
   |none=>rwa [List.filterMap_cons_none ho]at hn
   |some d'=>rw[List.filterMap_cons_some ho]at hn;exact(List.nodup_cons.1 hn).2
  cases i with
  |zero=>
   cases j with
   |zero=>rfl
   |succ j=>simp only[List.getElem?_cons_zero,Option.some.injEq,List.getElem?_cons_succ]at hi hj;subst hi;exact(key j oj hj hdj hdi).elim
  |succ i=>
   cases j with
   |zero=>simp only[List.getElem?_cons_zero,Option.some.injEq,List.getElem?_cons_succ]at hi hj;subst hj;exact(key i oi hi hdi hdj).elim
   |succ j=>simp only[List.getElem?_cons_succ]at hi hj;rw[Fq hn' i j oi oj d hi hj hdi hdj]
theorem PW {full:List (Option Tmp×RP)} {A:Act} {w:World} {i:Nat} : ∀ {l:List Edge},(∀e∈l,Region.binds .any e=true->∀(d:Option Tmp) (R:RP),full[e.on]? =some (d,R)->R (gQ A d) w)->Oc (full.take i) A w l
 | [],_=>trivial
 |e::r,h=>by
  refine⟨?_,PW λe' he'=>h e' (by simp[he'])⟩;split
  case isFalse=>trivial
  case isTrue hb=>
  cases hg:(full.take i)[e.on]? with
  |none=>trivial
  |some x=>
   obtain⟨d,R⟩:=x;rw[List.getElem?_take]at hg;split at hg
   ·exact h e ahh hb d R hg
   ·cases hg
def aZ0 (a0:Act) (C:Bool->World->Prop) (k0:Nat) (full:List (Option Tmp×RP)) (n:Nat) (listed:Array Bool) (a:Act) (w:World):Prop:=
 listed.size=n∧C (listed.getD k0 false) w∧a.defers=a0.defers∧a.tmps.size=a0.tmps.size∧
 (∀s:Nat,(∀(i:Nat) (d:Tmp) (R:RP),full[i]? =some (some d,R)->listed.getD i false=true->d≠s)->a.tmps[s]? =a0.tmps[s]?)∧
 ∀(i:Nat) (d:Option Tmp) (R:RP),full[i]? =some (d,R)->listed.getD i false=true->R (gQ a d) w
theorem an9 {ops:Array Oper} {full:List (Option Tmp×RP)} {o:Oper} {A:Act} {i:Nat} (hf: ∀(k:Nat) (ok:Oper),ops[k]? =some ok->∃R,full[k]? =some (ok.dst,R)) (hlen:full.length=ops.size)
 (hg: ∀g b,o.guard=some (g,b)->g<i):Region.wanted o (yielded ops A.tmps)=gd (full.take i) A o:=by
 unfold Region.wanted gd;cases ho:o.guard with
 |none=>rfl
 |some x=>
  exact Aao
theorem aC7 {l:List Oper} {full:List (Option Tmp×RP)} (GI: ∀w,Le w w) (hbd: ∀d∈fC,d<a0.tmps.size) (hlen:full.length=l.length) (hnd:(l.filterMap (·.dst)).Nodup) (uZ:l.filterMap (·.dst)=fC)
 (hed: ∀(i:Nat) (o:Oper),l[i]? =some o->∀e∈o.after,e.on<i) (hgu: ∀(i:Nat) (o:Oper),l[i]? =some o->∀g b,o.guard=some (g,b)->g<i)
 (hf: ∀(i:Nat) (o:Oper),l[i]? =some o->∃R,full[i]? =some (o.dst,R)∧(∀v w w',Le w w'->R v w->R v w')∧Obl P a0 Q C Le fC (full.take i) o R (decide (i=k0)))
 (hend: ∀w,C (decide (k0<l.length)) w->eY w (λa=>Q .normal a w) full a0):
 ∀(fuel:Nat) (listed:Array Bool) (a:Act) (w:World),cnt listed l.length<=fuel->aZ0 a0 C k0 full l.length listed a w->wpAny P .any l.toArray Q fuel listed a w:=by
 have hmono: ∀(i:Nat) (d:Option Tmp) (R:RP),full[i]? =some (d,R)->∀v w w',Le w w'->R v w->R v w':=λi d R hi=>by
  have hlt:i<l.length:=aa0
  obtain⟨R',h1,h2,-⟩:=hf i l[i] (aX hlt);rw[hi]at h1;simp only[Option.some.injEq,Prod.mk.injEq]at h1;rw[h1.2];exact h2
 have hdst: ∀(i:Nat) (d:Option Tmp) (R:RP),full[i]? =some (d,R)->∃o,l[i]? =some o∧o.dst=d:=λi d R hi=>by
  have hlt:i<l.length:=aa0
  obtain⟨R',h1,-⟩:=hf i l[i] (aX hlt);rw[hi]at h1;simp only[Option.some.injEq,Prod.mk.injEq]at h1;exact⟨l[i],aX hlt,h1.1.symm⟩
 have hall: ∀listed a w,aZ0 a0 C k0 full l.length listed a w->(∀i,i<l.length->listed.getD i false=true)->Q .normal a w:=λlisted a w hI ha=>by
  obtain⟨hsz0,hC,hd,hz,hs,hR⟩:=hI;have hk:listed.getD k0 false=decide (k0<l.length):=by
   by_cases h:k0<l.length
   ·rw[ha k0 h,decide_eq_true h]
   ·have hsz:listed.size=l.length:=(by assumption);rw[decide_eq_false h];simp[Array.getElem?_eq_none (show listed.size<=k0 by omega)]
  rw[hk]at hC;refine(hend w hC).use (λi d R hi=>hR i d R hi (ha i ?_)) hd hz (λs hne=>hs s (λi d R hi _=>hne i d R hi));rw[<- hlen];exact(List.getElem?_eq_some_iff.1 hi).1
 have Kt: ∀listed:Array Bool,listed.size=l.length->Region.ready .any l.toArray listed=[]->∀i,i<l.length->listed.getD i false=true:=λlisted hsz hr i=>by
  induction i using Nat.strongRecOn with
  |_ i ih=>
   intro hi;cases hg:listed.getD i false with
   |true=>rfl
   |false=>exfalso;have:i∈Region.ready .any l.toArray listed:=mem_ready.2 ⟨abB,l[i],by simp[hi],λe he _=>ih e.on (hed i l[i] (aX hi) e he) (by have:=hed i l[i] (aX hi) e he;omega)⟩;rw[hr]at this;cases this
 intro fuel
 induction fuel with
 |zero=>
  intro listed a w hc hI;have ha:=Ic (Nat.le_zero.1 hc);refine⟨?_,hall listed a w hI ha⟩;rw[List.eq_nil_iff_forall_not_mem];intro i hi;obtain⟨h0,o,ho,-⟩:=mem_ready.1 hi;have hlt:i<l.length:=afH
  have:=ha i hlt;have h1:i<listed.size:=afS
  simp[h1]at h0 this;rw[h0]at this;cases this
 |succ fuel ih=>
  intro listed a w hc hI;refine⟨λhr=>hall listed a w hI (Kt listed hI.1 hr),λi hi=> ?_⟩;obtain⟨h0,o,ho,FQ⟩:=mem_ready.1 hi;have hlt:i<l.length:=afH
  have hlo:l[i]? =some o:=by simpa using ho
  have hls:i<listed.size:=afS
  have hun:listed.getD i false=false:=agz
  obtain⟨R,Mj,hRm,hob⟩:=hf i o hlo;obtain⟨hsz,hC,hd,hz,hs,hR⟩:=hI;have hW:=an9 (A:=a) (o:=o) (i:=i) (ops:=l.toArray) (full:=full) (λk ok hk=>abk) afb (hgu i o hlo);have hstep:=hob (listed.getD k0 false) a w (λhk=>by rw[<- of_decide_eq_true hk];exact hun) hC (λs hs'=>Δ) (PW (λe he hb d R' hR'=>hR e.on d R' hR' (FQ e ahy hb)));have hnext: ∀(v:Value) (w':World),Le w w'->C (listed.getD k0 false||decide (i=k0)) w'->R (gQ (a.put o.dst v) o.dst) w'->wpAny P .any l.toArray Q fuel (listed.setIfInBounds i true) (a.put o.dst v) w':=λv w' hle hC' hv=>by
   refine ih _ _ _ ?_ ⟨by simp[hsz],?_,?_,?_,?_,?_⟩
   rotate_left
   ·have:(listed.setIfInBounds i true).getD k0 false=(listed.getD k0 false||decide (i=k0)):=by
     by_cases hk:i=k0
     ·subst hk;simp[hls]
     ·rw[getD_set_ne false hk,decide_eq_false hk,Bool.or_false]
    rw[this];exact hC'
   rotate_right
   ·have:=Li hls hun l.length;rw[if_pos hlt]at this;omega
   ·cases o.dst <;> simpa[Act.put]using hd
   ·cases o.dst <;> simpa[Act.put]using hz
   ·exact AaL
   ·intro k d R' hk hl;by_cases hik:i=k
    ·subst hik;rw[Mj]at hk;simp only[Option.some.injEq,Prod.mk.injEq]at hk;obtain⟨rfl,rfl⟩:=hk;exact hv
    ·have hl':listed.getD k false=true:=adn;have h1:=hmono k d R' hk _ _ _ hle (hR k d R' hk hl');exact AaK
  unfold wpOp;simp only[ho];rw[hW];cases hgd:gd (full.take i) a o with
  |true=>
   rw[hgd]at hstep;simp only[if_true]at hstep⊢;refine Or.inl (Oper.wp_mono ?_ hstep);rintro a' w' ⟨v,rfl,hle,hC',hv⟩;refine hnext v w' hle hC' ?_;exact AaM
  |false=>
   rw[hgd]at hstep;simp only[Bool.false_eq_true,if_false]at hstep⊢;refine hnext undef w (GI w) (by rw[hstep.1,Bool.or_false];exact hC) ?_;cases hod:o.dst with
   |none=>exact hstep.2
   |some d=>have hdl:d<a.tmps.size:=Ξ;simpa[gQ,Act.eval,Act.put,hdl]using hstep.2
theorem zI {f:Oper×Nat->Bool} {l:List Oper} (h:l.zipIdx.all f=true) (i:Nat) (o:Oper) (hi:l[i]? =some o):f (o,i)=true:=by
 rw[List.all_eq_true]at h;refine h (o,i) (List.mem_of_getElem? (i:=i) ?_);rw[List.getElem?_zipIdx,hi];simp
theorem Pk {id:Nat} {l:List Oper} {w:World} (k0:Nat) (C:Bool->World->Prop) (Le:World->World->Prop) (fC:List Tmp) (hm:P.follows .mixedOrders=true) (hB:ZR fC l=true) (GI: ∀w,Le w w) (hbd:(fC.all λd=>decide (d<a0.tmps.size))=true) (hC:C false (w.drewN 1))
 (h:qP P a0 Q C Le fC k0 l []):(Code.region id l.toArray true).wp P Q a0 w:=by
 unfold ZR at hB;simp only[aM,beq_iff_eq,decide_eq_true_eq]at hB;obtain⟨⟨uZ,hnd⟩,hz⟩:=hB;obtain⟨full,h1,-,h3,h4⟩:=h.full;simp only[aP,aU]at h1 h3;have hed: ∀(i:Nat) (o:Oper),l[i]? =some o->(∀e∈o.after,e.on<i)∧∀g b,o.guard=some (g,b)->g<i:=λi o hi=>by have:=zI hz i o hi;simp only[aM,Array.all_eq_true_iff_forall_mem,decide_eq_true_eq]at this;refine⟨this.1,λg b hg=> ?_⟩;have h2:=this.2;rw[hg]at h2;simpa using h2
 refine wp_region_any hm ?_;have hdr:({w with drawn:=w.drawn+1} :World)=w.drewN 1:=rfl;rw[hdr];refine aC7 GI (λd hd=>abe) h1 (by rw[uZ];exact hnd) uZ (λi o hi=>(hed i o hi).1) (λi o hi=>(hed i o hi).2) h3 (by rw[<- h1];exact h4) _ _ _ _ ?_ ⟨ahh,by rw[show(Array.replicate l.toArray.size false).getD k0 false=false by(rw[Array.getD_eq_getD_getElem?];by_cases hk:k0<l.length <;> simp[hk])];exact hC,rfl,rfl,λ_ _=>rfl,λi d R _ hl=> ?_⟩
 ·have: ∀n,cnt (Array.replicate l.toArray.size false) n<=n:=λn=>by
   induction n with
   |zero=>simp[cnt]
   |succ n ih=>simp only[cnt];split <;> omega
  simpa using this l.length
 ·exfalso;rw[Array.getD_eq_getD_getElem?]at hl;by_cases hi:i<l.length
  ·simp[hi]at hl
  ·rw[Array.getElem?_eq_none ahE]at hl;cases hl
theorem H9 {id:Nat} {l:List Oper} {w:World} (C:World->Prop) (Le:World->World->Prop) (fC:List Tmp) (hm:P.follows .mixedOrders=true) (hB:ZR fC l=true) (GI: ∀w,Le w w) (hbd:(fC.all λd=>decide (d<a0.tmps.size))=true) (hC:C (w.drewN 1))
 (h:qP P a0 Q (λ_=>C) Le fC 1000000 l []):(Code.region id l.toArray true).wp P Q a0 w:=Pk 1000000 (λ_=>C) Le fC hm hB GI hbd hC h
end
end
def pG (o:Oper):List Nat:=(o.after.toList.filter (Region.binds .any)).map (·.on)
def YP (l:List Oper) (tL:List (List Nat)):Bool:=l.zipIdx.all λx=>(tL.getD x.2 []).all λk=>(pG x.1).any λd=>d==k||(tL.getD d []).contains k
def okB:List (Option Bool)->List Bool->Prop
 |some x::r,b::bs=>b=x∧okB r bs
 |none::r,_::bs=>okB r bs
 | [],[]=>True
 |_,_=>False
def jA:List Nat->List Bool->Nat->List Bool
 |x::r,b::bs,i=>(b||x==i)::jA r bs i
 |_,_,_=>[]
def au6 (n:Nat) (ws:List Nat) (tL:List (List Nat)) (bnd:List (List (Option Bool))):Bool:=
 decide (bnd.length=n)&&(ws.all λw=>decide (w<n))&&(List.range n).all λi=>decide ((bnd.getD i []).length=ws.length)&&((bnd.getD i []).zip ws).all λx=>match x.1 with|none=>true|some true=>(tL.getD i []).contains x.2|some false=>(tL.getD x.2 []).contains i||x.2==i
theorem BP {o:Oper} {e:Edge} (he:e∈o.after) (hb:Region.binds .any e=true):e.on∈pG o:=by
 unfold pG;exact List.mem_map.2 ⟨e,List.mem_filter.2 ⟨ahy,hb⟩,rfl⟩
def KG (n:Nat) (tL:List (List Nat)) (k1:Nat):Bool:=(List.range n).all λi=>decide (i<k1)||(List.range k1).all λj=>(tL.getD i []).contains j
def oD (n k:Nat):Array Bool:=((List.range n).map λi=>decide (i<k)).toArray
theorem lg (n k i:Nat):(oD n k).getD i false=(decide (i<n)&&decide (i<k)):=by
 unfold oD;rw[Array.getD_eq_getD_getElem?,List.getElem?_toArray,List.getElem?_map];by_cases h:i<n
 ·rw[List.getElem?_range h];simp[h]
 ·rw[List.getElem?_eq_none ahi];simp[h]
theorem tY (n k:Nat):(oD n k).size=n:=by simp[oD]
theorem Qa {n k:Nat} {listed:Array Bool} (hs:listed.size=n) (h1: ∀i,i<k->listed.getD i false=true) (h2: ∀i,k<=i->listed.getD i false=false):listed=oD n k:=by
 refine Array.ext (by rw[hs,tY]) (λi hi hi'=> ?_);have e1:listed.getD i false=listed[i]:=by rw[Array.getD_eq_getD_getElem?,Array.getElem?_eq_getElem hi];rfl
 have e2:(oD n k).getD i false=(oD n k)[i]:=by rw[Array.getD_eq_getD_getElem?,Array.getElem?_eq_getElem hi'];rfl
 rw[<- e1,<- e2,lg];have hin:i<n:=by rw[<- hs];exact hi
 by_cases hk:i<k
 ·rw[h1 i hk];simp[hin,hk]
 ·rw[h2 i ahf];simp[hk]
theorem MS (n k:Nat) (hk:k<=n): ∀m,m<=n->cnt (oD n k) m=m -k
 |0,_=>by simp[cnt]
 |m+1,hm=>by
  have ih:=MS n k hk m ahf;simp only[cnt,ih,lg];by_cases h:m<k
  ·have:m<n:=by omega
   simp[h,this];omega
  ·simp[h];omega
def TR (P:Program) (a0:Act) (Q:Exit->Act->World->Prop) (C:List Bool->World->Prop) (Le:World->World->Prop) (fC:List Tmp) (ents:List (Option Tmp×RP)) (o:Oper) (R:RP) (ws:List Nat) (pat:List (Option Bool)):Prop:=
 ∀c A w,okB pat c->C c w->(∀s,fC.contains s=false->A.eval (.tmp s)=a0.eval (.tmp s))->Oc ents A w o.after.toList->
  if gd ents A o then o.wp P A w (aZ (C (jA ws c ents.length)) Le R A o.dst w) Q else(C (jA ws c ents.length) w∧R undef w)
def bH (P:Program) (a0:Act) (Q:Exit->Act->World->Prop) (C:List Bool->World->Prop) (Le:World->World->Prop) (fC:List Tmp) (ws:List Nat) (K:Act->World->Prop) (k0:Nat):List Oper->List (List (Option Bool))->List (Option Tmp×RP)->Prop
 |o::rest,b::bs,ents=> ∃R:RP,(∀v w w',Le w w'->R v w->R v w')∧TR P a0 Q C Le fC ents o R ws b∧bH P a0 Q C Le fC ws K k0 rest bs (ents++[(o.dst,R)])
 |_,_,ents=> ∀w,C (ws.map λ_=>true) w->eY w (λa=>K a w) (ents.drop k0) a0
def Kc (l:List Oper):List (Option Tmp×RP):=l.map λo=>(o.dst,λ_ _=>True)
theorem gJ {α:Type} :(∀(n:Nat) (a:α) (l:List α),(a::l).take (n+1)=a::l.take n)∧(∀l:List α,l.take 0=[])∧(∀l:List α,l.drop 0=l)∧∀(n:Nat) (a:α) (l:List α),(a::l).drop (n+1)=l.drop n:=⟨λ_ _ _=>rfl,λ_=>rfl,λ_=>rfl,λ_ _ _=>rfl⟩
theorem kE:Kc []=[]∧∀o l,Kc (o::l)=(o.dst,λ_ _=>True)::Kc l:=⟨rfl,λ_ _=>rfl⟩
section
variable {P:Program} {a0:Act} {Q:Exit->Act->World->Prop} {C:List Bool->World->Prop} {Le:World->World->Prop} {fC:List Tmp} {ws:List Nat} {K:Act->World->Prop} {k0:Nat}
theorem bH.full: ∀ {l:List Oper} {bnd:List (List (Option Bool))} {ents:List (Option Tmp×RP)},bnd.length=l.length->bH P a0 Q C Le fC ws K k0 l bnd ents->∃full:List (Option Tmp×RP),full.length=ents.length+l.length∧full.take ents.length=ents∧
 (∀(i:Nat) (o:Oper),l[i]? =some o->∃R,full[ents.length+i]? =some (o.dst,R)∧(∀v w w',Le w w'->R v w->R v w')∧TR P a0 Q C Le fC (full.take (ents.length+i)) o R ws (bnd.getD i []))∧
 ∀w,C (ws.map λ_=>true) w->eY w (λa=>K a w) (full.drop k0) a0
 | [],bnd,ents,_,h=>⟨ents,ahh,ahh,ahh,by cases bnd <;> exact h⟩
 |o::rest,[],ents,hl,h=>by simp at hl
 |o::rest,b::bs,ents,hl,h=>by
  obtain⟨R,hm,ho,hr⟩:=h;obtain⟨full,h1,h2,h3,h4⟩:=bH.full ah8 hr;simp only[au,aB,aP,aU]at h1 h2 h3;have hlen:ents.length<full.length:=ahf
  have hget:full[ents.length]? =some (o.dst,R):=abb
  refine⟨full,ahi,?_,?_,h4⟩
  ·have:=congrArg (List.take ents.length) h2;simpa[List.take_take]using this
  ·exact Aap
theorem bH.step {o:Oper} {rest:List Oper} {b:List (Option Bool)} {bs:List (List (Option Bool))} {ents:List (Option Tmp×RP)} {v:Value} (cu:TR P a0 Q C Le fC ents o (dO v) ws b) (hrest:bH P a0 Q C Le fC ws K k0 rest bs (ents++[(o.dst,dO v)])):bH P a0 Q C Le fC ws K k0 (o::rest) (b::bs) ents:=
 ⟨dO v,dO.mono,cu,hrest⟩
theorem bH.some {o:Oper} {rest:List Oper} {b:List (Option Bool)} {bs:List (List (Option Bool))} {ents:List (Option Tmp×RP)} (R:RP) (hmono: ∀v w w',Le w w'->R v w->R v w') (cu:TR P a0 Q C Le fC ents o R ws b) (hrest:bH P a0 Q C Le fC ws K k0 rest bs (ents++[(o.dst,R)])):bH P a0 Q C Le fC ws K k0 (o::rest) (b::bs) ents:=
 ⟨R,hmono,cu,hrest⟩
theorem bH.done {ents:List (Option Tmp×RP)} (h: ∀w,C (ws.map λ_=>true) w->eY w (λa=>K a w) (ents.drop k0) a0):bH P a0 Q C Le fC ws K k0 [] [] ents:=h
def DC (l:List Oper) (listed:Array Bool):Prop:= ∀(i:Nat) (o:Oper),l[i]? =some o->listed.getD i false=true->∀d∈pG o,listed.getD d false=true
def cw (ws:List Nat) (listed:Array Bool):List Bool:=ws.map λw=>listed.getD w false
theorem O6 {l:List Oper} {tL:List (List Nat)} {listed:Array Bool} (ha:YP l tL=true) (hed: ∀(i:Nat) (o:Oper),l[i]? =some o->∀d∈pG o,d<i) (hd:DC l listed) (hsz:listed.size=l.length): ∀(i:Nat),listed.getD i false=true->∀k∈tL.getD i [],listed.getD k false=true:=by
 intro i
 induction i using Nat.strongRecOn with
 |_ i ih=>
  intro hl k hk;by_cases hi:i<l.length
  ·have hz:=zI ha i l[i] (aX hi);rw[List.all_eq_true]at hz;have:=hz k hk;rw[List.any_eq_true]at this;obtain⟨d,hd1,hd2⟩:=this;have hdl:=hd i l[i] (aX hi) hl d hd1;simp only[Bool.or_eq_true,beq_iff_eq,List.contains_iff_mem]at hd2;rcases hd2 with rfl|hd2
   ·exact hdl
   ·exact ih d (hed i l[i] (aX hi) d hd1) hdl k hd2
  ·exfalso;rw[Array.getD_eq_getD_getElem?,Array.getElem?_eq_none ahf]at hl;cases hl
theorem af0 {listed:Array Bool} {i:Nat} (hi:i<listed.size): ∀ws:List Nat,cw ws (listed.setIfInBounds i true)=jA ws (cw ws listed) i
 | []=>rfl
 |x::r=>by
  have ih:=af0 hi r;unfold cw at ih⊢;rw[List.map_cons,ih,List.map_cons,jA];congr 1;by_cases hx:x=i
  ·subst hx;simp[hi]
  ·rw[getD_set_ne false (λe=>hx e.symm)];simp[hx]
theorem Vg {listed:Array Bool} : ∀(pat:List (Option Bool)) (ws:List Nat),pat.length=ws.length->(∀x∈pat.zip ws,∀b,x.1=some b->listed.getD x.2 false=b)->okB pat (cw ws listed)
 | [],[],_,_=>trivial
 | [],_::_,h,_=>ahv
 |_::_,[],h,_=>ahv
 |none::r,x::ws,h,hb=>Vg r ws aiy (λy hy=>hb y ahx)
 |some b::r,x::ws,h,hb=>⟨hb (some b,x) ahh b rfl,Vg r ws aiy (λy hy=>hb y ahx)⟩
def aG4 (a0:Act) (C:List Bool->World->Prop) (ws:List Nat) (l:List Oper) (k0 k1:Nat) (full:List (Option Tmp×RP)) (listed:Array Bool) (a:Act) (w:World):Prop:=
 listed.size=l.length∧(∀i,i<k0->listed.getD i false=true)∧(∀i,k1<=i->listed.getD i false=false)∧C (cw ws listed) w∧a.defers=a0.defers∧a.tmps.size=a0.tmps.size∧DC l listed∧
 (∀s:Nat,(∀(i:Nat) (d:Tmp) (R:RP),full[i]? =some (some d,R)->k0<=i->listed.getD i false=true->d≠s)->a.tmps[s]? =a0.tmps[s]?)∧
 ∀(i:Nat) (d:Option Tmp) (R:RP),full[i]? =some (d,R)->listed.getD i false=true->R (gQ a d) w
theorem ao5 {l:List Oper} {full:List (Option Tmp×RP)} {tL:List (List Nat)} {bnd:List (List (Option Bool))} {k0 k1:Nat} (hk1:k1<=l.length) (N8:YP l tL=true) (Ov:KG l.length tL k1=true)
 (N9:au6 l.length ws tL bnd=true) (hws: ∀x∈ws,x<k1) (GI: ∀w,Le w w) (hbd: ∀d∈fC,d<a0.tmps.size) (hlen:full.length=k1) (hnd:(l.filterMap (·.dst)).Nodup) (uZ:((l.take k1).drop k0).filterMap (·.dst)=fC)
 (hed: ∀(i:Nat) (o:Oper),l[i]? =some o->∀d∈pG o,d<i) (hgu: ∀(i:Nat) (o:Oper),l[i]? =some o->∀g b,o.guard=some (g,b)->g<i)
 (bd5: ∀(i:Nat) (o:Oper),l[i]? =some o->i<k0->full[i]? =some (o.dst,λ_ _=>True))
 (hf: ∀(i:Nat) (o:Oper),l[i]? =some o->k0<=i->i<k1->∃R,full[i]? =some (o.dst,R)∧(∀v w w',Le w w'->R v w->R v w')∧TR P a0 Q C Le fC (full.take i) o R ws (bnd.getD i []))
 (hend: ∀w,C (ws.map λ_=>true) w->eY w (λa=>wpAny P .any l.toArray Q (l.length -k1) (oD l.length k1) a w) (full.drop k0) a0):
 ∀(fuel:Nat) (listed:Array Bool) (a:Act) (w:World),cnt listed l.length=fuel->aG4 a0 C ws l k0 k1 full listed a w->wpAny P .any l.toArray Q fuel listed a w:=by
 have hB:bnd.length=l.length∧(∀x∈ws,x<l.length)∧∀i,i<l.length->(bnd.getD i []).length=ws.length∧∀x∈(bnd.getD i []).zip ws,(match x.1 with|none=>true|some true=>(tL.getD i []).contains x.2|some false=>(tL.getD x.2 []).contains i||x.2==i)=true:=by unfold au6 at N9;simp only[aM,decide_eq_true_eq,List.all_eq_true,List.mem_range]at N9;exact⟨N9.1.1,N9.1.2,λi hi=>N9.2 i hi⟩
 have hP: ∀i,i<l.length->k1<=i->∀j,j<k1->j∈tL.getD i []:=λi hi hki j hj=>by
  unfold KG at Ov;simp only[List.all_eq_true,List.mem_range,Bool.or_eq_true,decide_eq_true_eq,List.contains_iff_mem]at Ov;rcases Ov i hi with h|h
  ·omega
  ·exact h j hj
 have hdst: ∀(i:Nat) (d:Option Tmp) (R:RP),full[i]? =some (d,R)->∃o,l[i]? =some o∧o.dst=d∧∀v w w',Le w w'->R v w->R v w':=λi d R hi=>by
  have hlt:i<k1:=aa0
  have hll:i<l.length:=ahf
  by_cases hik:i<k0
  ·have h1:=bd5 i l[i] (aX hll) hik;rw[hi]at h1;simp only[Option.some.injEq,Prod.mk.injEq]at h1;exact⟨l[i],aX hll,h1.1.symm,by rw[h1.2];exact λ_ _ _ _ _=>trivial⟩
  ·obtain⟨R',h1,h2,-⟩:=hf i l[i] (aX hll) ahf hlt;rw[hi]at h1;simp only[Option.some.injEq,Prod.mk.injEq]at h1;exact⟨l[i],aX hll,h1.1.symm,by rw[h1.2];exact h2⟩
 have hfe: ∀(i:Nat) (o:Oper),l[i]? =some o->i<k1->∃R,full[i]? =some (o.dst,R):=λi o hi hik=>by
  by_cases h:i<k0
  ·exact⟨_,bd5 i o hi h⟩
  ·obtain⟨R,h1,-⟩:=hf i o hi ahf hik;exact⟨R,h1⟩
 have hmem: ∀(k:Nat) (d:Tmp) (R:RP),full[k]? =some (some d,R)->k0<=k->d∈fC:=λk d R hk' hkk=>by
  obtain⟨ok,hok,hdk,-⟩:=hdst k (some d) R hk';have hlt:k<k1:=by rw[<- hlen];exact(List.getElem?_eq_some_iff.1 hk').1
  rw[<- uZ];refine List.mem_filterMap.2 ⟨ok,List.mem_of_getElem? (i:=k -k0) ?_,hdk⟩;rw[List.getElem?_drop,List.getElem?_take,show k0+(k -k0)=k by omega,if_pos hlt];exact hok
 have Kt: ∀listed:Array Bool,listed.size=l.length->Region.ready .any l.toArray listed=[]->∀i,i<l.length->listed.getD i false=true:=λlisted hsz hr i=>by
  induction i using Nat.strongRecOn with
  |_ i ih=>
   exact AaJ
 have hall: ∀fuel listed a w,cnt listed l.length=fuel->aG4 a0 C ws l k0 k1 full listed a w->(∀i,i<k1->listed.getD i false=true)->wpAny P .any l.toArray Q fuel listed a w:=λfuel listed a w hc hI ha=>by
  obtain⟨hsz0,-,hno,hC,hd,hz,hdc,hs,hR⟩:=hI;have he:listed=oD l.length k1:=Qa hsz0 ha hno;have hkk:cw ws listed=ws.map λ_=>true:=by unfold cw;exact List.map_congr_left (λx hx=>ha x (hws x hx))
  rw[hkk]at hC;have hfu:fuel=l.length -k1:=by rw[<- hc,he,MS _ _ hk1 _ (aD _)]
  have:=(hend w hC).use (a':=a) (λi d R hi=>by rw[List.getElem?_drop]at hi;exact hR (k0+i) d R hi (ha _ aa0)) hd hz (λs hne=>hs s (λi d R hi hki _=>hne (i -k0) d R (by rw[List.getElem?_drop,show k0+(i -k0)=i by omega];exact hi)));rw[hfu,he];exact this
 intro fuel
 induction fuel with
 |zero=>intro listed a w hc hI;exact hall 0 listed a w hc hI (λi hi=>Ic hc i ahf)
 |succ fuel ih=>
  intro listed a w hc hI;by_cases hdone: ∀i,i<k1->listed.getD i false=true
  ·exact hall _ listed a w hc hI hdone
  refine⟨λhr=>(hdone (λi hi=>Kt listed hI.1 hr i ahf)).elim,λi hi=> ?_⟩;obtain⟨h0,o,ho,FQ⟩:=mem_ready.1 hi;have hlt:i<l.length:=afH
  have hlo:l[i]? =some o:=by simpa using ho
  have hls:i<listed.size:=afS
  have hun:listed.getD i false=false:=agz
  obtain⟨hsz,hpre,hno,hC,hd,hz,hdc,hs,hR⟩:=hI;have aH7:=O6 N8 hed hdc hsz;have hself: ∀k∈tL.getD i [],listed.getD k false=true:=λk hk=>by
   have hz':=zI N8 i o hlo;rw[List.all_eq_true]at hz';have:=hz' k hk;rw[List.any_eq_true]at this;obtain⟨d,hd1,hd2⟩:=this;simp only[pG,List.mem_map,List.mem_filter,Array.mem_toList_iff]at hd1;obtain⟨e,⟨he,hb⟩,rfl⟩:=hd1;simp only[Bool.or_eq_true,beq_iff_eq,List.contains_iff_mem]at hd2;rcases hd2 with rfl|hd2
   ·exact FQ e he hb
   ·exact aH7 e.on (FQ e he hb) k hd2
  have Ze:k0<=i:=by
   rcases Nat.lt_or_ge i k0 with h|h
   ·rw[hpre i h]at hun;cases hun
   ·exact h
  have bJ3:i<k1:=by
   rcases Nat.lt_or_ge i k1 with h|h
   ·exact h
   ·exact(hdone (λj hj=>hself j (hP i hlt h j hj))).elim
  obtain⟨R,Mj,hRm,hob⟩:=hf i o hlo Ze bJ3;have hW:Region.wanted o (yielded l.toArray a.tmps)=gd (full.take i) a o:=by
   unfold Region.wanted gd;cases hgo:o.guard with
   |none=>rfl
   |some x=>
    obtain⟨g,b⟩:=x;have hgi:=hgu i o hlo g b hgo;simp only;rw[List.getElem?_take,if_pos hgi];unfold yielded;have hgl:g<l.length:=ahf;have hk':l.toArray[g]? =some l[g]:=(by simp[hgl]);obtain⟨R',hR'⟩:=hfe g l[g] (aX hgl) ahf;rw[hk',hR'];simp only[Option.bind_some];cases hd':l[g].dst with
    |none=>rfl
    |some d=>
     simp only[Option.bind_some,Act.eval];cases ht:a.tmps[d]? with
     |none=>simp[ht,undef]
     |some v=>simp only[Array.getD_eq_getD_getElem?,ht,Option.getD_some];cases v <;> first|rfl|(rename_i x;cases x <;> cases b <;> rfl)
  have bJ2:DC l (listed.setIfInBounds i true):=λj oj hj hl d hdj=>by
   by_cases hij:i=j
   ·subst hij;rw[hlo]at hj;injection hj with hj;subst hj;simp only[pG,List.mem_map,List.mem_filter,Array.mem_toList_iff]at hdj;obtain⟨e,⟨he,hb⟩,rfl⟩:=hdj;exact getD_set_true (FQ e he hb)
   ·rw[getD_set_ne false hij]at hl;exact getD_set_true (hdc j oj hj hl d hdj)
  have hok:okB (bnd.getD i []) (cw ws listed):=Vg _ _ (hB.2.2 i hlt).1 (λx hx b hb=>by
   have:=(hB.2.2 i hlt).2 x hx;rw[hb]at this;cases b with
   |true=>exact hself x.2 (by simpa using this)
   |false=>
    cases hcc:listed.getD x.2 false with
    |false=>rfl
    |true=>
     exfalso;simp only[Bool.or_eq_true,List.contains_iff_mem,beq_iff_eq]at this;rcases this with h1|h1
     ·have:=aH7 x.2 hcc i h1;rw[hun]at this;cases this
     ·rw[h1,hun]at hcc;cases hcc)
  have htk:(full.take i).length=i:=by rw[List.length_take,hlen];omega
  have hstep:=hob (cw ws listed) a w hok hC (λs hs'=>by have:a.tmps[s]? =a0.tmps[s]?:=hs s (λk d R' hk' hkk _ e=>by have:=hmem k d R' hk' hkk;rw[e]at this;simp at hs';exact hs' this);simp[Act.eval,this]) (PW (λe he hb d R' hR'=>hR e.on d R' hR' (FQ e ahy hb)));rw[htk]at hstep;have hnext: ∀(v:Value) (w':World),Le w w'->C (jA ws (cw ws listed) i) w'->R (gQ (a.put o.dst v) o.dst) w'->wpAny P .any l.toArray Q fuel (listed.setIfInBounds i true) (a.put o.dst v) w':=λv w' hle hC' hv=>by
   refine ih _ _ _ ?_ ⟨by simp[hsz],λj hj=>getD_set_true (hpre j hj),λj hj=>by rw[getD_set_ne false ahf];exact hno j hj,by rw[af0 hls];exact hC',?_,?_,bJ2,?_,?_⟩
   ·have:=Li hls hun l.length;rw[if_pos hlt]at this;omega
   ·cases o.dst <;> simpa[Act.put]using hd
   ·cases o.dst <;> simpa[Act.put]using hz
   ·intro s hne;have h1:a.tmps[s]? =a0.tmps[s]?:=hs s (λk d R' hk hkk hl=>hne k d R' hk hkk (getD_set_true hl));cases hod:o.dst with
    |none=>simpa[Act.put]using h1
    |some d=>have hds:d≠s:=hne i d R (by rw[Mj,hod]) Ze (by simp[hls]);simp only[Act.put];rw[Array.getElem?_setIfInBounds_ne hds];exact h1
   ·intro k d R' hk hl;by_cases hik:i=k
    ·subst hik;rw[Mj]at hk;simp only[Option.some.injEq,Prod.mk.injEq]at hk;obtain⟨rfl,rfl⟩:=hk;exact hv
    ·have hl':listed.getD k false=true:=adn;obtain⟨ok,hok',hdk,hmon⟩:=hdst k d R' hk;have h1:=hmon _ _ _ hle (hR k d R' hk hl');have:gQ (a.put o.dst v) d=gQ a d:=by
      cases hod:o.dst with
      |none=>rfl
      |some d1=>
       cases d with
       |none=>rfl
       |some d2=>have hne:d1≠d2:=λe=>hik (Fq hnd i k o ok d2 hlo hok' (by rw[hod,e]) hdk);simp[gQ,Act.eval,Act.put,Array.getElem?_setIfInBounds_ne hne]
     rw[this];exact h1
  unfold wpOp;simp only[ho];rw[hW];cases hgd:gd (full.take i) a o with
  |true=>
   rw[hgd]at hstep;simp only[if_true]at hstep⊢;refine Or.inl (Oper.wp_mono ?_ hstep);rintro a' w' ⟨v,rfl,hle,hC',hv⟩;refine hnext v w' hle hC' ?_;cases hod:o.dst with
   |none=>rw[hod]at hv;exact hv
   |some d=>rw[hod]at hv;simp only[Option.isSome_some,if_true]at hv;have hdl:d<a.tmps.size:=abR;simpa[gQ,Act.eval,Act.put,hdl]using hv
  |false=>
   rw[hgd]at hstep;simp only[Bool.false_eq_true,if_false]at hstep⊢;refine hnext undef w (GI w) hstep.1 ?_;cases hod:o.dst with
   |none=>exact hstep.2
   |some d=>have hdl:d<a.tmps.size:=abR;simpa[gQ,Act.eval,Act.put,hdl]using hstep.2
def Ll (l:List Oper):Bool:=decide (l.filterMap (·.dst)).Nodup&&(l.zipIdx.all λx=>((pG x.1).all λd=>decide (d<x.2))&&(match x.1.guard with|none=>true|some (g,_)=>decide (g<x.2)))
theorem bW {l:List Oper} {w:World} {n r:Nat} (k0 k1:Nat) (ws:List Nat) (tL:List (List Nat)) (bnd:List (List (Option Bool))) (C:List Bool->World->Prop) (Le:World->World->Prop) (fC:List Tmp)
 (hn:l.length=n) (hr:n -k0=r) (hk:(decide (k0<=k1)&&decide (k1<=n)&&decide (bnd.length=k1 -k0)&&ws.all λx=>decide (x<k1))=true) (hB:Ll l=true) (N8:YP l tL=true) (Ov:KG n tL k1=true)
 (N9:au6 n ws tL ((List.replicate k0 (ws.map λ_=>none))++bnd++List.replicate (n -k1) (ws.map λ_=>none))=true) (bI9:(((l.take k1).drop k0).filterMap (·.dst)==fC)=true) (hws:(ws.all λx=>decide (k0<=x))=true) (GI: ∀w,Le w w) (hbd:(fC.all λd=>decide (d<a0.tmps.size))=true) (hC:C (ws.map λ_=>false) w)
 (h:bH P a0 Q C Le fC ws (wpAny P .any l.toArray Q (n -k1) (oD n k1)) k0 ((l.take k1).drop k0) bnd (Kc (l.take k0))):wpAny P .any l.toArray Q r (oD n k0) a0 w:=by
 subst hn;subst hr;simp only[aM,decide_eq_true_eq,List.all_eq_true]at hk;obtain⟨⟨⟨h01,h1n⟩,hbl⟩,hwk⟩:=hk;unfold Ll at hB;simp only[aM,decide_eq_true_eq]at hB;obtain⟨hnd,hz⟩:=hB;have hdl:(Kc (l.take k0)).length=k0:=by simp[Kc];omega
 obtain⟨full,h1,h2,h3,h4⟩:=h.full (by simp[hbl];omega);rw[hdl]at h1 h2 h3;have hlen:full.length=k1:=by rw[h1];simp;omega
 have hed: ∀(i:Nat) (o:Oper),l[i]? =some o->(∀d∈pG o,d<i)∧∀g b,o.guard=some (g,b)->g<i:=λi o hi=>aad
 refine ao5 h1n N8 Ov N9 hwk GI (λd hd=>abe) hlen hnd (by simpa using bI9) (λi o hi=>(hed i o hi).1) (λi o hi=>(hed i o hi).2) ?_ ?_ h4 _ _ _ _ (by rw[MS _ _ ahf _ (aD _)]) ⟨tY _ _,?_,?_,?_,rfl,rfl,?_,λ_ _=>rfl,?_⟩
 ·intro i o hi hik;have:=congrArg (λl=>l[i]?) h2;rw[List.getElem?_take,if_pos hik]at this;rw[this];simp[Kc,hik,hi]
 ·intro i o hi hki hik;have hgo:((l.take k1).drop k0)[i -k0]? =some o:=by rw[List.getElem?_drop,List.getElem?_take,show k0+(i -k0)=i by omega,if_pos hik];exact hi
  obtain⟨R,ha,hb,hc⟩:=h3 (i -k0) o hgo;rw[show k0+(i -k0)=i by omega]at ha hc;refine⟨R,ha,hb,?_⟩;have:((List.replicate k0 (ws.map λ_=>(none:Option Bool)))++bnd++List.replicate (l.length -k1) (ws.map λ_=>none)).getD i []=bnd.getD (i -k0) []:=by rw[List.getD_eq_getElem?_getD,List.getD_eq_getElem?_getD,List.append_assoc,List.getElem?_append_right ahi,List.getElem?_append_left ahi];simp
  rw[this];exact hc
 ·intro i hi;rw[lg];simp;omega
 ·intro i hi;rw[lg];simp;omega
 ·have:cw ws (oD l.length k0)=ws.map λ_=>false:=by unfold cw;refine List.map_congr_left (λx hx=> ?_);rw[List.all_eq_true]at hws;have:=hws x hx;rw[lg];simp at this⊢;omega
  rw[this];exact hC
 ·intro i o hi hl d hd;rw[lg]at hl⊢;simp only[aM,decide_eq_true_eq]at hl⊢;have:=(hed i o hi).1 d hd;omega
 ·intro i d R hi hl;rw[lg]at hl;simp only[aM,decide_eq_true_eq]at hl;have:=congrArg (λl=>l[i]?) h2;rw[List.getElem?_take,if_pos hl.2,hi]at this;simp only[Kc,List.getElem?_map,List.getElem?_take,if_pos hl.2,aX hl.1,Option.map_some,Option.some.injEq,Prod.mk.injEq]at this;rw[this.2];trivial
theorem cK {id:Nat} {l:List Oper} {n:Nat} {w:World} (hm:P.follows .mixedOrders=true) (hn:l.length=n) (h:wpAny P .any l.toArray Q n (oD n 0) a0 (w.drewN 1)):(Code.region id l.toArray true).wp P Q a0 w:=by
 subst hn;refine wp_region_any hm ?_;have hdr:({w with drawn:=w.drawn+1} :World)=w.drewN 1:=rfl;have hp:Array.replicate l.toArray.size false=oD l.length 0:=Qa ahh (by intro i hi;omega) (λi _=>by rw[Array.getD_eq_getD_getElem?];by_cases hk:i<l.length <;> simp[hk]);rw[hdr,hp];exact h
theorem dH {l:List Oper} {n:Nat} {w:World} (hn:l.length=n) (h:Q .normal a0 w):wpAny P .any l.toArray Q 0 (oD n n) a0 w:=by
 subst hn;refine⟨?_,h⟩;rw[List.eq_nil_iff_forall_not_mem];intro i hi;obtain⟨h0,o,ho,-⟩:=mem_ready.1 hi;have hlt:i<l.length:=afH
 have h1:i<(oD l.length l.length).size:=by rw[tY];exact hlt
 have:=lg l.length l.length i;simp[h1]at h0 this;rw[this]at h0;simp at h0;omega
theorem dD {l:List Oper} {o:Oper} {n r k1:Nat} {w:World} (k:Nat) (tL:List (List Nat)) (hn:l.length=n) (hr:n -k=r+1) (hk1:k+1=k1) (ho:l[k]? =some o) (hgu:o.guard=none) (hB:Ll l=true) (N8:YP l tL=true) (Ov:KG n tL k1=true)
 (h:o.wp P a0 w (wpAny P .any l.toArray Q r (oD n k1)) Q):wpAny P .any l.toArray Q (r+1) (oD n k) a0 w:=by
 subst hn;subst hk1;unfold Ll at hB;simp only[aM,decide_eq_true_eq]at hB;have hkn:k<l.length:=ahf
 have hnx:(oD l.length k).setIfInBounds k true=oD l.length (k+1):=by
  refine Qa (by simp[tY]) (λi hi=> ?_) (λi hi=> ?_)
  ·by_cases hik:i=k
   ·subst hik;rw[Array.getD_eq_getD_getElem?,Array.getElem?_setIfInBounds_self_of_lt (by rw[tY];exact hkn)];rfl
   ·exact getD_set_true (by rw[lg];simp;omega)
  ·rw[getD_set_ne false ahf,lg];simp;omega
 have bJ7: ∀i∈Region.ready .any l.toArray (oD l.length k),i=k:=λi hi=>by
  obtain⟨h0,oi,hoi,FQ⟩:=mem_ready.1 hi;have hlt:i<l.length:=by simpa using(aI hoi)
  have hge:k<=i:=by
   have h1:i<(oD l.length k).size:=by rw[tY];exact hlt
   have:=lg l.length k i;simp[h1]at h0 this;rw[this]at h0;simp at h0;omega
  rcases Nat.lt_or_ge k i with hki|hki
  ·exfalso;unfold KG at Ov;simp only[List.all_eq_true,List.mem_range,Bool.or_eq_true,decide_eq_true_eq,List.contains_iff_mem]at Ov;have hka:k∈tL.getD i []:=by
    rcases Ov i hlt with h|h
    ·omega
    ·exact h k ahf
   have bJ6:l[i]? =some oi:=by simpa using hoi
   have hz':=zI N8 i oi bJ6;rw[List.all_eq_true]at hz';have:=hz' k hka;rw[List.any_eq_true]at this;obtain⟨d,hd1,hd2⟩:=this;simp only[pG,List.mem_map,List.mem_filter,Array.mem_toList_iff]at hd1;obtain⟨e,⟨he,hb⟩,rfl⟩:=hd1;have hdl:=FQ e he hb;have hed: ∀(i:Nat) (o:Oper),l[i]? =some o->∀d∈pG o,d<i:=λi o hi=>by have:=zI hB.2 i o hi;simp only[aM,List.all_eq_true,decide_eq_true_eq]at this;exact this.1
   have hdc:DC l (oD l.length k):=by intro i o hi hl d hd;rw[lg]at hl⊢;simp only[aM,decide_eq_true_eq]at hl⊢;have:=hed i o hi d hd;omega
   simp only[Bool.or_eq_true,beq_iff_eq,List.contains_iff_mem]at hd2;have hkl:(oD l.length k).getD k false=true:=by
    rcases hd2 with h2|hd2
    ·rw[h2]at hdl;exact hdl
    ·exact O6 N8 hed hdc (tY _ _) e.on hdl k hd2
   rw[lg]at hkl;simp at hkl
  ·omega
 refine⟨λhr0=> ?_,λi hi=> ?_⟩
 ·exfalso;have hlk:l[k]? =some l[k]:=aX hkn;have:k∈Region.ready .any l.toArray (oD l.length k):=mem_ready.2 ⟨by
   have h1:k<(oD l.length k).size:=by rw[tY];exact hkn
   have:=lg l.length k k;simp[h1]at this⊢;rw[this],l[k],by simp[hkn],λe he hb=>by have:=zI hB.2 k l[k] hlk;simp only[aM,List.all_eq_true,decide_eq_true_eq]at this;have:=this.1 e.on (BP he hb);rw[lg];simp;omega⟩
  rw[hr0]at this;cases this
 ·obtain rfl:=bJ7 i hi;unfold wpOp;have:l.toArray[i]? =some o:=by simpa using ho
  simp only[this,Region.wanted,hgu,if_true];rw[hnx];exact Or.inl h
end
theorem dQ {w:World} {b o:Nat} {cur:Array Value} {e:TypeId} {fr:Nat×Nat} (h:w.heap[b]? =some (.cells cur e fr)) (v:Value):(w.setCell ⟨b,o,none⟩ v).heap[b]? =some (.cells (cur.setIfInBounds o v) e fr):=by
 unfold World.setCell;simp only[Array.getElem?_modify,if_true,h,Option.map_some];rfl
theorem bF (w:World) {b k:Nat} (a:Addr) (v:Value) (hb:a.block=b) (hk:b≠k):(w.setCell a v).heap[k]? =w.heap[k]?:=by
 unfold World.setCell;simp only[Array.getElem?_modify];rw[if_neg (by rw[hb];exact hk)]
theorem bQ (w:World) (a:Addr) (v:Value):w.grownBy (w.setCell a v) (some a.block):=
 ⟨rfl,rfl,rfl,afp,λk _ hk=>bF w a v rfl (λe=>hk (by rw[e]))⟩
theorem jD {b:Option Nat} {w1 w2 w3:World} (h:w1.grownBy w2 b) (k:w2.grownBy w3 b):w1.grownBy w3 b:=
 ⟨k.os.trans h.os,k.tape.trans h.tape,k.output.trans h.output,aO h.size k.size,λj hj hne=>(k.block j (aV hj h.size) hne).trans (h.block j hj hne)⟩
theorem cB {w w':World} {b B:Nat} (h:w.grownBy w' (some b)) (hB:B<=b) (hB':B<=w.heap.size):Below B w w':=
 ⟨h.os,h.tape,h.output,h.size,λk hk=>h.block k ahf ahi⟩
theorem Dm {b:Option Nat} (w:World):w.grownBy w b:=⟨rfl,rfl,rfl,aD _,λ_ _ _=>rfl⟩
theorem dZ (b:Nat): ∀(vs:List Value) (o:Nat) (w:World),w.grownBy (w.setCells b o vs) (some b)
 | [],_,w=>Dm w
 |v::vs,o,w=>jD (bQ w ⟨b,o,none⟩ v) (dZ b vs (o+1) _)
theorem EF {b:Nat} {e:TypeId} {fr:Nat×Nat} : ∀(vs:List Value) (o:Nat) (w:World) (cur:Array Value),w.heap[b]? =some (.cells cur e fr)->o+vs.length<=cur.size->
 ∃cur',(w.setCells b o vs).heap[b]? =some (.cells cur' e fr)∧cur'.size=cur.size∧cur'.toList.take (o+vs.length)=cur.toList.take o++vs
 | [],o,w,cur,h,_=>⟨cur,h,rfl,ahh⟩
 |v::vs,o,w,cur,h,hl=>by
  simp only[aB]at hl;obtain⟨cur',h1,h2,h3⟩:=EF vs (o+1) (w.setCell ⟨b,o,none⟩ v) (cur.setIfInBounds o v) (dQ h v) ahi;refine⟨cur',h1,aho,?_⟩;rw[aB,show o+(vs.length+1)=o+1+vs.length by omega,h3,Array.toList_setIfInBounds];have ho:o<cur.toList.length:=ahi
  rw[List.take_succ_eq_append_getElem (by rw[List.length_set];exact ho),List.take_set,List.getElem_set_self];rw[List.set_eq_of_length_le ahi];simp
section
variable {w:World} {base:Nat} {e:TypeId} {size:Nat} {n cap g:Nat} {xs:List Value}
theorem OW (h:w.ownsRow base e size (.slice (some ⟨g,0,none⟩) (n+1) cap) (n+1) xs):w.there g (n*size) size:=by
 rcases h.2 with⟨h1,-⟩|⟨g',cap',cur,e1,-,hg,hc,-,hs,-⟩
 ·cases h1
 ·injection e1 with e1 e2 e3;injection e1 with e1;injection e1 with e1;subst e1;subst e3;intro j hj;have hlt:n*size+j<cur.size:=by rw[hs];have:(n+1)*size<=cap*size:=Nat.mul_le_mul_right _ hc;rw[Nat.add_mul]at this;omega
  refine⟨?_,?_⟩
  ·rw[cell_of_row w g _ cur e (0,0) hg];simp[hlt]
  ·simp[World.frozen?,hg]
theorem Vi {zs vs:List Value} (h:w.ownsRow base e size (.slice (some ⟨g,0,none⟩) (n+1) cap) (n+1) (xs++zs)) (hx:xs.length=n*size) (hv:vs.length=size):
 (w.setCells g (n*size) vs).ownsRow base e size (.slice (some ⟨g,0,none⟩) (n+1) cap) (n+1) (xs++vs):=by
 have hl:=h.1;rcases h.2 with⟨h1,-⟩|⟨g',cap',cur,e1,hb,hg,hc,hm,hs,ht⟩
 ·cases h1
 ·injection e1 with e1 e2 e3;injection e1 with e1;injection e1 with e1;subst e1;subst e3;have hle:(n+1)*size<=cap*size:=Nat.mul_le_mul_right _ hc;have hsp:(n+1)*size=n*size+size:=by rw[Nat.add_mul];simp
  obtain⟨cur',k1,k2,k3⟩:=EF vs (n*size) w cur hg (by rw[hv,hs];omega);refine⟨by simp[hx,hv,hsp],.inr ⟨g,cap,cur',rfl,hb,k1,hc,hm,by rw[k2,hs],?_⟩⟩;rw[hsp];rw[hv]at k3;rw[k3];congr 1;have:=congrArg (List.take (n*size)) ht;rw[List.take_take,Nat.min_eq_left ahf]at this;rw[this,List.take_append_of_le_length ahf,List.take_of_length_le ahf]
theorem Rn {ys:List Value} (h:w.ownsRow base e size (.slice (some ⟨g,0,none⟩) (n+1) cap) (n+1) (xs++ys)) (hx:xs.length=n*size):w.ownsRow base e size (.slice (some ⟨g,0,none⟩) n cap) n xs:=by
 rcases h.2 with⟨h1,-⟩|⟨g',cap',cur,e1,hb,hg,hc,hm,hs,ht⟩
 ·cases h1
 ·injection e1 with e1 e2 e3;injection e1 with e1;injection e1 with e1;subst e1;subst e3;have hsp:(n+1)*size=n*size+size:=by rw[Nat.add_mul];simp
  refine⟨hx,.inr ⟨g,cap,cur,rfl,hb,hg,ahf,hm,hs,?_⟩⟩;have:=congrArg (List.take (n*size)) ht;rw[List.take_take,Nat.min_eq_left ahf]at this;rw[this,List.take_append_of_le_length ahf,List.take_of_length_le ahf]
end
theorem GX {w w':World} {b o n:Nat} (h:w.there b o n) (hb:w'.heap[b]? =w.heap[b]?):w'.there b o n:=λj hj=>by
 rw[World.cell?_of_block (a:=⟨b,o+j,none⟩) hb,World.frozen?_of_block (a:=⟨b,o+j,none⟩) hb];exact h j hj
theorem bG {w:World} {b o:Nat} {cs:Array Value} {t:TypeId} (h:w.heap[b]? =some (.cells cs t (0,0))):w.frozen? ⟨b,o,none⟩=false:=by simp[World.frozen?,h]
theorem aG {w:World} {b j:Nat} {cs:Array Value} {t:TypeId} {fr:Nat×Nat} {u:Value} (h:w.heap[b]? =some (.cells cs t fr)) (hu:cs[j]? =some u):w.cell? ⟨b,j,none⟩=some u:=by
 rw[cell_of_row w b j cs t fr h,hu]
def kT (B:Nat) (w w':World):Prop:=w.heap.size<=w'.heap.size∧∀k,B<=k->k<w.heap.size->w'.heap[k]? =w.heap[k]?
theorem kT.refl (B:Nat) (w:World):kT B w w:=⟨aD _,λ_ _ _=>rfl⟩
theorem kT.trans {B:Nat} {w w1 w2:World} (h:kT B w w1) (k:kT B w1 w2):kT B w w2:=⟨aO h.1 k.1,λj h1 h2=>(k.2 j h1 (aV h2 h.1)).trans (h.2 j h1 h2)⟩
theorem kT.mono {B B':Nat} {w w':World} (h:kT B w w') (hB:B<=B'):kT B' w w':=⟨h.1,λj h1 h2=>h.2 j (aO hB h1) h2⟩
theorem bR {B:Nat} {w w':World} (h:Below w.heap.size w w'):kT B w w':=⟨h.size,λk _ h2=>h.block k h2⟩
theorem iM {B:Nat} (w:World) (a:Addr) (v:Value) (h:a.block<B):kT B w (w.setCell a v):=⟨afp,λk h1 _=>bF w a v rfl ahf⟩
def iH (B:Nat) (w:World) (Q:World->Prop):Prop:= ∀w',kT B w w'->Q w'
theorem iH.next {B:Nat} {w w1:World} {Q:World->Prop} (h:iH B w Q) (hm:kT B w w1):iH B w1 Q:=λw' h'=>h w' (hm.trans h')
theorem iH.now {B:Nat} {w:World} {Q:World->Prop} (h:iH B w Q):Q w:=h w (kT.refl _ _)
theorem iH.mono {B B':Nat} {w:World} {Q:World->Prop} (h:iH B' w Q) (hB:B<=B'):iH B w Q:=λw' h'=>h w' (h'.mono hB)
def ME (B:Nat) (g:Option Nat) (w w':World):Prop:=w.heap.size<=w'.heap.size∧∀k,B<=k->some k≠g->k<w.heap.size->w'.heap[k]? =w.heap[k]?
def qI (B:Nat) (g:Option Nat) (w:World) (Q:World->Prop):Prop:= ∀w',ME B g w w'->Q w'
section
variable {B B1:Nat} {g:Option Nat} {w w' w1:World} {Q:World->Prop}
theorem kT.x (h:kT B w w'):ME B g w w':=⟨h.1,λk h1 _ h2=>h.2 k h1 h2⟩
theorem ME.trans (h:ME B g w w1) (k:ME B g w1 w'):ME B g w w':=⟨aO h.1 k.1,λj h1 h2 h3=>(k.2 j h1 h2 (aV h3 h.1)).trans (h.2 j h1 h2 h3)⟩
theorem qI.next (h:qI B g w Q) (ha:ME B g w w1):qI B g w1 Q:=λw' h'=>h w' (ha.trans h')
theorem Vu (h:iH B1 w Q) (hB:B<=B1) (hg: ∀k,g=some k->k<B1):qI B g w Q:=λw' ha=>
 h w' ⟨ha.1,λk h1 h2=>ha.2 k (aO hB h1) (λe=>absurd (hg k e.symm) ahf) h2⟩
theorem qI.move {g':Nat} (h:qI B g w Q) (hg:w.grownBy w' g) (hn:g=some g'∨g'=w.heap.size):qI B (some g') w' Q:=λw2 h2=>
 h w2 ⟨aO hg.size h2.1,λk h3 h4 h5=>by
   have hk:some k≠some g':=λe=>by
    rcases hn with rfl|rfl
    ·exact h4 e
    ·injection e with e;omega
   exact(h2.2 k h3 hk (aV h5 hg.size)).trans (hg.block k h5 h4)⟩
end
theorem rW {α:Type} {f:α->List Value} {m:Nat} (hf: ∀x,(f x).length=m): ∀xs:List α,(xs.flatMap f).length=xs.length*m
 | []=>ahh
 |x::xs=>by rw[List.flatMap_cons,au,rW hf xs,hf,aB,Nat.add_mul,Nat.one_mul,Nat.add_comm]
theorem flat_get {α:Type} {f:α->List Value} {m:Nat} (hf: ∀x,(f x).length=m): ∀(xs:List α) (k:Nat) (x:α) (j:Nat) (u:Value),xs[k]? =some x->(f x)[j]? =some u->(xs.flatMap f)[k*m+j]? =some u
 | [],_,_,_,_,h,_=>ahv
 |y::xs,0,x,j,u,h,hu=>by simp at h;subst h;have hj:j<(f y).length:=(List.getElem?_eq_some_iff.1 hu).1;rw[List.flatMap_cons,Nat.zero_mul,aU,List.getElem?_append_left hj];exact hu
 |y::xs,k+1,x,j,u,h,hu=>by have ih:=flat_get hf xs k x j u aiy hu;rw[List.flatMap_cons,List.getElem?_append_right (by rw[hf,Nat.add_mul];omega),hf,show(k+1)*m+j -m=k*m+j by rw[Nat.add_mul];omega];exact ih
structure Grow {α:Type} (f:α->List Value) (m:Nat) (I:α->World->Prop) (ty:TypeId) (B:Nat) (w:World) (v:Value) (xs:List α):Prop where
 own:w.ownsRow B ty m v xs.length (xs.flatMap f)
 stay: ∀x∈xs,qI B v.ownBlock w (I x)
section
variable {α:Type} {f:α->List Value} {m:Nat} {I:α->World->Prop} {ty:TypeId} {B:Nat} {w w':World} {v:Value} {xs:List α}
theorem Grow.nil (f:α->List Value) (m:Nat) (I:α->World->Prop) (ty:TypeId) (B:Nat) (w:World):Grow f m I ty B w (.slice none 0 0) []:=⟨World.ownsRow_nil _ _ _ _,λx hx=>ahQ⟩
theorem Grow.lt (h:Grow f m I ty B w v xs): ∀k,v.ownBlock=some k->B<=k∧k<w.heap.size:=h.own.lt
theorem Grow.len (h:Grow f m I ty B w v xs): ∃ao cap,v= .slice ao xs.length cap:=by
 rcases h.own.2 with⟨h1,h2⟩|⟨g,cap,cur,h1,-⟩
 ·exact⟨none,0,by rw[h1,h2]⟩
 ·exact⟨_,_,h1⟩
theorem Grow.next (h:Grow f m I ty B w v xs) (ha:kT B w w'):Grow f m I ty B w' v xs:=by
 refine⟨⟨h.own.1,?_⟩,λx hx=>(h.stay x hx).next ha.x⟩;rcases h.own.2 with h1|⟨g,cap,cur,h1,h2,h3,h4⟩
 ·exact .inl h1
 ·exact .inr ⟨g,cap,cur,h1,h2,(ha.2 g h2 (aI h3)).trans h3,h4⟩
theorem Grow.push {x:α} {g cap n:Nat} (h:Grow f m I ty B w v xs) (hx:qI B v.ownBlock w (I x)) (hn:n=xs.length+1) (hown:w'.ownsRow B ty m (.slice (some ⟨g,0,none⟩) n cap) n (xs.flatMap f++f x)) (hg:w.grownBy w' v.ownBlock) (hmv:v.ownBlock=some g∨g=w.heap.size):
 Grow f m I ty B w' (.slice (some ⟨g,0,none⟩) n cap) (xs++[x]):=by
 subst hn;refine⟨aan,λy hy=> ?_⟩;show qI B (some g) w' (I y);rcases List.mem_append.1 hy with hy|hy
 ·exact(h.stay y hy).move hg hmv
 ·rw[List.mem_singleton.1 hy];exact hx.move hg hmv
theorem Grow.cells (hf: ∀x,(f x).length=m) (h:Grow f m I ty B w v xs):iH B w (λw2=>(∀x∈xs,I x w2)∧∃ao cap,v= .slice ao xs.length cap∧xs.length<=cap∧∀k x,xs[k]? =some x->∃g,ao=some ⟨g,0,none⟩∧B<=g∧g<w2.heap.size∧∀j u,(f x)[j]? =some u->w2.cell? ⟨g,k*m+j,none⟩=some u):=λw2 h2=>by
 refine⟨λx hx=>(h.stay x hx) w2 h2.x,?_⟩;rcases h.own.2 with⟨h1,h3⟩|⟨g,cap,cur,h1,hB,hg,hc,-,hs,ht⟩
 ·refine⟨none,0,by rw[h1,h3],ahf,λk x hk=> ?_⟩;have:=(List.getElem?_eq_some_iff.1 hk).1;omega
 ·refine⟨some ⟨g,0,none⟩,cap,h1,hc,λk x hk=>⟨g,rfl,hB,?_⟩⟩;have hg2:=(h2.2 g hB (aI hg)).trans hg;refine⟨(aI hg2),λj u hu=> ?_⟩;have hF:=flat_get hf xs k x j u hk hu;rw[<- ht]at hF;have hlt:=(List.getElem?_eq_some_iff.1 hF).1;rw[List.getElem?_take_of_lt acI]at hF;exact aG hg2 ahL
end
theorem gG {W:World} {cs:List Value} {t:TypeId} {fr:Nat×Nat} {g:Nat} (h:W.heap[g]? =some (.cells cs.toArray t fr)): ∀j u,cs[j]? =some u->W.cell? ((⟨g,0,none⟩:Addr).add j)=some u:=λj u hu=>by
 have:=aG (j:=j) (u:=u) h aiq;rcases Nat.eq_zero_or_pos j with rfl|hj
 ·simpa[Addr.add]using this
 ·simpa[Addr.add,Nat.ne_of_gt hj]using this
def Ui (op n:Int) (nm:ByteArray) (kids:bV) (ao:Option Addr) (cap:Nat):List Value:=[.int .i64 op,.int .i64 n,.string nm,.slice ao kids.len cap]
def exV (op n:Int) (nm:ByteArray) (kids:bV) (ao:Option Addr) (cap:Nat):Value:= .agg #[.int .i64 op,.int .i64 n,.string nm,.slice ao kids.len cap]
theorem Vx {B:Nat} {w:World} {g:Nat} {cs:Array Value} {t:TypeId} {fr:Nat×Nat} (hb:w.heap[g]? =some (.cells cs t fr)) (ht:B<=g):iH B w (λw2=>g<w2.heap.size∧∀j u,cs[j]? =some u->w2.cell? ⟨g,j,none⟩=some u):=λw2 h=>by
 have h2:=(h.2 g ht (aI hb)).trans hb;exact⟨(aI h2),λj u hu=>aG h2 hu⟩
theorem Nr {B:Nat} {w:World} {g:Nat} {op n:Int} {nm:ByteArray} {kids:bV} {ao:Option Addr} {cap:Nat} {t:TypeId} {fr:Nat×Nat} (hb:w.heap[g]? =some (.cells (Ui op n nm kids ao cap).toArray t fr)) (ht:B<=g) (hok:qR op n nm kids) (hk:iH B w (λw2=>kids.At w2 w2.heap.size ao 0)):
 iH B w (λw2=>(bV.cons op n nm kids .nil).At w2 w2.heap.size (some ⟨g,0,none⟩) 0):=λw2 h=>by
 obtain⟨hl,hc⟩:=Vx hb ht w2 h;exact⟨⟨g,0,ao,cap,rfl,hl,hc 0 _ rfl,hc 1 _ rfl,hc 2 _ rfl,hc 3 _ rfl,hok,hk w2 h⟩,trivial⟩
theorem Ns {B:Nat} {w:World} {g:Nat} {op n op' n':Int} {nm nm':ByteArray} {kids iy:bV} {ao mK:Option Addr} {cap cap':Nat} {t:TypeId} {fr:Nat×Nat} (hb:w.heap[g]? =some (.cells (Ui op n nm kids ao cap++Ui op' n' nm' iy mK cap').toArray t fr)) (ht:B<=g) (hok:qR op n nm kids) (hk:iH B w (λw2=>kids.At w2 w2.heap.size ao 0)) (hok':qR op' n' nm' iy) (hk':iH B w (λw2=>iy.At w2 w2.heap.size mK 0)):
 iH B w (λw2=>(bV.cons op n nm kids (.cons op' n' nm' iy .nil)).At w2 w2.heap.size (some ⟨g,0,none⟩) 0):=λw2 h=>by
 obtain⟨hl,hc⟩:=Vx hb ht w2 h;exact⟨⟨g,0,ao,cap,rfl,hl,hc 0 _ rfl,hc 1 _ rfl,hc 2 _ rfl,hc 3 _ rfl,hok,hk w2 h⟩,⟨g,0,mK,cap',rfl,hl,hc 4 _ rfl,hc 5 _ rfl,hc 6 _ rfl,hc 7 _ rfl,hok',hk' w2 h⟩,trivial⟩
theorem GV {w:World} {g:Nat} {cs:Array Value} {t:TypeId} (h:w.heap[g]? =some (.cells cs t (0,0))) {n:Nat} (hn:n<=cs.size):w.there g 0 n:=λj hj=>by
 refine⟨?_,bG h⟩;rw[cell_of_row w g _ cs t (0,0) h];simp;omega
theorem mP {w:World} {g:Nat} {cs:Array Value} {t:TypeId} {vs:List Value} (h:w.heap[g]? =some (.cells cs t (0,0))) (hl:vs.length=cs.size):(w.setCells g 0 vs).heap[g]? =some (.cells vs.toArray t (0,0)):=by
 obtain⟨cur',h1,h2,h3⟩:=EF vs 0 w cs h ahf;rw[h1];have e:cur'.toList=vs:=by rw[aU,List.take_of_length_le ahi]at h3;simpa using h3
 rw[<- e]
def Holds (W:World):List (Nat×Nat×Value)->Prop
 | []=>True
 |f::r=>(f.1<W.heap.size∧W.cell? ⟨f.1,f.2.1,none⟩=some f.2.2)∧Holds W r
theorem Holds.next {W W':World} (hb:Below W.heap.size W W'): ∀ {l:List (Nat×Nat×Value)},Holds W l->Holds W' l
 | [],_=>trivial
 |_::_,⟨⟨h1,h2⟩,h3⟩=>⟨⟨aV h1 hb.size,(hb.cell h1).trans h2⟩,h3.next hb⟩
def Sit (w W:World) (fs:List (Nat×Nat×Value)):Prop:=Below w.heap.size w W∧Holds W fs
theorem Sit.start (w:World):Sit w w []:=⟨ak _ _,trivial⟩
theorem Sit.next {w W W':World} {fs:List (Nat×Nat×Value)} (h:Sit w W fs) (hb:Below W.heap.size W W'):Sit w W' fs:=
 ⟨h.1.trans (hb.mono h.1.size),h.2.next hb⟩
theorem Sit.draws {w W:World} {fs:List (Nat×Nat×Value)} (h:Sit w W fs) (n:Nat):Sit w (W.drewN n) fs:=h.next (below_drewN (ak _ _) n)
def ac5 (W:World):List (Nat×Nat×Value)->Prop
 | []=>True
 |f::r=>W.cell? ⟨f.1,f.2.1,none⟩=some f.2.2∧ac5 W r
theorem Sit.cs {w W:World} : ∀ {fs:List (Nat×Nat×Value)},Sit w W fs->ac5 W fs
 | [],_=>trivial
 |_::_,h=>⟨h.2.1.2,Sit.cs ⟨h.1,h.2.2⟩⟩
def ac6 {α:Type} (F:α->World):List (Nat×Nat×Value)->Prop
 | []=>True
 |f::r=>(∀x,(F x).cell? ⟨f.1,f.2.1,none⟩=some f.2.2)∧ac6 F r
theorem Sit.Ca {α:Type} {F:α->World} {w W:World} : ∀ {fs:List (Nat×Nat×Value)},Sit w W fs->(∀x,Below W.heap.size W (F x))->ac6 F fs
 | [],_,_=>trivial
 |_::_,h,hF=>⟨λx=>(h.next (hF x)).2.1.2,Sit.Ca ⟨h.1,h.2.2⟩ hF⟩
def ac1 (W:World):List (Nat×Nat×Value)->Prop
 | []=>True
 |f::r=>(∀w',Below W.heap.size W w'->w'.cell? ⟨f.1,f.2.1,none⟩=some f.2.2)∧ac1 W r
theorem Sit.Aa {w W:World} : ∀ {fs:List (Nat×Nat×Value)},Sit w W fs->ac1 W fs
 | [],_=>trivial
 |_::_,h=>⟨λ_ hb=>(h.next hb).2.1.2,Sit.Aa ⟨h.1,h.2.2⟩⟩
theorem aA (W:World) (o:Obj):Below W.heap.size W (W.alloc o):=(ak _ _).alloc (aD _) _
theorem Sit.yP {w W:World} {fs:List (Nat×Nat×Value)} {n:Nat} (h:Sit w W fs) (hn:W.heap.size=n) (a b:Value) (t:TypeId):
 Sit w (W.alloc (.cells #[a,b] t)) ((n,0,a)::(n,1,b)::fs):=by
 subst hn;exact⟨(h.next (aA _ _)).1,⟨ahh,fu W [a,b] t 0⟩,⟨ahh,fu W [a,b] t 1⟩,(h.next (aA _ _)).2⟩
theorem Sit.Bd {w W:World} {fs:List (Nat×Nat×Value)} {n:Nat} (h:Sit w W fs) (hn:W.heap.size=n) (a b c d:Value) (t:TypeId):
 Sit w (W.alloc (.cells #[a,b,c,d] t)) ((n,0,a)::(n,1,b)::(n,2,c)::(n,3,d)::fs):=by
 subst hn;exact⟨(h.next (aA _ _)).1,⟨ahh,fu W [a,b,c,d] t 0⟩,⟨ahh,fu W [a,b,c,d] t 1⟩,⟨ahh,fu W [a,b,c,d] t 2⟩,⟨ahh,fu W [a,b,c,d] t 3⟩,(h.next (aA _ _)).2⟩
theorem Sit.U7 {w W:World} {fs:List (Nat×Nat×Value)} {n:Nat} (h:Sit w W fs) (hn:W.heap.size=n) (a b c d e f:Value) (t:TypeId):
 Sit w (W.alloc (.cells #[a,b,c,d,e,f] t)) ((n,0,a)::(n,1,b)::(n,2,c)::(n,3,d)::(n,4,e)::(n,5,f)::fs):=by
 subst hn;exact⟨(h.next (aA _ _)).1,⟨ahh,fu W [a,b,c,d,e,f] t 0⟩,⟨ahh,fu W [a,b,c,d,e,f] t 1⟩,⟨ahh,fu W [a,b,c,d,e,f] t 2⟩,⟨ahh,fu W [a,b,c,d,e,f] t 3⟩,⟨ahh,fu W [a,b,c,d,e,f] t 4⟩,⟨ahh,fu W [a,b,c,d,e,f] t 5⟩,(h.next (aA _ _)).2⟩
theorem Sit.Ab {w W:World} {fs:List (Nat×Nat×Value)} {n:Nat} (hs:Sit w W fs) (hn:W.heap.size=n) (a b c d e f g h i j k:Value) (t:TypeId):
 Sit w (W.alloc (.cells #[a,b,c,d,e,f,g,h,i,j,k] t)) ((n,0,a)::(n,1,b)::(n,2,c)::(n,3,d)::(n,4,e)::(n,5,f)::(n,6,g)::(n,7,h)::(n,8,i)::(n,9,j)::(n,10,k)::fs):=by
 subst hn;exact⟨(hs.next (aA _ _)).1,⟨ahh,fu W [a,b,c,d,e,f,g,h,i,j,k] t 0⟩,⟨ahh,fu W [a,b,c,d,e,f,g,h,i,j,k] t 1⟩,⟨ahh,fu W [a,b,c,d,e,f,g,h,i,j,k] t 2⟩,⟨ahh,fu W [a,b,c,d,e,f,g,h,i,j,k] t 3⟩,⟨ahh,fu W [a,b,c,d,e,f,g,h,i,j,k] t 4⟩,⟨ahh,fu W [a,b,c,d,e,f,g,h,i,j,k] t 5⟩,⟨ahh,fu W [a,b,c,d,e,f,g,h,i,j,k] t 6⟩,⟨ahh,fu W [a,b,c,d,e,f,g,h,i,j,k] t 7⟩,⟨ahh,fu W [a,b,c,d,e,f,g,h,i,j,k] t 8⟩,⟨ahh,fu W [a,b,c,d,e,f,g,h,i,j,k] t 9⟩,⟨ahh,fu W [a,b,c,d,e,f,g,h,i,j,k] t 10⟩,(hs.next (aA _ _)).2⟩
namespace Md
structure De where
 kind:Int
 line:Int
 nm:ByteArray
 size:Int
 init:Int
 on:ByteArray
def De.Ok (d:De):Prop:=cO d.kind∧cO d.line∧d.nm.size<=maxLen∧cO d.size∧cO d.init∧d.on.size<=maxLen
structure dM where
 op:Int
 line:Int
 nm:ByteArray
 arg:ByteArray
 idx:bV
 dY:Int
 xn:Int
 dX:ByteArray
 bM:bV
inductive bf where
 |nil
 |cons (h:dM) (body els rest:bf)
def bf.len:bf->Nat
 | .nil=>0
 | .cons _ _ _ r=>r.len+1
def bf.All (Q:dM->bf->bf->Prop):bf->Prop
 | .nil=>True
 | .cons h b e r=>Q h b e∧r.All Q
theorem bf.qG {Q:dM->bf->bf->Prop} (step: ∀h b e,b.All Q->e.All Q->Q h b e): ∀l:bf,l.All Q
 | .nil=>trivial
 | .cons h b e r=>⟨step h b e (qG step b) (qG step e),qG step r⟩
structure Th where
 nm:ByteArray
 line:Int
 cZ:List ByteArray
 body:bf
def fT (w:World) (B:Nat):List ByteArray->Option Addr->Nat->Prop
 | [],_,_=>True
 |s::r,ao,k=>(∃b off,ao=some ⟨b,off,none⟩∧b<B∧w.cell? ⟨b,off+k,none⟩=some (.string s)∧s.size<=maxLen)∧fT w B r ao (k+1)
def jG (w:World) (B:Nat):List De->Option Addr->Nat->Prop
 | [],_,_=>True
 |d::r,ao,k=>(∃b off,ao=some ⟨b,off,none⟩∧b<B∧w.cell? ⟨b,off+k*6,none⟩=some (.int .i64 d.kind)∧w.cell? ⟨b,off+k*6+1,none⟩=some (.int .i64 d.line)∧
   w.cell? ⟨b,off+k*6+2,none⟩=some (.string d.nm)∧w.cell? ⟨b,off+k*6+3,none⟩=some (.int .i64 d.size)∧w.cell? ⟨b,off+k*6+4,none⟩=some (.int .i64 d.init)∧
   w.cell? ⟨b,off+k*6+5,none⟩=some (.string d.on)∧d.Ok)∧jG w B r ao (k+1)
def A9 (h:dM) (body els:bf):Prop:=
 cO h.op∧cO h.line∧h.nm.size<=maxLen∧h.arg.size<=maxLen∧h.idx.len<=maxLen∧qR h.dY h.xn h.dX h.bM∧body.len<=maxLen∧els.len<=maxLen
def bf.At (w:World) (B:Nat):bf->Option Addr->Nat->Prop
 | .nil,_,_=>True
 | .cons h body els rest,ao,k=>
   (∃b off gu eG gY fD dR dA jc gZ,ao=some ⟨b,off,none⟩∧b<B∧w.cell? ⟨b,off+k*11,none⟩=some (.int .i64 h.op)∧w.cell? ⟨b,off+k*11+1,none⟩=some (.int .i64 h.line)∧
    w.cell? ⟨b,off+k*11+2,none⟩=some (.string h.nm)∧w.cell? ⟨b,off+k*11+3,none⟩=some (.string h.arg)∧w.cell? ⟨b,off+k*11+4,none⟩=some (.slice gu h.idx.len eG)∧
    w.cell? ⟨b,off+k*11+5,none⟩=some (.int .i64 h.dY)∧w.cell? ⟨b,off+k*11+6,none⟩=some (.int .i64 h.xn)∧w.cell? ⟨b,off+k*11+7,none⟩=some (.string h.dX)∧w.cell? ⟨b,off+k*11+8,none⟩=some (.slice gY h.bM.len fD)∧
    w.cell? ⟨b,off+k*11+9,none⟩=some (.slice dR body.len dA)∧w.cell? ⟨b,off+k*11+10,none⟩=some (.slice jc els.len gZ)∧A9 h body els∧
    h.idx.At w B gu 0∧h.bM.At w B gY 0∧body.At w B dR 0∧els.At w B jc 0)∧rest.At w B ao (k+1)
def Th.Ok (t:Th):Prop:=t.nm.size<=maxLen∧cO t.line∧t.cZ.length<=maxLen∧t.body.len<=maxLen
def iP (w:World) (B:Nat):List Th->Option Addr->Nat->Prop
 | [],_,_=>True
 |t::r,ao,k=>(∃b off iO eF dR dA,ao=some ⟨b,off,none⟩∧b<B∧w.cell? ⟨b,off+k*4,none⟩=some (.string t.nm)∧w.cell? ⟨b,off+k*4+1,none⟩=some (.int .i64 t.line)∧
   w.cell? ⟨b,off+k*4+2,none⟩=some (.slice iO t.cZ.length eF)∧w.cell? ⟨b,off+k*4+3,none⟩=some (.slice dR t.body.len dA)∧t.Ok∧fT w B t.cZ iO 0∧t.body.At w B dR 0∧t.cZ.length<=eF)∧iP w B r ao (k+1)
section
variable {w w':World} {B B':Nat}
theorem fT.below (hb:Below B w w'): ∀ {l:List ByteArray} {ao:Option Addr} {k:Nat},fT w B l ao k->fT w' B l ao k
 | [],_,_,_=>trivial
 |_::_,_,_,⟨⟨b,off,e,hB,c,hs⟩,hr⟩=>⟨⟨b,off,e,hB,(hb.cell hB).trans c,hs⟩,fT.below hb hr⟩
theorem fT.mono (h:B<=B'): ∀ {l:List ByteArray} {ao:Option Addr} {k:Nat},fT w B l ao k->fT w B' l ao k
 | [],_,_,_=>trivial
 |_::_,_,_,⟨⟨b,off,e,hB,c,hs⟩,hr⟩=>⟨⟨b,off,e,aV hB h,c,hs⟩,fT.mono h hr⟩
theorem fT.same {l:List ByteArray} {ao:Option Addr} {k:Nat} (h:fT w w.heap.size l ao k) (hb:Below w.heap.size w w'):fT w' w'.heap.size l ao k:=(h.below hb).mono hb.size
theorem fT.drop: ∀ {l:List ByteArray} {ao:Option Addr} {k:Nat} (i:Nat),fT w B l ao k->fT w B (l.drop i) ao (k+i)
 |_,_,_,0,h=>h
 | [],_,_,_+1,_=>by simp[fT]
 |_::_,_,k,i+1,⟨_,hr⟩=>by have:=fT.drop i hr;rw[List.drop_succ_cons];rwa [Nat.add_assoc,Nat.add_comm 1 i]at this
theorem jG.below (hb:Below B w w'): ∀ {l:List De} {ao:Option Addr} {k:Nat},jG w B l ao k->jG w' B l ao k
 | [],_,_,_=>trivial
 |_::_,_,_,⟨⟨b,off,e,hB,c0,c1,c2,c3,c4,c5,hs⟩,hr⟩=>⟨⟨b,off,e,hB,(hb.cell hB).trans c0,(hb.cell hB).trans c1,(hb.cell hB).trans c2,(hb.cell hB).trans c3,(hb.cell hB).trans c4,(hb.cell hB).trans c5,hs⟩,jG.below hb hr⟩
theorem jG.mono (h:B<=B'): ∀ {l:List De} {ao:Option Addr} {k:Nat},jG w B l ao k->jG w B' l ao k
 | [],_,_,_=>trivial
 |_::_,_,_,⟨⟨b,off,e,hB,c⟩,hr⟩=>⟨⟨b,off,e,aV hB h,c⟩,jG.mono h hr⟩
theorem jG.same {l:List De} {ao:Option Addr} {k:Nat} (h:jG w w.heap.size l ao k) (hb:Below w.heap.size w w'):jG w' w'.heap.size l ao k:=(h.below hb).mono hb.size
theorem jG.drop: ∀ {l:List De} {ao:Option Addr} {k:Nat} (i:Nat),jG w B l ao k->jG w B (l.drop i) ao (k+i)
 |_,_,_,0,h=>h
 | [],_,_,_+1,_=>by simp[jG]
 |_::_,_,k,i+1,⟨_,hr⟩=>by have:=jG.drop i hr;rw[List.drop_succ_cons];rwa [Nat.add_assoc,Nat.add_comm 1 i]at this
theorem fT.take: ∀ {pre R:List ByteArray} {ao:Option Addr} {k:Nat},fT w B (pre++R) ao k->fT w B pre ao k
 | [],_,_,_,_=>trivial
 |_::_,_,_,_,h=>⟨h.1,fT.take h.2⟩
theorem jG.take: ∀ {pre R:List De} {ao:Option Addr} {k:Nat},jG w B (pre++R) ao k->jG w B pre ao k
 | [],_,_,_,_=>trivial
 |_::_,_,_,_,h=>⟨h.1,jG.take h.2⟩
theorem bf.At.below (hb:Below B w w'): ∀ {l:bf} {ao:Option Addr} {k:Nat},l.At w B ao k->l.At w' B ao k
 | .nil,_,_,_=>trivial
 | .cons _ _ _ _,_,_,h=>by obtain⟨⟨b,off,gu,eG,gY,fD,dR,dA,jc,gZ,e,hB,c0,c1,c2,c3,c4,c5,c6,c7,c8,c9,c10,hok,h1,h2,h3,h4⟩,hr⟩:=h;exact⟨⟨b,off,gu,eG,gY,fD,dR,dA,jc,gZ,e,hB,(hb.cell hB).trans c0,(hb.cell hB).trans c1,(hb.cell hB).trans c2,(hb.cell hB).trans c3,(hb.cell hB).trans c4,(hb.cell hB).trans c5,(hb.cell hB).trans c6,(hb.cell hB).trans c7,(hb.cell hB).trans c8,(hb.cell hB).trans c9,(hb.cell hB).trans c10,hok,h1.below hb,h2.below hb,h3.below hb,h4.below hb⟩,hr.below hb⟩
theorem bf.At.mono (h:B<=B'): ∀ {l:bf} {ao:Option Addr} {k:Nat},l.At w B ao k->l.At w B' ao k
 | .nil,_,_,_=>trivial
 | .cons _ _ _ _,_,_,h'=>by obtain⟨⟨b,off,gu,eG,gY,fD,dR,dA,jc,gZ,e,hB,c0,c1,c2,c3,c4,c5,c6,c7,c8,c9,c10,hok,h1,h2,h3,h4⟩,hr⟩:=h';exact⟨⟨b,off,gu,eG,gY,fD,dR,dA,jc,gZ,e,aV hB h,c0,c1,c2,c3,c4,c5,c6,c7,c8,c9,c10,hok,h1.mono h,h2.mono h,h3.mono h,h4.mono h⟩,hr.mono h⟩
theorem bf.At.same {l:bf} {ao:Option Addr} {k:Nat} (h:l.At w w.heap.size ao k) (hb:Below w.heap.size w w'):l.At w' w'.heap.size ao k:=(h.below hb).mono hb.size
theorem iP.below (hb:Below B w w'): ∀ {l:List Th} {ao:Option Addr} {k:Nat},iP w B l ao k->iP w' B l ao k
 | [],_,_,_=>trivial
 |_::_,_,_,⟨⟨b,off,iO,eF,dR,dA,e,hB,c0,c1,c2,c3,hs,ht,hst⟩,hr⟩=>⟨⟨b,off,iO,eF,dR,dA,e,hB,(hb.cell hB).trans c0,(hb.cell hB).trans c1,(hb.cell hB).trans c2,(hb.cell hB).trans c3,hs,ht.below hb,hst.1.below hb,hst.2⟩,iP.below hb hr⟩
theorem iP.mono (h:B<=B'): ∀ {l:List Th} {ao:Option Addr} {k:Nat},iP w B l ao k->iP w B' l ao k
 | [],_,_,_=>trivial
 |_::_,_,_,⟨⟨b,off,iO,eF,dR,dA,e,hB,c0,c1,c2,c3,hs,ht,hst⟩,hr⟩=>⟨⟨b,off,iO,eF,dR,dA,e,aV hB h,c0,c1,c2,c3,hs,ht.mono h,hst.1.mono h,hst.2⟩,iP.mono h hr⟩
theorem iP.same {l:List Th} {ao:Option Addr} {k:Nat} (h:iP w w.heap.size l ao k) (hb:Below w.heap.size w w'):iP w' w'.heap.size l ao k:=(h.below hb).mono hb.size
theorem iP.drop: ∀ {l:List Th} {ao:Option Addr} {k:Nat} (i:Nat),iP w B l ao k->iP w B (l.drop i) ao (k+i)
 |_,_,_,0,h=>h
 | [],_,_,_+1,_=>by simp[iP]
 |_::_,_,k,i+1,⟨_,hr⟩=>by have:=iP.drop i hr;rw[List.drop_succ_cons];rwa [Nat.add_assoc,Nat.add_comm 1 i]at this
theorem iP.take: ∀ {pre R:List Th} {ao:Option Addr} {k:Nat},iP w B (pre++R) ao k->iP w B pre ao k
 | [],_,_,_,_=>trivial
 |_::_,_,_,_,h=>⟨h.1,iP.take h.2⟩
end
structure Pr where
 ds:List De
 ts:List Th
def Pr.At (w:World) (p:Pr) (aQ aR:Option Addr):Prop:=p.ds.length<=maxLen∧p.ts.length<=maxLen∧jG w w.heap.size p.ds aQ 0∧iP w w.heap.size p.ts aR 0
theorem Pr.At.same {w w':World} {p:Pr} {aQ aR:Option Addr} (h:p.At w aQ aR) (hb:Below w.heap.size w w'):p.At w' aQ aR:=⟨h.1,h.2.1,h.2.2.1.same hb,h.2.2.2.same hb⟩
def gM (d:De):Int:=
 if d.kind==1 then(if d.size==0 then 2 else 3)else if d.kind==2 then 2 else if d.kind==3 then 4 else if d.kind==4 then 5 else if d.kind==5 then 6 else if d.kind==6 then 7 else 9
def qK (ds:List De) (nm:ByteArray):Option Int:=(ds.find? λd=>d.nm.toList==nm.toList).map gM
def uE (ts:List Th) (nm:ByteArray):Int:=if ts.any λt=>t.nm.toList==nm.toList then 8 else 0
def rO (ts:List Th) (i:Int):List ByteArray:=if 0<=i then((ts[i.toNat]?).map (·.cZ)).getD []else []
def sN (l:List ByteArray) (nm:ByteArray):Bool:=l.any λs=>s.toList==nm.toList
def mean (p:Pr) (i:Int) (nm:ByteArray):Int:=if sN (rO p.ts i) nm then 1 else(qK p.ds nm).getD (uE p.ts nm)
end Md
section
variable {w W1:World} {cs ds:Array Value} {t u:TypeId} {b:Nat} {f:Nat×Nat} {x y z p q s x' y' z' p' q':Value} {r:List Value}
theorem oJ (h:w.alloc (.cells cs t)=W1): ∃nb,w.heap.size=nb∧aj (Below w.heap.size w W1)∧aj (Below nb w W1)∧aj (W1.heap[nb]? =some (.cells cs t (0,0)))∧aj (W1.heap.size=nb+1):=by
 subst h;exact⟨_,rfl,ah (aA _ _),ah (aA _ _),ah (heap_alloc_new _ _),ah ahh⟩
theorem jq {o:Obj} (hb:Below w.heap.size w W1) (h:aj (w.heap[b]? =some o)):aj (W1.heap[b]? =some o):=ah ((hb.block _ (aI h.o)).trans h.o)
theorem al2 (h:(w.alloc (.cells cs t)).alloc (.cells ds u)=W1): ∃nb,w.heap.size=nb∧aj (w.heap.size=nb)∧aj (Below nb w W1)∧aj (W1.heap[nb]? =some (.cells cs t (0,0)))∧aj (W1.heap[nb+1]? =some (.cells ds u (0,0)))∧aj (W1.heap.size=nb+2):=by
 subst h;have h2:=heap_alloc_new (w.alloc (.cells cs t)) (.cells ds u);exact⟨_,rfl,ah rfl,ah ((aA _ _).alloc ahh _),ah (by rw[heap_alloc_old _ _ ahh];exact heap_alloc_new _ _),ah aho,ah ahh⟩
theorem al3 (h:(w.alloc (.cells cs t)).alloc (.cells ds u)=W1): ∃nb,w.heap.size=nb∧aj (w.heap.size=nb)∧aj (Below w.heap.size w W1)∧aj (Below nb w W1)∧aj (W1.heap[nb]? =some (.cells cs t (0,0)))∧aj (W1.heap[nb+1]? =some (.cells ds u (0,0)))∧aj (W1.heap.size=nb+2):=by
 obtain⟨nb,h1,h2,h3,h4,h5,h6⟩:=al2 h;exact⟨nb,h1,h2,ah (by rw[h1];exact h3.o),h3,h4,h5,h6⟩
theorem am9 {b:Nat} : ∀(vs:List Value) (o:Nat) (w:World),(w.setCells b o vs).heap.size=w.heap.size
 | [],_,_=>rfl
 |_::r,_,_=>by rw[World.setCells,am9 r];simp[World.setCell]
theorem Qb {wz:World} {vs:List Value} (h0:w.setCells b 0 vs=wz) (h:w.heap[b]? =some (.cells cs t (0,0))) (hl:vs.length=cs.size):aj (wz.heap[b]? =some (.cells vs.toArray t (0,0)))∧aj (w.grownBy wz (some b))∧aj (wz.heap.size=w.heap.size):=by
 subst h0;exact⟨ah (mP h hl),ah (dZ _ _ _ _),ah (am9 _ _ _)⟩
theorem fr7 (h:w.heap[b]? =some (.cells cs t (0,0))):w.frozen? ⟨b,0,none⟩=false∧w.frozen? ⟨b,1,none⟩=false∧w.frozen? ⟨b,2,none⟩=false∧w.frozen? ⟨b,3,none⟩=false∧w.frozen? ⟨b,4,none⟩=false∧w.frozen? ⟨b,5,none⟩=false∧w.frozen? ⟨b,6,none⟩=false:=
 ⟨bG h,bG h,bG h,bG h,bG h,bG h,bG h⟩
theorem uK (h:w.heap[b]? =some (.cells (x::y::r).toArray t f)):w.cell? ⟨b,0,none⟩=some x∧w.cell? ⟨b,1,none⟩=some y:=⟨aG (j:=0) h rfl,aG (j:=1) h rfl⟩
theorem K3 (h:w.heap[b]? =some (.cells (x::y::z::r).toArray t f)):w.cell? ⟨b,0,none⟩=some x∧w.cell? ⟨b,1,none⟩=some y∧w.cell? ⟨b,2,none⟩=some z:=⟨(uK h).1,(uK h).2,aG (j:=2) h rfl⟩
theorem cl4 (h:w.heap[b]? =some (.cells (x::y::z::p::r).toArray t f)):w.cell? ⟨b,0,none⟩=some x∧w.cell? ⟨b,1,none⟩=some y∧w.cell? ⟨b,2,none⟩=some z∧w.cell? ⟨b,3,none⟩=some p:=⟨(K3 h).1,(K3 h).2.1,(K3 h).2.2,aG (j:=3) h rfl⟩
theorem zn (h:w.heap[b]? =some (.cells (x::y::z::p::q::s::r).toArray t f)):w.cell? ⟨b,0,none⟩=some x∧w.cell? ⟨b,1,none⟩=some y∧w.cell? ⟨b,2,none⟩=some z∧w.cell? ⟨b,3,none⟩=some p∧w.cell? ⟨b,4,none⟩=some q∧w.cell? ⟨b,5,none⟩=some s:=⟨(K3 h).1,(K3 h).2.1,(K3 h).2.2,aG (j:=3) h rfl,aG (j:=4) h rfl,aG (j:=5) h rfl⟩
theorem Mg (h:w.heap[b]? =some (.cells (x::y::z::p::q::s::x'::r).toArray t f)):w.cell? ⟨b,0,none⟩=some x∧w.cell? ⟨b,1,none⟩=some y∧w.cell? ⟨b,2,none⟩=some z∧w.cell? ⟨b,3,none⟩=some p∧w.cell? ⟨b,4,none⟩=some q∧w.cell? ⟨b,5,none⟩=some s∧w.cell? ⟨b,6,none⟩=some x':=⟨(K3 h).1,(K3 h).2.1,(K3 h).2.2,aG (j:=3) h rfl,aG (j:=4) h rfl,aG (j:=5) h rfl,aG (j:=6) h rfl⟩
theorem jN {o:Nat} (h:b<w.heap.size) (hc:w.cell? ⟨b,o,none⟩=some x): ∀w',Below w.heap.size w w'->w'.cell? ⟨b,o,none⟩=some x:=λw' hb=>(hb.cell (p:=⟨b,o,none⟩) h).trans hc
theorem bl6 (h:b<w.heap.size) (h0:w.cell? ⟨b,0,none⟩=some x) (h1:w.cell? ⟨b,1,none⟩=some y) (h2:w.cell? ⟨b,2,none⟩=some z) (h3:w.cell? ⟨b,3,none⟩=some p) (h4:w.cell? ⟨b,4,none⟩=some q) (h5:w.cell? ⟨b,5,none⟩=some s):
 (∀w',Below w.heap.size w w'->w'.cell? ⟨b,0,none⟩=some x)∧(∀w',Below w.heap.size w w'->w'.cell? ⟨b,1,none⟩=some y)∧(∀w',Below w.heap.size w w'->w'.cell? ⟨b,2,none⟩=some z)∧(∀w',Below w.heap.size w w'->w'.cell? ⟨b,3,none⟩=some p)∧(∀w',Below w.heap.size w w'->w'.cell? ⟨b,4,none⟩=some q)∧(∀w',Below w.heap.size w w'->w'.cell? ⟨b,5,none⟩=some s):=
 ⟨jN h h0,jN h h1,jN h h2,jN h h3,jN h h4,jN h h5⟩
theorem FL (h:b<w.heap.size) (h0:w.cell? ⟨b,0,none⟩=some x) (h1:w.cell? ⟨b,1,none⟩=some y) (h2:w.cell? ⟨b,2,none⟩=some z) (h3:w.cell? ⟨b,3,none⟩=some p) (h4:w.cell? ⟨b,4,none⟩=some q) (h5:w.cell? ⟨b,5,none⟩=some s)
 (h6:w.cell? ⟨b,6,none⟩=some x') (h7:w.cell? ⟨b,7,none⟩=some y') (h8:w.cell? ⟨b,8,none⟩=some z') (h9:w.cell? ⟨b,9,none⟩=some p') (h10:w.cell? ⟨b,10,none⟩=some q'):
 (∀w',Below w.heap.size w w'->w'.cell? ⟨b,0,none⟩=some x)∧(∀w',Below w.heap.size w w'->w'.cell? ⟨b,1,none⟩=some y)∧(∀w',Below w.heap.size w w'->w'.cell? ⟨b,2,none⟩=some z)∧(∀w',Below w.heap.size w w'->w'.cell? ⟨b,3,none⟩=some p)∧(∀w',Below w.heap.size w w'->w'.cell? ⟨b,4,none⟩=some q)∧(∀w',Below w.heap.size w w'->w'.cell? ⟨b,5,none⟩=some s)∧
 (∀w',Below w.heap.size w w'->w'.cell? ⟨b,6,none⟩=some x')∧(∀w',Below w.heap.size w w'->w'.cell? ⟨b,7,none⟩=some y')∧(∀w',Below w.heap.size w w'->w'.cell? ⟨b,8,none⟩=some z')∧(∀w',Below w.heap.size w w'->w'.cell? ⟨b,9,none⟩=some p')∧(∀w',Below w.heap.size w w'->w'.cell? ⟨b,10,none⟩=some q'):=
 have h':=bl6 h h0 h1 h2 h3 h4 h5
 ⟨h'.1,h'.2.1,h'.2.2.1,h'.2.2.2.1,h'.2.2.2.2.1,h'.2.2.2.2.2,jN h h6,jN h h7,jN h h8,jN h h9,jN h h10⟩
end
namespace Md
def fN (op:Int):Bool:=(op==1||(decide (4<=op)&&decide (op<=6)))||(decide (9<=op)&&decide (op<=15))
def fA (op:Int):Bool:=op==15
def fI (op:Int):Bool:=op==1
def fX (op:Int):Bool:=(op==1||op==2)||(op==3||op==14)
def fB (op:Int):Bool:=decide (2<=op)&&decide (op<=8)
def fE (op:Int):Bool:=op==2
def fO (op:Int):Bool:=decide (1<=op)&&decide (op<=15)
def rU (op n:Int) (nm:ByteArray) (len:Nat):Bool:=((op==0&&n==0)&&nm.toList.isEmpty)&&len==0
def jF (d:De):Bool:=(((decide (1<=d.kind)&&decide (d.kind<=6))&&Tk.ji d.nm.data.toList)&&(decide (0<=d.size)&&(d.size==0||d.kind==1)))&&(((d.init != -9223372036854775808)&&(d.init==0||(d.kind==1||d.kind==2)))&&lQ d.on (d.kind==5))
def oM (h:dM) (bl el:Nat):Bool:=
 ((fO h.op&&(lQ h.nm (fN h.op)&&lQ h.arg (fA h.op)))&&((decide (h.idx.len<=1)&&(!(h.idx.len==1)||fI h.op))&&nD h.idx))&&
   ((if fX h.op then jZ h.dY h.xn h.dX h.bM else rU h.dY h.xn h.dX h.bM.len)&&((fB h.op||bl==0)&&(fE h.op||el==0)))
def gy:bf->Bool
 | .nil=>true
 | .cons h b e r=>(oM h b.len e.len&&(gy b&&gy e))&&gy r
def EG (h:dM) (b e:bf):Bool:=oM h b.len e.len&&(gy b&&gy e)
theorem Dj (h:dM) (b e r:bf):gy (.cons h b e r)=(EG h b e&&gy r):=rfl
def pK (t:Th):Bool:=(Tk.ji t.nm.data.toList&&t.cZ.all λs=>Tk.ji s.data.toList)&&gy t.body
def qZ (p:Pr):Bool:=(p.ds.all jF&&p.ts.all pK)&&decide ((0:Int)<p.ts.length)
theorem op1 {x:Int} (h:x=1):(x==1)=true∧(x==2)=false∧(x==3)=false∧(x==4)=false∧(x==5)=false∧(x==6)=false∧(x==7)=false∧(x==8)=false∧(x==9)=false∧(x==10)=false∧(x==11)=false∧(x==12)=false∧(x==13)=false∧(x==14)=false∧(x==15)=false:=ahp
theorem op2 {x:Int} (h:x=2):(x==1)=false∧(x==2)=true∧(x==3)=false∧(x==4)=false∧(x==5)=false∧(x==6)=false∧(x==7)=false∧(x==8)=false∧(x==9)=false∧(x==10)=false∧(x==11)=false∧(x==12)=false∧(x==13)=false∧(x==14)=false∧(x==15)=false:=ahp
theorem op3 {x:Int} (h:x=3):(x==1)=false∧(x==2)=false∧(x==3)=true∧(x==4)=false∧(x==5)=false∧(x==6)=false∧(x==7)=false∧(x==8)=false∧(x==9)=false∧(x==10)=false∧(x==11)=false∧(x==12)=false∧(x==13)=false∧(x==14)=false∧(x==15)=false:=ahp
theorem op4 {x:Int} (h:x=4):(x==1)=false∧(x==2)=false∧(x==3)=false∧(x==4)=true∧(x==5)=false∧(x==6)=false∧(x==7)=false∧(x==8)=false∧(x==9)=false∧(x==10)=false∧(x==11)=false∧(x==12)=false∧(x==13)=false∧(x==14)=false∧(x==15)=false:=ahp
theorem op5 {x:Int} (h:x=5):(x==1)=false∧(x==2)=false∧(x==3)=false∧(x==4)=false∧(x==5)=true∧(x==6)=false∧(x==7)=false∧(x==8)=false∧(x==9)=false∧(x==10)=false∧(x==11)=false∧(x==12)=false∧(x==13)=false∧(x==14)=false∧(x==15)=false:=ahp
theorem op6 {x:Int} (h:x=6):(x==1)=false∧(x==2)=false∧(x==3)=false∧(x==4)=false∧(x==5)=false∧(x==6)=true∧(x==7)=false∧(x==8)=false∧(x==9)=false∧(x==10)=false∧(x==11)=false∧(x==12)=false∧(x==13)=false∧(x==14)=false∧(x==15)=false:=ahp
theorem op7 {x:Int} (h:x=7):(x==1)=false∧(x==2)=false∧(x==3)=false∧(x==4)=false∧(x==5)=false∧(x==6)=false∧(x==7)=true∧(x==8)=false∧(x==9)=false∧(x==10)=false∧(x==11)=false∧(x==12)=false∧(x==13)=false∧(x==14)=false∧(x==15)=false:=ahp
theorem op8 {x:Int} (h:x=8):(x==1)=false∧(x==2)=false∧(x==3)=false∧(x==4)=false∧(x==5)=false∧(x==6)=false∧(x==7)=false∧(x==8)=true∧(x==9)=false∧(x==10)=false∧(x==11)=false∧(x==12)=false∧(x==13)=false∧(x==14)=false∧(x==15)=false:=ahp
theorem op9 {x:Int} (h:x=9):(x==1)=false∧(x==2)=false∧(x==3)=false∧(x==4)=false∧(x==5)=false∧(x==6)=false∧(x==7)=false∧(x==8)=false∧(x==9)=true∧(x==10)=false∧(x==11)=false∧(x==12)=false∧(x==13)=false∧(x==14)=false∧(x==15)=false:=ahp
theorem bj0 {x:Int} (h:x=10):(x==1)=false∧(x==2)=false∧(x==3)=false∧(x==4)=false∧(x==5)=false∧(x==6)=false∧(x==7)=false∧(x==8)=false∧(x==9)=false∧(x==10)=true∧(x==11)=false∧(x==12)=false∧(x==13)=false∧(x==14)=false∧(x==15)=false:=ahp
theorem bj1 {x:Int} (h:x=11):(x==1)=false∧(x==2)=false∧(x==3)=false∧(x==4)=false∧(x==5)=false∧(x==6)=false∧(x==7)=false∧(x==8)=false∧(x==9)=false∧(x==10)=false∧(x==11)=true∧(x==12)=false∧(x==13)=false∧(x==14)=false∧(x==15)=false:=ahp
theorem bj2 {x:Int} (h:x=12):(x==1)=false∧(x==2)=false∧(x==3)=false∧(x==4)=false∧(x==5)=false∧(x==6)=false∧(x==7)=false∧(x==8)=false∧(x==9)=false∧(x==10)=false∧(x==11)=false∧(x==12)=true∧(x==13)=false∧(x==14)=false∧(x==15)=false:=ahp
theorem bj3 {x:Int} (h:x=13):(x==1)=false∧(x==2)=false∧(x==3)=false∧(x==4)=false∧(x==5)=false∧(x==6)=false∧(x==7)=false∧(x==8)=false∧(x==9)=false∧(x==10)=false∧(x==11)=false∧(x==12)=false∧(x==13)=true∧(x==14)=false∧(x==15)=false:=ahp
theorem bj4 {x:Int} (h:x=14):(x==1)=false∧(x==2)=false∧(x==3)=false∧(x==4)=false∧(x==5)=false∧(x==6)=false∧(x==7)=false∧(x==8)=false∧(x==9)=false∧(x==10)=false∧(x==11)=false∧(x==12)=false∧(x==13)=false∧(x==14)=true∧(x==15)=false:=ahp
theorem bj5 {x:Int} (h:x=15):(x==1)=false∧(x==2)=false∧(x==3)=false∧(x==4)=false∧(x==5)=false∧(x==6)=false∧(x==7)=false∧(x==8)=false∧(x==9)=false∧(x==10)=false∧(x==11)=false∧(x==12)=false∧(x==13)=false∧(x==14)=false∧(x==15)=true:=ahp
theorem kd1 {x:Int} (h:x=1):(x==1)=true∧(x==2)=false∧(x==3)=false∧(x==4)=false∧(x==5)=false∧(x==6)=false:=ahp
theorem kd2 {x:Int} (h:x=2):(x==1)=false∧(x==2)=true∧(x==3)=false∧(x==4)=false∧(x==5)=false∧(x==6)=false:=ahp
theorem kd3 {x:Int} (h:x=3):(x==1)=false∧(x==2)=false∧(x==3)=true∧(x==4)=false∧(x==5)=false∧(x==6)=false:=ahp
theorem kd4 {x:Int} (h:x=4):(x==1)=false∧(x==2)=false∧(x==3)=false∧(x==4)=true∧(x==5)=false∧(x==6)=false:=ahp
theorem kd5 {x:Int} (h:x=5):(x==1)=false∧(x==2)=false∧(x==3)=false∧(x==4)=false∧(x==5)=true∧(x==6)=false:=ahp
theorem kd6 {x:Int} (h:x=6):(x==1)=false∧(x==2)=false∧(x==3)=false∧(x==4)=false∧(x==5)=false∧(x==6)=true:=ahp
end Md
namespace Md
structure Sl where
 gu:Option Addr
 eG:Nat
 gY:Option Addr
 fD:Nat
 dR:Option Addr
 dA:Nat
 jc:Option Addr
 gZ:Nat
def iG (h:dM) (b e:bf) (s:Sl):Value:= .agg #[.int .i64 h.op,.int .i64 h.line,.string h.nm,.string h.arg,.slice s.gu h.idx.len s.eG,.int .i64 h.dY,.int .i64 h.xn,.string h.dX,.slice s.gY h.bM.len s.fD,.slice s.dR b.len s.dA,.slice s.jc e.len s.gZ]
def xL (n:Nat) (h:dM) (b e:bf) (s:Sl) (fs:List (Nat×Nat×Value)):List (Nat×Nat×Value):=
 (n,0,.int .i64 h.op)::(n,1,.int .i64 h.line)::(n,2,.string h.nm)::(n,3,.string h.arg)::(n,4,.slice s.gu h.idx.len s.eG)::(n,5,.int .i64 h.dY)::(n,6,.int .i64 h.xn)::(n,7,.string h.dX)::(n,8,.slice s.gY h.bM.len s.fD)::(n,9,.slice s.dR b.len s.dA)::(n,10,.slice s.jc e.len s.gZ)::fs
def FJ (w:World) (h:dM) (b e:bf) (s:Sl):Prop:=A9 h b e∧h.idx.At w w.heap.size s.gu 0∧h.bM.At w w.heap.size s.gY 0∧b.At w w.heap.size s.dR 0∧e.At w w.heap.size s.jc 0
theorem FJ.same {w w':World} {h:dM} {b e:bf} {s:Sl} (hi:FJ w h b e s) (hb:Below w.heap.size w w'):FJ w' h b e s:=
 ⟨hi.1,hi.2.1.same hb,hi.2.2.1.same hb,hi.2.2.2.1.same hb,hi.2.2.2.2.same hb⟩
theorem bf.At.head {w:World} {h:dM} {b e r:bf} {ao:Option Addr} {k:Nat} (hat:(bf.cons h b e r).At w w.heap.size ao k): ∃bl off s,ao=some ⟨bl,off,none⟩∧bl<w.heap.size∧FJ w h b e s∧
 w.cell? ⟨bl,off+k*11,none⟩=some (.int .i64 h.op)∧w.cell? ⟨bl,off+k*11+1,none⟩=some (.int .i64 h.line)∧w.cell? ⟨bl,off+k*11+2,none⟩=some (.string h.nm)∧w.cell? ⟨bl,off+k*11+3,none⟩=some (.string h.arg)∧w.cell? ⟨bl,off+k*11+4,none⟩=some (.slice s.gu h.idx.len s.eG)∧
 w.cell? ⟨bl,off+k*11+5,none⟩=some (.int .i64 h.dY)∧w.cell? ⟨bl,off+k*11+6,none⟩=some (.int .i64 h.xn)∧w.cell? ⟨bl,off+k*11+7,none⟩=some (.string h.dX)∧w.cell? ⟨bl,off+k*11+8,none⟩=some (.slice s.gY h.bM.len s.fD)∧
 w.cell? ⟨bl,off+k*11+9,none⟩=some (.slice s.dR b.len s.dA)∧w.cell? ⟨bl,off+k*11+10,none⟩=some (.slice s.jc e.len s.gZ)∧r.At w w.heap.size ao (k+1):=by
 obtain⟨⟨b,off,gu,eG,gY,fD,dR,dA,jc,gZ,e,hB,c0,c1,c2,c3,c4,c5,c6,c7,c8,c9,c10,hok,h1,h2,h3,h4⟩,hr⟩:=hat;exact⟨b,off,⟨gu,eG,gY,fD,dR,dA,jc,gZ⟩,e,hB,⟨hok,h1,h2,h3,h4⟩,c0,c1,c2,c3,c4,c5,c6,c7,c8,c9,c10,hr⟩
end Md
theorem XI (n:Nat):decide ((n:Int)<=1)=decide (n<=1):=by rw[decide_eq_decide];omega
theorem XH (n:Nat):decide ((n:Int)=1)=(n==1):=abM
theorem Lr (n:Nat):decide ((n:Int)<=0)=(n==0):=abM
namespace Md
theorem cell0 {w:World} {g k m:Nat} {u:Value} (h:w.cell? ⟨g,k*m+0,none⟩=some u):w.cell? ⟨g,0+k*m,none⟩=some u:=by rw[aU];exact h
theorem qJ {w:World} {g k m j:Nat} {u:Value} (h:w.cell? ⟨g,k*m+j,none⟩=some u):w.cell? ⟨g,0+k*m+j,none⟩=some u:=by rw[aU];exact h
structure bU where
 h:dM
 b:bf
 e:bf
 s:Sl
def bU.f (x:bU):List Value:=[.int .i64 x.h.op,.int .i64 x.h.line,.string x.h.nm,.string x.h.arg,.slice x.s.gu x.h.idx.len x.s.eG,.int .i64 x.h.dY,.int .i64 x.h.xn,.string x.h.dX,.slice x.s.gY x.h.bM.len x.s.fD,.slice x.s.dR x.b.len x.s.dA,.slice x.s.jc x.e.len x.s.gZ]
def bU.I (x:bU) (w:World):Prop:=x.h.idx.At w w.heap.size x.s.gu 0∧x.h.bM.At w w.heap.size x.s.gY 0∧x.b.At w w.heap.size x.s.dR 0∧x.e.At w w.heap.size x.s.jc 0
def fQ:List bU->bf
 | []=> .nil
 |x::r=> .cons x.h x.b x.e (fQ r)
theorem qz: ∀l,(fQ l).len=l.length
 | []=>rfl
 |_::r=>by show(fQ r).len+1=_;rw[qz r];rfl
theorem KR {w:World} {ao:Option Addr} : ∀(l:List bU) (k:Nat),(∀x∈l,A9 x.h x.b x.e∧x.I w)->(∀i x,l[i]? =some x->∃g,ao=some ⟨g,0,none⟩∧g<w.heap.size∧∀j u,x.f[j]? =some u->w.cell? ⟨g,(k+i)*11+j,none⟩=some u)->(fQ l).At w w.heap.size ao k
 | [],_,_,_=>trivial
 |x::r,k,h1,h2=>by obtain⟨g,rfl,hg,hc⟩:=h2 0 x rfl;obtain⟨hok,i1,i2,i3,i4⟩:=h1 x ahh;refine⟨⟨g,0,x.s.gu,x.s.eG,x.s.gY,x.s.fD,x.s.dR,x.s.dA,x.s.jc,x.s.gZ,rfl,hg,cell0 (hc 0 _ rfl),qJ (hc 1 _ rfl),qJ (hc 2 _ rfl),qJ (hc 3 _ rfl),qJ (hc 4 _ rfl),qJ (hc 5 _ rfl),qJ (hc 6 _ rfl),qJ (hc 7 _ rfl),qJ (hc 8 _ rfl),qJ (hc 9 _ rfl),qJ (hc 10 _ rfl),hok,i1,i2,i3,i4⟩,?_⟩;exact KR r (k+1) (λy hy=>h1 y ahx) (λi y hy=>θ)
theorem Br (x:bU):(bU.f x).length=11:=rfl
abbrev Ny (B:Nat) (w:World) (v:Value) (l:List bU):Prop:=Grow bU.f 11 bU.I 82 B w v l
theorem Ny.says {B:Nat} {w:World} {v:Value} {l:List bU} (h:Ny B w v l) (hok: ∀x∈l,A9 x.h x.b x.e): ∃ao cap,v= .slice ao (fQ l).len cap∧iH B w (λw2=>(fQ l).At w2 w2.heap.size ao 0):=by
 obtain⟨ao,cap,e⟩:=h.len;refine⟨ao,cap,by rw[e,qz],λw2 h2=> ?_⟩;obtain⟨hI,mK,cap',e',-,hc⟩:=h.cells Br w2 h2;rw[e]at e';injection e' with e1 e2 e3;subst e1;exact KR l 0 (λx hx=>⟨hok x hx,hI x hx⟩) (λi x hx=>aam)
def sF (d:De):List Value:=[.int .i64 d.kind,.int .i64 d.line,.string d.nm,.int .i64 d.size,.int .i64 d.init,.string d.on]
theorem aG8 {w:World} {ao:Option Addr} : ∀(l:List De) (k:Nat),(∀x∈l,x.Ok)->(∀i x,l[i]? =some x->∃g,ao=some ⟨g,0,none⟩∧g<w.heap.size∧∀j u,(sF x)[j]? =some u->w.cell? ⟨g,(k+i)*6+j,none⟩=some u)->jG w w.heap.size l ao k
 | [],_,_,_=>trivial
 |x::r,k,h1,h2=>by obtain⟨g,rfl,hg,hc⟩:=h2 0 x rfl;refine⟨⟨g,0,rfl,hg,cell0 (hc 0 _ rfl),qJ (hc 1 _ rfl),qJ (hc 2 _ rfl),qJ (hc 3 _ rfl),qJ (hc 4 _ rfl),qJ (hc 5 _ rfl),h1 x ahh⟩,?_⟩;exact aG8 r (k+1) (λy hy=>h1 y ahx) (λi y hy=>θ)
theorem PU (x:De):(sF x).length=6:=rfl
abbrev He (B:Nat) (w:World) (v:Value) (l:List De):Prop:=Grow sF 6 (λ_ _=>True) 118 B w v l
theorem He.says {B:Nat} {w:World} {v:Value} {l:List De} (h:He B w v l) (hok: ∀x∈l,x.Ok): ∃ao cap,v= .slice ao l.length cap∧l.length<=cap∧iH B w (λw2=>jG w2 w2.heap.size l ao 0):=by
 obtain⟨-,ao,cap,e,hl,-⟩:=h.cells PU w (kT.refl _ _);refine⟨ao,cap,e,hl,λw2 h2=> ?_⟩;obtain⟨-,mK,cap',e',-,hc⟩:=h.cells PU w2 h2;rw[e]at e';injection e' with e1 e2 e3;subst e1;exact aG8 l 0 hok (λi x hx=>aam)
def uf (s:ByteArray):List Value:=[.string s]
theorem ZO {w:World} {ao:Option Addr} : ∀(l:List ByteArray) (k:Nat),(∀x∈l,x.size<=maxLen)->(∀i x,l[i]? =some x->∃g,ao=some ⟨g,0,none⟩∧g<w.heap.size∧∀j u,(uf x)[j]? =some u->w.cell? ⟨g,(k+i)*1+j,none⟩=some u)->fT w w.heap.size l ao k
 | [],_,_,_=>trivial
 |x::r,k,h1,h2=>by obtain⟨g,rfl,hg,hc⟩:=h2 0 x rfl;refine⟨⟨g,0,rfl,hg,by have:=cell0 (hc 0 _ rfl);simpa using this,h1 x ahh⟩,?_⟩;exact ZO r (k+1) (λy hy=>h1 y ahx) (λi y hy=>θ)
theorem Dq (x:ByteArray):(uf x).length=1:=rfl
abbrev kC (B:Nat) (w:World) (v:Value) (l:List ByteArray):Prop:=Grow uf 1 (λ_ _=>True) 9 B w v l
theorem kC.says {B:Nat} {w:World} {v:Value} {l:List ByteArray} (h:kC B w v l) (hok: ∀x∈l,x.size<=maxLen): ∃ao cap,v= .slice ao l.length cap∧l.length<=cap∧iH B w (λw2=>fT w2 w2.heap.size l ao 0):=by
 obtain⟨-,ao,cap,e,hl,-⟩:=h.cells Dq w (kT.refl _ _);refine⟨ao,cap,e,hl,λw2 h2=> ?_⟩;obtain⟨-,mK,cap',e',-,hc⟩:=h.cells Dq w2 h2;rw[e]at e';injection e' with e1 e2 e3;subst e1;exact ZO l 0 hok (λi x hx=>aam)
structure fZ where
 t:Th
 iO:Option Addr
 eF:Nat
 dR:Option Addr
 dA:Nat
def fZ.f (x:fZ):List Value:=[.string x.t.nm,.int .i64 x.t.line,.slice x.iO x.t.cZ.length x.eF,.slice x.dR x.t.body.len x.dA]
def fZ.I (x:fZ) (w:World):Prop:=fT w w.heap.size x.t.cZ x.iO 0∧x.t.body.At w w.heap.size x.dR 0
theorem Sj {w:World} {ao:Option Addr} : ∀(l:List fZ) (k:Nat),(∀x∈l,(x.t.Ok∧x.t.cZ.length<=x.eF)∧x.I w)->(∀i x,l[i]? =some x->∃g,ao=some ⟨g,0,none⟩∧g<w.heap.size∧∀j u,x.f[j]? =some u->w.cell? ⟨g,(k+i)*4+j,none⟩=some u)->iP w w.heap.size (l.map (·.t)) ao k
 | [],_,_,_=>trivial
 |x::r,k,h1,h2=>by obtain⟨g,rfl,hg,hc⟩:=h2 0 x rfl;obtain⟨⟨hok,hcl⟩,i1,i2⟩:=h1 x ahh;refine⟨⟨g,0,x.iO,x.eF,x.dR,x.dA,rfl,hg,cell0 (hc 0 _ rfl),qJ (hc 1 _ rfl),qJ (hc 2 _ rfl),qJ (hc 3 _ rfl),hok,i1,i2,hcl⟩,?_⟩;exact Sj r (k+1) (λy hy=>h1 y ahx) (λi y hy=>θ)
theorem Bt (x:fZ):(fZ.f x).length=4:=rfl
abbrev FY (B:Nat) (w:World) (v:Value) (l:List fZ):Prop:=Grow fZ.f 4 fZ.I 63 B w v l
theorem FY.says {B:Nat} {w:World} {v:Value} {l:List fZ} (h:FY B w v l) (hok: ∀x∈l,x.t.Ok∧x.t.cZ.length<=x.eF): ∃ao cap,v= .slice ao (l.map (·.t)).length cap∧l.length<=cap∧iH B w (λw2=>iP w2 w2.heap.size (l.map (·.t)) ao 0):=by
 obtain⟨-,ao,cap,e,hl,-⟩:=h.cells Bt w (kT.refl _ _);exact AaN
end Md
abbrev RG (G:Type):=Value->G->World->Prop
section
variable {G:Type}
def mR (ents:List (Option Tmp×RG G)) (A:Act) (g:G) (w:World):List Edge->Prop
 | []=>True
 |e::r=>(if Region.binds .any e=true then(match ents[e.on]? with|some (d,R)=>R (gQ A d) g w|none=>True)else True)∧mR ents A g w r
def tQ (ents:List (Option Tmp×RG G)) (A:Act) (o:Oper):Bool:=
 match o.guard with
 |none=>true
 |some (g,b)=>match ents[g]? with
  |some (some d,_)=>match A.eval (.tmp d)with
   | .bool x=>x==b
   |_=>false
  |_=>false
def jU (C:G->World->Prop) (Le:G->World->G->World->Prop) (R:RG G) (A:Act) (dst:Option Tmp) (g:G) (w:World) (a':Act) (w':World):Prop:=
 ∃v g',a'=A.put dst v∧Le g w g' w'∧C g' w'∧R (if dst.isSome then v else undef) g' w'
theorem jU.mk {C:G->World->Prop} {Le:G->World->G->World->Prop} {R:RG G} {A:Act} {d:Tmp} {g g':G} {w w':World} {v:Value} (hle:Le g w g' w') (hC:C g' w') (hR:R v g' w'):jU C Le R A (some d) g w (A.put (some d) v) w':=⟨v,g',rfl,hle,hC,hR⟩
theorem jU.EA {C:G->World->Prop} {Le:G->World->G->World->Prop} {R:RG G} {A:Act} {g g':G} {w w':World} {v:Value} (hle:Le g w g' w') (hC:C g' w') (hR:R undef g' w'):jU C Le R A none g w (A.put none v) w':=⟨v,g',rfl,hle,hC,hR⟩
def BU (D:Nat->Bool) (i:Nat):Nat->Bool:=λk=>D k||k==i
def TQ (P:Program) (a0:Act) (Q:Exit->Act->World->Prop) (C:(Nat->Bool)->G->World->Prop) (Le:G->World->G->World->Prop) (fC:List Tmp) (ents:List (Option Tmp×RG G)) (o:Oper) (R:RG G) (i:Nat):Prop:=
 ∀D A g w,D i=false->C D g w->(∀s,fC.contains s=false->A.eval (.tmp s)=a0.eval (.tmp s))->mR ents A g w o.after.toList->
  if tQ ents A o then o.wp P A w (jU (C (BU D i)) Le R A o.dst g w) Q else(C (BU D i) g w∧R undef g w)
def ni (c:Value):RG G:=λv _ _=>v=c
theorem ni.mk (c:Value) (g:G) (w:World):ni c c g w:=rfl
def QM (g:G) (ents:List (Option Tmp×RG G)):List (Option Tmp×RP):=ents.map λx=>(x.1,λv w=>x.2 v g w)
def oo (P:Program) (a0:Act) (Q:Exit->Act->World->Prop) (C:(Nat->Bool)->G->World->Prop) (Le:G->World->G->World->Prop) (fC:List Tmp):List Oper->List (Option Tmp×RG G)->Prop
 | [],ents=> ∀D g w,(∀i,i<ents.length->D i=true)->C D g w->eY w (λa=>Q .normal a w) (QM g ents) a0
 |o::rest,ents=> ∃R:RG G,(∀v g w g' w',Le g w g' w'->R v g w->R v g' w')∧TQ P a0 Q C Le fC ents o R ents.length∧oo P a0 Q C Le fC rest (ents++[(o.dst,R)])
variable {P:Program} {a0:Act} {Q:Exit->Act->World->Prop} {C:(Nat->Bool)->G->World->Prop} {Le:G->World->G->World->Prop} {fC:List Tmp}
theorem oo.full: ∀ {l:List Oper} {ents:List (Option Tmp×RG G)},oo P a0 Q C Le fC l ents->∃full:List (Option Tmp×RG G),full.length=ents.length+l.length∧full.take ents.length=ents∧
 (∀(i:Nat) (o:Oper),l[i]? =some o->∃R,full[ents.length+i]? =some (o.dst,R)∧(∀v g w g' w',Le g w g' w'->R v g w->R v g' w')∧TQ P a0 Q C Le fC (full.take (ents.length+i)) o R (ents.length+i))∧
 ∀D g w,(∀i,i<full.length->D i=true)->C D g w->eY w (λa=>Q .normal a w) (QM g full) a0
 | [],ents,h=>⟨ents,ahh,ahh,ahh,h⟩
 |o::rest,ents,h=>by
  obtain⟨R,hm,ho,hr⟩:=h;obtain⟨full,h1,h2,h3,h4⟩:=oo.full hr;simp only[au,aB,aP,aU]at h1 h2 h3;have hlen:ents.length<full.length:=ahf
  have hget:full[ents.length]? =some (o.dst,R):=abb
  refine⟨full,ahi,?_,?_,h4⟩
  ·have:=congrArg (List.take ents.length) h2;simpa[List.take_take]using this
  ·exact Aap
theorem oo.step {o:Oper} {rest:List Oper} {ents:List (Option Tmp×RG G)} {v:Value} (cu:TQ P a0 Q C Le fC ents o (ni v) ents.length) (hrest:oo P a0 Q C Le fC rest (ents++[(o.dst,ni v)])):oo P a0 Q C Le fC (o::rest) ents:=
 ⟨ni v,λ_ _ _ _ _ _ h=>h,cu,hrest⟩
theorem oo.some {o:Oper} {rest:List Oper} {ents:List (Option Tmp×RG G)} (R:RG G) (hmono: ∀v g w g' w',Le g w g' w'->R v g w->R v g' w') (cu:TQ P a0 Q C Le fC ents o R ents.length) (hrest:oo P a0 Q C Le fC rest (ents++[(o.dst,R)])):oo P a0 Q C Le fC (o::rest) ents:=
 ⟨R,hmono,cu,hrest⟩
theorem oo.done {ents:List (Option Tmp×RG G)} (h: ∀D g w,(∀i,i<ents.length->D i=true)->C D g w->eY w (λa=>Q .normal a w) (QM g ents) a0):oo P a0 Q C Le fC [] ents:=h
theorem Uh {full:List (Option Tmp×RG G)} {A:Act} {g:G} {w:World} {i:Nat} : ∀ {l:List Edge},(∀e∈l,Region.binds .any e=true->∀(d:Option Tmp) (R:RG G),full[e.on]? =some (d,R)->R (gQ A d) g w)->mR (full.take i) A g w l
 | [],_=>trivial
 |e::r,h=>by
  refine⟨?_,Uh λe' he'=>h e' (by simp[he'])⟩;split
  case isFalse=>trivial
  case isTrue hb=>
  cases hg:(full.take i)[e.on]? with
  |none=>trivial
  |some x=>
   obtain⟨d,R⟩:=x;rw[List.getElem?_take]at hg;split at hg
   ·exact h e ahh hb d R hg
   ·cases hg
def Oa (listed:Array Bool):Nat->Bool:=λi=>listed.getD i false
theorem aM0 {listed:Array Bool} {i:Nat} (hi:i<listed.size):Oa (listed.setIfInBounds i true)=BU (Oa listed) i:=by
 funext k;unfold Oa BU;by_cases hk:i=k
 ·subst hk;simp[hi]
 ·rw[getD_set_ne false hk];have:(k==i)=false:=by rw[beq_eq_false_iff_ne];exact λe=>hk e.symm
  rw[this,Bool.or_false]
def aG3 (a0:Act) (C:(Nat->Bool)->G->World->Prop) (full:List (Option Tmp×RG G)) (n:Nat) (listed:Array Bool) (a:Act) (g:G) (w:World):Prop:=
 listed.size=n∧C (Oa listed) g w∧a.defers=a0.defers∧a.tmps.size=a0.tmps.size∧
 (∀s:Nat,(∀(i:Nat) (d:Tmp) (R:RG G),full[i]? =some (some d,R)->listed.getD i false=true->d≠s)->a.tmps[s]? =a0.tmps[s]?)∧
 ∀(i:Nat) (d:Option Tmp) (R:RG G),full[i]? =some (d,R)->listed.getD i false=true->R (gQ a d) g w
theorem aQ0 {ops:Array Oper} {full:List (Option Tmp×RG G)} {o:Oper} {A:Act} {i:Nat} (hf: ∀(k:Nat) (ok:Oper),ops[k]? =some ok->∃R,full[k]? =some (ok.dst,R)) (hlen:full.length=ops.size)
 (hg: ∀g b,o.guard=some (g,b)->g<i):Region.wanted o (yielded ops A.tmps)=tQ (full.take i) A o:=by
 unfold Region.wanted tQ;cases ho:o.guard with
 |none=>rfl
 |some x=>
  exact Aao
theorem ao4 {l:List Oper} {full:List (Option Tmp×RG G)} (GI: ∀g w,Le g w g w) (hbd: ∀d∈fC,d<a0.tmps.size) (hlen:full.length=l.length) (hnd:(l.filterMap (·.dst)).Nodup) (uZ:l.filterMap (·.dst)=fC)
 (hed: ∀(i:Nat) (o:Oper),l[i]? =some o->∀d∈pG o,d<i) (hgu: ∀(i:Nat) (o:Oper),l[i]? =some o->∀g b,o.guard=some (g,b)->g<i)
 (hf: ∀(i:Nat) (o:Oper),l[i]? =some o->∃R,full[i]? =some (o.dst,R)∧(∀v g w g' w',Le g w g' w'->R v g w->R v g' w')∧TQ P a0 Q C Le fC (full.take i) o R i)
 (hend: ∀D g w,(∀i,i<full.length->D i=true)->C D g w->eY w (λa=>Q .normal a w) (QM g full) a0):
 ∀(fuel:Nat) (listed:Array Bool) (a:Act) (g:G) (w:World),cnt listed l.length<=fuel->aG3 a0 C full l.length listed a g w->wpAny P .any l.toArray Q fuel listed a w:=by
 have hmono: ∀(i:Nat) (d:Option Tmp) (R:RG G),full[i]? =some (d,R)->∀v g w g' w',Le g w g' w'->R v g w->R v g' w':=λi d R hi=>by
  have hlt:i<l.length:=aa0
  obtain⟨R',h1,h2,-⟩:=hf i l[i] (aX hlt);rw[hi]at h1;simp only[Option.some.injEq,Prod.mk.injEq]at h1;rw[h1.2];exact h2
 have hdst: ∀(i:Nat) (d:Option Tmp) (R:RG G),full[i]? =some (d,R)->∃o,l[i]? =some o∧o.dst=d:=λi d R hi=>by
  have hlt:i<l.length:=aa0
  obtain⟨R',h1,-⟩:=hf i l[i] (aX hlt);rw[hi]at h1;simp only[Option.some.injEq,Prod.mk.injEq]at h1;exact⟨l[i],aX hlt,h1.1.symm⟩
 have hall: ∀listed a g w,aG3 a0 C full l.length listed a g w->(∀i,i<l.length->listed.getD i false=true)->Q .normal a w:=λlisted a g w hI ha=>by
  obtain⟨hsz0,hC,hd,hz,hs,hR⟩:=hI;refine(hend (Oa listed) g w (λi hi=>ha i (by rw[<- hlen];exact hi)) hC).use (a':=a) (λi d R hi=> ?_) hd hz (λs hne=>hs s (λi d R hi _=>hne i d (λv w=>R v g w) (by unfold QM;rw[List.getElem?_map,hi];rfl)));unfold QM at hi;rw[List.getElem?_map]at hi;cases hq:full[i]? with
  |none=>rw[hq]at hi;cases hi
  |some x=>obtain⟨d',R'⟩:=x;rw[hq]at hi;simp only[Option.map_some,Option.some.injEq,Prod.mk.injEq]at hi;obtain⟨rfl,rfl⟩:=hi;refine hR i d' R' hq (ha i ?_);rw[<- hlen];exact(List.getElem?_eq_some_iff.1 hq).1
 have Kt: ∀listed:Array Bool,listed.size=l.length->Region.ready .any l.toArray listed=[]->∀i,i<l.length->listed.getD i false=true:=λlisted hsz hr i=>by
  induction i using Nat.strongRecOn with
  |_ i ih=>
   exact AaJ
 intro fuel
 induction fuel with
 |zero=>
  intro listed a g w hc hI;have ha:=Ic (Nat.le_zero.1 hc);refine⟨?_,hall listed a g w hI ha⟩;rw[List.eq_nil_iff_forall_not_mem];intro i hi;obtain⟨h0,o,ho,-⟩:=mem_ready.1 hi;have hlt:i<l.length:=afH
  have:=ha i hlt;have h1:i<listed.size:=afS
  simp[h1]at h0 this;rw[h0]at this;cases this
 |succ fuel ih=>
  intro listed a g w hc hI;refine⟨λhr=>hall listed a g w hI (Kt listed hI.1 hr),λi hi=> ?_⟩;obtain⟨h0,o,ho,FQ⟩:=mem_ready.1 hi;have hlt:i<l.length:=afH
  have hlo:l[i]? =some o:=by simpa using ho
  have hls:i<listed.size:=afS
  have hun:listed.getD i false=false:=agz
  obtain⟨R,Mj,hRm,hob⟩:=hf i o hlo;obtain⟨hsz,hC,hd,hz,hs,hR⟩:=hI;have hW:=aQ0 (A:=a) (o:=o) (i:=i) (ops:=l.toArray) (full:=full) (λk ok hk=>abk) afb (hgu i o hlo);have hstep:=hob (Oa listed) a g w hun hC (λs hs'=>Δ) (Uh (λe he hb d R' hR'=>hR e.on d R' hR' (FQ e ahy hb)));have hnext: ∀(v:Value) (g':G) (w':World),Le g w g' w'->C (BU (Oa listed) i) g' w'->R (gQ (a.put o.dst v) o.dst) g' w'->wpAny P .any l.toArray Q fuel (listed.setIfInBounds i true) (a.put o.dst v) w':=λv g' w' hle hC' hv=>by
   refine ih _ _ g' _ ?_ ⟨by simp[hsz],by rw[aM0 hls];exact hC',?_,?_,?_,?_⟩
   ·have:=Li hls hun l.length;rw[if_pos hlt]at this;omega
   ·cases o.dst <;> simpa[Act.put]using hd
   ·cases o.dst <;> simpa[Act.put]using hz
   ·exact AaL
   ·intro k d R' hk hl;by_cases hik:i=k
    ·subst hik;rw[Mj]at hk;simp only[Option.some.injEq,Prod.mk.injEq]at hk;obtain⟨rfl,rfl⟩:=hk;exact hv
    ·have hl':listed.getD k false=true:=adn;have h1:=hmono k d R' hk _ _ _ _ _ hle (hR k d R' hk hl');exact AaK
  unfold wpOp;simp only[ho];rw[hW];cases hgd:tQ (full.take i) a o with
  |true=>
   rw[hgd]at hstep;simp only[if_true]at hstep⊢;refine Or.inl (Oper.wp_mono ?_ hstep);rintro a' w' ⟨v,g',rfl,hle,hC',hv⟩;refine hnext v g' w' hle hC' ?_;exact AaM
  |false=>
   rw[hgd]at hstep;simp only[Bool.false_eq_true,if_false]at hstep⊢;refine hnext undef g w (GI g w) hstep.1 ?_;cases hod:o.dst with
   |none=>exact hstep.2
   |some d=>have hdl:d<a.tmps.size:=Ξ;simpa[gQ,Act.eval,Act.put,hdl]using hstep.2
theorem Fz {id:Nat} {l:List Oper} {w:World} (C:(Nat->Bool)->G->World->Prop) (Le:G->World->G->World->Prop) (fC:List Tmp) (g0:G) (hm:P.follows .mixedOrders=true) (hB:(l.filterMap (·.dst)==fC&&Ll l)=true) (GI: ∀g w,Le g w g w) (hbd:(fC.all λd=>decide (d<a0.tmps.size))=true) (hC:C (λ_=>false) g0 (w.drewN 1))
 (h:oo P a0 Q C Le fC l []):(Code.region id l.toArray true).wp P Q a0 w:=by
 unfold Ll at hB;simp only[aM,beq_iff_eq,decide_eq_true_eq]at hB;obtain⟨uZ,hnd,hz⟩:=hB;obtain⟨full,h1,-,h3,h4⟩:=h.full;simp only[aP,aU]at h1 h3;have hed: ∀(i:Nat) (o:Oper),l[i]? =some o->(∀d∈pG o,d<i)∧∀g b,o.guard=some (g,b)->g<i:=λi o hi=>aad
 refine wp_region_any hm ?_;have hdr:({w with drawn:=w.drawn+1} :World)=w.drewN 1:=rfl;rw[hdr];have hD:Oa (Array.replicate l.toArray.size false)=λ_=>false:=by funext k;unfold Oa;rw[Array.getD_eq_getD_getElem?];by_cases hk:k<l.length <;> simp[hk]
 refine ao4 GI (λd hd=>abe) h1 hnd uZ (λi o hi=>(hed i o hi).1) (λi o hi=>(hed i o hi).2) h3 h4 _ _ _ g0 _ ?_ ⟨ahh,by rw[hD];exact hC,rfl,rfl,λ_ _=>rfl,λi d R _ hl=> ?_⟩
 ·have: ∀n,cnt (Array.replicate l.toArray.size false) n<=n:=λn=>by
   induction n with
   |zero=>simp[cnt]
   |succ n ih=>simp only[cnt];split <;> omega
  simpa using this l.length
 ·exfalso;rw[Array.getD_eq_getD_getElem?]at hl;by_cases hi:i<l.length
  ·simp[hi]at hl
  ·rw[Array.getElem?_eq_none ahE]at hl;cases hl
end
theorem mE {w:World} {K:Act->Prop} {a:Act} (h:K a):eY w K [] a:=h
structure Ag where
 o:Option Nat
 h:Bool
 p:Option (Nat×Nat)
def Ag.le (n0:Nat) (g:Ag) (w:World) (g':Ag) (w':World):Prop:=(∀b,g.o=some b->g'.o=some b)∧(g.h=true->g'.h=true)∧(∀q,g.p=some q->g'.p=some q)∧w.heap.size<=w'.heap.size∧∀k,n0<=k->k<w.heap.size->w'.heap[k]? =w.heap[k]?
theorem Ag.le_refl (n0:Nat) (g:Ag) (w:World):Ag.le n0 g w g w:=⟨λ_ h=>h,λh=>h,λ_ h=>h,aD _,λ_ _ _=>rfl⟩
theorem vU {D:Nat->Bool} {i k:Nat} (h:BU D i k=false):D k=false:=by
 unfold BU at h;rw[Bool.or_eq_false_iff]at h;exact h.1
theorem Oi {D:Nat->Bool} {i:Nat} (h:BU D i i=false):False:=by
 unfold BU at h;simp at h
theorem Ul {D:Nat->Bool} {i k:Nat} (hn:k≠i) (h:BU D i k=true):D k=true:=by
 unfold BU at h;rw[Bool.or_eq_true]at h;rcases h with h|h
 ·exact h
 ·exact absurd aiy hn
structure vF (wr:World) (i8 zu i11 sW:Nat) (Row:Nat×Nat->World->Prop) (zl:Addr) (vv:Nat×Nat->Value) (cs:Array Value) (ty:TypeId) (D:Nat->Bool) (g:Ag) (w:World):Prop where
 d8:D i8=false->g.h=false
 tN:D zu=false->g.o=none
 uY:D i11=false->g.p=none
 op:g.o=none->g.p=none
 oh:g.h=false->g.p=none
 yC:g.p=none->D sW=false
 pre:g.p=none->Below wr.heap.size wr w
 row: ∀b,g.o=some b->wr.heap.size<=b∧w.heap[b]? =some (.cells cs ty (0,0))
 post: ∀q,g.p=some q->D sW=false->Row q w
 fin: ∀q,g.p=some q->D sW=true->∃w5,Row q w5∧w=w5.setCell zl (vv q)
section
variable {wr w w':World} {i8 zu i11 sW:Nat} {Row:Nat×Nat->World->Prop} {zl:Addr} {vv:Nat×Nat->Value} {cs:Array Value} {ty:TypeId} {D:Nat->Bool} {g:Ag}
theorem vF.start:vF wr i8 zu i11 sW Row zl vv cs ty (λ_=>false) ⟨none,false,none⟩ (wr.drewN 1):=
 ⟨λ_=>rfl,λ_=>rfl,λ_=>rfl,λ_=>rfl,λ_=>rfl,λ_=>rfl,λ_=>below_drewN (ak _ _) 1,(λ_ h=>ahG),(λ_ h=>ahG),(λ_ h=>ahG)⟩
theorem vF.skip (h:vF wr i8 zu i11 sW Row zl vv cs ty D g w) (i:Nat) (CG:sW≠i):vF wr i8 zu i11 sW Row zl vv cs ty (BU D i) g w:=
 ⟨λe=>h.d8 (vU e),λe=>h.tN (vU e),λe=>h.uY (vU e),h.op,h.oh,λe=>(by
  cases hq:BU D i sW
  ·rfl
  ·have:=Ul CG hq;rw[h.yC e]at this;cases this),h.pre,h.row,λq hq e=>h.post q hq (vU e),λq hq e=>h.fin q hq (Ul CG e)⟩
theorem vF.bh2 (h:vF wr i8 zu i11 sW Row zl vv cs ty D g w) (hD:D zu=false) (CG:sW≠zu):Ag.le wr.heap.size g w {g with o:=some w.heap.size} (w.alloc (.cells cs ty))∧vF wr i8 zu i11 sW Row zl vv cs ty (BU D zu) {g with o:=some w.heap.size} (w.alloc (.cells cs ty)):=by
 have h0:=h.tN hD;have hp:=h.op h0;refine⟨⟨λb e=>(by rw[h0]at e;cases e),λe=>e,λq e=>e,(aA _ _).size,λk _ hk=>(aA _ _).block k hk⟩,λe=>h.d8 (vU e),λe=>(Oi e).elim,λe=>h.uY (vU e),λe=>aht,h.oh,λe=>(h.skip zu CG).yC e,λe=>(h.pre e).trans ((aA _ _).mono (h.pre e).size),λb e=> ?_,λq e=> ?_,λq e=> ?_⟩
 ·injection e with e;subst e;exact⟨(h.pre hp).size,heap_alloc_new _ _⟩
 ·rw[show g.p=some q from e]at hp;cases hp
 ·rw[show g.p=some q from e]at hp;cases hp
theorem vF.bh3 {q:Nat×Nat} (h:vF wr i8 zu i11 sW Row zl vv cs ty D g w) (hD:D i11=false) (CG:sW≠i11) {b:Nat} (hb:g.o=some b) (hh:g.h=true) (hr:Row q w') (hs:w.heap.size<=w'.heap.size) (hk: ∀k,wr.heap.size<=k->k<w.heap.size->w'.heap[k]? =w.heap[k]?):Ag.le wr.heap.size g w {g with p:=some q} w'∧vF wr i8 zu i11 sW Row zl vv cs ty (BU D i11) {g with p:=some q} w':=by
 have h0:=h.uY hD;refine⟨⟨λb e=>e,λe=>e,λq' e=>(by rw[h0]at e;cases e),hs,hk⟩,λe=>h.d8 (vU e),λe=>h.tN (vU e),λe=>(Oi e).elim,λe=> ?_,λe=> ?_,λe=>aht,λe=>aht,λb' e=> ?_,λq' e _=>(by injection e with e;subst e;exact hr),λq' e e2=> ?_⟩
 ·rw[show g.o=none from e]at hb;cases hb
 ·rw[show g.h=false from e]at hh;cases hh
 ·obtain⟨h1,h2⟩:=h.row b' e;exact⟨h1,(hk b' h1 (aI h2)).trans h2⟩
 ·have:=Ul CG e2;rw[h.yC h0]at this;cases this
theorem vF.bh4 {q:Nat×Nat} (h:vF wr i8 zu i11 sW Row zl vv cs ty D g w) (hD:D sW=false) (hq:g.p=some q) (ha:zl.block<wr.heap.size) (h1:zu≠sW) (h2:i11≠sW):Ag.le wr.heap.size g w g (w.setCell zl (vv q))∧vF wr i8 zu i11 sW Row zl vv cs ty (BU D sW) g (w.setCell zl (vv q)):=by
 refine⟨⟨λb e=>e,λe=>e,λq e=>e,afp,λk hk _=>bF _ _ _ rfl ahf⟩,λe=>h.d8 (vU e),λe=>h.tN (vU e),λe=>h.uY (vU e),h.op,h.oh,λe=>(by rw[hq]at e;cases e),λe=>(by rw[hq]at e;cases e),λb e=> ?_,λq' _ e=>(Oi e).elim,λq' e _=> ?_⟩
 ·obtain⟨k1,k2⟩:=h.row b e;exact⟨k1,(bF _ _ _ rfl ahf).trans k2⟩
 ·rw[hq]at e;injection e with e;subst e;exact⟨w,h.post q hq hD,rfl⟩
theorem vF.mk8 (h:vF wr i8 zu i11 sW Row zl vv cs ty D g w) (hD:D i8=false) (CG:sW≠i8):g.p=none∧Ag.le wr.heap.size g w {g with h:=true} w∧vF wr i8 zu i11 sW Row zl vv cs ty (BU D i8) {g with h:=true} w:=by
 have hp:=h.oh (h.d8 hD);have hs:=h.skip i8 CG;exact⟨hp,⟨λb e=>e,λ_=>rfl,λq e=>e,aD _,λ_ _ _=>rfl⟩,λe=>(Oi e).elim,hs.tN,hs.uY,hs.op,λe=>aht,hs.yC,hs.pre,hs.row,hs.post,hs.fin⟩
end
def UA (n:Nat) (q:Nat×Nat):Value:= .slice (some ⟨q.1,0,none⟩) n q.2
def au2 (ty:TypeId) (m:Nat) (wr:World) (B:Nat) (own:Option Nat) (n:Nat) (xs:List Value) (q:Nat×Nat) (w5:World):Prop:=w5.ownsRow B ty m (UA n q) n xs∧wr.grownBy w5 own∧(own=some q.1∨wr.heap.size<=q.1)
theorem vF.cell {wr w:World} {te:TypeId} {m:Nat} {i8 zu i11 sW B n:Nat} {own:Option Nat} {xs:List Value} {zl:Addr} {vv:Nat×Nat->Value} {cs:Array Value} {ty:TypeId} {D:Nat->Bool} {g:Ag} (h:vF wr i8 zu i11 sW (au2 te m wr B own n xs) zl vv cs ty D g w) {b j:Nat} {u:Value} (hb:b<wr.heap.size) (hne:own≠some b) (ha:zl.block≠b) (hc:wr.cell? ⟨b,j,none⟩=some u):w.cell? ⟨b,j,none⟩=some u:=by
 cases hp:g.p with
 |none=>exact((h.pre hp).cell hb).trans hc
 |some q=>
  cases hd:D sW with
  |false=>exact(World.cell?_of_block (a:=⟨b,j,none⟩) ((h.post q hp hd).2.1.block b hb (λe=>hne e.symm))).trans hc
  |true=>obtain⟨w5,h1,rfl⟩:=h.fin q hp hd;exact(World.cell?_of_block (a:=⟨b,j,none⟩) ((bF w5 zl (vv q) rfl ha).trans (h1.2.1.block b hb (λe=>hne e.symm)))).trans hc
theorem GH {w w':World} {own:Option Nat} (h:Below w.heap.size w w'):w.grownBy w' own:=⟨h.os,h.tape,h.output,h.size,λk hk _=>h.block k hk⟩
theorem zD:Maps.Keyed Tryz.prog 9:=Maps.string_keyed Tryz.underlying9
theorem keyOf_str (s:ByteArray) (hs:s.size<=maxLen):keyOf Tryz.prog 9 (.string s)=some (.string s.toList):=by
 unfold keyOf mapKey;simp[Tryz.underlying9,hs,Lib.toList_data]
def nA (w:World) (b n:Nat) (f:List UInt8->Int):Prop:=
 ∃D:DataW Unit,w.ownsMap Tryz.prog 9 (plainElem Tryz.prog 3) b n D∧∀l,D.atKey (.string l) (.lit (.int .i64 0))= .lit (.int .i64 (f l))
def mh (w:World) (b n:Nat) (f:List UInt8->Bool):Prop:=
 ∃D:DataW Unit,w.ownsMap Tryz.prog 9 (plainElem Tryz.prog 4) b n D∧∀l,D.atKey (.string l) (.lit (.bool false))= .lit (.bool (f l))
theorem nA.made (w:World):nA (w.alloc (.map #[] 0)) w.heap.size 0 (λ_=>0):=⟨_,World.ownsMap_made w _ _ _,λ_=>rfl⟩
theorem mh.made (w:World):mh (w.alloc (.map #[] 0)) w.heap.size 0 (λ_=>false):=⟨_,World.ownsMap_made w _ _ _,λ_=>rfl⟩
theorem nA.lt {w:World} {b n:Nat} {f:List UInt8->Int} (h:nA w b n f):b<w.heap.size:=aeU
theorem mh.lt {w:World} {b n:Nat} {f:List UInt8->Bool} (h:mh w b n f):b<w.heap.size:=aeU
theorem nA.same {w w':World} {b n:Nat} {f:List UInt8->Int} (h:nA w b n f) (hb:w'.heap[b]? =w.heap[b]?):nA w' b n f:=by
 obtain⟨D,⟨es,clock,h1,h2⟩,h3⟩:=h;exact⟨D,⟨es,clock,hb.trans h1,h2⟩,h3⟩
theorem mh.same {w w':World} {b n:Nat} {f:List UInt8->Bool} (h:mh w b n f) (hb:w'.heap[b]? =w.heap[b]?):mh w' b n f:=by
 obtain⟨D,⟨es,clock,h1,h2⟩,h3⟩:=h;exact⟨D,⟨es,clock,hb.trans h1,h2⟩,h3⟩
theorem nA.next {w w':World} {b n:Nat} {f:List UInt8->Int} (h:nA w b n f) (hb:Below w.heap.size w w'):nA w' b n f:=h.same (hb.block b h.lt)
theorem mh.next {w w':World} {b n:Nat} {f:List UInt8->Bool} (h:mh w b n f) (hb:Below w.heap.size w w'):mh w' b n f:=h.same (hb.block b h.lt)
theorem aD2 (w:World):(zeroValue 3).run Tryz.prog w= .ok (.int .i64 0) w:=ahe
theorem ap6 (w:World):(zeroValue 4).run Tryz.prog w= .ok (.bool false) w:=ahe
theorem bL5 {v:Int} (hv:cO v):(Lit.int .i64 v).wf=true:=by
 unfold Lit.wf;rw[aM,decide_eq_true_iff,decide_eq_true_iff];exact hv
theorem nA.look {w:World} {b n:Nat} {f:List UInt8->Int} (h:nA w b n f) (s:ByteArray) (hs:s.size<=maxLen):
 (Instr.lookup 134 (.map (some b)) (.string s) false).run Tryz.prog w= .ok (.int .i64 (f s.toList)) w:=by
 obtain⟨D,ho,hf⟩:=h;obtain⟨c,hrun,hat,-⟩:=ho.lookup_int (t:=134) zD Tryz.underlying134 Tryz.underlying3 (aD2 w) (keyOf_str s hs);rw[hf]at hat;obtain rfl:f s.toList=c:=(Lit.int.inj (DataW.lit.inj hat)).2;exact hrun
theorem au7 {H:Type} {v:Value} {x:Bool} {ps:List MemPlace} (hv:plainElem (H:=H) Tryz.prog 4 v=some (.lit (.bool x),ps)):v= .bool x:=by
 unfold plainElem at hv;generalize hu:Program.underlying Tryz.prog 4=u at hv;rw[Tryz.underlying4]at hu;subst hu;cases v with
 |bool y=>exact congrArg Value.bool (Lit.bool.inj (DataW.lit.inj (Prod.mk.inj (Option.some.inj hv)).1))
 |_=>exact absurd hv (by intro h;cases h)
theorem mh.look {w:World} {b n:Nat} {f:List UInt8->Bool} (h:mh w b n f) (s:ByteArray) (hs:s.size<=maxLen):
 (Instr.lookup 124 (.map (some b)) (.string s) false).run Tryz.prog w= .ok (.bool (f s.toList)) w:=by
 obtain⟨D,ho,hf⟩:=h;obtain⟨v,ps,hrun,hv⟩:=ho.lookup (t:=124) zD Tryz.underlying124 (ap6 w) (plainElem_bool Tryz.underlying4 false) (keyOf_str s hs);rw[hf]at hv;have hv':v= .bool (f s.toList):=by exact au7 hv
 rw[hrun,hv']
theorem nA.put {w:World} {b n:Nat} {f:List UInt8->Int} (h:nA w b n f) (hn:n<maxLen) (s:ByteArray) (hs:s.size<=maxLen) (v:Int) (hv:cO v):
 ∃w',(Instr.mapUpdate 134 (.map (some b)) (.string s) (.int .i64 v)).run Tryz.prog w= .ok () w'∧nA w' b (n+1) (λl=>if l=s.toList then v else f l)∧w.grownBy w' (some b):=by
 obtain⟨D,ho,hf⟩:=h;obtain⟨w',hrun,ho',hg⟩:=ho.update (t:=134) zD Tryz.underlying134 hn (keyOf_str s hs) (plainElem_int Tryz.underlying3 (a:=v) (bL5 hv));refine⟨w',hrun,⟨_,ho',λl=> ?_⟩,hg⟩;show _=DataW.lit (.int .i64 (if l=s.toList then v else f l));by_cases hl:l=s.toList
 ·subst hl;rw[if_pos rfl,Maps.atKey_put_same ho.isMap (zD.key (keyOf_str s hs))]
 ·rw[if_neg hl,Maps.atKey_put_other adP,hf]
theorem mh.put {w:World} {b n:Nat} {f:List UInt8->Bool} (h:mh w b n f) (hn:n<maxLen) (s:ByteArray) (hs:s.size<=maxLen) (v:Bool):
 ∃w',(Instr.mapUpdate 124 (.map (some b)) (.string s) (.bool v)).run Tryz.prog w= .ok () w'∧mh w' b (n+1) (λl=>if l=s.toList then v else f l)∧w.grownBy w' (some b):=by
 obtain⟨D,ho,hf⟩:=h;obtain⟨w',hrun,ho',hg⟩:=ho.update (t:=124) zD Tryz.underlying124 hn (keyOf_str s hs) (plainElem_bool Tryz.underlying4 v);refine⟨w',hrun,⟨_,ho',λl=> ?_⟩,hg⟩;show _=DataW.lit (.bool (if l=s.toList then v else f l));by_cases hl:l=s.toList
 ·subst hl;rw[if_pos rfl,Maps.atKey_put_same ho.isMap (zD.key (keyOf_str s hs))]
 ·rw[if_neg hl,Maps.atKey_put_other adP,hf]
theorem bS {w:World} {b j:Nat} {cs:Array Value} {t:TypeId} {fr:Nat×Nat} {u:Value} (h:w.heap[b]? =some (.cells cs t fr)) (hu:cs[j]? =some u):b<w.heap.size∧w.cell? ⟨b,j,none⟩=some u:=
 ⟨(aI h),aG h hu⟩
theorem Ol {b:Nat} {w1 w2 w3:World} (h:w1.grownBy w2 (some b)) (k:w2.grownBy w3 (some b)):w1.grownBy w3 (some b):=
 ⟨k.os.trans h.os,k.tape.trans h.tape,k.output.trans h.output,aO h.size k.size,λj hj hne=>(k.block j (aV hj h.size) hne).trans (h.block j hj hne)⟩
theorem Z8 {b:Nat} {w w':World} (h:Below w.heap.size w w'):w.grownBy w' (some b):=⟨h.os,h.tape,h.output,h.size,λk hk _=>h.block k hk⟩
structure Tp where
 B0:Nat
 bt:Nat
 bm:Nat
 ao:Option Addr
 cap:Nat
 zs:List Int
 t0:B0<=bt
 m0:B0<=bm
 tm:bt≠bm
def FW (w:World) (B:Nat) (zs:List Int) (ao:Option Addr):Prop:= ∀(k:Nat) (hk:k<zs.length),∃b off,ao=some ⟨b,off,none⟩∧b<B∧w.cell? ⟨b,off+k,none⟩=some (.int .u8 zs[k])∧0<=zs[k]∧zs[k]<=255
theorem FW.below {w w':World} {B:Nat} {zs:List Int} {ao:Option Addr} (h:FW w B zs ao) (hb:Below B w w'):FW w' B zs ao:=λk hk=>by
 obtain⟨b,off,e,hB,hc,hz⟩:=h k hk;exact⟨b,off,e,hB,(hb.cell hB).trans hc,hz⟩
structure pF (w:World) (T:Tp):Prop where
 blk: ∃at':Nat,at'<=T.zs.length∧w.heap[T.bt]? =some (.cells #[.slice T.ao T.zs.length T.cap,.int .i64 at'] 73 (0,0))
 QS:FW w T.B0 T.zs T.ao
 len:T.zs.length<=9223372036854775807
theorem pF.lt {w:World} {T:Tp} (h:pF w T):T.bt<w.heap.size:=by obtain⟨a,-,h⟩:=h.blk;exact(aI h)
theorem pF.b0 {w:World} {T:Tp} (h:pF w T):T.B0<=w.heap.size:=by have:=h.lt;have:=T.t0;omega
def aF9 (T:Tp) (n:Int) (w:World) (e:Ending) (w':World):Prop:= ∃r:Int,e= .returned (.int .i64 r)∧0<=r∧(0<n->r<n)∧r<=255∧w.grownBy w' (some T.bt)∧pF w' T
theorem Nh {T:Tp} {n r:Int} {w w':World} (h0:0<=r) (h1:0<n->r<n) (h2:r<=255) (h3:w.grownBy w' (some T.bt)) (h4:pF w' T):aF9 T n w (.returned (.int .i64 r)) w':=⟨r,rfl,h0,h1,h2,h3,h4⟩
theorem qx {b:Nat} (w:World) (n:Nat):w.grownBy (w.drewN n) (some b):=Z8 (below_drewN (ak _ _) n)
theorem pF.draws {w:World} {T:Tp} (h:pF w T) (n:Nat):pF (w.drewN n) T:=by
 obtain⟨a,h1,h2⟩:=h.blk;have hb:=below_drewN (ak w.heap.size w) n;exact⟨⟨a,h1,(hb.block _ h.lt).trans h2⟩,h.QS.below (hb.mono h.b0),h.len⟩
theorem at7 (T:Tp) (n:Int) (w:World) (hn:cO n) (hI:pF w T):
 Calls Tryz.prog 22 #[.pointer (some ⟨T.bt,0,none⟩),.int .i64 n] w (aF9 T n w):=by
 obtain⟨a,ha,hblk⟩:=hI.blk;have HI:=ah hI;have HB:=ah hblk;have hlen:=hI.len;obtain⟨hn1,hn2⟩:=hn;have c0:w.cell? ⟨T.bt,0,none⟩=some (.slice T.ao T.zs.length T.cap):=(bS hblk (j:=0) rfl).2;have c1:w.cell? ⟨T.bt,1,none⟩=some (.int .i64 (a:Int)):=(bS hblk (j:=1) rfl).2;clear hI hblk;by_cases h1:T.zs.length<=a
 ·have hd:decide ((T.zs.length:Int)<=(a:Int))=true:=by rw[decide_eq_true_iff];omega
  go_enter Tryz.func22,Tryz.ntmps22;go_wp2_with fail;go_quiet (fail);go_wp2_with fail;go_ret;exact Nh ahf ahf ahf (qx _ _) (HI.o.draws _)
 ·have hd:decide ((T.zs.length:Int)<=(a:Int))=false:=by rw[decide_eq_false_iff_not];omega
  by_cases h2:n<1
  ·have hd2:decide (n<1)=true:=by rw[decide_eq_true_iff];omega
   go_enter Tryz.func22,Tryz.ntmps22;go_wp2_with fail;go_quiet (fail);go_wp2_with fail;go_ret;exact Nh ahf ahf ahf (qx _ _) (HI.o.draws _)
  ·have hd2:decide (n<1)=false:=by rw[decide_eq_false_iff_not];omega
   go_enter Tryz.func22,Tryz.ntmps22;go_wp2_with fail;go_quiet (fail);generalize hW:World.drewN w _=W1;have HI1:aj (pF W1 T):=ah aeI;have rD:aj (w.grownBy W1 (some T.bt)):=ah (by rw[<- hW];exact qx _ _);have HB1:aj (W1.heap[T.bt]? =some (.cells #[.slice T.ao T.zs.length T.cap,.int .i64 (a:Int)] 73 (0,0))):=ah aay;clear hW c0 c1 HI HB hd hd2;have c1:W1.cell? ⟨T.bt,1,none⟩=some (.int .i64 (a:Int)):=(bS HB1.o (j:=1) rfl).2;have f1:W1.frozen? ⟨T.bt,1,none⟩=false:=bG HB1.o;go_upto_region 4 with fail;generalize hW2:World.setCell W1 _ _=W2;have HB2:aj (W2.heap[T.bt]? =some (.cells #[.slice T.ao T.zs.length T.cap,.int .i64 ((a:Int)+1)] 73 (0,0))):=ah (by rw[<- hW2,dQ HB1.o];rfl);have HG2:aj (W1.grownBy W2 (some T.bt)):=ah (by rw[<- hW2];exact bQ _ _ _);have Qn:aj (FW W2 T.B0 T.zs T.ao):=ah (HI1.o.QS.below (cB HG2.o T.t0 HI1.o.b0));have HI2:aj (pF W2 T):=ah ⟨⟨a+1,ahf,by rw[HB2.o];rfl⟩,Qn.o,HI1.o.len⟩;have HG:=ah (Ol rD.o HG2.o);clear hW2 c1 f1 rD HG2 HB1;have ha:a<T.zs.length:=ahf
   obtain⟨bb,off,hao,hbb,hcell,hz0,hz1⟩:=Qn.o a ha;have c0:W2.cell? ⟨T.bt,0,none⟩=some (.slice T.ao T.zs.length T.cap):=(bS HB2.o (j:=0) rfl).2;have c1:W2.cell? ⟨T.bt,1,none⟩=some (.int .i64 ((a:Int)+1)):=(bS HB2.o (j:=1) rfl).2;rw[hao]at c0;generalize T.zs[a]=z at *;have hw1:(a:Int)+1 -1=(a:Int):=ahf
   have hw2:IntKind.i64.wrap (a:Int)=(a:Int):=IntWalk.i64_in _ ahf;have hb0:(0:Int)<=(a:Int):=ahf
   have hb1:(a:Int)<(T.zs.length:Int):=ahf
   have zL:=ah hao;clear hao HI1;go_quiet (fail);go_wp2_with fail;go_ret;have e1:=Int.emod_nonneg z (show n≠0 by omega);have e2:=Int.emod_lt_of_pos z (show 0<n by omega);have e3:z%n<=255:=by
    by_cases hzn:z<n
    ·rw[Int.emod_eq_of_lt hz0 hzn];exact hz1
    ·omega
   exact Nh e1 (λ_=>e2) e3 (Ol HG.o (qx _ _)) (HI2.o.draws _)
def KW:Array Value:= #[.int .i64 0,.int .i64 0,.string ⟨#[]⟩,.slice none 0 0]
theorem Pn {w:World} {b:Nat} {t:TypeId} (h:w.heap[b]? =some (.cells KW t (0,0))):(w.cell? ⟨b,0,none⟩=some (.int .i64 0)∧w.cell? ⟨b,1,none⟩=some (.int .i64 0)∧w.cell? ⟨b,2,none⟩=some (.string ⟨#[]⟩)∧w.cell? ⟨b,3,none⟩=some (.slice none 0 0))∧(∀j,w.frozen? ⟨b,j,none⟩=false):=
 ⟨⟨(bS h (j:=0) rfl).2,(bS h (j:=1) rfl).2,(bS h (j:=2) rfl).2,(bS h (j:=3) rfl).2⟩,λj=>bG h⟩
theorem Iy (s:ByteArray) (w:World):
 Calls Tryz.prog 90 #[.string s] w λe w'=>e= .returned (exV 2 0 s .nil none 0)∧Below w.heap.size w w':=by
 go_enter Tryz.func90,Tryz.ntmps90;go_wp2;exact bodyPost_ret (v:=exV 2 0 s .nil none 0) (by simp[results,Tryz.results90,go_sem,exV,bV.len]) rfl ⟨rfl,aA _ _⟩
theorem I4 (op:Int) (o1 n1:Int) (m1:ByteArray) (k1:bV) (a1:Option Addr) (c1:Nat) (o2 n2:Int) (m2:ByteArray) (k2:bV) (a2:Option Addr) (c2:Nat) (w:World):
 Calls Tryz.prog 89 #[.int .i64 op,exV o1 n1 m1 k1 a1 c1,exV o2 n2 m2 k2 a2 c2] w λe w'=> ∃g,e= .returned (.agg #[.int .i64 op,.int .i64 0,.string ⟨#[]⟩,.slice (some ⟨g,0,none⟩) 2 2])∧w.heap.size<=g∧w'.heap[g]? =some (.cells (Ui o1 n1 m1 k1 a1 c1++Ui o2 n2 m2 k2 a2 c2).toArray 80 (0,0))∧Below w.heap.size w w':=by
 unfold exV;go_enter Tryz.func89,Tryz.ntmps89;go_wp2;refine bodyPost_ret (v:= .agg #[.int .i64 op,.int .i64 0,.string ⟨#[]⟩,.slice (some ⟨w.heap.size+1+1+1,0,none⟩) 2 2]) (by simp[results,Tryz.results89,go_sem]) rfl ⟨w.heap.size+1+1+1,rfl,ahf,?_,?_⟩
 ·generalize hW:World.alloc (World.alloc (World.alloc w _) _) _=W;have e:W.heap.size=w.heap.size+1+1+1:=by rw[<- hW];simp
  rw[<- e];exact heap_alloc_new _ _
 ·exact(((aA _ _).alloc ahh _).alloc ahi _).alloc ahi _
namespace Md
def zx:bV->Nat
 | .nil=>0
 | .cons _ _ _ kids rest=>1+zx kids+zx rest
theorem XP: ∀l:bV,l.len<=zx l
 | .nil=>aD _
 | .cons _ _ _ k r=>by have:=XP r;rw[zx,bV.len];omega
def Sq (op n:Int) (nm:ByteArray) (kids:bV):Prop:=qR op n nm kids∧zx kids<=40
def wM (h:dM):Nat:=3+zx h.bM+zx h.idx
def FH:bf->Prop
 | .nil=>True
 | .cons h b e r=>wM h<=100∧(b.len<=10∧FH b)∧(e.len<=10∧FH e)∧FH r
def SB (l:bf):Prop:=l.len<=10∧FH l
theorem sb0:SB .nil:=⟨bC _,trivial⟩
theorem SB.max {l:bf} (h:SB l):l.len<=maxLen:=by have:=h.1;unfold maxLen;omega
def A8 (h:dM) (b e:bf):Prop:=A9 h b e∧wM h<=100∧SB b∧SB e
theorem Si: ∀ {l:List bU},(∀x∈l,A8 x.h x.b x.e)->FH (fQ l)
 | [],_=>trivial
 |x::r,h=>⟨(h x aW).2.1,(h x aW).2.2.1,(h x aW).2.2.2,Si (λy hy=>h y (aY _ hy))⟩
end Md
def nJ (B:Nat) (X:Nat->Prop) (w w':World):Prop:=w.heap.size<=w'.heap.size∧∀k,B<=k-> ¬X k->k<w.heap.size->w'.heap[k]? =w.heap[k]?
def iK (B:Nat) (X:Nat->Prop) (w:World) (Q:World->Prop):Prop:= ∀w',nJ B X w w'->Q w'
def Ct (H:Option Nat) (k:Nat):Prop:=H=some k
def BI (g H:Option Nat) (k:Nat):Prop:=g=some k∨H=some k
def Hx (w:World) (H H':Option Nat):Prop:=H'=H∨∃h,H'=some h∧w.heap.size<=h
theorem Hx.refl (w:World) (H:Option Nat):Hx w H H:= .inl rfl
theorem Hx.trans {w w1:World} {H H1 H2:Option Nat} (h:Hx w H H1) (k:Hx w1 H1 H2) (hs:w.heap.size<=w1.heap.size):Hx w H H2:=by
 rcases k with rfl|⟨b,rfl,hb⟩
 ·exact h
 ·exact .inr ⟨b,rfl,aO hs hb⟩
theorem Hx.old {w:World} {H H':Option Nat} (h:Hx w H H') {k:Nat} (hk:k<w.heap.size) (e:Ct H' k):Ct H k:=by
 rcases h with rfl|⟨b,rfl,hb⟩
 ·exact e
 ·injection e with e;omega
section
variable {B B1:Nat} {X X1 X':Nat->Prop} {w w' w1:World} {Q:World->Prop}
theorem nJ.refl (B:Nat) (X:Nat->Prop) (w:World):nJ B X w w:=⟨aD _,λ_ _ _ _=>rfl⟩
theorem nJ.EC (h:kT B w w'):nJ B X w w':=⟨h.1,λk h1 _ h2=>h.2 k h1 h2⟩
theorem nJ.of_below (h:Below w.heap.size w w'):nJ B X w w':= .EC (bR h)
theorem nJ.Vf {g:Option Nat} (h:w.grownBy w' g) (hX: ∀k,B<=k->g=some k->X k):nJ B X w w':=⟨h.size,λk h1 h2 h3=>h.block k h3 (λe=>h2 (hX k h1 e.symm))⟩
theorem nJ.trans (h:nJ B X w w1) (k:nJ B X' w1 w') (hX: ∀k,B<=k->k<w.heap.size->X' k->X k):nJ B X w w':=
 ⟨aO h.1 k.1,λj h1 h2 h3=>(k.2 j h1 (λhx=>h2 (hX j h1 h3 hx)) (aV h3 h.1)).trans (h.2 j h1 h2 h3)⟩
theorem nJ.weak (h:nJ B X w w') (hB:B<=B1) (hX: ∀k,B1<=k->k<w.heap.size->X k->X1 k):nJ B1 X1 w w':=⟨h.1,λk h1 h2 h3=>h.2 k (aO hB h1) (λhx=>h2 (hX k h1 h3 hx)) h3⟩
theorem iK.now (h:iK B X w Q):Q w:=h w (nJ.refl _ _ _)
theorem iK.go (h:iK B X w Q) (ha:nJ B X w w1) (hX: ∀k,B<=k->k<w.heap.size->X' k->X k):iK B X' w1 Q:=λw' h'=>h w' (ha.trans h' hX)
theorem iK.weak (h:iK B1 X1 w Q) (hB:B<=B1) (hX: ∀k,B1<=k->k<w.heap.size->X k->X1 k):iK B X w Q:=λw' h'=>h w' (h'.weak hB hX)
theorem iK.iQ (h:iH B1 w Q) (hB:B<=B1) (hX: ∀k,B1<=k->k<w.heap.size-> ¬X k):iK B X w Q:=λw' h'=>h w' ⟨h'.1,λk h1 h2=>h'.2 k (aO hB h1) (hX k h1 h2) h2⟩
end
structure kR {α:Type} (f:α->List Value) (m:Nat) (I:α->World->Prop) (ty:TypeId) (B:Nat) (H:Option Nat) (w:World) (v:Value) (xs:List α):Prop where
 own:w.ownsRow B ty m v xs.length (xs.flatMap f)
 ne: ∀k,v.ownBlock=some k->H≠some k
 stay: ∀x∈xs,iK B (BI v.ownBlock H) w (I x)
section
variable {α:Type} {f:α->List Value} {m:Nat} {I:α->World->Prop} {ty:TypeId} {B:Nat} {H H':Option Nat} {w w':World} {v:Value} {xs:List α}
theorem kR.nil (f:α->List Value) (m:Nat) (I:α->World->Prop) (ty:TypeId) (B:Nat) (H:Option Nat) (w:World):kR f m I ty B H w (.slice none 0 0) []:=⟨World.ownsRow_nil _ _ _ _,λ_ e=>aht,λx hx=>ahQ⟩
theorem kR.lt (h:kR f m I ty B H w v xs): ∀k,v.ownBlock=some k->B<=k∧k<w.heap.size:=h.own.lt
theorem kR.len (h:kR f m I ty B H w v xs): ∃ao cap,v= .slice ao xs.length cap:=by
 rcases h.own.2 with⟨h1,h2⟩|⟨g,cap,cur,h1,-⟩
 ·exact⟨none,0,by rw[h1,h2]⟩
 ·exact⟨_,_,h1⟩
theorem kR.next (h:kR f m I ty B H w v xs) (ha:nJ B (Ct H) w w') (hH:Hx w H H'):kR f m I ty B H' w' v xs:=by
 refine⟨⟨h.own.1,?_⟩,λk hk e=> ?_,λx hx=>(h.stay x hx).go (ha.weak (aD _) (λk _ _ e=> .inr e)) (λk _ h2 e=> ?_)⟩
 ·rcases h.own.2 with h1|⟨g,cap,cur,h1,h2,h3,h4⟩
  ·exact .inl h1
  ·exact .inr ⟨g,cap,cur,h1,h2,(ha.2 g h2 (λe=>h.ne g ahP e) (aI h3)).trans h3,h4⟩
 ·exact h.ne k hk (hH.old (h.lt k hk).2 e)
 ·rcases e with e|e
  ·exact .inl e
  ·exact .inr (hH.old h2 e)
theorem kR.aJ2 {ys:List α} {g cap n:Nat} (h:kR f m I ty B H w v xs) (hy: ∀y∈ys,iK B (BI v.ownBlock H) w (I y)) (hn:n=xs.length+ys.length) (hown:w'.ownsRow B ty m (.slice (some ⟨g,0,none⟩) n cap) n (xs.flatMap f++ys.flatMap f)) (hg:w.grownBy w' v.ownBlock) (hmv:v.ownBlock=some g∨g=w.heap.size) (hH: ∀k,H=some k->k<w.heap.size):
 kR f m I ty B H w' (.slice (some ⟨g,0,none⟩) n cap) (xs++ys):=by
 subst hn;refine⟨by rw[List.flatMap_append,au];exact hown,λk hk e=> ?_,λy hyy=> ?_⟩
 ·have hk':g=k:=by injection hk
  subst hk';rcases hmv with hmv|rfl
  ·exact h.ne _ hmv e
  ·exact absurd (hH _ e) (Nat.lt_irrefl _)
 ·show iK B (BI (some g) H) w' (I y);have hall:iK B (BI v.ownBlock H) w (I y):=by
   rcases List.mem_append.1 hyy with h1|h1
   ·exact h.stay y h1
   ·exact hy y h1
  refine hall.go (.Vf hg (λk _ e=> .inl e)) (λk _ h2 e=> ?_);rcases e with e|e
  ·injection e with e;subst e;rcases hmv with hmv|rfl
   ·exact .inl hmv
   ·exact absurd h2 (Nat.lt_irrefl _)
  ·exact .inr e
theorem kR.push {x:α} {g cap n:Nat} (h:kR f m I ty B H w v xs) (hx:iK B (BI v.ownBlock H) w (I x)) (hn:n=xs.length+1) (hown:w'.ownsRow B ty m (.slice (some ⟨g,0,none⟩) n cap) n (xs.flatMap f++f x)) (hg:w.grownBy w' v.ownBlock) (hmv:v.ownBlock=some g∨g=w.heap.size) (hH: ∀k,H=some k->k<w.heap.size):
 kR f m I ty B H w' (.slice (some ⟨g,0,none⟩) n cap) (xs++[x]):=
 h.aJ2 (ys:=[x]) (λy hy=>by rw[List.mem_singleton.1 hy];exact hx) hn ada hg hmv hH
theorem kR.weak {B0:Nat} (h:kR f m I ty B H w v xs) (hB:B0<=B):kR f m I ty B0 H w v xs:=by
 refine⟨⟨h.own.1,?_⟩,h.ne,λx hx=>(h.stay x hx).weak hB (λ_ _ _ e=>e)⟩;rcases h.own.2 with h1|⟨g,cap,cur,h1,h2,h3,h4⟩
 ·exact .inl h1
 ·exact .inr ⟨g,cap,cur,h1,aO hB h2,h3,h4⟩
theorem kR.cells (hf: ∀x,(f x).length=m) (h:kR f m I ty B H w v xs):iK B (Ct H) w (λw2=>(∀x∈xs,I x w2)∧∃ao cap,v= .slice ao xs.length cap∧xs.length<=cap∧∀k x,xs[k]? =some x->∃g,ao=some ⟨g,0,none⟩∧B<=g∧g<w2.heap.size∧∀j u,(f x)[j]? =some u->w2.cell? ⟨g,k*m+j,none⟩=some u):=λw2 h2=>by
 refine⟨λx hx=>(h.stay x hx) w2 (h2.weak (aD _) (λ_ _ _ e=> .inr e)),?_⟩;have hne:=h.ne;rcases h.own.2 with⟨h1,h3⟩|⟨g,cap,cur,h1,hB,hg,hc,-,hs,ht⟩
 ·refine⟨none,0,by rw[h1,h3],ahf,λk x hk=> ?_⟩;have:=(List.getElem?_eq_some_iff.1 hk).1;omega
 ·refine⟨some ⟨g,0,none⟩,cap,h1,hc,λk x hk=>⟨g,rfl,hB,?_⟩⟩;have hg2:=(h2.2 g hB (λe=>hne g ahP e) (aI hg)).trans hg;refine⟨(aI hg2),λj u hu=> ?_⟩;have hF:=flat_get hf xs k x j u hk hu;rw[<- ht]at hF;have hlt:=(List.getElem?_eq_some_iff.1 hF).1;rw[List.getElem?_take_of_lt acI]at hF;exact aG hg2 ahL
theorem kR.news (hf: ∀x,(f x).length=m) (h:kR f m I ty B H w v xs) {g n cap:Nat} (hv:v= .slice (some ⟨g,0,none⟩) n cap): ∀j u,(xs.flatMap f)[j]? =some u->w.cell? ((⟨g,0,none⟩:Addr).add j)=some u:=by
 intro j u hu;rcases h.own.2 with⟨h1,h3⟩|⟨g',cap',cur,h1,hB,hg,hc,-,hs,ht⟩
 ·rw[hv]at h1;cases h1
 ·rw[hv]at h1;injection h1 with e1 e2 e3;injection e1 with e1;injection e1 with e1;subst e1;rw[<- ht]at hu;have hlt:=(List.getElem?_eq_some_iff.1 hu).1;rw[List.getElem?_take_of_lt acI]at hu;have:w.cell? ⟨g,j,none⟩=some u:=aG hg (by rw[<- hu];simp);rcases Nat.eq_zero_or_pos j with rfl|hj
  ·simpa[Addr.add]using this
  ·simpa[Addr.add,Nat.ne_of_gt hj]using this
end
namespace Md
abbrev zK (B:Nat) (H:Option Nat) (w:World) (v:Value) (l:List bU):Prop:=kR bU.f 11 bU.I 82 B H w v l
theorem zK.says {B:Nat} {H:Option Nat} {w:World} {v:Value} {l:List bU} (h:zK B H w v l) (hok: ∀x∈l,A8 x.h x.b x.e): ∃ao cap,v= .slice ao (fQ l).len cap∧iK B (Ct H) w (λw2=>(fQ l).At w2 w2.heap.size ao 0):=by
 obtain⟨ao,cap,e⟩:=h.len;refine⟨ao,cap,by rw[e,qz],λw2 h2=> ?_⟩;obtain⟨hI,mK,cap',e',-,hc⟩:=h.cells Br w2 h2;rw[e]at e';injection e' with e1 e2 e3;subst e1;exact KR l 0 (λx hx=>⟨(hok x hx).1,hI x hx⟩) (λi x hx=>aam)
abbrev KY (B:Nat) (H:Option Nat) (w:World) (v:Value) (l:List fZ):Prop:=kR fZ.f 4 fZ.I 63 B H w v l
theorem KY.says {B:Nat} {H:Option Nat} {w:World} {v:Value} {l:List fZ} (h:KY B H w v l) (hok: ∀x∈l,x.t.Ok∧x.t.cZ.length<=x.eF): ∃ao cap,v= .slice ao (l.map (·.t)).length cap∧l.length<=cap∧iK B (Ct H) w (λw2=>iP w2 w2.heap.size (l.map (·.t)) ao 0):=by
 obtain⟨-,ao,cap,e,hl,-⟩:=h.cells Bt w (nJ.refl _ _ _);exact AaN
end Md
structure eH (w:World) (T:Tp) (H:Option Nat) (hs:List ByteArray):Prop where
 tape:pF w T
 Cx: ∃(th left:Int) (a b c d:Bool) (vH:Value),cO left∧w.heap[T.bm]? =some (.cells #[.pointer (some ⟨T.bt,0,none⟩),.int .i64 th,.int .i64 left,.bool a,.bool b,.bool c,.bool d,vH] 75 (0,0))∧vH.ownBlock=H∧kC T.B0 w vH hs
 nt:H≠some T.bt
 nm:H≠some T.bm
 ok: ∀x∈hs,x.size<=maxLen
 few:hs.length<=1000
structure Mm (T:Tp) (H:Option Nat) (w w':World):Prop where
 os:w'.os=w.os
 tape:w'.tape=w.tape
 output:w'.output=w.output
 size:w.heap.size<=w'.heap.size
 block: ∀k,k<w.heap.size->k≠T.bt->k≠T.bm->H≠some k->w'.heap[k]? =w.heap[k]?
section
variable {T:Tp} {H H1:Option Nat} {hs:List ByteArray} {w w' w1 w2:World}
theorem Mm.refl (T:Tp) (H:Option Nat) (w:World):Mm T H w w:=⟨rfl,rfl,rfl,aD _,λ_ _ _ _ _=>rfl⟩
theorem Mm.trans (h:Mm T H w w1) (hH:Hx w H H1) (k:Mm T H1 w1 w2):Mm T H w w2:=
 ⟨k.os.trans h.os,k.tape.trans h.tape,k.output.trans h.output,aO h.size k.size,λj hj h1 h2 h3=>(k.block j (aV hj h.size) h1 h2 (λe=>h3 (hH.old hj e))).trans (h.block j hj h1 h2 h3)⟩
theorem Mm.of_below (h:Below w.heap.size w w'):Mm T H w w':=⟨h.os,h.tape,h.output,h.size,λk hk _ _ _=>h.block k hk⟩
theorem Mm.bK4 (h:w.grownBy w' (some T.bt)):Mm T H w w':=⟨h.os,h.tape,h.output,h.size,λk hk h1 _ _=>h.block k hk ah7⟩
theorem Mm.bi8 (h:w.grownBy w' (some T.bm)):Mm T H w w':=⟨h.os,h.tape,h.output,h.size,λk hk _ h1 _=>h.block k hk ah7⟩
theorem Mm.bK3 (h:w.grownBy w' H):Mm T H w w':=⟨h.os,h.tape,h.output,h.size,λk hk _ _ h1=>h.block k hk (λe=>h1 e.symm)⟩
theorem Mm.then_ (h:Mm T H w w1) (hb:Below w.heap.size w1 w2) (hs:w1.heap.size<=w2.heap.size):Mm T H w w2:=
 ⟨hb.os.trans h.os,hb.tape.trans h.tape,hb.output.trans h.output,aO h.size hs,λk hk h1 h2 h3=>(hb.block k hk).trans (h.block k hk h1 h2 h3)⟩
theorem Mm.set (h:Mm T H w w') (a:Addr) (v:Value) (hb:w.heap.size<=a.block):Mm T H w (w'.setCell a v):=
 ⟨h.os,h.tape,h.output,aa5,λk hk h1 h2 h3=>(bF w' a v rfl ahf).trans (h.block k hk h1 h2 h3)⟩
theorem Mm.JM {B:Nat} (h:Mm T H w w') (ht:T.bt<B) (hm:T.bm<B):nJ B (Ct H) w w':=⟨h.size,λk h1 h2 h3=>h.block k h3 ahf ahf h2⟩
theorem Mm.keep (h:Mm T H w w') {k:Nat} {o:Obj} (hk:w.heap[k]? =some o) (h1:k≠T.bt) (h2:k≠T.bm) (h3:H≠some k):w'.heap[k]? =some o:=
 (h.block k (aI hk) h1 h2 h3).trans hk
theorem eH.lt (h:eH w T H hs):T.bm<w.heap.size:=by obtain⟨_,_,_,_,_,_,_,_,h,_⟩:=h.Cx;exact(aI h)
theorem eH.hlt (h:eH w T H hs): ∀k,H=some k->T.B0<=k∧k<w.heap.size:=by
 obtain⟨-,-,-,-,-,-,vH,-,-,rfl,hg⟩:=h.Cx;exact hg.lt
theorem eH.hlt' (h:eH w T H hs): ∀k,H=some k->k<w.heap.size:=λk e=>(h.hlt k e).2
theorem eH.ptr (h:eH w T H hs):w.cell? ⟨T.bm,0,none⟩=some (.pointer (some ⟨T.bt,0,none⟩)):=by
 obtain⟨_,_,_,_,_,_,_,_,k,_⟩:=h.Cx;exact(bS k (j:=0) rfl).2
theorem eH.same (h:eH w T H hs) (ho:w.heap.size<=w'.heap.size) (hb:Below T.B0 w w') (ht:w'.heap[T.bt]? =w.heap[T.bt]?) (hm:w'.heap[T.bm]? =w.heap[T.bm]?) (hh: ∀k,H=some k->w'.heap[k]? =w.heap[k]?):eH w' T H hs:=by
 obtain⟨x,k1,k2⟩:=h.tape.blk;obtain⟨th,left,a,b,c,d,vH,k3,k4,k5,k6⟩:=h.Cx;refine⟨⟨⟨x,k1,ht.trans k2⟩,h.tape.QS.below hb,h.tape.len⟩,⟨th,left,a,b,c,d,vH,k3,hm.trans k4,k5,⟨k6.own.1,?_⟩,λ_ _ _ _=>trivial⟩,h.nt,h.nm,h.ok,h.few⟩;rcases k6.own.2 with h1|⟨g,cap,cur,h1,h2,h3,h4⟩
 ·exact .inl h1
 ·exact .inr ⟨g,cap,cur,h1,h2,(hh g (by rw[<- k5,h1];rfl)).trans h3,h4⟩
theorem eH.below (h:eH w T H hs) (hb:Below w.heap.size w w'):eH w' T H hs:=
 h.same hb.size (hb.mono h.tape.b0) (hb.block _ h.tape.lt) (hb.block _ h.lt) (λk e=>hb.block _ (h.hlt k e).2)
theorem eH.set (h:eH w T H hs) (a:Addr) (v:Value) (h0:T.B0<=a.block) (h1:a.block≠T.bt) (h2:a.block≠T.bm) (h3:H≠some a.block):eH (w.setCell a v) T H hs:=
 h.same afp (cB (bQ w a v) h0 h.tape.b0) (bF w a v rfl h1) (bF w a v rfl h2) (λk e=>bF w a v rfl (λe'=>h3 (by rw[e',e])))
theorem eH.grown (h:eH w T H hs) {g:Option Nat} (hg:w.grownBy w' g) (h0: ∀k,g=some k->T.B0<=k∧k≠T.bt∧k≠T.bm∧H≠some k):eH w' T H hs:=
 h.same hg.size ⟨hg.os,hg.tape,hg.output,hg.size,λk hk=>hg.block k (aV hk h.tape.b0) (λe=>by have:=(h0 k e.symm).1;omega)⟩ (hg.block _ h.tape.lt (λe=>(h0 _ e.symm).2.1 rfl)) (hg.block _ h.lt (λe=>(h0 _ e.symm).2.2.1 rfl)) (λk e=>hg.block _ (h.hlt k e).2 (λe'=>(h0 k e'.symm).2.2.2 e))
def TF (T:Tp) (w w':World):Prop:=w.grownBy w' (some T.bt)
theorem TF.refl (T:Tp) (w:World):TF T w w:=Z8 (ak _ _)
theorem TF.trans (h:TF T w w1) (k:TF T w1 w2):TF T w w2:=Ol h k
theorem TF.of_below (h:Below w.heap.size w w'):TF T w w':=Z8 h
theorem TF.QJ {B:Nat} (h:TF T w w') (ht:T.bt<B):kT B w w':=⟨h.size,λk h1 h2=>h.block k h2 ahi⟩
theorem TF.mm (h:TF T w w'):Mm T H w w':=Mm.bK4 h
theorem TF.keep (h:TF T w w') {k:Nat} {o:Obj} (hk:w.heap[k]? =some o) (h1:k≠T.bt):w'.heap[k]? =some o:=(h.block k (aI hk) ah7).trans hk
theorem TF.set (h:TF T w w') (a:Addr) (v:Value) (hb:w.heap.size<=a.block):TF T w (w'.setCell a v):=
 ⟨h.os,h.tape,h.output,aa5,λk hk h1=>(bF w' a v rfl ahf).trans (h.block k hk h1)⟩
def aL0 (T:Tp) (H:Option Nat) (hs:List ByteArray) (n:Int) (w:World) (e:Ending) (w':World):Prop:= ∃r:Nat,e= .returned (.int .i64 r)∧(0<n->(r:Int)<n)∧r<=255∧TF T w w'∧eH w' T H hs
theorem lK (T:Tp) (H:Option Nat) (hs:List ByteArray) (n:Int) (w:World) (hn:cO n) (hI:eH w T H hs):
 Calls Tryz.prog 22 #[.pointer (some ⟨T.bt,0,none⟩),.int .i64 n] w (aL0 T H hs n w):=
 (at7 T n w hn hI.tape).mono λe w' ⟨r,h1,h2,h3,h4,h5,h6⟩=>by
  obtain⟨r,rfl⟩:=Int.eq_ofNat_of_zero_le h2;refine⟨r,h1,h3,ahf,h5,h6,?_,hI.nt,hI.nm,hI.ok,hI.few⟩;obtain⟨th,left,a,b,c,d,vH,k3,k4,k5,k6⟩:=hI.Cx;refine⟨th,left,a,b,c,d,vH,k3,(h5.block _ hI.lt (by simp;exact T.tm.symm)).trans k4,k5,⟨k6.own.1,?_⟩,λ_ _ _ _=>trivial⟩;rcases k6.own.2 with h1|⟨g,cap,cur,h1,h2,h3,h4⟩
  ·exact .inl h1
  ·exact .inr ⟨g,cap,cur,h1,h2,(h5.block g (aI h3) aaJ).trans h3,h4⟩
structure Old (T:Tp) (H:Option Nat) (B:Nat):Prop where
 t:T.bt<B
 m:T.bm<B
 z:T.B0<=B
 h: ∀k,H=some k->k<B
theorem eH.old (h:eH w T H hs):Old T H w.heap.size:=⟨h.tape.lt,h.lt,h.tape.b0,h.hlt'⟩
theorem eH.ZI {B:Nat} (h:eH w T H hs) (ho:Old T H B) (a:Addr) (v:Value) (hb:B<=a.block):eH (w.setCell a v) T H hs:=
 h.set a v (aO ho.z hb) (λe=>absurd ho.t ahf) (λe=>absurd ho.m ahf) (λe=>absurd (ho.h _ e) ahf)
theorem eH.left (h:eH w T H hs) {m:Int} (hm:cO m):eH (w.setCell ⟨T.bm,2,none⟩ (.int .i64 m)) T H hs:=by
 obtain⟨x,k1,k2⟩:=h.tape.blk;obtain⟨th,left,a,b,c,d,vH,k3,k4,k5,k6⟩:=h.Cx;refine⟨⟨⟨x,k1,(bF w _ _ rfl T.tm.symm).trans k2⟩,h.tape.QS.below (cB (bQ w _ _) T.m0 h.tape.b0),h.tape.len⟩,⟨th,m,a,b,c,d,vH,hm,ahM,k5,⟨k6.own.1,?_⟩,λ_ _ _ _=>trivial⟩,h.nt,h.nm,h.ok,h.few⟩;exact Abj
theorem eH.th (h:eH w T H hs) (m:Int):eH (w.setCell ⟨T.bm,1,none⟩ (.int .i64 m)) T H hs:=by
 obtain⟨x,k1,k2⟩:=h.tape.blk;obtain⟨th,left,a,b,c,d,vH,k3,k4,k5,k6⟩:=h.Cx;refine⟨⟨⟨x,k1,(bF w _ _ rfl T.tm.symm).trans k2⟩,h.tape.QS.below (cB (bQ w _ _) T.m0 h.tape.b0),h.tape.len⟩,⟨m,left,a,b,c,d,vH,k3,ahM,k5,⟨k6.own.1,?_⟩,λ_ _ _ _=>trivial⟩,h.nt,h.nm,h.ok,h.few⟩;exact Abj
theorem eH.flag (h:eH w T H hs) (j:Nat) (hj:j=3∨j=4∨j=5∨j=6) (q:Bool):eH (w.setCell ⟨T.bm,j,none⟩ (.bool q)) T H hs:=by
 obtain⟨x,k1,k2⟩:=h.tape.blk;obtain⟨th,left,a,b,c,d,vH,k3,k4,k5,k6⟩:=h.Cx;have hrow:kC T.B0 (w.setCell ⟨T.bm,j,none⟩ (.bool q)) vH hs:=by
  refine⟨⟨k6.own.1,?_⟩,λ_ _ _ _=>trivial⟩;exact Abj
 have RY:pF (w.setCell ⟨T.bm,j,none⟩ (.bool q)) T:=⟨⟨x,k1,(bF w _ _ rfl T.tm.symm).trans k2⟩,h.tape.QS.below (cB (bQ w _ _) T.m0 h.tape.b0),h.tape.len⟩;rcases hj with rfl|rfl|rfl|rfl
 ·exact⟨RY,⟨th,left,q,b,c,d,vH,k3,ahM,k5,hrow⟩,h.nt,h.nm,h.ok,h.few⟩
 ·exact⟨RY,⟨th,left,a,q,c,d,vH,k3,ahM,k5,hrow⟩,h.nt,h.nm,h.ok,h.few⟩
 ·exact⟨RY,⟨th,left,a,b,q,d,vH,k3,ahM,k5,hrow⟩,h.nt,h.nm,h.ok,h.few⟩
 ·exact⟨RY,⟨th,left,a,b,c,q,vH,k3,ahM,k5,hrow⟩,h.nt,h.nm,h.ok,h.few⟩
theorem Mm.Nn (h:Mm T H w w') (hH:Hx w H H1) (j:Nat) (v:Value):Mm T H w (w'.setCell ⟨T.bm,j,none⟩ v):=h.trans (Hx.refl _ _) ((Mm.bi8 (bQ w' ⟨T.bm,j,none⟩ v)))
theorem eH.reads (h:eH w T H hs): ∃(th left:Int) (a b c d:Bool) (vH:Value),cO left∧w.cell? ⟨T.bm,0,none⟩=some (.pointer (some ⟨T.bt,0,none⟩))∧w.cell? ⟨T.bm,1,none⟩=some (.int .i64 th)∧w.cell? ⟨T.bm,2,none⟩=some (.int .i64 left)∧w.cell? ⟨T.bm,3,none⟩=some (.bool a)∧w.cell? ⟨T.bm,4,none⟩=some (.bool b)∧w.cell? ⟨T.bm,5,none⟩=some (.bool c)∧w.cell? ⟨T.bm,6,none⟩=some (.bool d)∧w.cell? ⟨T.bm,7,none⟩=some vH∧(∀j,w.frozen? ⟨T.bm,j,none⟩=false)∧vH.ownBlock=H∧kC T.B0 w vH hs:=by
 obtain⟨th,left,a,b,c,d,vH,k3,k4,k5,k6⟩:=h.Cx;exact⟨th,left,a,b,c,d,vH,k3,(bS k4 (j:=0) rfl).2,(bS k4 (j:=1) rfl).2,(bS k4 (j:=2) rfl).2,(bS k4 (j:=3) rfl).2,(bS k4 (j:=4) rfl).2,(bS k4 (j:=5) rfl).2,(bS k4 (j:=6) rfl).2,(bS k4 (j:=7) rfl).2,λj=>bG k4,k5,k6⟩
theorem eH.held {H':Option Nat} {hs':List ByteArray} {vH:Value} (h:eH w T H hs) (hw:w'=w1.setCell ⟨T.bm,7,none⟩ vH) (hg:w.grownBy w1 H) (hv:vH.ownBlock=H') (hH:Hx w H H') (hrow:kC T.B0 w1 vH hs') (hok: ∀x∈hs',x.size<=maxLen) (oz:hs'.length<=1000):eH w' T H' hs'∧Mm T H w w':=by
 subst hw;obtain⟨x,k1,k2⟩:=h.tape.blk;obtain⟨th,left,a,b,c,d,vH0,k3,k4,k5,k6⟩:=h.Cx;have h4:=(hg.block _ h.lt (λe=>h.nm e.symm)).trans k4;have h2:=(hg.block _ h.tape.lt (λe=>h.nt e.symm)).trans k2;have hb:Below T.B0 w w1:=⟨hg.os,hg.tape,hg.output,hg.size,λk hk=>hg.block k (aV hk h.tape.b0) (λe=>by have:=(h.hlt k e.symm).1;omega)⟩;have n1:H'≠some T.bt:=by
  rcases hH with rfl|⟨b,rfl,hb⟩
  ·exact h.nt
  ·intro e;injection e with e;have:=h.tape.lt;omega
 have n2:H'≠some T.bm:=by
  rcases hH with rfl|⟨b,rfl,hb⟩
  ·exact h.nm
  ·intro e;injection e with e;have:=h.lt;omega
 refine⟨⟨⟨⟨x,k1,(bF w1 _ _ rfl T.tm.symm).trans h2⟩,(h.tape.QS.below hb).below (cB (bQ w1 _ _) T.m0 (aO h.tape.b0 hg.size)),h.tape.len⟩,⟨th,left,a,b,c,d,vH,k3,by rw[dQ h4];rfl,hv,⟨hrow.own.1,?_⟩,λ_ _ _ _=>trivial⟩,n1,n2,hok,oz⟩,(Mm.bK3 hg).trans (Hx.refl _ _) (Mm.bi8 (bQ w1 ⟨T.bm,7,none⟩ vH))⟩;rcases hrow.own.2 with h1|⟨g,cap,cur,h1,h2,h3,h4⟩
 ·exact .inl h1
 ·exact .inr ⟨g,cap,cur,h1,h2,(bF w1 _ _ rfl (by intro e;exact n2 (by rw[<- hv,h1,<- e];rfl))).trans h3,h4⟩
theorem kC.pop {B:Nat} {v:Value} {x:ByteArray} {g n cap:Nat} (h:kC B w v (hs++[x])) (hv:v= .slice (some ⟨g,0,none⟩) n cap):kC B w (.slice (some ⟨g,0,none⟩) hs.length cap) hs:=by
 rcases h.own.2 with⟨h1,-⟩|⟨g',cap',cur,h1,h2,h3,h4,h5,h6,h7⟩
 ·rw[hv]at h1;cases h1
 ·rw[hv]at h1;injection h1 with e1 e2 e3;injection e1 with e1;injection e1 with e1;subst e1;subst e3;rw[au,List.length_singleton]at h4 h7;refine⟨⟨rW Dq hs,.inr ⟨g,cap,cur,rfl,h2,h3,ahf,h5,h6,?_⟩⟩,λ_ _ _ _=>trivial⟩;have:=congrArg (List.take (hs.length*1)) h7;rw[List.take_take,Nat.min_eq_left ahf,List.flatMap_append,List.take_append_of_le_length (by rw[rW Dq];exact aD _)]at this;rw[this];exact List.take_of_length_le (by rw[rW Dq];exact aD _)
end
end Go.Proofs.YtcjgfgkllmldpaaGreatDoor
