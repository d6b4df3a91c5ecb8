/- Expressions as data, and what it is that a row of them lies in memory. No program in sight. And what hangs on it. -/
import Derived.Test.YtdoplekppjkkpaaGreatDoorGA
set_option linter.unusedSimpArgs false
set_option linter.unusedVariables false
set_option maxHeartbeats 40000000
set_option maxRecDepth 1000000
namespace Go.Proofs.YtdoplekppjkkpaaGreatDoor
open Go.RowKit
theorem dX (w:World) (cs:List Value) (t:TypeId) (j:Nat):(w.alloc (.cells cs.toArray t)).cell? ⟨w.heap.size,j,none⟩=cs[j]?:=Ov w cs t j
def wX (w W:World) (a b c d:Value):Prop:=
 Below w.heap.size w W∧w.heap.size<W.heap.size∧W.cell? ⟨w.heap.size,0,none⟩=some a∧W.cell? ⟨w.heap.size,1,none⟩=some b∧W.cell? ⟨w.heap.size,2,none⟩=some c∧W.cell? ⟨w.heap.size,3,none⟩=some d
theorem wX.mk {w W:World} {a b c d:Value} {t:TypeId} (h:w.alloc (.cells #[a,b,c,d] t)=W):wX w W a b c d:=by
 subst h;exact⟨(au _ _).alloc (aB _) _,agJ,dX w [a,b,c,d] t 0,dX w [a,b,c,d] t 1,dX w [a,b,c,d] t 2,dX w [a,b,c,d] t 3⟩
theorem wX.next {w W W':World} {a b c d:Value} (h:wX w W a b c d) (hb:Below W.heap.size W W'):wX w W' a b c d:=by
 obtain⟨h0,hs,c0,c1,c2,c3⟩:=h;exact⟨h0.trans (hb.mono h0.size),aR hs hb.size,(hb.cell hs).trans c0,(hb.cell hs).trans c1,(hb.cell hs).trans c2,(hb.cell hs).trans c3⟩
theorem wX.draws {w W:World} {a b c d:Value} (h:wX w W a b c d) (n:Nat):wX w (W.drewN n) a b c d:=h.next (below_drewN (au _ _) n)
namespace Md
def bY (n:Int):Prop:= -9223372036854775808<=n∧n<=9223372036854775807
inductive bT where
 |nil
 |cons (op n:Int) (nm:ByteArray) (kids rest:bT)
def bT.len:bT->Nat
 | .nil=>0
 | .cons _ _ _ _ r=>r.len+1
def qW (op n:Int) (nm:ByteArray) (kids:bT):Prop:=bY op∧bY n∧nm.size<=maxLen∧kids.len<=maxLen
def bT.At (w:World) (B:Nat):bT->Option Addr->Nat->Prop
 | .nil,_,_=>True
 | .cons op n nm kids rest,ao,k=>
   (∃b off mh cap,ao=some ⟨b,off,none⟩∧b<B∧w.cell? ⟨b,off+k*4,none⟩=some (.int .i64 op)∧w.cell? ⟨b,off+k*4+1,none⟩=some (.int .i64 n)∧
    w.cell? ⟨b,off+k*4+2,none⟩=some (.string nm)∧w.cell? ⟨b,off+k*4+3,none⟩=some (.slice mh kids.len cap)∧qW op n nm kids∧kids.At w B mh 0)∧
   rest.At w B ao (k+1)
theorem bT.At.below {w w':World} {B:Nat} (hb:Below B w w'): ∀ {l:bT} {ao:Option Addr} {k:Nat},l.At w B ao k->l.At w' B ao k
 | .nil,_,_,_=>trivial
 | .cons _ _ _ _ _,_,_,h=>by obtain⟨⟨b,off,mh,cap,e,hB,c0,c1,c2,c3,hok,hk⟩,hr⟩:=h;exact⟨⟨b,off,mh,cap,e,hB,(hb.cell hB).trans c0,(hb.cell hB).trans c1,(hb.cell hB).trans c2,(hb.cell hB).trans c3,hok,hk.below hb⟩,hr.below hb⟩
theorem bT.At.mono {w:World} {B B':Nat} (hB':B<=B'): ∀ {l:bT} {ao:Option Addr} {k:Nat},l.At w B ao k->l.At w B' ao k
 | .nil,_,_,_=>trivial
 | .cons _ _ _ _ _,_,_,h=>by obtain⟨⟨b,off,mh,cap,e,hB,c0,c1,c2,c3,hok,hk⟩,hr⟩:=h;exact⟨⟨b,off,mh,cap,e,aR hB hB',c0,c1,c2,c3,hok,hk.mono hB'⟩,hr.mono hB'⟩
theorem bT.At.same {w w':World} {l:bT} {ao:Option Addr} {k:Nat} (h:l.At w w.heap.size ao k) (hb:Below w.heap.size w w'):l.At w' w'.heap.size ao k:=
 (h.below hb).mono hb.size
def bT.All (Q:Int->Int->ByteArray->bT->Prop):bT->Prop
 | .nil=>True
 | .cons op n nm kids rest=>Q op n nm kids∧rest.All Q
theorem bT.nQ {Q:Int->Int->ByteArray->bT->Prop} (step: ∀op n nm kids,kids.All Q->Q op n nm kids): ∀l:bT,l.All Q
 | .nil=>trivial
 | .cons op n nm kids rest=>⟨step op n nm kids (nQ step kids),nQ step rest⟩
theorem bT.AX {Q:Int->Int->ByteArray->bT->Prop} (step: ∀op n nm kids,kids.All Q->Q op n nm kids) (op n:Int) (nm:ByteArray) (kids:bT):Q op n nm kids:=
 step op n nm kids (bT.nQ step kids)
def opsOf (op:Int):Int:=if op==1||op==2 then 0 else if op==3||op==4||op==5 then 1 else if decide (6<=op)&&decide (op<=18)then 2 else -1
def named (op:Int):Bool:=op==2||op==3
def kZ (nm:ByteArray) (b:Bool):Bool:=if b then Tk.jf nm.data.toList else nm.data.toList.isEmpty
def IG (op n:Int) (nm:ByteArray) (len:Nat):Bool:=((len:Int)==opsOf op)&&(!(decide (n<0)||(!(n==0)&& !(op==1)))&&kZ nm (named op))
def mZ:bT->Bool
 | .nil=>true
 | .cons op n nm kids rest=>(IG op n nm kids.len&&mZ kids)&&mZ rest
def jW (op n:Int) (nm:ByteArray) (kids:bT):Bool:=IG op n nm kids.len&&mZ kids
end Md
open Md
theorem oQ {P:Program} {f:FuncId} {args:Array Value} {w:World} {n:Nat} {v:Value} (h:Calls P f args (w.drewN n) λe w'=>e= .returned v∧w.drewN n=w'):
 Calls P f args (w.drewN n) λe w''=>e= .returned v∧∃m,w''=w.drewN m:=h.mono λ_ _ ⟨he,hm⟩=>⟨he,n,hm.symm⟩
theorem iI {P:Program} {id:Nat} {Q:Exit->Act->World->Prop} {a:Act} {w:World} {l:List Oper} {T:Type} (F:T->World) (hm:P.follows .mixedOrders=true) (hB:Region.lexB .any l.toArray=true)
 (h1: ∃x,w.drewN 1=F x) (h:wpQuiet P l.toArray (λw'=> ∃x,w'=F x) (λa'=> ∀w',(∃x,w'=F x)->Q .normal a' w') l a):(Code.region id l.toArray true).wp P Q a w:=
 wp_region_quiet (C:=λw'=> ∃x,w'=F x) hm hB h1 ahT
theorem calm (W:World): ∃(T:Type) (F:T->World),Nonempty T∧(∃x,W.drewN 1=F x)∧(∀x,Below W.heap.size W (F x))∧∀x w',Below (F x).heap.size (F x) w'->∃y,w'=F y:=
 ⟨{W' // Below W.heap.size W W'},Subtype.val,⟨⟨_,au _ _⟩⟩,⟨⟨_,below_drewN (au _ _) 1⟩,rfl⟩,λx=>x.2,λx w' hb=>⟨⟨w',x.2.trans (hb.mono x.2.size)⟩,rfl⟩⟩
section
abbrev RP:=Value->World->Prop
def iY (a:Act):Option Tmp->Value
 |none=>undef
 |some d=>a.eval (.tmp d)
def Lv (ents:List (Option Tmp×RP)) (A:Act) (w:World):List Edge->Prop
 | []=>True
 |e::r=>(if Region.binds .any e=true then(match ents[e.on]? with|some (d,R)=>R (iY A d) w|none=>True)else True)∧Lv ents A w r
def gd (ents:List (Option Tmp×RP)) (A:Act) (o:Oper):Bool:=
 match o.guard with
 |none=>true
 |some (g,b)=>match ents[g]? with
  |some (some d,_)=>match A.eval (.tmp d)with
   | .bool x=>x==b
   |_=>false
  |_=>false
def aV (C:World->Prop) (Le:World->World->Prop) (R:RP) (A:Act) (dst:Option Tmp) (w:World) (a':Act) (w':World):Prop:=
 ∃v,a'=A.put dst v∧Le w w'∧C w'∧R (if dst.isSome then v else undef) w'
theorem aV.mk {C:World->Prop} {Le:World->World->Prop} {R:RP} {A:Act} {d:Tmp} {w w':World} {v:Value} (hle:Le w w') (hC:C w') (hR:R v w'):aV C Le R A (some d) w (A.put (some d) v) w':=⟨v,rfl,hle,hC,hR⟩
theorem aV.DY {C:World->Prop} {Le:World->World->Prop} {R:RP} {A:Act} {w w':World} {v:Value} (hle:Le w w') (hC:C w') (hR:R undef w'):aV C Le R A none w (A.put none v) w':=⟨v,rfl,hle,hC,hR⟩
def X6 (P:Program) (a0:Act) (Q:Exit->Act->World->Prop) (C:Bool->World->Prop) (Le:World->World->Prop) (fF:List Tmp) (ents:List (Option Tmp×RP)) (o:Oper) (R:RP) (isK:Bool):Prop:=
 ∀β A w,(isK=true->β=false)->C β w->(∀s,fF.contains s=false->A.eval (.tmp s)=a0.eval (.tmp s))->Lv ents A w o.after.toList->
  if gd ents A o then o.wp P A w (aV (C (β||isK)) Le R A o.dst w) Q else(isK=false∧R undef w)
def cB (c:Value):RP:=λv _=>v=c
theorem cB.mono {c:Value} {Le:World->World->Prop} : ∀v w w',Le w w'->cB c v w->cB c v w':=λ_ _ _ _ h=>h
theorem cB.mk (c:Value) (w:World):cB c c w:=rfl
def eO (w:World) (K:Act->Prop):List (Option Tmp×RP)->Act->Prop
 | [],a=>K a
 |(d,R)::r,a=> ∀v,R v w->eO w K r (a.put d v)
theorem tH {w:World} {K:Act->Prop} {a:Act} {d:Option Tmp} {x:Value} {r:List (Option Tmp×RP)} (h:eO w K r (a.put d x)):eO w K ((d,cB x)::r) a:=λv hv=>by
 rw[show v=x from hv];exact h
attribute [simp] Lv cB iY Region.binds
def fu (P:Program) (a0:Act) (Q:Exit->Act->World->Prop) (C:Bool->World->Prop) (Le:World->World->Prop) (fF:List Tmp) (k0:Nat):List Oper->List (Option Tmp×RP)->Prop
 | [],ents=> ∀w,C (decide (k0<ents.length)) w->eO w (λa=>Q .normal a w) ents a0
 |o::rest,ents=> ∃R:RP,(∀v w w',Le w w'->R v w->R v w')∧X6 P a0 Q C Le fF ents o R (decide (ents.length=k0))∧fu P a0 Q C Le fF k0 rest (ents++[(o.dst,R)])
section
variable {P:Program} {a0:Act} {Q:Exit->Act->World->Prop} {C:Bool->World->Prop} {Le:World->World->Prop} {fF:List Tmp} {k0:Nat}
theorem fu.full: ∀ {l:List Oper} {ents:List (Option Tmp×RP)},fu P a0 Q C Le fF k0 l ents->∃full:List (Option Tmp×RP),full.length=ents.length+l.length∧full.take ents.length=ents∧
 (∀(i:Nat) (o:Oper),l[i]? =some o->∃R,full[ents.length+i]? =some (o.dst,R)∧(∀v w w',Le w w'->R v w->R v w')∧X6 P a0 Q C Le fF (full.take (ents.length+i)) o R (decide (ents.length+i=k0)))∧
 ∀w,C (decide (k0<full.length)) w->eO w (λa=>Q .normal a w) full a0
 | [],ents,h=>⟨ents,agJ,agJ,agJ,h⟩
 |o::rest,ents,h=>by
  obtain⟨R,hm,ho,hr⟩:=h;obtain⟨full,h1,h2,h3,h4⟩:=fu.full hr;simp only[aA,aD,aW,aU]at h1 h2 h3;have hlen:ents.length<full.length:=agH
  have hget:full[ents.length]? =some (o.dst,R):=aaX
  refine⟨full,agK,?_,?_,h4⟩
  ·have:=congrArg (List.take ents.length) h2;simpa[List.take_take]using this
  ·exact Aal
theorem fu.step {o:Oper} {rest:List Oper} {ents:List (Option Tmp×RP)} {v:Value} (bL:X6 P a0 Q C Le fF ents o (cB v) (decide (ents.length=k0))) (hrest:fu P a0 Q C Le fF k0 rest (ents++[(o.dst,cB v)])):fu P a0 Q C Le fF k0 (o::rest) ents:=
 ⟨cB v,cB.mono,bL,hrest⟩
theorem fu.some {o:Oper} {rest:List Oper} {ents:List (Option Tmp×RP)} (R:RP) (hmono: ∀v w w',Le w w'->R v w->R v w') (bL:X6 P a0 Q C Le fF ents o R (decide (ents.length=k0))) (hrest:fu P a0 Q C Le fF k0 rest (ents++[(o.dst,R)])):fu P a0 Q C Le fF k0 (o::rest) ents:=
 ⟨R,hmono,bL,hrest⟩
theorem eO.use {w:World} {K:Act->Prop} {a':Act} : ∀ {ents:List (Option Tmp×RP)} {a:Act},eO w K ents a->(∀(i:Nat) (d:Option Tmp) (R:RP),ents[i]? =some (d,R)->R (iY a' d) w)->
 a'.defers=a.defers->a'.tmps.size=a.tmps.size->(∀s:Nat,(∀(i:Nat) (d:Tmp) (R:RP),ents[i]? =some (some d,R)->d≠s)->a'.tmps[s]? =a.tmps[s]?)->K a'
 | [],a,h,_,hd,_,hs=>by
   have e:a'=a:=by cases a';cases a;simp only at hd hs⊢;congr 1;exact Array.ext_getElem? (λs=>hs s agJ)
   rw[e];exact h
 |(d,R)::r,a,h,hR,hd,hz,hs=>by
  have h1:=h (iY a' d) (hR 0 d R rfl);refine eO.use h1 (λi d' R' hi=>hR (i+1) d' R' ahi) ?_ ?_ ?_
  ·cases d <;> simpa[Act.put]using hd
  ·cases d <;> simpa[Act.put]using hz
  ·intro s hne;cases d with
   |none=>exact hs s (λi d' R' hi=>by
    cases i with
    |zero=>simp at hi
    |succ i=>exact hne i d' R' ahi)
   |some d=>
    by_cases hds:d=s
    ·subst hds;simp only[Act.put,iY,Act.eval];by_cases hlt:d<a.tmps.size
     ·have hlt':d<a'.tmps.size:=(by rw[hz];exact hlt);rw[Array.getElem?_setIfInBounds_self_of_lt hlt];simp[Array.getElem?_eq_getElem hlt']
     ·have hge:a.tmps.size<=d:=Nat.le_of_not_lt hlt;rw[Array.getElem?_eq_none (by rw[hz];exact hge),Array.getElem?_eq_none (by rw[Array.size_setIfInBounds];exact hge)]
    ·rw[hs s (λi d' R' hi=>by
      cases i with
      |zero=>simp at hi;rw[<- hi.1];exact hds
      |succ i=>exact hne i d' R' ahi)]
     simp[Act.put,Array.getElem?_setIfInBounds_ne hds]
def cnt (listed:Array Bool):Nat->Nat
 |0=>0
 |k+1=>cnt listed k+if listed.getD k false then 0 else 1
theorem J7 {listed:Array Bool} {i:Nat} (hi:i<listed.size) (hu:listed.getD i false=false): ∀n,cnt (listed.setIfInBounds i true) n+(if i<n then 1 else 0)=cnt listed n
 |0=>by simp[cnt]
 |n+1=>by
  have ih:=J7 hi hu n;simp only[cnt];by_cases hin:i=n
  ·subst hin;have h1:(listed.setIfInBounds i true).getD i false=true:=by simp[hi]
   rw[h1,hu];simp only[Nat.lt_irrefl,if_false]at ih;simp;omega
  ·rw[getD_set_ne false hin];by_cases hlt:i<n
   ·have h2:i<n+1:=agH;simp only[hlt,if_true]at ih;simp only[h2,if_true];omega
   ·have h2: ¬i<n+1:=agH;simp only[hlt,if_false]at ih;simp only[h2,if_false];omega
theorem FB {listed:Array Bool} : ∀ {n:Nat},cnt listed n=0->∀i,i<n->listed.getD i false=true
 |0,_,_,hi=>absurd hi agH
 |n+1,h,i,hi=>by
  simp only[cnt]at h;by_cases hin:i=n
  ·subst hin;cases hg:listed.getD i false
   ·rw[hg]at h;simp at h
   ·rfl
  ·exact FB (n:=n) agH i agH
def Ww (fF:List Tmp) (l:List Oper):Bool:=
 (l.filterMap (·.dst)==fF)&&decide fF.Nodup&&(l.zipIdx.all λx=>(x.1.after.all λe=>decide (e.on<x.2))&&(match x.1.guard with|none=>true|some (g,_)=>decide (g<x.2)))
theorem DZ: ∀ {l:List Oper},(l.filterMap (·.dst)).Nodup->∀(i j:Nat) (oi oj:Oper) (d:Tmp),l[i]? =some oi->l[j]? =some oj->oi.dst=some d->oj.dst=some d->i=j
 | [],_,i,_,_,_,_,h,_,_,_=>ahe
 |o::r,hn,i,j,oi,oj,d,hi,hj,hdi,hdj=>by
  have key: ∀(k:Nat) (ok:Oper),r[k]? =some ok->ok.dst=some d->o.dst=some d->False:=λk ok hk hdk ho=>by rw[List.filterMap_cons_some ho]at hn;exact(List.nodup_cons.1 hn).1 (List.mem_filterMap.2 ⟨ok,List.mem_of_getElem? hk,hdk⟩)
  have hn':(r.filterMap (·.dst)).Nodup:=by
   cases ho:o.dst with
   |none=>rwa [List.filterMap_cons_none ho]at hn
   |some d'=>rw[List.filterMap_cons_some ho]at hn;exact(List.nodup_cons.1 hn).2
  cases i with
  |zero=>
   cases j with
   |zero=>rfl
   |succ j=>simp only[List.getElem?_cons_zero,Option.some.injEq,List.getElem?_cons_succ]at hi hj;subst hi;exact(key j oj hj hdj hdi).elim
  |succ i=>
   cases j with
   |zero=>simp only[List.getElem?_cons_zero,Option.some.injEq,List.getElem?_cons_succ]at hi hj;subst hj;exact(key i oi hi hdi hdj).elim
   |succ j=>simp only[List.getElem?_cons_succ]at hi hj;rw[DZ hn' i j oi oj d hi hj hdi hdj]
theorem MV {full:List (Option Tmp×RP)} {A:Act} {w:World} {i:Nat} : ∀ {l:List Edge},(∀e∈l,Region.binds .any e=true->∀(d:Option Tmp) (R:RP),full[e.on]? =some (d,R)->R (iY A d) w)->Lv (full.take i) A w l
 | [],_=>trivial
 |e::r,h=>by
  refine⟨?_,MV λe' he'=>h e' (by simp[he'])⟩;split
  case isFalse=>trivial
  case isTrue hb=>
  cases hg:(full.take i)[e.on]? with
  |none=>trivial
  |some x=>
   obtain⟨d,R⟩:=x;rw[List.getElem?_take]at hg;split at hg
   ·exact h e agJ hb d R hg
   ·cases hg
def aJ1 (a0:Act) (C:Bool->World->Prop) (k0:Nat) (full:List (Option Tmp×RP)) (n:Nat) (listed:Array Bool) (a:Act) (w:World):Prop:=
 listed.size=n∧C (listed.getD k0 false) w∧a.defers=a0.defers∧a.tmps.size=a0.tmps.size∧
 (∀s:Nat,(∀(i:Nat) (d:Tmp) (R:RP),full[i]? =some (some d,R)->listed.getD i false=true->d≠s)->a.tmps[s]? =a0.tmps[s]?)∧
 ∀(i:Nat) (d:Option Tmp) (R:RP),full[i]? =some (d,R)->listed.getD i false=true->R (iY a d) w
theorem Z9 {ops:Array Oper} {full:List (Option Tmp×RP)} {o:Oper} {A:Act} {i:Nat} (hf: ∀(k:Nat) (ok:Oper),ops[k]? =some ok->∃R,full[k]? =some (ok.dst,R)) (hlen:full.length=ops.size)
 (hg: ∀g b,o.guard=some (g,b)->g<i):Region.wanted o (yielded ops A.tmps)=gd (full.take i) A o:=by
 unfold Region.wanted gd;cases ho:o.guard with
 |none=>rfl
 |some x=>
  exact Aak
theorem aj0 {l:List Oper} {full:List (Option Tmp×RP)} (F4: ∀w,Le w w) (hbd: ∀d∈fF,d<a0.tmps.size) (hlen:full.length=l.length) (hnd:(l.filterMap (·.dst)).Nodup) (uN:l.filterMap (·.dst)=fF)
 (hed: ∀(i:Nat) (o:Oper),l[i]? =some o->∀e∈o.after,e.on<i) (hgu: ∀(i:Nat) (o:Oper),l[i]? =some o->∀g b,o.guard=some (g,b)->g<i)
 (hf: ∀(i:Nat) (o:Oper),l[i]? =some o->∃R,full[i]? =some (o.dst,R)∧(∀v w w',Le w w'->R v w->R v w')∧X6 P a0 Q C Le fF (full.take i) o R (decide (i=k0)))
 (hend: ∀w,C (decide (k0<l.length)) w->eO w (λa=>Q .normal a w) full a0):
 ∀(fuel:Nat) (listed:Array Bool) (a:Act) (w:World),cnt listed l.length<=fuel->aJ1 a0 C k0 full l.length listed a w->wpAny P .any l.toArray Q fuel listed a w:=by
 have hmono: ∀(i:Nat) (d:Option Tmp) (R:RP),full[i]? =some (d,R)->∀v w w',Le w w'->R v w->R v w':=λi d R hi=>by
  have hlt:i<l.length:=aaM
  obtain⟨R',h1,h2,-⟩:=hf i l[i] (bC hlt);rw[hi]at h1;simp only[Option.some.injEq,Prod.mk.injEq]at h1;rw[h1.2];exact h2
 have hdst: ∀(i:Nat) (d:Option Tmp) (R:RP),full[i]? =some (d,R)->∃o,l[i]? =some o∧o.dst=d:=λi d R hi=>by
  have hlt:i<l.length:=aaM
  obtain⟨R',h1,-⟩:=hf i l[i] (bC hlt);rw[hi]at h1;simp only[Option.some.injEq,Prod.mk.injEq]at h1;exact⟨l[i],bC hlt,h1.1.symm⟩
 have hall: ∀listed a w,aJ1 a0 C k0 full l.length listed a w->(∀i,i<l.length->listed.getD i false=true)->Q .normal a w:=λlisted a w hI ha=>by
  obtain⟨hsz0,hC,hd,hz,hs,hR⟩:=hI;have hk:listed.getD k0 false=decide (k0<l.length):=by
   by_cases h:k0<l.length
   ·rw[ha k0 h,decide_eq_true h]
   ·have hsz:listed.size=l.length:=(by assumption);rw[decide_eq_false h];simp[Array.getElem?_eq_none (show listed.size<=k0 by omega)]
  rw[hk]at hC;refine(hend w hC).use (λi d R hi=>hR i d R hi (ha i ?_)) hd hz (λs hne=>hs s (λi d R hi _=>hne i d R hi));rw[<- hlen];exact(List.getElem?_eq_some_iff.1 hi).1
 have Ip: ∀listed:Array Bool,listed.size=l.length->Region.ready .any l.toArray listed=[]->∀i,i<l.length->listed.getD i false=true:=λlisted hsz hr i=>by
  induction i using Nat.strongRecOn with
  |_ i ih=>
   intro hi;cases hg:listed.getD i false with
   |true=>rfl
   |false=>exfalso;have:i∈Region.ready .any l.toArray listed:=mem_ready.2 ⟨aaV,l[i],by simp[hi],λe he _=>ih e.on (hed i l[i] (bC hi) e he) (by have:=hed i l[i] (bC hi) e he;omega)⟩;rw[hr]at this;cases this
 intro fuel
 induction fuel with
 |zero=>
  intro listed a w hc hI;have ha:=FB (Nat.le_zero.1 hc);refine⟨?_,hall listed a w hI ha⟩;rw[List.eq_nil_iff_forall_not_mem];intro i hi;obtain⟨h0,o,ho,-⟩:=mem_ready.1 hi;have hlt:i<l.length:=afw
  have:=ha i hlt;have h1:i<listed.size:=afG
  simp[h1]at h0 this;rw[h0]at this;cases this
 |succ fuel ih=>
  intro listed a w hc hI;refine⟨λhr=>hall listed a w hI (Ip listed hI.1 hr),λi hi=> ?_⟩;obtain⟨h0,o,ho,El⟩:=mem_ready.1 hi;have hlt:i<l.length:=afw
  have hlo:l[i]? =some o:=by simpa using ho
  have hls:i<listed.size:=afG
  have hun:listed.getD i false=false:=agb
  obtain⟨R,JK,hRm,XY⟩:=hf i o hlo;obtain⟨hsz,hC,hd,hz,hs,hR⟩:=hI;have hW:=Z9 (A:=a) (o:=o) (i:=i) (ops:=l.toArray) (full:=full) (λk ok hk=>abk) aeQ (hgu i o hlo);have hstep:=XY (listed.getD k0 false) a w (λhk=>by rw[<- of_decide_eq_true hk];exact hun) hC (λs hs'=>Δ) (MV (λe he hb d R' hR'=>hR e.on d R' hR' (El e ahd hb)));have hnext: ∀(v:Value) (w':World),Le w w'->C (listed.getD k0 false||decide (i=k0)) w'->R (iY (a.put o.dst v) o.dst) w'->wpAny P .any l.toArray Q fuel (listed.setIfInBounds i true) (a.put o.dst v) w':=λv w' hle hC' hv=>by
   refine ih _ _ _ ?_ ⟨by simp[hsz],?_,?_,?_,?_,?_⟩
   rotate_left
   ·have:(listed.setIfInBounds i true).getD k0 false=(listed.getD k0 false||decide (i=k0)):=by
     by_cases hk:i=k0
     ·subst hk;simp[hls]
     ·rw[getD_set_ne false hk,decide_eq_false hk,Bool.or_false]
    rw[this];exact hC'
   rotate_right
   ·have:=J7 hls hun l.length;rw[if_pos hlt]at this;omega
   ·cases o.dst <;> simpa[Act.put]using hd
   ·cases o.dst <;> simpa[Act.put]using hz
   ·intro s hne;have h1:a.tmps[s]? =a0.tmps[s]?:=hs s (λk d R' hk hl=>hne k d R' hk (getD_set_true hl));cases hod:o.dst with
    |none=>simpa[Act.put]using h1
    |some d=>have hds:d≠s:=hne i d R ahL (by simp[hls]);simp only[Act.put];rw[Array.getElem?_setIfInBounds_ne hds];exact h1
   ·intro k d R' hk hl;by_cases hik:i=k
    ·subst hik;rw[JK]at hk;simp only[Option.some.injEq,Prod.mk.injEq]at hk;obtain⟨rfl,rfl⟩:=hk;exact hv
    ·have hl':listed.getD k false=true:=ade;have h1:=hmono k d R' hk _ _ _ hle (hR k d R' hk hl');have:iY (a.put o.dst v) d=iY a d:=by
      cases hod:o.dst with
      |none=>rfl
      |some d1=>
       cases d with
       |none=>rfl
       |some d2=>
        have hne:d1≠d2:=λe=>aag
        simp[iY,Act.eval,Act.put,Array.getElem?_setIfInBounds_ne hne]
     rw[this];exact h1
  unfold wpOp;simp only[ho];rw[hW];cases hgd:gd (full.take i) a o with
  |true=>
   rw[hgd]at hstep;simp only[if_true]at hstep⊢;refine Or.inl (Oper.wp_mono ?_ hstep);rintro a' w' ⟨v,rfl,hle,hC',hv⟩;refine hnext v w' hle hC' ?_;cases hod:o.dst with
   |none=>rw[hod]at hv;exact hv
   |some d=>rw[hod]at hv;simp only[Option.isSome_some,if_true]at hv;have hdl:d<a.tmps.size:=υ;simpa[iY,Act.eval,Act.put,hdl]using hv
  |false=>
   rw[hgd]at hstep;simp only[Bool.false_eq_true,if_false]at hstep⊢;refine hnext undef w (F4 w) (by rw[hstep.1,Bool.or_false];exact hC) ?_;cases hod:o.dst with
   |none=>exact hstep.2
   |some d=>have hdl:d<a.tmps.size:=υ;simpa[iY,Act.eval,Act.put,hdl]using hstep.2
theorem yR {f:Oper×Nat->Bool} {l:List Oper} (h:l.zipIdx.all f=true) (i:Nat) (o:Oper) (hi:l[i]? =some o):f (o,i)=true:=by
 rw[List.all_eq_true]at h;refine h (o,i) (List.mem_of_getElem? (i:=i) ?_);rw[List.getElem?_zipIdx,hi];simp
theorem zO {id:Nat} {l:List Oper} {w:World} (k0:Nat) (C:Bool->World->Prop) (Le:World->World->Prop) (fF:List Tmp) (hm:P.follows .mixedOrders=true) (hB:Ww fF l=true) (F4: ∀w,Le w w) (hbd:(fF.all λd=>decide (d<a0.tmps.size))=true) (hC:C false (w.drewN 1))
 (h:fu P a0 Q C Le fF k0 l []):(Code.region id l.toArray true).wp P Q a0 w:=by
 unfold Ww at hB;simp only[aP,beq_iff_eq,decide_eq_true_eq]at hB;obtain⟨⟨uN,hnd⟩,hz⟩:=hB;obtain⟨full,h1,-,h3,h4⟩:=h.full;simp only[aW,aU]at h1 h3;have hed: ∀(i:Nat) (o:Oper),l[i]? =some o->(∀e∈o.after,e.on<i)∧∀g b,o.guard=some (g,b)->g<i:=λi o hi=>by have:=yR hz i o hi;simp only[aP,Array.all_eq_true_iff_forall_mem,decide_eq_true_eq]at this;refine⟨this.1,λg b hg=> ?_⟩;have h2:=this.2;rw[hg]at h2;simpa using h2
 refine wp_region_any hm ?_;have hdr:({w with drawn:=w.drawn+1} :World)=w.drewN 1:=rfl;rw[hdr];refine aj0 F4 (λd hd=>abe) h1 (by rw[uN];exact hnd) uN (λi o hi=>(hed i o hi).1) (λi o hi=>(hed i o hi).2) h3 (by rw[<- h1];exact h4) _ _ _ _ ?_ ⟨agJ,by rw[show(Array.replicate l.toArray.size false).getD k0 false=false by(rw[Array.getD_eq_getD_getElem?];by_cases hk:k0<l.length <;> simp[hk])];exact hC,rfl,rfl,λ_ _=>rfl,λi d R _ hl=> ?_⟩
 ·have: ∀n,cnt (Array.replicate l.toArray.size false) n<=n:=λn=>by
   induction n with
   |zero=>simp[cnt]
   |succ n ih=>simp only[cnt];split <;> omega
  simpa using this l.length
 ·exfalso;rw[Array.getD_eq_getD_getElem?]at hl;by_cases hi:i<l.length
  ·simp[hi]at hl
  ·rw[Array.getElem?_eq_none ahi]at hl;cases hl
theorem sF {id:Nat} {l:List Oper} {w:World} (C:World->Prop) (Le:World->World->Prop) (fF:List Tmp) (hm:P.follows .mixedOrders=true) (hB:Ww fF l=true) (F4: ∀w,Le w w) (hbd:(fF.all λd=>decide (d<a0.tmps.size))=true) (hC:C (w.drewN 1))
 (h:fu P a0 Q (λ_=>C) Le fF 1000000 l []):(Code.region id l.toArray true).wp P Q a0 w:=zO 1000000 (λ_=>C) Le fF hm hB F4 hbd hC h
end
end
def oM (o:Oper):List Nat:=(o.after.toList.filter (Region.binds .any)).map (·.on)
def Ve (l:List Oper) (sM:List (List Nat)):Bool:=l.zipIdx.all λx=>(sM.getD x.2 []).all λk=>(oM x.1).any λd=>d==k||(sM.getD d []).contains k
def okB:List (Option Bool)->List Bool->Prop
 |some x::r,b::bs=>b=x∧okB r bs
 |none::r,_::bs=>okB r bs
 | [],[]=>True
 |_,_=>False
def jh:List Nat->List Bool->Nat->List Bool
 |x::r,b::bs,i=>(b||x==i)::jh r bs i
 |_,_,_=>[]
def ZX (n:Nat) (ws:List Nat) (sM:List (List Nat)) (bnd:List (List (Option Bool))):Bool:=
 decide (bnd.length=n)&&(ws.all λw=>decide (w<n))&&(List.range n).all λi=>decide ((bnd.getD i []).length=ws.length)&&((bnd.getD i []).zip ws).all λx=>match x.1 with|none=>true|some true=>(sM.getD i []).contains x.2|some false=>(sM.getD x.2 []).contains i||x.2==i
theorem AU {o:Oper} {e:Edge} (he:e∈o.after) (hb:Region.binds .any e=true):e.on∈oM o:=by
 unfold oM;exact List.mem_map.2 ⟨e,List.mem_filter.2 ⟨ahd,hb⟩,rfl⟩
def IE (n:Nat) (sM:List (List Nat)) (k1:Nat):Bool:=(List.range n).all λi=>decide (i<k1)||(List.range k1).all λj=>(sM.getD i []).contains j
def nU (n k:Nat):Array Bool:=((List.range n).map λi=>decide (i<k)).toArray
theorem kQ (n k i:Nat):(nU n k).getD i false=(decide (i<n)&&decide (i<k)):=by
 unfold nU;rw[Array.getD_eq_getD_getElem?,List.getElem?_toArray,List.getElem?_map];by_cases h:i<n
 ·rw[List.getElem?_range h];simp[h]
 ·rw[List.getElem?_eq_none agK];simp[h]
theorem sZ (n k:Nat):(nU n k).size=n:=by simp[nU]
theorem Na {n k:Nat} {listed:Array Bool} (hs:listed.size=n) (h1: ∀i,i<k->listed.getD i false=true) (h2: ∀i,k<=i->listed.getD i false=false):listed=nU n k:=by
 refine Array.ext (by rw[hs,sZ]) (λi hi hi'=> ?_);have e1:listed.getD i false=listed[i]:=by rw[Array.getD_eq_getD_getElem?,Array.getElem?_eq_getElem hi];rfl
 have e2:(nU n k).getD i false=(nU n k)[i]:=by rw[Array.getD_eq_getD_getElem?,Array.getElem?_eq_getElem hi'];rfl
 rw[<- e1,<- e2,kQ];have hin:i<n:=by rw[<- hs];exact hi
 by_cases hk:i<k
 ·rw[h1 i hk];simp[hin,hk]
 ·rw[h2 i agH];simp[hk]
theorem Ka (n k:Nat) (hk:k<=n): ∀m,m<=n->cnt (nU n k) m=m -k
 |0,_=>by simp[cnt]
 |m+1,hm=>by
  have ih:=Ka n k hk m agH;simp only[cnt,ih,kQ];by_cases h:m<k
  ·have:m<n:=by omega
   simp[h,this];omega
  ·simp[h];omega
def Qh (P:Program) (a0:Act) (Q:Exit->Act->World->Prop) (C:List Bool->World->Prop) (Le:World->World->Prop) (fF:List Tmp) (ents:List (Option Tmp×RP)) (o:Oper) (R:RP) (ws:List Nat) (pat:List (Option Bool)):Prop:=
 ∀c A w,okB pat c->C c w->(∀s,fF.contains s=false->A.eval (.tmp s)=a0.eval (.tmp s))->Lv ents A w o.after.toList->
  if gd ents A o then o.wp P A w (aV (C (jh ws c ents.length)) Le R A o.dst w) Q else(C (jh ws c ents.length) w∧R undef w)
def bZ (P:Program) (a0:Act) (Q:Exit->Act->World->Prop) (C:List Bool->World->Prop) (Le:World->World->Prop) (fF:List Tmp) (ws:List Nat) (K:Act->World->Prop) (k0:Nat):List Oper->List (List (Option Bool))->List (Option Tmp×RP)->Prop
 |o::rest,b::bs,ents=> ∃R:RP,(∀v w w',Le w w'->R v w->R v w')∧Qh P a0 Q C Le fF ents o R ws b∧bZ P a0 Q C Le fF ws K k0 rest bs (ents++[(o.dst,R)])
 |_,_,ents=> ∀w,C (ws.map λ_=>true) w->eO w (λa=>K a w) (ents.drop k0) a0
def I9 (l:List Oper):List (Option Tmp×RP):=l.map λo=>(o.dst,λ_ _=>True)
theorem jH {α:Type} :(∀(n:Nat) (a:α) (l:List α),(a::l).take (n+1)=a::l.take n)∧(∀l:List α,l.take 0=[])∧(∀l:List α,l.drop 0=l)∧∀(n:Nat) (a:α) (l:List α),(a::l).drop (n+1)=l.drop n:=⟨λ_ _ _=>rfl,λ_=>rfl,λ_=>rfl,λ_ _ _=>rfl⟩
theorem nY:I9 []=[]∧∀o l,I9 (o::l)=(o.dst,λ_ _=>True)::I9 l:=⟨rfl,λ_ _=>rfl⟩
section
variable {P:Program} {a0:Act} {Q:Exit->Act->World->Prop} {C:List Bool->World->Prop} {Le:World->World->Prop} {fF:List Tmp} {ws:List Nat} {K:Act->World->Prop} {k0:Nat}
theorem bZ.full: ∀ {l:List Oper} {bnd:List (List (Option Bool))} {ents:List (Option Tmp×RP)},bnd.length=l.length->bZ P a0 Q C Le fF ws K k0 l bnd ents->∃full:List (Option Tmp×RP),full.length=ents.length+l.length∧full.take ents.length=ents∧
 (∀(i:Nat) (o:Oper),l[i]? =some o->∃R,full[ents.length+i]? =some (o.dst,R)∧(∀v w w',Le w w'->R v w->R v w')∧Qh P a0 Q C Le fF (full.take (ents.length+i)) o R ws (bnd.getD i []))∧
 ∀w,C (ws.map λ_=>true) w->eO w (λa=>K a w) (full.drop k0) a0
 | [],bnd,ents,_,h=>⟨ents,agJ,agJ,agJ,by cases bnd <;> exact h⟩
 |o::rest,[],ents,hl,h=>by simp at hl
 |o::rest,b::bs,ents,hl,h=>by
  obtain⟨R,hm,ho,hr⟩:=h;obtain⟨full,h1,h2,h3,h4⟩:=bZ.full ahG hr;simp only[aA,aD,aW,aU]at h1 h2 h3;have hlen:ents.length<full.length:=agH
  have hget:full[ents.length]? =some (o.dst,R):=aaX
  refine⟨full,agK,?_,?_,h4⟩
  ·have:=congrArg (List.take ents.length) h2;simpa[List.take_take]using this
  ·exact Aal
theorem bZ.step {o:Oper} {rest:List Oper} {b:List (Option Bool)} {bs:List (List (Option Bool))} {ents:List (Option Tmp×RP)} {v:Value} (bL:Qh P a0 Q C Le fF ents o (cB v) ws b) (hrest:bZ P a0 Q C Le fF ws K k0 rest bs (ents++[(o.dst,cB v)])):bZ P a0 Q C Le fF ws K k0 (o::rest) (b::bs) ents:=
 ⟨cB v,cB.mono,bL,hrest⟩
theorem bZ.some {o:Oper} {rest:List Oper} {b:List (Option Bool)} {bs:List (List (Option Bool))} {ents:List (Option Tmp×RP)} (R:RP) (hmono: ∀v w w',Le w w'->R v w->R v w') (bL:Qh P a0 Q C Le fF ents o R ws b) (hrest:bZ P a0 Q C Le fF ws K k0 rest bs (ents++[(o.dst,R)])):bZ P a0 Q C Le fF ws K k0 (o::rest) (b::bs) ents:=
 ⟨R,hmono,bL,hrest⟩
theorem bZ.done {ents:List (Option Tmp×RP)} (h: ∀w,C (ws.map λ_=>true) w->eO w (λa=>K a w) (ents.drop k0) a0):bZ P a0 Q C Le fF ws K k0 [] [] ents:=h
def DC (l:List Oper) (listed:Array Bool):Prop:= ∀(i:Nat) (o:Oper),l[i]? =some o->listed.getD i false=true->∀d∈oM o,listed.getD d false=true
def cw (ws:List Nat) (listed:Array Bool):List Bool:=ws.map λw=>listed.getD w false
theorem Lj {l:List Oper} {sM:List (List Nat)} {listed:Array Bool} (ha:Ve l sM=true) (hed: ∀(i:Nat) (o:Oper),l[i]? =some o->∀d∈oM o,d<i) (hd:DC l listed) (hsz:listed.size=l.length): ∀(i:Nat),listed.getD i false=true->∀k∈sM.getD i [],listed.getD k false=true:=by
 intro i
 induction i using Nat.strongRecOn with
 |_ i ih=>
  intro hl k hk;by_cases hi:i<l.length
  ·have hz:=yR ha i l[i] (bC hi);rw[List.all_eq_true]at hz;have:=hz k hk;rw[List.any_eq_true]at this;obtain⟨d,hd1,hd2⟩:=this;have hdl:=hd i l[i] (bC hi) hl d hd1;simp only[Bool.or_eq_true,beq_iff_eq,List.contains_iff_mem]at hd2;rcases hd2 with rfl|hd2
   ·exact hdl
   ·exact ih d (hed i l[i] (bC hi) d hd1) hdl k hd2
  ·exfalso;rw[Array.getD_eq_getD_getElem?,Array.getElem?_eq_none agH]at hl;cases hl
theorem Xt {listed:Array Bool} {i:Nat} (hi:i<listed.size): ∀ws:List Nat,cw ws (listed.setIfInBounds i true)=jh ws (cw ws listed) i
 | []=>rfl
 |x::r=>by
  have ih:=Xt hi r;unfold cw at ih⊢;rw[List.map_cons,ih,List.map_cons,jh];congr 1;by_cases hx:x=i
  ·subst hx;simp[hi]
  ·rw[getD_set_ne false (λe=>hx e.symm)];simp[hx]
theorem Rm {listed:Array Bool} : ∀(pat:List (Option Bool)) (ws:List Nat),pat.length=ws.length->(∀x∈pat.zip ws,∀b,x.1=some b->listed.getD x.2 false=b)->okB pat (cw ws listed)
 | [],[],_,_=>trivial
 | [],_::_,h,_=>ahe
 |_::_,[],h,_=>ahe
 |none::r,x::ws,h,hb=>Rm r ws ahT (λy hy=>hb y ahc)
 |some b::r,x::ws,h,hb=>⟨hb (some b,x) agJ b rfl,Rm r ws ahT (λy hy=>hb y ahc)⟩
def an9 (a0:Act) (C:List Bool->World->Prop) (ws:List Nat) (l:List Oper) (k0 k1:Nat) (full:List (Option Tmp×RP)) (listed:Array Bool) (a:Act) (w:World):Prop:=
 listed.size=l.length∧(∀i,i<k0->listed.getD i false=true)∧(∀i,k1<=i->listed.getD i false=false)∧C (cw ws listed) w∧a.defers=a0.defers∧a.tmps.size=a0.tmps.size∧DC l listed∧
 (∀s:Nat,(∀(i:Nat) (d:Tmp) (R:RP),full[i]? =some (some d,R)->k0<=i->listed.getD i false=true->d≠s)->a.tmps[s]? =a0.tmps[s]?)∧
 ∀(i:Nat) (d:Option Tmp) (R:RP),full[i]? =some (d,R)->listed.getD i false=true->R (iY a d) w
theorem Zb {l:List Oper} {full:List (Option Tmp×RP)} {sM:List (List Nat)} {bnd:List (List (Option Bool))} {k0 k1:Nat} (hk1:k1<=l.length) (Kl:Ve l sM=true) (LJ:IE l.length sM k1=true)
 (Km:ZX l.length ws sM bnd=true) (hws: ∀x∈ws,x<k1) (F4: ∀w,Le w w) (hbd: ∀d∈fF,d<a0.tmps.size) (hlen:full.length=k1) (hnd:(l.filterMap (·.dst)).Nodup) (uN:((l.take k1).drop k0).filterMap (·.dst)=fF)
 (hed: ∀(i:Nat) (o:Oper),l[i]? =some o->∀d∈oM o,d<i) (hgu: ∀(i:Nat) (o:Oper),l[i]? =some o->∀g b,o.guard=some (g,b)->g<i)
 (aN2: ∀(i:Nat) (o:Oper),l[i]? =some o->i<k0->full[i]? =some (o.dst,λ_ _=>True))
 (hf: ∀(i:Nat) (o:Oper),l[i]? =some o->k0<=i->i<k1->∃R,full[i]? =some (o.dst,R)∧(∀v w w',Le w w'->R v w->R v w')∧Qh P a0 Q C Le fF (full.take i) o R ws (bnd.getD i []))
 (hend: ∀w,C (ws.map λ_=>true) w->eO w (λa=>wpAny P .any l.toArray Q (l.length -k1) (nU l.length k1) a w) (full.drop k0) a0):
 ∀(fuel:Nat) (listed:Array Bool) (a:Act) (w:World),cnt listed l.length=fuel->an9 a0 C ws l k0 k1 full listed a w->wpAny P .any l.toArray Q fuel listed a w:=by
 have hB:bnd.length=l.length∧(∀x∈ws,x<l.length)∧∀i,i<l.length->(bnd.getD i []).length=ws.length∧∀x∈(bnd.getD i []).zip ws,(match x.1 with|none=>true|some true=>(sM.getD i []).contains x.2|some false=>(sM.getD x.2 []).contains i||x.2==i)=true:=by unfold ZX at Km;simp only[aP,decide_eq_true_eq,List.all_eq_true,List.mem_range]at Km;exact⟨Km.1.1,Km.1.2,λi hi=>Km.2 i hi⟩
 have hP: ∀i,i<l.length->k1<=i->∀j,j<k1->j∈sM.getD i []:=λi hi hki j hj=>by
  unfold IE at LJ;simp only[List.all_eq_true,List.mem_range,Bool.or_eq_true,decide_eq_true_eq,List.contains_iff_mem]at LJ;rcases LJ i hi with h|h
  ·omega
  ·exact h j hj
 have hdst: ∀(i:Nat) (d:Option Tmp) (R:RP),full[i]? =some (d,R)->∃o,l[i]? =some o∧o.dst=d∧∀v w w',Le w w'->R v w->R v w':=λi d R hi=>by
  have hlt:i<k1:=aaM
  have hll:i<l.length:=agH
  by_cases hik:i<k0
  ·have h1:=aN2 i l[i] (bC hll) hik;rw[hi]at h1;simp only[Option.some.injEq,Prod.mk.injEq]at h1;exact⟨l[i],bC hll,h1.1.symm,by rw[h1.2];exact λ_ _ _ _ _=>trivial⟩
  ·obtain⟨R',h1,h2,-⟩:=hf i l[i] (bC hll) agH hlt;rw[hi]at h1;simp only[Option.some.injEq,Prod.mk.injEq]at h1;exact⟨l[i],bC hll,h1.1.symm,by rw[h1.2];exact h2⟩
 have hfe: ∀(i:Nat) (o:Oper),l[i]? =some o->i<k1->∃R,full[i]? =some (o.dst,R):=λi o hi hik=>by
  by_cases h:i<k0
  ·exact⟨_,aN2 i o hi h⟩
  ·obtain⟨R,h1,-⟩:=hf i o hi agH hik;exact⟨R,h1⟩
 have hmem: ∀(k:Nat) (d:Tmp) (R:RP),full[k]? =some (some d,R)->k0<=k->d∈fF:=λk d R hk' hkk=>by
  obtain⟨ok,hok,hdk,-⟩:=hdst k (some d) R hk';have hlt:k<k1:=by rw[<- hlen];exact(List.getElem?_eq_some_iff.1 hk').1
  rw[<- uN];refine List.mem_filterMap.2 ⟨ok,List.mem_of_getElem? (i:=k -k0) ?_,hdk⟩;rw[List.getElem?_drop,List.getElem?_take,show k0+(k -k0)=k by omega,if_pos hlt];exact hok
 have Ip: ∀listed:Array Bool,listed.size=l.length->Region.ready .any l.toArray listed=[]->∀i,i<l.length->listed.getD i false=true:=λlisted hsz hr i=>by
  induction i using Nat.strongRecOn with
  |_ i ih=>
   intro hi;cases hg:listed.getD i false with
   |true=>rfl
   |false=>exfalso;have:i∈Region.ready .any l.toArray listed:=mem_ready.2 ⟨aaV,l[i],by simp[hi],λe he hb=>ih e.on (hed i l[i] (bC hi) e.on (AU he hb)) abT⟩;rw[hr]at this;cases this
 have hall: ∀fuel listed a w,cnt listed l.length=fuel->an9 a0 C ws l k0 k1 full listed a w->(∀i,i<k1->listed.getD i false=true)->wpAny P .any l.toArray Q fuel listed a w:=λfuel listed a w hc hI ha=>by
  obtain⟨hsz0,-,hno,hC,hd,hz,hdc,hs,hR⟩:=hI;have he:listed=nU l.length k1:=Na hsz0 ha hno;have hkk:cw ws listed=ws.map λ_=>true:=by unfold cw;exact List.map_congr_left (λx hx=>ha x (hws x hx))
  rw[hkk]at hC;have hfu:fuel=l.length -k1:=by rw[<- hc,he,Ka _ _ hk1 _ (aB _)]
  have:=(hend w hC).use (a':=a) (λi d R hi=>by rw[List.getElem?_drop]at hi;exact hR (k0+i) d R hi (ha _ aaM)) hd hz (λs hne=>hs s (λi d R hi hki _=>hne (i -k0) d R (by rw[List.getElem?_drop,show k0+(i -k0)=i by omega];exact hi)));rw[hfu,he];exact this
 intro fuel
 induction fuel with
 |zero=>intro listed a w hc hI;exact hall 0 listed a w hc hI (λi hi=>FB hc i agH)
 |succ fuel ih=>
  intro listed a w hc hI;by_cases hdone: ∀i,i<k1->listed.getD i false=true
  ·exact hall _ listed a w hc hI hdone
  refine⟨λhr=>(hdone (λi hi=>Ip listed hI.1 hr i agH)).elim,λi hi=> ?_⟩;obtain⟨h0,o,ho,El⟩:=mem_ready.1 hi;have hlt:i<l.length:=afw
  have hlo:l[i]? =some o:=by simpa using ho
  have hls:i<listed.size:=afG
  have hun:listed.getD i false=false:=agb
  obtain⟨hsz,hpre,hno,hC,hd,hz,hdc,hs,hR⟩:=hI;have aq4:=Lj Kl hed hdc hsz;have hself: ∀k∈sM.getD i [],listed.getD k false=true:=λk hk=>by
   have hz':=yR Kl i o hlo;rw[List.all_eq_true]at hz';have:=hz' k hk;rw[List.any_eq_true]at this;obtain⟨d,hd1,hd2⟩:=this;simp only[oM,List.mem_map,List.mem_filter,Array.mem_toList_iff]at hd1;obtain⟨e,⟨he,hb⟩,rfl⟩:=hd1;simp only[Bool.or_eq_true,beq_iff_eq,List.contains_iff_mem]at hd2;rcases hd2 with rfl|hd2
   ·exact El e he hb
   ·exact aq4 e.on (El e he hb) k hd2
  have Vz:k0<=i:=by
   rcases Nat.lt_or_ge i k0 with h|h
   ·rw[hpre i h]at hun;cases hun
   ·exact h
  have by1:i<k1:=by
   rcases Nat.lt_or_ge i k1 with h|h
   ·exact h
   ·exact(hdone (λj hj=>hself j (hP i hlt h j hj))).elim
  obtain⟨R,JK,hRm,XY⟩:=hf i o hlo Vz by1;have hW:Region.wanted o (yielded l.toArray a.tmps)=gd (full.take i) a o:=by
   unfold Region.wanted gd;cases hgo:o.guard with
   |none=>rfl
   |some x=>
    obtain⟨g,b⟩:=x;have hgi:=hgu i o hlo g b hgo;simp only;rw[List.getElem?_take,if_pos hgi];unfold yielded;have hgl:g<l.length:=agH;have hk':l.toArray[g]? =some l[g]:=(by simp[hgl]);obtain⟨R',hR'⟩:=hfe g l[g] (bC hgl) agH;rw[hk',hR'];simp only[Option.bind_some];cases hd':l[g].dst with
    |none=>rfl
    |some d=>
     simp only[Option.bind_some,Act.eval];cases ht:a.tmps[d]? with
     |none=>simp[ht,undef]
     |some v=>simp only[Array.getD_eq_getD_getElem?,ht,Option.getD_some];cases v <;> first|rfl|(rename_i x;cases x <;> cases b <;> rfl)
  have by0:DC l (listed.setIfInBounds i true):=λj oj hj hl d hdj=>by
   by_cases hij:i=j
   ·subst hij;rw[hlo]at hj;injection hj with hj;subst hj;simp only[oM,List.mem_map,List.mem_filter,Array.mem_toList_iff]at hdj;obtain⟨e,⟨he,hb⟩,rfl⟩:=hdj;exact getD_set_true (El e he hb)
   ·rw[getD_set_ne false hij]at hl;exact getD_set_true (hdc j oj hj hl d hdj)
  have hok:okB (bnd.getD i []) (cw ws listed):=Rm _ _ (hB.2.2 i hlt).1 (λx hx b hb=>by
   have:=(hB.2.2 i hlt).2 x hx;rw[hb]at this;cases b with
   |true=>exact hself x.2 (by simpa using this)
   |false=>
    cases hcc:listed.getD x.2 false with
    |false=>rfl
    |true=>
     exfalso;simp only[Bool.or_eq_true,List.contains_iff_mem,beq_iff_eq]at this;rcases this with h1|h1
     ·have:=aq4 x.2 hcc i h1;rw[hun]at this;cases this
     ·rw[h1,hun]at hcc;cases hcc)
  have htk:(full.take i).length=i:=by rw[List.length_take,hlen];omega
  have hstep:=XY (cw ws listed) a w hok hC (λs hs'=>by have:a.tmps[s]? =a0.tmps[s]?:=hs s (λk d R' hk' hkk _ e=>by have:=hmem k d R' hk' hkk;rw[e]at this;simp at hs';exact hs' this);simp[Act.eval,this]) (MV (λe he hb d R' hR'=>hR e.on d R' hR' (El e ahd hb)));rw[htk]at hstep;have hnext: ∀(v:Value) (w':World),Le w w'->C (jh ws (cw ws listed) i) w'->R (iY (a.put o.dst v) o.dst) w'->wpAny P .any l.toArray Q fuel (listed.setIfInBounds i true) (a.put o.dst v) w':=λv w' hle hC' hv=>by
   refine ih _ _ _ ?_ ⟨by simp[hsz],λj hj=>getD_set_true (hpre j hj),λj hj=>by rw[getD_set_ne false agH];exact hno j hj,by rw[Xt hls];exact hC',?_,?_,by0,?_,?_⟩
   ·have:=J7 hls hun l.length;rw[if_pos hlt]at this;omega
   ·cases o.dst <;> simpa[Act.put]using hd
   ·cases o.dst <;> simpa[Act.put]using hz
   ·intro s hne;have h1:a.tmps[s]? =a0.tmps[s]?:=hs s (λk d R' hk hkk hl=>hne k d R' hk hkk (getD_set_true hl));cases hod:o.dst with
    |none=>simpa[Act.put]using h1
    |some d=>have hds:d≠s:=hne i d R ahL Vz (by simp[hls]);simp only[Act.put];rw[Array.getElem?_setIfInBounds_ne hds];exact h1
   ·intro k d R' hk hl;by_cases hik:i=k
    ·subst hik;rw[JK]at hk;simp only[Option.some.injEq,Prod.mk.injEq]at hk;obtain⟨rfl,rfl⟩:=hk;exact hv
    ·have hl':listed.getD k false=true:=ade;obtain⟨ok,hok',hdk,hmon⟩:=hdst k d R' hk;have h1:=hmon _ _ _ hle (hR k d R' hk hl');have:iY (a.put o.dst v) d=iY a d:=by
      cases hod:o.dst with
      |none=>rfl
      |some d1=>
       cases d with
       |none=>rfl
       |some d2=>have hne:d1≠d2:=λe=>hik (DZ hnd i k o ok d2 hlo hok' (by rw[hod,e]) hdk);simp[iY,Act.eval,Act.put,Array.getElem?_setIfInBounds_ne hne]
     rw[this];exact h1
  unfold wpOp;simp only[ho];rw[hW];cases hgd:gd (full.take i) a o with
  |true=>
   rw[hgd]at hstep;simp only[if_true]at hstep⊢;refine Or.inl (Oper.wp_mono ?_ hstep);rintro a' w' ⟨v,rfl,hle,hC',hv⟩;refine hnext v w' hle hC' ?_;cases hod:o.dst with
   |none=>rw[hod]at hv;exact hv
   |some d=>rw[hod]at hv;simp only[Option.isSome_some,if_true]at hv;have hdl:d<a.tmps.size:=abK;simpa[iY,Act.eval,Act.put,hdl]using hv
  |false=>
   rw[hgd]at hstep;simp only[Bool.false_eq_true,if_false]at hstep⊢;refine hnext undef w (F4 w) hstep.1 ?_;cases hod:o.dst with
   |none=>exact hstep.2
   |some d=>have hdl:d<a.tmps.size:=abK;simpa[iY,Act.eval,Act.put,hdl]using hstep.2
def J9 (l:List Oper):Bool:=decide (l.filterMap (·.dst)).Nodup&&(l.zipIdx.all λx=>((oM x.1).all λd=>decide (d<x.2))&&(match x.1.guard with|none=>true|some (g,_)=>decide (g<x.2)))
theorem dD {l:List Oper} {w:World} {n r:Nat} (k0 k1:Nat) (ws:List Nat) (sM:List (List Nat)) (bnd:List (List (Option Bool))) (C:List Bool->World->Prop) (Le:World->World->Prop) (fF:List Tmp)
 (hn:l.length=n) (hr:n -k0=r) (hk:(decide (k0<=k1)&&decide (k1<=n)&&decide (bnd.length=k1 -k0)&&ws.all λx=>decide (x<k1))=true) (hB:J9 l=true) (Kl:Ve l sM=true) (LJ:IE n sM k1=true)
 (Km:ZX n ws sM ((List.replicate k0 (ws.map λ_=>none))++bnd++List.replicate (n -k1) (ws.map λ_=>none))=true) (bx5:(((l.take k1).drop k0).filterMap (·.dst)==fF)=true) (hws:(ws.all λx=>decide (k0<=x))=true) (F4: ∀w,Le w w) (hbd:(fF.all λd=>decide (d<a0.tmps.size))=true) (hC:C (ws.map λ_=>false) w)
 (h:bZ P a0 Q C Le fF ws (wpAny P .any l.toArray Q (n -k1) (nU n k1)) k0 ((l.take k1).drop k0) bnd (I9 (l.take k0))):wpAny P .any l.toArray Q r (nU n k0) a0 w:=by
 subst hn;subst hr;simp only[aP,decide_eq_true_eq,List.all_eq_true]at hk;obtain⟨⟨⟨h01,h1n⟩,hbl⟩,hwk⟩:=hk;unfold J9 at hB;simp only[aP,decide_eq_true_eq]at hB;obtain⟨hnd,hz⟩:=hB;have hdl:(I9 (l.take k0)).length=k0:=by simp[I9];omega
 obtain⟨full,h1,h2,h3,h4⟩:=h.full (by simp[hbl];omega);rw[hdl]at h1 h2 h3;have hlen:full.length=k1:=by rw[h1];simp;omega
 have hed: ∀(i:Nat) (o:Oper),l[i]? =some o->(∀d∈oM o,d<i)∧∀g b,o.guard=some (g,b)->g<i:=λi o hi=>aac
 refine Zb h1n Kl LJ Km hwk F4 (λd hd=>abe) hlen hnd (by simpa using bx5) (λi o hi=>(hed i o hi).1) (λi o hi=>(hed i o hi).2) ?_ ?_ h4 _ _ _ _ (by rw[Ka _ _ agH _ (aB _)]) ⟨sZ _ _,?_,?_,?_,rfl,rfl,?_,λ_ _=>rfl,?_⟩
 ·intro i o hi hik;have:=congrArg (λl=>l[i]?) h2;rw[List.getElem?_take,if_pos hik]at this;rw[this];simp[I9,hik,hi]
 ·intro i o hi hki hik;have hgo:((l.take k1).drop k0)[i -k0]? =some o:=by rw[List.getElem?_drop,List.getElem?_take,show k0+(i -k0)=i by omega,if_pos hik];exact hi
  obtain⟨R,ha,hb,hc⟩:=h3 (i -k0) o hgo;rw[show k0+(i -k0)=i by omega]at ha hc;refine⟨R,ha,hb,?_⟩;have:((List.replicate k0 (ws.map λ_=>(none:Option Bool)))++bnd++List.replicate (l.length -k1) (ws.map λ_=>none)).getD i []=bnd.getD (i -k0) []:=by rw[List.getD_eq_getElem?_getD,List.getD_eq_getElem?_getD,List.append_assoc,List.getElem?_append_right agK,List.getElem?_append_left agK];simp
  rw[this];exact hc
 ·intro i hi;rw[kQ];simp;omega
 ·intro i hi;rw[kQ];simp;omega
 ·have:cw ws (nU l.length k0)=ws.map λ_=>false:=by unfold cw;refine List.map_congr_left (λx hx=> ?_);rw[List.all_eq_true]at hws;have:=hws x hx;rw[kQ];simp at this⊢;omega
  rw[this];exact hC
 ·intro i o hi hl d hd;rw[kQ]at hl⊢;simp only[aP,decide_eq_true_eq]at hl⊢;have:=(hed i o hi).1 d hd;omega
 ·intro i d R hi hl;rw[kQ]at hl;simp only[aP,decide_eq_true_eq]at hl;have:=congrArg (λl=>l[i]?) h2;rw[List.getElem?_take,if_pos hl.2,hi]at this;simp only[I9,List.getElem?_map,List.getElem?_take,if_pos hl.2,bC hl.1,Option.map_some,Option.some.injEq,Prod.mk.injEq]at this;rw[this.2];trivial
theorem eu {id:Nat} {l:List Oper} {n:Nat} {w:World} (hm:P.follows .mixedOrders=true) (hn:l.length=n) (h:wpAny P .any l.toArray Q n (nU n 0) a0 (w.drewN 1)):(Code.region id l.toArray true).wp P Q a0 w:=by
 subst hn;refine wp_region_any hm ?_;have hdr:({w with drawn:=w.drawn+1} :World)=w.drewN 1:=rfl;have hp:Array.replicate l.toArray.size false=nU l.length 0:=Na agJ (by intro i hi;omega) (λi _=>by rw[Array.getD_eq_getD_getElem?];by_cases hk:i<l.length <;> simp[hk]);rw[hdr,hp];exact h
theorem fU {l:List Oper} {n:Nat} {w:World} (hn:l.length=n) (h:Q .normal a0 w):wpAny P .any l.toArray Q 0 (nU n n) a0 w:=by
 subst hn;refine⟨?_,h⟩;rw[List.eq_nil_iff_forall_not_mem];intro i hi;obtain⟨h0,o,ho,-⟩:=mem_ready.1 hi;have hlt:i<l.length:=afw
 have h1:i<(nU l.length l.length).size:=by rw[sZ];exact hlt
 have:=kQ l.length l.length i;simp[h1]at h0 this;rw[this]at h0;simp at h0;omega
theorem dZ {l:List Oper} {o:Oper} {n r k1:Nat} {w:World} (k:Nat) (sM:List (List Nat)) (hn:l.length=n) (hr:n -k=r+1) (hk1:k+1=k1) (ho:l[k]? =some o) (hgu:o.guard=none) (hB:J9 l=true) (Kl:Ve l sM=true) (LJ:IE n sM k1=true)
 (h:o.wp P a0 w (wpAny P .any l.toArray Q r (nU n k1)) Q):wpAny P .any l.toArray Q (r+1) (nU n k) a0 w:=by
 subst hn;subst hk1;unfold J9 at hB;simp only[aP,decide_eq_true_eq]at hB;have hkn:k<l.length:=agH
 have hnx:(nU l.length k).setIfInBounds k true=nU l.length (k+1):=by
  refine Na (by simp[sZ]) (λi hi=> ?_) (λi hi=> ?_)
  ·by_cases hik:i=k
   ·subst hik;rw[Array.getD_eq_getD_getElem?,Array.getElem?_setIfInBounds_self_of_lt (by rw[sZ];exact hkn)];rfl
   ·exact getD_set_true (by rw[kQ];simp;omega)
  ·rw[getD_set_ne false agH,kQ];simp;omega
 have by4: ∀i∈Region.ready .any l.toArray (nU l.length k),i=k:=λi hi=>by
  obtain⟨h0,oi,hoi,El⟩:=mem_ready.1 hi;have hlt:i<l.length:=by simpa using(aO hoi)
  have hge:k<=i:=by
   have h1:i<(nU l.length k).size:=by rw[sZ];exact hlt
   have:=kQ l.length k i;simp[h1]at h0 this;rw[this]at h0;simp at h0;omega
  rcases Nat.lt_or_ge k i with hki|hki
  ·exfalso;unfold IE at LJ;simp only[List.all_eq_true,List.mem_range,Bool.or_eq_true,decide_eq_true_eq,List.contains_iff_mem]at LJ;have hka:k∈sM.getD i []:=by
    rcases LJ i hlt with h|h
    ·omega
    ·exact h k agH
   have by3:l[i]? =some oi:=by simpa using hoi
   have hz':=yR Kl i oi by3;rw[List.all_eq_true]at hz';have:=hz' k hka;rw[List.any_eq_true]at this;obtain⟨d,hd1,hd2⟩:=this;simp only[oM,List.mem_map,List.mem_filter,Array.mem_toList_iff]at hd1;obtain⟨e,⟨he,hb⟩,rfl⟩:=hd1;have hdl:=El e he hb;have hed: ∀(i:Nat) (o:Oper),l[i]? =some o->∀d∈oM o,d<i:=λi o hi=>by have:=yR hB.2 i o hi;simp only[aP,List.all_eq_true,decide_eq_true_eq]at this;exact this.1
   have hdc:DC l (nU l.length k):=by intro i o hi hl d hd;rw[kQ]at hl⊢;simp only[aP,decide_eq_true_eq]at hl⊢;have:=hed i o hi d hd;omega
   simp only[Bool.or_eq_true,beq_iff_eq,List.contains_iff_mem]at hd2;have hkl:(nU l.length k).getD k false=true:=by
    rcases hd2 with h2|hd2
    ·rw[h2]at hdl;exact hdl
    ·exact Lj Kl hed hdc (sZ _ _) e.on hdl k hd2
   rw[kQ]at hkl;simp at hkl
  ·omega
 refine⟨λhr0=> ?_,λi hi=> ?_⟩
 ·exfalso;have hlk:l[k]? =some l[k]:=bC hkn;have:k∈Region.ready .any l.toArray (nU l.length k):=mem_ready.2 ⟨by
   have h1:k<(nU l.length k).size:=by rw[sZ];exact hkn
   have:=kQ l.length k k;simp[h1]at this⊢;rw[this],l[k],by simp[hkn],λe he hb=>by have:=yR hB.2 k l[k] hlk;simp only[aP,List.all_eq_true,decide_eq_true_eq]at this;have:=this.1 e.on (AU he hb);rw[kQ];simp;omega⟩
  rw[hr0]at this;cases this
 ·obtain rfl:=by4 i hi;unfold wpOp;have:l.toArray[i]? =some o:=by simpa using ho
  simp only[this,Region.wanted,hgu,if_true];rw[hnx];exact Or.inl h
end
theorem dI {w:World} {b o:Nat} {cur:Array Value} {e:TypeId} {fr:Nat×Nat} (h:w.heap[b]? =some (.cells cur e fr)) (v:Value):(w.setCell ⟨b,o,none⟩ v).heap[b]? =some (.cells (cur.setIfInBounds o v) e fr):=by
 unfold World.setCell;simp only[Array.getElem?_modify,if_true,h,Option.map_some];rfl
theorem bg (w:World) {b k:Nat} (a:Addr) (v:Value) (hb:a.block=b) (hk:b≠k):(w.setCell a v).heap[k]? =w.heap[k]?:=by
 unfold World.setCell;simp only[Array.getElem?_modify];rw[if_neg (by rw[hb];exact hk)]
theorem bU (w:World) (a:Addr) (v:Value):w.grownBy (w.setCell a v) (some a.block):=
 ⟨rfl,rfl,rfl,aeU,λk _ hk=>bg w a v rfl (λe=>hk (by rw[e]))⟩
theorem jC {b:Option Nat} {w1 w2 w3:World} (h:w1.grownBy w2 b) (k:w2.grownBy w3 b):w1.grownBy w3 b:=
 ⟨k.os.trans h.os,k.tape.trans h.tape,k.output.trans h.output,aJ h.size k.size,λj hj hne=>(k.block j (aR hj h.size) hne).trans (h.block j hj hne)⟩
theorem cK {w w':World} {b B:Nat} (h:w.grownBy w' (some b)) (hB:B<=b) (hB':B<=w.heap.size):Below B w w':=
 ⟨h.os,h.tape,h.output,h.size,λk hk=>h.block k agH agK⟩
theorem Ca {b:Option Nat} (w:World):w.grownBy w b:=⟨rfl,rfl,rfl,aB _,λ_ _ _=>rfl⟩
theorem eD (b:Nat): ∀(vs:List Value) (o:Nat) (w:World),w.grownBy (w.setCells b o vs) (some b)
 | [],_,w=>Ca w
 |v::vs,o,w=>jC (bU w ⟨b,o,none⟩ v) (eD b vs (o+1) _)
theorem Dg {b:Nat} {e:TypeId} {fr:Nat×Nat} : ∀(vs:List Value) (o:Nat) (w:World) (cur:Array Value),w.heap[b]? =some (.cells cur e fr)->o+vs.length<=cur.size->
 ∃cur',(w.setCells b o vs).heap[b]? =some (.cells cur' e fr)∧cur'.size=cur.size∧cur'.toList.take (o+vs.length)=cur.toList.take o++vs
 | [],o,w,cur,h,_=>⟨cur,h,rfl,agJ⟩
 |v::vs,o,w,cur,h,hl=>by
  simp only[aD]at hl;obtain⟨cur',h1,h2,h3⟩:=Dg vs (o+1) (w.setCell ⟨b,o,none⟩ v) (cur.setIfInBounds o v) (dI h v) agK;refine⟨cur',h1,agQ,?_⟩;rw[aD,show o+(vs.length+1)=o+1+vs.length by omega,h3,Array.toList_setIfInBounds];have ho:o<cur.toList.length:=agK
  rw[List.take_succ_eq_append_getElem (by rw[List.length_set];exact ho),List.take_set,List.getElem_set_self];rw[List.set_eq_of_length_le agK];simp
section
variable {w:World} {base:Nat} {e:TypeId} {size:Nat} {n cap g:Nat} {xs:List Value}
theorem Mc (h:w.ownsRow base e size (.slice (some ⟨g,0,none⟩) (n+1) cap) (n+1) xs):w.there g (n*size) size:=by
 rcases h.2 with⟨h1,-⟩|⟨g',cap',cur,e1,-,hg,hc,-,hs,-⟩
 ·cases h1
 ·injection e1 with e1 e2 e3;injection e1 with e1;injection e1 with e1;subst e1;subst e3;intro j hj;have hlt:n*size+j<cur.size:=by rw[hs];have:(n+1)*size<=cap*size:=Nat.mul_le_mul_right _ hc;rw[Nat.add_mul]at this;omega
  refine⟨?_,?_⟩
  ·rw[cell_of_row w g _ cur e (0,0) hg];simp[hlt]
  ·simp[World.frozen?,hg]
theorem Rt {zs vs:List Value} (h:w.ownsRow base e size (.slice (some ⟨g,0,none⟩) (n+1) cap) (n+1) (xs++zs)) (hx:xs.length=n*size) (hv:vs.length=size):
 (w.setCells g (n*size) vs).ownsRow base e size (.slice (some ⟨g,0,none⟩) (n+1) cap) (n+1) (xs++vs):=by
 have hl:=h.1;rcases h.2 with⟨h1,-⟩|⟨g',cap',cur,e1,hb,hg,hc,hm,hs,ht⟩
 ·cases h1
 ·injection e1 with e1 e2 e3;injection e1 with e1;injection e1 with e1;subst e1;subst e3;have hle:(n+1)*size<=cap*size:=Nat.mul_le_mul_right _ hc;have hsp:(n+1)*size=n*size+size:=by rw[Nat.add_mul];simp
  obtain⟨cur',k1,k2,k3⟩:=Dg vs (n*size) w cur hg (by rw[hv,hs];omega);refine⟨by simp[hx,hv,hsp],.inr ⟨g,cap,cur',rfl,hb,k1,hc,hm,by rw[k2,hs],?_⟩⟩;rw[hsp];rw[hv]at k3;rw[k3];congr 1;have:=congrArg (List.take (n*size)) ht;rw[List.take_take,Nat.min_eq_left agH]at this;rw[this,List.take_append_of_le_length agH,List.take_of_length_le agH]
theorem Oz {ys:List Value} (h:w.ownsRow base e size (.slice (some ⟨g,0,none⟩) (n+1) cap) (n+1) (xs++ys)) (hx:xs.length=n*size):w.ownsRow base e size (.slice (some ⟨g,0,none⟩) n cap) n xs:=by
 rcases h.2 with⟨h1,-⟩|⟨g',cap',cur,e1,hb,hg,hc,hm,hs,ht⟩
 ·cases h1
 ·injection e1 with e1 e2 e3;injection e1 with e1;injection e1 with e1;subst e1;subst e3;have hsp:(n+1)*size=n*size+size:=by rw[Nat.add_mul];simp
  refine⟨hx,.inr ⟨g,cap,cur,rfl,hb,hg,agH,hm,hs,?_⟩⟩;have:=congrArg (List.take (n*size)) ht;rw[List.take_take,Nat.min_eq_left agH]at this;rw[this,List.take_append_of_le_length agH,List.take_of_length_le agH]
end
theorem F8 {w w':World} {b o n:Nat} (h:w.there b o n) (hb:w'.heap[b]? =w.heap[b]?):w'.there b o n:=λj hj=>by
 rw[World.cell?_of_block (a:=⟨b,o+j,none⟩) hb,World.frozen?_of_block (a:=⟨b,o+j,none⟩) hb];exact h j hj
theorem bK {w:World} {b o:Nat} {cs:Array Value} {t:TypeId} (h:w.heap[b]? =some (.cells cs t (0,0))):w.frozen? ⟨b,o,none⟩=false:=by simp[World.frozen?,h]
theorem aQ {w:World} {b j:Nat} {cs:Array Value} {t:TypeId} {fr:Nat×Nat} {u:Value} (h:w.heap[b]? =some (.cells cs t fr)) (hu:cs[j]? =some u):w.cell? ⟨b,j,none⟩=some u:=by
 rw[cell_of_row w b j cs t fr h,hu]
def kC (B:Nat) (w w':World):Prop:=w.heap.size<=w'.heap.size∧∀k,B<=k->k<w.heap.size->w'.heap[k]? =w.heap[k]?
theorem kC.refl (B:Nat) (w:World):kC B w w:=⟨aB _,λ_ _ _=>rfl⟩
theorem kC.trans {B:Nat} {w w1 w2:World} (h:kC B w w1) (k:kC B w1 w2):kC B w w2:=⟨aJ h.1 k.1,λj h1 h2=>(k.2 j h1 (aR h2 h.1)).trans (h.2 j h1 h2)⟩
theorem kC.mono {B B':Nat} {w w':World} (h:kC B w w') (hB:B<=B'):kC B' w w':=⟨h.1,λj h1 h2=>h.2 j (aJ hB h1) h2⟩
theorem bS {B:Nat} {w w':World} (h:Below w.heap.size w w'):kC B w w':=⟨h.size,λk _ h2=>h.block k h2⟩
theorem iL {B:Nat} (w:World) (a:Addr) (v:Value) (h:a.block<B):kC B w (w.setCell a v):=⟨aeU,λk h1 _=>bg w a v rfl agH⟩
def ig (B:Nat) (w:World) (Q:World->Prop):Prop:= ∀w',kC B w w'->Q w'
theorem ig.next {B:Nat} {w w1:World} {Q:World->Prop} (h:ig B w Q) (hm:kC B w w1):ig B w1 Q:=λw' h'=>h w' (hm.trans h')
theorem ig.now {B:Nat} {w:World} {Q:World->Prop} (h:ig B w Q):Q w:=h w (kC.refl _ _)
theorem ig.mono {B B':Nat} {w:World} {Q:World->Prop} (h:ig B' w Q) (hB:B<=B'):ig B w Q:=λw' h'=>h w' (h'.mono hB)
def Fb (B:Nat) (g:Option Nat) (w w':World):Prop:=w.heap.size<=w'.heap.size∧∀k,B<=k->some k≠g->k<w.heap.size->w'.heap[k]? =w.heap[k]?
def oK (B:Nat) (g:Option Nat) (w:World) (Q:World->Prop):Prop:= ∀w',Fb B g w w'->Q w'
section
variable {B B1:Nat} {g:Option Nat} {w w' w1:World} {Q:World->Prop}
theorem kC.x (h:kC B w w'):Fb B g w w':=⟨h.1,λk h1 _ h2=>h.2 k h1 h2⟩
theorem Fb.trans (h:Fb B g w w1) (k:Fb B g w1 w'):Fb B g w w':=⟨aJ h.1 k.1,λj h1 h2 h3=>(k.2 j h1 h2 (aR h3 h.1)).trans (h.2 j h1 h2 h3)⟩
theorem Fb.Kz (h:w.grownBy w' g):Fb B g w w':=⟨h.size,λk _ h2 h3=>h.block k h3 h2⟩
theorem oK.next (h:oK B g w Q) (ha:Fb B g w w1):oK B g w1 Q:=λw' h'=>h w' (ha.trans h')
theorem oK.stay (h:oK B g w Q):ig B w Q:=λw' ha=>h w' ha.x
theorem RI (h:ig B1 w Q) (hB:B<=B1) (hg: ∀k,g=some k->k<B1):oK B g w Q:=λw' ha=>
 h w' ⟨ha.1,λk h1 h2=>ha.2 k (aJ hB h1) (λe=>absurd (hg k e.symm) agH) h2⟩
theorem oK.move {g':Nat} (h:oK B g w Q) (hg:w.grownBy w' g) (hn:g=some g'∨g'=w.heap.size):oK B (some g') w' Q:=λw2 h2=>
 h w2 ⟨aJ hg.size h2.1,λk h3 h4 h5=>by
   have hk:some k≠some g':=λe=>by
    rcases hn with rfl|rfl
    ·exact h4 e
    ·injection e with e;omega
   exact(h2.2 k h3 hk (aR h5 hg.size)).trans (hg.block k h5 h4)⟩
end
theorem ru {α:Type} {f:α->List Value} {m:Nat} (hf: ∀x,(f x).length=m): ∀xs:List α,(xs.flatMap f).length=xs.length*m
 | []=>agJ
 |x::xs=>by rw[List.flatMap_cons,aA,ru hf xs,hf,aD,Nat.add_mul,Nat.one_mul,Nat.add_comm]
theorem flat_get {α:Type} {f:α->List Value} {m:Nat} (hf: ∀x,(f x).length=m): ∀(xs:List α) (k:Nat) (x:α) (j:Nat) (u:Value),xs[k]? =some x->(f x)[j]? =some u->(xs.flatMap f)[k*m+j]? =some u
 | [],_,_,_,_,h,_=>ahe
 |y::xs,0,x,j,u,h,hu=>by simp at h;subst h;have hj:j<(f y).length:=(List.getElem?_eq_some_iff.1 hu).1;rw[List.flatMap_cons,Nat.zero_mul,aU,List.getElem?_append_left hj];exact hu
 |y::xs,k+1,x,j,u,h,hu=>by have ih:=flat_get hf xs k x j u ahT hu;rw[List.flatMap_cons,List.getElem?_append_right (by rw[hf,Nat.add_mul];omega),hf,show(k+1)*m+j -m=k*m+j by rw[Nat.add_mul];omega];exact ih
structure Grow {α:Type} (f:α->List Value) (m:Nat) (I:α->World->Prop) (ty:TypeId) (B:Nat) (w:World) (v:Value) (xs:List α):Prop where
 own:w.ownsRow B ty m v xs.length (xs.flatMap f)
 stay: ∀x∈xs,oK B v.ownBlock w (I x)
section
variable {α:Type} {f:α->List Value} {m:Nat} {I:α->World->Prop} {ty:TypeId} {B:Nat} {w w':World} {v:Value} {xs:List α}
theorem Grow.nil (f:α->List Value) (m:Nat) (I:α->World->Prop) (ty:TypeId) (B:Nat) (w:World):Grow f m I ty B w (.slice none 0 0) []:=⟨World.ownsRow_nil _ _ _ _,λx hx=>ahB⟩
theorem Grow.lt (h:Grow f m I ty B w v xs): ∀k,v.ownBlock=some k->B<=k∧k<w.heap.size:=h.own.lt
theorem Grow.len (h:Grow f m I ty B w v xs): ∃ao cap,v= .slice ao xs.length cap:=by
 rcases h.own.2 with⟨h1,h2⟩|⟨g,cap,cur,h1,-⟩
 ·exact⟨none,0,by rw[h1,h2]⟩
 ·exact⟨_,_,h1⟩
theorem Grow.next (h:Grow f m I ty B w v xs) (ha:kC B w w'):Grow f m I ty B w' v xs:=by
 refine⟨⟨h.own.1,?_⟩,λx hx=>(h.stay x hx).next ha.x⟩;rcases h.own.2 with h1|⟨g,cap,cur,h1,h2,h3,h4⟩
 ·exact .inl h1
 ·exact .inr ⟨g,cap,cur,h1,h2,(ha.2 g h2 (aO h3)).trans h3,h4⟩
theorem Grow.push {x:α} {g cap n:Nat} (h:Grow f m I ty B w v xs) (hx:oK B v.ownBlock w (I x)) (hn:n=xs.length+1) (hown:w'.ownsRow B ty m (.slice (some ⟨g,0,none⟩) n cap) n (xs.flatMap f++f x)) (hg:w.grownBy w' v.ownBlock) (hmv:v.ownBlock=some g∨g=w.heap.size):
 Grow f m I ty B w' (.slice (some ⟨g,0,none⟩) n cap) (xs++[x]):=by
 subst hn;refine⟨aan,λy hy=> ?_⟩;show oK B (some g) w' (I y);rcases List.mem_append.1 hy with hy|hy
 ·exact(h.stay y hy).move hg hmv
 ·rw[List.mem_singleton.1 hy];exact hx.move hg hmv
theorem Grow.cells (hf: ∀x,(f x).length=m) (h:Grow f m I ty B w v xs):ig B w (λw2=>(∀x∈xs,I x w2)∧∃ao cap,v= .slice ao xs.length cap∧xs.length<=cap∧∀k x,xs[k]? =some x->∃g,ao=some ⟨g,0,none⟩∧B<=g∧g<w2.heap.size∧∀j u,(f x)[j]? =some u->w2.cell? ⟨g,k*m+j,none⟩=some u):=λw2 h2=>by
 refine⟨λx hx=>(h.stay x hx) w2 h2.x,?_⟩;rcases h.own.2 with⟨h1,h3⟩|⟨g,cap,cur,h1,hB,hg,hc,-,hs,ht⟩
 ·refine⟨none,0,by rw[h1,h3],agH,λk x hk=> ?_⟩;have:=(List.getElem?_eq_some_iff.1 hk).1;omega
 ·refine⟨some ⟨g,0,none⟩,cap,h1,hc,λk x hk=>⟨g,rfl,hB,?_⟩⟩;have hg2:=(h2.2 g hB (aO hg)).trans hg;refine⟨(aO hg2),λj u hu=> ?_⟩;have hF:=flat_get hf xs k x j u hk hu;rw[<- ht]at hF;have hlt:=(List.getElem?_eq_some_iff.1 hF).1;rw[List.getElem?_take_of_lt acF]at hF;exact aQ hg2 ahp
end
theorem gP {W:World} {cs:List Value} {t:TypeId} {fr:Nat×Nat} {g:Nat} (h:W.heap[g]? =some (.cells cs.toArray t fr)): ∀j u,cs[j]? =some u->W.cell? ((⟨g,0,none⟩:Addr).add j)=some u:=λj u hu=>by
 have:=aQ (j:=j) (u:=u) h ahN;rcases Nat.eq_zero_or_pos j with rfl|hj
 ·simpa[Addr.add]using this
 ·simpa[Addr.add,Nat.ne_of_gt hj]using this
def QD (op n:Int) (nm:ByteArray) (kids:bT) (ao:Option Addr) (cap:Nat):List Value:=[.int .i64 op,.int .i64 n,.string nm,.slice ao kids.len cap]
def exV (op n:Int) (nm:ByteArray) (kids:bT) (ao:Option Addr) (cap:Nat):Value:= .agg #[.int .i64 op,.int .i64 n,.string nm,.slice ao kids.len cap]
theorem RN {B:Nat} {w:World} {g:Nat} {cs:Array Value} {t:TypeId} {fr:Nat×Nat} (hb:w.heap[g]? =some (.cells cs t fr)) (ht:B<=g):ig B w (λw2=>g<w2.heap.size∧∀j u,cs[j]? =some u->w2.cell? ⟨g,j,none⟩=some u):=λw2 h=>by
 have h2:=(h.2 g ht (aO hb)).trans hb;exact⟨(aO h2),λj u hu=>aQ h2 hu⟩
theorem KG {B:Nat} {w:World} {g:Nat} {op n:Int} {nm:ByteArray} {kids:bT} {ao:Option Addr} {cap:Nat} {t:TypeId} {fr:Nat×Nat} (hb:w.heap[g]? =some (.cells (QD op n nm kids ao cap).toArray t fr)) (ht:B<=g) (hok:qW op n nm kids) (hk:ig B w (λw2=>kids.At w2 w2.heap.size ao 0)):
 ig B w (λw2=>(bT.cons op n nm kids .nil).At w2 w2.heap.size (some ⟨g,0,none⟩) 0):=λw2 h=>by
 obtain⟨hl,hc⟩:=RN hb ht w2 h;exact⟨⟨g,0,ao,cap,rfl,hl,hc 0 _ rfl,hc 1 _ rfl,hc 2 _ rfl,hc 3 _ rfl,hok,hk w2 h⟩,trivial⟩
theorem KH {B:Nat} {w:World} {g:Nat} {op n op' n':Int} {nm nm':ByteArray} {kids iw:bT} {ao mh:Option Addr} {cap cap':Nat} {t:TypeId} {fr:Nat×Nat} (hb:w.heap[g]? =some (.cells (QD op n nm kids ao cap++QD op' n' nm' iw mh cap').toArray t fr)) (ht:B<=g) (hok:qW op n nm kids) (hk:ig B w (λw2=>kids.At w2 w2.heap.size ao 0)) (hok':qW op' n' nm' iw) (hk':ig B w (λw2=>iw.At w2 w2.heap.size mh 0)):
 ig B w (λw2=>(bT.cons op n nm kids (.cons op' n' nm' iw .nil)).At w2 w2.heap.size (some ⟨g,0,none⟩) 0):=λw2 h=>by
 obtain⟨hl,hc⟩:=RN hb ht w2 h;exact⟨⟨g,0,ao,cap,rfl,hl,hc 0 _ rfl,hc 1 _ rfl,hc 2 _ rfl,hc 3 _ rfl,hok,hk w2 h⟩,⟨g,0,mh,cap',rfl,hl,hc 4 _ rfl,hc 5 _ rfl,hc 6 _ rfl,hc 7 _ rfl,hok',hk' w2 h⟩,trivial⟩
theorem IK {w:World} {g:Nat} {cs:Array Value} {t:TypeId} (h:w.heap[g]? =some (.cells cs t (0,0))) {n:Nat} (hn:n<=cs.size):w.there g 0 n:=λj hj=>by
 refine⟨?_,bK h⟩;rw[cell_of_row w g _ cs t (0,0) h];simp;omega
theorem nC {w:World} {g:Nat} {cs:Array Value} {t:TypeId} {vs:List Value} (h:w.heap[g]? =some (.cells cs t (0,0))) (hl:vs.length=cs.size):(w.setCells g 0 vs).heap[g]? =some (.cells vs.toArray t (0,0)):=by
 obtain⟨cur',h1,h2,h3⟩:=Dg vs 0 w cs h agH;rw[h1];have e:cur'.toList=vs:=by rw[aU,List.take_of_length_le agK]at h3;simpa using h3
 rw[<- e]
def Holds (W:World):List (Nat×Nat×Value)->Prop
 | []=>True
 |f::r=>(f.1<W.heap.size∧W.cell? ⟨f.1,f.2.1,none⟩=some f.2.2)∧Holds W r
theorem Holds.next {W W':World} (hb:Below W.heap.size W W'): ∀ {l:List (Nat×Nat×Value)},Holds W l->Holds W' l
 | [],_=>trivial
 |_::_,⟨⟨h1,h2⟩,h3⟩=>⟨⟨aR h1 hb.size,(hb.cell h1).trans h2⟩,h3.next hb⟩
def Sit (w W:World) (fs:List (Nat×Nat×Value)):Prop:=Below w.heap.size w W∧Holds W fs
theorem Sit.start (w:World):Sit w w []:=⟨au _ _,trivial⟩
theorem Sit.next {w W W':World} {fs:List (Nat×Nat×Value)} (h:Sit w W fs) (hb:Below W.heap.size W W'):Sit w W' fs:=
 ⟨h.1.trans (hb.mono h.1.size),h.2.next hb⟩
theorem Sit.draws {w W:World} {fs:List (Nat×Nat×Value)} (h:Sit w W fs) (n:Nat):Sit w (W.drewN n) fs:=h.next (below_drewN (au _ _) n)
theorem ak (W:World) (o:Obj):Below W.heap.size W (W.alloc o):=(au _ _).alloc (aB _) _
theorem Sit.xV {w W:World} {fs:List (Nat×Nat×Value)} {n:Nat} (h:Sit w W fs) (hn:W.heap.size=n) (a b:Value) (t:TypeId):
 Sit w (W.alloc (.cells #[a,b] t)) ((n,0,a)::(n,1,b)::fs):=by
 subst hn;exact⟨(h.next (ak _ _)).1,⟨agJ,dX W [a,b] t 0⟩,⟨agJ,dX W [a,b] t 1⟩,(h.next (ak _ _)).2⟩
theorem Sit.Ac {w W:World} {fs:List (Nat×Nat×Value)} {n:Nat} (h:Sit w W fs) (hn:W.heap.size=n) (a b c d:Value) (t:TypeId):
 Sit w (W.alloc (.cells #[a,b,c,d] t)) ((n,0,a)::(n,1,b)::(n,2,c)::(n,3,d)::fs):=by
 subst hn;exact⟨(h.next (ak _ _)).1,⟨agJ,dX W [a,b,c,d] t 0⟩,⟨agJ,dX W [a,b,c,d] t 1⟩,⟨agJ,dX W [a,b,c,d] t 2⟩,⟨agJ,dX W [a,b,c,d] t 3⟩,(h.next (ak _ _)).2⟩
theorem Sit.Qt {w W:World} {fs:List (Nat×Nat×Value)} {n:Nat} (h:Sit w W fs) (hn:W.heap.size=n) (a b c d e f:Value) (t:TypeId):
 Sit w (W.alloc (.cells #[a,b,c,d,e,f] t)) ((n,0,a)::(n,1,b)::(n,2,c)::(n,3,d)::(n,4,e)::(n,5,f)::fs):=by
 subst hn;exact⟨(h.next (ak _ _)).1,⟨agJ,dX W [a,b,c,d,e,f] t 0⟩,⟨agJ,dX W [a,b,c,d,e,f] t 1⟩,⟨agJ,dX W [a,b,c,d,e,f] t 2⟩,⟨agJ,dX W [a,b,c,d,e,f] t 3⟩,⟨agJ,dX W [a,b,c,d,e,f] t 4⟩,⟨agJ,dX W [a,b,c,d,e,f] t 5⟩,(h.next (ak _ _)).2⟩
theorem Sit.wH {w W:World} {fs:List (Nat×Nat×Value)} {n:Nat} (hs:Sit w W fs) (hn:W.heap.size=n) (a b c d e f g h i j k:Value) (t:TypeId):
 Sit w (W.alloc (.cells #[a,b,c,d,e,f,g,h,i,j,k] t)) ((n,0,a)::(n,1,b)::(n,2,c)::(n,3,d)::(n,4,e)::(n,5,f)::(n,6,g)::(n,7,h)::(n,8,i)::(n,9,j)::(n,10,k)::fs):=by
 subst hn;exact⟨(hs.next (ak _ _)).1,⟨agJ,dX W [a,b,c,d,e,f,g,h,i,j,k] t 0⟩,⟨agJ,dX W [a,b,c,d,e,f,g,h,i,j,k] t 1⟩,⟨agJ,dX W [a,b,c,d,e,f,g,h,i,j,k] t 2⟩,⟨agJ,dX W [a,b,c,d,e,f,g,h,i,j,k] t 3⟩,⟨agJ,dX W [a,b,c,d,e,f,g,h,i,j,k] t 4⟩,⟨agJ,dX W [a,b,c,d,e,f,g,h,i,j,k] t 5⟩,⟨agJ,dX W [a,b,c,d,e,f,g,h,i,j,k] t 6⟩,⟨agJ,dX W [a,b,c,d,e,f,g,h,i,j,k] t 7⟩,⟨agJ,dX W [a,b,c,d,e,f,g,h,i,j,k] t 8⟩,⟨agJ,dX W [a,b,c,d,e,f,g,h,i,j,k] t 9⟩,⟨agJ,dX W [a,b,c,d,e,f,g,h,i,j,k] t 10⟩,(hs.next (ak _ _)).2⟩
namespace Md
structure De where
 kind:Int
 line:Int
 nm:ByteArray
 size:Int
 init:Int
 on:ByteArray
def De.Ok (d:De):Prop:=bY d.kind∧bY d.line∧d.nm.size<=maxLen∧bY d.size∧bY d.init∧d.on.size<=maxLen
structure dF where
 op:Int
 line:Int
 nm:ByteArray
 arg:ByteArray
 idx:bT
 dP:Int
 xn:Int
 dO:ByteArray
 bJ:bT
inductive aZ where
 |nil
 |cons (h:dF) (body els rest:aZ)
def aZ.len:aZ->Nat
 | .nil=>0
 | .cons _ _ _ r=>r.len+1
def aZ.All (Q:dF->aZ->aZ->Prop):aZ->Prop
 | .nil=>True
 | .cons h b e r=>Q h b e∧r.All Q
theorem aZ.nQ {Q:dF->aZ->aZ->Prop} (step: ∀h b e,b.All Q->e.All Q->Q h b e): ∀l:aZ,l.All Q
 | .nil=>trivial
 | .cons h b e r=>⟨step h b e (nQ step b) (nQ step e),nQ step r⟩
theorem aZ.AX {Q:dF->aZ->aZ->Prop} (step: ∀h b e,b.All Q->e.All Q->Q h b e) (h:dF) (b e:aZ):Q h b e:=
 step h b e (aZ.nQ step b) (aZ.nQ step e)
structure Th where
 nm:ByteArray
 line:Int
 cZ:List ByteArray
 body:aZ
def fP (w:World) (B:Nat):List ByteArray->Option Addr->Nat->Prop
 | [],_,_=>True
 |s::r,ao,k=>(∃b off,ao=some ⟨b,off,none⟩∧b<B∧w.cell? ⟨b,off+k,none⟩=some (.string s)∧s.size<=maxLen)∧fP w B r ao (k+1)
def jv (w:World) (B:Nat):List De->Option Addr->Nat->Prop
 | [],_,_=>True
 |d::r,ao,k=>(∃b off,ao=some ⟨b,off,none⟩∧b<B∧w.cell? ⟨b,off+k*6,none⟩=some (.int .i64 d.kind)∧w.cell? ⟨b,off+k*6+1,none⟩=some (.int .i64 d.line)∧
   w.cell? ⟨b,off+k*6+2,none⟩=some (.string d.nm)∧w.cell? ⟨b,off+k*6+3,none⟩=some (.int .i64 d.size)∧w.cell? ⟨b,off+k*6+4,none⟩=some (.int .i64 d.init)∧
   w.cell? ⟨b,off+k*6+5,none⟩=some (.string d.on)∧d.Ok)∧jv w B r ao (k+1)
def xg (h:dF) (body els:aZ):Prop:=
 bY h.op∧bY h.line∧h.nm.size<=maxLen∧h.arg.size<=maxLen∧h.idx.len<=maxLen∧qW h.dP h.xn h.dO h.bJ∧body.len<=maxLen∧els.len<=maxLen
def aZ.At (w:World) (B:Nat):aZ->Option Addr->Nat->Prop
 | .nil,_,_=>True
 | .cons h body els rest,ao,k=>
   (∃b off gU gy fT eB dB cu iD gu,ao=some ⟨b,off,none⟩∧b<B∧w.cell? ⟨b,off+k*11,none⟩=some (.int .i64 h.op)∧w.cell? ⟨b,off+k*11+1,none⟩=some (.int .i64 h.line)∧
    w.cell? ⟨b,off+k*11+2,none⟩=some (.string h.nm)∧w.cell? ⟨b,off+k*11+3,none⟩=some (.string h.arg)∧w.cell? ⟨b,off+k*11+4,none⟩=some (.slice gU h.idx.len gy)∧
    w.cell? ⟨b,off+k*11+5,none⟩=some (.int .i64 h.dP)∧w.cell? ⟨b,off+k*11+6,none⟩=some (.int .i64 h.xn)∧w.cell? ⟨b,off+k*11+7,none⟩=some (.string h.dO)∧w.cell? ⟨b,off+k*11+8,none⟩=some (.slice fT h.bJ.len eB)∧
    w.cell? ⟨b,off+k*11+9,none⟩=some (.slice dB body.len cu)∧w.cell? ⟨b,off+k*11+10,none⟩=some (.slice iD els.len gu)∧xg h body els∧
    h.idx.At w B gU 0∧h.bJ.At w B fT 0∧body.At w B dB 0∧els.At w B iD 0)∧rest.At w B ao (k+1)
def Th.Ok (t:Th):Prop:=t.nm.size<=maxLen∧bY t.line∧t.cZ.length<=maxLen∧t.body.len<=maxLen
def iG (w:World) (B:Nat):List Th->Option Addr->Nat->Prop
 | [],_,_=>True
 |t::r,ao,k=>(∃b off iU eU dB cu,ao=some ⟨b,off,none⟩∧b<B∧w.cell? ⟨b,off+k*4,none⟩=some (.string t.nm)∧w.cell? ⟨b,off+k*4+1,none⟩=some (.int .i64 t.line)∧
   w.cell? ⟨b,off+k*4+2,none⟩=some (.slice iU t.cZ.length eU)∧w.cell? ⟨b,off+k*4+3,none⟩=some (.slice dB t.body.len cu)∧t.Ok∧fP w B t.cZ iU 0∧t.body.At w B dB 0∧t.cZ.length<=eU)∧iG w B r ao (k+1)
section
variable {w w':World} {B B':Nat}
theorem fP.below (hb:Below B w w'): ∀ {l:List ByteArray} {ao:Option Addr} {k:Nat},fP w B l ao k->fP w' B l ao k
 | [],_,_,_=>trivial
 |_::_,_,_,⟨⟨b,off,e,hB,c,hs⟩,hr⟩=>⟨⟨b,off,e,hB,(hb.cell hB).trans c,hs⟩,fP.below hb hr⟩
theorem fP.mono (h:B<=B'): ∀ {l:List ByteArray} {ao:Option Addr} {k:Nat},fP w B l ao k->fP w B' l ao k
 | [],_,_,_=>trivial
 |_::_,_,_,⟨⟨b,off,e,hB,c,hs⟩,hr⟩=>⟨⟨b,off,e,aR hB h,c,hs⟩,fP.mono h hr⟩
theorem fP.same {l:List ByteArray} {ao:Option Addr} {k:Nat} (h:fP w w.heap.size l ao k) (hb:Below w.heap.size w w'):fP w' w'.heap.size l ao k:=(h.below hb).mono hb.size
theorem fP.drop: ∀ {l:List ByteArray} {ao:Option Addr} {k:Nat} (i:Nat),fP w B l ao k->fP w B (l.drop i) ao (k+i)
 |_,_,_,0,h=>h
 | [],_,_,_+1,_=>by simp[fP]
 |_::_,_,k,i+1,⟨_,hr⟩=>by have:=fP.drop i hr;rw[List.drop_succ_cons];rwa [Nat.add_assoc,Nat.add_comm 1 i]at this
theorem jv.below (hb:Below B w w'): ∀ {l:List De} {ao:Option Addr} {k:Nat},jv w B l ao k->jv w' B l ao k
 | [],_,_,_=>trivial
 |_::_,_,_,⟨⟨b,off,e,hB,c0,c1,c2,c3,c4,c5,hs⟩,hr⟩=>⟨⟨b,off,e,hB,(hb.cell hB).trans c0,(hb.cell hB).trans c1,(hb.cell hB).trans c2,(hb.cell hB).trans c3,(hb.cell hB).trans c4,(hb.cell hB).trans c5,hs⟩,jv.below hb hr⟩
theorem jv.mono (h:B<=B'): ∀ {l:List De} {ao:Option Addr} {k:Nat},jv w B l ao k->jv w B' l ao k
 | [],_,_,_=>trivial
 |_::_,_,_,⟨⟨b,off,e,hB,c⟩,hr⟩=>⟨⟨b,off,e,aR hB h,c⟩,jv.mono h hr⟩
theorem jv.same {l:List De} {ao:Option Addr} {k:Nat} (h:jv w w.heap.size l ao k) (hb:Below w.heap.size w w'):jv w' w'.heap.size l ao k:=(h.below hb).mono hb.size
theorem jv.drop: ∀ {l:List De} {ao:Option Addr} {k:Nat} (i:Nat),jv w B l ao k->jv w B (l.drop i) ao (k+i)
 |_,_,_,0,h=>h
 | [],_,_,_+1,_=>by simp[jv]
 |_::_,_,k,i+1,⟨_,hr⟩=>by have:=jv.drop i hr;rw[List.drop_succ_cons];rwa [Nat.add_assoc,Nat.add_comm 1 i]at this
theorem fP.take: ∀ {pre R:List ByteArray} {ao:Option Addr} {k:Nat},fP w B (pre++R) ao k->fP w B pre ao k
 | [],_,_,_,_=>trivial
 |_::_,_,_,_,h=>⟨h.1,fP.take h.2⟩
theorem jv.take: ∀ {pre R:List De} {ao:Option Addr} {k:Nat},jv w B (pre++R) ao k->jv w B pre ao k
 | [],_,_,_,_=>trivial
 |_::_,_,_,_,h=>⟨h.1,jv.take h.2⟩
theorem aZ.At.below (hb:Below B w w'): ∀ {l:aZ} {ao:Option Addr} {k:Nat},l.At w B ao k->l.At w' B ao k
 | .nil,_,_,_=>trivial
 | .cons _ _ _ _,_,_,h=>by obtain⟨⟨b,off,gU,gy,fT,eB,dB,cu,iD,gu,e,hB,c0,c1,c2,c3,c4,c5,c6,c7,c8,c9,c10,hok,h1,h2,h3,h4⟩,hr⟩:=h;exact⟨⟨b,off,gU,gy,fT,eB,dB,cu,iD,gu,e,hB,(hb.cell hB).trans c0,(hb.cell hB).trans c1,(hb.cell hB).trans c2,(hb.cell hB).trans c3,(hb.cell hB).trans c4,(hb.cell hB).trans c5,(hb.cell hB).trans c6,(hb.cell hB).trans c7,(hb.cell hB).trans c8,(hb.cell hB).trans c9,(hb.cell hB).trans c10,hok,h1.below hb,h2.below hb,h3.below hb,h4.below hb⟩,hr.below hb⟩
theorem aZ.At.mono (h:B<=B'): ∀ {l:aZ} {ao:Option Addr} {k:Nat},l.At w B ao k->l.At w B' ao k
 | .nil,_,_,_=>trivial
 | .cons _ _ _ _,_,_,h'=>by obtain⟨⟨b,off,gU,gy,fT,eB,dB,cu,iD,gu,e,hB,c0,c1,c2,c3,c4,c5,c6,c7,c8,c9,c10,hok,h1,h2,h3,h4⟩,hr⟩:=h';exact⟨⟨b,off,gU,gy,fT,eB,dB,cu,iD,gu,e,aR hB h,c0,c1,c2,c3,c4,c5,c6,c7,c8,c9,c10,hok,h1.mono h,h2.mono h,h3.mono h,h4.mono h⟩,hr.mono h⟩
theorem aZ.At.same {l:aZ} {ao:Option Addr} {k:Nat} (h:l.At w w.heap.size ao k) (hb:Below w.heap.size w w'):l.At w' w'.heap.size ao k:=(h.below hb).mono hb.size
theorem iG.below (hb:Below B w w'): ∀ {l:List Th} {ao:Option Addr} {k:Nat},iG w B l ao k->iG w' B l ao k
 | [],_,_,_=>trivial
 |_::_,_,_,⟨⟨b,off,iU,eU,dB,cu,e,hB,c0,c1,c2,c3,hs,ht,hst⟩,hr⟩=>⟨⟨b,off,iU,eU,dB,cu,e,hB,(hb.cell hB).trans c0,(hb.cell hB).trans c1,(hb.cell hB).trans c2,(hb.cell hB).trans c3,hs,ht.below hb,hst.1.below hb,hst.2⟩,iG.below hb hr⟩
theorem iG.mono (h:B<=B'): ∀ {l:List Th} {ao:Option Addr} {k:Nat},iG w B l ao k->iG w B' l ao k
 | [],_,_,_=>trivial
 |_::_,_,_,⟨⟨b,off,iU,eU,dB,cu,e,hB,c0,c1,c2,c3,hs,ht,hst⟩,hr⟩=>⟨⟨b,off,iU,eU,dB,cu,e,aR hB h,c0,c1,c2,c3,hs,ht.mono h,hst.1.mono h,hst.2⟩,iG.mono h hr⟩
theorem iG.same {l:List Th} {ao:Option Addr} {k:Nat} (h:iG w w.heap.size l ao k) (hb:Below w.heap.size w w'):iG w' w'.heap.size l ao k:=(h.below hb).mono hb.size
theorem iG.drop: ∀ {l:List Th} {ao:Option Addr} {k:Nat} (i:Nat),iG w B l ao k->iG w B (l.drop i) ao (k+i)
 |_,_,_,0,h=>h
 | [],_,_,_+1,_=>by simp[iG]
 |_::_,_,k,i+1,⟨_,hr⟩=>by have:=iG.drop i hr;rw[List.drop_succ_cons];rwa [Nat.add_assoc,Nat.add_comm 1 i]at this
theorem iG.take: ∀ {pre R:List Th} {ao:Option Addr} {k:Nat},iG w B (pre++R) ao k->iG w B pre ao k
 | [],_,_,_,_=>trivial
 |_::_,_,_,_,h=>⟨h.1,iG.take h.2⟩
end
structure Pr where
 ds:List De
 ts:List Th
def Pr.At (w:World) (p:Pr) (aK aM:Option Addr):Prop:=p.ds.length<=maxLen∧p.ts.length<=maxLen∧jv w w.heap.size p.ds aK 0∧iG w w.heap.size p.ts aM 0
theorem Pr.At.same {w w':World} {p:Pr} {aK aM:Option Addr} (h:p.At w aK aM) (hb:Below w.heap.size w w'):p.At w' aK aM:=⟨h.1,h.2.1,h.2.2.1.same hb,h.2.2.2.same hb⟩
def gK (d:De):Int:=
 if d.kind==1 then(if d.size==0 then 2 else 3)else if d.kind==2 then 2 else if d.kind==3 then 4 else if d.kind==4 then 5 else if d.kind==5 then 6 else if d.kind==6 then 7 else 9
def qA (ds:List De) (nm:ByteArray):Option Int:=(ds.find? λd=>d.nm.toList==nm.toList).map gK
def tQ (ts:List Th) (nm:ByteArray):Int:=if ts.any λt=>t.nm.toList==nm.toList then 8 else 0
def qN (ts:List Th) (i:Int):List ByteArray:=if 0<=i then((ts[i.toNat]?).map (·.cZ)).getD []else []
def rO (l:List ByteArray) (nm:ByteArray):Bool:=l.any λs=>s.toList==nm.toList
def mean (p:Pr) (i:Int) (nm:ByteArray):Int:=if rO (qN p.ts i) nm then 1 else(qA p.ds nm).getD (tQ p.ts nm)
end Md
section
variable {w W1:World} {cs ds:Array Value} {t u:TypeId} {b:Nat} {f:Nat×Nat} {x y z p q s x' y' z' p' q':Value} {r:List Value}
theorem al1 (h:w.alloc (.cells cs t)=W1): ∃nb,w.heap.size=nb∧aj (w.heap.size=nb)∧aj (Below nb w W1)∧aj (W1.heap[nb]? =some (.cells cs t (0,0)))∧aj (W1.heap.size=nb+1):=by
 subst h;exact⟨_,rfl,ah rfl,ah (ak _ _),ah (heap_alloc_new _ _),ah agJ⟩
theorem qD (h:w.alloc (.cells cs t)=W1): ∃nb,w.heap.size=nb∧aj (Below w.heap.size w W1)∧aj (Below nb w W1)∧aj (W1.heap[nb]? =some (.cells cs t (0,0)))∧aj (W1.heap.size=nb+1):=by
 subst h;exact⟨_,rfl,ah (ak _ _),ah (ak _ _),ah (heap_alloc_new _ _),ah agJ⟩
theorem jV {o:Obj} (hb:Below w.heap.size w W1) (h:aj (w.heap[b]? =some o)):aj (W1.heap[b]? =some o):=ah ((hb.block _ (aO h.o)).trans h.o)
theorem al2 (h:(w.alloc (.cells cs t)).alloc (.cells ds u)=W1): ∃nb,w.heap.size=nb∧aj (w.heap.size=nb)∧aj (Below nb w W1)∧aj (W1.heap[nb]? =some (.cells cs t (0,0)))∧aj (W1.heap[nb+1]? =some (.cells ds u (0,0)))∧aj (W1.heap.size=nb+2):=by
 subst h;have h2:=heap_alloc_new (w.alloc (.cells cs t)) (.cells ds u);exact⟨_,rfl,ah rfl,ah ((ak _ _).alloc agJ _),ah (by rw[heap_alloc_old _ _ agJ];exact heap_alloc_new _ _),ah agQ,ah agJ⟩
theorem al3 (h:(w.alloc (.cells cs t)).alloc (.cells ds u)=W1): ∃nb,w.heap.size=nb∧aj (w.heap.size=nb)∧aj (Below w.heap.size w W1)∧aj (Below nb w W1)∧aj (W1.heap[nb]? =some (.cells cs t (0,0)))∧aj (W1.heap[nb+1]? =some (.cells ds u (0,0)))∧aj (W1.heap.size=nb+2):=by
 obtain⟨nb,h1,h2,h3,h4,h5,h6⟩:=al2 h;exact⟨nb,h1,h2,ah (by rw[h1];exact h3.o),h3,h4,h5,h6⟩
theorem YR {b:Nat} : ∀(vs:List Value) (o:Nat) (w:World),(w.setCells b o vs).heap.size=w.heap.size
 | [],_,_=>rfl
 |_::r,_,_=>by rw[World.setCells,YR r];simp[World.setCell]
theorem ax9 {wz:World} {vs:List Value} (h0:w.setCells b 0 vs=wz) (h:w.heap[b]? =some (.cells cs t (0,0))) (hl:vs.length=cs.size):aj (wz.heap[b]? =some (.cells vs.toArray t (0,0)))∧aj (w.grownBy wz (some b))∧aj (wz.heap.size=w.heap.size):=by
 subst h0;exact⟨ah (nC h hl),ah (eD _ _ _ _),ah (YR _ _ _)⟩
theorem fr7 (h:w.heap[b]? =some (.cells cs t (0,0))):w.frozen? ⟨b,0,none⟩=false∧w.frozen? ⟨b,1,none⟩=false∧w.frozen? ⟨b,2,none⟩=false∧w.frozen? ⟨b,3,none⟩=false∧w.frozen? ⟨b,4,none⟩=false∧w.frozen? ⟨b,5,none⟩=false∧w.frozen? ⟨b,6,none⟩=false:=
 ⟨bK h,bK h,bK h,bK h,bK h,bK h,bK h⟩
theorem rU (h:w.heap[b]? =some (.cells (x::y::r).toArray t f)):w.cell? ⟨b,0,none⟩=some x∧w.cell? ⟨b,1,none⟩=some y:=⟨aQ (j:=0) h rfl,aQ (j:=1) h rfl⟩
theorem I4 (h:w.heap[b]? =some (.cells (x::y::z::r).toArray t f)):w.cell? ⟨b,0,none⟩=some x∧w.cell? ⟨b,1,none⟩=some y∧w.cell? ⟨b,2,none⟩=some z:=⟨(rU h).1,(rU h).2,aQ (j:=2) h rfl⟩
theorem cl4 (h:w.heap[b]? =some (.cells (x::y::z::p::r).toArray t f)):w.cell? ⟨b,0,none⟩=some x∧w.cell? ⟨b,1,none⟩=some y∧w.cell? ⟨b,2,none⟩=some z∧w.cell? ⟨b,3,none⟩=some p:=⟨(I4 h).1,(I4 h).2.1,(I4 h).2.2,aQ (j:=3) h rfl⟩
theorem uj (h:w.heap[b]? =some (.cells (x::y::z::p::q::s::r).toArray t f)):w.cell? ⟨b,0,none⟩=some x∧w.cell? ⟨b,1,none⟩=some y∧w.cell? ⟨b,2,none⟩=some z∧w.cell? ⟨b,3,none⟩=some p∧w.cell? ⟨b,4,none⟩=some q∧w.cell? ⟨b,5,none⟩=some s:=⟨(I4 h).1,(I4 h).2.1,(I4 h).2.2,aQ (j:=3) h rfl,aQ (j:=4) h rfl,aQ (j:=5) h rfl⟩
theorem cl7 (h:w.heap[b]? =some (.cells (x::y::z::p::q::s::x'::r).toArray t f)):w.cell? ⟨b,0,none⟩=some x∧w.cell? ⟨b,1,none⟩=some y∧w.cell? ⟨b,2,none⟩=some z∧w.cell? ⟨b,3,none⟩=some p∧w.cell? ⟨b,4,none⟩=some q∧w.cell? ⟨b,5,none⟩=some s∧w.cell? ⟨b,6,none⟩=some x':=⟨(I4 h).1,(I4 h).2.1,(I4 h).2.2,aQ (j:=3) h rfl,aQ (j:=4) h rfl,aQ (j:=5) h rfl,aQ (j:=6) h rfl⟩
theorem lG {o:Nat} (h:b<w.heap.size) (hc:w.cell? ⟨b,o,none⟩=some x): ∀w',Below w.heap.size w w'->w'.cell? ⟨b,o,none⟩=some x:=λw' hb=>(hb.cell (p:=⟨b,o,none⟩) h).trans hc
theorem bl6 (h:b<w.heap.size) (h0:w.cell? ⟨b,0,none⟩=some x) (h1:w.cell? ⟨b,1,none⟩=some y) (h2:w.cell? ⟨b,2,none⟩=some z) (h3:w.cell? ⟨b,3,none⟩=some p) (h4:w.cell? ⟨b,4,none⟩=some q) (h5:w.cell? ⟨b,5,none⟩=some s):
 (∀w',Below w.heap.size w w'->w'.cell? ⟨b,0,none⟩=some x)∧(∀w',Below w.heap.size w w'->w'.cell? ⟨b,1,none⟩=some y)∧(∀w',Below w.heap.size w w'->w'.cell? ⟨b,2,none⟩=some z)∧(∀w',Below w.heap.size w w'->w'.cell? ⟨b,3,none⟩=some p)∧(∀w',Below w.heap.size w w'->w'.cell? ⟨b,4,none⟩=some q)∧(∀w',Below w.heap.size w w'->w'.cell? ⟨b,5,none⟩=some s):=
 ⟨lG h h0,lG h h1,lG h h2,lG h h3,lG h h4,lG h h5⟩
theorem MO (h:b<w.heap.size) (h0:w.cell? ⟨b,0,none⟩=some x) (h1:w.cell? ⟨b,1,none⟩=some y) (h2:w.cell? ⟨b,2,none⟩=some z) (h3:w.cell? ⟨b,3,none⟩=some p) (h4:w.cell? ⟨b,4,none⟩=some q) (h5:w.cell? ⟨b,5,none⟩=some s)
 (h6:w.cell? ⟨b,6,none⟩=some x') (h7:w.cell? ⟨b,7,none⟩=some y') (h8:w.cell? ⟨b,8,none⟩=some z') (h9:w.cell? ⟨b,9,none⟩=some p') (h10:w.cell? ⟨b,10,none⟩=some q'):
 (∀w',Below w.heap.size w w'->w'.cell? ⟨b,0,none⟩=some x)∧(∀w',Below w.heap.size w w'->w'.cell? ⟨b,1,none⟩=some y)∧(∀w',Below w.heap.size w w'->w'.cell? ⟨b,2,none⟩=some z)∧(∀w',Below w.heap.size w w'->w'.cell? ⟨b,3,none⟩=some p)∧(∀w',Below w.heap.size w w'->w'.cell? ⟨b,4,none⟩=some q)∧(∀w',Below w.heap.size w w'->w'.cell? ⟨b,5,none⟩=some s)∧
 (∀w',Below w.heap.size w w'->w'.cell? ⟨b,6,none⟩=some x')∧(∀w',Below w.heap.size w w'->w'.cell? ⟨b,7,none⟩=some y')∧(∀w',Below w.heap.size w w'->w'.cell? ⟨b,8,none⟩=some z')∧(∀w',Below w.heap.size w w'->w'.cell? ⟨b,9,none⟩=some p')∧(∀w',Below w.heap.size w w'->w'.cell? ⟨b,10,none⟩=some q'):=
 have h':=bl6 h h0 h1 h2 h3 h4 h5
 ⟨h'.1,h'.2.1,h'.2.2.1,h'.2.2.2.1,h'.2.2.2.2.1,h'.2.2.2.2.2,lG h h6,lG h h7,lG h h8,lG h h9,lG h h10⟩
end
namespace Md
def fN (op:Int):Bool:=(op==1||(decide (4<=op)&&decide (op<=6)))||(decide (9<=op)&&decide (op<=15))
def fA (op:Int):Bool:=op==15
def fI (op:Int):Bool:=op==1
def fX (op:Int):Bool:=(op==1||op==2)||(op==3||op==14)
def fB (op:Int):Bool:=decide (2<=op)&&decide (op<=8)
def fE (op:Int):Bool:=op==2
def fO (op:Int):Bool:=decide (1<=op)&&decide (op<=15)
def qV (op n:Int) (nm:ByteArray) (len:Nat):Bool:=((op==0&&n==0)&&nm.toList.isEmpty)&&len==0
def jw (d:De):Bool:=(((decide (1<=d.kind)&&decide (d.kind<=6))&&Tk.jf d.nm.data.toList)&&(decide (0<=d.size)&&(d.size==0||d.kind==1)))&&(((d.init != -9223372036854775808)&&(d.init==0||(d.kind==1||d.kind==2)))&&kZ d.on (d.kind==5))
def om (h:dF) (bl el:Nat):Bool:=
 ((fO h.op&&(kZ h.nm (fN h.op)&&kZ h.arg (fA h.op)))&&((decide (h.idx.len<=1)&&(!(h.idx.len==1)||fI h.op))&&mZ h.idx))&&
   ((if fX h.op then jW h.dP h.xn h.dO h.bJ else qV h.dP h.xn h.dO h.bJ.len)&&((fB h.op||bl==0)&&(fE h.op||el==0)))
def gQ:aZ->Bool
 | .nil=>true
 | .cons h b e r=>(om h b.len e.len&&(gQ b&&gQ e))&&gQ r
def Dh (h:dF) (b e:aZ):Bool:=om h b.len e.len&&(gQ b&&gQ e)
theorem BZ (h:dF) (b e r:aZ):gQ (.cons h b e r)=(Dh h b e&&gQ r):=rfl
def pO (t:Th):Bool:=(Tk.jf t.nm.data.toList&&t.cZ.all λs=>Tk.jf s.data.toList)&&gQ t.body
def rE (p:Pr):Bool:=(p.ds.all jw&&p.ts.all pO)&&decide ((0:Int)<p.ts.length)
theorem op1 {x:Int} (h:x=1):(x==1)=true∧(x==2)=false∧(x==3)=false∧(x==4)=false∧(x==5)=false∧(x==6)=false∧(x==7)=false∧(x==8)=false∧(x==9)=false∧(x==10)=false∧(x==11)=false∧(x==12)=false∧(x==13)=false∧(x==14)=false∧(x==15)=false:=agP
theorem op2 {x:Int} (h:x=2):(x==1)=false∧(x==2)=true∧(x==3)=false∧(x==4)=false∧(x==5)=false∧(x==6)=false∧(x==7)=false∧(x==8)=false∧(x==9)=false∧(x==10)=false∧(x==11)=false∧(x==12)=false∧(x==13)=false∧(x==14)=false∧(x==15)=false:=agP
theorem op3 {x:Int} (h:x=3):(x==1)=false∧(x==2)=false∧(x==3)=true∧(x==4)=false∧(x==5)=false∧(x==6)=false∧(x==7)=false∧(x==8)=false∧(x==9)=false∧(x==10)=false∧(x==11)=false∧(x==12)=false∧(x==13)=false∧(x==14)=false∧(x==15)=false:=agP
theorem op4 {x:Int} (h:x=4):(x==1)=false∧(x==2)=false∧(x==3)=false∧(x==4)=true∧(x==5)=false∧(x==6)=false∧(x==7)=false∧(x==8)=false∧(x==9)=false∧(x==10)=false∧(x==11)=false∧(x==12)=false∧(x==13)=false∧(x==14)=false∧(x==15)=false:=agP
theorem op5 {x:Int} (h:x=5):(x==1)=false∧(x==2)=false∧(x==3)=false∧(x==4)=false∧(x==5)=true∧(x==6)=false∧(x==7)=false∧(x==8)=false∧(x==9)=false∧(x==10)=false∧(x==11)=false∧(x==12)=false∧(x==13)=false∧(x==14)=false∧(x==15)=false:=agP
theorem op6 {x:Int} (h:x=6):(x==1)=false∧(x==2)=false∧(x==3)=false∧(x==4)=false∧(x==5)=false∧(x==6)=true∧(x==7)=false∧(x==8)=false∧(x==9)=false∧(x==10)=false∧(x==11)=false∧(x==12)=false∧(x==13)=false∧(x==14)=false∧(x==15)=false:=agP
theorem op7 {x:Int} (h:x=7):(x==1)=false∧(x==2)=false∧(x==3)=false∧(x==4)=false∧(x==5)=false∧(x==6)=false∧(x==7)=true∧(x==8)=false∧(x==9)=false∧(x==10)=false∧(x==11)=false∧(x==12)=false∧(x==13)=false∧(x==14)=false∧(x==15)=false:=agP
theorem op8 {x:Int} (h:x=8):(x==1)=false∧(x==2)=false∧(x==3)=false∧(x==4)=false∧(x==5)=false∧(x==6)=false∧(x==7)=false∧(x==8)=true∧(x==9)=false∧(x==10)=false∧(x==11)=false∧(x==12)=false∧(x==13)=false∧(x==14)=false∧(x==15)=false:=agP
theorem op9 {x:Int} (h:x=9):(x==1)=false∧(x==2)=false∧(x==3)=false∧(x==4)=false∧(x==5)=false∧(x==6)=false∧(x==7)=false∧(x==8)=false∧(x==9)=true∧(x==10)=false∧(x==11)=false∧(x==12)=false∧(x==13)=false∧(x==14)=false∧(x==15)=false:=agP
theorem af8 {x:Int} (h:x=10):(x==1)=false∧(x==2)=false∧(x==3)=false∧(x==4)=false∧(x==5)=false∧(x==6)=false∧(x==7)=false∧(x==8)=false∧(x==9)=false∧(x==10)=true∧(x==11)=false∧(x==12)=false∧(x==13)=false∧(x==14)=false∧(x==15)=false:=agP
theorem af9 {x:Int} (h:x=11):(x==1)=false∧(x==2)=false∧(x==3)=false∧(x==4)=false∧(x==5)=false∧(x==6)=false∧(x==7)=false∧(x==8)=false∧(x==9)=false∧(x==10)=false∧(x==11)=true∧(x==12)=false∧(x==13)=false∧(x==14)=false∧(x==15)=false:=agP
theorem ag0 {x:Int} (h:x=12):(x==1)=false∧(x==2)=false∧(x==3)=false∧(x==4)=false∧(x==5)=false∧(x==6)=false∧(x==7)=false∧(x==8)=false∧(x==9)=false∧(x==10)=false∧(x==11)=false∧(x==12)=true∧(x==13)=false∧(x==14)=false∧(x==15)=false:=agP
theorem ag1 {x:Int} (h:x=13):(x==1)=false∧(x==2)=false∧(x==3)=false∧(x==4)=false∧(x==5)=false∧(x==6)=false∧(x==7)=false∧(x==8)=false∧(x==9)=false∧(x==10)=false∧(x==11)=false∧(x==12)=false∧(x==13)=true∧(x==14)=false∧(x==15)=false:=agP
theorem ag2 {x:Int} (h:x=14):(x==1)=false∧(x==2)=false∧(x==3)=false∧(x==4)=false∧(x==5)=false∧(x==6)=false∧(x==7)=false∧(x==8)=false∧(x==9)=false∧(x==10)=false∧(x==11)=false∧(x==12)=false∧(x==13)=false∧(x==14)=true∧(x==15)=false:=agP
theorem ag3 {x:Int} (h:x=15):(x==1)=false∧(x==2)=false∧(x==3)=false∧(x==4)=false∧(x==5)=false∧(x==6)=false∧(x==7)=false∧(x==8)=false∧(x==9)=false∧(x==10)=false∧(x==11)=false∧(x==12)=false∧(x==13)=false∧(x==14)=false∧(x==15)=true:=agP
theorem kd1 {x:Int} (h:x=1):(x==1)=true∧(x==2)=false∧(x==3)=false∧(x==4)=false∧(x==5)=false∧(x==6)=false:=agP
theorem kd2 {x:Int} (h:x=2):(x==1)=false∧(x==2)=true∧(x==3)=false∧(x==4)=false∧(x==5)=false∧(x==6)=false:=agP
theorem kd3 {x:Int} (h:x=3):(x==1)=false∧(x==2)=false∧(x==3)=true∧(x==4)=false∧(x==5)=false∧(x==6)=false:=agP
theorem kd4 {x:Int} (h:x=4):(x==1)=false∧(x==2)=false∧(x==3)=false∧(x==4)=true∧(x==5)=false∧(x==6)=false:=agP
theorem kd5 {x:Int} (h:x=5):(x==1)=false∧(x==2)=false∧(x==3)=false∧(x==4)=false∧(x==5)=true∧(x==6)=false:=agP
theorem kd6 {x:Int} (h:x=6):(x==1)=false∧(x==2)=false∧(x==3)=false∧(x==4)=false∧(x==5)=false∧(x==6)=true:=agP
end Md
namespace Md
structure Sl where
 gU:Option Addr
 gy:Nat
 fT:Option Addr
 eB:Nat
 dB:Option Addr
 cu:Nat
 iD:Option Addr
 gu:Nat
def iE (h:dF) (b e:aZ) (s:Sl):Value:= .agg #[.int .i64 h.op,.int .i64 h.line,.string h.nm,.string h.arg,.slice s.gU h.idx.len s.gy,.int .i64 h.dP,.int .i64 h.xn,.string h.dO,.slice s.fT h.bJ.len s.eB,.slice s.dB b.len s.cu,.slice s.iD e.len s.gu]
def rM (n:Nat) (h:dF) (b e:aZ) (s:Sl) (fs:List (Nat×Nat×Value)):List (Nat×Nat×Value):=
 (n,0,.int .i64 h.op)::(n,1,.int .i64 h.line)::(n,2,.string h.nm)::(n,3,.string h.arg)::(n,4,.slice s.gU h.idx.len s.gy)::(n,5,.int .i64 h.dP)::(n,6,.int .i64 h.xn)::(n,7,.string h.dO)::(n,8,.slice s.fT h.bJ.len s.eB)::(n,9,.slice s.dB b.len s.cu)::(n,10,.slice s.iD e.len s.gu)::fs
def Eh (w:World) (h:dF) (b e:aZ) (s:Sl):Prop:=xg h b e∧h.idx.At w w.heap.size s.gU 0∧h.bJ.At w w.heap.size s.fT 0∧b.At w w.heap.size s.dB 0∧e.At w w.heap.size s.iD 0
theorem Eh.same {w w':World} {h:dF} {b e:aZ} {s:Sl} (hi:Eh w h b e s) (hb:Below w.heap.size w w'):Eh w' h b e s:=
 ⟨hi.1,hi.2.1.same hb,hi.2.2.1.same hb,hi.2.2.2.1.same hb,hi.2.2.2.2.same hb⟩
theorem aZ.At.head {w:World} {h:dF} {b e r:aZ} {ao:Option Addr} {k:Nat} (hat:(aZ.cons h b e r).At w w.heap.size ao k): ∃bl off s,ao=some ⟨bl,off,none⟩∧bl<w.heap.size∧Eh w h b e s∧
 w.cell? ⟨bl,off+k*11,none⟩=some (.int .i64 h.op)∧w.cell? ⟨bl,off+k*11+1,none⟩=some (.int .i64 h.line)∧w.cell? ⟨bl,off+k*11+2,none⟩=some (.string h.nm)∧w.cell? ⟨bl,off+k*11+3,none⟩=some (.string h.arg)∧w.cell? ⟨bl,off+k*11+4,none⟩=some (.slice s.gU h.idx.len s.gy)∧
 w.cell? ⟨bl,off+k*11+5,none⟩=some (.int .i64 h.dP)∧w.cell? ⟨bl,off+k*11+6,none⟩=some (.int .i64 h.xn)∧w.cell? ⟨bl,off+k*11+7,none⟩=some (.string h.dO)∧w.cell? ⟨bl,off+k*11+8,none⟩=some (.slice s.fT h.bJ.len s.eB)∧
 w.cell? ⟨bl,off+k*11+9,none⟩=some (.slice s.dB b.len s.cu)∧w.cell? ⟨bl,off+k*11+10,none⟩=some (.slice s.iD e.len s.gu)∧r.At w w.heap.size ao (k+1):=by
 obtain⟨⟨b,off,gU,gy,fT,eB,dB,cu,iD,gu,e,hB,c0,c1,c2,c3,c4,c5,c6,c7,c8,c9,c10,hok,h1,h2,h3,h4⟩,hr⟩:=hat;exact⟨b,off,⟨gU,gy,fT,eB,dB,cu,iD,gu⟩,e,hB,⟨hok,h1,h2,h3,h4⟩,c0,c1,c2,c3,c4,c5,c6,c7,c8,c9,c10,hr⟩
end Md
theorem Uh (n:Nat):decide ((n:Int)<=1)=decide (n<=1):=by rw[decide_eq_decide];omega
theorem Ug (n:Nat):decide ((n:Int)=1)=(n==1):=abG
theorem Jb (n:Nat):decide ((n:Int)<=0)=(n==0):=abG
namespace Md
theorem cell0 {w:World} {g k m:Nat} {u:Value} (h:w.cell? ⟨g,k*m+0,none⟩=some u):w.cell? ⟨g,0+k*m,none⟩=some u:=by rw[aU];exact h
theorem qz {w:World} {g k m j:Nat} {u:Value} (h:w.cell? ⟨g,k*m+j,none⟩=some u):w.cell? ⟨g,0+k*m+j,none⟩=some u:=by rw[aU];exact h
structure bQ where
 h:dF
 b:aZ
 e:aZ
 s:Sl
def bQ.f (x:bQ):List Value:=[.int .i64 x.h.op,.int .i64 x.h.line,.string x.h.nm,.string x.h.arg,.slice x.s.gU x.h.idx.len x.s.gy,.int .i64 x.h.dP,.int .i64 x.h.xn,.string x.h.dO,.slice x.s.fT x.h.bJ.len x.s.eB,.slice x.s.dB x.b.len x.s.cu,.slice x.s.iD x.e.len x.s.gu]
def bQ.I (x:bQ) (w:World):Prop:=x.h.idx.At w w.heap.size x.s.gU 0∧x.h.bJ.At w w.heap.size x.s.fT 0∧x.b.At w w.heap.size x.s.dB 0∧x.e.At w w.heap.size x.s.iD 0
def fM:List bQ->aZ
 | []=> .nil
 |x::r=> .cons x.h x.b x.e (fM r)
theorem qh: ∀l,(fM l).len=l.length
 | []=>rfl
 |_::r=>by show(fM r).len+1=_;rw[qh r];rfl
theorem II {w:World} {ao:Option Addr} : ∀(l:List bQ) (k:Nat),(∀x∈l,xg x.h x.b x.e∧x.I w)->(∀i x,l[i]? =some x->∃g,ao=some ⟨g,0,none⟩∧g<w.heap.size∧∀j u,x.f[j]? =some u->w.cell? ⟨g,(k+i)*11+j,none⟩=some u)->(fM l).At w w.heap.size ao k
 | [],_,_,_=>trivial
 |x::r,k,h1,h2=>by obtain⟨g,rfl,hg,hc⟩:=h2 0 x rfl;obtain⟨hok,i1,i2,i3,i4⟩:=h1 x agJ;refine⟨⟨g,0,x.s.gU,x.s.gy,x.s.fT,x.s.eB,x.s.dB,x.s.cu,x.s.iD,x.s.gu,rfl,hg,cell0 (hc 0 _ rfl),qz (hc 1 _ rfl),qz (hc 2 _ rfl),qz (hc 3 _ rfl),qz (hc 4 _ rfl),qz (hc 5 _ rfl),qz (hc 6 _ rfl),qz (hc 7 _ rfl),qz (hc 8 _ rfl),qz (hc 9 _ rfl),qz (hc 10 _ rfl),hok,i1,i2,i3,i4⟩,?_⟩;exact II r (k+1) (λy hy=>h1 y ahc) (λi y hy=>ξ)
theorem Am (x:bQ):(bQ.f x).length=11:=rfl
abbrev KQ (B:Nat) (w:World) (v:Value) (l:List bQ):Prop:=Grow bQ.f 11 bQ.I 74 B w v l
theorem KQ.says {B:Nat} {w:World} {v:Value} {l:List bQ} (h:KQ B w v l) (hok: ∀x∈l,xg x.h x.b x.e): ∃ao cap,v= .slice ao (fM l).len cap∧ig B w (λw2=>(fM l).At w2 w2.heap.size ao 0):=by
 obtain⟨ao,cap,e⟩:=h.len;refine⟨ao,cap,by rw[e,qh],λw2 h2=> ?_⟩;obtain⟨hI,mh,cap',e',-,hc⟩:=h.cells Am w2 h2;rw[e]at e';injection e' with e1 e2 e3;subst e1;exact II l 0 (λx hx=>⟨hok x hx,hI x hx⟩) (λi x hx=>aaj)
def qK (d:De):List Value:=[.int .i64 d.kind,.int .i64 d.line,.string d.nm,.int .i64 d.size,.int .i64 d.init,.string d.on]
theorem ap4 {w:World} {ao:Option Addr} : ∀(l:List De) (k:Nat),(∀x∈l,x.Ok)->(∀i x,l[i]? =some x->∃g,ao=some ⟨g,0,none⟩∧g<w.heap.size∧∀j u,(qK x)[j]? =some u->w.cell? ⟨g,(k+i)*6+j,none⟩=some u)->jv w w.heap.size l ao k
 | [],_,_,_=>trivial
 |x::r,k,h1,h2=>by obtain⟨g,rfl,hg,hc⟩:=h2 0 x rfl;refine⟨⟨g,0,rfl,hg,cell0 (hc 0 _ rfl),qz (hc 1 _ rfl),qz (hc 2 _ rfl),qz (hc 3 _ rfl),qz (hc 4 _ rfl),qz (hc 5 _ rfl),h1 x agJ⟩,?_⟩;exact ap4 r (k+1) (λy hy=>h1 y ahc) (λi y hy=>ξ)
theorem MS (x:De):(qK x).length=6:=rfl
abbrev Fe (B:Nat) (w:World) (v:Value) (l:List De):Prop:=Grow qK 6 (λ_ _=>True) 55 B w v l
theorem Fe.says {B:Nat} {w:World} {v:Value} {l:List De} (h:Fe B w v l) (hok: ∀x∈l,x.Ok): ∃ao cap,v= .slice ao l.length cap∧l.length<=cap∧ig B w (λw2=>jv w2 w2.heap.size l ao 0):=by
 obtain⟨-,ao,cap,e,hl,-⟩:=h.cells MS w (kC.refl _ _);refine⟨ao,cap,e,hl,λw2 h2=> ?_⟩;obtain⟨-,mh,cap',e',-,hc⟩:=h.cells MS w2 h2;rw[e]at e';injection e' with e1 e2 e3;subst e1;exact ap4 l 0 hok (λi x hx=>aaj)
def sD (s:ByteArray):List Value:=[.string s]
theorem P8 {w:World} {ao:Option Addr} : ∀(l:List ByteArray) (k:Nat),(∀x∈l,x.size<=maxLen)->(∀i x,l[i]? =some x->∃g,ao=some ⟨g,0,none⟩∧g<w.heap.size∧∀j u,(sD x)[j]? =some u->w.cell? ⟨g,(k+i)*1+j,none⟩=some u)->fP w w.heap.size l ao k
 | [],_,_,_=>trivial
 |x::r,k,h1,h2=>by obtain⟨g,rfl,hg,hc⟩:=h2 0 x rfl;refine⟨⟨g,0,rfl,hg,by have:=cell0 (hc 0 _ rfl);simpa using this,h1 x agJ⟩,?_⟩;exact P8 r (k+1) (λy hy=>h1 y ahc) (λi y hy=>ξ)
theorem Ap (x:ByteArray):(sD x).length=1:=rfl
abbrev jU (B:Nat) (w:World) (v:Value) (l:List ByteArray):Prop:=Grow sD 1 (λ_ _=>True) 9 B w v l
theorem jU.says {B:Nat} {w:World} {v:Value} {l:List ByteArray} (h:jU B w v l) (hok: ∀x∈l,x.size<=maxLen): ∃ao cap,v= .slice ao l.length cap∧l.length<=cap∧ig B w (λw2=>fP w2 w2.heap.size l ao 0):=by
 obtain⟨-,ao,cap,e,hl,-⟩:=h.cells Ap w (kC.refl _ _);refine⟨ao,cap,e,hl,λw2 h2=> ?_⟩;obtain⟨-,mh,cap',e',-,hc⟩:=h.cells Ap w2 h2;rw[e]at e';injection e' with e1 e2 e3;subst e1;exact P8 l 0 hok (λi x hx=>aaj)
structure fD where
 t:Th
 iU:Option Addr
 eU:Nat
 dB:Option Addr
 cu:Nat
def fD.f (x:fD):List Value:=[.string x.t.nm,.int .i64 x.t.line,.slice x.iU x.t.cZ.length x.eU,.slice x.dB x.t.body.len x.cu]
def fD.I (x:fD) (w:World):Prop:=fP w w.heap.size x.t.cZ x.iU 0∧x.t.body.At w w.heap.size x.dB 0
theorem P7 {w:World} {ao:Option Addr} : ∀(l:List fD) (k:Nat),(∀x∈l,(x.t.Ok∧x.t.cZ.length<=x.eU)∧x.I w)->(∀i x,l[i]? =some x->∃g,ao=some ⟨g,0,none⟩∧g<w.heap.size∧∀j u,x.f[j]? =some u->w.cell? ⟨g,(k+i)*4+j,none⟩=some u)->iG w w.heap.size (l.map (·.t)) ao k
 | [],_,_,_=>trivial
 |x::r,k,h1,h2=>by obtain⟨g,rfl,hg,hc⟩:=h2 0 x rfl;obtain⟨⟨hok,hcl⟩,i1,i2⟩:=h1 x agJ;refine⟨⟨g,0,x.iU,x.eU,x.dB,x.cu,rfl,hg,cell0 (hc 0 _ rfl),qz (hc 1 _ rfl),qz (hc 2 _ rfl),qz (hc 3 _ rfl),hok,i1,i2,hcl⟩,?_⟩;exact P7 r (k+1) (λy hy=>h1 y ahc) (λi y hy=>ξ)
theorem Ao (x:fD):(fD.f x).length=4:=rfl
abbrev Es (B:Nat) (w:World) (v:Value) (l:List fD):Prop:=Grow fD.f 4 fD.I 59 B w v l
theorem Es.says {B:Nat} {w:World} {v:Value} {l:List fD} (h:Es B w v l) (hok: ∀x∈l,x.t.Ok∧x.t.cZ.length<=x.eU): ∃ao cap,v= .slice ao (l.map (·.t)).length cap∧l.length<=cap∧ig B w (λw2=>iG w2 w2.heap.size (l.map (·.t)) ao 0):=by
 obtain⟨-,ao,cap,e,hl,-⟩:=h.cells Ao w (kC.refl _ _);refine⟨ao,cap,by rw[e,gH],hl,λw2 h2=> ?_⟩;obtain⟨hI,mh,cap',e',-,hc⟩:=h.cells Ao w2 h2;rw[e]at e';injection e' with e1 e2 e3;subst e1;exact P7 l 0 (λx hx=>⟨hok x hx,hI x hx⟩) (λi x hx=>aaj)
end Md
abbrev RG (G:Type):=Value->G->World->Prop
section
variable {G:Type}
def uL (ents:List (Option Tmp×RG G)) (A:Act) (g:G) (w:World):List Edge->Prop
 | []=>True
 |e::r=>(if Region.binds .any e=true then(match ents[e.on]? with|some (d,R)=>R (iY A d) g w|none=>True)else True)∧uL ents A g w r
def CV (ents:List (Option Tmp×RG G)) (A:Act) (o:Oper):Bool:=
 match o.guard with
 |none=>true
 |some (g,b)=>match ents[g]? with
  |some (some d,_)=>match A.eval (.tmp d)with
   | .bool x=>x==b
   |_=>false
  |_=>false
def oW (C:G->World->Prop) (Le:G->World->G->World->Prop) (R:RG G) (A:Act) (dst:Option Tmp) (g:G) (w:World) (a':Act) (w':World):Prop:=
 ∃v g',a'=A.put dst v∧Le g w g' w'∧C g' w'∧R (if dst.isSome then v else undef) g' w'
theorem oW.mk {C:G->World->Prop} {Le:G->World->G->World->Prop} {R:RG G} {A:Act} {d:Tmp} {g g':G} {w w':World} {v:Value} (hle:Le g w g' w') (hC:C g' w') (hR:R v g' w'):oW C Le R A (some d) g w (A.put (some d) v) w':=⟨v,g',rfl,hle,hC,hR⟩
theorem oW.DY {C:G->World->Prop} {Le:G->World->G->World->Prop} {R:RG G} {A:Act} {g g':G} {w w':World} {v:Value} (hle:Le g w g' w') (hC:C g' w') (hR:R undef g' w'):oW C Le R A none g w (A.put none v) w':=⟨v,g',rfl,hle,hC,hR⟩
def AZ (D:Nat->Bool) (i:Nat):Nat->Bool:=λk=>D k||k==i
def Qg (P:Program) (a0:Act) (Q:Exit->Act->World->Prop) (C:(Nat->Bool)->G->World->Prop) (Le:G->World->G->World->Prop) (fF:List Tmp) (ents:List (Option Tmp×RG G)) (o:Oper) (R:RG G) (i:Nat):Prop:=
 ∀D A g w,D i=false->C D g w->(∀s,fF.contains s=false->A.eval (.tmp s)=a0.eval (.tmp s))->uL ents A g w o.after.toList->
  if CV ents A o then o.wp P A w (oW (C (AZ D i)) Le R A o.dst g w) Q else(C (AZ D i) g w∧R undef g w)
def vg (c:Value):RG G:=λv _ _=>v=c
theorem vg.mk (c:Value) (g:G) (w:World):vg c c g w:=rfl
def Qr (g:G) (ents:List (Option Tmp×RG G)):List (Option Tmp×RP):=ents.map λx=>(x.1,λv w=>x.2 v g w)
def ug (P:Program) (a0:Act) (Q:Exit->Act->World->Prop) (C:(Nat->Bool)->G->World->Prop) (Le:G->World->G->World->Prop) (fF:List Tmp):List Oper->List (Option Tmp×RG G)->Prop
 | [],ents=> ∀D g w,(∀i,i<ents.length->D i=true)->C D g w->eO w (λa=>Q .normal a w) (Qr g ents) a0
 |o::rest,ents=> ∃R:RG G,(∀v g w g' w',Le g w g' w'->R v g w->R v g' w')∧Qg P a0 Q C Le fF ents o R ents.length∧ug P a0 Q C Le fF rest (ents++[(o.dst,R)])
variable {P:Program} {a0:Act} {Q:Exit->Act->World->Prop} {C:(Nat->Bool)->G->World->Prop} {Le:G->World->G->World->Prop} {fF:List Tmp}
theorem ug.full: ∀ {l:List Oper} {ents:List (Option Tmp×RG G)},ug P a0 Q C Le fF l ents->∃full:List (Option Tmp×RG G),full.length=ents.length+l.length∧full.take ents.length=ents∧
 (∀(i:Nat) (o:Oper),l[i]? =some o->∃R,full[ents.length+i]? =some (o.dst,R)∧(∀v g w g' w',Le g w g' w'->R v g w->R v g' w')∧Qg P a0 Q C Le fF (full.take (ents.length+i)) o R (ents.length+i))∧
 ∀D g w,(∀i,i<full.length->D i=true)->C D g w->eO w (λa=>Q .normal a w) (Qr g full) a0
 | [],ents,h=>⟨ents,agJ,agJ,agJ,h⟩
 |o::rest,ents,h=>by
  obtain⟨R,hm,ho,hr⟩:=h;obtain⟨full,h1,h2,h3,h4⟩:=ug.full hr;simp only[aA,aD,aW,aU]at h1 h2 h3;have hlen:ents.length<full.length:=agH
  have hget:full[ents.length]? =some (o.dst,R):=aaX
  refine⟨full,agK,?_,?_,h4⟩
  ·have:=congrArg (List.take ents.length) h2;simpa[List.take_take]using this
  ·exact Aal
theorem ug.step {o:Oper} {rest:List Oper} {ents:List (Option Tmp×RG G)} {v:Value} (bL:Qg P a0 Q C Le fF ents o (vg v) ents.length) (hrest:ug P a0 Q C Le fF rest (ents++[(o.dst,vg v)])):ug P a0 Q C Le fF (o::rest) ents:=
 ⟨vg v,λ_ _ _ _ _ _ h=>h,bL,hrest⟩
theorem ug.some {o:Oper} {rest:List Oper} {ents:List (Option Tmp×RG G)} (R:RG G) (hmono: ∀v g w g' w',Le g w g' w'->R v g w->R v g' w') (bL:Qg P a0 Q C Le fF ents o R ents.length) (hrest:ug P a0 Q C Le fF rest (ents++[(o.dst,R)])):ug P a0 Q C Le fF (o::rest) ents:=
 ⟨R,hmono,bL,hrest⟩
theorem ug.done {ents:List (Option Tmp×RG G)} (h: ∀D g w,(∀i,i<ents.length->D i=true)->C D g w->eO w (λa=>Q .normal a w) (Qr g ents) a0):ug P a0 Q C Le fF [] ents:=h
theorem QC {full:List (Option Tmp×RG G)} {A:Act} {g:G} {w:World} {i:Nat} : ∀ {l:List Edge},(∀e∈l,Region.binds .any e=true->∀(d:Option Tmp) (R:RG G),full[e.on]? =some (d,R)->R (iY A d) g w)->uL (full.take i) A g w l
 | [],_=>trivial
 |e::r,h=>by
  refine⟨?_,QC λe' he'=>h e' (by simp[he'])⟩;split
  case isFalse=>trivial
  case isTrue hb=>
  cases hg:(full.take i)[e.on]? with
  |none=>trivial
  |some x=>
   obtain⟨d,R⟩:=x;rw[List.getElem?_take]at hg;split at hg
   ·exact h e agJ hb d R hg
   ·cases hg
def Ls (listed:Array Bool):Nat->Bool:=λi=>listed.getD i false
theorem av2 {listed:Array Bool} {i:Nat} (hi:i<listed.size):Ls (listed.setIfInBounds i true)=AZ (Ls listed) i:=by
 funext k;unfold Ls AZ;by_cases hk:i=k
 ·subst hk;simp[hi]
 ·rw[getD_set_ne false hk];have:(k==i)=false:=by rw[beq_eq_false_iff_ne];exact λe=>hk e.symm
  rw[this,Bool.or_false]
def an8 (a0:Act) (C:(Nat->Bool)->G->World->Prop) (full:List (Option Tmp×RG G)) (n:Nat) (listed:Array Bool) (a:Act) (g:G) (w:World):Prop:=
 listed.size=n∧C (Ls listed) g w∧a.defers=a0.defers∧a.tmps.size=a0.tmps.size∧
 (∀s:Nat,(∀(i:Nat) (d:Tmp) (R:RG G),full[i]? =some (some d,R)->listed.getD i false=true->d≠s)->a.tmps[s]? =a0.tmps[s]?)∧
 ∀(i:Nat) (d:Option Tmp) (R:RG G),full[i]? =some (d,R)->listed.getD i false=true->R (iY a d) g w
theorem az6 {ops:Array Oper} {full:List (Option Tmp×RG G)} {o:Oper} {A:Act} {i:Nat} (hf: ∀(k:Nat) (ok:Oper),ops[k]? =some ok->∃R,full[k]? =some (ok.dst,R)) (hlen:full.length=ops.size)
 (hg: ∀g b,o.guard=some (g,b)->g<i):Region.wanted o (yielded ops A.tmps)=CV (full.take i) A o:=by
 unfold Region.wanted CV;cases ho:o.guard with
 |none=>rfl
 |some x=>
  exact Aak
theorem Za {l:List Oper} {full:List (Option Tmp×RG G)} (F4: ∀g w,Le g w g w) (hbd: ∀d∈fF,d<a0.tmps.size) (hlen:full.length=l.length) (hnd:(l.filterMap (·.dst)).Nodup) (uN:l.filterMap (·.dst)=fF)
 (hed: ∀(i:Nat) (o:Oper),l[i]? =some o->∀d∈oM o,d<i) (hgu: ∀(i:Nat) (o:Oper),l[i]? =some o->∀g b,o.guard=some (g,b)->g<i)
 (hf: ∀(i:Nat) (o:Oper),l[i]? =some o->∃R,full[i]? =some (o.dst,R)∧(∀v g w g' w',Le g w g' w'->R v g w->R v g' w')∧Qg P a0 Q C Le fF (full.take i) o R i)
 (hend: ∀D g w,(∀i,i<full.length->D i=true)->C D g w->eO w (λa=>Q .normal a w) (Qr g full) a0):
 ∀(fuel:Nat) (listed:Array Bool) (a:Act) (g:G) (w:World),cnt listed l.length<=fuel->an8 a0 C full l.length listed a g w->wpAny P .any l.toArray Q fuel listed a w:=by
 have hmono: ∀(i:Nat) (d:Option Tmp) (R:RG G),full[i]? =some (d,R)->∀v g w g' w',Le g w g' w'->R v g w->R v g' w':=λi d R hi=>by
  have hlt:i<l.length:=aaM
  obtain⟨R',h1,h2,-⟩:=hf i l[i] (bC hlt);rw[hi]at h1;simp only[Option.some.injEq,Prod.mk.injEq]at h1;rw[h1.2];exact h2
 have hdst: ∀(i:Nat) (d:Option Tmp) (R:RG G),full[i]? =some (d,R)->∃o,l[i]? =some o∧o.dst=d:=λi d R hi=>by
  have hlt:i<l.length:=aaM
  obtain⟨R',h1,-⟩:=hf i l[i] (bC hlt);rw[hi]at h1;simp only[Option.some.injEq,Prod.mk.injEq]at h1;exact⟨l[i],bC hlt,h1.1.symm⟩
 have hall: ∀listed a g w,an8 a0 C full l.length listed a g w->(∀i,i<l.length->listed.getD i false=true)->Q .normal a w:=λlisted a g w hI ha=>by
  obtain⟨hsz0,hC,hd,hz,hs,hR⟩:=hI;refine(hend (Ls listed) g w (λi hi=>ha i (by rw[<- hlen];exact hi)) hC).use (a':=a) (λi d R hi=> ?_) hd hz (λs hne=>hs s (λi d R hi _=>hne i d (λv w=>R v g w) (by unfold Qr;rw[List.getElem?_map,hi];rfl)));unfold Qr at hi;rw[List.getElem?_map]at hi;cases hq:full[i]? with
  |none=>rw[hq]at hi;cases hi
  |some x=>obtain⟨d',R'⟩:=x;rw[hq]at hi;simp only[Option.map_some,Option.some.injEq,Prod.mk.injEq]at hi;obtain⟨rfl,rfl⟩:=hi;refine hR i d' R' hq (ha i ?_);rw[<- hlen];exact(List.getElem?_eq_some_iff.1 hq).1
 have Ip: ∀listed:Array Bool,listed.size=l.length->Region.ready .any l.toArray listed=[]->∀i,i<l.length->listed.getD i false=true:=λlisted hsz hr i=>by
  induction i using Nat.strongRecOn with
  |_ i ih=>
   intro hi;cases hg:listed.getD i false with
   |true=>rfl
   |false=>exfalso;have:i∈Region.ready .any l.toArray listed:=mem_ready.2 ⟨aaV,l[i],by simp[hi],λe he hb=>ih e.on (hed i l[i] (bC hi) e.on (AU he hb)) abT⟩;rw[hr]at this;cases this
 intro fuel
 induction fuel with
 |zero=>
  intro listed a g w hc hI;have ha:=FB (Nat.le_zero.1 hc);refine⟨?_,hall listed a g w hI ha⟩;rw[List.eq_nil_iff_forall_not_mem];intro i hi;obtain⟨h0,o,ho,-⟩:=mem_ready.1 hi;have hlt:i<l.length:=afw
  have:=ha i hlt;have h1:i<listed.size:=afG
  simp[h1]at h0 this;rw[h0]at this;cases this
 |succ fuel ih=>
  intro listed a g w hc hI;refine⟨λhr=>hall listed a g w hI (Ip listed hI.1 hr),λi hi=> ?_⟩;obtain⟨h0,o,ho,El⟩:=mem_ready.1 hi;have hlt:i<l.length:=afw
  have hlo:l[i]? =some o:=by simpa using ho
  have hls:i<listed.size:=afG
  have hun:listed.getD i false=false:=agb
  obtain⟨R,JK,hRm,XY⟩:=hf i o hlo;obtain⟨hsz,hC,hd,hz,hs,hR⟩:=hI;have hW:=az6 (A:=a) (o:=o) (i:=i) (ops:=l.toArray) (full:=full) (λk ok hk=>abk) aeQ (hgu i o hlo);have hstep:=XY (Ls listed) a g w hun hC (λs hs'=>Δ) (QC (λe he hb d R' hR'=>hR e.on d R' hR' (El e ahd hb)));have hnext: ∀(v:Value) (g':G) (w':World),Le g w g' w'->C (AZ (Ls listed) i) g' w'->R (iY (a.put o.dst v) o.dst) g' w'->wpAny P .any l.toArray Q fuel (listed.setIfInBounds i true) (a.put o.dst v) w':=λv g' w' hle hC' hv=>by
   refine ih _ _ g' _ ?_ ⟨by simp[hsz],by rw[av2 hls];exact hC',?_,?_,?_,?_⟩
   ·have:=J7 hls hun l.length;rw[if_pos hlt]at this;omega
   ·cases o.dst <;> simpa[Act.put]using hd
   ·cases o.dst <;> simpa[Act.put]using hz
   ·intro s hne;have h1:a.tmps[s]? =a0.tmps[s]?:=hs s (λk d R' hk hl=>hne k d R' hk (getD_set_true hl));cases hod:o.dst with
    |none=>simpa[Act.put]using h1
    |some d=>have hds:d≠s:=hne i d R ahL (by simp[hls]);simp only[Act.put];rw[Array.getElem?_setIfInBounds_ne hds];exact h1
   ·intro k d R' hk hl;by_cases hik:i=k
    ·subst hik;rw[JK]at hk;simp only[Option.some.injEq,Prod.mk.injEq]at hk;obtain⟨rfl,rfl⟩:=hk;exact hv
    ·have hl':listed.getD k false=true:=ade;have h1:=hmono k d R' hk _ _ _ _ _ hle (hR k d R' hk hl');have:iY (a.put o.dst v) d=iY a d:=by
      cases hod:o.dst with
      |none=>rfl
      |some d1=>
       cases d with
       |none=>rfl
       |some d2=>
        have hne:d1≠d2:=λe=>aag
        simp[iY,Act.eval,Act.put,Array.getElem?_setIfInBounds_ne hne]
     rw[this];exact h1
  unfold wpOp;simp only[ho];rw[hW];cases hgd:CV (full.take i) a o with
  |true=>
   rw[hgd]at hstep;simp only[if_true]at hstep⊢;refine Or.inl (Oper.wp_mono ?_ hstep);rintro a' w' ⟨v,g',rfl,hle,hC',hv⟩;refine hnext v g' w' hle hC' ?_;cases hod:o.dst with
   |none=>rw[hod]at hv;exact hv
   |some d=>rw[hod]at hv;simp only[Option.isSome_some,if_true]at hv;have hdl:d<a.tmps.size:=υ;simpa[iY,Act.eval,Act.put,hdl]using hv
  |false=>
   rw[hgd]at hstep;simp only[Bool.false_eq_true,if_false]at hstep⊢;refine hnext undef g w (F4 g w) hstep.1 ?_;cases hod:o.dst with
   |none=>exact hstep.2
   |some d=>have hdl:d<a.tmps.size:=υ;simpa[iY,Act.eval,Act.put,hdl]using hstep.2
theorem Mr {id:Nat} {l:List Oper} {w:World} (C:(Nat->Bool)->G->World->Prop) (Le:G->World->G->World->Prop) (fF:List Tmp) (g0:G) (hm:P.follows .mixedOrders=true) (hB:(l.filterMap (·.dst)==fF&&J9 l)=true) (F4: ∀g w,Le g w g w) (hbd:(fF.all λd=>decide (d<a0.tmps.size))=true) (hC:C (λ_=>false) g0 (w.drewN 1))
 (h:ug P a0 Q C Le fF l []):(Code.region id l.toArray true).wp P Q a0 w:=by
 unfold J9 at hB;simp only[aP,beq_iff_eq,decide_eq_true_eq]at hB;obtain⟨uN,hnd,hz⟩:=hB;obtain⟨full,h1,-,h3,h4⟩:=h.full;simp only[aW,aU]at h1 h3;have hed: ∀(i:Nat) (o:Oper),l[i]? =some o->(∀d∈oM o,d<i)∧∀g b,o.guard=some (g,b)->g<i:=λi o hi=>aac
 refine wp_region_any hm ?_;have hdr:({w with drawn:=w.drawn+1} :World)=w.drewN 1:=rfl;rw[hdr];have hD:Ls (Array.replicate l.toArray.size false)=λ_=>false:=by funext k;unfold Ls;rw[Array.getD_eq_getD_getElem?];by_cases hk:k<l.length <;> simp[hk]
 refine Za F4 (λd hd=>abe) h1 hnd uN (λi o hi=>(hed i o hi).1) (λi o hi=>(hed i o hi).2) h3 h4 _ _ _ g0 _ ?_ ⟨agJ,by rw[hD];exact hC,rfl,rfl,λ_ _=>rfl,λi d R _ hl=> ?_⟩
 ·have: ∀n,cnt (Array.replicate l.toArray.size false) n<=n:=λn=>by
   induction n with
   |zero=>simp[cnt]
   |succ n ih=>simp only[cnt];split <;> omega
  simpa using this l.length
 ·exfalso;rw[Array.getD_eq_getD_getElem?]at hl;by_cases hi:i<l.length
  ·simp[hi]at hl
  ·rw[Array.getElem?_eq_none ahi]at hl;cases hl
end
theorem xO {w:World} {K:Act->Prop} {a:Act} (h:K a):eO w K [] a:=h
structure Ag where
 o:Option Nat
 h:Bool
 p:Option (Nat×Nat)
def Ag.le (n0:Nat) (g:Ag) (w:World) (g':Ag) (w':World):Prop:=(∀b,g.o=some b->g'.o=some b)∧(g.h=true->g'.h=true)∧(∀q,g.p=some q->g'.p=some q)∧w.heap.size<=w'.heap.size∧∀k,n0<=k->k<w.heap.size->w'.heap[k]? =w.heap[k]?
theorem Ag.le_refl (n0:Nat) (g:Ag) (w:World):Ag.le n0 g w g w:=⟨λ_ h=>h,λh=>h,λ_ h=>h,aB _,λ_ _ _=>rfl⟩
theorem vK {D:Nat->Bool} {i k:Nat} (h:AZ D i k=false):D k=false:=by
 unfold AZ at h;rw[Bool.or_eq_false_iff]at h;exact h.1
theorem LC {D:Nat->Bool} {i:Nat} (h:AZ D i i=false):False:=by
 unfold AZ at h;simp at h
theorem QG {D:Nat->Bool} {i k:Nat} (hn:k≠i) (h:AZ D i k=true):D k=true:=by
 unfold AZ at h;rw[Bool.or_eq_true]at h;rcases h with h|h
 ·exact h
 ·exact absurd ahT hn
structure xw (wr:World) (i8 yG i11 rY:Nat) (Row:Nat×Nat->World->Prop) (yC:Addr) (vv:Nat×Nat->Value) (cs:Array Value) (ty:TypeId) (D:Nat->Bool) (g:Ag) (w:World):Prop where
 d8:D i8=false->g.h=false
 sN:D yG=false->g.o=none
 vF:D i11=false->g.p=none
 op:g.o=none->g.p=none
 oh:g.h=false->g.p=none
 xE:g.p=none->D rY=false
 pre:g.p=none->Below wr.heap.size wr w
 row: ∀b,g.o=some b->wr.heap.size<=b∧w.heap[b]? =some (.cells cs ty (0,0))
 post: ∀q,g.p=some q->D rY=false->Row q w
 fin: ∀q,g.p=some q->D rY=true->∃w5,Row q w5∧w=w5.setCell yC (vv q)
section
variable {wr w w':World} {i8 yG i11 rY:Nat} {Row:Nat×Nat->World->Prop} {yC:Addr} {vv:Nat×Nat->Value} {cs:Array Value} {ty:TypeId} {D:Nat->Bool} {g:Ag}
theorem xw.start:xw wr i8 yG i11 rY Row yC vv cs ty (λ_=>false) ⟨none,false,none⟩ (wr.drewN 1):=
 ⟨λ_=>rfl,λ_=>rfl,λ_=>rfl,λ_=>rfl,λ_=>rfl,λ_=>rfl,λ_=>below_drewN (au _ _) 1,(λ_ h=>ahh),(λ_ h=>ahh),(λ_ h=>ahh)⟩
theorem xw.skip (h:xw wr i8 yG i11 rY Row yC vv cs ty D g w) (i:Nat) (uM:rY≠i):xw wr i8 yG i11 rY Row yC vv cs ty (AZ D i) g w:=
 ⟨λe=>h.d8 (vK e),λe=>h.sN (vK e),λe=>h.vF (vK e),h.op,h.oh,λe=>(by
  cases hq:AZ D i rY
  ·rfl
  ·have:=QG uM hq;rw[h.xE e]at this;cases this),h.pre,h.row,λq hq e=>h.post q hq (vK e),λq hq e=>h.fin q hq (QG uM e)⟩
theorem xw.bz0 (h:xw wr i8 yG i11 rY Row yC vv cs ty D g w) (hD:D yG=false) (uM:rY≠yG):Ag.le wr.heap.size g w {g with o:=some w.heap.size} (w.alloc (.cells cs ty))∧xw wr i8 yG i11 rY Row yC vv cs ty (AZ D yG) {g with o:=some w.heap.size} (w.alloc (.cells cs ty)):=by
 have h0:=h.sN hD;have hp:=h.op h0;refine⟨⟨λb e=>(by rw[h0]at e;cases e),λe=>e,λq e=>e,(ak _ _).size,λk _ hk=>(ak _ _).block k hk⟩,λe=>h.d8 (vK e),λe=>(LC e).elim,λe=>h.vF (vK e),λe=>agY,h.oh,λe=>(h.skip yG uM).xE e,λe=>(h.pre e).trans ((ak _ _).mono (h.pre e).size),λb e=> ?_,λq e=> ?_,λq e=> ?_⟩
 ·injection e with e;subst e;exact⟨(h.pre hp).size,heap_alloc_new _ _⟩
 ·rw[show g.p=some q from e]at hp;cases hp
 ·rw[show g.p=some q from e]at hp;cases hp
theorem xw.bz1 {q:Nat×Nat} (h:xw wr i8 yG i11 rY Row yC vv cs ty D g w) (hD:D i11=false) (uM:rY≠i11) {b:Nat} (hb:g.o=some b) (hh:g.h=true) (hr:Row q w') (hs:w.heap.size<=w'.heap.size) (hk: ∀k,wr.heap.size<=k->k<w.heap.size->w'.heap[k]? =w.heap[k]?):Ag.le wr.heap.size g w {g with p:=some q} w'∧xw wr i8 yG i11 rY Row yC vv cs ty (AZ D i11) {g with p:=some q} w':=by
 have h0:=h.vF hD;refine⟨⟨λb e=>e,λe=>e,λq' e=>(by rw[h0]at e;cases e),hs,hk⟩,λe=>h.d8 (vK e),λe=>h.sN (vK e),λe=>(LC e).elim,λe=> ?_,λe=> ?_,λe=>agY,λe=>agY,λb' e=> ?_,λq' e _=>(by injection e with e;subst e;exact hr),λq' e e2=> ?_⟩
 ·rw[show g.o=none from e]at hb;cases hb
 ·rw[show g.h=false from e]at hh;cases hh
 ·obtain⟨h1,h2⟩:=h.row b' e;exact⟨h1,(hk b' h1 (aO h2)).trans h2⟩
 ·have:=QG uM e2;rw[h.xE h0]at this;cases this
theorem xw.bz2 {q:Nat×Nat} (h:xw wr i8 yG i11 rY Row yC vv cs ty D g w) (hD:D rY=false) (hq:g.p=some q) (ha:yC.block<wr.heap.size) (h1:yG≠rY) (h2:i11≠rY):Ag.le wr.heap.size g w g (w.setCell yC (vv q))∧xw wr i8 yG i11 rY Row yC vv cs ty (AZ D rY) g (w.setCell yC (vv q)):=by
 refine⟨⟨λb e=>e,λe=>e,λq e=>e,aeU,λk hk _=>bg _ _ _ rfl agH⟩,λe=>h.d8 (vK e),λe=>h.sN (vK e),λe=>h.vF (vK e),h.op,h.oh,λe=>(by rw[hq]at e;cases e),λe=>(by rw[hq]at e;cases e),λb e=> ?_,λq' _ e=>(LC e).elim,λq' e _=> ?_⟩
 ·obtain⟨k1,k2⟩:=h.row b e;exact⟨k1,(bg _ _ _ rfl agH).trans k2⟩
 ·rw[hq]at e;injection e with e;subst e;exact⟨w,h.post q hq hD,rfl⟩
theorem xw.mk8 (h:xw wr i8 yG i11 rY Row yC vv cs ty D g w) (hD:D i8=false) (uM:rY≠i8):g.p=none∧Ag.le wr.heap.size g w {g with h:=true} w∧xw wr i8 yG i11 rY Row yC vv cs ty (AZ D i8) {g with h:=true} w:=by
 have hp:=h.oh (h.d8 hD);have hs:=h.skip i8 uM;exact⟨hp,⟨λb e=>e,λ_=>rfl,λq e=>e,aB _,λ_ _ _=>rfl⟩,λe=>(LC e).elim,hs.sN,hs.vF,hs.op,λe=>agY,hs.xE,hs.pre,hs.row,hs.post,hs.fin⟩
end
def hdV (n:Nat) (q:Nat×Nat):Value:= .slice (some ⟨q.1,0,none⟩) n q.2
def aI6 (ty:TypeId) (m:Nat) (wr:World) (B:Nat) (own:Option Nat) (n:Nat) (xs:List Value) (q:Nat×Nat) (w5:World):Prop:=w5.ownsRow B ty m (hdV n q) n xs∧wr.grownBy w5 own∧(own=some q.1∨wr.heap.size<=q.1)
theorem xw.cell {wr w:World} {te:TypeId} {m:Nat} {i8 yG i11 rY B n:Nat} {own:Option Nat} {xs:List Value} {yC:Addr} {vv:Nat×Nat->Value} {cs:Array Value} {ty:TypeId} {D:Nat->Bool} {g:Ag} (h:xw wr i8 yG i11 rY (aI6 te m wr B own n xs) yC vv cs ty D g w) {b j:Nat} {u:Value} (hb:b<wr.heap.size) (hne:own≠some b) (ha:yC.block≠b) (hc:wr.cell? ⟨b,j,none⟩=some u):w.cell? ⟨b,j,none⟩=some u:=by
 cases hp:g.p with
 |none=>exact((h.pre hp).cell hb).trans hc
 |some q=>
  cases hd:D rY with
  |false=>exact(World.cell?_of_block (a:=⟨b,j,none⟩) ((h.post q hp hd).2.1.block b hb (λe=>hne e.symm))).trans hc
  |true=>obtain⟨w5,h1,rfl⟩:=h.fin q hp hd;exact(World.cell?_of_block (a:=⟨b,j,none⟩) ((bg w5 yC (vv q) rfl ha).trans (h1.2.1.block b hb (λe=>hne e.symm)))).trans hc
theorem MW {w w':World} {own:Option Nat} (h:Below w.heap.size w w'):w.grownBy w' own:=⟨h.os,h.tape,h.output,h.size,λk hk _=>h.block k hk⟩
theorem yN:Maps.Keyed Tryz.prog 9:=Maps.string_keyed Tryz.underlying9
theorem keyOf_str (s:ByteArray) (hs:s.size<=maxLen):keyOf Tryz.prog 9 (.string s)=some (.string s.toList):=by
 unfold keyOf mapKey;simp[Tryz.underlying9,hs,Lib.toList_data]
def mY (w:World) (b n:Nat) (f:List UInt8->Int):Prop:=
 ∃D:DataW Unit,w.ownsMap Tryz.prog 9 (plainElem Tryz.prog 3) b n D∧∀l,D.atKey (.string l) (.lit (.int .i64 0))= .lit (.int .i64 (f l))
def jI (w:World) (b n:Nat) (f:List UInt8->Bool):Prop:=
 ∃D:DataW Unit,w.ownsMap Tryz.prog 9 (plainElem Tryz.prog 4) b n D∧∀l,D.atKey (.string l) (.lit (.bool false))= .lit (.bool (f l))
theorem mY.made (w:World):mY (w.alloc (.map #[] 0)) w.heap.size 0 (λ_=>0):=⟨_,World.ownsMap_made w _ _ _,λ_=>rfl⟩
theorem jI.made (w:World):jI (w.alloc (.map #[] 0)) w.heap.size 0 (λ_=>false):=⟨_,World.ownsMap_made w _ _ _,λ_=>rfl⟩
theorem mY.lt {w:World} {b n:Nat} {f:List UInt8->Int} (h:mY w b n f):b<w.heap.size:=aeI
theorem jI.lt {w:World} {b n:Nat} {f:List UInt8->Bool} (h:jI w b n f):b<w.heap.size:=aeI
theorem mY.same {w w':World} {b n:Nat} {f:List UInt8->Int} (h:mY w b n f) (hb:w'.heap[b]? =w.heap[b]?):mY w' b n f:=by
 obtain⟨D,⟨es,clock,h1,h2⟩,h3⟩:=h;exact⟨D,⟨es,clock,hb.trans h1,h2⟩,h3⟩
theorem jI.same {w w':World} {b n:Nat} {f:List UInt8->Bool} (h:jI w b n f) (hb:w'.heap[b]? =w.heap[b]?):jI w' b n f:=by
 obtain⟨D,⟨es,clock,h1,h2⟩,h3⟩:=h;exact⟨D,⟨es,clock,hb.trans h1,h2⟩,h3⟩
theorem mY.next {w w':World} {b n:Nat} {f:List UInt8->Int} (h:mY w b n f) (hb:Below w.heap.size w w'):mY w' b n f:=h.same (hb.block b h.lt)
theorem jI.next {w w':World} {b n:Nat} {f:List UInt8->Bool} (h:jI w b n f) (hb:Below w.heap.size w w'):jI w' b n f:=h.same (hb.block b h.lt)
theorem aj5 (w:World):(zeroValue 3).run Tryz.prog w= .ok (.int .i64 0) w:=agG
theorem Zh (w:World):(zeroValue 4).run Tryz.prog w= .ok (.bool false) w:=agG
theorem bB2 {v:Int} (hv:bY v):(Lit.int .i64 v).wf=true:=by
 unfold Lit.wf;rw[aP,decide_eq_true_iff,decide_eq_true_iff];exact hv
theorem mY.look {w:World} {b n:Nat} {f:List UInt8->Int} (h:mY w b n f) (s:ByteArray) (hs:s.size<=maxLen):
 (Instr.lookup 126 (.map (some b)) (.string s) false).run Tryz.prog w= .ok (.int .i64 (f s.toList)) w:=by
 obtain⟨D,ho,hf⟩:=h;obtain⟨c,hrun,hat,-⟩:=ho.lookup_int (t:=126) yN Tryz.underlying126 Tryz.underlying3 (aj5 w) (keyOf_str s hs);rw[hf]at hat;obtain rfl:f s.toList=c:=(Lit.int.inj (DataW.lit.inj hat)).2;exact hrun
theorem ZY {H:Type} {v:Value} {x:Bool} {ps:List MemPlace} (hv:plainElem (H:=H) Tryz.prog 4 v=some (.lit (.bool x),ps)):v= .bool x:=by
 unfold plainElem at hv;generalize hu:Program.underlying Tryz.prog 4=u at hv;rw[Tryz.underlying4]at hu;subst hu;cases v with
 |bool y=>exact congrArg Value.bool (Lit.bool.inj (DataW.lit.inj (Prod.mk.inj (Option.some.inj hv)).1))
 |_=>exact absurd hv (by intro h;cases h)
theorem jI.look {w:World} {b n:Nat} {f:List UInt8->Bool} (h:jI w b n f) (s:ByteArray) (hs:s.size<=maxLen):
 (Instr.lookup 103 (.map (some b)) (.string s) false).run Tryz.prog w= .ok (.bool (f s.toList)) w:=by
 obtain⟨D,ho,hf⟩:=h;obtain⟨v,ps,hrun,hv⟩:=ho.lookup (t:=103) yN Tryz.underlying103 (Zh w) (plainElem_bool Tryz.underlying4 false) (keyOf_str s hs);rw[hf]at hv;have hv':v= .bool (f s.toList):=by exact ZY hv
 rw[hrun,hv']
theorem mY.put {w:World} {b n:Nat} {f:List UInt8->Int} (h:mY w b n f) (hn:n<maxLen) (s:ByteArray) (hs:s.size<=maxLen) (v:Int) (hv:bY v):
 ∃w',(Instr.mapUpdate 126 (.map (some b)) (.string s) (.int .i64 v)).run Tryz.prog w= .ok () w'∧mY w' b (n+1) (λl=>if l=s.toList then v else f l)∧w.grownBy w' (some b):=by
 obtain⟨D,ho,hf⟩:=h;obtain⟨w',hrun,ho',hg⟩:=ho.update (t:=126) yN Tryz.underlying126 hn (keyOf_str s hs) (plainElem_int Tryz.underlying3 (a:=v) (bB2 hv));refine⟨w',hrun,⟨_,ho',λl=> ?_⟩,hg⟩;show _=DataW.lit (.int .i64 (if l=s.toList then v else f l));by_cases hl:l=s.toList
 ·subst hl;rw[if_pos rfl,Maps.atKey_put_same ho.isMap (yN.key (keyOf_str s hs))]
 ·rw[if_neg hl,Maps.atKey_put_other adG,hf]
theorem jI.put {w:World} {b n:Nat} {f:List UInt8->Bool} (h:jI w b n f) (hn:n<maxLen) (s:ByteArray) (hs:s.size<=maxLen) (v:Bool):
 ∃w',(Instr.mapUpdate 103 (.map (some b)) (.string s) (.bool v)).run Tryz.prog w= .ok () w'∧jI w' b (n+1) (λl=>if l=s.toList then v else f l)∧w.grownBy w' (some b):=by
 obtain⟨D,ho,hf⟩:=h;obtain⟨w',hrun,ho',hg⟩:=ho.update (t:=103) yN Tryz.underlying103 hn (keyOf_str s hs) (plainElem_bool Tryz.underlying4 v);refine⟨w',hrun,⟨_,ho',λl=> ?_⟩,hg⟩;show _=DataW.lit (.bool (if l=s.toList then v else f l));by_cases hl:l=s.toList
 ·subst hl;rw[if_pos rfl,Maps.atKey_put_same ho.isMap (yN.key (keyOf_str s hs))]
 ·rw[if_neg hl,Maps.atKey_put_other adG,hf]
theorem bP {w:World} {b j:Nat} {cs:Array Value} {t:TypeId} {fr:Nat×Nat} {u:Value} (h:w.heap[b]? =some (.cells cs t fr)) (hu:cs[j]? =some u):b<w.heap.size∧w.cell? ⟨b,j,none⟩=some u:=
 ⟨(aO h),aQ h hu⟩
theorem LG {b:Nat} {w1 w2 w3:World} (h:w1.grownBy w2 (some b)) (k:w2.grownBy w3 (some b)):w1.grownBy w3 (some b):=
 ⟨k.os.trans h.os,k.tape.trans h.tape,k.output.trans h.output,aJ h.size k.size,λj hj hne=>(k.block j (aR hj h.size) hne).trans (h.block j hj hne)⟩
theorem Vt {b:Nat} {w w':World} (h:Below w.heap.size w w'):w.grownBy w' (some b):=⟨h.os,h.tape,h.output,h.size,λk hk _=>h.block k hk⟩
structure Tp where
 B0:Nat
 bt:Nat
 bm:Nat
 ao:Option Addr
 cap:Nat
 zs:List Int
 t0:B0<=bt
 m0:B0<=bm
 tm:bt≠bm
def FX (w:World) (B:Nat) (zs:List Int) (ao:Option Addr):Prop:= ∀(k:Nat) (hk:k<zs.length),∃b off,ao=some ⟨b,off,none⟩∧b<B∧w.cell? ⟨b,off+k,none⟩=some (.int .u8 zs[k])∧0<=zs[k]∧zs[k]<=255
theorem FX.below {w w':World} {B:Nat} {zs:List Int} {ao:Option Addr} (h:FX w B zs ao) (hb:Below B w w'):FX w' B zs ao:=λk hk=>by
 obtain⟨b,off,e,hB,hc,hz⟩:=h k hk;exact⟨b,off,e,hB,(hb.cell hB).trans hc,hz⟩
structure oL (w:World) (T:Tp):Prop where
 blk: ∃at':Nat,at'<=T.zs.length∧w.heap[T.bt]? =some (.cells #[.slice T.ao T.zs.length T.cap,.int .i64 at'] 65 (0,0))
 O6:FX w T.B0 T.zs T.ao
 len:T.zs.length<=9223372036854775807
theorem oL.lt {w:World} {T:Tp} (h:oL w T):T.bt<w.heap.size:=by obtain⟨a,-,h⟩:=h.blk;exact(aO h)
theorem oL.b0 {w:World} {T:Tp} (h:oL w T):T.B0<=w.heap.size:=by have:=h.lt;have:=T.t0;omega
def an3 (T:Tp) (n:Int) (w:World) (e:Ending) (w':World):Prop:= ∃r:Int,e= .returned (.int .i64 r)∧0<=r∧(0<n->r<n)∧r<=255∧w.grownBy w' (some T.bt)∧oL w' T
theorem Ku {T:Tp} {n r:Int} {w w':World} (h0:0<=r) (h1:0<n->r<n) (h2:r<=255) (h3:w.grownBy w' (some T.bt)) (h4:oL w' T):an3 T n w (.returned (.int .i64 r)) w':=⟨r,rfl,h0,h1,h2,h3,h4⟩
theorem pX {b:Nat} (w:World) (n:Nat):w.grownBy (w.drewN n) (some b):=Vt (below_drewN (au _ _) n)
theorem oL.draws {w:World} {T:Tp} (h:oL w T) (n:Nat):oL (w.drewN n) T:=by
 obtain⟨a,h1,h2⟩:=h.blk;have hb:=below_drewN (au w.heap.size w) n;exact⟨⟨a,h1,(hb.block _ h.lt).trans h2⟩,h.O6.below (hb.mono h.b0),h.len⟩
theorem ZO (T:Tp) (n:Int) (w:World) (hn:bY n) (hI:oL w T):
 Calls Tryz.prog 13 #[.pointer (some ⟨T.bt,0,none⟩),.int .i64 n] w (an3 T n w):=by
 obtain⟨a,ha,hblk⟩:=hI.blk;have HI:=ah hI;have HB:=ah hblk;have hlen:=hI.len;obtain⟨hn1,hn2⟩:=hn;have c0:w.cell? ⟨T.bt,0,none⟩=some (.slice T.ao T.zs.length T.cap):=(bP hblk (j:=0) rfl).2;have c1:w.cell? ⟨T.bt,1,none⟩=some (.int .i64 (a:Int)):=(bP hblk (j:=1) rfl).2;clear hI hblk;by_cases h1:T.zs.length<=a
 ·have hd:decide ((T.zs.length:Int)<=(a:Int))=true:=by rw[decide_eq_true_iff];omega
  go_enter Tryz.func13,Tryz.ntmps13;go_wp2_with fail;go_quiet (fail);go_wp2_with fail;go_ret;exact Ku agH agH agH (pX _ _) (HI.o.draws _)
 ·have hd:decide ((T.zs.length:Int)<=(a:Int))=false:=by rw[decide_eq_false_iff_not];omega
  by_cases h2:n<1
  ·have hd2:decide (n<1)=true:=by rw[decide_eq_true_iff];omega
   go_enter Tryz.func13,Tryz.ntmps13;go_wp2_with fail;go_quiet (fail);go_wp2_with fail;go_ret;exact Ku agH agH agH (pX _ _) (HI.o.draws _)
  ·have hd2:decide (n<1)=false:=by rw[decide_eq_false_iff_not];omega
   go_enter Tryz.func13,Tryz.ntmps13;go_wp2_with fail;go_quiet (fail);generalize hW:World.drewN w _=W1;have HI1:aj (oL W1 T):=ah aev;have qI:aj (w.grownBy W1 (some T.bt)):=ah (by rw[<- hW];exact pX _ _);have HB1:aj (W1.heap[T.bt]? =some (.cells #[.slice T.ao T.zs.length T.cap,.int .i64 (a:Int)] 65 (0,0))):=ah aav;clear hW c0 c1 HI HB hd hd2;have c1:W1.cell? ⟨T.bt,1,none⟩=some (.int .i64 (a:Int)):=(bP HB1.o (j:=1) rfl).2;have f1:W1.frozen? ⟨T.bt,1,none⟩=false:=bK HB1.o;go_upto_region 4 with fail;generalize hW2:World.setCell W1 _ _=W2;have HB2:aj (W2.heap[T.bt]? =some (.cells #[.slice T.ao T.zs.length T.cap,.int .i64 ((a:Int)+1)] 65 (0,0))):=ah (by rw[<- hW2,dI HB1.o];rfl);have HG2:aj (W1.grownBy W2 (some T.bt)):=ah (by rw[<- hW2];exact bU _ _ _);have Nt:aj (FX W2 T.B0 T.zs T.ao):=ah (HI1.o.O6.below (cK HG2.o T.t0 HI1.o.b0));have HI2:aj (oL W2 T):=ah ⟨⟨a+1,agH,by rw[HB2.o];rfl⟩,Nt.o,HI1.o.len⟩;have HG:=ah (LG qI.o HG2.o);clear hW2 c1 f1 qI HG2 HB1;have ha:a<T.zs.length:=agH
   obtain⟨bb,off,hao,hbb,hcell,hz0,hz1⟩:=Nt.o a ha;have c0:W2.cell? ⟨T.bt,0,none⟩=some (.slice T.ao T.zs.length T.cap):=(bP HB2.o (j:=0) rfl).2;have c1:W2.cell? ⟨T.bt,1,none⟩=some (.int .i64 ((a:Int)+1)):=(bP HB2.o (j:=1) rfl).2;rw[hao]at c0;generalize T.zs[a]=z at *;have hw1:(a:Int)+1 -1=(a:Int):=agH
   have hw2:IntKind.i64.wrap (a:Int)=(a:Int):=IntWalk.i64_in _ agH;have hb0:(0:Int)<=(a:Int):=agH
   have hb1:(a:Int)<(T.zs.length:Int):=agH
   have Av:=ah hao;clear hao HI1;go_quiet (fail);go_wp2_with fail;go_ret;have e1:=Int.emod_nonneg z (show n≠0 by omega);have e2:=Int.emod_lt_of_pos z (show 0<n by omega);have e3:z%n<=255:=by
    by_cases hzn:z<n
    ·rw[Int.emod_eq_of_lt hz0 hzn];exact hz1
    ·omega
   exact Ku e1 (λ_=>e2) e3 (LG HG.o (pX _ _)) (HI2.o.draws _)
def IW:Array Value:= #[.int .i64 0,.int .i64 0,.string ⟨#[]⟩,.slice none 0 0]
theorem Mt {w:World} {b:Nat} {t:TypeId} (h:w.heap[b]? =some (.cells IW t (0,0))):(w.cell? ⟨b,0,none⟩=some (.int .i64 0)∧w.cell? ⟨b,1,none⟩=some (.int .i64 0)∧w.cell? ⟨b,2,none⟩=some (.string ⟨#[]⟩)∧w.cell? ⟨b,3,none⟩=some (.slice none 0 0))∧(∀j,w.frozen? ⟨b,j,none⟩=false):=
 ⟨⟨(bP h (j:=0) rfl).2,(bP h (j:=1) rfl).2,(bP h (j:=2) rfl).2,(bP h (j:=3) rfl).2⟩,λj=>bK h⟩
theorem FP (s:ByteArray) (w:World):
 Calls Tryz.prog 52 #[.string s] w λe w'=>e= .returned (exV 2 0 s .nil none 0)∧Below w.heap.size w w':=by
 go_enter Tryz.func52,Tryz.ntmps52;go_wp2;exact bodyPost_ret (v:=exV 2 0 s .nil none 0) (by simp[results,Tryz.results52,go_sem,exV,bT.len]) rfl ⟨rfl,ak _ _⟩
theorem Fw (op:Int) (o1 n1:Int) (m1:ByteArray) (k1:bT) (a1:Option Addr) (c1:Nat) (o2 n2:Int) (m2:ByteArray) (k2:bT) (a2:Option Addr) (c2:Nat) (w:World):
 Calls Tryz.prog 51 #[.int .i64 op,exV o1 n1 m1 k1 a1 c1,exV o2 n2 m2 k2 a2 c2] w λe w'=> ∃g,e= .returned (.agg #[.int .i64 op,.int .i64 0,.string ⟨#[]⟩,.slice (some ⟨g,0,none⟩) 2 2])∧w.heap.size<=g∧w'.heap[g]? =some (.cells (QD o1 n1 m1 k1 a1 c1++QD o2 n2 m2 k2 a2 c2).toArray 72 (0,0))∧Below w.heap.size w w':=by
 unfold exV;go_enter Tryz.func51,Tryz.ntmps51;go_wp2;refine bodyPost_ret (v:= .agg #[.int .i64 op,.int .i64 0,.string ⟨#[]⟩,.slice (some ⟨w.heap.size+1+1+1,0,none⟩) 2 2]) (by simp[results,Tryz.results51,go_sem]) rfl ⟨w.heap.size+1+1+1,rfl,agH,?_,?_⟩
 ·generalize hW:World.alloc (World.alloc (World.alloc w _) _) _=W;have e:W.heap.size=w.heap.size+1+1+1:=by rw[<- hW];simp
  rw[<- e];exact heap_alloc_new _ _
 ·exact(((ak _ _).alloc agJ _).alloc agK _).alloc agK _
namespace Md
def yI:bT->Nat
 | .nil=>0
 | .cons _ _ _ kids rest=>1+yI kids+yI rest
theorem Un: ∀l:bT,l.len<=yI l
 | .nil=>aB _
 | .cons _ _ _ k r=>by have:=Un r;rw[yI,bT.len];omega
def Pf (op n:Int) (nm:ByteArray) (kids:bT):Prop:=qW op n nm kids∧yI kids<=40
def wM (h:dF):Nat:=3+yI h.bJ+yI h.idx
def Ee:aZ->Prop
 | .nil=>True
 | .cons h b e r=>wM h<=100∧(b.len<=10∧Ee b)∧(e.len<=10∧Ee e)∧Ee r
def SB (l:aZ):Prop:=l.len<=10∧Ee l
theorem sb0:SB .nil:=⟨bF _,trivial⟩
theorem SB.max {l:aZ} (h:SB l):l.len<=maxLen:=by have:=h.1;unfold maxLen;omega
def zh (h:dF) (b e:aZ):Prop:=xg h b e∧wM h<=100∧SB b∧SB e
theorem P6: ∀ {l:List bQ},(∀x∈l,zh x.h x.b x.e)->Ee (fM l)
 | [],_=>trivial
 |x::r,h=>⟨(h x aX).2.1,(h x aX).2.2.1,(h x aX).2.2.2,P6 (λy hy=>h y (aY _ hy))⟩
end Md
def nu (B:Nat) (X:Nat->Prop) (w w':World):Prop:=w.heap.size<=w'.heap.size∧∀k,B<=k-> ¬X k->k<w.heap.size->w'.heap[k]? =w.heap[k]?
def gM (B:Nat) (X:Nat->Prop) (w:World) (Q:World->Prop):Prop:= ∀w',nu B X w w'->Q w'
def Bt (H:Option Nat) (k:Nat):Prop:=H=some k
def zY (g H:Option Nat) (k:Nat):Prop:=g=some k∨H=some k
def Hx (w:World) (H H':Option Nat):Prop:=H'=H∨∃h,H'=some h∧w.heap.size<=h
theorem Hx.refl (w:World) (H:Option Nat):Hx w H H:= .inl rfl
theorem Hx.trans {w w1:World} {H H1 H2:Option Nat} (h:Hx w H H1) (k:Hx w1 H1 H2) (hs:w.heap.size<=w1.heap.size):Hx w H H2:=by
 rcases k with rfl|⟨b,rfl,hb⟩
 ·exact h
 ·exact .inr ⟨b,rfl,aJ hs hb⟩
theorem Hx.old {w:World} {H H':Option Nat} (h:Hx w H H') {k:Nat} (hk:k<w.heap.size) (e:Bt H' k):Bt H k:=by
 rcases h with rfl|⟨b,rfl,hb⟩
 ·exact e
 ·injection e with e;omega
section
variable {B B1:Nat} {X X1 X':Nat->Prop} {w w' w1:World} {Q:World->Prop}
theorem nu.refl (B:Nat) (X:Nat->Prop) (w:World):nu B X w w:=⟨aB _,λ_ _ _ _=>rfl⟩
theorem nu.AV (h:kC B w w'):nu B X w w':=⟨h.1,λk h1 _ h2=>h.2 k h1 h2⟩
theorem nu.of_below (h:Below w.heap.size w w'):nu B X w w':= .AV (bS h)
theorem nu.Kz {g:Option Nat} (h:w.grownBy w' g) (hX: ∀k,B<=k->g=some k->X k):nu B X w w':=⟨h.size,λk h1 h2 h3=>h.block k h3 (λe=>h2 (hX k h1 e.symm))⟩
theorem nu.trans (h:nu B X w w1) (k:nu B X' w1 w') (hX: ∀k,B<=k->k<w.heap.size->X' k->X k):nu B X w w':=
 ⟨aJ h.1 k.1,λj h1 h2 h3=>(k.2 j h1 (λhx=>h2 (hX j h1 h3 hx)) (aR h3 h.1)).trans (h.2 j h1 h2 h3)⟩
theorem nu.weak (h:nu B X w w') (hB:B<=B1) (hX: ∀k,B1<=k->k<w.heap.size->X k->X1 k):nu B1 X1 w w':=⟨h.1,λk h1 h2 h3=>h.2 k (aJ hB h1) (λhx=>h2 (hX k h1 h3 hx)) h3⟩
theorem gM.now (h:gM B X w Q):Q w:=h w (nu.refl _ _ _)
theorem gM.go (h:gM B X w Q) (ha:nu B X w w1) (hX: ∀k,B<=k->k<w.heap.size->X' k->X k):gM B X' w1 Q:=λw' h'=>h w' (ha.trans h' hX)
theorem gM.weak (h:gM B1 X1 w Q) (hB:B<=B1) (hX: ∀k,B1<=k->k<w.heap.size->X k->X1 k):gM B X w Q:=λw' h'=>h w' (h'.weak hB hX)
theorem gM.imp {Q':World->Prop} (h:gM B X w Q) (hq: ∀w,Q w->Q' w):gM B X w Q':=λw' h'=>hq _ (h w' h')
theorem gM.iM (h:ig B1 w Q) (hB:B<=B1) (hX: ∀k,B1<=k->k<w.heap.size-> ¬X k):gM B X w Q:=λw' h'=>h w' ⟨h'.1,λk h1 h2=>h'.2 k (aJ hB h1) (hX k h1 h2) h2⟩
theorem gM.stay (h:gM B X w Q):ig B w Q:=λw' h'=>h w' (.AV h')
end
structure kG {α:Type} (f:α->List Value) (m:Nat) (I:α->World->Prop) (ty:TypeId) (B:Nat) (H:Option Nat) (w:World) (v:Value) (xs:List α):Prop where
 own:w.ownsRow B ty m v xs.length (xs.flatMap f)
 ne: ∀k,v.ownBlock=some k->H≠some k
 stay: ∀x∈xs,gM B (zY v.ownBlock H) w (I x)
section
variable {α:Type} {f:α->List Value} {m:Nat} {I:α->World->Prop} {ty:TypeId} {B:Nat} {H H':Option Nat} {w w':World} {v:Value} {xs:List α}
theorem kG.nil (f:α->List Value) (m:Nat) (I:α->World->Prop) (ty:TypeId) (B:Nat) (H:Option Nat) (w:World):kG f m I ty B H w (.slice none 0 0) []:=⟨World.ownsRow_nil _ _ _ _,λ_ e=>agY,λx hx=>ahB⟩
theorem kG.lt (h:kG f m I ty B H w v xs): ∀k,v.ownBlock=some k->B<=k∧k<w.heap.size:=h.own.lt
theorem kG.len (h:kG f m I ty B H w v xs): ∃ao cap,v= .slice ao xs.length cap:=by
 rcases h.own.2 with⟨h1,h2⟩|⟨g,cap,cur,h1,-⟩
 ·exact⟨none,0,by rw[h1,h2]⟩
 ·exact⟨_,_,h1⟩
theorem kG.next (h:kG f m I ty B H w v xs) (ha:nu B (Bt H) w w') (hH:Hx w H H'):kG f m I ty B H' w' v xs:=by
 refine⟨⟨h.own.1,?_⟩,λk hk e=> ?_,λx hx=>(h.stay x hx).go (ha.weak (aB _) (λk _ _ e=> .inr e)) (λk _ h2 e=> ?_)⟩
 ·rcases h.own.2 with h1|⟨g,cap,cur,h1,h2,h3,h4⟩
  ·exact .inl h1
  ·exact .inr ⟨g,cap,cur,h1,h2,(ha.2 g h2 (λe=>h.ne g ahs e) (aO h3)).trans h3,h4⟩
 ·exact h.ne k hk (hH.old (h.lt k hk).2 e)
 ·rcases e with e|e
  ·exact .inl e
  ·exact .inr (hH.old h2 e)
theorem kG.as0 {ys:List α} {g cap n:Nat} (h:kG f m I ty B H w v xs) (hy: ∀y∈ys,gM B (zY v.ownBlock H) w (I y)) (hn:n=xs.length+ys.length) (hown:w'.ownsRow B ty m (.slice (some ⟨g,0,none⟩) n cap) n (xs.flatMap f++ys.flatMap f)) (hg:w.grownBy w' v.ownBlock) (hmv:v.ownBlock=some g∨g=w.heap.size) (hH: ∀k,H=some k->k<w.heap.size):
 kG f m I ty B H w' (.slice (some ⟨g,0,none⟩) n cap) (xs++ys):=by
 subst hn;refine⟨by rw[List.flatMap_append,aA];exact hown,λk hk e=> ?_,λy hyy=> ?_⟩
 ·have hk':g=k:=by injection hk
  subst hk';rcases hmv with hmv|rfl
  ·exact h.ne _ hmv e
  ·exact absurd (hH _ e) (Nat.lt_irrefl _)
 ·show gM B (zY (some g) H) w' (I y);have hall:gM B (zY v.ownBlock H) w (I y):=by
   rcases List.mem_append.1 hyy with h1|h1
   ·exact h.stay y h1
   ·exact hy y h1
  refine hall.go (.Kz hg (λk _ e=> .inl e)) (λk _ h2 e=> ?_);rcases e with e|e
  ·injection e with e;subst e;rcases hmv with hmv|rfl
   ·exact .inl hmv
   ·exact absurd h2 (Nat.lt_irrefl _)
  ·exact .inr e
theorem kG.push {x:α} {g cap n:Nat} (h:kG f m I ty B H w v xs) (hx:gM B (zY v.ownBlock H) w (I x)) (hn:n=xs.length+1) (hown:w'.ownsRow B ty m (.slice (some ⟨g,0,none⟩) n cap) n (xs.flatMap f++f x)) (hg:w.grownBy w' v.ownBlock) (hmv:v.ownBlock=some g∨g=w.heap.size) (hH: ∀k,H=some k->k<w.heap.size):
 kG f m I ty B H w' (.slice (some ⟨g,0,none⟩) n cap) (xs++[x]):=
 h.as0 (ys:=[x]) (λy hy=>by rw[List.mem_singleton.1 hy];exact hx) hn acW hg hmv hH
theorem kG.weak {B0:Nat} (h:kG f m I ty B H w v xs) (hB:B0<=B):kG f m I ty B0 H w v xs:=by
 refine⟨⟨h.own.1,?_⟩,h.ne,λx hx=>(h.stay x hx).weak hB (λ_ _ _ e=>e)⟩;rcases h.own.2 with h1|⟨g,cap,cur,h1,h2,h3,h4⟩
 ·exact .inl h1
 ·exact .inr ⟨g,cap,cur,h1,aJ hB h2,h3,h4⟩
theorem kG.cells (hf: ∀x,(f x).length=m) (h:kG f m I ty B H w v xs):gM B (Bt H) w (λw2=>(∀x∈xs,I x w2)∧∃ao cap,v= .slice ao xs.length cap∧xs.length<=cap∧∀k x,xs[k]? =some x->∃g,ao=some ⟨g,0,none⟩∧B<=g∧g<w2.heap.size∧∀j u,(f x)[j]? =some u->w2.cell? ⟨g,k*m+j,none⟩=some u):=λw2 h2=>by
 refine⟨λx hx=>(h.stay x hx) w2 (h2.weak (aB _) (λ_ _ _ e=> .inr e)),?_⟩;have hne:=h.ne;rcases h.own.2 with⟨h1,h3⟩|⟨g,cap,cur,h1,hB,hg,hc,-,hs,ht⟩
 ·refine⟨none,0,by rw[h1,h3],agH,λk x hk=> ?_⟩;have:=(List.getElem?_eq_some_iff.1 hk).1;omega
 ·refine⟨some ⟨g,0,none⟩,cap,h1,hc,λk x hk=>⟨g,rfl,hB,?_⟩⟩;have hg2:=(h2.2 g hB (λe=>hne g ahs e) (aO hg)).trans hg;refine⟨(aO hg2),λj u hu=> ?_⟩;have hF:=flat_get hf xs k x j u hk hu;rw[<- ht]at hF;have hlt:=(List.getElem?_eq_some_iff.1 hF).1;rw[List.getElem?_take_of_lt acF]at hF;exact aQ hg2 ahp
theorem kG.news (hf: ∀x,(f x).length=m) (h:kG f m I ty B H w v xs) {g n cap:Nat} (hv:v= .slice (some ⟨g,0,none⟩) n cap): ∀j u,(xs.flatMap f)[j]? =some u->w.cell? ((⟨g,0,none⟩:Addr).add j)=some u:=by
 intro j u hu;rcases h.own.2 with⟨h1,h3⟩|⟨g',cap',cur,h1,hB,hg,hc,-,hs,ht⟩
 ·rw[hv]at h1;cases h1
 ·rw[hv]at h1;injection h1 with e1 e2 e3;injection e1 with e1;injection e1 with e1;subst e1;rw[<- ht]at hu;have hlt:=(List.getElem?_eq_some_iff.1 hu).1;rw[List.getElem?_take_of_lt acF]at hu;have:w.cell? ⟨g,j,none⟩=some u:=aQ hg (by rw[<- hu];simp);rcases Nat.eq_zero_or_pos j with rfl|hj
  ·simpa[Addr.add]using this
  ·simpa[Addr.add,Nat.ne_of_gt hj]using this
end
namespace Md
abbrev yS (B:Nat) (H:Option Nat) (w:World) (v:Value) (l:List bQ):Prop:=kG bQ.f 11 bQ.I 74 B H w v l
theorem yS.says {B:Nat} {H:Option Nat} {w:World} {v:Value} {l:List bQ} (h:yS B H w v l) (hok: ∀x∈l,zh x.h x.b x.e): ∃ao cap,v= .slice ao (fM l).len cap∧gM B (Bt H) w (λw2=>(fM l).At w2 w2.heap.size ao 0):=by
 obtain⟨ao,cap,e⟩:=h.len;refine⟨ao,cap,by rw[e,qh],λw2 h2=> ?_⟩;obtain⟨hI,mh,cap',e',-,hc⟩:=h.cells Am w2 h2;rw[e]at e';injection e' with e1 e2 e3;subst e1;exact II l 0 (λx hx=>⟨(hok x hx).1,hI x hx⟩) (λi x hx=>aaj)
abbrev IY (B:Nat) (H:Option Nat) (w:World) (v:Value) (l:List fD):Prop:=kG fD.f 4 fD.I 59 B H w v l
theorem IY.says {B:Nat} {H:Option Nat} {w:World} {v:Value} {l:List fD} (h:IY B H w v l) (hok: ∀x∈l,x.t.Ok∧x.t.cZ.length<=x.eU): ∃ao cap,v= .slice ao (l.map (·.t)).length cap∧l.length<=cap∧gM B (Bt H) w (λw2=>iG w2 w2.heap.size (l.map (·.t)) ao 0):=by
 obtain⟨-,ao,cap,e,hl,-⟩:=h.cells Ao w (nu.refl _ _ _);refine⟨ao,cap,by rw[e,gH],hl,λw2 h2=> ?_⟩;obtain⟨hI,mh,cap',e',-,hc⟩:=h.cells Ao w2 h2;rw[e]at e';injection e' with e1 e2 e3;subst e1;exact P7 l 0 (λx hx=>⟨hok x hx,hI x hx⟩) (λi x hx=>aaj)
end Md
structure dN (w:World) (T:Tp) (H:Option Nat) (hs:List ByteArray):Prop where
 tape:oL w T
 Bw: ∃(th left:Int) (a b c d:Bool) (vH:Value),bY left∧w.heap[T.bm]? =some (.cells #[.pointer (some ⟨T.bt,0,none⟩),.int .i64 th,.int .i64 left,.bool a,.bool b,.bool c,.bool d,vH] 67 (0,0))∧vH.ownBlock=H∧jU T.B0 w vH hs
 nt:H≠some T.bt
 nm:H≠some T.bm
 ok: ∀x∈hs,x.size<=maxLen
 few:hs.length<=1000
structure Mm (T:Tp) (H:Option Nat) (w w':World):Prop where
 os:w'.os=w.os
 tape:w'.tape=w.tape
 output:w'.output=w.output
 size:w.heap.size<=w'.heap.size
 block: ∀k,k<w.heap.size->k≠T.bt->k≠T.bm->H≠some k->w'.heap[k]? =w.heap[k]?
section
variable {T:Tp} {H H1:Option Nat} {hs:List ByteArray} {w w' w1 w2:World}
theorem Mm.refl (T:Tp) (H:Option Nat) (w:World):Mm T H w w:=⟨rfl,rfl,rfl,aB _,λ_ _ _ _ _=>rfl⟩
theorem Mm.trans (h:Mm T H w w1) (hH:Hx w H H1) (k:Mm T H1 w1 w2):Mm T H w w2:=
 ⟨k.os.trans h.os,k.tape.trans h.tape,k.output.trans h.output,aJ h.size k.size,λj hj h1 h2 h3=>(k.block j (aR hj h.size) h1 h2 (λe=>h3 (hH.old hj e))).trans (h.block j hj h1 h2 h3)⟩
theorem Mm.of_below (h:Below w.heap.size w w'):Mm T H w w':=⟨h.os,h.tape,h.output,h.size,λk hk _ _ _=>h.block k hk⟩
theorem Mm.bz4 (h:w.grownBy w' (some T.bt)):Mm T H w w':=⟨h.os,h.tape,h.output,h.size,λk hk h1 _ _=>h.block k hk ahF⟩
theorem Mm.aT1 (h:w.grownBy w' (some T.bm)):Mm T H w w':=⟨h.os,h.tape,h.output,h.size,λk hk _ h1 _=>h.block k hk ahF⟩
theorem Mm.bz3 (h:w.grownBy w' H):Mm T H w w':=⟨h.os,h.tape,h.output,h.size,λk hk _ _ h1=>h.block k hk (λe=>h1 e.symm)⟩
theorem Mm.then_ (h:Mm T H w w1) (hb:Below w.heap.size w1 w2) (hs:w1.heap.size<=w2.heap.size):Mm T H w w2:=
 ⟨hb.os.trans h.os,hb.tape.trans h.tape,hb.output.trans h.output,aJ h.size hs,λk hk h1 h2 h3=>(hb.block k hk).trans (h.block k hk h1 h2 h3)⟩
theorem Mm.set (h:Mm T H w w') (a:Addr) (v:Value) (hb:w.heap.size<=a.block):Mm T H w (w'.setCell a v):=
 ⟨h.os,h.tape,h.output,aaR,λk hk h1 h2 h3=>(bg w' a v rfl agH).trans (h.block k hk h1 h2 h3)⟩
theorem Mm.He {B:Nat} (h:Mm T H w w') (ht:T.bt<B) (hm:T.bm<B):nu B (Bt H) w w':=⟨h.size,λk h1 h2 h3=>h.block k h3 agH agH h2⟩
theorem Mm.keep (h:Mm T H w w') {k:Nat} {o:Obj} (hk:w.heap[k]? =some o) (h1:k≠T.bt) (h2:k≠T.bm) (h3:H≠some k):w'.heap[k]? =some o:=
 (h.block k (aO hk) h1 h2 h3).trans hk
theorem dN.lt (h:dN w T H hs):T.bm<w.heap.size:=by obtain⟨_,_,_,_,_,_,_,_,h,_⟩:=h.Bw;exact(aO h)
theorem dN.hlt (h:dN w T H hs): ∀k,H=some k->T.B0<=k∧k<w.heap.size:=by
 obtain⟨-,-,-,-,-,-,vH,-,-,rfl,hg⟩:=h.Bw;exact hg.lt
theorem dN.hlt' (h:dN w T H hs): ∀k,H=some k->k<w.heap.size:=λk e=>(h.hlt k e).2
theorem dN.ptr (h:dN w T H hs):w.cell? ⟨T.bm,0,none⟩=some (.pointer (some ⟨T.bt,0,none⟩)):=by
 obtain⟨_,_,_,_,_,_,_,_,k,_⟩:=h.Bw;exact(bP k (j:=0) rfl).2
theorem dN.same (h:dN w T H hs) (ho:w.heap.size<=w'.heap.size) (hb:Below T.B0 w w') (ht:w'.heap[T.bt]? =w.heap[T.bt]?) (hm:w'.heap[T.bm]? =w.heap[T.bm]?) (hh: ∀k,H=some k->w'.heap[k]? =w.heap[k]?):dN w' T H hs:=by
 obtain⟨x,k1,k2⟩:=h.tape.blk;obtain⟨th,left,a,b,c,d,vH,k3,k4,k5,k6⟩:=h.Bw;refine⟨⟨⟨x,k1,ht.trans k2⟩,h.tape.O6.below hb,h.tape.len⟩,⟨th,left,a,b,c,d,vH,k3,hm.trans k4,k5,⟨k6.own.1,?_⟩,λ_ _ _ _=>trivial⟩,h.nt,h.nm,h.ok,h.few⟩;rcases k6.own.2 with h1|⟨g,cap,cur,h1,h2,h3,h4⟩
 ·exact .inl h1
 ·exact .inr ⟨g,cap,cur,h1,h2,(hh g (by rw[<- k5,h1];rfl)).trans h3,h4⟩
theorem dN.below (h:dN w T H hs) (hb:Below w.heap.size w w'):dN w' T H hs:=
 h.same hb.size (hb.mono h.tape.b0) (hb.block _ h.tape.lt) (hb.block _ h.lt) (λk e=>hb.block _ (h.hlt k e).2)
theorem dN.set (h:dN w T H hs) (a:Addr) (v:Value) (h0:T.B0<=a.block) (h1:a.block≠T.bt) (h2:a.block≠T.bm) (h3:H≠some a.block):dN (w.setCell a v) T H hs:=
 h.same aeU (cK (bU w a v) h0 h.tape.b0) (bg w a v rfl h1) (bg w a v rfl h2) (λk e=>bg w a v rfl (λe'=>h3 (by rw[e',e])))
theorem dN.grown (h:dN w T H hs) {g:Option Nat} (hg:w.grownBy w' g) (h0: ∀k,g=some k->T.B0<=k∧k≠T.bt∧k≠T.bm∧H≠some k):dN w' T H hs:=
 h.same hg.size ⟨hg.os,hg.tape,hg.output,hg.size,λk hk=>hg.block k (aR hk h.tape.b0) (λe=>by have:=(h0 k e.symm).1;omega)⟩ (hg.block _ h.tape.lt (λe=>(h0 _ e.symm).2.1 rfl)) (hg.block _ h.lt (λe=>(h0 _ e.symm).2.2.1 rfl)) (λk e=>hg.block _ (h.hlt k e).2 (λe'=>(h0 k e'.symm).2.2.2 e))
def TF (T:Tp) (w w':World):Prop:=w.grownBy w' (some T.bt)
theorem TF.refl (T:Tp) (w:World):TF T w w:=Vt (au _ _)
theorem TF.trans (h:TF T w w1) (k:TF T w1 w2):TF T w w2:=LG h k
theorem TF.of_below (h:Below w.heap.size w w'):TF T w w':=Vt h
theorem TF.NZ {B:Nat} (h:TF T w w') (ht:T.bt<B):kC B w w':=⟨h.size,λk h1 h2=>h.block k h2 agK⟩
theorem TF.mm (h:TF T w w'):Mm T H w w':=Mm.bz4 h
theorem TF.keep (h:TF T w w') {k:Nat} {o:Obj} (hk:w.heap[k]? =some o) (h1:k≠T.bt):w'.heap[k]? =some o:=(h.block k (aO hk) ahF).trans hk
theorem TF.set (h:TF T w w') (a:Addr) (v:Value) (hb:w.heap.size<=a.block):TF T w (w'.setCell a v):=
 ⟨h.os,h.tape,h.output,aaR,λk hk h1=>(bg w' a v rfl agH).trans (h.block k hk h1)⟩
def at6 (T:Tp) (H:Option Nat) (hs:List ByteArray) (n:Int) (w:World) (e:Ending) (w':World):Prop:= ∃r:Nat,e= .returned (.int .i64 r)∧(0<n->(r:Int)<n)∧r<=255∧TF T w w'∧dN w' T H hs
theorem kW (T:Tp) (H:Option Nat) (hs:List ByteArray) (n:Int) (w:World) (hn:bY n) (hI:dN w T H hs):
 Calls Tryz.prog 13 #[.pointer (some ⟨T.bt,0,none⟩),.int .i64 n] w (at6 T H hs n w):=
 (ZO T n w hn hI.tape).mono λe w' ⟨r,h1,h2,h3,h4,h5,h6⟩=>by
  obtain⟨r,rfl⟩:=Int.eq_ofNat_of_zero_le h2;refine⟨r,h1,h3,agH,h5,h6,?_,hI.nt,hI.nm,hI.ok,hI.few⟩;obtain⟨th,left,a,b,c,d,vH,k3,k4,k5,k6⟩:=hI.Bw;refine⟨th,left,a,b,c,d,vH,k3,(h5.block _ hI.lt (by simp;exact T.tm.symm)).trans k4,k5,⟨k6.own.1,?_⟩,λ_ _ _ _=>trivial⟩;rcases k6.own.2 with h1|⟨g,cap,cur,h1,h2,h3,h4⟩
  ·exact .inl h1
  ·exact .inr ⟨g,cap,cur,h1,h2,(h5.block g (aO h3) aaF).trans h3,h4⟩
structure Old (T:Tp) (H:Option Nat) (B:Nat):Prop where
 t:T.bt<B
 m:T.bm<B
 z:T.B0<=B
 h: ∀k,H=some k->k<B
theorem dN.old (h:dN w T H hs):Old T H w.heap.size:=⟨h.tape.lt,h.lt,h.tape.b0,h.hlt'⟩
theorem Old.mono {B B':Nat} (h:Old T H B) (hB:B<=B'):Old T H B':=⟨aR h.t hB,aR h.m hB,aJ h.z hB,λk e=>aR (h.h k e) hB⟩
theorem dN.Wm {B:Nat} (h:dN w T H hs) (ho:Old T H B) (a:Addr) (v:Value) (hb:B<=a.block):dN (w.setCell a v) T H hs:=
 h.set a v (aJ ho.z hb) (λe=>absurd ho.t agH) (λe=>absurd ho.m agH) (λe=>absurd (ho.h _ e) agH)
theorem dN.left (h:dN w T H hs) {m:Int} (hm:bY m):dN (w.setCell ⟨T.bm,2,none⟩ (.int .i64 m)) T H hs:=by
 obtain⟨x,k1,k2⟩:=h.tape.blk;obtain⟨th,left,a,b,c,d,vH,k3,k4,k5,k6⟩:=h.Bw;refine⟨⟨⟨x,k1,(bg w _ _ rfl T.tm.symm).trans k2⟩,h.tape.O6.below (cK (bU w _ _) T.m0 h.tape.b0),h.tape.len⟩,⟨th,m,a,b,c,d,vH,hm,ahq,k5,⟨k6.own.1,?_⟩,λ_ _ _ _=>trivial⟩,h.nt,h.nm,h.ok,h.few⟩;rcases k6.own.2 with h1|⟨g,cap,cur,h1,h2,h3,h4⟩
 ·exact .inl h1
 ·exact .inr ⟨g,cap,cur,h1,h2,(bg w _ _ rfl abd).trans h3,h4⟩
theorem dN.th (h:dN w T H hs) (m:Int):dN (w.setCell ⟨T.bm,1,none⟩ (.int .i64 m)) T H hs:=by
 obtain⟨x,k1,k2⟩:=h.tape.blk;obtain⟨th,left,a,b,c,d,vH,k3,k4,k5,k6⟩:=h.Bw;refine⟨⟨⟨x,k1,(bg w _ _ rfl T.tm.symm).trans k2⟩,h.tape.O6.below (cK (bU w _ _) T.m0 h.tape.b0),h.tape.len⟩,⟨m,left,a,b,c,d,vH,k3,ahq,k5,⟨k6.own.1,?_⟩,λ_ _ _ _=>trivial⟩,h.nt,h.nm,h.ok,h.few⟩;rcases k6.own.2 with h1|⟨g,cap,cur,h1,h2,h3,h4⟩
 ·exact .inl h1
 ·exact .inr ⟨g,cap,cur,h1,h2,(bg w _ _ rfl abd).trans h3,h4⟩
theorem dN.flag (h:dN w T H hs) (j:Nat) (hj:j=3∨j=4∨j=5∨j=6) (q:Bool):dN (w.setCell ⟨T.bm,j,none⟩ (.bool q)) T H hs:=by
 obtain⟨x,k1,k2⟩:=h.tape.blk;obtain⟨th,left,a,b,c,d,vH,k3,k4,k5,k6⟩:=h.Bw;have hrow:jU T.B0 (w.setCell ⟨T.bm,j,none⟩ (.bool q)) vH hs:=by
  refine⟨⟨k6.own.1,?_⟩,λ_ _ _ _=>trivial⟩;rcases k6.own.2 with h1|⟨g,cap,cur,h1,h2,h3,h4⟩
  ·exact .inl h1
  ·exact .inr ⟨g,cap,cur,h1,h2,(bg w _ _ rfl abd).trans h3,h4⟩
 have OY:oL (w.setCell ⟨T.bm,j,none⟩ (.bool q)) T:=⟨⟨x,k1,(bg w _ _ rfl T.tm.symm).trans k2⟩,h.tape.O6.below (cK (bU w _ _) T.m0 h.tape.b0),h.tape.len⟩;rcases hj with rfl|rfl|rfl|rfl
 ·exact⟨OY,⟨th,left,q,b,c,d,vH,k3,ahq,k5,hrow⟩,h.nt,h.nm,h.ok,h.few⟩
 ·exact⟨OY,⟨th,left,a,q,c,d,vH,k3,ahq,k5,hrow⟩,h.nt,h.nm,h.ok,h.few⟩
 ·exact⟨OY,⟨th,left,a,b,q,d,vH,k3,ahq,k5,hrow⟩,h.nt,h.nm,h.ok,h.few⟩
 ·exact⟨OY,⟨th,left,a,b,c,q,vH,k3,ahq,k5,hrow⟩,h.nt,h.nm,h.ok,h.few⟩
theorem Mm.rD (h:Mm T H w w') (hH:Hx w H H1) (j:Nat) (v:Value):Mm T H w (w'.setCell ⟨T.bm,j,none⟩ v):=h.trans (Hx.refl _ _) ((Mm.aT1 (bU w' ⟨T.bm,j,none⟩ v)))
theorem dN.reads (h:dN w T H hs): ∃(th left:Int) (a b c d:Bool) (vH:Value),bY left∧w.cell? ⟨T.bm,0,none⟩=some (.pointer (some ⟨T.bt,0,none⟩))∧w.cell? ⟨T.bm,1,none⟩=some (.int .i64 th)∧w.cell? ⟨T.bm,2,none⟩=some (.int .i64 left)∧w.cell? ⟨T.bm,3,none⟩=some (.bool a)∧w.cell? ⟨T.bm,4,none⟩=some (.bool b)∧w.cell? ⟨T.bm,5,none⟩=some (.bool c)∧w.cell? ⟨T.bm,6,none⟩=some (.bool d)∧w.cell? ⟨T.bm,7,none⟩=some vH∧(∀j,w.frozen? ⟨T.bm,j,none⟩=false)∧vH.ownBlock=H∧jU T.B0 w vH hs:=by
 obtain⟨th,left,a,b,c,d,vH,k3,k4,k5,k6⟩:=h.Bw;exact⟨th,left,a,b,c,d,vH,k3,(bP k4 (j:=0) rfl).2,(bP k4 (j:=1) rfl).2,(bP k4 (j:=2) rfl).2,(bP k4 (j:=3) rfl).2,(bP k4 (j:=4) rfl).2,(bP k4 (j:=5) rfl).2,(bP k4 (j:=6) rfl).2,(bP k4 (j:=7) rfl).2,λj=>bK k4,k5,k6⟩
theorem dN.held {H':Option Nat} {hs':List ByteArray} {vH:Value} (h:dN w T H hs) (hw:w'=w1.setCell ⟨T.bm,7,none⟩ vH) (hg:w.grownBy w1 H) (hv:vH.ownBlock=H') (hH:Hx w H H') (hrow:jU T.B0 w1 vH hs') (hok: ∀x∈hs',x.size<=maxLen) (jM:hs'.length<=1000):dN w' T H' hs'∧Mm T H w w':=by
 subst hw;obtain⟨x,k1,k2⟩:=h.tape.blk;obtain⟨th,left,a,b,c,d,vH0,k3,k4,k5,k6⟩:=h.Bw;have h4:=(hg.block _ h.lt (λe=>h.nm e.symm)).trans k4;have h2:=(hg.block _ h.tape.lt (λe=>h.nt e.symm)).trans k2;have hb:Below T.B0 w w1:=⟨hg.os,hg.tape,hg.output,hg.size,λk hk=>hg.block k (aR hk h.tape.b0) (λe=>by have:=(h.hlt k e.symm).1;omega)⟩;have n1:H'≠some T.bt:=by
  rcases hH with rfl|⟨b,rfl,hb⟩
  ·exact h.nt
  ·intro e;injection e with e;have:=h.tape.lt;omega
 have n2:H'≠some T.bm:=by
  rcases hH with rfl|⟨b,rfl,hb⟩
  ·exact h.nm
  ·intro e;injection e with e;have:=h.lt;omega
 refine⟨⟨⟨⟨x,k1,(bg w1 _ _ rfl T.tm.symm).trans h2⟩,(h.tape.O6.below hb).below (cK (bU w1 _ _) T.m0 (aJ h.tape.b0 hg.size)),h.tape.len⟩,⟨th,left,a,b,c,d,vH,k3,by rw[dI h4];rfl,hv,⟨hrow.own.1,?_⟩,λ_ _ _ _=>trivial⟩,n1,n2,hok,jM⟩,(Mm.bz3 hg).trans (Hx.refl _ _) (Mm.aT1 (bU w1 ⟨T.bm,7,none⟩ vH))⟩;rcases hrow.own.2 with h1|⟨g,cap,cur,h1,h2,h3,h4⟩
 ·exact .inl h1
 ·exact .inr ⟨g,cap,cur,h1,h2,(bg w1 _ _ rfl (by intro e;exact n2 (by rw[<- hv,h1,<- e];rfl))).trans h3,h4⟩
theorem jU.pop {B:Nat} {v:Value} {x:ByteArray} {g n cap:Nat} (h:jU B w v (hs++[x])) (hv:v= .slice (some ⟨g,0,none⟩) n cap):jU B w (.slice (some ⟨g,0,none⟩) hs.length cap) hs:=by
 rcases h.own.2 with⟨h1,-⟩|⟨g',cap',cur,h1,h2,h3,h4,h5,h6,h7⟩
 ·rw[hv]at h1;cases h1
 ·rw[hv]at h1;injection h1 with e1 e2 e3;injection e1 with e1;injection e1 with e1;subst e1;subst e3;rw[aA,List.length_singleton]at h4 h7;refine⟨⟨ru Ap hs,.inr ⟨g,cap,cur,rfl,h2,h3,agH,h5,h6,?_⟩⟩,λ_ _ _ _=>trivial⟩;have:=congrArg (List.take (hs.length*1)) h7;rw[List.take_take,Nat.min_eq_left agH,List.flatMap_append,List.take_append_of_le_length (by rw[ru Ap];exact aB _)]at this;rw[this];exact List.take_of_length_le (by rw[ru Ap];exact aB _)
end
end Go.Proofs.YtdoplekppjkkpaaGreatDoor
