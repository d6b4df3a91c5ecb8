/- Expressions as data, and what it is that a row of them lies in memory. No program in sight. And what hangs on it. -/
import Derived.Test.YtldapdcphphodaaGreatDoorGA
import Derived.WalkSmall
import Derived.Deep.QuietTactic
import Derived.BigQuiet
import Derived.Deep.DeepCutAuto
import Derived.Deep.AppendLies
import Derived.Deep.MidRow
import Derived.Maps.Own
import Derived.Maps.OwnSet
import Derived.Maps.Views
import Derived.IntWalk
import Derived.Outline
import Derived.StillTailTactics
set_option linter.unusedSimpArgs false
set_option linter.unusedVariables false
set_option maxHeartbeats 40000000
set_option maxRecDepth 1000000
namespace Go.Proofs.YtldapdcphphodaaGreatDoor
open Go.RowKit
theorem dY (w:World) (cs:List Value) (t:TypeId) (j:Nat):(w.alloc (.cells cs.toArray t)).cell? ⟨w.heap.size,j,none⟩=cs[j]?:=NW w cs t j
def vI (w W:World) (a b c d:Value):Prop:=
 Below w.heap.size w W∧w.heap.size<W.heap.size∧W.cell? ⟨w.heap.size,0,none⟩=some a∧W.cell? ⟨w.heap.size,1,none⟩=some b∧W.cell? ⟨w.heap.size,2,none⟩=some c∧W.cell? ⟨w.heap.size,3,none⟩=some d
theorem vI.mk {w W:World} {a b c d:Value} {t:TypeId} (h:w.alloc (.cells #[a,b,c,d] t)=W):vI w W a b c d:=by
 subst h;exact⟨(ak _ _).alloc (aH _) _,ahg,dY w [a,b,c,d] t 0,dY w [a,b,c,d] t 1,dY w [a,b,c,d] t 2,dY w [a,b,c,d] t 3⟩
theorem vI.next {w W W':World} {a b c d:Value} (h:vI w W a b c d) (hb:Below W.heap.size W W'):vI w W' a b c d:=by
 obtain⟨h0,hs,c0,c1,c2,c3⟩:=h;exact⟨h0.trans (hb.mono h0.size),aJ hs hb.size,(hb.cell hs).trans c0,(hb.cell hs).trans c1,(hb.cell hs).trans c2,(hb.cell hs).trans c3⟩
theorem vI.draws {w W:World} {a b c d:Value} (h:vI w W a b c d) (n:Nat):vI w (W.drewN n) a b c d:=h.next (below_drewN (ak _ _) n)
namespace Md
def dD (n:Int):Prop:= -9223372036854775808<=n∧n<=9223372036854775807
inductive bY where
 |nil
 |cons (op n:Int) (nm:ByteArray) (kids rest:bY)
def bY.len:bY->Nat
 | .nil=>0
 | .cons _ _ _ _ r=>r.len+1
def ru (op n:Int) (nm:ByteArray) (kids:bY):Prop:=dD op∧dD n∧nm.size<=maxLen∧kids.len<=maxLen
def bY.At (w:World) (B:Nat):bY->Option Addr->Nat->Prop
 | .nil,_,_=>True
 | .cons op n nm kids rest,ao,k=>
   (∃b off kR cap,ao=some ⟨b,off,none⟩∧b<B∧w.cell? ⟨b,off+k*4,none⟩=some (.int .i64 op)∧w.cell? ⟨b,off+k*4+1,none⟩=some (.int .i64 n)∧
    w.cell? ⟨b,off+k*4+2,none⟩=some (.string nm)∧w.cell? ⟨b,off+k*4+3,none⟩=some (.slice kR kids.len cap)∧ru op n nm kids∧kids.At w B kR 0)∧
   rest.At w B ao (k+1)
theorem bY.At.below {w w':World} {B:Nat} (hb:Below B w w'): ∀ {l:bY} {ao:Option Addr} {k:Nat},l.At w B ao k->l.At w' B ao k
 | .nil,_,_,_=>trivial
 | .cons _ _ _ _ _,_,_,h=>by obtain⟨⟨b,off,kR,cap,e,hB,c0,c1,c2,c3,hok,hk⟩,hr⟩:=h;exact⟨⟨b,off,kR,cap,e,hB,(hb.cell hB).trans c0,(hb.cell hB).trans c1,(hb.cell hB).trans c2,(hb.cell hB).trans c3,hok,hk.below hb⟩,hr.below hb⟩
theorem bY.At.mono {w:World} {B B':Nat} (hB':B<=B'): ∀ {l:bY} {ao:Option Addr} {k:Nat},l.At w B ao k->l.At w B' ao k
 | .nil,_,_,_=>trivial
 | .cons _ _ _ _ _,_,_,h=>by obtain⟨⟨b,off,kR,cap,e,hB,c0,c1,c2,c3,hok,hk⟩,hr⟩:=h;exact⟨⟨b,off,kR,cap,e,aJ hB hB',c0,c1,c2,c3,hok,hk.mono hB'⟩,hr.mono hB'⟩
theorem bY.At.same {w w':World} {l:bY} {ao:Option Addr} {k:Nat} (h:l.At w w.heap.size ao k) (hb:Below w.heap.size w w'):l.At w' w'.heap.size ao k:=
 (h.below hb).mono hb.size
def bY.All (Q:Int->Int->ByteArray->bY->Prop):bY->Prop
 | .nil=>True
 | .cons op n nm kids rest=>Q op n nm kids∧rest.All Q
theorem bY.mW {Q:Int->Int->ByteArray->bY->Prop} (step: ∀op n nm kids,kids.All Q->Q op n nm kids): ∀l:bY,l.All Q
 | .nil=>trivial
 | .cons op n nm kids rest=>⟨step op n nm kids (mW step kids),mW step rest⟩
theorem bY.yB {Q:Int->Int->ByteArray->bY->Prop} (step: ∀op n nm kids,kids.All Q->Q op n nm kids) (op n:Int) (nm:ByteArray) (kids:bY):Q op n nm kids:=
 step op n nm kids (bY.mW step kids)
def opsOf (op:Int):Int:=if op==1||op==2 then 0 else if op==3||op==4||op==5 then 1 else if decide (6<=op)&&decide (op<=18)then 2 else -1
def named (op:Int):Bool:=op==2||op==3
def kP (nm:ByteArray) (b:Bool):Bool:=if b then Tk.iZ nm.data.toList else nm.data.toList.isEmpty
def I5 (op n:Int) (nm:ByteArray) (len:Nat):Bool:=((len:Int)==opsOf op)&&(!(decide (n<0)||(!(n==0)&& !(op==1)))&&kP nm (named op))
def mJ:bY->Bool
 | .nil=>true
 | .cons op n nm kids rest=>(I5 op n nm kids.len&&mJ kids)&&mJ rest
def jJ (op n:Int) (nm:ByteArray) (kids:bY):Bool:=I5 op n nm kids.len&&mJ kids
end Md
open Md
theorem nu {P:Program} {f:FuncId} {args:Array Value} {w:World} {n:Nat} {v:Value} (h:Calls P f args (w.drewN n) λe w'=>e= .returned v∧w.drewN n=w'):
 Calls P f args (w.drewN n) λe w''=>e= .returned v∧∃m,w''=w.drewN m:=h.mono λ_ _ ⟨he,hm⟩=>⟨he,n,hm.symm⟩
theorem iR {P:Program} {id:Nat} {Q:Exit->Act->World->Prop} {a:Act} {w:World} {l:List Oper} {T:Type} (F:T->World) (hm:P.follows .mixedOrders=true) (hB:Region.lexB .any l.toArray=true)
 (h1: ∃x,w.drewN 1=F x) (h:wpQuiet P l.toArray (λw'=> ∃x,w'=F x) (λa'=> ∀w',(∃x,w'=F x)->Q .normal a' w') l a):(Code.region id l.toArray true).wp P Q a w:=
 wp_region_quiet (C:=λw'=> ∃x,w'=F x) hm hB h1 aiq
theorem calm (W:World): ∃(T:Type) (F:T->World),Nonempty T∧(∃x,W.drewN 1=F x)∧(∀x,Below W.heap.size W (F x))∧∀x w',Below (F x).heap.size (F x) w'->∃y,w'=F y:=
 ⟨{W' // Below W.heap.size W W'},Subtype.val,⟨⟨_,ak _ _⟩⟩,⟨⟨_,below_drewN (ak _ _) 1⟩,rfl⟩,λx=>x.2,λx w' hb=>⟨⟨w',x.2.trans (hb.mono x.2.size)⟩,rfl⟩⟩
section
abbrev RP:=Value->World->Prop
def eO (a:Act):Option Tmp->Value
 |none=>undef
 |some d=>a.eval (.tmp d)
def KU (ents:List (Option Tmp×RP)) (A:Act) (w:World):List Edge->Prop
 | []=>True
 |e::r=>(if Region.binds .any e=true then(match ents[e.on]? with|some (d,R)=>R (eO A d) w|none=>True)else True)∧KU ents A w r
def gd (ents:List (Option Tmp×RP)) (A:Act) (o:Oper):Bool:=
 match o.guard with
 |none=>true
 |some (g,b)=>match ents[g]? with
  |some (some d,_)=>match A.eval (.tmp d)with
   | .bool x=>x==b
   |_=>false
  |_=>false
def aO (C:World->Prop) (Le:World->World->Prop) (R:RP) (A:Act) (dst:Option Tmp) (w:World) (a':Act) (w':World):Prop:=
 ∃v,a'=A.put dst v∧Le w w'∧C w'∧R (if dst.isSome then v else undef) w'
theorem aO.mk {C:World->Prop} {Le:World->World->Prop} {R:RP} {A:Act} {d:Tmp} {w w':World} {v:Value} (hle:Le w w') (hC:C w') (hR:R v w'):aO C Le R A (some d) w (A.put (some d) v) w':=⟨v,rfl,hle,hC,hR⟩
theorem aO.qK {C:World->Prop} {Le:World->World->Prop} {R:RP} {A:Act} {w w':World} {v:Value} (hle:Le w w') (hC:C w') (hR:R undef w'):aO C Le R A none w (A.put none v) w':=⟨v,rfl,hle,hC,hR⟩
def WA (P:Program) (a0:Act) (Q:Exit->Act->World->Prop) (C:Bool->World->Prop) (Le:World->World->Prop) (fC:List Tmp) (ents:List (Option Tmp×RP)) (o:Oper) (R:RP) (isK:Bool):Prop:=
 ∀β A w,(isK=true->β=false)->C β w->(∀s,fC.contains s=false->A.eval (.tmp s)=a0.eval (.tmp s))->KU ents A w o.after.toList->
  if gd ents A o then o.wp P A w (aO (C (β||isK)) Le R A o.dst w) Q else(isK=false∧R undef w)
def bT (c:Value):RP:=λv _=>v=c
theorem bT.mono {c:Value} {Le:World->World->Prop} : ∀v w w',Le w w'->bT c v w->bT c v w':=λ_ _ _ _ h=>h
theorem bT.mk (c:Value) (w:World):bT c c w:=rfl
def dH (w:World) (K:Act->Prop):List (Option Tmp×RP)->Act->Prop
 | [],a=>K a
 |(d,R)::r,a=> ∀v,R v w->dH w K r (a.put d v)
theorem jk {w:World} {K:Act->Prop} {a:Act} {d:Option Tmp} {x:Value} {r:List (Option Tmp×RP)} (h:dH w K r (a.put d x)):dH w K ((d,bT x)::r) a:=λv hv=>by
 rw[show v=x from hv];exact h
attribute [simp] KU bT eO Region.binds
def eZ (P:Program) (a0:Act) (Q:Exit->Act->World->Prop) (C:Bool->World->Prop) (Le:World->World->Prop) (fC:List Tmp) (k0:Nat):List Oper->List (Option Tmp×RP)->Prop
 | [],ents=> ∀w,C (decide (k0<ents.length)) w->dH w (λa=>Q .normal a w) ents a0
 |o::rest,ents=> ∃R:RP,(∀v w w',Le w w'->R v w->R v w')∧WA P a0 Q C Le fC ents o R (decide (ents.length=k0))∧eZ P a0 Q C Le fC k0 rest (ents++[(o.dst,R)])
section
variable {P:Program} {a0:Act} {Q:Exit->Act->World->Prop} {C:Bool->World->Prop} {Le:World->World->Prop} {fC:List Tmp} {k0:Nat}
theorem eZ.full: ∀ {l:List Oper} {ents:List (Option Tmp×RP)},eZ P a0 Q C Le fC k0 l ents->∃full:List (Option Tmp×RP),full.length=ents.length+l.length∧full.take ents.length=ents∧
 (∀(i:Nat) (o:Oper),l[i]? =some o->∃R,full[ents.length+i]? =some (o.dst,R)∧(∀v w w',Le w w'->R v w->R v w')∧WA P a0 Q C Le fC (full.take (ents.length+i)) o R (decide (ents.length+i=k0)))∧
 ∀w,C (decide (k0<full.length)) w->dH w (λa=>Q .normal a w) full a0
 | [],ents,h=>⟨ents,ahg,ahg,ahg,h⟩
 |o::rest,ents,h=>by
  obtain⟨R,hm,ho,hr⟩:=h;obtain⟨full,h1,h2,h3,h4⟩:=eZ.full hr;simp only[au,ay,aI,aV]at h1 h2 h3;have hlen:ents.length<full.length:=ahe
  have hget:full[ents.length]? =some (o.dst,R):=abg
  refine⟨full,ahh,?_,?_,h4⟩
  ·have:=congrArg (List.take ents.length) h2;simpa[List.take_take]using this
  ·intro i o' hi;cases i with
   |zero=>simp only[List.getElem?_cons_zero,Option.some.injEq]at hi;subst hi;refine⟨R,agX,hm,?_⟩;have:full.take (ents.length+0)=ents:=aaA;rw[this];exact ho
   |succ i=>have hi':rest[i]? =some o':=ahA;have:=h3 i o' hi';rw[show ents.length+(i+1)=ents.length+1+i by omega];exact this
theorem eZ.step {o:Oper} {rest:List Oper} {ents:List (Option Tmp×RP)} {v:Value} (aZ:WA P a0 Q C Le fC ents o (bT v) (decide (ents.length=k0))) (hrest:eZ P a0 Q C Le fC k0 rest (ents++[(o.dst,bT v)])):eZ P a0 Q C Le fC k0 (o::rest) ents:=
 ⟨bT v,bT.mono,aZ,hrest⟩
theorem eZ.some {o:Oper} {rest:List Oper} {ents:List (Option Tmp×RP)} (R:RP) (hmono: ∀v w w',Le w w'->R v w->R v w') (aZ:WA P a0 Q C Le fC ents o R (decide (ents.length=k0))) (hrest:eZ P a0 Q C Le fC k0 rest (ents++[(o.dst,R)])):eZ P a0 Q C Le fC k0 (o::rest) ents:=
 ⟨R,hmono,aZ,hrest⟩
theorem dH.use {w:World} {K:Act->Prop} {a':Act} : ∀ {ents:List (Option Tmp×RP)} {a:Act},dH w K ents a->(∀(i:Nat) (d:Option Tmp) (R:RP),ents[i]? =some (d,R)->R (eO a' d) w)->
 a'.defers=a.defers->a'.tmps.size=a.tmps.size->(∀s:Nat,(∀(i:Nat) (d:Tmp) (R:RP),ents[i]? =some (some d,R)->d≠s)->a'.tmps[s]? =a.tmps[s]?)->K a'
 | [],a,h,_,hd,_,hs=>by
   have e:a'=a:=by cases a';cases a;simp only at hd hs⊢;congr 1;exact Array.ext_getElem? (λs=>hs s ahg)
   rw[e];exact h
 |(d,R)::r,a,h,hR,hd,hz,hs=>by
  have h1:=h (eO a' d) (hR 0 d R rfl);refine dH.use h1 (λi d' R' hi=>hR (i+1) d' R' ahA) ?_ ?_ ?_
  ·cases d <;> simpa[Act.put]using hd
  ·cases d <;> simpa[Act.put]using hz
  ·intro s hne;cases d with
   |none=>exact hs s (λi d' R' hi=>by
    cases i with
    |zero=>simp at hi
    |succ i=>exact hne i d' R' ahA)
   |some d=>
    by_cases hds:d=s
    ·subst hds;simp only[Act.put,eO,Act.eval];by_cases hlt:d<a.tmps.size
     ·have hlt':d<a'.tmps.size:=(by rw[hz];exact hlt);rw[Array.getElem?_setIfInBounds_self_of_lt hlt];simp[Array.getElem?_eq_getElem hlt']
     ·have hge:a.tmps.size<=d:=Nat.le_of_not_lt hlt;rw[Array.getElem?_eq_none (by rw[hz];exact hge),Array.getElem?_eq_none (by rw[Array.size_setIfInBounds];exact hge)]
    ·rw[hs s (λi d' R' hi=>by
      cases i with
      |zero=>simp at hi;rw[<- hi.1];exact hds
      |succ i=>exact hne i d' R' ahA)]
     simp[Act.put,Array.getElem?_setIfInBounds_ne hds]
def cnt (listed:Array Bool):Nat->Nat
 |0=>0
 |k+1=>cnt listed k+if listed.getD k false then 0 else 1
theorem Il {listed:Array Bool} {i:Nat} (hi:i<listed.size) (hu:listed.getD i false=false): ∀n,cnt (listed.setIfInBounds i true) n+(if i<n then 1 else 0)=cnt listed n
 |0=>by simp[cnt]
 |n+1=>by
  have ih:=Il hi hu n;simp only[cnt];by_cases hin:i=n
  ·subst hin;have h1:(listed.setIfInBounds i true).getD i false=true:=by simp[hi]
   rw[h1,hu];simp only[Nat.lt_irrefl,if_false]at ih;simp;omega
  ·rw[getD_set_ne false hin];by_cases hlt:i<n
   ·have h2:i<n+1:=ahe;simp only[hlt,if_true]at ih;simp only[h2,if_true];omega
   ·have h2: ¬i<n+1:=ahe;simp only[hlt,if_false]at ih;simp only[h2,if_false];omega
theorem EM {listed:Array Bool} : ∀ {n:Nat},cnt listed n=0->∀i,i<n->listed.getD i false=true
 |0,_,_,hi=>absurd hi ahe
 |n+1,h,i,hi=>by
  simp only[cnt]at h;by_cases hin:i=n
  ·subst hin;cases hg:listed.getD i false
   ·rw[hg]at h;simp at h
   ·rfl
  ·exact EM (n:=n) ahe i ahe
def Vy (fC:List Tmp) (l:List Oper):Bool:=
 (l.filterMap (·.dst)==fC)&&decide fC.Nodup&&(l.zipIdx.all λx=>(x.1.after.all λe=>decide (e.on<x.2))&&(match x.1.guard with|none=>true|some (g,_)=>decide (g<x.2)))
theorem Da: ∀ {l:List Oper},(l.filterMap (·.dst)).Nodup->∀(i j:Nat) (oi oj:Oper) (d:Tmp),l[i]? =some oi->l[j]? =some oj->oi.dst=some d->oj.dst=some d->i=j
 | [],_,i,_,_,_,_,h,_,_,_=>ahD
 |o::r,hn,i,j,oi,oj,d,hi,hj,hdi,hdj=>by
  have key: ∀(k:Nat) (ok:Oper),r[k]? =some ok->ok.dst=some d->o.dst=some d->False:=λk ok hk hdk ho=>by rw[List.filterMap_cons_some ho]at hn;exact(List.nodup_cons.1 hn).1 (List.mem_filterMap.2 ⟨ok,List.mem_of_getElem? hk,hdk⟩)
  have hn':(r.filterMap (·.dst)).Nodup:=by
   cases ho:o.dst with
   |none=>rwa [List.filterMap_cons_none ho]at hn
   |some d'=>rw[List.filterMap_cons_some ho]at hn;exact(List.nodup_cons.1 hn).2
  cases i with
  |zero=>
   cases j with
   |zero=>rfl
   |succ j=>simp only[List.getElem?_cons_zero,Option.some.injEq,List.getElem?_cons_succ]at hi hj;subst hi;exact(key j oj hj hdj hdi).elim
  |succ i=>
   cases j with
   |zero=>simp only[List.getElem?_cons_zero,Option.some.injEq,List.getElem?_cons_succ]at hi hj;subst hj;exact(key i oi hi hdi hdj).elim
   |succ j=>simp only[List.getElem?_cons_succ]at hi hj;rw[Da hn' i j oi oj d hi hj hdi hdj]
theorem Mj {full:List (Option Tmp×RP)} {A:Act} {w:World} {i:Nat} : ∀ {l:List Edge},(∀e∈l,Region.binds .any e=true->∀(d:Option Tmp) (R:RP),full[e.on]? =some (d,R)->R (eO A d) w)->KU (full.take i) A w l
 | [],_=>trivial
 |e::r,h=>by
  refine⟨?_,Mj λe' he'=>h e' (by simp[he'])⟩;split
  case isFalse=>trivial
  case isTrue hb=>
  cases hg:(full.take i)[e.on]? with
  |none=>trivial
  |some x=>
   obtain⟨d,R⟩:=x;rw[List.getElem?_take]at hg;split at hg
   ·exact h e ahg hb d R hg
   ·cases hg
def aF0 (a0:Act) (C:Bool->World->Prop) (k0:Nat) (full:List (Option Tmp×RP)) (n:Nat) (listed:Array Bool) (a:Act) (w:World):Prop:=
 listed.size=n∧C (listed.getD k0 false) w∧a.defers=a0.defers∧a.tmps.size=a0.tmps.size∧
 (∀s:Nat,(∀(i:Nat) (d:Tmp) (R:RP),full[i]? =some (some d,R)->listed.getD i false=true->d≠s)->a.tmps[s]? =a0.tmps[s]?)∧
 ∀(i:Nat) (d:Option Tmp) (R:RP),full[i]? =some (d,R)->listed.getD i false=true->R (eO a d) w
theorem YR {ops:Array Oper} {full:List (Option Tmp×RP)} {o:Oper} {A:Act} {i:Nat} (hf: ∀(k:Nat) (ok:Oper),ops[k]? =some ok->∃R,full[k]? =some (ok.dst,R)) (hlen:full.length=ops.size)
 (hg: ∀g b,o.guard=some (g,b)->g<i):Region.wanted o (yielded ops A.tmps)=gd (full.take i) A o:=by
 unfold Region.wanted gd;cases ho:o.guard with
 |none=>rfl
 |some x=>
  obtain⟨g,b⟩:=x;have hgi:=hg g b ho;simp only;rw[List.getElem?_take,if_pos hgi];unfold yielded;cases hk:ops[g]? with
  |none=>have:full[g]? =none:=List.getElem?_eq_none acj;rw[this];rfl
  |some ok=>
   obtain⟨R,hR⟩:=hf g ok hk;rw[hR];simp only[Option.bind_some];cases hd:ok.dst with
   |none=>rfl
   |some d=>
    simp only[Option.bind_some,Act.eval];cases ht:A.tmps[d]? with
    |none=>simp[ht,undef]
    |some v=>simp only[Array.getD_eq_getD_getElem?,ht,Option.getD_some];cases v <;> first|rfl|(rename_i x;cases x <;> cases b <;> rfl)
theorem ah2 {l:List Oper} {full:List (Option Tmp×RP)} (El: ∀w,Le w w) (hbd: ∀d∈fC,d<a0.tmps.size) (hlen:full.length=l.length) (hnd:(l.filterMap (·.dst)).Nodup) (tZ:l.filterMap (·.dst)=fC)
 (hed: ∀(i:Nat) (o:Oper),l[i]? =some o->∀e∈o.after,e.on<i) (hgu: ∀(i:Nat) (o:Oper),l[i]? =some o->∀g b,o.guard=some (g,b)->g<i)
 (hf: ∀(i:Nat) (o:Oper),l[i]? =some o->∃R,full[i]? =some (o.dst,R)∧(∀v w w',Le w w'->R v w->R v w')∧WA P a0 Q C Le fC (full.take i) o R (decide (i=k0)))
 (hend: ∀w,C (decide (k0<l.length)) w->dH w (λa=>Q .normal a w) full a0):
 ∀(fuel:Nat) (listed:Array Bool) (a:Act) (w:World),cnt listed l.length<=fuel->aF0 a0 C k0 full l.length listed a w->wpAny P .any l.toArray Q fuel listed a w:=by
 have hmono: ∀(i:Nat) (d:Option Tmp) (R:RP),full[i]? =some (d,R)->∀v w w',Le w w'->R v w->R v w':=λi d R hi=>by
  have hlt:i<l.length:=aaZ
  obtain⟨R',h1,h2,-⟩:=hf i l[i] (bJ hlt);rw[hi]at h1;simp only[Option.some.injEq,Prod.mk.injEq]at h1;rw[h1.2];exact h2
 have hdst: ∀(i:Nat) (d:Option Tmp) (R:RP),full[i]? =some (d,R)->∃o,l[i]? =some o∧o.dst=d:=λi d R hi=>by
  have hlt:i<l.length:=aaZ
  obtain⟨R',h1,-⟩:=hf i l[i] (bJ hlt);rw[hi]at h1;simp only[Option.some.injEq,Prod.mk.injEq]at h1;exact⟨l[i],bJ hlt,h1.1.symm⟩
 have hall: ∀listed a w,aF0 a0 C k0 full l.length listed a w->(∀i,i<l.length->listed.getD i false=true)->Q .normal a w:=λlisted a w hI ha=>by
  obtain⟨hsz0,hC,hd,hz,hs,hR⟩:=hI;have hk:listed.getD k0 false=decide (k0<l.length):=by
   by_cases h:k0<l.length
   ·rw[ha k0 h,decide_eq_true h]
   ·have hsz:listed.size=l.length:=(by assumption);rw[decide_eq_false h];simp[Array.getElem?_eq_none (show listed.size<=k0 by omega)]
  rw[hk]at hC;refine(hend w hC).use (λi d R hi=>hR i d R hi (ha i ?_)) hd hz (λs hne=>hs s (λi d R hi _=>hne i d R hi));rw[<- hlen];exact(List.getElem?_eq_some_iff.1 hi).1
 have GV: ∀listed:Array Bool,listed.size=l.length->Region.ready .any l.toArray listed=[]->∀i,i<l.length->listed.getD i false=true:=λlisted hsz hr i=>by
  induction i using Nat.strongRecOn with
  |_ i ih=>
   intro hi;cases hg:listed.getD i false with
   |true=>rfl
   |false=>exfalso;have:i∈Region.ready .any l.toArray listed:=mem_ready.2 ⟨abf,l[i],by simp[hi],λe he _=>ih e.on (hed i l[i] (bJ hi) e he) (by have:=hed i l[i] (bJ hi) e he;omega)⟩;rw[hr]at this;cases this
 intro fuel
 induction fuel with
 |zero=>
  intro listed a w hc hI;have ha:=EM (Nat.le_zero.1 hc);refine⟨?_,hall listed a w hI ha⟩;rw[List.eq_nil_iff_forall_not_mem];intro i hi;obtain⟨h0,o,ho,-⟩:=mem_ready.1 hi;have hlt:i<l.length:=afW
  have:=ha i hlt;have h1:i<listed.size:=agh
  simp[h1]at h0 this;rw[h0]at this;cases this
 |succ fuel ih=>
  intro listed a w hc hI;refine⟨λhr=>hall listed a w hI (GV listed hI.1 hr),λi hi=> ?_⟩;obtain⟨h0,o,ho,Dt⟩:=mem_ready.1 hi;have hlt:i<l.length:=afW
  have hlo:l[i]? =some o:=by simpa using ho
  have hls:i<listed.size:=agh
  have hun:listed.getD i false=false:=agJ
  obtain⟨R,Ja,hRm,Xy⟩:=hf i o hlo;obtain⟨hsz,hC,hd,hz,hs,hR⟩:=hI;have hW:=YR (A:=a) (o:=o) (i:=i) (ops:=l.toArray) (full:=full) (λk ok hk=>abq) afm (hgu i o hlo);have hstep:=Xy (listed.getD k0 false) a w (λhk=>by rw[<- of_decide_eq_true hk];exact hun) hC (λs hs'=>χ) (Mj (λe he hb d R' hR'=>hR e.on d R' hR' (Dt e ahH hb)));have hnext: ∀(v:Value) (w':World),Le w w'->C (listed.getD k0 false||decide (i=k0)) w'->R (eO (a.put o.dst v) o.dst) w'->wpAny P .any l.toArray Q fuel (listed.setIfInBounds i true) (a.put o.dst v) w':=λv w' hle hC' hv=>by
   refine ih _ _ _ ?_ ⟨by simp[hsz],?_,?_,?_,?_,?_⟩
   rotate_left
   ·have:(listed.setIfInBounds i true).getD k0 false=(listed.getD k0 false||decide (i=k0)):=by
     by_cases hk:i=k0
     ·subst hk;simp[hls]
     ·rw[getD_set_ne false hk,decide_eq_false hk,Bool.or_false]
    rw[this];exact hC'
   rotate_right
   ·have:=Il hls hun l.length;rw[if_pos hlt]at this;omega
   ·cases o.dst <;> simpa[Act.put]using hd
   ·cases o.dst <;> simpa[Act.put]using hz
   ·intro s hne;have h1:a.tmps[s]? =a0.tmps[s]?:=hs s (λk d R' hk hl=>hne k d R' hk (getD_set_true hl));cases hod:o.dst with
    |none=>simpa[Act.put]using h1
    |some d=>have hds:d≠s:=hne i d R aia (by simp[hls]);simp only[Act.put];rw[Array.getElem?_setIfInBounds_ne hds];exact h1
   ·intro k d R' hk hl;by_cases hik:i=k
    ·subst hik;rw[Ja]at hk;simp only[Option.some.injEq,Prod.mk.injEq]at hk;obtain⟨rfl,rfl⟩:=hk;exact hv
    ·have hl':listed.getD k false=true:=adD;have h1:=hmono k d R' hk _ _ _ hle (hR k d R' hk hl');have:eO (a.put o.dst v) d=eO a d:=by
      cases hod:o.dst with
      |none=>rfl
      |some d1=>
       cases d with
       |none=>rfl
       |some d2=>
        have hne:d1≠d2:=λe=>aak
        simp[eO,Act.eval,Act.put,Array.getElem?_setIfInBounds_ne hne]
     rw[this];exact h1
  unfold wpOp;simp only[ho];rw[hW];cases hgd:gd (full.take i) a o with
  |true=>
   rw[hgd]at hstep;simp only[if_true]at hstep⊢;refine Or.inl (Oper.wp_mono ?_ hstep);rintro a' w' ⟨v,rfl,hle,hC',hv⟩;refine hnext v w' hle hC' ?_;cases hod:o.dst with
   |none=>rw[hod]at hv;exact hv
   |some d=>rw[hod]at hv;simp only[Option.isSome_some,if_true]at hv;have hdl:d<a.tmps.size:=ο;simpa[eO,Act.eval,Act.put,hdl]using hv
  |false=>
   rw[hgd]at hstep;simp only[Bool.false_eq_true,if_false]at hstep⊢;refine hnext undef w (El w) (by rw[hstep.1,Bool.or_false];exact hC) ?_;cases hod:o.dst with
   |none=>exact hstep.2
   |some d=>have hdl:d<a.tmps.size:=ο;simpa[eO,Act.eval,Act.put,hdl]using hstep.2
theorem xI {f:Oper×Nat->Bool} {l:List Oper} (h:l.zipIdx.all f=true) (i:Nat) (o:Oper) (hi:l[i]? =some o):f (o,i)=true:=by
 rw[List.all_eq_true]at h;refine h (o,i) (List.mem_of_getElem? (i:=i) ?_);rw[List.getElem?_zipIdx,hi];simp
theorem yK {id:Nat} {l:List Oper} {w:World} (k0:Nat) (C:Bool->World->Prop) (Le:World->World->Prop) (fC:List Tmp) (hm:P.follows .mixedOrders=true) (hB:Vy fC l=true) (El: ∀w,Le w w) (hbd:(fC.all λd=>decide (d<a0.tmps.size))=true) (hC:C false (w.drewN 1))
 (h:eZ P a0 Q C Le fC k0 l []):(Code.region id l.toArray true).wp P Q a0 w:=by
 unfold Vy at hB;simp only[aP,beq_iff_eq,decide_eq_true_eq]at hB;obtain⟨⟨tZ,hnd⟩,hz⟩:=hB;obtain⟨full,h1,-,h3,h4⟩:=h.full;simp only[aI,aV]at h1 h3;have hed: ∀(i:Nat) (o:Oper),l[i]? =some o->(∀e∈o.after,e.on<i)∧∀g b,o.guard=some (g,b)->g<i:=λi o hi=>by have:=xI hz i o hi;simp only[aP,Array.all_eq_true_iff_forall_mem,decide_eq_true_eq]at this;refine⟨this.1,λg b hg=> ?_⟩;have h2:=this.2;rw[hg]at h2;simpa using h2
 refine wp_region_any hm ?_;have hdr:({w with drawn:=w.drawn+1} :World)=w.drewN 1:=rfl;rw[hdr];refine ah2 El (λd hd=>abk) h1 (by rw[tZ];exact hnd) tZ (λi o hi=>(hed i o hi).1) (λi o hi=>(hed i o hi).2) h3 (by rw[<- h1];exact h4) _ _ _ _ ?_ ⟨ahg,by rw[show(Array.replicate l.toArray.size false).getD k0 false=false by(rw[Array.getD_eq_getD_getElem?];by_cases hk:k0<l.length <;> simp[hk])];exact hC,rfl,rfl,λ_ _=>rfl,λi d R _ hl=> ?_⟩
 ·have: ∀n,cnt (Array.replicate l.toArray.size false) n<=n:=λn=>by
   induction n with
   |zero=>simp[cnt]
   |succ n ih=>simp only[cnt];split <;> omega
  simpa using this l.length
 ·exfalso;rw[Array.getD_eq_getD_getElem?]at hl;by_cases hi:i<l.length
  ·simp[hi]at hl
  ·rw[Array.getElem?_eq_none ahA]at hl;cases hl
theorem rX {id:Nat} {l:List Oper} {w:World} (C:World->Prop) (Le:World->World->Prop) (fC:List Tmp) (hm:P.follows .mixedOrders=true) (hB:Vy fC l=true) (El: ∀w,Le w w) (hbd:(fC.all λd=>decide (d<a0.tmps.size))=true) (hC:C (w.drewN 1))
 (h:eZ P a0 Q (λ_=>C) Le fC 1000000 l []):(Code.region id l.toArray true).wp P Q a0 w:=yK 1000000 (λ_=>C) Le fC hm hB El hbd hC h
end
end
def oP (o:Oper):List Nat:=(o.after.toList.filter (Region.binds .any)).map (·.on)
def UG (l:List Oper) (su:List (List Nat)):Bool:=l.zipIdx.all λx=>(su.getD x.2 []).all λk=>(oP x.1).any λd=>d==k||(su.getD d []).contains k
def okB:List (Option Bool)->List Bool->Prop
 |some x::r,b::bs=>b=x∧okB r bs
 |none::r,_::bs=>okB r bs
 | [],[]=>True
 |_,_=>False
def iE:List Nat->List Bool->Nat->List Bool
 |x::r,b::bs,i=>(b||x==i)::iE r bs i
 |_,_,_=>[]
def ZP (n:Nat) (ws:List Nat) (su:List (List Nat)) (bnd:List (List (Option Bool))):Bool:=
 decide (bnd.length=n)&&(ws.all λw=>decide (w<n))&&(List.range n).all λi=>decide ((bnd.getD i []).length=ws.length)&&((bnd.getD i []).zip ws).all λx=>match x.1 with|none=>true|some true=>(su.getD i []).contains x.2|some false=>(su.getD x.2 []).contains i||x.2==i
theorem zZ {o:Oper} {e:Edge} (he:e∈o.after) (hb:Region.binds .any e=true):e.on∈oP o:=by
 unfold oP;exact List.mem_map.2 ⟨e,List.mem_filter.2 ⟨ahH,hb⟩,rfl⟩
def Ht (n:Nat) (su:List (List Nat)) (k1:Nat):Bool:=(List.range n).all λi=>decide (i<k1)||(List.range k1).all λj=>(su.getD i []).contains j
def nW (n k:Nat):Array Bool:=((List.range n).map λi=>decide (i<k)).toArray
theorem kG (n k i:Nat):(nW n k).getD i false=(decide (i<n)&&decide (i<k)):=by
 unfold nW;rw[Array.getD_eq_getD_getElem?,List.getElem?_toArray,List.getElem?_map];by_cases h:i<n
 ·rw[List.getElem?_range h];simp[h]
 ·rw[List.getElem?_eq_none ahh];simp[h]
theorem sG (n k:Nat):(nW n k).size=n:=by simp[nW]
theorem Mx {n k:Nat} {listed:Array Bool} (hs:listed.size=n) (h1: ∀i,i<k->listed.getD i false=true) (h2: ∀i,k<=i->listed.getD i false=false):listed=nW n k:=by
 refine Array.ext (by rw[hs,sG]) (λi hi hi'=> ?_);have e1:listed.getD i false=listed[i]:=by rw[Array.getD_eq_getD_getElem?,Array.getElem?_eq_getElem hi];rfl
 have e2:(nW n k).getD i false=(nW n k)[i]:=by rw[Array.getD_eq_getD_getElem?,Array.getElem?_eq_getElem hi'];rfl
 rw[<- e1,<- e2,kG];have hin:i<n:=by rw[<- hs];exact hi
 by_cases hk:i<k
 ·rw[h1 i hk];simp[hin,hk]
 ·rw[h2 i ahe];simp[hk]
theorem Jz (n k:Nat) (hk:k<=n): ∀m,m<=n->cnt (nW n k) m=m -k
 |0,_=>by simp[cnt]
 |m+1,hm=>by
  have ih:=Jz n k hk m ahe;simp only[cnt,ih,kG];by_cases h:m<k
  ·have:m<n:=by omega
   simp[h,this];omega
  ·simp[h];omega
def Pq (P:Program) (a0:Act) (Q:Exit->Act->World->Prop) (C:List Bool->World->Prop) (Le:World->World->Prop) (fC:List Tmp) (ents:List (Option Tmp×RP)) (o:Oper) (R:RP) (ws:List Nat) (pat:List (Option Bool)):Prop:=
 ∀c A w,okB pat c->C c w->(∀s,fC.contains s=false->A.eval (.tmp s)=a0.eval (.tmp s))->KU ents A w o.after.toList->
  if gd ents A o then o.wp P A w (aO (C (iE ws c ents.length)) Le R A o.dst w) Q else(C (iE ws c ents.length) w∧R undef w)
def bf (P:Program) (a0:Act) (Q:Exit->Act->World->Prop) (C:List Bool->World->Prop) (Le:World->World->Prop) (fC:List Tmp) (ws:List Nat) (K:Act->World->Prop) (k0:Nat):List Oper->List (List (Option Bool))->List (Option Tmp×RP)->Prop
 |o::rest,b::bs,ents=> ∃R:RP,(∀v w w',Le w w'->R v w->R v w')∧Pq P a0 Q C Le fC ents o R ws b∧bf P a0 Q C Le fC ws K k0 rest bs (ents++[(o.dst,R)])
 |_,_,ents=> ∀w,C (ws.map λ_=>true) w->dH w (λa=>K a w) (ents.drop k0) a0
def Gv (l:List Oper):List (Option Tmp×RP):=l.map λo=>(o.dst,λ_ _=>True)
theorem eB {α:Type} :(∀(n:Nat) (a:α) (l:List α),(a::l).take (n+1)=a::l.take n)∧(∀l:List α,l.take 0=[])∧(∀l:List α,l.drop 0=l)∧∀(n:Nat) (a:α) (l:List α),(a::l).drop (n+1)=l.drop n:=⟨λ_ _ _=>rfl,λ_=>rfl,λ_=>rfl,λ_ _ _=>rfl⟩
theorem iP:Gv []=[]∧∀o l,Gv (o::l)=(o.dst,λ_ _=>True)::Gv l:=⟨rfl,λ_ _=>rfl⟩
section
variable {P:Program} {a0:Act} {Q:Exit->Act->World->Prop} {C:List Bool->World->Prop} {Le:World->World->Prop} {fC:List Tmp} {ws:List Nat} {K:Act->World->Prop} {k0:Nat}
theorem bf.full: ∀ {l:List Oper} {bnd:List (List (Option Bool))} {ents:List (Option Tmp×RP)},bnd.length=l.length->bf P a0 Q C Le fC ws K k0 l bnd ents->∃full:List (Option Tmp×RP),full.length=ents.length+l.length∧full.take ents.length=ents∧
 (∀(i:Nat) (o:Oper),l[i]? =some o->∃R,full[ents.length+i]? =some (o.dst,R)∧(∀v w w',Le w w'->R v w->R v w')∧Pq P a0 Q C Le fC (full.take (ents.length+i)) o R ws (bnd.getD i []))∧
 ∀w,C (ws.map λ_=>true) w->dH w (λa=>K a w) (full.drop k0) a0
 | [],bnd,ents,_,h=>⟨ents,ahg,ahg,ahg,by cases bnd <;> exact h⟩
 |o::rest,[],ents,hl,h=>by simp at hl
 |o::rest,b::bs,ents,hl,h=>by
  obtain⟨R,hm,ho,hr⟩:=h;obtain⟨full,h1,h2,h3,h4⟩:=bf.full ahW hr;simp only[au,ay,aI,aV]at h1 h2 h3;have hlen:ents.length<full.length:=ahe
  have hget:full[ents.length]? =some (o.dst,R):=abg
  refine⟨full,ahh,?_,?_,h4⟩
  ·have:=congrArg (List.take ents.length) h2;simpa[List.take_take]using this
  ·intro i o' hi;cases i with
   |zero=>simp only[List.getElem?_cons_zero,Option.some.injEq]at hi;subst hi;refine⟨R,agX,hm,?_⟩;have:full.take (ents.length+0)=ents:=aaA;rw[this];exact ho
   |succ i=>have hi':rest[i]? =some o':=ahA;have:=h3 i o' hi';rw[show ents.length+(i+1)=ents.length+1+i by omega];exact this
theorem bf.step {o:Oper} {rest:List Oper} {b:List (Option Bool)} {bs:List (List (Option Bool))} {ents:List (Option Tmp×RP)} {v:Value} (aZ:Pq P a0 Q C Le fC ents o (bT v) ws b) (hrest:bf P a0 Q C Le fC ws K k0 rest bs (ents++[(o.dst,bT v)])):bf P a0 Q C Le fC ws K k0 (o::rest) (b::bs) ents:=
 ⟨bT v,bT.mono,aZ,hrest⟩
theorem bf.some {o:Oper} {rest:List Oper} {b:List (Option Bool)} {bs:List (List (Option Bool))} {ents:List (Option Tmp×RP)} (R:RP) (hmono: ∀v w w',Le w w'->R v w->R v w') (aZ:Pq P a0 Q C Le fC ents o R ws b) (hrest:bf P a0 Q C Le fC ws K k0 rest bs (ents++[(o.dst,R)])):bf P a0 Q C Le fC ws K k0 (o::rest) (b::bs) ents:=
 ⟨R,hmono,aZ,hrest⟩
theorem bf.done {ents:List (Option Tmp×RP)} (h: ∀w,C (ws.map λ_=>true) w->dH w (λa=>K a w) (ents.drop k0) a0):bf P a0 Q C Le fC ws K k0 [] [] ents:=h
def DC (l:List Oper) (listed:Array Bool):Prop:= ∀(i:Nat) (o:Oper),l[i]? =some o->listed.getD i false=true->∀d∈oP o,listed.getD d false=true
def cw (ws:List Nat) (listed:Array Bool):List Bool:=ws.map λw=>listed.getD w false
theorem KF {l:List Oper} {su:List (List Nat)} {listed:Array Bool} (ha:UG l su=true) (hed: ∀(i:Nat) (o:Oper),l[i]? =some o->∀d∈oP o,d<i) (hd:DC l listed) (hsz:listed.size=l.length): ∀(i:Nat),listed.getD i false=true->∀k∈su.getD i [],listed.getD k false=true:=by
 intro i
 induction i using Nat.strongRecOn with
 |_ i ih=>
  intro hl k hk;by_cases hi:i<l.length
  ·have hz:=xI ha i l[i] (bJ hi);rw[List.all_eq_true]at hz;have:=hz k hk;rw[List.any_eq_true]at this;obtain⟨d,hd1,hd2⟩:=this;have hdl:=hd i l[i] (bJ hi) hl d hd1;simp only[Bool.or_eq_true,beq_iff_eq,List.contains_iff_mem]at hd2;rcases hd2 with rfl|hd2
   ·exact hdl
   ·exact ih d (hed i l[i] (bJ hi) d hd1) hdl k hd2
  ·exfalso;rw[Array.getD_eq_getD_getElem?,Array.getElem?_eq_none ahe]at hl;cases hl
theorem X9 {listed:Array Bool} {i:Nat} (hi:i<listed.size): ∀ws:List Nat,cw ws (listed.setIfInBounds i true)=iE ws (cw ws listed) i
 | []=>rfl
 |x::r=>by
  have ih:=X9 hi r;unfold cw at ih⊢;rw[List.map_cons,ih,List.map_cons,iE];congr 1;by_cases hx:x=i
  ·subst hx;simp[hi]
  ·rw[getD_set_ne false (λe=>hx e.symm)];simp[hx]
theorem QK {listed:Array Bool} : ∀(pat:List (Option Bool)) (ws:List Nat),pat.length=ws.length->(∀x∈pat.zip ws,∀b,x.1=some b->listed.getD x.2 false=b)->okB pat (cw ws listed)
 | [],[],_,_=>trivial
 | [],_::_,h,_=>ahD
 |_::_,[],h,_=>ahD
 |none::r,x::ws,h,hb=>QK r ws aiq (λy hy=>hb y ahG)
 |some b::r,x::ws,h,hb=>⟨hb (some b,x) ahg b rfl,QK r ws aiq (λy hy=>hb y ahG)⟩
def ak8 (a0:Act) (C:List Bool->World->Prop) (ws:List Nat) (l:List Oper) (k0 k1:Nat) (full:List (Option Tmp×RP)) (listed:Array Bool) (a:Act) (w:World):Prop:=
 listed.size=l.length∧(∀i,i<k0->listed.getD i false=true)∧(∀i,k1<=i->listed.getD i false=false)∧C (cw ws listed) w∧a.defers=a0.defers∧a.tmps.size=a0.tmps.size∧DC l listed∧
 (∀s:Nat,(∀(i:Nat) (d:Tmp) (R:RP),full[i]? =some (some d,R)->k0<=i->listed.getD i false=true->d≠s)->a.tmps[s]? =a0.tmps[s]?)∧
 ∀(i:Nat) (d:Option Tmp) (R:RP),full[i]? =some (d,R)->listed.getD i false=true->R (eO a d) w
theorem YT {l:List Oper} {full:List (Option Tmp×RP)} {su:List (List Nat)} {bnd:List (List (Option Bool))} {k0 k1:Nat} (hk1:k1<=l.length) (JI:UG l su=true) (Ld:Ht l.length su k1=true)
 (JJ:ZP l.length ws su bnd=true) (hws: ∀x∈ws,x<k1) (El: ∀w,Le w w) (hbd: ∀d∈fC,d<a0.tmps.size) (hlen:full.length=k1) (hnd:(l.filterMap (·.dst)).Nodup) (tZ:((l.take k1).drop k0).filterMap (·.dst)=fC)
 (hed: ∀(i:Nat) (o:Oper),l[i]? =some o->∀d∈oP o,d<i) (hgu: ∀(i:Nat) (o:Oper),l[i]? =some o->∀g b,o.guard=some (g,b)->g<i)
 (aI8: ∀(i:Nat) (o:Oper),l[i]? =some o->i<k0->full[i]? =some (o.dst,λ_ _=>True))
 (hf: ∀(i:Nat) (o:Oper),l[i]? =some o->k0<=i->i<k1->∃R,full[i]? =some (o.dst,R)∧(∀v w w',Le w w'->R v w->R v w')∧Pq P a0 Q C Le fC (full.take i) o R ws (bnd.getD i []))
 (hend: ∀w,C (ws.map λ_=>true) w->dH w (λa=>wpAny P .any l.toArray Q (l.length -k1) (nW l.length k1) a w) (full.drop k0) a0):
 ∀(fuel:Nat) (listed:Array Bool) (a:Act) (w:World),cnt listed l.length=fuel->ak8 a0 C ws l k0 k1 full listed a w->wpAny P .any l.toArray Q fuel listed a w:=by
 have hB:bnd.length=l.length∧(∀x∈ws,x<l.length)∧∀i,i<l.length->(bnd.getD i []).length=ws.length∧∀x∈(bnd.getD i []).zip ws,(match x.1 with|none=>true|some true=>(su.getD i []).contains x.2|some false=>(su.getD x.2 []).contains i||x.2==i)=true:=by unfold ZP at JJ;simp only[aP,decide_eq_true_eq,List.all_eq_true,List.mem_range]at JJ;exact⟨JJ.1.1,JJ.1.2,λi hi=>JJ.2 i hi⟩
 have hP: ∀i,i<l.length->k1<=i->∀j,j<k1->j∈su.getD i []:=λi hi hki j hj=>by
  unfold Ht at Ld;simp only[List.all_eq_true,List.mem_range,Bool.or_eq_true,decide_eq_true_eq,List.contains_iff_mem]at Ld;rcases Ld i hi with h|h
  ·omega
  ·exact h j hj
 have hdst: ∀(i:Nat) (d:Option Tmp) (R:RP),full[i]? =some (d,R)->∃o,l[i]? =some o∧o.dst=d∧∀v w w',Le w w'->R v w->R v w':=λi d R hi=>by
  have hlt:i<k1:=aaZ
  have hll:i<l.length:=ahe
  by_cases hik:i<k0
  ·have h1:=aI8 i l[i] (bJ hll) hik;rw[hi]at h1;simp only[Option.some.injEq,Prod.mk.injEq]at h1;exact⟨l[i],bJ hll,h1.1.symm,by rw[h1.2];exact λ_ _ _ _ _=>trivial⟩
  ·obtain⟨R',h1,h2,-⟩:=hf i l[i] (bJ hll) ahe hlt;rw[hi]at h1;simp only[Option.some.injEq,Prod.mk.injEq]at h1;exact⟨l[i],bJ hll,h1.1.symm,by rw[h1.2];exact h2⟩
 have hfe: ∀(i:Nat) (o:Oper),l[i]? =some o->i<k1->∃R,full[i]? =some (o.dst,R):=λi o hi hik=>by
  by_cases h:i<k0
  ·exact⟨_,aI8 i o hi h⟩
  ·obtain⟨R,h1,-⟩:=hf i o hi ahe hik;exact⟨R,h1⟩
 have hmem: ∀(k:Nat) (d:Tmp) (R:RP),full[k]? =some (some d,R)->k0<=k->d∈fC:=λk d R hk' hkk=>by
  obtain⟨ok,hok,hdk,-⟩:=hdst k (some d) R hk';have hlt:k<k1:=by rw[<- hlen];exact(List.getElem?_eq_some_iff.1 hk').1
  rw[<- tZ];refine List.mem_filterMap.2 ⟨ok,List.mem_of_getElem? (i:=k -k0) ?_,hdk⟩;rw[List.getElem?_drop,List.getElem?_take,show k0+(k -k0)=k by omega,if_pos hlt];exact hok
 have GV: ∀listed:Array Bool,listed.size=l.length->Region.ready .any l.toArray listed=[]->∀i,i<l.length->listed.getD i false=true:=λlisted hsz hr i=>by
  induction i using Nat.strongRecOn with
  |_ i ih=>
   intro hi;cases hg:listed.getD i false with
   |true=>rfl
   |false=>exfalso;have:i∈Region.ready .any l.toArray listed:=mem_ready.2 ⟨abf,l[i],by simp[hi],λe he hb=>ih e.on (hed i l[i] (bJ hi) e.on (zZ he hb)) aco⟩;rw[hr]at this;cases this
 have hall: ∀fuel listed a w,cnt listed l.length=fuel->ak8 a0 C ws l k0 k1 full listed a w->(∀i,i<k1->listed.getD i false=true)->wpAny P .any l.toArray Q fuel listed a w:=λfuel listed a w hc hI ha=>by
  obtain⟨hsz0,-,hno,hC,hd,hz,hdc,hs,hR⟩:=hI;have he:listed=nW l.length k1:=Mx hsz0 ha hno;have hkk:cw ws listed=ws.map λ_=>true:=by unfold cw;exact List.map_congr_left (λx hx=>ha x (hws x hx))
  rw[hkk]at hC;have hfu:fuel=l.length -k1:=by rw[<- hc,he,Jz _ _ hk1 _ (aH _)]
  have:=(hend w hC).use (a':=a) (λi d R hi=>by rw[List.getElem?_drop]at hi;exact hR (k0+i) d R hi (ha _ aaZ)) hd hz (λs hne=>hs s (λi d R hi hki _=>hne (i -k0) d R (by rw[List.getElem?_drop,show k0+(i -k0)=i by omega];exact hi)));rw[hfu,he];exact this
 intro fuel
 induction fuel with
 |zero=>intro listed a w hc hI;exact hall 0 listed a w hc hI (λi hi=>EM hc i ahe)
 |succ fuel ih=>
  intro listed a w hc hI;by_cases hdone: ∀i,i<k1->listed.getD i false=true
  ·exact hall _ listed a w hc hI hdone
  refine⟨λhr=>(hdone (λi hi=>GV listed hI.1 hr i ahe)).elim,λi hi=> ?_⟩;obtain⟨h0,o,ho,Dt⟩:=mem_ready.1 hi;have hlt:i<l.length:=afW
  have hlo:l[i]? =some o:=by simpa using ho
  have hls:i<listed.size:=agh
  have hun:listed.getD i false=false:=agJ
  obtain⟨hsz,hpre,hno,hC,hd,hz,hdc,hs,hR⟩:=hI;have am6:=KF JI hed hdc hsz;have hself: ∀k∈su.getD i [],listed.getD k false=true:=λk hk=>by
   have hz':=xI JI i o hlo;rw[List.all_eq_true]at hz';have:=hz' k hk;rw[List.any_eq_true]at this;obtain⟨d,hd1,hd2⟩:=this;simp only[oP,List.mem_map,List.mem_filter,Array.mem_toList_iff]at hd1;obtain⟨e,⟨he,hb⟩,rfl⟩:=hd1;simp only[Bool.or_eq_true,beq_iff_eq,List.contains_iff_mem]at hd2;rcases hd2 with rfl|hd2
   ·exact Dt e he hb
   ·exact am6 e.on (Dt e he hb) k hd2
  have V8:k0<=i:=by
   rcases Nat.lt_or_ge i k0 with h|h
   ·rw[hpre i h]at hun;cases hun
   ·exact h
  have bp6:i<k1:=by
   rcases Nat.lt_or_ge i k1 with h|h
   ·exact h
   ·exact(hdone (λj hj=>hself j (hP i hlt h j hj))).elim
  obtain⟨R,Ja,hRm,Xy⟩:=hf i o hlo V8 bp6;have hW:Region.wanted o (yielded l.toArray a.tmps)=gd (full.take i) a o:=by
   unfold Region.wanted gd;cases hgo:o.guard with
   |none=>rfl
   |some x=>
    obtain⟨g,b⟩:=x;have hgi:=hgu i o hlo g b hgo;simp only;rw[List.getElem?_take,if_pos hgi];unfold yielded;have hgl:g<l.length:=ahe;have hk':l.toArray[g]? =some l[g]:=(by simp[hgl]);obtain⟨R',hR'⟩:=hfe g l[g] (bJ hgl) ahe;rw[hk',hR'];simp only[Option.bind_some];cases hd':l[g].dst with
    |none=>rfl
    |some d=>
     simp only[Option.bind_some,Act.eval];cases ht:a.tmps[d]? with
     |none=>simp[ht,undef]
     |some v=>simp only[Array.getD_eq_getD_getElem?,ht,Option.getD_some];cases v <;> first|rfl|(rename_i x;cases x <;> cases b <;> rfl)
  have bp5:DC l (listed.setIfInBounds i true):=λj oj hj hl d hdj=>by
   by_cases hij:i=j
   ·subst hij;rw[hlo]at hj;injection hj with hj;subst hj;simp only[oP,List.mem_map,List.mem_filter,Array.mem_toList_iff]at hdj;obtain⟨e,⟨he,hb⟩,rfl⟩:=hdj;exact getD_set_true (Dt e he hb)
   ·rw[getD_set_ne false hij]at hl;exact getD_set_true (hdc j oj hj hl d hdj)
  have hok:okB (bnd.getD i []) (cw ws listed):=QK _ _ (hB.2.2 i hlt).1 (λx hx b hb=>by
   have:=(hB.2.2 i hlt).2 x hx;rw[hb]at this;cases b with
   |true=>exact hself x.2 (by simpa using this)
   |false=>
    cases hcc:listed.getD x.2 false with
    |false=>rfl
    |true=>
     exfalso;simp only[Bool.or_eq_true,List.contains_iff_mem,beq_iff_eq]at this;rcases this with h1|h1
     ·have:=am6 x.2 hcc i h1;rw[hun]at this;cases this
     ·rw[h1,hun]at hcc;cases hcc)
  have htk:(full.take i).length=i:=by rw[List.length_take,hlen];omega
  have hstep:=Xy (cw ws listed) a w hok hC (λs hs'=>by have:a.tmps[s]? =a0.tmps[s]?:=hs s (λk d R' hk' hkk _ e=>by have:=hmem k d R' hk' hkk;rw[e]at this;simp at hs';exact hs' this);simp[Act.eval,this]) (Mj (λe he hb d R' hR'=>hR e.on d R' hR' (Dt e ahH hb)));rw[htk]at hstep;have hnext: ∀(v:Value) (w':World),Le w w'->C (iE ws (cw ws listed) i) w'->R (eO (a.put o.dst v) o.dst) w'->wpAny P .any l.toArray Q fuel (listed.setIfInBounds i true) (a.put o.dst v) w':=λv w' hle hC' hv=>by
   refine ih _ _ _ ?_ ⟨by simp[hsz],λj hj=>getD_set_true (hpre j hj),λj hj=>by rw[getD_set_ne false ahe];exact hno j hj,by rw[X9 hls];exact hC',?_,?_,bp5,?_,?_⟩
   ·have:=Il hls hun l.length;rw[if_pos hlt]at this;omega
   ·cases o.dst <;> simpa[Act.put]using hd
   ·cases o.dst <;> simpa[Act.put]using hz
   ·intro s hne;have h1:a.tmps[s]? =a0.tmps[s]?:=hs s (λk d R' hk hkk hl=>hne k d R' hk hkk (getD_set_true hl));cases hod:o.dst with
    |none=>simpa[Act.put]using h1
    |some d=>have hds:d≠s:=hne i d R aia V8 (by simp[hls]);simp only[Act.put];rw[Array.getElem?_setIfInBounds_ne hds];exact h1
   ·intro k d R' hk hl;by_cases hik:i=k
    ·subst hik;rw[Ja]at hk;simp only[Option.some.injEq,Prod.mk.injEq]at hk;obtain⟨rfl,rfl⟩:=hk;exact hv
    ·have hl':listed.getD k false=true:=adD;obtain⟨ok,hok',hdk,hmon⟩:=hdst k d R' hk;have h1:=hmon _ _ _ hle (hR k d R' hk hl');have:eO (a.put o.dst v) d=eO a d:=by
      cases hod:o.dst with
      |none=>rfl
      |some d1=>
       cases d with
       |none=>rfl
       |some d2=>have hne:d1≠d2:=λe=>hik (Da hnd i k o ok d2 hlo hok' (by rw[hod,e]) hdk);simp[eO,Act.eval,Act.put,Array.getElem?_setIfInBounds_ne hne]
     rw[this];exact h1
  unfold wpOp;simp only[ho];rw[hW];cases hgd:gd (full.take i) a o with
  |true=>
   rw[hgd]at hstep;simp only[if_true]at hstep⊢;refine Or.inl (Oper.wp_mono ?_ hstep);rintro a' w' ⟨v,rfl,hle,hC',hv⟩;refine hnext v w' hle hC' ?_;cases hod:o.dst with
   |none=>rw[hod]at hv;exact hv
   |some d=>rw[hod]at hv;simp only[Option.isSome_some,if_true]at hv;have hdl:d<a.tmps.size:=abV;simpa[eO,Act.eval,Act.put,hdl]using hv
  |false=>
   rw[hgd]at hstep;simp only[Bool.false_eq_true,if_false]at hstep⊢;refine hnext undef w (El w) hstep.1 ?_;cases hod:o.dst with
   |none=>exact hstep.2
   |some d=>have hdl:d<a.tmps.size:=abV;simpa[eO,Act.eval,Act.put,hdl]using hstep.2
def Ip (l:List Oper):Bool:=decide (l.filterMap (·.dst)).Nodup&&(l.zipIdx.all λx=>((oP x.1).all λd=>decide (d<x.2))&&(match x.1.guard with|none=>true|some (g,_)=>decide (g<x.2)))
theorem bK {l:List Oper} {w:World} {n r:Nat} (k0 k1:Nat) (ws:List Nat) (su:List (List Nat)) (bnd:List (List (Option Bool))) (C:List Bool->World->Prop) (Le:World->World->Prop) (fC:List Tmp)
 (hn:l.length=n) (hr:n -k0=r) (hk:(decide (k0<=k1)&&decide (k1<=n)&&decide (bnd.length=k1 -k0)&&ws.all λx=>decide (x<k1))=true) (hB:Ip l=true) (JI:UG l su=true) (Ld:Ht n su k1=true)
 (JJ:ZP n ws su ((List.replicate k0 (ws.map λ_=>none))++bnd++List.replicate (n -k1) (ws.map λ_=>none))=true) (bp2:(((l.take k1).drop k0).filterMap (·.dst)==fC)=true) (hws:(ws.all λx=>decide (k0<=x))=true) (El: ∀w,Le w w) (hbd:(fC.all λd=>decide (d<a0.tmps.size))=true) (hC:C (ws.map λ_=>false) w)
 (h:bf P a0 Q C Le fC ws (wpAny P .any l.toArray Q (n -k1) (nW n k1)) k0 ((l.take k1).drop k0) bnd (Gv (l.take k0))):wpAny P .any l.toArray Q r (nW n k0) a0 w:=by
 subst hn;subst hr;simp only[aP,decide_eq_true_eq,List.all_eq_true]at hk;obtain⟨⟨⟨h01,h1n⟩,hbl⟩,hwk⟩:=hk;unfold Ip at hB;simp only[aP,decide_eq_true_eq]at hB;obtain⟨hnd,hz⟩:=hB;have hdl:(Gv (l.take k0)).length=k0:=by simp[Gv];omega
 obtain⟨full,h1,h2,h3,h4⟩:=h.full (by simp[hbl];omega);rw[hdl]at h1 h2 h3;have hlen:full.length=k1:=by rw[h1];simp;omega
 have hed: ∀(i:Nat) (o:Oper),l[i]? =some o->(∀d∈oP o,d<i)∧∀g b,o.guard=some (g,b)->g<i:=λi o hi=>Ω
 refine YT h1n JI Ld JJ hwk El (λd hd=>abk) hlen hnd (by simpa using bp2) (λi o hi=>(hed i o hi).1) (λi o hi=>(hed i o hi).2) ?_ ?_ h4 _ _ _ _ (by rw[Jz _ _ ahe _ (aH _)]) ⟨sG _ _,?_,?_,?_,rfl,rfl,?_,λ_ _=>rfl,?_⟩
 ·intro i o hi hik;have:=congrArg (λl=>l[i]?) h2;rw[List.getElem?_take,if_pos hik]at this;rw[this];simp[Gv,hik,hi]
 ·intro i o hi hki hik;have hgo:((l.take k1).drop k0)[i -k0]? =some o:=by rw[List.getElem?_drop,List.getElem?_take,show k0+(i -k0)=i by omega,if_pos hik];exact hi
  obtain⟨R,ha,hb,hc⟩:=h3 (i -k0) o hgo;rw[show k0+(i -k0)=i by omega]at ha hc;refine⟨R,ha,hb,?_⟩;have:((List.replicate k0 (ws.map λ_=>(none:Option Bool)))++bnd++List.replicate (l.length -k1) (ws.map λ_=>none)).getD i []=bnd.getD (i -k0) []:=by rw[List.getD_eq_getElem?_getD,List.getD_eq_getElem?_getD,List.append_assoc,List.getElem?_append_right ahh,List.getElem?_append_left ahh];simp
  rw[this];exact hc
 ·intro i hi;rw[kG];simp;omega
 ·intro i hi;rw[kG];simp;omega
 ·have:cw ws (nW l.length k0)=ws.map λ_=>false:=by unfold cw;refine List.map_congr_left (λx hx=> ?_);rw[List.all_eq_true]at hws;have:=hws x hx;rw[kG];simp at this⊢;omega
  rw[this];exact hC
 ·intro i o hi hl d hd;rw[kG]at hl⊢;simp only[aP,decide_eq_true_eq]at hl⊢;have:=(hed i o hi).1 d hd;omega
 ·intro i d R hi hl;rw[kG]at hl;simp only[aP,decide_eq_true_eq]at hl;have:=congrArg (λl=>l[i]?) h2;rw[List.getElem?_take,if_pos hl.2,hi]at this;simp only[Gv,List.getElem?_map,List.getElem?_take,if_pos hl.2,bJ hl.1,Option.map_some,Option.some.injEq,Prod.mk.injEq]at this;rw[this.2];trivial
theorem bS {id:Nat} {l:List Oper} {n:Nat} {w:World} (hm:P.follows .mixedOrders=true) (hn:l.length=n) (h:wpAny P .any l.toArray Q n (nW n 0) a0 (w.drewN 1)):(Code.region id l.toArray true).wp P Q a0 w:=by
 subst hn;refine wp_region_any hm ?_;have hdr:({w with drawn:=w.drawn+1} :World)=w.drewN 1:=rfl;have hp:Array.replicate l.toArray.size false=nW l.length 0:=Mx ahg (by intro i hi;omega) (λi _=>by rw[Array.getD_eq_getD_getElem?];by_cases hk:i<l.length <;> simp[hk]);rw[hdr,hp];exact h
theorem cO {l:List Oper} {n:Nat} {w:World} (hn:l.length=n) (h:Q .normal a0 w):wpAny P .any l.toArray Q 0 (nW n n) a0 w:=by
 subst hn;refine⟨?_,h⟩;rw[List.eq_nil_iff_forall_not_mem];intro i hi;obtain⟨h0,o,ho,-⟩:=mem_ready.1 hi;have hlt:i<l.length:=afW
 have h1:i<(nW l.length l.length).size:=by rw[sG];exact hlt
 have:=kG l.length l.length i;simp[h1]at h0 this;rw[this]at h0;simp at h0;omega
theorem dA {l:List Oper} {o:Oper} {n r k1:Nat} {w:World} (k:Nat) (su:List (List Nat)) (hn:l.length=n) (hr:n -k=r+1) (hk1:k+1=k1) (ho:l[k]? =some o) (hgu:o.guard=none) (hB:Ip l=true) (JI:UG l su=true) (Ld:Ht n su k1=true)
 (h:o.wp P a0 w (wpAny P .any l.toArray Q r (nW n k1)) Q):wpAny P .any l.toArray Q (r+1) (nW n k) a0 w:=by
 subst hn;subst hk1;unfold Ip at hB;simp only[aP,decide_eq_true_eq]at hB;have hkn:k<l.length:=ahe
 have hnx:(nW l.length k).setIfInBounds k true=nW l.length (k+1):=by
  refine Mx (by simp[sG]) (λi hi=> ?_) (λi hi=> ?_)
  ·by_cases hik:i=k
   ·subst hik;rw[Array.getD_eq_getD_getElem?,Array.getElem?_setIfInBounds_self_of_lt (by rw[sG];exact hkn)];rfl
   ·exact getD_set_true (by rw[kG];simp;omega)
  ·rw[getD_set_ne false ahe,kG];simp;omega
 have bq2: ∀i∈Region.ready .any l.toArray (nW l.length k),i=k:=λi hi=>by
  obtain⟨h0,oi,hoi,Dt⟩:=mem_ready.1 hi;have hlt:i<l.length:=by simpa using(aU hoi)
  have hge:k<=i:=by
   have h1:i<(nW l.length k).size:=by rw[sG];exact hlt
   have:=kG l.length k i;simp[h1]at h0 this;rw[this]at h0;simp at h0;omega
  rcases Nat.lt_or_ge k i with hki|hki
  ·exfalso;unfold Ht at Ld;simp only[List.all_eq_true,List.mem_range,Bool.or_eq_true,decide_eq_true_eq,List.contains_iff_mem]at Ld;have hka:k∈su.getD i []:=by
    rcases Ld i hlt with h|h
    ·omega
    ·exact h k ahe
   have bq0:l[i]? =some oi:=by simpa using hoi
   have hz':=xI JI i oi bq0;rw[List.all_eq_true]at hz';have:=hz' k hka;rw[List.any_eq_true]at this;obtain⟨d,hd1,hd2⟩:=this;simp only[oP,List.mem_map,List.mem_filter,Array.mem_toList_iff]at hd1;obtain⟨e,⟨he,hb⟩,rfl⟩:=hd1;have hdl:=Dt e he hb;have hed: ∀(i:Nat) (o:Oper),l[i]? =some o->∀d∈oP o,d<i:=λi o hi=>by have:=xI hB.2 i o hi;simp only[aP,List.all_eq_true,decide_eq_true_eq]at this;exact this.1
   have hdc:DC l (nW l.length k):=by intro i o hi hl d hd;rw[kG]at hl⊢;simp only[aP,decide_eq_true_eq]at hl⊢;have:=hed i o hi d hd;omega
   simp only[Bool.or_eq_true,beq_iff_eq,List.contains_iff_mem]at hd2;have hkl:(nW l.length k).getD k false=true:=by
    rcases hd2 with h2|hd2
    ·rw[h2]at hdl;exact hdl
    ·exact KF JI hed hdc (sG _ _) e.on hdl k hd2
   rw[kG]at hkl;simp at hkl
  ·omega
 refine⟨λhr0=> ?_,λi hi=> ?_⟩
 ·exfalso;have hlk:l[k]? =some l[k]:=bJ hkn;have:k∈Region.ready .any l.toArray (nW l.length k):=mem_ready.2 ⟨by
   have h1:k<(nW l.length k).size:=by rw[sG];exact hkn
   have:=kG l.length k k;simp[h1]at this⊢;rw[this],l[k],by simp[hkn],λe he hb=>by have:=xI hB.2 k l[k] hlk;simp only[aP,List.all_eq_true,decide_eq_true_eq]at this;have:=this.1 e.on (zZ he hb);rw[kG];simp;omega⟩
  rw[hr0]at this;cases this
 ·obtain rfl:=bq2 i hi;unfold wpOp;have:l.toArray[i]? =some o:=by simpa using ho
  simp only[this,Region.wanted,hgu,if_true];rw[hnx];exact Or.inl h
end
theorem dX {w:World} {b o:Nat} {cur:Array Value} {e:TypeId} {fr:Nat×Nat} (h:w.heap[b]? =some (.cells cur e fr)) (v:Value):(w.setCell ⟨b,o,none⟩ v).heap[b]? =some (.cells (cur.setIfInBounds o v) e fr):=by
 unfold World.setCell;simp only[Array.getElem?_modify,if_true,h,Option.map_some];rfl
theorem dB (w:World) {b k:Nat} (a:Addr) (v:Value) (hb:a.block=b) (hk:b≠k):(w.setCell a v).heap[k]? =w.heap[k]?:=by
 unfold World.setCell;simp only[Array.getElem?_modify];rw[if_neg (by rw[hb];exact hk)]
theorem cB (w:World) (a:Addr) (v:Value):w.grownBy (w.setCell a v) (some a.block):=
 ⟨rfl,rfl,rfl,aga,λk _ hk=>dB w a v rfl (λe=>hk (by rw[e]))⟩
theorem iQ {b:Option Nat} {w1 w2 w3:World} (h:w1.grownBy w2 b) (k:w2.grownBy w3 b):w1.grownBy w3 b:=
 ⟨k.os.trans h.os,k.tape.trans h.tape,k.output.trans h.output,aR h.size k.size,λj hj hne=>(k.block j (aJ hj h.size) hne).trans (h.block j hj hne)⟩
theorem cZ {w w':World} {b B:Nat} (h:w.grownBy w' (some b)) (hB:B<=b) (hB':B<=w.heap.size):Below B w w':=
 ⟨h.os,h.tape,h.output,h.size,λk hk=>h.block k ahe ahh⟩
theorem Bj {b:Option Nat} (w:World):w.grownBy w b:=⟨rfl,rfl,rfl,aH _,λ_ _ _=>rfl⟩
theorem dN (b:Nat): ∀(vs:List Value) (o:Nat) (w:World),w.grownBy (w.setCells b o vs) (some b)
 | [],_,w=>Bj w
 |v::vs,o,w=>iQ (cB w ⟨b,o,none⟩ v) (dN b vs (o+1) _)
theorem Cm {b:Nat} {e:TypeId} {fr:Nat×Nat} : ∀(vs:List Value) (o:Nat) (w:World) (cur:Array Value),w.heap[b]? =some (.cells cur e fr)->o+vs.length<=cur.size->
 ∃cur',(w.setCells b o vs).heap[b]? =some (.cells cur' e fr)∧cur'.size=cur.size∧cur'.toList.take (o+vs.length)=cur.toList.take o++vs
 | [],o,w,cur,h,_=>⟨cur,h,rfl,ahg⟩
 |v::vs,o,w,cur,h,hl=>by
  simp only[ay]at hl;obtain⟨cur',h1,h2,h3⟩:=Cm vs (o+1) (w.setCell ⟨b,o,none⟩ v) (cur.setIfInBounds o v) (dX h v) ahh;refine⟨cur',h1,aho,?_⟩;rw[ay,show o+(vs.length+1)=o+1+vs.length by omega,h3,Array.toList_setIfInBounds];have ho:o<cur.toList.length:=ahh
  rw[List.take_succ_eq_append_getElem (by rw[List.length_set];exact ho),List.take_set,List.getElem_set_self];rw[List.set_eq_of_length_le ahh];simp
section
variable {w:World} {base:Nat} {e:TypeId} {size:Nat} {n cap g:Nat} {xs:List Value}
theorem LG (h:w.ownsRow base e size (.slice (some ⟨g,0,none⟩) (n+1) cap) (n+1) xs):w.there g (n*size) size:=by
 rcases h.2 with⟨h1,-⟩|⟨g',cap',cur,e1,-,hg,hc,-,hs,-⟩
 ·cases h1
 ·injection e1 with e1 e2 e3;injection e1 with e1;injection e1 with e1;subst e1;subst e3;intro j hj;have hlt:n*size+j<cur.size:=by rw[hs];have:(n+1)*size<=cap*size:=Nat.mul_le_mul_right _ hc;rw[Nat.add_mul]at this;omega
  refine⟨?_,?_⟩
  ·rw[cell_of_row w g _ cur e (0,0) hg];simp[hlt]
  ·simp[World.frozen?,hg]
theorem QW {zs vs:List Value} (h:w.ownsRow base e size (.slice (some ⟨g,0,none⟩) (n+1) cap) (n+1) (xs++zs)) (hx:xs.length=n*size) (hv:vs.length=size):
 (w.setCells g (n*size) vs).ownsRow base e size (.slice (some ⟨g,0,none⟩) (n+1) cap) (n+1) (xs++vs):=by
 have hl:=h.1;rcases h.2 with⟨h1,-⟩|⟨g',cap',cur,e1,hb,hg,hc,hm,hs,ht⟩
 ·cases h1
 ·injection e1 with e1 e2 e3;injection e1 with e1;injection e1 with e1;subst e1;subst e3;have hle:(n+1)*size<=cap*size:=Nat.mul_le_mul_right _ hc;have hsp:(n+1)*size=n*size+size:=by rw[Nat.add_mul];simp
  obtain⟨cur',k1,k2,k3⟩:=Cm vs (n*size) w cur hg (by rw[hv,hs];omega);refine⟨by simp[hx,hv,hsp],.inr ⟨g,cap,cur',rfl,hb,k1,hc,hm,by rw[k2,hs],?_⟩⟩;rw[hsp];rw[hv]at k3;rw[k3];congr 1;have:=congrArg (List.take (n*size)) ht;rw[List.take_take,Nat.min_eq_left ahe]at this;rw[this,List.take_append_of_le_length ahe,List.take_of_length_le ahe]
theorem O1 {ys:List Value} (h:w.ownsRow base e size (.slice (some ⟨g,0,none⟩) (n+1) cap) (n+1) (xs++ys)) (hx:xs.length=n*size):w.ownsRow base e size (.slice (some ⟨g,0,none⟩) n cap) n xs:=by
 rcases h.2 with⟨h1,-⟩|⟨g',cap',cur,e1,hb,hg,hc,hm,hs,ht⟩
 ·cases h1
 ·injection e1 with e1 e2 e3;injection e1 with e1;injection e1 with e1;subst e1;subst e3;have hsp:(n+1)*size=n*size+size:=by rw[Nat.add_mul];simp
  refine⟨hx,.inr ⟨g,cap,cur,rfl,hb,hg,ahe,hm,hs,?_⟩⟩;have:=congrArg (List.take (n*size)) ht;rw[List.take_take,Nat.min_eq_left ahe]at this;rw[this,List.take_append_of_le_length ahe,List.take_of_length_le ahe]
end
theorem Ey {w w':World} {b o n:Nat} (h:w.there b o n) (hb:w'.heap[b]? =w.heap[b]?):w'.there b o n:=λj hj=>by
 rw[World.cell?_of_block (a:=⟨b,o+j,none⟩) hb,World.frozen?_of_block (a:=⟨b,o+j,none⟩) hb];exact h j hj
theorem bC {w:World} {b o:Nat} {cs:Array Value} {t:TypeId} (h:w.heap[b]? =some (.cells cs t (0,0))):w.frozen? ⟨b,o,none⟩=false:=by simp[World.frozen?,h]
theorem aQ {w:World} {b j:Nat} {cs:Array Value} {t:TypeId} {fr:Nat×Nat} {u:Value} (h:w.heap[b]? =some (.cells cs t fr)) (hu:cs[j]? =some u):w.cell? ⟨b,j,none⟩=some u:=by
 rw[cell_of_row w b j cs t fr h,hu]
def jS (B:Nat) (w w':World):Prop:=w.heap.size<=w'.heap.size∧∀k,B<=k->k<w.heap.size->w'.heap[k]? =w.heap[k]?
theorem jS.refl (B:Nat) (w:World):jS B w w:=⟨aH _,λ_ _ _=>rfl⟩
theorem jS.trans {B:Nat} {w w1 w2:World} (h:jS B w w1) (k:jS B w1 w2):jS B w w2:=⟨aR h.1 k.1,λj h1 h2=>(k.2 j h1 (aJ h2 h.1)).trans (h.2 j h1 h2)⟩
theorem jS.mono {B B':Nat} {w w':World} (h:jS B w w') (hB:B<=B'):jS B' w w':=⟨h.1,λj h1 h2=>h.2 j (aR hB h1) h2⟩
theorem dO {B:Nat} {w w':World} (h:Below w.heap.size w w'):jS B w w':=⟨h.size,λk _ h2=>h.block k h2⟩
theorem gW {B:Nat} (w:World) (a:Addr) (v:Value) (h:a.block<B):jS B w (w.setCell a v):=⟨aga,λk h1 _=>dB w a v rfl ahe⟩
def gB (B:Nat) (w:World) (Q:World->Prop):Prop:= ∀w',jS B w w'->Q w'
theorem gB.next {B:Nat} {w w1:World} {Q:World->Prop} (h:gB B w Q) (hm:jS B w w1):gB B w1 Q:=λw' h'=>h w' (hm.trans h')
theorem gB.now {B:Nat} {w:World} {Q:World->Prop} (h:gB B w Q):Q w:=h w (jS.refl _ _)
theorem gB.mono {B B':Nat} {w:World} {Q:World->Prop} (h:gB B' w Q) (hB:B<=B'):gB B w Q:=λw' h'=>h w' (h'.mono hB)
def zf (B:Nat) (g:Option Nat) (w w':World):Prop:=w.heap.size<=w'.heap.size∧∀k,B<=k->some k≠g->k<w.heap.size->w'.heap[k]? =w.heap[k]?
def nP (B:Nat) (g:Option Nat) (w:World) (Q:World->Prop):Prop:= ∀w',zf B g w w'->Q w'
section
variable {B B1:Nat} {g:Option Nat} {w w' w1:World} {Q:World->Prop}
theorem jS.x (h:jS B w w'):zf B g w w':=⟨h.1,λk h1 _ h2=>h.2 k h1 h2⟩
theorem zf.trans (h:zf B g w w1) (k:zf B g w1 w'):zf B g w w':=⟨aR h.1 k.1,λj h1 h2 h3=>(k.2 j h1 h2 (aJ h3 h.1)).trans (h.2 j h1 h2 h3)⟩
theorem zf.JU (h:w.grownBy w' g):zf B g w w':=⟨h.size,λk _ h2 h3=>h.block k h3 h2⟩
theorem nP.next (h:nP B g w Q) (ha:zf B g w w1):nP B g w1 Q:=λw' h'=>h w' (ha.trans h')
theorem nP.stay (h:nP B g w Q):gB B w Q:=λw' ha=>h w' ha.x
theorem F5 (h:gB B1 w Q) (hB:B<=B1) (hg: ∀k,g=some k->k<B1):nP B g w Q:=λw' ha=>
 h w' ⟨ha.1,λk h1 h2=>ha.2 k (aR hB h1) (λe=>absurd (hg k e.symm) ahe) h2⟩
theorem nP.move {g':Nat} (h:nP B g w Q) (hg:w.grownBy w' g) (hn:g=some g'∨g'=w.heap.size):nP B (some g') w' Q:=λw2 h2=>
 h w2 ⟨aR hg.size h2.1,λk h3 h4 h5=>by
   have hk:some k≠some g':=λe=>by
    rcases hn with rfl|rfl
    ·exact h4 e
    ·injection e with e;omega
   exact(h2.2 k h3 hk (aJ h5 hg.size)).trans (hg.block k h5 h4)⟩
end
theorem zA {α:Type} {f:α->List Value} {m:Nat} (hf: ∀x,(f x).length=m): ∀xs:List α,(xs.flatMap f).length=xs.length*m
 | []=>ahg
 |x::xs=>by rw[List.flatMap_cons,au,zA hf xs,hf,ay,Nat.add_mul,Nat.one_mul,Nat.add_comm]
theorem flat_get {α:Type} {f:α->List Value} {m:Nat} (hf: ∀x,(f x).length=m): ∀(xs:List α) (k:Nat) (x:α) (j:Nat) (u:Value),xs[k]? =some x->(f x)[j]? =some u->(xs.flatMap f)[k*m+j]? =some u
 | [],_,_,_,_,h,_=>ahD
 |y::xs,0,x,j,u,h,hu=>by simp at h;subst h;have hj:j<(f y).length:=(List.getElem?_eq_some_iff.1 hu).1;rw[List.flatMap_cons,Nat.zero_mul,aV,List.getElem?_append_left hj];exact hu
 |y::xs,k+1,x,j,u,h,hu=>by have ih:=flat_get hf xs k x j u aiq hu;rw[List.flatMap_cons,List.getElem?_append_right (by rw[hf,Nat.add_mul];omega),hf,show(k+1)*m+j -m=k*m+j by rw[Nat.add_mul];omega];exact ih
structure Grow {α:Type} (f:α->List Value) (m:Nat) (I:α->World->Prop) (ty:TypeId) (B:Nat) (w:World) (v:Value) (xs:List α):Prop where
 own:w.ownsRow B ty m v xs.length (xs.flatMap f)
 stay: ∀x∈xs,nP B v.ownBlock w (I x)
section
variable {α:Type} {f:α->List Value} {m:Nat} {I:α->World->Prop} {ty:TypeId} {B:Nat} {w w':World} {v:Value} {xs:List α}
theorem Grow.nil (f:α->List Value) (m:Nat) (I:α->World->Prop) (ty:TypeId) (B:Nat) (w:World):Grow f m I ty B w (.slice none 0 0) []:=⟨World.ownsRow_nil _ _ _ _,λx hx=>by cases hx⟩
theorem Grow.lt (h:Grow f m I ty B w v xs): ∀k,v.ownBlock=some k->B<=k∧k<w.heap.size:=h.own.lt
theorem Grow.len (h:Grow f m I ty B w v xs): ∃ao cap,v= .slice ao xs.length cap:=by
 rcases h.own.2 with⟨h1,h2⟩|⟨g,cap,cur,h1,-⟩
 ·exact⟨none,0,by rw[h1,h2]⟩
 ·exact⟨_,_,h1⟩
theorem Grow.next (h:Grow f m I ty B w v xs) (ha:jS B w w'):Grow f m I ty B w' v xs:=by
 refine⟨⟨h.own.1,?_⟩,λx hx=>(h.stay x hx).next ha.x⟩;rcases h.own.2 with h1|⟨g,cap,cur,h1,h2,h3,h4⟩
 ·exact .inl h1
 ·exact .inr ⟨g,cap,cur,h1,h2,(ha.2 g h2 (aU h3)).trans h3,h4⟩
theorem Grow.push {x:α} {g cap n:Nat} (h:Grow f m I ty B w v xs) (hx:nP B v.ownBlock w (I x)) (hn:n=xs.length+1) (hown:w'.ownsRow B ty m (.slice (some ⟨g,0,none⟩) n cap) n (xs.flatMap f++f x)) (hg:w.grownBy w' v.ownBlock) (hmv:v.ownBlock=some g∨g=w.heap.size):
 Grow f m I ty B w' (.slice (some ⟨g,0,none⟩) n cap) (xs++[x]):=by
 subst hn;refine⟨aaz,λy hy=> ?_⟩;show nP B (some g) w' (I y);rcases List.mem_append.1 hy with hy|hy
 ·exact(h.stay y hy).move hg hmv
 ·rw[List.mem_singleton.1 hy];exact hx.move hg hmv
theorem Grow.cells (hf: ∀x,(f x).length=m) (h:Grow f m I ty B w v xs):gB B w (λw2=>(∀x∈xs,I x w2)∧∃ao cap,v= .slice ao xs.length cap∧xs.length<=cap∧∀k x,xs[k]? =some x->∃g,ao=some ⟨g,0,none⟩∧B<=g∧g<w2.heap.size∧∀j u,(f x)[j]? =some u->w2.cell? ⟨g,k*m+j,none⟩=some u):=λw2 h2=>by
 refine⟨λx hx=>(h.stay x hx) w2 h2.x,?_⟩;rcases h.own.2 with⟨h1,h3⟩|⟨g,cap,cur,h1,hB,hg,hc,-,hs,ht⟩
 ·refine⟨none,0,by rw[h1,h3],ahe,λk x hk=> ?_⟩;have:=(List.getElem?_eq_some_iff.1 hk).1;omega
 ·refine⟨some ⟨g,0,none⟩,cap,h1,hc,λk x hk=>⟨g,rfl,hB,?_⟩⟩;have hg2:=(h2.2 g hB (aU hg)).trans hg;refine⟨(aU hg2),λj u hu=> ?_⟩;have hF:=flat_get hf xs k x j u hk hu;rw[<- ht]at hF;have hlt:=(List.getElem?_eq_some_iff.1 hF).1;rw[List.getElem?_take_of_lt adl]at hF;exact aQ hg2 aik
end
theorem gG {W:World} {cs:List Value} {t:TypeId} {fr:Nat×Nat} {g:Nat} (h:W.heap[g]? =some (.cells cs.toArray t fr)): ∀j u,cs[j]? =some u->W.cell? ((⟨g,0,none⟩:Addr).add j)=some u:=λj u hu=>by
 have:=aQ (j:=j) (u:=u) h aif;rcases Nat.eq_zero_or_pos j with rfl|hj
 ·simpa[Addr.add]using this
 ·simpa[Addr.add,Nat.ne_of_gt hj]using this
def Tq (op n:Int) (nm:ByteArray) (kids:bY) (ao:Option Addr) (cap:Nat):List Value:=[.int .i64 op,.int .i64 n,.string nm,.slice ao kids.len cap]
def exV (op n:Int) (nm:ByteArray) (kids:bY) (ao:Option Addr) (cap:Nat):Value:= .agg #[.int .i64 op,.int .i64 n,.string nm,.slice ao kids.len cap]
theorem Rk {B:Nat} {w:World} {g:Nat} {cs:Array Value} {t:TypeId} {fr:Nat×Nat} (hb:w.heap[g]? =some (.cells cs t fr)) (ht:B<=g):gB B w (λw2=>g<w2.heap.size∧∀j u,cs[j]? =some u->w2.cell? ⟨g,j,none⟩=some u):=λw2 h=>by
 have h2:=(h.2 g ht (aU hb)).trans hb;exact⟨(aU h2),λj u hu=>aQ h2 hu⟩
theorem F6 {B:Nat} {w:World} {g:Nat} {op n:Int} {nm:ByteArray} {kids:bY} {ao:Option Addr} {cap:Nat} {t:TypeId} {fr:Nat×Nat} (hb:w.heap[g]? =some (.cells (Tq op n nm kids ao cap).toArray t fr)) (ht:B<=g) (hok:ru op n nm kids) (hk:gB B w (λw2=>kids.At w2 w2.heap.size ao 0)):
 gB B w (λw2=>(bY.cons op n nm kids .nil).At w2 w2.heap.size (some ⟨g,0,none⟩) 0):=λw2 h=>by
 obtain⟨hl,hc⟩:=Rk hb ht w2 h;exact⟨⟨g,0,ao,cap,rfl,hl,hc 0 _ rfl,hc 1 _ rfl,hc 2 _ rfl,hc 3 _ rfl,hok,hk w2 h⟩,trivial⟩
theorem ag7 {B:Nat} {w:World} {g:Nat} {op n op' n':Int} {nm nm':ByteArray} {kids gM:bY} {ao kR:Option Addr} {cap cap':Nat} {t:TypeId} {fr:Nat×Nat} (hb:w.heap[g]? =some (.cells (Tq op n nm kids ao cap++Tq op' n' nm' gM kR cap').toArray t fr)) (ht:B<=g) (hok:ru op n nm kids) (hk:gB B w (λw2=>kids.At w2 w2.heap.size ao 0)) (hok':ru op' n' nm' gM) (hk':gB B w (λw2=>gM.At w2 w2.heap.size kR 0)):
 gB B w (λw2=>(bY.cons op n nm kids (.cons op' n' nm' gM .nil)).At w2 w2.heap.size (some ⟨g,0,none⟩) 0):=λw2 h=>by
 obtain⟨hl,hc⟩:=Rk hb ht w2 h;exact⟨⟨g,0,ao,cap,rfl,hl,hc 0 _ rfl,hc 1 _ rfl,hc 2 _ rfl,hc 3 _ rfl,hok,hk w2 h⟩,⟨g,0,kR,cap',rfl,hl,hc 4 _ rfl,hc 5 _ rfl,hc 6 _ rfl,hc 7 _ rfl,hok',hk' w2 h⟩,trivial⟩
theorem yH {w:World} {g:Nat} {cs:Array Value} {t:TypeId} (h:w.heap[g]? =some (.cells cs t (0,0))) {n:Nat} (hn:n<=cs.size):w.there g 0 n:=λj hj=>by
 refine⟨?_,bC h⟩;rw[cell_of_row w g _ cs t (0,0) h];simp;omega
theorem jE {w:World} {g:Nat} {cs:Array Value} {t:TypeId} {vs:List Value} (h:w.heap[g]? =some (.cells cs t (0,0))) (hl:vs.length=cs.size):(w.setCells g 0 vs).heap[g]? =some (.cells vs.toArray t (0,0)):=by
 obtain⟨cur',h1,h2,h3⟩:=Cm vs 0 w cs h ahe;rw[h1];have e:cur'.toList=vs:=by rw[aV,List.take_of_length_le ahh]at h3;simpa using h3
 rw[<- e]
def Holds (W:World):List (Nat×Nat×Value)->Prop
 | []=>True
 |f::r=>(f.1<W.heap.size∧W.cell? ⟨f.1,f.2.1,none⟩=some f.2.2)∧Holds W r
theorem Holds.next {W W':World} (hb:Below W.heap.size W W'): ∀ {l:List (Nat×Nat×Value)},Holds W l->Holds W' l
 | [],_=>trivial
 |_::_,⟨⟨h1,h2⟩,h3⟩=>⟨⟨aJ h1 hb.size,(hb.cell h1).trans h2⟩,h3.next hb⟩
def Sit (w W:World) (fs:List (Nat×Nat×Value)):Prop:=Below w.heap.size w W∧Holds W fs
theorem Sit.start (w:World):Sit w w []:=⟨ak _ _,trivial⟩
theorem Sit.next {w W W':World} {fs:List (Nat×Nat×Value)} (h:Sit w W fs) (hb:Below W.heap.size W W'):Sit w W' fs:=
 ⟨h.1.trans (hb.mono h.1.size),h.2.next hb⟩
theorem Sit.draws {w W:World} {fs:List (Nat×Nat×Value)} (h:Sit w W fs) (n:Nat):Sit w (W.drewN n) fs:=h.next (below_drewN (ak _ _) n)
theorem aA (W:World) (o:Obj):Below W.heap.size W (W.alloc o):=(ak _ _).alloc (aH _) _
theorem Sit.wL {w W:World} {fs:List (Nat×Nat×Value)} {n:Nat} (h:Sit w W fs) (hn:W.heap.size=n) (a b:Value) (t:TypeId):
 Sit w (W.alloc (.cells #[a,b] t)) ((n,0,a)::(n,1,b)::fs):=by
 subst hn;exact⟨(h.next (aA _ _)).1,⟨ahg,dY W [a,b] t 0⟩,⟨ahg,dY W [a,b] t 1⟩,(h.next (aA _ _)).2⟩
theorem Sit.zx {w W:World} {fs:List (Nat×Nat×Value)} {n:Nat} (h:Sit w W fs) (hn:W.heap.size=n) (a b c d:Value) (t:TypeId):
 Sit w (W.alloc (.cells #[a,b,c,d] t)) ((n,0,a)::(n,1,b)::(n,2,c)::(n,3,d)::fs):=by
 subst hn;exact⟨(h.next (aA _ _)).1,⟨ahg,dY W [a,b,c,d] t 0⟩,⟨ahg,dY W [a,b,c,d] t 1⟩,⟨ahg,dY W [a,b,c,d] t 2⟩,⟨ahg,dY W [a,b,c,d] t 3⟩,(h.next (aA _ _)).2⟩
theorem Sit.PO {w W:World} {fs:List (Nat×Nat×Value)} {n:Nat} (h:Sit w W fs) (hn:W.heap.size=n) (a b c d e f:Value) (t:TypeId):
 Sit w (W.alloc (.cells #[a,b,c,d,e,f] t)) ((n,0,a)::(n,1,b)::(n,2,c)::(n,3,d)::(n,4,e)::(n,5,f)::fs):=by
 subst hn;exact⟨(h.next (aA _ _)).1,⟨ahg,dY W [a,b,c,d,e,f] t 0⟩,⟨ahg,dY W [a,b,c,d,e,f] t 1⟩,⟨ahg,dY W [a,b,c,d,e,f] t 2⟩,⟨ahg,dY W [a,b,c,d,e,f] t 3⟩,⟨ahg,dY W [a,b,c,d,e,f] t 4⟩,⟨ahg,dY W [a,b,c,d,e,f] t 5⟩,(h.next (aA _ _)).2⟩
theorem Sit.uY {w W:World} {fs:List (Nat×Nat×Value)} {n:Nat} (hs:Sit w W fs) (hn:W.heap.size=n) (a b c d e f g h i j k:Value) (t:TypeId):
 Sit w (W.alloc (.cells #[a,b,c,d,e,f,g,h,i,j,k] t)) ((n,0,a)::(n,1,b)::(n,2,c)::(n,3,d)::(n,4,e)::(n,5,f)::(n,6,g)::(n,7,h)::(n,8,i)::(n,9,j)::(n,10,k)::fs):=by
 subst hn;exact⟨(hs.next (aA _ _)).1,⟨ahg,dY W [a,b,c,d,e,f,g,h,i,j,k] t 0⟩,⟨ahg,dY W [a,b,c,d,e,f,g,h,i,j,k] t 1⟩,⟨ahg,dY W [a,b,c,d,e,f,g,h,i,j,k] t 2⟩,⟨ahg,dY W [a,b,c,d,e,f,g,h,i,j,k] t 3⟩,⟨ahg,dY W [a,b,c,d,e,f,g,h,i,j,k] t 4⟩,⟨ahg,dY W [a,b,c,d,e,f,g,h,i,j,k] t 5⟩,⟨ahg,dY W [a,b,c,d,e,f,g,h,i,j,k] t 6⟩,⟨ahg,dY W [a,b,c,d,e,f,g,h,i,j,k] t 7⟩,⟨ahg,dY W [a,b,c,d,e,f,g,h,i,j,k] t 8⟩,⟨ahg,dY W [a,b,c,d,e,f,g,h,i,j,k] t 9⟩,⟨ahg,dY W [a,b,c,d,e,f,g,h,i,j,k] t 10⟩,(hs.next (aA _ _)).2⟩
namespace Md
structure De where
 kind:Int
 line:Int
 nm:ByteArray
 size:Int
 init:Int
 on:ByteArray
def De.Ok (d:De):Prop:=dD d.kind∧dD d.line∧d.nm.size<=maxLen∧dD d.size∧dD d.init∧d.on.size<=maxLen
structure dM where
 op:Int
 line:Int
 nm:ByteArray
 arg:ByteArray
 idx:bY
 dQ:Int
 xn:Int
 dP:ByteArray
 bG:bY
inductive aY where
 |nil
 |cons (h:dM) (body els rest:aY)
def aY.len:aY->Nat
 | .nil=>0
 | .cons _ _ _ r=>r.len+1
def aY.All (Q:dM->aY->aY->Prop):aY->Prop
 | .nil=>True
 | .cons h b e r=>Q h b e∧r.All Q
theorem aY.mW {Q:dM->aY->aY->Prop} (step: ∀h b e,b.All Q->e.All Q->Q h b e): ∀l:aY,l.All Q
 | .nil=>trivial
 | .cons h b e r=>⟨step h b e (mW step b) (mW step e),mW step r⟩
theorem aY.yB {Q:dM->aY->aY->Prop} (step: ∀h b e,b.All Q->e.All Q->Q h b e) (h:dM) (b e:aY):Q h b e:=
 step h b e (aY.mW step b) (aY.mW step e)
structure Th where
 nm:ByteArray
 line:Int
 cu:List ByteArray
 body:aY
def fU (w:World) (B:Nat):List ByteArray->Option Addr->Nat->Prop
 | [],_,_=>True
 |s::r,ao,k=>(∃b off,ao=some ⟨b,off,none⟩∧b<B∧w.cell? ⟨b,off+k,none⟩=some (.string s)∧s.size<=maxLen)∧fU w B r ao (k+1)
def iT (w:World) (B:Nat):List De->Option Addr->Nat->Prop
 | [],_,_=>True
 |d::r,ao,k=>(∃b off,ao=some ⟨b,off,none⟩∧b<B∧w.cell? ⟨b,off+k*6,none⟩=some (.int .i64 d.kind)∧w.cell? ⟨b,off+k*6+1,none⟩=some (.int .i64 d.line)∧
   w.cell? ⟨b,off+k*6+2,none⟩=some (.string d.nm)∧w.cell? ⟨b,off+k*6+3,none⟩=some (.int .i64 d.size)∧w.cell? ⟨b,off+k*6+4,none⟩=some (.int .i64 d.init)∧
   w.cell? ⟨b,off+k*6+5,none⟩=some (.string d.on)∧d.Ok)∧iT w B r ao (k+1)
def uE (h:dM) (body els:aY):Prop:=
 dD h.op∧dD h.line∧h.nm.size<=maxLen∧h.arg.size<=maxLen∧h.idx.len<=maxLen∧ru h.dQ h.xn h.dP h.bG∧body.len<=maxLen∧els.len<=maxLen
def aY.At (w:World) (B:Nat):aY->Option Addr->Nat->Prop
 | .nil,_,_=>True
 | .cons h body els rest,ao,k=>
   (∃b off fM eU fD dS dL cK gJ fH,ao=some ⟨b,off,none⟩∧b<B∧w.cell? ⟨b,off+k*11,none⟩=some (.int .i64 h.op)∧w.cell? ⟨b,off+k*11+1,none⟩=some (.int .i64 h.line)∧
    w.cell? ⟨b,off+k*11+2,none⟩=some (.string h.nm)∧w.cell? ⟨b,off+k*11+3,none⟩=some (.string h.arg)∧w.cell? ⟨b,off+k*11+4,none⟩=some (.slice fM h.idx.len eU)∧
    w.cell? ⟨b,off+k*11+5,none⟩=some (.int .i64 h.dQ)∧w.cell? ⟨b,off+k*11+6,none⟩=some (.int .i64 h.xn)∧w.cell? ⟨b,off+k*11+7,none⟩=some (.string h.dP)∧w.cell? ⟨b,off+k*11+8,none⟩=some (.slice fD h.bG.len dS)∧
    w.cell? ⟨b,off+k*11+9,none⟩=some (.slice dL body.len cK)∧w.cell? ⟨b,off+k*11+10,none⟩=some (.slice gJ els.len fH)∧uE h body els∧
    h.idx.At w B fM 0∧h.bG.At w B fD 0∧body.At w B dL 0∧els.At w B gJ 0)∧rest.At w B ao (k+1)
def Th.Ok (t:Th):Prop:=t.nm.size<=maxLen∧dD t.line∧t.cu.length<=maxLen∧t.body.len<=maxLen
def gY (w:World) (B:Nat):List Th->Option Addr->Nat->Prop
 | [],_,_=>True
 |t::r,ao,k=>(∃b off gK dW dL cK,ao=some ⟨b,off,none⟩∧b<B∧w.cell? ⟨b,off+k*4,none⟩=some (.string t.nm)∧w.cell? ⟨b,off+k*4+1,none⟩=some (.int .i64 t.line)∧
   w.cell? ⟨b,off+k*4+2,none⟩=some (.slice gK t.cu.length dW)∧w.cell? ⟨b,off+k*4+3,none⟩=some (.slice dL t.body.len cK)∧t.Ok∧fU w B t.cu gK 0∧t.body.At w B dL 0∧t.cu.length<=dW)∧gY w B r ao (k+1)
section
variable {w w':World} {B B':Nat}
theorem fU.below (hb:Below B w w'): ∀ {l:List ByteArray} {ao:Option Addr} {k:Nat},fU w B l ao k->fU w' B l ao k
 | [],_,_,_=>trivial
 |_::_,_,_,⟨⟨b,off,e,hB,c,hs⟩,hr⟩=>⟨⟨b,off,e,hB,(hb.cell hB).trans c,hs⟩,fU.below hb hr⟩
theorem fU.mono (h:B<=B'): ∀ {l:List ByteArray} {ao:Option Addr} {k:Nat},fU w B l ao k->fU w B' l ao k
 | [],_,_,_=>trivial
 |_::_,_,_,⟨⟨b,off,e,hB,c,hs⟩,hr⟩=>⟨⟨b,off,e,aJ hB h,c,hs⟩,fU.mono h hr⟩
theorem fU.same {l:List ByteArray} {ao:Option Addr} {k:Nat} (h:fU w w.heap.size l ao k) (hb:Below w.heap.size w w'):fU w' w'.heap.size l ao k:=(h.below hb).mono hb.size
theorem fU.drop: ∀ {l:List ByteArray} {ao:Option Addr} {k:Nat} (i:Nat),fU w B l ao k->fU w B (l.drop i) ao (k+i)
 |_,_,_,0,h=>h
 | [],_,_,_+1,_=>by simp[fU]
 |_::_,_,k,i+1,⟨_,hr⟩=>by have:=fU.drop i hr;rw[List.drop_succ_cons];rwa [Nat.add_assoc,Nat.add_comm 1 i]at this
theorem iT.below (hb:Below B w w'): ∀ {l:List De} {ao:Option Addr} {k:Nat},iT w B l ao k->iT w' B l ao k
 | [],_,_,_=>trivial
 |_::_,_,_,⟨⟨b,off,e,hB,c0,c1,c2,c3,c4,c5,hs⟩,hr⟩=>⟨⟨b,off,e,hB,(hb.cell hB).trans c0,(hb.cell hB).trans c1,(hb.cell hB).trans c2,(hb.cell hB).trans c3,(hb.cell hB).trans c4,(hb.cell hB).trans c5,hs⟩,iT.below hb hr⟩
theorem iT.mono (h:B<=B'): ∀ {l:List De} {ao:Option Addr} {k:Nat},iT w B l ao k->iT w B' l ao k
 | [],_,_,_=>trivial
 |_::_,_,_,⟨⟨b,off,e,hB,c⟩,hr⟩=>⟨⟨b,off,e,aJ hB h,c⟩,iT.mono h hr⟩
theorem iT.same {l:List De} {ao:Option Addr} {k:Nat} (h:iT w w.heap.size l ao k) (hb:Below w.heap.size w w'):iT w' w'.heap.size l ao k:=(h.below hb).mono hb.size
theorem iT.drop: ∀ {l:List De} {ao:Option Addr} {k:Nat} (i:Nat),iT w B l ao k->iT w B (l.drop i) ao (k+i)
 |_,_,_,0,h=>h
 | [],_,_,_+1,_=>by simp[iT]
 |_::_,_,k,i+1,⟨_,hr⟩=>by have:=iT.drop i hr;rw[List.drop_succ_cons];rwa [Nat.add_assoc,Nat.add_comm 1 i]at this
theorem fU.take: ∀ {pre R:List ByteArray} {ao:Option Addr} {k:Nat},fU w B (pre++R) ao k->fU w B pre ao k
 | [],_,_,_,_=>trivial
 |_::_,_,_,_,h=>⟨h.1,fU.take h.2⟩
theorem iT.take: ∀ {pre R:List De} {ao:Option Addr} {k:Nat},iT w B (pre++R) ao k->iT w B pre ao k
 | [],_,_,_,_=>trivial
 |_::_,_,_,_,h=>⟨h.1,iT.take h.2⟩
theorem aY.At.below (hb:Below B w w'): ∀ {l:aY} {ao:Option Addr} {k:Nat},l.At w B ao k->l.At w' B ao k
 | .nil,_,_,_=>trivial
 | .cons _ _ _ _,_,_,h=>by obtain⟨⟨b,off,fM,eU,fD,dS,dL,cK,gJ,fH,e,hB,c0,c1,c2,c3,c4,c5,c6,c7,c8,c9,c10,hok,h1,h2,h3,h4⟩,hr⟩:=h;exact⟨⟨b,off,fM,eU,fD,dS,dL,cK,gJ,fH,e,hB,(hb.cell hB).trans c0,(hb.cell hB).trans c1,(hb.cell hB).trans c2,(hb.cell hB).trans c3,(hb.cell hB).trans c4,(hb.cell hB).trans c5,(hb.cell hB).trans c6,(hb.cell hB).trans c7,(hb.cell hB).trans c8,(hb.cell hB).trans c9,(hb.cell hB).trans c10,hok,h1.below hb,h2.below hb,h3.below hb,h4.below hb⟩,hr.below hb⟩
theorem aY.At.mono (h:B<=B'): ∀ {l:aY} {ao:Option Addr} {k:Nat},l.At w B ao k->l.At w B' ao k
 | .nil,_,_,_=>trivial
 | .cons _ _ _ _,_,_,h'=>by obtain⟨⟨b,off,fM,eU,fD,dS,dL,cK,gJ,fH,e,hB,c0,c1,c2,c3,c4,c5,c6,c7,c8,c9,c10,hok,h1,h2,h3,h4⟩,hr⟩:=h';exact⟨⟨b,off,fM,eU,fD,dS,dL,cK,gJ,fH,e,aJ hB h,c0,c1,c2,c3,c4,c5,c6,c7,c8,c9,c10,hok,h1.mono h,h2.mono h,h3.mono h,h4.mono h⟩,hr.mono h⟩
theorem aY.At.same {l:aY} {ao:Option Addr} {k:Nat} (h:l.At w w.heap.size ao k) (hb:Below w.heap.size w w'):l.At w' w'.heap.size ao k:=(h.below hb).mono hb.size
theorem gY.below (hb:Below B w w'): ∀ {l:List Th} {ao:Option Addr} {k:Nat},gY w B l ao k->gY w' B l ao k
 | [],_,_,_=>trivial
 |_::_,_,_,⟨⟨b,off,gK,dW,dL,cK,e,hB,c0,c1,c2,c3,hs,ht,hst⟩,hr⟩=>⟨⟨b,off,gK,dW,dL,cK,e,hB,(hb.cell hB).trans c0,(hb.cell hB).trans c1,(hb.cell hB).trans c2,(hb.cell hB).trans c3,hs,ht.below hb,hst.1.below hb,hst.2⟩,gY.below hb hr⟩
theorem gY.mono (h:B<=B'): ∀ {l:List Th} {ao:Option Addr} {k:Nat},gY w B l ao k->gY w B' l ao k
 | [],_,_,_=>trivial
 |_::_,_,_,⟨⟨b,off,gK,dW,dL,cK,e,hB,c0,c1,c2,c3,hs,ht,hst⟩,hr⟩=>⟨⟨b,off,gK,dW,dL,cK,e,aJ hB h,c0,c1,c2,c3,hs,ht.mono h,hst.1.mono h,hst.2⟩,gY.mono h hr⟩
theorem gY.same {l:List Th} {ao:Option Addr} {k:Nat} (h:gY w w.heap.size l ao k) (hb:Below w.heap.size w w'):gY w' w'.heap.size l ao k:=(h.below hb).mono hb.size
theorem gY.drop: ∀ {l:List Th} {ao:Option Addr} {k:Nat} (i:Nat),gY w B l ao k->gY w B (l.drop i) ao (k+i)
 |_,_,_,0,h=>h
 | [],_,_,_+1,_=>by simp[gY]
 |_::_,_,k,i+1,⟨_,hr⟩=>by have:=gY.drop i hr;rw[List.drop_succ_cons];rwa [Nat.add_assoc,Nat.add_comm 1 i]at this
theorem gY.take: ∀ {pre R:List Th} {ao:Option Addr} {k:Nat},gY w B (pre++R) ao k->gY w B pre ao k
 | [],_,_,_,_=>trivial
 |_::_,_,_,_,h=>⟨h.1,gY.take h.2⟩
end
structure Pr where
 ds:List De
 ts:List Th
def Pr.At (w:World) (p:Pr) (aK aM:Option Addr):Prop:=p.ds.length<=maxLen∧p.ts.length<=maxLen∧iT w w.heap.size p.ds aK 0∧gY w w.heap.size p.ts aM 0
theorem Pr.At.same {w w':World} {p:Pr} {aK aM:Option Addr} (h:p.At w aK aM) (hb:Below w.heap.size w w'):p.At w' aK aM:=⟨h.1,h.2.1,h.2.2.1.same hb,h.2.2.2.same hb⟩
def fZ (d:De):Int:=
 if d.kind==1 then(if d.size==0 then 2 else 3)else if d.kind==2 then 2 else if d.kind==3 then 4 else if d.kind==4 then 5 else if d.kind==5 then 6 else if d.kind==6 then 7 else 9
def ql (ds:List De) (nm:ByteArray):Option Int:=(ds.find? λd=>d.nm.toList==nm.toList).map fZ
def sO (ts:List Th) (nm:ByteArray):Int:=if ts.any λt=>t.nm.toList==nm.toList then 8 else 0
def qJ (ts:List Th) (i:Int):List ByteArray:=if 0<=i then((ts[i.toNat]?).map (·.cu)).getD []else []
def qZ (l:List ByteArray) (nm:ByteArray):Bool:=l.any λs=>s.toList==nm.toList
def mean (p:Pr) (i:Int) (nm:ByteArray):Int:=if qZ (qJ p.ts i) nm then 1 else(ql p.ds nm).getD (sO p.ts nm)
end Md
section
variable {w W1:World} {cs ds:Array Value} {t u:TypeId} {b:Nat} {f:Nat×Nat} {x y z p q s x' y' z' p' q':Value} {r:List Value}
theorem Ea (h:w.alloc (.cells cs t)=W1): ∃nb,w.heap.size=nb∧aj (w.heap.size=nb)∧aj (Below nb w W1)∧aj (W1.heap[nb]? =some (.cells cs t (0,0)))∧aj (W1.heap.size=nb+1):=by
 subst h;exact⟨_,rfl,ah rfl,ah (aA _ _),ah (heap_alloc_new _ _),ah ahg⟩
theorem nI (h:w.alloc (.cells cs t)=W1): ∃nb,w.heap.size=nb∧aj (Below w.heap.size w W1)∧aj (Below nb w W1)∧aj (W1.heap[nb]? =some (.cells cs t (0,0)))∧aj (W1.heap.size=nb+1):=by
 subst h;exact⟨_,rfl,ah (aA _ _),ah (aA _ _),ah (heap_alloc_new _ _),ah ahg⟩
theorem gV {o:Obj} (hb:Below w.heap.size w W1) (h:aj (w.heap[b]? =some o)):aj (W1.heap[b]? =some o):=ah ((hb.block _ (aU h.o)).trans h.o)
theorem SY (h:(w.alloc (.cells cs t)).alloc (.cells ds u)=W1): ∃nb,w.heap.size=nb∧aj (w.heap.size=nb)∧aj (Below nb w W1)∧aj (W1.heap[nb]? =some (.cells cs t (0,0)))∧aj (W1.heap[nb+1]? =some (.cells ds u (0,0)))∧aj (W1.heap.size=nb+2):=by
 subst h;have h2:=heap_alloc_new (w.alloc (.cells cs t)) (.cells ds u);exact⟨_,rfl,ah rfl,ah ((aA _ _).alloc ahg _),ah (by rw[heap_alloc_old _ _ ahg];exact heap_alloc_new _ _),ah aho,ah ahg⟩
theorem WK (h:(w.alloc (.cells cs t)).alloc (.cells ds u)=W1): ∃nb,w.heap.size=nb∧aj (w.heap.size=nb)∧aj (Below w.heap.size w W1)∧aj (Below nb w W1)∧aj (W1.heap[nb]? =some (.cells cs t (0,0)))∧aj (W1.heap[nb+1]? =some (.cells ds u (0,0)))∧aj (W1.heap.size=nb+2):=by
 obtain⟨nb,h1,h2,h3,h4,h5,h6⟩:=SY h;exact⟨nb,h1,h2,ah (by rw[h1];exact h3.o),h3,h4,h5,h6⟩
theorem YH {b:Nat} : ∀(vs:List Value) (o:Nat) (w:World),(w.setCells b o vs).heap.size=w.heap.size
 | [],_,_=>rfl
 |_::r,_,_=>by rw[World.setCells,YH r];simp[World.setCell]
theorem Er {wz:World} {vs:List Value} (h0:w.setCells b 0 vs=wz) (h:w.heap[b]? =some (.cells cs t (0,0))) (hl:vs.length=cs.size):aj (wz.heap[b]? =some (.cells vs.toArray t (0,0)))∧aj (w.grownBy wz (some b))∧aj (wz.heap.size=w.heap.size):=by
 subst h0;exact⟨ah (jE h hl),ah (dN _ _ _ _),ah (YH _ _ _)⟩
theorem fr7 (h:w.heap[b]? =some (.cells cs t (0,0))):w.frozen? ⟨b,0,none⟩=false∧w.frozen? ⟨b,1,none⟩=false∧w.frozen? ⟨b,2,none⟩=false∧w.frozen? ⟨b,3,none⟩=false∧w.frozen? ⟨b,4,none⟩=false∧w.frozen? ⟨b,5,none⟩=false∧w.frozen? ⟨b,6,none⟩=false:=
 ⟨bC h,bC h,bC h,bC h,bC h,bC h,bC h⟩
theorem nT (h:w.heap[b]? =some (.cells (x::y::r).toArray t f)):w.cell? ⟨b,0,none⟩=some x∧w.cell? ⟨b,1,none⟩=some y:=⟨aQ (j:=0) h rfl,aQ (j:=1) h rfl⟩
theorem CP (h:w.heap[b]? =some (.cells (x::y::z::r).toArray t f)):w.cell? ⟨b,0,none⟩=some x∧w.cell? ⟨b,1,none⟩=some y∧w.cell? ⟨b,2,none⟩=some z:=⟨(nT h).1,(nT h).2,aQ (j:=2) h rfl⟩
theorem cl4 (h:w.heap[b]? =some (.cells (x::y::z::p::r).toArray t f)):w.cell? ⟨b,0,none⟩=some x∧w.cell? ⟨b,1,none⟩=some y∧w.cell? ⟨b,2,none⟩=some z∧w.cell? ⟨b,3,none⟩=some p:=⟨(CP h).1,(CP h).2.1,(CP h).2.2,aQ (j:=3) h rfl⟩
theorem cl5 (h:w.heap[b]? =some (.cells (x::y::z::p::q::r).toArray t f)):w.cell? ⟨b,0,none⟩=some x∧w.cell? ⟨b,1,none⟩=some y∧w.cell? ⟨b,2,none⟩=some z∧w.cell? ⟨b,3,none⟩=some p∧w.cell? ⟨b,4,none⟩=some q:=⟨(CP h).1,(CP h).2.1,(CP h).2.2,aQ (j:=3) h rfl,aQ (j:=4) h rfl⟩
theorem nJ (h:w.heap[b]? =some (.cells (x::y::z::p::q::s::r).toArray t f)):w.cell? ⟨b,0,none⟩=some x∧w.cell? ⟨b,1,none⟩=some y∧w.cell? ⟨b,2,none⟩=some z∧w.cell? ⟨b,3,none⟩=some p∧w.cell? ⟨b,4,none⟩=some q∧w.cell? ⟨b,5,none⟩=some s:=⟨(CP h).1,(CP h).2.1,(CP h).2.2,aQ (j:=3) h rfl,aQ (j:=4) h rfl,aQ (j:=5) h rfl⟩
theorem KJ (h:w.heap[b]? =some (.cells (x::y::z::p::q::s::x'::r).toArray t f)):w.cell? ⟨b,0,none⟩=some x∧w.cell? ⟨b,1,none⟩=some y∧w.cell? ⟨b,2,none⟩=some z∧w.cell? ⟨b,3,none⟩=some p∧w.cell? ⟨b,4,none⟩=some q∧w.cell? ⟨b,5,none⟩=some s∧w.cell? ⟨b,6,none⟩=some x':=⟨(CP h).1,(CP h).2.1,(CP h).2.2,aQ (j:=3) h rfl,aQ (j:=4) h rfl,aQ (j:=5) h rfl,aQ (j:=6) h rfl⟩
theorem gQ {o:Nat} (h:b<w.heap.size) (hc:w.cell? ⟨b,o,none⟩=some x): ∀w',Below w.heap.size w w'->w'.cell? ⟨b,o,none⟩=some x:=λw' hb=>(hb.cell (p:=⟨b,o,none⟩) h).trans hc
theorem bl6 (h:b<w.heap.size) (h0:w.cell? ⟨b,0,none⟩=some x) (h1:w.cell? ⟨b,1,none⟩=some y) (h2:w.cell? ⟨b,2,none⟩=some z) (h3:w.cell? ⟨b,3,none⟩=some p) (h4:w.cell? ⟨b,4,none⟩=some q) (h5:w.cell? ⟨b,5,none⟩=some s):
 (∀w',Below w.heap.size w w'->w'.cell? ⟨b,0,none⟩=some x)∧(∀w',Below w.heap.size w w'->w'.cell? ⟨b,1,none⟩=some y)∧(∀w',Below w.heap.size w w'->w'.cell? ⟨b,2,none⟩=some z)∧(∀w',Below w.heap.size w w'->w'.cell? ⟨b,3,none⟩=some p)∧(∀w',Below w.heap.size w w'->w'.cell? ⟨b,4,none⟩=some q)∧(∀w',Below w.heap.size w w'->w'.cell? ⟨b,5,none⟩=some s):=
 ⟨gQ h h0,gQ h h1,gQ h h2,gQ h h3,gQ h h4,gQ h h5⟩
theorem zw (h:b<w.heap.size) (h0:w.cell? ⟨b,0,none⟩=some x) (h1:w.cell? ⟨b,1,none⟩=some y) (h2:w.cell? ⟨b,2,none⟩=some z) (h3:w.cell? ⟨b,3,none⟩=some p) (h4:w.cell? ⟨b,4,none⟩=some q) (h5:w.cell? ⟨b,5,none⟩=some s)
 (h6:w.cell? ⟨b,6,none⟩=some x') (h7:w.cell? ⟨b,7,none⟩=some y') (h8:w.cell? ⟨b,8,none⟩=some z') (h9:w.cell? ⟨b,9,none⟩=some p') (h10:w.cell? ⟨b,10,none⟩=some q'):
 (∀w',Below w.heap.size w w'->w'.cell? ⟨b,0,none⟩=some x)∧(∀w',Below w.heap.size w w'->w'.cell? ⟨b,1,none⟩=some y)∧(∀w',Below w.heap.size w w'->w'.cell? ⟨b,2,none⟩=some z)∧(∀w',Below w.heap.size w w'->w'.cell? ⟨b,3,none⟩=some p)∧(∀w',Below w.heap.size w w'->w'.cell? ⟨b,4,none⟩=some q)∧(∀w',Below w.heap.size w w'->w'.cell? ⟨b,5,none⟩=some s)∧
 (∀w',Below w.heap.size w w'->w'.cell? ⟨b,6,none⟩=some x')∧(∀w',Below w.heap.size w w'->w'.cell? ⟨b,7,none⟩=some y')∧(∀w',Below w.heap.size w w'->w'.cell? ⟨b,8,none⟩=some z')∧(∀w',Below w.heap.size w w'->w'.cell? ⟨b,9,none⟩=some p')∧(∀w',Below w.heap.size w w'->w'.cell? ⟨b,10,none⟩=some q'):=
 have h':=bl6 h h0 h1 h2 h3 h4 h5
 ⟨h'.1,h'.2.1,h'.2.2.1,h'.2.2.2.1,h'.2.2.2.2.1,h'.2.2.2.2.2,gQ h h6,gQ h h7,gQ h h8,gQ h h9,gQ h h10⟩
end
namespace Md
def fN (op:Int):Bool:=(op==1||(decide (4<=op)&&decide (op<=6)))||(decide (9<=op)&&decide (op<=15))
def fA (op:Int):Bool:=op==15
def fI (op:Int):Bool:=op==1
def fX (op:Int):Bool:=(op==1||op==2)||(op==3||op==14)
def fB (op:Int):Bool:=decide (2<=op)&&decide (op<=8)
def fE (op:Int):Bool:=op==2
def fO (op:Int):Bool:=decide (1<=op)&&decide (op<=15)
def qN (op n:Int) (nm:ByteArray) (len:Nat):Bool:=((op==0&&n==0)&&nm.toList.isEmpty)&&len==0
def iV (d:De):Bool:=(((decide (1<=d.kind)&&decide (d.kind<=6))&&Tk.iZ d.nm.data.toList)&&(decide (0<=d.size)&&(d.size==0||d.kind==1)))&&(((d.init != -9223372036854775808)&&(d.init==0||(d.kind==1||d.kind==2)))&&kP d.on (d.kind==5))
def ou (h:dM) (bl el:Nat):Bool:=
 ((fO h.op&&(kP h.nm (fN h.op)&&kP h.arg (fA h.op)))&&((decide (h.idx.len<=1)&&(!(h.idx.len==1)||fI h.op))&&mJ h.idx))&&
   ((if fX h.op then jJ h.dQ h.xn h.dP h.bG else qN h.dQ h.xn h.dP h.bG.len)&&((fB h.op||bl==0)&&(fE h.op||el==0)))
def fT:aY->Bool
 | .nil=>true
 | .cons h b e r=>(ou h b.len e.len&&(fT b&&fT e))&&fT r
def Cn (h:dM) (b e:aY):Bool:=ou h b.len e.len&&(fT b&&fT e)
theorem Bf (h:dM) (b e r:aY):fT (.cons h b e r)=(Cn h b e&&fT r):=rfl
def oU (t:Th):Bool:=(Tk.iZ t.nm.data.toList&&t.cu.all λs=>Tk.iZ s.data.toList)&&fT t.body
def qz (p:Pr):Bool:=(p.ds.all iV&&p.ts.all oU)&&decide ((0:Int)<p.ts.length)
theorem op1 {x:Int} (h:x=1):(x==1)=true∧(x==2)=false∧(x==3)=false∧(x==4)=false∧(x==5)=false∧(x==6)=false∧(x==7)=false∧(x==8)=false∧(x==9)=false∧(x==10)=false∧(x==11)=false∧(x==12)=false∧(x==13)=false∧(x==14)=false∧(x==15)=false:=ahm
theorem op2 {x:Int} (h:x=2):(x==1)=false∧(x==2)=true∧(x==3)=false∧(x==4)=false∧(x==5)=false∧(x==6)=false∧(x==7)=false∧(x==8)=false∧(x==9)=false∧(x==10)=false∧(x==11)=false∧(x==12)=false∧(x==13)=false∧(x==14)=false∧(x==15)=false:=ahm
theorem Ye {x:Int} (h:x=3):(x==1)=false∧(x==2)=false∧(x==3)=true∧(x==4)=false∧(x==5)=false∧(x==6)=false∧(x==7)=false∧(x==8)=false∧(x==9)=false∧(x==10)=false∧(x==11)=false∧(x==12)=false∧(x==13)=false∧(x==14)=false∧(x==15)=false:=ahm
theorem Yf {x:Int} (h:x=4):(x==1)=false∧(x==2)=false∧(x==3)=false∧(x==4)=true∧(x==5)=false∧(x==6)=false∧(x==7)=false∧(x==8)=false∧(x==9)=false∧(x==10)=false∧(x==11)=false∧(x==12)=false∧(x==13)=false∧(x==14)=false∧(x==15)=false:=ahm
theorem Yg {x:Int} (h:x=5):(x==1)=false∧(x==2)=false∧(x==3)=false∧(x==4)=false∧(x==5)=true∧(x==6)=false∧(x==7)=false∧(x==8)=false∧(x==9)=false∧(x==10)=false∧(x==11)=false∧(x==12)=false∧(x==13)=false∧(x==14)=false∧(x==15)=false:=ahm
theorem Yh {x:Int} (h:x=6):(x==1)=false∧(x==2)=false∧(x==3)=false∧(x==4)=false∧(x==5)=false∧(x==6)=true∧(x==7)=false∧(x==8)=false∧(x==9)=false∧(x==10)=false∧(x==11)=false∧(x==12)=false∧(x==13)=false∧(x==14)=false∧(x==15)=false:=ahm
theorem Yi {x:Int} (h:x=7):(x==1)=false∧(x==2)=false∧(x==3)=false∧(x==4)=false∧(x==5)=false∧(x==6)=false∧(x==7)=true∧(x==8)=false∧(x==9)=false∧(x==10)=false∧(x==11)=false∧(x==12)=false∧(x==13)=false∧(x==14)=false∧(x==15)=false:=ahm
theorem Yj {x:Int} (h:x=8):(x==1)=false∧(x==2)=false∧(x==3)=false∧(x==4)=false∧(x==5)=false∧(x==6)=false∧(x==7)=false∧(x==8)=true∧(x==9)=false∧(x==10)=false∧(x==11)=false∧(x==12)=false∧(x==13)=false∧(x==14)=false∧(x==15)=false:=ahm
theorem Yk {x:Int} (h:x=9):(x==1)=false∧(x==2)=false∧(x==3)=false∧(x==4)=false∧(x==5)=false∧(x==6)=false∧(x==7)=false∧(x==8)=false∧(x==9)=true∧(x==10)=false∧(x==11)=false∧(x==12)=false∧(x==13)=false∧(x==14)=false∧(x==15)=false:=ahm
theorem QM {x:Int} (h:x=10):(x==1)=false∧(x==2)=false∧(x==3)=false∧(x==4)=false∧(x==5)=false∧(x==6)=false∧(x==7)=false∧(x==8)=false∧(x==9)=false∧(x==10)=true∧(x==11)=false∧(x==12)=false∧(x==13)=false∧(x==14)=false∧(x==15)=false:=ahm
theorem QN {x:Int} (h:x=11):(x==1)=false∧(x==2)=false∧(x==3)=false∧(x==4)=false∧(x==5)=false∧(x==6)=false∧(x==7)=false∧(x==8)=false∧(x==9)=false∧(x==10)=false∧(x==11)=true∧(x==12)=false∧(x==13)=false∧(x==14)=false∧(x==15)=false:=ahm
theorem QO {x:Int} (h:x=12):(x==1)=false∧(x==2)=false∧(x==3)=false∧(x==4)=false∧(x==5)=false∧(x==6)=false∧(x==7)=false∧(x==8)=false∧(x==9)=false∧(x==10)=false∧(x==11)=false∧(x==12)=true∧(x==13)=false∧(x==14)=false∧(x==15)=false:=ahm
theorem QS {x:Int} (h:x=13):(x==1)=false∧(x==2)=false∧(x==3)=false∧(x==4)=false∧(x==5)=false∧(x==6)=false∧(x==7)=false∧(x==8)=false∧(x==9)=false∧(x==10)=false∧(x==11)=false∧(x==12)=false∧(x==13)=true∧(x==14)=false∧(x==15)=false:=ahm
theorem QT {x:Int} (h:x=14):(x==1)=false∧(x==2)=false∧(x==3)=false∧(x==4)=false∧(x==5)=false∧(x==6)=false∧(x==7)=false∧(x==8)=false∧(x==9)=false∧(x==10)=false∧(x==11)=false∧(x==12)=false∧(x==13)=false∧(x==14)=true∧(x==15)=false:=ahm
theorem QU {x:Int} (h:x=15):(x==1)=false∧(x==2)=false∧(x==3)=false∧(x==4)=false∧(x==5)=false∧(x==6)=false∧(x==7)=false∧(x==8)=false∧(x==9)=false∧(x==10)=false∧(x==11)=false∧(x==12)=false∧(x==13)=false∧(x==14)=false∧(x==15)=true:=ahm
theorem kd1 {x:Int} (h:x=1):(x==1)=true∧(x==2)=false∧(x==3)=false∧(x==4)=false∧(x==5)=false∧(x==6)=false:=ahm
theorem kd2 {x:Int} (h:x=2):(x==1)=false∧(x==2)=true∧(x==3)=false∧(x==4)=false∧(x==5)=false∧(x==6)=false:=ahm
theorem kd3 {x:Int} (h:x=3):(x==1)=false∧(x==2)=false∧(x==3)=true∧(x==4)=false∧(x==5)=false∧(x==6)=false:=ahm
theorem kd4 {x:Int} (h:x=4):(x==1)=false∧(x==2)=false∧(x==3)=false∧(x==4)=true∧(x==5)=false∧(x==6)=false:=ahm
theorem kd5 {x:Int} (h:x=5):(x==1)=false∧(x==2)=false∧(x==3)=false∧(x==4)=false∧(x==5)=true∧(x==6)=false:=ahm
theorem kd6 {x:Int} (h:x=6):(x==1)=false∧(x==2)=false∧(x==3)=false∧(x==4)=false∧(x==5)=false∧(x==6)=true:=ahm
end Md
namespace Md
structure Sl where
 fM:Option Addr
 eU:Nat
 fD:Option Addr
 dS:Nat
 dL:Option Addr
 cK:Nat
 gJ:Option Addr
 fH:Nat
def jH (h:dM) (b e:aY) (s:Sl):Value:= .agg #[.int .i64 h.op,.int .i64 h.line,.string h.nm,.string h.arg,.slice s.fM h.idx.len s.eU,.int .i64 h.dQ,.int .i64 h.xn,.string h.dP,.slice s.fD h.bG.len s.dS,.slice s.dL b.len s.cK,.slice s.gJ e.len s.fH]
def qY (n:Nat) (h:dM) (b e:aY) (s:Sl) (fs:List (Nat×Nat×Value)):List (Nat×Nat×Value):=
 (n,0,.int .i64 h.op)::(n,1,.int .i64 h.line)::(n,2,.string h.nm)::(n,3,.string h.arg)::(n,4,.slice s.fM h.idx.len s.eU)::(n,5,.int .i64 h.dQ)::(n,6,.int .i64 h.xn)::(n,7,.string h.dP)::(n,8,.slice s.fD h.bG.len s.dS)::(n,9,.slice s.dL b.len s.cK)::(n,10,.slice s.gJ e.len s.fH)::fs
def Dm (w:World) (h:dM) (b e:aY) (s:Sl):Prop:=uE h b e∧h.idx.At w w.heap.size s.fM 0∧h.bG.At w w.heap.size s.fD 0∧b.At w w.heap.size s.dL 0∧e.At w w.heap.size s.gJ 0
theorem Dm.same {w w':World} {h:dM} {b e:aY} {s:Sl} (hi:Dm w h b e s) (hb:Below w.heap.size w w'):Dm w' h b e s:=
 ⟨hi.1,hi.2.1.same hb,hi.2.2.1.same hb,hi.2.2.2.1.same hb,hi.2.2.2.2.same hb⟩
theorem aY.At.head {w:World} {h:dM} {b e r:aY} {ao:Option Addr} {k:Nat} (hat:(aY.cons h b e r).At w w.heap.size ao k): ∃bl off s,ao=some ⟨bl,off,none⟩∧bl<w.heap.size∧Dm w h b e s∧
 w.cell? ⟨bl,off+k*11,none⟩=some (.int .i64 h.op)∧w.cell? ⟨bl,off+k*11+1,none⟩=some (.int .i64 h.line)∧w.cell? ⟨bl,off+k*11+2,none⟩=some (.string h.nm)∧w.cell? ⟨bl,off+k*11+3,none⟩=some (.string h.arg)∧w.cell? ⟨bl,off+k*11+4,none⟩=some (.slice s.fM h.idx.len s.eU)∧
 w.cell? ⟨bl,off+k*11+5,none⟩=some (.int .i64 h.dQ)∧w.cell? ⟨bl,off+k*11+6,none⟩=some (.int .i64 h.xn)∧w.cell? ⟨bl,off+k*11+7,none⟩=some (.string h.dP)∧w.cell? ⟨bl,off+k*11+8,none⟩=some (.slice s.fD h.bG.len s.dS)∧
 w.cell? ⟨bl,off+k*11+9,none⟩=some (.slice s.dL b.len s.cK)∧w.cell? ⟨bl,off+k*11+10,none⟩=some (.slice s.gJ e.len s.fH)∧r.At w w.heap.size ao (k+1):=by
 obtain⟨⟨b,off,fM,eU,fD,dS,dL,cK,gJ,fH,e,hB,c0,c1,c2,c3,c4,c5,c6,c7,c8,c9,c10,hok,h1,h2,h3,h4⟩,hr⟩:=hat;exact⟨b,off,⟨fM,eU,fD,dS,dL,cK,gJ,fH⟩,e,hB,⟨hok,h1,h2,h3,h4⟩,c0,c1,c2,c3,c4,c5,c6,c7,c8,c9,c10,hr⟩
end Md
theorem TK (n:Nat):decide ((n:Int)<=1)=decide (n<=1):=by rw[decide_eq_decide];omega
theorem TJ (n:Nat):decide ((n:Int)=1)=(n==1):=abQ
theorem Iu (n:Nat):decide ((n:Int)<=0)=(n==0):=abQ
namespace Md
theorem cell0 {w:World} {g k m:Nat} {u:Value} (h:w.cell? ⟨g,k*m+0,none⟩=some u):w.cell? ⟨g,0+k*m,none⟩=some u:=by rw[aV];exact h
theorem qj {w:World} {g k m j:Nat} {u:Value} (h:w.cell? ⟨g,k*m+j,none⟩=some u):w.cell? ⟨g,0+k*m+j,none⟩=some u:=by rw[aV];exact h
structure kE where
 h:dM
 b:aY
 e:aY
 s:Sl
def kE.f (x:kE):List Value:=[.int .i64 x.h.op,.int .i64 x.h.line,.string x.h.nm,.string x.h.arg,.slice x.s.fM x.h.idx.len x.s.eU,.int .i64 x.h.dQ,.int .i64 x.h.xn,.string x.h.dP,.slice x.s.fD x.h.bG.len x.s.dS,.slice x.s.dL x.b.len x.s.cK,.slice x.s.gJ x.e.len x.s.fH]
def kE.I (x:kE) (w:World):Prop:=x.h.idx.At w w.heap.size x.s.fM 0∧x.h.bG.At w w.heap.size x.s.fD 0∧x.b.At w w.heap.size x.s.dL 0∧x.e.At w w.heap.size x.s.gJ 0
def wG:List kE->aY
 | []=> .nil
 |x::r=> .cons x.h x.b x.e (wG r)
theorem Db: ∀l,(wG l).len=l.length
 | []=>rfl
 |_::r=>by show(wG r).len+1=_;rw[Db r];rfl
theorem YF {w:World} {ao:Option Addr} : ∀(l:List kE) (k:Nat),(∀x∈l,uE x.h x.b x.e∧x.I w)->(∀i x,l[i]? =some x->∃g,ao=some ⟨g,0,none⟩∧g<w.heap.size∧∀j u,x.f[j]? =some u->w.cell? ⟨g,(k+i)*11+j,none⟩=some u)->(wG l).At w w.heap.size ao k
 | [],_,_,_=>trivial
 |x::r,k,h1,h2=>by obtain⟨g,rfl,hg,hc⟩:=h2 0 x rfl;obtain⟨hok,i1,i2,i3,i4⟩:=h1 x ahg;refine⟨⟨g,0,x.s.fM,x.s.eU,x.s.fD,x.s.dS,x.s.dL,x.s.cK,x.s.gJ,x.s.fH,rfl,hg,cell0 (hc 0 _ rfl),qj (hc 1 _ rfl),qj (hc 2 _ rfl),qj (hc 3 _ rfl),qj (hc 4 _ rfl),qj (hc 5 _ rfl),qj (hc 6 _ rfl),qj (hc 7 _ rfl),qj (hc 8 _ rfl),qj (hc 9 _ rfl),qj (hc 10 _ rfl),hok,i1,i2,i3,i4⟩,?_⟩;exact YF r (k+1) (λy hy=>h1 y ahG) (λi y hy=>θ)
theorem au8 (x:kE):(kE.f x).length=11:=rfl
abbrev Ia (B:Nat) (w:World) (v:Value) (l:List kE):Prop:=Grow kE.f 11 kE.I 101 B w v l
theorem Ia.says {B:Nat} {w:World} {v:Value} {l:List kE} (h:Ia B w v l) (hok: ∀x∈l,uE x.h x.b x.e): ∃ao cap,v= .slice ao (wG l).len cap∧gB B w (λw2=>(wG l).At w2 w2.heap.size ao 0):=by
 obtain⟨ao,cap,e⟩:=h.len;refine⟨ao,cap,by rw[e,Db],λw2 h2=> ?_⟩;obtain⟨hI,kR,cap',e',-,hc⟩:=h.cells au8 w2 h2;rw[e]at e';injection e' with e1 e2 e3;subst e1;exact YF l 0 (λx hx=>⟨hok x hx,hI x hx⟩) (λi x hx=>aau)
def oD (d:De):List Value:=[.int .i64 d.kind,.int .i64 d.line,.string d.nm,.int .i64 d.size,.int .i64 d.init,.string d.on]
theorem al8 {w:World} {ao:Option Addr} : ∀(l:List De) (k:Nat),(∀x∈l,x.Ok)->(∀i x,l[i]? =some x->∃g,ao=some ⟨g,0,none⟩∧g<w.heap.size∧∀j u,(oD x)[j]? =some u->w.cell? ⟨g,(k+i)*6+j,none⟩=some u)->iT w w.heap.size l ao k
 | [],_,_,_=>trivial
 |x::r,k,h1,h2=>by obtain⟨g,rfl,hg,hc⟩:=h2 0 x rfl;refine⟨⟨g,0,rfl,hg,cell0 (hc 0 _ rfl),qj (hc 1 _ rfl),qj (hc 2 _ rfl),qj (hc 3 _ rfl),qj (hc 4 _ rfl),qj (hc 5 _ rfl),h1 x ahg⟩,?_⟩;exact al8 r (k+1) (λy hy=>h1 y ahG) (λi y hy=>θ)
theorem Eh (x:De):(oD x).length=6:=rfl
abbrev AQ (B:Nat) (w:World) (v:Value) (l:List De):Prop:=Grow oD 6 (λ_ _=>True) 55 B w v l
theorem AQ.says {B:Nat} {w:World} {v:Value} {l:List De} (h:AQ B w v l) (hok: ∀x∈l,x.Ok): ∃ao cap,v= .slice ao l.length cap∧l.length<=cap∧gB B w (λw2=>iT w2 w2.heap.size l ao 0):=by
 obtain⟨-,ao,cap,e,hl,-⟩:=h.cells Eh w (jS.refl _ _);refine⟨ao,cap,e,hl,λw2 h2=> ?_⟩;obtain⟨-,kR,cap',e',-,hc⟩:=h.cells Eh w2 h2;rw[e]at e';injection e' with e1 e2 e3;subst e1;exact al8 l 0 hok (λi x hx=>aau)
def qo (s:ByteArray):List Value:=[.string s]
theorem ap3 {w:World} {ao:Option Addr} : ∀(l:List ByteArray) (k:Nat),(∀x∈l,x.size<=maxLen)->(∀i x,l[i]? =some x->∃g,ao=some ⟨g,0,none⟩∧g<w.heap.size∧∀j u,(qo x)[j]? =some u->w.cell? ⟨g,(k+i)*1+j,none⟩=some u)->fU w w.heap.size l ao k
 | [],_,_,_=>trivial
 |x::r,k,h1,h2=>by obtain⟨g,rfl,hg,hc⟩:=h2 0 x rfl;refine⟨⟨g,0,rfl,hg,by have:=cell0 (hc 0 _ rfl);simpa using this,h1 x ahg⟩,?_⟩;exact ap3 r (k+1) (λy hy=>h1 y ahG) (λi y hy=>θ)
theorem IG (x:ByteArray):(qo x).length=1:=rfl
abbrev mQ (B:Nat) (w:World) (v:Value) (l:List ByteArray):Prop:=Grow qo 1 (λ_ _=>True) 9 B w v l
theorem mQ.says {B:Nat} {w:World} {v:Value} {l:List ByteArray} (h:mQ B w v l) (hok: ∀x∈l,x.size<=maxLen): ∃ao cap,v= .slice ao l.length cap∧l.length<=cap∧gB B w (λw2=>fU w2 w2.heap.size l ao 0):=by
 obtain⟨-,ao,cap,e,hl,-⟩:=h.cells IG w (jS.refl _ _);refine⟨ao,cap,e,hl,λw2 h2=> ?_⟩;obtain⟨-,kR,cap',e',-,hc⟩:=h.cells IG w2 h2;rw[e]at e';injection e' with e1 e2 e3;subst e1;exact ap3 l 0 hok (λi x hx=>aau)
structure kF where
 t:Th
 gK:Option Addr
 dW:Nat
 dL:Option Addr
 cK:Nat
def kF.f (x:kF):List Value:=[.string x.t.nm,.int .i64 x.t.line,.slice x.gK x.t.cu.length x.dW,.slice x.dL x.t.body.len x.cK]
def kF.I (x:kF) (w:World):Prop:=fU w w.heap.size x.t.cu x.gK 0∧x.t.body.At w w.heap.size x.dL 0
theorem ao4 {w:World} {ao:Option Addr} : ∀(l:List kF) (k:Nat),(∀x∈l,(x.t.Ok∧x.t.cu.length<=x.dW)∧x.I w)->(∀i x,l[i]? =some x->∃g,ao=some ⟨g,0,none⟩∧g<w.heap.size∧∀j u,x.f[j]? =some u->w.cell? ⟨g,(k+i)*4+j,none⟩=some u)->gY w w.heap.size (l.map (·.t)) ao k
 | [],_,_,_=>trivial
 |x::r,k,h1,h2=>by obtain⟨g,rfl,hg,hc⟩:=h2 0 x rfl;obtain⟨⟨hok,hcl⟩,i1,i2⟩:=h1 x ahg;refine⟨⟨g,0,x.gK,x.dW,x.dL,x.cK,rfl,hg,cell0 (hc 0 _ rfl),qj (hc 1 _ rfl),qj (hc 2 _ rfl),qj (hc 3 _ rfl),hok,i1,i2,hcl⟩,?_⟩;exact ao4 r (k+1) (λy hy=>h1 y ahG) (λi y hy=>θ)
theorem Ug (x:kF):(kF.f x).length=4:=rfl
abbrev Bo (B:Nat) (w:World) (v:Value) (l:List kF):Prop:=Grow kF.f 4 kF.I 59 B w v l
theorem Bo.says {B:Nat} {w:World} {v:Value} {l:List kF} (h:Bo B w v l) (hok: ∀x∈l,x.t.Ok∧x.t.cu.length<=x.dW): ∃ao cap,v= .slice ao (l.map (·.t)).length cap∧l.length<=cap∧gB B w (λw2=>gY w2 w2.heap.size (l.map (·.t)) ao 0):=by
 obtain⟨-,ao,cap,e,hl,-⟩:=h.cells Ug w (jS.refl _ _);refine⟨ao,cap,by rw[e,ji],hl,λw2 h2=> ?_⟩;obtain⟨hI,kR,cap',e',-,hc⟩:=h.cells Ug w2 h2;rw[e]at e';injection e' with e1 e2 e3;subst e1;exact ao4 l 0 (λx hx=>⟨hok x hx,hI x hx⟩) (λi x hx=>aau)
end Md
abbrev RG (G:Type):=Value->G->World->Prop
section
variable {G:Type}
def iM (ents:List (Option Tmp×RG G)) (A:Act) (g:G) (w:World):List Edge->Prop
 | []=>True
 |e::r=>(if Region.binds .any e=true then(match ents[e.on]? with|some (d,R)=>R (eO A d) g w|none=>True)else True)∧iM ents A g w r
def mK (ents:List (Option Tmp×RG G)) (A:Act) (o:Oper):Bool:=
 match o.guard with
 |none=>true
 |some (g,b)=>match ents[g]? with
  |some (some d,_)=>match A.eval (.tmp d)with
   | .bool x=>x==b
   |_=>false
  |_=>false
def gF (C:G->World->Prop) (Le:G->World->G->World->Prop) (R:RG G) (A:Act) (dst:Option Tmp) (g:G) (w:World) (a':Act) (w':World):Prop:=
 ∃v g',a'=A.put dst v∧Le g w g' w'∧C g' w'∧R (if dst.isSome then v else undef) g' w'
theorem gF.mk {C:G->World->Prop} {Le:G->World->G->World->Prop} {R:RG G} {A:Act} {d:Tmp} {g g':G} {w w':World} {v:Value} (hle:Le g w g' w') (hC:C g' w') (hR:R v g' w'):gF C Le R A (some d) g w (A.put (some d) v) w':=⟨v,g',rfl,hle,hC,hR⟩
theorem gF.qK {C:G->World->Prop} {Le:G->World->G->World->Prop} {R:RG G} {A:Act} {g g':G} {w w':World} {v:Value} (hle:Le g w g' w') (hC:C g' w') (hR:R undef g' w'):gF C Le R A none g w (A.put none v) w':=⟨v,g',rfl,hle,hC,hR⟩
def sF (D:Nat->Bool) (i:Nat):Nat->Bool:=λk=>D k||k==i
def Pp (P:Program) (a0:Act) (Q:Exit->Act->World->Prop) (C:(Nat->Bool)->G->World->Prop) (Le:G->World->G->World->Prop) (fC:List Tmp) (ents:List (Option Tmp×RG G)) (o:Oper) (R:RG G) (i:Nat):Prop:=
 ∀D A g w,D i=false->C D g w->(∀s,fC.contains s=false->A.eval (.tmp s)=a0.eval (.tmp s))->iM ents A g w o.after.toList->
  if mK ents A o then o.wp P A w (gF (C (sF D i)) Le R A o.dst g w) Q else(C (sF D i) g w∧R undef g w)
def iH (c:Value):RG G:=λv _ _=>v=c
theorem iH.mk (c:Value) (g:G) (w:World):iH c c g w:=rfl
def KG (g:G) (ents:List (Option Tmp×RG G)):List (Option Tmp×RP):=ents.map λx=>(x.1,λv w=>x.2 v g w)
def jQ (P:Program) (a0:Act) (Q:Exit->Act->World->Prop) (C:(Nat->Bool)->G->World->Prop) (Le:G->World->G->World->Prop) (fC:List Tmp):List Oper->List (Option Tmp×RG G)->Prop
 | [],ents=> ∀D g w,(∀i,i<ents.length->D i=true)->C D g w->dH w (λa=>Q .normal a w) (KG g ents) a0
 |o::rest,ents=> ∃R:RG G,(∀v g w g' w',Le g w g' w'->R v g w->R v g' w')∧Pp P a0 Q C Le fC ents o R ents.length∧jQ P a0 Q C Le fC rest (ents++[(o.dst,R)])
variable {P:Program} {a0:Act} {Q:Exit->Act->World->Prop} {C:(Nat->Bool)->G->World->Prop} {Le:G->World->G->World->Prop} {fC:List Tmp}
theorem jQ.full: ∀ {l:List Oper} {ents:List (Option Tmp×RG G)},jQ P a0 Q C Le fC l ents->∃full:List (Option Tmp×RG G),full.length=ents.length+l.length∧full.take ents.length=ents∧
 (∀(i:Nat) (o:Oper),l[i]? =some o->∃R,full[ents.length+i]? =some (o.dst,R)∧(∀v g w g' w',Le g w g' w'->R v g w->R v g' w')∧Pp P a0 Q C Le fC (full.take (ents.length+i)) o R (ents.length+i))∧
 ∀D g w,(∀i,i<full.length->D i=true)->C D g w->dH w (λa=>Q .normal a w) (KG g full) a0
 | [],ents,h=>⟨ents,ahg,ahg,ahg,h⟩
 |o::rest,ents,h=>by
  obtain⟨R,hm,ho,hr⟩:=h;obtain⟨full,h1,h2,h3,h4⟩:=jQ.full hr;simp only[au,ay,aI,aV]at h1 h2 h3;have hlen:ents.length<full.length:=ahe
  have hget:full[ents.length]? =some (o.dst,R):=abg
  refine⟨full,ahh,?_,?_,h4⟩
  ·have:=congrArg (List.take ents.length) h2;simpa[List.take_take]using this
  ·intro i o' hi;cases i with
   |zero=>simp only[List.getElem?_cons_zero,Option.some.injEq]at hi;subst hi;refine⟨R,agX,hm,?_⟩;have:full.take (ents.length+0)=ents:=aaA;rw[this];exact ho
   |succ i=>have hi':rest[i]? =some o':=ahA;have:=h3 i o' hi';rw[show ents.length+(i+1)=ents.length+1+i by omega];exact this
theorem jQ.step {o:Oper} {rest:List Oper} {ents:List (Option Tmp×RG G)} {v:Value} (aZ:Pp P a0 Q C Le fC ents o (iH v) ents.length) (hrest:jQ P a0 Q C Le fC rest (ents++[(o.dst,iH v)])):jQ P a0 Q C Le fC (o::rest) ents:=
 ⟨iH v,λ_ _ _ _ _ _ h=>h,aZ,hrest⟩
theorem jQ.some {o:Oper} {rest:List Oper} {ents:List (Option Tmp×RG G)} (R:RG G) (hmono: ∀v g w g' w',Le g w g' w'->R v g w->R v g' w') (aZ:Pp P a0 Q C Le fC ents o R ents.length) (hrest:jQ P a0 Q C Le fC rest (ents++[(o.dst,R)])):jQ P a0 Q C Le fC (o::rest) ents:=
 ⟨R,hmono,aZ,hrest⟩
theorem jQ.done {ents:List (Option Tmp×RG G)} (h: ∀D g w,(∀i,i<ents.length->D i=true)->C D g w->dH w (λa=>Q .normal a w) (KG g ents) a0):jQ P a0 Q C Le fC [] ents:=h
theorem Q5 {full:List (Option Tmp×RG G)} {A:Act} {g:G} {w:World} {i:Nat} : ∀ {l:List Edge},(∀e∈l,Region.binds .any e=true->∀(d:Option Tmp) (R:RG G),full[e.on]? =some (d,R)->R (eO A d) g w)->iM (full.take i) A g w l
 | [],_=>trivial
 |e::r,h=>by
  refine⟨?_,Q5 λe' he'=>h e' (by simp[he'])⟩;split
  case isFalse=>trivial
  case isTrue hb=>
  cases hg:(full.take i)[e.on]? with
  |none=>trivial
  |some x=>
   obtain⟨d,R⟩:=x;rw[List.getElem?_take]at hg;split at hg
   ·exact h e ahg hb d R hg
   ·cases hg
def KR (listed:Array Bool):Nat->Bool:=λi=>listed.getD i false
theorem aq8 {listed:Array Bool} {i:Nat} (hi:i<listed.size):KR (listed.setIfInBounds i true)=sF (KR listed) i:=by
 funext k;unfold KR sF;by_cases hk:i=k
 ·subst hk;simp[hi]
 ·rw[getD_set_ne false hk];have:(k==i)=false:=by rw[beq_eq_false_iff_ne];exact λe=>hk e.symm
  rw[this,Bool.or_false]
def ak7 (a0:Act) (C:(Nat->Bool)->G->World->Prop) (full:List (Option Tmp×RG G)) (n:Nat) (listed:Array Bool) (a:Act) (g:G) (w:World):Prop:=
 listed.size=n∧C (KR listed) g w∧a.defers=a0.defers∧a.tmps.size=a0.tmps.size∧
 (∀s:Nat,(∀(i:Nat) (d:Tmp) (R:RG G),full[i]? =some (some d,R)->listed.getD i false=true->d≠s)->a.tmps[s]? =a0.tmps[s]?)∧
 ∀(i:Nat) (d:Option Tmp) (R:RG G),full[i]? =some (d,R)->listed.getD i false=true->R (eO a d) g w
theorem av8 {ops:Array Oper} {full:List (Option Tmp×RG G)} {o:Oper} {A:Act} {i:Nat} (hf: ∀(k:Nat) (ok:Oper),ops[k]? =some ok->∃R,full[k]? =some (ok.dst,R)) (hlen:full.length=ops.size)
 (hg: ∀g b,o.guard=some (g,b)->g<i):Region.wanted o (yielded ops A.tmps)=mK (full.take i) A o:=by
 unfold Region.wanted mK;cases ho:o.guard with
 |none=>rfl
 |some x=>
  obtain⟨g,b⟩:=x;have hgi:=hg g b ho;simp only;rw[List.getElem?_take,if_pos hgi];unfold yielded;cases hk:ops[g]? with
  |none=>have:full[g]? =none:=List.getElem?_eq_none acj;rw[this];rfl
  |some ok=>
   obtain⟨R,hR⟩:=hf g ok hk;rw[hR];simp only[Option.bind_some];cases hd:ok.dst with
   |none=>rfl
   |some d=>
    simp only[Option.bind_some,Act.eval];cases ht:A.tmps[d]? with
    |none=>simp[ht,undef]
    |some v=>simp only[Array.getD_eq_getD_getElem?,ht,Option.getD_some];cases v <;> first|rfl|(rename_i x;cases x <;> cases b <;> rfl)
theorem YS {l:List Oper} {full:List (Option Tmp×RG G)} (El: ∀g w,Le g w g w) (hbd: ∀d∈fC,d<a0.tmps.size) (hlen:full.length=l.length) (hnd:(l.filterMap (·.dst)).Nodup) (tZ:l.filterMap (·.dst)=fC)
 (hed: ∀(i:Nat) (o:Oper),l[i]? =some o->∀d∈oP o,d<i) (hgu: ∀(i:Nat) (o:Oper),l[i]? =some o->∀g b,o.guard=some (g,b)->g<i)
 (hf: ∀(i:Nat) (o:Oper),l[i]? =some o->∃R,full[i]? =some (o.dst,R)∧(∀v g w g' w',Le g w g' w'->R v g w->R v g' w')∧Pp P a0 Q C Le fC (full.take i) o R i)
 (hend: ∀D g w,(∀i,i<full.length->D i=true)->C D g w->dH w (λa=>Q .normal a w) (KG g full) a0):
 ∀(fuel:Nat) (listed:Array Bool) (a:Act) (g:G) (w:World),cnt listed l.length<=fuel->ak7 a0 C full l.length listed a g w->wpAny P .any l.toArray Q fuel listed a w:=by
 have hmono: ∀(i:Nat) (d:Option Tmp) (R:RG G),full[i]? =some (d,R)->∀v g w g' w',Le g w g' w'->R v g w->R v g' w':=λi d R hi=>by
  have hlt:i<l.length:=aaZ
  obtain⟨R',h1,h2,-⟩:=hf i l[i] (bJ hlt);rw[hi]at h1;simp only[Option.some.injEq,Prod.mk.injEq]at h1;rw[h1.2];exact h2
 have hdst: ∀(i:Nat) (d:Option Tmp) (R:RG G),full[i]? =some (d,R)->∃o,l[i]? =some o∧o.dst=d:=λi d R hi=>by
  have hlt:i<l.length:=aaZ
  obtain⟨R',h1,-⟩:=hf i l[i] (bJ hlt);rw[hi]at h1;simp only[Option.some.injEq,Prod.mk.injEq]at h1;exact⟨l[i],bJ hlt,h1.1.symm⟩
 have hall: ∀listed a g w,ak7 a0 C full l.length listed a g w->(∀i,i<l.length->listed.getD i false=true)->Q .normal a w:=λlisted a g w hI ha=>by
  obtain⟨hsz0,hC,hd,hz,hs,hR⟩:=hI;refine(hend (KR listed) g w (λi hi=>ha i (by rw[<- hlen];exact hi)) hC).use (a':=a) (λi d R hi=> ?_) hd hz (λs hne=>hs s (λi d R hi _=>hne i d (λv w=>R v g w) (by unfold KG;rw[List.getElem?_map,hi];rfl)));unfold KG at hi;rw[List.getElem?_map]at hi;cases hq:full[i]? with
  |none=>rw[hq]at hi;cases hi
  |some x=>obtain⟨d',R'⟩:=x;rw[hq]at hi;simp only[Option.map_some,Option.some.injEq,Prod.mk.injEq]at hi;obtain⟨rfl,rfl⟩:=hi;refine hR i d' R' hq (ha i ?_);rw[<- hlen];exact(List.getElem?_eq_some_iff.1 hq).1
 have GV: ∀listed:Array Bool,listed.size=l.length->Region.ready .any l.toArray listed=[]->∀i,i<l.length->listed.getD i false=true:=λlisted hsz hr i=>by
  induction i using Nat.strongRecOn with
  |_ i ih=>
   intro hi;cases hg:listed.getD i false with
   |true=>rfl
   |false=>exfalso;have:i∈Region.ready .any l.toArray listed:=mem_ready.2 ⟨abf,l[i],by simp[hi],λe he hb=>ih e.on (hed i l[i] (bJ hi) e.on (zZ he hb)) aco⟩;rw[hr]at this;cases this
 intro fuel
 induction fuel with
 |zero=>
  intro listed a g w hc hI;have ha:=EM (Nat.le_zero.1 hc);refine⟨?_,hall listed a g w hI ha⟩;rw[List.eq_nil_iff_forall_not_mem];intro i hi;obtain⟨h0,o,ho,-⟩:=mem_ready.1 hi;have hlt:i<l.length:=afW
  have:=ha i hlt;have h1:i<listed.size:=agh
  simp[h1]at h0 this;rw[h0]at this;cases this
 |succ fuel ih=>
  intro listed a g w hc hI;refine⟨λhr=>hall listed a g w hI (GV listed hI.1 hr),λi hi=> ?_⟩;obtain⟨h0,o,ho,Dt⟩:=mem_ready.1 hi;have hlt:i<l.length:=afW
  have hlo:l[i]? =some o:=by simpa using ho
  have hls:i<listed.size:=agh
  have hun:listed.getD i false=false:=agJ
  obtain⟨R,Ja,hRm,Xy⟩:=hf i o hlo;obtain⟨hsz,hC,hd,hz,hs,hR⟩:=hI;have hW:=av8 (A:=a) (o:=o) (i:=i) (ops:=l.toArray) (full:=full) (λk ok hk=>abq) afm (hgu i o hlo);have hstep:=Xy (KR listed) a g w hun hC (λs hs'=>χ) (Q5 (λe he hb d R' hR'=>hR e.on d R' hR' (Dt e ahH hb)));have hnext: ∀(v:Value) (g':G) (w':World),Le g w g' w'->C (sF (KR listed) i) g' w'->R (eO (a.put o.dst v) o.dst) g' w'->wpAny P .any l.toArray Q fuel (listed.setIfInBounds i true) (a.put o.dst v) w':=λv g' w' hle hC' hv=>by
   refine ih _ _ g' _ ?_ ⟨by simp[hsz],by rw[aq8 hls];exact hC',?_,?_,?_,?_⟩
   ·have:=Il hls hun l.length;rw[if_pos hlt]at this;omega
   ·cases o.dst <;> simpa[Act.put]using hd
   ·cases o.dst <;> simpa[Act.put]using hz
   ·intro s hne;have h1:a.tmps[s]? =a0.tmps[s]?:=hs s (λk d R' hk hl=>hne k d R' hk (getD_set_true hl));cases hod:o.dst with
    |none=>simpa[Act.put]using h1
    |some d=>have hds:d≠s:=hne i d R aia (by simp[hls]);simp only[Act.put];rw[Array.getElem?_setIfInBounds_ne hds];exact h1
   ·intro k d R' hk hl;by_cases hik:i=k
    ·subst hik;rw[Ja]at hk;simp only[Option.some.injEq,Prod.mk.injEq]at hk;obtain⟨rfl,rfl⟩:=hk;exact hv
    ·have hl':listed.getD k false=true:=adD;have h1:=hmono k d R' hk _ _ _ _ _ hle (hR k d R' hk hl');have:eO (a.put o.dst v) d=eO a d:=by
      cases hod:o.dst with
      |none=>rfl
      |some d1=>
       cases d with
       |none=>rfl
       |some d2=>
        have hne:d1≠d2:=λe=>aak
        simp[eO,Act.eval,Act.put,Array.getElem?_setIfInBounds_ne hne]
     rw[this];exact h1
  unfold wpOp;simp only[ho];rw[hW];cases hgd:mK (full.take i) a o with
  |true=>
   rw[hgd]at hstep;simp only[if_true]at hstep⊢;refine Or.inl (Oper.wp_mono ?_ hstep);rintro a' w' ⟨v,g',rfl,hle,hC',hv⟩;refine hnext v g' w' hle hC' ?_;cases hod:o.dst with
   |none=>rw[hod]at hv;exact hv
   |some d=>rw[hod]at hv;simp only[Option.isSome_some,if_true]at hv;have hdl:d<a.tmps.size:=ο;simpa[eO,Act.eval,Act.put,hdl]using hv
  |false=>
   rw[hgd]at hstep;simp only[Bool.false_eq_true,if_false]at hstep⊢;refine hnext undef g w (El g w) hstep.1 ?_;cases hod:o.dst with
   |none=>exact hstep.2
   |some d=>have hdl:d<a.tmps.size:=ο;simpa[eO,Act.eval,Act.put,hdl]using hstep.2
theorem yJ {id:Nat} {l:List Oper} {w:World} (C:(Nat->Bool)->G->World->Prop) (Le:G->World->G->World->Prop) (fC:List Tmp) (g0:G) (hm:P.follows .mixedOrders=true) (hB:(l.filterMap (·.dst)==fC&&Ip l)=true) (El: ∀g w,Le g w g w) (hbd:(fC.all λd=>decide (d<a0.tmps.size))=true) (hC:C (λ_=>false) g0 (w.drewN 1))
 (h:jQ P a0 Q C Le fC l []):(Code.region id l.toArray true).wp P Q a0 w:=by
 unfold Ip at hB;simp only[aP,beq_iff_eq,decide_eq_true_eq]at hB;obtain⟨tZ,hnd,hz⟩:=hB;obtain⟨full,h1,-,h3,h4⟩:=h.full;simp only[aI,aV]at h1 h3;have hed: ∀(i:Nat) (o:Oper),l[i]? =some o->(∀d∈oP o,d<i)∧∀g b,o.guard=some (g,b)->g<i:=λi o hi=>Ω
 refine wp_region_any hm ?_;have hdr:({w with drawn:=w.drawn+1} :World)=w.drewN 1:=rfl;rw[hdr];have hD:KR (Array.replicate l.toArray.size false)=λ_=>false:=by funext k;unfold KR;rw[Array.getD_eq_getD_getElem?];by_cases hk:k<l.length <;> simp[hk]
 refine YS El (λd hd=>abk) h1 hnd tZ (λi o hi=>(hed i o hi).1) (λi o hi=>(hed i o hi).2) h3 h4 _ _ _ g0 _ ?_ ⟨ahg,by rw[hD];exact hC,rfl,rfl,λ_ _=>rfl,λi d R _ hl=> ?_⟩
 ·have: ∀n,cnt (Array.replicate l.toArray.size false) n<=n:=λn=>by
   induction n with
   |zero=>simp[cnt]
   |succ n ih=>simp only[cnt];split <;> omega
  simpa using this l.length
 ·exfalso;rw[Array.getD_eq_getD_getElem?]at hl;by_cases hi:i<l.length
  ·simp[hi]at hl
  ·rw[Array.getElem?_eq_none ahA]at hl;cases hl
end
theorem kg {w:World} {K:Act->Prop} {a:Act} (h:K a):dH w K [] a:=h
structure Ag where
 o:Option Nat
 h:Bool
 p:Option (Nat×Nat)
def Ag.le (n0:Nat) (g:Ag) (w:World) (g':Ag) (w':World):Prop:=(∀b,g.o=some b->g'.o=some b)∧(g.h=true->g'.h=true)∧(∀q,g.p=some q->g'.p=some q)∧w.heap.size<=w'.heap.size∧∀k,n0<=k->k<w.heap.size->w'.heap[k]? =w.heap[k]?
theorem Ag.le_refl (n0:Nat) (g:Ag) (w:World):Ag.le n0 g w g w:=⟨λ_ h=>h,λh=>h,λ_ h=>h,aH _,λ_ _ _=>rfl⟩
theorem uK {D:Nat->Bool} {i k:Nat} (h:sF D i k=false):D k=false:=by
 unfold sF at h;rw[Bool.or_eq_false_iff]at h;exact h.1
theorem KZ {D:Nat->Bool} {i:Nat} (h:sF D i i=false):False:=by
 unfold sF at h;simp at h
theorem Qc {D:Nat->Bool} {i k:Nat} (hn:k≠i) (h:sF D i k=true):D k=true:=by
 unfold sF at h;rw[Bool.or_eq_true]at h;rcases h with h|h
 ·exact h
 ·exact absurd aiq hn
structure uq (wr:World) (i8 xA i11 rR:Nat) (Row:Nat×Nat->World->Prop) (wZ:Addr) (vv:Nat×Nat->Value) (cs:Array Value) (ty:TypeId) (D:Nat->Bool) (g:Ag) (w:World):Prop where
 d8:D i8=false->g.h=false
 sw:D xA=false->g.o=none
 tX:D i11=false->g.p=none
 op:g.o=none->g.p=none
 oh:g.h=false->g.p=none
 vZ:g.p=none->D rR=false
 pre:g.p=none->Below wr.heap.size wr w
 row: ∀b,g.o=some b->wr.heap.size<=b∧w.heap[b]? =some (.cells cs ty (0,0))
 post: ∀q,g.p=some q->D rR=false->Row q w
 fin: ∀q,g.p=some q->D rR=true->∃w5,Row q w5∧w=w5.setCell wZ (vv q)
section
variable {wr w w':World} {i8 xA i11 rR:Nat} {Row:Nat×Nat->World->Prop} {wZ:Addr} {vv:Nat×Nat->Value} {cs:Array Value} {ty:TypeId} {D:Nat->Bool} {g:Ag}
theorem uq.start:uq wr i8 xA i11 rR Row wZ vv cs ty (λ_=>false) ⟨none,false,none⟩ (wr.drewN 1):=
 ⟨λ_=>rfl,λ_=>rfl,λ_=>rfl,λ_=>rfl,λ_=>rfl,λ_=>rfl,λ_=>below_drewN (ak _ _) 1,(λ_ h=>ahC),(λ_ h=>ahC),(λ_ h=>ahC)⟩
theorem uq.skip (h:uq wr i8 xA i11 rR Row wZ vv cs ty D g w) (i:Nat) (qD:rR≠i):uq wr i8 xA i11 rR Row wZ vv cs ty (sF D i) g w:=
 ⟨λe=>h.d8 (uK e),λe=>h.sw (uK e),λe=>h.tX (uK e),h.op,h.oh,λe=>(by
  cases hq:sF D i rR
  ·rfl
  ·have:=Qc qD hq;rw[h.vZ e]at this;cases this),h.pre,h.row,λq hq e=>h.post q hq (uK e),λq hq e=>h.fin q hq (Qc qD e)⟩
theorem uq.aN1 (h:uq wr i8 xA i11 rR Row wZ vv cs ty D g w) (hD:D xA=false) (qD:rR≠xA):Ag.le wr.heap.size g w {g with o:=some w.heap.size} (w.alloc (.cells cs ty))∧uq wr i8 xA i11 rR Row wZ vv cs ty (sF D xA) {g with o:=some w.heap.size} (w.alloc (.cells cs ty)):=by
 have h0:=h.sw hD;have hp:=h.op h0;refine⟨⟨λb e=>agv,λe=>e,λq e=>e,(aA _ _).size,λk _ hk=>(aA _ _).block k hk⟩,λe=>h.d8 (uK e),λe=>(KZ e).elim,λe=>h.tX (uK e),λe=>ahw,h.oh,λe=>(h.skip xA qD).vZ e,λe=>(h.pre e).trans ((aA _ _).mono (h.pre e).size),λb e=> ?_,λq e=> ?_,λq e=> ?_⟩
 ·injection e with e;subst e;exact⟨(h.pre hp).size,heap_alloc_new _ _⟩
 ·rw[show g.p=some q from e]at hp;cases hp
 ·rw[show g.p=some q from e]at hp;cases hp
theorem uq.aN2 {q:Nat×Nat} (h:uq wr i8 xA i11 rR Row wZ vv cs ty D g w) (hD:D i11=false) (qD:rR≠i11) {b:Nat} (hb:g.o=some b) (hh:g.h=true) (hr:Row q w') (hs:w.heap.size<=w'.heap.size) (hk: ∀k,wr.heap.size<=k->k<w.heap.size->w'.heap[k]? =w.heap[k]?):Ag.le wr.heap.size g w {g with p:=some q} w'∧uq wr i8 xA i11 rR Row wZ vv cs ty (sF D i11) {g with p:=some q} w':=by
 have h0:=h.tX hD;refine⟨⟨λb e=>e,λe=>e,λq' e=>agv,hs,hk⟩,λe=>h.d8 (uK e),λe=>h.sw (uK e),λe=>(KZ e).elim,λe=> ?_,λe=> ?_,λe=>ahw,λe=>ahw,λb' e=> ?_,λq' e _=>(by injection e with e;subst e;exact hr),λq' e e2=> ?_⟩
 ·rw[show g.o=none from e]at hb;cases hb
 ·rw[show g.h=false from e]at hh;cases hh
 ·obtain⟨h1,h2⟩:=h.row b' e;exact⟨h1,(hk b' h1 (aU h2)).trans h2⟩
 ·have:=Qc qD e2;rw[h.vZ h0]at this;cases this
theorem uq.aN3 {q:Nat×Nat} (h:uq wr i8 xA i11 rR Row wZ vv cs ty D g w) (hD:D rR=false) (hq:g.p=some q) (ha:wZ.block<wr.heap.size) (h1:xA≠rR) (h2:i11≠rR):Ag.le wr.heap.size g w g (w.setCell wZ (vv q))∧uq wr i8 xA i11 rR Row wZ vv cs ty (sF D rR) g (w.setCell wZ (vv q)):=by
 refine⟨⟨λb e=>e,λe=>e,λq e=>e,aga,λk hk _=>dB _ _ _ rfl ahe⟩,λe=>h.d8 (uK e),λe=>h.sw (uK e),λe=>h.tX (uK e),h.op,h.oh,λe=>(by rw[hq]at e;cases e),λe=>(by rw[hq]at e;cases e),λb e=> ?_,λq' _ e=>(KZ e).elim,λq' e _=> ?_⟩
 ·obtain⟨k1,k2⟩:=h.row b e;exact⟨k1,(dB _ _ _ rfl ahe).trans k2⟩
 ·rw[hq]at e;injection e with e;subst e;exact⟨w,h.post q hq hD,rfl⟩
theorem uq.mk8 (h:uq wr i8 xA i11 rR Row wZ vv cs ty D g w) (hD:D i8=false) (qD:rR≠i8):g.p=none∧Ag.le wr.heap.size g w {g with h:=true} w∧uq wr i8 xA i11 rR Row wZ vv cs ty (sF D i8) {g with h:=true} w:=by
 have hp:=h.oh (h.d8 hD);have hs:=h.skip i8 qD;exact⟨hp,⟨λb e=>e,λ_=>rfl,λq e=>e,aH _,λ_ _ _=>rfl⟩,λe=>(KZ e).elim,hs.sw,hs.tX,hs.op,λe=>ahw,hs.vZ,hs.pre,hs.row,hs.post,hs.fin⟩
end
def Qm (n:Nat) (q:Nat×Nat):Value:= .slice (some ⟨q.1,0,none⟩) n q.2
def ZJ (ty:TypeId) (m:Nat) (wr:World) (B:Nat) (own:Option Nat) (n:Nat) (xs:List Value) (q:Nat×Nat) (w5:World):Prop:=w5.ownsRow B ty m (Qm n q) n xs∧wr.grownBy w5 own∧(own=some q.1∨wr.heap.size<=q.1)
theorem uq.cell {wr w:World} {te:TypeId} {m:Nat} {i8 xA i11 rR B n:Nat} {own:Option Nat} {xs:List Value} {wZ:Addr} {vv:Nat×Nat->Value} {cs:Array Value} {ty:TypeId} {D:Nat->Bool} {g:Ag} (h:uq wr i8 xA i11 rR (ZJ te m wr B own n xs) wZ vv cs ty D g w) {b j:Nat} {u:Value} (hb:b<wr.heap.size) (hne:own≠some b) (ha:wZ.block≠b) (hc:wr.cell? ⟨b,j,none⟩=some u):w.cell? ⟨b,j,none⟩=some u:=by
 cases hp:g.p with
 |none=>exact((h.pre hp).cell hb).trans hc
 |some q=>
  cases hd:D rR with
  |false=>exact(World.cell?_of_block (a:=⟨b,j,none⟩) ((h.post q hp hd).2.1.block b hb (λe=>hne e.symm))).trans hc
  |true=>obtain⟨w5,h1,rfl⟩:=h.fin q hp hd;exact(World.cell?_of_block (a:=⟨b,j,none⟩) ((dB w5 wZ (vv q) rfl ha).trans (h1.2.1.block b hb (λe=>hne e.symm)))).trans hc
theorem Ej {w w':World} {own:Option Nat} (h:Below w.heap.size w w'):w.grownBy w' own:=⟨h.os,h.tape,h.output,h.size,λk hk _=>h.block k hk⟩
theorem xE:Maps.Keyed Tryz.prog 9:=Maps.string_keyed Tryz.underlying9
theorem keyOf_str (s:ByteArray) (hs:s.size<=maxLen):keyOf Tryz.prog 9 (.string s)=some (.string s.toList):=by
 unfold keyOf mapKey;simp[Tryz.underlying9,hs,Lib.toList_data]
def mI (w:World) (b n:Nat) (f:List UInt8->Int):Prop:=
 ∃D:DataW Unit,w.ownsMap Tryz.prog 9 (plainElem Tryz.prog 3) b n D∧∀l,D.atKey (.string l) (.lit (.int .i64 0))= .lit (.int .i64 (f l))
def jr (w:World) (b n:Nat) (f:List UInt8->Bool):Prop:=
 ∃D:DataW Unit,w.ownsMap Tryz.prog 9 (plainElem Tryz.prog 4) b n D∧∀l,D.atKey (.string l) (.lit (.bool false))= .lit (.bool (f l))
theorem mI.made (w:World):mI (w.alloc (.map #[] 0)) w.heap.size 0 (λ_=>0):=⟨_,World.ownsMap_made w _ _ _,λ_=>rfl⟩
theorem jr.made (w:World):jr (w.alloc (.map #[] 0)) w.heap.size 0 (λ_=>false):=⟨_,World.ownsMap_made w _ _ _,λ_=>rfl⟩
theorem mI.lt {w:World} {b n:Nat} {f:List UInt8->Int} (h:mI w b n f):b<w.heap.size:=afh
theorem jr.lt {w:World} {b n:Nat} {f:List UInt8->Bool} (h:jr w b n f):b<w.heap.size:=afh
theorem mI.same {w w':World} {b n:Nat} {f:List UInt8->Int} (h:mI w b n f) (hb:w'.heap[b]? =w.heap[b]?):mI w' b n f:=by
 obtain⟨D,⟨es,clock,h1,h2⟩,h3⟩:=h;exact⟨D,⟨es,clock,hb.trans h1,h2⟩,h3⟩
theorem jr.same {w w':World} {b n:Nat} {f:List UInt8->Bool} (h:jr w b n f) (hb:w'.heap[b]? =w.heap[b]?):jr w' b n f:=by
 obtain⟨D,⟨es,clock,h1,h2⟩,h3⟩:=h;exact⟨D,⟨es,clock,hb.trans h1,h2⟩,h3⟩
theorem mI.next {w w':World} {b n:Nat} {f:List UInt8->Int} (h:mI w b n f) (hb:Below w.heap.size w w'):mI w' b n f:=h.same (hb.block b h.lt)
theorem jr.next {w w':World} {b n:Nat} {f:List UInt8->Bool} (h:jr w b n f) (hb:Below w.heap.size w w'):jr w' b n f:=h.same (hb.block b h.lt)
theorem ah8 (w:World):(zeroValue 3).run Tryz.prog w= .ok (.int .i64 0) w:=ahd
theorem Z6 (w:World):(zeroValue 4).run Tryz.prog w= .ok (.bool false) w:=ahd
theorem br6 {v:Int} (hv:dD v):(Lit.int .i64 v).wf=true:=by
 unfold Lit.wf;rw[aP,decide_eq_true_iff,decide_eq_true_iff];exact hv
theorem mI.look {w:World} {b n:Nat} {f:List UInt8->Int} (h:mI w b n f) (s:ByteArray) (hs:s.size<=maxLen):
 (Instr.lookup 87 (.map (some b)) (.string s) false).run Tryz.prog w= .ok (.int .i64 (f s.toList)) w:=by
 obtain⟨D,ho,hf⟩:=h;obtain⟨c,hrun,hat,-⟩:=ho.lookup_int (t:=87) xE Tryz.underlying87 Tryz.underlying3 (ah8 w) (keyOf_str s hs);rw[hf]at hat;obtain rfl:f s.toList=c:=(Lit.int.inj (DataW.lit.inj hat)).2;exact hrun
theorem ZQ {H:Type} {v:Value} {x:Bool} {ps:List MemPlace} (hv:plainElem (H:=H) Tryz.prog 4 v=some (.lit (.bool x),ps)):v= .bool x:=by
 unfold plainElem at hv;generalize hu:Program.underlying Tryz.prog 4=u at hv;rw[Tryz.underlying4]at hu;subst hu;cases v with
 |bool y=>exact congrArg Value.bool (Lit.bool.inj (DataW.lit.inj (Prod.mk.inj (Option.some.inj hv)).1))
 |_=>exact absurd hv (by intro h;cases h)
theorem jr.look {w:World} {b n:Nat} {f:List UInt8->Bool} (h:jr w b n f) (s:ByteArray) (hs:s.size<=maxLen):
 (Instr.lookup 124 (.map (some b)) (.string s) false).run Tryz.prog w= .ok (.bool (f s.toList)) w:=by
 obtain⟨D,ho,hf⟩:=h;obtain⟨v,ps,hrun,hv⟩:=ho.lookup (t:=124) xE Tryz.underlying124 (Z6 w) (plainElem_bool Tryz.underlying4 false) (keyOf_str s hs);rw[hf]at hv;have hv':v= .bool (f s.toList):=by exact ZQ hv
 rw[hrun,hv']
theorem mI.put {w:World} {b n:Nat} {f:List UInt8->Int} (h:mI w b n f) (hn:n<maxLen) (s:ByteArray) (hs:s.size<=maxLen) (v:Int) (hv:dD v):
 ∃w',(Instr.mapUpdate 87 (.map (some b)) (.string s) (.int .i64 v)).run Tryz.prog w= .ok () w'∧mI w' b (n+1) (λl=>if l=s.toList then v else f l)∧w.grownBy w' (some b):=by
 obtain⟨D,ho,hf⟩:=h;obtain⟨w',hrun,ho',hg⟩:=ho.update (t:=87) xE Tryz.underlying87 hn (keyOf_str s hs) (plainElem_int Tryz.underlying3 (a:=v) (br6 hv));refine⟨w',hrun,⟨_,ho',λl=> ?_⟩,hg⟩;show _=DataW.lit (.int .i64 (if l=s.toList then v else f l));by_cases hl:l=s.toList
 ·subst hl;rw[if_pos rfl,Maps.atKey_put_same ho.isMap (xE.key (keyOf_str s hs))]
 ·rw[if_neg hl,Maps.atKey_put_other aed,hf]
theorem jr.put {w:World} {b n:Nat} {f:List UInt8->Bool} (h:jr w b n f) (hn:n<maxLen) (s:ByteArray) (hs:s.size<=maxLen) (v:Bool):
 ∃w',(Instr.mapUpdate 124 (.map (some b)) (.string s) (.bool v)).run Tryz.prog w= .ok () w'∧jr w' b (n+1) (λl=>if l=s.toList then v else f l)∧w.grownBy w' (some b):=by
 obtain⟨D,ho,hf⟩:=h;obtain⟨w',hrun,ho',hg⟩:=ho.update (t:=124) xE Tryz.underlying124 hn (keyOf_str s hs) (plainElem_bool Tryz.underlying4 v);refine⟨w',hrun,⟨_,ho',λl=> ?_⟩,hg⟩;show _=DataW.lit (.bool (if l=s.toList then v else f l));by_cases hl:l=s.toList
 ·subst hl;rw[if_pos rfl,Maps.atKey_put_same ho.isMap (xE.key (keyOf_str s hs))]
 ·rw[if_neg hl,Maps.atKey_put_other aed,hf]
theorem ZL {w:World} {K:Act->Prop} {a:Act} (h:K a):dH w K [] a:=h
structure Gb where
 o8:Option Nat
 o9:Option Nat
 s8:Bool
 s9:Bool
def Gb.le (g g':Gb):Prop:=(∀b,g.o8=some b->g'.o8=some b)∧(∀b,g.o9=some b->g'.o9=some b)∧(g.s8=true->g'.s8=true)∧(g.s9=true->g'.s9=true)
theorem Gb.le_refl (g:Gb):g.le g:=⟨λ_ h=>h,λ_ h=>h,λh=>h,λh=>h⟩
structure sP (wr:World) (n:Nat) (Z X Y:Array Value) (ty:TypeId) (D:Nat->Bool) (g:Gb) (w:World):Prop where
 bl:Below wr.heap.size wr w
 d8:D n=false->g.o8=none
 d9:D (n+1)=false->g.o9=none
 e8:D (n+2)=false->g.s8=false
 e9:D (n+3)=false->g.s9=false
 f8:g.o8=none->g.s8=false
 f9:g.o9=none->g.s9=false
 b8: ∀b,g.o8=some b->wr.heap.size<=b∧w.heap[b]? =some (.cells (if g.s8 then X else Z) ty (0,0))
 b9: ∀b,g.o9=some b->wr.heap.size<=b∧w.heap[b]? =some (.cells (if g.s9 then Y else Z) ty (0,0))
 ne: ∀b b',g.o8=some b->g.o9=some b'->b≠b'
section
variable {wr w:World} {n:Nat} {Z X Y:Array Value} {ty:TypeId} {D:Nat->Bool} {g:Gb}
theorem uh {D:Nat->Bool} {i k:Nat} (h:sF D i k=false):D k=false:=by
 unfold sF at h;rw[Bool.or_eq_false_iff]at h;exact h.1
theorem Ot {D:Nat->Bool} {i:Nat} (h:sF D i i=false):False:=by
 unfold sF at h;simp at h
theorem sP.start:sP wr n Z X Y ty (λ_=>false) ⟨none,none,false,false⟩ (wr.drewN 1):=
 ⟨below_drewN (ak _ _) 1,λ_=>rfl,λ_=>rfl,λ_=>rfl,λ_=>rfl,λ_=>rfl,λ_=>rfl,(λb h=>ahC),(λb h=>ahC),(λb b' h _=>ahC)⟩
theorem sP.skip (h:sP wr n Z X Y ty D g w) (i:Nat):sP wr n Z X Y ty (sF D i) g w:=
 ⟨h.bl,λe=>h.d8 (uh e),λe=>h.d9 (uh e),λe=>h.e8 (uh e),λe=>h.e9 (uh e),h.f8,h.f9,h.b8,h.b9,h.ne⟩
theorem sP.mk8 (h:sP wr n Z X Y ty D g w) (hD:D n=false):Gb.le g {g with o8:=some w.heap.size} ∧sP wr n Z X Y ty (sF D n) {g with o8:=some w.heap.size} (w.alloc (.cells Z ty)):=by
 have h0:=h.d8 hD;have hs:=h.f8 h0;have hb:=aA w (.cells Z ty);refine⟨⟨(λb e=>agv),λ_ e=>e,λe=>e,λe=>e⟩,h.bl.trans (hb.mono h.bl.size),λe=>(Ot e).elim,λe=>h.d9 (uh e),λe=>hs,λe=>h.e9 (uh e),λ_=>hs,h.f9,λb e=> ?_,λb e=> ?_,λb b' e e'=> ?_⟩
 ·injection e with e;subst e;exact⟨h.bl.size,afe⟩
 ·obtain⟨h1,h2⟩:=h.b9 b e;exact⟨h1,(heap_alloc_old _ _ (aU h2)).trans h2⟩
 ·injection e with e;subst e;have:=(Array.getElem?_eq_some_iff.1 (h.b9 b' e').2).1;omega
theorem sP.mk9 (h:sP wr n Z X Y ty D g w) (hD:D (n+1)=false):Gb.le g {g with o9:=some w.heap.size} ∧sP wr n Z X Y ty (sF D (n+1)) {g with o9:=some w.heap.size} (w.alloc (.cells Z ty)):=by
 have h0:=h.d9 hD;have hs:=h.f9 h0;have hb:=aA w (.cells Z ty);refine⟨⟨λ_ e=>e,(λb e=>agv),λe=>e,λe=>e⟩,h.bl.trans (hb.mono h.bl.size),λe=>h.d8 (uh e),λe=>(Ot e).elim,λe=>h.e8 (uh e),λe=>hs,h.f8,λ_=>hs,λb e=> ?_,λb e=> ?_,λb b' e e'=> ?_⟩
 ·obtain⟨h1,h2⟩:=h.b8 b e;exact⟨h1,(heap_alloc_old _ _ (aU h2)).trans h2⟩
 ·injection e with e;subst e;exact⟨h.bl.size,afe⟩
 ·injection e' with e';subst e';have:=(Array.getElem?_eq_some_iff.1 (h.b8 b e).2).1;omega
theorem yD {w:World} {b k:Nat} {vs:List Value} (hk:k≠b) (hl:k<w.heap.size):(w.setCells b 0 vs).heap[k]? =w.heap[k]?:=
 (dN b vs 0 w).block k hl (by simp;exact hk)
theorem sP.st8 (h:sP wr n Z X Y ty D g w) (hD:D (n+2)=false) {b:Nat} (hb:g.o8=some b) (hX:X.size=Z.size):Gb.le g {g with s8:=true} ∧sP wr n Z X Y ty (sF D (n+2)) {g with s8:=true} (w.setCells b 0 X.toList):=by
 obtain⟨h1,h2⟩:=h.b8 b hb;rw[h.e8 hD]at h2;have hg:=dN b X.toList 0 w;refine⟨⟨λ_ e=>e,λ_ e=>e,λ_=>rfl,λe=>e⟩,?_,λe=>h.d8 (uh e),λe=>h.d9 (uh e),λe=>(Ot e).elim,λe=>h.e9 (uh e),(λe=>by rw[hb]at e;cases e),h.f9,λb' e=> ?_,λb' e=> ?_,h.ne⟩
 ·exact⟨hg.os.trans h.bl.os,hg.tape.trans h.bl.tape,hg.output.trans h.bl.output,aR h.bl.size hg.size,λk hk=>(yD ahe (aJ hk h.bl.size)).trans (h.bl.block k hk)⟩
 ·have e':b=b':=by rw[hb]at e;injection e
  subst e';exact⟨h1,(jE h2 (by simp[hX])).trans ahg⟩
 ·obtain⟨h3,h4⟩:=h.b9 b' e;exact⟨h3,(yD (λe2=>h.ne b b' hb e e2.symm) (aU h4)).trans h4⟩
theorem sP.st9 (h:sP wr n Z X Y ty D g w) (hD:D (n+3)=false) {b:Nat} (hb:g.o9=some b) (hY:Y.size=Z.size):Gb.le g {g with s9:=true} ∧sP wr n Z X Y ty (sF D (n+3)) {g with s9:=true} (w.setCells b 0 Y.toList):=by
 obtain⟨h1,h2⟩:=h.b9 b hb;rw[h.e9 hD]at h2;have hg:=dN b Y.toList 0 w;refine⟨⟨λ_ e=>e,λ_ e=>e,λe=>e,λ_=>rfl⟩,?_,λe=>h.d8 (uh e),λe=>h.d9 (uh e),λe=>h.e8 (uh e),λe=>(Ot e).elim,h.f8,(λe=>by rw[hb]at e;cases e),λb' e=> ?_,λb' e=> ?_,h.ne⟩
 ·exact⟨hg.os.trans h.bl.os,hg.tape.trans h.bl.tape,hg.output.trans h.bl.output,aR h.bl.size hg.size,λk hk=>(yD ahe (aJ hk h.bl.size)).trans (h.bl.block k hk)⟩
 ·obtain⟨h3,h4⟩:=h.b8 b' e;exact⟨h3,(yD (λe2=>h.ne b' b e hb e2) (aU h4)).trans h4⟩
 ·have e':b=b':=by rw[hb]at e;injection e
  subst e';exact⟨h1,(jE h2 (by simp[hY])).trans ahg⟩
theorem sP.aQ4 (h:sP wr n Z X Y ty D g w) (hD:D (n+2)=false) {b m:Nat} (hb:g.o8=some b) (hm:m<=Z.size):w.there b 0 m:=by
 obtain⟨h1,h2⟩:=h.b8 b hb;rw[h.e8 hD]at h2;exact yH h2 hm
theorem sP.aQ5 (h:sP wr n Z X Y ty D g w) (hD:D (n+3)=false) {b m:Nat} (hb:g.o9=some b) (hm:m<=Z.size):w.there b 0 m:=by
 obtain⟨h1,h2⟩:=h.b9 b hb;rw[h.e9 hD]at h2;exact yH h2 hm
theorem sP.two (h:sP wr n Z X Y ty D g w) {b b':Nat} (h8:g.o8=some b) (h9:g.o9=some b') (hs:g.s8=true) (hs':g.s9=true):
 Below wr.heap.size wr w∧wr.heap.size<=b∧wr.heap.size<=b'∧b≠b'∧w.heap[b]? =some (.cells X ty (0,0))∧w.heap[b']? =some (.cells Y ty (0,0)):=by
 obtain⟨h1,h2⟩:=h.b8 b h8;obtain⟨h3,h4⟩:=h.b9 b' h9;rw[hs]at h2;rw[hs']at h4;exact⟨h.bl,h1,h3,h.ne b b' h8 h9,h2,h4⟩
end
theorem KI {w:World} {b j:Nat} {cs:Array Value} {t:TypeId} {fr:Nat×Nat} {u:Value} (h:w.heap[b]? =some (.cells cs t fr)) (hu:cs[j]? =some u):b<w.heap.size∧w.cell? ⟨b,j,none⟩=some u:=
 ⟨(aU h),aQ h hu⟩
theorem am4 {b:Nat} {w1 w2 w3:World} (h:w1.grownBy w2 (some b)) (k:w2.grownBy w3 (some b)):w1.grownBy w3 (some b):=
 ⟨k.os.trans h.os,k.tape.trans h.tape,k.output.trans h.output,aR h.size k.size,λj hj hne=>(k.block j (aJ hj h.size) hne).trans (h.block j hj hne)⟩
theorem aR7 {b:Nat} {w w':World} (h:Below w.heap.size w w'):w.grownBy w' (some b):=⟨h.os,h.tape,h.output,h.size,λk hk _=>h.block k hk⟩
structure Tp where
 B0:Nat
 bt:Nat
 bm:Nat
 ao:Option Addr
 cap:Nat
 zs:List Int
 t0:B0<=bt
 m0:B0<=bm
 tm:bt≠bm
def MP (w:World) (B:Nat) (zs:List Int) (ao:Option Addr):Prop:= ∀(k:Nat) (hk:k<zs.length),∃b off,ao=some ⟨b,off,none⟩∧b<B∧w.cell? ⟨b,off+k,none⟩=some (.int .u8 zs[k])∧0<=zs[k]∧zs[k]<=255
theorem MP.below {w w':World} {B:Nat} {zs:List Int} {ao:Option Addr} (h:MP w B zs ao) (hb:Below B w w'):MP w' B zs ao:=λk hk=>by
 obtain⟨b,off,e,hB,hc,hz⟩:=h k hk;exact⟨b,off,e,hB,(hb.cell hB).trans hc,hz⟩
structure uX (w:World) (T:Tp):Prop where
 blk: ∃at':Nat,at'<=T.zs.length∧w.heap[T.bt]? =some (.cells #[.slice T.ao T.zs.length T.cap,.int .i64 at'] 49 (0,0))
 WR:MP w T.B0 T.zs T.ao
 len:T.zs.length<=9223372036854775807
theorem uX.lt {w:World} {T:Tp} (h:uX w T):T.bt<w.heap.size:=by obtain⟨a,-,h⟩:=h.blk;exact(aU h)
theorem uX.b0 {w:World} {T:Tp} (h:uX w T):T.B0<=w.heap.size:=by have:=h.lt;have:=T.t0;omega
def ak5 (T:Tp) (n:Int) (w:World) (e:Ending) (w':World):Prop:= ∃r:Int,e= .returned (.int .i64 r)∧0<=r∧(0<n->r<n)∧r<=255∧w.grownBy w' (some T.bt)∧uX w' T
theorem JR {T:Tp} {n r:Int} {w w':World} (h0:0<=r) (h1:0<n->r<n) (h2:r<=255) (h3:w.grownBy w' (some T.bt)) (h4:uX w' T):ak5 T n w (.returned (.int .i64 r)) w':=⟨r,rfl,h0,h1,h2,h3,h4⟩
theorem zJ {b:Nat} (w:World) (n:Nat):w.grownBy (w.drewN n) (some b):=aR7 (below_drewN (ak _ _) n)
theorem uX.draws {w:World} {T:Tp} (h:uX w T) (n:Nat):uX (w.drewN n) T:=by
 obtain⟨a,h1,h2⟩:=h.blk;have hb:=below_drewN (ak w.heap.size w) n;exact⟨⟨a,h1,(hb.block _ h.lt).trans h2⟩,h.WR.below (hb.mono h.b0),h.len⟩
theorem ZG (T:Tp) (n:Int) (w:World) (hn:dD n) (hI:uX w T):
 Calls Tryz.prog 12 #[.pointer (some ⟨T.bt,0,none⟩),.int .i64 n] w (ak5 T n w):=by
 obtain⟨a,ha,hblk⟩:=hI.blk;have HI:=ah hI;have HB:=ah hblk;have hlen:=hI.len;obtain⟨hn1,hn2⟩:=hn;have c0:w.cell? ⟨T.bt,0,none⟩=some (.slice T.ao T.zs.length T.cap):=(KI hblk (j:=0) rfl).2;have c1:w.cell? ⟨T.bt,1,none⟩=some (.int .i64 (a:Int)):=(KI hblk (j:=1) rfl).2;clear hI hblk;by_cases h1:T.zs.length<=a
 ·have hd:decide ((T.zs.length:Int)<=(a:Int))=true:=by rw[decide_eq_true_iff];omega
  go_enter Tryz.func12,Tryz.ntmps12;go_wp2_with fail;go_quiet (fail);go_wp2_with fail;go_ret;exact JR ahe ahe ahe (zJ _ _) (HI.o.draws _)
 ·have hd:decide ((T.zs.length:Int)<=(a:Int))=false:=by rw[decide_eq_false_iff_not];omega
  by_cases h2:n<1
  ·have hd2:decide (n<1)=true:=by rw[decide_eq_true_iff];omega
   go_enter Tryz.func12,Tryz.ntmps12;go_wp2_with fail;go_quiet (fail);go_wp2_with fail;go_ret;exact JR ahe ahe ahe (zJ _ _) (HI.o.draws _)
  ·have hd2:decide (n<1)=false:=by rw[decide_eq_false_iff_not];omega
   go_enter Tryz.func12,Tryz.ntmps12;go_wp2_with fail;go_quiet (fail);generalize hW:World.drewN w _=W1;have HI1:aj (uX W1 T):=ah (by rw[<- hW];exact HI.o.draws _);have rZ:aj (w.grownBy W1 (some T.bt)):=ah (by rw[<- hW];exact zJ _ _);have HB1:aj (W1.heap[T.bt]? =some (.cells #[.slice T.ao T.zs.length T.cap,.int .i64 (a:Int)] 49 (0,0))):=ah (by rw[<- hW];exact((below_drewN (ak w.heap.size w) _).block _ HI.o.lt).trans HB.o);clear hW c0 c1 HI HB hd hd2;have c1:W1.cell? ⟨T.bt,1,none⟩=some (.int .i64 (a:Int)):=(KI HB1.o (j:=1) rfl).2;have f1:W1.frozen? ⟨T.bt,1,none⟩=false:=bC HB1.o;go_upto_region 4 with fail;generalize hW2:World.setCell W1 _ _=W2;have HB2:aj (W2.heap[T.bt]? =some (.cells #[.slice T.ao T.zs.length T.cap,.int .i64 ((a:Int)+1)] 49 (0,0))):=ah (by rw[<- hW2,dX HB1.o];rfl);have HG2:aj (W1.grownBy W2 (some T.bt)):=ah (by rw[<- hW2];exact cB _ _ _);have VG:aj (MP W2 T.B0 T.zs T.ao):=ah (HI1.o.WR.below (cZ HG2.o T.t0 HI1.o.b0));have HI2:aj (uX W2 T):=ah ⟨⟨a+1,ahe,by rw[HB2.o];rfl⟩,VG.o,HI1.o.len⟩;have HG:=ah (am4 rZ.o HG2.o);clear hW2 c1 f1 rZ HG2 HB1;have ha:a<T.zs.length:=ahe
   obtain⟨bb,off,hao,hbb,hcell,hz0,hz1⟩:=VG.o a ha;have c0:W2.cell? ⟨T.bt,0,none⟩=some (.slice T.ao T.zs.length T.cap):=(KI HB2.o (j:=0) rfl).2;have c1:W2.cell? ⟨T.bt,1,none⟩=some (.int .i64 ((a:Int)+1)):=(KI HB2.o (j:=1) rfl).2;rw[hao]at c0;generalize T.zs[a]=z at *;have hw1:(a:Int)+1 -1=(a:Int):=ahe
   have hw2:IntKind.i64.wrap (a:Int)=(a:Int):=IntWalk.i64_in _ ahe;have hb0:(0:Int)<=(a:Int):=ahe
   have hb1:(a:Int)<(T.zs.length:Int):=ahe
   have xJ:=ah hao;clear hao HI1;go_quiet (fail);go_wp2_with fail;go_ret;have e1:=Int.emod_nonneg z (show n≠0 by omega);have e2:=Int.emod_lt_of_pos z (show 0<n by omega);have e3:z%n<=255:=by
    by_cases hzn:z<n
    ·rw[Int.emod_eq_of_lt hz0 hzn];exact hz1
    ·omega
   exact JR e1 (λ_=>e2) e3 (am4 HG.o (zJ _ _)) (HI2.o.draws _)
def zEx:Array Value:= #[.int .i64 0,.int .i64 0,.string ⟨#[]⟩,.slice none 0 0]
theorem ae1 (s:ByteArray) (w:World):
 Calls Tryz.prog 86 #[.string s] w λe w'=>e= .returned (exV 2 0 s .nil none 0)∧Below w.heap.size w w':=by
 go_enter Tryz.func86,Tryz.ntmps86;go_wp2;exact bodyPost_ret (v:=exV 2 0 s .nil none 0) (by simp[results,Tryz.results86,go_sem,exV,bY.len]) rfl ⟨rfl,aA _ _⟩
theorem UH (op:Int) (o1 n1:Int) (m1:ByteArray) (k1:bY) (a1:Option Addr) (c1:Nat) (o2 n2:Int) (m2:ByteArray) (k2:bY) (a2:Option Addr) (c2:Nat) (w:World):
 Calls Tryz.prog 87 #[.int .i64 op,exV o1 n1 m1 k1 a1 c1,exV o2 n2 m2 k2 a2 c2] w λe w'=> ∃g,e= .returned (.agg #[.int .i64 op,.int .i64 0,.string ⟨#[]⟩,.slice (some ⟨g,0,none⟩) 2 2])∧w.heap.size<=g∧w'.heap[g]? =some (.cells (Tq o1 n1 m1 k1 a1 c1++Tq o2 n2 m2 k2 a2 c2).toArray 99 (0,0))∧Below w.heap.size w w':=by
 unfold exV;go_enter Tryz.func87,Tryz.ntmps87;go_wp2;refine bodyPost_ret (v:= .agg #[.int .i64 op,.int .i64 0,.string ⟨#[]⟩,.slice (some ⟨w.heap.size+1+1+1,0,none⟩) 2 2]) (by simp[results,Tryz.results87,go_sem]) rfl ⟨w.heap.size+1+1+1,rfl,ahe,?_,?_⟩
 ·generalize hW:World.alloc (World.alloc (World.alloc w _) _) _=W;have e:W.heap.size=w.heap.size+1+1+1:=by rw[<- hW];simp
  rw[<- e];exact heap_alloc_new _ _
 ·exact(((aA _ _).alloc ahg _).alloc ahh _).alloc ahh _
end Go.Proofs.YtldapdcphphodaaGreatDoor
