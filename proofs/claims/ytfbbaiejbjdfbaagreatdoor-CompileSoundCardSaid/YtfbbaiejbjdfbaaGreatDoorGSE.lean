/- The code of a made program's statements: its instructions are valid, and every site has one. No program in sight. And what hangs on it. -/
import Derived.Test.YtfbbaiejbjdfbaaGreatDoorGSD
import Derived.Test.YtfbbaiejbjdfbaaGreatDoorGPA
import Derived.Test.YtfbbaiejbjdfbaaGreatDoorGCB
import Derived.Test.YtfbbaiejbjdfbaaGreatDoorGPI
set_option linter.unusedSimpArgs false
set_option linter.unusedVariables false
set_option maxHeartbeats 40000000
set_option maxRecDepth 1000000
namespace Go.Proofs.YtfbbaiejbjdfbaaGreatDoor
open Go.RowKit
open Md
namespace Md
def GT (W:Wo) (lo hi top:Int) (i:aX):Prop:=(1<=i.op∧i.op<=27)∧(lo<=i.st∧i.st < hi)∧(∀r ∈ dI i,0<=r∧r<=30)∧(i.op≠5->i.op≠10->jV W 0 i=true)∧(i.op=10->0<=i.b∧i.b<=top)
theorem GT.mono {W:Wo} {lo hi top lo' hi' top':Int} {i:aX} (h:GT W lo hi top i) (h1:lo'<=lo) (h2:hi<=hi') (h3:top<=top'):GT W lo' hi' top' i:=
 ⟨h.1,⟨by have:=h.2.1.1; omega,by have:=h.2.1.2; omega⟩,h.2.2.1,h.2.2.2.1,fun h10=>⟨(h.2.2.2.2 h10).1,by have:=(h.2.2.2.2 h10).2; omega⟩⟩
theorem GI.gt {W:Wo} {st top:Int} {i:aX} (h:GI W st i):GT W st (st + 1) top i:=
 ⟨⟨h.1.1,h.1.2.1⟩,⟨by rw [h.2.1]; omega,by rw [h.2.1]; omega⟩,h.2.2.1,fun _ _=>h.2.2.2,fun h10=>absurd h10 h.1.2.2.2⟩
theorem iQ {a:Int} {l:List Int} (h:dN (a ::l)=0):a=0∧dN l=0:=by
 rw [dN] at h;split at h
 ·rename_i h1; rw [h] at h1; exact absurd h1 (by decide)
 ·rename_i h1; exact ⟨by simpa using h1,h⟩
theorem ah8 {h:dL} {bl el:Nat} (hs:mQ h bl el=true):1<=h.op∧h.op<=15:=by
 unfold mQ fO at hs;simp only [Bool.and_eq_true,decide_eq_true_eq] at hs;exact ⟨hs.1.1.1.1,hs.1.1.1.2⟩
theorem LW: ∀l:aZ,xu l=dh l
 | .nil=>rfl
 | .cons _ _ _ k r=>by rw [xu,dh,LW k,LW r]
section
variable {W:Wo} {p:Pr}
def QS (p:Pr) (j:Nat) (h:dL):Prop:= ∃tn gI ar f g,iE p j tn gI ar f g h=0
theorem wu:((gV.length:Nat):Int)=2:=rfl
theorem aJ2 (hW:WM W) (hp:nH p) {j st:Int} {h:dL} (hE:CB p j h=0) (hw:dh h.aI + dh h.idx<=1000): ∀i ∈ zN W gV st h,GI W st i:=by
 intro i hi;have hix:=R8 (nm:=h.nm);unfold zN at hi;cases hx:h.idx with
 | nil=>
   rw [hx] at hi;dsimp only at hi;have hE:dN [cB (mean p j h.nm) [1,2],jT p j h.bY h.xn h.bW h.aI]=0:=by simpa [CB,hx,aZ.len] using hE
   obtain ⟨hk,hE⟩:=iQ hE;obtain ⟨he,-⟩:=iQ hE;rcases List.mem_append.1 hi with hi | hi
   ·exact Eu hW hp he (by omega) (by rw [wu]; decide) (by rw [wu]; decide) i hi
   ·rw [List.mem_singleton.1 hi];split
    ·rename_i hl;simp at hl;refine ⟨by simp,rfl,fun r hr=> ?_,by simp [jV]⟩;simp [dI,wu] at hr; omega
    ·rename_i hl;obtain ⟨k,hk,hm⟩:=mY hk;have hm2:mean p j h.nm=2:=by
      simp only [List.mem_cons,List.not_mem_nil,or_false] at hk;rcases hk with rfl | rfl
      ·exfalso; have:=R7 (Kh hp hm); simp at hl; omega
      ·exact hm
     refine ⟨by simp,rfl,fun r hr=> ?_,?_⟩
     ·simp [dI,wu] at hr; omega
     ·have:=scM hW (XK hp hm2);simpa [jV] using this
 | cons op n nm kids rest=>
   rw [hx] at hi hw;dsimp only at hi;have hne: ¬ ((rest.len:Int) + 1=0):=by omega
   have hE:dN [cB (mean p j h.nm) [3],X8 p j (.cons op n nm kids rest),jT p j h.bY h.xn h.bW h.aI]=0:=by simpa [CB,hx,aZ.len,hne] using hE
   obtain ⟨hk,hE⟩:=iQ hE;obtain ⟨he1,hE⟩:=iQ hE;obtain ⟨he,-⟩:=iQ hE;rw [X8] at he1;rw [dh] at hw;rcases List.mem_append.1 hi with hi | hi
   ·rcases List.mem_append.1 hi with hi | hi
    ·exact Eu hW hp he1 (by omega) (by rw [wu]; decide) (by rw [wu]; decide) i hi
    ·exact Eu hW hp he (by omega) (by rw [wu]; decide) (by rw [wu]; decide) i hi
   ·rw [List.mem_singleton.1 hi];obtain ⟨k,hk,hm⟩:=mY hk;simp at hk; subst hk;refine ⟨by simp,rfl,fun r hr=> ?_,?_⟩
    ·simp [dI,wu] at hr; omega
    ·have:=ayM hW (XL hp hm);simpa [jV] using this
theorem az8 (hW:WM W) (hp:nH p) (hT:W.ts=p.ts.map (·.nm)) {j:Nat} {st:Int} {h:dL} (hQ:QS p j h) (hw:dh h.aI + dh h.idx<=1000) (ho:h.op=1∨9<=h.op∧h.op<=15): ∀i ∈ oI W gV st h,GI W st i:=by
 intro i hi;obtain ⟨tn,gI,ar,f,g,hE⟩:=hQ;unfold oI at hi;have hc:h.op=1∨h.op=9∨h.op=10∨h.op=11∨h.op=12∨h.op=13∨h.op=14∨h.op=15:=by omega
 rcases hc with hc | hc | hc | hc | hc | hc | hc | hc
 ·simp only [hc] at hi;exact aJ2 hW hp (by simpa [iE,hc] using hE) hw i hi
 ·have hk:=(iQ (show dN (cB (mean p j h.nm) [6] ::_)=0 by simpa [iE,hc] using hE)).1;obtain ⟨k,hk,hm⟩:=mY hk;simp at hk; subst hk;have:=cnM hW (R9 hp hm);simp [hc] at hi; subst hi;exact ⟨by simp,rfl,fun r hr=>by simp [dI] at hr,by simpa [jV] using this⟩
 ·have hk:=(iQ (show dN (cB (mean p j h.nm) [6] ::_)=0 by simpa [iE,hc] using hE)).1;obtain ⟨k,hk,hm⟩:=mY hk;simp at hk; subst hk;have:=cnM hW (R9 hp hm);simp [hc] at hi; subst hi;exact ⟨by simp,rfl,fun r hr=>by simp [dI] at hr,by simpa [jV] using this⟩
 ·have hk:=(iQ (show dN (cB (mean p j h.nm) [6] ::_)=0 by simpa [iE,hc] using hE)).1;obtain ⟨k,hk,hm⟩:=mY hk;simp at hk; subst hk;have:=cnM hW (R9 hp hm);simp [hc] at hi; subst hi;exact ⟨by simp,rfl,fun r hr=>by simp [dI] at hr,by simpa [jV] using this⟩
 ·have hk:=(iQ (show dN (cB (mean p j h.nm) [8] ::_)=0 by simpa [iE,hc] using hE)).1;obtain ⟨k,hk,hm⟩:=mY hk;simp at hk; subst hk;obtain ⟨t,ht,hn⟩:=Ra hp hm;have:=ag0 (l:=W.ts) (nm:=h.nm) ⟨t.nm,by rw [hT]; exact List.mem_map.2 ⟨t,ht,rfl⟩,hn⟩;simp [hc] at hi; subst hi;exact ⟨by simp,rfl,fun r hr=>by simp [dI] at hr,by simpa [jV] using this⟩
 ·have hk:=(iQ (show dN (cB (mean p j h.nm) [8] ::_)=0 by simpa [iE,hc] using hE)).1;obtain ⟨k,hk,hm⟩:=mY hk;simp at hk; subst hk;obtain ⟨t,ht,hn⟩:=Ra hp hm;have:=ag0 (l:=W.ts) (nm:=h.nm) ⟨t.nm,by rw [hT]; exact List.mem_map.2 ⟨t,ht,rfl⟩,hn⟩;simp [hc] at hi; subst hi;exact ⟨by simp,rfl,fun r hr=>by simp [dI] at hr,by simpa [jV] using this⟩
 ·have hE':dN [cB (mean p j h.nm) [7],nest (eY ar [7,3]),(kR (g h.nm.toList)),jT p j h.bY h.xn h.bW h.aI]=0:=by simpa [iE,hc] using hE
  obtain ⟨hk,hE'⟩:=iQ hE';obtain ⟨-,hE'⟩:=iQ hE';obtain ⟨-,hE'⟩:=iQ hE';obtain ⟨he,-⟩:=iQ hE';obtain ⟨k,hk,hm⟩:=mY hk;simp at hk; subst hk;have:=fuM hW (XO hp hm);simp [hc] at hi;rcases hi with hi | hi
  ·exact Eu hW hp he (by omega) (by decide) (by decide) i hi
  ·subst hi;exact ⟨by simp,rfl,fun r hr=>by simp [dI,gV] at hr; omega,by simpa [jV] using this⟩
 ·have hE':dN [cB (mean p j h.nm) [1],cB (mean p j h.arg) [7],nest (eY ar [7])]=0:=by simpa [iE,hc] using hE
  obtain ⟨hk,hE'⟩:=iQ hE';obtain ⟨hk2,hE'⟩:=iQ hE';obtain ⟨k,hk,hm⟩:=mY hk;simp at hk; subst hk;obtain ⟨k,hk2,hm2⟩:=mY hk2;simp at hk2; subst hk2;have:=fuM hW (XO hp hm2);have h0:=R7 (Kh hp hm);have hix:=R8 (nm:=h.nm);simp [hc] at hi; subst hi;exact ⟨by simp,rfl,fun r hr=>by simp [dI] at hr; omega,by simpa [jV] using this⟩
theorem aJ1 (hW:WM W) (hp:nH p) {j:Nat} {st:Int} {h:dL} (hQ:QS p j h) (ho:4<=h.op∧h.op<=8):GI W st ⟨rD h.op,xO W h,0,0,0,st⟩∧GI W st ⟨rD h.op + 1,xO W h,0,0,0,st⟩:=by
 obtain ⟨tn,gI,ar,f,g,hE⟩:=hQ;have hc:h.op=4∨h.op=5∨h.op=6∨h.op=7∨h.op=8:=by omega
 rcases hc with hc | hc | hc | hc | hc
 ·have hk:=(iQ (show dN (cB (mean p j h.nm) [4] ::_)=0 by simpa [iE,hc] using hE)).1;obtain ⟨k,hk,hm⟩:=mY hk;simp at hk; subst hk;have:=lkF hW (aE8 hp hm);unfold rD xO;rw [hc];exact ⟨⟨by simp,rfl,fun r hr=>by simp [dI] at hr,by simpa [jV] using this⟩,⟨by simp,rfl,fun r hr=>by simp [dI] at hr,by simpa [jV] using this⟩⟩
 ·have hk:=(iQ (show dN (cB (mean p j h.nm) [5] ::_)=0 by simpa [iE,hc] using hE)).1;obtain ⟨k,hk,hm⟩:=mY hk;simp at hk; subst hk;have:=lkT hW (XM hp hm);unfold rD xO;rw [hc];exact ⟨⟨by simp,rfl,fun r hr=>by simp [dI] at hr,by simpa [jV] using this⟩,⟨by simp,rfl,fun r hr=>by simp [dI] at hr,by simpa [jV] using this⟩⟩
 ·have hk:=(iQ (show dN (cB (mean p j h.nm) [5] ::_)=0 by simpa [iE,hc] using hE)).1;obtain ⟨k,hk,hm⟩:=mY hk;simp at hk; subst hk;have:=lkT hW (XM hp hm);unfold rD xO;rw [hc];exact ⟨⟨by simp,rfl,fun r hr=>by simp [dI] at hr,by simpa [jV] using this⟩,⟨by simp,rfl,fun r hr=>by simp [dI] at hr,by simpa [jV] using this⟩⟩
 ·unfold rD xO;rw [hc];exact ⟨⟨by simp,rfl,fun r hr=>by simp [dI] at hr,by simp [jV]⟩,⟨by simp,rfl,fun r hr=>by simp [dI] at hr,by simp [jV]⟩⟩
 ·unfold rD xO;rw [hc];exact ⟨⟨by simp,rfl,fun r hr=>by simp [dI] at hr,by simp [jV]⟩,⟨by simp,rfl,fun r hr=>by simp [dI] at hr,by simp [jV]⟩⟩
theorem Ld (hW:WM W) (hp:nH p) (hT:W.ts=p.ts.map (·.nm)) (j:Nat): ∀(l:aH) (nx pos:Nat),dW l=true->xE l->l.Ev (QS p j)-> ∀i ∈ gU W gV l nx pos,GT W nx ((nx + aR l:Nat):Int) ((pos + (gU W gV l nx pos).length:Nat):Int) i
 | .nil,_,_,_,_,_,i,hi=>by simp [gU] at hi
 | .cons h b e r,nx,pos,hs,hsh,hev,i,hi=>by
   rw [dW,Bool.and_eq_true,Bool.and_eq_true,Bool.and_eq_true] at hs;obtain ⟨⟨hs1,hsb,hse⟩,hsr⟩:=hs;obtain ⟨q1,⟨-,q2⟩,⟨-,q3⟩,q4⟩:=hsh;obtain ⟨hQ,hvb,hve,hvr⟩:=hev;have hop:=ah8 hs1;have hwn:dh h.aI + dh h.idx<=1000:=by unfold wM at q1; rw [LW,LW] at q1; omega
   rw [gU] at hi ⊢;rw [aR];obtain ⟨X,hX⟩: ∃X,gy W gV nx h gV.length=X:=⟨_,rfl⟩;rw [hX] at hi ⊢;have IB:=Ld hW hp hT j b (nx + 1) (pos + jU h X) hsb q2 hvb;obtain ⟨B,hB⟩: ∃B,gU W gV b (nx + 1) (pos + jU h X)=B:=⟨_,rfl⟩;rw [hB] at hi IB ⊢;have IE:=Ld hW hp hT j e (nx + 1 + aR b) (pos + jU h X + B.length + 1) hse q3 hve;obtain ⟨E,hE⟩: ∃E,gU W gV e (nx + 1 + aR b) (pos + jU h X + B.length + 1)=E:=⟨_,rfl⟩;rw [hE] at hi IE ⊢;rw [List.length_append];rcases List.mem_append.1 hi with hi | hi
   ·by_cases h2:h.op=2
    ·obtain ⟨tn,gI,ar,f,g,hE0⟩:=hQ;have he:jT p j h.bY h.xn h.bW h.aI=0:=(by simpa [iE,h2] using hE0);have gX: ∀i ∈ X,GI W nx i:=(by rw [<- hX]; exact Eu hW hp he (by omega) (by decide) (by decide));have hh:jU h X=X.length + 1:=(by simp [jU,h2]);rw [hh] at IB IE;unfold yL at hi ⊢;simp only [h2,beq_self_eq_true,if_true] at hi ⊢;cases hne:e.none
     ·simp only [hne,Bool.false_eq_true,if_false] at hi ⊢;simp only [List.length_append,List.length_singleton,List.length_cons,List.length_nil];simp only [List.mem_append,List.mem_singleton,List.mem_cons,List.not_mem_nil,or_false] at hi;rcases hi with (((hi | rfl) | hi) | rfl) | hi
      ·exact (gX i hi).gt.mono (Int.le_refl _) (by omega) (Int.le_refl _)
      ·exact ⟨by simp,⟨by simp,by simp; omega⟩,fun r hr=>by simp [dI,gV] at hr; omega,fun _ h=>absurd rfl h,fun _=>⟨by simp; omega,by simp; omega⟩⟩
      ·exact (IB i hi).mono (by omega) (by omega) (by omega)
      ·exact ⟨by simp,⟨by simp,by simp; omega⟩,fun r hr=>by simp [dI] at hr,fun h=>absurd rfl h,fun h=>by simp at h⟩
      ·exact (IE i hi).mono (by omega) (by omega) (by omega)
     ·simp only [hne,if_true] at hi ⊢;simp only [List.length_append,List.length_singleton,List.length_cons,List.length_nil];simp only [List.mem_append,List.mem_singleton,List.mem_cons,List.not_mem_nil,or_false] at hi;rcases hi with (hi | rfl) | hi
      ·exact (gX i hi).gt.mono (Int.le_refl _) (by omega) (Int.le_refl _)
      ·exact ⟨by simp,⟨by simp,by simp; omega⟩,fun r hr=>by simp [dI,gV] at hr; omega,fun _ h=>absurd rfl h,fun _=>⟨by simp; omega,by simp; omega⟩⟩
      ·exact (IB i hi).mono (by omega) (by omega) (by omega)
    ·by_cases h3:h.op=3
     ·obtain ⟨tn,gI,ar,f,g,hE0⟩:=hQ;have he:jT p j h.bY h.xn h.bW h.aI=0:=(by simpa [iE,h3] using hE0);have gX: ∀i ∈ X,GI W nx i:=(by rw [<- hX]; exact Eu hW hp he (by omega) (by decide) (by decide));have hh:jU h X=X.length + 1:=(by simp [jU,h3]);rw [hh] at IB IE;have e2:((3:Int) == 2)=false:=rfl;unfold yL at hi ⊢;simp only [h3,e2,beq_self_eq_true,if_true,Bool.false_eq_true,if_false] at hi ⊢;simp only [List.length_append,List.length_singleton,List.length_cons,List.length_nil];simp only [List.mem_append,List.mem_singleton,List.mem_cons,List.not_mem_nil,or_false] at hi;rcases hi with ((hi | rfl) | hi) | rfl
      ·exact (gX i hi).gt.mono (Int.le_refl _) (by omega) (Int.le_refl _)
      ·exact ⟨by simp,⟨by simp,by simp; omega⟩,fun r hr=>by simp [dI,gV] at hr; omega,fun _ h=>absurd rfl h,fun _=>⟨by simp; omega,by simp; omega⟩⟩
      ·exact (IB i hi).mono (by omega) (by omega) (by omega)
      ·exact ⟨by simp,⟨by simp,by simp; omega⟩,fun r hr=>by simp [dI] at hr,fun h=>absurd rfl h,fun h=>by simp at h⟩
     ·have e2:(h.op == 2)=false:=(by simp [h2]);have e3:(h.op == 3)=false:=(by simp [h3]);unfold yL at hi ⊢;simp only [e2,e3,Bool.false_eq_true,if_false] at hi ⊢;by_cases h4:4<=h.op∧h.op<=8
      ·have e4:(decide (4<=h.op) && decide (h.op<=8))=true:=(by simp; omega);have hh:jU h X=1:=(by simp [jU,e2,e3]);rw [hh] at IB;obtain ⟨a1,a2⟩:=aJ1 (st:=nx) hW hp hQ h4;simp only [e4,if_true] at hi ⊢;simp only [List.length_append,List.length_singleton,List.length_cons,List.length_nil];simp only [List.mem_append,List.mem_singleton,List.mem_cons,List.not_mem_nil,or_false] at hi;rcases hi with (rfl | hi) | rfl
       ·exact a1.gt.mono (Int.le_refl _) (by omega) (Int.le_refl _)
       ·exact (IB i hi).mono (by omega) (by omega) (by omega)
       ·exact a2.gt.mono (Int.le_refl _) (by omega) (Int.le_refl _)
      ·have e4:(decide (4<=h.op) && decide (h.op<=8))=false:=(by simp; omega);simp only [e4,Bool.false_eq_true,if_false] at hi ⊢;exact (az8 hW hp hT hQ hwn (by omega) i hi).gt.mono (Int.le_refl _) (by omega) (Int.le_refl _)
   ·have:=Ld hW hp hT j r _ _ hsr q4 hvr i hi;exact this.mono (by omega) (by omega) (by omega)
theorem al4 {h:dL} {bl el:Nat} (hs:mQ h bl el=true):(bl≠0->2<=h.op∧h.op<=8)∧(el≠0->h.op=2):=by
 unfold mQ fB fE at hs;simp only [Bool.and_eq_true,Bool.or_eq_true,decide_eq_true_eq,beq_iff_eq] at hs;refine ⟨fun h0=> ?_,fun h0=> ?_⟩
 ·rcases hs.2.2.1 with h | h
  ·exact h
  ·exact absurd h h0
 ·rcases hs.2.2.2 with h | h
  ·exact h
  ·exact absurd h h0
theorem aj4 (W:Wo) (lc:List ByteArray) (s:Nat) (h:dL) (ho:h.op=1∨9<=h.op∧h.op<=15): ∃i ∈ oI W lc s h,i.st=(s:Int):=by
 have hc:h.op=1∨h.op=9∨h.op=10∨h.op=11∨h.op=12∨h.op=13∨h.op=14∨h.op=15:=by omega
 unfold oI;rcases hc with hc | hc | hc | hc | hc | hc | hc | hc
 ·simp only [hc,beq_self_eq_true,if_true];unfold zN;split
  ·refine ⟨_,List.mem_append_right _ (List.mem_singleton.2 rfl),?_⟩;split <;> rfl
  ·exact ⟨_,List.mem_append_right _ (List.mem_singleton.2 rfl),rfl⟩
 ·simp [hc]
 ·simp [hc]
 ·simp [hc]
 ·simp [hc]
 ·simp [hc]
 ·simp [hc]
 ·simp [hc]
theorem KV (W:Wo) (lc:List ByteArray): ∀(l:aH) (nx pos s:Nat),dW l=true->nx<=s->s < nx + aR l-> ∃i ∈ gU W lc l nx pos,i.st=(s:Int)
 | .nil,_,_,_,_,_,h=>by rw [aR] at h; omega
 | .cons h b e r,nx,pos,s,hs,h1,h2=>by
   rw [dW,Bool.and_eq_true,Bool.and_eq_true,Bool.and_eq_true] at hs;obtain ⟨⟨hs1,hsb,hse⟩,hsr⟩:=hs;have hop:=ah8 hs1;rw [aR] at h2;rw [gU];obtain ⟨X,hX⟩: ∃X,gy W lc nx h lc.length=X:=⟨_,rfl⟩;rw [hX];have IB:=KV W lc b (nx + 1) (pos + jU h X) s hsb;obtain ⟨B,hB⟩: ∃B,gU W lc b (nx + 1) (pos + jU h X)=B:=⟨_,rfl⟩;rw [hB] at IB ⊢;have IE:=KV W lc e (nx + 1 + aR b) (pos + jU h X + B.length + 1) s hse;obtain ⟨E,hE⟩: ∃E,gU W lc e (nx + 1 + aR b) (pos + jU h X + B.length + 1)=E:=⟨_,rfl⟩;rw [hE] at IE ⊢;by_cases hr:nx + 1 + aR b + aR e<=s
   ·obtain ⟨i,hi,hst⟩:=KV W lc r (nx + 1 + aR b + aR e) (pos + (yL W lc nx h X B E e.none pos).length) s hsr hr (by omega);exact ⟨i,List.mem_append_right _ hi,hst⟩
   ·have hin: ∃i ∈ yL W lc nx h X B E e.none pos,i.st=(s:Int):=by
     have hsp:=al4 hs1;unfold yL;by_cases h2':h.op=2
     ·simp only [h2',beq_self_eq_true,if_true];by_cases c0:s=nx
      ·subst c0;split
       ·exact ⟨_,List.mem_append_left _ (List.mem_append_right _ (List.mem_singleton.2 rfl)),rfl⟩
       ·exact ⟨_,List.mem_append_left _ (List.mem_append_left _ (List.mem_append_left _ (List.mem_append_right _ (List.mem_singleton.2 rfl)))),rfl⟩
      ·by_cases c1:s < nx + 1 + aR b
       ·obtain ⟨i,hi,hst⟩:=IB (by omega) c1;split
        ·exact ⟨i,List.mem_append_right _ hi,hst⟩
        ·exact ⟨i,List.mem_append_left _ (List.mem_append_left _ (List.mem_append_right _ hi)),hst⟩
       ·obtain ⟨i,hi,hst⟩:=IE (by omega) (by omega);split
        ·rename_i hne;cases e with
         | nil=>rw [aR] at hr; omega
         | cons=>cases hne
        ·exact ⟨i,List.mem_append_right _ hi,hst⟩
     ·have e2:(h.op == 2)=false:=(by simp [h2']);have he0:aR e=0:=by
       cases e with
       | nil=>rfl
       | cons=>exact absurd (hsp.2 (by simp [aH.len])) h2'
      simp only [e2,Bool.false_eq_true,if_false];by_cases h3:h.op=3
      ·simp only [h3,beq_self_eq_true,if_true];by_cases c0:s=nx
       ·subst c0;exact ⟨_,List.mem_append_left _ (List.mem_append_left _ (List.mem_append_right _ (List.mem_singleton.2 rfl))),rfl⟩
       ·obtain ⟨i,hi,hst⟩:=IB (by omega) (by omega);exact ⟨i,List.mem_append_left _ (List.mem_append_right _ hi),hst⟩
      ·have e3:(h.op == 3)=false:=(by simp [h3]);simp only [e3,Bool.false_eq_true,if_false];by_cases h4:4<=h.op∧h.op<=8
       ·have e4:(decide (4<=h.op) && decide (h.op<=8))=true:=(by simp; omega);simp only [e4,if_true];by_cases c0:s=nx
        ·subst c0;exact ⟨_,List.mem_append_left _ (List.mem_append_left _ (List.mem_singleton.2 rfl)),rfl⟩
        ·obtain ⟨i,hi,hst⟩:=IB (by omega) (by omega);exact ⟨i,List.mem_append_left _ (List.mem_append_right _ hi),hst⟩
       ·have e4:(decide (4<=h.op) && decide (h.op<=8))=false:=(by simp; omega);simp only [e4,Bool.false_eq_true,if_false];clear IB IE;have hop1:h.op=1∨9<=h.op∧h.op<=15:=(by omega);have hb0:aR b=0:=by
         cases b with
         | nil=>rfl
         | cons=>have hh:=hsp.1 (by simp [aH.len]);exfalso;obtain ⟨a1,a2⟩:=hh;rcases hop1 with h | h <;> omega
        obtain rfl:s=nx:=(by omega);exact aj4 W lc _ h hop1
    obtain ⟨i,hi,hst⟩:=hin;exact ⟨i,List.mem_append_left _ hi,hst⟩
end
end Md
namespace Md
theorem TR {W:Wo} {th n regs:Int} : ∀(l:List aX) (k:Int),(∀(q:Nat) (i:aX),l[q]? =some i->zQ W th n regs (k + q) i=true)->uO W th n regs k l=true
 | [],_,_=>rfl
 | i ::r,k,h=>by rw [uO];have h0:=h 0 i rfl;rw [show k + ((0:Nat):Int)=k by omega] at h0;rw [h0,TR r (k + 1) (fun q x hx=>by have:=h (q + 1) x (by simpa using hx);rw [show k + 1 + (q:Int)=k + ((q + 1:Nat):Int) by omega]; exact this)];rfl
theorem Rc: ∀(l:List Int) (n:Int),n<=Dv l n
 | [],n=>Int.le_refl _
 | r ::l,n=>by rw [Dv]; have:=Rc l (max n (r + 1)); omega
theorem XT: ∀(l:List Int) (n:Int),∀r ∈ l,r < Dv l n
 | [],n,r,h=>by cases h
 | x ::l,n,r,h=>by
   rw [Dv];rcases List.mem_cons.1 h with rfl | h
   ·have:=Rc l (max n (r + 1)); omega
   ·exact XT l _ r h
theorem XR: ∀(l:List Int) (n m:Int),n<=m->(∀r ∈ l,r + 1<=m)->Dv l n<=m
 | [],n,m,h,_=>h
 | x ::l,n,m,h,hl=>by rw [Dv]; exact XR l _ m (by have:=hl x List.mem_cons_self; omega) (fun r hr=>hl r (List.mem_cons_of_mem _ hr))
theorem Rb: ∀(l:List aX) (n:Int),n<=qI l n
 | [],n=>Int.le_refl _
 | i ::l,n=>by rw [qI]; have h1:=Rb l (Dv (dI i) n); have h2:=Rc (dI i) n; omega
theorem XQ: ∀(l:List aX) (n:Int),∀i ∈ l,∀r ∈ dI i,r < qI l n
 | [],n,i,h=>by cases h
 | x ::l,n,i,h=>fun r hr=>by
   rw [qI];rcases List.mem_cons.1 h with rfl | h
   ·have h1:=Rb l (Dv (dI i) n); have h2:=XT (dI i) n r hr; omega
   ·exact XQ l _ i h r hr
theorem XP: ∀(l:List aX) (n m:Int),n<=m->(∀i ∈ l,∀r ∈ dI i,r + 1<=m)->qI l n<=m
 | [],n,m,h,_=>h
 | x ::l,n,m,h,hl=>by rw [qI]; exact XP l _ m (XR _ _ _ h (hl x List.mem_cons_self)) (fun i hi=>hl i (List.mem_cons_of_mem _ hi))
theorem aL4 {W:Wo} {n:Int} {i:aX} (h5:i.op≠5) (h10:i.op≠10):jV W n i=jV W 0 i:=by
 unfold jV;have a:(i.op == 5)=false:=by simp [h5]
 have b:(i.op == 10)=false:=by simp [h10]
 simp only [a,b,Bool.false_eq_true,if_false]
section
variable {W:Wo} {p:Pr}
theorem aI4 (hW:WM W) (hp:nH p) (hT:W.ts=p.ts.map (·.nm)) (j:Nat) {t:Th} (hl:t.bM=gV) (hs:dW t.body=true) (hsh:xE t.body) (hev:t.body.Ev (QS p j)) (th:Int) (nx:Nat)
 (hss: ∀q,q < aR t.body-> ∃x,W.ss[nx + q]? =some x∧x.th=th):Me W th (coT W t nx)=true:=by
 obtain ⟨L,hL⟩: ∃L,gU W gV t.body nx 0=L:=⟨_,rfl⟩;obtain ⟨z,hz⟩: ∃z:aX,z=⟨28,0,0,0,0,-1⟩:=⟨_,rfl⟩;have hG: ∀i ∈ L,GT W nx ((nx + aR t.body:Nat):Int) ((0 + L.length:Nat):Int) i:=by have:=Ld hW hp hT j t.body nx 0 hs hsh hev;rw [hL] at this; exact this
 have hJ:uf (L++[z]) 0 L:=by have:=Ir W gV (L++[z]) t.body nx 0 (by rw [hL]; exact fun k i hk=>by rw [Nat.zero_add,List.getElem?_append_left (Iw hk)]; exact hk);rw [hL] at this; exact this
 have hlen:(L++[z]).length=L.length + 1:=by simp
 have hzz:(L++[z])[(L++[z]).length - 1]? =some z:=by rw [hlen]; simp
 have hJO:JOk (L++[z]):=fun k i hk h5=>by
  by_cases h:k < L.length
  ·rw [List.getElem?_append_left h] at hk;obtain ⟨h0,hc⟩:=hJ k i hk h5;refine ⟨h0,?_⟩;rcases hc with hc | ⟨hc,hst⟩
   ·exact ⟨by rw [hlen]; omega,.inl (by omega)⟩
   ·exact ⟨by rw [hlen]; omega,.inr hst⟩
  ·rw [List.getElem?_append_right (by omega)] at hk;have:i=z:=by have:=List.mem_of_getElem? hk;simpa using this
   rw [this,hz] at h5; exact absurd h5 (by decide)
 have be9:=(ay0 hJO hzz (by rw [hz]; rfl)).2;unfold coT Me;rw [hl,hL,<- hz];obtain ⟨R,hR⟩: ∃R,qI (L++[z]) (gV.length:Nat)=R:=⟨_,rfl⟩;have hrg: ∀i ∈ L++[z],∀r ∈ dI i,0<=r∧r<=30:=fun i hi r hr=>by
  rcases List.mem_append.1 hi with hi | hi
  ·exact (hG i hi).2.2.1 r hr
  ·rw [List.mem_singleton.1 hi,hz] at hr; simp [dI] at hr
 have hR0:0<=R:=by have:=Rb (L++[z]) (gV.length:Nat); rw [hR,wu] at this; omega
 have bs8:R<=32:=by rw [<- hR]; exact XP _ _ _ (by rw [wu]; decide) (fun i hi r hr=>by have:=(hrg i hi r hr).2; omega)
 have hc1:(decide (R < 0) || (decide (32 < R) || (((L++[z]).length:Int) == 0)))=false:=by rw [hlen]; simp; omega
 show (if (decide (qI (L++[z]) (gV.length:Nat) < 0) || (decide (32 < qI (L++[z]) (gV.length:Nat)) || (((L++[z]).length:Int) == 0)))=true then false else uO W th (L++[z]).length (qI (L++[z]) (gV.length:Nat)) 0 (L++[z]) && ES (L++[z]))=true;rw [hR,hc1,be9];simp only [Bool.false_eq_true,if_false,Bool.and_true];refine TR _ _ (fun q i hi=> ?_);have hmem:=List.mem_of_getElem? hi;have aJ9:(dI i).all (fun r=>jl r R)=true:=List.all_eq_true.2 (fun r hr=>by have h1:=(hrg i hmem r hr).1;have h2:=XQ (L++[z]) (gV.length:Nat) i hmem r hr;rw [hR] at h2;unfold jl; simp; omega);unfold zQ;rw [aJ9];by_cases h:q < L.length
 ·rw [List.getElem?_append_left h] at hi;obtain ⟨g1,g2,-,g4,g5⟩:=hG i (List.mem_of_getElem? hi);have e1:(decide (1<=i.op) && decide (i.op<=28))=true:=by simp; omega
  have e28:(i.op == 28)=false:=by simp; omega
  have e3:((0:Int) + q == ((L++[z]).length:Int) - 1)=false:=by rw [hlen]; simp; omega
  rw [e1,e28,e3];have hsi:FH W th i=true:=by
   unfold FH;rw [e28];obtain ⟨x,hx,hxt⟩:=hss (i.st - nx).toNat (by omega);have e:nx + (i.st - nx).toNat=i.st.toNat:=by omega
   rw [e] at hx;have hlt:=(List.getElem?_eq_some_iff.1 hx).1;rw [hx];unfold jl;simp [hxt]; omega
  rw [hsi];have hop:jV W ((L++[z]).length:Nat) i=true:=by
   by_cases h5:i.op=5
   ·obtain ⟨h0,hc⟩:=hJ q i hi h5;unfold jV jl;rw [h5,hlen];simp;refine ⟨h0,?_⟩;rcases hc with hc | ⟨hc,-⟩ <;> omega
   ·by_cases h10:i.op=10
    ·have:=g5 h10;unfold jV jl;rw [h10,hlen];simp; omega
    ·rw [aL4 h5 h10]; exact g4 h5 h10
  rw [hop]; rfl
 ·rw [List.getElem?_append_right (by omega)] at hi;have hiz:i=z:=by have:=List.mem_of_getElem? hi; simpa using this
  have hq:q=L.length:=by have:=Iw hi; simp at this; omega
  rw [hiz,hlen,hq,hz];simp [FH,jV]
def AY:Nat->List Th->List wZ
 | _,[]=>[]
 | i,t ::r=>tY i t.body 0++AY (i + 1) r
theorem RS: ∀(l:List Th) (W:Wo) (i:Nat),(zB W i l).ss=W.ss++AY i l
 | [],W,i=>by rw [zB,AY,List.append_nil]
 | t ::r,W,i=>by rw [zB,RS r _ (i + 1),AY,List.append_assoc]
theorem Nh (i:Int) (l:aH) (n:Nat):(tY i l n).length=aR l:=by rw [rQ,yA,lV]
theorem Ni (i:Int): ∀(l:List Int) (n q:Nat),q < l.length-> ∃x,(qA i n l)[q]? =some x∧x.th=i
 | [],_,q,h=>by simp at h
 | x ::l,n,0,_=>⟨_,rfl,rfl⟩
 | x ::l,n,q + 1,h=>by rw [qA]; exact Ni i l (n + 1) q (by simpa using h)
theorem Uo (nT i:Int) (h0:0<=i) (h1:i < nT): ∀(L:List Int) (n:Nat) (th nx:Int) (R:List wZ),L≠[]->(th < i∧n=0∨th=i∧nx=n)->vsA nT th nx (qA i n L++R)=vsA nT i ((n + L.length:Nat):Int) R
 | [],_,_,_,_,h,_=>absurd rfl h
 | x ::L,n,th,nx,R,_,hc=>by
   rw [qA,List.cons_append,vsA];have e1:(decide (i < th) || decide (nT<=i))=false:=by simp; omega
   have e2:((n:Int) != (if th < i then 0 else nx))=false:=by
    rcases hc with ⟨h,h'⟩ | ⟨h,h'⟩
    ·simp [h,h']
    ·subst h; simp [h']
   have e3:(if th < i then i else th)=i:=by split <;> omega
   have e4:(if th < i then (0:Int) else nx) + 1=((n + 1:Nat):Int):=by
    rcases hc with ⟨h,h'⟩ | ⟨h,h'⟩
    ·simp [h,h']
    ·subst h; simp [h']
   show (if (decide (i < th) || decide (nT<=i))=true then false else if ((n:Int) != (if th < i then 0 else nx))=true then false else vsA nT (if th < i then i else th) ((if th < i then 0 else nx) + 1) (qA i (n + 1) L++R))=_;rw [e1,e2,e3,e4];simp only [Bool.false_eq_true,if_false];cases L with
   | nil=>simp [qA]
   | cons y L=>rw [Uo nT i h0 h1 (y ::L) (n + 1) i _ R (by simp) (.inr ⟨rfl,rfl⟩)];congr 1;simp; omega
theorem RI (nT:Int): ∀(l:List Th) (i:Nat) (th nx:Int),(i:Int) + l.length<=nT->(th < i∨th=i∧nx=0)->vsA nT th nx (AY i l)=true
 | [],_,_,_,_,_=>rfl
 | t ::r,i,th,nx,h,hc=>by
   simp only [List.length_cons] at h;rw [AY,rQ];by_cases he:tH t.body=[]
   ·rw [he,qA,List.nil_append];exact RI nT r (i + 1) th nx (by omega) (.inl (by omega))
   ·rw [Uo nT i (by omega) (by omega) _ 0 th nx _ he (by rcases hc with h | h; exact .inl ⟨h,rfl⟩; exact .inr ⟨h.1,by rw [h.2]; rfl⟩)];exact RI nT r (i + 1) _ _ (by omega) (.inl (by omega))
theorem Um (hW:WM W) (hp:nH p) (hT:W.ts=p.ts.map (·.nm)): ∀(l:List Th) (k nx:Nat),(∀t ∈ l,t.bM=gV∧dW t.body=true∧xE t.body∧ ∃j,t.body.Ev (QS p j))->W.ss.drop nx=AY k l->I5 W k (oQ W l nx)=true
 | [],_,_,_,_=>rfl
 | t ::r,k,nx,h,hd=>by obtain ⟨h1,h2,h3,j,h4⟩:=h t List.mem_cons_self;rw [AY] at hd;have hlen:=Nh (k:Int) t.body 0;rw [oQ,I5,aI4 hW hp hT j h1 h2 h3 h4 k nx (fun q hq=>by obtain ⟨x,hx,hxt⟩:=Ni (k:Int) (tH t.body) 0 q (by rw [lV]; exact hq);refine ⟨x,?_,hxt⟩;rw [<- List.getElem?_drop,hd,List.getElem?_append_left (by rw [hlen]; exact hq),rQ];exact hx)];rw [Bool.true_and];refine Um hW hp hT r (k + 1) (nx + aR t.body) (fun x hx=>h x (List.mem_cons_of_mem _ hx)) ?_;rw [<- List.drop_drop,hd,List.drop_left' hlen]
theorem WZ: ∀(l:List Th) (k nx s:Nat),(∀t ∈ l,dW t.body=true)->W.ss.drop nx=AY k l->nx<=s->s < W.ss.length-> ∃(x:wZ) (d:Nat) (tc:xg),W.ss[s]? =some x∧x.th=((k + d:Nat):Int)∧(oQ W l nx)[d]? =some tc∧ ∃i ∈ tc.is,i.st=(s:Int)
 | [],k,nx,s,_,hd,h1,h2=>by have:=congrArg List.length hd;rw [List.length_drop,AY,List.length_nil] at this;omega
 | t ::r,k,nx,s,h,hd,h1,h2=>by
   rw [AY] at hd;have hlen:=Nh (k:Int) t.body 0;by_cases hs:s < nx + aR t.body
   ·obtain ⟨x,hx,hxt⟩:=Ni (k:Int) (tH t.body) 0 (s - nx) (by rw [lV]; omega);have hxs:W.ss[s]? =some x:=by have:W.ss[nx + (s - nx)]? =some x:=(by rw [<- List.getElem?_drop,hd,List.getElem?_append_left (by rw [hlen]; omega),rQ];exact hx);rw [show nx + (s - nx)=s by omega] at this; exact this
    obtain ⟨i,hi,hst⟩:=KV W t.bM t.body nx 0 s (h t List.mem_cons_self) h1 hs;exact ⟨x,0,coT W t nx,hxs,by rw [hxt]; simp,by rw [oQ]; rfl,i,List.mem_append_left _ hi,hst⟩
   ·have hd':W.ss.drop (nx + aR t.body)=AY (k + 1) r:=by rw [<- List.drop_drop,hd,List.drop_left' hlen]
    obtain ⟨x,d,tc,a1,a2,a3,a4⟩:=WZ r (k + 1) (nx + aR t.body) s (fun y hy=>h y (List.mem_cons_of_mem _ hy)) hd' (by omega) h2;exact ⟨x,d + 1,tc,a1,by rw [a2]; congr 1; omega,by rw [oQ]; exact a3,a4⟩
end
end Md
namespace Md
theorem aI5:AZ Jh=some [⟨#[120]⟩,⟨#[121]⟩,⟨#[118]⟩,⟨#[113]⟩]:=by
 simp [AZ,Jh,vC,Ak,JU,pJ]
theorem aL9 {W:Wo} (hW:WM W) {n:Nat} (hn:n<=4) (hts:W.ts=[uj,Tt,Tv,Tw].take n):FI [] (wC W [⟨#[120]⟩,⟨#[121]⟩,⟨#[118]⟩,⟨#[113]⟩])=true:=by
 unfold wC;rw [hW.ls,hW.ns,hW.fs,hts];have e1:uj.toList=[109,97,105,110]:=ByteArray.toList_mk _;have e2:Tt.toList=[116,49]:=ByteArray.toList_mk _;have e3:Tv.toList=[116,50]:=ByteArray.toList_mk _;have e4:Tw.toList=[116,51]:=ByteArray.toList_mk _;have n1:Tk.gZ [120]=true:=by decide
 have n2:Tk.gZ [121]=true:=by decide
 have n3:Tk.gZ [118]=true:=by decide
 have n4:Tk.gZ [113]=true:=by decide
 have n5:Tk.gZ [109]=true:=by decide
 have n6:Tk.gZ [110]=true:=by decide
 have n7:Tk.gZ [114]=true:=by decide
 have n8:Tk.gZ [99]=true:=by decide
 have n9:Tk.gZ [102]=true:=by decide
 have m1:Tk.gZ [109,97,105,110]=true:=by decide
 have m2:Tk.gZ [116,49]=true:=by decide
 have m3:Tk.gZ [116,50]=true:=by decide
 have m4:Tk.gZ [116,51]=true:=by decide
 have hc:n=0∨n=1∨n=2∨n=3∨n=4:=by omega
 rcases hc with rfl | rfl | rfl | rfl | rfl <;> simp [LU,Oi,TH,FI,pJ,e1,e2,e3,e4,n1,n2,n3,n4,n5,n6,n7,n8,n9,m1,m2,m3,m4]
theorem aM0 {W:Wo} (hW:WM W) {n:Nat} (h1:1<=n) (hn:n<=4) (hts:W.ts=[uj,Tt,Tv,Tw].take n) (hss:W.ss.length<=60) (hvs:vsA W.ts.length 0 0 W.ss=true):vW W=true:=by
 have hl:W.ts.length=n:=by rw [hts]; simp; omega
 unfold vW;rw [hW.cs,aI5];have c1:(decide ((12:Int) < (Jh.length:Nat)) || (decide ((4:Int) < W.ls.length) || (decide ((2:Int) < W.ns.length) || (decide ((2:Int) < W.fs.length) || decide ((60:Int) < W.ss.length)))))=false:=by rw [hW.ls,hW.ns,hW.fs];simp [Jh,LU,Oi,TH]; omega
 have c2:(decide ((W.ts.length:Int) < 1) || decide ((4:Int) < W.ts.length))=false:=by rw [hl]; simp; omega
 rw [c1,c2,hvs];simp only [Bool.false_eq_true,if_false];rw [aL9 hW hn hts];simp only [Bool.true_and,Bool.and_true];rw [hW.ns];simp [Oi,vg,jl,hW.ls,LU]
theorem Nj: ∀(l:List Th) (i:Nat),(AY i l).length=(l.map (fun t=>aR t.body)).sum
 | [],_=>rfl
 | t ::r,i=>by rw [AY,List.length_append,Nh,Nj r (i + 1)]; simp
theorem JO (W:Wo): ∀(l:List Th) (nx:Nat),(oQ W l nx).length=l.length
 | [],_=>rfl
 | t ::r,nx=>by rw [oQ,List.length_cons,JO W r,List.length_cons]
structure Sound (p:Pr):Prop where
 va:RH (fF p) (oQ (fF p) p.ts 0)=true
 co: ∀s,s < (fF p).ss.length-> ∃(x:wZ) (d:Nat) (tc:xg),(fF p).ss[s]? =some x∧x.th=(d:Int)∧(oQ (fF p) p.ts 0)[d]? =some tc∧ ∃i ∈ tc.is,i.st=(s:Int)
 rg: ∀t ∈ oQ (fF p) p.ts 0,∀i ∈ t.is,∀r ∈ dI i,0<=r∧r<=30
theorem TA {W:Wo} {p:Pr} (hW:WM W) (hp:nH p) (hT:W.ts=p.ts.map (·.nm)): ∀(l:List Th) (nx:Nat),(∀t ∈ l,t.bM=gV∧dW t.body=true∧xE t.body∧ ∃j,t.body.Ev (QS p j))-> ∀t ∈ oQ W l nx,∀i ∈ t.is,∀r ∈ dI i,0<=r∧r<=30
 | [],_,_,t,ht=>by cases ht
 | x ::l,nx,h,t,ht=>by
   rw [oQ] at ht;rcases List.mem_cons.1 ht with rfl | ht
   ·intro i hi r hr;obtain ⟨h1,h2,h3,j,h4⟩:=h x List.mem_cons_self;rcases List.mem_append.1 hi with hi | hi
    ·rw [h1] at hi;exact (Ld hW hp hT j x.body nx 0 h2 h3 h4 i hi).2.2.1 r hr
    ·rw [List.mem_singleton.1 hi] at hr; simp [dI] at hr
   ·exact TA hW hp hT l _ (fun y hy=>h y (List.mem_cons_of_mem _ hy)) t ht
theorem EB: ∀l:aH,l.len<=aR l
 | .nil=>Nat.le_refl _
 | .cons h b e r=>by rw [aR,aH.len]; have:=EB r; omega
theorem KU: ∀(l:aH) (n:Int),0<=n->n + aR l<=10000000000000000->aR l<=1000000000000000->yj l n + l.len=n + aR l
 | .nil,n,_,_,_=>by simp [yj,aR,aH.len]
 | .cons h b e r,n,h0,h1,h2=>by
   rw [aR] at h1 h2 ⊢;have hb:=EB b;have he:=EB e;have ib:=KU b b.len (by omega) (by omega) (by omega);have ie:=KU e e.len (by omega) (by omega) (by omega);have hin:wrap64 (n + (yj b b.len + yj e e.len))=n + (aR b + aR e):=by rw [show yj b b.len=aR b by omega,show yj e e.len=aR e by omega];exact RU (by omega) (by omega)
   have ir:=KU r (n + (aR b + aR e)) (by omega) (by omega) (by omega);rw [yj,hin];simp only [aH.len];omega
theorem ay7 {l:aH} (h:aR l<=100000000000000):CG l=aR l:=by
 have:=EB l;have:=KU l l.len (by omega) (by omega) (by omega);unfold CG;omega
theorem WV: ∀(l:List Th) (n:Int),0<=n->n + (l.map (fun t=>aR t.body)).sum<=100000000000000->rG l n=n + (l.map (fun t=>aR t.body)).sum
 | [],n,_,_=>by simp [rG]
 | t ::r,n,h0,h1=>by simp only [List.map_cons,List.sum_cons] at h1 ⊢;rw [rG,ay7 (by omega),RU (by omega) (by omega),WV r _ (by omega) (by omega)];omega
theorem aa8 {p:Pr} (h:qz p=true): ∀t ∈ p.ts,dW t.body=true:=fun t ht=>by
 unfold qz at h;simp only [Bool.and_eq_true,List.all_eq_true] at h;have:=h.1.2 t ht;unfold pI at this;simp only [Bool.and_eq_true] at this;exact this.2
theorem ab0 {p:Pr} (hp:nH p) (h0:(jr p).1=0) (hsh: ∀t ∈ p.ts,xE t.body) (jG:(p.ts.map (fun t=>aR t.body)).sum<=10000000000000):Sound p:=by
 have hW:=WM.of hp;obtain ⟨hs,-,-,-,bt3,hst⟩:=qJ h0;have h60:(p.ts.map (fun t=>aR t.body)).sum<=60:=by have:=WV p.ts 0 (by decide) (by omega);omega
 have hT:(fF p).ts=p.ts.map (·.nm):=by unfold fF;rw [hp.ds,IJ,EI];rfl
 have hS:(fF p).ss=AY 0 p.ts:=by unfold fF;rw [hp.ds,IJ,RS];rfl
 have hall: ∀t ∈ p.ts,t.bM=gV∧dW t.body=true∧xE t.body∧ ∃j,t.body.Ev (QS p j):=fun t ht=>by obtain ⟨j,hj⟩:=Kr p (kC p) p.ts 0 [] [] hst t ht;exact ⟨hp.lc t ht,aa8 hs t ht,hsh t ht,j,hj.imp (fun h ⟨ar,f,g,e⟩=>⟨t.nm,kC p,ar,f,g,e⟩)⟩
 obtain ⟨n,hn4,hn1,hnm⟩:=hp.ts;have hlen:(fF p).ts.length=p.ts.length:=by rw [hT,List.length_map]
 have hvs:vsA (fF p).ts.length 0 0 (fF p).ss=true:=by rw [hS];exact RI _ _ 0 0 0 (by rw [hlen]; simp) (.inr ⟨rfl,rfl⟩)
 have hvw:=aM0 hW hn1 hn4 (hT.trans hnm) (by rw [hS,Nj]; exact h60) hvs;refine ⟨?_,fun s hs'=> ?_,TA hW hp hT p.ts 0 hall⟩
 ·unfold RH;have hcl:(oQ (fF p) p.ts 0).length=p.ts.length:=JO _ _ _;rw [hvw,hcl,hlen];simp only [Bool.not_true,Bool.false_or,bne_self_eq_false,Bool.false_eq_true,if_false];exact Um hW hp hT p.ts 0 0 hall (by rw [List.drop_zero]; exact hS)
 ·obtain ⟨x,d,tc,a1,a2,a3,a4⟩:=WZ (W:=fF p) p.ts 0 0 s (fun t ht=>(hall t ht).2.1) (by rw [List.drop_zero]; exact hS) (Nat.zero_le _) hs';exact ⟨x,d,tc,a1,by rw [a2]; simp,a3,a4⟩
end Md
end Go.Proofs.YtfbbaiejbjdfbaaGreatDoor
