/- Contract of compile's advances: an event is reached from every instruction. And what hangs on it. -/
import Derived.Test.YtgjmahnblcajbaaGreatDoorGVA
import Derived.Test.YtgjmahnblcajbaaGreatDoorGCE
set_option linter.unusedSimpArgs false
set_option linter.unusedVariables false
set_option maxHeartbeats 40000000
set_option maxRecDepth 1000000
namespace Go.Proofs.YtgjmahnblcajbaaGreatDoor
open Go.RowKit
open Md
structure AdI (l:List aQ) (w:World) (gb sb:Nat) (G S:List Bool):Prop where
 g:jW w gb G
 s:jW w sb S
 gl:G.length=l.length
 sl:S.length=l.length
 lands: ∀k:Nat,G[k]? =some true->oK l k
 sub: ∀k:Nat,S[k]? =some true->G[k]? =some true
theorem R7 {G:List Bool} {k n:Nat} (h:G.length=n) (hk:k < n): ∃q,G[k]? =some q:=⟨G[k],List.getElem?_eq_getElem (by omega)⟩
theorem CV {G:List Bool} {k q:Nat} (hk:k < G.length):(G.set k true)[q]? =some true↔q=k∨G[q]? =some true:=by
 by_cases h:q=k
 ·subst h; simp [hk]
 ·rw [List.getElem?_set_ne (fun e=>h e.symm)]; simp [h]
theorem N9 {l:List aQ} (ho:Ja l) (w:World) (ao:Option Addr) (cap:Nat) (hl:l.length<=3000000000000) (hw:bL gK 6 w w.heap.size l ao 0):
 Calls Tryz.prog 47 #[.slice ao l.length cap] w fun e w'=>e= .returned (.bool (Gi l))∧Below w.heap.size w w':=by
 have HO:=ah ho;have HW:=ah hw;obtain ⟨res,hres⟩: ∃r,Gi l=r:=⟨_,rfl⟩;have HR:=ah hres;have hmk:=X3 l.length hl;rw [hres];clear ho hw hres;go_enter Tryz.func47,Tryz.ntmps47;go_wp2_with fail;generalize hW:World.alloc (World.alloc w _) _=w2;obtain ⟨gb,hgb⟩: ∃n,w.heap.size=n:=⟨_,rfl⟩;have HB:aj (Below gb w w2):=ah (by rw [<- hW,<- hgb]; exact (au _ _).alloc (by simp) _);have PK:aj (((List.replicate l.length false).map Value.bool).toArray=Array.replicate l.length (Value.bool false)):=ah (by simp);have HG:aj (jW w2 gb (List.replicate l.length false)):=ah (by unfold jW; rw [PK.o,<- hW,<- hgb,heap_alloc_old _ _ (by simp)]; exact heap_alloc_new _ _);have HS:aj (jW w2 (gb + 1) (List.replicate l.length false)):=ah (by have:=heap_alloc_new (w.alloc (.cells (Array.replicate l.length (Value.bool false)) 4)) (.cells (Array.replicate l.length (Value.bool false)) 4);unfold jW; rw [PK.o,<- hW,<- hgb]; simpa using this);have HF:aj (bL gK 6 w2 gb l ao 0):=ah (by have:=HW.o; rw [hgb] at this; exact this.below HB.o);have I6:=ah hgb;rw [hgb];clear hW hmk HW hgb;go_loopw [5,6,15] (fun _ _ v15 wr=> ∃(k:Nat) (G S:List Bool),v15= .int .i64 k∧k<=l.length∧AdI l wr gb (gb + 1) G S∧bL gK 6 wr gb l ao 0∧Below gb w wr∧(∀j,j < k->oK l j)) (fun _ _ i _=>l.length - (intOf i).toNat)
 case atStart=>exact ⟨0,_,_,rfl,Nat.zero_le _,⟨HG.o,HS.o,by simp,by simp,fun k h=>by simp [List.getElem?_replicate] at h,fun k h=>by simp [List.getElem?_replicate] at h⟩,HF.o,HB.o,fun j h=>by omega⟩
 case round=>
  obtain ⟨k,G,S,rfl,hk,hA,hf,hb,hj⟩:=hrel;have HA:=ah hA;have nU:=ah hf;have HB1:=ah hb;have HJ:=ah hj;clear hA hf hb hj HG HS HF HB;by_cases hkn:k < l.length
  ·obtain ⟨x0,hx0⟩: ∃x,l[k]? =some x:=⟨l[k],List.getElem?_eq_getElem hkn⟩;obtain ⟨b,off,hao,-,-⟩:=nU.o.at k x0 hx0;subst hao;clear hx0 x0;go_upto_region 7 with fail;obtain ⟨wI,J4⟩: ∃W:World,W=wr:=⟨_,rfl⟩;subst J4;go_loopw [6] (fun v6 wq=> ∃(m:Nat) (S':List Bool),v6= .int .i64 ((jF l k m:Nat):Int)∧(∀t,t < m->jT l (jF l k t)=true)∧(∀t,t < m->G[jF l k t]? =some false)∧jW wq gb G∧jW wq (gb + 1) S'∧S'.length=l.length∧(∀q:Nat,S'[q]? =some true->G[q]? =some true∨ ∃t,t < m∧jF l k t=q)∧bL gK 6 wq gb l (some ⟨b,off,none⟩) 0∧Below gb w wq) (fun _ wq=>Eu wq (gb + 1))
   case atStart=>exact ⟨0,S,rfl,fun t h=>by omega,fun t h=>by omega,HA.o.g,HA.o.s,HA.o.sl,fun q h=> .inl (HA.o.sub q h),nU.o,HB1.o⟩
   case round=>
    obtain ⟨m,S',rfl,hs1,hs2,hg,hs,hsl,hsub,hf,hb⟩:=hrel;have hcl:=M7 HO.o hkn hs1 m (Nat.le_refl _);obtain ⟨c,hc⟩: ∃c,jF l k m=c:=⟨_,rfl⟩;have HC:=ah hc;rw [hc] at hcl;rw [hc];have HP:=ah (And.intro hs1 (And.intro hs2 hsub));have su:=ah hg;have PN:=ah hs;have HSL:=ah hsl;have eD:=ah hf;have HB2:=ah hb;clear hc hs1 hs2 hsub hg hs hsl hf hb;obtain ⟨x,hx⟩: ∃x,l[c]? =some x:=⟨l[c],List.getElem?_eq_getElem hcl⟩;obtain ⟨hbg,z0,z1⟩:=M8 eD.o hx;have RL:jT l c=jU x.op:=(by unfold jT; rw [hx]);obtain ⟨q,hq⟩:=R7 HA.o.gl hcl;have y0:=su.o.cell hq;have c0:(0:Int)<=(c:Int):=(by omega);have c1:(c:Int) < (l.length:Int):=(by omega);have vX:=ah RL;have HQ:=ah hq;clear hx z1 RL hq;have hcase:(jU x.op=false)∨(jU x.op=true∧q=true)∨(jU x.op=true∧q=false):=(by cases jU x.op <;> cases q <;> simp);rcases hcase with hs0 | ⟨hs0,rfl⟩ | ⟨hs0,rfl⟩
    ·have KA:aj (oK l (jF l k m)):=ah (by rw [HC.o]; exact oK.event hcl (by rw [vX.o,hs0]));have yw:aj (jT l c=false∨G[c]? =some true):=ah (.inl (by rw [vX.o,hs0]));clear y0;go_wp2_with fail;refine (jl x.op wr).mono ?_;rintro e w3 ⟨rfl,rfl⟩;rw [hs0];go_upto_region 13 with fail;obtain ⟨wJ,hwJ⟩: ∃W:World,W=wr:=⟨_,rfl⟩;subst hwJ;clear z0
     try clear y0
     go_loopw [6] (fun v6 wz=> ∃(j:Nat) (G':List Bool),v6= .int .i64 ((jF l k j:Nat):Int)∧j<=m∧jW wz gb G'∧jW wz (gb + 1) S'∧G'.length=l.length∧(∀q:Nat,G'[q]? =some true->G[q]? =some true∨ ∃t,t < j∧jF l k t=q)∧(∀q:Nat,G[q]? =some true->G'[q]? =some true)∧(∀t,t < j->G'[jF l k t]? =some true)∧bL gK 6 wz gb l (some ⟨b,off,none⟩) 0∧Below gb w wz) (fun _ wz=>Eu wz gb)
     case atStart=>exact ⟨0,G,rfl,Nat.zero_le _,su.o,PN.o,HA.o.gl,fun q h=> .inl h,fun q h=>h,fun t h=>by omega,eD.o,HB2.o⟩
     case round=>
      obtain ⟨j,G',rfl,hjm,hg,hs,hgl,h1,h2,h3,hf,hb⟩:=hrel;have hcl':=M7 HO.o hkn HP.o.1 j hjm;obtain ⟨c',hc'⟩: ∃c,jF l k j=c:=⟨_,rfl⟩;have zk:=ah hc';rw [hc'] at hcl';rw [hc'];have xC:=ah (And.intro h1 (And.intro h2 h3));have wH:=ah hg;have MK:=ah hs;have sW:=ah hgl;have dh:=ah hf;have HB3:=ah hb;clear hc' h1 h2 h3 hg hs hgl hf hb;obtain ⟨x',hx'⟩: ∃x,l[c']? =some x:=⟨l[c'],List.getElem?_eq_getElem hcl'⟩;obtain ⟨-,QN,-⟩:=M8 dh.o hx';have IZ:jT l c'=jU x'.op:=(by unfold jT; rw [hx']);obtain ⟨q',hq'⟩:=R7 sW.o hcl';have y0':=wH.o.cell hq';have U7:wr.frozen? ⟨gb,c',none⟩=false:=aU wH.o;have d0:(0:Int)<=(c':Int):=(by omega);have d1:(c':Int) < (l.length:Int):=(by omega);have Gf:=ah IZ;have ME:=ah hq';clear hx' IZ hq';have Me:aj (∀t,t<=m->oK l (jF l k t)):=ah (KA.o.back HP.o.1);have Ml:aj (j=m->AdI l wr gb (gb + 1) G' S'∧ ∀i,i < k + 1->oK l i):=ah (fun e=>⟨⟨wH.o,MK.o,sW.o,HSL.o,fun q h=>by
       rcases xC.o.1 q h with h | ⟨t,ht,rfl⟩
       ·exact HA.o.lands q h
       ·exact Me.o t (by omega),fun q h=>by
       rcases HP.o.2.2 q h with h | ⟨t,ht,rfl⟩
       ·exact xC.o.2.1 q h
       ·exact xC.o.2.2 t (by omega)⟩,fun i hi=>by
       rcases Nat.lt_succ_iff_lt_or_eq.1 hi with h | rfl
       ·exact HJ.o i h
       ·exact Me.o 0 (Nat.zero_le _)⟩)
      have NP:(jU x'.op=false)∨(jU x'.op=true∧q'=true)∨(jU x'.op=true∧q'=false):=(by cases jU x'.op <;> cases q' <;> simp);rcases NP with qV | ⟨qV,rfl⟩ | ⟨qV,rfl⟩
      ·have HE:=ah (Ml.o (by
        rcases Nat.lt_or_eq_of_le hjm with h | h
        ·exfalso;have:=HP.o.1 j h;rw [zk.o,Gf.o,qV] at this;cases this
        ·exact h))
       clear y0' U7;go_wp2_with fail;refine (jl x'.op wr).mono ?_;rintro e w3 ⟨rfl,rfl⟩;rw [qV];go_wp2_with fail;go_roundw
       case rel=>exact ⟨k + 1,G',S',by go_num,by omega,HE.o.1,dh.o,HB3.o,HE.o.2⟩
       case measure=>simp [intOf]; omega
      ·have HE:=ah (Ml.o (by
        rcases Nat.lt_or_eq_of_le hjm with h | h
        ·exfalso;rcases xC.o.1 c' ME.o with h4 | ⟨t,ht,h4⟩
         ·have:=HP.o.2.1 j h;rw [zk.o,h4] at this; cases this
         ·obtain ⟨f,hf⟩:=Me.o 0 (Nat.zero_le _);have:=JL (l:=l) (s:=k) (j:=j) (fun t ht=>HP.o.1 t (by omega)) ht (by rw [h4,zk.o]) f 0 (by omega);rw [hf] at this; cases this
        ·exact h))
       go_wp2_with fail;refine (jl x'.op wr).mono ?_;rintro e w3 ⟨rfl,rfl⟩;rw [qV];go_wp2_with fail;go_roundw
       case rel=>exact ⟨k + 1,G',S',by go_num,by omega,HE.o.1,dh.o,HB3.o,HE.o.2⟩
       case measure=>simp [intOf]; omega
      ·have hjl:j < m:=by
        rcases Nat.lt_or_eq_of_le hjm with h | h
        ·exact h
        ·exfalso;subst h;have e:c'=c:=(by rw [<- zk.o,HC.o]);subst e;rcases yw.o with h | h
         ·rw [Gf.o,qV] at h; cases h
         ·have:=xC.o.2.1 _ h;rw [ME.o] at this; cases this
       have Ih:aj (jT l c'=true):=ah (by rw [Gf.o,qV]);go_wp2_with fail;refine (jl x'.op wr).mono ?_;rintro e w3 ⟨rfl,rfl⟩;rw [qV];go_upto_region 14 with fail;generalize hW:World.setCell wr _ _=w4;have Kv:aj (Below gb wr w4):=ah (by rw [<- hW]; exact bK (bQ _ _ _) (Nat.le_refl _) (Nat.le_of_lt (Array.getElem?_eq_some_iff.1 wH.o).1));have Ad:aj (jW w4 gb (G'.set c' true)):=ah (by rw [<- hW]; exact wH.o.set c' true);have ku:aj (jW w4 (gb + 1) S'):=ah (by rw [<- hW]; exact MK.o.far (fun e=>Nat.succ_ne_self _ e.symm) _ _);have eO:=ah (dh.o.below Kv.o);have dG:=ah (HB3.o.trans Kv.o);clear hW y0' U7 QN;go_wp2_with fail;refine (yc HO.o c' Ih.o w4 b off cap hl (eO.o.mono (Nat.le_of_lt (Array.getElem?_eq_some_iff.1 Ad.o).1))).mono ?_;rintro e w5 ⟨rfl,rfl⟩;go_wp2_with fail;go_roundw
       case rel=>
        refine ⟨j + 1,G'.set c' true,by rw [<- zk.o]; rfl,by omega,Ad.o,ku.o,by rw [List.length_set]; exact sW.o,fun q hq=> ?_,fun q hq=> ?_,fun t ht=> ?_,eO.o,dG.o⟩
        ·rcases (CV (by rw [sW.o]; exact hcl')).1 hq with h | h
         ·exact .inr ⟨j,Nat.lt_succ_self _,by rw [zk.o,h]⟩
         ·rcases xC.o.1 q h with h | ⟨t,h1,h2⟩
          ·exact .inl h
          ·exact .inr ⟨t,by omega,h2⟩
        ·exact (CV (by rw [sW.o]; exact hcl')).2 (.inr (xC.o.2.1 q hq))
        ·rcases Nat.lt_succ_iff_lt_or_eq.1 ht with h | rfl
         ·exact (CV (by rw [sW.o]; exact hcl')).2 (.inr (xC.o.2.2 t h))
         ·rw [zk.o]; exact (CV (by rw [sW.o]; exact hcl')).2 (.inl rfl)
       case measure=>show Eu w4 gb < Eu wr gb;rw [Ce Ad.o,Ce wH.o];have:=Fg G' c' ME.o;omega
    ·have KA:aj (oK l (jF l k m)):=ah (by rw [HC.o]; exact HA.o.lands c HQ.o);have yw:aj (jT l c=false∨G[c]? =some true):=ah (.inr HQ.o);go_wp2_with fail;refine (jl x.op wr).mono ?_;rintro e w3 ⟨rfl,rfl⟩;rw [hs0];go_upto_region 13 with fail;obtain ⟨wJ,hwJ⟩: ∃W:World,W=wr:=⟨_,rfl⟩;subst hwJ;clear z0
     try clear y0
     go_loopw [6] (fun v6 wz=> ∃(j:Nat) (G':List Bool),v6= .int .i64 ((jF l k j:Nat):Int)∧j<=m∧jW wz gb G'∧jW wz (gb + 1) S'∧G'.length=l.length∧(∀q:Nat,G'[q]? =some true->G[q]? =some true∨ ∃t,t < j∧jF l k t=q)∧(∀q:Nat,G[q]? =some true->G'[q]? =some true)∧(∀t,t < j->G'[jF l k t]? =some true)∧bL gK 6 wz gb l (some ⟨b,off,none⟩) 0∧Below gb w wz) (fun _ wz=>Eu wz gb)
     case atStart=>exact ⟨0,G,rfl,Nat.zero_le _,su.o,PN.o,HA.o.gl,fun q h=> .inl h,fun q h=>h,fun t h=>by omega,eD.o,HB2.o⟩
     case round=>
      obtain ⟨j,G',rfl,hjm,hg,hs,hgl,h1,h2,h3,hf,hb⟩:=hrel;have hcl':=M7 HO.o hkn HP.o.1 j hjm;obtain ⟨c',hc'⟩: ∃c,jF l k j=c:=⟨_,rfl⟩;have zk:=ah hc';rw [hc'] at hcl';rw [hc'];have xC:=ah (And.intro h1 (And.intro h2 h3));have wH:=ah hg;have MK:=ah hs;have sW:=ah hgl;have dh:=ah hf;have HB3:=ah hb;clear hc' h1 h2 h3 hg hs hgl hf hb;obtain ⟨x',hx'⟩: ∃x,l[c']? =some x:=⟨l[c'],List.getElem?_eq_getElem hcl'⟩;obtain ⟨-,QN,-⟩:=M8 dh.o hx';have IZ:jT l c'=jU x'.op:=(by unfold jT; rw [hx']);obtain ⟨q',hq'⟩:=R7 sW.o hcl';have y0':=wH.o.cell hq';have U7:wr.frozen? ⟨gb,c',none⟩=false:=aU wH.o;have d0:(0:Int)<=(c':Int):=(by omega);have d1:(c':Int) < (l.length:Int):=(by omega);have Gf:=ah IZ;have ME:=ah hq';clear hx' IZ hq';have Me:aj (∀t,t<=m->oK l (jF l k t)):=ah (KA.o.back HP.o.1);have Ml:aj (j=m->AdI l wr gb (gb + 1) G' S'∧ ∀i,i < k + 1->oK l i):=ah (fun e=>⟨⟨wH.o,MK.o,sW.o,HSL.o,fun q h=>by
       rcases xC.o.1 q h with h | ⟨t,ht,rfl⟩
       ·exact HA.o.lands q h
       ·exact Me.o t (by omega),fun q h=>by
       rcases HP.o.2.2 q h with h | ⟨t,ht,rfl⟩
       ·exact xC.o.2.1 q h
       ·exact xC.o.2.2 t (by omega)⟩,fun i hi=>by
       rcases Nat.lt_succ_iff_lt_or_eq.1 hi with h | rfl
       ·exact HJ.o i h
       ·exact Me.o 0 (Nat.zero_le _)⟩)
      have NP:(jU x'.op=false)∨(jU x'.op=true∧q'=true)∨(jU x'.op=true∧q'=false):=(by cases jU x'.op <;> cases q' <;> simp);rcases NP with qV | ⟨qV,rfl⟩ | ⟨qV,rfl⟩
      ·have HE:=ah (Ml.o (by
        rcases Nat.lt_or_eq_of_le hjm with h | h
        ·exfalso;have:=HP.o.1 j h;rw [zk.o,Gf.o,qV] at this;cases this
        ·exact h))
       clear y0' U7;go_wp2_with fail;refine (jl x'.op wr).mono ?_;rintro e w3 ⟨rfl,rfl⟩;rw [qV];go_wp2_with fail;go_roundw
       case rel=>exact ⟨k + 1,G',S',by go_num,by omega,HE.o.1,dh.o,HB3.o,HE.o.2⟩
       case measure=>simp [intOf]; omega
      ·have HE:=ah (Ml.o (by
        rcases Nat.lt_or_eq_of_le hjm with h | h
        ·exfalso;rcases xC.o.1 c' ME.o with h4 | ⟨t,ht,h4⟩
         ·have:=HP.o.2.1 j h;rw [zk.o,h4] at this; cases this
         ·obtain ⟨f,hf⟩:=Me.o 0 (Nat.zero_le _);have:=JL (l:=l) (s:=k) (j:=j) (fun t ht=>HP.o.1 t (by omega)) ht (by rw [h4,zk.o]) f 0 (by omega);rw [hf] at this; cases this
        ·exact h))
       go_wp2_with fail;refine (jl x'.op wr).mono ?_;rintro e w3 ⟨rfl,rfl⟩;rw [qV];go_wp2_with fail;go_roundw
       case rel=>exact ⟨k + 1,G',S',by go_num,by omega,HE.o.1,dh.o,HB3.o,HE.o.2⟩
       case measure=>simp [intOf]; omega
      ·have hjl:j < m:=by
        rcases Nat.lt_or_eq_of_le hjm with h | h
        ·exact h
        ·exfalso;subst h;have e:c'=c:=(by rw [<- zk.o,HC.o]);subst e;rcases yw.o with h | h
         ·rw [Gf.o,qV] at h; cases h
         ·have:=xC.o.2.1 _ h;rw [ME.o] at this; cases this
       have Ih:aj (jT l c'=true):=ah (by rw [Gf.o,qV]);go_wp2_with fail;refine (jl x'.op wr).mono ?_;rintro e w3 ⟨rfl,rfl⟩;rw [qV];go_upto_region 14 with fail;generalize hW:World.setCell wr _ _=w4;have Kv:aj (Below gb wr w4):=ah (by rw [<- hW]; exact bK (bQ _ _ _) (Nat.le_refl _) (Nat.le_of_lt (Array.getElem?_eq_some_iff.1 wH.o).1));have Ad:aj (jW w4 gb (G'.set c' true)):=ah (by rw [<- hW]; exact wH.o.set c' true);have ku:aj (jW w4 (gb + 1) S'):=ah (by rw [<- hW]; exact MK.o.far (fun e=>Nat.succ_ne_self _ e.symm) _ _);have eO:=ah (dh.o.below Kv.o);have dG:=ah (HB3.o.trans Kv.o);clear hW y0' U7 QN;go_wp2_with fail;refine (yc HO.o c' Ih.o w4 b off cap hl (eO.o.mono (Nat.le_of_lt (Array.getElem?_eq_some_iff.1 Ad.o).1))).mono ?_;rintro e w5 ⟨rfl,rfl⟩;go_wp2_with fail;go_roundw
       case rel=>
        refine ⟨j + 1,G'.set c' true,by rw [<- zk.o]; rfl,by omega,Ad.o,ku.o,by rw [List.length_set]; exact sW.o,fun q hq=> ?_,fun q hq=> ?_,fun t ht=> ?_,eO.o,dG.o⟩
        ·rcases (CV (by rw [sW.o]; exact hcl')).1 hq with h | h
         ·exact .inr ⟨j,Nat.lt_succ_self _,by rw [zk.o,h]⟩
         ·rcases xC.o.1 q h with h | ⟨t,h1,h2⟩
          ·exact .inl h
          ·exact .inr ⟨t,by omega,h2⟩
        ·exact (CV (by rw [sW.o]; exact hcl')).2 (.inr (xC.o.2.1 q hq))
        ·rcases Nat.lt_succ_iff_lt_or_eq.1 ht with h | rfl
         ·exact (CV (by rw [sW.o]; exact hcl')).2 (.inr (xC.o.2.2 t h))
         ·rw [zk.o]; exact (CV (by rw [sW.o]; exact hcl')).2 (.inl rfl)
       case measure=>show Eu w4 gb < Eu wr gb;rw [Ce Ad.o,Ce wH.o];have:=Fg G' c' ME.o;omega
    ·obtain ⟨p,hp⟩:=R7 HSL.o hcl;have y1:=PN.o.cell hp;have f1:wr.frozen? ⟨gb + 1,c,none⟩=false:=aU PN.o;have HPP:=ah hp;clear hp;cases p
     ·go_wp2_with fail;refine (jl x.op wr).mono ?_;rintro e w3 ⟨rfl,rfl⟩;rw [hs0];go_upto_region 11 with fail;generalize hW:World.setCell wr _ _=w4;have Kv:aj (Below gb wr w4):=ah (by rw [<- hW]; exact bK (bQ _ _ _) (Nat.le_succ _) (Nat.le_of_lt (Array.getElem?_eq_some_iff.1 su.o).1));have Ad:aj (jW w4 gb G):=ah (by rw [<- hW]; exact su.o.far (Nat.succ_ne_self _) _ _);have ku:aj (jW w4 (gb + 1) (S'.set c true)):=ah (by rw [<- hW]; exact PN.o.set c true);have eO:=ah (eD.o.below Kv.o);have dG:=ah (HB2.o.trans Kv.o);have Ih:aj (jT l c=true):=ah (by rw [vX.o,hs0]);clear hW y0 y1 f1 z0;go_wp2_with fail;refine (yc HO.o c Ih.o w4 b off cap hl (eO.o.mono (Nat.le_of_lt (Array.getElem?_eq_some_iff.1 Ad.o).1))).mono ?_;rintro e w5 ⟨rfl,rfl⟩;go_wp2_with fail;go_roundw
      case rel=>
       refine ⟨m + 1,S'.set c true,by rw [<- HC.o]; rfl,fun t ht=> ?_,fun t ht=> ?_,Ad.o,ku.o,by rw [List.length_set]; exact HSL.o,fun q hq=> ?_,eO.o,dG.o⟩
       ·rcases Nat.lt_succ_iff_lt_or_eq.1 ht with h | rfl
        ·exact HP.o.1 t h
        ·rw [HC.o]; exact Ih.o
       ·rcases Nat.lt_succ_iff_lt_or_eq.1 ht with h | rfl
        ·exact HP.o.2.1 t h
        ·rw [HC.o]; exact HQ.o
       ·rcases (CV (by rw [HSL.o]; exact hcl)).1 hq with h | h
        ·exact .inr ⟨m,Nat.lt_succ_self _,by rw [HC.o,h]⟩
        ·rcases HP.o.2.2 q h with h | ⟨t,h1,h2⟩
         ·exact .inl h
         ·exact .inr ⟨t,by omega,h2⟩
      case measure=>show Eu w4 (gb + 1) < Eu wr (gb + 1);rw [Ce ku.o,Ce PN.o];have:=Fg S' c HPP.o;omega
     ·have HT:aj (res=false):=ah (by
       cases hres:res
       ·rfl
       ·exfalso;obtain ⟨f,hf⟩:=(Q6 HO.o).1 (by rw [HR.o,hres]) k hkn;rcases HP.o.2.2 c HPP.o with h | ⟨t,h1,h2⟩
        ·rw [HQ.o] at h; cases h
        ·have:=JL (l:=l) (s:=k) (j:=m) HP.o.1 h1 (by rw [h2,HC.o]) f 0 (by omega);rw [show jF l k 0=k from rfl,hf] at this;cases this)
      go_wp2_with fail;refine (jl x.op wr).mono ?_;rintro e w3 ⟨rfl,rfl⟩;rw [hs0];go_wp2_with fail;go_ret;exact ⟨by rw [HT.o]; rfl,by rw [I6.o]; exact HB2.o⟩
  ·obtain rfl:k=l.length:=by omega
   have HT:aj (res=true):=ah (by rw [<- HR.o]; exact (Q6 HO.o).2 HJ.o);go_wp2_with fail;go_ret;exact ⟨by rw [HT.o]; rfl,by rw [I6.o]; exact HB1.o⟩
theorem Qq {W:Wo} {th n regs:Int} : ∀ {l:List aQ} {k:Int},qW W th n regs k l=true-> ∀(j:Nat) (i:aQ),l[j]? =some i->uZ W th n regs (k + j) i=true
 | [],_,_,j,i,h=>by simp at h
 | x ::r,k,h,j,i,hj=>by
   rw [qW,Bool.and_eq_true] at h;cases j with
   | zero=>simp at hj; subst hj;rw [show k + ((0:Nat):Int)=k by omega]; exact h.1
   | succ j=>have:=Qq h.2 j i (by simpa using hj);rw [show k + ((j + 1:Nat):Int)=k + 1 + (j:Nat) by omega]; exact this
theorem Zl {W:Wo} {th regs:Int} {l:List aQ} (h:qW W th l.length regs 0 l=true):Ja l:=fun k i hk hs=>by
 have hi:=Qq h k i hk;have hlt:=(List.getElem?_eq_some_iff.1 hk).1;unfold uZ at hi;simp only [Bool.and_eq_true] at hi;obtain ⟨⟨-,he⟩,-,-,ho⟩:=hi;unfold jU at hs;simp only [Bool.and_eq_true,decide_eq_true_eq] at hs;have h28:(i.op == 28)=false:=by rw [beq_eq_false_iff_ne]; omega
 rw [h28] at he;have hne: ¬ ((0:Int) + (k:Nat)=(l.length:Int) - 1):=by intro e;rw [e] at he;simp at he
 have hn:yF l k=if i.op == 5 then i.a.toNat else k + 1:=by unfold yF; rw [hk]
 rw [hn];by_cases h5:i.op=5
 ·have hw:bT i.a l.length=true:=by unfold oG at ho;simpa [h5] using ho
  unfold bT at hw;simp only [Bool.and_eq_true,decide_eq_true_eq] at hw;exact ⟨fun _=>hw.1,by simp [h5]; omega⟩
 ·exact ⟨fun e=>absurd e h5,by simp [h5]; omega⟩
theorem Jl (W:Wo) (s:gW) (th:Int) (t:qJ) (dw:Option Addr) (bJ:Nat) (w:World) (hw:dR w w.heap.size W s) (hf:bL gK 6 w w.heap.size t.is dw 0) (hl:t.is.length<=3000000000000) (hI: ∀i ∈ t.is,∀r ∈ dx i,bV r):
 Calls Tryz.prog 25 #[jS W s,.int .i64 th,.agg #[.int .i64 t.regs,.slice dw t.is.length bJ]] w fun e w'=>e= .returned (.bool (Cy W th t))∧Below w.heap.size w w':=by
 obtain ⟨regs,l⟩:=t;have HW:=ah hw;have SQ:aj (bL gK 6 w w.heap.size l dw 0):=ah hf;have HI0:aj (∀i ∈ l,∀r ∈ dx i,bV r):=ah hI;have hls:=hw.lS;unfold maxLen at hls;have hl:l.length<=3000000000000:=hl;obtain ⟨res,hres⟩: ∃r,Cy W th ⟨regs,l⟩=r:=⟨_,rfl⟩;have HR:=ah hres;rw [hres];clear hw hf hI hres;dsimp only;unfold jS;go_enter Tryz.func25,Tryz.ntmps25;go_upto_region 1 with fail;generalize hW:World.alloc (World.alloc w _) _=W1;obtain ⟨nb,hnb⟩: ∃n,w.heap.size=n:=⟨_,rfl⟩;have HB:aj (Below w.heap.size w W1):=ah (by rw [<- hW]; exact (au _ _).alloc (by simp) _);have rT:aj (W1.heap[nb]? =some (.cells #[.slice s.aC W.cs.length s.cC,.slice s.aL W.ls.length s.cL,.slice s.aN W.ns.length s.cN,.slice s.aF W.fs.length s.cF,.slice s.aT W.ts.length s.cT,.slice s.aS W.ss.length s.cS] 28 (0,0))):=ah (by rw [<- hW,<- hnb,heap_alloc_old _ _ (by simp)]; exact heap_alloc_new _ _);have fu:aj (W1.heap[nb + 1]? =some (.cells #[.int .i64 regs,.slice dw l.length bJ] 62 (0,0))):=ah (by have:=heap_alloc_new (w.alloc (.cells #[.slice s.aC W.cs.length s.cC,.slice s.aL W.ls.length s.cL,.slice s.aN W.ns.length s.cN,.slice s.aF W.fs.length s.cF,.slice s.aT W.ts.length s.cT,.slice s.aS W.ss.length s.cS] 28)) (.cells #[.int .i64 regs,.slice dw l.length bJ] 62);rw [<- hW,<- hnb]; simpa using this);have bF:aj (w.heap.size=nb):=ah hnb;have iG:aj (W1.heap.size=nb + 2):=ah (by rw [<- hW,<- hnb]; simp);have vY:aj (dR W1 nb W s):=ah (by have:=HW.o.below HB.o; rw [hnb] at this; exact this);have I5:aj (bL gK 6 W1 nb l dw 0):=ah (by have:=SQ.o.below HB.o; rw [hnb] at this; exact this);have HB0:aj (Below nb w W1):=ah (by have:=HB.o; rw [hnb] at this; exact this);rw [hnb];clear hW hnb HW SQ HB;have t0:=ak (j:=0) fu.o rfl;have t1:=ak (j:=1) fu.o rfl;simp only [List.getElem_toArray,List.getElem_cons_zero,List.getElem_cons_succ] at t0 t1;by_cases hA:regs < 0∨32 < regs∨l.length=0
 ·have HT:aj (res=false):=ah (by rw [<- HR.o]; unfold Cy; rw [if_pos];rcases hA with h | h | h <;> simp [h]);rcases hA with h | h | h
  ·go_wp2_with fail;go_ret;exact ⟨by rw [HT.o]; rfl,by rw [bF.o]; exact HB0.o⟩
  ·have h': ¬ regs < 0:=by omega
   go_wp2_with fail;go_ret;exact ⟨by rw [HT.o]; rfl,by rw [bF.o]; exact HB0.o⟩
  ·by_cases h1:regs < 0
   ·go_wp2_with fail;go_ret;exact ⟨by rw [HT.o]; rfl,by rw [bF.o]; exact HB0.o⟩
   ·by_cases h2:32 < regs
    ·go_wp2_with fail;go_ret;exact ⟨by rw [HT.o]; rfl,by rw [bF.o]; exact HB0.o⟩
    ·go_wp2_with fail;go_ret;exact ⟨by rw [HT.o]; rfl,by rw [bF.o]; exact HB0.o⟩
 ·have hA1: ¬ regs < 0:=by omega
  have hA2: ¬ 32 < regs:=by omega
  have hA3:l.length≠0:=by omega
  have hA4:((l.length:Int) == 0)=false:=by rw [beq_eq_false_iff_ne]; omega
  have HR2:aj (res=(qW W th l.length regs 0 l && Gi l)):=ah (by rw [<- HR.o]; unfold Cy; rw [if_neg];simp [hA1,hA2,hA3]);clear hA HR;go_wp2_with fail;go_loopw [7,8,10,28,78,79,80] (fun _ _ _ v28 _ _ _ wr=> ∃(k:Nat) (R:List aQ),v28= .int .i64 k∧k + R.length=l.length∧qW W th l.length regs 0 l=qW W th l.length regs k R∧bL gK 6 wr nb R dw k∧(∀i ∈ R,∀r ∈ dx i,bV r)∧Below (nb + 2) W1 wr) (fun _ _ _ v _ _ _ _=>l.length - (intOf v).toNat)
  case atStart=>exact ⟨0,l,rfl,by simp,rfl,I5.o,HI0.o,Below.refl _ _⟩
  case round=>
   obtain ⟨k,R,rfl,hlen,heq,hrow,hi,hbel⟩:=hrel;have HE:=ah heq;have ig:=ah hbel;have sD:=ah hi;have zB:=ah ((ig.o.block nb (by omega)).trans rT.o);have CK:=ah ((ig.o.block (nb + 1) (by omega)).trans fu.o);have mP:aj (Below nb w wr):=ah (HB0.o.trans (ig.o.mono (by omega)));have Du:aj (dR wr nb W s):=ah (vY.o.below (ig.o.mono (by omega)));have dY:aj (nb + 2<=wr.heap.size):=ah (by have h1:=ig.o.size; have h2:=iG.o; omega);clear heq hbel hi t0 t1;have t0:=ak (j:=0) CK.o rfl;have t1:=ak (j:=1) CK.o rfl;have g0:=ak (j:=0) zB.o rfl;have g1:=ak (j:=1) zB.o rfl;have g2:=ak (j:=2) zB.o rfl;have g3:=ak (j:=3) zB.o rfl;have g4:=ak (j:=4) zB.o rfl;have g5:=ak (j:=5) zB.o rfl;simp only [List.getElem_toArray,List.getElem_cons_zero,List.getElem_cons_succ] at t0 t1 g0 g1 g2 g3 g4 g5;cases R with
   | nil=>obtain rfl:k=l.length:=(by simpa using hlen);have HT:aj (qW W th l.length regs 0 l=true):=ah HE.o;have HT2:aj (res=Gi l):=ah (by rw [HR2.o,HT.o]; rfl);go_wp2_with fail;refine (N9 (Zl HT.o) wr dw bJ hl ((I5.o.below (ig.o.mono (by omega))).mono (by have:=dY.o; omega))).mono ?_;rintro e w3 ⟨rfl,hb3⟩;go_wp2_with fail;go_ret;exact ⟨by rw [HT2.o]; rfl,by rw [bF.o]; exact mP.o.trans (hb3.mono (by have:=dY.o; omega))⟩
   | cons x R=>
     obtain ⟨⟨b1,off,rfl,hb1,hcs⟩,hrest⟩:=hrow;simp only [List.length_cons] at hlen;have hkl:k < l.length:=(by omega);have x0:=hcs 0 _ rfl;have x1:=hcs 1 _ rfl;have x2:=hcs 2 _ rfl;have x3:=hcs 3 _ rfl;have x4:=hcs 4 _ rfl;have x5:=hcs 5 _ rfl;simp only [Nat.add_zero] at x0;have gU:=ah hrest;have BP:=ah (And.intro (sD.o x List.mem_cons_self) (fun i hi=>sD.o i (List.mem_cons_of_mem _ hi)));have kG:aj (qW W th l.length regs 0 l=(uZ W th l.length regs k x && qW W th l.length regs ((k:Int) + 1) R)):=ah HE.o;clear hcs hrest HE sD;go_upto_region 6 with fail;generalize hW2:World.alloc wr _=w2;obtain ⟨ib,hib⟩: ∃n,wr.heap.size=n:=⟨_,rfl⟩;have HB2:aj (Below wr.heap.size wr w2):=ah (by rw [<- hW2]; exact au _ _);have tX:aj (w2.heap[ib]? =some (.cells (gK x).toArray 75 (0,0))):=ah (by rw [<- hW2,<- hib]; exact heap_alloc_new _ _);have HIB:=ah hib;rw [hib];clear hW2 hib x0 x1 x2 x3 x4 x5 t0 t1 g0 g1 g2 g3 g4 g5;have oJ:=ah ((HB2.o.block nb (Array.getElem?_eq_some_iff.1 zB.o).1).trans zB.o);have zD:=ah ((HB2.o.block (nb + 1) (Array.getElem?_eq_some_iff.1 CK.o).1).trans CK.o);have sV:aj (Below nb w w2):=ah (mP.o.trans (HB2.o.mono (by have:=dY.o; omega)));have PW:aj (dR w2 nb W s):=ah (Du.o.below (HB2.o.mono (by have:=dY.o; omega)));have Ga:aj (Below (nb + 2) W1 w2):=ah (ig.o.trans (HB2.o.mono dY.o));have QY:aj (bL gK 6 w2 nb R (some ⟨b1,off,none⟩) (k + 1)):=ah (gU.o.below (HB2.o.mono (by have:=dY.o; omega)));have t0:=ak (j:=0) zD.o rfl;have t1:=ak (j:=1) zD.o rfl;have g0:=ak (j:=0) oJ.o rfl;have g1:=ak (j:=1) oJ.o rfl;have g2:=ak (j:=2) oJ.o rfl;have g3:=ak (j:=3) oJ.o rfl;have g4:=ak (j:=4) oJ.o rfl;have g5:=ak (j:=5) oJ.o rfl;have x0:w2.cell? ⟨ib,0,none⟩=some (.int .i64 x.op):=ak tX.o rfl;have x1:w2.cell? ⟨ib,1,none⟩=some (.int .i64 x.a):=ak tX.o rfl;have x2:w2.cell? ⟨ib,2,none⟩=some (.int .i64 x.b):=ak tX.o rfl;have x3:w2.cell? ⟨ib,3,none⟩=some (.int .i64 x.c):=ak tX.o rfl;have x4:w2.cell? ⟨ib,4,none⟩=some (.int .i64 x.n):=ak tX.o rfl;have x5:w2.cell? ⟨ib,5,none⟩=some (.int .i64 x.st):=ak tX.o rfl;simp only [List.getElem_toArray,List.getElem_cons_zero,List.getElem_cons_succ] at t0 t1 g0 g1 g2 g3 g4 g5;have hwn:IntKind.i64.wrap ((l.length:Int) - 1)=(l.length:Int) - 1:=IntWalk.i64_in _ (by omega);have pK:aj (uZ W th l.length regs k x=false->res=false):=ah (fun h=>by rw [HR2.o,kG.o,h]; rfl);by_cases h1:x.op < 1
     ·have HT:aj (res=false):=ah (pK.o (by unfold uZ; simp [show ¬ (1<=x.op) by omega]));go_wp2_with fail;go_ret;exact ⟨by rw [HT.o]; rfl,by rw [bF.o]; exact sV.o⟩
     ·by_cases h2:28 < x.op
      ·have HT:aj (res=false):=ah (pK.o (by unfold uZ; simp [show ¬ (x.op<=28) by omega]));go_wp2_with fail;go_ret;exact ⟨by rw [HT.o]; rfl,by rw [bF.o]; exact sV.o⟩
      ·obtain ⟨e28,yg⟩: ∃q,(x.op == 28)=q:=⟨_,rfl⟩;obtain ⟨ek,hek⟩: ∃q,((k:Int) == (l.length:Int) - 1)=q:=⟨_,rfl⟩;by_cases hq:e28=ek
       ·subst hq;have eX:aj (uZ W th l.length regs k x=(uF W th x && ((dx x).all (fun r=>bT r regs) && oG W l.length x))):=ah (by unfold uZ; rw [yg,hek]; simp [show 1<=x.op by omega,show x.op<=28 by omega]);have zl:=ah yg;cases e28
        ·cases hwi:bT x.st W.ss.length
         ·have Mw:aj (uZ W th l.length regs k x=false):=ah (by rw [eX.o]; unfold uF; rw [zl.o,hwi]; simp);have HT:aj (res=false):=ah (pK.o Mw.o);go_wp2_with fail;refine (iT hwi w2).mono ?_;rintro e w3 ⟨rfl,rfl⟩;go_wp2_with fail;go_ret;exact ⟨by rw [HT.o]; rfl,by rw [bF.o]; exact sV.o⟩
         ·obtain ⟨js,sx,hjs,hjl,hsx⟩:=ko hwi;obtain ⟨b5,Db,NK,hb5,jK⟩:=PW.o.ss.at js sx hsx;have z0:=jK 0 _ rfl;simp only [Nat.zero_add,Nat.add_zero] at z0;rw [NK] at g5;have j0:(0:Int)<=(js:Int):=(by omega);have j1:(js:Int) < (W.ss.length:Int):=(by omega);have KG:aj (uF W th x=(sx.th == th)):=ah (by unfold uF; rw [zl.o,hwi,hjs]; simp [hsx]);rw [hjs] at x5 hwi;clear jK hjs hsx NK;cases hth:(sx.th == th)
          ·have HT:aj (res=false):=ah (pK.o (by rw [eX.o,KG.o,hth]; rfl));go_wp2_with fail;refine (iT hwi w2).mono ?_;rintro e w3 ⟨rfl,rfl⟩;go_wp2_with fail;go_ret;exact ⟨by rw [HT.o]; rfl,by rw [bF.o]; exact sV.o⟩
          ·have vX:aj (uF W th x=true):=ah (by rw [KG.o,hth]);go_wp2_with fail;refine (iT hwi w2).mono ?_;rintro e w3 ⟨rfl,rfl⟩;clear hwi;go_upto_region 13 with fail;clear hth z0 j0 j1 hb5 hjl x5;have x5:w2.cell? ⟨ib,5,none⟩=some (.int .i64 x.st):=ak tX.o rfl;clear hek yg h1 h2 hwn
           try clear g5
           clear t0 t1 g0 g1 g2 g3 g4;have sZ:aj (uZ W th l.length regs k x=((dx x).all (fun r=>bT r regs) && oG W l.length x)):=ah (by rw [eX.o,vX.o]; rfl);go_wp2_with fail;refine (EA x w2 BP.o.1).mono ?_;rintro e w3 ⟨Ip,CW,rfl,hin,hb3,-⟩;have zn:=ah hin;have HB3:=ah hb3;have qD:aj (Below nb w w3):=ah (sV.o.trans (hb3.mono (by have h1:=dY.o; have h2:=HB2.o.size; omega)));have tq:=ah ((hb3.block nb (Array.getElem?_eq_some_iff.1 oJ.o).1).trans oJ.o);have zF:=ah ((hb3.block (nb + 1) (Array.getElem?_eq_some_iff.1 zD.o).1).trans zD.o);have nC:=ah ((hb3.block ib (Array.getElem?_eq_some_iff.1 tX.o).1).trans tX.o);have Ik:aj (dR w3 w3.heap.size W s):=ah ((PW.o.below (hb3.mono (by have h1:=dY.o; have h2:=HB2.o.size; omega))).mono (by have h1:=dY.o; have h2:=HB2.o.size; have h3:=hb3.size; omega));have JA:aj (bL gK 6 w3 nb R (some ⟨b1,off,none⟩) (k + 1)):=ah (QY.o.below (hb3.mono (by have h1:=dY.o; have h2:=HB2.o.size; omega)));have Bf:aj (Below (nb + 2) W1 w3):=ah (Ga.o.trans (hb3.mono (by have h1:=dY.o; have h2:=HB2.o.size; omega)));have I9:aj ((dx x).length<=3):=ah (by unfold dx; (repeat' split) <;> simp);clear hin hb3 x0 x1 x2 x3 x4 x5;have MG:aj ((dx x).all (fun r=>bT r regs)=(dx x).all (fun r=>bT r regs)):=ah rfl;obtain ⟨al,hal⟩: ∃q,(dx x).all (fun r=>bT r regs)=q:=⟨_,rfl⟩;have kX:=ah hal;rw [hal] at sZ;clear hal MG;generalize dx x=rs at *;go_wp2_with fail;obtain ⟨wI,J4⟩: ∃W:World,W=wr:=⟨_,rfl⟩;subst J4;go_loopw [10,80] (fun _ i wq=> ∃(j:Nat) (S:List Int),i= .int .i64 j∧j + S.length=rs.length∧al=S.all (fun r=>bT r regs)∧dS wq wq.heap.size S Ip j∧wq=w3) (fun _ i _=>rs.length - (intOf i).toNat)
           case atStart=>exact ⟨0,rs,rfl,by simp,kX.o.symm,zn.o,rfl⟩
           case round=>
            obtain ⟨j,S,rfl,nO,heq2,hin2,rfl⟩:=hrel;have HQ:=ah heq2;have h3:=I9.o;have t0:wr.cell? ⟨nb + 1,0,none⟩=some (.int .i64 regs):=ak zF.o rfl;have t1:wr.cell? ⟨nb + 1,1,none⟩=some (.slice (some ⟨b1,off,none⟩) l.length bJ):=ak zF.o rfl;clear heq2;cases S with
            | nil=>
              obtain rfl:j=rs.length:=(by simpa using nO);have HA1:aj (al=true):=ah HQ.o;have wK:aj (uZ W th l.length regs k x=oG W l.length x):=ah (by rw [sZ.o,HA1.o]; rfl);have g0:=ak (j:=0) tq.o rfl;have g1:=ak (j:=1) tq.o rfl;have g2:=ak (j:=2) tq.o rfl;have g3:=ak (j:=3) tq.o rfl;have g4:=ak (j:=4) tq.o rfl;have g5:=ak (j:=5) tq.o rfl;simp only [List.getElem_toArray,List.getElem_cons_zero,List.getElem_cons_succ] at g0 g1 g2 g3 g4 g5;have x0:wr.cell? ⟨ib,0,none⟩=some (.int .i64 x.op):=ak nC.o rfl;have x1:wr.cell? ⟨ib,1,none⟩=some (.int .i64 x.a):=ak nC.o rfl;have x2:wr.cell? ⟨ib,2,none⟩=some (.int .i64 x.b):=ak nC.o rfl;have x3:wr.cell? ⟨ib,3,none⟩=some (.int .i64 x.c):=ak nC.o rfl;have x4:wr.cell? ⟨ib,4,none⟩=some (.int .i64 x.n):=ak nC.o rfl;have x5:wr.cell? ⟨ib,5,none⟩=some (.int .i64 x.st):=ak nC.o rfl;go_wp2_with fail;refine (yI W s l.length x wr Ik.o).mono ?_;rintro e w4 ⟨rfl,hb4⟩;have dG:=ah hb4;have zh:aj (Below nb w w4):=ah (qD.o.trans (hb4.mono (by have h1:=dY.o; have h2:=HB2.o.size; have h4:=HB3.o.size; omega)));have ku:aj (nb + 2<=wr.heap.size):=ah (by have h1:=dY.o; have h2:=HB2.o.size; have h4:=HB3.o.size; omega);clear hb4 g0 g1 g2 g3 g4 g5 x0 x1 x2 x3 x4 x5 t0 t1;cases ho:oG W l.length x
              ·have HT:aj (res=false):=ah (pK.o (by rw [wK.o,ho]));go_wp2_with fail;go_ret;exact ⟨by rw [HT.o]; rfl,by rw [bF.o]; exact zh.o⟩
              ·have Mk:aj (qW W th l.length regs 0 l=qW W th l.length regs ((k:Int) + 1) R):=ah (by rw [kG.o,wK.o,ho]; rfl);go_wp2_with fail;go_roundw
               case rel=>exact ⟨k + 1,R,by go_num,by omega,Mk.o,JA.o.below (dG.o.mono (by have:=ku.o; omega)),BP.o.2,Bf.o.trans (dG.o.mono ku.o)⟩
               case measure=>simp [intOf]; omega
            | cons r S=>
              obtain ⟨⟨b4,Sd,Gy,hb4,y0⟩,mW⟩:=hin2;subst Gy;simp only [List.length_cons] at nO;have hjl:j < rs.length:=(by omega);have HR4:=ah mW;have mF:aj (al=(bT r regs && S.all (fun r=>bT r regs))):=ah (by rw [HQ.o,List.all_cons]);clear mW HQ;cases hwr:bT r regs
              ·have HT:aj (res=false):=ah (pK.o (by rw [sZ.o,mF.o,hwr]; rfl));go_wp2_with fail;refine (iT hwr wr).mono ?_;rintro e w5 ⟨rfl,rfl⟩;go_wp2_with fail;go_ret;exact ⟨by rw [HT.o]; rfl,by rw [bF.o]; exact qD.o⟩
              ·have Mx:aj (al=S.all (fun r=>bT r regs)):=ah (by rw [mF.o,hwr]; rfl);go_wp2_with fail;refine (iT hwr wr).mono ?_;rintro e w5 ⟨rfl,rfl⟩;go_wp2_with fail;go_roundw
               case rel=>exact ⟨j + 1,S,by go_num,by omega,Mx.o,HR4.o,trivial⟩
               case measure=>simp [intOf]; omega
        ·cases hst:(x.st == -1)
         ·have HT:aj (res=false):=ah (pK.o (by rw [eX.o]; unfold uF; rw [zl.o,hst]; rfl));go_wp2_with fail;go_ret;exact ⟨by rw [HT.o]; rfl,by rw [bF.o]; exact sV.o⟩
         ·have vX:aj (uF W th x=true):=ah (by unfold uF; rw [zl.o,hst]; rfl);go_upto_region 13 with fail;clear hst;clear hek yg h1 h2 hwn
          try clear g5
          clear t0 t1 g0 g1 g2 g3 g4;have sZ:aj (uZ W th l.length regs k x=((dx x).all (fun r=>bT r regs) && oG W l.length x)):=ah (by rw [eX.o,vX.o]; rfl);go_wp2_with fail;refine (EA x w2 BP.o.1).mono ?_;rintro e w3 ⟨Ip,CW,rfl,hin,hb3,-⟩;have zn:=ah hin;have HB3:=ah hb3;have qD:aj (Below nb w w3):=ah (sV.o.trans (hb3.mono (by have h1:=dY.o; have h2:=HB2.o.size; omega)));have tq:=ah ((hb3.block nb (Array.getElem?_eq_some_iff.1 oJ.o).1).trans oJ.o);have zF:=ah ((hb3.block (nb + 1) (Array.getElem?_eq_some_iff.1 zD.o).1).trans zD.o);have nC:=ah ((hb3.block ib (Array.getElem?_eq_some_iff.1 tX.o).1).trans tX.o);have Ik:aj (dR w3 w3.heap.size W s):=ah ((PW.o.below (hb3.mono (by have h1:=dY.o; have h2:=HB2.o.size; omega))).mono (by have h1:=dY.o; have h2:=HB2.o.size; have h3:=hb3.size; omega));have JA:aj (bL gK 6 w3 nb R (some ⟨b1,off,none⟩) (k + 1)):=ah (QY.o.below (hb3.mono (by have h1:=dY.o; have h2:=HB2.o.size; omega)));have Bf:aj (Below (nb + 2) W1 w3):=ah (Ga.o.trans (hb3.mono (by have h1:=dY.o; have h2:=HB2.o.size; omega)));have I9:aj ((dx x).length<=3):=ah (by unfold dx; (repeat' split) <;> simp);clear hin hb3 x0 x1 x2 x3 x4 x5;have MG:aj ((dx x).all (fun r=>bT r regs)=(dx x).all (fun r=>bT r regs)):=ah rfl;obtain ⟨al,hal⟩: ∃q,(dx x).all (fun r=>bT r regs)=q:=⟨_,rfl⟩;have kX:=ah hal;rw [hal] at sZ;clear hal MG;generalize dx x=rs at *;go_wp2_with fail;obtain ⟨wI,J4⟩: ∃W:World,W=wr:=⟨_,rfl⟩;subst J4;go_loopw [10,80] (fun _ i wq=> ∃(j:Nat) (S:List Int),i= .int .i64 j∧j + S.length=rs.length∧al=S.all (fun r=>bT r regs)∧dS wq wq.heap.size S Ip j∧wq=w3) (fun _ i _=>rs.length - (intOf i).toNat)
          case atStart=>exact ⟨0,rs,rfl,by simp,kX.o.symm,zn.o,rfl⟩
          case round=>
           obtain ⟨j,S,rfl,nO,heq2,hin2,rfl⟩:=hrel;have HQ:=ah heq2;have h3:=I9.o;have t0:wr.cell? ⟨nb + 1,0,none⟩=some (.int .i64 regs):=ak zF.o rfl;have t1:wr.cell? ⟨nb + 1,1,none⟩=some (.slice (some ⟨b1,off,none⟩) l.length bJ):=ak zF.o rfl;clear heq2;cases S with
           | nil=>
             obtain rfl:j=rs.length:=(by simpa using nO);have HA1:aj (al=true):=ah HQ.o;have wK:aj (uZ W th l.length regs k x=oG W l.length x):=ah (by rw [sZ.o,HA1.o]; rfl);have g0:=ak (j:=0) tq.o rfl;have g1:=ak (j:=1) tq.o rfl;have g2:=ak (j:=2) tq.o rfl;have g3:=ak (j:=3) tq.o rfl;have g4:=ak (j:=4) tq.o rfl;have g5:=ak (j:=5) tq.o rfl;simp only [List.getElem_toArray,List.getElem_cons_zero,List.getElem_cons_succ] at g0 g1 g2 g3 g4 g5;have x0:wr.cell? ⟨ib,0,none⟩=some (.int .i64 x.op):=ak nC.o rfl;have x1:wr.cell? ⟨ib,1,none⟩=some (.int .i64 x.a):=ak nC.o rfl;have x2:wr.cell? ⟨ib,2,none⟩=some (.int .i64 x.b):=ak nC.o rfl;have x3:wr.cell? ⟨ib,3,none⟩=some (.int .i64 x.c):=ak nC.o rfl;have x4:wr.cell? ⟨ib,4,none⟩=some (.int .i64 x.n):=ak nC.o rfl;have x5:wr.cell? ⟨ib,5,none⟩=some (.int .i64 x.st):=ak nC.o rfl;go_wp2_with fail;refine (yI W s l.length x wr Ik.o).mono ?_;rintro e w4 ⟨rfl,hb4⟩;have dG:=ah hb4;have zh:aj (Below nb w w4):=ah (qD.o.trans (hb4.mono (by have h1:=dY.o; have h2:=HB2.o.size; have h4:=HB3.o.size; omega)));have ku:aj (nb + 2<=wr.heap.size):=ah (by have h1:=dY.o; have h2:=HB2.o.size; have h4:=HB3.o.size; omega);clear hb4 g0 g1 g2 g3 g4 g5 x0 x1 x2 x3 x4 x5 t0 t1;cases ho:oG W l.length x
             ·have HT:aj (res=false):=ah (pK.o (by rw [wK.o,ho]));go_wp2_with fail;go_ret;exact ⟨by rw [HT.o]; rfl,by rw [bF.o]; exact zh.o⟩
             ·have Mk:aj (qW W th l.length regs 0 l=qW W th l.length regs ((k:Int) + 1) R):=ah (by rw [kG.o,wK.o,ho]; rfl);go_wp2_with fail;go_roundw
              case rel=>exact ⟨k + 1,R,by go_num,by omega,Mk.o,JA.o.below (dG.o.mono (by have:=ku.o; omega)),BP.o.2,Bf.o.trans (dG.o.mono ku.o)⟩
              case measure=>simp [intOf]; omega
           | cons r S=>
             obtain ⟨⟨b4,Sd,Gy,hb4,y0⟩,mW⟩:=hin2;subst Gy;simp only [List.length_cons] at nO;have hjl:j < rs.length:=(by omega);have HR4:=ah mW;have mF:aj (al=(bT r regs && S.all (fun r=>bT r regs))):=ah (by rw [HQ.o,List.all_cons]);clear mW HQ;cases hwr:bT r regs
             ·have HT:aj (res=false):=ah (pK.o (by rw [sZ.o,mF.o,hwr]; rfl));go_wp2_with fail;refine (iT hwr wr).mono ?_;rintro e w5 ⟨rfl,rfl⟩;go_wp2_with fail;go_ret;exact ⟨by rw [HT.o]; rfl,by rw [bF.o]; exact qD.o⟩
             ·have Mx:aj (al=S.all (fun r=>bT r regs)):=ah (by rw [mF.o,hwr]; rfl);go_wp2_with fail;refine (iT hwr wr).mono ?_;rintro e w5 ⟨rfl,rfl⟩;go_wp2_with fail;go_roundw
              case rel=>exact ⟨j + 1,S,by go_num,by omega,Mx.o,HR4.o,trivial⟩
              case measure=>simp [intOf]; omega
       ·have Mw:aj (uZ W th l.length regs k x=false):=ah (by unfold uZ; rw [yg,hek]; cases e28 <;> cases ek <;> simp_all);have hq':e28= !ek:=(by cases e28 <;> cases ek <;> simp_all);subst hq';cases ek
        ·have HT:aj (res=false):=ah (pK.o Mw.o);go_wp2_with fail;go_ret;exact ⟨by rw [HT.o]; rfl,by rw [bF.o]; exact sV.o⟩
        ·have HT:aj (res=false):=ah (pK.o Mw.o);go_wp2_with fail;go_ret;exact ⟨by rw [HT.o]; rfl,by rw [bF.o]; exact sV.o⟩
end Go.Proofs.YtgjmahnblcajbaaGreatDoor
