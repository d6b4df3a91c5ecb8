/- A program without static errors: the names that its code needs are found. Plain law. And what hangs on it. -/
import Derived.Test.YtkmllehjemjgpaaGreatDoorGPJ
import Derived.Test.YtkmllehjemjgpaaGreatDoorGML
set_option linter.unusedSimpArgs false
set_option linter.unusedVariables false
set_option maxHeartbeats 40000000
set_option maxRecDepth 1000000
namespace Go.Proofs.YtkmllehjemjgpaaGreatDoor
open Go.RowKit
namespace Md
theorem FV (p:Pr) (j:Nat) (tn gT:ByteArray): ∀(l ar:aH) (f g:List (List UInt8)),(fG p j tn gT l ar f g).err=0->l.Ev (λh=> ∃ar f g,iP p j tn gT ar f g h=0)
 | .nil,_,_,_,_=>trivial
 | .cons h b e r,ar,f,g,h0=>by
   rw[fG]at h0;split at h0
   ·exact absurd (show(2:Int)=0 from h0) (by decide)
   ·split at h0
    ·rename_i h1;rw[show iP p j tn gT ar (mem f) (mem g) h=0 from h0]at h1;exact absurd h1 (by decide)
    ·rename_i h1;split at h0
     ·rename_i h2;rw[h0]at h2;exact absurd h2 (by decide)
     ·rename_i h2;split at h0
      ·rename_i h3;rw[h0]at h3;exact absurd h3 (by decide)
      ·rename_i h3;refine⟨⟨ar,mem f,mem g,by simpa using h1⟩,FV p j tn gT b _ _ _ (by simpa using h2),FV p j tn gT e _ _ _ (by simpa using h3),FV p j tn gT r _ _ _ h0⟩
theorem P9 (p:Pr) (gT:ByteArray): ∀(l:List Th) (j:Nat) (f g:List (List UInt8)),(iZ p gT l j f g).err=0->∀t∈l,∃j:Nat,t.body.Ev (λh=> ∃ar f g,iP p j t.nm gT ar f g h=0)
 | [],_,_,_,_=>λt h=>by cases h
 |t::r,j,f,g,h0=>by
  rw[iZ]at h0;split at h0
  ·rename_i h2;rw[h0]at h2;exact absurd h2 (by decide)
  ·rename_i h2;intro x hx;rcases List.mem_cons.1 hx with rfl|hx
   ·exact⟨j,FV p j _ gT _ _ _ _ (by simpa using h2)⟩
   ·exact P9 p gT r _ _ _ h0 x hx
theorem Wx: ∀(l:List Th) (W:Wo) (i:Nat),(zF W i l).cs=W.cs∧(zF W i l).ls=W.ls∧(zF W i l).ns=W.ns∧(zF W i l).fs=W.fs
 | [],_,_=>⟨rfl,rfl,rfl,rfl⟩
 |t::r,W,i=>by rw[zF];exact Wx r _ _
theorem Rs {d:De} (hd:d.kind=1): ∀ {l:List De} (W:Wo),(d∈l∨∃c∈W.cs,c.nm=d.nm)->∃c∈(l.foldl kD W).cs,c.nm=d.nm
 | [],W,h=>by
   rcases h with h|h
   ·cases h
   ·exact h
 |x::r,W,h=>by
  rw[List.foldl_cons];refine Rs hd (kD W x) ?_;rcases h with h|⟨c,hc,e⟩
  ·rcases List.mem_cons.1 h with rfl|h
   ·right;refine⟨⟨d.nm,(0:Nat),d.size,d.kind==2,d.init⟩,?_,rfl⟩;have hk:(d.kind==1||d.kind==2)=true:=(by rw[hd];rfl);unfold kD;rw[if_pos hk];show _∈W.cs++EM d;refine List.mem_append_right _ ?_;unfold EM;obtain⟨n,hn⟩: ∃n,(max d.size 1).toNat=n+1:=⟨(max d.size 1).toNat -1,by omega⟩;rw[hn,qx];exact List.mem_cons_self
   ·exact .inl h
  ·right;refine⟨c,?_,e⟩;unfold kD;split
   ·exact List.mem_append_left _ hc
   ·split
    ·exact hc
    ·split <;> exact hc
theorem Fv {p:Pr} {i:Int} {nm:ByteArray} (h:mean p i nm=3):0<=(iI p).cell nm:=by
 unfold mean at h;split at h
 ·exact absurd h (by decide)
 ·unfold oN at h;cases hf:p.ds.find? (λd=>d.nm.toList==nm.toList)with
  |none=>rw[hf]at h;simp at h;unfold qV at h;split at h <;> exact absurd h (by decide)
  |some d=>
   rw[hf]at h;simp only[Option.map_some,Option.getD_some]at h;have hd:d.kind=1:=by
    unfold eO at h;split at h
    ·rename_i hk;simpa using hk
    ·split at h
     ·exact absurd h (by decide)
     ·split at h
      ·exact absurd h (by decide)
      ·split at h
       ·exact absurd h (by decide)
       ·split at h
        ·exact absurd h (by decide)
        ·split at h <;> exact absurd h (by decide)
   have hm:=List.mem_of_find?_eq_some hf;have hn:=List.find?_some hf;obtain⟨c,hc,e⟩:=Rs hd nV (.inl hm);unfold Wo.cell eB iI;refine QX _ _ _ (by decide) ⟨c.nm,List.mem_map.2 ⟨c,?_,rfl⟩,?_⟩
   ·rw[(Wx _ _ _).1];exact hc
   ·rw[e];simpa using hn
theorem Kl {p:Pr} {i:Int} : ∀ {l:bC},sW p i l=0->GX (iI p) l=true
 | .nil,_=>rfl
 | .cons op n nm kids rest,h=>by
   rw[sW]at h;split at h
   ·rename_i h1;split at h
    ·rename_i h2;rw[GX,Kl (by simpa using h2),Kl h];have h1:pQ p i op nm=0:=(by simpa using h1);unfold pQ at h1;by_cases h3:op=3
     ·subst h3;have:=qR (show dh (mean p i nm) [3]=0 from h1);simp[Fv (this)]
     ·simp[h3]
    ·rename_i h2;rw[h]at h2;exact absurd rfl h2
   ·rename_i h1;rw[h]at h1;exact absurd rfl h1
theorem Jj {p:Pr} {i op n:Int} {nm:ByteArray} {kids:bC} (h:kg p i op n nm kids=0):xR (iI p) op nm kids=true:=by
 unfold kg at h;split at h
 ·split at h
  ·exact absurd h (by decide)
  ·unfold vB at h;split at h
   ·rename_i h1;have h1:pQ p i op nm=0:=(by simpa using h1);unfold xR;rw[Kl h];unfold pQ at h1;by_cases h3:op=3
    ·subst h3;have:=qR (show dh (mean p i nm) [3]=0 from h1);simp[Fv (this)]
    ·simp[h3]
   ·rename_i h1;rw[h]at h1;exact absurd rfl h1
 ·exact absurd h (by decide)
theorem len_nil {l:bC} (h:l.len=0):l= .nil:=by
 cases l with
 |nil=>rfl
 |cons=>simp[bC.len]at h
theorem YX {W:Wo} {op n:Int} {nm:ByteArray} {kids:bC} (h:pU op n nm kids.len=true):xR W op nm kids=true:=by
 unfold pU at h;simp only[Bool.and_eq_true,beq_iff_eq]at h;obtain⟨⟨⟨h1,-⟩,-⟩,h2⟩:=h;rw[len_nil h2,h1];rfl
theorem VQ {h:cB} {bl el:Nat} (hs:mX h bl el=true):h.idx.len<=1∧(h.op≠1->h.idx= .nil)∧(fX h.op=false->pU h.cu h.xn h.bZ h.aK.len=true)∧1<=h.op∧h.op<=15:=by
 unfold mX at hs;simp only[Bool.and_eq_true]at hs;obtain⟨⟨⟨h1,-⟩,⟨h2,h3⟩,-⟩,h4,-⟩:=hs;unfold fO at h1;simp only[Bool.and_eq_true,decide_eq_true_eq]at h1 h2;refine⟨h2,λhne=> ?_,λhx=> ?_,h1⟩
 ·have hl:h.idx.len≠1:=λe=>by rw[e]at h3;unfold fI at h3;simp at h3;exact hne h3
  exact len_nil (by omega)
 ·rw[hx]at h4;simpa using h4
theorem aA2 {p:Pr} {j:Nat} {tn gT:ByteArray} {ar:aH} {f g:List UInt8->Bool} {h:cB} {bl el:Nat} (hs:mX h bl el=true) (h0:iP p j tn gT ar f g h=0):Fx (iI p) h=true:=by
 obtain⟨hl,hi,hx,ho1,ho2⟩:=VQ hs;have key: ∀(he:xR (iI p) h.cu h.bZ h.aK=true),h.op≠1->Fx (iI p) h=true:=λhe hne=>by unfold Fx;rw[he,hi hne];rfl
 by_cases h1:h.op=1
 ·unfold iP at h0;rw[h1,if_pos (by rfl)]at h0;unfold EI at h0;split at h0
  ·rename_i hz;have hz:h.idx.len=0:=by simpa using hz
   have:=Jj (lq h0 _ (List.mem_cons_of_mem _ List.mem_cons_self));unfold Fx;rw[this,len_nil hz];rfl
  ·rename_i hz;have hz:h.idx.len≠0:=by simpa using hz
   have e1:=qR (lq h0 _ List.mem_cons_self);have e2:=lq h0 _ (List.mem_cons_of_mem _ List.mem_cons_self);have e3:=Jj (lq h0 _ (List.mem_cons_of_mem _ (List.mem_cons_of_mem _ List.mem_cons_self)));have ec:=Fv (e1);unfold Fx;cases hidx:h.idx with
   |nil=>rw[hidx]at hz;exact absurd rfl hz
   |cons op n nm kids r=>rw[hidx]at e2 hl;have hr:r= .nil:=len_nil (by simp only[bC.len]at hl;omega);have:=Jj (show kg p j op n nm kids=0 from e2);unfold xR at this;rw[e3,hr,GX,this];simp[GX,ec]
 ·have hne:=h1;by_cases hf:fX h.op=true
  ·refine key (Jj (p:=p) (i:=j) (n:=h.xn) ?_) hne;unfold fX at hf;simp only[Bool.or_eq_true,beq_iff_eq]at hf;rcases hf with(hf|hf)|(hf|hf)
   ·exact absurd hf hne
   ·unfold iP at h0;rw[hf]at h0;exact h0
   ·unfold iP at h0;rw[hf]at h0;exact h0
   ·unfold iP at h0;rw[hf]at h0;exact lq (show eF _=0 from h0) _ (by simp)
  ·exact key (YX (hx (by simpa using hf))) hne
theorem DF: ∀ {l:aH},eG l=true->l.Ev (λh=> ∃bl el,mX h bl el=true)
 | .nil,_=>trivial
 | .cons h b e r,hs=>by rw[eG]at hs;simp only[Bool.and_eq_true]at hs;exact⟨⟨_,_,hs.1.1⟩,DF hs.1.2.1,DF hs.1.2.2,DF hs.2⟩
theorem tq {p:Pr} (h:(iT p).1=0):oZ p=true∧(kL p.ds [] 0 0 0 0).1=0∧p.ts.length<=4∧(jY p).1=0∧qO p.ts 0<=60∧(iZ p (jP p) p.ts 0 [] []).err=0:=by
 unfold iT at h;split at h
 ·exact absurd h (by decide)
 ·rename_i h1;split at h
  ·rename_i h2;rw[h]at h2;exact absurd h2 (by decide)
  ·rename_i h2;split at h
   ·exact absurd h (by decide)
   ·rename_i h3;split at h
    ·rename_i h4;rw[h]at h4;exact absurd h4 (by decide)
    ·rename_i h4;split at h
     ·exact absurd h (by decide)
     ·rename_i h5;simp only[decide_eq_true_eq]at h3 h5;exact⟨by simpa using h1,by simpa using h2,by omega,by simpa using h4,by omega,h⟩
theorem okP {p:Pr} (h:(iT p).1=0): ∀t∈p.ts,t.body.Ev (λh=>Fx (iI p) h=true):=by
 obtain⟨h1,-,-,-,-,h6⟩:=tq h;intro t ht;obtain⟨j,hj⟩:=P9 p _ _ _ _ _ h6 t ht;unfold oZ at h1;simp only[Bool.and_eq_true]at h1;have h2:=List.all_eq_true.1 h1.1.2 t ht;unfold nL at h2;simp only[Bool.and_eq_true]at h2;refine(hj.and (DF h2.2)).imp λx hx=> ?_;obtain⟨⟨ar,f,g,h0⟩,bl,el,hs⟩:=hx;exact aA2 hs h0
end Md
namespace Md
def pV (d:De):Nat->Nat->List rQ
 |0,_=>[]
 |n+1,k=>⟨d.nm,k,d.size,false,d.init⟩::pV d n (k+1)
def kG (d:De):List rQ:=if d.size==0 then [⟨d.nm,0,0,d.kind==2,d.init⟩]else pV d d.size.toNat 0
def gD (W:Wo) (g:List UInt8->Int) (d:De):List UInt8->Int:=if d.kind==3||d.kind==4 then λx=>if x=d.nm.toList then(W.ls.length:Int)else g x else g
def jW (W:Wo) (g:List UInt8->Int) (d:De):Wo:=
 if d.kind==1||d.kind==2 then {W with cs:=W.cs++kG d} else if d.kind==3||d.kind==4 then {W with ls:=W.ls++[⟨d.nm,d.kind==4⟩]} else
 if d.kind==5 then {W with ns:=W.ns++[⟨d.nm,g d.on.toList⟩]} else if d.kind==6 then {W with fs:=W.fs++[d.nm]} else W
def FK:List De->Wo->(List UInt8->Int)->Wo
 | [],W,_=>W
 |d::r,W,g=>FK r (jW W g d) (gD W g d)
theorem Ul {d:De} (h:(d.kind==2)=false): ∀(n k:Nat),pV d n k=qx d n k
 |0,_=>rfl
 |n+1,k=>by rw[pV,qx,Ul h n,h]
theorem ap9 {d:De} (hs:iw d=true):kG d=EM d:=by
 unfold iw at hs;simp only[Bool.and_eq_true,decide_eq_true_eq]at hs;obtain⟨⟨⟨⟨h1,h2⟩,-⟩,h3,h4⟩,-⟩:=hs;unfold kG EM;split
 ·rename_i h0;have h0:d.size=0:=by simpa using h0
  rw[h0];show _=qx d 1 0;rw[qx,qx,h0];rfl
 ·rename_i h0;have h0:d.size≠0:=by simpa using h0
  have hk:d.kind=1:=by simpa[h0]using h4
  rw[Ul (by rw[hk];rfl),show max d.size 1=d.size by omega]
theorem Ow: ∀(l:List ByteArray) (s nm:ByteArray) (k:Int),(∀x∈l,x.toList≠s.toList)->qI (l++[s]) nm k=if nm.toList=s.toList then k+l.length else qI l nm k
 | [],s,nm,k,_=>by
   simp only[List.nil_append,qI,List.length_nil];by_cases h:nm.toList=s.toList
   ·simp[h]
   ·have: ¬s.toList=nm.toList:=λe=>h e.symm;simp[h,this]
 |y::r,s,nm,k,hn=>by
  have ih:=Ow r s nm (k+1) (λx hx=>hn x (List.mem_cons_of_mem _ hx));have hy:=hn y List.mem_cons_self;rw[List.cons_append,qI,ih,qI];by_cases h:nm.toList=s.toList
  ·rw[if_pos h,if_pos h];have:(y.toList==nm.toList)=false:=by rw[h];simpa using hy
   rw[this];simp only[List.length_cons];rw[if_neg (by decide)];omega
  ·rw[if_neg h,if_neg h]
structure zI (pre:List De) (W:Wo) (g:List UInt8->Int):Prop where
 sub: ∀s∈W.ls.map (·.nm),∃d∈pre,d.nm.toList=s.toList
 eq: ∀x:ByteArray,0<=eB (W.ls.map (·.nm)) x->g x.toList=eB (W.ls.map (·.nm)) x
 has: ∀d∈pre,d.kind=3∨d.kind=4->0<=eB (W.ls.map (·.nm)) d.nm
theorem ad7 {pre:List De} {l:List UInt8} (h:mD pre l=0): ∀d∈pre,d.nm.toList≠l:=by
 have hf:=R4 (pre:=pre) (l:=l) (by rw[h];rfl);intro d hd e;have:=List.find?_eq_none.1 hf d hd;simp[e]at this
theorem zI.step {pre:List De} {W:Wo} {g:List UInt8->Int} {d:De} (h:zI pre W g) (hd:mD pre d.nm.toList=0):zI (pre++[d]) (jW W g d) (gD W g d):=by
 have hz:=ad7 hd;by_cases hk:(d.kind==3||d.kind==4)=true
 ·have h12:(d.kind==1||d.kind==2)=false:=by simp only[Bool.or_eq_true,beq_iff_eq]at hk;rcases hk with hk|hk <;> rw[hk] <;> rfl
  have e1:(jW W g d).ls=W.ls++[⟨d.nm,d.kind==4⟩]:=by unfold jW;rw[h12,hk];rfl
  have e2:gD W g d=λx=>if x=d.nm.toList then(W.ls.length:Int)else g x:=by unfold gD;rw[if_pos hk]
  have e3:(jW W g d).ls.map (·.nm)=W.ls.map (·.nm)++[d.nm]:=by rw[e1];simp
  have hne: ∀x∈W.ls.map (·.nm),x.toList≠d.nm.toList:=λx hx e=>by obtain⟨d',hd',e'⟩:=h.sub x hx;exact hz d' hd' (e'.trans e)
  have e4: ∀x,eB ((jW W g d).ls.map (·.nm)) x=if x.toList=d.nm.toList then(W.ls.length:Int)else eB (W.ls.map (·.nm)) x:=λx=>by rw[e3];unfold eB;rw[Ow _ _ _ _ hne];simp
  refine⟨λs hs=> ?_,λx hx=> ?_,λd' hd' hk'=> ?_⟩
  ·rw[e3]at hs;rcases List.mem_append.1 hs with hs|hs
   ·obtain⟨d',h1,h2⟩:=h.sub s hs;exact⟨d',List.mem_append_left _ h1,h2⟩
   ·rw[List.mem_singleton.1 hs];exact⟨d,List.mem_append_right _ (List.mem_singleton.2 rfl),rfl⟩
  ·rw[e4]at hx⊢;rw[e2];show(if _ then _ else _)=_;by_cases hc:x.toList=d.nm.toList
   ·rw[if_pos hc,if_pos hc]
   ·rw[if_neg hc]at hx⊢;rw[if_neg hc];exact h.eq x hx
  ·rw[e4];split
   ·omega
   ·rename_i hc;rcases List.mem_append.1 hd' with hd'|hd'
    ·exact h.has d' hd' hk'
    ·rw[List.mem_singleton.1 hd']at hc;exact absurd rfl hc
 ·have hk:(d.kind==3||d.kind==4)=false:=by simpa using hk
  have e1:(jW W g d).ls=W.ls:=by
   unfold jW;rw[hk];split
   ·rfl
   ·rw[if_neg (by decide)];split
    ·rfl
    ·split <;> rfl
  have e2:gD W g d=g:=by unfold gD;rw[hk];rfl
  rw[e2];refine⟨λs hs=> ?_,λx hx=> ?_,λd' hd' hk'=> ?_⟩
  ·rw[e1]at hs;obtain⟨d',h1,h2⟩:=h.sub s hs;exact⟨d',List.mem_append_left _ h1,h2⟩
  ·rw[e1]at hx⊢;exact h.eq x hx
  ·rw[e1];rcases List.mem_append.1 hd' with hd'|hd'
   ·exact h.has d' hd' hk'
   ·rw[List.mem_singleton.1 hd']at hk';simp only[Bool.or_eq_false_iff,beq_eq_false_iff_ne]at hk;rcases hk' with e|e
    ·exact absurd e hk.1
    ·exact absurd e hk.2
theorem Sd {d:De} (h:eO d=4):d.kind=3:=by
 unfold eO at h;split at h
 ·split at h <;> exact absurd h (by decide)
 ·split at h
  ·exact absurd h (by decide)
  ·split at h
   ·rename_i hk;simpa using hk
   ·split at h
    ·exact absurd h (by decide)
    ·split at h
     ·exact absurd h (by decide)
     ·split at h <;> exact absurd h (by decide)
theorem zI.cond {pre:List De} {W:Wo} {g:List UInt8->Int} {on:ByteArray} (h:zI pre W g) (hm:mD pre on.toList=4):g on.toList=eB (W.ls.map (·.nm)) on:=by
 unfold mD at hm;cases hf:pre.find? (λd=>d.nm.toList==on.toList)with
 |none=>rw[hf]at hm;exact absurd hm (by decide)
 |some d=>
  rw[hf]at hm;have hd:=Sd (show eO d=4 from hm);have h1:=List.mem_of_find?_eq_some hf;have h2:=List.find?_some hf;have h2:d.nm.toList=on.toList:=by simpa using h2
  refine h.eq on ?_;have:=h.has d h1 (.inl hd);unfold eB at this⊢;rcases JA (W.ls.map (·.nm)) d.nm 0 with h3|h3
  ·omega
  ·have e: ∀(l:List ByteArray) (k:Int),qI l on k=qI l d.nm k:=λl=>by
    induction l with
    |nil=>intro k;rfl
    |cons s r ih=>intro k;rw[qI,qI,ih,h2]
   rw[e];exact this
theorem aa8: ∀(l pre:List De) (W:Wo) (g:List UInt8->Int) (c x n f:Int),(∀d∈l,iw d=true)->zI pre W g->(kL l pre c x n f).1=0->FK l W g=l.foldl kD W
 | [],_,_,_,_,_,_,_,_,_,_=>rfl
 |d::r,pre,W,g,c,x,n,f,hs,hI,h0=>by
  have hsd:=hs d List.mem_cons_self;rw[kL]at h0;split at h0
  ·exact absurd (show(4:Int)=0 from h0) (by decide)
  ·rename_i h1;split at h0
   ·exact absurd (show(2:Int)=0 from h0) (by decide)
   ·split at h0
    ·exact absurd (show(2:Int)=0 from h0) (by decide)
    ·split at h0
     ·exact absurd (show(5:Int)=0 from h0) (by decide)
     ·split at h0
      ·exact absurd (show(6:Int)=0 from h0) (by decide)
      ·rename_i h5;have h1:mD pre d.nm.toList=0:=(by simpa using h1);have e:jW W g d=kD W d:=by
        unfold jW kD;rw[ap9 hsd];split
        ·rfl
        ·split
         ·rfl
         ·split
          ·rename_i hk;have:mD pre d.on.toList=4:=(by simpa[hk]using h5);rw[hI.cond this]
          ·rename_i k1 k2 k3;have Oj:d.kind=6:=(by unfold iw at hsd;simp only[Bool.and_eq_true,decide_eq_true_eq]at hsd;obtain⟨⟨⟨⟨q1,q2⟩,-⟩,-⟩,-⟩:=hsd;simp only[Bool.or_eq_true,beq_iff_eq,not_or]at k1 k2 k3;omega);rw[Oj];rfl
       rw[FK,List.foldl_cons,e];have:=hI.step h1;rw[e]at this;exact aa8 r (pre++[d]) _ _ _ _ _ _ (λy hy=>hs y (List.mem_cons_of_mem _ hy)) this h0
theorem zI.start:zI [] nV (λ_=>0):=by
 refine⟨λs hs=>(by cases hs),λx hx=> ?_,λd hd=>(by cases hd)⟩;have:eB (nV.ls.map (·.nm)) x= -1:=rfl;omega
theorem aa9 {p:Pr} (h:(iT p).1=0):FK p.ds nV (λ_=>0)=p.ds.foldl kD nV:=by
 obtain⟨h1,h2,-⟩:=tq h;unfold oZ at h1;simp only[Bool.and_eq_true]at h1;exact aa8 _ _ _ _ _ _ _ _ (λd hd=>List.all_eq_true.1 h1.1.1 d hd) zI.start h2
end Md
end Go.Proofs.YtkmllehjemjgpaaGreatDoor
