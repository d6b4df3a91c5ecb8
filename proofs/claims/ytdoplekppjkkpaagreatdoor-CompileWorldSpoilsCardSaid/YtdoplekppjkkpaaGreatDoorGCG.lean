/- A made program without static errors fits: its code is short. Plain law. -/
import Derived.Test.YtdoplekppjkkpaaGreatDoorGCE
set_option linter.unusedSimpArgs false
set_option linter.unusedVariables false
set_option maxHeartbeats 40000000
set_option maxRecDepth 1000000
namespace Go.Proofs.YtdoplekppjkkpaaGreatDoor
open Go.RowKit
namespace Md
theorem M7: ∀l:bT,yI l=jc l
 | .nil=>rfl
 | .cons _ _ _ k r=>by rw[yI,jc,M7 k,M7 r]
theorem as7 (h:dF):wM h=jB h:=by unfold wM jB;rw[M7,M7]
def gW:Nat->Nat
 |0=>0
 |n+1=>100+20*gW n
theorem J5: ∀(a b:aZ),(a.app b).len=a.len+b.len
 | .nil,b=>by show b.len=0+b.len;omega
 | .cons h x y r,b=>by show(r.app b).len+1=(r.len+1)+b.len;rw[J5 r b];omega
theorem Pb (p:Pr) (j:Nat) (tn iB:ByteArray): ∀(l ar:aZ) (f g:List (List UInt8)),(gX p j tn iB l ar f g).err=0->Ee l->pF l<=l.len*gW (6 -ar.len)
 | .nil,_,_,_,_,_=>bF _
 | .cons h b e r,ar,f,g,h0,hs=>by
   obtain⟨s1,⟨s2,s3⟩,⟨s4,s5⟩,s6⟩:=hs;rw[gX]at h0;split at h0
   ·exact absurd (show(2:Int)=0 from h0) agI
   ·rename_i h6;split at h0
    ·rename_i h1;rw[show jG p j tn iB ar (mem f) (mem g) h=0 from h0]at h1;exact absurd h1 agI
    ·split at h0
     ·rename_i h2;rw[h0]at h2;exact absurd h2 agI
     ·rename_i h2;split at h0
      ·rename_i h3;rw[h0]at h3;exact absurd h3 agI
      ·rename_i h3;have ib:=Pb p j tn iB b _ _ _ agQ s3;have ie:=Pb p j tn iB e _ _ _ ahP s5;have ir:=Pb p j tn iB r _ _ _ h0 s6;have h6':ar.len<=5:=(by simp at h6;omega);have el:(ar.app (.cons h b e .nil)).len=ar.len+1:=(by rw[J5];rfl);rw[el]at ib ie;obtain⟨q,hq⟩: ∃q,q=gW (6 -(ar.len+1)):=⟨_,rfl⟩;have hg:gW (6 -ar.len)=100+20*q:=(by rw[hq,show 6 -ar.len=(6 -(ar.len+1))+1 by omega,gW]);rw[<- hq]at ib ie;rw[hg]at ir⊢;have b1:b.len*q<=10*q:=Nat.mul_le_mul_right _ s2;have e1:e.len*q<=10*q:=Nat.mul_le_mul_right _ s4;have hl:(aZ.cons h b e r).len=r.len+1:=rfl;rw[pF,hl,Nat.add_mul,Nat.one_mul,<- as7];omega
theorem UC (p:Pr) (iB:ByteArray): ∀(l:List Th) (j:Nat) (f g:List (List UInt8)),(jA p iB l j f g).err=0->(∀t∈l,t.body.len<=20∧Ee t.body)->Ea l<=l.length*(20*gW 6)
 | [],_,_,_,_,_=>bF _
 |t::r,j,f,g,h0,hs=>by
  rw[jA]at h0;split at h0
  ·rename_i h2;rw[h0]at h2;exact absurd h2 agI
  ·rename_i h2;have h1:=Pb p j t.nm iB t.body .nil f g agQ (hs t aX).2;have h3:=UC p iB r _ _ _ h0 (λx hx=>hs x (aY _ hx));have h4:t.body.len*gW 6<=20*gW 6:=Nat.mul_le_mul_right _ (hs t aX).1;have h5:pF t.body<=t.body.len*gW 6:=h1;rw[Ea,aD,Nat.add_mul,Nat.one_mul];omega
theorem P5: ∀l:aZ,Ee l->l.Ev (λh=>jB h<=300000)
 | .nil,_=>trivial
 | .cons h b e r,hs=>⟨by have:=hs.1;rw[as7]at this;omega,P5 b hs.2.1.2,P5 e hs.2.2.1.2,P5 r hs.2.2.2⟩
theorem aL3 {p:Pr} (h0:(ko p).1=0) (hs: ∀t∈p.ts,t.body.len<=20∧Ee t.body):Fit p:=by
 have hz:=yK h0;refine⟨?_,λt ht=>P5 _ (hs t ht).2⟩;have h1:=UC p (kH p) p.ts 0 [] [] hz.2.2.2.2.2 hs;have h2:p.ts.length<=4:=by have:=hz.2.2.1;omega
 have h3:p.ts.length*(20*gW 6)<=4*(20*gW 6):=Nat.mul_le_mul_right _ h2;have h4:4*(20*gW 6)<=100000000000:=agI
 omega
end Md
end Go.Proofs.YtdoplekppjkkpaaGreatDoor
