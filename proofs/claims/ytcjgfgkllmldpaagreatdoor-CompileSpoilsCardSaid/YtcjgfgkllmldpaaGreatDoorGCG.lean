/- A made program without static errors fits: its code is short. Plain law. And what hangs on it. -/
import Derived.Test.YtcjgfgkllmldpaaGreatDoorGCE
set_option linter.unusedSimpArgs false
set_option linter.unusedVariables false
set_option maxHeartbeats 40000000
set_option maxRecDepth 1000000
namespace Go.Proofs.YtcjgfgkllmldpaaGreatDoor
open Go.RowKit
namespace Md
theorem OO: ∀l:bV,zx l=fH l
 | .nil=>rfl
 | .cons _ _ _ k r=>by rw[zx,fH,OO k,OO r]
theorem aK4 (h:dM):wM h=iT h:=by unfold wM iT;rw[OO,OO]
def gW:Nat->Nat
 |0=>0
 |n+1=>100+20*gW n
theorem Lc: ∀(a b:bf),(a.app b).len=a.len+b.len
 | .nil,b=>by show b.len=0+b.len;omega
 | .cons h x y r,b=>by show(r.app b).len+1=(r.len+1)+b.len;rw[Lc r b];omega
theorem Sk (p:Pr) (j:Nat) (tn iD:ByteArray): ∀(l ar:bf) (f g:List (List UInt8)),(ig p j tn iD l ar f g).err=0->FH l->lJ l<=l.len*gW (6 -ar.len)
 | .nil,_,_,_,_,_=>bC _
 | .cons h b e r,ar,f,g,h0,hs=>by
   obtain⟨s1,⟨s2,s3⟩,⟨s4,s5⟩,s6⟩:=hs;rw[ig]at h0;split at h0
   ·exact absurd (show(2:Int)=0 from h0) ahg
   ·rename_i h6;split at h0
    ·rename_i h1;rw[show lq p j tn iD ar (mem f) (mem g) h=0 from h0]at h1;exact absurd h1 ahg
    ·split at h0
     ·rename_i h2;rw[h0]at h2;exact absurd h2 ahg
     ·rename_i h2;split at h0
      ·rename_i h3;rw[h0]at h3;exact absurd h3 ahg
      ·rename_i h3;have ib:=Sk p j tn iD b _ _ _ aho s3;have ie:=Sk p j tn iD e _ _ _ ais s5;have ir:=Sk p j tn iD r _ _ _ h0 s6;have h6':ar.len<=5:=(by simp at h6;omega);have el:(ar.app (.cons h b e .nil)).len=ar.len+1:=(by rw[Lc];rfl);rw[el]at ib ie;obtain⟨q,hq⟩: ∃q,q=gW (6 -(ar.len+1)):=⟨_,rfl⟩;have hg:gW (6 -ar.len)=100+20*q:=(by rw[hq,show 6 -ar.len=(6 -(ar.len+1))+1 by omega,gW]);rw[<- hq]at ib ie;rw[hg]at ir⊢;have b1:b.len*q<=10*q:=Nat.mul_le_mul_right _ s2;have e1:e.len*q<=10*q:=Nat.mul_le_mul_right _ s4;have hl:(bf.cons h b e r).len=r.len+1:=rfl;rw[lJ,hl,Nat.add_mul,Nat.one_mul,<- aK4];omega
theorem Yh (p:Pr) (iD:ByteArray): ∀(l:List Th) (j:Nat) (f g:List (List UInt8)),(jH p iD l j f g).err=0->(∀t∈l,t.body.len<=20∧FH t.body)->Ap l<=l.length*(20*gW 6)
 | [],_,_,_,_,_=>bC _
 |t::r,j,f,g,h0,hs=>by
  rw[jH]at h0;split at h0
  ·rename_i h2;rw[h0]at h2;exact absurd h2 ahg
  ·rename_i h2;have h1:=Sk p j t.nm iD t.body .nil f g aho (hs t aW).2;have h3:=Yh p iD r _ _ _ h0 (λx hx=>hs x (aY _ hx));have h4:t.body.len*gW 6<=20*gW 6:=Nat.mul_le_mul_right _ (hs t aW).1;have h5:lJ t.body<=t.body.len*gW 6:=h1;rw[Ap,aB,Nat.add_mul,Nat.one_mul];omega
theorem Sd: ∀l:bf,FH l->l.Ev (λh=>iT h<=300000)
 | .nil,_=>trivial
 | .cons h b e r,hs=>⟨by have:=hs.1;rw[aK4]at this;omega,Sd b hs.2.1.2,Sd e hs.2.2.1.2,Sd r hs.2.2.2⟩
theorem bb7 {p:Pr} (h0:(jL p).1=0) (hs: ∀t∈p.ts,t.body.len<=20∧FH t.body):Fit p:=by
 have hz:=wL h0;refine⟨?_,λt ht=>Sd _ (hs t ht).2⟩;have h1:=Yh p (kS p) p.ts 0 [] [] hz.2.2.2.2.2 hs;have h2:p.ts.length<=4:=by have:=hz.2.2.1;omega
 have h3:p.ts.length*(20*gW 6)<=4*(20*gW 6):=Nat.mul_le_mul_right _ h2;have h4:4*(20*gW 6)<=100000000000:=ahg
 omega
end Md
open Md
theorem am1:(Tryz.prog.info? 37).map (·.size)=some 2:=ahe
end Go.Proofs.YtcjgfgkllmldpaaGreatDoor
