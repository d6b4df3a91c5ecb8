/-
  The error of a program does not depend on its lines (plain law).
-/
import Derived.Test.YtehnipchbmjlhaaGreatDoorGML
import Derived.Test.YtehnipchbmjlhaaGreatDoorGSM
set_option linter.unusedSimpArgs false
set_option linter.unusedVariables false
set_option maxHeartbeats 40000000
set_option maxRecDepth 1000000
namespace Go.Proofs.YtehnipchbmjlhaaGreatDoor
open Go.RowKit
open Md
theorem zi {d d':De} (h:d'= {d with line:=d'.line}):d'.kind=d.kind∧d'.nm=d.nm∧d'.size=d.size∧d'.init=d.init∧d'.on=d.on:=by
 cases d; cases d'; simp only [De.mk.injEq] at h ⊢
 exact ⟨h.1,h.2.2.1,h.2.2.2.1,h.2.2.2.2.1,h.2.2.2.2.2⟩
theorem su {h h':aV} (e:h'= {h with line:=h'.line}):h'.op=h.op∧h'.nm=h.nm∧h'.arg=h.arg∧h'.idx=h.idx∧h'.bD=h.bD∧h'.xn=h.xn∧h'.bC=h.bC∧h'.aL=h.aL:=by
 cases h; cases h'; simp only [aV.mk.injEq] at e ⊢
 exact ⟨e.1,e.2.2.1,e.2.2.2.1,e.2.2.2.2.1,e.2.2.2.2.2.1,e.2.2.2.2.2.2.1,e.2.2.2.2.2.2.2.1,e.2.2.2.2.2.2.2.2⟩
theorem Fy {d d':De} (h:d'= {d with line:=d'.line}):fM d'=fM d:=by
 obtain ⟨h1,h2,h3,-,-⟩:=zi h
 unfold fM; rw [h1,h3]
theorem ES (nm:ByteArray): ∀ {l l':List De},pU false l l'→nZ l' nm=nZ l nm
 | [],[],_=>rfl
 | [],_ ::_,h=>h.elim
 | _ ::_,[],h=>h.elim
 | d ::r,d' ::r',h=>by rw [yQ,yQ,ES nm h.2,(zi h.1.1).2.1,Fy h.1.1]
theorem FP (nm:ByteArray): ∀ {l l':List Th},ou false l l'→oG l' nm=oG l nm
 | [],[],_=>rfl
 | [],_ ::_,h=>h.elim
 | _ ::_,[],h=>h.elim
 | d ::r,d' ::r',h=>by rw [ze,ze,FP nm h.2,h.1.1.1]
theorem IX: ∀ {l l':List Th} (n:Nat),ou false l l'→(l'[n]?).map (·.bH)=(l[n]?).map (·.bH)
 | [],[],_,_=>rfl
 | [],_ ::_,_,h=>h.elim
 | _ ::_,[],_,h=>h.elim
 | d ::r,d' ::r',0,h=>by simp [h.1.1.2]
 | d ::r,d' ::r',n + 1,h=>by simpa using IX n h.2
theorem Qj {p p':Pr} (h:p.kN false p'):mean p'=mean p:=by
 funext i nm
 unfold mean uW
 rw [ES nm h.1,FP nm h.2,IX _ h.2]
theorem Ah (x:List UInt8): ∀ {l l':List De},pU false l l'→ni l' x=ni l x
 | [],[],_=>rfl
 | [],_ ::_,h=>h.elim
 | _ ::_,[],h=>h.elim
 | d ::r,d' ::r',h=>by
   have e:=Ah x h.2
   unfold ni at e ⊢
   rw [List.any_cons,List.any_cons,e,(zi h.1.1).2.1]
theorem zV (x:List UInt8): ∀ {l l':List Th},ou false l l'→oH l' x=oH l x
 | [],[],_=>rfl
 | [],_ ::_,h=>h.elim
 | _ ::_,[],h=>h.elim
 | d ::r,d' ::r',h=>by
   have e:=zV x h.2
   unfold oH at e ⊢
   rw [List.any_cons,List.any_cons,e,h.1.1.1]
theorem FR {t t':Th} (ht:(t'.nm=t.nm∧t'.bH=t.bH)∧(false=true→t'.line=t.line)∧t.body.kN false t'.body): ∀ {l l':List Th},ou false l l'→ou false (l++[t]) (l'++[t'])
 | [],[],_=>⟨ht,trivial⟩
 | [],_ ::_,h=>h.elim
 | _ ::_,[],h=>h.elim
 | _ ::_,_ ::_,h=>⟨h.1,FR ht h.2⟩
theorem FY {t t':De} (ht:t'= {t with line:=t'.line} ∧(false=true→t'.line=t.line)): ∀ {l l':List De},pU false l l'→pU false (l++[t]) (l'++[t'])
 | [],[],_=>⟨ht,trivial⟩
 | [],_ ::_,h=>h.elim
 | _ ::_,[],h=>h.elim
 | _ ::_,_ ::_,h=>⟨h.1,FY ht h.2⟩
theorem IY {ds ds':List De} (hd:pU false ds ds'): ∀ {l l' pre pre':List Th},ou false l l'→ou false pre pre'→(wV ds' l' pre').isSome=(wV ds l pre).isSome
 | [],[],_,_,_,_=>rfl
 | [],_ ::_,_,_,h,_=>h.elim
 | _ ::_,[],_,_,h,_=>h.elim
 | t ::r,t' ::r',pre,pre',h,hp=>by
   unfold wV
   rw [Ah _ hd,zV _ hp,h.1.1.1]
   split
   ·rfl
   ·exact IY hd h.2 (FR h.1 hp)
theorem Gy {ds ds':List De} (hd:pU false ds ds') {ts ts':List Th} (ht:ou false ts ts'): ∀(l pre:List ByteArray),rF ds' ts' l pre=rF ds ts l pre
 | [],_=>rfl
 | s ::r,pre=>by unfold rF; rw [Ah _ hd,zV _ ht,Gy hd ht r]
theorem Ja {ds ds':List De} (hd:pU false ds ds') {ts ts':List Th} (ht:ou false ts ts'): ∀ {l l':List Th},ou false l l'→(yB ds' ts' l').1=(yB ds ts l).1
 | [],[],_=>rfl
 | [],_ ::_,h=>h.elim
 | _ ::_,[],h=>h.elim
 | t ::r,t' ::r',h=>by
   unfold yB
   rw [h.1.1.2,Gy hd ht]
   split
   ·rfl
   ·split
    ·rfl
    ·exact Ja hd ht h.2
theorem QU {p p':Pr} (h:p.kN false p'):(nP p').1=(nP p).1:=by
 have h1:=IY (pre:=[]) (pre':=[]) h.1 h.2 trivial
 have h2:=Ja h.1 h.2 h.2
 unfold nP
 cases ha:wV p.ds p.ts [] <;> cases hb:wV p'.ds p'.ts [] <;> simp [ha,hb] at h1 ⊢
 exact h2
theorem Hz (x:List UInt8): ∀ {l l':List De},pU false l l'→mD l' x=mD l x
 | [],[],_=>rfl
 | [],_ ::_,h=>h.elim
 | _ ::_,[],h=>h.elim
 | d ::r,d' ::r',h=>by
   have e:=Hz x h.2
   unfold mD at e ⊢
   rw [List.find?_cons,List.find?_cons,(zi h.1.1).2.1]
   split
   ·simp [Fy h.1.1]
   ·exact e
theorem J3: ∀ {l l' pre pre':List De} (c x n f:Int),pU false l l'→pU false pre pre'→(mG l' pre' c x n f).1=(mG l pre c x n f).1
 | [],[],_,_,_,_,_,_,_,_=>rfl
 | [],_ ::_,_,_,_,_,_,_,h,_=>h.elim
 | _ ::_,[],_,_,_,_,_,_,h,_=>h.elim
 | d ::r,d' ::r',pre,pre',c,x,n,f,h,hp=>by
   obtain ⟨e1,e2,e3,e4,e5⟩:=zi h.1.1
   have ec:dc d' c=dc d c:=by unfold dc; rw [e1,e3]
   have el:dl d' x=dl d x:=by unfold dl; rw [e1]
   have en:dn d' n=dn d n:=by unfold dn; rw [e1]
   have ef:df d' f=df d f:=by unfold df; rw [e1]
   rw [mG,mG,Hz _ hp,Hz _ hp,e1,e2,e3,e5,ec,el,en,ef]
   split
   ·rfl
   ·split
    ·rfl
    ·split
     ·rfl
     ·split
      ·rfl
      ·split
       ·rfl
       ·exact J3 _ _ _ _ h.2 (FY h.1 hp)
theorem QL {d d':De} (h:d'= {d with line:=d'.line}):fG d'=fG d:=by
 obtain ⟨e1,e2,e3,e4,e5⟩:=zi h
 unfold fG; rw [e1,e2,e3,e4,e5]
theorem Gj: ∀ {l l':List De},pU false l l'→l'.all fG=l.all fG
 | [],[],_=>rfl
 | [],_ ::_,h=>h.elim
 | _ ::_,[],h=>h.elim
 | d ::r,d' ::r',h=>by rw [List.all_cons,List.all_cons,Gj h.2,QL h.1.1]
theorem pW: ∀ {l l':aN},l.kN false l'→l'.len=l.len
 | .nil,.nil,_=>rfl
 | .nil,.cons _ _ _ _,h=>h.elim
 | .cons _ _ _ _,.nil,h=>h.elim
 | .cons h b e r,.cons h' b' e' r',hk=>by rw [aN.len,aN.len,pW hk.2.2.2]
theorem wB: ∀ {l l':aN},l.kN false l'→fK l'=fK l
 | .nil,.nil,_=>rfl
 | .nil,.cons _ _ _ _,h=>h.elim
 | .cons _ _ _ _,.nil,h=>h.elim
 | .cons h b e r,.cons h' b' e' r',hk=>by
   obtain ⟨e1,e2,e3,e4,e5,e6,e7,e8⟩:=su hk.1.1
   rw [fK,fK,wB hk.2.1,wB hk.2.2.1,wB hk.2.2.2,pW hk.2.1,pW hk.2.2.1]
   unfold iq
   rw [e1,e2,e3,e4,e5,e6,e7,e8]
theorem Iy: ∀ {l l':List Th},ou false l l'→l'.all jh=l.all jh
 | [],[],_=>rfl
 | [],_ ::_,h=>h.elim
 | _ ::_,[],h=>h.elim
 | d ::r,d' ::r',h=>by
   rw [List.all_cons,List.all_cons,Iy h.2]
   unfold jh
   rw [h.1.1.1,h.1.1.2,wB h.1.2.2]
theorem Po {p p':Pr} (h:p.kN false p'):nQ p'=nQ p:=by
 unfold nQ; rw [Gj h.1,Iy h.2,Cx h.2]
theorem yX: ∀ {l l':aN} (n:Int),l.kN false l'→wZ l' n=wZ l n
 | .nil,.nil,_,_=>rfl
 | .nil,.cons _ _ _ _,_,h=>h.elim
 | .cons _ _ _ _,.nil,_,h=>h.elim
 | .cons h b e r,.cons h' b' e' r',n,hk=>by
   rw [wZ,wZ,pW hk.2.1,pW hk.2.2.1,yX _ hk.2.1,yX _ hk.2.2.1,yX _ hk.2.2.2]
theorem Ij: ∀ {l l':List Th} (n:Int),ou false l l'→iC l' n=iC l n
 | [],[],_,_=>rfl
 | [],_ ::_,_,h=>h.elim
 | _ ::_,[],_,h=>h.elim
 | d ::r,d' ::r',n,h=>by
   rw [iC,iC,Ij _ h.2]
   unfold EM
   rw [pW h.1.2.2,yX _ h.1.2.2]
theorem OX {p p':Pr} (h:p.kN false p'):kY p'=kY p:=by
 have h2:=h.2
 unfold kY
 cases ha:p.ts <;> cases hb:p'.ts <;> rw [ha,hb] at h2
 ·exact h2.elim
 ·exact h2.elim
 ·simp [h2.1.1.1]
section
variable {p p':Pr} (hm:mean p'=mean p)
include hm
theorem CK (i:Int): ∀l:aP,qg p' i l=qg p i l
 | .nil=>rfl
 | .cons op n nm kids rest=>by
   rw [qg,qg,CK i kids,CK i rest]
   unfold sV; rw [hm]
theorem EC (i op n:Int) (nm:ByteArray) (kids:aP):kP p' i op n nm kids=kP p i op n nm kids:=by
 unfold kP wU sV
 rw [CK hm,hm]
theorem UL (i:Int) (l:aP):Tw p' i l=Tw p i l:=by
 cases l with
 | nil=>rfl
 | cons op n nm kids r=>exact EC hm i op n nm kids
theorem QK (i:Int) {h h':aV} (e:h'= {h with line:=h'.line}):yY p' i h'=yY p i h:=by
 obtain ⟨e1,e2,e3,e4,e5,e6,e7,e8⟩:=su e
 unfold yY
 rw [UL hm,EC hm,hm,e2,e4,e5,e6,e7,e8]
end
theorem Ip (x:List Int): ∀ {l l':aN},l.kN false l'→dY l' x=dY l x
 | .nil,.nil,_=>rfl
 | .nil,.cons _ _ _ _,h=>h.elim
 | .cons _ _ _ _,.nil,h=>h.elim
 | .cons h b e r,.cons h' b' e' r',hk=>by rw [dY,dY,Ip x hk.2.2.2,(su hk.1.1).1]
theorem Gp (nm:ByteArray) (x:List Int): ∀ {l l':aN},l.kN false l'→jR l' nm x=jR l nm x
 | .nil,.nil,_=>rfl
 | .nil,.cons _ _ _ _,h=>h.elim
 | .cons _ _ _ _,.nil,h=>h.elim
 | .cons h b e r,.cons h' b' e' r',hk=>by rw [jR,jR,Gp nm x hk.2.2.2,(su hk.1.1).1,(su hk.1.1).2.1]
theorem Dg (nm:ByteArray): ∀ {l l':List De},pU false l l'→jw l' nm=jw l nm
 | [],[],_=>rfl
 | [],_ ::_,h=>h.elim
 | _ ::_,[],h=>h.elim
 | d ::r,d' ::r',h=>by
   have e:=Dg nm h.2
   obtain ⟨e1,e2,e3,e4,e5⟩:=zi h.1.1
   unfold jw at e ⊢
   rw [List.find?_cons,List.find?_cons,e1,e2]
   split
   ·simp [e5]
   ·exact e
theorem Us {p p':Pr} (hp:p.kN false p') (j:Nat) (tn eZ:ByteArray) {ar pE:aN} (ha:ar.kN false pE) (f g:List UInt8→Bool) {h h':aV} (e:h'= {h with line:=h'.line}):
 lX p' j tn eZ pE f g h'=lX p j tn eZ ar f g h:=by
 have hm:=Qj hp
 obtain ⟨e1,e2,e3,e4,e5,e6,e7,e8⟩:=su e
 unfold lX
 rw [QK hm _ e]
 simp only [EC hm,hm,e1,e2,e3,e4,e5,e6,e7,e8,Ip _ ha,Gp _ _ ha,Dg _ hp.1]
theorem KW: ∀ {a a' b b':aN},a.kN false a'→b.kN false b'→(a.app b).kN false (a'.app b')
 | .nil,.nil,_,_,_,h=>h
 | .nil,.cons _ _ _ _,_,_,h,_=>h.elim
 | .cons _ _ _ _,.nil,_,_,h,_=>h.elim
 | .cons h b e r,.cons h' b' e' r',_,_,hk,hb=>⟨hk.1,hk.2.1,hk.2.2.1,KW hk.2.2.2 hb⟩
def Md.ER.kN (r r':ER):Prop:=r'.err=r.err∧r'.f=r.f∧r'.g=r.g
theorem Br {p p':Pr} (hp:p.kN false p') (j:Nat) (tn eZ:ByteArray): ∀ {l l' ar pE:aN} (f g:List (List UInt8)),l.kN false l'→ar.kN false pE→(gq p j tn eZ l ar f g).kN (gq p' j tn eZ l' pE f g)
 | .nil,.nil,_,_,_,_,_,_=>⟨rfl,rfl,rfl⟩
 | .nil,.cons _ _ _ _,_,_,_,_,h,_=>h.elim
 | .cons _ _ _ _,.nil,_,_,_,_,h,_=>h.elim
 | .cons h b e r,.cons h' b' e' r',ar,pE,f,g,hk,ha=>by
   obtain ⟨⟨e0,-⟩,hb,he,hr⟩:=id hk
   have h1:aN.kN false (.cons h b e .nil) (.cons h' b' e' .nil):=⟨hk.1,hb,he,trivial⟩
   have hap:=KW ha h1
   have ef:fL 12 h' f=fL 12 h f:=by unfold fL; rw [(su e0).1,(su e0).2.1]
   have eg:fL 14 h' g=fL 14 h g:=by unfold fL; rw [(su e0).1,(su e0).2.1]
   rw [gq,gq,Us hp j tn eZ ha _ _ e0,pW ha,ef,eg]
   obtain ⟨b1,b2,b3⟩:=Br hp j tn eZ (fL 12 h f) (fL 14 h g) hb hap
   rw [b1,b2,b3]
   obtain ⟨c1,c2,c3⟩:=Br hp j tn eZ (gq p j tn eZ b (ar.app (.cons h b e .nil)) (fL 12 h f) (fL 14 h g)).f (gq p j tn eZ b (ar.app (.cons h b e .nil)) (fL 12 h f) (fL 14 h g)).g he hap
   rw [c1,c2,c3]
   split
   ·exact ⟨rfl,rfl,rfl⟩
   ·split
    ·exact ⟨rfl,rfl,rfl⟩
    ·split
     ·exact ⟨b1,b2,b3⟩
     ·split
      ·exact ⟨c1,c2,c3⟩
      ·exact Br hp j tn eZ _ _ hr ha
theorem GA {p p':Pr} (hp:p.kN false p') (eZ:ByteArray): ∀ {l l':List Th} (j:Nat) (f g:List (List UInt8)),ou false l l'→(ko p eZ l j f g).kN (ko p' eZ l' j f g)
 | [],[],_,_,_,_=>⟨rfl,rfl,rfl⟩
 | [],_ ::_,_,_,_,h=>h.elim
 | _ ::_,[],_,_,_,h=>h.elim
 | t ::r,t' ::r',j,f,g,h=>by
   rw [ko,ko,h.1.1.1]
   obtain ⟨b1,b2,b3⟩:=Br hp j t.nm eZ f g h.1.2.2 (ar:= .nil) (pE:= .nil) trivial
   rw [b1,b2,b3]
   split
   ·exact ⟨b1,b2,b3⟩
   ·exact GA hp eZ _ _ _ h.2
theorem Qg {p p':Pr} (h:p.kN false p'):(rU p').1=(rU p).1:=by
 have h1:=J3 (pre:=[]) (pre':=[]) 0 0 0 0 h.1 trivial
 have h2:=QU h
 have h3:=GA h (kY p) 0 [] [] h.2
 unfold rU
 rw [Po h,h1,h2,Ij _ h.2,OX h,Cx h.2]
 split
 ·rfl
 ·split
  ·exact h1
  ·split
   ·rfl
   ·split
    ·exact h2
    ·split
     ·rfl
     ·exact h3.1
end Go.Proofs.YtehnipchbmjlhaaGreatDoor
