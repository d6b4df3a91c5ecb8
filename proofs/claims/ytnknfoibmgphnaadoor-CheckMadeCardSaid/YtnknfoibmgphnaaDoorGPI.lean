/-
  Contract of the maker's decls: nine shaped declarations in a new block.
  Objects and code of a program as data, and what is compiled. No program text in sight.
  A program without static errors: the names that its code needs are found. Plain law.
  The four changes of a made program and the errors that they bring. Plain law.
-/
import Derived.Test.YtnknfoibmgphnaaDoorGPA
import Derived.Test.YtnknfoibmgphnaaDoorGML
import Derived.Test.YtnknfoibmgphnaaDoorGPC
import Derived.Test.YtnknfoibmgphnaaDoorGMA
section
set_option linter.unusedSimpArgs false
set_option linter.unusedVariables false
namespace Go.Proofs.YtnknfoibmgphnaaDoor
open Go.RowKit
open Md
def gQ:List De:=[⟨1,0,⟨#[120]⟩,0,0,⟨#[]⟩⟩,⟨1,0,⟨#[121]⟩,0,1,⟨#[]⟩⟩,⟨2,0,⟨#[118]⟩,0,0,⟨#[]⟩⟩,⟨1,0,⟨#[113]⟩,2,0,⟨#[]⟩⟩,⟨3,0,⟨#[109]⟩,0,0,⟨#[]⟩⟩,⟨3,0,⟨#[110]⟩,0,0,⟨#[]⟩⟩,⟨4,0,⟨#[114]⟩,0,0,⟨#[]⟩⟩,⟨5,0,⟨#[99]⟩,0,0,⟨#[109]⟩⟩,⟨6,0,⟨#[102]⟩,0,0,⟨#[]⟩⟩]
theorem Qn:(Tryd.prog.info? 37).map (fun i=>(i.zero,i.size,i.bytes))=some (some (.agg #[.int .i64 0,.int .i64 0,.string ⟨#[]⟩,.int .i64 0,.int .i64 0,.string ⟨#[]⟩]),6,64):=by kernel_rfl
theorem MV (x:De): ∀u ∈ rC x,u.oneCell'=true:=by
 intro u hu; simp [rC] at hu
 rcases hu with rfl | rfl | rfl | rfl | rfl | rfl <;> rfl
theorem ES: ∀d ∈ gQ,d.Ok∧jw d=true:=by
 intro d hd
 simp only [gQ,List.mem_cons,List.not_mem_nil,or_false] at hd
 rcases hd with rfl | rfl | rfl | rfl | rfl | rfl | rfl | rfl | rfl <;> exact ⟨⟨by unfold aX; decide,by unfold aX; decide,by unfold maxLen; decide,by unfold aX; decide,by unfold aX; decide,by unfold maxLen; decide⟩,by rfl⟩
def Qt (w:World) (e:Ending) (w':World):Prop:= ∃g,e= .returned (.slice (some ⟨g,0,none⟩) 9 9)∧w.heap.size≤g∧w'.heap[g]? =some (.cells (gQ.flatMap rC).toArray 37 (0,0))∧Below w.heap.size w w'
theorem Cn (w:World):Calls Tryd.prog 7 #[] w (Qt w):=by
 go_enter Tryd.func7,Tryd.ntmps7
 go_wp2
 go_ret
 refine ⟨_,rfl,?_,?_,?_⟩
 ·exact Nat.le_refl _
 ·exact heap_alloc_new _ _
 ·exact ay _ _
theorem Grow.made {α:Type} {f:α→List Value} {m:Nat} {ty:TypeId} {B:Nat} {W:World} {g n:Nat} {xs:List α} (hf: ∀x,(f x).length=m) (h:W.heap[g]? =some (.cells (xs.flatMap f).toArray ty (0,0))) (hB:B≤g) (hn:xs.length=n) (hm:n≤maxLen):Grow f m (fun _ _=>True) ty B W (.slice (some ⟨g,0,none⟩) n n) xs:=by
 subst hn
 have hl:=og hf xs
 refine ⟨⟨hl,.inr ⟨g,xs.length,_,rfl,hB,h,Nat.le_refl _,hm,by simpa using hl,?_⟩⟩,fun x hx _ _=>trivial⟩
 exact List.take_of_length_le (by simpa using Nat.le_of_eq hl)
theorem Q7 {h h':eH} (e:h'= {h with line:=h'.line}):h'.op=h.op∧h'.nm=h.nm∧h'.arg=h.arg∧h'.idx=h.idx∧h'.dU=h.dU∧h'.xn=h.xn∧h'.dV=h.dV∧h'.bq=h.bq:=by
 cases h; cases h'; simp only [eH.mk.injEq] at e ⊢
 exact ⟨e.1,e.2.2.1,e.2.2.2.1,e.2.2.2.2.1,e.2.2.2.2.2.1,e.2.2.2.2.2.2.1,e.2.2.2.2.2.2.2.1,e.2.2.2.2.2.2.2.2⟩
section
variable {p p':Pr} (hm:mean p'=mean p)
include hm
theorem zk (i:Int): ∀l:bJ,nC p' i l=nC p i l
 | .nil=>rfl
 | .cons op n nm kids rest=>by
   rw [nC,nC,zk i kids,zk i rest]
   unfold mV; rw [hm]
theorem AO (i op n:Int) (nm:ByteArray) (kids:bJ):iE p' i op n nm kids=iE p i op n nm kids:=by
 unfold iE oU mV
 rw [zk hm,hm]
theorem Mj (i:Int) (l:bJ):GY p' i l=GY p i l:=by
 cases l with
 | nil=>rfl
 | cons op n nm kids r=>exact AO hm i op n nm kids
theorem Jk (i:Int) {h h':eH} (e:h'= {h with line:=h'.line}):tO p' i h'=tO p i h:=by
 obtain ⟨e1,e2,e3,e4,e5,e6,e7,e8⟩:=Q7 e
 unfold tO
 rw [Mj hm,AO hm,hm,e2,e4,e5,e6,e7,e8]
end
end Go.Proofs.YtnknfoibmgphnaaDoor
end
section
set_option linter.unusedVariables false
namespace Go.Proofs.YtnknfoibmgphnaaDoor
open Go.RowKit
namespace Md
structure U3 where
 nm:ByteArray
 ix:Int
 sz:Int
 Vh:Bool
 init:Int
structure Ub where
 nm:ByteArray
 rw:Bool
structure Ul where
 nm:ByteArray
 mx:Int
structure UD where
 th:Int
 st:Int
 ln:Int
structure Wo where
 cs:List U3
 ls:List Ub
 ns:List Ul
 fs:List ByteArray
 ts:List ByteArray
 ss:List UD
def vw (x:ByteArray):List Value:=[.string x]
def Rb:List ByteArray→ByteArray→Int→Int
 | [],_,_=> -1
 | s ::r,nm,k=>if s.toList == nm.toList then k else Rb r nm (k + 1)
def U9 (l:List ByteArray) (nm:ByteArray):Int:=Rb l nm 0
def Wo.cell (W:Wo) (nm:ByteArray):Int:=U9 (W.cs.map (·.nm)) nm
def Wo.size (W:Wo) (nm:ByteArray):Int:=((W.cs[(W.cell nm).toNat]?).map (·.sz)).getD 0
def aR.none:aR→Bool
 | .nil=>true
 | _=>false
end Md
end Go.Proofs.YtnknfoibmgphnaaDoor
end
section
set_option linter.unusedSimpArgs false
set_option linter.unusedVariables false
namespace Go.Proofs.YtnknfoibmgphnaaDoor
open Go.RowKit
namespace Md
def Lr (W:Wo):bJ→Bool
 | .nil=>true
 | .cons op _ nm kids rest=>((!(op == 3) || decide (0≤W.cell nm)) && Lr W kids) && Lr W rest
def TV (W:Wo) (op:Int) (nm:ByteArray) (kids:bJ):Bool:=(!(op == 3) || decide (0≤W.cell nm)) && Lr W kids
def rD (W:Wo) (h:eH):Bool:=TV W h.dU h.dV h.bq && (Lr W h.idx && (h.idx.len == 0 || !(h.op == 1) || decide (0≤W.cell h.nm)))
theorem uR {p:Pr} (h:(iV p).1=0):lN p=true∧(jH p.ds [] 0 0 0 0).1=0∧p.ts.length≤4∧(iJ p).1=0∧iw p.ts 0≤60∧(gG p (gM p) p.ts 0 [] []).err=0:=by
 unfold iV at h
 split at h
 ·exact absurd h (by decide)
 ·rename_i h1
  split at h
  ·rename_i h2; rw [h] at h2; exact absurd h2 (by decide)
  ·rename_i h2
   split at h
   ·exact absurd h (by decide)
   ·rename_i h3
    split at h
    ·rename_i h4; rw [h] at h4; exact absurd h4 (by decide)
    ·rename_i h4
     split at h
     ·exact absurd h (by decide)
     ·rename_i h5
      simp only [decide_eq_true_eq] at h3 h5
      exact ⟨by simpa using h1,by simpa using h2,by omega,by simpa using h4,by omega,h⟩
end Md
end Go.Proofs.YtnknfoibmgphnaaDoor
end
section
set_option linter.unusedSimpArgs false
set_option linter.unusedVariables false
namespace Go.Proofs.YtnknfoibmgphnaaDoor
open Go.RowKit
open Md
def gL:ByteArray:=⟨#[109,97,105,110]⟩
def Lu:ByteArray:=⟨#[116,49]⟩
def Lg:ByteArray:=⟨#[116,50]⟩
def KI:ByteArray:=⟨#[116,51]⟩
def gJ:List ByteArray:=[⟨#[97]⟩,⟨#[98]⟩]
structure wE (p:Pr):Prop where
 ds:p.ds=gQ
 ts: ∃n,n≤4∧1≤n∧p.ts.map (·.nm)=[gL,Lu,Lg,KI].take n
 lc: ∀t ∈ p.ts,t.bH=gJ
def nN:List Th→List Th→Prop
 | [],[]=>True
 | t ::r,t' ::r'=>(t'.nm=t.nm∧t'.bH=t.bH)∧nN r r'
 | _,_=>False
theorem Co: ∀l,nN l l
 | []=>trivial
 | _ ::r=>⟨⟨rfl,rfl⟩,Co r⟩
theorem DL {t t':Th} (h:t'.nm=t.nm∧t'.bH=t.bH): ∀(a b:List Th),nN (a++t ::b) (a++t' ::b)
 | [],b=>⟨h,Co b⟩
 | _ ::a,b=>⟨⟨rfl,rfl⟩,DL h a b⟩
theorem zL: ∀ {l l':List Th},nN l l'→l'.length=l.length
 | [],[],_=>rfl
 | [],_ ::_,h=>h.elim
 | _ ::_,[],h=>h.elim
 | _ ::_,_ ::_,h=>by simp only [List.length_cons]; rw [zL h.2]
theorem Bc (x:List UInt8): ∀ {l l':List Th},nN l l'→iO l' x=iO l x
 | [],[],_=>rfl
 | [],_ ::_,h=>h.elim
 | _ ::_,[],h=>h.elim
 | d ::r,d' ::r',h=>by
   have e:=Bc x h.2
   unfold iO at e ⊢
   rw [List.any_cons,List.any_cons,e,h.1.1]
theorem F8 (nm:ByteArray): ∀ {l l':List Th},nN l l'→lV l' nm=lV l nm
 | [],[],_=>rfl
 | [],_ ::_,h=>h.elim
 | _ ::_,[],h=>h.elim
 | d ::r,d' ::r',h=>by rw [wM,wM,F8 nm h.2,h.1.1]
theorem Im: ∀ {l l':List Th} (n:Nat),nN l l'→(l'[n]?).map (·.bH)=(l[n]?).map (·.bH)
 | [],[],_,_=>rfl
 | [],_ ::_,_,h=>h.elim
 | _ ::_,[],_,h=>h.elim
 | d ::r,d' ::r',0,h=>by simp [h.1.2]
 | d ::r,d' ::r',n + 1,h=>by simpa using Im n h.2
theorem P9 {p p':Pr} (hd:p'.ds=p.ds) (h:nN p.ts p'.ts):mean p'=mean p:=by
 funext i nm
 unfold mean jQ
 rw [hd,F8 nm h,Im _ h]
theorem Mg {p p':Pr} (h:nN p.ts p'.ts):gM p'=gM p:=by
 unfold gM
 cases ha:p.ts <;> cases hb:p'.ts <;> rw [ha,hb] at h
 ·exact h.elim
 ·exact h.elim
 ·simp [h.1.1]
theorem BX {t t':Th} (ht:t'.nm=t.nm∧t'.bH=t.bH): ∀ {l l':List Th},nN l l'→nN (l++[t]) (l'++[t'])
 | [],[],_=>⟨ht,trivial⟩
 | [],_ ::_,h=>h.elim
 | _ ::_,[],h=>h.elim
 | _ ::_,_ ::_,h=>⟨h.1,BX ht h.2⟩
theorem GJ {ds:List De} : ∀ {l l' pre pre':List Th},nN l l'→nN pre pre'→(jP ds l' pre').isSome=(jP ds l pre).isSome
 | [],[],_,_,_,_=>rfl
 | [],_ ::_,_,_,h,_=>h.elim
 | _ ::_,[],_,_,h,_=>h.elim
 | t ::r,t' ::r',pre,pre',h,hp=>by
   unfold jP
   rw [Bc _ hp,h.1.1]
   split
   ·rfl
   ·exact GJ h.2 (BX h.1 hp)
theorem GL {ds:List De} {ts ts':List Th} (ht:nN ts ts'): ∀(l pre:List ByteArray),ku ds ts' l pre=ku ds ts l pre
 | [],_=>rfl
 | s ::r,pre=>by unfold ku; rw [Bc _ ht,GL ht r]
theorem II {ds:List De} {ts ts':List Th} (ht:nN ts ts'): ∀ {l l':List Th},nN l l'→(lQ ds ts' l').1=(lQ ds ts l).1
 | [],[],_=>rfl
 | [],_ ::_,h=>h.elim
 | _ ::_,[],h=>h.elim
 | t ::r,t' ::r',h=>by
   unfold lQ
   rw [h.1.2,GL ht]
   split
   ·rfl
   ·split
    ·rfl
    ·exact II ht h.2
theorem Oy {p p':Pr} (hd:p'.ds=p.ds) (h:nN p.ts p'.ts):(iJ p').1=(iJ p).1:=by
 have h1:=GJ (ds:=p.ds) (pre:=[]) (pre':=[]) h trivial
 have h2:=II (ds:=p.ds) h h
 unfold iJ
 rw [hd]
 cases ha:jP p.ds p.ts [] <;> cases hb:jP p.ds p'.ts [] <;> simp [ha,hb] at h1 ⊢
 exact h2
theorem Qi {p p':Pr} (hd:p'.ds=p.ds) (hm:mean p'=mean p) (j:Nat) (tn dF:ByteArray) (ar:aR) (f g:List UInt8→Bool) (h:eH):iI p' j tn dF ar f g h=iI p j tn dF ar f g h:=by
 unfold iI
 rw [Jk hm j (h:=h) (h':=h) rfl]
 simp only [AO hm,hm,hd]
theorem Cy {p p':Pr} (hd:p'.ds=p.ds) (hm:mean p'=mean p) (j:Nat) (tn dF:ByteArray): ∀(l ar:aR) (f g:List (List UInt8)),dh p' j tn dF l ar f g=dh p j tn dF l ar f g
 | .nil,_,_,_=>rfl
 | .cons h b e r,ar,f,g=>by
   rw [dh,dh,Qi hd hm]
   simp only [Cy hd hm j tn dF b,Cy hd hm j tn dF e,Cy hd hm j tn dF r]
theorem GN {p p':Pr} (hd:p'.ds=p.ds) (hm:mean p'=mean p) (dF:ByteArray): ∀(l:List Th) (j:Nat) (f g:List (List UInt8)),gG p' dF l j f g=gG p dF l j f g
 | [],_,_,_=>rfl
 | t ::r,j,f,g=>by
   rw [gG,gG,Cy hd hm]
   simp only [GN hd hm dF r]
theorem EZ (p:Pr) (j:Nat) (tn dF:ByteArray): ∀(l s ar:aR) (f g:List (List UInt8)),(dh p j tn dF l ar f g).err=0→
 dh p j tn dF (l.app s) ar f g=dh p j tn dF s ar (dh p j tn dF l ar f g).f (dh p j tn dF l ar f g).g
 | .nil,s,ar,f,g,_=>rfl
 | .cons h b e r,s,ar,f,g,h0=>by
   have h0':=h0
   rw [dh] at h0
   split at h0
   ·exact absurd (show (2:Int)=0 from h0) (by decide)
   ·rename_i q0
    split at h0
    ·rename_i h1; rw [show iI p j tn dF ar (mem f) (mem g) h=0 from h0] at h1; exact absurd h1 (by decide)
    ·rename_i q1
     split at h0
     ·rename_i h2; rw [h0] at h2; exact absurd h2 (by decide)
     ·rename_i q2
      split at h0
      ·rename_i h3; rw [h0] at h3; exact absurd h3 (by decide)
      ·rename_i q3
       show dh p j tn dF (.cons h b e (r.app s)) ar f g=_
       have ih:=EZ p j tn dF r s ar _ _ h0
       have e1: ∀r',dh p j tn dF (.cons h b e r') ar f g=dh p j tn dF r' ar (dh p j tn dF e (ar.app (.cons h b e .nil)) (dh p j tn dF b (ar.app (.cons h b e .nil)) (fL 12 h f) (fL 14 h g)).f (dh p j tn dF b (ar.app (.cons h b e .nil)) (fL 12 h f) (fL 14 h g)).g).f
        (dh p j tn dF e (ar.app (.cons h b e .nil)) (dh p j tn dF b (ar.app (.cons h b e .nil)) (fL 12 h f) (fL 14 h g)).f (dh p j tn dF b (ar.app (.cons h b e .nil)) (fL 12 h f) (fL 14 h g)).g).g:=fun r'=>by
        rw [dh,if_neg q0,if_neg q1,if_neg q2,if_neg q3]
       rw [e1,e1,ih]
theorem Ca (p:Pr) (dF:ByteArray) (t':Th): ∀(a:List Th) (t:Th) (j:Nat) (f g:List (List UInt8)),(gG p dF (a++[t]) j f g).err=0→
 ∃(j':Nat) (f' g':List (List UInt8)),(dh p j' t.nm dF t.body .nil f' g').err=0∧((dh p j' t'.nm dF t'.body .nil f' g').err≠0→gG p dF (a++[t']) j f g=dh p j' t'.nm dF t'.body .nil f' g')
 | [],t,j,f,g,h0=>by
   refine ⟨j,f,g,?_,fun hne=> ?_⟩
   ·rw [List.nil_append,gG] at h0
    split at h0
    ·rename_i h2; rw [h0] at h2; exact absurd h2 (by decide)
    ·rename_i h2; simpa using h2
   ·rw [List.nil_append,gG,if_pos (by simpa using hne)]
 | x ::a,t,j,f,g,h0=>by
   rw [List.cons_append,gG] at h0
   split at h0
   ·rename_i h2; rw [h0] at h2; exact absurd h2 (by decide)
   ·rename_i h2
    obtain ⟨j',f',g',h3,h4⟩:=Ca p dF t' a t _ _ _ h0
    exact ⟨j',f',g',h3,fun hne=>by rw [List.cons_append,gG,if_neg h2,h4 hne]⟩
theorem E8 {q:Th→Bool} {a:List Th} {t t':Th} (h:(a++[t]).all q=true) (ht:q t'=true):(a++[t']).all q=true:=by
 rw [List.all_append,Bool.and_eq_true] at *
 exact ⟨h.1,by rw [List.all_cons,ht]; rfl⟩
def qU:De:=⟨3,77,⟨#[120]⟩,0,0,⟨#[]⟩⟩
theorem Qs {p:Pr} (hm:wE p) (h0:(iV p).1=0):iV ⟨p.ds++[qU],p.ts⟩=(4,77):=by
 obtain ⟨h1,-⟩:=uR h0
 have hs:lN ⟨p.ds++[qU],p.ts⟩=true:=by
  unfold lN at h1 ⊢
  simp only [Bool.and_eq_true,List.all_append] at h1 ⊢
  exact ⟨⟨⟨h1.1.1,by rfl⟩,h1.1.2⟩,h1.2⟩
 have hd:jH (gQ++[qU]) [] 0 0 0 0=(4,77):=by decide +kernel
 unfold iV
 rw [hs,hm.ds]
 show (if (jH (gQ++[qU]) [] 0 0 0 0).1 != 0 then jH (gQ++[qU]) [] 0 0 0 0 else _)=_
 rw [hd]; rfl
theorem Bq {p:Pr} (h0:(iV p).1=0) {a:List Th} {t:Th} (hts:p.ts=a++[t]) (s:aR) (er ln:Int) (t':Th) (q:Pr) (hq1:q.ds=p.ds) (hq2:q.ts=a++[t']) (ht1:t'.nm=t.nm) (ht2:t'.bH=t.bH) (ht3:t'.body=t.body.app s)
 (hc:iw q.ts 0≤60) (hs:eP (t.body.app s)=true) (hne:er≠0)
 (he: ∀(j:Nat) (f g:List (List UInt8)),(dh p j t.nm (gM p) s .nil f g).err=er∧(dh p j t.nm (gM p) s .nil f g).line=ln):iV q=(er,ln):=by
 obtain ⟨h1,h2,h3,h4,h5,h6⟩:=uR h0
 have hN:nN p.ts q.ts:=by rw [hts,hq2]; exact DL ⟨ht1,ht2⟩ a []
 have hln:q.ts.length≤4:=by rw [zL hN]; exact h3
 have hsh:lN q=true:=by
  unfold lN at h1 ⊢
  simp only [Bool.and_eq_true,decide_eq_true_eq] at h1 ⊢
  rw [hq1,zL hN]
  refine ⟨⟨h1.1.1,?_⟩,h1.2⟩
  rw [hts] at h1
  rw [hq2]
  refine E8 h1.1.2 ?_
  have:=List.all_eq_true.1 h1.1.2 t (by simp)
  unfold kV at this ⊢
  simp only [Bool.and_eq_true] at this ⊢
  rw [ht1,ht2,ht3]
  exact ⟨this.1,hs⟩
 have hmn:mean q=mean p:=P9 hq1 hN
 have hth:(iJ q).1=0:=(Oy hq1 hN).trans h4
 have hhd:gM q=gM p:=Mg hN
 rw [hts] at h6
 obtain ⟨j',f',g',h7,h8⟩:=Ca p (gM p) t' a t 0 [] [] h6
 rw [ht1,ht3] at h8
 have h9:=EZ p j' t.nm (gM p) t.body s .nil f' g' h7
 obtain ⟨e1,e2⟩:=he j' (dh p j' t.nm (gM p) t.body .nil f' g').f (dh p j' t.nm (gM p) t.body .nil f' g').g
 rw [h9] at h8
 have h10:=h8 (by rw [e1]; exact hne)
 unfold iV
 rw [hsh,hhd,hq1,hth,h2,GN hq1 hmn,hq2,h10,e1,e2,← hq2,decide_eq_false (show ¬ (4:Int) < (q.ts.length:Nat) by omega),decide_eq_false (show ¬ 60 < iw q.ts 0 by omega)]
 rfl
theorem vZ {a b:ByteArray} (h:(a.data.toList == b.data.toList)=false):(a.toList == b.toList)=false:=by
 rw [Lib.toList_data,Lib.toList_data]; exact h
def uH:ByteArray:=⟨#[122,122]⟩
theorem Kq:lg gQ uH=none:=by
 unfold lg
 rw [List.find?_eq_none.2 fun d hd=> ?_]
 ·rfl
 ·simp only [gQ,List.mem_cons,List.not_mem_nil,or_false] at hd
  rcases hd with rfl | rfl | rfl | rfl | rfl | rfl | rfl | rfl | rfl <;> (rw [vZ (by rfl)]; decide)
theorem MK {p:Pr} (hm:wE p) (i:Int):mean p i uH=0:=by
 have hl:lW (jQ p.ts i) uH=false:=by
  have:jQ p.ts i=[]∨jQ p.ts i=gJ:=by
   unfold jQ
   split
   ·cases ht:p.ts[i.toNat]? with
    | none=>exact .inl rfl
    | some t=>exact .inr (hm.lc t (List.mem_of_getElem? ht))
   ·exact .inl rfl
  rcases this with e | e <;> rw [e]
  ·rfl
  ·unfold lW gJ
   rw [List.any_cons,List.any_cons,vZ (by rfl),vZ (by rfl)]; rfl
 have ht:lV p.ts uH=0:=by
  obtain ⟨n,-,-,hn⟩:=hm.ts
  have key: ∀t ∈ p.ts,(t.nm.toList == uH.toList)=false:=fun t ht=>by
   have h1:t.nm ∈ [gL,Lu,Lg,KI]:=List.mem_of_mem_take (hn ▸ List.mem_map_of_mem ht)
   simp only [List.mem_cons,List.not_mem_nil,or_false] at h1
   rcases h1 with e | e | e | e <;> rw [e] <;> exact vZ (by rfl)
  unfold lV
  rw [if_neg]
  rw [Bool.not_eq_true,List.any_eq_false]
  intro t h; rw [key t h]; decide
 unfold mean
 rw [hl,hm.ds,Kq,ht]; rfl
def newS1:aR:= .cons ⟨10,78,uH,⟨#[]⟩,.nil,0,0,⟨#[]⟩,.nil⟩ .nil .nil .nil
theorem Tt {p:Pr} (hm:wE p) (j:Nat) (tn dF:ByteArray) (f g:List (List UInt8)):(dh p j tn dF newS1 .nil f g).err=5∧(dh p j tn dF newS1 .nil f g).line=78:=by
 have e:iI p j tn dF .nil (mem f) (mem g) ⟨10,78,uH,⟨#[]⟩,.nil,0,0,⟨#[]⟩,.nil⟩=5:=by
  show dR [bC (mean p j uH) [6],_]=5
  rw [MK hm]; rfl
 unfold newS1
 rw [dh,if_neg (by decide),e]
 exact ⟨rfl,rfl⟩
def D7 (b:aR):aR:= .cons ⟨2,79,⟨#[]⟩,⟨#[]⟩,.nil,1,0,⟨#[]⟩,.nil⟩ b .nil .nil
def KY:aR:= .cons ⟨1,79,⟨#[120]⟩,⟨#[]⟩,.nil,1,0,⟨#[]⟩,.nil⟩ .nil .nil .nil
theorem Qa (p:Pr) (j:Nat) (tn dF:ByteArray) (b ar:aR) (f g:List (List UInt8)) (hl:ar.len < 6) (h:(dh p j tn dF b (ar.app (D7 b)) f g).err≠0):dh p j tn dF (D7 b) ar f g=dh p j tn dF b (ar.app (D7 b)) f g:=by
 have e:iI p j tn dF ar (mem f) (mem g) ⟨2,79,⟨#[]⟩,⟨#[]⟩,.nil,1,0,⟨#[]⟩,.nil⟩=0:=by
  have hs:jN 1 0 ⟨#[]⟩ .nil=true:=by rfl
  show (if jN 1 0 ⟨#[]⟩ .nil then (if decide (24 < (ext .nil).1) || decide (6 < (ext .nil).2) then 2 else oU p j 1 ⟨#[]⟩ .nil) else 3)=0
  rw [hs,if_pos rfl,if_neg (by decide +kernel)]; rfl
 have e1:fL 12 ⟨2,79,⟨#[]⟩,⟨#[]⟩,.nil,1,0,⟨#[]⟩,.nil⟩ f=f:=rfl
 have e2:fL 14 ⟨2,79,⟨#[]⟩,⟨#[]⟩,.nil,1,0,⟨#[]⟩,.nil⟩ g=g:=rfl
 unfold D7 at h ⊢
 rw [dh,if_neg (by simp; omega),e,if_neg (by decide),e1,e2,if_pos (by simpa using h)]
theorem Fb: ∀(a b:aR),(a.app b).len=a.len + b.len
 | .nil,b=>by simp [aR.app,aR.len]
 | .cons _ _ _ r,b=>by rw [aR.app,aR.len,aR.len,Fb r b]; omega
theorem Nk (p:Pr) (j:Nat) (tn dF:ByteArray) (ar:aR) (f g:List (List UInt8)) (hl:6≤ar.len):(dh p j tn dF KY ar f g).err=2∧(dh p j tn dF KY ar f g).line=79:=by
 unfold KY
 rw [dh,if_pos (by simp; omega)]
 exact ⟨rfl,rfl⟩
def vo:Nat→aR
 | 0=>KY
 | n + 1=>D7 (vo n)
theorem F4 (p:Pr) (j:Nat) (tn dF:ByteArray) (f g:List (List UInt8)): ∀(n:Nat) (ar:aR),ar.len + n=6→(dh p j tn dF (vo n) ar f g).err=2∧(dh p j tn dF (vo n) ar f g).line=79
 | 0,ar,h=>Nk p j tn dF ar f g (by omega)
 | n + 1,ar,h=>by
   have ih:=F4 p j tn dF f g n (ar.app (D7 (vo n))) (by rw [Fb]; show ar.len + 1 + n=6; omega)
   rw [vo,Qa p j tn dF _ _ _ _ (by omega) (by rw [ih.1]; decide)]
   exact ih
theorem BG (ds:List De) (ts:List Th) (t':Th) (hl:t'.bH.length≤4) (hu:ku ds ts t'.bH []=true): ∀(a:List Th) (t:Th),(lQ ds ts (a++[t])).1=0→lQ ds ts (a++[t'])=(4,t'.line)
 | [],t,_=>by
   rw [List.nil_append,lQ,if_neg (by simp; omega),if_pos hu]
 | x ::a,t,h=>by
   rw [List.cons_append,lQ] at h ⊢
   split at h
   ·exact absurd (show (2:Int)=0 from h) (by decide)
   ·rename_i q1
    split at h
    ·exact absurd (show (4:Int)=0 from h) (by decide)
    ·rename_i q2
     rw [if_neg q1,if_neg q2]
     exact BG ds ts t' hl hu a t h
theorem Ch {p:Pr} (h:(iJ p).1=0):jP p.ds p.ts []=none:=by
 unfold iJ at h
 cases ha:jP p.ds p.ts [] with
 | none=>rfl
 | some x=>rw [ha] at h; exact absurd (show (4:Int)=0 from h) (by decide)
theorem Hz {ds:List De} {ts:List Th} (hu:iO ts gL.toList=true):ku ds ts (gJ++[gL]) []=true:=by
 simp only [gJ,List.cons_append,List.nil_append,ku,hu,Bool.or_true,Bool.true_or]
theorem Qq {p:Pr} (hm:wE p) (h0:(iV p).1=0) {a:List Th} {t:Th} (hts:p.ts=a++[t]):iV ⟨p.ds,a++[{t with bH:=gJ++[gL],line:=80}]⟩=(4,80):=by
 obtain ⟨h1,h2,h3,h4,h5,h6⟩:=uR h0
 have ht:t ∈ p.ts:=by rw [hts]; simp
 have hsh:lN ⟨p.ds,a++[{t with bH:=gJ++[gL],line:=80}]⟩=true:=by
  unfold lN at h1 ⊢
  simp only [Bool.and_eq_true] at h1 ⊢
  refine ⟨⟨h1.1.1,?_⟩,by simp⟩
  rw [hts] at h1
  refine E8 h1.1.2 ?_
  have:=List.all_eq_true.1 h1.1.2 t (by simp)
  unfold kV at this ⊢
  simp only [Bool.and_eq_true] at this ⊢
  exact ⟨⟨this.1.1,by rfl⟩,this.2⟩
 have hu:iO (a++[{t with bH:=gJ++[gL],line:=80}]) gL.toList=true:=by
  obtain ⟨n,-,hn1,hn⟩:=hm.ts
  obtain ⟨k,rfl⟩: ∃k,n=k + 1:=⟨n - 1,by omega⟩
  unfold iO
  rw [List.take_succ_cons,hts] at hn
  cases a with
  | nil=>
    simp only [List.nil_append,List.map_cons,List.map_nil,List.cons.injEq] at hn
    simp [hn.1]
  | cons x a=>
    simp only [List.cons_append,List.map_cons,List.cons.injEq] at hn
    simp [hn.1]
 have hA:jP p.ds (a++[{t with bH:=gJ++[gL],line:=80}]) []=none:=by
  have hz:=Ch h4
  have key: ∀(b pre:List Th) (x y:Th),x.nm=y.nm→(jP p.ds (b++[x]) pre=none→jP p.ds (b++[y]) pre=none):=fun b=>by
   induction b with
   | nil=>
     intro pre x y e hx
     rw [List.nil_append,jP] at hx ⊢
     rw [← e]
     split at hx
     ·cases hx
     ·rename_i q; rw [if_neg q]; rfl
   | cons z b ih=>
     intro pre x y e hx
     rw [List.cons_append,jP] at hx ⊢
     split at hx
     ·cases hx
     ·rename_i q; rw [if_neg q]; exact ih _ x y e hx
  rw [hts] at hz
  exact key a [] t _ rfl hz
 have hB:lQ p.ds (a++[{t with bH:=gJ++[gL],line:=80}]) (a++[{t with bH:=gJ++[gL],line:=80}])=(4,80):=by
  refine BG _ _ {t with bH:=gJ++[gL],line:=80} (by simp [gJ]) ?_ a t ?_
  ·exact Hz hu
  ·have hz:(lQ p.ds p.ts p.ts).1=0:=by
    have:=h4
    unfold iJ at this
    rw [Ch h4] at this; exact this
   have hn: ∀l,(lQ p.ds (a++[{t with bH:=gJ++[gL],line:=80}]) l).1=(lQ p.ds p.ts l).1:=fun l=>by
    have nJ: ∀x,iO (a++[{t with bH:=gJ++[gL],line:=80}]) x=iO p.ts x:=fun x=>by
     rw [hts]; unfold iO; simp
    have hlo: ∀(l pre:List ByteArray),ku p.ds (a++[{t with bH:=gJ++[gL],line:=80}]) l pre=ku p.ds p.ts l pre:=fun l=>by
     induction l with
     | nil=>intro pre; rfl
     | cons s r ih=>intro pre; rw [ku,ku,ih,nJ]
    induction l with
    | nil=>rfl
    | cons x r ih=>rw [lQ,lQ,hlo,apply_ite Prod.fst,apply_ite Prod.fst,apply_ite Prod.fst,apply_ite Prod.fst,ih]
   rw [hn,← hts]; exact hz
 have hth:iJ ⟨p.ds,a++[{t with bH:=gJ++[gL],line:=80}]⟩=(4,80):=by
  unfold iJ; rw [hA]; exact hB
 have hln:(a++[{t with bH:=gJ++[gL],line:=80}]).length≤4:=by rw [hts] at h3; simpa using h3
 unfold iV
 rw [hsh,hth]
 show (if (jH p.ds [] 0 0 0 0).1 != 0 then _ else if decide ((4:Int) < ((a++[{t with bH:=gJ++[gL],line:=80}]).length:Nat)) then _ else _)=_
 rw [h2,decide_eq_false (by omega)]
 rfl
end Go.Proofs.YtnknfoibmgphnaaDoor
end
