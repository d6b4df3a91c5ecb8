/-
  A program without static errors: the names that its code needs are found. Plain law.
  The objects as the program makes them (locks found by a map) are those of the document. Plain law.
-/
import Derived.Test.YtdajkddgnfgijaaGreatDoorGPJ
import Derived.Test.YtdajkddgnfgijaaGreatDoorGML
section
set_option linter.unusedSimpArgs false
set_option linter.unusedVariables false
namespace Go.Proofs.YtdajkddgnfgijaaGreatDoor
open Go.RowKit
namespace Md
theorem BJ (p:Pr) (j:Nat) (tn fM:ByteArray): ∀(l ar:aP) (f g:List (List UInt8)),(gL p j tn fM l ar f g).err=0→l.Ev (fun h=> ∃ar f g,kC p j tn fM ar f g h=0)
 | .nil,_,_,_,_=>trivial
 | .cons h b e r,ar,f,g,h0=>by
   rw [gL] at h0
   split at h0
   ·exact absurd (show (2:Int)=0 from h0) (by decide)
   ·split at h0
    ·rename_i h1; rw [show kC p j tn fM ar (mem f) (mem g) h=0 from h0] at h1; exact absurd h1 (by decide)
    ·rename_i h1
     split at h0
     ·rename_i h2; rw [h0] at h2; exact absurd h2 (by decide)
     ·rename_i h2
      split at h0
      ·rename_i h3; rw [h0] at h3; exact absurd h3 (by decide)
      ·rename_i h3
       refine ⟨⟨ar,mem f,mem g,by simpa using h1⟩,BJ p j tn fM b _ _ _ (by simpa using h2),BJ p j tn fM e _ _ _ (by simpa using h3),BJ p j tn fM r _ _ _ h0⟩
theorem Hy (p:Pr) (fM:ByteArray): ∀(l:List Th) (j:Nat) (f g:List (List UInt8)),(kK p fM l j f g).err=0→ ∀t ∈ l,∃j:Nat,t.body.Ev (fun h=> ∃ar f g,kC p j t.nm fM ar f g h=0)
 | [],_,_,_,_=>fun t h=>by cases h
 | t ::r,j,f,g,h0=>by
   rw [kK] at h0
   split at h0
   ·rename_i h2; rw [h0] at h2; exact absurd h2 (by decide)
   ·rename_i h2
    intro x hx
    rcases List.mem_cons.1 hx with rfl | hx
    ·exact ⟨j,BJ p j _ fM _ _ _ _ (by simpa using h2)⟩
    ·exact Hy p fM r _ _ _ h0 x hx
theorem OJ: ∀(l:List Th) (W:Wo) (i:Nat),(yO W i l).cs=W.cs∧(yO W i l).ls=W.ls∧(yO W i l).ns=W.ns∧(yO W i l).fs=W.fs
 | [],_,_=>⟨rfl,rfl,rfl,rfl⟩
 | t ::r,W,i=>by rw [yO]; exact OJ r _ _
theorem Km {d:De} (hd:d.kind=1): ∀ {l:List De} (W:Wo),(d ∈ l∨ ∃c ∈ W.cs,c.nm=d.nm)→ ∃c ∈ (l.foldl DW W).cs,c.nm=d.nm
 | [],W,h=>by
   rcases h with h | h
   ·cases h
   ·exact h
 | x ::r,W,h=>by
   rw [List.foldl_cons]
   refine Km hd (DW W x) ?_
   rcases h with h | ⟨c,hc,e⟩
   ·rcases List.mem_cons.1 h with rfl | h
    ·right
     refine ⟨⟨d.nm,(0:Nat),d.size,d.kind == 2,d.init⟩,?_,rfl⟩
     have hk:(d.kind == 1 || d.kind == 2)=true:=by rw [hd]; rfl
     unfold DW
     rw [if_pos hk]
     show _ ∈ W.cs++Je d
     refine List.mem_append_right _ ?_
     unfold Je
     obtain ⟨n,hn⟩: ∃n,(max d.size 1).toNat=n + 1:=⟨(max d.size 1).toNat - 1,by omega⟩
     rw [hn,Ar]; exact List.mem_cons_self
    ·exact .inl h
   ·right
    refine ⟨c,?_,e⟩
    unfold DW
    split
    ·exact List.mem_append_left _ hc
    ·split
     ·exact hc
     ·split <;> exact hc
theorem AQ {p:Pr} {i:Int} {nm:ByteArray} (h:mean p i nm=3):0≤(kL p).cell nm:=by
 unfold mean at h
 split at h
 ·exact absurd h (by decide)
 ·unfold qd at h
  cases hf:p.ds.find? (fun d=>d.nm.toList == nm.toList) with
  | none=>rw [hf] at h; simp at h; unfold qE at h; split at h <;> exact absurd h (by decide)
  | some d=>
    rw [hf] at h
    simp only [Option.map_some,Option.getD_some] at h
    have hd:d.kind=1:=by
     unfold fG at h
     split at h
     ·rename_i hk; simpa using hk
     ·split at h
      ·exact absurd h (by decide)
      ·split at h
       ·exact absurd h (by decide)
       ·split at h
        ·exact absurd h (by decide)
        ·split at h
         ·exact absurd h (by decide)
         ·split at h <;> exact absurd h (by decide)
    have hm:=List.mem_of_find?_eq_some hf
    have hn:=List.find?_some hf
    obtain ⟨c,hc,e⟩:=Km hd rP (.inl hm)
    unfold Wo.cell fV kL
    refine Ki _ _ _ (by decide) ⟨c.nm,List.mem_map.2 ⟨c,?_,rfl⟩,?_⟩
    ·rw [(OJ _ _ _).1]; exact hc
    ·rw [e]; simpa using hn
theorem Ew {p:Pr} {i:Int} : ∀ {l:bL},tH p i l=0→BX (kL p) l=true
 | .nil,_=>rfl
 | .cons op n nm kids rest,h=>by
   rw [tH] at h
   split at h
   ·rename_i h1
    split at h
    ·rename_i h2
     rw [BX,Ew (by simpa using h2),Ew h]
     have h1:rR p i op nm=0:=by simpa using h1
     unfold rR at h1
     by_cases h3:op=3
     ·subst h3
      have:=rF (show bD (mean p i nm) [3]=0 from h1)
      simp [AQ (this)]
     ·simp [h3]
    ·rename_i h2; rw [h] at h2; exact absurd rfl h2
   ·rename_i h1; rw [h] at h1; exact absurd rfl h1
theorem Di {p:Pr} {i op n:Int} {nm:ByteArray} {kids:bL} (h:kU p i op n nm kids=0):uo (kL p) op nm kids=true:=by
 unfold kU at h
 split at h
 ·split at h
  ·exact absurd h (by decide)
  ·unfold xP at h
   split at h
   ·rename_i h1
    have h1:rR p i op nm=0:=by simpa using h1
    unfold uo
    rw [Ew h]
    unfold rR at h1
    by_cases h3:op=3
    ·subst h3
     have:=rF (show bD (mean p i nm) [3]=0 from h1)
     simp [AQ (this)]
    ·simp [h3]
   ·rename_i h1; rw [h] at h1; exact absurd rfl h1
 ·exact absurd h (by decide)
theorem len_nil {l:bL} (h:l.len=0):l= .nil:=by
 cases l with
 | nil=>rfl
 | cons=>simp [bL.len] at h
theorem OZ {W:Wo} {op n:Int} {nm:ByteArray} {kids:bL} (h:tV op n nm kids.len=true):uo W op nm kids=true:=by
 unfold tV at h
 simp only [Bool.and_eq_true,beq_iff_eq] at h
 obtain ⟨⟨⟨h1,-⟩,-⟩,h2⟩:=h
 rw [len_nil h2,h1]; rfl
theorem Mt {h:aX} {bl el:Nat} (hs:oK h bl el=true):h.idx.len≤1∧(h.op≠1→h.idx= .nil)∧(fX h.op=false→tV h.dN h.xn h.dM h.aR.len=true)∧1≤h.op∧h.op≤15:=by
 unfold oK at hs
 simp only [Bool.and_eq_true] at hs
 obtain ⟨⟨⟨h1,-⟩,⟨h2,h3⟩,-⟩,h4,-⟩:=hs
 unfold fO at h1
 simp only [Bool.and_eq_true,decide_eq_true_eq] at h1 h2
 refine ⟨h2,fun hne=> ?_,fun hx=> ?_,h1⟩
 ·have hl:h.idx.len≠1:=fun e=>by
   rw [e] at h3
   unfold fI at h3
   simp at h3; exact hne h3
  exact len_nil (by omega)
 ·rw [hx] at h4; simpa using h4
theorem Vo {p:Pr} {j:Nat} {tn fM:ByteArray} {ar:aP} {f g:List UInt8→Bool} {h:aX} {bl el:Nat} (hs:oK h bl el=true) (h0:kC p j tn fM ar f g h=0):Al (kL p) h=true:=by
 obtain ⟨hl,hi,hx,ho1,ho2⟩:=Mt hs
 have key: ∀(he:uo (kL p) h.dN h.dM h.aR=true),h.op≠1→Al (kL p) h=true:=fun he hne=>by
  unfold Al; rw [he,hi hne]; rfl
 by_cases h1:h.op=1
 ·unfold kC at h0
  rw [h1,if_pos (by rfl)] at h0
  unfold CO at h0
  split at h0
  ·rename_i hz
   have hz:h.idx.len=0:=by simpa using hz
   have:=Di (jg h0 _ (List.mem_cons_of_mem _ List.mem_cons_self))
   unfold Al; rw [this,len_nil hz]; rfl
  ·rename_i hz
   have hz:h.idx.len≠0:=by simpa using hz
   have e1:=rF (jg h0 _ List.mem_cons_self)
   have e2:=jg h0 _ (List.mem_cons_of_mem _ List.mem_cons_self)
   have e3:=Di (jg h0 _ (List.mem_cons_of_mem _ (List.mem_cons_of_mem _ List.mem_cons_self)))
   have ec:=AQ (e1)
   unfold Al
   cases hidx:h.idx with
   | nil=>rw [hidx] at hz; exact absurd rfl hz
   | cons op n nm kids r=>
     rw [hidx] at e2 hl
     have hr:r= .nil:=len_nil (by simp only [bL.len] at hl; omega)
     have:=Di (show kU p j op n nm kids=0 from e2)
     unfold uo at this
     rw [e3,hr,BX,this]
     simp [BX,ec]
 ·have hne:=h1
  by_cases hf:fX h.op=true
  ·refine key (Di (p:=p) (i:=j) (n:=h.xn) ?_) hne
   unfold fX at hf
   simp only [Bool.or_eq_true,beq_iff_eq] at hf
   rcases hf with (hf | hf) | (hf | hf)
   ·exact absurd hf hne
   ·unfold kC at h0; rw [hf] at h0; exact h0
   ·unfold kC at h0; rw [hf] at h0; exact h0
   ·unfold kC at h0; rw [hf] at h0
    exact jg (show eP _=0 from h0) _ (by simp)
  ·exact key (OZ (hx (by simpa using hf))) hne
theorem zx: ∀ {l:aP},iy l=true→l.Ev (fun h=> ∃bl el,oK h bl el=true)
 | .nil,_=>trivial
 | .cons h b e r,hs=>by
   rw [iy] at hs
   simp only [Bool.and_eq_true] at hs
   exact ⟨⟨_,_,hs.1.1⟩,zx hs.1.2.1,zx hs.1.2.2,zx hs.2⟩
theorem wX {p:Pr} (h:(nT p).1=0):tq p=true∧(mq p.ds [] 0 0 0 0).1=0∧p.ts.length≤4∧(oH p).1=0∧wP p.ts 0≤60∧(kK p (nQ p) p.ts 0 [] []).err=0:=by
 unfold nT at h
 split at h
 ·exact absurd h (by decide)
 ·rename_i h1
  split at h
  ·rename_i h2; rw [h] at h2; exact absurd h2 (by decide)
  ·rename_i h2
   split at h
   ·exact absurd h (by decide)
   ·rename_i h3
    split at h
    ·rename_i h4; rw [h] at h4; exact absurd h4 (by decide)
    ·rename_i h4
     split at h
     ·exact absurd h (by decide)
     ·rename_i h5
      simp only [decide_eq_true_eq] at h3 h5
      exact ⟨by simpa using h1,by simpa using h2,by omega,by simpa using h4,by omega,h⟩
theorem okP {p:Pr} (h:(nT p).1=0): ∀t ∈ p.ts,t.body.Ev (fun h=>Al (kL p) h=true):=by
 obtain ⟨h1,-,-,-,-,h6⟩:=wX h
 intro t ht
 obtain ⟨j,hj⟩:=Hy p _ _ _ _ _ h6 t ht
 unfold tq at h1
 simp only [Bool.and_eq_true] at h1
 have h2:=List.all_eq_true.1 h1.1.2 t ht
 unfold sW at h2
 simp only [Bool.and_eq_true] at h2
 refine (hj.and (zx h2.2)).imp fun x hx=> ?_
 obtain ⟨⟨ar,f,g,h0⟩,bl,el,hs⟩:=hx
 exact Vo hs h0
end Md
end Go.Proofs.YtdajkddgnfgijaaGreatDoor
end
section
set_option linter.unusedSimpArgs false
set_option linter.unusedVariables false
namespace Go.Proofs.YtdajkddgnfgijaaGreatDoor
open Go.RowKit
namespace Md
def mg (d:De):Nat→Nat→List AX
 | 0,_=>[]
 | n + 1,k=>⟨d.nm,k,d.size,false,d.init⟩ ::mg d n (k + 1)
def iU (d:De):List AX:=if d.size == 0 then [⟨d.nm,0,0,d.kind == 2,d.init⟩] else mg d d.size.toNat 0
def gD (W:Wo) (g:List UInt8→Int) (d:De):List UInt8→Int:=if d.kind == 3 || d.kind == 4 then fun x=>if x=d.nm.toList then (W.ls.length:Int) else g x else g
def iL (W:Wo) (g:List UInt8→Int) (d:De):Wo:=
 if d.kind == 1 || d.kind == 2 then {W with cs:=W.cs++iU d} else if d.kind == 3 || d.kind == 4 then {W with ls:=W.ls++[⟨d.nm,d.kind == 4⟩]} else
 if d.kind == 5 then {W with ns:=W.ns++[⟨d.nm,g d.on.toList⟩]} else if d.kind == 6 then {W with fs:=W.fs++[d.nm]} else W
def Ci:List De→Wo→(List UInt8→Int)→Wo
 | [],W,_=>W
 | d ::r,W,g=>Ci r (iL W g d) (gD W g d)
theorem Nu {d:De} (h:(d.kind == 2)=false): ∀(n k:Nat),mg d n k=Ar d n k
 | 0,_=>rfl
 | n + 1,k=>by rw [mg,Ar,Nu h n,h]
theorem VB {d:De} (hs:kF d=true):iU d=Je d:=by
 unfold kF at hs
 simp only [Bool.and_eq_true,decide_eq_true_eq] at hs
 obtain ⟨⟨⟨⟨h1,h2⟩,-⟩,h3,h4⟩,-⟩:=hs
 unfold iU Je
 split
 ·rename_i h0
  have h0:d.size=0:=by simpa using h0
  rw [h0]
  show _=Ar d 1 0
  rw [Ar,Ar,h0]; rfl
 ·rename_i h0
  have h0:d.size≠0:=by simpa using h0
  have hk:d.kind=1:=by simpa [h0] using h4
  rw [Nu (by rw [hk]; rfl),show max d.size 1=d.size by omega]
theorem Ia: ∀(l:List ByteArray) (s nm:ByteArray) (k:Int),(∀x ∈ l,x.toList≠s.toList)→qp (l++[s]) nm k=if nm.toList=s.toList then k + l.length else qp l nm k
 | [],s,nm,k,_=>by
   simp only [List.nil_append,qp,List.length_nil]
   by_cases h:nm.toList=s.toList
   ·simp [h]
   ·have: ¬ s.toList=nm.toList:=fun e=>h e.symm
    simp [h,this]
 | y ::r,s,nm,k,hn=>by
   have ih:=Ia r s nm (k + 1) (fun x hx=>hn x (List.mem_cons_of_mem _ hx))
   have hy:=hn y List.mem_cons_self
   rw [List.cons_append,qp,ih,qp]
   by_cases h:nm.toList=s.toList
   ·rw [if_pos h,if_pos h]
    have:(y.toList == nm.toList)=false:=by rw [h]; simpa using hy
    rw [this]
    simp only [List.length_cons]
    rw [if_neg (by decide)]; omega
   ·rw [if_neg h,if_neg h]
structure vo (pre:List De) (W:Wo) (g:List UInt8→Int):Prop where
 sub: ∀s ∈ W.ls.map (·.nm),∃d ∈ pre,d.nm.toList=s.toList
 eq: ∀x:ByteArray,0≤fV (W.ls.map (·.nm)) x→g x.toList=fV (W.ls.map (·.nm)) x
 has: ∀d ∈ pre,d.kind=3∨d.kind=4→0≤fV (W.ls.map (·.nm)) d.nm
theorem Ti {pre:List De} {l:List UInt8} (h:mD pre l=0): ∀d ∈ pre,d.nm.toList≠l:=by
 have hf:=KH (pre:=pre) (l:=l) (by rw [h]; rfl)
 intro d hd e
 have:=List.find?_eq_none.1 hf d hd
 simp [e] at this
theorem vo.step {pre:List De} {W:Wo} {g:List UInt8→Int} {d:De} (h:vo pre W g) (hd:mD pre d.nm.toList=0):vo (pre++[d]) (iL W g d) (gD W g d):=by
 have hz:=Ti hd
 by_cases hk:(d.kind == 3 || d.kind == 4)=true
 ·have h12:(d.kind == 1 || d.kind == 2)=false:=by
   simp only [Bool.or_eq_true,beq_iff_eq] at hk
   rcases hk with hk | hk <;> rw [hk] <;> rfl
  have e1:(iL W g d).ls=W.ls++[⟨d.nm,d.kind == 4⟩]:=by unfold iL; rw [h12,hk]; rfl
  have e2:gD W g d=fun x=>if x=d.nm.toList then (W.ls.length:Int) else g x:=by unfold gD; rw [if_pos hk]
  have e3:(iL W g d).ls.map (·.nm)=W.ls.map (·.nm)++[d.nm]:=by rw [e1]; simp
  have hne: ∀x ∈ W.ls.map (·.nm),x.toList≠d.nm.toList:=fun x hx e=>by
   obtain ⟨d',hd',e'⟩:=h.sub x hx
   exact hz d' hd' (e'.trans e)
  have e4: ∀x,fV ((iL W g d).ls.map (·.nm)) x=if x.toList=d.nm.toList then (W.ls.length:Int) else fV (W.ls.map (·.nm)) x:=fun x=>by
   rw [e3]; unfold fV; rw [Ia _ _ _ _ hne]; simp
  refine ⟨fun s hs=> ?_,fun x hx=> ?_,fun d' hd' hk'=> ?_⟩
  ·rw [e3] at hs
   rcases List.mem_append.1 hs with hs | hs
   ·obtain ⟨d',h1,h2⟩:=h.sub s hs
    exact ⟨d',List.mem_append_left _ h1,h2⟩
   ·rw [List.mem_singleton.1 hs]
    exact ⟨d,List.mem_append_right _ (List.mem_singleton.2 rfl),rfl⟩
  ·rw [e4] at hx ⊢
   rw [e2]
   show (if _ then _ else _)=_
   by_cases hc:x.toList=d.nm.toList
   ·rw [if_pos hc,if_pos hc]
   ·rw [if_neg hc] at hx ⊢
    rw [if_neg hc]; exact h.eq x hx
  ·rw [e4]
   split
   ·omega
   ·rename_i hc
    rcases List.mem_append.1 hd' with hd' | hd'
    ·exact h.has d' hd' hk'
    ·rw [List.mem_singleton.1 hd'] at hc; exact absurd rfl hc
 ·have hk:(d.kind == 3 || d.kind == 4)=false:=by simpa using hk
  have e1:(iL W g d).ls=W.ls:=by
   unfold iL; rw [hk]
   split
   ·rfl
   ·rw [if_neg (by decide)]
    split
    ·rfl
    ·split <;> rfl
  have e2:gD W g d=g:=by unfold gD; rw [hk]; rfl
  rw [e2]
  refine ⟨fun s hs=> ?_,fun x hx=> ?_,fun d' hd' hk'=> ?_⟩
  ·rw [e1] at hs
   obtain ⟨d',h1,h2⟩:=h.sub s hs
   exact ⟨d',List.mem_append_left _ h1,h2⟩
  ·rw [e1] at hx ⊢; exact h.eq x hx
  ·rw [e1]
   rcases List.mem_append.1 hd' with hd' | hd'
   ·exact h.has d' hd' hk'
   ·rw [List.mem_singleton.1 hd'] at hk'
    simp only [Bool.or_eq_false_iff,beq_eq_false_iff_ne] at hk
    rcases hk' with e | e
    ·exact absurd e hk.1
    ·exact absurd e hk.2
theorem LZ {d:De} (h:fG d=4):d.kind=3:=by
 unfold fG at h
 split at h
 ·split at h <;> exact absurd h (by decide)
 ·split at h
  ·exact absurd h (by decide)
  ·split at h
   ·rename_i hk; simpa using hk
   ·split at h
    ·exact absurd h (by decide)
    ·split at h
     ·exact absurd h (by decide)
     ·split at h <;> exact absurd h (by decide)
theorem vo.cond {pre:List De} {W:Wo} {g:List UInt8→Int} {on:ByteArray} (h:vo pre W g) (hm:mD pre on.toList=4):g on.toList=fV (W.ls.map (·.nm)) on:=by
 unfold mD at hm
 cases hf:pre.find? (fun d=>d.nm.toList == on.toList) with
 | none=>rw [hf] at hm; exact absurd hm (by decide)
 | some d=>
   rw [hf] at hm
   have hd:=LZ (show fG d=4 from hm)
   have h1:=List.mem_of_find?_eq_some hf
   have h2:=List.find?_some hf
   have h2:d.nm.toList=on.toList:=by simpa using h2
   refine h.eq on ?_
   have:=h.has d h1 (.inl hd)
   unfold fV at this ⊢
   rcases Dn (W.ls.map (·.nm)) d.nm 0 with h3 | h3
   ·omega
   ·have e: ∀(l:List ByteArray) (k:Int),qp l on k=qp l d.nm k:=fun l=>by
     induction l with
     | nil=>intro k; rfl
     | cons s r ih=>intro k; rw [qp,qp,ih,h2]
    rw [e]; exact this
theorem RL: ∀(l pre:List De) (W:Wo) (g:List UInt8→Int) (c x n f:Int),(∀d ∈ l,kF d=true)→vo pre W g→(mq l pre c x n f).1=0→Ci l W g=l.foldl DW W
 | [],_,_,_,_,_,_,_,_,_,_=>rfl
 | d ::r,pre,W,g,c,x,n,f,hs,hI,h0=>by
   have hsd:=hs d List.mem_cons_self
   rw [mq] at h0
   split at h0
   ·exact absurd (show (4:Int)=0 from h0) (by decide)
   ·rename_i h1
    split at h0
    ·exact absurd (show (2:Int)=0 from h0) (by decide)
    ·split at h0
     ·exact absurd (show (2:Int)=0 from h0) (by decide)
     ·split at h0
      ·exact absurd (show (5:Int)=0 from h0) (by decide)
      ·split at h0
       ·exact absurd (show (6:Int)=0 from h0) (by decide)
       ·rename_i h5
        have h1:mD pre d.nm.toList=0:=by simpa using h1
        have e:iL W g d=DW W d:=by
         unfold iL DW
         rw [VB hsd]
         split
         ·rfl
         ·split
          ·rfl
          ·split
           ·rename_i hk
            have:mD pre d.on.toList=4:=by simpa [hk] using h5
            rw [hI.cond this]
           ·rename_i k1 k2 k3
            have hk6:d.kind=6:=by
             unfold kF at hsd
             simp only [Bool.and_eq_true,decide_eq_true_eq] at hsd
             obtain ⟨⟨⟨⟨q1,q2⟩,-⟩,-⟩,-⟩:=hsd
             simp only [Bool.or_eq_true,beq_iff_eq,not_or] at k1 k2 k3
             omega
            rw [hk6]; rfl
        rw [Ci,List.foldl_cons,e]
        have:=hI.step h1
        rw [e] at this
        exact RL r (pre++[d]) _ _ _ _ _ _ (fun y hy=>hs y (List.mem_cons_of_mem _ hy)) this h0
theorem vo.start:vo [] rP (fun _=>0):=by
 refine ⟨fun s hs=>(by cases hs),fun x hx=> ?_,fun d hd=>(by cases hd)⟩
 have:fV (rP.ls.map (·.nm)) x= -1:=rfl
 omega
theorem XE {p:Pr} (h:(nT p).1=0):Ci p.ds rP (fun _=>0)=p.ds.foldl DW rP:=by
 obtain ⟨h1,h2,-⟩:=wX h
 unfold tq at h1
 simp only [Bool.and_eq_true] at h1
 exact RL _ _ _ _ _ _ _ _ (fun d hd=>List.all_eq_true.1 h1.1.1 d hd) vo.start h2
end Md
end Go.Proofs.YtdajkddgnfgijaaGreatDoor
end
