/- A program without static errors: the names that its code needs are found. Plain law. And what hangs on it. -/
import Derived.Test.YtgjmahnblcajbaaGreatDoorGPJ
import Derived.Test.YtgjmahnblcajbaaGreatDoorGML
set_option linter.unusedSimpArgs false
set_option linter.unusedVariables false
set_option maxHeartbeats 40000000
set_option maxRecDepth 1000000
namespace Go.Proofs.YtgjmahnblcajbaaGreatDoor
open Go.RowKit
namespace Md
theorem Fh (p:Pr) (j:Nat) (tn fU:ByteArray): ∀(l ar:aJ) (f g:List (List UInt8)),(gY p j tn fU l ar f g).err=0->l.Ev (fun h=> ∃ar f g,lG p j tn fU ar f g h=0)
 | .nil,_,_,_,_=>trivial
 | .cons h b e r,ar,f,g,h0=>by
   rw [gY] at h0;split at h0
   ·exact absurd (show (2:Int)=0 from h0) (by decide)
   ·split at h0
    ·rename_i h1; rw [show lG p j tn fU ar (mem f) (mem g) h=0 from h0] at h1; exact absurd h1 (by decide)
    ·rename_i h1;split at h0
     ·rename_i h2; rw [h0] at h2; exact absurd h2 (by decide)
     ·rename_i h2;split at h0
      ·rename_i h3; rw [h0] at h3; exact absurd h3 (by decide)
      ·rename_i h3;refine ⟨⟨ar,mem f,mem g,by simpa using h1⟩,Fh p j tn fU b _ _ _ (by simpa using h2),Fh p j tn fU e _ _ _ (by simpa using h3),Fh p j tn fU r _ _ _ h0⟩
theorem OC (p:Pr) (fU:ByteArray): ∀(l:List Th) (j:Nat) (f g:List (List UInt8)),(lQ p fU l j f g).err=0-> ∀t ∈ l,∃j:Nat,t.body.Ev (fun h=> ∃ar f g,lG p j t.nm fU ar f g h=0)
 | [],_,_,_,_=>fun t h=>by cases h
 | t ::r,j,f,g,h0=>by
   rw [lQ] at h0;split at h0
   ·rename_i h2; rw [h0] at h2; exact absurd h2 (by decide)
   ·rename_i h2;intro x hx;rcases List.mem_cons.1 hx with rfl | hx
    ·exact ⟨j,Fh p j _ fU _ _ _ _ (by simpa using h2)⟩
    ·exact OC p fU r _ _ _ h0 x hx
theorem OI: ∀(l:List Th) (W:Wo) (i:Nat),(CB W i l).cs=W.cs∧(CB W i l).ls=W.ls∧(CB W i l).ns=W.ns∧(CB W i l).fs=W.fs
 | [],_,_=>⟨rfl,rfl,rfl,rfl⟩
 | t ::r,W,i=>by rw [CB]; exact OI r _ _
theorem QK {d:De} (hd:d.kind=1): ∀ {l:List De} (W:Wo),(d ∈ l∨ ∃c ∈ W.cs,c.nm=d.nm)-> ∃c ∈ (l.foldl Bd W).cs,c.nm=d.nm
 | [],W,h=>by
   rcases h with h | h
   ·cases h
   ·exact h
 | x ::r,W,h=>by
   rw [List.foldl_cons];refine QK hd (Bd W x) ?_;rcases h with h | ⟨c,hc,e⟩
   ·rcases List.mem_cons.1 h with rfl | h
    ·right;refine ⟨⟨d.nm,(0:Nat),d.size,d.kind == 2,d.init⟩,?_,rfl⟩;have hk:(d.kind == 1 || d.kind == 2)=true:=(by rw [hd]; rfl);unfold Bd;rw [if_pos hk];show _ ∈ W.cs++Nk d;refine List.mem_append_right _ ?_;unfold Nk;obtain ⟨n,hn⟩: ∃n,(max d.size 1).toNat=n + 1:=⟨(max d.size 1).toNat - 1,by omega⟩;rw [hn,Bn]; exact List.mem_cons_self
    ·exact .inl h
   ·right;refine ⟨c,?_,e⟩;unfold Bd;split
    ·exact List.mem_append_left _ hc
    ·split
     ·exact hc
     ·split <;> exact hc
theorem EO {p:Pr} {i:Int} {nm:ByteArray} (h:mean p i nm=3):0<=(jr p).cell nm:=by
 unfold mean at h;split at h
 ·exact absurd h (by decide)
 ·unfold rG at h;cases hf:p.ds.find? (fun d=>d.nm.toList == nm.toList) with
  | none=>rw [hf] at h; simp at h; unfold sS at h; split at h <;> exact absurd h (by decide)
  | some d=>
    rw [hf] at h;simp only [Option.map_some,Option.getD_some] at h;have hd:d.kind=1:=by
     unfold fH at h;split at h
     ·rename_i hk; simpa using hk
     ·split at h
      ·exact absurd h (by decide)
      ·split at h
       ·exact absurd h (by decide)
       ·split at h
        ·exact absurd h (by decide)
        ·split at h
         ·exact absurd h (by decide)
         ·split at h <;> exact absurd h (by decide)
    have hm:=List.mem_of_find?_eq_some hf;have hn:=List.find?_some hf;obtain ⟨c,hc,e⟩:=QK hd sQ (.inl hm);unfold Wo.cell fC jr;refine JY _ _ _ (by decide) ⟨c.nm,List.mem_map.2 ⟨c,?_,rfl⟩,?_⟩
    ·rw [(OI _ _ _).1]; exact hc
    ·rw [e]; simpa using hn
theorem K3 {p:Pr} {i:Int} : ∀ {l:bf},wR p i l=0->FY (jr p) l=true
 | .nil,_=>rfl
 | .cons op n nm kids rest,h=>by
   rw [wR] at h;split at h
   ·rename_i h1;split at h
    ·rename_i h2;rw [FY,K3 (by simpa using h2),K3 h];have h1:vG p i op nm=0:=(by simpa using h1);unfold vG at h1;by_cases h3:op=3
     ·subst h3;have:=vg (show dF (mean p i nm) [3]=0 from h1);simp [EO (this)]
     ·simp [h3]
    ·rename_i h2; rw [h] at h2; exact absurd rfl h2
   ·rename_i h1; rw [h] at h1; exact absurd rfl h1
theorem II {p:Pr} {i op n:Int} {nm:ByteArray} {kids:bf} (h:mI p i op n nm kids=0):xQ (jr p) op nm kids=true:=by
 unfold mI at h;split at h
 ·split at h
  ·exact absurd h (by decide)
  ·unfold Bu at h;split at h
   ·rename_i h1;have h1:vG p i op nm=0:=(by simpa using h1);unfold xQ;rw [K3 h];unfold vG at h1;by_cases h3:op=3
    ·subst h3;have:=vg (show dF (mean p i nm) [3]=0 from h1);simp [EO (this)]
    ·simp [h3]
   ·rename_i h1; rw [h] at h1; exact absurd rfl h1
 ·exact absurd h (by decide)
theorem len_nil {l:bf} (h:l.len=0):l= .nil:=by
 cases l with
 | nil=>rfl
 | cons=>simp [bf.len] at h
theorem XJ {W:Wo} {op n:Int} {nm:ByteArray} {kids:bf} (h:xk op n nm kids.len=true):xQ W op nm kids=true:=by
 unfold xk at h;simp only [Bool.and_eq_true,beq_iff_eq] at h;obtain ⟨⟨⟨h1,-⟩,-⟩,h2⟩:=h;rw [len_nil h2,h1]; rfl
theorem V5 {h:aX} {bl el:Nat} (hs:qz h bl el=true):h.idx.len<=1∧(h.op≠1->h.idx= .nil)∧(fX h.op=false->xk h.dP h.xn h.dO h.aO.len=true)∧1<=h.op∧h.op<=15:=by
 unfold qz at hs;simp only [Bool.and_eq_true] at hs;obtain ⟨⟨⟨h1,-⟩,⟨h2,h3⟩,-⟩,h4,-⟩:=hs;unfold fO at h1;simp only [Bool.and_eq_true,decide_eq_true_eq] at h1 h2;refine ⟨h2,fun hne=> ?_,fun hx=> ?_,h1⟩
 ·have hl:h.idx.len≠1:=fun e=>by rw [e] at h3;unfold fI at h3;simp at h3; exact hne h3
  exact len_nil (by omega)
 ·rw [hx] at h4; simpa using h4
theorem as0 {p:Pr} {j:Nat} {tn fU:ByteArray} {ar:aJ} {f g:List UInt8->Bool} {h:aX} {bl el:Nat} (hs:qz h bl el=true) (h0:lG p j tn fU ar f g h=0):ES (jr p) h=true:=by
 obtain ⟨hl,hi,hx,ho1,ho2⟩:=V5 hs;have key: ∀(he:xQ (jr p) h.dP h.dO h.aO=true),h.op≠1->ES (jr p) h=true:=fun he hne=>by unfold ES; rw [he,hi hne]; rfl
 by_cases h1:h.op=1
 ·unfold lG at h0;rw [h1,if_pos (by rfl)] at h0;unfold JG at h0;split at h0
  ·rename_i hz;have hz:h.idx.len=0:=by simpa using hz
   have:=II (jG h0 _ (List.mem_cons_of_mem _ List.mem_cons_self));unfold ES; rw [this,len_nil hz]; rfl
  ·rename_i hz;have hz:h.idx.len≠0:=by simpa using hz
   have e1:=vg (jG h0 _ List.mem_cons_self);have e2:=jG h0 _ (List.mem_cons_of_mem _ List.mem_cons_self);have e3:=II (jG h0 _ (List.mem_cons_of_mem _ (List.mem_cons_of_mem _ List.mem_cons_self)));have ec:=EO (e1);unfold ES;cases hidx:h.idx with
   | nil=>rw [hidx] at hz; exact absurd rfl hz
   | cons op n nm kids r=>rw [hidx] at e2 hl;have hr:r= .nil:=len_nil (by simp only [bf.len] at hl; omega);have:=II (show mI p j op n nm kids=0 from e2);unfold xQ at this;rw [e3,hr,FY,this];simp [FY,ec]
 ·have hne:=h1;by_cases hf:fX h.op=true
  ·refine key (II (p:=p) (i:=j) (n:=h.xn) ?_) hne;unfold fX at hf;simp only [Bool.or_eq_true,beq_iff_eq] at hf;rcases hf with (hf | hf) | (hf | hf)
   ·exact absurd hf hne
   ·unfold lG at h0; rw [hf] at h0; exact h0
   ·unfold lG at h0; rw [hf] at h0; exact h0
   ·unfold lG at h0; rw [hf] at h0;exact jG (show gu _=0 from h0) _ (by simp)
  ·exact key (XJ (hx (by simpa using hf))) hne
theorem Dh: ∀ {l:aJ},iK l=true->l.Ev (fun h=> ∃bl el,qz h bl el=true)
 | .nil,_=>trivial
 | .cons h b e r,hs=>by rw [iK] at hs;simp only [Bool.and_eq_true] at hs;exact ⟨⟨_,_,hs.1.1⟩,Dh hs.1.2.1,Dh hs.1.2.2,Dh hs.2⟩
theorem AY {p:Pr} (h:(pq p).1=0):wU p=true∧(nH p.ds [] 0 0 0 0).1=0∧p.ts.length<=4∧(qh p).1=0∧zL p.ts 0<=60∧(lQ p (oQ p) p.ts 0 [] []).err=0:=by
 unfold pq at h;split at h
 ·exact absurd h (by decide)
 ·rename_i h1;split at h
  ·rename_i h2; rw [h] at h2; exact absurd h2 (by decide)
  ·rename_i h2;split at h
   ·exact absurd h (by decide)
   ·rename_i h3;split at h
    ·rename_i h4; rw [h] at h4; exact absurd h4 (by decide)
    ·rename_i h4;split at h
     ·exact absurd h (by decide)
     ·rename_i h5;simp only [decide_eq_true_eq] at h3 h5;exact ⟨by simpa using h1,by simpa using h2,by omega,by simpa using h4,by omega,h⟩
theorem okP {p:Pr} (h:(pq p).1=0): ∀t ∈ p.ts,t.body.Ev (fun h=>ES (jr p) h=true):=by
 obtain ⟨h1,-,-,-,-,h6⟩:=AY h;intro t ht;obtain ⟨j,hj⟩:=OC p _ _ _ _ _ h6 t ht;unfold wU at h1;simp only [Bool.and_eq_true] at h1;have h2:=List.all_eq_true.1 h1.1.2 t ht;unfold wV at h2;simp only [Bool.and_eq_true] at h2;refine (hj.and (Dh h2.2)).imp fun x hx=> ?_;obtain ⟨⟨ar,f,g,h0⟩,bl,el,hs⟩:=hx;exact as0 hs h0
end Md
namespace Md
def nE (d:De):Nat->Nat->List kM
 | 0,_=>[]
 | n + 1,k=>⟨d.nm,k,d.size,false,d.init⟩ ::nE d n (k + 1)
def ji (d:De):List kM:=if d.size == 0 then [⟨d.nm,0,0,d.kind == 2,d.init⟩] else nE d d.size.toNat 0
def gD (W:Wo) (g:List UInt8->Int) (d:De):List UInt8->Int:=if d.kind == 3 || d.kind == 4 then fun x=>if x=d.nm.toList then (W.ls.length:Int) else g x else g
def jd (W:Wo) (g:List UInt8->Int) (d:De):Wo:=
 if d.kind == 1 || d.kind == 2 then {W with cs:=W.cs++ji d} else if d.kind == 3 || d.kind == 4 then {W with ls:=W.ls++[⟨d.nm,d.kind == 4⟩]} else
 if d.kind == 5 then {W with ns:=W.ns++[⟨d.nm,g d.on.toList⟩]} else if d.kind == 6 then {W with fs:=W.fs++[d.nm]} else W
def G7:List De->Wo->(List UInt8->Int)->Wo
 | [],W,_=>W
 | d ::r,W,g=>G7 r (jd W g d) (gD W g d)
theorem TK {d:De} (h:(d.kind == 2)=false): ∀(n k:Nat),nE d n k=Bn d n k
 | 0,_=>rfl
 | n + 1,k=>by rw [nE,Bn,TK h n,h]
theorem ag7 {d:De} (hs:lM d=true):ji d=Nk d:=by
 unfold lM at hs;simp only [Bool.and_eq_true,decide_eq_true_eq] at hs;obtain ⟨⟨⟨⟨h1,h2⟩,-⟩,h3,h4⟩,-⟩:=hs;unfold ji Nk;split
 ·rename_i h0;have h0:d.size=0:=by simpa using h0
  rw [h0];show _=Bn d 1 0;rw [Bn,Bn,h0]; rfl
 ·rename_i h0;have h0:d.size≠0:=by simpa using h0
  have hk:d.kind=1:=by simpa [h0] using h4
  rw [TK (by rw [hk]; rfl),show max d.size 1=d.size by omega]
theorem O7: ∀(l:List ByteArray) (s nm:ByteArray) (k:Int),(∀x ∈ l,x.toList≠s.toList)->oF (l++[s]) nm k=if nm.toList=s.toList then k + l.length else oF l nm k
 | [],s,nm,k,_=>by
   simp only [List.nil_append,oF,List.length_nil];by_cases h:nm.toList=s.toList
   ·simp [h]
   ·have: ¬ s.toList=nm.toList:=fun e=>h e.symm;simp [h,this]
 | y ::r,s,nm,k,hn=>by
   have ih:=O7 r s nm (k + 1) (fun x hx=>hn x (List.mem_cons_of_mem _ hx));have hy:=hn y List.mem_cons_self;rw [List.cons_append,oF,ih,oF];by_cases h:nm.toList=s.toList
   ·rw [if_pos h,if_pos h];have:(y.toList == nm.toList)=false:=by rw [h]; simpa using hy
    rw [this];simp only [List.length_cons];rw [if_neg (by decide)]; omega
   ·rw [if_neg h,if_neg h]
structure yK (pre:List De) (W:Wo) (g:List UInt8->Int):Prop where
 sub: ∀s ∈ W.ls.map (·.nm),∃d ∈ pre,d.nm.toList=s.toList
 eq: ∀x:ByteArray,0<=fC (W.ls.map (·.nm)) x->g x.toList=fC (W.ls.map (·.nm)) x
 has: ∀d ∈ pre,d.kind=3∨d.kind=4->0<=fC (W.ls.map (·.nm)) d.nm
theorem Zp {pre:List De} {l:List UInt8} (h:mD pre l=0): ∀d ∈ pre,d.nm.toList≠l:=by
 have hf:=Qy (pre:=pre) (l:=l) (by rw [h]; rfl);intro d hd e;have:=List.find?_eq_none.1 hf d hd;simp [e] at this
theorem yK.step {pre:List De} {W:Wo} {g:List UInt8->Int} {d:De} (h:yK pre W g) (hd:mD pre d.nm.toList=0):yK (pre++[d]) (jd W g d) (gD W g d):=by
 have hz:=Zp hd;by_cases hk:(d.kind == 3 || d.kind == 4)=true
 ·have h12:(d.kind == 1 || d.kind == 2)=false:=by simp only [Bool.or_eq_true,beq_iff_eq] at hk;rcases hk with hk | hk <;> rw [hk] <;> rfl
  have e1:(jd W g d).ls=W.ls++[⟨d.nm,d.kind == 4⟩]:=by unfold jd; rw [h12,hk]; rfl
  have e2:gD W g d=fun x=>if x=d.nm.toList then (W.ls.length:Int) else g x:=by unfold gD; rw [if_pos hk]
  have e3:(jd W g d).ls.map (·.nm)=W.ls.map (·.nm)++[d.nm]:=by rw [e1]; simp
  have hne: ∀x ∈ W.ls.map (·.nm),x.toList≠d.nm.toList:=fun x hx e=>by obtain ⟨d',hd',e'⟩:=h.sub x hx;exact hz d' hd' (e'.trans e)
  have e4: ∀x,fC ((jd W g d).ls.map (·.nm)) x=if x.toList=d.nm.toList then (W.ls.length:Int) else fC (W.ls.map (·.nm)) x:=fun x=>by rw [e3]; unfold fC; rw [O7 _ _ _ _ hne]; simp
  refine ⟨fun s hs=> ?_,fun x hx=> ?_,fun d' hd' hk'=> ?_⟩
  ·rw [e3] at hs;rcases List.mem_append.1 hs with hs | hs
   ·obtain ⟨d',h1,h2⟩:=h.sub s hs;exact ⟨d',List.mem_append_left _ h1,h2⟩
   ·rw [List.mem_singleton.1 hs];exact ⟨d,List.mem_append_right _ (List.mem_singleton.2 rfl),rfl⟩
  ·rw [e4] at hx ⊢;rw [e2];show (if _ then _ else _)=_;by_cases hc:x.toList=d.nm.toList
   ·rw [if_pos hc,if_pos hc]
   ·rw [if_neg hc] at hx ⊢;rw [if_neg hc]; exact h.eq x hx
  ·rw [e4];split
   ·omega
   ·rename_i hc;rcases List.mem_append.1 hd' with hd' | hd'
    ·exact h.has d' hd' hk'
    ·rw [List.mem_singleton.1 hd'] at hc; exact absurd rfl hc
 ·have hk:(d.kind == 3 || d.kind == 4)=false:=by simpa using hk
  have e1:(jd W g d).ls=W.ls:=by
   unfold jd; rw [hk];split
   ·rfl
   ·rw [if_neg (by decide)];split
    ·rfl
    ·split <;> rfl
  have e2:gD W g d=g:=by unfold gD; rw [hk]; rfl
  rw [e2];refine ⟨fun s hs=> ?_,fun x hx=> ?_,fun d' hd' hk'=> ?_⟩
  ·rw [e1] at hs;obtain ⟨d',h1,h2⟩:=h.sub s hs;exact ⟨d',List.mem_append_left _ h1,h2⟩
  ·rw [e1] at hx ⊢; exact h.eq x hx
  ·rw [e1];rcases List.mem_append.1 hd' with hd' | hd'
   ·exact h.has d' hd' hk'
   ·rw [List.mem_singleton.1 hd'] at hk';simp only [Bool.or_eq_false_iff,beq_eq_false_iff_ne] at hk;rcases hk' with e | e
    ·exact absurd e hk.1
    ·exact absurd e hk.2
theorem Rs {d:De} (h:fH d=4):d.kind=3:=by
 unfold fH at h;split at h
 ·split at h <;> exact absurd h (by decide)
 ·split at h
  ·exact absurd h (by decide)
  ·split at h
   ·rename_i hk; simpa using hk
   ·split at h
    ·exact absurd h (by decide)
    ·split at h
     ·exact absurd h (by decide)
     ·split at h <;> exact absurd h (by decide)
theorem yK.cond {pre:List De} {W:Wo} {g:List UInt8->Int} {on:ByteArray} (h:yK pre W g) (hm:mD pre on.toList=4):g on.toList=fC (W.ls.map (·.nm)) on:=by
 unfold mD at hm;cases hf:pre.find? (fun d=>d.nm.toList == on.toList) with
 | none=>rw [hf] at hm; exact absurd hm (by decide)
 | some d=>
   rw [hf] at hm;have hd:=Rs (show fH d=4 from hm);have h1:=List.mem_of_find?_eq_some hf;have h2:=List.find?_some hf;have h2:d.nm.toList=on.toList:=by simpa using h2
   refine h.eq on ?_;have:=h.has d h1 (.inl hd);unfold fC at this ⊢;rcases J6 (W.ls.map (·.nm)) d.nm 0 with h3 | h3
   ·omega
   ·have e: ∀(l:List ByteArray) (k:Int),oF l on k=oF l d.nm k:=fun l=>by
     induction l with
     | nil=>intro k; rfl
     | cons s r ih=>intro k; rw [oF,oF,ih,h2]
    rw [e]; exact this
theorem YM: ∀(l pre:List De) (W:Wo) (g:List UInt8->Int) (c x n f:Int),(∀d ∈ l,lM d=true)->yK pre W g->(nH l pre c x n f).1=0->G7 l W g=l.foldl Bd W
 | [],_,_,_,_,_,_,_,_,_,_=>rfl
 | d ::r,pre,W,g,c,x,n,f,hs,hI,h0=>by
   have hsd:=hs d List.mem_cons_self;rw [nH] at h0;split at h0
   ·exact absurd (show (4:Int)=0 from h0) (by decide)
   ·rename_i h1;split at h0
    ·exact absurd (show (2:Int)=0 from h0) (by decide)
    ·split at h0
     ·exact absurd (show (2:Int)=0 from h0) (by decide)
     ·split at h0
      ·exact absurd (show (5:Int)=0 from h0) (by decide)
      ·split at h0
       ·exact absurd (show (6:Int)=0 from h0) (by decide)
       ·rename_i h5;have h1:mD pre d.nm.toList=0:=(by simpa using h1);have e:jd W g d=Bd W d:=by
         unfold jd Bd;rw [ag7 hsd];split
         ·rfl
         ·split
          ·rfl
          ·split
           ·rename_i hk;have:mD pre d.on.toList=4:=(by simpa [hk] using h5);rw [hI.cond this]
           ·rename_i k1 k2 k3;have hk6:d.kind=6:=(by unfold lM at hsd;simp only [Bool.and_eq_true,decide_eq_true_eq] at hsd;obtain ⟨⟨⟨⟨q1,q2⟩,-⟩,-⟩,-⟩:=hsd;simp only [Bool.or_eq_true,beq_iff_eq,not_or] at k1 k2 k3;omega);rw [hk6]; rfl
        rw [G7,List.foldl_cons,e];have:=hI.step h1;rw [e] at this;exact YM r (pre++[d]) _ _ _ _ _ _ (fun y hy=>hs y (List.mem_cons_of_mem _ hy)) this h0
theorem yK.start:yK [] sQ (fun _=>0):=by
 refine ⟨fun s hs=>(by cases hs),fun x hx=> ?_,fun d hd=>(by cases hd)⟩;have:fC (sQ.ls.map (·.nm)) x= -1:=rfl;omega
theorem aw3 {p:Pr} (h:(pq p).1=0):G7 p.ds sQ (fun _=>0)=p.ds.foldl Bd sQ:=by
 obtain ⟨h1,h2,-⟩:=AY h;unfold wU at h1;simp only [Bool.and_eq_true] at h1;exact YM _ _ _ _ _ _ _ _ (fun d hd=>List.all_eq_true.1 h1.1.1 d hd) yK.start h2
end Md
end Go.Proofs.YtgjmahnblcajbaaGreatDoor
