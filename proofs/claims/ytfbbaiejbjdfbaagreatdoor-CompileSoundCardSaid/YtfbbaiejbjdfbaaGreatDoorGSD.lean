/- The objects of a made program, and what its names mean. No program in sight. And what hangs on it. -/
import Derived.Test.YtfbbaiejbjdfbaaGreatDoorGPI
import Derived.Test.YtfbbaiejbjdfbaaGreatDoorGVA
import Derived.Test.YtfbbaiejbjdfbaaGreatDoorGMF
set_option linter.unusedSimpArgs false
set_option linter.unusedVariables false
set_option maxHeartbeats 40000000
set_option maxRecDepth 1000000
namespace Go.Proofs.YtfbbaiejbjdfbaaGreatDoor
open Go.RowKit
open Md
namespace Md
def Jh:List qB:=[⟨⟨#[120]⟩,0,0,false,0⟩,⟨⟨#[121]⟩,0,0,false,1⟩,⟨⟨#[118]⟩,0,0,true,0⟩,⟨⟨#[113]⟩,0,2,false,0⟩,⟨⟨#[113]⟩,1,2,false,0⟩]
def LU:List uT:=[⟨⟨#[109]⟩,false⟩,⟨⟨#[110]⟩,false⟩,⟨⟨#[114]⟩,true⟩]
def Oi:List C9:=[⟨⟨#[99]⟩,0⟩]
def TH:List ByteArray:=[⟨#[102]⟩]
theorem pJ (a:UInt8):(⟨#[a]⟩:ByteArray).toList=[a]:=ByteArray.toList_mk [a]
theorem IJ:(jg.foldl kZ oW)=⟨Jh,LU,Oi,TH,[],[]⟩:=by
 simp [jg,kZ,oW,EX,sH,Jh,LU,Oi,TH,dV,pV,pJ];rfl
structure WM (W:Wo):Prop where
 cs:W.cs=Jh
 ls:W.ls=LU
 ns:W.ns=Oi
 fs:W.fs=TH
theorem WM.of {p:Pr} (h:nH p):WM (fF p):=by
 have:=RQ p.ts (p.ds.foldl kZ oW) 0;rw [h.ds,IJ] at this;unfold fF;rw [h.ds,IJ];exact ⟨this.1,this.2.1,this.2.2.1,this.2.2.2⟩
section
variable {p:Pr} {j:Int} {nm:ByteArray}
theorem Kh (h:nH p) (hm:mean p j nm=1):nm.toList=[97]∨nm.toList=[98]:=by
 unfold mean at hm;split at hm
 ·rename_i hl;unfold qV at hl;split at hl
  ·cases ht:p.ts[j.toNat]? with
   | none=>rw [ht] at hl; simp [qw] at hl
   | some t=>
     rw [ht] at hl;simp only [Option.map_some,Option.getD_some] at hl;rw [h.lc t (List.mem_of_getElem? ht)] at hl;simp [qw,gV,pJ] at hl;rcases hl with hl | hl
     ·exact .inl hl.symm
     ·exact .inr hl.symm
  ·simp [qw] at hl
 ·exfalso;unfold oZ at hm;rw [h.ds] at hm;cases hf:jg.find? (fun d=>d.nm.toList == nm.toList) with
  | none=>rw [hf] at hm; simp [qX] at hm; split at hm <;> exact absurd hm (by decide)
  | some d=>rw [hf] at hm;have hd:=List.mem_of_find?_eq_some hf;simp only [Option.map_some,Option.getD_some] at hm;simp only [jg,List.mem_cons,List.not_mem_nil,or_false] at hd;rcases hd with rfl | rfl | rfl | rfl | rfl | rfl | rfl | rfl | rfl <;> simp [eH] at hm
theorem Aj (h:nH p) {k:Int} (hm:mean p j nm=k) (h2:2<=k) (h7:k<=7): ∃d ∈ jg,eH d=k∧d.nm.toList=nm.toList:=by
 unfold mean at hm;split at hm
 ·omega
 ·unfold oZ at hm;rw [h.ds] at hm;cases hf:jg.find? (fun d=>d.nm.toList == nm.toList) with
  | none=>rw [hf] at hm; simp [qX] at hm; split at hm <;> omega
  | some d=>rw [hf] at hm;have hd:=List.mem_of_find?_eq_some hf;have he:=List.find?_some hf;simp only [Option.map_some,Option.getD_some] at hm;exact ⟨d,hd,hm,by simpa using he⟩
theorem Ra (h:nH p) (hm:mean p j nm=8): ∃t ∈ p.ts,t.nm.toList=nm.toList:=by
 unfold mean at hm;split at hm
 ·exact absurd hm (by decide)
 ·unfold oZ at hm;rw [h.ds] at hm;cases hf:jg.find? (fun d=>d.nm.toList == nm.toList) with
  | none=>rw [hf] at hm; simp [qX] at hm;exact hm
  | some d=>rw [hf] at hm;have hd:=List.mem_of_find?_eq_some hf;simp only [Option.map_some,Option.getD_some] at hm;simp only [jg,List.mem_cons,List.not_mem_nil,or_false] at hd;rcases hd with rfl | rfl | rfl | rfl | rfl | rfl | rfl | rfl | rfl <;> simp [eH] at hm
theorem XK (h:nH p) (hm:mean p j nm=2):nm.toList=[120]∨nm.toList=[121]∨nm.toList=[118]:=by
 obtain ⟨d,hd,hk,he⟩:=Aj h hm (by decide) (by decide);simp only [jg,List.mem_cons,List.not_mem_nil,or_false] at hd;rw [<- he];rcases hd with rfl | rfl | rfl | rfl | rfl | rfl | rfl | rfl | rfl <;> simp [eH] at hk <;> simp [pJ]
theorem XL (h:nH p) (hm:mean p j nm=3):nm.toList=[113]:=by
 obtain ⟨d,hd,hk,he⟩:=Aj h hm (by decide) (by decide);simp only [jg,List.mem_cons,List.not_mem_nil,or_false] at hd;rw [<- he];rcases hd with rfl | rfl | rfl | rfl | rfl | rfl | rfl | rfl | rfl <;> simp [eH] at hk <;> simp [pJ]
theorem aE8 (h:nH p) (hm:mean p j nm=4):nm.toList=[109]∨nm.toList=[110]:=by
 obtain ⟨d,hd,hk,he⟩:=Aj h hm (by decide) (by decide);simp only [jg,List.mem_cons,List.not_mem_nil,or_false] at hd;rw [<- he];rcases hd with rfl | rfl | rfl | rfl | rfl | rfl | rfl | rfl | rfl <;> simp [eH] at hk <;> simp [pJ]
theorem XM (h:nH p) (hm:mean p j nm=5):nm.toList=[114]:=by
 obtain ⟨d,hd,hk,he⟩:=Aj h hm (by decide) (by decide);simp only [jg,List.mem_cons,List.not_mem_nil,or_false] at hd;rw [<- he];rcases hd with rfl | rfl | rfl | rfl | rfl | rfl | rfl | rfl | rfl <;> simp [eH] at hk <;> simp [pJ]
theorem R9 (h:nH p) (hm:mean p j nm=6):nm.toList=[99]:=by
 obtain ⟨d,hd,hk,he⟩:=Aj h hm (by decide) (by decide);simp only [jg,List.mem_cons,List.not_mem_nil,or_false] at hd;rw [<- he];rcases hd with rfl | rfl | rfl | rfl | rfl | rfl | rfl | rfl | rfl <;> simp [eH] at hk <;> simp [pJ]
theorem XO (h:nH p) (hm:mean p j nm=7):nm.toList=[102]:=by
 obtain ⟨d,hd,hk,he⟩:=Aj h hm (by decide) (by decide);simp only [jg,List.mem_cons,List.not_mem_nil,or_false] at hd;rw [<- he];rcases hd with rfl | rfl | rfl | rfl | rfl | rfl | rfl | rfl | rfl <;> simp [eH] at hk <;> simp [pJ]
end
section
variable {W:Wo} {nm:ByteArray}
theorem scM (h:WM W) (hn:nm.toList=[120]∨nm.toList=[121]∨nm.toList=[118]):M7 W (W.cell nm)=true:=by
 unfold M7 Wo.cell jl dV;rw [h.cs];rcases hn with hn | hn | hn <;> simp [Jh,pV,hn,pJ]
theorem ayM (h:WM W) (hn:nm.toList=[113]):KT W (W.cell nm) (W.size nm)=true:=by
 unfold KT Wo.size Wo.cell jl dV;rw [h.cs];simp [Jh,pV,hn,pJ]
theorem lkF (h:WM W) (hn:nm.toList=[109]∨nm.toList=[110]):vg W (W.lock nm) false=true:=by
 unfold vg Wo.lock jl dV;rw [h.ls];rcases hn with hn | hn <;> simp [LU,pV,hn,pJ]
theorem lkT (h:WM W) (hn:nm.toList=[114]):vg W (W.lock nm) true=true:=by
 unfold vg Wo.lock jl dV;rw [h.ls];simp [LU,pV,hn,pJ]
theorem cnM (h:WM W) (hn:nm.toList=[99]):jl (W.cond nm) W.ns.length=true:=by
 unfold Wo.cond jl dV;rw [h.ns];simp [Oi,pV,hn,pJ]
theorem fuM (h:WM W) (hn:nm.toList=[102]):jl (dV W.fs nm) W.fs.length=true:=by
 unfold jl dV;rw [h.fs];simp [TH,pV,hn,pJ]
theorem ag0 {l:List ByteArray} (h: ∃s ∈ l,s.toList=nm.toList):jl (dV l nm) l.length=true:=by
 have h0:=N7 l nm 0 (by decide) h;have:=XF (l:=l) (nm:=nm) h0;unfold jl;have h0':0<=dV l nm:=h0;simp; omega
theorem R8: -1<=dV gV nm∧dV gV nm<=1:=by
 have:=N8 gV nm;simp [gV] at this;have e:gV=[⟨#[97]⟩,⟨#[98]⟩]:=rfl;rw [e]; omega
theorem R7 (hn:nm.toList=[97]∨nm.toList=[98]):0<=dV gV nm:=by
 unfold dV;rcases hn with hn | hn <;> simp [gV,pV,hn,pJ]
end
theorem mY {m:Int} {l:List Int} (h:cB m l=0): ∃k ∈ l,m=k:=by
 unfold cB at h;split at h
 ·exact absurd h (by decide)
 ·split at h
  ·rename_i hk; simpa using hk
  ·exact absurd h (by decide)
end Md
namespace Md
def Str (C:List aX) (k:Nat):Prop:= ∃m,(∀t,t < m-> ∃i,C[k + t]? =some i∧i.op≠5)∧ ∃i,C[k + m]? =some i∧nJ i.op=false
theorem mP.step {l:List aX} {k:Nat} (hs:mO l k=true) (h:mP l (vo l k)):mP l k:=by
 obtain ⟨f,hf⟩:=h;exact ⟨f + 1,by rw [lN,if_pos hs]; exact hf⟩
theorem ED {l:List aX} {k:Nat} {i:aX} (h:l[k]? =some i):mO l k=nJ i.op:=by unfold mO; rw [h]
theorem Iw {l:List aX} {k:Nat} {i:aX} (h:l[k]? =some i):k < l.length:=(List.getElem?_eq_some_iff.1 h).1
theorem Str.lands {C:List aX} : ∀(m k:Nat),(∀t,t < m-> ∃i,C[k + t]? =some i∧i.op≠5)->(∃i,C[k + m]? =some i∧nJ i.op=false)->mP C k
 | 0,k,_,⟨i,hi,hs⟩=>mP.event (Iw hi) (by rw [show k=k + 0 from rfl,ED hi]; exact hs)
 | m + 1,k,h,he=>by
   obtain ⟨i,hi,h5⟩:=h 0 (by omega);rw [Nat.add_zero] at hi;cases hs:nJ i.op
   ·exact mP.event (Iw hi) (by rw [ED hi]; exact hs)
   ·refine mP.step (by rw [ED hi]; exact hs) ?_;have hn:vo C k=k + 1:=by unfold vo; rw [hi]; simp [h5]
    rw [hn];refine Str.lands m (k + 1) (fun t ht=> ?_) ?_
    ·have:=h (t + 1) (by omega); rw [show k + 1 + t=k + (t + 1) by omega]; exact this
    ·rw [show k + 1 + m=k + (m + 1) by omega]; exact he
def JOk (C:List aX):Prop:= ∀(k:Nat) (i:aX),C[k]? =some i->i.op=5->0<=i.a∧i.a.toNat < C.length∧(k < i.a.toNat∨Str C i.a.toNat)
theorem ay0 {C:List aX} (hJ:JOk C) {z:aX} (hz:C[C.length - 1]? =some z) (hzs:nJ z.op=false):Hl C∧ES C=true:=by
 have hok:Hl C:=fun k i hi hs=>by
  refine ⟨fun h5=>(hJ k i hi h5).1,?_⟩;unfold vo;rw [hi];by_cases h5:i.op=5
  ·simp only [h5,beq_self_eq_true,if_true]; exact (hJ k i hi h5).2.1
  ·have h5':(i.op == 5)=false:=by simp [h5]
   simp only [h5',Bool.false_eq_true,if_false];have hk:=Iw hi;by_cases hl:k=C.length - 1
   ·rw [hl,hz] at hi; injection hi with hi; rw [<- hi,hzs] at hs; cases hs
   ·omega
 refine ⟨hok,(MI hok).2 ?_⟩;have: ∀q k,k < C.length->C.length - k<=q->mP C k:=by
  intro q
  induction q with
  | zero=>intro k h1 h2; omega
  | succ q ih=>
    intro k h1 h2;obtain ⟨i,hi⟩: ∃i,C[k]? =some i:=⟨_,List.getElem?_eq_getElem h1⟩;cases hs:nJ i.op
    ·exact mP.event h1 (by rw [ED hi]; exact hs)
    ·have hsn:mO C k=true:=(by rw [ED hi]; exact hs);have hnx:=hok.next hsn;refine mP.step hsn ?_;by_cases h5:i.op=5
     ·obtain ⟨h0,hl,hc⟩:=hJ k i hi h5;have hn:vo C k=i.a.toNat:=(by unfold vo; rw [hi]; simp [h5]);rw [hn];rcases hc with hc | ⟨m,h3,h4⟩
      ·exact ih _ hl (by omega)
      ·exact Str.lands m _ h3 h4
     ·have hn:vo C k=k + 1:=(by unfold vo; rw [hi]; simp [h5]);rw [hn] at hnx ⊢;exact ih _ hnx (by omega)
 exact fun k hk=>this _ k hk (Nat.le_refl _)
def OT (C:List aX) (pos:Nat) (L:List aX):Prop:= ∀(k:Nat) (i:aX),L[k]? =some i->C[pos + k]? =some i
theorem OT.left {C:List aX} {pos:Nat} {A B:List aX} (h:OT C pos (A++B)):OT C pos A:=fun k i hk=>h k i (by rw [List.getElem?_append_left (Iw hk)]; exact hk)
theorem OT.right {C:List aX} {pos:Nat} {A B:List aX} (h:OT C pos (A++B)):OT C (pos + A.length) B:=fun k i hk=>by
 have:=h (A.length + k) i (by rw [List.getElem?_append_right (by omega)]; rw [show A.length + k - A.length=k by omega]; exact hk);rw [show pos + A.length + k=pos + (A.length + k) by omega]; exact this
def uf (C:List aX) (pos:Nat) (L:List aX):Prop:= ∀(k:Nat) (i:aX),L[k]? =some i->i.op=5->0<=i.a∧((pos + k < i.a.toNat∧i.a.toNat<=pos + L.length)∨(i.a.toNat<=pos + k∧Str C i.a.toNat))
theorem uf.app {C:List aX} {pos:Nat} {A B:List aX} (ha:uf C pos A) (hb:uf C (pos + A.length) B):uf C pos (A++B):=fun k i hk h5=>by
 by_cases h:k < A.length
 ·rw [List.getElem?_append_left h] at hk;obtain ⟨h1,h2⟩:=ha k i hk h5;refine ⟨h1,?_⟩;rw [List.length_append];rcases h2 with h2 | h2
  ·left; omega
  ·exact .inr h2
 ·rw [List.getElem?_append_right (by omega)] at hk;obtain ⟨h1,h2⟩:=hb _ i hk h5;refine ⟨h1,?_⟩;rw [List.length_append];rcases h2 with h2 | ⟨h2,h3⟩
  ·left; omega
  ·right; exact ⟨by omega,h3⟩
theorem uf.no {C:List aX} {pos:Nat} {L:List aX} (h: ∀i ∈ L,i.op≠5):uf C pos L:=fun k i hk h5=>absurd h5 (h i (List.mem_of_getElem? hk))
theorem Ub (W:Wo) (lc:List ByteArray) (op n:Int) (nm:ByteArray) (d st:Int):(wQ W lc op n nm d st).op≠5:=by
 unfold wQ;split
 ·simp
 ·split <;> simp
theorem ag8 (W:Wo) (op:Int) (nm:ByteArray) (d st:Int):(EC W op nm d st).op≠5:=by
 unfold EC;split
 ·simp
 ·split <;> simp
theorem Vz (W:Wo) (lc:List ByteArray) (st:Int): ∀(l:aZ) (d:Int),∀i ∈ zA W lc st l d,i.op≠5
 | .nil,_,i,hi=>by cases hi
 | .cons op n nm kids rest,d,i,hi=>by
   rw [zA] at hi;rcases List.mem_append.1 hi with hi | hi
   ·split at hi
    ·rw [List.mem_singleton.1 hi]; exact Ub _ _ _ _ _ _ _
    ·rcases List.mem_append.1 hi with hi | hi
     ·exact Vz W lc st kids d i hi
     ·rw [List.mem_singleton.1 hi]; exact ag8 _ _ _ _ _
   ·exact Vz W lc st rest (d + 1) i hi
theorem He (W:Wo) (lc:List ByteArray) (st op n:Int) (nm:ByteArray) (kids:aZ) (d:Int): ∀i ∈ jO W lc st op n nm kids d,i.op≠5:=fun i hi=>by
 unfold jO at hi;split at hi
 ·rw [List.mem_singleton.1 hi]; exact Ub _ _ _ _ _ _ _
 ·rcases List.mem_append.1 hi with hi | hi
  ·exact Vz W lc st kids d i hi
  ·rw [List.mem_singleton.1 hi]; exact ag8 _ _ _ _ _
theorem aG1 (W:Wo) (lc:List ByteArray) (st:Int) (h:dL): ∀i ∈ oI W lc st h,i.op≠5:=fun i hi=>by
 unfold oI at hi;split at hi
 ·unfold zN at hi;split at hi
  ·rcases List.mem_append.1 hi with hi | hi
   ·exact He _ _ _ _ _ _ _ _ i hi
   ·rw [List.mem_singleton.1 hi]; split <;> simp
  ·rcases List.mem_append.1 hi with hi | hi
   ·rcases List.mem_append.1 hi with hi | hi
    ·exact He _ _ _ _ _ _ _ _ i hi
    ·exact He _ _ _ _ _ _ _ _ i hi
   ·rw [List.mem_singleton.1 hi]; simp
 ·repeat' split at hi
  all_goals first
   | (rcases List.mem_append.1 hi with hi | hi
      ·exact He _ _ _ _ _ _ _ _ i hi
      ·rw [List.mem_singleton.1 hi]; simp)
   | (rw [List.mem_singleton.1 hi]; simp)
   | cases hi
theorem WO (op:Int):rD op≠5∧rD op + 1≠5:=by
 unfold rD
 repeat' split
 all_goals decide
theorem Ir (W:Wo) (lc:List ByteArray) (C:List aX): ∀(l:aH) (nx pos:Nat),OT C pos (gU W lc l nx pos)->uf C pos (gU W lc l nx pos)
 | .nil,_,_,_=>fun k i hk=>by simp [gU] at hk
 | .cons h b e r,nx,pos,hat=>by
   rw [gU] at hat ⊢;refine uf.app ?_ (Ir W lc C r _ _ hat.right);have ha:=hat.left;obtain ⟨X,hX⟩: ∃X,gy W lc nx h lc.length=X:=⟨_,rfl⟩;have hXn: ∀i ∈ X,i.op≠5:=by rw [<- hX]; exact He _ _ _ _ _ _ _ _
   rw [hX] at ha ⊢;have IB:=Ir W lc C b (nx + 1) (pos + jU h X);obtain ⟨B,hB⟩: ∃B,gU W lc b (nx + 1) (pos + jU h X)=B:=⟨_,rfl⟩;rw [hB] at ha IB ⊢;have IE:=Ir W lc C e (nx + 1 + aR b) (pos + jU h X + B.length + 1);obtain ⟨E,hE⟩: ∃E,gU W lc e (nx + 1 + aR b) (pos + jU h X + B.length + 1)=E:=⟨_,rfl⟩;rw [hE] at ha IE ⊢;unfold yL at ha ⊢;split at ha
   ·rename_i h2;have hh:jU h X=X.length + 1:=by unfold jU; rw [if_pos (by simpa using Or.inl (by simpa using h2))]
    rw [hh] at IB IE;rw [if_pos h2];split at ha
    ·rename_i hne;rw [if_pos hne];have hb:=ha.right;rw [List.length_append,List.length_singleton,<- Nat.add_assoc] at hb;refine uf.app (uf.app (.no hXn) (.no (fun i hi=>by rw [List.mem_singleton.1 hi]; simp))) ?_;rw [List.length_append,List.length_singleton,<- Nat.add_assoc];exact IB hb
    ·rename_i hne;rw [if_neg hne];have hE':=ha.right;have hB':=ha.left.left.right;simp only [List.length_append,List.length_singleton,List.length_cons,List.length_nil] at hE' hB';rw [List.append_assoc (_++B)];have hEE:=IE (by rw [show pos + (X.length + (0 + 1) + B.length + (0 + 1))=pos + (X.length + 1) + B.length + 1 by omega] at hE';exact hE');refine uf.app (uf.app (uf.app (.no hXn) (.no (fun i hi=>by rw [List.mem_singleton.1 hi]; simp))) ?_) ?_
     ·simp only [List.length_append,List.length_singleton];exact IB (by rw [show pos + (X.length + (0 + 1))=pos + (X.length + 1) by omega] at hB'; exact hB')
     ·intro k i hk h5;simp only [List.length_append,List.length_singleton];cases k with
      | zero=>injection hk with hk;subst hk;refine ⟨by simp; omega,.inl ?_⟩;show _ < Int.toNat ((pos + X.length + 1 + B.length + 1 + E.length:Nat):Int)∧Int.toNat ((pos + X.length + 1 + B.length + 1 + E.length:Nat):Int)<=_;rw [Int.toNat_natCast];omega
      | succ k=>
        have hk':E[k]? =some i:=(by simpa using hk);obtain ⟨h0,hc⟩:=hEE k i hk' h5;refine ⟨h0,?_⟩;rcases hc with hc | ⟨hc,hs⟩
        ·left; omega
        ·right; exact ⟨by omega,hs⟩
   ·rename_i h2;rw [if_neg h2];split at ha
    ·rename_i h3;rw [if_pos h3];have hh:jU h X=X.length + 1:=(by unfold jU; rw [if_pos (by simpa using Or.inr (by simpa using h3))]);rw [hh] at IB;have hB':=ha.left.right;have hX':=ha.left.left.left;have hb':=ha.left.left.right;simp only [List.length_append,List.length_singleton,List.length_cons,List.length_nil] at hB';refine uf.app (uf.app (uf.app (.no hXn) (.no (fun i hi=>by rw [List.mem_singleton.1 hi]; simp))) ?_) ?_
     ·simp only [List.length_append,List.length_singleton];exact IB (by rw [show pos + (X.length + (0 + 1))=pos + (X.length + 1) by omega] at hB'; exact hB')
     ·intro k i hk h5;cases k with
      | zero=>
        injection hk with hk;subst hk;refine ⟨by simp,.inr ⟨by simp,X.length,fun t ht=> ?_,?_⟩⟩
        ·obtain ⟨j,hj⟩: ∃j,X[t]? =some j:=⟨_,List.getElem?_eq_getElem ht⟩;exact ⟨j,by simpa using hX' t j hj,hXn j (List.mem_of_getElem? hj)⟩
        ·exact ⟨_,by simpa using hb' 0 _ rfl,rfl⟩
      | succ k=>simp at hk
    ·rename_i h3;rw [if_neg h3];split at ha
     ·rename_i h4;rw [if_pos h4];have hh:jU h X=1:=(by unfold jU;rw [if_neg (by simp at h4 h2 h3 ⊢; omega)]);rw [hh] at IB;have hB':=ha.left.right;simp only [List.length_singleton] at hB';refine uf.app (uf.app (.no (fun i hi=>by rw [List.mem_singleton.1 hi]; exact (WO h.op).1)) (IB hB')) (.no (fun i hi=>by rw [List.mem_singleton.1 hi]; exact (WO h.op).2))
     ·rename_i h4;rw [if_neg h4];exact .no (aG1 _ _ _ _)
end Md
namespace Md
def GI (W:Wo) (st:Int) (i:aX):Prop:=(1<=i.op∧i.op<=27∧i.op≠5∧i.op≠10)∧i.st=st∧(∀r ∈ dI i,0<=r∧r<=30)∧jV W 0 i=true
section
variable {W:Wo} {p:Pr} {j:Int}
theorem Yj {op n:Int} {nm:ByteArray} {len:Nat} (h:Bg op n nm len=true):1<=op∧op<=18:=by
 unfold Bg opsOf at h;simp only [Bool.and_eq_true] at h;have h1:=h.1;split at h1
 ·rename_i h2; simp at h2; omega
 ·split at h1
  ·rename_i h2; simp at h2; omega
  ·split at h1
   ·rename_i h2; simp at h2; omega
   ·simp at h1 <;> omega
theorem aj8 (hW:WM W) (hp:nH p) {op n:Int} {nm:ByteArray} {d st:Int} (ho:op=1∨op=2) (hn:pW p j op nm=0) (h0:0<=d) (h1:d<=30):GI W st (wQ W gV op n nm d st):=by
 have hix:=R8 (nm:=nm);unfold wQ;split
 ·refine ⟨by simp,rfl,fun r hr=> ?_,by simp [jV]⟩;simp [dI] at hr; omega
 ·split
  ·rename_i hl;simp at hl;refine ⟨by simp,rfl,fun r hr=> ?_,by simp [jV]⟩;simp [dI] at hr; omega
  ·rename_i h1' hl;have ho2:op=2:=by rcases ho with rfl | rfl <;> simp_all
   subst ho2;obtain ⟨k,hk,hm⟩:=mY (show cB (mean p j nm) [1,2]=0 by simpa [pW] using hn);have hm2:mean p j nm=2:=by
    simp only [List.mem_cons,List.not_mem_nil,or_false] at hk;rcases hk with rfl | rfl
    ·exfalso; have:=R7 (Kh hp hm); simp at hl; omega
    ·exact hm
   refine ⟨by simp,rfl,fun r hr=> ?_,?_⟩
   ·simp [dI] at hr; omega
   ·have:=scM hW (XK hp hm2);simpa [jV] using this
theorem aJ3 (hW:WM W) (hp:nH p) {op n:Int} {nm:ByteArray} {len:Nat} {d st:Int} (hs:Bg op n nm len=true) (h12:(op == 1 || op == 2)=false) (hn:pW p j op nm=0) (h0:0<=d) (h1:d + 1<=30):GI W st (EC W op nm d st):=by
 have ho:=Yj hs;unfold EC;split
 ·rename_i h3;have h3':op=3:=by simpa using h3
  subst h3';obtain ⟨k,hk,hm⟩:=mY (show cB (mean p j nm) [3]=0 by simpa [pW] using hn);simp at hk; subst hk;refine ⟨by simp,rfl,fun r hr=> ?_,?_⟩
  ·simp [dI] at hr; omega
  ·have:=ayM hW (XL hp hm);simpa [jV] using this
 ·split
  ·rename_i h4;refine ⟨by simp,rfl,fun r hr=> ?_,?_⟩
   ·simp [dI] at hr; omega
   ·simpa [jV] using h4
  ·rename_i h3 h4;have h6:6<=op:=by simp at h3 h4 h12; omega
   refine ⟨by simp,rfl,fun r hr=> ?_,?_⟩
   ·simp [dI] at hr; omega
   ·simp [jV]; omega
theorem ZY {op n:Int} {nm:ByteArray} {kids rest:aZ} (h:rJ p j (.cons op n nm kids rest)=0):pW p j op nm=0∧rJ p j kids=0∧rJ p j rest=0:=by
 rw [rJ] at h;split at h
 ·rename_i h1;split at h
  ·rename_i h2; exact ⟨by simpa using h1,by simpa using h2,h⟩
  ·rename_i h2; rw [h] at h2; exact absurd h2 (by decide)
 ·rename_i h1; rw [h] at h1; exact absurd h1 (by decide)
theorem Vb (hW:WM W) (hp:nH p) (st:Int): ∀(l:aZ) (d:Int),lI l=true->rJ p j l=0->0<=d->d + dh l<=30-> ∀i ∈ zA W gV st l d,GI W st i
 | .nil,_,_,_,_,_,i,hi=>by cases hi
 | .cons op n nm kids rest,d,hs,hn,h0,h1,i,hi=>by
   rw [lI] at hs;simp only [Bool.and_eq_true] at hs;obtain ⟨n1,n2,n3⟩:=ZY hn;rw [dh] at h1;rw [zA] at hi;rcases List.mem_append.1 hi with hi | hi
   ·split at hi
    ·rename_i h12;rw [List.mem_singleton.1 hi];exact aj8 hW hp (by simpa using h12) n1 h0 (by omega)
    ·rename_i h12;rcases List.mem_append.1 hi with hi | hi
     ·exact Vb hW hp st kids d hs.1.2 n2 h0 (by omega) i hi
     ·rw [List.mem_singleton.1 hi];have hk:1<=dh kids:=by
       cases kids with
       | nil=>
         exfalso;have ho:=Yj hs.1.1;have h:=hs.1.1;unfold Bg opsOf at h;simp at h12;have a1:(op == 1 || op == 2)=false:=(by simp [h12]);rw [a1] at h;simp only [Bool.false_eq_true,if_false,Bool.and_eq_true] at h;have h1:=h.1;simp only [aZ.len] at h1;split at h1
         ·simp at h1
         ·split at h1 <;> simp at h1
       | cons=>rw [dh]; omega
      exact aJ3 hW hp hs.1.1 (by simpa using h12) n1 h0 (by omega)
   ·exact Vb hW hp st rest (d + 1) hs.2 n3 (by omega) (by omega) i hi
theorem al6 (W:Wo) (lc:List ByteArray) (st op n:Int) (nm:ByteArray) (kids:aZ) (d:Int):zA W lc st (.cons op n nm kids .nil) d=jO W lc st op n nm kids d:=by
 rw [zA,zA,List.append_nil]; rfl
theorem O7 {op n:Int} {nm:ByteArray} {kids:aZ} (h:jT p j op n nm kids=0):jH op n nm kids=true∧ ¬ (24 < (ext kids).1)∧xH p j op nm kids=0:=by
 unfold jT at h;split at h
 ·rename_i h1;split at h
  ·exact absurd h (by decide)
  ·rename_i h2; simp at h2; exact ⟨h1,by omega,h⟩
 ·exact absurd h (by decide)
theorem RU {n:Int} (h1: -9223372036854775808<=n) (h2:n<=9223372036854775807):wrap64 n=n:=by unfold wrap64; omega
theorem MU: ∀(l:aZ) (n d:Int),0<=n->n + dh l<=1000000->(zi l n d).1=n + dh l
 | .nil,n,d,_,_=>by simp [zi,dh]
 | .cons op m nm kids rest,n,d,h0,h1=>by rw [dh] at h1 ⊢;have hk:=MU kids 1 0 (by omega) (by omega);rw [zi,hk,RU (by omega) (by omega),MU rest _ _ (by omega) (by omega)];omega
theorem aI9 {op n:Int} {nm:ByteArray} {kids:aZ} (h:jT p j op n nm kids=0) (hs:dh kids<=1000):dh kids<=23:=by
 have:=(O7 h).2.1;unfold ext at this;rw [MU kids 1 0 (by omega) (by omega)] at this;omega
theorem Eu (hW:WM W) (hp:nH p) {op n:Int} {nm:ByteArray} {kids:aZ} {d st:Int} (h:jT p j op n nm kids=0) (hs:dh kids<=1000) (h0:0<=d) (h1:d<=3): ∀i ∈ jO W gV st op n nm kids d,GI W st i:=by
 obtain ⟨e1,-,e3⟩:=O7 h;have hnd:=aI9 h hs;rw [<- al6];refine Vb (j:=j) hW hp st _ d ?_ ?_ h0 (by rw [dh,dh]; omega)
 ·rw [lI,lI]; unfold jH at e1; rw [e1]; rfl
 ·rw [Hf,e3]; rfl
end
end Md
end Go.Proofs.YtfbbaiejbjdfbaaGreatDoor
