/- What the reference's walk says of a statement is what the checker says; the contract of the walk's one at every operator. And what hangs on it. -/
import Derived.Test.YtmildapbbcbbhaaGreatDoorGR5
import Derived.Test.YtmildapbbcbbhaaGreatDoorGPL
import Derived.Test.YtmildapbbcbbhaaGreatDoorGPH
set_option linter.unusedSimpArgs false
set_option linter.unusedVariables false
set_option maxHeartbeats 40000000
set_option maxRecDepth 1000000
namespace Go.Proofs.YtmildapbbcbbhaaGreatDoor
open Go.RowKit
namespace Md
def nms (l:List ByteArray):List (List UInt8):=(l.map (·.toList)).reverse
def Cc (k:Int) (h:dD) (l:List ByteArray):List ByteArray:=if h.op==k then l++[h.nm]else l
theorem Ih (k:Int) (h:dD) (l:List ByteArray):nms (Cc k h l)=fL k h (nms l):=by
 unfold nms Cc fL;cases h.op==k <;> simp
theorem U7 (l:List ByteArray) (x:List UInt8):mem (nms l) x=nG l x:=by
 unfold mem nms nG;rw[Bool.eq_iff_iff,List.contains_iff_mem];simp[List.any_eq_true]
theorem U9 (l:List ByteArray):(nms l).length=l.length:=by simp[nms]
theorem NY {ds:List De} : ∀(ts pre:List Th),qZ ds ts pre=none->∀(k:Nat) (d:Th) (r:List Th),ts.drop k=d::r->nH (pre++ts.take k) d.nm.toList=false
 | [],_,_,k,d,r,hd=>by simp at hd
 |t::ts,pre,h,k,d,r,hd=>by
  unfold qZ at h;split at h
  ·cases h
  ·rename_i hc;cases k with
   |zero=>simp only[List.drop_zero,List.cons.injEq]at hd;obtain⟨rfl,rfl⟩:=hd;simp only[Bool.or_eq_true,not_or,Bool.not_eq_true]at hc;simpa using hc.2
   |succ k=>have:=NY ts (pre++[t]) h k d r (by simpa using hd);simpa using this
theorem O1 {l:List Th} {x:List UInt8} (h:nH l x=false): ∀t∈l,t.nm.toList≠x:=λt ht e=>by
 unfold nH at h;rw[List.any_eq_false]at h;exact h t ht (by simp[e])
theorem ab7 {p:Pr} {j:Int} {nm:ByteArray} (h:mean p j nm=8):p.ts.any (λt=>t.nm.toList==nm.toList)=true:=by
 have:=J6 h;unfold kS at this;obtain⟨t,ht,e⟩:=List.mem_map.1 this;exact List.any_eq_true.2 ⟨t,ht,by simp[e]⟩
theorem Cw {ts:List Th} {j k:Nat} {t:Th} {r:List Th} (hd:ts.drop j=t::r) (hjk:j<k):t∈ts.take k:=by
 have h1:ts[j]? =some t:=by have:=List.getElem?_drop (xs:=ts) (i:=j) (j:=0);rw[hd]at this;simpa using this.symm
 have h2:(ts.take k)[j]? =some t:=by rw[List.getElem?_take,if_pos hjk];exact h1
 exact List.mem_of_getElem? h2
theorem LU {p:Pr} {i:Int} {nm:ByteArray} {j:Nat} {t:Th} {r:List Th} (qA:qZ p.ds p.ts []=none) (hd:p.ts.drop j=t::r) (hm:mean p i nm=8):(qz p.ts nm==(j:Int))=(nm.toList==t.nm.toList):=by
 have ha:=ab7 hm;rcases pO (λt:Th=>t.nm.toList==nm.toList) p.ts 0 with⟨-,-,hn⟩|⟨k,d,r',hk,hf,hdk,hs,-⟩
 ·rw[ha]at hn;cases hn
 ·have hdn:d.nm.toList=nm.toList:=by simpa using List.find?_some hs
  have hU:=NY p.ts [] qA;have e:qz p.ts nm=(k:Int):=by unfold qz;simpa using hf
  rw[e,Bool.eq_iff_iff,beq_iff_eq,beq_iff_eq];constructor
  ·intro hkj;have:k=j:=by omega
   subst this;rw[hd]at hdk;injection hdk with h1 h2;rw[h1];exact hdn.symm
  ·intro hnm;by_cases hlt:k<j
   ·exact absurd (by rw[hdn,hnm]) (O1 (hU j t r hd) d (by simpa using Cw hdk hlt))
   ·by_cases hgt:j<k
    ·exact absurd (by rw[hdn,hnm]) (O1 (hU k d r' hdk) t (by simpa using Cw hd hgt))
    ·omega
theorem U8 {nm:ByteArray} (h:kE nm true=true):nm.toList.isEmpty=false:=by
 unfold kE at h;rw[if_pos rfl]at h;rw[Lib.toList_data];cases hl:nm.data.toList with
 |nil=>rw[hl]at h;exact absurd h (by decide)
 |cons a r=>rfl
theorem ae9 {h:dD} {bl el:Nat} (hs:ni h bl el=true):1<=h.op∧h.op<=15:=by
 unfold ni fO at hs;simp only[aJ,decide_eq_true_eq]at hs;exact⟨hs.1.1.1.1,hs.1.1.1.2⟩
theorem ae8 {h:dD} {bl el:Nat} (hs:ni h bl el=true) (hf:fN h.op=true):h.nm.toList.isEmpty=false:=by
 unfold ni at hs;simp only[aJ]at hs;have:=hs.1.1.2.1;rw[hf]at this;exact U8 this
theorem av2 {d:De} (hs:jG d=true) (hk:d.kind=5):d.on.toList.isEmpty=false:=by
 unfold jG at hs;simp only[aJ]at hs;have:=hs.2.2;rw[hk]at this;exact U8 this
theorem O4 (p:Pr) (i:Int) (nm:ByteArray) (k a:Int) (hk:0<=k∧k<=9) (ha:conv k=a) (h0:gM (conv (mean p i nm)) a a=0):mean p i nm=k:=by
 rw[<- nC p i nm k a hk ha]at h0;exact sF h0
theorem Mh {a x y:Int} (h:a=0->x=y):kJ a x=kJ a y:=by
 unfold kJ;cases ha:(a != 0)
 ·exact h (by simpa using ha)
 ·rfl
theorem an2 (a b:Int):(if a != 0 then a else b)=kJ a b:=rfl
section
variable {p:Pr} {j:Nat} {tn fU:ByteArray} {ar:aY} {f g:List UInt8->Bool} {h:dD}
theorem af5 (hsd: ∀d∈p.ds,jG d=true) (q:Bool):
 (if gM (conv (mean p j h.nm)) 5 5 != 0 then gM (conv (mean p j h.nm)) 5 5 else nest ((eZ ar 7 7 ⟨#[]⟩|| !eZ ar 4 4 (jY p.ds h.nm))||(q&&eZ ar 8 8 ⟨#[]⟩)))=gu [dQ (mean p j h.nm) [6],nest ((fF ar [7]|| !qV ar (jY p.ds h.nm) [4])||(q&&fF ar [8]))]:=by
 rw[uy,an2,nC p j h.nm 6 5 (by decide) rfl,om,om];refine Mh (λh0=> ?_);obtain⟨k,d,r,-,-,-,hm,hk,hmu⟩:=Ku h0;rw[hmu,Jy 4 d.on (av2 (hsd d hm) hk)]
theorem aX0 {t t0:Th} {r r0:List Th} (qA:qZ p.ds p.ts []=none) (hd:p.ts.drop j=t::r) (hts:p.ts=t0::r0) {fs:List ByteArray} :
 (if gM (conv (mean p j h.nm)) 7 7 != 0 then gM (conv (mean p j h.nm)) 7 7 else if((((eZ ar 7 7 ⟨#[]⟩||eZ ar 8 8 ⟨#[]⟩)||eZ ar 3 3 ⟨#[]⟩)||qz p.ts h.nm==(j:Int))||qz p.ts h.nm==0)then 7 else kY (nG fs h.nm.toList))=
 gu [dQ (mean p j h.nm) [8],nest (fF ar [7,8,3]||(h.nm.toList==t.nm.toList||h.nm.toList==t0.nm.toList)),kY (mem (nms fs) h.nm.toList)]:=by
 rw[DJ,an2,nC p j h.nm 8 7 (by decide) rfl,om,om,om,KS];refine Mh (λh0=> ?_);have hm:=O4 p j h.nm 8 7 (by decide) rfl h0;have e0:=LU (j:=0) (t:=t0) (r:=r0) qA (by simpa using hts) hm;have e1:=LU qA hd hm;rw[e1,show((0:Int))=((0:Nat):Int)from rfl,e0,U7,Bool.or_assoc (_||_) (_==_)];cases ((fF ar [7]||fF ar [8]||fF ar [3])||(h.nm.toList==t.nm.toList||h.nm.toList==t0.nm.toList)) <;> simp[nest,kJ]
theorem aX1 {t:Th} {r:List Th} (qA:qZ p.ds p.ts []=none) (hd:p.ts.drop j=t::r):
 kJ (gM (conv (mean p j h.nm)) 7 7) (nest ((eZ ar 7 7 ⟨#[]⟩||eZ ar 8 8 ⟨#[]⟩)||qz p.ts h.nm==(j:Int)))=gu [dQ (mean p j h.nm) [8],nest (fF ar [7,8]||h.nm.toList==t.nm.toList)]:=by
 rw[uy,nC p j h.nm 8 7 (by decide) rfl,om,om,F4];refine Mh (λh0=> ?_);rw[LU qA hd (O4 p j h.nm 8 7 (by decide) rfl h0)]
theorem aX2 {gs:List ByteArray} {x:Int} :
 kJ (if(kJ (gM (conv (mean p j h.nm)) 6 6) (nest (eZ ar 7 7 ⟨#[]⟩||eZ ar 3 3 ⟨#[]⟩))==0)&&nG gs h.nm.toList then 8 else kJ (gM (conv (mean p j h.nm)) 6 6) (nest (eZ ar 7 7 ⟨#[]⟩||eZ ar 3 3 ⟨#[]⟩))) x=
 gu [dQ (mean p j h.nm) [7],nest (fF ar [7,3]),kY (mem (nms gs) h.nm.toList),x]:=by
 rw[om,om,F4,U7,nC p j h.nm 7 6 (by decide) rfl];generalize gM (conv (mean p j h.nm)) 6 6=a;generalize nest (fF ar [7]||fF ar [3])=b;generalize nG gs h.nm.toList=c;unfold gu gu gu gu kJ kY;cases ha:(a != 0) <;> cases hb:(b != 0) <;> cases c <;> simp_all[gu]
 all_goals (intro hx;exact hx.symm)
end
end Md
open Md
theorem Cb.plain {w w':World} {L:sj} {p:Pr} {aK aM:Option Addr} {aH aD:Nat} {i:Int} {A:List Fr} {fs gs:List ByteArray} {v vs ve:Value} {h:dD} {r x:Int} {e:Ending}
 (hI:kI w L p aK aM aH aD i A fs gs v vs ve) (h12:(h.op==12)=false) (tN:(h.op==14)=false) (hr:x=r) (hp:e= .returned (.int .i64 x)∧Below w.heap.size w w'):Cb w L p aK aM aH aD i A fs gs v vs ve (Cc 12 h fs) (Cc 14 h gs) r e w':=by
 subst hr;refine⟨hp.1,Kw.of_below hp.2,fs,gs,vs,ve,mH.refl _ _,hI.below hp.2,λ_=> ?_⟩;unfold Cc;rw[h12,tN];exact⟨rfl,rfl⟩
theorem YM (L:sj) (p:Pr) (w:World) (aK aM:Option Addr) (aH aD:Nat) (j:Nat) (A:List Fr) (fs gs:List ByteArray) (v vs ve:Value) (hI:kI w L p aK aM aH aD (j:Int) A fs gs v vs ve) (h:dD) (b e:aY) (s:Sl) (hin:tL w L.B0 h b e s) (hj:bW (j:Int)) (hA:A.length<=maxLen) (hfs:fs.length<=1000000000000) (hgs:gs.length<=1000000000000)
 (t t0:Th) (r r0:List Th) (hd:p.ts.drop j=t::r) (hts:p.ts=t0::r0) (qA:qZ p.ds p.ts []=none) (hsd: ∀d∈p.ds,jG d=true) (hsh:ni h b.len e.len=true):
 Calls Tryz.prog 55 #[.pointer (some ⟨L.bc,0,none⟩),iy h b e s] w (Cb w L p aK aM aH aD (j:Int) A fs gs v vs ve (Cc 12 h fs) (Cc 14 h gs) (jk p j t.nm t0.nm (dA A) (mem (nms fs)) (mem (nms gs)) h)):=by
 have hop:=ae9 hsh;have hnm:=ae8 hsh;have hc:h.op=12∨h.op=14∨h.op=1∨h.op=2∨h.op=3∨h.op=4∨h.op=5∨h.op=6∨h.op=7∨h.op=8∨h.op=9∨h.op=10∨h.op=11∨h.op=13∨h.op=15:=by omega
 rcases hc with hc|hc|hc
 ·refine(aw4 L p w aK aM aH aD j A fs gs v vs ve hI h b e s hin hj hA hfs hgs hc).mono (λe' w' hr=> ?_);have e1:Cc 12 h fs=fs++[h.nm]:=by unfold Cc;rw[hc];rfl
  have e2:Cc 14 h gs=gs:=by unfold Cc;rw[hc];rfl
  have e3:jk p j t.nm t0.nm (dA A) (mem (nms fs)) (mem (nms gs)) h=gu [dQ (mean p j h.nm) [8],nest (fF (dA A) [7,8,3]||(h.nm.toList==t.nm.toList||h.nm.toList==t0.nm.toList)),kY (mem (nms fs) h.nm.toList)]:=by unfold jk;simp[hc]
  rw[e1,e2,e3,<- aX0 qA hd hts];exact hr
 ·refine(aw5 L p w aK aM aH aD j A fs gs v vs ve hI h b e s hin hj hA hfs hgs hc).mono (λe' w' hr=> ?_);have e1:Cc 12 h fs=fs:=by unfold Cc;rw[hc];rfl
  have e2:Cc 14 h gs=gs++[h.nm]:=by unfold Cc;rw[hc];rfl
  have e3:jk p j t.nm t0.nm (dA A) (mem (nms fs)) (mem (nms gs)) h=gu [dQ (mean p j h.nm) [7],nest (fF (dA A) [7,3]),kY (mem (nms gs) h.nm.toList),jW p j h.dN h.xn h.dJ h.bG]:=by unfold jk;simp[hc]
  rw[e1,e2,e3,<- aX2];exact hr
 ·obtain⟨cK,bQ,rfl,hat⟩:=hI.form;obtain⟨kC,iY,rfl,-⟩:=hI.V7;obtain⟨jJ,iX,rfl,-⟩:=hI.V6;have hp:=hI.dat.use hI.b0;have hin':=hin.use hI.b0;have hal:(dA A).len<=maxLen:=by rw[rH];exact hA
  have hh:=hI.holds;refine(aw6 p w aK aM aH aD j cK bQ L.bc kC _ iY jJ _ iX h b e (dA A) s hj hp hin' hal hat hh ?_).mono (λe' w' hr=>Cb.plain hI (by simp;omega) (by simp;omega) rfl hr);rcases hc with hc|hc|hc|hc|hc|hc|hc|hc|hc|hc|hc|hc|hc
  ·cases hix:h.idx with
   |nil=>exact .inl ⟨hc,rfl,Eq.symm (by rw[<- Vk,<- uy];unfold jk Cg;simp[hc,hix,bJ.len])⟩
   |cons Lc n0 La Bj Fb=>exact .inr (.inl ⟨hc,_,_,_,_,_,rfl,Eq.symm (by have hne: ¬((Fb.len:Int)+1=0):=(by omega);rw[<- nC p j h.nm 3 2 (by decide) rfl,<- DJ];unfold jk Cg Te;simp[hc,hix,bJ.len,hne])⟩)
  ·exact .inr (.inr (.inl ⟨hc,Eq.symm (by unfold jk;simp[hc])⟩))
  ·exact .inr (.inr (.inr (.inl ⟨hc,Eq.symm (by unfold jk;simp[hc])⟩)))
  ·exact .inr (.inr (.inr (.inr (.inl ⟨hc,Eq.symm (by rw[<- nC p j h.nm 4 3 (by decide) rfl,<- uy,om,Jy 4 h.nm (hnm (by rw[hc];rfl))];unfold jk;simp[hc])⟩))))
  ·exact .inr (.inr (.inr (.inr (.inr (.inl ⟨hc,Eq.symm (by rw[<- nC p j h.nm 5 4 (by decide) rfl,<- uy,om,Jz 5 6 h.nm (hnm (by rw[hc];rfl))];unfold jk;simp[hc])⟩)))))
  ·exact .inr (.inr (.inr (.inr (.inr (.inr (.inl ⟨hc,Eq.symm (by rw[<- nC p j h.nm 5 4 (by decide) rfl,<- uy,om,Jz 5 6 h.nm (hnm (by rw[hc];rfl))];unfold jk;simp[hc])⟩))))))
  ·exact .inr (.inr (.inr (.inr (.inr (.inr (.inr (.inl ⟨hc,Eq.symm (by rw[om];unfold jk;simp[hc])⟩)))))))
  ·exact .inr (.inr (.inr (.inr (.inr (.inr (.inr (.inr (.inl ⟨hc,Eq.symm (by rw[om,om,<- F4];unfold jk;simp[hc])⟩))))))))
  ·exact .inr (.inr (.inr (.inr (.inr (.inr (.inr (.inr (.inr (.inl ⟨hc,Eq.symm (by rw[af5 hsd];unfold jk;simp[hc])⟩)))))))))
  ·exact .inr (.inr (.inr (.inr (.inr (.inr (.inr (.inr (.inr (.inr (.inl ⟨hc,Eq.symm (by rw[af5 hsd];unfold jk;simp[hc])⟩))))))))))
  ·exact .inr (.inr (.inr (.inr (.inr (.inr (.inr (.inr (.inr (.inr (.inr (.inl ⟨hc,Eq.symm (by rw[af5 hsd];unfold jk;simp[hc])⟩)))))))))))
  ·exact .inr (.inr (.inr (.inr (.inr (.inr (.inr (.inr (.inr (.inr (.inr (.inr (.inl ⟨hc,Eq.symm (by rw[aX1 qA hd];unfold jk;simp[hc])⟩))))))))))))
  ·exact .inr (.inr (.inr (.inr (.inr (.inr (.inr (.inr (.inr (.inr (.inr (.inr (.inr ⟨hc,Eq.symm (by rw[<- nC p j h.nm 1 8 (by decide) rfl,<- nC p j h.arg 7 6 (by decide) rfl,om,<- DJ];unfold jk;simp[hc])⟩))))))))))))
def aF0 (w:World) (L:sj) (p:Pr) (aK aM:Option Addr) (aH aD:Nat) (i:Int) (A:List Fr) (v vs ve:Value) (r:ME) (e:Ending) (w':World):Prop:=
 e= .returned (.tuple #[.int .i64 r.err,.int .i64 r.line])∧Kw L [v,vs,ve] w w'∧∃fs' gs' v' vs' ve',mH w [v,vs,ve] [v',vs',ve']∧kI w' L p aK aM aH aD i A fs' gs' v' vs' ve'∧(r.err=0->ny (kS p) r.f∧ny (lF p) r.g∧nms fs'=r.f∧nms gs'=r.g)
def Ej (L:sj) (p:Pr) (aK aM:Option Addr) (aH aD:Nat) (j:Nat) (t t0:Th) (l:aY):Prop:=
 ∀(w:World) (ao:Option Addr) (cap:Nat) (A:List Fr) (fs gs:List ByteArray) (v vs ve:Value),l.len<=maxLen->l.At w L.B0 ao 0->gN l=true->A.length<=6->ny (kS p) (nms fs)->ny (lF p) (nms gs)->kI w L p aK aM aH aD (j:Int) A fs gs v vs ve->
  Calls Tryz.prog 28 #[.pointer (some ⟨L.bc,0,none⟩),.slice ao l.len cap] w (aF0 w L p aK aM aH aD (j:Int) A v vs ve (gK p j t.nm t0.nm l (dA A) (nms fs) (nms gs)))
theorem aG9 {p:Pr} {fs:List ByteArray} {n:Nat} (h:ny (kS p) (nms fs)) (hT:p.ts.length<=n):fs.length<=n:=by
 have:=h.le;rw[U9]at this;unfold kS at this;rw[gX]at this;omega
theorem aG8 {p:Pr} {fs:List ByteArray} {n:Nat} (h:ny (lF p) (nms fs)) (hT:p.ds.length<=n):fs.length<=n:=by
 have:=h.le;rw[U9]at this;unfold lF at this;rw[gX]at this;omega
theorem JQ (L:sj) (p:Pr) (aK aM:Option Addr) (aH aD:Nat) (j:Nat) (t t0:Th) (r r0:List Th) (hd:p.ts.drop j=t::r) (hts:p.ts=t0::r0) (hj:bW (j:Int)) (hT:p.ts.length<=1000000000000) (hD:p.ds.length<=1000000000000) (qA:qZ p.ds p.ts []=none) (hsd: ∀d∈p.ds,jG d=true) (l:aY) (hall:l.All λ_ b e=>Ej L p aK aM aH aD j t t0 b∧Ej L p aK aM aH aD j t t0 e):Ej L p aK aM aH aD j t t0 l:=by
 intro w ao cap A fs gs v vs ve hl hat hsh hA hf hg hI;generalize hres:gK p j t.nm t0.nm l (dA A) (nms fs) (nms gs)=res;have HR:=ah hres;have HAT:=ah hat;have ku:=ah hall;have BR:=ah hsh;have HF:=ah hf;have HG:=ah hg;have HI:=ah hI;have rT:=ah qA;have wR:=ah hsd;have HTT:=ah hT;have RV:=ah hD;have HD:=ah hd;have qx:=ah hts;unfold maxLen at hl;have HA:=ah hA;clear hres hat hall hf hg hI hA hsh qA hsd hT hD hd hts;go_enter Tryz.func28,Tryz.ntmps28;go_wp2_with fail;go_loopw [6,7,8,9] (λs _ _ _ wr=> ∃(k:Nat) (R:aY) (f1 g1:List ByteArray) (v1 s1 e1:Value),s= .int .i64 k∧k+R.len=l.len∧res=gK p j t.nm t0.nm R (dA A) (nms f1) (nms g1)∧(R.All λ_ b e=>Ej L p aK aM aH aD j t t0 b∧Ej L p aK aM aH aD j t t0 e)∧R.At wr L.B0 ao k∧gN R=true∧ny (kS p) (nms f1)∧ny (lF p) (nms g1)∧Kw L [v,vs,ve] w wr∧mH w [v,vs,ve] [v1,s1,e1]∧kI wr L p aK aM aH aD (j:Int) A f1 g1 v1 s1 e1) (λs _ _ _ _=>l.len -(intOf s).toNat)
 case atStart=>exact⟨0,l,fs,gs,v,vs,ve,rfl,by simp,HR.o.symm,ku.o,HAT.o,BR.o,HF.o,HG.o,Kw.refl _ _ _,mH.refl _ _,HI.o⟩
 case round=>
  obtain⟨k,R,f1,g1,v1,s1,e1,rfl,hlen,heq,hall,hrow,hsl,hf1,hg1,hKw,Xp,hI⟩:=hrel;have HE:=ah heq;have HK:=ah hKw;have HO:=ah Xp;have HSL:=ah hsl;clear heq hKw Xp hsl;cases R with
  |nil=>
   obtain rfl:k=l.len:=by simpa[aY.len]using hlen
   have HX:aj (aF0 w L p aK aM aH aD (j:Int) A v vs ve res (.returned (.tuple #[.int .i64 0,.int .i64 0])) wr):=ah (by rw[HE.o];exact⟨rfl,HK.o,f1,g1,v1,s1,e1,HO.o,hI,λ_=>⟨hf1,hg1,rfl,rfl⟩⟩);clear hI hall hrow hf1 hg1 HE;go_wp2_with fail
   go_ret2
   exact HX.o
  |cons h b e R=>
   obtain⟨bl,off,s,rfl,hbl,hin,x0,x1,x2,x3,x4,x5,x6,x7,x8,x9,x10,hrest⟩:=aY.At.am7 hrow;have hkl:k<l.len:=by simp only[aY.len]at hlen;omega
   obtain⟨kN,xY⟩:=hall;obtain⟨cK,bQ,rfl,-⟩:=hI.form;have P9:=ah kN;have YU:=ah xY;have zG:=ah hf1;have qD:=ah hg1;have iq:=ah hin;have mQ:=ah hrest;have BK:=ah hI;have mZ:aj (ni h b.len e.len=true∧gN b=true∧gN e=true∧gN R=true):=ah (by have:=HSL.o;unfold gN at this;simp only[aJ]at this;exact⟨this.1.1,this.1.2.1,this.1.2.2,this.2⟩);clear hrow hin kN xY hf1 hg1 hrest hI HSL;go_upto_region 5 with fail;generalize hW2:World.alloc wr _=W2;obtain⟨nb,hnb,yM,-,vQ,-⟩:=oO hW2;have HI2:=ah (BK.o.below yM.o);have qE:aj (Kw L [v,vs,ve] w W2):=ah (HK.o.trans HO.o (Kw.of_below yM.o));have jE:aj (L.B1<=nb∧nb<W2.heap.size):=ah ⟨by rw[<- hnb];exact BK.o.sz,(aO vQ.o)⟩;have OZ:aj (¬Own [.slice cK A.length bQ,s1,e1] nb):=ah (λe=>by have:=(BK.o.own _ e).2;omega);rw[hnb];clear hW2 hnb x0 x1 x2 x3 x4 x5 x6 x7 x8 x9 x10 hbl;have hA6:=HA.o;obtain⟨y0,y1,y2,y3,y4,y5,y6,y7,y8,y9,jy⟩:=PW vQ.o;go_wp2_with fail;refine(YM L p W2 aK aM aH aD j A f1 g1 _ s1 e1 HI2.o h b e s (iq.o.below (yM.o.mono BK.o.b0)) hj (by unfold maxLen;omega) (aG9 zG.o HTT.o) (aG8 qD.o RV.o) t t0 r r0 HD.o qx.o rT.o wR.o mZ.o.1).mono ?_;rintro e' w3 ⟨rfl,hK3,f3,g3,s3,e3,hO3,Co,hq3⟩;have BH:aj (w3.heap[nb]? =some (.cells (pR h b e s).toArray 62 (0,0))):=ah ((hK3.far jE.o.2 jE.o.1 OZ.o).trans vQ.o);have HI3:=ah Co;have Jg:=ah hK3;have sN:aj (Kw L [v,vs,ve] w w3):=ah (qE.o.trans HO.o hK3);have Ws:aj (mH w [v,vs,ve] [.slice cK A.length bQ,s3,e3]):=ah (HO.o.trans hO3 qE.o.size);have Z9:aj (¬Own [.slice cK A.length bQ,s3,e3] nb):=ah (hO3.ne jE.o.2 OZ.o);have Ww:=ah hq3;have EZ:nb<w3.heap.size:=(aO BH.o);clear hK3 Co hO3 hq3 y0 y1 y2 y3 y4 y5 y6 y7 y8 y9 jy;obtain⟨y0,y1,y2,y3,y4,y5,y6,y7,y8,y9,jy⟩:=PW BH.o;have c3:w3.cell? ⟨L.bc,3,none⟩=some (.slice cK A.length bQ):=(eY HI3.o.blk (j:=3) rfl).2;by_cases Qe:A.length=6
   ·have HX:aj (res=⟨2,h.line,nms f1,nms g1⟩):=ah (HE.o.trans (by rw[gK,if_pos (by rw[rH,Qe];rfl)]));rw[Qe]at c3;clear hA6;go_wp2_with fail;go_quiet (fail);go_wp2_with fail
    go_ret2
    refine⟨qC (by rw[HX.o];rfl) (by rw[HX.o];rfl),sN.o.trans (mH.refl _ _) (Kw.of_below (below_drewN (ak _ _) _)),f3,g3,_,s3,e3,Ws.o,HI3.o.below (below_drewN (ak _ _) _),λh0=> ?_⟩;rw[HX.o]at h0;cases h0
   ·have hA':A.length<6:=(by omega);have hdec:decide (6<(A.length:Int)+1)=false:=(by rw[decide_eq_false_iff_not];omega);have E8:aj (jk p j t.nm t0.nm (dA A) (mem (nms f1)) (mem (nms g1)) h=0->ny (kS p) (fL 12 h (nms f1))∧ny (lF p) (fL 14 h (nms g1))):=ah (λh0=>⟨al6 zG.o h0,al7 qD.o h0⟩);have HU:aj (res=if jk p j t.nm t0.nm (dA A) (mem (nms f1)) (mem (nms g1)) h != 0 then⟨jk p j t.nm t0.nm (dA A) (mem (nms f1)) (mem (nms g1)) h,h.line,nms f1,nms g1⟩else SQ p j t.nm t0.nm b e R (dA A) ((dA A).app (.cons h b e .nil)) 0 (fL 12 h (nms f1)) (fL 14 h (nms g1))):=ah (HE.o.trans (by rw[gK,if_neg (by rw[rH,decide_eq_true_iff];omega)];rfl));clear HE Qe;generalize jk p j t.nm t0.nm (dA A) (mem (nms f1)) (mem (nms g1)) h=x at *;cases hx:(x != 0)
    case true=>
     have HX:aj (res=⟨x,h.line,nms f1,nms g1⟩):=ah (HU.o.trans (by rw[hx];rfl));have HX0:aj (x≠0):=ah (by simpa using hx);clear HU E8;go_wp2_with fail;go_quiet (fail);go_wp2_with fail
     go_ret2
     refine⟨qC (by rw[HX.o];rfl) (by rw[HX.o];rfl),sN.o.trans (mH.refl _ _) (Kw.of_below (below_drewN (ak _ _) _)),f3,g3,_,s3,e3,Ws.o,HI3.o.below (below_drewN (ak _ _) _),λh0=> ?_⟩;rw[HX.o]at h0;exact(HX0.o h0).elim
    have HT:aj (res=aF8 p j t.nm t0.nm b e R (dA A) ((dA A).app (.cons h b e .nil)) (nms f3) (nms g3)):=ah (HU.o.trans (by rw[hx,(Ww.o (by simpa using hx)).1,(Ww.o (by simpa using hx)).2,Ih,Ih];rfl));have wO:aj (ny (kS p) (nms f3)∧ny (lF p) (nms g3)):=ah (by rw[(Ww.o (by simpa using hx)).1,(Ww.o (by simpa using hx)).2,Ih,Ih];exact E8.o (by simpa using hx));clear HU E8 Ww;go_upto_region 10 with fail;obtain⟨Y0,Y1,Y2,Y3,Y4,Y5,Y6,Y7,Y8,Y9,AB⟩:=LX EZ y0 y1 y2 y3 y4 y5 y6 y7 y8 y9 jy;have L3:=ko (by have:=HI3.o.sz;have:=L.c1;show L.bc<_;omega) c3;clear y0 y1 y2 y3 y4 y5 y6 y7 y8 y9 jy c3 hdec;refine dI (by kernel_rfl) rfl ?_;refine dw 0 7 [] [[],[0],[0,1],[0,1,2],[],[0,1,2,3],[],[0,1,2,3,4,5,6],[0,1,2,3,4,5,6,7],[0,1,2,3,4,5,6,7,8],[0,1,2,3,4,5,6,7],[0,1,2,3,4,5,6,7,10],[0,1,2,3,4,5,6,7,10,11]] [[],[],[],[],[],[],[]] (λ_ w'=>Below w3.heap.size w3 w') (λw w'=>Below w.heap.size w w') [35,36,37,38,39,40,41] rfl rfl (by rfl) (by kernel_rfl) (by kernel_rfl) (by kernel_rfl) (by kernel_rfl) (by kernel_rfl) (by rfl) (λ_=>ak _ _) (by rfl) (below_drewN (ak _ _) 1) ?_;simp only[iW,mU]
    iterate 6
     apply bS.step
     case bg=>intro c A w' hok hC hO hD;have e0:=hO 0 (by rfl);have e7:=hO 7 (by rfl);simp[Act.eval]at e0 e7;simp[Act.eval]at hD;simp[go_sem,gd,Oper.wp,hD,e0,e7,L3,hC,Y0,Y1,Y2,Y3,Y4,Y5,Y6,Y7,Y8,Y9,AB];exact aR.mk (ak _ _) hC (bZ.mk _ _)
    refine bS.some (λv w'=> ∃bb,v= .slice (some ⟨bb,0,none⟩) 1 1∧w'.heap[bb]? =some (.cells YQ 62 (0,0))) ?_ ?_ ?_
    ·rintro v w w' hle ⟨bb,rfl,hbb⟩;exact⟨bb,rfl,(hle.block bb (aO hbb)).trans hbb⟩
    ·intro c A w' hok hC hO hD;simp[go_sem,gd,Oper.wp];exact aR.mk (d:=_) (v:= .slice (some ⟨_,0,none⟩) 1 1) (au _ _) (hC.trans ((au _ _).mono hC.size)) ⟨_,rfl,heap_alloc_new _ _⟩
    try simp only[dR]
    refine bS.done ?_;intro wz dF;simp only[List.drop_zero];intro v0 h0 v1 h1 v2 h2 v3 h3 v4 h4 v5 h5 v6 h6;have h0':v0=_:=h0;have h1':v1=_:=h1;have h2':v2=_:=h2;have h3':v3=_:=h3;have h4':v4=_:=h4;have h5':v5=_:=h5;subst h0' h1' h2' h3' h4' h5';obtain⟨bb,rfl,hbb⟩:=h6;clear h0 h1 h2 h3 h4 h5;refine dP.nil ?_;go_simp;refine fD 7 [[],[0],[0,1],[0,1,2],[],[0,1,2,3],[],[0,1,2,3,4,5,6],[0,1,2,3,4,5,6,7],[0,1,2,3,4,5,6,7,8],[0,1,2,3,4,5,6,7],[0,1,2,3,4,5,6,7,10],[0,1,2,3,4,5,6,7,10,11]] rfl rfl rfl rfl rfl (by kernel_rfl) (by kernel_rfl) (by kernel_rfl) ?_;obtain⟨i0,hi0,hz0,hz1,hz2⟩:=Ud;have BM:=ah (HI3.o.below dF);refine wp_append_lies wz _ _ _ (by rfl) L.B1 62 i0 _ 11 176 Tryz.underlying55 hi0 hz0 hz1 hz2 (by rfl) (by omega) (.slice cK A.length bQ) A.length (AQ A) (by rfl) BM.o.row ⟨bb,0,none⟩ 1 1 YQ.toList (by rfl) (by rfl) (World.news_of_block hbb) (by decide) (by omega) (by unfold maxLen;omega) (by omega) BM.o.sz wz.heap.size rfl ?_;intro g' cap' w4 sD qh xZ Ct;clear hi0 hz0 hz1 hz2 hbb Y0 Y1 Y2 Y3 Y4 Y5 Y6 Y7 Y8 Y9 AB L3;have Z5:aj (tL w3 L.B0 h b e s):=ah (iq.o.below ((yM.o.mono BK.o.b0).trans (Jg.o.below HI2.o.b0 (λk e=>(HI2.o.own k e).1))));have xM:=ah (HI3.o.push ⟨h,b,e,s⟩ Z5.o dF sD qh xZ);have hgb:=(sD.lt g' rfl).1;have eF:aj (w4.heap[L.bc]? =some (.cells (wkV p aK aM aH aD (j:Int) (.slice cK A.length bQ) s3 e3) 90 (0,0))):=ah ((qh.block _ (aO BM.o.blk) (λe'=>BM.o.LW (u:= .slice cK A.length bQ) (by simp) e'.symm)).trans BM.o.blk);have aC6:=ah (Ld sD);have EW:g'≠L.bc:=(by have:=L.c1;omega);clear sD qh xZ Ct hgb;go_simp;refine dw 8 13 [9,12] [[],[0],[0,1],[0,1,2],[],[0,1,2,3],[],[0,1,2,3,4,5,6],[0,1,2,3,4,5,6,7],[0,1,2,3,4,5,6,7,8],[0,1,2,3,4,5,6,7],[0,1,2,3,4,5,6,7,10],[0,1,2,3,4,5,6,7,10,11]] [[some false,none],[some false,none],[none,some false],[none,some false],[none,some false]] (PC w4 g' (A.length*11) (pR h b e s) ⟨L.bc,3,none⟩ (.slice (some ⟨g',0,none⟩) (A.length+1) cap')) (λ_ _=>True) [43,44,45] rfl rfl (by rfl) (by kernel_rfl) (by kernel_rfl) (by kernel_rfl) (by kernel_rfl) (by kernel_rfl) (by rfl) (λ_=>trivial) (by rfl) rfl ?_;simp only[iW,mU];have Tq:(0:Int)<=(A.length:Int):=(by omega);have hA1:(A.length:Int)<(A.length:Int)+1:=(by omega);apply bS.step
    case bg=>intro c A w' hok hC hO hD;have e42:=hO 42 (by rfl);have e40:=hO 40 (by rfl);simp[Act.eval]at e42 e40;simp[Act.eval]at hD;simp[go_sem,gd,Oper.wp,hD,e42,e40,hA1];exact aR.mk trivial (PC.skip (by rfl) (by rfl) hC) (bZ.mk _ _)
    refine bS.some (λ_ _=>True) (λ_ _ _ _ _=>trivial) ?_ ?_
    ·intro c A' w' hok hC hO hD;obtain⟨x,y,rfl⟩:=hC.bits;obtain⟨rfl,-⟩:=hok;have e39:=hO 39 (by rfl);simp[Act.eval]at hD;simp only[gd,if_true];refine wp_store_mid _ _ _ (by rfl) g' (A.length*11) (pR h b e s).toArray (by simp[Act.eval,hD]) (e39.trans (by rfl)) (EC aC6.o (hC.Tc EW)) Ue (by simp[pR,Value.oneCell']) ?_;exact aR.Cx trivial (PC.elt EW (by rfl) (by rfl) hC) trivial
    try simp only[dR]
    iterate 2
     apply bS.step
     case bg=>intro c A w' hok hC hO hD;have e35:=hO 35 (by rfl);simp[Act.eval]at e35;simp[Act.eval]at hD;simp[go_sem,gd,Oper.wp,hD,e35];exact aR.mk trivial (PC.skip (by rfl) (by rfl) hC) (bZ.mk _ _)
    refine bS.some (λ_ _=>True) (λ_ _ _ _ _=>trivial) ?_ ?_
    ·intro c A' w' hok hC hO hD;obtain⟨x,y,rfl⟩:=hC.bits;obtain⟨rfl,-⟩:=hok;have e42:=hO 42 (by rfl);simp[Act.eval]at e42;simp[Act.eval]at hD;have hbk0:w'.heap[L.bc]? =w4.heap[L.bc]?:=PC.Tg (a:=⟨L.bc,3,none⟩) EW hC (aO eF.o);have hbk:=hbk0.trans eF.o;have hcl:w'.cell? ⟨L.bc,3,none⟩=some (.slice cK A.length bQ):=(eY hbk (j:=3) rfl).2;have hfr:w'.frozen? ⟨L.bc,3,none⟩=false:=bH hbk;simp[go_sem,gd,Oper.wp,hD,e42,hcl,hfr];exact aR.Cx (v:=undef) trivial (PC.fld (by rfl) (by rfl) hC) trivial
    simp only[List.nil_append,List.cons_append,List.drop_succ_cons,List.drop_zero];refine bS.done ?_;intro w5 Xm;simp only[List.drop_succ_cons,List.drop_zero];intro v0 h0 v1 h1 v2 h2 v3 h3 v4 h4;clear h0 h1 h2 h3 h4;refine dP.nil ?_;refine eO rfl ?_;have Kc:aj (w5=(w4.setCells g' (A.length*11) (pR h b e s)).setCell ⟨L.bc,3,none⟩ (.slice (some ⟨g',0,none⟩) (A.length+1) cap')):=ah Xm;rw[<- Kc.o]at xM;have iA:=ah xM.o.1;have Jh:=ah xM.o.2.1;have LA:=ah xM.o.2.2;have Sc:aj (Kw L [v,vs,ve] w w5):=ah (sN.o.trans Ws.o xM.o.2.1);have Si:aj (mH w [v,vs,ve] [.slice (some ⟨g',0,none⟩) (A.length+1) cap',s3,e3]):=ah (Ws.o.trans xM.o.2.2 sN.o.size);have LB:aj (¬Own [.slice (some ⟨g',0,none⟩) (A.length+1) cap',s3,e3] nb):=ah (LA.o.ne EZ Z9.o);have FU:aj (w5.heap[nb]? =some (.cells (pR h b e s).toArray 62 (0,0))):=ah ((Jh.o.far EZ jE.o.1 Z9.o).trans BH.o);have YV:=ah (Jh.o.below HI3.o.b0 (λk e=>(HI3.o.own k e).1));have P6:aj (aY.At w5 L.B0 R (some ⟨bl,off,none⟩) (k+1)):=ah (mQ.o.below (((yM.o.mono BK.o.b0).trans (Jg.o.below HI2.o.b0 (λk e=>(HI2.o.own k e).1))).trans YV.o));have YZ:=ah (Z5.o.below YV.o);have mq:aj (b.len<=maxLen∧e.len<=maxLen):=ah iq.o.1.2.2.2.2.2.2;have ZX:nb<w5.heap.size:=(aO FU.o);obtain⟨-,-,-,-,-,-,-,-,-,y9,jy⟩:=PW FU.o;clear Xm Kc xM aC6 eF Tq hA1 EW;clear hx EZ BM dF HI3 sN Jg BH Jh LA OZ HI2 qE vQ yM BK iq Z5 mQ HO HK zG qD HF HG HI HAT Ws Z9 YV;go_simp;have VY:aj (res=if(gK p j t.nm t0.nm b (dA (A++[⟨h,b,e,s⟩])) (nms f3) (nms g3)).err != 0 then gK p j t.nm t0.nm b (dA (A++[⟨h,b,e,s⟩])) (nms f3) (nms g3)else Q5 p j t.nm t0.nm e R (dA A) (dA (A++[⟨h,b,e,s⟩])) (gK p j t.nm t0.nm b (dA (A++[⟨h,b,e,s⟩])) (nms f3) (nms g3)).f (gK p j t.nm t0.nm b (dA (A++[⟨h,b,e,s⟩])) (nms f3) (nms g3)).g):=ah (by rw[zm];exact HT.o);clear HT;go_wp2_with fail;refine(P9.o.1 _ s.dH s.cu (A++[⟨h,b,e,s⟩]) f3 g3 _ s3 e3 mq.o.1 YZ.o.2.2.2.1 mZ.o.2.1 (by simp;omega) wO.o.1 wO.o.2 iA.o).mono ?_;rintro e' w6 ⟨rfl,Qg,f6,g6,v6,s6,e6,Tv,KG,hq6⟩;generalize gK p j t.nm t0.nm b (dA (A++[⟨h,b,e,s⟩])) (nms f3) (nms g3)=r1 at *;have YW:=ah (Qg.below iA.o.b0 (λk e=>(iA.o.own k e).1));have FY:aj (Kw L [v,vs,ve] w w6):=ah (Sc.o.trans Si.o Qg);have G5:aj (mH w [v,vs,ve] [v6,s6,e6]):=ah (Si.o.trans Tv Sc.o.size);have LC:aj (¬Own [v6,s6,e6] nb):=ah (Tv.ne ZX LB.o);have Dv:aj (w6.heap[nb]? =some (.cells (pR h b e s).toArray 62 (0,0))):=ah ((Qg.far ZX jE.o.1 LB.o).trans FU.o);have tK:=ah (P6.o.below YW.o);have az4:=ah (YZ.o.below YW.o);have xL:=ah KG;have HQ6:=ah hq6;clear Qg Tv KG hq6 YW Sc Si LB FU P6 YZ iA ZX y9 jy wO;obtain⟨-,-,-,-,-,-,-,-,-,y9,jy⟩:=PW Dv.o
    go_upto_if 54 with fail
    go_cut [8,9] (λs8 s9 W7=> ∃(r2:ME) (f7 g7:List ByteArray) (v7 s7 e7:Value),s8= .int .i64 r2.err∧s9= .int .i64 r2.line∧(res=if r2.err != 0 then r2 else gK p j t.nm t0.nm R (dA A) r2.f r2.g)∧Kw L [v,vs,ve] w W7∧mH w [v,vs,ve] [v7,s7,e7]∧R.At W7 L.B0 (some ⟨bl,off,none⟩) (k+1)∧kI W7 L p aK aM aH aD (j:Int) (A++[⟨h,b,e,s⟩]) f7 g7 v7 s7 e7∧(r2.err=0->ny (kS p) r2.f∧ny (lF p) r2.g∧nms f7=r2.f∧nms g7=r2.g))
    case first=>
     cases hr1:(r1.err==0)
     ·have Ea:aj (res=if r1.err != 0 then r1 else gK p j t.nm t0.nm R (dA A) r1.f r1.g):=ah (by have hb:(r1.err != 0)=true:=(by simpa using hr1);rw[hb];exact VY.o.trans (by rw[hb];rfl));clear VY;go_wp2_with fail;go_meet;exact⟨r1,f6,g6,v6,s6,e6,rfl,rfl,Ea.o,FY.o,G5.o,tK.o,xL.o,HQ6.o⟩
     ·have hr0:r1.err=0:=(by simpa using hr1);have wO:=ah (HQ6.o hr0);have Ea:aj (res=Q5 p j t.nm t0.nm e R (dA A) (dA (A++[⟨h,b,e,s⟩])) (nms f6) (nms g6)):=ah (VY.o.trans (by rw[hr0,wO.o.2.2.1,wO.o.2.2.2];rfl));have bM8:nb<w6.heap.size:=(aO Dv.o);clear VY HQ6 hr0;go_wp2_with fail;refine(P9.o.2 _ s.iC s.gy (A++[⟨h,b,e,s⟩]) f6 g6 v6 s6 e6 mq.o.2 az4.o.2.2.2.2 mZ.o.2.2.1 (by simp;omega) (by rw[wO.o.2.2.1];exact wO.o.1) (by rw[wO.o.2.2.2];exact wO.o.2.1) xL.o).mono ?_;rintro e' w7 ⟨rfl,AV,f7,g7,v7,s7,e7,GK,Df,GQ⟩;have sO:aj (res=if(gK p j t.nm t0.nm e (dA (A++[⟨h,b,e,s⟩])) (nms f6) (nms g6)).err != 0 then gK p j t.nm t0.nm e (dA (A++[⟨h,b,e,s⟩])) (nms f6) (nms g6)else gK p j t.nm t0.nm R (dA A) (gK p j t.nm t0.nm e (dA (A++[⟨h,b,e,s⟩])) (nms f6) (nms g6)).f (gK p j t.nm t0.nm e (dA (A++[⟨h,b,e,s⟩])) (nms f6) (nms g6)).g):=ah Ea.o;generalize gK p j t.nm t0.nm e (dA (A++[⟨h,b,e,s⟩])) (nms f6) (nms g6)=r2 at *;have bk6:=ah (AV.below xL.o.b0 (λk e=>(xL.o.own k e).1));have Ir:aj (Kw L [v,vs,ve] w w7):=ah (FY.o.trans G5.o AV);have Wt:aj (mH w [v,vs,ve] [v7,s7,e7]):=ah (G5.o.trans GK FY.o.size);have kH:=ah (tK.o.below bk6.o);have Iq:=ah Df;have BQ:=ah GQ;clear AV GK Df GQ Ea y9 jy;go_wp2_with fail;go_meet;exact⟨r2,f7,g7,v7,s7,e7,rfl,rfl,sO.o,Ir.o,Wt.o,kH.o,Iq.o,BQ.o⟩
    obtain⟨r2,f7,g7,v7,s7,e7,rfl,rfl,hX,AV,GK,hR7,Df,GQ⟩:=hcut;obtain⟨W7,rfl⟩: ∃W:World,W=wc:=⟨_,rfl⟩;have HX:=ah hX;have Ir:=ah AV;have Wt:=ah GK;have kH:=ah hR7;have Iq:=ah Df;have BQ:=ah GQ;clear hX AV GK hR7 Df GQ y9 jy VY FY G5 LC Dv tK az4 xL HQ6;obtain⟨g9,Gp,rfl,hc9⟩: ∃g9 Gp,v7= .slice (some ⟨g9,0,none⟩) (A.length+1) Gp∧A.length+1<=Gp:=by
     rcases Iq.o.row.2 with⟨-,hn⟩|⟨g',cap,cur,e',-,-,hcc,-⟩
     ·simp at hn
     ·exact⟨g',cap,by rw[e'];simp,by simpa using hcc⟩
    have hcl:=ko (x:= .slice (some ⟨g9,0,none⟩) (A.length+1) Gp) (by have:=Iq.o.sz;have:=L.c1;show L.bc<_;omega) (eY Iq.o.blk (j:=3) rfl).2;have hz1:(0:Int)<=(A.length:Int):=(by omega);have hz2:(A.length:Int)<=(Gp:Int):=(by omega);have hwr:IntKind.i64.wrap (A.length:Int)=(A.length:Int):=IntWalk.i64_in _ (by omega);have F3:(A.length:Int)+1 -1=(A.length:Int):=(by omega);go_upto_region 14 with fail;refine dI (by kernel_rfl) rfl ?_;refine dw 0 14 [] [[],[],[1],[1,2],[1,2,3],[],[5],[5,6],[5,6,7],[5,6,7,8],[5,6,7,8,9],[1,2,3,4,5,6,7,8,9,10],[0,1,2,3,4,5,6,7,8,9,10,11],[0,1,2,3,4,5,6,7,8,9,10,11,12],[0,1,2,3,4,5,6,7,8,9,10,11,12,13]] [[],[],[],[],[],[],[],[],[],[],[],[],[],[]] (λ_ w'=>Below W7.heap.size W7 w') (λw w'=>Below w.heap.size w w') [62,63,64,65,66,67,68,69,70,71,72,73,74,75] rfl rfl (by rfl) (by kernel_rfl) (by kernel_rfl) (by kernel_rfl) (by kernel_rfl) (by kernel_rfl) (by rfl) (λ_=>ak _ _) (by rfl) (below_drewN (ak _ _) 1) ?_;simp only[iW,mU]
    iterate 14
     apply bS.step
     case bg=>intro c A w' hok hC hO hD;have e0:=hO 0 (by rfl);simp[Act.eval]at e0;simp[Act.eval]at hD;simp[go_sem,gd,Oper.wp,hD,e0,hcl,hC,F3,hwr,hz1,hz2];exact aR.mk (ak _ _) hC (bZ.mk _ _)
     try simp only[dR]
    try simp only[dR]
    refine bS.done ?_;intro wz dF;simp only[List.drop_zero];intro v0 h0 v1 h1 v2 h2 v3 h3 v4 h4 v5 h5 v6 h6 v7 h7 v8 h8 v9 h9 v10 h10 v11 h11 v12 h12 v13 zT;have Ju:v11=_:=h11;have M9:v13=_:=zT;subst Ju M9;clear h0 h1 h2 h3 h4 h5 h6 h7 h8 h9 h10 h11 h12 zT;refine dP.nil ?_;go_simp;have MW:=ah (kI.pop ⟨h,b,e,s⟩ Iq.o dF);have hclz:wz.cell? ⟨L.bc,3,none⟩=some (.slice (some ⟨g9,0,none⟩) (A.length+1) Gp):=hcl wz dF;have Ql:wz.frozen? ⟨L.bc,3,none⟩=false:=bH ((Iq.o.below dF).blk);clear hcl F3 hwr;refine fD 14 [[],[],[1],[1,2],[1,2,3],[],[5],[5,6],[5,6,7],[5,6,7,8],[5,6,7,8,9],[1,2,3,4,5,6,7,8,9,10],[0,1,2,3,4,5,6,7,8,9,10,11],[0,1,2,3,4,5,6,7,8,9,10,11,12],[0,1,2,3,4,5,6,7,8,9,10,11,12,13]] rfl rfl rfl rfl rfl (by kernel_rfl) (by kernel_rfl) (by kernel_rfl) ?_;simp[go_sem,Oper.wp,hclz,Ql];refine eO rfl ?_;clear hclz Ql dF;go_simp;have HK8:=ah (Ir.o.trans Wt.o MW.o.2);have HO8:aj (mH w [v,vs,ve] [.slice (some ⟨g9,0,none⟩) A.length Gp,s7,e7]):=ah (λk hk=>Wt.o k (by
     rcases uL.1 hk with e|e|e
     ·exact uL.2 (.inl e)
     ·exact uL.2 (.inr (.inl e))
     ·exact uL.2 (.inr (.inr e))))
    have zJ:=ah (kH.o.below (MW.o.2.below Iq.o.b0 (λk e=>(Iq.o.own k e).1)));have HI8:=ah MW.o.1;clear MW Ir Wt kH Iq;cases hr2:(r2.err != 0)
    ·have Pf:aj (res=gK p j t.nm t0.nm R (dA A) (nms f7) (nms g7)):=ah (HX.o.trans (by rw[hr2,(BQ.o (by simpa using hr2)).2.2.1,(BQ.o (by simpa using hr2)).2.2.2];rfl));have wO:aj (ny (kS p) (nms f7)∧ny (lF p) (nms g7)):=ah (by have:=BQ.o (by simpa using hr2);rw[this.2.2.1,this.2.2.2];exact⟨this.1,this.2.1⟩);clear HX BQ;go_wp2_with fail;go_roundw
     case rel=>exact⟨k+1,R,f7,g7,_,s7,e7,by go_num,by simp only[aY.len]at hlen;omega,Pf.o,YU.o,zJ.o,mZ.o.2.2.2,wO.o.1,wO.o.2,HK8.o,HO8.o,HI8.o⟩
     case measure=>simp[intOf];omega
    ·have Pf:aj (res=r2):=ah (HX.o.trans (if_pos hr2));have HX0:aj (r2.err≠0):=ah (by simpa using hr2);clear HX BQ;go_wp2_with fail
     go_ret2
     refine⟨qC (by rw[Pf.o];rfl) (by rw[Pf.o];rfl),HK8.o,f7,g7,_,s7,e7,HO8.o,HI8.o,λh0=> ?_⟩;rw[Pf.o]at h0;exact(HX0.o h0).elim
theorem YL (L:sj) (p:Pr) (aK aM:Option Addr) (aH aD:Nat) (j:Nat) (t t0:Th) (r r0:List Th) (hd:p.ts.drop j=t::r) (hts:p.ts=t0::r0) (hj:bW (j:Int)) (hT:p.ts.length<=1000000000000) (hD:p.ds.length<=1000000000000) (qA:qZ p.ds p.ts []=none) (hsd: ∀d∈p.ds,jG d=true) (l:aY):Ej L p aK aM aH aD j t t0 l:=
 JQ L p aK aM aH aD j t t0 r r0 hd hts hj hT hD qA hsd l (aY.nW (λ_ b e hb he=>⟨JQ L p aK aM aH aD j t t0 r r0 hd hts hj hT hD qA hsd b hb,JQ L p aK aM aH aD j t t0 r r0 hd hts hj hT hD qA hsd e he⟩) l)
namespace Md
theorem Yz {p:Pr} (h:(kF p).1=0):qZ p.ds p.ts []=none:=by
 unfold kF at h;split at h
 ·simp at h
 ·rename_i h';exact h'
end Md
theorem aw7 {p:Pr} {w W:World} {aK aM:Option Addr} {aH aD n:Nat} (hn:w.heap.size=n) (hp:p.At w aK aM)
 (hW:w.alloc (.cells #[.slice aK p.ds.length aH,.slice aM p.ts.length aD,.int .i64 0,.slice none 0 0,.slice none 0 0,.slice none 0 0] 90)=W):
 kI W ⟨n,n+1,n,aB _,Nat.lt_succ_self _⟩ p aK aM aH aD 0 [] [] [] (.slice none 0 0) (.slice none 0 0) (.slice none 0 0)∧Below w.heap.size w W:=by
 subst hn;have hb:Below w.heap.size w W:=by rw[<- hW];exact au _ _
 refine⟨{blk:=by rw[<- hW];exact heap_alloc_new _ _,row:=World.ownsRow_nil _ _ _ _,rs:=World.ownsRow_nil _ _ _ _,re:=World.ownsRow_nil _ _ _ _,d1:=by intro k hk;simp[Value.ownBlock]at hk,d2:=by intro k hk;simp[Value.ownBlock]at hk,d3:=by intro k hk;simp[Value.ownBlock]at hk,sz:=by rw[<- hW];simp,dat:=⟨hp.1,hp.2.1,hp.2.2.1.below hb,hp.2.2.2.below hb⟩,qg:=by intro x hx;simp at hx,fo:=by intro x hx;simp at hx,go:=by intro x hx;simp at hx},hb⟩
theorem LJ (p:Pr) (w:World) (aK aM:Option Addr) (aH aD:Nat) (hp:p.At w aK aM) (KI:p.ds.length<=aH) (Qi:p.ts.length<=aD):
 Calls Tryz.prog 11 #[.agg #[.slice aK p.ds.length aH,.slice aM p.ts.length aD]] w λe w'=>e= .returned (.tuple #[.int .i64 (jD p).1,.int .i64 (jD p).2])∧Below w.heap.size w w':=by
 have HS:aj (jD p=if !pE p then(3,0)else if(mg p.ds [] 0 0 0 0).1 != 0 then mg p.ds [] 0 0 0 0 else
  if decide ((4:Int)<p.ts.length)then(2,0)else if(kF p).1 != 0 then kF p else
  if decide (60<rF p.ts 0)then(2,0)else((iP p (jV p) p.ts 0 [] []).err,(iP p (jV p) p.ts 0 [] []).line)):=ah rfl
 generalize jD p=res at *;have hld:=hp.1;have hlt:=hp.2.1;unfold maxLen at hld hlt;have HP:=ah hp;have HCD:=ah KI;have HCT:=ah Qi;clear hp KI Qi;go_enter Tryz.func11,Tryz.ntmps11;go_upto_region 1 with fail;generalize hW:World.alloc w _=W;generalize Value.agg #[_,_]=a0;have HX:=ah ((Sit.start w).wG rfl (.slice aK p.ds.length aH) (.slice aM p.ts.length aD) 26);rw[hW]at HX;clear hW;obtain⟨-,⟨-,c0⟩,⟨-,c1⟩,-⟩:=HX.o;go_wp2_with fail;refine(O7 p _ aK aM aH aD (HP.o.same HX.o.1)).mono ?_;rintro e w1 ⟨rfl,hb1⟩;have HY:=ah (HX.o.next hb1);clear HX hb1 c0 c1;obtain⟨-,⟨-,c0⟩,⟨-,c1⟩,-⟩:=HY.o;have BR:aj (pE p=true->(∀d∈p.ds,jG d=true)∧(∀t∈p.ts,gN t.body=true)∧∃t0 r0,p.ts=t0::r0):=ah (λh=>by
  unfold pE at h;simp only[aJ,List.all_eq_true,decide_eq_true_eq]at h;refine⟨h.1.1,λt ht=> ?_,?_⟩
  ·have:=h.1.2 t ht;unfold oL at this;simp only[aJ]at this;exact this.2
  ·cases hts:p.ts with
   |nil=>rw[hts]at h;simp at h
   |cons a b=>exact⟨a,b,rfl⟩)
 cases hS:pE p
 ·have HE:aj (res=(3,0)):=ah (HS.o.trans (by rw[hS];rfl));clear BR;go_wp2_with fail
  go_ret2
  exact⟨qC (by rw[HE.o];rfl) (by rw[HE.o];rfl),HY.o.1⟩
 ·have HE:aj (res=if(mg p.ds [] 0 0 0 0).1 != 0 then mg p.ds [] 0 0 0 0 else
   if decide ((4:Int)<p.ts.length)then(2,0)else if(kF p).1 != 0 then kF p else
   if decide (60<rF p.ts 0)then(2,0)else((iP p (jV p) p.ts 0 [] []).err,(iP p (jV p) p.ts 0 [] []).line)):=ah (HS.o.trans (by rw[hS];rfl))
  have wR:=ah (BR.o hS);have FV:aj ((mg p.ds [] 0 0 0 0).1=0->p.ds.length<=1000000000000):=ah (λh0=>by have:=ES p.ds [] 0 0 0 0 wR.o.1 h0 (by omega);omega);clear HS BR;go_wp2_with fail;refine(PD p.ds _ aK aH HP.o.1 HCD.o ((HP.o.same HY.o.1).2.2.1) wR.o.1).mono ?_;rintro e w2 ⟨rfl,hb2⟩;have HZ:=ah (HY.o.next hb2);clear HY hb2 c0 c1;obtain⟨-,⟨-,c0⟩,⟨-,c1⟩,-⟩:=HZ.o;generalize mg p.ds [] 0 0 0 0=dd at *;cases h1:(dd.1 != 0)
  case true=>
   have dL:aj (res=dd):=ah (HE.o.trans (if_pos h1));clear HE wR FV;go_wp2_with fail
   go_ret2
   exact⟨qC (by rw[dL.o];rfl) (by rw[dL.o];rfl),HZ.o.1⟩
  have JY:aj (res=if decide ((4:Int)<p.ts.length)then(2,0)else if(kF p).1 != 0 then kF p else
   if decide (60<rF p.ts 0)then(2,0)else((iP p (jV p) p.ts 0 [] []).err,(iP p (jV p) p.ts 0 [] []).line)):=ah (HE.o.trans (if_neg (by rw[h1];decide)))
  have bk7:=ah (FV.o (by simpa using h1));clear HE FV;by_cases h4:(4:Int)<(p.ts.length:Int)
  ·have dL:aj (res=(2,0)):=ah (JY.o.trans (if_pos (by simpa using h4)));clear JY wR;go_wp2_with fail
   go_ret2
   exact⟨qC (by rw[dL.o];rfl) (by rw[dL.o];rfl),HZ.o.1⟩
  have HE2:aj (res=if(kF p).1 != 0 then kF p else
   if decide (60<rF p.ts 0)then(2,0)else((iP p (jV p) p.ts 0 [] []).err,(iP p (jV p) p.ts 0 [] []).line)):=ah (JY.o.trans (if_neg (by simpa using h4)))
  have h4':(p.ts.length:Int)<=4:=by omega
  have E9:aj (p.ts.length<=4):=ah (by omega);have HTZ:=ah (Yz (p:=p));clear JY;go_wp2_with fail;refine(LK p _ aK aM aH aD (HP.o.same HZ.o.1) HCT.o).mono ?_;rintro e w3 ⟨rfl,hb3⟩;have HV:=ah (HZ.o.next hb3);clear HZ hb3 c0 c1 h1;obtain⟨-,⟨-,c0⟩,⟨-,c1⟩,-⟩:=HV.o;generalize kF p=tt at *;cases h2:(tt.1 != 0)
  case true=>
   have dL:aj (res=tt):=ah (HE2.o.trans (if_pos h2));clear HE2 wR HTZ;go_wp2_with fail
   go_ret2
   exact⟨qC (by rw[dL.o];rfl) (by rw[dL.o];rfl),HV.o.1⟩
  have pG:aj (res=if decide (60<rF p.ts 0)then(2,0)else((iP p (jV p) p.ts 0 [] []).err,(iP p (jV p) p.ts 0 [] []).line)):=ah (HE2.o.trans (if_neg (by rw[h2];decide)));have HTN:=ah (HTZ.o (by simpa using h2));clear HE2 HTZ;have qA:=(HP.o.same HV.o.1).2.2.2;go_wp2_with fail;go_loopw [8,9] (λs8 s wr=> ∃(k:Nat) (R:List Th) (n:Int),s= .int .i64 k∧s8= .int .i64 n∧k+R.length=p.ts.length∧rF p.ts 0=rF R n∧iJ wr wr.heap.size R aM k∧Sit w wr [(w.heap.size,0,(.slice aK p.ds.length aH)),(w.heap.size,1,(.slice aM p.ts.length aD))]) (λ_ s _=>p.ts.length -(intOf s).toNat)
  case atStart=>exact⟨0,p.ts,0,rfl,rfl,by simp,rfl,qA,HV.o⟩
  case round=>
   obtain⟨k,R,n,rfl,rfl,hlen,heq,hrow,hsit⟩:=hrel;have HU:=ah hsit;have HQ:=ah heq;clear hsit HV c0 c1 qA heq h2;obtain⟨-,⟨-,c0⟩,⟨-,c1⟩,-⟩:=HU.o;cases R with
   |cons t R=>
    obtain⟨⟨b,off,iR,eX,dH,cu,rfl,hB,x0,x1,x2,x3,hok,htx,hst,hcl⟩,hrest⟩:=hrow;simp only[aA]at hlen;have hkl:k<p.ts.length:=(by omega);have kU:=ah hok;have HST:=ah hst;clear hok htx hst hcl;go_wp2_with fail;refine(Py t.body _ dH cu kU.o.2.2.2 HST.o).mono ?_;rintro e' w4 ⟨rfl,hb4⟩;have nN:=ah hb4;clear hb4 c0 c1 x0 x1 x2 x3;go_wp2_with fail;go_roundw
    case rel=>exact⟨k+1,R,_,by go_num,rfl,by omega,HQ.o.trans rfl,hrest.same nN.o,HU.o.next nN.o⟩
    case measure=>simp[intOf];omega
   |nil=>
    obtain rfl:k=p.ts.length:=(by simpa using hlen);have HN:aj (rF p.ts 0=n):=HQ;by_cases h6:60<n
    ·have dL:aj (res=(2,0)):=ah (pG.o.trans (if_pos (by rw[HN.o];simpa using h6)));clear pG wR;go_wp2_with fail
     go_ret2
     exact⟨qC (by rw[dL.o];rfl) (by rw[dL.o];rfl),HU.o.1⟩
    ·have h6':n<=60:=(by omega);obtain⟨-,-,t0,r0,hts⟩:=wR.o;have qx:=ah hts;have HHN:aj (jV p=t0.nm):=ah (by unfold jV;rw[hts];rfl);have dL:aj (res=((iP p t0.nm p.ts 0 [] []).err,(iP p t0.nm p.ts 0 [] []).line)):=ah (pG.o.trans ((if_neg (by rw[HN.o];simpa using h6)).trans (by rw[HHN.o])));clear pG hts hrow;go_upto_region 19 with fail;obtain⟨wo,rfl⟩: ∃wo:World,wo=wr:=⟨_,rfl⟩;obtain⟨nb,hnb⟩: ∃n,wo.heap.size=n:=⟨_,rfl⟩;generalize hW2:World.alloc wo _=W2;have aC3:=ah (aw7 hnb (HP.o.same HU.o.1) hW2);have jE:=ah hnb;have Ao:aj (w.heap.size<nb):=ah (by rw[<- hnb];exact HU.o.2.1.1);rw[hnb];clear hW2 hnb c0 c1;have CP:aj (Below nb wo W2):=ah (by rw[<- jE.o];exact aC3.o.2);generalize hL:(⟨nb,nb+1,nb,aB _,Nat.lt_succ_self _⟩:sj)=L at *;have CQ:aj (L.B0=nb∧L.bc=nb):=ah (by rw[<- hL];exact⟨rfl,rfl⟩);have Xo:nb=L.bc:=CQ.o.2.symm;have HB0:aj (Below L.B0 wo W2):=ah (by rw[CQ.o.1];exact CP.o);clear hL;generalize hrr:iP p t0.nm p.ts 0 [] []=rr at *;have HRR:=ah hrr;rw[Xo];clear hrr Xo CP jE;have c1:W2.cell? ⟨w.heap.size,1,none⟩=some (.slice aM p.ts.length aD):=(HB0.o.cell (p:=⟨w.heap.size,1,none⟩) (by have:=Ao.o;have:=CQ.o.1;show w.heap.size<_;omega)).trans HU.o.2.2.1.2;go_wp2_with fail;go_loopw [11,12,13] (λs _ _ wr=> ∃(k:Nat) (R:List Th) (f1 g1:List ByteArray) (v1 s1 e1:Value) (i1:Int),s= .int .i64 k∧k+R.length=p.ts.length∧p.ts.drop k=R∧rr=iP p t0.nm R k (nms f1) (nms g1)∧ny (kS p) (nms f1)∧ny (lF p) (nms g1)∧Below L.B0 wo wr∧kI wr L p aK aM aH aD i1 [] f1 g1 v1 s1 e1) (λs _ _ _=>p.ts.length -(intOf s).toNat)
     case atStart=>exact⟨0,p.ts,[],[],_,_,_,0,rfl,by simp,rfl,HRR.o.symm,⟨List.nodup_nil,by simp[nms]⟩,⟨List.nodup_nil,by simp[nms]⟩,HB0.o,aC3.o.1⟩
     case round=>
      obtain⟨k,R,f1,g1,v1,s1,e1,i1,rfl,hlen,hdr,heq,hf1,hg1,hB,hI⟩:=hrel;have HE:=ah heq;have zG:=ah hf1;have qD:=ah hg1;have HB:=ah hB;have HI:=ah hI;have HDR:=ah hdr;clear heq hf1 hg1 hB hI hdr c1;have c1:wr.cell? ⟨w.heap.size,1,none⟩=some (.slice aM p.ts.length aD):=(HB.o.cell (p:=⟨w.heap.size,1,none⟩) (by have:=Ao.o;have:=CQ.o.1;show w.heap.size<_;omega)).trans HU.o.2.2.1.2;have HWB:aj (∀w',Below L.B0 wr w'->Below w.heap.size w w'):=ah (λw' hb=>HU.o.1.trans ((HB.o.trans hb).mono (by have:=Ao.o;have:=CQ.o.1;omega)));cases R with
      |nil=>
       obtain rfl:k=p.ts.length:=(by simpa using hlen);have HX:aj (rr.err=0∧rr.line=0):=ah (by rw[HE.o];exact⟨rfl,rfl⟩);go_wp2_with fail
       go_ret2
       exact⟨qC (by rw[dL.o,HX.o.1];rfl) (by rw[dL.o,HX.o.2];rfl),HWB.o _ (ak _ _)⟩
      |cons t R=>
       simp only[aA]at hlen;have hkl:k<p.ts.length:=(by omega);have dO:aj (gN t.body=true):=ah (wR.o.2.1 t (by have:t∈p.ts.drop k:=(by rw[HDR.o];simp);exact List.mem_of_mem_drop this));have c2:wr.cell? ⟨L.bc,2,none⟩=some (.int .i64 i1):=(eY HI.o.blk (j:=2) rfl).2;have f2:wr.frozen? ⟨L.bc,2,none⟩=false:=bH HI.o.blk;go_upto_region 23 with fail;generalize hW3:World.setCell wr _ _=W3;have tF:aj (wr.grownBy W3 (some L.bc)):=ah (by rw[<- hW3];exact bY _ _ _);have HI3:aj (kI W3 L p aK aM aH aD (k:Int) [] f1 g1 v1 s1 e1):=ah (by rw[<- hW3];exact HI.o.ae3);have nO:=ah (cZ tF.o L.c0 HI.o.b0);have HB3:=ah (HB.o.trans nO.o);have hrow:=HI3.o.dat.2.2.2.drop k;rw[HDR.o,aU]at hrow;obtain⟨⟨bl,off,iR,eX,dH,cu,rfl,hbl,x0,x1,x2,x3,hok,htx,hst,-⟩,-⟩:=hrow;have kU:=ah hok;have HST:=ah hst;clear hW3 c1 c2 f2 tF HB hok hst htx HI;have c1:W3.cell? ⟨w.heap.size,1,none⟩=some (.slice (some ⟨bl,off,none⟩) p.ts.length aD):=(HB3.o.cell (p:=⟨w.heap.size,1,none⟩) (by have:=Ao.o;have:=CQ.o.1;show w.heap.size<_;omega)).trans HU.o.2.2.1.2;have xJ:aj (rr=if(gK p k t.nm t0.nm t.body (dA []) (nms f1) (nms g1)).err != 0 then gK p k t.nm t0.nm t.body (dA []) (nms f1) (nms g1)else iP p t0.nm R (k+1) (gK p k t.nm t0.nm t.body (dA []) (nms f1) (nms g1)).f (gK p k t.nm t0.nm t.body (dA []) (nms f1) (nms g1)).g):=ah HE.o;clear HE;go_wp2_with fail;refine(YL L p _ _ aH aD k t t0 R r0 HDR.o qx.o (by unfold bW;omega) (by have:=E9.o;omega) bk7.o HTN.o wR.o.1 t.body W3 dH cu [] f1 g1 v1 s1 e1 kU.o.2.2.2 HST.o dO.o (by simp) zG.o qD.o HI3.o).mono ?_;rintro e' w4 ⟨rfl,hK4,f4,g4,v4,s4,e4,hO4,Nw,hq4⟩;generalize gK p k t.nm t0.nm t.body (dA []) (nms f1) (nms g1)=r1 at *;have HBK:=ah (hK4.below HI3.o.b0 (λq hq=>(HI3.o.own q hq).1));have eF:=ah (HB3.o.trans HBK.o);have HW4:=ah (HWB.o _ (nO.o.trans HBK.o));have HI4:=ah Nw;have K6:=ah hq4;clear hK4 hq4 Nw hO4 x0 x1 x2 x3 c1;cases hr1:(r1.err != 0)
       ·have BS:aj (rr=iP p t0.nm R (k+1) (nms f4) (nms g4)):=ah (xJ.o.trans ((if_neg (by rw[hr1];decide)).trans (by rw[(K6.o (by simpa using hr1)).2.2.1,(K6.o (by simpa using hr1)).2.2.2])));have wO:aj (ny (kS p) (nms f4)∧ny (lF p) (nms g4)):=ah (by have:=K6.o (by simpa using hr1);rw[this.2.2.1,this.2.2.2];exact⟨this.1,this.2.1⟩);have HD7:aj (p.ts.drop (k+1)=R):=ah (by rw[<- List.drop_drop,HDR.o];rfl);clear K6 xJ;go_wp2_with fail;go_roundw
        case rel=>exact⟨k+1,R,f4,g4,v4,s4,e4,_,by go_num,by omega,HD7.o,BS.o,wO.o.1,wO.o.2,eF.o,HI4.o⟩
        case measure=>simp[intOf];omega
       ·have qG:aj (rr=r1):=ah (xJ.o.trans (if_pos hr1));clear xJ K6;go_wp2_with fail
        go_ret2
        exact⟨qC (by rw[dL.o,qG.o];rfl) (by rw[dL.o,qG.o];rfl),HW4.o⟩
def Zl:Prop:= ∀(w:World) (zs:List Int) (ao:Option Addr) (cap:Nat),FP w w.heap.size zs ao->zs.length<=9223372036854775807->Calls Tryz.prog 4 #[.slice ao zs.length cap] w (MkP w)
theorem Zm:Zl:=λw zs ao cap hz hl=>XQ (λT=>Vq T 2 (by decide)) LJ w zs ao cap hz hl
end Go.Proofs.YtmildapbbcbbhaaGreatDoor
