/- What the reference's walk says of a statement is what the checker says; the contract of the walk's one at every operator. And what hangs on it. -/
import Derived.Test.YtcjgfgkllmldpaaGreatDoorGR5
import Derived.Test.YtcjgfgkllmldpaaGreatDoorGPL
import Derived.Test.YtcjgfgkllmldpaaGreatDoorGPH
set_option linter.unusedSimpArgs false
set_option linter.unusedVariables false
set_option maxHeartbeats 40000000
set_option maxRecDepth 1000000
namespace Go.Proofs.YtcjgfgkllmldpaaGreatDoor
open Go.RowKit
namespace Md
def nms (l:List ByteArray):List (List UInt8):=(l.map (·.toList)).reverse
def Ea (k:Int) (h:dM) (l:List ByteArray):List ByteArray:=if h.op==k then l++[h.nm]else l
theorem Lu (k:Int) (h:dM) (l:List ByteArray):nms (Ea k h l)=fL k h (nms l):=by
 unfold nms Ea fL;cases h.op==k <;> simp
theorem XV (l:List ByteArray) (x:List UInt8):mem (nms l) x=nY l x:=by
 unfold mem nms nY;rw[Bool.eq_iff_iff,List.contains_iff_mem];simp[List.any_eq_true]
theorem Lv (l:List ByteArray):(nms l).length=l.length:=by simp[nms]
theorem Rv {ds:List De} : ∀(ts pre:List Th),wQ ds ts pre=none->∀(k:Nat) (d:Th) (r:List Th),ts.drop k=d::r->om (pre++ts.take k) d.nm.toList=false
 | [],_,_,k,d,r,hd=>by simp at hd
 |t::ts,pre,h,k,d,r,hd=>by
  unfold wQ at h;split at h
  ·cases h
  ·rename_i hc;cases k with
   |zero=>simp only[List.drop_zero,List.cons.injEq]at hd;obtain⟨rfl,rfl⟩:=hd;simp only[Bool.or_eq_true,not_or,Bool.not_eq_true]at hc;simpa using hc.2
   |succ k=>have:=Rv ts (pre++[t]) h k d r (by simpa using hd);simpa using this
theorem RA {l:List Th} {x:List UInt8} (h:om l x=false): ∀t∈l,t.nm.toList≠x:=λt ht e=>by
 unfold om at h;rw[List.any_eq_false]at h;exact h t ht (by simp[e])
theorem ay7 {p:Pr} {j:Int} {nm:ByteArray} (h:mean p j nm=8):p.ts.any (λt=>t.nm.toList==nm.toList)=true:=by
 have:=Mv h;unfold lu at this;obtain⟨t,ht,e⟩:=List.mem_map.1 this;exact List.any_eq_true.2 ⟨t,ht,by simp[e]⟩
theorem Ey {ts:List Th} {j k:Nat} {t:Th} {r:List Th} (hd:ts.drop j=t::r) (hjk:j<k):t∈ts.take k:=by
 have h1:ts[j]? =some t:=by have:=List.getElem?_drop (xs:=ts) (i:=j) (j:=0);rw[hd]at this;simpa using this.symm
 have h2:(ts.take k)[j]? =some t:=by rw[List.getElem?_take,if_pos hjk];exact h1
 exact List.mem_of_getElem? h2
theorem PK {p:Pr} {i:Int} {nm:ByteArray} {j:Nat} {t:Th} {r:List Th} (qX:wQ p.ds p.ts []=none) (hd:p.ts.drop j=t::r) (hm:mean p i nm=8):(qV p.ts nm==(j:Int))=(nm.toList==t.nm.toList):=by
 have ha:=ay7 hm;rcases qw (λt:Th=>t.nm.toList==nm.toList) p.ts 0 with⟨-,-,hn⟩|⟨k,d,r',hk,hf,hdk,hs,-⟩
 ·rw[ha]at hn;cases hn
 ·have hdn:d.nm.toList=nm.toList:=by simpa using List.find?_some hs
  have hU:=Rv p.ts [] qX;have e:qV p.ts nm=(k:Int):=by unfold qV;simpa using hf
  rw[e,Bool.eq_iff_iff,beq_iff_eq,beq_iff_eq];constructor
  ·intro hkj;have:k=j:=by omega
   subst this;rw[hd]at hdk;injection hdk with h1 h2;rw[h1];exact hdn.symm
  ·intro hnm;by_cases hlt:k<j
   ·exact absurd (by rw[hdn,hnm]) (RA (hU j t r hd) d (by simpa using Ey hdk hlt))
   ·by_cases hgt:j<k
    ·exact absurd (by rw[hdn,hnm]) (RA (hU k d r' hdk) t (by simpa using Ey hd hgt))
    ·omega
theorem XW {nm:ByteArray} (h:lQ nm true=true):nm.toList.isEmpty=false:=by
 unfold lQ at h;rw[if_pos rfl]at h;rw[Lib.toList_data];cases hl:nm.data.toList with
 |nil=>rw[hl]at h;exact absurd h ahg
 |cons a r=>rfl
theorem aB2 {h:dM} {bl el:Nat} (hs:oM h bl el=true):1<=h.op∧h.op<=15:=by
 unfold oM fO at hs;simp only[aM,decide_eq_true_eq]at hs;exact⟨hs.1.1.1.1,hs.1.1.1.2⟩
theorem aB1 {h:dM} {bl el:Nat} (hs:oM h bl el=true) (hf:fN h.op=true):h.nm.toList.isEmpty=false:=by
 unfold oM at hs;simp only[aM]at hs;have:=hs.1.1.2.1;rw[hf]at this;exact XW this
theorem aP1 {d:De} (hs:jF d=true) (hk:d.kind=5):d.on.toList.isEmpty=false:=by
 unfold jF at hs;simp only[aM]at hs;have:=hs.2.2;rw[hk]at this;exact XW this
theorem RD (p:Pr) (i:Int) (nm:ByteArray) (k a:Int) (hk:0<=k∧k<=9) (ha:conv k=a) (h0:gV (conv (mean p i nm)) a a=0):mean p i nm=k:=by
 rw[<- nW p i nm k a hk ha]at h0;exact uz h0
theorem Q9 {a x y:Int} (h:a=0->x=y):kQ a x=kQ a y:=by
 unfold kQ;cases ha:(a != 0)
 ·exact h (by simpa using ha)
 ·rfl
theorem aI1 (a b:Int):(if a != 0 then a else b)=kQ a b:=rfl
section
variable {p:Pr} {j:Nat} {tn iD:ByteArray} {ar:bf} {f g:List UInt8->Bool} {h:dM}
theorem aB8 (hsd: ∀d∈p.ds,jF d=true) (q:Bool):
 (if gV (conv (mean p j h.nm)) 5 5 != 0 then gV (conv (mean p j h.nm)) 5 5 else nest ((eU ar 7 7 ⟨#[]⟩|| !eU ar 4 4 (BQ p.ds h.nm))||(q&&eU ar 8 8 ⟨#[]⟩)))=iI [gU (mean p j h.nm) [6],nest ((jh ar [7]|| !wD ar (BQ p.ds h.nm) [4])||(q&&jh ar [8]))]:=by
 rw[vS,aI1,nW p j h.nm 6 5 ahg rfl,oU,oU];refine Q9 (λh0=> ?_);obtain⟨k,d,r,-,-,-,hm,hk,hmu⟩:=Ob h0;rw[hmu,Na 4 d.on (aP1 (hsd d hm) hk)]
theorem bq2 {t t0:Th} {r r0:List Th} (qX:wQ p.ds p.ts []=none) (hd:p.ts.drop j=t::r) (hts:p.ts=t0::r0) {fs:List ByteArray} :
 (if gV (conv (mean p j h.nm)) 7 7 != 0 then gV (conv (mean p j h.nm)) 7 7 else if((((eU ar 7 7 ⟨#[]⟩||eU ar 8 8 ⟨#[]⟩)||eU ar 3 3 ⟨#[]⟩)||qV p.ts h.nm==(j:Int))||qV p.ts h.nm==0)then 7 else qL (nY fs h.nm.toList))=
 iI [gU (mean p j h.nm) [8],nest (jh ar [7,8,3]||(h.nm.toList==t.nm.toList||h.nm.toList==t0.nm.toList)),qL (mem (nms fs) h.nm.toList)]:=by
 rw[FP,aI1,nW p j h.nm 8 7 ahg rfl,oU,oU,oU,OG];refine Q9 (λh0=> ?_);have hm:=RD p j h.nm 8 7 ahg rfl h0;have e0:=PK (j:=0) (t:=t0) (r:=r0) qX (by simpa using hts) hm;have e1:=PK qX hd hm;rw[e1,show((0:Int))=((0:Nat):Int)from rfl,e0,XV,Bool.or_assoc (_||_) (_==_)];cases ((jh ar [7]||jh ar [8]||jh ar [3])||(h.nm.toList==t.nm.toList||h.nm.toList==t0.nm.toList)) <;> simp[nest,kQ]
theorem bq3 {t:Th} {r:List Th} (qX:wQ p.ds p.ts []=none) (hd:p.ts.drop j=t::r):
 kQ (gV (conv (mean p j h.nm)) 7 7) (nest ((eU ar 7 7 ⟨#[]⟩||eU ar 8 8 ⟨#[]⟩)||qV p.ts h.nm==(j:Int)))=iI [gU (mean p j h.nm) [8],nest (jh ar [7,8]||h.nm.toList==t.nm.toList)]:=by
 rw[vS,nW p j h.nm 8 7 ahg rfl,oU,oU,Ip];refine Q9 (λh0=> ?_);rw[PK qX hd (RD p j h.nm 8 7 ahg rfl h0)]
theorem bq4 {gs:List ByteArray} {x:Int} :
 kQ (if(kQ (gV (conv (mean p j h.nm)) 6 6) (nest (eU ar 7 7 ⟨#[]⟩||eU ar 3 3 ⟨#[]⟩))==0)&&nY gs h.nm.toList then 8 else kQ (gV (conv (mean p j h.nm)) 6 6) (nest (eU ar 7 7 ⟨#[]⟩||eU ar 3 3 ⟨#[]⟩))) x=
 iI [gU (mean p j h.nm) [7],nest (jh ar [7,3]),qL (mem (nms gs) h.nm.toList),x]:=by
 rw[oU,oU,Ip,XV,nW p j h.nm 7 6 ahg rfl];generalize gV (conv (mean p j h.nm)) 6 6=a;generalize nest (jh ar [7]||jh ar [3])=b;generalize nY gs h.nm.toList=c;unfold iI iI iI iI kQ qL;cases ha:(a != 0) <;> cases hb:(b != 0) <;> cases c <;> simp_all[iI]
 all_goals (intro hx;exact hx.symm)
end
end Md
open Md
theorem E9.plain {w w':World} {L:uo} {p:Pr} {aQ aR:Option Addr} {aJ aH:Nat} {i:Int} {A:List Fr} {fs gs:List ByteArray} {v vs ve:Value} {h:dM} {r x:Int} {e:Ending}
 (hI:kP w L p aQ aR aJ aH i A fs gs v vs ve) (h12:(h.op==12)=false) (CG:(h.op==14)=false) (hr:x=r) (hp:e= .returned (.int .i64 x)∧Below w.heap.size w w'):E9 w L p aQ aR aJ aH i A fs gs v vs ve (Ea 12 h fs) (Ea 14 h gs) r e w':=by
 subst hr;refine⟨hp.1,Kw.of_below hp.2,fs,gs,vs,ve,mX.refl _ _,hI.below hp.2,λ_=> ?_⟩;unfold Ea;rw[h12,CG];exact⟨rfl,rfl⟩
theorem ap0 (L:uo) (p:Pr) (w:World) (aQ aR:Option Addr) (aJ aH:Nat) (j:Nat) (A:List Fr) (fs gs:List ByteArray) (v vs ve:Value) (hI:kP w L p aQ aR aJ aH (j:Int) A fs gs v vs ve) (h:dM) (b e:bf) (s:Sl) (hin:uW w L.B0 h b e s) (hj:cO (j:Int)) (hA:A.length<=maxLen) (hfs:fs.length<=1000000000000) (hgs:gs.length<=1000000000000)
 (t t0:Th) (r r0:List Th) (hd:p.ts.drop j=t::r) (hts:p.ts=t0::r0) (qX:wQ p.ds p.ts []=none) (hsd: ∀d∈p.ds,jF d=true) (hsh:oM h b.len e.len=true):
 Calls Tryz.prog 82 #[.pointer (some ⟨L.bc,0,none⟩),iG h b e s] w (E9 w L p aQ aR aJ aH (j:Int) A fs gs v vs ve (Ea 12 h fs) (Ea 14 h gs) (lq p j t.nm t0.nm (dJ A) (mem (nms fs)) (mem (nms gs)) h)):=by
 have hop:=aB2 hsh;have hnm:=aB1 hsh;have hc:h.op=12∨h.op=14∨h.op=1∨h.op=2∨h.op=3∨h.op=4∨h.op=5∨h.op=6∨h.op=7∨h.op=8∨h.op=9∨h.op=10∨h.op=11∨h.op=13∨h.op=15:=ahf
 rcases hc with hc|hc|hc
 ·refine(aQ1 L p w aQ aR aJ aH j A fs gs v vs ve hI h b e s hin hj hA hfs hgs hc).mono (λe' w' hr=> ?_);have e1:Ea 12 h fs=fs++[h.nm]:=by unfold Ea;rw[hc];rfl
  have e2:Ea 14 h gs=gs:=by unfold Ea;rw[hc];rfl
  have e3:lq p j t.nm t0.nm (dJ A) (mem (nms fs)) (mem (nms gs)) h=iI [gU (mean p j h.nm) [8],nest (jh (dJ A) [7,8,3]||(h.nm.toList==t.nm.toList||h.nm.toList==t0.nm.toList)),qL (mem (nms fs) h.nm.toList)]:=afD
  rw[e1,e2,e3,<- bq2 qX hd hts];exact hr
 ·refine(aQ2 L p w aQ aR aJ aH j A fs gs v vs ve hI h b e s hin hj hA hfs hgs hc).mono (λe' w' hr=> ?_);have e1:Ea 12 h fs=fs:=by unfold Ea;rw[hc];rfl
  have e2:Ea 14 h gs=gs++[h.nm]:=by unfold Ea;rw[hc];rfl
  have e3:lq p j t.nm t0.nm (dJ A) (mem (nms fs)) (mem (nms gs)) h=iI [gU (mean p j h.nm) [7],nest (jh (dJ A) [7,3]),qL (mem (nms gs) h.nm.toList),nO p j h.dY h.xn h.dX h.bM]:=afD
  rw[e1,e2,e3,<- bq4];exact hr
 ·obtain⟨eZ,dU,rfl,hat⟩:=hI.form;obtain⟨kL,jg,rfl,-⟩:=hI.Z7;obtain⟨iL,jf,rfl,-⟩:=hI.Z6;have hp:=hI.dat.use hI.b0;have hin':=hin.use hI.b0;have hal:(dJ A).len<=maxLen:=by rw[sV];exact hA
  have hh:=hI.holds;refine(aQ3 p w aQ aR aJ aH j eZ dU L.bc kL _ jg iL _ jf h b e (dJ A) s hj hp hin' hal hat hh ?_).mono (λe' w' hr=>E9.plain hI ahi ahi rfl hr);rcases hc with hc|hc|hc|hc|hc|hc|hc|hc|hc|hc|hc|hc|hc
  ·cases hix:h.idx with
   |nil=>exact .inl ⟨hc,rfl,Eq.symm (by rw[<- Zl,<- vS];unfold lq JR;simp[hc,hix,bV.len])⟩
   |cons OU n0 OP Db IG=>exact .inr (.inl ⟨hc,_,_,_,_,_,rfl,Eq.symm (by have hne: ¬((IG.len:Int)+1=0):=ahf;rw[<- nW p j h.nm 3 2 ahg rfl,<- FP];unfold lq JR ex1;simp[hc,hix,bV.len,hne])⟩)
  ·exact .inr (.inr (.inl ⟨hc,Eq.symm afD⟩))
  ·exact .inr (.inr (.inr (.inl ⟨hc,Eq.symm afD⟩)))
  ·exact .inr (.inr (.inr (.inr (.inl ⟨hc,Eq.symm (by rw[<- nW p j h.nm 4 3 ahg rfl,<- vS,oU,Na 4 h.nm (hnm ahO)];unfold lq;simp[hc])⟩))))
  ·exact .inr (.inr (.inr (.inr (.inr (.inl ⟨hc,Eq.symm aaj⟩)))))
  ·exact .inr (.inr (.inr (.inr (.inr (.inr (.inl ⟨hc,Eq.symm aaj⟩))))))
  ·exact .inr (.inr (.inr (.inr (.inr (.inr (.inr (.inl ⟨hc,Eq.symm (by rw[oU];unfold lq;simp[hc])⟩)))))))
  ·exact .inr (.inr (.inr (.inr (.inr (.inr (.inr (.inr (.inl ⟨hc,Eq.symm (by rw[oU,oU,<- Ip];unfold lq;simp[hc])⟩))))))))
  ·exact .inr (.inr (.inr (.inr (.inr (.inr (.inr (.inr (.inr (.inl ⟨hc,Eq.symm adr⟩)))))))))
  ·exact .inr (.inr (.inr (.inr (.inr (.inr (.inr (.inr (.inr (.inr (.inl ⟨hc,Eq.symm adr⟩))))))))))
  ·exact .inr (.inr (.inr (.inr (.inr (.inr (.inr (.inr (.inr (.inr (.inr (.inl ⟨hc,Eq.symm adr⟩)))))))))))
  ·exact .inr (.inr (.inr (.inr (.inr (.inr (.inr (.inr (.inr (.inr (.inr (.inr (.inl ⟨hc,Eq.symm (by rw[bq3 qX hd];unfold lq;simp[hc])⟩))))))))))))
  ·exact .inr (.inr (.inr (.inr (.inr (.inr (.inr (.inr (.inr (.inr (.inr (.inr (.inr ⟨hc,Eq.symm (by rw[<- nW p j h.nm 1 8 ahg rfl,<- nW p j h.arg 7 6 ahg rfl,oU,<- FP];unfold lq;simp[hc])⟩))))))))))))
def aZ1 (w:World) (L:uo) (p:Pr) (aQ aR:Option Addr) (aJ aH:Nat) (i:Int) (A:List Fr) (v vs ve:Value) (r:Ql) (e:Ending) (w':World):Prop:=
 e= .returned (.tuple #[.int .i64 r.err,.int .i64 r.line])∧Kw L [v,vs,ve] w w'∧∃fs' gs' v' vs' ve',mX w [v,vs,ve] [v',vs',ve']∧kP w' L p aQ aR aJ aH i A fs' gs' v' vs' ve'∧(r.err=0->nR (lu p) r.f∧nR (lW p) r.g∧nms fs'=r.f∧nms gs'=r.g)
def Gq (L:uo) (p:Pr) (aQ aR:Option Addr) (aJ aH:Nat) (j:Nat) (t t0:Th) (l:bf):Prop:=
 ∀(w:World) (ao:Option Addr) (cap:Nat) (A:List Fr) (fs gs:List ByteArray) (v vs ve:Value),l.len<=maxLen->l.At w L.B0 ao 0->gy l=true->A.length<=6->nR (lu p) (nms fs)->nR (lW p) (nms gs)->kP w L p aQ aR aJ aH (j:Int) A fs gs v vs ve->
  Calls Tryz.prog 50 #[.pointer (some ⟨L.bc,0,none⟩),.slice ao l.len cap] w (aZ1 w L p aQ aR aJ aH (j:Int) A v vs ve (ig p j t.nm t0.nm l (dJ A) (nms fs) (nms gs)))
theorem bb6 {p:Pr} {fs:List ByteArray} {n:Nat} (h:nR (lu p) (nms fs)) (hT:p.ts.length<=n):fs.length<=n:=by
 have:=h.le;rw[Lv]at this;unfold lu at this;rw[fM]at this;omega
theorem bb5 {p:Pr} {fs:List ByteArray} {n:Nat} (h:nR (lW p) (nms fs)) (hT:p.ds.length<=n):fs.length<=n:=by
 have:=h.le;rw[Lv]at this;unfold lW at this;rw[fM]at this;omega
theorem Nw (L:uo) (p:Pr) (aQ aR:Option Addr) (aJ aH:Nat) (j:Nat) (t t0:Th) (r r0:List Th) (hd:p.ts.drop j=t::r) (hts:p.ts=t0::r0) (hj:cO (j:Int)) (hT:p.ts.length<=1000000000000) (hD:p.ds.length<=1000000000000) (qX:wQ p.ds p.ts []=none) (hsd: ∀d∈p.ds,jF d=true) (l:bf) (hall:l.All λ_ b e=>Gq L p aQ aR aJ aH j t t0 b∧Gq L p aQ aR aJ aH j t t0 e):Gq L p aQ aR aJ aH j t t0 l:=by
 intro w ao cap A fs gs v vs ve hl hat hsh hA hf hg hI;generalize hres:ig p j t.nm t0.nm l (dJ A) (nms fs) (nms gs)=res;have HR:=ah hres;have HAT:=ah hat;have lG:=ah hall;have BF:=ah hsh;have HF:=ah hf;have HG:=ah hg;have HI:=ah hI;have tH:=ah qX;have xE:=ah hsd;have HTT:=ah hT;have WI:=ah hD;have HD:=ah hd;have lH:=ah hts;unfold maxLen at hl;have HA:=ah hA;clear hres hat hall hf hg hI hA hsh qX hsd hT hD hd hts;go_enter Tryz.func50,Tryz.ntmps50;go_wp2_with fail;go_loopw [6,7,8,9] (λs _ _ _ wr=> ∃(k:Nat) (R:bf) (f1 g1:List ByteArray) (v1 s1 e1:Value),s= .int .i64 k∧k+R.len=l.len∧res=ig p j t.nm t0.nm R (dJ A) (nms f1) (nms g1)∧(R.All λ_ b e=>Gq L p aQ aR aJ aH j t t0 b∧Gq L p aQ aR aJ aH j t t0 e)∧R.At wr L.B0 ao k∧gy R=true∧nR (lu p) (nms f1)∧nR (lW p) (nms g1)∧Kw L [v,vs,ve] w wr∧mX w [v,vs,ve] [v1,s1,e1]∧kP wr L p aQ aR aJ aH (j:Int) A f1 g1 v1 s1 e1) (λs _ _ _ _=>l.len -(intOf s).toNat)
 case atStart=>exact⟨0,l,fs,gs,v,vs,ve,rfl,ahh,HR.o.symm,lG.o,HAT.o,BF.o,HF.o,HG.o,Kw.refl _ _ _,mX.refl _ _,HI.o⟩
 case round=>
  obtain⟨k,R,f1,g1,v1,s1,e1,rfl,hlen,heq,hall,hrow,hsl,hf1,hg1,hKw,hOw,hI⟩:=hrel;have HE:=ah heq;have HK:=ah hKw;have HO:=ah hOw;have HSL:=ah hsl;clear heq hKw hOw hsl;cases R with
  |nil=>
   obtain rfl:k=l.len:=afk
   have HX:aj (aZ1 w L p aQ aR aJ aH (j:Int) A v vs ve res (.returned (.tuple #[.int .i64 0,.int .i64 0])) wr):=ah (by rw[HE.o];exact⟨rfl,HK.o,f1,g1,v1,s1,e1,HO.o,hI,λ_=>⟨hf1,hg1,rfl,rfl⟩⟩);clear hI hall hrow hf1 hg1 HE;go_wp2_with fail
   go_ret2
   exact HX.o
  |cons h b e R=>
   obtain⟨bl,off,s,rfl,hbl,hin,x0,x1,x2,x3,x4,x5,x6,x7,x8,x9,x10,hrest⟩:=bf.At.aH8 hrow;have hkl:k<l.len:=acB
   obtain⟨jV,rJ⟩:=hall;obtain⟨eZ,dU,rfl,-⟩:=hI.form;have Tq:=ah jV;have ap8:=ah rJ;have Av:=ah hf1;have rD:=ah hg1;have fF:=ah hin;have kg:=ah hrest;have Dy:=ah hI;have kH:aj (oM h b.len e.len=true∧gy b=true∧gy e=true∧gy R=true):=ah (by have:=HSL.o;unfold gy at this;simp only[aM]at this;exact⟨this.1.1,this.1.2.1,this.1.2.2,this.2⟩);clear hrow hin jV rJ hf1 hg1 hrest hI HSL;go_upto_region 5 with fail;generalize hW2:World.alloc wr _=W2;obtain⟨nb,hnb,Ar,-,yh,-⟩:=oJ hW2;have HI2:=ah (Dy.o.below Ar.o);have qg:aj (Kw L [v,vs,ve] w W2):=ah (HK.o.trans HO.o (Kw.of_below Ar.o));have dG:aj (L.B1<=nb∧nb<W2.heap.size):=ah ⟨by rw[<- hnb];exact Dy.o.sz,(aI yh.o)⟩;have Ta:aj (¬Own [.slice eZ A.length dU,s1,e1] nb):=ah (λe=>by have:=(Dy.o.own _ e).2;omega);rw[hnb];clear hW2 hnb x0 x1 x2 x3 x4 x5 x6 x7 x8 x9 x10 hbl;have hA6:=HA.o;obtain⟨y0,y1,y2,y3,y4,y5,y6,y7,y8,y9,jM⟩:=U8 yh.o;go_wp2_with fail;refine(ap0 L p W2 aQ aR aJ aH j A f1 g1 _ s1 e1 HI2.o h b e s (fF.o.below (Ar.o.mono Dy.o.b0)) hj afc (bb6 Av.o HTT.o) (bb5 rD.o WI.o) t t0 r r0 HD.o lH.o tH.o xE.o kH.o.1).mono ?_;rintro e' w3 ⟨rfl,hK3,f3,g3,s3,e3,hO3,El,hq3⟩;have Du:aj (w3.heap[nb]? =some (.cells (qy h b e s).toArray 82 (0,0))):=ah ((hK3.far dG.o.2 dG.o.1 Ta.o).trans yh.o);have HI3:=ah El;have MI:=ah hK3;have uG:aj (Kw L [v,vs,ve] w w3):=ah (qg.o.trans HO.o hK3);have HO3:aj (mX w [v,vs,ve] [.slice eZ A.length dU,s3,e3]):=ah (HO.o.trans hO3 qg.o.size);have as0:aj (¬Own [.slice eZ A.length dU,s3,e3] nb):=ah (hO3.ne dG.o.2 Ta.o);have zV:=ah hq3;have Il:nb<w3.heap.size:=(aI Du.o);clear hK3 El hO3 hq3 y0 y1 y2 y3 y4 y5 y6 y7 y8 y9 jM;obtain⟨y0,y1,y2,y3,y4,y5,y6,y7,y8,y9,jM⟩:=U8 Du.o;have c3:w3.cell? ⟨L.bc,3,none⟩=some (.slice eZ A.length dU):=(eT HI3.o.blk (j:=3) rfl).2;by_cases Us:A.length=6
   ·have HX:aj (res=⟨2,h.line,nms f1,nms g1⟩):=ah (HE.o.trans aed);rw[Us]at c3;clear hA6;go_wp2_with fail;go_quiet (fail);go_wp2_with fail
    go_ret2
    refine⟨qY ahw ahw,uG.o.trans (mX.refl _ _) (Kw.of_below (below_drewN (ak _ _) _)),f3,g3,_,s3,e3,HO3.o,HI3.o.below (below_drewN (ak _ _) _),λh0=> ?_⟩;rw[HX.o]at h0;cases h0
   ·have hA':A.length<6:=ahf;have hdec:decide (6<(A.length:Int)+1)=false:=ado;have Gb:aj (lq p j t.nm t0.nm (dJ A) (mem (nms f1)) (mem (nms g1)) h=0->nR (lu p) (fL 12 h (nms f1))∧nR (lW p) (fL 14 h (nms g1))):=ah (λh0=>⟨aG9 Av.o h0,aH0 rD.o h0⟩);have HU:aj (res=if lq p j t.nm t0.nm (dJ A) (mem (nms f1)) (mem (nms g1)) h != 0 then⟨lq p j t.nm t0.nm (dJ A) (mem (nms f1)) (mem (nms g1)) h,h.line,nms f1,nms g1⟩else Xn p j t.nm t0.nm b e R (dJ A) ((dJ A).app (.cons h b e .nil)) 0 (fL 12 h (nms f1)) (fL 14 h (nms g1))):=ah (HE.o.trans abC);clear HE Us;generalize lq p j t.nm t0.nm (dJ A) (mem (nms f1)) (mem (nms g1)) h=x at *;cases hx:(x != 0)
    case true=>
     have HX:aj (res=⟨x,h.line,nms f1,nms g1⟩):=ah (HU.o.trans (by rw[hx];rfl));have HX0:aj (x≠0):=ah ahu;clear HU Gb;go_wp2_with fail;go_quiet (fail);go_wp2_with fail
     go_ret2
     refine⟨qY ahw ahw,uG.o.trans (mX.refl _ _) (Kw.of_below (below_drewN (ak _ _) _)),f3,g3,_,s3,e3,HO3.o,HI3.o.below (below_drewN (ak _ _) _),λh0=> ?_⟩;rw[HX.o]at h0;exact(HX0.o h0).elim
    have HT:aj (res=ba0 p j t.nm t0.nm b e R (dJ A) ((dJ A).app (.cons h b e .nil)) (nms f3) (nms g3)):=ah (HU.o.trans (by rw[hx,(zV.o ahu).1,(zV.o ahu).2,Lu,Lu];rfl));have zf:aj (nR (lu p) (nms f3)∧nR (lW p) (nms g3)):=ah (by rw[(zV.o ahu).1,(zV.o ahu).2,Lu,Lu];exact Gb.o ahu);clear HU Gb zV;go_upto_region 10 with fail;obtain⟨Y0,Y1,Y2,Y3,Y4,Y5,Y6,Y7,Y8,Y9,uJ⟩:=FL Il y0 y1 y2 y3 y4 y5 y6 y7 y8 y9 jM;have L3:=jN aci c3;clear y0 y1 y2 y3 y4 y5 y6 y7 y8 y9 jM c3 hdec;refine cK ahe rfl ?_;refine bW 0 7 [] [[],[0],[0,1],[0,1,2],[],[0,1,2,3],[],[0,1,2,3,4,5,6],[0,1,2,3,4,5,6,7],[0,1,2,3,4,5,6,7,8],[0,1,2,3,4,5,6,7],[0,1,2,3,4,5,6,7,10],[0,1,2,3,4,5,6,7,10,11]] [[],[],[],[],[],[],[]] (λ_ w'=>Below w3.heap.size w3 w') (λw w'=>Below w.heap.size w w') [35,36,37,38,39,40,41] rfl rfl aix ahe ahe ahe ahe ahe aix (λ_=>ak _ _) aix (below_drewN (ak _ _) 1) ?_;simp only[gJ,kE]
    iterate 6
     apply bH.step
     case cu=>intro c A w' hok hC hO hD;have e0:=hO 0 aix;have e7:=hO 7 aix;simp[Act.eval]at e0 e7;simp[Act.eval]at hD;simp[go_sem,gd,Oper.wp,hD,e0,e7,L3,hC,Y0,Y1,Y2,Y3,Y4,Y5,Y6,Y7,Y8,Y9,uJ];exact AbN
    refine bH.some (λv w'=> ∃bb,v= .slice (some ⟨bb,0,none⟩) 1 1∧w'.heap[bb]? =some (.cells zSt 82 (0,0))) ?_ ?_ ?_
    ·rintro v w w' hle ⟨bb,rfl,hbb⟩;exact⟨bb,rfl,(hle.block bb (aI hbb)).trans hbb⟩
    ·intro c A w' hok hC hO hD;simp[go_sem,gd,Oper.wp];exact Abi
    try simp only[dI]
    refine bH.done ?_;intro wz dx;simp only[List.drop_zero];intro v0 h0 v1 h1 v2 h2 v3 h3 v4 h4 v5 h5 v6 h6;have h0':v0=_:=h0;have h1':v1=_:=h1;have h2':v2=_:=h2;have h3':v3=_:=h3;have h4':v4=_:=h4;have h5':v5=_:=h5;subst h0' h1' h2' h3' h4' h5';obtain⟨bb,rfl,hbb⟩:=h6;clear h0 h1 h2 h3 h4 h5;refine eY.nil ?_;go_simp;refine dD 7 [[],[0],[0,1],[0,1,2],[],[0,1,2,3],[],[0,1,2,3,4,5,6],[0,1,2,3,4,5,6,7],[0,1,2,3,4,5,6,7,8],[0,1,2,3,4,5,6,7],[0,1,2,3,4,5,6,7,10],[0,1,2,3,4,5,6,7,10,11]] rfl rfl rfl rfl rfl ahe ahe ahe ?_;obtain⟨i0,hi0,hz0,hz1,hz2⟩:=Yf;have DF:=ah (HI3.o.below dx);refine wp_append_lies wz _ _ _ aix L.B1 82 i0 _ 11 176 Tryz.underlying61 hi0 hz0 hz1 hz2 aix ahf (.slice eZ A.length dU) A.length (CF A) aix DF.o.row ⟨bb,0,none⟩ 1 1 zSt.toList aix aix (World.news_of_block hbb) ahg ahf afc ahf DF.o.sz wz.heap.size rfl ?_;intro g' cap' w4 uy qH vV Er;clear hi0 hz0 hz1 hz2 hbb Y0 Y1 Y2 Y3 Y4 Y5 Y6 Y7 Y8 Y9 uJ L3;have ar2:aj (uW w3 L.B0 h b e s):=ah (fF.o.below ((Ar.o.mono Dy.o.b0).trans (MI.o.below HI2.o.b0 (λk e=>(HI2.o.own k e).1))));have yt:=ah (HI3.o.push ⟨h,b,e,s⟩ ar2.o dx uy qH vV);have hgb:=(uy.lt g' rfl).1;have dL:aj (w4.heap[L.bc]? =some (.cells (wkV p aQ aR aJ aH (j:Int) (.slice eZ A.length dU) s3 e3) 115 (0,0))):=ah ((qH.block _ (aI DF.o.blk) (λe'=>DF.o.PL (u:= .slice eZ A.length dU) ahh e'.symm)).trans DF.o.blk);have aW6:=ah (OW uy);have Ik:g'≠L.bc:=agn;clear uy qH vV Er hgb;go_simp;refine bW 8 13 [9,12] [[],[0],[0,1],[0,1,2],[],[0,1,2,3],[],[0,1,2,3,4,5,6],[0,1,2,3,4,5,6,7],[0,1,2,3,4,5,6,7,8],[0,1,2,3,4,5,6,7],[0,1,2,3,4,5,6,7,10],[0,1,2,3,4,5,6,7,10,11]] [[some false,none],[some false,none],[none,some false],[none,some false],[none,some false]] (PC w4 g' (A.length*11) (qy h b e s) ⟨L.bc,3,none⟩ (.slice (some ⟨g',0,none⟩) (A.length+1) cap')) (λ_ _=>True) [43,44,45] rfl rfl aix ahe ahe ahe ahe ahe aix (λ_=>trivial) aix rfl ?_;simp only[gJ,kE];have Xw:(0:Int)<=(A.length:Int):=ahf;have hA1:(A.length:Int)<(A.length:Int)+1:=ahf;apply bH.step
    case cu=>intro c A w' hok hC hO hD;have e42:=hO 42 aix;have e40:=hO 40 aix;simp[Act.eval]at e42 e40;simp[Act.eval]at hD;simp[go_sem,gd,Oper.wp,hD,e42,e40,hA1];exact aZ.mk trivial (PC.skip aix aix hC) (dO.mk _ _)
    refine bH.some (λ_ _=>True) (λ_ _ _ _ _=>trivial) ?_ ?_
    ·intro c A' w' hok hC hO hD;obtain⟨x,y,rfl⟩:=hC.bits;obtain⟨rfl,-⟩:=hok;have e39:=hO 39 aix;simp[Act.eval]at hD;simp only[gd,if_true];refine wp_store_mid _ _ _ aix g' (A.length*11) (qy h b e s).toArray afA (e39.trans aix) (GX aW6.o (hC.Xo Ik)) Yg (by simp[qy,Value.oneCell']) ?_;exact aZ.EA trivial (PC.elt Ik aix aix hC) trivial
    try simp only[dI]
    iterate 2
     apply bH.step
     case cu=>intro c A w' hok hC hO hD;have e35:=hO 35 aix;simp[Act.eval]at e35;simp[Act.eval]at hD;simp[go_sem,gd,Oper.wp,hD,e35];exact aZ.mk trivial (PC.skip aix aix hC) (dO.mk _ _)
    refine bH.some (λ_ _=>True) (λ_ _ _ _ _=>trivial) ?_ ?_
    ·intro c A' w' hok hC hO hD;obtain⟨x,y,rfl⟩:=hC.bits;obtain⟨rfl,-⟩:=hok;have e42:=hO 42 aix;simp[Act.eval]at e42;simp[Act.eval]at hD;have hbk0:w'.heap[L.bc]? =w4.heap[L.bc]?:=PC.Xt (a:=⟨L.bc,3,none⟩) Ik hC (aI dL.o);have hbk:=hbk0.trans dL.o;have hcl:w'.cell? ⟨L.bc,3,none⟩=some (.slice eZ A.length dU):=(eT hbk (j:=3) rfl).2;have hfr:w'.frozen? ⟨L.bc,3,none⟩=false:=bG hbk;simp[go_sem,gd,Oper.wp,hD,e42,hcl,hfr];exact aZ.EA (v:=undef) trivial (PC.fld aix aix hC) trivial
    simp only[List.nil_append,List.cons_append,List.drop_succ_cons,List.drop_zero];refine bH.done ?_;intro w5 hC5;simp only[List.drop_succ_cons,List.drop_zero];intro v0 h0 v1 h1 v2 h2 v3 h3 v4 h4;clear h0 h1 h2 h3 h4;refine eY.nil ?_;refine dH rfl ?_;have su:aj (w5=(w4.setCells g' (A.length*11) (qy h b e s)).setCell ⟨L.bc,3,none⟩ (.slice (some ⟨g',0,none⟩) (A.length+1) cap')):=ah hC5;rw[<- su.o]at yt;have gP:=ah yt.o.1;have MJ:=ah yt.o.2.1;have Pq:=ah yt.o.2.2;have WR:aj (Kw L [v,vs,ve] w w5):=ah (uG.o.trans HO3.o yt.o.2.1);have WW:aj (mX w [v,vs,ve] [.slice (some ⟨g',0,none⟩) (A.length+1) cap',s3,e3]):=ah (HO3.o.trans yt.o.2.2 uG.o.size);have Pt:aj (¬Own [.slice (some ⟨g',0,none⟩) (A.length+1) cap',s3,e3] nb):=ah (Pq.o.ne Il as0.o);have Jp:aj (w5.heap[nb]? =some (.cells (qy h b e s).toArray 82 (0,0))):=ah ((MJ.o.far Il dG.o.1 as0.o).trans Du.o);have aq1:=ah (MJ.o.below HI3.o.b0 (λk e=>(HI3.o.own k e).1));have M6:aj (bf.At w5 L.B0 R (some ⟨bl,off,none⟩) (k+1)):=ah (kg.o.below (((Ar.o.mono Dy.o.b0).trans (MI.o.below HI2.o.b0 (λk e=>(HI2.o.own k e).1))).trans aq1.o));have ar1:=ah (ar2.o.below aq1.o);have iZ:aj (b.len<=maxLen∧e.len<=maxLen):=ah fF.o.1.2.2.2.2.2.2;have aw7:nb<w5.heap.size:=(aI Jp.o);obtain⟨-,-,-,-,-,-,-,-,-,y9,jM⟩:=U8 Jp.o;clear hC5 su yt aW6 dL Xw hA1 Ik;clear hx Il DF dx HI3 uG MI Du MJ Pq Ta HI2 qg yh Ar Dy fF ar2 kg HO HK Av rD HF HG HI HAT HO3 as0 aq1;go_simp;have Qp:aj (res=if(ig p j t.nm t0.nm b (dJ (A++[⟨h,b,e,s⟩])) (nms f3) (nms g3)).err != 0 then ig p j t.nm t0.nm b (dJ (A++[⟨h,b,e,s⟩])) (nms f3) (nms g3)else Uf p j t.nm t0.nm e R (dJ A) (dJ (A++[⟨h,b,e,s⟩])) (ig p j t.nm t0.nm b (dJ (A++[⟨h,b,e,s⟩])) (nms f3) (nms g3)).f (ig p j t.nm t0.nm b (dJ (A++[⟨h,b,e,s⟩])) (nms f3) (nms g3)).g):=ah (by rw[Bh];exact HT.o);clear HT;go_wp2_with fail;refine(Tq.o.1 _ s.dR s.dA (A++[⟨h,b,e,s⟩]) f3 g3 _ s3 e3 iZ.o.1 ar1.o.2.2.2.1 kH.o.2.1 ahi zf.o.1 zf.o.2 gP.o).mono ?_;rintro e' w6 ⟨rfl,Uu,f6,g6,v6,s6,e6,Xy,Oo,hq6⟩;generalize ig p j t.nm t0.nm b (dJ (A++[⟨h,b,e,s⟩])) (nms f3) (nms g3)=r1 at *;have aq2:=ah (Uu.below gP.o.b0 (λk e=>(gP.o.own k e).1));have Ju:aj (Kw L [v,vs,ve] w w6):=ah (WR.o.trans WW.o Uu);have Jy:aj (mX w [v,vs,ve] [v6,s6,e6]):=ah (WW.o.trans Xy WR.o.size);have Pv:aj (¬Own [v6,s6,e6] nb):=ah (Xy.ne aw7 Pt.o);have FE:aj (w6.heap[nb]? =some (.cells (qy h b e s).toArray 82 (0,0))):=ah ((Uu.far aw7 dG.o.1 Pt.o).trans Jp.o);have uT:=ah (M6.o.below aq2.o);have aT7:=ah (ar1.o.below aq2.o);have tC:=ah Oo;have Tf:=ah hq6;clear Uu Xy Oo hq6 aq2 WR WW Pt Jp M6 ar1 gP aw7 y9 jM zf;obtain⟨-,-,-,-,-,-,-,-,-,y9,jM⟩:=U8 FE.o
    go_upto_if 54 with fail
    go_cut [8,9] (λs8 s9 W7=> ∃(r2:Ql) (f7 g7:List ByteArray) (v7 s7 e7:Value),s8= .int .i64 r2.err∧s9= .int .i64 r2.line∧(res=if r2.err != 0 then r2 else ig p j t.nm t0.nm R (dJ A) r2.f r2.g)∧Kw L [v,vs,ve] w W7∧mX w [v,vs,ve] [v7,s7,e7]∧R.At W7 L.B0 (some ⟨bl,off,none⟩) (k+1)∧kP W7 L p aQ aR aJ aH (j:Int) (A++[⟨h,b,e,s⟩]) f7 g7 v7 s7 e7∧(r2.err=0->nR (lu p) r2.f∧nR (lW p) r2.g∧nms f7=r2.f∧nms g7=r2.g))
    case first=>
     cases hr1:(r1.err==0)
     ·have qE:aj (res=if r1.err != 0 then r1 else ig p j t.nm t0.nm R (dJ A) r1.f r1.g):=ah (by have hb:(r1.err != 0)=true:=afu;rw[hb];exact Qp.o.trans (by rw[hb];rfl));clear Qp;go_wp2_with fail;go_meet;exact⟨r1,f6,g6,v6,s6,e6,rfl,rfl,qE.o,Ju.o,Jy.o,uT.o,tC.o,Tf.o⟩
     ·have hr0:r1.err=0:=afu;have zf:=ah (Tf.o hr0);have qE:aj (res=Uf p j t.nm t0.nm e R (dJ A) (dJ (A++[⟨h,b,e,s⟩])) (nms f6) (nms g6)):=ah (Qp.o.trans (by rw[hr0,zf.o.2.2.1,zf.o.2.2.2];rfl));have bW6:nb<w6.heap.size:=(aI FE.o);clear Qp Tf hr0;go_wp2_with fail;refine(Tq.o.2 _ s.jc s.gZ (A++[⟨h,b,e,s⟩]) f6 g6 v6 s6 e6 iZ.o.2 aT7.o.2.2.2.2 kH.o.2.2.1 ahi (by rw[zf.o.2.2.1];exact zf.o.1) (by rw[zf.o.2.2.2];exact zf.o.2.1) tC.o).mono ?_;rintro e' w7 ⟨rfl,CJ,f7,g7,v7,s7,e7,Kl,F9,Kr⟩;have jY:aj (res=if(ig p j t.nm t0.nm e (dJ (A++[⟨h,b,e,s⟩])) (nms f6) (nms g6)).err != 0 then ig p j t.nm t0.nm e (dJ (A++[⟨h,b,e,s⟩])) (nms f6) (nms g6)else ig p j t.nm t0.nm R (dJ A) (ig p j t.nm t0.nm e (dJ (A++[⟨h,b,e,s⟩])) (nms f6) (nms g6)).f (ig p j t.nm t0.nm e (dJ (A++[⟨h,b,e,s⟩])) (nms f6) (nms g6)).g):=ah qE.o;generalize ig p j t.nm t0.nm e (dJ (A++[⟨h,b,e,s⟩])) (nms f6) (nms g6)=r2 at *;have bD5:=ah (CJ.below tC.o.b0 (λk e=>(tC.o.own k e).1));have LW:aj (Kw L [v,vs,ve] w w7):=ah (Ju.o.trans Jy.o CJ);have HO7:aj (mX w [v,vs,ve] [v7,s7,e7]):=ah (Jy.o.trans Kl Ju.o.size);have kN:=ah (uT.o.below bD5.o);have LV:=ah F9;have DN:=ah Kr;clear CJ Kl F9 Kr qE y9 jM;go_wp2_with fail;go_meet;exact⟨r2,f7,g7,v7,s7,e7,rfl,rfl,jY.o,LW.o,HO7.o,kN.o,LV.o,DN.o⟩
    obtain⟨r2,f7,g7,v7,s7,e7,rfl,rfl,hX,CJ,Kl,hR7,F9,Kr⟩:=hcut;obtain⟨W7,rfl⟩: ∃W:World,W=wc:=⟨_,rfl⟩;have HX:=ah hX;have LW:=ah CJ;have HO7:=ah Kl;have kN:=ah hR7;have LV:=ah F9;have DN:=ah Kr;clear hX CJ Kl hR7 F9 Kr y9 jM Qp Ju Jy Pv FE uT aT7 tC Tf;obtain⟨g9,I7,rfl,hc9⟩: ∃g9 I7,v7= .slice (some ⟨g9,0,none⟩) (A.length+1) I7∧A.length+1<=I7:=by
     rcases LV.o.row.2 with⟨-,hn⟩|⟨g',cap,cur,e',-,-,hcc,-⟩
     ·simp at hn
     ·exact⟨g',cap,by rw[e'];simp,by simpa using hcc⟩
    have hcl:=jN (x:= .slice (some ⟨g9,0,none⟩) (A.length+1) I7) (by have:=LV.o.sz;have:=L.c1;show L.bc<_;omega) (eT LV.o.blk (j:=3) rfl).2;have hz1:(0:Int)<=(A.length:Int):=ahf;have hz2:(A.length:Int)<=(I7:Int):=ahf;have hwr:IntKind.i64.wrap (A.length:Int)=(A.length:Int):=IntWalk.i64_in _ ahf;have Im:(A.length:Int)+1 -1=(A.length:Int):=ahf;go_upto_region 14 with fail;refine cK ahe rfl ?_;refine bW 0 14 [] [[],[],[1],[1,2],[1,2,3],[],[5],[5,6],[5,6,7],[5,6,7,8],[5,6,7,8,9],[1,2,3,4,5,6,7,8,9,10],[0,1,2,3,4,5,6,7,8,9,10,11],[0,1,2,3,4,5,6,7,8,9,10,11,12],[0,1,2,3,4,5,6,7,8,9,10,11,12,13]] [[],[],[],[],[],[],[],[],[],[],[],[],[],[]] (λ_ w'=>Below W7.heap.size W7 w') (λw w'=>Below w.heap.size w w') [62,63,64,65,66,67,68,69,70,71,72,73,74,75] rfl rfl aix ahe ahe ahe ahe ahe aix (λ_=>ak _ _) aix (below_drewN (ak _ _) 1) ?_;simp only[gJ,kE]
    iterate 14
     apply bH.step
     case cu=>intro c A w' hok hC hO hD;have e0:=hO 0 aix;simp[Act.eval]at e0;simp[Act.eval]at hD;simp[go_sem,gd,Oper.wp,hD,e0,hcl,hC,Im,hwr,hz1,hz2];exact AbN
     try simp only[dI]
    try simp only[dI]
    refine bH.done ?_;intro wz dx;simp only[List.drop_zero];intro v0 h0 v1 h1 v2 h2 v3 h3 v4 h4 v5 h5 v6 h6 v7 h7 v8 h8 v9 h9 v10 h10 v11 h11 v12 h12 v13 Om;have Ur:v11=_:=h11;have av6:v13=_:=Om;subst Ur av6;clear h0 h1 h2 h3 h4 h5 h6 h7 h8 h9 h10 h11 h12 Om;refine eY.nil ?_;go_simp;have Qx:=ah (kP.pop ⟨h,b,e,s⟩ LV.o dx);have hclz:wz.cell? ⟨L.bc,3,none⟩=some (.slice (some ⟨g9,0,none⟩) (A.length+1) I7):=hcl wz dx;have UE:wz.frozen? ⟨L.bc,3,none⟩=false:=bG ((LV.o.below dx).blk);clear hcl Im hwr;refine dD 14 [[],[],[1],[1,2],[1,2,3],[],[5],[5,6],[5,6,7],[5,6,7,8],[5,6,7,8,9],[1,2,3,4,5,6,7,8,9,10],[0,1,2,3,4,5,6,7,8,9,10,11],[0,1,2,3,4,5,6,7,8,9,10,11,12],[0,1,2,3,4,5,6,7,8,9,10,11,12,13]] rfl rfl rfl rfl rfl ahe ahe ahe ?_;simp[go_sem,Oper.wp,hclz,UE];refine dH rfl ?_;clear hclz UE dx;go_simp;have HK8:=ah (LW.o.trans HO7.o Qx.o.2);have HO8:aj (mX w [v,vs,ve] [.slice (some ⟨g9,0,none⟩) A.length I7,s7,e7]):=ah (λk hk=>HO7.o k (by
     rcases wK.1 hk with e|e|e
     ·exact wK.2 (.inl e)
     ·exact wK.2 (.inr (.inl e))
     ·exact wK.2 (.inr (.inr e))))
    have ER:=ah (kN.o.below (Qx.o.2.below LV.o.b0 (λk e=>(LV.o.own k e).1)));have HI8:=ah Qx.o.1;clear Qx LW HO7 kN LV;cases hr2:(r2.err != 0)
    ·have Tx:aj (res=ig p j t.nm t0.nm R (dJ A) (nms f7) (nms g7)):=ah (HX.o.trans (by rw[hr2,(DN.o agu).2.2.1,(DN.o agu).2.2.2];rfl));have zf:aj (nR (lu p) (nms f7)∧nR (lW p) (nms g7)):=ah (by have:=DN.o agu;rw[this.2.2.1,this.2.2.2];exact⟨this.1,this.2.1⟩);clear HX DN;go_wp2_with fail;go_roundw
     case rel=>exact⟨k+1,R,f7,g7,_,s7,e7,ahj,acB,Tx.o,ap8.o,ER.o,kH.o.2.2.2,zf.o.1,zf.o.2,HK8.o,HO8.o,HI8.o⟩
     case measure=>simp[intOf];omega
    ·have Tx:aj (res=r2):=ah (HX.o.trans (if_pos hr2));have HX0:aj (r2.err≠0):=ah agu;clear HX DN;go_wp2_with fail
     go_ret2
     refine⟨qY (by rw[Tx.o];rfl) (by rw[Tx.o];rfl),HK8.o,f7,g7,_,s7,e7,HO8.o,HI8.o,λh0=> ?_⟩;rw[Tx.o]at h0;exact(HX0.o h0).elim
theorem ao6 (L:uo) (p:Pr) (aQ aR:Option Addr) (aJ aH:Nat) (j:Nat) (t t0:Th) (r r0:List Th) (hd:p.ts.drop j=t::r) (hts:p.ts=t0::r0) (hj:cO (j:Int)) (hT:p.ts.length<=1000000000000) (hD:p.ds.length<=1000000000000) (qX:wQ p.ds p.ts []=none) (hsd: ∀d∈p.ds,jF d=true) (l:bf):Gq L p aQ aR aJ aH j t t0 l:=
 Nw L p aQ aR aJ aH j t t0 r r0 hd hts hj hT hD qX hsd l (bf.qG (λ_ b e hb he=>⟨Nw L p aQ aR aJ aH j t t0 r r0 hd hts hj hT hD qX hsd b hb,Nw L p aQ aR aJ aH j t t0 r r0 hd hts hj hT hD qX hsd e he⟩) l)
namespace Md
theorem an2 {p:Pr} (h:(mq p).1=0):wQ p.ds p.ts []=none:=by
 unfold mq at h;split at h
 ·simp at h
 ·rename_i h';exact h'
end Md
theorem aQ4 {p:Pr} {w W:World} {aQ aR:Option Addr} {aJ aH n:Nat} (hn:w.heap.size=n) (hp:p.At w aQ aR)
 (hW:w.alloc (.cells #[.slice aQ p.ds.length aJ,.slice aR p.ts.length aH,.int .i64 0,.slice none 0 0,.slice none 0 0,.slice none 0 0] 115)=W):
 kP W ⟨n,n+1,n,aD _,Nat.lt_succ_self _⟩ p aQ aR aJ aH 0 [] [] [] (.slice none 0 0) (.slice none 0 0) (.slice none 0 0)∧Below w.heap.size w W:=by
 subst hn;have hb:Below w.heap.size w W:=afd
 refine⟨{blk:=acC,row:=World.ownsRow_nil _ _ _ _,rs:=World.ownsRow_nil _ _ _ _,re:=World.ownsRow_nil _ _ _ _,d1:=adl,d2:=adl,d3:=adl,sz:=by rw[<- hW];simp,dat:=⟨hp.1,hp.2.1,hp.2.2.1.below hb,hp.2.2.2.below hb⟩,tO:=agb,fo:=agb,go:=agb},hb⟩
theorem AZ (p:Pr) (w:World) (aQ aR:Option Addr) (aJ aH:Nat) (hp:p.At w aQ aR) (Ep:p.ds.length<=aJ) (GJ:p.ts.length<=aH):
 Calls Tryz.prog 16 #[.agg #[.slice aQ p.ds.length aJ,.slice aR p.ts.length aH]] w λe w'=>e= .returned (.tuple #[.int .i64 (jL p).1,.int .i64 (jL p).2])∧Below w.heap.size w w':=by
 have HS:aj (jL p=if !qZ p then(3,0)else if(mY p.ds [] 0 0 0 0).1 != 0 then mY p.ds [] 0 0 0 0 else
  if decide ((4:Int)<p.ts.length)then(2,0)else if(mq p).1 != 0 then mq p else
  if decide (60<uq p.ts 0)then(2,0)else((jH p (kS p) p.ts 0 [] []).err,(jH p (kS p) p.ts 0 [] []).line)):=ah rfl
 generalize jL p=res at *;have hld:=hp.1;have hlt:=hp.2.1;unfold maxLen at hld hlt;have HP:=ah hp;have HCD:=ah Ep;have HCT:=ah GJ;clear hp Ep GJ;go_enter Tryz.func16,Tryz.ntmps16;go_upto_region 1 with fail;generalize hW:World.alloc w _=W;generalize Value.agg #[_,_]=a0;have HX:=ah ((Sit.start w).yP rfl (.slice aQ p.ds.length aJ) (.slice aR p.ts.length aH) 52);rw[hW]at HX;clear hW;obtain⟨c0,c1,-⟩:=HX.o.cs;go_wp2_with fail;refine(RJ p _ aQ aR aJ aH (HP.o.same HX.o.1)).mono ?_;rintro e w1 ⟨rfl,hb1⟩;have HY:=ah (HX.o.next hb1);clear HX hb1 c0 c1;obtain⟨c0,c1,-⟩:=HY.o.cs;have BF:aj (qZ p=true->(∀d∈p.ds,jF d=true)∧(∀t∈p.ts,gy t.body=true)∧∃t0 r0,p.ts=t0::r0):=ah (λh=>by
  unfold qZ at h;simp only[aM,List.all_eq_true,decide_eq_true_eq]at h;refine⟨h.1.1,λt ht=> ?_,?_⟩
  ·have:=h.1.2 t ht;unfold pK at this;simp only[aM]at this;exact this.2
  ·cases hts:p.ts with
   |nil=>rw[hts]at h;simp at h
   |cons a b=>exact⟨a,b,rfl⟩)
 cases hS:qZ p
 ·have HE:aj (res=(3,0)):=ah (HS.o.trans ain);clear BF;go_wp2_with fail
  go_ret2
  exact⟨qY ahC ahC,HY.o.1⟩
 ·have HE:aj (res=if(mY p.ds [] 0 0 0 0).1 != 0 then mY p.ds [] 0 0 0 0 else
   if decide ((4:Int)<p.ts.length)then(2,0)else if(mq p).1 != 0 then mq p else
   if decide (60<uq p.ts 0)then(2,0)else((jH p (kS p) p.ts 0 [] []).err,(jH p (kS p) p.ts 0 [] []).line)):=ah (HS.o.trans ain)
  have xE:=ah (BF.o hS);have Dv:aj ((mY p.ds [] 0 0 0 0).1=0->p.ds.length<=1000000000000):=ah (λh0=>ab4);clear HS BF;go_wp2_with fail;refine(TT p.ds _ aQ aJ HP.o.1 HCD.o ((HP.o.same HY.o.1).2.2.1) xE.o.1).mono ?_;rintro e w2 ⟨rfl,hb2⟩;have HZ:=ah (HY.o.next hb2);clear HY hb2 c0 c1;obtain⟨c0,c1,-⟩:=HZ.o.cs;generalize mY p.ds [] 0 0 0 0=dd at *;cases h1:(dd.1 != 0)
  case true=>
   have dP:aj (res=dd):=ah (HE.o.trans (if_pos h1));clear HE xE Dv;go_wp2_with fail
   go_ret2
   exact⟨qY ahn ahn,HZ.o.1⟩
  have rC:aj (res=if decide ((4:Int)<p.ts.length)then(2,0)else if(mq p).1 != 0 then mq p else
   if decide (60<uq p.ts 0)then(2,0)else((jH p (kS p) p.ts 0 [] []).err,(jH p (kS p) p.ts 0 [] []).line)):=ah (HE.o.trans (if_neg ahr))
  have bD8:=ah (Dv.o ahm);clear HE Dv;by_cases h4:(4:Int)<(p.ts.length:Int)
  ·have dP:aj (res=(2,0)):=ah (rC.o.trans (if_pos ahN));clear rC xE;go_wp2_with fail
   go_ret2
   exact⟨qY ahn ahn,HZ.o.1⟩
  have HE2:aj (res=if(mq p).1 != 0 then mq p else
   if decide (60<uq p.ts 0)then(2,0)else((jH p (kS p) p.ts 0 [] []).err,(jH p (kS p) p.ts 0 [] []).line)):=ah (rC.o.trans (if_neg ahN))
  have h4':(p.ts.length:Int)<=4:=ahf
  have Gc:aj (p.ts.length<=4):=ah ahf;have HTZ:=ah (an2 (p:=p));clear rC;go_wp2_with fail;refine(PD p _ aQ aR aJ aH (HP.o.same HZ.o.1) HCT.o).mono ?_;rintro e w3 ⟨rfl,hb3⟩;have HV:=ah (HZ.o.next hb3);clear HZ hb3 c0 c1 h1;obtain⟨c0,c1,-⟩:=HV.o.cs;generalize mq p=tt at *;cases h2:(tt.1 != 0)
  case true=>
   have dP:aj (res=tt):=ah (HE2.o.trans (if_pos h2));clear HE2 xE HTZ;go_wp2_with fail
   go_ret2
   exact⟨qY ahn ahn,HV.o.1⟩
  have kF:aj (res=if decide (60<uq p.ts 0)then(2,0)else((jH p (kS p) p.ts 0 [] []).err,(jH p (kS p) p.ts 0 [] []).line)):=ah (HE2.o.trans (if_neg ahz));have HTN:=ah (HTZ.o aho);clear HE2 HTZ;have qX:=(HP.o.same HV.o.1).2.2.2;go_wp2_with fail;go_loopw [8,9] (λs8 s wr=> ∃(k:Nat) (R:List Th) (n:Int),s= .int .i64 k∧s8= .int .i64 n∧k+R.length=p.ts.length∧uq p.ts 0=uq R n∧iP wr wr.heap.size R aR k∧Sit w wr [(w.heap.size,0,(.slice aQ p.ds.length aJ)),(w.heap.size,1,(.slice aR p.ts.length aH))]) (λ_ s _=>p.ts.length -(intOf s).toNat)
  case atStart=>exact⟨0,p.ts,0,rfl,rfl,ahh,rfl,qX,HV.o⟩
  case round=>
   obtain⟨k,R,n,rfl,rfl,hlen,heq,hrow,hsit⟩:=hrel;have HU:=ah hsit;have HQ:=ah heq;clear hsit HV c0 c1 qX heq h2;obtain⟨c0,c1,-⟩:=HU.o.cs;cases R with
   |cons t R=>
    obtain⟨⟨b,off,iO,eF,dR,dA,rfl,hB,x0,x1,x2,x3,hok,htx,hst,hcl⟩,hrest⟩:=hrow;simp only[aB]at hlen;have hkl:k<p.ts.length:=ahf;have kK:=ah hok;have HST:=ah hst;clear hok htx hst hcl;go_wp2_with fail;refine(TS t.body _ dR dA kK.o.2.2.2 HST.o).mono ?_;rintro e' w4 ⟨rfl,hb4⟩;have iU:=ah hb4;clear hb4 c0 c1 x0 x1 x2 x3;go_wp2_with fail;go_roundw
    case rel=>exact⟨k+1,R,_,ahj,rfl,ahf,HQ.o.trans rfl,hrest.same iU.o,HU.o.next iU.o⟩
    case measure=>simp[intOf];omega
   |nil=>
    obtain rfl:k=p.ts.length:=afb;have HN:aj (uq p.ts 0=n):=HQ;by_cases h6:60<n
    ·have dP:aj (res=(2,0)):=ah (kF.o.trans (if_pos afO));clear kF xE;go_wp2_with fail
     go_ret2
     exact⟨qY ahn ahn,HU.o.1⟩
    ·have h6':n<=60:=ahf;obtain⟨-,-,t0,r0,hts⟩:=xE.o;have lH:=ah hts;have HHN:aj (kS p=t0.nm):=ah (by unfold kS;rw[hts];rfl);have dP:aj (res=((jH p t0.nm p.ts 0 [] []).err,(jH p t0.nm p.ts 0 [] []).line)):=ah (kF.o.trans ((if_neg afO).trans (by rw[HHN.o])));clear kF hts hrow;go_upto_region 19 with fail;obtain⟨wo,rfl⟩: ∃wo:World,wo=wr:=⟨_,rfl⟩;obtain⟨nb,hnb⟩: ∃n,wo.heap.size=n:=⟨_,rfl⟩;generalize hW2:World.alloc wo _=W2;have aW4:=ah (aQ4 hnb (HP.o.same HU.o.1) hW2);have dG:=ah hnb;have EJ:aj (w.heap.size<nb):=ah (by rw[<- hnb];exact HU.o.2.1.1);rw[hnb];clear hW2 hnb c0 c1;have EK:aj (Below nb wo W2):=ah (by rw[<- dG.o];exact aW4.o.2);generalize hL:(⟨nb,nb+1,nb,aD _,Nat.lt_succ_self _⟩:uo)=L at *;have Ay:aj (L.B0=nb∧L.bc=nb):=ah (by rw[<- hL];exact⟨rfl,rfl⟩);have hLc:nb=L.bc:=Ay.o.2.symm;have HB0:aj (Below L.B0 wo W2):=ah (by rw[Ay.o.1];exact EK.o);clear hL;generalize hrr:jH p t0.nm p.ts 0 [] []=rr at *;have HRR:=ah hrr;rw[hLc];clear hrr hLc EK dG;have c1:W2.cell? ⟨w.heap.size,1,none⟩=some (.slice aR p.ts.length aH):=(HB0.o.cell (p:=⟨w.heap.size,1,none⟩) abd).trans HU.o.2.2.1.2;go_wp2_with fail;go_loopw [11,12,13] (λs _ _ wr=> ∃(k:Nat) (R:List Th) (f1 g1:List ByteArray) (v1 s1 e1:Value) (i1:Int),s= .int .i64 k∧k+R.length=p.ts.length∧p.ts.drop k=R∧rr=jH p t0.nm R k (nms f1) (nms g1)∧nR (lu p) (nms f1)∧nR (lW p) (nms g1)∧Below L.B0 wo wr∧kP wr L p aQ aR aJ aH i1 [] f1 g1 v1 s1 e1) (λs _ _ _=>p.ts.length -(intOf s).toNat)
     case atStart=>exact⟨0,p.ts,[],[],_,_,_,0,rfl,ahh,rfl,HRR.o.symm,⟨List.nodup_nil,by simp[nms]⟩,⟨List.nodup_nil,by simp[nms]⟩,HB0.o,aW4.o.1⟩
     case round=>
      obtain⟨k,R,f1,g1,v1,s1,e1,i1,rfl,hlen,hdr,heq,hf1,hg1,hB,hI⟩:=hrel;have HE:=ah heq;have Av:=ah hf1;have rD:=ah hg1;have HB:=ah hB;have HI:=ah hI;have HDR:=ah hdr;clear heq hf1 hg1 hB hI hdr c1;have c1:wr.cell? ⟨w.heap.size,1,none⟩=some (.slice aR p.ts.length aH):=(HB.o.cell (p:=⟨w.heap.size,1,none⟩) abd).trans HU.o.2.2.1.2;have HWB:aj (∀w',Below L.B0 wr w'->Below w.heap.size w w'):=ah (λw' hb=>HU.o.1.trans ((HB.o.trans hb).mono (by have:=EJ.o;have:=Ay.o.1;omega)));cases R with
      |nil=>
       obtain rfl:k=p.ts.length:=afb;have HX:aj (rr.err=0∧rr.line=0):=ah agY;go_wp2_with fail
       go_ret2
       exact⟨qY (by rw[dP.o,HX.o.1];rfl) (by rw[dP.o,HX.o.2];rfl),HWB.o _ (ak _ _)⟩
      |cons t R=>
       simp only[aB]at hlen;have hkl:k<p.ts.length:=ahf;have eX:aj (gy t.body=true):=ah (xE.o.2.1 t (by have:t∈p.ts.drop k:=(by rw[HDR.o];simp);exact List.mem_of_mem_drop this));have c2:wr.cell? ⟨L.bc,2,none⟩=some (.int .i64 i1):=(eT HI.o.blk (j:=2) rfl).2;have f2:wr.frozen? ⟨L.bc,2,none⟩=false:=bG HI.o.blk;go_upto_region 23 with fail;generalize hW3:World.setCell wr _ _=W3;have oG:aj (wr.grownBy W3 (some L.bc)):=ah (by rw[<- hW3];exact bQ _ _ _);have HI3:aj (kP W3 L p aQ aR aJ aH (k:Int) [] f1 g1 v1 s1 e1):=ah (by rw[<- hW3];exact HI.o.aA7);have qM:=ah (cB oG.o L.c0 HI.o.b0);have HB3:=ah (HB.o.trans qM.o);have hrow:=HI3.o.dat.2.2.2.drop k;rw[HDR.o,aU]at hrow;obtain⟨⟨bl,off,iO,eF,dR,dA,rfl,hbl,x0,x1,x2,x3,hok,htx,hst,-⟩,-⟩:=hrow;have kK:=ah hok;have HST:=ah hst;clear hW3 c1 c2 f2 oG HB hok hst htx HI;have c1:W3.cell? ⟨w.heap.size,1,none⟩=some (.slice (some ⟨bl,off,none⟩) p.ts.length aH):=(HB3.o.cell (p:=⟨w.heap.size,1,none⟩) abd).trans HU.o.2.2.1.2;have zP:aj (rr=if(ig p k t.nm t0.nm t.body (dJ []) (nms f1) (nms g1)).err != 0 then ig p k t.nm t0.nm t.body (dJ []) (nms f1) (nms g1)else jH p t0.nm R (k+1) (ig p k t.nm t0.nm t.body (dJ []) (nms f1) (nms g1)).f (ig p k t.nm t0.nm t.body (dJ []) (nms f1) (nms g1)).g):=ah HE.o;clear HE;go_wp2_with fail;refine(ao6 L p _ _ aJ aH k t t0 R r0 HDR.o lH.o afM (by have:=Gc.o;omega) bD8.o HTN.o xE.o.1 t.body W3 dR dA [] f1 g1 v1 s1 e1 kK.o.2.2.2 HST.o eX.o ahh Av.o rD.o HI3.o).mono ?_;rintro e' w4 ⟨rfl,hK4,f4,g4,v4,s4,e4,hO4,R7,hq4⟩;generalize ig p k t.nm t0.nm t.body (dJ []) (nms f1) (nms g1)=r1 at *;have LP:=ah (hK4.below HI3.o.b0 (λq hq=>(HI3.o.own q hq).1));have dL:=ah (HB3.o.trans LP.o);have HW4:=ah (HWB.o _ (qM.o.trans LP.o));have HI4:=ah R7;have DL:=ah hq4;clear hK4 hq4 R7 hO4 x0 x1 x2 x3 c1;cases hr1:(r1.err != 0)
       ·have DR:aj (rr=jH p t0.nm R (k+1) (nms f4) (nms g4)):=ah (zP.o.trans ((if_neg ah4).trans (by rw[(DL.o afu).2.2.1,(DL.o afu).2.2.2])));have zf:aj (nR (lu p) (nms f4)∧nR (lW p) (nms g4)):=ah (by have:=DL.o afu;rw[this.2.2.1,this.2.2.2];exact⟨this.1,this.2.1⟩);have HD7:aj (p.ts.drop (k+1)=R):=ah aem;clear DL zP;go_wp2_with fail;go_roundw
        case rel=>exact⟨k+1,R,f4,g4,v4,s4,e4,_,ahj,ahf,HD7.o,DR.o,zf.o.1,zf.o.2,dL.o,HI4.o⟩
        case measure=>simp[intOf];omega
       ·have xH:aj (rr=r1):=ah (zP.o.trans (if_pos hr1));clear zP DL;go_wp2_with fail
        go_ret2
        exact⟨qY (by rw[dP.o,xH.o];rfl) (by rw[dP.o,xH.o];rfl),HW4.o⟩
def at5:Prop:= ∀(w:World) (zs:List Int) (ao:Option Addr) (cap:Nat),FW w w.heap.size zs ao->zs.length<=9223372036854775807->Calls Tryz.prog 9 #[.slice ao zs.length cap] w (MkP w)
theorem at6:at5:=λw zs ao cap hz hl=>aj8 (λT=>Zr T 2 ahg) AZ w zs ao cap hz hl
end Go.Proofs.YtcjgfgkllmldpaaGreatDoor
