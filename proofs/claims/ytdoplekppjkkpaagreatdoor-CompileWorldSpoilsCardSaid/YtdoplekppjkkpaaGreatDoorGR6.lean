/- What the reference's walk says of a statement is what the checker says; the contract of the walk's one at every operator. And what hangs on it. -/
import Derived.Test.YtdoplekppjkkpaaGreatDoorGR5
import Derived.Test.YtdoplekppjkkpaaGreatDoorGPL
import Derived.Test.YtdoplekppjkkpaaGreatDoorGPH
set_option linter.unusedSimpArgs false
set_option linter.unusedVariables false
set_option maxHeartbeats 40000000
set_option maxRecDepth 1000000
namespace Go.Proofs.YtdoplekppjkkpaaGreatDoor
open Go.RowKit
namespace Md
def nms (l:List ByteArray):List (List UInt8):=(l.map (·.toList)).reverse
def CK (k:Int) (h:dF) (l:List ByteArray):List ByteArray:=if h.op==k then l++[h.nm]else l
theorem Jf (k:Int) (h:dF) (l:List ByteArray):nms (CK k h l)=fL k h (nms l):=by
 unfold nms CK fL;cases h.op==k <;> simp
theorem Ut (l:List ByteArray) (x:List UInt8):mem (nms l) x=nN l x:=by
 unfold mem nms nN;rw[Bool.eq_iff_iff,List.contains_iff_mem];simp[List.any_eq_true]
theorem Jg (l:List ByteArray):(nms l).length=l.length:=by simp[nms]
theorem OC {ds:List De} : ∀(ts pre:List Th),wC ds ts pre=none->∀(k:Nat) (d:Th) (r:List Th),ts.drop k=d::r->nP (pre++ts.take k) d.nm.toList=false
 | [],_,_,k,d,r,hd=>by simp at hd
 |t::ts,pre,h,k,d,r,hd=>by
  unfold wC at h;split at h
  ·cases h
  ·rename_i hc;cases k with
   |zero=>simp only[List.drop_zero,List.cons.injEq]at hd;obtain⟨rfl,rfl⟩:=hd;simp only[Bool.or_eq_true,not_or,Bool.not_eq_true]at hc;simpa using hc.2
   |succ k=>have:=OC ts (pre++[t]) h k d r (by simpa using hd);simpa using this
theorem OE {l:List Th} {x:List UInt8} (h:nP l x=false): ∀t∈l,t.nm.toList≠x:=λt ht e=>by
 unfold nP at h;rw[List.any_eq_false]at h;exact h t ht (by simp[e])
theorem ae4 {p:Pr} {j:Int} {nm:ByteArray} (h:mean p j nm=8):p.ts.any (λt=>t.nm.toList==nm.toList)=true:=by
 have:=JU h;unfold kS at this;obtain⟨t,ht,e⟩:=List.mem_map.1 this;exact List.any_eq_true.2 ⟨t,ht,by simp[e]⟩
theorem Db {ts:List Th} {j k:Nat} {t:Th} {r:List Th} (hd:ts.drop j=t::r) (hjk:j<k):t∈ts.take k:=by
 have h1:ts[j]? =some t:=by have:=List.getElem?_drop (xs:=ts) (i:=j) (j:=0);rw[hd]at this;simpa using this.symm
 have h2:(ts.take k)[j]? =some t:=by rw[List.getElem?_take,if_pos hjk];exact h1
 exact List.mem_of_getElem? h2
theorem ML {p:Pr} {i:Int} {nm:ByteArray} {j:Nat} {t:Th} {r:List Th} (qF:wC p.ds p.ts []=none) (hd:p.ts.drop j=t::r) (hm:mean p i nm=8):(qE p.ts nm==(j:Int))=(nm.toList==t.nm.toList):=by
 have ha:=ae4 hm;rcases pW (λt:Th=>t.nm.toList==nm.toList) p.ts 0 with⟨-,-,hn⟩|⟨k,d,r',hk,hf,hdk,hs,-⟩
 ·rw[ha]at hn;cases hn
 ·have hdn:d.nm.toList=nm.toList:=by simpa using List.find?_some hs
  have hU:=OC p.ts [] qF;have e:qE p.ts nm=(k:Int):=by unfold qE;simpa using hf
  rw[e,Bool.eq_iff_iff,beq_iff_eq,beq_iff_eq];constructor
  ·intro hkj;have:k=j:=by omega
   subst this;rw[hd]at hdk;injection hdk with h1 h2;rw[h1];exact hdn.symm
  ·intro hnm;by_cases hlt:k<j
   ·exact absurd (by rw[hdn,hnm]) (OE (hU j t r hd) d (by simpa using Db hdk hlt))
   ·by_cases hgt:j<k
    ·exact absurd (by rw[hdn,hnm]) (OE (hU k d r' hdk) t (by simpa using Db hd hgt))
    ·omega
theorem Uu {nm:ByteArray} (h:kZ nm true=true):nm.toList.isEmpty=false:=by
 unfold kZ at h;rw[if_pos rfl]at h;rw[Lib.toList_data];cases hl:nm.data.toList with
 |nil=>rw[hl]at h;exact absurd h agI
 |cons a r=>rfl
theorem ah5 {h:dF} {bl el:Nat} (hs:om h bl el=true):1<=h.op∧h.op<=15:=by
 unfold om fO at hs;simp only[aP,decide_eq_true_eq]at hs;exact⟨hs.1.1.1.1,hs.1.1.1.2⟩
theorem ah4 {h:dF} {bl el:Nat} (hs:om h bl el=true) (hf:fN h.op=true):h.nm.toList.isEmpty=false:=by
 unfold om at hs;simp only[aP]at hs;have:=hs.1.1.2.1;rw[hf]at this;exact Uu this
theorem ay4 {d:De} (hs:jw d=true) (hk:d.kind=5):d.on.toList.isEmpty=false:=by
 unfold jw at hs;simp only[aP]at hs;have:=hs.2.2;rw[hk]at this;exact Uu this
theorem OH (p:Pr) (i:Int) (nm:ByteArray) (k a:Int) (hk:0<=k∧k<=9) (ha:conv k=a) (h0:gN (conv (mean p i nm)) a a=0):mean p i nm=k:=by
 rw[<- nJ p i nm k a hk ha]at h0;exact tN h0
theorem N9 {a x y:Int} (h:a=0->x=y):kF a x=kF a y:=by
 unfold kF;cases ha:(a != 0)
 ·exact h (by simpa using ha)
 ·rfl
theorem ar2 (a b:Int):(if a != 0 then a else b)=kF a b:=rfl
section
variable {p:Pr} {j:Nat} {tn iB:ByteArray} {ar:aZ} {f g:List UInt8->Bool} {h:dF}
theorem ai0 (hsd: ∀d∈p.ds,jw d=true) (q:Bool):
 (if gN (conv (mean p j h.nm)) 5 5 != 0 then gN (conv (mean p j h.nm)) 5 5 else nest ((eZ ar 7 7 ⟨#[]⟩|| !eZ ar 4 4 (pE p.ds h.nm))||(q&&eZ ar 8 8 ⟨#[]⟩)))=gF [dQ (mean p j h.nm) [6],nest ((fG ar [7]|| !rA ar (pE p.ds h.nm) [4])||(q&&fG ar [8]))]:=by
 rw[vJ,ar2,nJ p j h.nm 6 5 agI rfl,oC,oC];refine N9 (λh0=> ?_);obtain⟨k,d,r,-,-,-,hm,hk,hmu⟩:=Lu h0;rw[hmu,Kn 4 d.on (ay4 (hsd d hm) hk)]
theorem aZ8 {t t0:Th} {r r0:List Th} (qF:wC p.ds p.ts []=none) (hd:p.ts.drop j=t::r) (hts:p.ts=t0::r0) {fs:List ByteArray} :
 (if gN (conv (mean p j h.nm)) 7 7 != 0 then gN (conv (mean p j h.nm)) 7 7 else if((((eZ ar 7 7 ⟨#[]⟩||eZ ar 8 8 ⟨#[]⟩)||eZ ar 3 3 ⟨#[]⟩)||qE p.ts h.nm==(j:Int))||qE p.ts h.nm==0)then 7 else lg (nN fs h.nm.toList))=
 gF [dQ (mean p j h.nm) [8],nest (fG ar [7,8,3]||(h.nm.toList==t.nm.toList||h.nm.toList==t0.nm.toList)),lg (mem (nms fs) h.nm.toList)]:=by
 rw[Ej,ar2,nJ p j h.nm 8 7 agI rfl,oC,oC,oC,LX];refine N9 (λh0=> ?_);have hm:=OH p j h.nm 8 7 agI rfl h0;have e0:=ML (j:=0) (t:=t0) (r:=r0) qF (by simpa using hts) hm;have e1:=ML qF hd hm;rw[e1,show((0:Int))=((0:Nat):Int)from rfl,e0,Ut,Bool.or_assoc (_||_) (_==_)];cases ((fG ar [7]||fG ar [8]||fG ar [3])||(h.nm.toList==t.nm.toList||h.nm.toList==t0.nm.toList)) <;> simp[nest,kF]
theorem aZ9 {t:Th} {r:List Th} (qF:wC p.ds p.ts []=none) (hd:p.ts.drop j=t::r):
 kF (gN (conv (mean p j h.nm)) 7 7) (nest ((eZ ar 7 7 ⟨#[]⟩||eZ ar 8 8 ⟨#[]⟩)||qE p.ts h.nm==(j:Int)))=gF [dQ (mean p j h.nm) [8],nest (fG ar [7,8]||h.nm.toList==t.nm.toList)]:=by
 rw[vJ,nJ p j h.nm 8 7 agI rfl,oC,oC,FJ];refine N9 (λh0=> ?_);rw[ML qF hd (OH p j h.nm 8 7 agI rfl h0)]
theorem ba0 {gs:List ByteArray} {x:Int} :
 kF (if(kF (gN (conv (mean p j h.nm)) 6 6) (nest (eZ ar 7 7 ⟨#[]⟩||eZ ar 3 3 ⟨#[]⟩))==0)&&nN gs h.nm.toList then 8 else kF (gN (conv (mean p j h.nm)) 6 6) (nest (eZ ar 7 7 ⟨#[]⟩||eZ ar 3 3 ⟨#[]⟩))) x=
 gF [dQ (mean p j h.nm) [7],nest (fG ar [7,3]),lg (mem (nms gs) h.nm.toList),x]:=by
 rw[oC,oC,FJ,Ut,nJ p j h.nm 7 6 agI rfl];generalize gN (conv (mean p j h.nm)) 6 6=a;generalize nest (fG ar [7]||fG ar [3])=b;generalize nN gs h.nm.toList=c;unfold gF gF gF gF kF lg;cases ha:(a != 0) <;> cases hb:(b != 0) <;> cases c <;> simp_all[gF]
 all_goals (intro hx;exact hx.symm)
end
end Md
open Md
theorem CJ.plain {w w':World} {L:tF} {p:Pr} {aK aM:Option Addr} {aH aG:Nat} {i:Int} {A:List Fr} {fs gs:List ByteArray} {v vs ve:Value} {h:dF} {r x:Int} {e:Ending}
 (hI:kE w L p aK aM aH aG i A fs gs v vs ve) (h12:(h.op==12)=false) (uM:(h.op==14)=false) (hr:x=r) (hp:e= .returned (.int .i64 x)∧Below w.heap.size w w'):CJ w L p aK aM aH aG i A fs gs v vs ve (CK 12 h fs) (CK 14 h gs) r e w':=by
 subst hr;refine⟨hp.1,Kw.of_below hp.2,fs,gs,vs,ve,mJ.refl _ _,hI.below hp.2,λ_=> ?_⟩;unfold CK;rw[h12,uM];exact⟨rfl,rfl⟩
theorem Zd (L:tF) (p:Pr) (w:World) (aK aM:Option Addr) (aH aG:Nat) (j:Nat) (A:List Fr) (fs gs:List ByteArray) (v vs ve:Value) (hI:kE w L p aK aM aH aG (j:Int) A fs gs v vs ve) (h:dF) (b e:aZ) (s:Sl) (hin:uJ w L.B0 h b e s) (hj:bY (j:Int)) (hA:A.length<=maxLen) (hfs:fs.length<=1000000000000) (hgs:gs.length<=1000000000000)
 (t t0:Th) (r r0:List Th) (hd:p.ts.drop j=t::r) (hts:p.ts=t0::r0) (qF:wC p.ds p.ts []=none) (hsd: ∀d∈p.ds,jw d=true) (hsh:om h b.len e.len=true):
 Calls Tryz.prog 49 #[.pointer (some ⟨L.bc,0,none⟩),iE h b e s] w (CJ w L p aK aM aH aG (j:Int) A fs gs v vs ve (CK 12 h fs) (CK 14 h gs) (jG p j t.nm t0.nm (dA A) (mem (nms fs)) (mem (nms gs)) h)):=by
 have hop:=ah5 hsh;have hnm:=ah4 hsh;have hc:h.op=12∨h.op=14∨h.op=1∨h.op=2∨h.op=3∨h.op=4∨h.op=5∨h.op=6∨h.op=7∨h.op=8∨h.op=9∨h.op=10∨h.op=11∨h.op=13∨h.op=15:=agH
 rcases hc with hc|hc|hc
 ·refine(az7 L p w aK aM aH aG j A fs gs v vs ve hI h b e s hin hj hA hfs hgs hc).mono (λe' w' hr=> ?_);have e1:CK 12 h fs=fs++[h.nm]:=by unfold CK;rw[hc];rfl
  have e2:CK 14 h gs=gs:=by unfold CK;rw[hc];rfl
  have e3:jG p j t.nm t0.nm (dA A) (mem (nms fs)) (mem (nms gs)) h=gF [dQ (mean p j h.nm) [8],nest (fG (dA A) [7,8,3]||(h.nm.toList==t.nm.toList||h.nm.toList==t0.nm.toList)),lg (mem (nms fs) h.nm.toList)]:=afe
  rw[e1,e2,e3,<- aZ8 qF hd hts];exact hr
 ·refine(az8 L p w aK aM aH aG j A fs gs v vs ve hI h b e s hin hj hA hfs hgs hc).mono (λe' w' hr=> ?_);have e1:CK 12 h fs=fs:=by unfold CK;rw[hc];rfl
  have e2:CK 14 h gs=gs++[h.nm]:=by unfold CK;rw[hc];rfl
  have e3:jG p j t.nm t0.nm (dA A) (mem (nms fs)) (mem (nms gs)) h=gF [dQ (mean p j h.nm) [7],nest (fG (dA A) [7,3]),lg (mem (nms gs) h.nm.toList),lU p j h.dP h.xn h.dO h.bJ]:=afe
  rw[e1,e2,e3,<- ba0];exact hr
 ·obtain⟨cO,bR,rfl,hat⟩:=hI.form;obtain⟨kr,je,rfl,-⟩:=hI.Vq;obtain⟨jK,jd,rfl,-⟩:=hI.Vp;have hp:=hI.dat.use hI.b0;have hin':=hin.use hI.b0;have hal:(dA A).len<=maxLen:=by rw[rW];exact hA
  have hh:=hI.holds;refine(az9 p w aK aM aH aG j cO bR L.bc kr _ je jK _ jd h b e (dA A) s hj hp hin' hal hat hh ?_).mono (λe' w' hr=>CJ.plain hI agK agK rfl hr);rcases hc with hc|hc|hc|hc|hc|hc|hc|hc|hc|hc|hc|hc|hc
  ·cases hix:h.idx with
   |nil=>exact .inl ⟨hc,rfl,Eq.symm (by rw[<- VG,<- vJ];unfold jG Ho;simp[hc,hix,bT.len])⟩
   |cons Ma n0 M8 BS FR=>exact .inr (.inl ⟨hc,_,_,_,_,_,rfl,Eq.symm (by have hne: ¬((FR.len:Int)+1=0):=agH;rw[<- nJ p j h.nm 3 2 agI rfl,<- Ej];unfold jG Ho ex1;simp[hc,hix,bT.len,hne])⟩)
  ·exact .inr (.inr (.inl ⟨hc,Eq.symm afe⟩))
  ·exact .inr (.inr (.inr (.inl ⟨hc,Eq.symm afe⟩)))
  ·exact .inr (.inr (.inr (.inr (.inl ⟨hc,Eq.symm (by rw[<- nJ p j h.nm 4 3 agI rfl,<- vJ,oC,Kn 4 h.nm (hnm agV)];unfold jG;simp[hc])⟩))))
  ·exact .inr (.inr (.inr (.inr (.inr (.inl ⟨hc,Eq.symm aaf⟩)))))
  ·exact .inr (.inr (.inr (.inr (.inr (.inr (.inl ⟨hc,Eq.symm aaf⟩))))))
  ·exact .inr (.inr (.inr (.inr (.inr (.inr (.inr (.inl ⟨hc,Eq.symm (by rw[oC];unfold jG;simp[hc])⟩)))))))
  ·exact .inr (.inr (.inr (.inr (.inr (.inr (.inr (.inr (.inl ⟨hc,Eq.symm (by rw[oC,oC,<- FJ];unfold jG;simp[hc])⟩))))))))
  ·exact .inr (.inr (.inr (.inr (.inr (.inr (.inr (.inr (.inr (.inl ⟨hc,Eq.symm adi⟩)))))))))
  ·exact .inr (.inr (.inr (.inr (.inr (.inr (.inr (.inr (.inr (.inr (.inl ⟨hc,Eq.symm adi⟩))))))))))
  ·exact .inr (.inr (.inr (.inr (.inr (.inr (.inr (.inr (.inr (.inr (.inr (.inl ⟨hc,Eq.symm adi⟩)))))))))))
  ·exact .inr (.inr (.inr (.inr (.inr (.inr (.inr (.inr (.inr (.inr (.inr (.inr (.inl ⟨hc,Eq.symm (by rw[aZ9 qF hd];unfold jG;simp[hc])⟩))))))))))))
  ·exact .inr (.inr (.inr (.inr (.inr (.inr (.inr (.inr (.inr (.inr (.inr (.inr (.inr ⟨hc,Eq.symm (by rw[<- nJ p j h.nm 1 8 agI rfl,<- nJ p j h.arg 7 6 agI rfl,oC,<- Ej];unfold jG;simp[hc])⟩))))))))))))
def aJ2 (w:World) (L:tF) (p:Pr) (aK aM:Option Addr) (aH aG:Nat) (i:Int) (A:List Fr) (v vs ve:Value) (r:Nq) (e:Ending) (w':World):Prop:=
 e= .returned (.tuple #[.int .i64 r.err,.int .i64 r.line])∧Kw L [v,vs,ve] w w'∧∃fs' gs' v' vs' ve',mJ w [v,vs,ve] [v',vs',ve']∧kE w' L p aK aM aH aG i A fs' gs' v' vs' ve'∧(r.err=0->nG (kS p) r.f∧nG (lI p) r.g∧nms fs'=r.f∧nms gs'=r.g)
def EP (L:tF) (p:Pr) (aK aM:Option Addr) (aH aG:Nat) (j:Nat) (t t0:Th) (l:aZ):Prop:=
 ∀(w:World) (ao:Option Addr) (cap:Nat) (A:List Fr) (fs gs:List ByteArray) (v vs ve:Value),l.len<=maxLen->l.At w L.B0 ao 0->gQ l=true->A.length<=6->nG (kS p) (nms fs)->nG (lI p) (nms gs)->kE w L p aK aM aH aG (j:Int) A fs gs v vs ve->
  Calls Tryz.prog 31 #[.pointer (some ⟨L.bc,0,none⟩),.slice ao l.len cap] w (aJ2 w L p aK aM aH aG (j:Int) A v vs ve (gX p j t.nm t0.nm l (dA A) (nms fs) (nms gs)))
theorem aL2 {p:Pr} {fs:List ByteArray} {n:Nat} (h:nG (kS p) (nms fs)) (hT:p.ts.length<=n):fs.length<=n:=by
 have:=h.le;rw[Jg]at this;unfold kS at this;rw[gH]at this;omega
theorem aL1 {p:Pr} {fs:List ByteArray} {n:Nat} (h:nG (lI p) (nms fs)) (hT:p.ds.length<=n):fs.length<=n:=by
 have:=h.le;rw[Jg]at this;unfold lI at this;rw[gH]at this;omega
theorem KN (L:tF) (p:Pr) (aK aM:Option Addr) (aH aG:Nat) (j:Nat) (t t0:Th) (r r0:List Th) (hd:p.ts.drop j=t::r) (hts:p.ts=t0::r0) (hj:bY (j:Int)) (hT:p.ts.length<=1000000000000) (hD:p.ds.length<=1000000000000) (qF:wC p.ds p.ts []=none) (hsd: ∀d∈p.ds,jw d=true) (l:aZ) (hall:l.All λ_ b e=>EP L p aK aM aH aG j t t0 b∧EP L p aK aM aH aG j t t0 e):EP L p aK aM aH aG j t t0 l:=by
 intro w ao cap A fs gs v vs ve hl hat hsh hA hf hg hI;generalize hres:gX p j t.nm t0.nm l (dA A) (nms fs) (nms gs)=res;have HR:=ah hres;have HAT:=ah hat;have jZ:=ah hall;have Cv:=ah hsh;have HF:=ah hf;have HG:=ah hg;have HI:=ah hI;have sJ:=ah qF;have yB:=ah hsd;have HTT:=ah hT;have Tg:=ah hD;have HD:=ah hd;have mg:=ah hts;unfold maxLen at hl;have HA:=ah hA;clear hres hat hall hf hg hI hA hsh qF hsd hT hD hd hts;go_enter Tryz.func31,Tryz.ntmps31;go_wp2_with fail;go_loopw [6,7,8,9] (λs _ _ _ wr=> ∃(k:Nat) (R:aZ) (f1 g1:List ByteArray) (v1 s1 e1:Value),s= .int .i64 k∧k+R.len=l.len∧res=gX p j t.nm t0.nm R (dA A) (nms f1) (nms g1)∧(R.All λ_ b e=>EP L p aK aM aH aG j t t0 b∧EP L p aK aM aH aG j t t0 e)∧R.At wr L.B0 ao k∧gQ R=true∧nG (kS p) (nms f1)∧nG (lI p) (nms g1)∧Kw L [v,vs,ve] w wr∧mJ w [v,vs,ve] [v1,s1,e1]∧kE wr L p aK aM aH aG (j:Int) A f1 g1 v1 s1 e1) (λs _ _ _ _=>l.len -(intOf s).toNat)
 case atStart=>exact⟨0,l,fs,gs,v,vs,ve,rfl,agJ,HR.o.symm,jZ.o,HAT.o,Cv.o,HF.o,HG.o,Kw.refl _ _ _,mJ.refl _ _,HI.o⟩
 case round=>
  obtain⟨k,R,f1,g1,v1,s1,e1,rfl,hlen,heq,hall,hrow,hsl,hf1,hg1,hKw,XO,hI⟩:=hrel;have HE:=ah heq;have HK:=ah hKw;have HO:=ah XO;have HSL:=ah hsl;clear heq hKw XO hsl;cases R with
  |nil=>
   obtain rfl:k=l.len:=aeY
   have HX:aj (aJ2 w L p aK aM aH aG (j:Int) A v vs ve res (.returned (.tuple #[.int .i64 0,.int .i64 0])) wr):=ah (by rw[HE.o];exact⟨rfl,HK.o,f1,g1,v1,s1,e1,HO.o,hI,λ_=>⟨hf1,hg1,rfl,rfl⟩⟩);clear hI hall hrow hf1 hg1 HE;go_wp2_with fail
   go_ret2
   exact HX.o
  |cons h b e R=>
   obtain⟨bl,off,s,rfl,hbl,hin,x0,x1,x2,x3,x4,x5,x6,x7,x8,x9,x10,hrest⟩:=aZ.At.aq7 hrow;have hkl:k<l.len:=acz
   obtain⟨kN,uO⟩:=hall;obtain⟨cO,bR,rfl,-⟩:=hI.form;have PV:=ah kN;have Zj:=ah uO;have Cn:=ah hf1;have qI:=ah hg1;have iA:=ah hin;have kL:=ah hrest;have Co:=ah hI;have lQ:aj (om h b.len e.len=true∧gQ b=true∧gQ e=true∧gQ R=true):=ah (by have:=HSL.o;unfold gQ at this;simp only[aP]at this;exact⟨this.1.1,this.1.2.1,this.1.2.2,this.2⟩);clear hrow hin kN uO hf1 hg1 hrest hI HSL;go_upto_region 5 with fail;generalize hW2:World.alloc wr _=W2;obtain⟨nb,hnb,zQ,-,xB,-⟩:=qD hW2;have HI2:=ah (Co.o.below zQ.o);have qJ:aj (Kw L [v,vs,ve] w W2):=ah (HK.o.trans HO.o (Kw.of_below zQ.o));have fC:aj (L.B1<=nb∧nb<W2.heap.size):=ah ⟨by rw[<- hnb];exact Co.o.sz,(aO xB.o)⟩;have PN:aj (¬Own [.slice cO A.length bR,s1,e1] nb):=ah (λe=>by have:=(Co.o.own _ e).2;omega);rw[hnb];clear hW2 hnb x0 x1 x2 x3 x4 x5 x6 x7 x8 x9 x10 hbl;have hA6:=HA.o;obtain⟨y0,y1,y2,y3,y4,y5,y6,y7,y8,y9,jD⟩:=Qu xB.o;go_wp2_with fail;refine(Zd L p W2 aK aM aH aG j A f1 g1 _ s1 e1 HI2.o h b e s (iA.o.below (zQ.o.mono Co.o.b0)) hj aeS (aL2 Cn.o HTT.o) (aL1 qI.o Tg.o) t t0 r r0 HD.o mg.o sJ.o yB.o lQ.o.1).mono ?_;rintro e' w3 ⟨rfl,hK3,f3,g3,s3,e3,hO3,CY,hq3⟩;have Ci:aj (w3.heap[nb]? =some (.cells (qg h b e s).toArray 74 (0,0))):=ah ((hK3.far fC.o.2 fC.o.1 PN.o).trans xB.o);have HI3:=ah CY;have JY:=ah hK3;have tY:aj (Kw L [v,vs,ve] w w3):=ah (qJ.o.trans HO.o hK3);have WL:aj (mJ w [v,vs,ve] [.slice cO A.length bR,s3,e3]):=ah (HO.o.trans hO3 qJ.o.size);have ZA:aj (¬Own [.slice cO A.length bR,s3,e3] nb):=ah (hO3.ne fC.o.2 PN.o);have WQ:=ah hq3;have FH:nb<w3.heap.size:=(aO Ci.o);clear hK3 CY hO3 hq3 y0 y1 y2 y3 y4 y5 y6 y7 y8 y9 jD;obtain⟨y0,y1,y2,y3,y4,y5,y6,y7,y8,y9,jD⟩:=Qu Ci.o;have c3:w3.cell? ⟨L.bc,3,none⟩=some (.slice cO A.length bR):=(eX HI3.o.blk (j:=3) rfl).2;by_cases QJ:A.length=6
   ·have HX:aj (res=⟨2,h.line,nms f1,nms g1⟩):=ah (HE.o.trans adZ);rw[QJ]at c3;clear hA6;go_wp2_with fail;go_quiet (fail);go_wp2_with fail
    go_ret2
    refine⟨qG aha aha,tY.o.trans (mJ.refl _ _) (Kw.of_below (below_drewN (au _ _) _)),f3,g3,_,s3,e3,WL.o,HI3.o.below (below_drewN (au _ _) _),λh0=> ?_⟩;rw[HX.o]at h0;cases h0
   ·have hA':A.length<6:=agH;have hdec:decide (6<(A.length:Int)+1)=false:=adf;have EB:aj (jG p j t.nm t0.nm (dA A) (mem (nms f1)) (mem (nms g1)) h=0->nG (kS p) (fL 12 h (nms f1))∧nG (lI p) (fL 14 h (nms g1))):=ah (λh0=>⟨ap5 Cn.o h0,ap6 qI.o h0⟩);have HU:aj (res=if jG p j t.nm t0.nm (dA A) (mem (nms f1)) (mem (nms g1)) h != 0 then⟨jG p j t.nm t0.nm (dA A) (mem (nms f1)) (mem (nms g1)) h,h.line,nms f1,nms g1⟩else TV p j t.nm t0.nm b e R (dA A) ((dA A).app (.cons h b e .nil)) 0 (fL 12 h (nms f1)) (fL 14 h (nms g1))):=ah (HE.o.trans abw);clear HE QJ;generalize jG p j t.nm t0.nm (dA A) (mem (nms f1)) (mem (nms g1)) h=x at *;cases hx:(x != 0)
    case true=>
     have HX:aj (res=⟨x,h.line,nms f1,nms g1⟩):=ah (HU.o.trans (by rw[hx];rfl));have HX0:aj (x≠0):=ah agZ;clear HU EB;go_wp2_with fail;go_quiet (fail);go_wp2_with fail
     go_ret2
     refine⟨qG aha aha,tY.o.trans (mJ.refl _ _) (Kw.of_below (below_drewN (au _ _) _)),f3,g3,_,s3,e3,WL.o,HI3.o.below (below_drewN (au _ _) _),λh0=> ?_⟩;rw[HX.o]at h0;exact(HX0.o h0).elim
    have HT:aj (res=aK2 p j t.nm t0.nm b e R (dA A) ((dA A).app (.cons h b e .nil)) (nms f3) (nms g3)):=ah (HU.o.trans (by rw[hx,(WQ.o agZ).1,(WQ.o agZ).2,Jf,Jf];rfl));have yu:aj (nG (kS p) (nms f3)∧nG (lI p) (nms g3)):=ah (by rw[(WQ.o agZ).1,(WQ.o agZ).2,Jf,Jf];exact EB.o agZ);clear HU EB WQ;go_upto_region 10 with fail;obtain⟨Y0,Y1,Y2,Y3,Y4,Y5,Y6,Y7,Y8,Y9,Bv⟩:=MO FH y0 y1 y2 y3 y4 y5 y6 y7 y8 y9 jD;have L3:=lG acg c3;clear y0 y1 y2 y3 y4 y5 y6 y7 y8 y9 jD c3 hdec;refine eu agG rfl ?_;refine dD 0 7 [] [[],[0],[0,1],[0,1,2],[],[0,1,2,3],[],[0,1,2,3,4,5,6],[0,1,2,3,4,5,6,7],[0,1,2,3,4,5,6,7,8],[0,1,2,3,4,5,6,7],[0,1,2,3,4,5,6,7,10],[0,1,2,3,4,5,6,7,10,11]] [[],[],[],[],[],[],[]] (λ_ w'=>Below w3.heap.size w3 w') (λw w'=>Below w.heap.size w w') [35,36,37,38,39,40,41] rfl rfl ahS agG agG agG agG agG ahS (λ_=>au _ _) ahS (below_drewN (au _ _) 1) ?_;simp only[jH,nY]
    iterate 6
     apply bZ.step
     case bL=>intro c A w' hok hC hO hD;have e0:=hO 0 ahS;have e7:=hO 7 ahS;simp[Act.eval]at e0 e7;simp[Act.eval]at hD;simp[go_sem,gd,Oper.wp,hD,e0,e7,L3,hC,Y0,Y1,Y2,Y3,Y4,Y5,Y6,Y7,Y8,Y9,Bv];exact AaH
    refine bZ.some (λv w'=> ∃bb,v= .slice (some ⟨bb,0,none⟩) 1 1∧w'.heap[bb]? =some (.cells Zf 74 (0,0))) ?_ ?_ ?_
    ·rintro v w w' hle ⟨bb,rfl,hbb⟩;exact⟨bb,rfl,(hle.block bb (aO hbb)).trans hbb⟩
    ·intro c A w' hok hC hO hD;simp[go_sem,gd,Oper.wp];exact aV.mk (d:=_) (v:= .slice (some ⟨_,0,none⟩) 1 1) (ak _ _) (hC.trans ((ak _ _).mono hC.size)) ⟨_,rfl,heap_alloc_new _ _⟩
    try simp only[dY]
    refine bZ.done ?_;intro wz dL;simp only[List.drop_zero];intro v0 h0 v1 h1 v2 h2 v3 h3 v4 h4 v5 h5 v6 h6;have h0':v0=_:=h0;have h1':v1=_:=h1;have h2':v2=_:=h2;have h3':v3=_:=h3;have h4':v4=_:=h4;have h5':v5=_:=h5;subst h0' h1' h2' h3' h4' h5';obtain⟨bb,rfl,hbb⟩:=h6;clear h0 h1 h2 h3 h4 h5;refine eO.nil ?_;go_simp;refine dZ 7 [[],[0],[0,1],[0,1,2],[],[0,1,2,3],[],[0,1,2,3,4,5,6],[0,1,2,3,4,5,6,7],[0,1,2,3,4,5,6,7,8],[0,1,2,3,4,5,6,7],[0,1,2,3,4,5,6,7,10],[0,1,2,3,4,5,6,7,10,11]] rfl rfl rfl rfl rfl agG agG agG ?_;obtain⟨i0,hi0,hz0,hz1,hz2⟩:=Uz;have Cq:=ah (HI3.o.below dL);refine wp_append_lies wz _ _ _ ahS L.B1 74 i0 _ 11 176 Tryz.underlying57 hi0 hz0 hz1 hz2 ahS agH (.slice cO A.length bR) A.length (BF A) ahS Cq.o.row ⟨bb,0,none⟩ 1 1 Zf.toList ahS ahS (World.news_of_block hbb) agI agH aeS agH Cq.o.sz wz.heap.size rfl ?_;intro g' cap' w4 tL qx vM D7;clear hi0 hz0 hz1 hz2 hbb Y0 Y1 Y2 Y3 Y4 Y5 Y6 Y7 Y8 Y9 Bv L3;have Zv:aj (uJ w3 L.B0 h b e s):=ah (iA.o.below ((zQ.o.mono Co.o.b0).trans (JY.o.below HI2.o.b0 (λk e=>(HI2.o.own k e).1))));have yY:=ah (HI3.o.push ⟨h,b,e,s⟩ Zv.o dL tL qx vM);have hgb:=(tL.lt g' rfl).1;have dR:aj (w4.heap[L.bc]? =some (.cells (wkV p aK aM aH aG (j:Int) (.slice cO A.length bR) s3 e3) 100 (0,0))):=ah ((qx.block _ (aO Cq.o.blk) (λe'=>Cq.o.MN (u:= .slice cO A.length bR) agJ e'.symm)).trans Cq.o.blk);have aG3:=ah (Mc tL);have FE:g'≠L.bc:=afU;clear tL qx vM D7 hgb;go_simp;refine dD 8 13 [9,12] [[],[0],[0,1],[0,1,2],[],[0,1,2,3],[],[0,1,2,3,4,5,6],[0,1,2,3,4,5,6,7],[0,1,2,3,4,5,6,7,8],[0,1,2,3,4,5,6,7],[0,1,2,3,4,5,6,7,10],[0,1,2,3,4,5,6,7,10,11]] [[some false,none],[some false,none],[none,some false],[none,some false],[none,some false]] (PC w4 g' (A.length*11) (qg h b e s) ⟨L.bc,3,none⟩ (.slice (some ⟨g',0,none⟩) (A.length+1) cap')) (λ_ _=>True) [43,44,45] rfl rfl ahS agG agG agG agG agG ahS (λ_=>trivial) ahS rfl ?_;simp only[jH,nY];have U7:(0:Int)<=(A.length:Int):=agH;have hA1:(A.length:Int)<(A.length:Int)+1:=agH;apply bZ.step
    case bL=>intro c A w' hok hC hO hD;have e42:=hO 42 ahS;have e40:=hO 40 ahS;simp[Act.eval]at e42 e40;simp[Act.eval]at hD;simp[go_sem,gd,Oper.wp,hD,e42,e40,hA1];exact aV.mk trivial (PC.skip ahS ahS hC) (cB.mk _ _)
    refine bZ.some (λ_ _=>True) (λ_ _ _ _ _=>trivial) ?_ ?_
    ·intro c A' w' hok hC hO hD;obtain⟨x,y,rfl⟩:=hC.bits;obtain⟨rfl,-⟩:=hok;have e39:=hO 39 ahS;simp[Act.eval]at hD;simp only[gd,if_true];refine wp_store_mid _ _ _ ahS g' (A.length*11) (qg h b e s).toArray afp (e39.trans ahS) (F8 aG3.o (hC.TY FE)) UA (by simp[qg,Value.oneCell']) ?_;exact aV.DY trivial (PC.elt FE ahS ahS hC) trivial
    try simp only[dY]
    iterate 2
     apply bZ.step
     case bL=>intro c A w' hok hC hO hD;have e35:=hO 35 ahS;simp[Act.eval]at e35;simp[Act.eval]at hD;simp[go_sem,gd,Oper.wp,hD,e35];exact aV.mk trivial (PC.skip ahS ahS hC) (cB.mk _ _)
    refine bZ.some (λ_ _=>True) (λ_ _ _ _ _=>trivial) ?_ ?_
    ·intro c A' w' hok hC hO hD;obtain⟨x,y,rfl⟩:=hC.bits;obtain⟨rfl,-⟩:=hok;have e42:=hO 42 ahS;simp[Act.eval]at e42;simp[Act.eval]at hD;have hbk0:w'.heap[L.bc]? =w4.heap[L.bc]?:=PC.U3 (a:=⟨L.bc,3,none⟩) FE hC (aO dR.o);have hbk:=hbk0.trans dR.o;have hcl:w'.cell? ⟨L.bc,3,none⟩=some (.slice cO A.length bR):=(eX hbk (j:=3) rfl).2;have hfr:w'.frozen? ⟨L.bc,3,none⟩=false:=bK hbk;simp[go_sem,gd,Oper.wp,hD,e42,hcl,hfr];exact aV.DY (v:=undef) trivial (PC.fld ahS ahS hC) trivial
    simp only[List.nil_append,List.cons_append,List.drop_succ_cons,List.drop_zero];refine bZ.done ?_;intro w5 XK;simp only[List.drop_succ_cons,List.drop_zero];intro v0 h0 v1 h1 v2 h2 v3 h3 v4 h4;clear h0 h1 h2 h3 h4;refine eO.nil ?_;refine fU rfl ?_;have tZ:aj (w5=(w4.setCells g' (A.length*11) (qg h b e s)).setCell ⟨L.bc,3,none⟩ (.slice (some ⟨g',0,none⟩) (A.length+1) cap')):=ah XK;rw[<- tZ.o]at yY;have gL:=ah yY.o.1;have JZ:=ah yY.o.2.1;have Mx:=ah yY.o.2.2;have Tq:aj (Kw L [v,vs,ve] w w5):=ah (tY.o.trans WL.o yY.o.2.1);have Tv:aj (mJ w [v,vs,ve] [.slice (some ⟨g',0,none⟩) (A.length+1) cap',s3,e3]):=ah (WL.o.trans yY.o.2.2 tY.o.size);have MB:aj (¬Own [.slice (some ⟨g',0,none⟩) (A.length+1) cap',s3,e3] nb):=ah (Mx.o.ne FH ZA.o);have Gx:aj (w5.heap[nb]? =some (.cells (qg h b e s).toArray 74 (0,0))):=ah ((JZ.o.far FH fC.o.1 ZA.o).trans Ci.o);have Zm:=ah (JZ.o.below HI3.o.b0 (λk e=>(HI3.o.own k e).1));have Jv:aj (aZ.At w5 L.B0 R (some ⟨bl,off,none⟩) (k+1)):=ah (kL.o.below (((zQ.o.mono Co.o.b0).trans (JY.o.below HI2.o.b0 (λk e=>(HI2.o.own k e).1))).trans Zm.o));have Zu:=ah (Zv.o.below Zm.o);have kI:aj (b.len<=maxLen∧e.len<=maxLen):=ah iA.o.1.2.2.2.2.2.2;have ac1:nb<w5.heap.size:=(aO Gx.o);obtain⟨-,-,-,-,-,-,-,-,-,y9,jD⟩:=Qu Gx.o;clear XK tZ yY aG3 dR U7 hA1 FE;clear hx FH Cq dL HI3 tY JY Ci JZ Mx PN HI2 qJ xB zQ Co iA Zv kL HO HK Cn qI HF HG HI HAT WL ZA Zm;go_simp;have Nv:aj (res=if(gX p j t.nm t0.nm b (dA (A++[⟨h,b,e,s⟩])) (nms f3) (nms g3)).err != 0 then gX p j t.nm t0.nm b (dA (A++[⟨h,b,e,s⟩])) (nms f3) (nms g3)else Qz p j t.nm t0.nm e R (dA A) (dA (A++[⟨h,b,e,s⟩])) (gX p j t.nm t0.nm b (dA (A++[⟨h,b,e,s⟩])) (nms f3) (nms g3)).f (gX p j t.nm t0.nm b (dA (A++[⟨h,b,e,s⟩])) (nms f3) (nms g3)).g):=ah (by rw[Ae];exact HT.o);clear HT;go_wp2_with fail;refine(PV.o.1 _ s.dB s.cu (A++[⟨h,b,e,s⟩]) f3 g3 _ s3 e3 kI.o.1 Zu.o.2.2.2.1 lQ.o.2.1 agK yu.o.1 yu.o.2 gL.o).mono ?_;rintro e' w6 ⟨rfl,QL,f6,g6,v6,s6,e6,U9,LH,hq6⟩;generalize gX p j t.nm t0.nm b (dA (A++[⟨h,b,e,s⟩])) (nms f3) (nms g3)=r1 at *;have Zn:=ah (QL.below gL.o.b0 (λk e=>(gL.o.own k e).1));have GJ:aj (Kw L [v,vs,ve] w w6):=ah (Tq.o.trans Tv.o QL);have GK:aj (mJ w [v,vs,ve] [v6,s6,e6]):=ah (Tv.o.trans U9 Tq.o.size);have ME:aj (¬Own [v6,s6,e6] nb):=ah (U9.ne ac1 MB.o);have Ed:aj (w6.heap[nb]? =some (.cells (qg h b e s).toArray 74 (0,0))):=ah ((QL.far ac1 fC.o.1 MB.o).trans Gx.o);have uH:=ah (Jv.o.below Zn.o);have aD2:=ah (Zu.o.below Zn.o);have sG:=ah LH;have HQ6:=ah hq6;clear QL U9 LH hq6 Zn Tq Tv MB Gx Jv Zu gL ac1 y9 jD yu;obtain⟨-,-,-,-,-,-,-,-,-,y9,jD⟩:=Qu Ed.o
    go_upto_if 54 with fail
    go_cut [8,9] (λs8 s9 W7=> ∃(r2:Nq) (f7 g7:List ByteArray) (v7 s7 e7:Value),s8= .int .i64 r2.err∧s9= .int .i64 r2.line∧(res=if r2.err != 0 then r2 else gX p j t.nm t0.nm R (dA A) r2.f r2.g)∧Kw L [v,vs,ve] w W7∧mJ w [v,vs,ve] [v7,s7,e7]∧R.At W7 L.B0 (some ⟨bl,off,none⟩) (k+1)∧kE W7 L p aK aM aH aG (j:Int) (A++[⟨h,b,e,s⟩]) f7 g7 v7 s7 e7∧(r2.err=0->nG (kS p) r2.f∧nG (lI p) r2.g∧nms f7=r2.f∧nms g7=r2.g))
    case first=>
     cases hr1:(r1.err==0)
     ·have EF:aj (res=if r1.err != 0 then r1 else gX p j t.nm t0.nm R (dA A) r1.f r1.g):=ah (by have hb:(r1.err != 0)=true:=afh;rw[hb];exact Nv.o.trans (by rw[hb];rfl));clear Nv;go_wp2_with fail;go_meet;exact⟨r1,f6,g6,v6,s6,e6,rfl,rfl,EF.o,GJ.o,GK.o,uH.o,sG.o,HQ6.o⟩
     ·have hr0:r1.err=0:=afh;have yu:=ah (HQ6.o hr0);have EF:aj (res=Qz p j t.nm t0.nm e R (dA A) (dA (A++[⟨h,b,e,s⟩])) (nms f6) (nms g6)):=ah (Nv.o.trans (by rw[hr0,yu.o.2.2.1,yu.o.2.2.2];rfl));have bO8:nb<w6.heap.size:=(aO Ed.o);clear Nv HQ6 hr0;go_wp2_with fail;refine(PV.o.2 _ s.iD s.gu (A++[⟨h,b,e,s⟩]) f6 g6 v6 s6 e6 kI.o.2 aD2.o.2.2.2.2 lQ.o.2.2.1 agK (by rw[yu.o.2.2.1];exact yu.o.1) (by rw[yu.o.2.2.2];exact yu.o.2.1) sG.o).mono ?_;rintro e' w7 ⟨rfl,BH,f7,g7,v7,s7,e7,Ik,DN,Io⟩;have oV:aj (res=if(gX p j t.nm t0.nm e (dA (A++[⟨h,b,e,s⟩])) (nms f6) (nms g6)).err != 0 then gX p j t.nm t0.nm e (dA (A++[⟨h,b,e,s⟩])) (nms f6) (nms g6)else gX p j t.nm t0.nm R (dA A) (gX p j t.nm t0.nm e (dA (A++[⟨h,b,e,s⟩])) (nms f6) (nms g6)).f (gX p j t.nm t0.nm e (dA (A++[⟨h,b,e,s⟩])) (nms f6) (nms g6)).g):=ah EF.o;generalize gX p j t.nm t0.nm e (dA (A++[⟨h,b,e,s⟩])) (nms f6) (nms g6)=r2 at *;have bo9:=ah (BH.below sG.o.b0 (λk e=>(sG.o.own k e).1));have Jq:aj (Kw L [v,vs,ve] w w7):=ah (GJ.o.trans GK.o BH);have WM:aj (mJ w [v,vs,ve] [v7,s7,e7]):=ah (GK.o.trans Ik GJ.o.size);have kD:=ah (uH.o.below bo9.o);have Jp:=ah DN;have Cu:=ah Io;clear BH Ik DN Io EF y9 jD;go_wp2_with fail;go_meet;exact⟨r2,f7,g7,v7,s7,e7,rfl,rfl,oV.o,Jq.o,WM.o,kD.o,Jp.o,Cu.o⟩
    obtain⟨r2,f7,g7,v7,s7,e7,rfl,rfl,hX,BH,Ik,hR7,DN,Io⟩:=hcut;obtain⟨W7,rfl⟩: ∃W:World,W=wc:=⟨_,rfl⟩;have HX:=ah hX;have Jq:=ah BH;have WM:=ah Ik;have kD:=ah hR7;have Jp:=ah DN;have Cu:=ah Io;clear hX BH Ik hR7 DN Io y9 jD Nv GJ GK ME Ed uH aD2 sG HQ6;obtain⟨g9,Hu,rfl,hc9⟩: ∃g9 Hu,v7= .slice (some ⟨g9,0,none⟩) (A.length+1) Hu∧A.length+1<=Hu:=by
     rcases Jp.o.row.2 with⟨-,hn⟩|⟨g',cap,cur,e',-,-,hcc,-⟩
     ·simp at hn
     ·exact⟨g',cap,by rw[e'];simp,by simpa using hcc⟩
    have hcl:=lG (x:= .slice (some ⟨g9,0,none⟩) (A.length+1) Hu) (by have:=Jp.o.sz;have:=L.c1;show L.bc<_;omega) (eX Jp.o.blk (j:=3) rfl).2;have hz1:(0:Int)<=(A.length:Int):=agH;have hz2:(A.length:Int)<=(Hu:Int):=agH;have hwr:IntKind.i64.wrap (A.length:Int)=(A.length:Int):=IntWalk.i64_in _ agH;have FI:(A.length:Int)+1 -1=(A.length:Int):=agH;go_upto_region 14 with fail;refine eu agG rfl ?_;refine dD 0 14 [] [[],[],[1],[1,2],[1,2,3],[],[5],[5,6],[5,6,7],[5,6,7,8],[5,6,7,8,9],[1,2,3,4,5,6,7,8,9,10],[0,1,2,3,4,5,6,7,8,9,10,11],[0,1,2,3,4,5,6,7,8,9,10,11,12],[0,1,2,3,4,5,6,7,8,9,10,11,12,13]] [[],[],[],[],[],[],[],[],[],[],[],[],[],[]] (λ_ w'=>Below W7.heap.size W7 w') (λw w'=>Below w.heap.size w w') [62,63,64,65,66,67,68,69,70,71,72,73,74,75] rfl rfl ahS agG agG agG agG agG ahS (λ_=>au _ _) ahS (below_drewN (au _ _) 1) ?_;simp only[jH,nY]
    iterate 14
     apply bZ.step
     case bL=>intro c A w' hok hC hO hD;have e0:=hO 0 ahS;simp[Act.eval]at e0;simp[Act.eval]at hD;simp[go_sem,gd,Oper.wp,hD,e0,hcl,hC,FI,hwr,hz1,hz2];exact AaH
     try simp only[dY]
    try simp only[dY]
    refine bZ.done ?_;intro wz dL;simp only[List.drop_zero];intro v0 h0 v1 h1 v2 h2 v3 h3 v4 h4 v5 h5 v6 h6 v7 h7 v8 h8 v9 h9 v10 h10 v11 h11 v12 h12 v13 AO;have QI:v11=_:=h11;have ab5:v13=_:=AO;subst QI ab5;clear h0 h1 h2 h3 h4 h5 h6 h7 h8 h9 h10 h11 h12 AO;refine eO.nil ?_;go_simp;have NM:=ah (kE.pop ⟨h,b,e,s⟩ Jp.o dL);have hclz:wz.cell? ⟨L.bc,3,none⟩=some (.slice (some ⟨g9,0,none⟩) (A.length+1) Hu):=hcl wz dL;have QS:wz.frozen? ⟨L.bc,3,none⟩=false:=bK ((Jp.o.below dL).blk);clear hcl FI hwr;refine dZ 14 [[],[],[1],[1,2],[1,2,3],[],[5],[5,6],[5,6,7],[5,6,7,8],[5,6,7,8,9],[1,2,3,4,5,6,7,8,9,10],[0,1,2,3,4,5,6,7,8,9,10,11],[0,1,2,3,4,5,6,7,8,9,10,11,12],[0,1,2,3,4,5,6,7,8,9,10,11,12,13]] rfl rfl rfl rfl rfl agG agG agG ?_;simp[go_sem,Oper.wp,hclz,QS];refine fU rfl ?_;clear hclz QS dL;go_simp;have HK8:=ah (Jq.o.trans WM.o NM.o.2);have HO8:aj (mJ w [v,vs,ve] [.slice (some ⟨g9,0,none⟩) A.length Hu,s7,e7]):=ah (λk hk=>WM.o k (by
     rcases vU.1 hk with e|e|e
     ·exact vU.2 (.inl e)
     ·exact vU.2 (.inr (.inl e))
     ·exact vU.2 (.inr (.inr e))))
    have Dr:=ah (kD.o.below (NM.o.2.below Jp.o.b0 (λk e=>(Jp.o.own k e).1)));have HI8:=ah NM.o.1;clear NM Jq WM kD Jp;cases hr2:(r2.err != 0)
    ·have Q0:aj (res=gX p j t.nm t0.nm R (dA A) (nms f7) (nms g7)):=ah (HX.o.trans (by rw[hr2,(Cu.o afX).2.2.1,(Cu.o afX).2.2.2];rfl));have yu:aj (nG (kS p) (nms f7)∧nG (lI p) (nms g7)):=ah (by have:=Cu.o afX;rw[this.2.2.1,this.2.2.2];exact⟨this.1,this.2.1⟩);clear HX Cu;go_wp2_with fail;go_roundw
     case rel=>exact⟨k+1,R,f7,g7,_,s7,e7,agL,acz,Q0.o,Zj.o,Dr.o,lQ.o.2.2.2,yu.o.1,yu.o.2,HK8.o,HO8.o,HI8.o⟩
     case measure=>simp[intOf];omega
    ·have Q0:aj (res=r2):=ah (HX.o.trans (if_pos hr2));have HX0:aj (r2.err≠0):=ah afX;clear HX Cu;go_wp2_with fail
     go_ret2
     refine⟨qG (by rw[Q0.o];rfl) (by rw[Q0.o];rfl),HK8.o,f7,g7,_,s7,e7,HO8.o,HI8.o,λh0=> ?_⟩;rw[Q0.o]at h0;exact(HX0.o h0).elim
theorem Zc (L:tF) (p:Pr) (aK aM:Option Addr) (aH aG:Nat) (j:Nat) (t t0:Th) (r r0:List Th) (hd:p.ts.drop j=t::r) (hts:p.ts=t0::r0) (hj:bY (j:Int)) (hT:p.ts.length<=1000000000000) (hD:p.ds.length<=1000000000000) (qF:wC p.ds p.ts []=none) (hsd: ∀d∈p.ds,jw d=true) (l:aZ):EP L p aK aM aH aG j t t0 l:=
 KN L p aK aM aH aG j t t0 r r0 hd hts hj hT hD qF hsd l (aZ.nQ (λ_ b e hb he=>⟨KN L p aK aM aH aG j t t0 r r0 hd hts hj hT hD qF hsd b hb,KN L p aK aM aH aG j t t0 r r0 hd hts hj hT hD qF hsd e he⟩) l)
namespace Md
theorem YW {p:Pr} (h:(lM p).1=0):wC p.ds p.ts []=none:=by
 unfold lM at h;split at h
 ·simp at h
 ·rename_i h';exact h'
end Md
theorem aA0 {p:Pr} {w W:World} {aK aM:Option Addr} {aH aG n:Nat} (hn:w.heap.size=n) (hp:p.At w aK aM)
 (hW:w.alloc (.cells #[.slice aK p.ds.length aH,.slice aM p.ts.length aG,.int .i64 0,.slice none 0 0,.slice none 0 0,.slice none 0 0] 100)=W):
 kE W ⟨n,n+1,n,aB _,Nat.lt_succ_self _⟩ p aK aM aH aG 0 [] [] [] (.slice none 0 0) (.slice none 0 0) (.slice none 0 0)∧Below w.heap.size w W:=by
 subst hn;have hb:Below w.heap.size w W:=aeW
 refine⟨{blk:=acA,row:=World.ownsRow_nil _ _ _ _,rs:=World.ownsRow_nil _ _ _ _,re:=World.ownsRow_nil _ _ _ _,d1:=ada,d2:=ada,d3:=ada,sz:=by rw[<- hW];simp,dat:=⟨hp.1,hp.2.1,hp.2.2.1.below hb,hp.2.2.2.below hb⟩,qw:=afO,fo:=afO,go:=afO},hb⟩
theorem EK (p:Pr) (w:World) (aK aM:Option Addr) (aH aG:Nat) (hp:p.At w aK aM) (Gh:p.ds.length<=aH) (JM:p.ts.length<=aG):
 Calls Tryz.prog 9 #[.agg #[.slice aK p.ds.length aH,.slice aM p.ts.length aG]] w λe w'=>e= .returned (.tuple #[.int .i64 (ko p).1,.int .i64 (ko p).2])∧Below w.heap.size w w':=by
 have HS:aj (ko p=if !rE p then(3,0)else if(mK p.ds [] 0 0 0 0).1 != 0 then mK p.ds [] 0 0 0 0 else
  if decide ((4:Int)<p.ts.length)then(2,0)else if(lM p).1 != 0 then lM p else
  if decide (60<tJ p.ts 0)then(2,0)else((jA p (kH p) p.ts 0 [] []).err,(jA p (kH p) p.ts 0 [] []).line)):=ah rfl
 generalize ko p=res at *;have hld:=hp.1;have hlt:=hp.2.1;unfold maxLen at hld hlt;have HP:=ah hp;have HCD:=ah Gh;have HCT:=ah JM;clear hp Gh JM;go_enter Tryz.func9,Tryz.ntmps9;go_upto_region 1 with fail;generalize hW:World.alloc w _=W;generalize Value.agg #[_,_]=a0;have HX:=ah ((Sit.start w).xV rfl (.slice aK p.ds.length aH) (.slice aM p.ts.length aG) 35);rw[hW]at HX;clear hW;obtain⟨-,⟨-,c0⟩,⟨-,c1⟩,-⟩:=HX.o;go_wp2_with fail;refine(OO p _ aK aM aH aG (HP.o.same HX.o.1)).mono ?_;rintro e w1 ⟨rfl,hb1⟩;have HY:=ah (HX.o.next hb1);clear HX hb1 c0 c1;obtain⟨-,⟨-,c0⟩,⟨-,c1⟩,-⟩:=HY.o;have Cv:aj (rE p=true->(∀d∈p.ds,jw d=true)∧(∀t∈p.ts,gQ t.body=true)∧∃t0 r0,p.ts=t0::r0):=ah (λh=>by
  unfold rE at h;simp only[aP,List.all_eq_true,decide_eq_true_eq]at h;refine⟨h.1.1,λt ht=> ?_,?_⟩
  ·have:=h.1.2 t ht;unfold pO at this;simp only[aP]at this;exact this.2
  ·cases hts:p.ts with
   |nil=>rw[hts]at h;simp at h
   |cons a b=>exact⟨a,b,rfl⟩)
 cases hS:rE p
 ·have HE:aj (res=(3,0)):=ah (HS.o.trans ahK);clear Cv;go_wp2_with fail
  go_ret2
  exact⟨qG ahb ahb,HY.o.1⟩
 ·have HE:aj (res=if(mK p.ds [] 0 0 0 0).1 != 0 then mK p.ds [] 0 0 0 0 else
   if decide ((4:Int)<p.ts.length)then(2,0)else if(lM p).1 != 0 then lM p else
   if decide (60<tJ p.ts 0)then(2,0)else((jA p (kH p) p.ts 0 [] []).err,(jA p (kH p) p.ts 0 [] []).line)):=ah (HS.o.trans ahK)
  have yB:=ah (Cv.o hS);have Cm:aj ((mK p.ds [] 0 0 0 0).1=0->p.ds.length<=1000000000000):=ah (λh0=>abR);clear HS Cv;go_wp2_with fail;refine(Qj p.ds _ aK aH HP.o.1 HCD.o ((HP.o.same HY.o.1).2.2.1) yB.o.1).mono ?_;rintro e w2 ⟨rfl,hb2⟩;have HZ:=ah (HY.o.next hb2);clear HY hb2 c0 c1;obtain⟨-,⟨-,c0⟩,⟨-,c1⟩,-⟩:=HZ.o;generalize mK p.ds [] 0 0 0 0=dd at *;cases h1:(dd.1 != 0)
  case true=>
   have dG:aj (res=dd):=ah (HE.o.trans (if_pos h1));clear HE yB Cm;go_wp2_with fail
   go_ret2
   exact⟨qG agN agN,HZ.o.1⟩
  have G5:aj (res=if decide ((4:Int)<p.ts.length)then(2,0)else if(lM p).1 != 0 then lM p else
   if decide (60<tJ p.ts 0)then(2,0)else((jA p (kH p) p.ts 0 [] []).err,(jA p (kH p) p.ts 0 [] []).line)):=ah (HE.o.trans (if_neg agW))
  have bp3:=ah (Cm.o agO);clear HE Cm;by_cases h4:(4:Int)<(p.ts.length:Int)
  ·have dG:aj (res=(2,0)):=ah (G5.o.trans (if_pos ahr));clear G5 yB;go_wp2_with fail
   go_ret2
   exact⟨qG agN agN,HZ.o.1⟩
  have HE2:aj (res=if(lM p).1 != 0 then lM p else
   if decide (60<tJ p.ts 0)then(2,0)else((jA p (kH p) p.ts 0 [] []).err,(jA p (kH p) p.ts 0 [] []).line)):=ah (G5.o.trans (if_neg ahr))
  have h4':(p.ts.length:Int)<=4:=agH
  have EC:aj (p.ts.length<=4):=ah agH;have HTZ:=ah (YW (p:=p));clear G5;go_wp2_with fail;refine(MH p _ aK aM aH aG (HP.o.same HZ.o.1) HCT.o).mono ?_;rintro e w3 ⟨rfl,hb3⟩;have HV:=ah (HZ.o.next hb3);clear HZ hb3 c0 c1 h1;obtain⟨-,⟨-,c0⟩,⟨-,c1⟩,-⟩:=HV.o;generalize lM p=tt at *;cases h2:(tt.1 != 0)
  case true=>
   have dG:aj (res=tt):=ah (HE2.o.trans (if_pos h2));clear HE2 yB HTZ;go_wp2_with fail
   go_ret2
   exact⟨qG agN agN,HV.o.1⟩
  have kU:aj (res=if decide (60<tJ p.ts 0)then(2,0)else((jA p (kH p) p.ts 0 [] []).err,(jA p (kH p) p.ts 0 [] []).line)):=ah (HE2.o.trans (if_neg ahl));have HTN:=ah (HTZ.o agQ);clear HE2 HTZ;have qF:=(HP.o.same HV.o.1).2.2.2;go_wp2_with fail;go_loopw [8,9] (λs8 s wr=> ∃(k:Nat) (R:List Th) (n:Int),s= .int .i64 k∧s8= .int .i64 n∧k+R.length=p.ts.length∧tJ p.ts 0=tJ R n∧iG wr wr.heap.size R aM k∧Sit w wr [(w.heap.size,0,(.slice aK p.ds.length aH)),(w.heap.size,1,(.slice aM p.ts.length aG))]) (λ_ s _=>p.ts.length -(intOf s).toNat)
  case atStart=>exact⟨0,p.ts,0,rfl,rfl,agJ,rfl,qF,HV.o⟩
  case round=>
   obtain⟨k,R,n,rfl,rfl,hlen,heq,hrow,hsit⟩:=hrel;have HU:=ah hsit;have HQ:=ah heq;clear hsit HV c0 c1 qF heq h2;obtain⟨-,⟨-,c0⟩,⟨-,c1⟩,-⟩:=HU.o;cases R with
   |cons t R=>
    obtain⟨⟨b,off,iU,eU,dB,cu,rfl,hB,x0,x1,x2,x3,hok,htx,hst,hcl⟩,hrest⟩:=hrow;simp only[aD]at hlen;have hkl:k<p.ts.length:=agH;have kK:=ah hok;have HST:=ah hst;clear hok htx hst hcl;go_wp2_with fail;refine(Qi t.body _ dB cu kK.o.2.2.2 HST.o).mono ?_;rintro e' w4 ⟨rfl,hb4⟩;have kg:=ah hb4;clear hb4 c0 c1 x0 x1 x2 x3;go_wp2_with fail;go_roundw
    case rel=>exact⟨k+1,R,_,agL,rfl,agH,HQ.o.trans rfl,hrest.same kg.o,HU.o.next kg.o⟩
    case measure=>simp[intOf];omega
   |nil=>
    obtain rfl:k=p.ts.length:=aeQ;have HN:aj (tJ p.ts 0=n):=HQ;by_cases h6:60<n
    ·have dG:aj (res=(2,0)):=ah (kU.o.trans (if_pos afD));clear kU yB;go_wp2_with fail
     go_ret2
     exact⟨qG agN agN,HU.o.1⟩
    ·have h6':n<=60:=agH;obtain⟨-,-,t0,r0,hts⟩:=yB.o;have mg:=ah hts;have HHN:aj (kH p=t0.nm):=ah (by unfold kH;rw[hts];rfl);have dG:aj (res=((jA p t0.nm p.ts 0 [] []).err,(jA p t0.nm p.ts 0 [] []).line)):=ah (kU.o.trans ((if_neg afD).trans (by rw[HHN.o])));clear kU hts hrow;go_upto_region 19 with fail;obtain⟨wo,rfl⟩: ∃wo:World,wo=wr:=⟨_,rfl⟩;obtain⟨nb,hnb⟩: ∃n,wo.heap.size=n:=⟨_,rfl⟩;generalize hW2:World.alloc wo _=W2;have aG2:=ah (aA0 hnb (HP.o.same HU.o.1) hW2);have fC:=ah hnb;have Ns:aj (w.heap.size<nb):=ah (by rw[<- hnb];exact HU.o.2.1.1);rw[hnb];clear hW2 hnb c0 c1;have Dm:aj (Below nb wo W2):=ah (by rw[<- fC.o];exact aG2.o.2);generalize hL:(⟨nb,nb+1,nb,aB _,Nat.lt_succ_self _⟩:tF)=L at *;have zT:aj (L.B0=nb∧L.bc=nb):=ah (by rw[<- hL];exact⟨rfl,rfl⟩);have XM:nb=L.bc:=zT.o.2.symm;have HB0:aj (Below L.B0 wo W2):=ah (by rw[zT.o.1];exact Dm.o);clear hL;generalize hrr:jA p t0.nm p.ts 0 [] []=rr at *;have HRR:=ah hrr;rw[XM];clear hrr XM Dm fC;have c1:W2.cell? ⟨w.heap.size,1,none⟩=some (.slice aM p.ts.length aG):=(HB0.o.cell (p:=⟨w.heap.size,1,none⟩) abb).trans HU.o.2.2.1.2;go_wp2_with fail;go_loopw [11,12,13] (λs _ _ wr=> ∃(k:Nat) (R:List Th) (f1 g1:List ByteArray) (v1 s1 e1:Value) (i1:Int),s= .int .i64 k∧k+R.length=p.ts.length∧p.ts.drop k=R∧rr=jA p t0.nm R k (nms f1) (nms g1)∧nG (kS p) (nms f1)∧nG (lI p) (nms g1)∧Below L.B0 wo wr∧kE wr L p aK aM aH aG i1 [] f1 g1 v1 s1 e1) (λs _ _ _=>p.ts.length -(intOf s).toNat)
     case atStart=>exact⟨0,p.ts,[],[],_,_,_,0,rfl,agJ,rfl,HRR.o.symm,⟨List.nodup_nil,by simp[nms]⟩,⟨List.nodup_nil,by simp[nms]⟩,HB0.o,aG2.o.1⟩
     case round=>
      obtain⟨k,R,f1,g1,v1,s1,e1,i1,rfl,hlen,hdr,heq,hf1,hg1,hB,hI⟩:=hrel;have HE:=ah heq;have Cn:=ah hf1;have qI:=ah hg1;have HB:=ah hB;have HI:=ah hI;have HDR:=ah hdr;clear heq hf1 hg1 hB hI hdr c1;have c1:wr.cell? ⟨w.heap.size,1,none⟩=some (.slice aM p.ts.length aG):=(HB.o.cell (p:=⟨w.heap.size,1,none⟩) abb).trans HU.o.2.2.1.2;have HWB:aj (∀w',Below L.B0 wr w'->Below w.heap.size w w'):=ah (λw' hb=>HU.o.1.trans ((HB.o.trans hb).mono (by have:=Ns.o;have:=zT.o.1;omega)));cases R with
      |nil=>
       obtain rfl:k=p.ts.length:=aeQ;have HX:aj (rr.err=0∧rr.line=0):=ah agC;go_wp2_with fail
       go_ret2
       exact⟨qG (by rw[dG.o,HX.o.1];rfl) (by rw[dG.o,HX.o.2];rfl),HWB.o _ (au _ _)⟩
      |cons t R=>
       simp only[aD]at hlen;have hkl:k<p.ts.length:=agH;have dM:aj (gQ t.body=true):=ah (yB.o.2.1 t (by have:t∈p.ts.drop k:=(by rw[HDR.o];simp);exact List.mem_of_mem_drop this));have c2:wr.cell? ⟨L.bc,2,none⟩=some (.int .i64 i1):=(eX HI.o.blk (j:=2) rfl).2;have f2:wr.frozen? ⟨L.bc,2,none⟩=false:=bK HI.o.blk;go_upto_region 23 with fail;generalize hW3:World.setCell wr _ _=W3;have rQ:aj (wr.grownBy W3 (some L.bc)):=ah (by rw[<- hW3];exact bU _ _ _);have HI3:aj (kE W3 L p aK aM aH aG (k:Int) [] f1 g1 v1 s1 e1):=ah (by rw[<- hW3];exact HI.o.ag9);have nW:=ah (cK rQ.o L.c0 HI.o.b0);have HB3:=ah (HB.o.trans nW.o);have hrow:=HI3.o.dat.2.2.2.drop k;rw[HDR.o,aU]at hrow;obtain⟨⟨bl,off,iU,eU,dB,cu,rfl,hbl,x0,x1,x2,x3,hok,htx,hst,-⟩,-⟩:=hrow;have kK:=ah hok;have HST:=ah hst;clear hW3 c1 c2 f2 rQ HB hok hst htx HI;have c1:W3.cell? ⟨w.heap.size,1,none⟩=some (.slice (some ⟨bl,off,none⟩) p.ts.length aG):=(HB3.o.cell (p:=⟨w.heap.size,1,none⟩) abb).trans HU.o.2.2.1.2;have yU:aj (rr=if(gX p k t.nm t0.nm t.body (dA []) (nms f1) (nms g1)).err != 0 then gX p k t.nm t0.nm t.body (dA []) (nms f1) (nms g1)else jA p t0.nm R (k+1) (gX p k t.nm t0.nm t.body (dA []) (nms f1) (nms g1)).f (gX p k t.nm t0.nm t.body (dA []) (nms f1) (nms g1)).g):=ah HE.o;clear HE;go_wp2_with fail;refine(Zc L p _ _ aH aG k t t0 R r0 HDR.o mg.o afB (by have:=EC.o;omega) bp3.o HTN.o yB.o.1 t.body W3 dB cu [] f1 g1 v1 s1 e1 kK.o.2.2.2 HST.o dM.o agJ Cn.o qI.o HI3.o).mono ?_;rintro e' w4 ⟨rfl,hK4,f4,g4,v4,s4,e4,hO4,Oj,hq4⟩;generalize gX p k t.nm t0.nm t.body (dA []) (nms f1) (nms g1)=r1 at *;have HBK:=ah (hK4.below HI3.o.b0 (λq hq=>(HI3.o.own q hq).1));have dR:=ah (HB3.o.trans HBK.o);have WU:=ah (HWB.o _ (nW.o.trans HBK.o));have HI4:=ah Oj;have KZ:=ah hq4;clear hK4 hq4 Oj hO4 x0 x1 x2 x3 c1;cases hr1:(r1.err != 0)
       ·have Cw:aj (rr=jA p t0.nm R (k+1) (nms f4) (nms g4)):=ah (yU.o.trans ((if_neg ahC).trans (by rw[(KZ.o afh).2.2.1,(KZ.o afh).2.2.2])));have yu:aj (nG (kS p) (nms f4)∧nG (lI p) (nms g4)):=ah (by have:=KZ.o afh;rw[this.2.2.1,this.2.2.2];exact⟨this.1,this.2.1⟩);have HD7:aj (p.ts.drop (k+1)=R):=ah aee;clear KZ yU;go_wp2_with fail;go_roundw
        case rel=>exact⟨k+1,R,f4,g4,v4,s4,e4,_,agL,agH,HD7.o,Cw.o,yu.o.1,yu.o.2,dR.o,HI4.o⟩
        case measure=>simp[intOf];omega
       ·have wR:aj (rr=r1):=ah (yU.o.trans (if_pos hr1));clear yU KZ;go_wp2_with fail
        go_ret2
        exact⟨qG (by rw[dG.o,wR.o];rfl) (by rw[dG.o,wR.o];rfl),WU.o⟩
def ZM:Prop:= ∀(w:World) (zs:List Int) (ao:Option Addr) (cap:Nat),FX w w.heap.size zs ao->zs.length<=9223372036854775807->Calls Tryz.prog 5 #[.slice ao zs.length cap] w (MkP w)
theorem ZN:ZM:=λw zs ao cap hz hl=>Yr (λT=>VO T 2 agI) EK w zs ao cap hz hl
end Go.Proofs.YtdoplekppjkkpaaGreatDoor
