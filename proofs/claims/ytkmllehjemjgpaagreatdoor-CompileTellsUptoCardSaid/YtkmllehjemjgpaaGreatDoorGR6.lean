/- What the reference's walk says of a statement is what the checker says; the contract of the walk's one at every operator. And what hangs on it. -/
import Derived.Test.YtkmllehjemjgpaaGreatDoorGR4
import Derived.Test.YtkmllehjemjgpaaGreatDoorGR5
import Derived.Test.YtkmllehjemjgpaaGreatDoorGME
import Derived.Test.YtkmllehjemjgpaaGreatDoorGMX
import Derived.Test.YtkmllehjemjgpaaGreatDoorGMK
set_option linter.unusedSimpArgs false
set_option linter.unusedVariables false
set_option maxHeartbeats 40000000
set_option maxRecDepth 1000000
namespace Go.Proofs.YtkmllehjemjgpaaGreatDoor
open Go.RowKit
namespace Md
def nms (l:List ByteArray):List (List UInt8):=(l.map (·.toList)).reverse
def Aq (k:Int) (h:cB) (l:List ByteArray):List ByteArray:=if h.op==k then l++[h.nm]else l
theorem Gf (k:Int) (h:cB) (l:List ByteArray):nms (Aq k h l)=fL k h (nms l):=by
 unfold nms Aq fL;cases h.op==k <;> simp
theorem R6 (l:List ByteArray) (x:List UInt8):mem (nms l) x=mI l x:=by
 unfold mem nms mI;rw[Bool.eq_iff_iff,List.contains_iff_mem];simp[List.any_eq_true]
theorem R9 (l:List ByteArray):(nms l).length=l.length:=by simp[nms]
theorem LU {ds:List De} : ∀(ts pre:List Th),tF ds ts pre=none->∀(k:Nat) (d:Th) (r:List Th),ts.drop k=d::r->mJ (pre++ts.take k) d.nm.toList=false
 | [],_,_,k,d,r,hd=>by simp at hd
 |t::ts,pre,h,k,d,r,hd=>by
  unfold tF at h;split at h
  ·cases h
  ·rename_i hc;cases k with
   |zero=>simp only[List.drop_zero,List.cons.injEq]at hd;obtain⟨rfl,rfl⟩:=hd;simp only[Bool.or_eq_true,not_or,Bool.not_eq_true]at hc;simpa using hc.2
   |succ k=>have:=LU ts (pre++[t]) h k d r (by simpa using hd);simpa using this
theorem LX {l:List Th} {x:List UInt8} (h:mJ l x=false): ∀t∈l,t.nm.toList≠x:=λt ht e=>by
 unfold mJ at h;rw[List.any_eq_false]at h;exact h t ht (by simp[e])
theorem Yk {p:Pr} {j:Int} {nm:ByteArray} (h:mean p j nm=8):p.ts.any (λt=>t.nm.toList==nm.toList)=true:=by
 have:=GV h;unfold jK at this;obtain⟨t,ht,e⟩:=List.mem_map.1 this;exact List.any_eq_true.2 ⟨t,ht,by simp[e]⟩
theorem AP {ts:List Th} {j k:Nat} {t:Th} {r:List Th} (hd:ts.drop j=t::r) (hjk:j<k):t∈ts.take k:=by
 have h1:ts[j]? =some t:=by have:=List.getElem?_drop (xs:=ts) (i:=j) (j:=0);rw[hd]at this;simpa using this.symm
 have h2:(ts.take k)[j]? =some t:=by rw[List.getElem?_take,if_pos hjk];exact h1
 exact List.mem_of_getElem? h2
theorem K7 {p:Pr} {i:Int} {nm:ByteArray} {j:Nat} {t:Th} {r:List Th} (oU:tF p.ds p.ts []=none) (hd:p.ts.drop j=t::r) (hm:mean p i nm=8):(oQ p.ts nm==(j:Int))=(nm.toList==t.nm.toList):=by
 have ha:=Yk hm;rcases oF (λt:Th=>t.nm.toList==nm.toList) p.ts 0 with⟨-,-,hn⟩|⟨k,d,r',hk,hf,hdk,hs,-⟩
 ·rw[ha]at hn;cases hn
 ·have hdn:d.nm.toList=nm.toList:=by simpa using List.find?_some hs
  have hU:=LU p.ts [] oU;have e:oQ p.ts nm=(k:Int):=by unfold oQ;simpa using hf
  rw[e,Bool.eq_iff_iff,beq_iff_eq,beq_iff_eq];constructor
  ·intro hkj;have:k=j:=by omega
   subst this;rw[hd]at hdk;injection hdk with h1 h2;rw[h1];exact hdn.symm
  ·intro hnm;by_cases hlt:k<j
   ·exact absurd (by rw[hdn,hnm]) (LX (hU j t r hd) d (by simpa using AP hdk hlt))
   ·by_cases hgt:j<k
    ·exact absurd (by rw[hdn,hnm]) (LX (hU k d r' hdk) t (by simpa using AP hd hgt))
    ·omega
theorem R8 {nm:ByteArray} (h:jQ nm true=true):nm.toList.isEmpty=false:=by
 unfold jQ at h;rw[if_pos rfl]at h;rw[Lib.toList_data];cases hl:nm.data.toList with
 |nil=>rw[hl]at h;exact absurd h (by decide)
 |cons a r=>rfl
theorem YF {h:cB} {bl el:Nat} (hs:mX h bl el=true):1<=h.op∧h.op<=15:=by
 unfold mX fO at hs;simp only[Bool.and_eq_true,decide_eq_true_eq]at hs;exact⟨hs.1.1.1.1,hs.1.1.1.2⟩
theorem YE {h:cB} {bl el:Nat} (hs:mX h bl el=true) (hf:fN h.op=true):h.nm.toList.isEmpty=false:=by
 unfold mX at hs;simp only[Bool.and_eq_true]at hs;have:=hs.1.1.2.1;rw[hf]at this;exact R8 this
theorem ae4 {d:De} (hs:iw d=true) (hk:d.kind=5):d.on.toList.isEmpty=false:=by
 unfold iw at hs;simp only[Bool.and_eq_true]at hs;have:=hs.2.2;rw[hk]at this;exact R8 this
theorem LY (p:Pr) (i:Int) (nm:ByteArray) (k a:Int) (hk:0<=k∧k<=9) (ha:conv k=a) (h0:eY (conv (mean p i nm)) a a=0):mean p i nm=k:=by
 rw[<- mF p i nm k a hk ha]at h0;exact qR h0
theorem Km {a x y:Int} (h:a=0->x=y):jG a x=jG a y:=by
 unfold jG;cases ha:(a != 0)
 ·exact h (by simpa using ha)
 ·rfl
theorem ZL (a b:Int):(if a != 0 then a else b)=jG a b:=rfl
section
variable {p:Pr} {j:Nat} {tn gT:ByteArray} {ar:aH} {f g:List UInt8->Bool} {h:cB}
theorem YJ (hsd: ∀d∈p.ds,iw d=true) (q:Bool):
 (if eY (conv (mean p j h.nm)) 5 5 != 0 then eY (conv (mean p j h.nm)) 5 5 else nest ((dP ar 7 7 ⟨#[]⟩|| !dP ar 4 4 (nU p.ds h.nm))||(q&&dP ar 8 8 ⟨#[]⟩)))=eF [dh (mean p j h.nm) [6],nest ((dW ar [7]|| !pY ar (nU p.ds h.nm) [4])||(q&&dW ar [8]))]:=by
 rw[sO,ZL,mF p j h.nm 6 5 (by decide) rfl,nu,nu];refine Km (λh0=> ?_);obtain⟨k,d,r,-,-,-,hm,hk,hmu⟩:=Jg h0;rw[hmu,Ii 4 d.on (ae4 (hsd d hm) hk)]
theorem aD1 {t t0:Th} {r r0:List Th} (oU:tF p.ds p.ts []=none) (hd:p.ts.drop j=t::r) (hts:p.ts=t0::r0) {fs:List ByteArray} :
 (if eY (conv (mean p j h.nm)) 7 7 != 0 then eY (conv (mean p j h.nm)) 7 7 else if((((dP ar 7 7 ⟨#[]⟩||dP ar 8 8 ⟨#[]⟩)||dP ar 3 3 ⟨#[]⟩)||oQ p.ts h.nm==(j:Int))||oQ p.ts h.nm==0)then 7 else jR (mI fs h.nm.toList))=
 eF [dh (mean p j h.nm) [8],nest (dW ar [7,8,3]||(h.nm.toList==t.nm.toList||h.nm.toList==t0.nm.toList)),jR (mem (nms fs) h.nm.toList)]:=by
 rw[BS,ZL,mF p j h.nm 8 7 (by decide) rfl,nu,nu,nu,Jz];refine Km (λh0=> ?_);have hm:=LY p j h.nm 8 7 (by decide) rfl h0;have e0:=K7 (j:=0) (t:=t0) (r:=r0) oU (by simpa using hts) hm;have e1:=K7 oU hd hm;rw[e1,show((0:Int))=((0:Nat):Int)from rfl,e0,R6,Bool.or_assoc (_||_) (_==_)];cases ((dW ar [7]||dW ar [8]||dW ar [3])||(h.nm.toList==t.nm.toList||h.nm.toList==t0.nm.toList)) <;> simp[nest,jG]
theorem aD2 {t:Th} {r:List Th} (oU:tF p.ds p.ts []=none) (hd:p.ts.drop j=t::r):
 jG (eY (conv (mean p j h.nm)) 7 7) (nest ((dP ar 7 7 ⟨#[]⟩||dP ar 8 8 ⟨#[]⟩)||oQ p.ts h.nm==(j:Int)))=eF [dh (mean p j h.nm) [8],nest (dW ar [7,8]||h.nm.toList==t.nm.toList)]:=by
 rw[sO,mF p j h.nm 8 7 (by decide) rfl,nu,nu,Dt];refine Km (λh0=> ?_);rw[K7 oU hd (LY p j h.nm 8 7 (by decide) rfl h0)]
theorem aD3 {gs:List ByteArray} {x:Int} :
 jG (if(jG (eY (conv (mean p j h.nm)) 6 6) (nest (dP ar 7 7 ⟨#[]⟩||dP ar 3 3 ⟨#[]⟩))==0)&&mI gs h.nm.toList then 8 else jG (eY (conv (mean p j h.nm)) 6 6) (nest (dP ar 7 7 ⟨#[]⟩||dP ar 3 3 ⟨#[]⟩))) x=
 eF [dh (mean p j h.nm) [7],nest (dW ar [7,3]),jR (mem (nms gs) h.nm.toList),x]:=by
 rw[nu,nu,Dt,R6,mF p j h.nm 7 6 (by decide) rfl];generalize eY (conv (mean p j h.nm)) 6 6=a;generalize nest (dW ar [7]||dW ar [3])=b;generalize mI gs h.nm.toList=c;unfold eF eF eF eF jG jR;cases ha:(a != 0) <;> cases hb:(b != 0) <;> cases c <;> simp_all[eF]
 all_goals (intro hx;exact hx.symm)
end
end Md
open Md
theorem Ap.plain {w w':World} {L:qN} {p:Pr} {aB aD:Option Addr} {aA ay:Nat} {i:Int} {A:List Fr} {fs gs:List ByteArray} {v vs ve:Value} {h:cB} {r x:Int} {e:Ending}
 (hI:jF w L p aB aD aA ay i A fs gs v vs ve) (h12:(h.op==12)=false) (um:(h.op==14)=false) (hr:x=r) (hp:e= .returned (.int .i64 x)∧Below w.heap.size w w'):Ap w L p aB aD aA ay i A fs gs v vs ve (Aq 12 h fs) (Aq 14 h gs) r e w':=by
 subst hr;refine⟨hp.1,Kw.of_below hp.2,fs,gs,vs,ve,kK.refl _ _,hI.below hp.2,λ_=> ?_⟩;unfold Aq;rw[h12,um];exact⟨rfl,rfl⟩
theorem Ww (L:qN) (p:Pr) (w:World) (aB aD:Option Addr) (aA ay:Nat) (j:Nat) (A:List Fr) (fs gs:List ByteArray) (v vs ve:Value) (hI:jF w L p aB aD aA ay (j:Int) A fs gs v vs ve) (h:cB) (b e:aH) (s:Sl) (hin:rT w L.B0 h b e s) (hj:fD (j:Int)) (hA:A.length<=maxLen) (hfs:fs.length<=1000000000000) (hgs:gs.length<=1000000000000)
 (t t0:Th) (r r0:List Th) (hd:p.ts.drop j=t::r) (hts:p.ts=t0::r0) (oU:tF p.ds p.ts []=none) (hsd: ∀d∈p.ds,iw d=true) (hsh:mX h b.len e.len=true):
 Calls Tryz.prog 66 #[.pointer (some ⟨L.bc,0,none⟩),jD h b e s] w (Ap w L p aB aD aA ay (j:Int) A fs gs v vs ve (Aq 12 h fs) (Aq 14 h gs) (iP p j t.nm t0.nm (bS A) (mem (nms fs)) (mem (nms gs)) h)):=by
 have hop:=YF hsh;have hnm:=YE hsh;have hc:h.op=12∨h.op=14∨h.op=1∨h.op=2∨h.op=3∨h.op=4∨h.op=5∨h.op=6∨h.op=7∨h.op=8∨h.op=9∨h.op=10∨h.op=11∨h.op=13∨h.op=15:=by omega
 rcases hc with hc|hc|hc
 ·refine(af6 L p w aB aD aA ay j A fs gs v vs ve hI h b e s hin hj hA hfs hgs hc).mono (λe' w' hr=> ?_);have e1:Aq 12 h fs=fs++[h.nm]:=by unfold Aq;rw[hc];rfl
  have e2:Aq 14 h gs=gs:=by unfold Aq;rw[hc];rfl
  have e3:iP p j t.nm t0.nm (bS A) (mem (nms fs)) (mem (nms gs)) h=eF [dh (mean p j h.nm) [8],nest (dW (bS A) [7,8,3]||(h.nm.toList==t.nm.toList||h.nm.toList==t0.nm.toList)),jR (mem (nms fs) h.nm.toList)]:=by unfold iP;simp[hc]
  rw[e1,e2,e3,<- aD1 oU hd hts];exact hr
 ·refine(af7 L p w aB aD aA ay j A fs gs v vs ve hI h b e s hin hj hA hfs hgs hc).mono (λe' w' hr=> ?_);have e1:Aq 12 h fs=fs:=by unfold Aq;rw[hc];rfl
  have e2:Aq 14 h gs=gs++[h.nm]:=by unfold Aq;rw[hc];rfl
  have e3:iP p j t.nm t0.nm (bS A) (mem (nms fs)) (mem (nms gs)) h=eF [dh (mean p j h.nm) [7],nest (dW (bS A) [7,3]),jR (mem (nms gs) h.nm.toList),kg p j h.cu h.xn h.bZ h.aK]:=by unfold iP;simp[hc]
  rw[e1,e2,e3,<- aD3];exact hr
 ·obtain⟨bK,aU,rfl,hat⟩:=hI.form;obtain⟨jC,gI,rfl,-⟩:=hI.Sj;obtain⟨fT,gH,rfl,-⟩:=hI.Si;have hp:=hI.dat.use hI.b0;have hin':=hin.use hI.b0;have hal:(bS A).len<=maxLen:=by rw[qA];exact hA
  have hh:=hI.holds;refine(af8 p w aB aD aA ay j bK aU L.bc jC _ gI fT _ gH h b e (bS A) s hj hp hin' hal hat hh ?_).mono (λe' w' hr=>Ap.plain hI (by simp;omega) (by simp;omega) rfl hr);rcases hc with hc|hc|hc|hc|hc|hc|hc|hc|hc|hc|hc|hc|hc
  ·cases hix:h.idx with
   |nil=>exact .inl ⟨hc,rfl,Eq.symm (by rw[<- SA,<- sO];unfold iP EI;simp[hc,hix,bC.len])⟩
   |cons JG n0 JE zL Dy=>exact .inr (.inl ⟨hc,_,_,_,_,_,rfl,Eq.symm (by have hne: ¬((Dy.len:Int)+1=0):=(by omega);rw[<- mF p j h.nm 3 2 (by decide) rfl,<- BS];unfold iP EI ex1;simp[hc,hix,bC.len,hne])⟩)
  ·exact .inr (.inr (.inl ⟨hc,Eq.symm (by unfold iP;simp[hc])⟩))
  ·exact .inr (.inr (.inr (.inl ⟨hc,Eq.symm (by unfold iP;simp[hc])⟩)))
  ·exact .inr (.inr (.inr (.inr (.inl ⟨hc,Eq.symm (by rw[<- mF p j h.nm 4 3 (by decide) rfl,<- sO,nu,Ii 4 h.nm (hnm (by rw[hc];rfl))];unfold iP;simp[hc])⟩))))
  ·exact .inr (.inr (.inr (.inr (.inr (.inl ⟨hc,Eq.symm (by rw[<- mF p j h.nm 5 4 (by decide) rfl,<- sO,nu,Ij 5 6 h.nm (hnm (by rw[hc];rfl))];unfold iP;simp[hc])⟩)))))
  ·exact .inr (.inr (.inr (.inr (.inr (.inr (.inl ⟨hc,Eq.symm (by rw[<- mF p j h.nm 5 4 (by decide) rfl,<- sO,nu,Ij 5 6 h.nm (hnm (by rw[hc];rfl))];unfold iP;simp[hc])⟩))))))
  ·exact .inr (.inr (.inr (.inr (.inr (.inr (.inr (.inl ⟨hc,Eq.symm (by rw[nu];unfold iP;simp[hc])⟩)))))))
  ·exact .inr (.inr (.inr (.inr (.inr (.inr (.inr (.inr (.inl ⟨hc,Eq.symm (by rw[nu,nu,<- Dt];unfold iP;simp[hc])⟩))))))))
  ·exact .inr (.inr (.inr (.inr (.inr (.inr (.inr (.inr (.inr (.inl ⟨hc,Eq.symm (by rw[YJ hsd];unfold iP;simp[hc])⟩)))))))))
  ·exact .inr (.inr (.inr (.inr (.inr (.inr (.inr (.inr (.inr (.inr (.inl ⟨hc,Eq.symm (by rw[YJ hsd];unfold iP;simp[hc])⟩))))))))))
  ·exact .inr (.inr (.inr (.inr (.inr (.inr (.inr (.inr (.inr (.inr (.inr (.inl ⟨hc,Eq.symm (by rw[YJ hsd];unfold iP;simp[hc])⟩)))))))))))
  ·exact .inr (.inr (.inr (.inr (.inr (.inr (.inr (.inr (.inr (.inr (.inr (.inr (.inl ⟨hc,Eq.symm (by rw[aD2 oU hd];unfold iP;simp[hc])⟩))))))))))))
  ·exact .inr (.inr (.inr (.inr (.inr (.inr (.inr (.inr (.inr (.inr (.inr (.inr (.inr ⟨hc,Eq.symm (by rw[<- mF p j h.nm 1 8 (by decide) rfl,<- mF p j h.arg 7 6 (by decide) rfl,nu,<- BS];unfold iP;simp[hc])⟩))))))))))))
def ap4 (w:World) (L:qN) (p:Pr) (aB aD:Option Addr) (aA ay:Nat) (i:Int) (A:List Fr) (v vs ve:Value) (r:KC) (e:Ending) (w':World):Prop:=
 e= .returned (.tuple #[.int .i64 r.err,.int .i64 r.line])∧Kw L [v,vs,ve] w w'∧∃fs' gs' v' vs' ve',kK w [v,vs,ve] [v',vs',ve']∧jF w' L p aB aD aA ay i A fs' gs' v' vs' ve'∧(r.err=0->mg (jK p) r.f∧mg (jU p) r.g∧nms fs'=r.f∧nms gs'=r.g)
def Cr (L:qN) (p:Pr) (aB aD:Option Addr) (aA ay:Nat) (j:Nat) (t t0:Th) (l:aH):Prop:=
 ∀(w:World) (ao:Option Addr) (cap:Nat) (A:List Fr) (fs gs:List ByteArray) (v vs ve:Value),l.len<=maxLen->l.At w L.B0 ao 0->eG l=true->A.length<=6->mg (jK p) (nms fs)->mg (jU p) (nms gs)->jF w L p aB aD aA ay (j:Int) A fs gs v vs ve->
  Calls Tryz.prog 37 #[.pointer (some ⟨L.bc,0,none⟩),.slice ao l.len cap] w (ap4 w L p aB aD aA ay (j:Int) A v vs ve (fG p j t.nm t0.nm l (bS A) (nms fs) (nms gs)))
theorem ar0 {p:Pr} {fs:List ByteArray} {n:Nat} (h:mg (jK p) (nms fs)) (hT:p.ts.length<=n):fs.length<=n:=by
 have:=h.le;rw[R9]at this;unfold jK at this;rw[List.length_map]at this;omega
theorem aq9 {p:Pr} {fs:List ByteArray} {n:Nat} (h:mg (jU p) (nms fs)) (hT:p.ds.length<=n):fs.length<=n:=by
 have:=h.le;rw[R9]at this;unfold jU at this;rw[List.length_map]at this;omega
theorem Iy (L:qN) (p:Pr) (aB aD:Option Addr) (aA ay:Nat) (j:Nat) (t t0:Th) (r r0:List Th) (hd:p.ts.drop j=t::r) (hts:p.ts=t0::r0) (hj:fD (j:Int)) (hT:p.ts.length<=1000000000000) (hD:p.ds.length<=1000000000000) (oU:tF p.ds p.ts []=none) (hsd: ∀d∈p.ds,iw d=true) (l:aH) (hall:l.All λ_ b e=>Cr L p aB aD aA ay j t t0 b∧Cr L p aB aD aA ay j t t0 e):Cr L p aB aD aA ay j t t0 l:=by
 intro w ao cap A fs gs v vs ve hl hat hsh hA hf hg hI;generalize hres:fG p j t.nm t0.nm l (bS A) (nms fs) (nms gs)=res;have HR:=ah hres;have HAT:=ah hat;have jd:=ah hall;have yH:=ah hsh;have HF:=ah hf;have HG:=ah hg;have HI:=ah hI;have wL:=ah oU;have vM:=ah hsd;have Zm:=ah hT;have Qb:=ah hD;have HD:=ah hd;have kF:=ah hts;unfold maxLen at hl;have HA:=ah hA;clear hres hat hall hf hg hI hA hsh oU hsd hT hD hd hts;go_enter Tryz.func37,Tryz.ntmps37;go_wp2_with fail;go_loopw [6,7,8,9] (λs _ _ _ wr=> ∃(k:Nat) (R:aH) (f1 g1:List ByteArray) (v1 s1 e1:Value),s= .int .i64 k∧k+R.len=l.len∧res=fG p j t.nm t0.nm R (bS A) (nms f1) (nms g1)∧(R.All λ_ b e=>Cr L p aB aD aA ay j t t0 b∧Cr L p aB aD aA ay j t t0 e)∧R.At wr L.B0 ao k∧eG R=true∧mg (jK p) (nms f1)∧mg (jU p) (nms g1)∧Kw L [v,vs,ve] w wr∧kK w [v,vs,ve] [v1,s1,e1]∧jF wr L p aB aD aA ay (j:Int) A f1 g1 v1 s1 e1) (λs _ _ _ _=>l.len -(intOf s).toNat)
 case atStart=>exact⟨0,l,fs,gs,v,vs,ve,rfl,by simp,HR.o.symm,jd.o,HAT.o,yH.o,HF.o,HG.o,Kw.refl _ _ _,kK.refl _ _,HI.o⟩
 case round=>
  obtain⟨k,R,f1,g1,v1,s1,e1,rfl,hlen,heq,hall,hrow,hsl,hf1,hg1,hKw,UU,hI⟩:=hrel;have HE:=ah heq;have HK:=ah hKw;have HO:=ah UU;have HSL:=ah hsl;clear heq hKw UU hsl;cases R with
  |nil=>
   obtain rfl:k=l.len:=by simpa[aH.len]using hlen
   have HX:aj (ap4 w L p aB aD aA ay (j:Int) A v vs ve res (.returned (.tuple #[.int .i64 0,.int .i64 0])) wr):=ah (by rw[HE.o];exact⟨rfl,HK.o,f1,g1,v1,s1,e1,HO.o,hI,λ_=>⟨hf1,hg1,rfl,rfl⟩⟩);clear hI hall hrow hf1 hg1 HE;go_wp2_with fail
   go_ret2
   exact HX.o
  |cons h b e R=>
   obtain⟨bl,off,s,rfl,hbl,hin,x0,x1,x2,x3,x4,x5,x6,x7,x8,x9,x10,hrest⟩:=aH.At.ZH hrow;have hkl:k<l.len:=by simp only[aH.len]at hlen;omega
   obtain⟨gP,pF⟩:=hall;obtain⟨bK,aU,rfl,-⟩:=hI.form;have N7:=ah gP;have WE:=ah pF;have yE:=ah hf1;have uG:=ah hg1;have dY:=ah hin;have jE:=ah hrest;have Ab:=ah hI;have jZ:aj (mX h b.len e.len=true∧eG b=true∧eG e=true∧eG R=true):=ah (by have:=HSL.o;unfold eG at this;simp only[Bool.and_eq_true]at this;exact⟨this.1.1,this.1.2.1,this.1.2.2,this.2⟩);clear hrow hin gP pF hf1 hg1 hrest hI HSL;go_upto_region 5 with fail;obtain⟨nb,hnb⟩: ∃n,wr.heap.size=n:=⟨_,rfl⟩;generalize hW2:World.alloc wr _=W2;have uF:aj (W2.heap[nb]? =some (.cells (nI h b e s).toArray 90 (0,0))):=ah (by rw[<- hW2,<- hnb];exact heap_alloc_new _ _);have xE:aj (Below wr.heap.size wr W2):=ah (by rw[<- hW2];exact ak _ _);have HI2:=ah (Ab.o.below xE.o);have rR:aj (Kw L [v,vs,ve] w W2):=ah (HK.o.trans HO.o (Kw.of_below xE.o));have gB:aj (L.B1<=nb∧nb<W2.heap.size):=ah ⟨by rw[<- hnb];exact Ab.o.sz,(Array.getElem?_eq_some_iff.1 uF.o).1⟩;have MQ:aj (¬Own [.slice bK A.length aU,s1,e1] nb):=ah (λe=>by have:=(Ab.o.own _ e).2;omega);rw[hnb];clear hW2 hnb x0 x1 x2 x3 x4 x5 x6 x7 x8 x9 x10 hbl;have hA6:=HA.o;obtain⟨y0,y1,y2,y3,y4,y5,y6,y7,y8,y9,uq⟩:=Nz uF.o;go_wp2_with fail;refine(Ww L p W2 aB aD aA ay j A f1 g1 _ s1 e1 HI2.o h b e s (dY.o.below (xE.o.mono Ab.o.b0)) hj (by unfold maxLen;omega) (ar0 yE.o Zm.o) (aq9 uG.o Qb.o) t t0 r r0 HD.o kF.o wL.o vM.o jZ.o.1).mono ?_;rintro e' w3 ⟨rfl,hK3,f3,g3,s3,e3,hO3,QI,hq3⟩;have zZ:aj (w3.heap[nb]? =some (.cells (nI h b e s).toArray 90 (0,0))):=ah ((hK3.far gB.o.2 gB.o.1 MQ.o).trans uF.o);have HI3:=ah QI;have Ho:=ah hK3;have uH:aj (Kw L [v,vs,ve] w w3):=ah (rR.o.trans HO.o hK3);have TG:aj (kK w [v,vs,ve] [.slice bK A.length aU,s3,e3]):=ah (HO.o.trans hO3 rR.o.size);have X6:aj (¬Own [.slice bK A.length aU,s3,e3] nb):=ah (hO3.ne gB.o.2 MQ.o);have Bh:=ah hq3;have Dq:nb<w3.heap.size:=(Array.getElem?_eq_some_iff.1 zZ.o).1;clear hK3 QI hO3 hq3 y0 y1 y2 y3 y4 y5 y6 y7 y8 y9 uq;obtain⟨y0,y1,y2,y3,y4,y5,y6,y7,y8,y9,uq⟩:=Nz zZ.o;have c3:w3.cell? ⟨L.bc,3,none⟩=some (.slice bK A.length aU):=(dO HI3.o.blk (j:=3) rfl).2;by_cases NW:A.length=6
   ·have HX:aj (res=⟨2,h.line,nms f1,nms g1⟩):=ah (HE.o.trans (by rw[fG,if_pos (by rw[qA,NW];rfl)]));rw[NW]at c3;clear hA6;go_wp2_with fail;go_quiet (fail);go_wp2_with fail
    go_ret2
    refine⟨oW (by rw[HX.o];rfl) (by rw[HX.o];rfl),uH.o.trans (kK.refl _ _) (Kw.of_below (below_drewN (Below.refl _ _) _)),f3,g3,_,s3,e3,TG.o,HI3.o.below (below_drewN (Below.refl _ _) _),λh0=> ?_⟩;rw[HX.o]at h0;cases h0
   ·have hA':A.length<6:=(by omega);have hdec:decide (6<(A.length:Int)+1)=false:=(by rw[decide_eq_false_iff_not];omega);have Ch:aj (iP p j t.nm t0.nm (bS A) (mem (nms f1)) (mem (nms g1)) h=0->mg (jK p) (fL 12 h (nms f1))∧mg (jU p) (fL 14 h (nms g1))):=ah (λh0=>⟨Zz yE.o h0,ZA uG.o h0⟩);have HU:aj (res=if iP p j t.nm t0.nm (bS A) (mem (nms f1)) (mem (nms g1)) h != 0 then⟨iP p j t.nm t0.nm (bS A) (mem (nms f1)) (mem (nms g1)) h,h.line,nms f1,nms g1⟩else Qy p j t.nm t0.nm b e R (bS A) ((bS A).app (.cons h b e .nil)) 0 (fL 12 h (nms f1)) (fL 14 h (nms g1))):=ah (HE.o.trans (by rw[fG,if_neg (by rw[qA,decide_eq_true_iff];omega)];rfl));clear HE NW;generalize iP p j t.nm t0.nm (bS A) (mem (nms f1)) (mem (nms g1)) h=x at *;cases hx:(x != 0)
    case true=>
     have HX:aj (res=⟨x,h.line,nms f1,nms g1⟩):=ah (HU.o.trans (by rw[hx];rfl));have HX0:aj (x≠0):=ah (by simpa using hx);clear HU Ch;go_wp2_with fail;go_quiet (fail);go_wp2_with fail
     go_ret2
     refine⟨oW (by rw[HX.o];rfl) (by rw[HX.o];rfl),uH.o.trans (kK.refl _ _) (Kw.of_below (below_drewN (Below.refl _ _) _)),f3,g3,_,s3,e3,TG.o,HI3.o.below (below_drewN (Below.refl _ _) _),λh0=> ?_⟩;rw[HX.o]at h0;exact(HX0.o h0).elim
    have HT:aj (res=aq0 p j t.nm t0.nm b e R (bS A) ((bS A).app (.cons h b e .nil)) (nms f3) (nms g3)):=ah (HU.o.trans (by rw[hx,(Bh.o (by simpa using hx)).1,(Bh.o (by simpa using hx)).2,Gf,Gf];rfl));have vH:aj (mg (jK p) (nms f3)∧mg (jU p) (nms g3)):=ah (by rw[(Bh.o (by simpa using hx)).1,(Bh.o (by simpa using hx)).2,Gf,Gf];exact Ch.o (by simpa using hx));clear HU Ch Bh;go_upto_region 10 with fail;obtain⟨Y0,Y1,Y2,Y3,Y4,Y5,Y6,Y7,Y8,Y9,nQ⟩:=yg Dq y0 y1 y2 y3 y4 y5 y6 y7 y8 y9 uq;have L3:=fM (by have:=HI3.o.sz;have:=L.c1;show L.bc<_;omega) c3;clear y0 y1 y2 y3 y4 y5 y6 y7 y8 y9 uq c3 hdec;refine bf (by kernel_rfl) rfl ?_;refine aX 0 7 [] [[],[0],[0,1],[0,1,2],[],[0,1,2,3],[],[0,1,2,3,4,5,6],[0,1,2,3,4,5,6,7],[0,1,2,3,4,5,6,7,8],[0,1,2,3,4,5,6,7],[0,1,2,3,4,5,6,7,10],[0,1,2,3,4,5,6,7,10,11]] [[],[],[],[],[],[],[]] (λ_ w'=>Below w3.heap.size w3 w') (λw w'=>Below w.heap.size w w') [35,36,37,38,39,40,41] rfl rfl (by rfl) (by kernel_rfl) (by kernel_rfl) (by kernel_rfl) (by kernel_rfl) (by kernel_rfl) (by rfl) (λ_=>Below.refl _ _) (by rfl) (below_drewN (Below.refl _ _) 1) ?_;simp only[eP,jq]
    iterate 6
     apply aR.step
     case aJ=>intro c A w' hok hC hO hD;have e0:=hO 0 (by rfl);have e7:=hO 7 (by rfl);simp[Act.eval]at e0 e7;simp[Act.eval]at hD;simp[go_sem,gd,Oper.wp,hD,e0,e7,L3,hC,Y0,Y1,Y2,Y3,Y4,Y5,Y6,Y7,Y8,Y9,nQ];exact aG.mk (Below.refl _ _) hC (aW.mk _ _)
    refine aR.some (λv w'=> ∃bb,v= .slice (some ⟨bb,0,none⟩) 1 1∧w'.heap[bb]? =some (.cells Wz 90 (0,0))) ?_ ?_ ?_
    ·rintro v w w' hle ⟨bb,rfl,hbb⟩;exact⟨bb,rfl,(hle.block bb (Array.getElem?_eq_some_iff.1 hbb).1).trans hbb⟩
    ·intro c A w' hok hC hO hD;simp[go_sem,gd,Oper.wp];exact aG.mk (d:=_) (v:= .slice (some ⟨_,0,none⟩) 1 1) (ak _ _) (hC.trans ((ak _ _).mono hC.size)) ⟨_,rfl,heap_alloc_new _ _⟩
    try simp only[bP]
    refine aR.done ?_;intro wz bH;simp only[List.drop_zero];intro v0 h0 v1 h1 v2 h2 v3 h3 v4 h4 v5 h5 v6 h6;have h0':v0=_:=h0;have h1':v1=_:=h1;have h2':v2=_:=h2;have h3':v3=_:=h3;have h4':v4=_:=h4;have h5':v5=_:=h5;subst h0' h1' h2' h3' h4' h5';obtain⟨bb,rfl,hbb⟩:=h6;clear h0 h1 h2 h3 h4 h5;refine dA.nil ?_;go_simp;refine cK 7 [[],[0],[0,1],[0,1,2],[],[0,1,2,3],[],[0,1,2,3,4,5,6],[0,1,2,3,4,5,6,7],[0,1,2,3,4,5,6,7,8],[0,1,2,3,4,5,6,7],[0,1,2,3,4,5,6,7,10],[0,1,2,3,4,5,6,7,10,11]] rfl rfl rfl rfl rfl (by kernel_rfl) (by kernel_rfl) (by kernel_rfl) ?_;obtain⟨i0,hi0,hz0,hz1,hz2⟩:=Rj;have Ce:=ah (HI3.o.below bH);refine wp_append_lies wz _ _ _ (by rfl) L.B1 90 i0 _ 11 176 Tryz.underlying50 hi0 hz0 hz1 hz2 (by rfl) (by omega) (.slice bK A.length aU) A.length (zy A) (by rfl) Ce.o.row ⟨bb,0,none⟩ 1 1 Wz.toList (by rfl) (by rfl) (World.news_of_block hbb) (by decide) (by omega) (by unfold maxLen;omega) (by omega) Ce.o.sz wz.heap.size rfl ?_;intro g' cap' w4 qP oL wT Dp;clear hi0 hz0 hz1 hz2 hbb Y0 Y1 Y2 Y3 Y4 Y5 Y6 Y7 Y8 Y9 nQ L3;have WR:aj (rT w3 L.B0 h b e s):=ah (dY.o.below ((xE.o.mono Ab.o.b0).trans (Ho.o.below HI2.o.b0 (λk e=>(HI2.o.own k e).1))));have uK:=ah (HI3.o.push ⟨h,b,e,s⟩ WR.o bH qP oL wT);have hgb:=(qP.lt g' rfl).1;have dH:aj (w4.heap[L.bc]? =some (.cells (wkV p aB aD aA ay (j:Int) (.slice bK A.length aU) s3 e3) 94 (0,0))):=ah ((oL.block _ (Array.getElem?_eq_some_iff.1 Ce.o.blk).1 (λe'=>Ce.o.K8 (u:= .slice bK A.length aU) (by simp) e'.symm)).trans Ce.o.blk);have al7:=ah (JI qP);have Dn:g'≠L.bc:=(by have:=L.c1;omega);clear qP oL wT Dp hgb;go_simp;refine aX 8 13 [9,12] [[],[0],[0,1],[0,1,2],[],[0,1,2,3],[],[0,1,2,3,4,5,6],[0,1,2,3,4,5,6,7],[0,1,2,3,4,5,6,7,8],[0,1,2,3,4,5,6,7],[0,1,2,3,4,5,6,7,10],[0,1,2,3,4,5,6,7,10,11]] [[some false,none],[some false,none],[none,some false],[none,some false],[none,some false]] (PC w4 g' (A.length*11) (nI h b e s) ⟨L.bc,3,none⟩ (.slice (some ⟨g',0,none⟩) (A.length+1) cap')) (λ_ _=>True) [43,44,45] rfl rfl (by rfl) (by kernel_rfl) (by kernel_rfl) (by kernel_rfl) (by kernel_rfl) (by kernel_rfl) (by rfl) (λ_=>trivial) (by rfl) rfl ?_;simp only[eP,jq];have QH:(0:Int)<=(A.length:Int):=(by omega);have hA1:(A.length:Int)<(A.length:Int)+1:=(by omega);apply aR.step
    case aJ=>intro c A w' hok hC hO hD;have e42:=hO 42 (by rfl);have e40:=hO 40 (by rfl);simp[Act.eval]at e42 e40;simp[Act.eval]at hD;simp[go_sem,gd,Oper.wp,hD,e42,e40,hA1];exact aG.mk trivial (PC.skip (by rfl) (by rfl) hC) (aW.mk _ _)
    refine aR.some (λ_ _=>True) (λ_ _ _ _ _=>trivial) ?_ ?_
    ·intro c A' w' hok hC hO hD;obtain⟨x,y,rfl⟩:=hC.bits;obtain⟨rfl,-⟩:=hok;have e39:=hO 39 (by rfl);simp[Act.eval]at hD;simp only[gd,if_true];refine wp_store_mid _ _ _ (by rfl) g' (A.length*11) (nI h b e s).toArray (by simp[Act.eval,hD]) (e39.trans (by rfl)) (CU al7.o (hC.QB Dn)) Rk (by simp[nI,Value.oneCell']) ?_;exact aG.yQ trivial (PC.elt Dn (by rfl) (by rfl) hC) trivial
    try simp only[bP]
    iterate 2
     apply aR.step
     case aJ=>intro c A w' hok hC hO hD;have e35:=hO 35 (by rfl);simp[Act.eval]at e35;simp[Act.eval]at hD;simp[go_sem,gd,Oper.wp,hD,e35];exact aG.mk trivial (PC.skip (by rfl) (by rfl) hC) (aW.mk _ _)
    refine aR.some (λ_ _=>True) (λ_ _ _ _ _=>trivial) ?_ ?_
    ·intro c A' w' hok hC hO hD;obtain⟨x,y,rfl⟩:=hC.bits;obtain⟨rfl,-⟩:=hok;have e42:=hO 42 (by rfl);simp[Act.eval]at e42;simp[Act.eval]at hD;have hbk0:w'.heap[L.bc]? =w4.heap[L.bc]?:=PC.QF (a:=⟨L.bc,3,none⟩) Dn hC (Array.getElem?_eq_some_iff.1 dH.o).1;have hbk:=hbk0.trans dH.o;have hcl:w'.cell? ⟨L.bc,3,none⟩=some (.slice bK A.length aU):=(dO hbk (j:=3) rfl).2;have hfr:w'.frozen? ⟨L.bc,3,none⟩=false:=bG hbk;simp[go_sem,gd,Oper.wp,hD,e42,hcl,hfr];exact aG.yQ (v:=undef) trivial (PC.fld (by rfl) (by rfl) hC) trivial
    simp only[List.nil_append,List.cons_append,List.drop_succ_cons,List.drop_zero];refine aR.done ?_;intro w5 UO;simp only[List.drop_succ_cons,List.drop_zero];intro v0 h0 v1 h1 v2 h2 v3 h3 v4 h4;clear h0 h1 h2 h3 h4;refine dA.nil ?_;refine bT rfl ?_;have ug:aj (w5=(w4.setCells g' (A.length*11) (nI h b e s)).setCell ⟨L.bc,3,none⟩ (.slice (some ⟨g',0,none⟩) (A.length+1) cap')):=ah UO;rw[<- ug.o]at uK;have Cc:=ah uK.o.1;have Hq:=ah uK.o.2.1;have JW:=ah uK.o.2.2;have Qf:aj (Kw L [v,vs,ve] w w5):=ah (uH.o.trans TG.o uK.o.2.1);have Qj:aj (kK w [v,vs,ve] [.slice (some ⟨g',0,none⟩) (A.length+1) cap',s3,e3]):=ah (TG.o.trans uK.o.2.2 uH.o.size);have JX:aj (¬Own [.slice (some ⟨g',0,none⟩) (A.length+1) cap',s3,e3] nb):=ah (JW.o.ne Dq X6.o);have Ee:aj (w5.heap[nb]? =some (.cells (nI h b e s).toArray 90 (0,0))):=ah ((Hq.o.far Dq gB.o.1 X6.o).trans zZ.o);have WI:=ah (Hq.o.below HI3.o.b0 (λk e=>(HI3.o.own k e).1));have MW:aj (aH.At w5 L.B0 R (some ⟨bl,off,none⟩) (k+1)):=ah (jE.o.below (((xE.o.mono Ab.o.b0).trans (Ho.o.below HI2.o.b0 (λk e=>(HI2.o.own k e).1))).trans WI.o));have WQ:=ah (WR.o.below WI.o);have ji:aj (b.len<=maxLen∧e.len<=maxLen):=ah dY.o.1.2.2.2.2.2.2;have XT:nb<w5.heap.size:=(Array.getElem?_eq_some_iff.1 Ee.o).1;obtain⟨-,-,-,-,-,-,-,-,-,y9,uq⟩:=Nz Ee.o;clear UO ug uK al7 dH QH hA1 Dn;clear hx Dq Ce bH HI3 uH Ho zZ Hq JW MQ HI2 rR uF xE Ab dY WR jE HO HK yE uG HF HG HI HAT TG X6 WI;go_simp;have Ef:aj (res=if(fG p j t.nm t0.nm b (bS (A++[⟨h,b,e,s⟩])) (nms f3) (nms g3)).err != 0 then fG p j t.nm t0.nm b (bS (A++[⟨h,b,e,s⟩])) (nms f3) (nms g3)else NK p j t.nm t0.nm e R (bS A) (bS (A++[⟨h,b,e,s⟩])) (fG p j t.nm t0.nm b (bS (A++[⟨h,b,e,s⟩])) (nms f3) (nms g3)).f (fG p j t.nm t0.nm b (bS (A++[⟨h,b,e,s⟩])) (nms f3) (nms g3)).g):=ah (by rw[yt];exact HT.o);clear HT;go_wp2_with fail;refine(N7.o.1 _ s.bR s.aY (A++[⟨h,b,e,s⟩]) f3 g3 _ s3 e3 ji.o.1 WQ.o.2.2.2.1 jZ.o.2.1 (by simp;omega) vH.o.1 vH.o.2 Cc.o).mono ?_;rintro e' w6 ⟨rfl,NZ,f6,g6,v6,s6,e6,QK,QJ,hq6⟩;generalize fG p j t.nm t0.nm b (bS (A++[⟨h,b,e,s⟩])) (nms f3) (nms g3)=r1 at *;have WL:=ah (NZ.below Cc.o.b0 (λk e=>(Cc.o.own k e).1));have El:aj (Kw L [v,vs,ve] w w6):=ah (Qf.o.trans Qj.o NZ);have En:aj (kK w [v,vs,ve] [v6,s6,e6]):=ah (Qj.o.trans QK Qf.o.size);have JY:aj (¬Own [v6,s6,e6] nb):=ah (QK.ne XT JX.o);have BK:aj (w6.heap[nb]? =some (.cells (nI h b e s).toArray 90 (0,0))):=ah ((NZ.far XT gB.o.1 JX.o).trans Ee.o);have IQ:=ah (MW.o.below WL.o);have ai8:=ah (WQ.o.below WL.o);have wJ:=ah QJ;have MV:=ah hq6;clear NZ QK QJ hq6 WL Qf Qj JX Ee MW WQ Cc XT y9 uq vH;obtain⟨-,-,-,-,-,-,-,-,-,y9,uq⟩:=Nz BK.o
    go_upto_if 54 with fail
    go_cut [8,9] (λs8 s9 W7=> ∃(r2:KC) (f7 g7:List ByteArray) (v7 s7 e7:Value),s8= .int .i64 r2.err∧s9= .int .i64 r2.line∧(res=if r2.err != 0 then r2 else fG p j t.nm t0.nm R (bS A) r2.f r2.g)∧Kw L [v,vs,ve] w W7∧kK w [v,vs,ve] [v7,s7,e7]∧R.At W7 L.B0 (some ⟨bl,off,none⟩) (k+1)∧jF W7 L p aB aD aA ay (j:Int) (A++[⟨h,b,e,s⟩]) f7 g7 v7 s7 e7∧(r2.err=0->mg (jK p) r2.f∧mg (jU p) r2.g∧nms f7=r2.f∧nms g7=r2.g))
    case first=>
     cases hr1:(r1.err==0)
     ·have DV:aj (res=if r1.err != 0 then r1 else fG p j t.nm t0.nm R (bS A) r1.f r1.g):=ah (by have hb:(r1.err != 0)=true:=(by simpa using hr1);rw[hb];exact Ef.o.trans (by rw[hb];rfl));clear Ef;go_wp2_with fail;go_meet;exact⟨r1,f6,g6,v6,s6,e6,rfl,rfl,DV.o,El.o,En.o,IQ.o,wJ.o,MV.o⟩
     ·have hr0:r1.err=0:=(by simpa using hr1);have vH:=ah (MV.o hr0);have DV:aj (res=NK p j t.nm t0.nm e R (bS A) (bS (A++[⟨h,b,e,s⟩])) (nms f6) (nms g6)):=ah (Ef.o.trans (by rw[hr0,vH.o.2.2.1,vH.o.2.2.2];rfl));have bk6:nb<w6.heap.size:=(Array.getElem?_eq_some_iff.1 BK.o).1;clear Ef MV hr0;go_wp2_with fail;refine(N7.o.2 _ s.fH s.dX (A++[⟨h,b,e,s⟩]) f6 g6 v6 s6 e6 ji.o.2 ai8.o.2.2.2.2 jZ.o.2.2.1 (by simp;omega) (by rw[vH.o.2.2.1];exact vH.o.1) (by rw[vH.o.2.2.2];exact vH.o.2.1) wJ.o).mono ?_;rintro e' w7 ⟨rfl,zB,f7,g7,v7,s7,e7,F5,Bw,Fa⟩;have uL:aj (res=if(fG p j t.nm t0.nm e (bS (A++[⟨h,b,e,s⟩])) (nms f6) (nms g6)).err != 0 then fG p j t.nm t0.nm e (bS (A++[⟨h,b,e,s⟩])) (nms f6) (nms g6)else fG p j t.nm t0.nm R (bS A) (fG p j t.nm t0.nm e (bS (A++[⟨h,b,e,s⟩])) (nms f6) (nms g6)).f (fG p j t.nm t0.nm e (bS (A++[⟨h,b,e,s⟩])) (nms f6) (nms g6)).g):=ah DV.o;generalize fG p j t.nm t0.nm e (bS (A++[⟨h,b,e,s⟩])) (nms f6) (nms g6)=r2 at *;have aO0:=ah (zB.below wJ.o.b0 (λk e=>(wJ.o.own k e).1));have Gs:aj (Kw L [v,vs,ve] w w7):=ah (El.o.trans En.o zB);have TH:aj (kK w [v,vs,ve] [v7,s7,e7]):=ah (En.o.trans F5 El.o.size);have KT:=ah (IQ.o.below aO0.o);have Gq:=ah Bw;have Ae:=ah Fa;clear zB F5 Bw Fa DV y9 uq;go_wp2_with fail;go_meet;exact⟨r2,f7,g7,v7,s7,e7,rfl,rfl,uL.o,Gs.o,TH.o,KT.o,Gq.o,Ae.o⟩
    obtain⟨r2,f7,g7,v7,s7,e7,rfl,rfl,hX,zB,F5,hR7,Bw,Fa⟩:=hcut;obtain⟨W7,rfl⟩: ∃W:World,W=wc:=⟨_,rfl⟩;have HX:=ah hX;have Gs:=ah zB;have TH:=ah F5;have KT:=ah hR7;have Gq:=ah Bw;have Ae:=ah Fa;clear hX zB F5 hR7 Bw Fa y9 uq Ef El En JY BK IQ ai8 wJ MV;obtain⟨g9,BR,rfl,hc9⟩: ∃g9 BR,v7= .slice (some ⟨g9,0,none⟩) (A.length+1) BR∧A.length+1<=BR:=by
     rcases Gq.o.row.2 with⟨-,hn⟩|⟨g',cap,cur,e',-,-,hcc,-⟩
     ·simp at hn
     ·exact⟨g',cap,by rw[e'];simp,by simpa using hcc⟩
    have hcl:=fM (x:= .slice (some ⟨g9,0,none⟩) (A.length+1) BR) (by have:=Gq.o.sz;have:=L.c1;show L.bc<_;omega) (dO Gq.o.blk (j:=3) rfl).2;have hz1:(0:Int)<=(A.length:Int):=(by omega);have hz2:(A.length:Int)<=(BR:Int):=(by omega);have hwr:IntKind.i64.wrap (A.length:Int)=(A.length:Int):=IntWalk.i64_in _ (by omega);have Dr:(A.length:Int)+1 -1=(A.length:Int):=(by omega);go_upto_region 14 with fail;refine bf (by kernel_rfl) rfl ?_;refine aX 0 14 [] [[],[],[1],[1,2],[1,2,3],[],[5],[5,6],[5,6,7],[5,6,7,8],[5,6,7,8,9],[1,2,3,4,5,6,7,8,9,10],[0,1,2,3,4,5,6,7,8,9,10,11],[0,1,2,3,4,5,6,7,8,9,10,11,12],[0,1,2,3,4,5,6,7,8,9,10,11,12,13]] [[],[],[],[],[],[],[],[],[],[],[],[],[],[]] (λ_ w'=>Below W7.heap.size W7 w') (λw w'=>Below w.heap.size w w') [62,63,64,65,66,67,68,69,70,71,72,73,74,75] rfl rfl (by rfl) (by kernel_rfl) (by kernel_rfl) (by kernel_rfl) (by kernel_rfl) (by kernel_rfl) (by rfl) (λ_=>Below.refl _ _) (by rfl) (below_drewN (Below.refl _ _) 1) ?_;simp only[eP,jq]
    iterate 14
     apply aR.step
     case aJ=>intro c A w' hok hC hO hD;have e0:=hO 0 (by rfl);simp[Act.eval]at e0;simp[Act.eval]at hD;simp[go_sem,gd,Oper.wp,hD,e0,hcl,hC,Dr,hwr,hz1,hz2];exact aG.mk (Below.refl _ _) hC (aW.mk _ _)
     try simp only[bP]
    try simp only[bP]
    refine aR.done ?_;intro wz bH;simp only[List.drop_zero];intro v0 h0 v1 h1 v2 h2 v3 h3 v4 h4 v5 h5 v6 h6 v7 h7 v8 h8 v9 h9 v10 h10 v11 h11 v12 h12 v13 Az;have Ic:v11=_:=h11;have Kh:v13=_:=Az;subst Ic Kh;clear h0 h1 h2 h3 h4 h5 h6 h7 h8 h9 h10 h11 h12 Az;refine dA.nil ?_;go_simp;have KQ:=ah (jF.pop ⟨h,b,e,s⟩ Gq.o bH);have hclz:wz.cell? ⟨L.bc,3,none⟩=some (.slice (some ⟨g9,0,none⟩) (A.length+1) BR):=hcl wz bH;have Oc:wz.frozen? ⟨L.bc,3,none⟩=false:=bG ((Gq.o.below bH).blk);clear hcl Dr hwr;refine cK 14 [[],[],[1],[1,2],[1,2,3],[],[5],[5,6],[5,6,7],[5,6,7,8],[5,6,7,8,9],[1,2,3,4,5,6,7,8,9,10],[0,1,2,3,4,5,6,7,8,9,10,11],[0,1,2,3,4,5,6,7,8,9,10,11,12],[0,1,2,3,4,5,6,7,8,9,10,11,12,13]] rfl rfl rfl rfl rfl (by kernel_rfl) (by kernel_rfl) (by kernel_rfl) ?_;simp[go_sem,Oper.wp,hclz,Oc];refine bT rfl ?_;clear hclz Oc bH;go_simp;have HK8:=ah (Gs.o.trans TH.o KQ.o.2);have HO8:aj (kK w [v,vs,ve] [.slice (some ⟨g9,0,none⟩) A.length BR,s7,e7]):=ah (λk hk=>TH.o k (by
     rcases sZ.1 hk with e|e|e
     ·exact sZ.2 (.inl e)
     ·exact sZ.2 (.inr (.inl e))
     ·exact sZ.2 (.inr (.inr e))))
    have HR8:=ah (KT.o.below (KQ.o.2.below Gq.o.b0 (λk e=>(Gq.o.own k e).1)));have HI8:=ah KQ.o.1;clear KQ Gs TH KT Gq;cases hr2:(r2.err != 0)
    ·have TN:aj (res=fG p j t.nm t0.nm R (bS A) (nms f7) (nms g7)):=ah (HX.o.trans (by rw[hr2,(Ae.o (by simpa using hr2)).2.2.1,(Ae.o (by simpa using hr2)).2.2.2];rfl));have vH:aj (mg (jK p) (nms f7)∧mg (jU p) (nms g7)):=ah (by have:=Ae.o (by simpa using hr2);rw[this.2.2.1,this.2.2.2];exact⟨this.1,this.2.1⟩);clear HX Ae;go_wp2_with fail;go_roundw
     case rel=>exact⟨k+1,R,f7,g7,_,s7,e7,by go_num,by simp only[aH.len]at hlen;omega,TN.o,WE.o,HR8.o,jZ.o.2.2.2,vH.o.1,vH.o.2,HK8.o,HO8.o,HI8.o⟩
     case measure=>simp[intOf];omega
    ·have TN:aj (res=r2):=ah (HX.o.trans (if_pos hr2));have HX0:aj (r2.err≠0):=ah (by simpa using hr2);clear HX Ae;go_wp2_with fail
     go_ret2
     refine⟨oW (by rw[TN.o];rfl) (by rw[TN.o];rfl),HK8.o,f7,g7,_,s7,e7,HO8.o,HI8.o,λh0=> ?_⟩;rw[TN.o]at h0;exact(HX0.o h0).elim
theorem Wv (L:qN) (p:Pr) (aB aD:Option Addr) (aA ay:Nat) (j:Nat) (t t0:Th) (r r0:List Th) (hd:p.ts.drop j=t::r) (hts:p.ts=t0::r0) (hj:fD (j:Int)) (hT:p.ts.length<=1000000000000) (hD:p.ds.length<=1000000000000) (oU:tF p.ds p.ts []=none) (hsd: ∀d∈p.ds,iw d=true) (l:aH):Cr L p aB aD aA ay j t t0 l:=
 Iy L p aB aD aA ay j t t0 r r0 hd hts hj hT hD oU hsd l (aH.lM (λ_ b e hb he=>⟨Iy L p aB aD aA ay j t t0 r r0 hd hts hj hT hD oU hsd b hb,Iy L p aB aD aA ay j t t0 r r0 hd hts hj hT hD oU hsd e he⟩) l)
end Go.Proofs.YtkmllehjemjgpaaGreatDoor
