/- What the reference's walk says of a statement is what the checker says; the contract of the walk's one at every operator. And what hangs on it. -/
import Derived.Test.YtfbbaiejbjdfbaaGreatDoorGRD
import Derived.Test.YtfbbaiejbjdfbaaGreatDoorGRH
import Derived.Test.YtfbbaiejbjdfbaaGreatDoorGME
import Derived.Test.YtfbbaiejbjdfbaaGreatDoorGMK
set_option linter.unusedSimpArgs false
set_option linter.unusedVariables false
set_option maxHeartbeats 40000000
set_option maxRecDepth 1000000
namespace Go.Proofs.YtfbbaiejbjdfbaaGreatDoor
open Go.RowKit
namespace Md
def nms (l:List ByteArray):List (List UInt8):=(l.map (·.toList)).reverse
def Cy (k:Int) (h:dL) (l:List ByteArray):List ByteArray:=if h.op == k then l++[h.nm] else l
theorem Iy (k:Int) (h:dL) (l:List ByteArray):nms (Cy k h l)=fL k h (nms l):=by
 unfold nms Cy fL; cases h.op == k <;> simp
theorem U9 (l:List ByteArray) (x:List UInt8):mem (nms l) x=oH l x:=by
 unfold mem nms oH;rw [Bool.eq_iff_iff,List.contains_iff_mem];simp [List.any_eq_true]
theorem Uc (l:List ByteArray):(nms l).length=l.length:=by simp [nms]
theorem Ot {ds:List De} : ∀(ts pre:List Th),wG ds ts pre=none-> ∀(k:Nat) (d:Th) (r:List Th),ts.drop k=d ::r->oJ (pre++ts.take k) d.nm.toList=false
 | [],_,_,k,d,r,hd=>by simp at hd
 | t ::ts,pre,h,k,d,r,hd=>by
   unfold wG at h;split at h
   ·cases h
   ·rename_i hc;cases k with
    | zero=>simp only [List.drop_zero,List.cons.injEq] at hd;obtain ⟨rfl,rfl⟩:=hd;simp only [Bool.or_eq_true,not_or,Bool.not_eq_true] at hc;simpa using hc.2
    | succ k=>have:=Ot ts (pre++[t]) h k d r (by simpa using hd);simpa using this
theorem Ox {l:List Th} {x:List UInt8} (h:oJ l x=false): ∀t ∈ l,t.nm.toList≠x:=fun t ht e=>by
 unfold oJ at h;rw [List.any_eq_false] at h;exact h t ht (by simp [e])
theorem ZQ {p:Pr} {j:Int} {nm:ByteArray} (h:mean p j nm=8):p.ts.any (fun t=>t.nm.toList == nm.toList)=true:=by
 have:=Jq h;unfold kX at this;obtain ⟨t,ht,e⟩:=List.mem_map.1 this;exact List.any_eq_true.2 ⟨t,ht,by simp [e]⟩
theorem CW {ts:List Th} {j k:Nat} {t:Th} {r:List Th} (hd:ts.drop j=t ::r) (hjk:j < k):t ∈ ts.take k:=by
 have h1:ts[j]? =some t:=by have:=List.getElem?_drop (xs:=ts) (i:=j) (j:=0); rw [hd] at this; simpa using this.symm
 have h2:(ts.take k)[j]? =some t:=by rw [List.getElem?_take,if_pos hjk]; exact h1
 exact List.mem_of_getElem? h2
theorem MK {p:Pr} {i:Int} {nm:ByteArray} {j:Nat} {t:Th} {r:List Th} (rH:wG p.ds p.ts []=none) (hd:p.ts.drop j=t ::r) (hm:mean p i nm=8):(rF p.ts nm == (j:Int))=(nm.toList == t.nm.toList):=by
 have ha:=ZQ hm;rcases qG (fun t:Th=>t.nm.toList == nm.toList) p.ts 0 with ⟨-,-,hn⟩ | ⟨k,d,r',hk,hf,hdk,hs,-⟩
 ·rw [ha] at hn; cases hn
 ·have hdn:d.nm.toList=nm.toList:=by simpa using List.find?_some hs
  have hU:=Ot p.ts [] rH;have e:rF p.ts nm=(k:Int):=by unfold rF; simpa using hf
  rw [e,Bool.eq_iff_iff,beq_iff_eq,beq_iff_eq];constructor
  ·intro hkj;have:k=j:=by omega
   subst this;rw [hd] at hdk;injection hdk with h1 h2;rw [h1]; exact hdn.symm
  ·intro hnm;by_cases hlt:k < j
   ·exact absurd (by rw [hdn,hnm]) (Ox (hU j t r hd) d (by simpa using CW hdk hlt))
   ·by_cases hgt:j < k
    ·exact absurd (by rw [hdn,hnm]) (Ox (hU k d r' hdk) t (by simpa using CW hd hgt))
    ·omega
theorem Ua {nm:ByteArray} (h:lH nm true=true):nm.toList.isEmpty=false:=by
 unfold lH at h;rw [if_pos rfl] at h;rw [Lib.toList_data];cases hl:nm.data.toList with
 | nil=>rw [hl] at h; exact absurd h (by decide)
 | cons a r=>rfl
theorem aa7 {h:dL} {bl el:Nat} (hs:mQ h bl el=true):1<=h.op∧h.op<=15:=by
 unfold mQ fO at hs;simp only [Bool.and_eq_true,decide_eq_true_eq] at hs;exact ⟨hs.1.1.1.1,hs.1.1.1.2⟩
theorem aa6 {h:dL} {bl el:Nat} (hs:mQ h bl el=true) (hf:fN h.op=true):h.nm.toList.isEmpty=false:=by
 unfold mQ at hs;simp only [Bool.and_eq_true] at hs;have:=hs.1.1.2.1;rw [hf] at this;exact Ua this
theorem al1 {d:De} (hs:jd d=true) (hk:d.kind=5):d.on.toList.isEmpty=false:=by
 unfold jd at hs;simp only [Bool.and_eq_true] at hs;have:=hs.2.2;rw [hk] at this;exact Ua this
theorem Oy (p:Pr) (i:Int) (nm:ByteArray) (k a:Int) (hk:0<=k∧k<=9) (ha:conv k=a) (h0:gF (conv (mean p i nm)) a a=0):mean p i nm=k:=by
 rw [<- oD p i nm k a hk ha] at h0; exact uw h0
theorem Nb {a x y:Int} (h:a=0->x=y):kN a x=kN a y:=by
 unfold kN;cases ha:(a != 0)
 ·exact h (by simpa using ha)
 ·rfl
theorem af8 (a b:Int):(if a != 0 then a else b)=kN a b:=rfl
section
variable {p:Pr} {j:Nat} {tn gI:ByteArray} {ar:aH} {f g:List UInt8->Bool} {h:dL}
theorem ab1 (hsd: ∀d ∈ p.ds,jd d=true) (q:Bool):
 (if gF (conv (mean p j h.nm)) 5 5 != 0 then gF (conv (mean p j h.nm)) 5 5 else nest ((eF ar 7 7 ⟨#[]⟩ || !eF ar 4 4 (qm p.ds h.nm)) || (q && eF ar 8 8 ⟨#[]⟩)))=dN [cB (mean p j h.nm) [6],nest ((eY ar [7] || !sK ar (qm p.ds h.nm) [4]) || (q && eY ar [8]))]:=by
 rw [vR,af8,oD p j h.nm 6 5 (by decide) rfl,pF,pF];refine Nb (fun h0=> ?_);obtain ⟨k,d,r,-,-,-,hm,hk,hmu⟩:=KZ h0;rw [hmu,K5 4 d.on (al1 (hsd d hm) hk)]
theorem aL5 {t t0:Th} {r r0:List Th} (rH:wG p.ds p.ts []=none) (hd:p.ts.drop j=t ::r) (hts:p.ts=t0 ::r0) {fs:List ByteArray} :
 (if gF (conv (mean p j h.nm)) 7 7 != 0 then gF (conv (mean p j h.nm)) 7 7 else if ((((eF ar 7 7 ⟨#[]⟩ || eF ar 8 8 ⟨#[]⟩) || eF ar 3 3 ⟨#[]⟩) || rF p.ts h.nm == (j:Int)) || rF p.ts h.nm == 0) then 7 else kR (oH fs h.nm.toList))=
 dN [cB (mean p j h.nm) [8],nest (eY ar [7,8,3] || (h.nm.toList == t.nm.toList || h.nm.toList == t0.nm.toList)),kR (mem (nms fs) h.nm.toList)]:=by
 rw [DU,af8,oD p j h.nm 8 7 (by decide) rfl,pF,pF,pF,LD];refine Nb (fun h0=> ?_);have hm:=Oy p j h.nm 8 7 (by decide) rfl h0;have e0:=MK (j:=0) (t:=t0) (r:=r0) rH (by simpa using hts) hm;have e1:=MK rH hd hm;rw [e1,show ((0:Int))=((0:Nat):Int) from rfl,e0,U9,Bool.or_assoc (_ || _) (_ == _)];cases ((eY ar [7] || eY ar [8] || eY ar [3]) || (h.nm.toList == t.nm.toList || h.nm.toList == t0.nm.toList)) <;> simp [nest,kN]
theorem aL6 {t:Th} {r:List Th} (rH:wG p.ds p.ts []=none) (hd:p.ts.drop j=t ::r):
 kN (gF (conv (mean p j h.nm)) 7 7) (nest ((eF ar 7 7 ⟨#[]⟩ || eF ar 8 8 ⟨#[]⟩) || rF p.ts h.nm == (j:Int)))=dN [cB (mean p j h.nm) [8],nest (eY ar [7,8] || h.nm.toList == t.nm.toList)]:=by
 rw [vR,oD p j h.nm 8 7 (by decide) rfl,pF,pF,F6];refine Nb (fun h0=> ?_);rw [MK rH hd (Oy p j h.nm 8 7 (by decide) rfl h0)]
theorem aL7 {gs:List ByteArray} {x:Int} :
 kN (if (kN (gF (conv (mean p j h.nm)) 6 6) (nest (eF ar 7 7 ⟨#[]⟩ || eF ar 3 3 ⟨#[]⟩)) == 0) && oH gs h.nm.toList then 8 else kN (gF (conv (mean p j h.nm)) 6 6) (nest (eF ar 7 7 ⟨#[]⟩ || eF ar 3 3 ⟨#[]⟩))) x=
 dN [cB (mean p j h.nm) [7],nest (eY ar [7,3]),kR (mem (nms gs) h.nm.toList),x]:=by
 rw [pF,pF,F6,U9,oD p j h.nm 7 6 (by decide) rfl];generalize gF (conv (mean p j h.nm)) 6 6=a;generalize nest (eY ar [7] || eY ar [3])=b;generalize oH gs h.nm.toList=c;unfold dN dN dN dN kN kR;cases ha:(a != 0) <;> cases hb:(b != 0) <;> cases c <;> simp_all [dN]
 all_goals (intro hx; exact hx.symm)
end
end Md
open Md
theorem Cx.plain {w w':World} {L:ug} {p:Pr} {aB aD:Option Addr} {aA ay:Nat} {i:Int} {A:List Fr} {fs gs:List ByteArray} {v vs ve:Value} {h:dL} {r x:Int} {e:Ending}
 (hI:kM w L p aB aD aA ay i A fs gs v vs ve) (h12:(h.op == 12)=false) (uY:(h.op == 14)=false) (hr:x=r) (hp:e= .returned (.int .i64 x)∧Below w.heap.size w w'):Cx w L p aB aD aA ay i A fs gs v vs ve (Cy 12 h fs) (Cy 14 h gs) r e w':=by
 subst hr;refine ⟨hp.1,Kw.of_below hp.2,fs,gs,vs,ve,mV.refl _ _,hI.below hp.2,fun _=> ?_⟩;unfold Cy; rw [h12,uY]; exact ⟨rfl,rfl⟩
theorem Yu (L:ug) (p:Pr) (w:World) (aB aD:Option Addr) (aA ay:Nat) (j:Nat) (A:List Fr) (fs gs:List ByteArray) (v vs ve:Value) (hI:kM w L p aB aD aA ay (j:Int) A fs gs v vs ve) (h:dL) (b e:aH) (s:Sl) (hin:uV w L.B0 h b e s) (hj:bS (j:Int)) (hA:A.length<=maxLen) (hfs:fs.length<=1000000000000) (hgs:gs.length<=1000000000000)
 (t t0:Th) (r r0:List Th) (hd:p.ts.drop j=t ::r) (hts:p.ts=t0 ::r0) (rH:wG p.ds p.ts []=none) (hsd: ∀d ∈ p.ds,jd d=true) (hsh:mQ h b.len e.len=true):
 Calls Tryz.prog 64 #[.pointer (some ⟨L.bc,0,none⟩),dS h b e s] w (Cx w L p aB aD aA ay (j:Int) A fs gs v vs ve (Cy 12 h fs) (Cy 14 h gs) (iE p j t.nm t0.nm (cK A) (mem (nms fs)) (mem (nms gs)) h)):=by
 have hop:=aa7 hsh;have hnm:=aa6 hsh;have hc:h.op=12∨h.op=14∨h.op=1∨h.op=2∨h.op=3∨h.op=4∨h.op=5∨h.op=6∨h.op=7∨h.op=8∨h.op=9∨h.op=10∨h.op=11∨h.op=13∨h.op=15:=by omega
 rcases hc with hc | hc | hc
 ·refine (al9 L p w aB aD aA ay j A fs gs v vs ve hI h b e s hin hj hA hfs hgs hc).mono (fun e' w' hr=> ?_);have e1:Cy 12 h fs=fs++[h.nm]:=by unfold Cy; rw [hc]; rfl
  have e2:Cy 14 h gs=gs:=by unfold Cy; rw [hc]; rfl
  have e3:iE p j t.nm t0.nm (cK A) (mem (nms fs)) (mem (nms gs)) h=dN [cB (mean p j h.nm) [8],nest (eY (cK A) [7,8,3] || (h.nm.toList == t.nm.toList || h.nm.toList == t0.nm.toList)),kR (mem (nms fs) h.nm.toList)]:=by unfold iE; simp [hc]
  rw [e1,e2,e3,<- aL5 rH hd hts];exact hr
 ·refine (am0 L p w aB aD aA ay j A fs gs v vs ve hI h b e s hin hj hA hfs hgs hc).mono (fun e' w' hr=> ?_);have e1:Cy 12 h fs=fs:=by unfold Cy; rw [hc]; rfl
  have e2:Cy 14 h gs=gs++[h.nm]:=by unfold Cy; rw [hc]; rfl
  have e3:iE p j t.nm t0.nm (cK A) (mem (nms fs)) (mem (nms gs)) h=dN [cB (mean p j h.nm) [7],nest (eY (cK A) [7,3]),kR (mem (nms gs) h.nm.toList),jT p j h.bY h.xn h.bW h.aI]:=by unfold iE; simp [hc]
  rw [e1,e2,e3,<- aL7];exact hr
 ·obtain ⟨bR,bf,rfl,hat⟩:=hI.form;obtain ⟨kI,iP,rfl,-⟩:=hI.V9;obtain ⟨gY,iO,rfl,-⟩:=hI.V8;have hp:=hI.dat.use hI.b0;have hin':=hin.use hI.b0;have hal:(cK A).len<=maxLen:=by rw [tu]; exact hA
  have hh:=hI.holds;refine (am1 p w aB aD aA ay j bR bf L.bc kI _ iP gY _ iO h b e (cK A) s hj hp hin' hal hat hh ?_).mono (fun e' w' hr=>Cx.plain hI (by simp; omega) (by simp; omega) rfl hr);rcases hc with hc | hc | hc | hc | hc | hc | hc | hc | hc | hc | hc | hc | hc
  ·cases hix:h.idx with
   | nil=>exact .inl ⟨hc,rfl,Eq.symm (by rw [<- Vo,<- vR]; unfold iE CB; simp [hc,hix,aZ.len])⟩
   | cons LZ n0 LX BQ Fg=>exact .inr (.inl ⟨hc,_,_,_,_,_,rfl,Eq.symm (by have hne: ¬ ((Fg.len:Int) + 1=0):=(by omega); rw [<- oD p j h.nm 3 2 (by decide) rfl,<- DU]; unfold iE CB X8; simp [hc,hix,aZ.len,hne])⟩)
  ·exact .inr (.inr (.inl ⟨hc,Eq.symm (by unfold iE; simp [hc])⟩))
  ·exact .inr (.inr (.inr (.inl ⟨hc,Eq.symm (by unfold iE; simp [hc])⟩)))
  ·exact .inr (.inr (.inr (.inr (.inl ⟨hc,Eq.symm (by rw [<- oD p j h.nm 4 3 (by decide) rfl,<- vR,pF,K5 4 h.nm (hnm (by rw [hc]; rfl))]; unfold iE; simp [hc])⟩))))
  ·exact .inr (.inr (.inr (.inr (.inr (.inl ⟨hc,Eq.symm (by rw [<- oD p j h.nm 5 4 (by decide) rfl,<- vR,pF,K6 5 6 h.nm (hnm (by rw [hc]; rfl))]; unfold iE; simp [hc])⟩)))))
  ·exact .inr (.inr (.inr (.inr (.inr (.inr (.inl ⟨hc,Eq.symm (by rw [<- oD p j h.nm 5 4 (by decide) rfl,<- vR,pF,K6 5 6 h.nm (hnm (by rw [hc]; rfl))]; unfold iE; simp [hc])⟩))))))
  ·exact .inr (.inr (.inr (.inr (.inr (.inr (.inr (.inl ⟨hc,Eq.symm (by rw [pF]; unfold iE; simp [hc])⟩)))))))
  ·exact .inr (.inr (.inr (.inr (.inr (.inr (.inr (.inr (.inl ⟨hc,Eq.symm (by rw [pF,pF,<- F6]; unfold iE; simp [hc])⟩))))))))
  ·exact .inr (.inr (.inr (.inr (.inr (.inr (.inr (.inr (.inr (.inl ⟨hc,Eq.symm (by rw [ab1 hsd]; unfold iE; simp [hc])⟩)))))))))
  ·exact .inr (.inr (.inr (.inr (.inr (.inr (.inr (.inr (.inr (.inr (.inl ⟨hc,Eq.symm (by rw [ab1 hsd]; unfold iE; simp [hc])⟩))))))))))
  ·exact .inr (.inr (.inr (.inr (.inr (.inr (.inr (.inr (.inr (.inr (.inr (.inl ⟨hc,Eq.symm (by rw [ab1 hsd]; unfold iE; simp [hc])⟩)))))))))))
  ·exact .inr (.inr (.inr (.inr (.inr (.inr (.inr (.inr (.inr (.inr (.inr (.inr (.inl ⟨hc,Eq.symm (by rw [aL6 rH hd]; unfold iE; simp [hc])⟩))))))))))))
  ·exact .inr (.inr (.inr (.inr (.inr (.inr (.inr (.inr (.inr (.inr (.inr (.inr (.inr ⟨hc,Eq.symm (by rw [<- oD p j h.nm 1 8 (by decide) rfl,<- oD p j h.arg 7 6 (by decide) rfl,pF,<- DU]; unfold iE; simp [hc])⟩))))))))))))
def ax9 (w:World) (L:ug) (p:Pr) (aB aD:Option Addr) (aA ay:Nat) (i:Int) (A:List Fr) (v vs ve:Value) (r:Ns) (e:Ending) (w':World):Prop:=
 e= .returned (.tuple #[.int .i64 r.err,.int .i64 r.line])∧Kw L [v,vs,ve] w w'∧ ∃fs' gs' v' vs' ve',mV w [v,vs,ve] [v',vs',ve']∧kM w' L p aB aD aA ay i A fs' gs' v' vs' ve'∧(r.err=0->oz (kX p) r.f∧oz (lQ p) r.g∧nms fs'=r.f∧nms gs'=r.g)
def Ei (L:ug) (p:Pr) (aB aD:Option Addr) (aA ay:Nat) (j:Nat) (t t0:Th) (l:aH):Prop:=
 ∀(w:World) (ao:Option Addr) (cap:Nat) (A:List Fr) (fs gs:List ByteArray) (v vs ve:Value),l.len<=maxLen->l.At w L.B0 ao 0->dW l=true->A.length<=6->oz (kX p) (nms fs)->oz (lQ p) (nms gs)->kM w L p aB aD aA ay (j:Int) A fs gs v vs ve->
  Calls Tryz.prog 35 #[.pointer (some ⟨L.bc,0,none⟩),.slice ao l.len cap] w (ax9 w L p aB aD aA ay (j:Int) A v vs ve (gK p j t.nm t0.nm l (cK A) (nms fs) (nms gs)))
theorem az5 {p:Pr} {fs:List ByteArray} {n:Nat} (h:oz (kX p) (nms fs)) (hT:p.ts.length<=n):fs.length<=n:=by
 have:=h.le; rw [Uc] at this; unfold kX at this; rw [List.length_map] at this; omega
theorem az4 {p:Pr} {fs:List ByteArray} {n:Nat} (h:oz (lQ p) (nms fs)) (hT:p.ds.length<=n):fs.length<=n:=by
 have:=h.le; rw [Uc] at this; unfold lQ at this; rw [List.length_map] at this; omega
theorem Kt (L:ug) (p:Pr) (aB aD:Option Addr) (aA ay:Nat) (j:Nat) (t t0:Th) (r r0:List Th) (hd:p.ts.drop j=t ::r) (hts:p.ts=t0 ::r0) (hj:bS (j:Int)) (hT:p.ts.length<=1000000000000) (hD:p.ds.length<=1000000000000) (rH:wG p.ds p.ts []=none) (hsd: ∀d ∈ p.ds,jd d=true) (l:aH) (hall:l.All fun _ b e=>Ei L p aB aD aA ay j t t0 b∧Ei L p aB aD aA ay j t t0 e):Ei L p aB aD aA ay j t t0 l:=by
 intro w ao cap A fs gs v vs ve hl hat hsh hA hf hg hI;generalize hres:gK p j t.nm t0.nm l (cK A) (nms fs) (nms gs)=res;have HR:=ah hres;have HAT:=ah hat;have jA:=ah hall;have AA:=ah hsh;have HF:=ah hf;have HG:=ah hg;have HI:=ah hI;have tL:=ah rH;have tK:=ah hsd;have HTT:=ah hT;have HDD:=ah hD;have HD:=ah hd;have mU:=ah hts;unfold maxLen at hl;have HA:=ah hA;clear hres hat hall hf hg hI hA hsh rH hsd hT hD hd hts;go_enter Tryz.func35,Tryz.ntmps35;go_wp2_with fail;go_loopw [6,7,8,9] (fun s _ _ _ wr=> ∃(k:Nat) (R:aH) (f1 g1:List ByteArray) (v1 s1 e1:Value),s= .int .i64 k∧k + R.len=l.len∧res=gK p j t.nm t0.nm R (cK A) (nms f1) (nms g1)∧(R.All fun _ b e=>Ei L p aB aD aA ay j t t0 b∧Ei L p aB aD aA ay j t t0 e)∧R.At wr L.B0 ao k∧dW R=true∧oz (kX p) (nms f1)∧oz (lQ p) (nms g1)∧Kw L [v,vs,ve] w wr∧mV w [v,vs,ve] [v1,s1,e1]∧kM wr L p aB aD aA ay (j:Int) A f1 g1 v1 s1 e1) (fun s _ _ _ _=>l.len - (intOf s).toNat)
 case atStart=>exact ⟨0,l,fs,gs,v,vs,ve,rfl,by simp,HR.o.symm,jA.o,HAT.o,AA.o,HF.o,HG.o,Kw.refl _ _ _,mV.refl _ _,HI.o⟩
 case round=>
  obtain ⟨k,R,f1,g1,v1,s1,e1,rfl,hlen,heq,hall,hrow,hsl,hf1,hg1,hKw,Xi,hI⟩:=hrel;have HE:=ah heq;have HK:=ah hKw;have HO:=ah Xi;have HSL:=ah hsl;clear heq hKw Xi hsl;cases R with
  | nil=>
    obtain rfl:k=l.len:=by simpa [aH.len] using hlen
    have HX:aj (ax9 w L p aB aD aA ay (j:Int) A v vs ve res (.returned (.tuple #[.int .i64 0,.int .i64 0])) wr):=ah (by rw [HE.o]; exact ⟨rfl,HK.o,f1,g1,v1,s1,e1,HO.o,hI,fun _=>⟨hf1,hg1,rfl,rfl⟩⟩);clear hI hall hrow hf1 hg1 HE;go_wp2_with fail
    go_ret2
    exact HX.o
  | cons h b e R=>
    obtain ⟨bl,off,s,rfl,hbl,hin,x0,x1,x2,x3,x4,x5,x6,x7,x8,x9,x10,hrest⟩:=aH.At.af5 hrow;have hkl:k < l.len:=by simp only [aH.len] at hlen; omega
    obtain ⟨iW,rY⟩:=hall;obtain ⟨bR,bf,rfl,-⟩:=hI.form;have Pv:=ah iW;have Yy:=ah rY;have Bl:=ah hf1;have yV:=ah hg1;have fu:=ah hin;have ko:=ah hrest;have wU:=ah hI;have Bp:aj (mQ h b.len e.len=true∧dW b=true∧dW e=true∧dW R=true):=ah (by have:=HSL.o;unfold dW at this;simp only [Bool.and_eq_true] at this;exact ⟨this.1.1,this.1.2.1,this.1.2.2,this.2⟩);clear hrow hin iW rY hf1 hg1 hrest hI HSL;go_upto_region 5 with fail;obtain ⟨nb,hnb⟩: ∃n,wr.heap.size=n:=⟨_,rfl⟩;generalize hW2:World.alloc wr _=W2;have xJ:aj (W2.heap[nb]? =some (.cells (pX h b e s).toArray 68 (0,0))):=ah (by rw [<- hW2,<- hnb]; exact heap_alloc_new _ _);have zG:aj (Below wr.heap.size wr W2):=ah (by rw [<- hW2]; exact ak _ _);have HI2:=ah (wU.o.below zG.o);have uS:aj (Kw L [v,vs,ve] w W2):=ah (HK.o.trans HO.o (Kw.of_below zG.o));have fD:aj (L.B1<=nb∧nb < W2.heap.size):=ah ⟨by rw [<- hnb]; exact wU.o.sz,(Array.getElem?_eq_some_iff.1 xJ.o).1⟩;have Pm:aj (¬ Own [.slice bR A.length bf,s1,e1] nb):=ah (fun e=>by have:=(wU.o.own _ e).2; omega);rw [hnb];clear hW2 hnb x0 x1 x2 x3 x4 x5 x6 x7 x8 x9 x10 hbl;have hA6:=HA.o;obtain ⟨y0,y1,y2,y3,y4,y5,y6,y7,y8,y9,jP⟩:=Qd xJ.o;go_wp2_with fail;refine (Yu L p W2 aB aD aA ay j A f1 g1 _ s1 e1 HI2.o h b e s (fu.o.below (zG.o.mono wU.o.b0)) hj (by unfold maxLen; omega) (az5 Bl.o HTT.o) (az4 yV.o HDD.o) t t0 r r0 HD.o mU.o tL.o tK.o Bp.o.1).mono ?_;rintro e' w3 ⟨rfl,hK3,f3,g3,s3,e3,hO3,CO,hq3⟩;have Cb:aj (w3.heap[nb]? =some (.cells (pX h b e s).toArray 68 (0,0))):=ah ((hK3.far fD.o.2 fD.o.1 Pm.o).trans xJ.o);have HI3:=ah CO;have JF:=ah hK3;have Db:aj (Kw L [v,vs,ve] w w3):=ah (uS.o.trans HO.o hK3);have Wh:aj (mV w [v,vs,ve] [.slice bR A.length bf,s3,e3]):=ah (HO.o.trans hO3 uS.o.size);have YQ:aj (¬ Own [.slice bR A.length bf,s3,e3] nb):=ah (hO3.ne fD.o.2 Pm.o);have zJ:=ah hq3;have nW:nb < w3.heap.size:=(Array.getElem?_eq_some_iff.1 Cb.o).1;clear hK3 CO hO3 hq3 y0 y1 y2 y3 y4 y5 y6 y7 y8 y9 jP;obtain ⟨y0,y1,y2,y3,y4,y5,y6,y7,y8,y9,jP⟩:=Qd Cb.o;have c3:w3.cell? ⟨L.bc,3,none⟩=some (.slice bR A.length bf):=(eD HI3.o.blk (j:=3) rfl).2;by_cases Qr:A.length=6
    ·have HX:aj (res=⟨2,h.line,nms f1,nms g1⟩):=ah (HE.o.trans (by rw [gK,if_pos (by rw [tu,Qr]; rfl)]));rw [Qr] at c3;clear hA6;go_wp2_with fail;go_quiet (fail);go_wp2_with fail
     go_ret2
     refine ⟨rM (by rw [HX.o]; rfl) (by rw [HX.o]; rfl),Db.o.trans (mV.refl _ _) (Kw.of_below (below_drewN (Below.refl _ _) _)),f3,g3,_,s3,e3,Wh.o,HI3.o.below (below_drewN (Below.refl _ _) _),fun h0=> ?_⟩;rw [HX.o] at h0; cases h0
    ·have hA':A.length < 6:=(by omega);have hdec:decide (6 < (A.length:Int) + 1)=false:=(by rw [decide_eq_false_iff_not]; omega);have Eb:aj (iE p j t.nm t0.nm (cK A) (mem (nms f1)) (mem (nms g1)) h=0->oz (kX p) (fL 12 h (nms f1))∧oz (lQ p) (fL 14 h (nms g1))):=ah (fun h0=>⟨ae7 Bl.o h0,ae8 yV.o h0⟩);have HU:aj (res=if iE p j t.nm t0.nm (cK A) (mem (nms f1)) (mem (nms g1)) h != 0 then ⟨iE p j t.nm t0.nm (cK A) (mem (nms f1)) (mem (nms g1)) h,h.line,nms f1,nms g1⟩ else Tz p j t.nm t0.nm b e R (cK A) ((cK A).app (.cons h b e .nil)) 0 (fL 12 h (nms f1)) (fL 14 h (nms g1))):=ah (HE.o.trans (by rw [gK,if_neg (by rw [tu,decide_eq_true_iff]; omega)]; rfl));clear HE Qr;generalize iE p j t.nm t0.nm (cK A) (mem (nms f1)) (mem (nms g1)) h=x at *;cases hx:(x != 0)
     case true=>
      have HX:aj (res=⟨x,h.line,nms f1,nms g1⟩):=ah (HU.o.trans (by rw [hx]; rfl));have HX0:aj (x≠0):=ah (by simpa using hx);clear HU Eb;go_wp2_with fail;go_quiet (fail);go_wp2_with fail
      go_ret2
      refine ⟨rM (by rw [HX.o]; rfl) (by rw [HX.o]; rfl),Db.o.trans (mV.refl _ _) (Kw.of_below (below_drewN (Below.refl _ _) _)),f3,g3,_,s3,e3,Wh.o,HI3.o.below (below_drewN (Below.refl _ _) _),fun h0=> ?_⟩;rw [HX.o] at h0; exact (HX0.o h0).elim
     have HT:aj (res=ay4 p j t.nm t0.nm b e R (cK A) ((cK A).app (.cons h b e .nil)) (nms f3) (nms g3)):=ah (HU.o.trans (by rw [hx,(zJ.o (by simpa using hx)).1,(zJ.o (by simpa using hx)).2,Iy,Iy]; rfl));have yC:aj (oz (kX p) (nms f3)∧oz (lQ p) (nms g3)):=ah (by rw [(zJ.o (by simpa using hx)).1,(zJ.o (by simpa using hx)).2,Iy,Iy]; exact Eb.o (by simpa using hx));clear HU Eb zJ;go_upto_region 10 with fail;have Y0: ∀w',Below w3.heap.size w3 w'->w'.cell? ⟨nb,0,none⟩=some (.int .i64 h.op):=fun w' hb=>(hb.cell (p:=⟨nb,0,none⟩) nW).trans y0;have Y1: ∀w',Below w3.heap.size w3 w'->w'.cell? ⟨nb,1,none⟩=some (.int .i64 h.line):=fun w' hb=>(hb.cell (p:=⟨nb,1,none⟩) nW).trans y1;have Y2: ∀w',Below w3.heap.size w3 w'->w'.cell? ⟨nb,2,none⟩=some (.string h.nm):=fun w' hb=>(hb.cell (p:=⟨nb,2,none⟩) nW).trans y2;have Y3: ∀w',Below w3.heap.size w3 w'->w'.cell? ⟨nb,3,none⟩=some (.string h.arg):=fun w' hb=>(hb.cell (p:=⟨nb,3,none⟩) nW).trans y3;have Y4: ∀w',Below w3.heap.size w3 w'->w'.cell? ⟨nb,4,none⟩=some (.slice s.dU h.idx.len s.dG):=fun w' hb=>(hb.cell (p:=⟨nb,4,none⟩) nW).trans y4;have Y5: ∀w',Below w3.heap.size w3 w'->w'.cell? ⟨nb,5,none⟩=some (.int .i64 h.bY):=fun w' hb=>(hb.cell (p:=⟨nb,5,none⟩) nW).trans y5;have Y6: ∀w',Below w3.heap.size w3 w'->w'.cell? ⟨nb,6,none⟩=some (.int .i64 h.xn):=fun w' hb=>(hb.cell (p:=⟨nb,6,none⟩) nW).trans y6;have Y7: ∀w',Below w3.heap.size w3 w'->w'.cell? ⟨nb,7,none⟩=some (.string h.bW):=fun w' hb=>(hb.cell (p:=⟨nb,7,none⟩) nW).trans y7;have Y8: ∀w',Below w3.heap.size w3 w'->w'.cell? ⟨nb,8,none⟩=some (.slice s.dX h.aI.len s.dA):=fun w' hb=>(hb.cell (p:=⟨nb,8,none⟩) nW).trans y8;have Y9: ∀w',Below w3.heap.size w3 w'->w'.cell? ⟨nb,9,none⟩=some (.slice s.cu b.len s.bJ):=fun w' hb=>(hb.cell (p:=⟨nb,9,none⟩) nW).trans y9;have qj: ∀w',Below w3.heap.size w3 w'->w'.cell? ⟨nb,10,none⟩=some (.slice s.gH e.len s.eB):=fun w' hb=>(hb.cell (p:=⟨nb,10,none⟩) nW).trans jP;have L3: ∀w',Below w3.heap.size w3 w'->w'.cell? ⟨L.bc,3,none⟩=some (.slice bR A.length bf):=fun w' hb=>(hb.cell (p:=⟨L.bc,3,none⟩) (by have:=HI3.o.sz; have:=L.c1; show L.bc < _; omega)).trans c3;clear y0 y1 y2 y3 y4 y5 y6 y7 y8 y9 jP c3 hdec;refine bG (by kernel_rfl) rfl ?_;refine aY 0 7 [] [[],[0],[0,1],[0,1,2],[],[0,1,2,3],[],[0,1,2,3,4,5,6],[0,1,2,3,4,5,6,7],[0,1,2,3,4,5,6,7,8],[0,1,2,3,4,5,6,7],[0,1,2,3,4,5,6,7,10],[0,1,2,3,4,5,6,7,10,11]] [[],[],[],[],[],[],[]] (fun _ w'=>Below w3.heap.size w3 w') (fun w w'=>Below w.heap.size w w') [35,36,37,38,39,40,41] rfl rfl (by rfl) (by kernel_rfl) (by kernel_rfl) (by kernel_rfl) (by kernel_rfl) (by kernel_rfl) (by rfl) (fun _=>Below.refl _ _) (by rfl) (below_drewN (Below.refl _ _) 1) ?_;simp only [eP,jC]
     iterate 6
      apply aU.step
      case aM=>intro c A w' hok hC hO hD;have e0:=hO 0 (by rfl);have e7:=hO 7 (by rfl);simp [Act.eval] at e0 e7;simp [Act.eval] at hD;simp [go_sem,gd,Oper.wp,hD,e0,e7,L3,hC,Y0,Y1,Y2,Y3,Y4,Y5,Y6,Y7,Y8,Y9,qj];exact aG.mk (Below.refl _ _) hC (bH.mk _ _)
     refine aU.some (fun v w'=> ∃bb,v= .slice (some ⟨bb,0,none⟩) 1 1∧w'.heap[bb]? =some (.cells Yv 68 (0,0))) ?_ ?_ ?_
     ·rintro v w w' hle ⟨bb,rfl,hbb⟩;exact ⟨bb,rfl,(hle.block bb (Array.getElem?_eq_some_iff.1 hbb).1).trans hbb⟩
     ·intro c A w' hok hC hO hD;simp [go_sem,gd,Oper.wp];exact aG.mk (d:=_) (v:= .slice (some ⟨_,0,none⟩) 1 1) (ak _ _) (hC.trans ((ak _ _).mono hC.size)) ⟨_,rfl,heap_alloc_new _ _⟩
     try simp only [bP]
     refine aU.done ?_;intro wz bC;simp only [List.drop_zero];intro v0 h0 v1 h1 v2 h2 v3 h3 v4 h4 v5 h5 v6 h6;have h0':v0=_:=h0;have h1':v1=_:=h1;have h2':v2=_:=h2;have h3':v3=_:=h3;have h4':v4=_:=h4;have h5':v5=_:=h5;subst h0' h1' h2' h3' h4' h5';obtain ⟨bb,rfl,hbb⟩:=h6;clear h0 h1 h2 h3 h4 h5;refine dJ.nil ?_;go_simp;refine bZ 7 [[],[0],[0,1],[0,1,2],[],[0,1,2,3],[],[0,1,2,3,4,5,6],[0,1,2,3,4,5,6,7],[0,1,2,3,4,5,6,7,8],[0,1,2,3,4,5,6,7],[0,1,2,3,4,5,6,7,10],[0,1,2,3,4,5,6,7,10,11]] rfl rfl rfl rfl rfl (by kernel_rfl) (by kernel_rfl) (by kernel_rfl) ?_;obtain ⟨i0,hi0,hz0,hz1,hz2⟩:=Uh;have Ch:=ah (HI3.o.below bC);refine wp_append_lies wz _ _ _ (by rfl) L.B1 68 i0 _ 11 176 Tryz.underlying61 hi0 hz0 hz1 hz2 (by rfl) (by omega) (.slice bR A.length bf) A.length (BH A) (by rfl) Ch.o.row ⟨bb,0,none⟩ 1 1 Yv.toList (by rfl) (by rfl) (World.news_of_block hbb) (by decide) (by omega) (by unfold maxLen; omega) (by omega) Ch.o.sz wz.heap.size rfl ?_;intro g' cap' w4 uq qU zm F5;clear hi0 hz0 hz1 hz2 hbb Y0 Y1 Y2 Y3 Y4 Y5 Y6 Y7 Y8 Y9 qj L3;have YJ:aj (uV w3 L.B0 h b e s):=ah (fu.o.below ((zG.o.mono wU.o.b0).trans (JF.o.below HI2.o.b0 (fun k e=>(HI2.o.own k e).1))));have zI:=ah (HI3.o.push ⟨h,b,e,s⟩ YJ.o bC uq qU zm);have hgb:=(uq.lt g' rfl).1;have dO:aj (w4.heap[L.bc]? =some (.cells (wkV p aB aD aA ay (j:Int) (.slice bR A.length bf) s3 e3) 104 (0,0))):=ah ((qU.block _ (Array.getElem?_eq_some_iff.1 Ch.o.blk).1 (fun e'=>Ch.o.ML (u:= .slice bR A.length bf) (by simp) e'.symm)).trans Ch.o.blk);have au8:=ah (M4 uq);have F4:g'≠L.bc:=(by have:=L.c1; omega);clear uq qU zm F5 hgb;go_simp;refine aY 8 13 [9,12] [[],[0],[0,1],[0,1,2],[],[0,1,2,3],[],[0,1,2,3,4,5,6],[0,1,2,3,4,5,6,7],[0,1,2,3,4,5,6,7,8],[0,1,2,3,4,5,6,7],[0,1,2,3,4,5,6,7,10],[0,1,2,3,4,5,6,7,10,11]] [[some false,none],[some false,none],[none,some false],[none,some false],[none,some false]] (PC w4 g' (A.length * 11) (pX h b e s) ⟨L.bc,3,none⟩ (.slice (some ⟨g',0,none⟩) (A.length + 1) cap')) (fun _ _=>True) [43,44,45] rfl rfl (by rfl) (by kernel_rfl) (by kernel_rfl) (by kernel_rfl) (by kernel_rfl) (by kernel_rfl) (by rfl) (fun _=>trivial) (by rfl) rfl ?_;simp only [eP,jC];have Lf:(0:Int)<=(A.length:Int):=(by omega);have hA1:(A.length:Int) < (A.length:Int) + 1:=(by omega);apply aU.step
     case aM=>intro c A w' hok hC hO hD;have e42:=hO 42 (by rfl);have e40:=hO 40 (by rfl);simp [Act.eval] at e42 e40;simp [Act.eval] at hD;simp [go_sem,gd,Oper.wp,hD,e42,e40,hA1];exact aG.mk trivial (PC.skip (by rfl) (by rfl) hC) (bH.mk _ _)
     refine aU.some (fun _ _=>True) (fun _ _ _ _ _=>trivial) ?_ ?_
     ·intro c A' w' hok hC hO hD;obtain ⟨x,y,rfl⟩:=hC.bits;obtain ⟨rfl,-⟩:=hok;have e39:=hO 39 (by rfl);simp [Act.eval] at hD;simp only [gd,if_true];refine wp_store_mid _ _ _ (by rfl) g' (A.length * 11) (pX h b e s).toArray (by simp [Act.eval,hD]) (e39.trans (by rfl)) (EH au8.o (hC.TB F4)) Ui (by simp [pX,Value.oneCell']) ?_;exact aG.CX trivial (PC.elt F4 (by rfl) (by rfl) hC) trivial
     try simp only [bP]
     iterate 2
      apply aU.step
      case aM=>intro c A w' hok hC hO hD;have e35:=hO 35 (by rfl);simp [Act.eval] at e35;simp [Act.eval] at hD;simp [go_sem,gd,Oper.wp,hD,e35];exact aG.mk trivial (PC.skip (by rfl) (by rfl) hC) (bH.mk _ _)
     refine aU.some (fun _ _=>True) (fun _ _ _ _ _=>trivial) ?_ ?_
     ·intro c A' w' hok hC hO hD;obtain ⟨x,y,rfl⟩:=hC.bits;obtain ⟨rfl,-⟩:=hok;have e42:=hO 42 (by rfl);simp [Act.eval] at e42;simp [Act.eval] at hD;have hbk0:w'.heap[L.bc]? =w4.heap[L.bc]?:=PC.TG (a:=⟨L.bc,3,none⟩) F4 hC (Array.getElem?_eq_some_iff.1 dO.o).1;have hbk:=hbk0.trans dO.o;have hcl:w'.cell? ⟨L.bc,3,none⟩=some (.slice bR A.length bf):=(eD hbk (j:=3) rfl).2;have hfr:w'.frozen? ⟨L.bc,3,none⟩=false:=dH hbk;simp [go_sem,gd,Oper.wp,hD,e42,hcl,hfr];exact aG.CX (v:=undef) trivial (PC.fld (by rfl) (by rfl) hC) trivial
     simp only [List.nil_append,List.cons_append,List.drop_succ_cons,List.drop_zero];refine aU.done ?_;intro w5 Xf;simp only [List.drop_succ_cons,List.drop_zero];intro v0 h0 v1 h1 v2 h2 v3 h3 v4 h4;clear h0 h1 h2 h3 h4;refine dJ.nil ?_;refine bV rfl ?_;have tN:aj (w5=(w4.setCells g' (A.length * 11) (pX h b e s)).setCell ⟨L.bc,3,none⟩ (.slice (some ⟨g',0,none⟩) (A.length + 1) cap')):=ah Xf;rw [<- tN.o] at zI;have iw:=ah zI.o.1;have JG:=ah zI.o.2.1;have Ml:=ah zI.o.2.2;have SH:aj (Kw L [v,vs,ve] w w5):=ah (Db.o.trans Wh.o zI.o.2.1);have SV:aj (mV w [v,vs,ve] [.slice (some ⟨g',0,none⟩) (A.length + 1) cap',s3,e3]):=ah (Wh.o.trans zI.o.2.2 Db.o.size);have Mq:aj (¬ Own [.slice (some ⟨g',0,none⟩) (A.length + 1) cap',s3,e3] nb):=ah (Ml.o.ne nW YQ.o);have FN:aj (w5.heap[nb]? =some (.cells (pX h b e s).toArray 68 (0,0))):=ah ((JG.o.far nW fD.o.1 YQ.o).trans Cb.o);have YC:=ah (JG.o.below HI3.o.b0 (fun k e=>(HI3.o.own k e).1));have Wj:aj (aH.At w5 L.B0 R (some ⟨bl,off,none⟩) (k + 1)):=ah (ko.o.below (((zG.o.mono wU.o.b0).trans (JF.o.below HI2.o.b0 (fun k e=>(HI2.o.own k e).1))).trans YC.o));have YI:=ah (YJ.o.below YC.o);have kg:aj (b.len<=maxLen∧e.len<=maxLen):=ah fu.o.1.2.2.2.2.2.2;have ZC:nb < w5.heap.size:=(Array.getElem?_eq_some_iff.1 FN.o).1;obtain ⟨-,-,-,-,-,-,-,-,-,y9,jP⟩:=Qd FN.o;clear Xf tN zI au8 dO Lf hA1 F4;clear hx nW Ch bC HI3 Db JF Cb JG Ml Pm HI2 uS xJ zG wU fu YJ ko HO HK Bl yV HF HG HI HAT Wh YQ YC;go_simp;have Nv:aj (res=if (gK p j t.nm t0.nm b (cK (A++[⟨h,b,e,s⟩])) (nms f3) (nms g3)).err != 0 then gK p j t.nm t0.nm b (cK (A++[⟨h,b,e,s⟩])) (nms f3) (nms g3) else Qg p j t.nm t0.nm e R (cK A) (cK (A++[⟨h,b,e,s⟩])) (gK p j t.nm t0.nm b (cK (A++[⟨h,b,e,s⟩])) (nms f3) (nms g3)).f (gK p j t.nm t0.nm b (cK (A++[⟨h,b,e,s⟩])) (nms f3) (nms g3)).g):=ah (by rw [Ah]; exact HT.o);clear HT;go_wp2_with fail;refine (Pv.o.1 _ s.cu s.bJ (A++[⟨h,b,e,s⟩]) f3 g3 _ s3 e3 kg.o.1 YI.o.2.2.2.1 Bp.o.2.1 (by simp; omega) yC.o.1 yC.o.2 iw.o).mono ?_;rintro e' w6 ⟨rfl,Qt,f6,g6,v6,s6,e6,TJ,Lg,hq6⟩;generalize gK p j t.nm t0.nm b (cK (A++[⟨h,b,e,s⟩])) (nms f3) (nms g3)=r1 at *;have YD:=ah (Qt.below iw.o.b0 (fun k e=>(iw.o.own k e).1));have FW:aj (Kw L [v,vs,ve] w w6):=ah (SH.o.trans SV.o Qt);have FY:aj (mV w [v,vs,ve] [v6,s6,e6]):=ah (SV.o.trans TJ SH.o.size);have Mr:aj (¬ Own [v6,s6,e6] nb):=ah (TJ.ne ZC Mq.o);have DI:aj (w6.heap[nb]? =some (.cells (pX h b e s).toArray 68 (0,0))):=ah ((Qt.far ZC fD.o.1 Mq.o).trans FN.o);have wW:=ah (Wj.o.below YD.o);have aq4:=ah (YI.o.below YD.o);have yX:=ah Lg;have Pq:=ah hq6;clear Qt TJ Lg hq6 YD SH SV Mq FN Wj YI iw ZC y9 jP yC;obtain ⟨-,-,-,-,-,-,-,-,-,y9,jP⟩:=Qd DI.o
     go_upto_if 54 with fail
     go_cut [8,9] (fun s8 s9 W7=> ∃(r2:Ns) (f7 g7:List ByteArray) (v7 s7 e7:Value),s8= .int .i64 r2.err∧s9= .int .i64 r2.line∧(res=if r2.err != 0 then r2 else gK p j t.nm t0.nm R (cK A) r2.f r2.g)∧Kw L [v,vs,ve] w W7∧mV w [v,vs,ve] [v7,s7,e7]∧R.At W7 L.B0 (some ⟨bl,off,none⟩) (k + 1)∧kM W7 L p aB aD aA ay (j:Int) (A++[⟨h,b,e,s⟩]) f7 g7 v7 s7 e7∧(r2.err=0->oz (kX p) r2.f∧oz (lQ p) r2.g∧nms f7=r2.f∧nms g7=r2.g))
     case first=>
      cases hr1:(r1.err == 0)
      ·have Bu:aj (res=if r1.err != 0 then r1 else gK p j t.nm t0.nm R (cK A) r1.f r1.g):=ah (by have hb:(r1.err != 0)=true:=(by simpa using hr1);rw [hb]; exact Nv.o.trans (by rw [hb]; rfl));clear Nv;go_wp2_with fail;go_meet;exact ⟨r1,f6,g6,v6,s6,e6,rfl,rfl,Bu.o,FW.o,FY.o,wW.o,yX.o,Pq.o⟩
      ·have hr0:r1.err=0:=(by simpa using hr1);have yC:=ah (Pq.o hr0);have Bu:aj (res=Qg p j t.nm t0.nm e R (cK A) (cK (A++[⟨h,b,e,s⟩])) (nms f6) (nms g6)):=ah (Nv.o.trans (by rw [hr0,yC.o.2.2.1,yC.o.2.2.2]; rfl));have bt6:nb < w6.heap.size:=(Array.getElem?_eq_some_iff.1 DI.o).1;clear Nv Pq hr0;go_wp2_with fail;refine (Pv.o.2 _ s.gH s.eB (A++[⟨h,b,e,s⟩]) f6 g6 v6 s6 e6 kg.o.2 aq4.o.2.2.2.2 Bp.o.2.2.1 (by simp; omega) (by rw [yC.o.2.2.1]; exact yC.o.1) (by rw [yC.o.2.2.2]; exact yC.o.2.1) yX.o).mono ?_;rintro e' w7 ⟨rfl,BI,f7,g7,v7,s7,e7,GJ,Dp,GU⟩;have sN:aj (res=if (gK p j t.nm t0.nm e (cK (A++[⟨h,b,e,s⟩])) (nms f6) (nms g6)).err != 0 then gK p j t.nm t0.nm e (cK (A++[⟨h,b,e,s⟩])) (nms f6) (nms g6) else gK p j t.nm t0.nm R (cK A) (gK p j t.nm t0.nm e (cK (A++[⟨h,b,e,s⟩])) (nms f6) (nms g6)).f (gK p j t.nm t0.nm e (cK (A++[⟨h,b,e,s⟩])) (nms f6) (nms g6)).g):=ah Bu.o;generalize gK p j t.nm t0.nm e (cK (A++[⟨h,b,e,s⟩])) (nms f6) (nms g6)=r2 at *;have aW9:=ah (BI.below yX.o.b0 (fun k e=>(yX.o.own k e).1));have J4:aj (Kw L [v,vs,ve] w w7):=ah (FW.o.trans FY.o BI);have Wi:aj (mV w [v,vs,ve] [v7,s7,e7]):=ah (FY.o.trans GJ FW.o.size);have kL:=ah (wW.o.below aW9.o);have J3:=ah Dp;have Ck:=ah GU;clear BI GJ Dp GU Bu y9 jP;go_wp2_with fail;go_meet;exact ⟨r2,f7,g7,v7,s7,e7,rfl,rfl,sN.o,J4.o,Wi.o,kL.o,J3.o,Ck.o⟩
     obtain ⟨r2,f7,g7,v7,s7,e7,rfl,rfl,hX,BI,GJ,hR7,Dp,GU⟩:=hcut;obtain ⟨W7,rfl⟩: ∃W:World,W=wc:=⟨_,rfl⟩;have HX:=ah hX;have J4:=ah BI;have Wi:=ah GJ;have kL:=ah hR7;have J3:=ah Dp;have Ck:=ah GU;clear hX BI GJ hR7 Dp GU y9 jP Nv FW FY Mr DI wW aq4 yX Pq;obtain ⟨g9,DT,rfl,hc9⟩: ∃g9 DT,v7= .slice (some ⟨g9,0,none⟩) (A.length + 1) DT∧A.length + 1<=DT:=by
      rcases J3.o.row.2 with ⟨-,hn⟩ | ⟨g',cap,cur,e',-,-,hcc,-⟩
      ·simp at hn
      ·exact ⟨g',cap,by rw [e']; simp,by simpa using hcc⟩
     have hcl: ∀w',Below W7.heap.size W7 w'->w'.cell? ⟨L.bc,3,none⟩=some (.slice (some ⟨g9,0,none⟩) (A.length + 1) DT):=fun w' hb=>(hb.cell (p:=⟨L.bc,3,none⟩) (by have:=J3.o.sz; have:=L.c1; show L.bc < _; omega)).trans (eD J3.o.blk (j:=3) rfl).2;have hz1:(0:Int)<=(A.length:Int):=(by omega);have hz2:(A.length:Int)<=(DT:Int):=(by omega);have hwr:IntKind.i64.wrap (A.length:Int)=(A.length:Int):=IntWalk.i64_in _ (by omega);have QL:(A.length:Int) + 1 - 1=(A.length:Int):=(by omega);go_upto_region 14 with fail;refine bG (by kernel_rfl) rfl ?_;refine aY 0 14 [] [[],[],[1],[1,2],[1,2,3],[],[5],[5,6],[5,6,7],[5,6,7,8],[5,6,7,8,9],[1,2,3,4,5,6,7,8,9,10],[0,1,2,3,4,5,6,7,8,9,10,11],[0,1,2,3,4,5,6,7,8,9,10,11,12],[0,1,2,3,4,5,6,7,8,9,10,11,12,13]] [[],[],[],[],[],[],[],[],[],[],[],[],[],[]] (fun _ w'=>Below W7.heap.size W7 w') (fun w w'=>Below w.heap.size w w') [62,63,64,65,66,67,68,69,70,71,72,73,74,75] rfl rfl (by rfl) (by kernel_rfl) (by kernel_rfl) (by kernel_rfl) (by kernel_rfl) (by kernel_rfl) (by rfl) (fun _=>Below.refl _ _) (by rfl) (below_drewN (Below.refl _ _) 1) ?_;simp only [eP,jC]
     iterate 14
      apply aU.step
      case aM=>intro c A w' hok hC hO hD;have e0:=hO 0 (by rfl);simp [Act.eval] at e0;simp [Act.eval] at hD;simp [go_sem,gd,Oper.wp,hD,e0,hcl,hC,QL,hwr,hz1,hz2];exact aG.mk (Below.refl _ _) hC (bH.mk _ _)
      try simp only [bP]
     try simp only [bP]
     refine aU.done ?_;intro wz bC;simp only [List.drop_zero];intro v0 h0 v1 h1 v2 h2 v3 h3 v4 h4 v5 h5 v6 h6 v7 h7 v8 h8 v9 h9 v10 h10 v11 h11 v12 h12 v13 zl;have JY:v11=_:=h11;have MV:v13=_:=zl;subst JY MV;clear h0 h1 h2 h3 h4 h5 h6 h7 h8 h9 h10 h11 h12 zl;refine dJ.nil ?_;go_simp;have NI:=ah (kM.pop ⟨h,b,e,s⟩ J3.o bC);have hclz:wz.cell? ⟨L.bc,3,none⟩=some (.slice (some ⟨g9,0,none⟩) (A.length + 1) DT):=hcl wz bC;have QE:wz.frozen? ⟨L.bc,3,none⟩=false:=dH ((J3.o.below bC).blk);clear hcl QL hwr;refine bZ 14 [[],[],[1],[1,2],[1,2,3],[],[5],[5,6],[5,6,7],[5,6,7,8],[5,6,7,8,9],[1,2,3,4,5,6,7,8,9,10],[0,1,2,3,4,5,6,7,8,9,10,11],[0,1,2,3,4,5,6,7,8,9,10,11,12],[0,1,2,3,4,5,6,7,8,9,10,11,12,13]] rfl rfl rfl rfl rfl (by kernel_rfl) (by kernel_rfl) (by kernel_rfl) ?_;simp [go_sem,Oper.wp,hclz,QE];refine bV rfl ?_;clear hclz QE bC;go_simp;have HK8:=ah (J4.o.trans Wi.o NI.o.2);have HO8:aj (mV w [v,vs,ve] [.slice (some ⟨g9,0,none⟩) A.length DT,s7,e7]):=ah (fun k hk=>Wi.o k (by
      rcases wD.1 hk with e | e | e
      ·exact wD.2 (.inl e)
      ·exact wD.2 (.inr (.inl e))
      ·exact wD.2 (.inr (.inr e))))
     have Dg:=ah (kL.o.below (NI.o.2.below J3.o.b0 (fun k e=>(J3.o.own k e).1)));have HI8:=ah NI.o.1;clear NI J4 Wi kL J3;cases hr2:(r2.err != 0)
     ·have Px:aj (res=gK p j t.nm t0.nm R (cK A) (nms f7) (nms g7)):=ah (HX.o.trans (by rw [hr2,(Ck.o (by simpa using hr2)).2.2.1,(Ck.o (by simpa using hr2)).2.2.2]; rfl));have yC:aj (oz (kX p) (nms f7)∧oz (lQ p) (nms g7)):=ah (by have:=Ck.o (by simpa using hr2);rw [this.2.2.1,this.2.2.2]; exact ⟨this.1,this.2.1⟩);clear HX Ck;go_wp2_with fail;go_roundw
      case rel=>exact ⟨k + 1,R,f7,g7,_,s7,e7,by go_num,by simp only [aH.len] at hlen; omega,Px.o,Yy.o,Dg.o,Bp.o.2.2.2,yC.o.1,yC.o.2,HK8.o,HO8.o,HI8.o⟩
      case measure=>simp [intOf]; omega
     ·have Px:aj (res=r2):=ah (HX.o.trans (if_pos hr2));have HX0:aj (r2.err≠0):=ah (by simpa using hr2);clear HX Ck;go_wp2_with fail
      go_ret2
      refine ⟨rM (by rw [Px.o]; rfl) (by rw [Px.o]; rfl),HK8.o,f7,g7,_,s7,e7,HO8.o,HI8.o,fun h0=> ?_⟩;rw [Px.o] at h0; exact (HX0.o h0).elim
theorem Yt (L:ug) (p:Pr) (aB aD:Option Addr) (aA ay:Nat) (j:Nat) (t t0:Th) (r r0:List Th) (hd:p.ts.drop j=t ::r) (hts:p.ts=t0 ::r0) (hj:bS (j:Int)) (hT:p.ts.length<=1000000000000) (hD:p.ds.length<=1000000000000) (rH:wG p.ds p.ts []=none) (hsd: ∀d ∈ p.ds,jd d=true) (l:aH):Ei L p aB aD aA ay j t t0 l:=
 Kt L p aB aD aA ay j t t0 r r0 hd hts hj hT hD rH hsd l (aH.nV (fun _ b e hb he=>⟨Kt L p aB aD aA ay j t t0 r r0 hd hts hj hT hD rH hsd b hb,Kt L p aB aD aA ay j t t0 r r0 hd hts hj hT hD rH hsd e he⟩) l)
end Go.Proofs.YtfbbaiejbjdfbaaGreatDoor
