/-
  What the reference's walk says of a statement is what the checker says; the contract of the walk's one at every operator.
  Contract of the reference walk's all.
-/
import Derived.Test.YtnknfoibmgphnaaDoorGRD
import Derived.Test.YtnknfoibmgphnaaDoorGRH
import Derived.Test.YtnknfoibmgphnaaDoorGME
import Derived.Test.YtnknfoibmgphnaaDoorGMK
section
set_option linter.unusedSimpArgs false
set_option linter.unusedVariables false
namespace Go.Proofs.YtnknfoibmgphnaaDoor
open Go.RowKit
namespace Md
def nms (l:List ByteArray):List (List UInt8):=(l.map (·.toList)).reverse
def tN (k:Int) (h:eH) (l:List ByteArray):List ByteArray:=if h.op == k then l++[h.nm] else l
theorem yP (k:Int) (h:eH) (l:List ByteArray):nms (tN k h l)=fL k h (nms l):=by
 unfold nms tN fL; cases h.op == k <;> simp
theorem Fa (l:List ByteArray) (x:List UInt8):mem (nms l) x=kr l x:=by
 unfold mem nms kr
 rw [Bool.eq_iff_iff,List.contains_iff_mem]
 simp [List.any_eq_true]
theorem Fj (l:List ByteArray):(nms l).length=l.length:=by simp [nms]
theorem BD {ds:List De} : ∀(ts pre:List Th),jP ds ts pre=none→ ∀(k:Nat) (d:Th) (r:List Th),ts.drop k=d ::r→iO (pre++ts.take k) d.nm.toList=false
 | [],_,_,k,d,r,hd=>by simp at hd
 | t ::ts,pre,h,k,d,r,hd=>by
   unfold jP at h
   split at h
   ·cases h
   ·rename_i hc
    cases k with
    | zero=>
      simp only [List.drop_zero,List.cons.injEq] at hd
      obtain ⟨rfl,rfl⟩:=hd
      simp only [Bool.or_eq_true,not_or,Bool.not_eq_true] at hc
      simpa using hc.2
    | succ k=>
      have:=BD ts (pre++[t]) h k d r (by simpa using hd)
      simpa using this
theorem BL {l:List Th} {x:List UInt8} (h:iO l x=false): ∀t ∈ l,t.nm.toList≠x:=fun t ht e=>by
 unfold iO at h
 rw [List.any_eq_false] at h
 exact h t ht (by simp [e])
theorem Jo {p:Pr} {j:Int} {nm:ByteArray} (h:mean p j nm=8):p.ts.any (fun t=>t.nm.toList == nm.toList)=true:=by
 have:=yY h
 unfold je at this
 obtain ⟨t,ht,e⟩:=List.mem_map.1 this
 exact List.any_eq_true.2 ⟨t,ht,by simp [e]⟩
theorem tu {ts:List Th} {j k:Nat} {t:Th} {r:List Th} (hd:ts.drop j=t ::r) (hjk:j < k):t ∈ ts.take k:=by
 have h1:ts[j]? =some t:=by have:=List.getElem?_drop (xs:=ts) (i:=j) (j:=0); rw [hd] at this; simpa using this.symm
 have h2:(ts.take k)[j]? =some t:=by rw [List.getElem?_take,if_pos hjk]; exact h1
 exact List.mem_of_getElem? h2
theorem AJ {p:Pr} {i:Int} {nm:ByteArray} {j:Nat} {t:Th} {r:List Th} (mh:jP p.ds p.ts []=none) (hd:p.ts.drop j=t ::r) (hm:mean p i nm=8):(kY p.ts nm == (j:Int))=(nm.toList == t.nm.toList):=by
 have ha:=Jo hm
 rcases lH (fun t:Th=>t.nm.toList == nm.toList) p.ts 0 with ⟨-,-,hn⟩ | ⟨k,d,r',hk,hf,hdk,hs,-⟩
 ·rw [ha] at hn; cases hn
 ·have hdn:d.nm.toList=nm.toList:=by simpa using List.find?_some hs
  have hU:=BD p.ts [] mh
  have e:kY p.ts nm=(k:Int):=by unfold kY; simpa using hf
  rw [e,Bool.eq_iff_iff,beq_iff_eq,beq_iff_eq]
  constructor
  ·intro hkj
   have:k=j:=by omega
   subst this
   rw [hd] at hdk
   injection hdk with h1 h2
   rw [h1]; exact hdn.symm
  ·intro hnm
   by_cases hlt:k < j
   ·exact absurd (by rw [hdn,hnm]) (BL (hU j t r hd) d (by simpa using tu hdk hlt))
   ·by_cases hgt:j < k
    ·exact absurd (by rw [hdn,hnm]) (BL (hU k d r' hdk) t (by simpa using tu hd hgt))
    ·omega
theorem F3 {nm:ByteArray} (h:ji nm true=true):nm.toList.isEmpty=false:=by
 unfold ji at h
 rw [if_pos rfl] at h
 rw [Lib.toList_data]
 cases hl:nm.data.toList with
 | nil=>rw [hl] at h; exact absurd h (by decide)
 | cons a r=>rfl
theorem JO {h:eH} {bl el:Nat} (hs:ru h bl el=true):1≤h.op∧h.op≤15:=by
 unfold ru fO at hs
 simp only [Bool.and_eq_true,decide_eq_true_eq] at hs
 exact ⟨hs.1.1.1.1,hs.1.1.1.2⟩
theorem Jg {h:eH} {bl el:Nat} (hs:ru h bl el=true) (hf:fN h.op=true):h.nm.toList.isEmpty=false:=by
 unfold ru at hs
 simp only [Bool.and_eq_true] at hs
 have:=hs.1.1.2.1
 rw [hf] at this
 exact F3 this
theorem MQ {d:De} (hs:jw d=true) (hk:d.kind=5):d.on.toList.isEmpty=false:=by
 unfold jw at hs
 simp only [Bool.and_eq_true] at hs
 have:=hs.2.2
 rw [hk] at this
 exact F3 this
theorem BM (p:Pr) (i:Int) (nm:ByteArray) (k a:Int) (hk:0≤k∧k≤9) (ha:conv k=a) (h0:bR (conv (mean p i nm)) a a=0):mean p i nm=k:=by
 rw [← jY p i nm k a hk ha] at h0; exact sP h0
theorem AY {a x y:Int} (h:a=0→x=y):fP a x=fP a y:=by
 unfold fP
 cases ha:(a != 0)
 ·exact h (by simpa using ha)
 ·rfl
theorem Lj (a b:Int):(if a != 0 then a else b)=fP a b:=rfl
section
variable {p:Pr} {j:Nat} {tn dF:ByteArray} {ar:aR} {f g:List UInt8→Bool} {h:eH}
theorem K6 (hsd: ∀d ∈ p.ds,jw d=true) (q:Bool):
 (if bR (conv (mean p j h.nm)) 5 5 != 0 then bR (conv (mean p j h.nm)) 5 5 else nest ((aU ar 7 7 ⟨#[]⟩ || !aU ar 4 4 (ig p.ds h.nm)) || (q && aU ar 8 8 ⟨#[]⟩)))=dR [bC (mean p j h.nm) [6],nest ((dB ar [7] || !kI ar (ig p.ds h.nm) [4]) || (q && dB ar [8]))]:=by
 rw [nW,Lj,jY p j h.nm 6 5 (by decide) rfl,kL,kL]
 refine AY (fun h0=> ?_)
 obtain ⟨k,d,r,-,-,-,hm,hk,hmu⟩:=sS h0
 rw [hmu,zo 4 d.on (MQ (hsd d hm) hk)]
theorem Ql {t t0:Th} {r r0:List Th} (mh:jP p.ds p.ts []=none) (hd:p.ts.drop j=t ::r) (hts:p.ts=t0 ::r0) {fs:List ByteArray} :
 (if bR (conv (mean p j h.nm)) 7 7 != 0 then bR (conv (mean p j h.nm)) 7 7 else if ((((aU ar 7 7 ⟨#[]⟩ || aU ar 8 8 ⟨#[]⟩) || aU ar 3 3 ⟨#[]⟩) || kY p.ts h.nm == (j:Int)) || kY p.ts h.nm == 0) then 7 else iN (kr fs h.nm.toList))=
 dR [bC (mean p j h.nm) [8],nest (dB ar [7,8,3] || (h.nm.toList == t.nm.toList || h.nm.toList == t0.nm.toList)),iN (mem (nms fs) h.nm.toList)]:=by
 rw [uZ,Lj,jY p j h.nm 8 7 (by decide) rfl,kL,kL,kL,Aa]
 refine AY (fun h0=> ?_)
 have hm:=BM p j h.nm 8 7 (by decide) rfl h0
 have e0:=AJ (j:=0) (t:=t0) (r:=r0) mh (by simpa using hts) hm
 have e1:=AJ mh hd hm
 rw [e1,show ((0:Int))=((0:Nat):Int) from rfl,e0,Fa,Bool.or_assoc (_ || _) (_ == _)]
 cases ((dB ar [7] || dB ar [8] || dB ar [3]) || (h.nm.toList == t.nm.toList || h.nm.toList == t0.nm.toList)) <;> simp [nest,fP]
theorem Qf {t:Th} {r:List Th} (mh:jP p.ds p.ts []=none) (hd:p.ts.drop j=t ::r):
 fP (bR (conv (mean p j h.nm)) 7 7) (nest ((aU ar 7 7 ⟨#[]⟩ || aU ar 8 8 ⟨#[]⟩) || kY p.ts h.nm == (j:Int)))=dR [bC (mean p j h.nm) [8],nest (dB ar [7,8] || h.nm.toList == t.nm.toList)]:=by
 rw [nW,jY p j h.nm 8 7 (by decide) rfl,kL,kL,wN]
 refine AY (fun h0=> ?_)
 rw [AJ mh hd (BM p j h.nm 8 7 (by decide) rfl h0)]
theorem PY {gs:List ByteArray} {x:Int} :
 fP (if (fP (bR (conv (mean p j h.nm)) 6 6) (nest (aU ar 7 7 ⟨#[]⟩ || aU ar 3 3 ⟨#[]⟩)) == 0) && kr gs h.nm.toList then 8 else fP (bR (conv (mean p j h.nm)) 6 6) (nest (aU ar 7 7 ⟨#[]⟩ || aU ar 3 3 ⟨#[]⟩))) x=
 dR [bC (mean p j h.nm) [7],nest (dB ar [7,3]),iN (mem (nms gs) h.nm.toList),x]:=by
 rw [kL,kL,wN,Fa,jY p j h.nm 7 6 (by decide) rfl]
 generalize bR (conv (mean p j h.nm)) 6 6=a
 generalize nest (dB ar [7] || dB ar [3])=b
 generalize kr gs h.nm.toList=c
 unfold dR dR dR dR fP iN
 cases ha:(a != 0) <;> cases hb:(b != 0) <;> cases c <;> simp_all [dR]
 all_goals (intro hx; exact hx.symm)
end
end Md
open Md
theorem lu.plain {w w':World} {L:nu} {p:Pr} {aC aF:Option Addr} {aA av:Nat} {i:Int} {A:List Fr} {fs gs:List ByteArray} {v vs ve:Value} {h:eH} {r x:Int} {e:Ending}
 (hI:jc w L p aC aF aA av i A fs gs v vs ve) (h12:(h.op == 12)=false) (lG:(h.op == 14)=false) (hr:x=r) (hp:e= .returned (.int .i64 x)∧Below w.heap.size w w'):lu w L p aC aF aA av i A fs gs v vs ve (tN 12 h fs) (tN 14 h gs) r e w':=by
 subst hr
 refine ⟨hp.1,Kw.of_below hp.2,fs,gs,vs,ve,jF.refl _ _,hI.below hp.2,fun _=> ?_⟩
 unfold tN; rw [h12,lG]; exact ⟨rfl,rfl⟩
theorem Ib (L:nu) (p:Pr) (w:World) (aC aF:Option Addr) (aA av:Nat) (j:Nat) (A:List Fr) (fs gs:List ByteArray) (v vs ve:Value) (hI:jc w L p aC aF aA av (j:Int) A fs gs v vs ve) (h:eH) (b e:aR) (s:Sl) (hin:nQ w L.B0 h b e s) (hj:aX (j:Int)) (hA:A.length≤maxLen) (hfs:fs.length≤1000000000000) (hgs:gs.length≤1000000000000)
 (t t0:Th) (r r0:List Th) (hd:p.ts.drop j=t ::r) (hts:p.ts=t0 ::r0) (mh:jP p.ds p.ts []=none) (hsd: ∀d ∈ p.ds,jw d=true) (hsh:ru h b.len e.len=true):
 Calls Tryd.prog 39 #[.pointer (some ⟨L.bc,0,none⟩),aY h b e s] w (lu w L p aC aF aA av (j:Int) A fs gs v vs ve (tN 12 h fs) (tN 14 h gs) (iI p j t.nm t0.nm (bF A) (mem (nms fs)) (mem (nms gs)) h)):=by
 have hop:=JO hsh
 have hnm:=Jg hsh
 have hc:h.op=12∨h.op=14∨h.op=1∨h.op=2∨h.op=3∨h.op=4∨h.op=5∨h.op=6∨h.op=7∨h.op=8∨h.op=9∨h.op=10∨h.op=11∨h.op=13∨h.op=15:=by omega
 rcases hc with hc | hc | hc
 ·refine (Mi L p w aC aF aA av j A fs gs v vs ve hI h b e s hin hj hA hfs hgs hc).mono (fun e' w' hr=> ?_)
  have e1:tN 12 h fs=fs++[h.nm]:=by unfold tN; rw [hc]; rfl
  have e2:tN 14 h gs=gs:=by unfold tN; rw [hc]; rfl
  have e3:iI p j t.nm t0.nm (bF A) (mem (nms fs)) (mem (nms gs)) h=dR [bC (mean p j h.nm) [8],nest (dB (bF A) [7,8,3] || (h.nm.toList == t.nm.toList || h.nm.toList == t0.nm.toList)),iN (mem (nms fs) h.nm.toList)]:=by unfold iI; simp [hc]
  rw [e1,e2,e3,← Ql mh hd hts]
  exact hr
 ·refine (Mv L p w aC aF aA av j A fs gs v vs ve hI h b e s hin hj hA hfs hgs hc).mono (fun e' w' hr=> ?_)
  have e1:tN 12 h fs=fs:=by unfold tN; rw [hc]; rfl
  have e2:tN 14 h gs=gs++[h.nm]:=by unfold tN; rw [hc]; rfl
  have e3:iI p j t.nm t0.nm (bF A) (mem (nms fs)) (mem (nms gs)) h=dR [bC (mean p j h.nm) [7],nest (dB (bF A) [7,3]),iN (mem (nms gs) h.nm.toList),iE p j h.dU h.xn h.dV h.bq]:=by unfold iI; simp [hc]
  rw [e1,e2,e3,← PY]
  exact hr
 ·obtain ⟨aJ,aI,rfl,hat⟩:=hI.form
  obtain ⟨bV,bf,rfl,-⟩:=hI.Gi
  obtain ⟨bW,aZ,rfl,-⟩:=hI.Gy
  have hp:=hI.dat.use hI.b0
  have hin':=hin.use hI.b0
  have hal:(bF A).len≤maxLen:=by rw [mU]; exact hA
  have hh:=hI.holds
  rcases hc with hc | hc | hc | hc | hc | hc | hc | hc | hc | hc | hc | hc | hc
  ·cases hix:h.idx with
   | nil=>
     refine (MN p w aC aF aA av j aJ aI L.bc bV _ bf bW _ aZ h b e (bF A) s hj hp hin' hal hat hh hc (by rw [hix]; rfl)).mono (fun e' w' hr=>lu.plain hI (by rw [hc]; rfl) (by rw [hc]; rfl) ?_ hr)
     rw [← FX,← nW]; unfold iI tO; simp [hc,hix,bJ.len]
   | cons yA n0 yu qp vY=>
     refine (M9 p w aC aF aA av j aJ aI L.bc bV _ bf bW _ aZ h b e (bF A) s hj hp hin' hal hat hh hc yA n0 yu qp vY hix).mono (fun e' w' hr=>lu.plain hI (by rw [hc]; rfl) (by rw [hc]; rfl) ?_ hr)
     have hne: ¬ ((vY.len:Int) + 1=0):=by omega
     rw [← jY p j h.nm 3 2 (by decide) rfl,← uZ]; unfold iI tO GY; simp [hc,hix,bJ.len,hne]
  ·exact (Pz p w aC aF aA av j aJ aI L.bc bV _ bf bW _ aZ h b e (bF A) s hj hp hin' hal hat hh hc).mono (fun e' w' hr=>lu.plain hI (by rw [hc]; rfl) (by rw [hc]; rfl) (by unfold iI; simp [hc]) hr)
  ·exact (OP p w aC aF aA av j aJ aI L.bc bV _ bf bW _ aZ h b e (bF A) s hj hp hin' hal hat hh hc).mono (fun e' w' hr=>lu.plain hI (by rw [hc]; rfl) (by rw [hc]; rfl) (by unfold iI; simp [hc]) hr)
  ·refine (Nl p w aC aF aA av j aJ aI L.bc bV _ bf bW _ aZ h b e (bF A) s hj hp hin' hal hat hh hc).mono (fun e' w' hr=>lu.plain hI (by rw [hc]; rfl) (by rw [hc]; rfl) ?_ hr)
   rw [← jY p j h.nm 4 3 (by decide) rfl,← nW,kL,zo 4 h.nm (hnm (by rw [hc]; rfl))]; unfold iI; simp [hc]
  ·refine (OQ p w aC aF aA av j aJ aI L.bc bV _ bf bW _ aZ h b e (bF A) s hj hp hin' hal hat hh hc).mono (fun e' w' hr=>lu.plain hI (by rw [hc]; rfl) (by rw [hc]; rfl) ?_ hr)
   rw [← jY p j h.nm 5 4 (by decide) rfl,← nW,kL,zM 5 6 h.nm (hnm (by rw [hc]; rfl))]; unfold iI; simp [hc]
  ·refine (NA p w aC aF aA av j aJ aI L.bc bV _ bf bW _ aZ h b e (bF A) s hj hp hin' hal hat hh hc).mono (fun e' w' hr=>lu.plain hI (by rw [hc]; rfl) (by rw [hc]; rfl) ?_ hr)
   rw [← jY p j h.nm 5 4 (by decide) rfl,← nW,kL,zM 5 6 h.nm (hnm (by rw [hc]; rfl))]; unfold iI; simp [hc]
  ·refine (NT p w aC aF aA av j aJ aI L.bc bV _ bf bW _ aZ h b e (bF A) s hj hp hin' hal hat hh hc).mono (fun e' w' hr=>lu.plain hI (by rw [hc]; rfl) (by rw [hc]; rfl) ?_ hr)
   rw [kL]; unfold iI; simp [hc]
  ·refine (Oe p w aC aF aA av j aJ aI L.bc bV _ bf bW _ aZ h b e (bF A) s hj hp hin' hal hat hh hc).mono (fun e' w' hr=>lu.plain hI (by rw [hc]; rfl) (by rw [hc]; rfl) ?_ hr)
   rw [kL,kL,← wN]; unfold iI; simp [hc]
  ·refine (O1 p w aC aF aA av j aJ aI L.bc bV _ bf bW _ aZ h b e (bF A) s hj hp hin' hal hat hh hc).mono (fun e' w' hr=>lu.plain hI (by rw [hc]; rfl) (by rw [hc]; rfl) ?_ hr)
   rw [K6 hsd]; unfold iI; simp [hc]
  ·refine (MZ p w aC aF aA av j aJ aI L.bc bV _ bf bW _ aZ h b e (bF A) s hj hp hin' hal hat hh hc).mono (fun e' w' hr=>lu.plain hI (by rw [hc]; rfl) (by rw [hc]; rfl) ?_ hr)
   rw [K6 hsd]; unfold iI; simp [hc]
  ·refine (Mq p w aC aF aA av j aJ aI L.bc bV _ bf bW _ aZ h b e (bF A) s hj hp hin' hal hat hh hc).mono (fun e' w' hr=>lu.plain hI (by rw [hc]; rfl) (by rw [hc]; rfl) ?_ hr)
   rw [K6 hsd]; unfold iI; simp [hc]
  ·refine (Mx p w aC aF aA av j aJ aI L.bc bV _ bf bW _ aZ h b e (bF A) s hj hp hin' hal hat hh hc).mono (fun e' w' hr=>lu.plain hI (by rw [hc]; rfl) (by rw [hc]; rfl) ?_ hr)
   rw [Qf mh hd]; unfold iI; simp [hc]
  ·refine (MB p w aC aF aA av j aJ aI L.bc bV _ bf bW _ aZ h b e (bF A) s hj hp hin' hal hat hh hc).mono (fun e' w' hr=>lu.plain hI (by rw [hc]; rfl) (by rw [hc]; rfl) ?_ hr)
   rw [← jY p j h.nm 1 8 (by decide) rfl,← jY p j h.arg 7 6 (by decide) rfl,kL,← uZ]; unfold iI; simp [hc]
end Go.Proofs.YtnknfoibmgphnaaDoor
end
section
set_option linter.unusedSimpArgs false
set_option linter.unusedVariables false
namespace Go.Proofs.YtnknfoibmgphnaaDoor
open Go.RowKit
open Md
def OD (w:World) (L:nu) (p:Pr) (aC aF:Option Addr) (aA av:Nat) (i:Int) (A:List Fr) (v vs ve:Value) (r:BI) (e:Ending) (w':World):Prop:=
 e= .returned (.tuple #[.int .i64 r.err,.int .i64 r.line])∧Kw L [v,vs,ve] w w'∧ ∃fs' gs' v' vs' ve',jF w [v,vs,ve] [v',vs',ve']∧jc w' L p aC aF aA av i A fs' gs' v' vs' ve'∧(r.err=0→kg (je p) r.f∧kg (jm p) r.g∧nms fs'=r.f∧nms gs'=r.g)
def vP (L:nu) (p:Pr) (aC aF:Option Addr) (aA av:Nat) (j:Nat) (t t0:Th) (l:aR):Prop:=
 ∀(w:World) (ao:Option Addr) (cap:Nat) (A:List Fr) (fs gs:List ByteArray) (v vs ve:Value),l.len≤maxLen→l.At w L.B0 ao 0→eP l=true→A.length≤6→kg (je p) (nms fs)→kg (jm p) (nms gs)→jc w L p aC aF aA av (j:Int) A fs gs v vs ve→
  Calls Tryd.prog 22 #[.pointer (some ⟨L.bc,0,none⟩),.slice ao l.len cap] w (OD w L p aC aF aA av (j:Int) A v vs ve (dh p j t.nm t0.nm l (bF A) (nms fs) (nms gs)))
theorem Ox {p:Pr} {fs:List ByteArray} {n:Nat} (h:kg (je p) (nms fs)) (hT:p.ts.length≤n):fs.length≤n:=by
 have:=h.le; rw [Fj] at this; unfold je at this; rw [List.length_map] at this; omega
theorem PK {p:Pr} {fs:List ByteArray} {n:Nat} (h:kg (jm p) (nms fs)) (hT:p.ds.length≤n):fs.length≤n:=by
 have:=h.le; rw [Fj] at this; unfold jm at this; rw [List.length_map] at this; omega
set_option maxHeartbeats 8000000 in
set_option maxRecDepth 100000 in
theorem zw (L:nu) (p:Pr) (aC aF:Option Addr) (aA av:Nat) (j:Nat) (t t0:Th) (r r0:List Th) (hd:p.ts.drop j=t ::r) (hts:p.ts=t0 ::r0) (hj:aX (j:Int)) (hT:p.ts.length≤1000000000000) (hD:p.ds.length≤1000000000000) (mh:jP p.ds p.ts []=none) (hsd: ∀d ∈ p.ds,jw d=true) (l:aR) (hall:l.All fun _ b e=>vP L p aC aF aA av j t t0 b∧vP L p aC aF aA av j t t0 e):vP L p aC aF aA av j t t0 l:=by
 intro w ao cap A fs gs v vs ve hl hat hsh hA hf hg hI
 generalize hres:dh p j t.nm t0.nm l (bF A) (nms fs) (nms gs)=res
 have HR:=Lib.hid hres
 have HAT:=Lib.hid hat
 have dw:=Lib.hid hall
 have vL:=Lib.hid hsh
 have HF:=Lib.hid hf
 have HG:=Lib.hid hg
 have HI:=Lib.hid hI
 have rZ:=Lib.hid mh
 have pR:=Lib.hid hsd
 have TL:=Lib.hid hT
 have Pg:=Lib.hid hD
 have HD:=Lib.hid hd
 have vO:=Lib.hid hts
 unfold maxLen at hl
 have HA:=Lib.hid hA
 clear hres hat hall hf hg hI hA hsh mh hsd hT hD hd hts
 go_enter Tryd.func22,Tryd.ntmps22
 go_wp2_with fail
 go_loopw [6,7,8,9] (fun s _ _ _ wr=> ∃(k:Nat) (R:aR) (f1 g1:List ByteArray) (v1 s1 e1:Value),s= .int .i64 k∧k + R.len=l.len∧res=dh p j t.nm t0.nm R (bF A) (nms f1) (nms g1)∧(R.All fun _ b e=>vP L p aC aF aA av j t t0 b∧vP L p aC aF aA av j t t0 e)∧R.At wr L.B0 ao k∧eP R=true∧kg (je p) (nms f1)∧kg (jm p) (nms g1)∧Kw L [v,vs,ve] w wr∧jF w [v,vs,ve] [v1,s1,e1]∧jc wr L p aC aF aA av (j:Int) A f1 g1 v1 s1 e1) (fun s _ _ _ _=>l.len - (intOf s).toNat)
 case atStart=>exact ⟨0,l,fs,gs,v,vs,ve,rfl,by simp,HR.out.symm,dw.out,HAT.out,vL.out,HF.out,HG.out,Kw.refl _ _ _,jF.refl _ _,HI.out⟩
 case round=>
  obtain ⟨k,R,f1,g1,v1,s1,e1,rfl,hlen,heq,hall,hrow,hsl,hf1,hg1,Qv,He,hI⟩:=hrel
  have HE:=Lib.hid heq
  have HK:=Lib.hid Qv
  have HO:=Lib.hid He
  have HSL:=Lib.hid hsl
  clear heq Qv He hsl
  cases R with
  | nil=>
    obtain rfl:k=l.len:=by simpa [aR.len] using hlen
    have HX:Hid (OD w L p aC aF aA av (j:Int) A v vs ve res (.returned (.tuple #[.int .i64 0,.int .i64 0])) wr):=Lib.hid (by
     rw [HE.out]; exact ⟨rfl,HK.out,f1,g1,v1,s1,e1,HO.out,hI,fun _=>⟨hf1,hg1,rfl,rfl⟩⟩)
    clear hI hall hrow hf1 hg1 HE
    go_wp2_with fail
    go_ret2
    exact HX.out
  | cons h b e R=>
    obtain ⟨bl,off,s,rfl,hbl,hin,x0,x1,x2,x3,x4,x5,x6,x7,x8,x9,x10,hrest⟩:=aR.At.KE hrow
    have hkl:k < l.len:=by simp only [aR.len] at hlen; omega
    obtain ⟨lT,Ad⟩:=hall
    obtain ⟨aJ,aI,rfl,-⟩:=hI.form
    have D9:=Lib.hid lT
    have Jp:=Lib.hid Ad
    have xM:=Lib.hid hf1
    have qE:=Lib.hid hg1
    have jV:=Lib.hid hin
    have uj:=Lib.hid hrest
    have tC:=Lib.hid hI
    have La:Hid (ru h b.len e.len=true∧eP b=true∧eP e=true∧eP R=true):=Lib.hid (by
     have:=HSL.out
     unfold eP at this
     simp only [Bool.and_eq_true] at this
     exact ⟨this.1.1,this.1.2.1,this.1.2.2,this.2⟩)
    clear hrow hin lT Ad hf1 hg1 hrest hI HSL
    go_upto_region 5 with fail
    obtain ⟨nb,hnb⟩: ∃n,wr.heap.size=n:=⟨_,rfl⟩
    generalize hW2:World.alloc wr _=W2
    have lY:Hid (W2.heap[nb]? =some (.cells (kS h b e s).toArray 42 (0,0))):=Lib.hid (by rw [← hW2,← hnb]; exact heap_alloc_new _ _)
    have qM:Hid (Below wr.heap.size wr W2):=Lib.hid (by rw [← hW2]; exact ay _ _)
    have HI2:=Lib.hid (tC.out.below qM.out)
    have uq:Hid (Kw L [v,vs,ve] w W2):=Lib.hid (HK.out.trans HO.out (Kw.of_below qM.out))
    have rX:Hid (L.B1≤nb∧nb < W2.heap.size):=Lib.hid ⟨by rw [← hnb]; exact tC.out.sz,(Array.getElem?_eq_some_iff.1 lY.out).1⟩
    have Du:Hid (¬ Own [.slice aJ A.length aI,s1,e1] nb):=Lib.hid (fun e=>by
     have:=(tC.out.own _ e).2; omega)
    rw [hnb]
    clear hW2 hnb x0 x1 x2 x3 x4 x5 x6 x7 x8 x9 x10 hbl
    have PU:=HA.out
    obtain ⟨y0,y1,y2,y3,y4,y5,y6,y7,y8,y9,iF⟩:=Dp lY.out
    go_wp2_with fail
    refine (Ib L p W2 aC aF aA av j A f1 g1 _ s1 e1 HI2.out h b e s (jV.out.below (qM.out.mono tC.out.b0)) hj (by unfold maxLen; omega) (Ox xM.out TL.out) (PK qE.out Pg.out) t t0 r r0 HD.out vO.out rZ.out pR.out La.out.1).mono ?_
    rintro e' w3 ⟨rfl,hK3,f3,g3,s3,e3,hO3,tT,hq3⟩
    have uw:Hid (w3.heap[nb]? =some (.cells (kS h b e s).toArray 42 (0,0))):=Lib.hid ((hK3.far rX.out.2 rX.out.1 Du.out).trans lY.out)
    have HI3:=Lib.hid tT
    have zF:=Lib.hid hK3
    have ze:Hid (Kw L [v,vs,ve] w w3):=Lib.hid (uq.out.trans HO.out hK3)
    have Ii:Hid (jF w [v,vs,ve] [.slice aJ A.length aI,s3,e3]):=Lib.hid (HO.out.trans hO3 uq.out.size)
    have JC:Hid (¬ Own [.slice aJ A.length aI,s3,e3] nb):=Lib.hid (hO3.ne rX.out.2 Du.out)
    have Jb:=Lib.hid hq3
    have jU:nb < w3.heap.size:=(Array.getElem?_eq_some_iff.1 uw.out).1
    clear hK3 tT hO3 hq3 y0 y1 y2 y3 y4 y5 y6 y7 y8 y9 iF
    obtain ⟨y0,y1,y2,y3,y4,y5,y6,y7,y8,y9,iF⟩:=Dp uw.out
    have c3:w3.cell? ⟨L.bc,3,none⟩=some (.slice aJ A.length aI):=(dM HI3.out.blk (j:=3) rfl).2
    by_cases Dc:A.length=6
    ·have HX:Hid (res=⟨2,h.line,nms f1,nms g1⟩):=Lib.hid (HE.out.trans (by rw [dh,if_pos (by rw [mU,Dc]; rfl)]))
     rw [Dc] at c3
     clear PU
     go_wp2_with fail
     go_quiet (fail)
     go_wp2_with fail
     go_ret2
     refine ⟨mq (by rw [HX.out]; rfl) (by rw [HX.out]; rfl),ze.out.trans (jF.refl _ _) (Kw.of_below (below_drewN (Below.refl _ _) _)),f3,g3,_,s3,e3,Ii.out,HI3.out.below (below_drewN (Below.refl _ _) _),fun h0=> ?_⟩
     rw [HX.out] at h0; cases h0
    ·have hA':A.length < 6:=by omega
     have hdec:decide (6 < (A.length:Int) + 1)=false:=by rw [decide_eq_false_iff_not]; omega
     have vM:Hid (iI p j t.nm t0.nm (bF A) (mem (nms f1)) (mem (nms g1)) h=0→kg (je p) (fL 12 h (nms f1))∧kg (jm p) (fL 14 h (nms g1))):=Lib.hid (fun h0=>⟨Lm xM.out h0,LP qE.out h0⟩)
     have HU:Hid (res=if iI p j t.nm t0.nm (bF A) (mem (nms f1)) (mem (nms g1)) h != 0 then ⟨iI p j t.nm t0.nm (bF A) (mem (nms f1)) (mem (nms g1)) h,h.line,nms f1,nms g1⟩ else Fe p j t.nm t0.nm b e R (bF A) ((bF A).app (.cons h b e .nil)) 0 (fL 12 h (nms f1)) (fL 14 h (nms g1))):=Lib.hid (HE.out.trans (by
      rw [dh,if_neg (by rw [mU,decide_eq_true_iff]; omega)]; rfl))
     clear HE Dc
     generalize iI p j t.nm t0.nm (bF A) (mem (nms f1)) (mem (nms g1)) h=x at *
     cases hx:(x != 0)
     case true=>
      have HX:Hid (res=⟨x,h.line,nms f1,nms g1⟩):=Lib.hid (HU.out.trans (by rw [hx]; rfl))
      have HX0:Hid (x≠0):=Lib.hid (by simpa using hx)
      clear HU vM
      go_wp2_with fail
      go_quiet (fail)
      go_wp2_with fail
      go_ret2
      refine ⟨mq (by rw [HX.out]; rfl) (by rw [HX.out]; rfl),ze.out.trans (jF.refl _ _) (Kw.of_below (below_drewN (Below.refl _ _) _)),f3,g3,_,s3,e3,Ii.out,HI3.out.below (below_drewN (Below.refl _ _) _),fun h0=> ?_⟩
      rw [HX.out] at h0; exact (HX0.out h0).elim
     have HT:Hid (res=Nf p j t.nm t0.nm b e R (bF A) ((bF A).app (.cons h b e .nil)) (nms f3) (nms g3)):=Lib.hid (HU.out.trans (by
      rw [hx,(Jb.out (by simpa using hx)).1,(Jb.out (by simpa using hx)).2,yP,yP]; rfl))
     have pW:Hid (kg (je p) (nms f3)∧kg (jm p) (nms g3)):=Lib.hid (by
      rw [(Jb.out (by simpa using hx)).1,(Jb.out (by simpa using hx)).2,yP,yP]; exact vM.out (by simpa using hx))
     clear HU vM Jb
     go_upto_region 10 with fail
     have Y0: ∀w',Below w3.heap.size w3 w'→w'.cell? ⟨nb,0,none⟩=some (.int .i64 h.op):=fun w' hb=>(hb.cell (p:=⟨nb,0,none⟩) jU).trans y0
     have Y1: ∀w',Below w3.heap.size w3 w'→w'.cell? ⟨nb,1,none⟩=some (.int .i64 h.line):=fun w' hb=>(hb.cell (p:=⟨nb,1,none⟩) jU).trans y1
     have Y2: ∀w',Below w3.heap.size w3 w'→w'.cell? ⟨nb,2,none⟩=some (.string h.nm):=fun w' hb=>(hb.cell (p:=⟨nb,2,none⟩) jU).trans y2
     have Y3: ∀w',Below w3.heap.size w3 w'→w'.cell? ⟨nb,3,none⟩=some (.string h.arg):=fun w' hb=>(hb.cell (p:=⟨nb,3,none⟩) jU).trans y3
     have Y4: ∀w',Below w3.heap.size w3 w'→w'.cell? ⟨nb,4,none⟩=some (.slice s.fU h.idx.len s.eG):=fun w' hb=>(hb.cell (p:=⟨nb,4,none⟩) jU).trans y4
     have Y5: ∀w',Below w3.heap.size w3 w'→w'.cell? ⟨nb,5,none⟩=some (.int .i64 h.dU):=fun w' hb=>(hb.cell (p:=⟨nb,5,none⟩) jU).trans y5
     have Y6: ∀w',Below w3.heap.size w3 w'→w'.cell? ⟨nb,6,none⟩=some (.int .i64 h.xn):=fun w' hb=>(hb.cell (p:=⟨nb,6,none⟩) jU).trans y6
     have Y7: ∀w',Below w3.heap.size w3 w'→w'.cell? ⟨nb,7,none⟩=some (.string h.dV):=fun w' hb=>(hb.cell (p:=⟨nb,7,none⟩) jU).trans y7
     have Y8: ∀w',Below w3.heap.size w3 w'→w'.cell? ⟨nb,8,none⟩=some (.slice s.dW h.bq.len s.cB):=fun w' hb=>(hb.cell (p:=⟨nb,8,none⟩) jU).trans y8
     have Y9: ∀w',Below w3.heap.size w3 w'→w'.cell? ⟨nb,9,none⟩=some (.slice s.bg b.len s.aT):=fun w' hb=>(hb.cell (p:=⟨nb,9,none⟩) jU).trans y9
     have J3: ∀w',Below w3.heap.size w3 w'→w'.cell? ⟨nb,10,none⟩=some (.slice s.eY e.len s.dP):=fun w' hb=>(hb.cell (p:=⟨nb,10,none⟩) jU).trans iF
     have L3: ∀w',Below w3.heap.size w3 w'→w'.cell? ⟨L.bc,3,none⟩=some (.slice aJ A.length aI):=fun w' hb=>(hb.cell (p:=⟨L.bc,3,none⟩) (by have:=HI3.out.sz; have:=L.c1; show L.bc < _; omega)).trans c3
     clear y0 y1 y2 y3 y4 y5 y6 y7 y8 y9 iF c3 hdec
     refine cu (by kernel_rfl) rfl ?_
     refine bG 0 7 [] [[],[0],[0,1],[0,1,2],[],[0,1,2,3],[],[0,1,2,3,4,5,6],[0,1,2,3,4,5,6,7],[0,1,2,3,4,5,6,7,8],[0,1,2,3,4,5,6,7],[0,1,2,3,4,5,6,7,10],[0,1,2,3,4,5,6,7,10,11]] [[],[],[],[],[],[],[]] (fun _ w'=>Below w3.heap.size w3 w') (fun w w'=>Below w.heap.size w w') [35,36,37,38,39,40,41] rfl rfl (by rfl) (by kernel_rfl) (by kernel_rfl) (by kernel_rfl) (by kernel_rfl) (by kernel_rfl) (by rfl) (fun _=>Below.refl _ _) (by rfl) (below_drewN (Below.refl _ _) 1) ?_
     simp only [List.take_succ_cons,List.take_zero,List.drop_zero,List.drop_succ_cons,gP,List.map_cons,List.map_nil]
     apply aH.step
     case aB=>
      intro c A w' hok hC hO hD
      have e0:=hO 0 (by rfl)
      simp [Act.eval] at e0
      simp [au,ah,aj,Act.eval,Region.binds] at hD
      simp [go_sem,gd,Oper.wp,hD,e0]
      exact ak.mk (Below.refl _ _) hC (ah.mk _ _)
     apply aH.step
     case aB=>
      intro c A w' hok hC hO hD
      simp [au,ah,aj,Act.eval,Region.binds] at hD
      simp [go_sem,gd,Oper.wp,hD]
      exact ak.mk (Below.refl _ _) hC (ah.mk _ _)
     apply aH.step
     case aB=>
      intro c A w' hok hC hO hD
      simp [au,ah,aj,Act.eval,Region.binds] at hD
      simp [go_sem,gd,Oper.wp,hD]
      exact ak.mk (Below.refl _ _) hC (ah.mk _ _)
     apply aH.step
     case aB=>
      intro c A w' hok hC hO hD
      simp [au,ah,aj,Act.eval,Region.binds] at hD
      simp [go_sem,gd,Oper.wp,hD,L3,hC]
      exact ak.mk (Below.refl _ _) hC (ah.mk _ _)
     apply aH.step
     case aB=>
      intro c A w' hok hC hO hD
      have e7:=hO 7 (by rfl)
      simp [Act.eval] at e7
      simp [au,ah,aj,Act.eval,Region.binds] at hD
      simp [go_sem,gd,Oper.wp,hD,e7,Y0,Y1,Y2,Y3,Y4,Y5,Y6,Y7,Y8,Y9,J3,hC]
      exact ak.mk (Below.refl _ _) hC (ah.mk _ _)
     apply aH.step
     case aB=>
      intro c A w' hok hC hO hD
      simp [au,ah,aj,Act.eval,Region.binds] at hD
      simp [go_sem,gd,Oper.wp,hD]
      exact ak.mk (Below.refl _ _) hC (ah.mk _ _)
     refine aH.some (fun v w'=> ∃bb,v= .slice (some ⟨bb,0,none⟩) 1 1∧w'.heap[bb]? =some (.cells IG 42 (0,0))) ?_ ?_ ?_
     ·rintro v w w' hle ⟨bb,rfl,hbb⟩
      exact ⟨bb,rfl,(hle.block bb (Array.getElem?_eq_some_iff.1 hbb).1).trans hbb⟩
     ·intro c A w' hok hC hO hD
      simp [go_sem,gd,Oper.wp]
      exact ak.mk (d:=_) (v:= .slice (some ⟨_,0,none⟩) 1 1) (ay _ _) (hC.trans ((ay _ _).mono hC.size)) ⟨_,rfl,heap_alloc_new _ _⟩
     simp only [List.nil_append,List.cons_append]
     refine aH.done ?_
     intro wz bK
     simp only [List.drop_zero]
     intro v0 h0 v1 h1 v2 h2 v3 h3 v4 h4 v5 h5 v6 h6
     have h0':v0=_:=h0
     have h1':v1=_:=h1
     have h2':v2=_:=h2
     have h3':v3=_:=h3
     have h4':v4=_:=h4
     have h5':v5=_:=h5
     subst h0' h1' h2' h3' h4' h5'
     obtain ⟨bb,rfl,hbb⟩:=h6
     clear h0 h1 h2 h3 h4 h5
     refine bM.nil ?_
     go_simp
     refine gY 7 [[],[0],[0,1],[0,1,2],[],[0,1,2,3],[],[0,1,2,3,4,5,6],[0,1,2,3,4,5,6,7],[0,1,2,3,4,5,6,7,8],[0,1,2,3,4,5,6,7],[0,1,2,3,4,5,6,7,10],[0,1,2,3,4,5,6,7,10,11]] rfl rfl rfl rfl rfl (by kernel_rfl) (by kernel_rfl) (by kernel_rfl) ?_
     obtain ⟨i0,hi0,hz0,hz1,hz2⟩:=FD
     have qA:=Lib.hid (HI3.out.below bK)
     refine wp_append_lies wz _ _ _ (by rfl) L.B1 42 i0 _ 11 176 Tryd.underlying33 hi0 hz0 hz1 hz2 (by rfl) (by omega) (.slice aJ A.length aI) A.length (sF A) (by rfl) qA.out.row ⟨bb,0,none⟩ 1 1 IG.toList (by rfl) (by rfl) (World.news_of_block hbb) (by decide) (by omega) (by unfold maxLen; omega) (by omega) qA.out.sz wz.heap.size rfl ?_
     intro g' cap' w4 nI lS sV vX
     clear hi0 hz0 hz1 hz2 hbb Y0 Y1 Y2 Y3 Y4 Y5 Y6 Y7 Y8 Y9 J3 L3
     have Js:Hid (nQ w3 L.B0 h b e s):=Lib.hid (jV.out.below ((qM.out.mono tC.out.b0).trans (zF.out.below HI2.out.b0 (fun k e=>(HI2.out.own k e).1))))
     have uL:=Lib.hid (HI3.out.push ⟨h,b,e,s⟩ Js.out bK nI lS sV)
     have hgb:=(nI.lt g' rfl).1
     have gV:Hid (w4.heap[L.bc]? =some (.cells (KZ p aC aF aA av (j:Int) (.slice aJ A.length aI) s3 e3) 60 (0,0))):=Lib.hid ((lS.block _ (Array.getElem?_eq_some_iff.1 qA.out.blk).1 (fun e'=>qA.out.Bl (u:= .slice aJ A.length aI) (by simp) e'.symm)).trans qA.out.blk)
     have PV:=Lib.hid (sG nI)
     have wL:g'≠L.bc:=by have:=L.c1; omega
     clear nI lS sV vX hgb
     go_simp
     refine bG 8 13 [9,12] [[],[0],[0,1],[0,1,2],[],[0,1,2,3],[],[0,1,2,3,4,5,6],[0,1,2,3,4,5,6,7],[0,1,2,3,4,5,6,7,8],[0,1,2,3,4,5,6,7],[0,1,2,3,4,5,6,7,10],[0,1,2,3,4,5,6,7,10,11]] [[some false,none],[some false,none],[none,some false],[none,some false],[none,some false]] (PC w4 g' (A.length * 11) (kS h b e s) ⟨L.bc,3,none⟩ (.slice (some ⟨g',0,none⟩) (A.length + 1) cap')) (fun _ _=>True) [43,44,45] rfl rfl (by rfl) (by kernel_rfl) (by kernel_rfl) (by kernel_rfl) (by kernel_rfl) (by kernel_rfl) (by rfl) (fun _=>trivial) (by rfl) rfl ?_
     simp only [List.take_succ_cons,List.take_zero,List.drop_zero,List.drop_succ_cons,gP,List.map_cons,List.map_nil]
     have FE:(0:Int)≤(A.length:Int):=by omega
     have hA1:(A.length:Int) < (A.length:Int) + 1:=by omega
     apply aH.step
     case aB=>
      intro c A w' hok hC hO hD
      have e42:=hO 42 (by rfl)
      have e40:=hO 40 (by rfl)
      simp [Act.eval] at e42 e40
      simp [au,ah,aj,Act.eval,Region.binds] at hD
      simp [go_sem,gd,Oper.wp,hD,e42,e40,hA1]
      exact ak.mk trivial (PC.skip (by rfl) (by rfl) hC) (ah.mk _ _)
     refine aH.some (fun _ _=>True) (fun _ _ _ _ _=>trivial) ?_ ?_
     ·intro c A' w' hok hC hO hD
      obtain ⟨x,y,rfl⟩:=hC.bits
      obtain ⟨rfl,-⟩:=hok
      have e39:=hO 39 (by rfl)
      simp [au,ah,aj,Act.eval,Region.binds] at hD
      simp only [gd,if_true]
      refine wp_store_mid _ _ _ (by rfl) g' (A.length * 11) (kS h b e s).toArray (by simp [Act.eval,hD]) (e39.trans (by rfl)) (vJ PV.out (hC.FM wL)) FK (by simp [kS,Value.oneCell']) ?_
      exact ak.mF trivial (PC.elt wL (by rfl) (by rfl) hC) trivial
     simp only [List.nil_append,List.cons_append]
     apply aH.step
     case aB=>
      intro c A w' hok hC hO hD
      have e35:=hO 35 (by rfl)
      simp [Act.eval] at e35
      simp [au,ah,aj,Act.eval,Region.binds] at hD
      simp [go_sem,gd,Oper.wp,hD,e35]
      exact ak.mk trivial (PC.skip (by rfl) (by rfl) hC) (ah.mk _ _)
     apply aH.step
     case aB=>
      intro c A w' hok hC hO hD
      simp [au,ah,aj,Act.eval,Region.binds] at hD
      simp [go_sem,gd,Oper.wp,hD]
      exact ak.mk trivial (PC.skip (by rfl) (by rfl) hC) (ah.mk _ _)
     refine aH.some (fun _ _=>True) (fun _ _ _ _ _=>trivial) ?_ ?_
     ·intro c A' w' hok hC hO hD
      obtain ⟨x,y,rfl⟩:=hC.bits
      obtain ⟨rfl,-⟩:=hok
      have e42:=hO 42 (by rfl)
      simp [Act.eval] at e42
      simp [au,ah,aj,Act.eval,Region.binds] at hD
      have hbk0:w'.heap[L.bc]? =w4.heap[L.bc]?:=PC.FL (a:=⟨L.bc,3,none⟩) wL hC (Array.getElem?_eq_some_iff.1 gV.out).1
      have hbk:=hbk0.trans gV.out
      have hcl:w'.cell? ⟨L.bc,3,none⟩=some (.slice aJ A.length aI):=(dM hbk (j:=3) rfl).2
      have hfr:w'.frozen? ⟨L.bc,3,none⟩=false:=dH hbk
      simp [go_sem,gd,Oper.wp,hD,e42,hcl,hfr]
      exact ak.mF (v:=undef) trivial (PC.QB (by rfl) (by rfl) hC) trivial
     simp only [List.nil_append,List.cons_append,List.drop_succ_cons,List.drop_zero]
     refine aH.done ?_
     intro w5 GV
     simp only [List.drop_succ_cons,List.drop_zero]
     intro v0 h0 v1 h1 v2 h2 v3 h3 v4 h4
     clear h0 h1 h2 h3 h4
     refine bM.nil ?_
     refine dQ rfl ?_
     have Ac:Hid (w5=(w4.setCells g' (A.length * 11) (kS h b e s)).setCell ⟨L.bc,3,none⟩ (.slice (some ⟨g',0,none⟩) (A.length + 1) cap')):=Lib.hid GV
     rw [← Ac.out] at uL
     have gK:=Lib.hid uL.out.1
     have zK:=Lib.hid uL.out.2.1
     have Bb:=Lib.hid uL.out.2.2
     have BU:Hid (Kw L [v,vs,ve] w w5):=Lib.hid (ze.out.trans Ii.out uL.out.2.1)
     have Cg:Hid (jF w [v,vs,ve] [.slice (some ⟨g',0,none⟩) (A.length + 1) cap',s3,e3]):=Lib.hid (Ii.out.trans uL.out.2.2 ze.out.size)
     have AA:Hid (¬ Own [.slice (some ⟨g',0,none⟩) (A.length + 1) cap',s3,e3] nb):=Lib.hid (Bb.out.ne jU JC.out)
     have xD:Hid (w5.heap[nb]? =some (.cells (kS h b e s).toArray 42 (0,0))):=Lib.hid ((zK.out.far jU rX.out.1 JC.out).trans uw.out)
     have Jv:=Lib.hid (zK.out.below HI3.out.b0 (fun k e=>(HI3.out.own k e).1))
     have GU:Hid (aR.At w5 L.B0 R (some ⟨bl,off,none⟩) (k + 1)):=Lib.hid (uj.out.below (((qM.out.mono tC.out.b0).trans (zF.out.below HI2.out.b0 (fun k e=>(HI2.out.own k e).1))).trans Jv.out))
     have KD:=Lib.hid (Js.out.below Jv.out)
     have BQ:Hid (b.len≤maxLen∧e.len≤maxLen):=Lib.hid jV.out.1.2.2.2.2.2.2
     have Jm:nb < w5.heap.size:=(Array.getElem?_eq_some_iff.1 xD.out).1
     obtain ⟨-,-,-,-,-,-,-,-,-,y9,iF⟩:=Dp xD.out
     clear GV Ac uL PV gV FE hA1 wL
     clear hx jU qA bK HI3 ze zF uw zK Bb Du HI2 uq lY qM tC jV Js uj HO HK xM qE HF HG HI HAT Ii JC Jv
     go_simp
     have xq:Hid (res=if (dh p j t.nm t0.nm b (bF (A++[⟨h,b,e,s⟩])) (nms f3) (nms g3)).err != 0 then dh p j t.nm t0.nm b (bF (A++[⟨h,b,e,s⟩])) (nms f3) (nms g3) else Ei p j t.nm t0.nm e R (bF A) (bF (A++[⟨h,b,e,s⟩])) (dh p j t.nm t0.nm b (bF (A++[⟨h,b,e,s⟩])) (nms f3) (nms g3)).f (dh p j t.nm t0.nm b (bF (A++[⟨h,b,e,s⟩])) (nms f3) (nms g3)).g):=Lib.hid (by rw [qQ]; exact HT.out)
     clear HT
     go_wp2_with fail
     refine (D9.out.1 _ s.bg s.aT (A++[⟨h,b,e,s⟩]) f3 g3 _ s3 e3 BQ.out.1 KD.out.2.2.2.1 La.out.2.1 (by simp; omega) pW.out.1 pW.out.2 gK.out).mono ?_
     rintro e' w6 ⟨rfl,CP,f6,g6,v6,s6,e6,ER,Ai,Ra⟩
     generalize dh p j t.nm t0.nm b (bF (A++[⟨h,b,e,s⟩])) (nms f3) (nms g3)=r1 at *
     have Ji:=Lib.hid (CP.below gK.out.b0 (fun k e=>(gK.out.own k e).1))
     have xJ:Hid (Kw L [v,vs,ve] w w6):=Lib.hid (BU.out.trans Cg.out CP)
     have xV:Hid (jF w [v,vs,ve] [v6,s6,e6]):=Lib.hid (Cg.out.trans ER BU.out.size)
     have Ba:Hid (¬ Own [v6,s6,e6] nb):=Lib.hid (ER.ne Jm AA.out)
     have uV:Hid (w6.heap[nb]? =some (.cells (kS h b e s).toArray 42 (0,0))):=Lib.hid ((CP.far Jm rX.out.1 AA.out).trans xD.out)
     have oK:=Lib.hid (GU.out.below Ji.out)
     have Oz:=Lib.hid (KD.out.below Ji.out)
     have qw:=Lib.hid Ai
     have KW:=Lib.hid Ra
     clear CP ER Ai Ra Ji BU Cg AA xD GU KD gK Jm y9 iF pW
     obtain ⟨-,-,-,-,-,-,-,-,-,y9,iF⟩:=Dp uV.out
     go_upto_if 54 with fail
     go_cut [8,9] (fun s8 s9 W7=> ∃(r2:BI) (f7 g7:List ByteArray) (v7 s7 e7:Value),s8= .int .i64 r2.err∧s9= .int .i64 r2.line∧(res=if r2.err != 0 then r2 else dh p j t.nm t0.nm R (bF A) r2.f r2.g)∧Kw L [v,vs,ve] w W7∧jF w [v,vs,ve] [v7,s7,e7]∧R.At W7 L.B0 (some ⟨bl,off,none⟩) (k + 1)∧jc W7 L p aC aF aA av (j:Int) (A++[⟨h,b,e,s⟩]) f7 g7 v7 s7 e7∧(r2.err=0→kg (je p) r2.f∧kg (jm p) r2.g∧nms f7=r2.f∧nms g7=r2.g))
     case first=>
      cases hr1:(r1.err == 0)
      ·have Fx:Hid (res=if r1.err != 0 then r1 else dh p j t.nm t0.nm R (bF A) r1.f r1.g):=Lib.hid (by
        have hb:(r1.err != 0)=true:=by simpa using hr1
        rw [hb]; exact xq.out.trans (by rw [hb]; rfl))
       clear xq
       go_wp2_with fail
       go_meet
       exact ⟨r1,f6,g6,v6,s6,e6,rfl,rfl,Fx.out,xJ.out,xV.out,oK.out,qw.out,KW.out⟩
      ·have hr0:r1.err=0:=by simpa using hr1
       have pW:=Lib.hid (KW.out hr0)
       have Fx:Hid (res=Ei p j t.nm t0.nm e R (bF A) (bF (A++[⟨h,b,e,s⟩])) (nms f6) (nms g6)):=Lib.hid (xq.out.trans (by
        rw [hr0,pW.out.2.2.1,pW.out.2.2.2]; rfl))
       have UW:nb < w6.heap.size:=(Array.getElem?_eq_some_iff.1 uV.out).1
       clear xq KW hr0
       go_wp2_with fail
       refine (D9.out.2 _ s.eY s.dP (A++[⟨h,b,e,s⟩]) f6 g6 v6 s6 e6 BQ.out.2 Oz.out.2.2.2.2 La.out.2.2.1 (by simp; omega) (by rw [pW.out.2.2.1]; exact pW.out.1) (by rw [pW.out.2.2.2]; exact pW.out.2.1) qw.out).mono ?_
       rintro e' w7 ⟨rfl,sD,f7,g7,v7,s7,e7,yx,uG,xU⟩
       have Ij:Hid (res=if (dh p j t.nm t0.nm e (bF (A++[⟨h,b,e,s⟩])) (nms f6) (nms g6)).err != 0 then dh p j t.nm t0.nm e (bF (A++[⟨h,b,e,s⟩])) (nms f6) (nms g6) else dh p j t.nm t0.nm R (bF A) (dh p j t.nm t0.nm e (bF (A++[⟨h,b,e,s⟩])) (nms f6) (nms g6)).f (dh p j t.nm t0.nm e (bF (A++[⟨h,b,e,s⟩])) (nms f6) (nms g6)).g):=Lib.hid Fx.out
       generalize dh p j t.nm t0.nm e (bF (A++[⟨h,b,e,s⟩])) (nms f6) (nms g6)=r2 at *
       have Ti:=Lib.hid (sD.below qw.out.b0 (fun k e=>(qw.out.own k e).1))
       have zf:Hid (Kw L [v,vs,ve] w w7):=Lib.hid (xJ.out.trans xV.out sD)
       have GR:Hid (jF w [v,vs,ve] [v7,s7,e7]):=Lib.hid (xV.out.trans yx xJ.out.size)
       have gX:=Lib.hid (oK.out.below Ti.out)
       have yS:=Lib.hid uG
       have uo:=Lib.hid xU
       clear sD yx uG xU Fx y9 iF
       go_wp2_with fail
       go_meet
       exact ⟨r2,f7,g7,v7,s7,e7,rfl,rfl,Ij.out,zf.out,GR.out,gX.out,yS.out,uo.out⟩
     obtain ⟨r2,f7,g7,v7,s7,e7,rfl,rfl,hX,sD,yx,QU,uG,xU⟩:=hcut
     obtain ⟨W7,rfl⟩: ∃W:World,W=wc:=⟨_,rfl⟩
     have HX:=Lib.hid hX
     have zf:=Lib.hid sD
     have GR:=Lib.hid yx
     have gX:=Lib.hid QU
     have yS:=Lib.hid uG
     have uo:=Lib.hid xU
     clear hX sD yx QU uG xU y9 iF xq xJ xV Ba uV oK Oz qw KW
     obtain ⟨g9,zC,rfl,Vk⟩: ∃g9 zC,v7= .slice (some ⟨g9,0,none⟩) (A.length + 1) zC∧A.length + 1≤zC:=by
      rcases yS.out.row.2 with ⟨-,hn⟩ | ⟨g',cap,cur,e',-,-,hcc,-⟩
      ·simp at hn
      ·exact ⟨g',cap,by rw [e']; simp,by simpa using hcc⟩
     have hcl: ∀w',Below W7.heap.size W7 w'→w'.cell? ⟨L.bc,3,none⟩=some (.slice (some ⟨g9,0,none⟩) (A.length + 1) zC):=fun w' hb=>(hb.cell (p:=⟨L.bc,3,none⟩) (by have:=yS.out.sz; have:=L.c1; show L.bc < _; omega)).trans (dM yS.out.blk (j:=3) rfl).2
     have hz1:(0:Int)≤(A.length:Int):=by omega
     have hz2:(A.length:Int)≤(zC:Int):=by omega
     have hwr:IntKind.i64.wrap (A.length:Int)=(A.length:Int):=IntWalk.i64_in _ (by omega)
     have DW:(A.length:Int) + 1 - 1=(A.length:Int):=by omega
     go_upto_region 14 with fail
     refine cu (by kernel_rfl) rfl ?_
     refine bG 0 14 [] [[],[],[1],[1,2],[1,2,3],[],[5],[5,6],[5,6,7],[5,6,7,8],[5,6,7,8,9],[1,2,3,4,5,6,7,8,9,10],[0,1,2,3,4,5,6,7,8,9,10,11],[0,1,2,3,4,5,6,7,8,9,10,11,12],[0,1,2,3,4,5,6,7,8,9,10,11,12,13]] [[],[],[],[],[],[],[],[],[],[],[],[],[],[]] (fun _ w'=>Below W7.heap.size W7 w') (fun w w'=>Below w.heap.size w w') [62,63,64,65,66,67,68,69,70,71,72,73,74,75] rfl rfl (by rfl) (by kernel_rfl) (by kernel_rfl) (by kernel_rfl) (by kernel_rfl) (by kernel_rfl) (by rfl) (fun _=>Below.refl _ _) (by rfl) (below_drewN (Below.refl _ _) 1) ?_
     simp only [List.take_succ_cons,List.take_zero,List.drop_zero,List.drop_succ_cons,gP,List.map_cons,List.map_nil]
     apply aH.step
     case aB=>
      intro c A w' hok hC hO hD
      have e0:=hO 0 (by rfl)
      simp [Act.eval] at e0
      simp [au,ah,aj,Act.eval,Region.binds] at hD
      simp [go_sem,gd,Oper.wp,hD,e0]
      exact ak.mk (Below.refl _ _) hC (ah.mk _ _)
     apply aH.step
     case aB=>
      intro c A w' hok hC hO hD
      have e0:=hO 0 (by rfl)
      simp [Act.eval] at e0
      simp [au,ah,aj,Act.eval,Region.binds] at hD
      simp [go_sem,gd,Oper.wp,hD,e0]
      exact ak.mk (Below.refl _ _) hC (ah.mk _ _)
     apply aH.step
     case aB=>
      intro c A w' hok hC hO hD
      simp [au,ah,aj,Act.eval,Region.binds] at hD
      simp [go_sem,gd,Oper.wp,hD]
      exact ak.mk (Below.refl _ _) hC (ah.mk _ _)
     apply aH.step
     case aB=>
      intro c A w' hok hC hO hD
      simp [au,ah,aj,Act.eval,Region.binds] at hD
      simp [go_sem,gd,Oper.wp,hD]
      exact ak.mk (Below.refl _ _) hC (ah.mk _ _)
     apply aH.step
     case aB=>
      intro c A w' hok hC hO hD
      simp [au,ah,aj,Act.eval,Region.binds] at hD
      simp [go_sem,gd,Oper.wp,hD,hcl,hC]
      exact ak.mk (Below.refl _ _) hC (ah.mk _ _)
     simp only [List.nil_append,List.cons_append]
     apply aH.step
     case aB=>
      intro c A w' hok hC hO hD
      have e0:=hO 0 (by rfl)
      simp [Act.eval] at e0
      simp [au,ah,aj,Act.eval,Region.binds] at hD
      simp [go_sem,gd,Oper.wp,hD,e0]
      exact ak.mk (Below.refl _ _) hC (ah.mk _ _)
     apply aH.step
     case aB=>
      intro c A w' hok hC hO hD
      simp [au,ah,aj,Act.eval,Region.binds] at hD
      simp [go_sem,gd,Oper.wp,hD]
      exact ak.mk (Below.refl _ _) hC (ah.mk _ _)
     apply aH.step
     case aB=>
      intro c A w' hok hC hO hD
      simp [au,ah,aj,Act.eval,Region.binds] at hD
      simp [go_sem,gd,Oper.wp,hD]
      exact ak.mk (Below.refl _ _) hC (ah.mk _ _)
     apply aH.step
     case aB=>
      intro c A w' hok hC hO hD
      simp [au,ah,aj,Act.eval,Region.binds] at hD
      simp [go_sem,gd,Oper.wp,hD,hcl,hC]
      exact ak.mk (Below.refl _ _) hC (ah.mk _ _)
     apply aH.step
     case aB=>
      intro c A w' hok hC hO hD
      simp [au,ah,aj,Act.eval,Region.binds] at hD
      simp [go_sem,gd,Oper.wp,hD]
      exact ak.mk (Below.refl _ _) hC (ah.mk _ _)
     simp only [List.nil_append,List.cons_append]
     apply aH.step
     case aB=>
      intro c A w' hok hC hO hD
      simp [au,ah,aj,Act.eval,Region.binds] at hD
      simp [go_sem,gd,Oper.wp,hD,DW,hwr]
      exact ak.mk (Below.refl _ _) hC (ah.mk _ _)
     apply aH.step
     case aB=>
      intro c A w' hok hC hO hD
      simp [au,ah,aj,Act.eval,Region.binds] at hD
      simp [go_sem,gd,Oper.wp,hD,hz1,hz2]
      exact ak.mk (Below.refl _ _) hC (ah.mk _ _)
     simp only [List.nil_append,List.cons_append]
     apply aH.step
     case aB=>
      intro c A w' hok hC hO hD
      simp [au,ah,aj,Act.eval,Region.binds] at hD
      simp [go_sem,gd,Oper.wp,hD]
      exact ak.mk (Below.refl _ _) hC (ah.mk _ _)
     apply aH.step
     case aB=>
      intro c A w' hok hC hO hD
      simp [au,ah,aj,Act.eval,Region.binds] at hD
      simp [go_sem,gd,Oper.wp,hD]
      exact ak.mk (Below.refl _ _) hC (ah.mk _ _)
     simp only [List.nil_append,List.cons_append]
     refine aH.done ?_
     intro wz bK
     simp only [List.drop_zero]
     intro v0 h0 v1 h1 v2 h2 v3 h3 v4 h4 v5 h5 v6 h6 v7 h7 v8 h8 v9 h9 v10 h10 v11 h11 v12 h12 v13 mP
     have zi:v11=_:=h11
     have Db:v13=_:=mP
     subst zi Db
     clear h0 h1 h2 h3 h4 h5 h6 h7 h8 h9 h10 h11 h12 mP
     refine bM.nil ?_
     go_simp
     have Bz:=Lib.hid (jc.pop ⟨h,b,e,s⟩ yS.out bK)
     have hclz:wz.cell? ⟨L.bc,3,none⟩=some (.slice (some ⟨g9,0,none⟩) (A.length + 1) zC):=hcl wz bK
     have Dk:wz.frozen? ⟨L.bc,3,none⟩=false:=dH ((yS.out.below bK).blk)
     clear hcl DW hwr
     refine gY 14 [[],[],[1],[1,2],[1,2,3],[],[5],[5,6],[5,6,7],[5,6,7,8],[5,6,7,8,9],[1,2,3,4,5,6,7,8,9,10],[0,1,2,3,4,5,6,7,8,9,10,11],[0,1,2,3,4,5,6,7,8,9,10,11,12],[0,1,2,3,4,5,6,7,8,9,10,11,12,13]] rfl rfl rfl rfl rfl (by kernel_rfl) (by kernel_rfl) (by kernel_rfl) ?_
     simp [go_sem,Oper.wp,hclz,Dk]
     refine dQ rfl ?_
     clear hclz Dk bK
     go_simp
     have FB:=Lib.hid (zf.out.trans GR.out Bz.out.2)
     have BK:Hid (jF w [v,vs,ve] [.slice (some ⟨g9,0,none⟩) A.length zC,s7,e7]):=Lib.hid (fun k hk=>GR.out k (by
      rcases oo.1 hk with e | e | e
      ·exact oo.2 (.inl e)
      ·exact oo.2 (.inr (.inl e))
      ·exact oo.2 (.inr (.inr e))))
     have oO:=Lib.hid (gX.out.below (Bz.out.2.below yS.out.b0 (fun k e=>(yS.out.own k e).1)))
     have QH:=Lib.hid Bz.out.1
     clear Bz zf GR gX yS
     cases hr2:(r2.err != 0)
     ·have Dv:Hid (res=dh p j t.nm t0.nm R (bF A) (nms f7) (nms g7)):=Lib.hid (HX.out.trans (by rw [hr2,(uo.out (by simpa using hr2)).2.2.1,(uo.out (by simpa using hr2)).2.2.2]; rfl))
      have pW:Hid (kg (je p) (nms f7)∧kg (jm p) (nms g7)):=Lib.hid (by
       have:=uo.out (by simpa using hr2)
       rw [this.2.2.1,this.2.2.2]; exact ⟨this.1,this.2.1⟩)
      clear HX uo
      go_wp2_with fail
      go_roundw
      case rel=>exact ⟨k + 1,R,f7,g7,_,s7,e7,by go_num,by simp only [aR.len] at hlen; omega,Dv.out,Jp.out,oO.out,La.out.2.2.2,pW.out.1,pW.out.2,FB.out,BK.out,QH.out⟩
      case measure=>simp [intOf]; omega
     ·have Dv:Hid (res=r2):=Lib.hid (HX.out.trans (if_pos hr2))
      have HX0:Hid (r2.err≠0):=Lib.hid (by simpa using hr2)
      clear HX uo
      go_wp2_with fail
      go_ret2
      refine ⟨mq (by rw [Dv.out]; rfl) (by rw [Dv.out]; rfl),FB.out,f7,g7,_,s7,e7,BK.out,QH.out,fun h0=> ?_⟩
      rw [Dv.out] at h0; exact (HX0.out h0).elim
theorem H9 (L:nu) (p:Pr) (aC aF:Option Addr) (aA av:Nat) (j:Nat) (t t0:Th) (r r0:List Th) (hd:p.ts.drop j=t ::r) (hts:p.ts=t0 ::r0) (hj:aX (j:Int)) (hT:p.ts.length≤1000000000000) (hD:p.ds.length≤1000000000000) (mh:jP p.ds p.ts []=none) (hsd: ∀d ∈ p.ds,jw d=true) (l:aR):vP L p aC aF aA av j t t0 l:=
 zw L p aC aF aA av j t t0 r r0 hd hts hj hT hD mh hsd l (aR.lM (fun _ b e hb he=>⟨zw L p aC aF aA av j t t0 r r0 hd hts hj hT hD mh hsd b hb,zw L p aC aF aA av j t t0 r r0 hd hts hj hT hD mh hsd e he⟩) l)
end Go.Proofs.YtnknfoibmgphnaaDoor
end
