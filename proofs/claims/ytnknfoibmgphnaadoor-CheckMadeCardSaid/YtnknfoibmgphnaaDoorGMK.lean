/-
  Contract of the checker's list.
  Contract of check.statements.
-/
import Derived.Test.YtnknfoibmgphnaaDoorGMJ
import Derived.StillTailTactics
import Derived.IntWalk
section
set_option linter.unusedSimpArgs false
set_option linter.unusedVariables false
namespace Go.Proofs.YtnknfoibmgphnaaDoor
open Go.RowKit
open Md
theorem aR.At.KE {w:World} {B:Nat} {h:eH} {b e r:aR} {ao:Option Addr} {k:Nat} (hat:(aR.cons h b e r).At w B ao k): ∃bl off s,ao=some ⟨bl,off,none⟩∧bl < B∧nQ w B h b e s∧
 w.cell? ⟨bl,off + k * 11,none⟩=some (.int .i64 h.op)∧w.cell? ⟨bl,off + k * 11 + 1,none⟩=some (.int .i64 h.line)∧w.cell? ⟨bl,off + k * 11 + 2,none⟩=some (.string h.nm)∧w.cell? ⟨bl,off + k * 11 + 3,none⟩=some (.string h.arg)∧w.cell? ⟨bl,off + k * 11 + 4,none⟩=some (.slice s.fU h.idx.len s.eG)∧
 w.cell? ⟨bl,off + k * 11 + 5,none⟩=some (.int .i64 h.dU)∧w.cell? ⟨bl,off + k * 11 + 6,none⟩=some (.int .i64 h.xn)∧w.cell? ⟨bl,off + k * 11 + 7,none⟩=some (.string h.dV)∧w.cell? ⟨bl,off + k * 11 + 8,none⟩=some (.slice s.dW h.bq.len s.cB)∧
 w.cell? ⟨bl,off + k * 11 + 9,none⟩=some (.slice s.bg b.len s.aT)∧w.cell? ⟨bl,off + k * 11 + 10,none⟩=some (.slice s.eY e.len s.dP)∧r.At w B ao (k + 1):=by
 obtain ⟨⟨b,off,fU,eG,dW,cB,bg,aT,eY,dP,e,hB,c0,c1,c2,c3,c4,c5,c6,c7,c8,c9,c10,hok,h1,h2,h3,h4⟩,hr⟩:=hat
 exact ⟨b,off,⟨fU,eG,dW,cB,bg,aT,eY,dP⟩,e,hB,⟨hok,h1,h2,h3,h4⟩,c0,c1,c2,c3,c4,c5,c6,c7,c8,c9,c10,hr⟩
theorem Dp {w:World} {nb:Nat} {h:eH} {b e:aR} {s:Sl} {t:TypeId} {fr:Nat × Nat} (hb:w.heap[nb]? =some (.cells (kS h b e s).toArray t fr)):w.cell? ⟨nb,0,none⟩=some (.int .i64 h.op)∧w.cell? ⟨nb,1,none⟩=some (.int .i64 h.line)∧w.cell? ⟨nb,2,none⟩=some (.string h.nm)∧w.cell? ⟨nb,3,none⟩=some (.string h.arg)∧w.cell? ⟨nb,4,none⟩=some (.slice s.fU h.idx.len s.eG)∧w.cell? ⟨nb,5,none⟩=some (.int .i64 h.dU)∧w.cell? ⟨nb,6,none⟩=some (.int .i64 h.xn)∧w.cell? ⟨nb,7,none⟩=some (.string h.dV)∧w.cell? ⟨nb,8,none⟩=some (.slice s.dW h.bq.len s.cB)∧w.cell? ⟨nb,9,none⟩=some (.slice s.bg b.len s.aT)∧w.cell? ⟨nb,10,none⟩=some (.slice s.eY e.len s.dP):=
 ⟨(dM hb (j:=0) rfl).2,(dM hb (j:=1) rfl).2,(dM hb (j:=2) rfl).2,(dM hb (j:=3) rfl).2,(dM hb (j:=4) rfl).2,(dM hb (j:=5) rfl).2,(dM hb (j:=6) rfl).2,(dM hb (j:=7) rfl).2,(dM hb (j:=8) rfl).2,(dM hb (j:=9) rfl).2,(dM hb (j:=10) rfl).2⟩
theorem mq {x y a b:Value} (h1:x=a) (h2:y=b):Ending.returned (.tuple #[x,y])= .returned (.tuple #[a,b]):=by rw [h1,h2]
theorem Me:(Tryd.prog.info? 42).map (fun i=>(i.zero,i.size,i.bytes))=some (some (.agg #[.int .i64 0,.int .i64 0,.string ⟨#[]⟩,.string ⟨#[]⟩,.slice none 0 0,.int .i64 0,.int .i64 0,.string ⟨#[]⟩,.slice none 0 0,.slice none 0 0,.slice none 0 0]),11,176):=by kernel_rfl
def IG:Array Value:= #[.int .i64 0,.int .i64 0,.string ⟨#[]⟩,.string ⟨#[]⟩,.slice none 0 0,.int .i64 0,.int .i64 0,.string ⟨#[]⟩,.slice none 0 0,.slice none 0 0,.slice none 0 0]
theorem FD: ∃i0,Tryd.prog.info? 42=some i0∧i0.zero=some (.agg IG)∧i0.size=11∧i0.bytes=176:=info_parts Me
theorem FK:(Tryd.prog.info? 42).map (·.size)=some 11:=by kernel_rfl
theorem Ug (a b:Option Addr) (l1 c1 l2 c2:Nat) (w:World):(Instr.index 80 (.agg #[.slice a l1 c1,.slice b l2 c2]) (.int .i64 0)).run Tryd.prog w= .ok (.slice a l1 c1) w:=by kernel_rfl
theorem TR (a b:Option Addr) (l1 c1 l2 c2:Nat) (w:World):(Instr.index 80 (.agg #[.slice a l1 c1,.slice b l2 c2]) (.int .i64 1)).run Tryd.prog w= .ok (.slice b l2 c2) w:=by kernel_rfl
def Ei (p:Pr) (j:Nat) (tn dF:ByteArray) (e R ar vI:aR) (f g:List (List UInt8)):BI:=if (dh p j tn dF e vI f g).err != 0 then dh p j tn dF e vI f g else dh p j tn dF R ar (dh p j tn dF e vI f g).f (dh p j tn dF e vI f g).g
def Nf (p:Pr) (j:Nat) (tn dF:ByteArray) (b e R ar vI:aR) (f g:List (List UInt8)):BI:=if (dh p j tn dF b vI f g).err != 0 then dh p j tn dF b vI f g else Ei p j tn dF e R ar vI (dh p j tn dF b vI f g).f (dh p j tn dF b vI f g).g
def Fe (p:Pr) (j:Nat) (tn dF:ByteArray) (b e R ar vI:aR) (k:Nat) (f g:List (List UInt8)):BI:=if k=0 then Nf p j tn dF b e R ar vI f g else if k=1 then Ei p j tn dF e R ar vI f g else dh p j tn dF R ar f g
def OO (w:World) (L:Lay) (p:Pr) (aC aF:Option Addr) (aA av:Nat) (i:Int) (A:List Fr) (v:Value) (r:BI) (e:Ending) (w':World):Prop:=
 e= .returned (.tuple #[.int .i64 r.err,.int .i64 r.line])∧Kp L v w w'∧(r.err=0→kg (je p) r.f∧kg (jm p) r.g∧ ∃v',rU w v v'∧jR w' L p aC aF aA av i A (mem r.f) (mem r.g) r.f.length r.g.length v')
def vC (L:Lay) (p:Pr) (aC aF:Option Addr) (aA av:Nat) (j:Nat) (t t0:Th) (l:aR):Prop:=
 ∀(w:World) (ao:Option Addr) (cap:Nat) (A:List Fr) (f g:List (List UInt8)) (v:Value),l.len≤maxLen→l.At w L.B0 ao 0→A.length≤6→kg (je p) f→kg (jm p) g→jR w L p aC aF aA av (j:Int) A (mem f) (mem g) f.length g.length v→
  Calls Tryd.prog 27 #[.pointer (some ⟨L.bc,0,none⟩),.slice ao l.len cap] w (OO w L p aC aF aA av (j:Int) A v (dh p j t.nm t0.nm l (bF A) f g))
set_option maxHeartbeats 8000000 in
set_option maxRecDepth 100000 in
theorem wX (L:Lay) (p:Pr) (aC aF:Option Addr) (aA av:Nat) (j:Nat) (t t0:Th) (r r0:List Th) (hd:p.ts.drop j=t ::r) (hts:p.ts=t0 ::r0) (hj:aX (j:Int)) (hT:p.ts.length < maxLen) (hD:p.ds.length < maxLen) (l:aR) (hall:l.All fun _ b e=>vC L p aC aF aA av j t t0 b∧vC L p aC aF aA av j t t0 e):vC L p aC aF aA av j t t0 l:=by
 intro w ao cap A f g v hl hat hA hf hg hI
 generalize hres:dh p j t.nm t0.nm l (bF A) f g=res
 have HR:=Lib.hid hres
 have HAT:=Lib.hid hat
 have dw:=Lib.hid hall
 have HF:=Lib.hid hf
 have HG:=Lib.hid hg
 have HI:=Lib.hid hI
 unfold maxLen at hl
 have HA:=Lib.hid hA
 clear hres hat hall hf hg hI hA
 go_enter Tryd.func27,Tryd.ntmps27
 go_wp2_with fail
 go_loopw [7,8,10,11,12,15,51,52] (fun _ _ _ _ _ s _ _ wr=> ∃(k:Nat) (R:aR) (f1 g1:List (List UInt8)) (v1:Value),s= .int .i64 k∧k + R.len=l.len∧res=dh p j t.nm t0.nm R (bF A) f1 g1∧(R.All fun _ b e=>vC L p aC aF aA av j t t0 b∧vC L p aC aF aA av j t t0 e)∧R.At wr L.B0 ao k∧kg (je p) f1∧kg (jm p) g1∧Kp L v w wr∧rU w v v1∧jR wr L p aC aF aA av (j:Int) A (mem f1) (mem g1) f1.length g1.length v1) (fun _ _ _ _ _ s _ _ _=>l.len - (intOf s).toNat)
 case atStart=>exact ⟨0,l,f,g,v,rfl,by simp,HR.out.symm,dw.out,HAT.out,HF.out,HG.out,Kp.refl _ _ _,.inl rfl,HI.out⟩
 case round=>
  obtain ⟨k,R,f1,g1,v1,rfl,hlen,heq,hall,hrow,hf1,hg1,QM,He,hI⟩:=hrel
  have HE:=Lib.hid heq
  have HK:=Lib.hid QM
  have HO:=Lib.hid He
  clear heq QM He
  cases R with
  | nil=>
    obtain rfl:k=l.len:=by simpa [aR.len] using hlen
    have HX:Hid (OO w L p aC aF aA av (j:Int) A v res (.returned (.tuple #[.int .i64 0,.int .i64 0])) wr):=Lib.hid (by
     rw [HE.out]; exact ⟨rfl,HK.out,fun _=>⟨hf1,hg1,v1,HO.out,hI⟩⟩)
    clear hI hall hrow hf1 hg1 HE
    go_wp2_with fail
    go_ret2
    exact HX.out
  | cons h b e R=>
    obtain ⟨bl,off,s,rfl,hbl,hin,x0,x1,x2,x3,x4,x5,x6,x7,x8,x9,x10,hrest⟩:=aR.At.KE hrow
    have hkl:k < l.len:=by simp only [aR.len] at hlen; omega
    obtain ⟨lT,Ad⟩:=hall
    obtain ⟨aJ,aI,rfl,-⟩:=hI.form
    have D9:=Lib.hid lT
    have Jp:=Lib.hid Ad
    have xM:=Lib.hid hf1
    have qE:=Lib.hid hg1
    have jV:=Lib.hid hin
    have uj:=Lib.hid hrest
    have tC:=Lib.hid hI
    clear hrow hin lT Ad hf1 hg1 hrest hI
    go_upto_region 4 with fail
    obtain ⟨nb,hnb⟩: ∃n,wr.heap.size=n:=⟨_,rfl⟩
    generalize hW2:World.alloc wr _=W2
    have lY:Hid (W2.heap[nb]? =some (.cells (kS h b e s).toArray 42 (0,0))):=Lib.hid (by rw [← hW2,← hnb]; exact heap_alloc_new _ _)
    have qM:Hid (Below wr.heap.size wr W2):=Lib.hid (by rw [← hW2]; exact ay _ _)
    have HI2:=Lib.hid (tC.out.below qM.out)
    have uq:Hid (Kp L v w W2):=Lib.hid (HK.out.trans (.inl HO.out) (Kp.of_below qM.out))
    have rX:Hid (L.B1≤nb∧nb < W2.heap.size):=Lib.hid ⟨by rw [← hnb]; exact tC.out.sz,(Array.getElem?_eq_some_iff.1 lY.out).1⟩
    have Du:Hid (Value.ownBlock (.slice aJ A.length aI)≠some nb):=Lib.hid (fun e=>by
     have:=tC.out.row.lt _ e; omega)
    have Vl:Hid (w.heap.size≤W2.heap.size):=Lib.hid uq.out.size
    rw [hnb]
    clear hW2 hnb x0 x1 x2 x3 x4 x5 x6 x7 x8 x9 x10 hbl
    have c3:W2.cell? ⟨L.bc,3,none⟩=some (.slice aJ A.length aI):=(dM HI2.out.blk (j:=3) rfl).2
    have PU:=HA.out
    obtain ⟨y0,y1,y2,y3,y4,y5,y6,y7,y8,y9,iF⟩:=Dp lY.out
    by_cases Dc:A.length=6
    ·have HX:Hid (res=⟨2,h.line,f1,g1⟩):=Lib.hid (HE.out.trans (by rw [dh,if_pos (by rw [mU,Dc]; rfl)]))
     rw [Dc] at c3
     clear PU
     go_wp2_with fail
     go_quiet (fail)
     go_wp2_with fail
     go_ret2
     refine ⟨mq (by rw [HX.out]; rfl) (by rw [HX.out]; rfl),uq.out.trans (.inr rfl) (v1:= .slice none 0 0) (Kp.of_below (below_drewN (Below.refl _ _) _)),fun h0=> ?_⟩
     rw [HX.out] at h0; cases h0
    ·have hA':A.length < 6:=by omega
     have hdec:decide (6 < (A.length:Int) + 1)=false:=by rw [decide_eq_false_iff_not]; omega
     go_wp2_with fail
     refine (G6 W2 L p aC aF aA av j A (mem f1) (mem g1) f1.length g1.length _ t t0 r r0 hd hts hj (by unfold maxLen; omega) (Nat.lt_of_le_of_lt xM.out.le (by simpa [je] using hT)) (Nat.lt_of_le_of_lt qE.out.le (by simpa [jm] using hD)) HI2.out h b e s (jV.out.below (qM.out.mono tC.out.b0))).mono ?_
     rintro e' w3 ⟨rfl,hK3,tT⟩
     rw [Oc,PO,Ie,Ie] at tT
     have uw:Hid (w3.heap[nb]? =some (.cells (kS h b e s).toArray 42 (0,0))):=Lib.hid ((hK3.far rX.out.2 rX.out.1 (by simp [Value.ownBlock])).trans lY.out)
     have HI3:=Lib.hid tT
     have ze:Hid (Kp L v w w3):=Lib.hid (uq.out.trans (.inr rfl) hK3)
     have zF:=Lib.hid hK3
     have jU:nb < w3.heap.size:=(Array.getElem?_eq_some_iff.1 uw.out).1
     clear hK3 tT y0 y1 y2 y3 y4 y5 y6 y7 y8 y9 iF c3 hdec Dc
     obtain ⟨y0,y1,y2,y3,y4,y5,y6,y7,y8,y9,iF⟩:=Dp uw.out
     have c3:w3.cell? ⟨L.bc,3,none⟩=some (.slice aJ A.length aI):=(dM HI3.out.blk (j:=3) rfl).2
     have HE2:Hid (res=dh p j t.nm t0.nm (aR.cons h b e R) (bF A) f1 g1):=HE
     have vM:Hid (iI p j t.nm t0.nm (bF A) (mem f1) (mem g1) h=0→kg (je p) (fL 12 h f1)∧kg (jm p) (fL 14 h g1)):=Lib.hid (fun h0=>⟨Lm xM.out h0,LP qE.out h0⟩)
     have HU:Hid (dh p j t.nm t0.nm (aR.cons h b e R) (bF A) f1 g1=if iI p j t.nm t0.nm (bF A) (mem f1) (mem g1) h != 0 then ⟨iI p j t.nm t0.nm (bF A) (mem f1) (mem g1) h,h.line,f1,g1⟩ else Fe p j t.nm t0.nm b e R (bF A) ((bF A).app (.cons h b e .nil)) 0 (fL 12 h f1) (fL 14 h g1)):=Lib.hid (by
      rw [dh,if_neg (by rw [mU,decide_eq_true_iff]; omega)]; rfl)
     generalize iI p j t.nm t0.nm (bF A) (mem f1) (mem g1) h=x at *
     cases hx:(x != 0)
     ·have HT:Hid (res=Fe p j t.nm t0.nm b e R (bF A) ((bF A).app (.cons h b e .nil)) 0 (fL 12 h f1) (fL 14 h g1)):=Lib.hid (HE2.out.trans (HU.out.trans (by rw [hx]; rfl)))
      have pW:=Lib.hid (vM.out (by simpa using hx))
      clear HU vM HE HE2
      go_upto_region 9 with fail
      have Y0: ∀w',Below w3.heap.size w3 w'→w'.cell? ⟨nb,0,none⟩=some (.int .i64 h.op):=fun w' hb=>(hb.cell (p:=⟨nb,0,none⟩) jU).trans y0
      have Y1: ∀w',Below w3.heap.size w3 w'→w'.cell? ⟨nb,1,none⟩=some (.int .i64 h.line):=fun w' hb=>(hb.cell (p:=⟨nb,1,none⟩) jU).trans y1
      have Y2: ∀w',Below w3.heap.size w3 w'→w'.cell? ⟨nb,2,none⟩=some (.string h.nm):=fun w' hb=>(hb.cell (p:=⟨nb,2,none⟩) jU).trans y2
      have Y3: ∀w',Below w3.heap.size w3 w'→w'.cell? ⟨nb,3,none⟩=some (.string h.arg):=fun w' hb=>(hb.cell (p:=⟨nb,3,none⟩) jU).trans y3
      have Y4: ∀w',Below w3.heap.size w3 w'→w'.cell? ⟨nb,4,none⟩=some (.slice s.fU h.idx.len s.eG):=fun w' hb=>(hb.cell (p:=⟨nb,4,none⟩) jU).trans y4
      have Y5: ∀w',Below w3.heap.size w3 w'→w'.cell? ⟨nb,5,none⟩=some (.int .i64 h.dU):=fun w' hb=>(hb.cell (p:=⟨nb,5,none⟩) jU).trans y5
      have Y6: ∀w',Below w3.heap.size w3 w'→w'.cell? ⟨nb,6,none⟩=some (.int .i64 h.xn):=fun w' hb=>(hb.cell (p:=⟨nb,6,none⟩) jU).trans y6
      have Y7: ∀w',Below w3.heap.size w3 w'→w'.cell? ⟨nb,7,none⟩=some (.string h.dV):=fun w' hb=>(hb.cell (p:=⟨nb,7,none⟩) jU).trans y7
      have Y8: ∀w',Below w3.heap.size w3 w'→w'.cell? ⟨nb,8,none⟩=some (.slice s.dW h.bq.len s.cB):=fun w' hb=>(hb.cell (p:=⟨nb,8,none⟩) jU).trans y8
      have Y9: ∀w',Below w3.heap.size w3 w'→w'.cell? ⟨nb,9,none⟩=some (.slice s.bg b.len s.aT):=fun w' hb=>(hb.cell (p:=⟨nb,9,none⟩) jU).trans y9
      have J3: ∀w',Below w3.heap.size w3 w'→w'.cell? ⟨nb,10,none⟩=some (.slice s.eY e.len s.dP):=fun w' hb=>(hb.cell (p:=⟨nb,10,none⟩) jU).trans iF
      have L3: ∀w',Below w3.heap.size w3 w'→w'.cell? ⟨L.bc,3,none⟩=some (.slice aJ A.length aI):=fun w' hb=>(hb.cell (p:=⟨L.bc,3,none⟩) (by have:=HI3.out.sz; have:=L.c1; show L.bc < _; omega)).trans c3
      clear y0 y1 y2 y3 y4 y5 y6 y7 y8 y9 iF c3
      refine cu (by kernel_rfl) rfl ?_
      refine bG 0 7 [] [[],[0],[0,1],[0,1,2],[],[0,1,2,3],[],[0,1,2,3,4,5,6],[0,1,2,3,4,5,6,7],[0,1,2,3,4,5,6,7,8],[0,1,2,3,4,5,6,7],[0,1,2,3,4,5,6,7,10],[0,1,2,3,4,5,6,7,10,11]] [[],[],[],[],[],[],[]] (fun _ w'=>Below w3.heap.size w3 w') (fun w w'=>Below w.heap.size w w') [36,37,38,39,40,41,42] rfl rfl (by rfl) (by kernel_rfl) (by kernel_rfl) (by kernel_rfl) (by kernel_rfl) (by kernel_rfl) (by rfl) (fun _=>Below.refl _ _) (by rfl) (below_drewN (Below.refl _ _) 1) ?_
      simp only [List.take_succ_cons,List.take_zero,List.drop_zero,List.drop_succ_cons,gP,List.map_cons,List.map_nil]
      apply aH.step
      case aB=>
       intro c A w' hok hC hO hD
       have e0:=hO 0 (by rfl)
       simp [Act.eval] at e0
       simp [au,ah,aj,Act.eval,Region.binds] at hD
       simp [go_sem,gd,Oper.wp,hD,e0]
       exact ak.mk (Below.refl _ _) hC (ah.mk _ _)
      apply aH.step
      case aB=>
       intro c A w' hok hC hO hD
       simp [au,ah,aj,Act.eval,Region.binds] at hD
       simp [go_sem,gd,Oper.wp,hD]
       exact ak.mk (Below.refl _ _) hC (ah.mk _ _)
      apply aH.step
      case aB=>
       intro c A w' hok hC hO hD
       simp [au,ah,aj,Act.eval,Region.binds] at hD
       simp [go_sem,gd,Oper.wp,hD]
       exact ak.mk (Below.refl _ _) hC (ah.mk _ _)
      apply aH.step
      case aB=>
       intro c A w' hok hC hO hD
       simp [au,ah,aj,Act.eval,Region.binds] at hD
       simp [go_sem,gd,Oper.wp,hD,L3,hC]
       exact ak.mk (Below.refl _ _) hC (ah.mk _ _)
      apply aH.step
      case aB=>
       intro c A w' hok hC hO hD
       have e7:=hO 7 (by rfl)
       simp [Act.eval] at e7
       simp [au,ah,aj,Act.eval,Region.binds] at hD
       simp [go_sem,gd,Oper.wp,hD,e7,Y0,Y1,Y2,Y3,Y4,Y5,Y6,Y7,Y8,Y9,J3,hC]
       exact ak.mk (Below.refl _ _) hC (ah.mk _ _)
      apply aH.step
      case aB=>
       intro c A w' hok hC hO hD
       simp [au,ah,aj,Act.eval,Region.binds] at hD
       simp [go_sem,gd,Oper.wp,hD]
       exact ak.mk (Below.refl _ _) hC (ah.mk _ _)
      refine aH.some (fun v w'=> ∃bb,v= .slice (some ⟨bb,0,none⟩) 1 1∧w'.heap[bb]? =some (.cells IG 42 (0,0))) ?_ ?_ ?_
      ·rintro v w w' hle ⟨bb,rfl,hbb⟩
       exact ⟨bb,rfl,(hle.block bb (Array.getElem?_eq_some_iff.1 hbb).1).trans hbb⟩
      ·intro c A w' hok hC hO hD
       simp [go_sem,gd,Oper.wp]
       exact ak.mk (d:=_) (v:= .slice (some ⟨_,0,none⟩) 1 1) (ay _ _) (hC.trans ((ay _ _).mono hC.size)) ⟨_,rfl,heap_alloc_new _ _⟩
      simp only [List.nil_append,List.cons_append]
      refine aH.done ?_
      intro wz bK
      simp only [List.drop_zero]
      intro v0 h0 v1 h1 v2 h2 v3 h3 v4 h4 v5 h5 v6 h6
      have h0':v0=_:=h0
      have h1':v1=_:=h1
      have h2':v2=_:=h2
      have h3':v3=_:=h3
      have h4':v4=_:=h4
      have h5':v5=_:=h5
      subst h0' h1' h2' h3' h4' h5'
      obtain ⟨bb,rfl,hbb⟩:=h6
      clear h0 h1 h2 h3 h4 h5
      refine bM.nil ?_
      go_simp
      refine gY 7 [[],[0],[0,1],[0,1,2],[],[0,1,2,3],[],[0,1,2,3,4,5,6],[0,1,2,3,4,5,6,7],[0,1,2,3,4,5,6,7,8],[0,1,2,3,4,5,6,7],[0,1,2,3,4,5,6,7,10],[0,1,2,3,4,5,6,7,10,11]] rfl rfl rfl rfl rfl (by kernel_rfl) (by kernel_rfl) (by kernel_rfl) ?_
      obtain ⟨i0,hi0,hz0,hz1,hz2⟩:=FD
      have qA:=Lib.hid (HI3.out.below bK)
      refine wp_append_lies wz _ _ _ (by rfl) L.B1 42 i0 _ 11 176 Tryd.underlying33 hi0 hz0 hz1 hz2 (by rfl) (by omega) (.slice aJ A.length aI) A.length (sF A) (by rfl) qA.out.row ⟨bb,0,none⟩ 1 1 IG.toList (by rfl) (by rfl) (World.news_of_block hbb) (by decide) (by omega) (by unfold maxLen; omega) (by omega) qA.out.sz wz.heap.size rfl ?_
      intro g' cap' w4 nI lS sV vX
      clear hi0 hz0 hz1 hz2 hbb Y0 Y1 Y2 Y3 Y4 Y5 Y6 Y7 Y8 Y9 J3 L3
      have uL:=Lib.hid (HI3.out.push ⟨h,b,e,s⟩ (jV.out.below ((qM.out.mono tC.out.b0).trans (zF.out.below HI2.out.b0 (by simp [Value.ownBlock])))) bK nI lS sV)
      have hgb:=(nI.lt g' rfl).1
      have gV:Hid (w4.heap[L.bc]? =some (.cells (PG p aC aF aA av (j:Int) (.slice aJ A.length aI) L.bs L.bt) 70 (0,0))):=Lib.hid (by
       rw [lS.block _ (by have:=qA.out.sz; have:=L.c1; omega) (fun e'=>by
        have:=qA.out.own_ne L.c1
        rcases this with h1 | h1
        ·rw [h1] at e'; cases e'
        ·exact h1 e'.symm)]
       exact qA.out.blk)
      have rZ:=Lib.hid (sG nI)
      have wL:g'≠L.bc:=by have:=L.c1; omega
      clear nI lS sV vX hgb
      go_simp
      refine bG 8 13 [9,12] [[],[0],[0,1],[0,1,2],[],[0,1,2,3],[],[0,1,2,3,4,5,6],[0,1,2,3,4,5,6,7],[0,1,2,3,4,5,6,7,8],[0,1,2,3,4,5,6,7],[0,1,2,3,4,5,6,7,10],[0,1,2,3,4,5,6,7,10,11]] [[some false,none],[some false,none],[none,some false],[none,some false],[none,some false]] (PC w4 g' (A.length * 11) (kS h b e s) ⟨L.bc,3,none⟩ (.slice (some ⟨g',0,none⟩) (A.length + 1) cap')) (fun _ _=>True) [44,45,46] rfl rfl (by rfl) (by kernel_rfl) (by kernel_rfl) (by kernel_rfl) (by kernel_rfl) (by kernel_rfl) (by rfl) (fun _=>trivial) (by rfl) rfl ?_
      simp only [List.take_succ_cons,List.take_zero,List.drop_zero,List.drop_succ_cons,gP,List.map_cons,List.map_nil]
      have FE:(0:Int)≤(A.length:Int):=by omega
      have hA1:(A.length:Int) < (A.length:Int) + 1:=by omega
      apply aH.step
      case aB=>
       intro c A w' hok hC hO hD
       have e43:=hO 43 (by rfl)
       have e41:=hO 41 (by rfl)
       simp [Act.eval] at e43 e41
       simp [au,ah,aj,Act.eval,Region.binds] at hD
       simp [go_sem,gd,Oper.wp,hD,e43,e41,hA1]
       exact ak.mk trivial (PC.skip (by rfl) (by rfl) hC) (ah.mk _ _)
      refine aH.some (fun _ _=>True) (fun _ _ _ _ _=>trivial) ?_ ?_
      ·intro c A' w' hok hC hO hD
       obtain ⟨x,y,rfl⟩:=hC.bits
       obtain ⟨rfl,-⟩:=hok
       have e40:=hO 40 (by rfl)
       simp [au,ah,aj,Act.eval,Region.binds] at hD
       simp only [gd,if_true]
       refine wp_store_mid _ _ _ (by rfl) g' (A.length * 11) (kS h b e s).toArray (by simp [Act.eval,hD]) (e40.trans (by rfl)) (vJ rZ.out (hC.FM wL)) FK (by simp [kS,Value.oneCell']) ?_
       exact ak.mF trivial (PC.elt wL (by rfl) (by rfl) hC) trivial
      simp only [List.nil_append,List.cons_append]
      apply aH.step
      case aB=>
       intro c A w' hok hC hO hD
       have e36:=hO 36 (by rfl)
       simp [Act.eval] at e36
       simp [au,ah,aj,Act.eval,Region.binds] at hD
       simp [go_sem,gd,Oper.wp,hD,e36]
       exact ak.mk trivial (PC.skip (by rfl) (by rfl) hC) (ah.mk _ _)
      apply aH.step
      case aB=>
       intro c A w' hok hC hO hD
       simp [au,ah,aj,Act.eval,Region.binds] at hD
       simp [go_sem,gd,Oper.wp,hD]
       exact ak.mk trivial (PC.skip (by rfl) (by rfl) hC) (ah.mk _ _)
      refine aH.some (fun _ _=>True) (fun _ _ _ _ _=>trivial) ?_ ?_
      ·intro c A' w' hok hC hO hD
       obtain ⟨x,y,rfl⟩:=hC.bits
       obtain ⟨rfl,-⟩:=hok
       have e43:=hO 43 (by rfl)
       simp [Act.eval] at e43
       simp [au,ah,aj,Act.eval,Region.binds] at hD
       have hbk0:w'.heap[L.bc]? =w4.heap[L.bc]?:=PC.FL (a:=⟨L.bc,3,none⟩) wL hC (Array.getElem?_eq_some_iff.1 gV.out).1
       have hbk:=hbk0.trans gV.out
       have hcl:w'.cell? ⟨L.bc,3,none⟩=some (.slice aJ A.length aI):=(dM hbk (j:=3) rfl).2
       have hfr:w'.frozen? ⟨L.bc,3,none⟩=false:=dH hbk
       simp [go_sem,gd,Oper.wp,hD,e43,hcl,hfr]
       exact ak.mF (v:=undef) trivial (PC.QB (by rfl) (by rfl) hC) trivial
      simp only [List.nil_append,List.cons_append,List.drop_succ_cons,List.drop_zero]
      refine aH.done ?_
      intro w5 GV
      simp only [List.drop_succ_cons,List.drop_zero]
      intro v0 h0 v1 h1 v2 h2 v3 h3 v4 h4
      clear h0 h1 h2 h3 h4
      refine bM.nil ?_
      refine dQ rfl ?_
      have Ac:Hid (w5=(w4.setCells g' (A.length * 11) (kS h b e s)).setCell ⟨L.bc,3,none⟩ (.slice (some ⟨g',0,none⟩) (A.length + 1) cap')):=Lib.hid GV
      rw [← Ac.out] at uL
      have gK:=Lib.hid uL.out.1
      have BU:Hid (Kp L v w w5):=Lib.hid (ze.out.trans (.inl (HO.out.trans (.inl rfl) (Nat.le_refl _))) uL.out.2.1)
      have zK:=Lib.hid uL.out.2.1
      have Bb:=Lib.hid uL.out.2.2
      clear GV Ac uL rZ gV FE hA1 wL
      go_simp
      have xD:Hid (w5.heap[nb]? =some (.cells (kS h b e s).toArray 42 (0,0))):=Lib.hid ((zK.out.far jU rX.out.1 Du.out).trans uw.out)
      have AA:=Lib.hid (Bb.out.ne jU Du.out)
      have Cg:Hid (rU w v (.slice (some ⟨g',0,none⟩) (A.length + 1) cap')):=Lib.hid (HO.out.trans Bb.out ze.out.size)
      have GU:Hid (aR.At w5 L.B0 R (some ⟨bl,off,none⟩) (k + 1)):=Lib.hid (uj.out.below (((qM.out.mono tC.out.b0).trans (zF.out.below HI2.out.b0 (by simp [Value.ownBlock]))).trans (zK.out.below HI3.out.b0 (fun q hq=>(HI3.out.row.lt q hq).1))))
      have BQ:Hid (b.len≤maxLen∧e.len≤maxLen):=Lib.hid jV.out.1.2.2.2.2.2.2
      obtain ⟨-,-,-,-,-,-,-,-,-,y9,iF⟩:=Dp xD.out
      clear hx jU qA bK HI3 ze zF uw zK Bb Du HI2 uq lY qM tC jV uj HO HK xM qE HF HG HI HAT
      go_wp2_with fail
      go_loopw [10,11,12,52] (fun _ _ _ Nv wq=> ∃(kk:Nat) (f2 g2:List (List UInt8)) (v2:Value),Nv= .int .i64 kk∧kk≤2∧res=Fe p j t.nm t0.nm b e R (bF A) ((bF A).app (.cons h b e .nil)) kk f2 g2∧kg (je p) f2∧kg (jm p) g2∧Kp L v w wq∧rU w v v2∧v2.ownBlock≠some nb∧wq.heap[nb]? =some (.cells (kS h b e s).toArray 42 (0,0))∧R.At wq L.B0 (some ⟨bl,off,none⟩) (k + 1)∧jR wq L p aC aF aA av (j:Int) (A++[⟨h,b,e,s⟩]) (mem f2) (mem g2) f2.length g2.length v2) (fun _ _ _ Nv _=>2 - (intOf Nv).toNat)
      case atStart=>exact ⟨0,_,_,_,rfl,by omega,HT.out,pW.out.1,pW.out.2,BU.out,Cg.out,AA.out,xD.out,GU.out,gK.out⟩
      case round=>
       obtain ⟨kk,f2,g2,v2,rfl,hkk,heq2,hf2,hg2,CP,ER,OV,NK,Qy,Ai⟩:=hrel
       clear y9 iF
       have sw:=Lib.hid heq2
       have Pq:=Lib.hid hf2
       have HG2:=Lib.hid hg2
       have xJ:=Lib.hid CP
       have xV:=Lib.hid ER
       have Ba:=Lib.hid OV
       have uV:=Lib.hid NK
       have oK:=Lib.hid Qy
       have qw:=Lib.hid Ai
       have HIS:=Lib.hid (Ai.lK ⟨h,b,e,s⟩ (by simp))
       clear heq2 hf2 hg2 CP ER OV NK Qy Ai HT pW BU Cg AA xD GU gK
       have hk3:kk=0∨kk=1∨kk=2:=by omega
       have Us:=Ug s.bg s.eY b.len s.aT e.len s.dP
       have Uv:=TR s.bg s.eY b.len s.aT e.len s.dP
       rcases hk3 with rfl | rfl | rfl
       ·have pq:Hid (res=if (dh p j t.nm t0.nm b (bF (A++[⟨h,b,e,s⟩])) f2 g2).err != 0 then dh p j t.nm t0.nm b (bF (A++[⟨h,b,e,s⟩])) f2 g2 else Ei p j t.nm t0.nm e R (bF A) (bF (A++[⟨h,b,e,s⟩])) (dh p j t.nm t0.nm b (bF (A++[⟨h,b,e,s⟩])) f2 g2).f (dh p j t.nm t0.nm b (bF (A++[⟨h,b,e,s⟩])) f2 g2).g):=Lib.hid (by rw [qQ]; exact sw.out)
        clear sw
        go_wp2_with fail
        refine (D9.out.1 _ s.bg s.aT (A++[⟨h,b,e,s⟩]) f2 g2 v2 BQ.out.1 HIS.out.2.2.2.1 (by simp; omega) Pq.out HG2.out qw.out).mono ?_
        rintro e' w7 ⟨rfl,sD,xU⟩
        generalize dh p j t.nm t0.nm b (bF (A++[⟨h,b,e,s⟩])) f2 g2=r1 at *
        have zf:Hid (Kp L v w w7):=Lib.hid (xJ.out.trans (.inl xV.out) sD)
        have uo:=Lib.hid xU
        have DK:Hid (w7.heap[nb]? =some (.cells (kS h b e s).toArray 42 (0,0))):=Lib.hid ((sD.far (Array.getElem?_eq_some_iff.1 uV.out).1 rX.out.1 Ba.out).trans uV.out)
        have gX:Hid (R.At w7 L.B0 (some ⟨bl,off,none⟩) (k + 1)):=Lib.hid (oK.out.below (sD.below qw.out.b0 (fun q hq=>(qw.out.row.lt q hq).1)))
        clear sD xU
        cases hr1:(r1.err != 0)
        ·have tF:Hid (res=Fe p j t.nm t0.nm b e R (bF A) ((bF A).app (.cons h b e .nil)) 1 r1.f r1.g):=Lib.hid (pq.out.trans ((if_neg (by rw [hr1]; decide)).trans (by first | rfl | (simp only [qQ]; rfl))))
         obtain ⟨Bv,BP,v7,yx,uG⟩:=uo.out (by simpa using hr1)
         have um:=Lib.hid (And.intro Bv (And.intro BP (And.intro yx uG)))
         clear Bv BP yx uG uo pq
         go_wp2_with fail
         go_roundw
         case rel=>exact ⟨1,r1.f,r1.g,v7,rfl,by omega,tF.out,um.out.1,um.out.2.1,zf.out,xV.out.trans um.out.2.2.1 xJ.out.size,um.out.2.2.1.ne (Array.getElem?_eq_some_iff.1 uV.out).1 Ba.out,DK.out,gX.out,um.out.2.2.2⟩
         case measure=>simp [intOf]
        ·have nV:Hid (res=r1):=Lib.hid (pq.out.trans (if_pos hr1))
         have HX0:Hid (r1.err≠0):=Lib.hid (by simpa using hr1)
         clear pq uo
         go_wp2_with fail
         go_ret2
         refine ⟨mq (by rw [nV.out]; rfl) (by rw [nV.out]; rfl),zf.out,fun h0=> ?_⟩
         rw [nV.out] at h0; exact (HX0.out h0).elim
       ·have pq:Hid (res=if (dh p j t.nm t0.nm e (bF (A++[⟨h,b,e,s⟩])) f2 g2).err != 0 then dh p j t.nm t0.nm e (bF (A++[⟨h,b,e,s⟩])) f2 g2 else dh p j t.nm t0.nm R (bF A) (dh p j t.nm t0.nm e (bF (A++[⟨h,b,e,s⟩])) f2 g2).f (dh p j t.nm t0.nm e (bF (A++[⟨h,b,e,s⟩])) f2 g2).g):=Lib.hid (by rw [qQ]; exact sw.out)
        clear sw
        go_wp2_with fail
        refine (D9.out.2 _ s.eY s.dP (A++[⟨h,b,e,s⟩]) f2 g2 v2 BQ.out.2 HIS.out.2.2.2.2 (by simp; omega) Pq.out HG2.out qw.out).mono ?_
        rintro e' w7 ⟨rfl,sD,xU⟩
        generalize dh p j t.nm t0.nm e (bF (A++[⟨h,b,e,s⟩])) f2 g2=r1 at *
        have zf:Hid (Kp L v w w7):=Lib.hid (xJ.out.trans (.inl xV.out) sD)
        have uo:=Lib.hid xU
        have DK:Hid (w7.heap[nb]? =some (.cells (kS h b e s).toArray 42 (0,0))):=Lib.hid ((sD.far (Array.getElem?_eq_some_iff.1 uV.out).1 rX.out.1 Ba.out).trans uV.out)
        have gX:Hid (R.At w7 L.B0 (some ⟨bl,off,none⟩) (k + 1)):=Lib.hid (oK.out.below (sD.below qw.out.b0 (fun q hq=>(qw.out.row.lt q hq).1)))
        clear sD xU
        cases hr1:(r1.err != 0)
        ·have tF:Hid (res=Fe p j t.nm t0.nm b e R (bF A) ((bF A).app (.cons h b e .nil)) 2 r1.f r1.g):=Lib.hid (pq.out.trans ((if_neg (by rw [hr1]; decide)).trans (by first | rfl | (simp only [qQ]; rfl))))
         obtain ⟨Bv,BP,v7,yx,uG⟩:=uo.out (by simpa using hr1)
         have um:=Lib.hid (And.intro Bv (And.intro BP (And.intro yx uG)))
         clear Bv BP yx uG uo pq
         go_wp2_with fail
         go_roundw
         case rel=>exact ⟨2,r1.f,r1.g,v7,rfl,by omega,tF.out,um.out.1,um.out.2.1,zf.out,xV.out.trans um.out.2.2.1 xJ.out.size,um.out.2.2.1.ne (Array.getElem?_eq_some_iff.1 uV.out).1 Ba.out,DK.out,gX.out,um.out.2.2.2⟩
         case measure=>simp [intOf]
        ·have nV:Hid (res=r1):=Lib.hid (pq.out.trans (if_pos hr1))
         have HX0:Hid (r1.err≠0):=Lib.hid (by simpa using hr1)
         clear pq uo
         go_wp2_with fail
         go_ret2
         refine ⟨mq (by rw [nV.out]; rfl) (by rw [nV.out]; rfl),zf.out,fun h0=> ?_⟩
         rw [nV.out] at h0; exact (HX0.out h0).elim
       ·have tF:Hid (res=dh p j t.nm t0.nm R (bF A) f2 g2):=sw
        obtain ⟨g7,zA,rfl,Vf⟩: ∃g7 zA,v2= .slice (some ⟨g7,0,none⟩) (A.length + 1) zA∧A.length + 1≤zA:=by
         rcases qw.out.row.2 with ⟨-,hn⟩ | ⟨g',cap,cur,e',-,-,hcc,-⟩
         ·simp at hn
         ·exact ⟨g',cap,by rw [e']; simp,by simpa using hcc⟩
        have hcl: ∀w',Below (World.heap wr).size wr w'→w'.cell? ⟨L.bc,3,none⟩=some (.slice (some ⟨g7,0,none⟩) (A.length + 1) zA):=fun w' hb=>(hb.cell (p:=⟨L.bc,3,none⟩) (by have:=qw.out.sz; have:=L.c1; show L.bc < _; omega)).trans (dM qw.out.blk (j:=3) rfl).2
        have hz1:(0:Int)≤(A.length:Int):=by omega
        have hz2:(A.length:Int)≤(zA:Int):=by omega
        have hwr:IntKind.i64.wrap (A.length:Int)=(A.length:Int):=IntWalk.i64_in _ (by omega)
        have DW:(A.length:Int) + 1 - 1=(A.length:Int):=by omega
        clear sw Us Uv
        go_upto_region 17 with fail
        refine cu (by kernel_rfl) rfl ?_
        refine bG 0 14 [] [[],[],[1],[1,2],[1,2,3],[],[5],[5,6],[5,6,7],[5,6,7,8],[5,6,7,8,9],[1,2,3,4,5,6,7,8,9,10],[0,1,2,3,4,5,6,7,8,9,10,11],[0,1,2,3,4,5,6,7,8,9,10,11,12],[0,1,2,3,4,5,6,7,8,9,10,11,12,13]] [[],[],[],[],[],[],[],[],[],[],[],[],[],[]] (fun _ w'=>Below (World.heap wr).size wr w') (fun w w'=>Below w.heap.size w w') [66,67,68,69,70,71,72,73,74,75,76,77,78,79] rfl rfl (by rfl) (by kernel_rfl) (by kernel_rfl) (by kernel_rfl) (by kernel_rfl) (by kernel_rfl) (by rfl) (fun _=>Below.refl _ _) (by rfl) (below_drewN (Below.refl _ _) 1) ?_
        simp only [List.take_succ_cons,List.take_zero,List.drop_zero,List.drop_succ_cons,gP,List.map_cons,List.map_nil]
        apply aH.step
        case aB=>
         intro c A w' hok hC hO hD
         have e0:=hO 0 (by rfl)
         simp [Act.eval] at e0
         simp [au,ah,aj,Act.eval,Region.binds] at hD
         simp [go_sem,gd,Oper.wp,hD,e0]
         exact ak.mk (Below.refl _ _) hC (ah.mk _ _)
        apply aH.step
        case aB=>
         intro c A w' hok hC hO hD
         have e0:=hO 0 (by rfl)
         simp [Act.eval] at e0
         simp [au,ah,aj,Act.eval,Region.binds] at hD
         simp [go_sem,gd,Oper.wp,hD,e0]
         exact ak.mk (Below.refl _ _) hC (ah.mk _ _)
        apply aH.step
        case aB=>
         intro c A w' hok hC hO hD
         simp [au,ah,aj,Act.eval,Region.binds] at hD
         simp [go_sem,gd,Oper.wp,hD]
         exact ak.mk (Below.refl _ _) hC (ah.mk _ _)
        apply aH.step
        case aB=>
         intro c A w' hok hC hO hD
         simp [au,ah,aj,Act.eval,Region.binds] at hD
         simp [go_sem,gd,Oper.wp,hD]
         exact ak.mk (Below.refl _ _) hC (ah.mk _ _)
        apply aH.step
        case aB=>
         intro c A w' hok hC hO hD
         simp [au,ah,aj,Act.eval,Region.binds] at hD
         simp [go_sem,gd,Oper.wp,hD,hcl,hC]
         exact ak.mk (Below.refl _ _) hC (ah.mk _ _)
        simp only [List.nil_append,List.cons_append]
        apply aH.step
        case aB=>
         intro c A w' hok hC hO hD
         have e0:=hO 0 (by rfl)
         simp [Act.eval] at e0
         simp [au,ah,aj,Act.eval,Region.binds] at hD
         simp [go_sem,gd,Oper.wp,hD,e0]
         exact ak.mk (Below.refl _ _) hC (ah.mk _ _)
        apply aH.step
        case aB=>
         intro c A w' hok hC hO hD
         simp [au,ah,aj,Act.eval,Region.binds] at hD
         simp [go_sem,gd,Oper.wp,hD]
         exact ak.mk (Below.refl _ _) hC (ah.mk _ _)
        apply aH.step
        case aB=>
         intro c A w' hok hC hO hD
         simp [au,ah,aj,Act.eval,Region.binds] at hD
         simp [go_sem,gd,Oper.wp,hD]
         exact ak.mk (Below.refl _ _) hC (ah.mk _ _)
        apply aH.step
        case aB=>
         intro c A w' hok hC hO hD
         simp [au,ah,aj,Act.eval,Region.binds] at hD
         simp [go_sem,gd,Oper.wp,hD,hcl,hC]
         exact ak.mk (Below.refl _ _) hC (ah.mk _ _)
        apply aH.step
        case aB=>
         intro c A w' hok hC hO hD
         simp [au,ah,aj,Act.eval,Region.binds] at hD
         simp [go_sem,gd,Oper.wp,hD]
         exact ak.mk (Below.refl _ _) hC (ah.mk _ _)
        simp only [List.nil_append,List.cons_append]
        apply aH.step
        case aB=>
         intro c A w' hok hC hO hD
         simp [au,ah,aj,Act.eval,Region.binds] at hD
         simp [go_sem,gd,Oper.wp,hD,DW,hwr]
         exact ak.mk (Below.refl _ _) hC (ah.mk _ _)
        apply aH.step
        case aB=>
         intro c A w' hok hC hO hD
         simp [au,ah,aj,Act.eval,Region.binds] at hD
         simp [go_sem,gd,Oper.wp,hD,hz1,hz2]
         exact ak.mk (Below.refl _ _) hC (ah.mk _ _)
        simp only [List.nil_append,List.cons_append]
        apply aH.step
        case aB=>
         intro c A w' hok hC hO hD
         simp [au,ah,aj,Act.eval,Region.binds] at hD
         simp [go_sem,gd,Oper.wp,hD]
         exact ak.mk (Below.refl _ _) hC (ah.mk _ _)
        apply aH.step
        case aB=>
         intro c A w' hok hC hO hD
         simp [au,ah,aj,Act.eval,Region.binds] at hD
         simp [go_sem,gd,Oper.wp,hD]
         exact ak.mk (Below.refl _ _) hC (ah.mk _ _)
        simp only [List.nil_append,List.cons_append]
        refine aH.done ?_
        intro wz bK
        simp only [List.drop_zero]
        intro v0 h0 v1 h1 v2 h2 v3 h3 v4 h4 v5 h5 v6 h6 v7 h7 v8 h8 v9 h9 v10 h10 v11 h11 v12 h12 v13 mP
        have zi:v11=_:=h11
        have Db:v13=_:=mP
        subst zi Db
        clear h0 h1 h2 h3 h4 h5 h6 h7 h8 h9 h10 h11 h12 mP
        refine bM.nil ?_
        go_simp
        have Bz:=Lib.hid (jR.pop ⟨h,b,e,s⟩ qw.out bK)
        have hclz:wz.cell? ⟨L.bc,3,none⟩=some (.slice (some ⟨g7,0,none⟩) (A.length + 1) zA):=hcl wz bK
        have Dk:wz.frozen? ⟨L.bc,3,none⟩=false:=dH ((qw.out.below bK).blk)
        clear hcl DW hwr
        refine gY 14 [[],[],[1],[1,2],[1,2,3],[],[5],[5,6],[5,6,7],[5,6,7,8],[5,6,7,8,9],[1,2,3,4,5,6,7,8,9,10],[0,1,2,3,4,5,6,7,8,9,10,11],[0,1,2,3,4,5,6,7,8,9,10,11,12],[0,1,2,3,4,5,6,7,8,9,10,11,12,13]] rfl rfl rfl rfl rfl (by kernel_rfl) (by kernel_rfl) (by kernel_rfl) ?_
        simp [go_sem,Oper.wp,hclz,Dk]
        refine dQ rfl ?_
        clear hclz Dk bK
        go_simp
        go_wp2_with fail
        go_roundw
        case rel=>exact ⟨k + 1,R,f2,g2,.slice (some ⟨g7,0,none⟩) A.length zA,by go_num,by simp only [aR.len] at hlen; omega,tF.out,Jp.out,oK.out.below (Bz.out.2.below qw.out.b0 (fun q hq=>(qw.out.row.lt q hq).1)),Pq.out,HG2.out,xJ.out.trans (.inl xV.out) Bz.out.2,xV.out.trans (.inl rfl) xJ.out.size,Bz.out.1⟩
        case measure=>simp [intOf]; omega
     ·have HX:Hid (res=⟨x,h.line,f1,g1⟩):=Lib.hid (HE2.out.trans (HU.out.trans (by rw [hx]; rfl)))
      have HX0:Hid (x≠0):=Lib.hid (by simpa using hx)
      clear HU vM HE HE2
      go_wp2_with fail
      go_quiet (fail)
      go_wp2_with fail
      go_ret2
      refine ⟨mq (by rw [HX.out]; rfl) (by rw [HX.out]; rfl),ze.out.trans (.inr rfl) (v1:= .slice none 0 0) (Kp.of_below (below_drewN (Below.refl _ _) _)),fun h0=> ?_⟩
      rw [HX.out] at h0; exact (HX0.out h0).elim
theorem FY (L:Lay) (p:Pr) (aC aF:Option Addr) (aA av:Nat) (j:Nat) (t t0:Th) (r r0:List Th) (hd:p.ts.drop j=t ::r) (hts:p.ts=t0 ::r0) (hj:aX (j:Int)) (hT:p.ts.length < maxLen) (hD:p.ds.length < maxLen) (l:aR):vC L p aC aF aA av j t t0 l:=
 wX L p aC aF aA av j t t0 r r0 hd hts hj hT hD l (aR.lM (fun _ b e hb he=>⟨wX L p aC aF aA av j t t0 r r0 hd hts hj hT hD b hb,wX L p aC aF aA av j t t0 r r0 hd hts hj hT hD e he⟩) l)
end Go.Proofs.YtnknfoibmgphnaaDoor
end
section
set_option linter.unusedSimpArgs false
set_option linter.unusedVariables false
namespace Go.Proofs.YtnknfoibmgphnaaDoor
open Go.RowKit
namespace Md
def gG (p:Pr) (dF:ByteArray):List Th→Nat→List (List UInt8)→List (List UInt8)→BI
 | [],_,f,g=>⟨0,0,f,g⟩
 | t ::r,j,f,g=>if (dh p j t.nm dF t.body .nil f g).err != 0 then dh p j t.nm dF t.body .nil f g else gG p dF r (j + 1) (dh p j t.nm dF t.body .nil f g).f (dh p j t.nm dF t.body .nil f g).g
end Md
open Md
def KX (n:Nat) (h:0 < n):Lay where
 B0:=n
 B1:=n + 4
 bc:=n + 1 + 1 + 1
 bs:=n + 1
 bt:=n + 1 + 1
 c0:=by omega
 s0:=by omega
 t0:=by omega
 c1:=by omega
 s1:=by omega
 t1:=by omega
 cs:=by omega
 ct:=by omega
 st:=by omega
 kw:=h
theorem MW {p:Pr} {w W:World} {aC aF:Option Addr} {aA av:Nat} (hp:p.At w aC aF) (dL:dZ w)
 (hW:((((w.alloc (.cells #[.slice aC p.ds.length aA,.slice aF p.ts.length av] 26)).alloc (.map #[] 0)).alloc (.map #[] 0)).alloc (.cells #[.slice aC p.ds.length aA,.slice aF p.ts.length av,.int .i64 0,.slice none 0 0,.map (some (w.heap.size + 1)),.map (some (w.heap.size + 1 + 1))] 70))=W):
 jR W (KX w.heap.size dL.lt) p aC aF aA av 0 [] (mem []) (mem []) 0 0 (.slice none 0 0)∧Below w.heap.size w W∧W.heap[w.heap.size]? =some (.cells #[.slice aC p.ds.length aA,.slice aF p.ts.length av] 26 (0,0)):=by
 have hb:Below w.heap.size w W:=by
  rw [← hW]
  exact ((((Below.refl _ _).alloc (Nat.le_refl _) _).alloc (by simp) _).alloc (by simp; omega) _).alloc (by simp; omega) _
 have h0:W.heap[w.heap.size]? =some (.cells #[.slice aC p.ds.length aA,.slice aF p.ts.length av] 26 (0,0)):=by
  rw [← hW,heap_alloc_old _ _ (by simp; omega),heap_alloc_old _ _ (by simp; omega),heap_alloc_old _ _ (by simp)]
  exact heap_alloc_new _ _
 have h1:iL W (w.heap.size + 1) 0 (mem []):=by
  have:=iL.made (w.alloc (.cells #[.slice aC p.ds.length aA,.slice aF p.ts.length av] 26))
  have e:(w.alloc (.cells #[.slice aC p.ds.length aA,.slice aF p.ts.length av] 26)).heap.size=w.heap.size + 1:=by simp
  rw [e] at this
  refine iL.same (f:=mem []) this ?_
  rw [← hW,heap_alloc_old _ _ (by simp),heap_alloc_old _ _ (by simp)]
 have h2:iL W (w.heap.size + 1 + 1) 0 (mem []):=by
  have:=iL.made ((w.alloc (.cells #[.slice aC p.ds.length aA,.slice aF p.ts.length av] 26)).alloc (.map #[] 0))
  have e:((w.alloc (.cells #[.slice aC p.ds.length aA,.slice aF p.ts.length av] 26)).alloc (.map #[] 0)).heap.size=w.heap.size + 1 + 1:=by simp
  rw [e] at this
  refine iL.same (f:=mem []) this ?_
  rw [← hW,heap_alloc_old _ _ (by simp)]
 have h3:W.heap[w.heap.size + 1 + 1 + 1]? =some (.cells (PG p aC aF aA av 0 (.slice none 0 0) (w.heap.size + 1) (w.heap.size + 1 + 1)) 70 (0,0)):=by
  rw [← hW]
  have e:(((w.alloc (.cells #[.slice aC p.ds.length aA,.slice aF p.ts.length av] 26)).alloc (.map #[] 0)).alloc (.map #[] 0)).heap.size=w.heap.size + 1 + 1 + 1:=by simp
  rw [← e]; exact heap_alloc_new _ _
 refine ⟨{blk:=h3,row:=World.ownsRow_nil _ _ _ _,ms:=h1,mt:=h2,sz:= ?_,dat:= ?_,lK:=by intro x hx; simp at hx},hb,h0⟩
 ·show w.heap.size + 4≤W.heap.size
  rw [← hW]; simp
 ·exact ⟨hp.1,hp.2.1,hp.2.2.1.below hb,hp.2.2.2.below hb,dL.same hb⟩
theorem jR.Kh {w:World} {L:Lay} {p:Pr} {aC aF:Option Addr} {aA av:Nat} {i i':Int} {A:List Fr} {f g:List UInt8→Bool} {n m:Nat} {v:Value}
 (h:jR w L p aC aF aA av i A f g n m v):jR (w.setCell ⟨L.bc,2,none⟩ (.int .i64 i')) L p aC aF aA av i' A f g n m v:=by
 have hg:=dY w ⟨L.bc,2,none⟩ (.int .i64 i')
 have hbel:=fC hg L.c0 h.b0
 exact {blk:=by rw [dN h.blk]; rfl,row:=h.row.kept hg (h.own_ne L.c1),ms:=h.ms.same (aO w _ _ rfl L.cs),mt:=h.mt.same (aO w _ _ rfl L.ct),sz:=Nat.le_trans h.sz hg.size,dat:=h.dat.below hbel,lK:=fun x hx=>(h.lK x hx).below hbel}
set_option maxHeartbeats 4000000 in
set_option maxRecDepth 100000 in
theorem EO (p:Pr) (w:World) (aC aF:Option Addr) (aA av:Nat) (t0:Th) (r0:List Th) (hts:p.ts=t0 ::r0) (hT:p.ts.length < maxLen) (hD:p.ds.length < maxLen) (hp:p.At w aC aF) (dL:dZ w):
 Calls Tryd.prog 17 #[.agg #[.slice aC p.ds.length aA,.slice aF p.ts.length av]] w fun e w'=>e= .returned (.tuple #[.int .i64 (gG p t0.nm p.ts 0 [] []).err,.int .i64 (gG p t0.nm p.ts 0 [] []).line])∧Below w.heap.size w w':=by
 generalize hres:gG p t0.nm p.ts 0 [] []=res
 have HR:=Lib.hid hres
 have HP:=Lib.hid hp
 have iW:=Lib.hid dL
 have vO:=Lib.hid hts
 have HT:=Lib.hid hT
 unfold maxLen at hT
 clear hres hp dL hts
 have hmm:= @run_makeMap Tryd.prog
 go_enter Tryd.func17,Tryd.ntmps17
 go_upto_region 2 with fail
 generalize hW:World.alloc (World.alloc (World.alloc (World.alloc w _) _) _) _=W
 generalize Value.agg #[_,_]=a0
 have HS:=Lib.hid (MW HP.out iW.out hW)
 obtain ⟨L,hL⟩: ∃L,KX w.heap.size iW.out.lt=L:=⟨_,rfl⟩
 have Hu:w.heap.size + 1 + 1 + 1=L.bc:=by rw [← hL]; rfl
 have NQ:Hid (w.heap.size=L.B0):=Lib.hid (by rw [← hL]; rfl)
 rw [hL] at HS
 clear hW hL hmm
 have c0:W.cell? ⟨w.heap.size,1,none⟩=some (.slice aF p.ts.length av):=(dM HS.out.2.2 (j:=1) rfl).2
 rw [Hu]
 clear Hu
 go_wp2_with fail
 go_loopw [5,6,7,8,17] (fun _ _ _ _ s wr=> ∃(k:Nat) (R:List Th) (f1 g1:List (List UInt8)) (v1:Value) (i1:Int),s= .int .i64 k∧k + R.length=p.ts.length∧p.ts.drop k=R∧res=gG p t0.nm R k f1 g1∧kg (je p) f1∧kg (jm p) g1∧Below L.B0 w wr∧jR wr L p aC aF aA av i1 [] (mem f1) (mem g1) f1.length g1.length v1) (fun _ _ _ _ s _=>p.ts.length - (intOf s).toNat)
 case atStart=>exact ⟨0,p.ts,[],[],_,0,rfl,by simp,rfl,HR.out.symm,⟨List.nodup_nil,by simp⟩,⟨List.nodup_nil,by simp⟩,by rw [← NQ.out]; exact HS.out.2.1,HS.out.1⟩
 case round=>
  obtain ⟨k,R,f1,g1,v1,i1,rfl,hlen,hdr,heq,hf1,hg1,hB,hI⟩:=hrel
  have HE:=Lib.hid heq
  have xM:=Lib.hid hf1
  have qE:=Lib.hid hg1
  have HB:=Lib.hid hB
  have HI:=Lib.hid hI
  have HDR:=Lib.hid hdr
  clear heq hf1 hg1 hB hI hdr c0 HS
  cases R with
  | nil=>
    obtain rfl:k=p.ts.length:=by simpa using hlen
    have HX:Hid (res.err=0∧res.line=0):=Lib.hid (by rw [HE.out]; exact ⟨rfl,rfl⟩)
    go_wp2_with fail
    go_ret2
    exact ⟨mq (by rw [HX.out.1]; rfl) (by rw [HX.out.2]; rfl),by rw [NQ.out]; exact HB.out⟩
  | cons t R=>
    have hrow:=HI.out.dat.2.2.2.1.drop k
    rw [HDR.out,Nat.zero_add] at hrow
    obtain ⟨⟨bl,off,iQ,gy,bg,aT,rfl,hbl,x0,x1,x2,x3,hok,htx,hst,-⟩,-⟩:=hrow
    simp only [List.length_cons] at hlen
    have hkl:k < p.ts.length:=by omega
    have lX:=Lib.hid hok
    have HST:=Lib.hid hst
    clear hok hst htx hbl
    go_upto_region 5 with fail
    obtain ⟨nb,hnb⟩: ∃n,wr.heap.size=n:=⟨_,rfl⟩
    generalize hW2:World.alloc wr _=W2
    have lY:Hid (W2.heap[nb]? =some (.cells #[.string t.nm,.int .i64 t.line,.slice iQ t.bH.length gy,.slice bg t.body.len aT] 35 (0,0))):=Lib.hid (by rw [← hW2,← hnb]; exact heap_alloc_new _ _)
    have qM:Hid (Below wr.heap.size wr W2):=Lib.hid (by rw [← hW2]; exact ay _ _)
    have HI2:=Lib.hid (HI.out.below qM.out)
    have rX:Hid (L.B1≤nb):=Lib.hid (by rw [← hnb]; exact HI.out.sz)
    have HB2:Hid (Below L.B0 w W2):=Lib.hid (HB.out.trans (qM.out.mono HI.out.b0))
    have Nr:=Lib.hid (HST.out.below (qM.out.mono HI.out.b0))
    rw [hnb]
    clear hW2 hnb x0 x1 x2 x3 HST HB
    have c2:W2.cell? ⟨L.bc,2,none⟩=some (.int .i64 i1):=(dM HI2.out.blk (j:=2) rfl).2
    have f2:W2.frozen? ⟨L.bc,2,none⟩=false:=dH HI2.out.blk
    go_upto_region 6 with fail
    generalize hW3:World.setCell W2 _ _=W3
    have Hq:Hid (W2.grownBy W3 (some L.bc)):=Lib.hid (by rw [← hW3]; exact dY _ _ _)
    have HI3:Hid (jR W3 L p aC _ aA av (k:Int) [] (mem f1) (mem g1) f1.length g1.length v1):=Lib.hid (by rw [← hW3]; exact HI2.out.Kh)
    have uw:Hid (W3.heap[nb]? =some (.cells #[.string t.nm,.int .i64 t.line,.slice iQ t.bH.length gy,.slice bg t.body.len aT] 35 (0,0))):=Lib.hid ((Hq.out.block _ (Array.getElem?_eq_some_iff.1 lY.out).1 (by have:=L.c1; have:=rX.out; simp; omega)).trans lY.out)
    have FT:=Lib.hid (fC Hq.out L.c0 HI2.out.b0)
    have HB3:=Lib.hid (HB2.out.trans FT.out)
    have Sd:=Lib.hid (Nr.out.below FT.out)
    clear hW3 c2 f2 HI2 lY qM HB2 Nr FT HI
    have y3:W3.cell? ⟨nb,3,none⟩=some (.slice bg t.body.len aT):=(dM uw.out (j:=3) rfl).2
    have pq:Hid (res=if (dh p k t.nm t0.nm t.body (bF []) f1 g1).err != 0 then dh p k t.nm t0.nm t.body (bF []) f1 g1 else gG p t0.nm R (k + 1) (dh p k t.nm t0.nm t.body (bF []) f1 g1).f (dh p k t.nm t0.nm t.body (bF []) f1 g1).g):=Lib.hid HE.out
    clear HE
    go_wp2_with fail
    refine (FY L p _ _ aA av k t t0 R r0 HDR.out vO.out (by unfold aX; omega) HT.out hD t.body W3 bg aT [] f1 g1 v1 lX.out.2.2.2 Sd.out (by simp) xM.out qE.out HI3.out).mono ?_
    rintro e' w4 ⟨rfl,hK4,hq4⟩
    generalize dh p k t.nm t0.nm t.body (bF []) f1 g1=r1 at *
    have gV:=Lib.hid (HB3.out.trans (hK4.below HI3.out.b0 (fun q hq=>(HI3.out.row.lt q hq).1)))
    have Av:=Lib.hid hq4
    clear hK4 hq4
    cases hr1:(r1.err != 0)
    ·have tF:Hid (res=gG p t0.nm R (k + 1) r1.f r1.g):=Lib.hid (pq.out.trans (if_neg (by rw [hr1]; decide)))
     obtain ⟨Bv,BP,v7,-,uG⟩:=Av.out (by simpa using hr1)
     have um:=Lib.hid (And.intro Bv (And.intro BP uG))
     have HD7:Hid (p.ts.drop (k + 1)=R):=Lib.hid (by rw [← List.drop_drop,HDR.out]; rfl)
     clear Bv BP uG Av pq
     go_wp2_with fail
     go_roundw
     case rel=>exact ⟨k + 1,R,r1.f,r1.g,v7,_,by go_num,by omega,HD7.out,tF.out,um.out.1,um.out.2.1,gV.out,um.out.2.2⟩
     case measure=>simp [intOf]; omega
    ·have nV:Hid (res=r1):=Lib.hid (pq.out.trans (if_pos hr1))
     clear pq Av
     go_wp2_with fail
     go_ret2
     exact ⟨mq (by rw [nV.out]; rfl) (by rw [nV.out]; rfl),by rw [NQ.out]; exact gV.out⟩
end Go.Proofs.YtnknfoibmgphnaaDoor
end
