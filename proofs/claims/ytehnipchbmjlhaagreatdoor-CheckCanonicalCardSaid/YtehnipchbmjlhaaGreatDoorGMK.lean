/-
  Contract of the checker's list.
  Contract of check.statements.
-/
import Derived.Test.YtehnipchbmjlhaaGreatDoorGMJ
import Derived.StillTailTactics
import Derived.IntWalk
set_option linter.unusedSimpArgs false
set_option linter.unusedVariables false
set_option maxHeartbeats 40000000
set_option maxRecDepth 1000000
section
namespace Go.Proofs.YtehnipchbmjlhaaGreatDoor
open Go.RowKit
open Md
theorem aN.At.eH {w:World} {B:Nat} {h:aV} {b e r:aN} {ao:Option Addr} {k:Nat} (hat:(aN.cons h b e r).At w B ao k): ∃bl off s,ao=some ⟨bl,off,none⟩∧bl < B∧ug w B h b e s∧
 w.cell? ⟨bl,off + k * 11,none⟩=some (.int .i64 h.op)∧w.cell? ⟨bl,off + k * 11 + 1,none⟩=some (.int .i64 h.line)∧w.cell? ⟨bl,off + k * 11 + 2,none⟩=some (.string h.nm)∧w.cell? ⟨bl,off + k * 11 + 3,none⟩=some (.string h.arg)∧w.cell? ⟨bl,off + k * 11 + 4,none⟩=some (.slice s.dF h.idx.len s.bT)∧
 w.cell? ⟨bl,off + k * 11 + 5,none⟩=some (.int .i64 h.bD)∧w.cell? ⟨bl,off + k * 11 + 6,none⟩=some (.int .i64 h.xn)∧w.cell? ⟨bl,off + k * 11 + 7,none⟩=some (.string h.bC)∧w.cell? ⟨bl,off + k * 11 + 8,none⟩=some (.slice s.bS h.aL.len s.bf)∧
 w.cell? ⟨bl,off + k * 11 + 9,none⟩=some (.slice s.bG b.len s.aS)∧w.cell? ⟨bl,off + k * 11 + 10,none⟩=some (.slice s.dw e.len s.bR)∧r.At w B ao (k + 1):=by
 obtain ⟨⟨b,off,dF,bT,bS,bf,bG,aS,dw,bR,e,hB,c0,c1,c2,c3,c4,c5,c6,c7,c8,c9,c10,hok,h1,h2,h3,h4⟩,hr⟩:=hat
 exact ⟨b,off,⟨dF,bT,bS,bf,bG,aS,dw,bR⟩,e,hB,⟨hok,h1,h2,h3,h4⟩,c0,c1,c2,c3,c4,c5,c6,c7,c8,c9,c10,hr⟩
theorem nY {w:World} {nb:Nat} {h:aV} {b e:aN} {s:Sl} {t:TypeId} {fr:Nat × Nat} (hb:w.heap[nb]? =some (.cells (mE h b e s).toArray t fr)):w.cell? ⟨nb,0,none⟩=some (.int .i64 h.op)∧w.cell? ⟨nb,1,none⟩=some (.int .i64 h.line)∧w.cell? ⟨nb,2,none⟩=some (.string h.nm)∧w.cell? ⟨nb,3,none⟩=some (.string h.arg)∧w.cell? ⟨nb,4,none⟩=some (.slice s.dF h.idx.len s.bT)∧w.cell? ⟨nb,5,none⟩=some (.int .i64 h.bD)∧w.cell? ⟨nb,6,none⟩=some (.int .i64 h.xn)∧w.cell? ⟨nb,7,none⟩=some (.string h.bC)∧w.cell? ⟨nb,8,none⟩=some (.slice s.bS h.aL.len s.bf)∧w.cell? ⟨nb,9,none⟩=some (.slice s.bG b.len s.aS)∧w.cell? ⟨nb,10,none⟩=some (.slice s.dw e.len s.bR):=
 ⟨(bL hb (j:=0) rfl).2,(bL hb (j:=1) rfl).2,(bL hb (j:=2) rfl).2,(bL hb (j:=3) rfl).2,(bL hb (j:=4) rfl).2,(bL hb (j:=5) rfl).2,(bL hb (j:=6) rfl).2,(bL hb (j:=7) rfl).2,(bL hb (j:=8) rfl).2,(bL hb (j:=9) rfl).2,(bL hb (j:=10) rfl).2⟩
theorem tq {x y a b:Value} (h1:x=a) (h2:y=b):Ending.returned (.tuple #[x,y])= .returned (.tuple #[a,b]):=by rw [h1,h2]
theorem Uq:(Tryz.prog.info? 89).map (fun i=>(i.zero,i.size,i.bytes))=some (some (.agg #[.int .i64 0,.int .i64 0,.string ⟨#[]⟩,.string ⟨#[]⟩,.slice none 0 0,.int .i64 0,.int .i64 0,.string ⟨#[]⟩,.slice none 0 0,.slice none 0 0,.slice none 0 0]),11,176):=by kernel_rfl
def FM:Array Value:= #[.int .i64 0,.int .i64 0,.string ⟨#[]⟩,.string ⟨#[]⟩,.slice none 0 0,.int .i64 0,.int .i64 0,.string ⟨#[]⟩,.slice none 0 0,.slice none 0 0,.slice none 0 0]
theorem JU: ∃i0,Tryz.prog.info? 89=some i0∧i0.zero=some (.agg FM)∧i0.size=11∧i0.bytes=176:=info_parts Uq
theorem Kh:(Tryz.prog.info? 89).map (·.size)=some 11:=by kernel_rfl
theorem ix0 (a b:Option Addr) (l1 c1 l2 c2:Nat) (w:World):(Instr.index 164 (.agg #[.slice a l1 c1,.slice b l2 c2]) (.int .i64 0)).run Tryz.prog w= .ok (.slice a l1 c1) w:=by kernel_rfl
theorem ix1 (a b:Option Addr) (l1 c1 l2 c2:Nat) (w:World):(Instr.index 164 (.agg #[.slice a l1 c1,.slice b l2 c2]) (.int .i64 1)).run Tryz.prog w= .ok (.slice b l2 c2) w:=by kernel_rfl
def Qo (p:Pr) (j:Nat) (tn eZ:ByteArray) (e R ar pE:aN) (f g:List (List UInt8)):ER:=if (gq p j tn eZ e pE f g).err != 0 then gq p j tn eZ e pE f g else gq p j tn eZ R ar (gq p j tn eZ e pE f g).f (gq p j tn eZ e pE f g).g
def ai0 (p:Pr) (j:Nat) (tn eZ:ByteArray) (b e R ar pE:aN) (f g:List (List UInt8)):ER:=if (gq p j tn eZ b pE f g).err != 0 then gq p j tn eZ b pE f g else Qo p j tn eZ e R ar pE (gq p j tn eZ b pE f g).f (gq p j tn eZ b pE f g).g
def Nb (p:Pr) (j:Nat) (tn eZ:ByteArray) (b e R ar pE:aN) (k:Nat) (f g:List (List UInt8)):ER:=if k=0 then ai0 p j tn eZ b e R ar pE f g else if k=1 then Qo p j tn eZ e R ar pE f g else gq p j tn eZ R ar f g
def XG (w:World) (L:Lay) (p:Pr) (aH aI:Option Addr) (aC aD:Nat) (i:Int) (A:List Fr) (v:Value) (r:ER) (e:Ending) (w':World):Prop:=
 e= .returned (.tuple #[.int .i64 r.err,.int .i64 r.line])∧Kp L v w w'∧(r.err=0→qZ (oD p) r.f∧qZ (oF p) r.g∧ ∃v',tK w v v'∧jd w' L p aH aI aC aD i A (mem r.f) (mem r.g) r.f.length r.g.length v')
def yj (L:Lay) (p:Pr) (aH aI:Option Addr) (aC aD:Nat) (j:Nat) (t t0:Th) (l:aN):Prop:=
 ∀(w:World) (ao:Option Addr) (cap:Nat) (A:List Fr) (f g:List (List UInt8)) (v:Value),l.len≤maxLen→l.At w L.B0 ao 0→A.length≤6→qZ (oD p) f→qZ (oF p) g→jd w L p aH aI aC aD (j:Int) A (mem f) (mem g) f.length g.length v→
  Calls Tryz.prog 95 #[.pointer (some ⟨L.bc,0,none⟩),.slice ao l.len cap] w (XG w L p aH aI aC aD (j:Int) A v (gq p j t.nm t0.nm l (fP A) f g))
theorem Ao (L:Lay) (p:Pr) (aH aI:Option Addr) (aC aD:Nat) (j:Nat) (t t0:Th) (r r0:List Th) (hd:p.ts.drop j=t ::r) (hts:p.ts=t0 ::r0) (hj:aU (j:Int)) (hT:p.ts.length < maxLen) (hD:p.ds.length < maxLen) (l:aN) (hall:l.All fun _ b e=>yj L p aH aI aC aD j t t0 b∧yj L p aH aI aC aD j t t0 e):yj L p aH aI aC aD j t t0 l:=by
 intro w ao cap A f g v hl hat hA hf hg hI
 generalize hres:gq p j t.nm t0.nm l (fP A) f g=res
 have HR:=Lib.hid hres
 have HAT:=Lib.hid hat
 have jv:=Lib.hid hall
 have HF:=Lib.hid hf
 have HG:=Lib.hid hg
 have HI:=Lib.hid hI
 unfold maxLen at hl
 have HA:=Lib.hid hA
 clear hres hat hall hf hg hI hA
 go_enter Tryz.func95,Tryz.ntmps95
 go_wp2_with fail
 go_loopw [7,8,10,11,12,15,51,52] (fun _ _ _ _ _ s _ _ wr=> ∃(k:Nat) (R:aN) (f1 g1:List (List UInt8)) (v1:Value),s= .int .i64 k∧k + R.len=l.len∧res=gq p j t.nm t0.nm R (fP A) f1 g1∧(R.All fun _ b e=>yj L p aH aI aC aD j t t0 b∧yj L p aH aI aC aD j t t0 e)∧R.At wr L.B0 ao k∧qZ (oD p) f1∧qZ (oF p) g1∧Kp L v w wr∧tK w v v1∧jd wr L p aH aI aC aD (j:Int) A (mem f1) (mem g1) f1.length g1.length v1) (fun _ _ _ _ _ s _ _ _=>l.len - (intOf s).toNat)
 case atStart=>exact ⟨0,l,f,g,v,rfl,by simp,HR.out.symm,jv.out,HAT.out,HF.out,HG.out,Kp.refl _ _ _,.inl rfl,HI.out⟩
 case round=>
  obtain ⟨k,R,f1,g1,v1,rfl,hlen,heq,hall,hrow,hf1,hg1,ZO,ZP,hI⟩:=hrel
  have HE:=Lib.hid heq
  have HK:=Lib.hid ZO
  have HO:=Lib.hid ZP
  clear heq ZO ZP
  cases R with
  | nil=>
    obtain rfl:k=l.len:=by simpa [aN.len] using hlen
    have HX:Hid (XG w L p aH aI aC aD (j:Int) A v res (.returned (.tuple #[.int .i64 0,.int .i64 0])) wr):=Lib.hid (by
     rw [HE.out]; exact ⟨rfl,HK.out,fun _=>⟨hf1,hg1,v1,HO.out,hI⟩⟩)
    clear hI hall hrow hf1 hg1 HE
    go_wp2_with fail
    go_ret2
    exact HX.out
  | cons h b e R=>
    obtain ⟨bl,off,s,rfl,hbl,hin,x0,x1,x2,x3,x4,x5,x6,x7,x8,x9,x10,hrest⟩:=aN.At.eH hrow
    have hkl:k < l.len:=by simp only [aN.len] at hlen; omega
    obtain ⟨qN,TH⟩:=hall
    obtain ⟨aX,aQ,rfl,-⟩:=hI.form
    have Xw:=Lib.hid qN
    have aj0:=Lib.hid TH
    have nR:=Lib.hid hf1
    have oM:=Lib.hid hg1
    have jD:=Lib.hid hin
    have nU:=Lib.hid hrest
    have Gt:=Lib.hid hI
    clear hrow hin qN TH hf1 hg1 hrest hI
    go_upto_region 4 with fail
    obtain ⟨nb,hnb⟩: ∃n,wr.heap.size=n:=⟨_,rfl⟩
    generalize hW2:World.alloc wr _=W2
    have kZ:Hid (W2.heap[nb]? =some (.cells (mE h b e s).toArray 89 (0,0))):=Lib.hid (by rw [← hW2,← hnb]; exact heap_alloc_new _ _)
    have vY:Hid (Below wr.heap.size wr W2):=Lib.hid (by rw [← hW2]; exact ah _ _)
    have HI2:=Lib.hid (Gt.out.below vY.out)
    have iG:Hid (Kp L v w W2):=Lib.hid (HK.out.trans (.inl HO.out) (Kp.of_below vY.out))
    have GI:Hid (L.B1≤nb∧nb < W2.heap.size):=Lib.hid ⟨by rw [← hnb]; exact Gt.out.sz,(Array.getElem?_eq_some_iff.1 kZ.out).1⟩
    have Xb:Hid (Value.ownBlock (.slice aX A.length aQ)≠some nb):=Lib.hid (fun e=>by
     have:=Gt.out.row.lt _ e; omega)
    have HOZ:Hid (w.heap.size≤W2.heap.size):=Lib.hid iG.out.size
    rw [hnb]
    clear hW2 hnb x0 x1 x2 x3 x4 x5 x6 x7 x8 x9 x10 hbl
    have c3:W2.cell? ⟨L.bc,3,none⟩=some (.slice aX A.length aQ):=(bL HI2.out.blk (j:=3) rfl).2
    have hA6:=HA.out
    obtain ⟨y0,y1,y2,y3,y4,y5,y6,y7,y8,y9,iN⟩:=nY kZ.out
    by_cases WI:A.length=6
    ·have HX:Hid (res=⟨2,h.line,f1,g1⟩):=Lib.hid (HE.out.trans (by rw [gq,if_pos (by rw [yu,WI]; rfl)]))
     rw [WI] at c3
     clear hA6
     go_wp2_with fail
     go_quiet (fail)
     go_wp2_with fail
     go_ret2
     refine ⟨tq (by rw [HX.out]; rfl) (by rw [HX.out]; rfl),iG.out.trans (.inr rfl) (v1:= .slice none 0 0) (Kp.of_below (below_drewN (Below.refl _ _) _)),fun h0=> ?_⟩
     rw [HX.out] at h0; cases h0
    ·have hA':A.length < 6:=by omega
     have hdec:decide (6 < (A.length:Int) + 1)=false:=by rw [decide_eq_false_iff_not]; omega
     go_wp2_with fail
     refine (Mx W2 L p aH aI aC aD j A (mem f1) (mem g1) f1.length g1.length _ t t0 r r0 hd hts hj (by unfold maxLen; omega) (Nat.lt_of_le_of_lt nR.out.le (by simpa [oD] using hT)) (Nat.lt_of_le_of_lt oM.out.le (by simpa [oF] using hD)) HI2.out h b e s (jD.out.below (vY.out.mono Gt.out.b0))).mono ?_
     rintro e' w3 ⟨rfl,hK3,uY⟩
     rw [YF,Wv,OO,OO] at uY
     have Ei:Hid (w3.heap[nb]? =some (.cells (mE h b e s).toArray 89 (0,0))):=Lib.hid ((hK3.far GI.out.2 GI.out.1 (by simp [Value.ownBlock])).trans kZ.out)
     have HI3:=Lib.hid uY
     have jN:Hid (Kp L v w w3):=Lib.hid (iG.out.trans (.inr rfl) hK3)
     have Py:=Lib.hid hK3
     have qP:nb < w3.heap.size:=(Array.getElem?_eq_some_iff.1 Ei.out).1
     clear hK3 uY y0 y1 y2 y3 y4 y5 y6 y7 y8 y9 iN c3 hdec WI
     obtain ⟨y0,y1,y2,y3,y4,y5,y6,y7,y8,y9,iN⟩:=nY Ei.out
     have c3:w3.cell? ⟨L.bc,3,none⟩=some (.slice aX A.length aQ):=(bL HI3.out.blk (j:=3) rfl).2
     have HE2:Hid (res=gq p j t.nm t0.nm (aN.cons h b e R) (fP A) f1 g1):=HE
     have DY:Hid (lX p j t.nm t0.nm (fP A) (mem f1) (mem g1) h=0→qZ (oD p) (fL 12 h f1)∧qZ (oF p) (fL 14 h g1)):=Lib.hid (fun h0=>⟨YQ nR.out h0,Zw oM.out h0⟩)
     have HU:Hid (gq p j t.nm t0.nm (aN.cons h b e R) (fP A) f1 g1=if lX p j t.nm t0.nm (fP A) (mem f1) (mem g1) h != 0 then ⟨lX p j t.nm t0.nm (fP A) (mem f1) (mem g1) h,h.line,f1,g1⟩ else Nb p j t.nm t0.nm b e R (fP A) ((fP A).app (.cons h b e .nil)) 0 (fL 12 h f1) (fL 14 h g1)):=Lib.hid (by
      rw [gq,if_neg (by rw [yu,decide_eq_true_iff]; omega)]; rfl)
     generalize lX p j t.nm t0.nm (fP A) (mem f1) (mem g1) h=x at *
     cases hx:(x != 0)
     ·have HT:Hid (res=Nb p j t.nm t0.nm b e R (fP A) ((fP A).app (.cons h b e .nil)) 0 (fL 12 h f1) (fL 14 h g1)):=Lib.hid (HE2.out.trans (HU.out.trans (by rw [hx]; rfl)))
      have Xc:=Lib.hid (DY.out (by simpa using hx))
      clear HU DY HE HE2
      go_upto_region 9 with fail
      have Y0: ∀w',Below w3.heap.size w3 w'→w'.cell? ⟨nb,0,none⟩=some (.int .i64 h.op):=fun w' hb=>(hb.cell (p:=⟨nb,0,none⟩) qP).trans y0
      have Y1: ∀w',Below w3.heap.size w3 w'→w'.cell? ⟨nb,1,none⟩=some (.int .i64 h.line):=fun w' hb=>(hb.cell (p:=⟨nb,1,none⟩) qP).trans y1
      have Y2: ∀w',Below w3.heap.size w3 w'→w'.cell? ⟨nb,2,none⟩=some (.string h.nm):=fun w' hb=>(hb.cell (p:=⟨nb,2,none⟩) qP).trans y2
      have Y3: ∀w',Below w3.heap.size w3 w'→w'.cell? ⟨nb,3,none⟩=some (.string h.arg):=fun w' hb=>(hb.cell (p:=⟨nb,3,none⟩) qP).trans y3
      have Y4: ∀w',Below w3.heap.size w3 w'→w'.cell? ⟨nb,4,none⟩=some (.slice s.dF h.idx.len s.bT):=fun w' hb=>(hb.cell (p:=⟨nb,4,none⟩) qP).trans y4
      have Y5: ∀w',Below w3.heap.size w3 w'→w'.cell? ⟨nb,5,none⟩=some (.int .i64 h.bD):=fun w' hb=>(hb.cell (p:=⟨nb,5,none⟩) qP).trans y5
      have Y6: ∀w',Below w3.heap.size w3 w'→w'.cell? ⟨nb,6,none⟩=some (.int .i64 h.xn):=fun w' hb=>(hb.cell (p:=⟨nb,6,none⟩) qP).trans y6
      have Y7: ∀w',Below w3.heap.size w3 w'→w'.cell? ⟨nb,7,none⟩=some (.string h.bC):=fun w' hb=>(hb.cell (p:=⟨nb,7,none⟩) qP).trans y7
      have Y8: ∀w',Below w3.heap.size w3 w'→w'.cell? ⟨nb,8,none⟩=some (.slice s.bS h.aL.len s.bf):=fun w' hb=>(hb.cell (p:=⟨nb,8,none⟩) qP).trans y8
      have Y9: ∀w',Below w3.heap.size w3 w'→w'.cell? ⟨nb,9,none⟩=some (.slice s.bG b.len s.aS):=fun w' hb=>(hb.cell (p:=⟨nb,9,none⟩) qP).trans y9
      have Y10: ∀w',Below w3.heap.size w3 w'→w'.cell? ⟨nb,10,none⟩=some (.slice s.dw e.len s.bR):=fun w' hb=>(hb.cell (p:=⟨nb,10,none⟩) qP).trans iN
      have L3: ∀w',Below w3.heap.size w3 w'→w'.cell? ⟨L.bc,3,none⟩=some (.slice aX A.length aQ):=fun w' hb=>(hb.cell (p:=⟨L.bc,3,none⟩) (by have:=HI3.out.sz; have:=L.c1; show L.bc < _; omega)).trans c3
      clear y0 y1 y2 y3 y4 y5 y6 y7 y8 y9 iN c3
      refine eY (by kernel_rfl) rfl ?_
      refine eB 0 7 [] [[],[0],[0,1],[0,1,2],[],[0,1,2,3],[],[0,1,2,3,4,5,6],[0,1,2,3,4,5,6,7],[0,1,2,3,4,5,6,7,8],[0,1,2,3,4,5,6,7],[0,1,2,3,4,5,6,7,10],[0,1,2,3,4,5,6,7,10,11]] [[],[],[],[],[],[],[]] (fun _ w'=>Below w3.heap.size w3 w') (fun w w'=>Below w.heap.size w w') [36,37,38,39,40,41,42] rfl rfl (by rfl) (by kernel_rfl) (by kernel_rfl) (by kernel_rfl) (by kernel_rfl) (by kernel_rfl) (by rfl) (fun _=>Below.refl _ _) (by rfl) (below_drewN (Below.refl _ _) 1) ?_
      simp only [List.take_succ_cons,List.take_zero,List.drop_zero,List.drop_succ_cons,jY,List.map_cons,List.map_nil]
      apply aO.step
      case aB=>
       intro c A w' hok hC hO hD
       have e0:=hO 0 (by rfl)
       simp [Act.eval] at e0
       simp [au,aj,ak,Act.eval,Region.binds] at hD
       simp [go_sem,gd,Oper.wp,hD,e0]
       exact ay.mk (Below.refl _ _) hC (aj.mk _ _)
      apply aO.step
      case aB=>
       intro c A w' hok hC hO hD
       simp [au,aj,ak,Act.eval,Region.binds] at hD
       simp [go_sem,gd,Oper.wp,hD]
       exact ay.mk (Below.refl _ _) hC (aj.mk _ _)
      apply aO.step
      case aB=>
       intro c A w' hok hC hO hD
       simp [au,aj,ak,Act.eval,Region.binds] at hD
       simp [go_sem,gd,Oper.wp,hD]
       exact ay.mk (Below.refl _ _) hC (aj.mk _ _)
      apply aO.step
      case aB=>
       intro c A w' hok hC hO hD
       simp [au,aj,ak,Act.eval,Region.binds] at hD
       simp [go_sem,gd,Oper.wp,hD,L3,hC]
       exact ay.mk (Below.refl _ _) hC (aj.mk _ _)
      apply aO.step
      case aB=>
       intro c A w' hok hC hO hD
       have e7:=hO 7 (by rfl)
       simp [Act.eval] at e7
       simp [au,aj,ak,Act.eval,Region.binds] at hD
       simp [go_sem,gd,Oper.wp,hD,e7,Y0,Y1,Y2,Y3,Y4,Y5,Y6,Y7,Y8,Y9,Y10,hC]
       exact ay.mk (Below.refl _ _) hC (aj.mk _ _)
      apply aO.step
      case aB=>
       intro c A w' hok hC hO hD
       simp [au,aj,ak,Act.eval,Region.binds] at hD
       simp [go_sem,gd,Oper.wp,hD]
       exact ay.mk (Below.refl _ _) hC (aj.mk _ _)
      refine aO.some (fun v w'=> ∃bb,v= .slice (some ⟨bb,0,none⟩) 1 1∧w'.heap[bb]? =some (.cells FM 89 (0,0))) ?_ ?_ ?_
      ·rintro v w w' hle ⟨bb,rfl,hbb⟩
       exact ⟨bb,rfl,(hle.block bb (Array.getElem?_eq_some_iff.1 hbb).1).trans hbb⟩
      ·intro c A w' hok hC hO hD
       simp [go_sem,gd,Oper.wp]
       exact ay.mk (d:=_) (v:= .slice (some ⟨_,0,none⟩) 1 1) (ah _ _) (hC.trans ((ah _ _).mono hC.size)) ⟨_,rfl,heap_alloc_new _ _⟩
      simp only [List.nil_append,List.cons_append]
      refine aO.done ?_
      intro wz dP
      simp only [List.drop_zero]
      intro v0 h0 v1 h1 v2 h2 v3 h3 v4 h4 v5 h5 v6 h6
      have h0':v0=_:=h0
      have h1':v1=_:=h1
      have h2':v2=_:=h2
      have h3':v3=_:=h3
      have h4':v4=_:=h4
      have h5':v5=_:=h5
      subst h0' h1' h2' h3' h4' h5'
      obtain ⟨bb,rfl,hbb⟩:=h6
      clear h0 h1 h2 h3 h4 h5
      refine dG.nil ?_
      go_simp
      refine iD 7 [[],[0],[0,1],[0,1,2],[],[0,1,2,3],[],[0,1,2,3,4,5,6],[0,1,2,3,4,5,6,7],[0,1,2,3,4,5,6,7,8],[0,1,2,3,4,5,6,7],[0,1,2,3,4,5,6,7,10],[0,1,2,3,4,5,6,7,10,11]] rfl rfl rfl rfl rfl (by kernel_rfl) (by kernel_rfl) (by kernel_rfl) ?_
      obtain ⟨i0,hi0,hz0,hz1,hz2⟩:=JU
      have zH:=Lib.hid (HI3.out.below dP)
      refine wp_append_lies wz _ _ _ (by rfl) L.B1 89 i0 _ 11 176 Tryz.underlying65 hi0 hz0 hz1 hz2 (by rfl) (by omega) (.slice aX A.length aQ) A.length (xL A) (by rfl) zH.out.row ⟨bb,0,none⟩ 1 1 FM.toList (by rfl) (by rfl) (World.news_of_block hbb) (by decide) (by omega) (by unfold maxLen; omega) (by omega) zH.out.sz wz.heap.size rfl ?_
      intro g' cap' w4 Gi GN XU I9
      clear hi0 hz0 hz1 hz2 hbb Y0 Y1 Y2 Y3 Y4 Y5 Y6 Y7 Y8 Y9 Y10 L3
      have DU:=Lib.hid (HI3.out.push ⟨h,b,e,s⟩ (jD.out.below ((vY.out.mono Gt.out.b0).trans (Py.out.below HI2.out.b0 (by simp [Value.ownBlock])))) dP Gi GN XU)
      have hgb:=(Gi.lt g' rfl).1
      have gy:Hid (w4.heap[L.bc]? =some (.cells (YE p aH aI aC aD (j:Int) (.slice aX A.length aQ) L.bs L.bt) 140 (0,0))):=Lib.hid (by
       rw [GN.block _ (by have:=zH.out.sz; have:=L.c1; omega) (fun e'=>by
        have:=zH.out.own_ne L.c1
        rcases this with h1 | h1
        ·rw [h1] at e'; cases e'
        ·exact h1 e'.symm)]
       exact zH.out.blk)
      have Dq:=Lib.hid (Mg Gi)
      have ME:g'≠L.bc:=by have:=L.c1; omega
      clear Gi GN XU I9 hgb
      go_simp
      refine eB 8 13 [9,12] [[],[0],[0,1],[0,1,2],[],[0,1,2,3],[],[0,1,2,3,4,5,6],[0,1,2,3,4,5,6,7],[0,1,2,3,4,5,6,7,8],[0,1,2,3,4,5,6,7],[0,1,2,3,4,5,6,7,10],[0,1,2,3,4,5,6,7,10,11]] [[some false,none],[some false,none],[none,some false],[none,some false],[none,some false]] (PC w4 g' (A.length * 11) (mE h b e s) ⟨L.bc,3,none⟩ (.slice (some ⟨g',0,none⟩) (A.length + 1) cap')) (fun _ _=>True) [44,45,46] rfl rfl (by rfl) (by kernel_rfl) (by kernel_rfl) (by kernel_rfl) (by kernel_rfl) (by kernel_rfl) (by rfl) (fun _=>trivial) (by rfl) rfl ?_
      simp only [List.take_succ_cons,List.take_zero,List.drop_zero,List.drop_succ_cons,jY,List.map_cons,List.map_nil]
      have SQ:(0:Int)≤(A.length:Int):=by omega
      have hA1:(A.length:Int) < (A.length:Int) + 1:=by omega
      apply aO.step
      case aB=>
       intro c A w' hok hC hO hD
       have e43:=hO 43 (by rfl)
       have e41:=hO 41 (by rfl)
       simp [Act.eval] at e43 e41
       simp [au,aj,ak,Act.eval,Region.binds] at hD
       simp [go_sem,gd,Oper.wp,hD,e43,e41,hA1]
       exact ay.mk trivial (PC.skip (by rfl) (by rfl) hC) (aj.mk _ _)
      refine aO.some (fun _ _=>True) (fun _ _ _ _ _=>trivial) ?_ ?_
      ·intro c A' w' hok hC hO hD
       obtain ⟨x,y,rfl⟩:=hC.bits
       obtain ⟨rfl,-⟩:=hok
       have e40:=hO 40 (by rfl)
       simp [au,aj,ak,Act.eval,Region.binds] at hD
       simp only [gd,if_true]
       refine wp_store_mid _ _ _ (by rfl) g' (A.length * 11) (mE h b e s).toArray (by simp [Act.eval,hD]) (e40.trans (by rfl)) (Ev Dq.out (hC.TN ME)) Kh (by simp [mE,Value.oneCell']) ?_
       exact ay.KS trivial (PC.elt ME (by rfl) (by rfl) hC) trivial
      simp only [List.nil_append,List.cons_append]
      apply aO.step
      case aB=>
       intro c A w' hok hC hO hD
       have e36:=hO 36 (by rfl)
       simp [Act.eval] at e36
       simp [au,aj,ak,Act.eval,Region.binds] at hD
       simp [go_sem,gd,Oper.wp,hD,e36]
       exact ay.mk trivial (PC.skip (by rfl) (by rfl) hC) (aj.mk _ _)
      apply aO.step
      case aB=>
       intro c A w' hok hC hO hD
       simp [au,aj,ak,Act.eval,Region.binds] at hD
       simp [go_sem,gd,Oper.wp,hD]
       exact ay.mk trivial (PC.skip (by rfl) (by rfl) hC) (aj.mk _ _)
      refine aO.some (fun _ _=>True) (fun _ _ _ _ _=>trivial) ?_ ?_
      ·intro c A' w' hok hC hO hD
       obtain ⟨x,y,rfl⟩:=hC.bits
       obtain ⟨rfl,-⟩:=hok
       have e43:=hO 43 (by rfl)
       simp [Act.eval] at e43
       simp [au,aj,ak,Act.eval,Region.binds] at hD
       have hbk0:w'.heap[L.bc]? =w4.heap[L.bc]?:=PC.UW (a:=⟨L.bc,3,none⟩) ME hC (Array.getElem?_eq_some_iff.1 gy.out).1
       have hbk:=hbk0.trans gy.out
       have hcl:w'.cell? ⟨L.bc,3,none⟩=some (.slice aX A.length aQ):=(bL hbk (j:=3) rfl).2
       have hfr:w'.frozen? ⟨L.bc,3,none⟩=false:=aK hbk
       simp [go_sem,gd,Oper.wp,hD,e43,hcl,hfr]
       exact ay.KS (v:=undef) trivial (PC.fld (by rfl) (by rfl) hC) trivial
      simp only [List.nil_append,List.cons_append,List.drop_succ_cons,List.drop_zero]
      refine aO.done ?_
      intro w5 ZB
      simp only [List.drop_succ_cons,List.drop_zero]
      intro v0 h0 v1 h1 v2 h2 v3 h3 v4 h4
      clear h0 h1 h2 h3 h4
      refine dG.nil ?_
      refine gL rfl ?_
      have OQ:Hid (w5=(w4.setCells g' (A.length * 11) (mE h b e s)).setCell ⟨L.bc,3,none⟩ (.slice (some ⟨g',0,none⟩) (A.length + 1) cap')):=Lib.hid ZB
      rw [← OQ.out] at DU
      have IL:=Lib.hid DU.out.1
      have Ic:Hid (Kp L v w w5):=Lib.hid (jN.out.trans (.inl (HO.out.trans (.inl rfl) (Nat.le_refl _))) DU.out.2.1)
      have R6:=Lib.hid DU.out.2.1
      have QS:=Lib.hid DU.out.2.2
      clear ZB OQ DU Dq gy SQ hA1 ME
      go_simp
      have Q6:Hid (w5.heap[nb]? =some (.cells (mE h b e s).toArray 89 (0,0))):=Lib.hid ((R6.out.far qP GI.out.1 Xb.out).trans Ei.out)
      have X3:=Lib.hid (QS.out.ne qP Xb.out)
      have P7:Hid (tK w v (.slice (some ⟨g',0,none⟩) (A.length + 1) cap')):=Lib.hid (HO.out.trans QS.out jN.out.size)
      have SL:Hid (aN.At w5 L.B0 R (some ⟨bl,off,none⟩) (k + 1)):=Lib.hid (nU.out.below (((vY.out.mono Gt.out.b0).trans (Py.out.below HI2.out.b0 (by simp [Value.ownBlock]))).trans (R6.out.below HI3.out.b0 (fun q hq=>(HI3.out.row.lt q hq).1))))
      have I4:Hid (b.len≤maxLen∧e.len≤maxLen):=Lib.hid jD.out.1.2.2.2.2.2.2
      obtain ⟨-,-,-,-,-,-,-,-,-,y9,iN⟩:=nY Q6.out
      clear hx qP zH dP HI3 jN Py Ei R6 QS Xb HI2 iG kZ vY Gt jD nU HO HK nR oM HF HG HI HAT
      go_wp2_with fail
      go_loopw [10,11,12,52] (fun _ _ _ WX wq=> ∃(kk:Nat) (f2 g2:List (List UInt8)) (v2:Value),WX= .int .i64 kk∧kk≤2∧res=Nb p j t.nm t0.nm b e R (fP A) ((fP A).app (.cons h b e .nil)) kk f2 g2∧qZ (oD p) f2∧qZ (oF p) g2∧Kp L v w wq∧tK w v v2∧v2.ownBlock≠some nb∧wq.heap[nb]? =some (.cells (mE h b e s).toArray 89 (0,0))∧R.At wq L.B0 (some ⟨bl,off,none⟩) (k + 1)∧jd wq L p aH aI aC aD (j:Int) (A++[⟨h,b,e,s⟩]) (mem f2) (mem g2) f2.length g2.length v2) (fun _ _ _ WX _=>2 - (intOf WX).toNat)
      case atStart=>exact ⟨0,_,_,_,rfl,by omega,HT.out,Xc.out.1,Xc.out.2,Ic.out,P7.out,X3.out,Q6.out,SL.out,IL.out⟩
      case round=>
       obtain ⟨kk,f2,g2,v2,rfl,hkk,heq2,hf2,hg2,hK6,hO6,WW,Yx,hR6,zA⟩:=hrel
       clear y9 iN
       have mR:=Lib.hid heq2
       have eU:=Lib.hid hf2
       have HG2:=Lib.hid hg2
       have Dk:=Lib.hid hK6
       have Ky:=Lib.hid hO6
       have Mf:=Lib.hid WW
       have Ez:=Lib.hid Yx
       have MU:=Lib.hid hR6
       have xS:=Lib.hid zA
       have HIS:=Lib.hid (zA.tQ ⟨h,b,e,s⟩ (by simp))
       clear heq2 hf2 hg2 hK6 hO6 WW Yx hR6 zA HT Xc Ic P7 X3 Q6 SL IL
       have hk3:kk=0∨kk=1∨kk=2:=by omega
       have ixa:=ix0 s.bG s.dw b.len s.aS e.len s.bR
       have ixb:=ix1 s.bG s.dw b.len s.aS e.len s.bR
       rcases hk3 with rfl | rfl | rfl
       ·have qy:Hid (res=if (gq p j t.nm t0.nm b (fP (A++[⟨h,b,e,s⟩])) f2 g2).err != 0 then gq p j t.nm t0.nm b (fP (A++[⟨h,b,e,s⟩])) f2 g2 else Qo p j t.nm t0.nm e R (fP A) (fP (A++[⟨h,b,e,s⟩])) (gq p j t.nm t0.nm b (fP (A++[⟨h,b,e,s⟩])) f2 g2).f (gq p j t.nm t0.nm b (fP (A++[⟨h,b,e,s⟩])) f2 g2).g):=Lib.hid (by rw [uK]; exact mR.out)
        clear mR
        go_wp2_with fail
        refine (Xw.out.1 _ s.bG s.aS (A++[⟨h,b,e,s⟩]) f2 g2 v2 I4.out.1 HIS.out.2.2.2.1 (by simp; omega) eU.out HG2.out xS.out).mono ?_
        rintro e' w7 ⟨rfl,Dy,P6⟩
        generalize gq p j t.nm t0.nm b (fP (A++[⟨h,b,e,s⟩])) f2 g2=r1 at *
        have OG:Hid (Kp L v w w7):=Lib.hid (Dk.out.trans (.inl Ky.out) Dy)
        have Iw:=Lib.hid P6
        have WZ:Hid (w7.heap[nb]? =some (.cells (mE h b e s).toArray 89 (0,0))):=Lib.hid ((Dy.far (Array.getElem?_eq_some_iff.1 Ez.out).1 GI.out.1 Mf.out).trans Ez.out)
        have Vu:Hid (R.At w7 L.B0 (some ⟨bl,off,none⟩) (k + 1)):=Lib.hid (MU.out.below (Dy.below xS.out.b0 (fun q hq=>(xS.out.row.lt q hq).1)))
        clear Dy P6
        cases hr1:(r1.err != 0)
        ·have uZ:Hid (res=Nb p j t.nm t0.nm b e R (fP A) ((fP A).app (.cons h b e .nil)) 1 r1.f r1.g):=Lib.hid (qy.out.trans ((if_neg (by rw [hr1]; decide)).trans (by first | rfl | (simp only [uK]; rfl))))
         obtain ⟨F4,F8,v7,NH,F9⟩:=Iw.out (by simpa using hr1)
         have uL:=Lib.hid (And.intro F4 (And.intro F8 (And.intro NH F9)))
         clear F4 F8 NH F9 Iw qy
         go_wp2_with fail
         go_roundw
         case rel=>exact ⟨1,r1.f,r1.g,v7,rfl,by omega,uZ.out,uL.out.1,uL.out.2.1,OG.out,Ky.out.trans uL.out.2.2.1 Dk.out.size,uL.out.2.2.1.ne (Array.getElem?_eq_some_iff.1 Ez.out).1 Mf.out,WZ.out,Vu.out,uL.out.2.2.2⟩
         case measure=>simp [intOf]
        ·have BQ:Hid (res=r1):=Lib.hid (qy.out.trans (if_pos hr1))
         have HX0:Hid (r1.err≠0):=Lib.hid (by simpa using hr1)
         clear qy Iw
         go_wp2_with fail
         go_ret2
         refine ⟨tq (by rw [BQ.out]; rfl) (by rw [BQ.out]; rfl),OG.out,fun h0=> ?_⟩
         rw [BQ.out] at h0; exact (HX0.out h0).elim
       ·have qy:Hid (res=if (gq p j t.nm t0.nm e (fP (A++[⟨h,b,e,s⟩])) f2 g2).err != 0 then gq p j t.nm t0.nm e (fP (A++[⟨h,b,e,s⟩])) f2 g2 else gq p j t.nm t0.nm R (fP A) (gq p j t.nm t0.nm e (fP (A++[⟨h,b,e,s⟩])) f2 g2).f (gq p j t.nm t0.nm e (fP (A++[⟨h,b,e,s⟩])) f2 g2).g):=Lib.hid (by rw [uK]; exact mR.out)
        clear mR
        go_wp2_with fail
        refine (Xw.out.2 _ s.dw s.bR (A++[⟨h,b,e,s⟩]) f2 g2 v2 I4.out.2 HIS.out.2.2.2.2 (by simp; omega) eU.out HG2.out xS.out).mono ?_
        rintro e' w7 ⟨rfl,Dy,P6⟩
        generalize gq p j t.nm t0.nm e (fP (A++[⟨h,b,e,s⟩])) f2 g2=r1 at *
        have OG:Hid (Kp L v w w7):=Lib.hid (Dk.out.trans (.inl Ky.out) Dy)
        have Iw:=Lib.hid P6
        have WZ:Hid (w7.heap[nb]? =some (.cells (mE h b e s).toArray 89 (0,0))):=Lib.hid ((Dy.far (Array.getElem?_eq_some_iff.1 Ez.out).1 GI.out.1 Mf.out).trans Ez.out)
        have Vu:Hid (R.At w7 L.B0 (some ⟨bl,off,none⟩) (k + 1)):=Lib.hid (MU.out.below (Dy.below xS.out.b0 (fun q hq=>(xS.out.row.lt q hq).1)))
        clear Dy P6
        cases hr1:(r1.err != 0)
        ·have uZ:Hid (res=Nb p j t.nm t0.nm b e R (fP A) ((fP A).app (.cons h b e .nil)) 2 r1.f r1.g):=Lib.hid (qy.out.trans ((if_neg (by rw [hr1]; decide)).trans (by first | rfl | (simp only [uK]; rfl))))
         obtain ⟨F4,F8,v7,NH,F9⟩:=Iw.out (by simpa using hr1)
         have uL:=Lib.hid (And.intro F4 (And.intro F8 (And.intro NH F9)))
         clear F4 F8 NH F9 Iw qy
         go_wp2_with fail
         go_roundw
         case rel=>exact ⟨2,r1.f,r1.g,v7,rfl,by omega,uZ.out,uL.out.1,uL.out.2.1,OG.out,Ky.out.trans uL.out.2.2.1 Dk.out.size,uL.out.2.2.1.ne (Array.getElem?_eq_some_iff.1 Ez.out).1 Mf.out,WZ.out,Vu.out,uL.out.2.2.2⟩
         case measure=>simp [intOf]
        ·have BQ:Hid (res=r1):=Lib.hid (qy.out.trans (if_pos hr1))
         have HX0:Hid (r1.err≠0):=Lib.hid (by simpa using hr1)
         clear qy Iw
         go_wp2_with fail
         go_ret2
         refine ⟨tq (by rw [BQ.out]; rfl) (by rw [BQ.out]; rfl),OG.out,fun h0=> ?_⟩
         rw [BQ.out] at h0; exact (HX0.out h0).elim
       ·have uZ:Hid (res=gq p j t.nm t0.nm R (fP A) f2 g2):=mR
        obtain ⟨g7,Cz,rfl,hc7⟩: ∃g7 Cz,v2= .slice (some ⟨g7,0,none⟩) (A.length + 1) Cz∧A.length + 1≤Cz:=by
         rcases xS.out.row.2 with ⟨-,hn⟩ | ⟨g',cap,cur,e',-,-,hcc,-⟩
         ·simp at hn
         ·exact ⟨g',cap,by rw [e']; simp,by simpa using hcc⟩
        have hcl: ∀w',Below (World.heap wr).size wr w'→w'.cell? ⟨L.bc,3,none⟩=some (.slice (some ⟨g7,0,none⟩) (A.length + 1) Cz):=fun w' hb=>(hb.cell (p:=⟨L.bc,3,none⟩) (by have:=xS.out.sz; have:=L.c1; show L.bc < _; omega)).trans (bL xS.out.blk (j:=3) rfl).2
        have hz1:(0:Int)≤(A.length:Int):=by omega
        have hz2:(A.length:Int)≤(Cz:Int):=by omega
        have hwr:IntKind.i64.wrap (A.length:Int)=(A.length:Int):=IntWalk.i64_in _ (by omega)
        have qO:(A.length:Int) + 1 - 1=(A.length:Int):=by omega
        clear mR ixa ixb
        go_upto_region 17 with fail
        refine eY (by kernel_rfl) rfl ?_
        refine eB 0 14 [] [[],[],[1],[1,2],[1,2,3],[],[5],[5,6],[5,6,7],[5,6,7,8],[5,6,7,8,9],[1,2,3,4,5,6,7,8,9,10],[0,1,2,3,4,5,6,7,8,9,10,11],[0,1,2,3,4,5,6,7,8,9,10,11,12],[0,1,2,3,4,5,6,7,8,9,10,11,12,13]] [[],[],[],[],[],[],[],[],[],[],[],[],[],[]] (fun _ w'=>Below (World.heap wr).size wr w') (fun w w'=>Below w.heap.size w w') [66,67,68,69,70,71,72,73,74,75,76,77,78,79] rfl rfl (by rfl) (by kernel_rfl) (by kernel_rfl) (by kernel_rfl) (by kernel_rfl) (by kernel_rfl) (by rfl) (fun _=>Below.refl _ _) (by rfl) (below_drewN (Below.refl _ _) 1) ?_
        simp only [List.take_succ_cons,List.take_zero,List.drop_zero,List.drop_succ_cons,jY,List.map_cons,List.map_nil]
        apply aO.step
        case aB=>
         intro c A w' hok hC hO hD
         have e0:=hO 0 (by rfl)
         simp [Act.eval] at e0
         simp [au,aj,ak,Act.eval,Region.binds] at hD
         simp [go_sem,gd,Oper.wp,hD,e0]
         exact ay.mk (Below.refl _ _) hC (aj.mk _ _)
        apply aO.step
        case aB=>
         intro c A w' hok hC hO hD
         have e0:=hO 0 (by rfl)
         simp [Act.eval] at e0
         simp [au,aj,ak,Act.eval,Region.binds] at hD
         simp [go_sem,gd,Oper.wp,hD,e0]
         exact ay.mk (Below.refl _ _) hC (aj.mk _ _)
        apply aO.step
        case aB=>
         intro c A w' hok hC hO hD
         simp [au,aj,ak,Act.eval,Region.binds] at hD
         simp [go_sem,gd,Oper.wp,hD]
         exact ay.mk (Below.refl _ _) hC (aj.mk _ _)
        apply aO.step
        case aB=>
         intro c A w' hok hC hO hD
         simp [au,aj,ak,Act.eval,Region.binds] at hD
         simp [go_sem,gd,Oper.wp,hD]
         exact ay.mk (Below.refl _ _) hC (aj.mk _ _)
        apply aO.step
        case aB=>
         intro c A w' hok hC hO hD
         simp [au,aj,ak,Act.eval,Region.binds] at hD
         simp [go_sem,gd,Oper.wp,hD,hcl,hC]
         exact ay.mk (Below.refl _ _) hC (aj.mk _ _)
        simp only [List.nil_append,List.cons_append]
        apply aO.step
        case aB=>
         intro c A w' hok hC hO hD
         have e0:=hO 0 (by rfl)
         simp [Act.eval] at e0
         simp [au,aj,ak,Act.eval,Region.binds] at hD
         simp [go_sem,gd,Oper.wp,hD,e0]
         exact ay.mk (Below.refl _ _) hC (aj.mk _ _)
        apply aO.step
        case aB=>
         intro c A w' hok hC hO hD
         simp [au,aj,ak,Act.eval,Region.binds] at hD
         simp [go_sem,gd,Oper.wp,hD]
         exact ay.mk (Below.refl _ _) hC (aj.mk _ _)
        apply aO.step
        case aB=>
         intro c A w' hok hC hO hD
         simp [au,aj,ak,Act.eval,Region.binds] at hD
         simp [go_sem,gd,Oper.wp,hD]
         exact ay.mk (Below.refl _ _) hC (aj.mk _ _)
        apply aO.step
        case aB=>
         intro c A w' hok hC hO hD
         simp [au,aj,ak,Act.eval,Region.binds] at hD
         simp [go_sem,gd,Oper.wp,hD,hcl,hC]
         exact ay.mk (Below.refl _ _) hC (aj.mk _ _)
        apply aO.step
        case aB=>
         intro c A w' hok hC hO hD
         simp [au,aj,ak,Act.eval,Region.binds] at hD
         simp [go_sem,gd,Oper.wp,hD]
         exact ay.mk (Below.refl _ _) hC (aj.mk _ _)
        simp only [List.nil_append,List.cons_append]
        apply aO.step
        case aB=>
         intro c A w' hok hC hO hD
         simp [au,aj,ak,Act.eval,Region.binds] at hD
         simp [go_sem,gd,Oper.wp,hD,qO,hwr]
         exact ay.mk (Below.refl _ _) hC (aj.mk _ _)
        apply aO.step
        case aB=>
         intro c A w' hok hC hO hD
         simp [au,aj,ak,Act.eval,Region.binds] at hD
         simp [go_sem,gd,Oper.wp,hD,hz1,hz2]
         exact ay.mk (Below.refl _ _) hC (aj.mk _ _)
        simp only [List.nil_append,List.cons_append]
        apply aO.step
        case aB=>
         intro c A w' hok hC hO hD
         simp [au,aj,ak,Act.eval,Region.binds] at hD
         simp [go_sem,gd,Oper.wp,hD]
         exact ay.mk (Below.refl _ _) hC (aj.mk _ _)
        apply aO.step
        case aB=>
         intro c A w' hok hC hO hD
         simp [au,aj,ak,Act.eval,Region.binds] at hD
         simp [go_sem,gd,Oper.wp,hD]
         exact ay.mk (Below.refl _ _) hC (aj.mk _ _)
        simp only [List.nil_append,List.cons_append]
        refine aO.done ?_
        intro wz dP
        simp only [List.drop_zero]
        intro v0 h0 v1 h1 v2 h2 v3 h3 v4 h4 v5 h5 v6 h6 v7 h7 v8 h8 v9 h9 v10 h10 v11 h11 v12 h12 v13 mM
        have Ql:v11=_:=h11
        have af9:v13=_:=mM
        subst Ql af9
        clear h0 h1 h2 h3 h4 h5 h6 h7 h8 h9 h10 h11 h12 mM
        refine dG.nil ?_
        go_simp
        have XD:=Lib.hid (jd.pop ⟨h,b,e,s⟩ xS.out dP)
        have hclz:wz.cell? ⟨L.bc,3,none⟩=some (.slice (some ⟨g7,0,none⟩) (A.length + 1) Cz):=hcl wz dP
        have WL:wz.frozen? ⟨L.bc,3,none⟩=false:=aK ((xS.out.below dP).blk)
        clear hcl qO hwr
        refine iD 14 [[],[],[1],[1,2],[1,2,3],[],[5],[5,6],[5,6,7],[5,6,7,8],[5,6,7,8,9],[1,2,3,4,5,6,7,8,9,10],[0,1,2,3,4,5,6,7,8,9,10,11],[0,1,2,3,4,5,6,7,8,9,10,11,12],[0,1,2,3,4,5,6,7,8,9,10,11,12,13]] rfl rfl rfl rfl rfl (by kernel_rfl) (by kernel_rfl) (by kernel_rfl) ?_
        simp [go_sem,Oper.wp,hclz,WL]
        refine gL rfl ?_
        clear hclz WL dP
        go_simp
        go_wp2_with fail
        go_roundw
        case rel=>exact ⟨k + 1,R,f2,g2,.slice (some ⟨g7,0,none⟩) A.length Cz,by go_num,by simp only [aN.len] at hlen; omega,uZ.out,aj0.out,MU.out.below (XD.out.2.below xS.out.b0 (fun q hq=>(xS.out.row.lt q hq).1)),eU.out,HG2.out,Dk.out.trans (.inl Ky.out) XD.out.2,Ky.out.trans (.inl rfl) Dk.out.size,XD.out.1⟩
        case measure=>simp [intOf]; omega
     ·have HX:Hid (res=⟨x,h.line,f1,g1⟩):=Lib.hid (HE2.out.trans (HU.out.trans (by rw [hx]; rfl)))
      have HX0:Hid (x≠0):=Lib.hid (by simpa using hx)
      clear HU DY HE HE2
      go_wp2_with fail
      go_quiet (fail)
      go_wp2_with fail
      go_ret2
      refine ⟨tq (by rw [HX.out]; rfl) (by rw [HX.out]; rfl),jN.out.trans (.inr rfl) (v1:= .slice none 0 0) (Kp.of_below (below_drewN (Below.refl _ _) _)),fun h0=> ?_⟩
      rw [HX.out] at h0; exact (HX0.out h0).elim
theorem LV (L:Lay) (p:Pr) (aH aI:Option Addr) (aC aD:Nat) (j:Nat) (t t0:Th) (r r0:List Th) (hd:p.ts.drop j=t ::r) (hts:p.ts=t0 ::r0) (hj:aU (j:Int)) (hT:p.ts.length < maxLen) (hD:p.ds.length < maxLen) (l:aN):yj L p aH aI aC aD j t t0 l:=
 Ao L p aH aI aC aD j t t0 r r0 hd hts hj hT hD l (aN.oo (fun _ b e hb he=>⟨Ao L p aH aI aC aD j t t0 r r0 hd hts hj hT hD b hb,Ao L p aH aI aC aD j t t0 r r0 hd hts hj hT hD e he⟩) l)
end Go.Proofs.YtehnipchbmjlhaaGreatDoor
end
section
namespace Go.Proofs.YtehnipchbmjlhaaGreatDoor
open Go.RowKit
namespace Md
def ko (p:Pr) (eZ:ByteArray):List Th→Nat→List (List UInt8)→List (List UInt8)→ER
 | [],_,f,g=>⟨0,0,f,g⟩
 | t ::r,j,f,g=>if (gq p j t.nm eZ t.body .nil f g).err != 0 then gq p j t.nm eZ t.body .nil f g else ko p eZ r (j + 1) (gq p j t.nm eZ t.body .nil f g).f (gq p j t.nm eZ t.body .nil f g).g
end Md
open Md
def SC (n:Nat) (h:0 < n):Lay where
 B0:=n
 B1:=n + 4
 bc:=n + 1 + 1 + 1
 bs:=n + 1
 bt:=n + 1 + 1
 c0:=by omega
 s0:=by omega
 t0:=by omega
 c1:=by omega
 s1:=by omega
 t1:=by omega
 cs:=by omega
 ct:=by omega
 st:=by omega
 kw:=h
theorem UU {p:Pr} {w W:World} {aH aI:Option Addr} {aC aD:Nat} (hp:p.At w aH aI) (cZ:cO w)
 (hW:((((w.alloc (.cells #[.slice aH p.ds.length aC,.slice aI p.ts.length aD] 26)).alloc (.map #[] 0)).alloc (.map #[] 0)).alloc (.cells #[.slice aH p.ds.length aC,.slice aI p.ts.length aD,.int .i64 0,.slice none 0 0,.map (some (w.heap.size + 1)),.map (some (w.heap.size + 1 + 1))] 140))=W):
 jd W (SC w.heap.size cZ.lt) p aH aI aC aD 0 [] (mem []) (mem []) 0 0 (.slice none 0 0)∧Below w.heap.size w W∧W.heap[w.heap.size]? =some (.cells #[.slice aH p.ds.length aC,.slice aI p.ts.length aD] 26 (0,0)):=by
 have hb:Below w.heap.size w W:=by
  rw [← hW]
  exact ((((Below.refl _ _).alloc (Nat.le_refl _) _).alloc (by simp) _).alloc (by simp; omega) _).alloc (by simp; omega) _
 have h0:W.heap[w.heap.size]? =some (.cells #[.slice aH p.ds.length aC,.slice aI p.ts.length aD] 26 (0,0)):=by
  rw [← hW,heap_alloc_old _ _ (by simp; omega),heap_alloc_old _ _ (by simp; omega),heap_alloc_old _ _ (by simp)]
  exact heap_alloc_new _ _
 have h1:gP W (w.heap.size + 1) 0 (mem []):=by
  have:=gP.made (w.alloc (.cells #[.slice aH p.ds.length aC,.slice aI p.ts.length aD] 26))
  have e:(w.alloc (.cells #[.slice aH p.ds.length aC,.slice aI p.ts.length aD] 26)).heap.size=w.heap.size + 1:=by simp
  rw [e] at this
  refine gP.same (f:=mem []) this ?_
  rw [← hW,heap_alloc_old _ _ (by simp),heap_alloc_old _ _ (by simp)]
 have h2:gP W (w.heap.size + 1 + 1) 0 (mem []):=by
  have:=gP.made ((w.alloc (.cells #[.slice aH p.ds.length aC,.slice aI p.ts.length aD] 26)).alloc (.map #[] 0))
  have e:((w.alloc (.cells #[.slice aH p.ds.length aC,.slice aI p.ts.length aD] 26)).alloc (.map #[] 0)).heap.size=w.heap.size + 1 + 1:=by simp
  rw [e] at this
  refine gP.same (f:=mem []) this ?_
  rw [← hW,heap_alloc_old _ _ (by simp)]
 have h3:W.heap[w.heap.size + 1 + 1 + 1]? =some (.cells (YE p aH aI aC aD 0 (.slice none 0 0) (w.heap.size + 1) (w.heap.size + 1 + 1)) 140 (0,0)):=by
  rw [← hW]
  have e:(((w.alloc (.cells #[.slice aH p.ds.length aC,.slice aI p.ts.length aD] 26)).alloc (.map #[] 0)).alloc (.map #[] 0)).heap.size=w.heap.size + 1 + 1 + 1:=by simp
  rw [← e]; exact heap_alloc_new _ _
 refine ⟨{blk:=h3,row:=World.ownsRow_nil _ _ _ _,ms:=h1,mt:=h2,sz:= ?_,dat:= ?_,tQ:=by intro x hx; simp at hx},hb,h0⟩
 ·show w.heap.size + 4≤W.heap.size
  rw [← hW]; simp
 ·exact ⟨hp.1,hp.2.1,hp.2.2.1.below hb,hp.2.2.2.below hb,cZ.same hb⟩
theorem jd.ae1 {w:World} {L:Lay} {p:Pr} {aH aI:Option Addr} {aC aD:Nat} {i i':Int} {A:List Fr} {f g:List UInt8→Bool} {n m:Nat} {v:Value}
 (h:jd w L p aH aI aC aD i A f g n m v):jd (w.setCell ⟨L.bc,2,none⟩ (.int .i64 i')) L p aH aI aC aD i' A f g n m v:=by
 have hg:=eF w ⟨L.bc,2,none⟩ (.int .i64 i')
 have hbel:=dW hg L.c0 h.b0
 exact {blk:=by rw [bQ h.blk]; rfl,row:=h.row.kept hg (h.own_ne L.c1),ms:=h.ms.same (bJ w _ _ rfl L.cs),mt:=h.mt.same (bJ w _ _ rfl L.ct),sz:=Nat.le_trans h.sz hg.size,dat:=h.dat.below hbel,tQ:=fun x hx=>(h.tQ x hx).below hbel}
theorem Jt (p:Pr) (w:World) (aH aI:Option Addr) (aC aD:Nat) (t0:Th) (r0:List Th) (hts:p.ts=t0 ::r0) (hT:p.ts.length < maxLen) (hD:p.ds.length < maxLen) (hp:p.At w aH aI) (cZ:cO w):
 Calls Tryz.prog 58 #[.agg #[.slice aH p.ds.length aC,.slice aI p.ts.length aD]] w fun e w'=>e= .returned (.tuple #[.int .i64 (ko p t0.nm p.ts 0 [] []).err,.int .i64 (ko p t0.nm p.ts 0 [] []).line])∧Below w.heap.size w w':=by
 generalize hres:ko p t0.nm p.ts 0 [] []=res
 have HR:=Lib.hid hres
 have HP:=Lib.hid hp
 have ig:=Lib.hid cZ
 have XJ:=Lib.hid hts
 have HT:=Lib.hid hT
 unfold maxLen at hT
 clear hres hp cZ hts
 have hmm:= @run_makeMap Tryz.prog
 go_enter Tryz.func58,Tryz.ntmps58
 go_upto_region 2 with fail
 generalize hW:World.alloc (World.alloc (World.alloc (World.alloc w _) _) _) _=W
 generalize Value.agg #[_,_]=a0
 have HS:=Lib.hid (UU HP.out ig.out hW)
 obtain ⟨L,hL⟩: ∃L,SC w.heap.size ig.out.lt=L:=⟨_,rfl⟩
 have ZF:w.heap.size + 1 + 1 + 1=L.bc:=by rw [← hL]; rfl
 have VP:Hid (w.heap.size=L.B0):=Lib.hid (by rw [← hL]; rfl)
 rw [hL] at HS
 clear hW hL hmm
 have c0:W.cell? ⟨w.heap.size,1,none⟩=some (.slice aI p.ts.length aD):=(bL HS.out.2.2 (j:=1) rfl).2
 rw [ZF]
 clear ZF
 go_wp2_with fail
 go_loopw [5,6,7,8,17] (fun _ _ _ _ s wr=> ∃(k:Nat) (R:List Th) (f1 g1:List (List UInt8)) (v1:Value) (i1:Int),s= .int .i64 k∧k + R.length=p.ts.length∧p.ts.drop k=R∧res=ko p t0.nm R k f1 g1∧qZ (oD p) f1∧qZ (oF p) g1∧Below L.B0 w wr∧jd wr L p aH aI aC aD i1 [] (mem f1) (mem g1) f1.length g1.length v1) (fun _ _ _ _ s _=>p.ts.length - (intOf s).toNat)
 case atStart=>exact ⟨0,p.ts,[],[],_,0,rfl,by simp,rfl,HR.out.symm,⟨List.nodup_nil,by simp⟩,⟨List.nodup_nil,by simp⟩,by rw [← VP.out]; exact HS.out.2.1,HS.out.1⟩
 case round=>
  obtain ⟨k,R,f1,g1,v1,i1,rfl,hlen,hdr,heq,hf1,hg1,hB,hI⟩:=hrel
  have HE:=Lib.hid heq
  have nR:=Lib.hid hf1
  have oM:=Lib.hid hg1
  have HB:=Lib.hid hB
  have HI:=Lib.hid hI
  have HDR:=Lib.hid hdr
  clear heq hf1 hg1 hB hI hdr c0 HS
  cases R with
  | nil=>
    obtain rfl:k=p.ts.length:=by simpa using hlen
    have HX:Hid (res.err=0∧res.line=0):=Lib.hid (by rw [HE.out]; exact ⟨rfl,rfl⟩)
    go_wp2_with fail
    go_ret2
    exact ⟨tq (by rw [HX.out.1]; rfl) (by rw [HX.out.2]; rfl),by rw [VP.out]; exact HB.out⟩
  | cons t R=>
    have hrow:=HI.out.dat.2.2.2.1.drop k
    rw [HDR.out,Nat.zero_add] at hrow
    obtain ⟨⟨bl,off,fC,dN,bG,aS,rfl,hbl,x0,x1,x2,x3,hok,htx,hst,-⟩,-⟩:=hrow
    simp only [List.length_cons] at hlen
    have hkl:k < p.ts.length:=by omega
    have gV:=Lib.hid hok
    have HST:=Lib.hid hst
    clear hok hst htx hbl
    go_upto_region 5 with fail
    obtain ⟨nb,hnb⟩: ∃n,wr.heap.size=n:=⟨_,rfl⟩
    generalize hW2:World.alloc wr _=W2
    have kZ:Hid (W2.heap[nb]? =some (.cells #[.string t.nm,.int .i64 t.line,.slice fC t.bH.length dN,.slice bG t.body.len aS] 67 (0,0))):=Lib.hid (by rw [← hW2,← hnb]; exact heap_alloc_new _ _)
    have vY:Hid (Below wr.heap.size wr W2):=Lib.hid (by rw [← hW2]; exact ah _ _)
    have HI2:=Lib.hid (HI.out.below vY.out)
    have GI:Hid (L.B1≤nb):=Lib.hid (by rw [← hnb]; exact HI.out.sz)
    have HB2:Hid (Below L.B0 w W2):=Lib.hid (HB.out.trans (vY.out.mono HI.out.b0))
    have WY:=Lib.hid (HST.out.below (vY.out.mono HI.out.b0))
    rw [hnb]
    clear hW2 hnb x0 x1 x2 x3 HST HB
    have c2:W2.cell? ⟨L.bc,2,none⟩=some (.int .i64 i1):=(bL HI2.out.blk (j:=2) rfl).2
    have f2:W2.frozen? ⟨L.bc,2,none⟩=false:=aK HI2.out.blk
    go_upto_region 6 with fail
    generalize hW3:World.setCell W2 _ _=W3
    have KO:Hid (W2.grownBy W3 (some L.bc)):=Lib.hid (by rw [← hW3]; exact eF _ _ _)
    have HI3:Hid (jd W3 L p aH _ aC aD (k:Int) [] (mem f1) (mem g1) f1.length g1.length v1):=Lib.hid (by rw [← hW3]; exact HI2.out.ae1)
    have Ei:Hid (W3.heap[nb]? =some (.cells #[.string t.nm,.int .i64 t.line,.slice fC t.bH.length dN,.slice bG t.body.len aS] 67 (0,0))):=Lib.hid ((KO.out.block _ (Array.getElem?_eq_some_iff.1 kZ.out).1 (by have:=L.c1; have:=GI.out; simp; omega)).trans kZ.out)
    have Vw:=Lib.hid (dW KO.out L.c0 HI2.out.b0)
    have HB3:=Lib.hid (HB2.out.trans Vw.out)
    have af7:=Lib.hid (WY.out.below Vw.out)
    clear hW3 c2 f2 HI2 kZ vY HB2 WY Vw HI
    have y3:W3.cell? ⟨nb,3,none⟩=some (.slice bG t.body.len aS):=(bL Ei.out (j:=3) rfl).2
    have qy:Hid (res=if (gq p k t.nm t0.nm t.body (fP []) f1 g1).err != 0 then gq p k t.nm t0.nm t.body (fP []) f1 g1 else ko p t0.nm R (k + 1) (gq p k t.nm t0.nm t.body (fP []) f1 g1).f (gq p k t.nm t0.nm t.body (fP []) f1 g1).g):=Lib.hid HE.out
    clear HE
    go_wp2_with fail
    refine (LV L p _ _ aC aD k t t0 R r0 HDR.out XJ.out (by unfold aU; omega) HT.out hD t.body W3 bG aS [] f1 g1 v1 gV.out.2.2.2 af7.out (by simp) nR.out oM.out HI3.out).mono ?_
    rintro e' w4 ⟨rfl,hK4,hq4⟩
    generalize gq p k t.nm t0.nm t.body (fP []) f1 g1=r1 at *
    have gy:=Lib.hid (HB3.out.trans (hK4.below HI3.out.b0 (fun q hq=>(HI3.out.row.lt q hq).1)))
    have Yw:=Lib.hid hq4
    clear hK4 hq4
    cases hr1:(r1.err != 0)
    ·have uZ:Hid (res=ko p t0.nm R (k + 1) r1.f r1.g):=Lib.hid (qy.out.trans (if_neg (by rw [hr1]; decide)))
     obtain ⟨F4,F8,v7,-,F9⟩:=Yw.out (by simpa using hr1)
     have uL:=Lib.hid (And.intro F4 (And.intro F8 F9))
     have HD7:Hid (p.ts.drop (k + 1)=R):=Lib.hid (by rw [← List.drop_drop,HDR.out]; rfl)
     clear F4 F8 F9 Yw qy
     go_wp2_with fail
     go_roundw
     case rel=>exact ⟨k + 1,R,r1.f,r1.g,v7,_,by go_num,by omega,HD7.out,uZ.out,uL.out.1,uL.out.2.1,gy.out,uL.out.2.2⟩
     case measure=>simp [intOf]; omega
    ·have BQ:Hid (res=r1):=Lib.hid (qy.out.trans (if_pos hr1))
     clear qy Yw
     go_wp2_with fail
     go_ret2
     exact ⟨tq (by rw [BQ.out]; rfl) (by rw [BQ.out]; rfl),by rw [VP.out]; exact gy.out⟩
end Go.Proofs.YtehnipchbmjlhaaGreatDoor
end
