/-
  Contract of the checker's list.
  Contract of check.statements.
-/
import Derived.Test.YtdajkddgnfgijaaGreatDoorGMJ
import Derived.StillTailTactics
import Derived.IntWalk
section
set_option linter.unusedSimpArgs false
set_option linter.unusedVariables false
namespace Go.Proofs.YtdajkddgnfgijaaGreatDoor
open Go.RowKit
open Md
theorem aP.At.XH {w:World} {B:Nat} {h:aX} {b e r:aP} {ao:Option Addr} {k:Nat} (hat:(aP.cons h b e r).At w B ao k): ∃bl off s,ao=some ⟨bl,off,none⟩∧bl < B∧vH w B h b e s∧
 w.cell? ⟨bl,off + k * 11,none⟩=some (.int .i64 h.op)∧w.cell? ⟨bl,off + k * 11 + 1,none⟩=some (.int .i64 h.line)∧w.cell? ⟨bl,off + k * 11 + 2,none⟩=some (.string h.nm)∧w.cell? ⟨bl,off + k * 11 + 3,none⟩=some (.string h.arg)∧w.cell? ⟨bl,off + k * 11 + 4,none⟩=some (.slice s.dZ h.idx.len s.dG)∧
 w.cell? ⟨bl,off + k * 11 + 5,none⟩=some (.int .i64 h.dN)∧w.cell? ⟨bl,off + k * 11 + 6,none⟩=some (.int .i64 h.xn)∧w.cell? ⟨bl,off + k * 11 + 7,none⟩=some (.string h.dM)∧w.cell? ⟨bl,off + k * 11 + 8,none⟩=some (.slice s.dH h.aR.len s.bR)∧
 w.cell? ⟨bl,off + k * 11 + 9,none⟩=some (.slice s.bV b.len s.bC)∧w.cell? ⟨bl,off + k * 11 + 10,none⟩=some (.slice s.eB e.len s.dK)∧r.At w B ao (k + 1):=by
 obtain ⟨⟨b,off,dZ,dG,dH,bR,bV,bC,eB,dK,e,hB,c0,c1,c2,c3,c4,c5,c6,c7,c8,c9,c10,hok,h1,h2,h3,h4⟩,hr⟩:=hat
 exact ⟨b,off,⟨dZ,dG,dH,bR,bV,bC,eB,dK⟩,e,hB,⟨hok,h1,h2,h3,h4⟩,c0,c1,c2,c3,c4,c5,c6,c7,c8,c9,c10,hr⟩
theorem Wn {w:World} {nb:Nat} {h:aX} {b e:aP} {s:Sl} {t:TypeId} {fr:Nat × Nat} (hb:w.heap[nb]? =some (.cells (qh h b e s).toArray t fr)):w.cell? ⟨nb,0,none⟩=some (.int .i64 h.op)∧w.cell? ⟨nb,1,none⟩=some (.int .i64 h.line)∧w.cell? ⟨nb,2,none⟩=some (.string h.nm)∧w.cell? ⟨nb,3,none⟩=some (.string h.arg)∧w.cell? ⟨nb,4,none⟩=some (.slice s.dZ h.idx.len s.dG)∧w.cell? ⟨nb,5,none⟩=some (.int .i64 h.dN)∧w.cell? ⟨nb,6,none⟩=some (.int .i64 h.xn)∧w.cell? ⟨nb,7,none⟩=some (.string h.dM)∧w.cell? ⟨nb,8,none⟩=some (.slice s.dH h.aR.len s.bR)∧w.cell? ⟨nb,9,none⟩=some (.slice s.bV b.len s.bC)∧w.cell? ⟨nb,10,none⟩=some (.slice s.eB e.len s.dK):=
 ⟨(fC hb (j:=0) rfl).2,(fC hb (j:=1) rfl).2,(fC hb (j:=2) rfl).2,(fC hb (j:=3) rfl).2,(fC hb (j:=4) rfl).2,(fC hb (j:=5) rfl).2,(fC hb (j:=6) rfl).2,(fC hb (j:=7) rfl).2,(fC hb (j:=8) rfl).2,(fC hb (j:=9) rfl).2,(fC hb (j:=10) rfl).2⟩
theorem uO {x y a b:Value} (h1:x=a) (h2:y=b):Ending.returned (.tuple #[x,y])= .returned (.tuple #[a,b]):=by rw [h1,h2]
theorem TD:(Tryz.prog.info? 131).map (fun i=>(i.zero,i.size,i.bytes))=some (some (.agg #[.int .i64 0,.int .i64 0,.string ⟨#[]⟩,.string ⟨#[]⟩,.slice none 0 0,.int .i64 0,.int .i64 0,.string ⟨#[]⟩,.slice none 0 0,.slice none 0 0,.slice none 0 0]),11,176):=by kernel_rfl
def WJ:Array Value:= #[.int .i64 0,.int .i64 0,.string ⟨#[]⟩,.string ⟨#[]⟩,.slice none 0 0,.int .i64 0,.int .i64 0,.string ⟨#[]⟩,.slice none 0 0,.slice none 0 0,.slice none 0 0]
theorem U6: ∃i0,Tryz.prog.info? 131=some i0∧i0.zero=some (.agg WJ)∧i0.size=11∧i0.bytes=176:=info_parts TD
theorem U9:(Tryz.prog.info? 131).map (·.size)=some 11:=by kernel_rfl
theorem ix0 (a b:Option Addr) (l1 c1 l2 c2:Nat) (w:World):(Instr.index 199 (.agg #[.slice a l1 c1,.slice b l2 c2]) (.int .i64 0)).run Tryz.prog w= .ok (.slice a l1 c1) w:=by kernel_rfl
theorem ix1 (a b:Option Addr) (l1 c1 l2 c2:Nat) (w:World):(Instr.index 199 (.agg #[.slice a l1 c1,.slice b l2 c2]) (.int .i64 1)).run Tryz.prog w= .ok (.slice b l2 c2) w:=by kernel_rfl
def Qo (p:Pr) (j:Nat) (tn fM:ByteArray) (e R ar yw:aP) (f g:List (List UInt8)):JK:=if (gL p j tn fM e yw f g).err != 0 then gL p j tn fM e yw f g else gL p j tn fM R ar (gL p j tn fM e yw f g).f (gL p j tn fM e yw f g).g
def aa9 (p:Pr) (j:Nat) (tn fM:ByteArray) (b e R ar yw:aP) (f g:List (List UInt8)):JK:=if (gL p j tn fM b yw f g).err != 0 then gL p j tn fM b yw f g else Qo p j tn fM e R ar yw (gL p j tn fM b yw f g).f (gL p j tn fM b yw f g).g
def MR (p:Pr) (j:Nat) (tn fM:ByteArray) (b e R ar yw:aP) (k:Nat) (f g:List (List UInt8)):JK:=if k=0 then aa9 p j tn fM b e R ar yw f g else if k=1 then Qo p j tn fM e R ar yw f g else gL p j tn fM R ar f g
def Vy (w:World) (L:Lay) (p:Pr) (aK aM:Option Addr) (aG aH:Nat) (i:Int) (A:List Fr) (v:Value) (r:JK) (e:Ending) (w':World):Prop:=
 e= .returned (.tuple #[.int .i64 r.err,.int .i64 r.line])∧Kp L v w w'∧(r.err=0→sN (pQ p) r.f∧sN (pF p) r.g∧ ∃v',uQ w v v'∧jq w' L p aK aM aG aH i A (mem r.f) (mem r.g) r.f.length r.g.length v')
def yQ (L:Lay) (p:Pr) (aK aM:Option Addr) (aG aH:Nat) (j:Nat) (t t0:Th) (l:aP):Prop:=
 ∀(w:World) (ao:Option Addr) (cap:Nat) (A:List Fr) (f g:List (List UInt8)) (v:Value),l.len≤maxLen→l.At w L.B0 ao 0→A.length≤6→sN (pQ p) f→sN (pF p) g→jq w L p aK aM aG aH (j:Int) A (mem f) (mem g) f.length g.length v→
  Calls Tryz.prog 106 #[.pointer (some ⟨L.bc,0,none⟩),.slice ao l.len cap] w (Vy w L p aK aM aG aH (j:Int) A v (gL p j t.nm t0.nm l (fP A) f g))
set_option maxHeartbeats 8000000 in
set_option maxRecDepth 100000 in
theorem Bj (L:Lay) (p:Pr) (aK aM:Option Addr) (aG aH:Nat) (j:Nat) (t t0:Th) (r r0:List Th) (hd:p.ts.drop j=t ::r) (hts:p.ts=t0 ::r0) (hj:dR (j:Int)) (hT:p.ts.length < maxLen) (hD:p.ds.length < maxLen) (l:aP) (hall:l.All fun _ b e=>yQ L p aK aM aG aH j t t0 b∧yQ L p aK aM aG aH j t t0 e):yQ L p aK aM aG aH j t t0 l:=by
 intro w ao cap A f g v hl hat hA hf hg hI
 generalize hres:gL p j t.nm t0.nm l (fP A) f g=res
 have HR:=Lib.hid hres
 have HAT:=Lib.hid hat
 have iZ:=Lib.hid hall
 have HF:=Lib.hid hf
 have HG:=Lib.hid hg
 have HI:=Lib.hid hI
 unfold maxLen at hl
 have HA:=Lib.hid hA
 clear hres hat hall hf hg hI hA
 go_enter Tryz.func106,Tryz.ntmps106
 go_wp2_with fail
 go_loopw [7,8,10,11,12,15,51,52] (fun _ _ _ _ _ s _ _ wr=> ∃(k:Nat) (R:aP) (f1 g1:List (List UInt8)) (v1:Value),s= .int .i64 k∧k + R.len=l.len∧res=gL p j t.nm t0.nm R (fP A) f1 g1∧(R.All fun _ b e=>yQ L p aK aM aG aH j t t0 b∧yQ L p aK aM aG aH j t t0 e)∧R.At wr L.B0 ao k∧sN (pQ p) f1∧sN (pF p) g1∧Kp L v w wr∧uQ w v v1∧jq wr L p aK aM aG aH (j:Int) A (mem f1) (mem g1) f1.length g1.length v1) (fun _ _ _ _ _ s _ _ _=>l.len - (intOf s).toNat)
 case atStart=>exact ⟨0,l,f,g,v,rfl,by simp,HR.out.symm,iZ.out,HAT.out,HF.out,HG.out,Kp.refl _ _ _,.inl rfl,HI.out⟩
 case round=>
  obtain ⟨k,R,f1,g1,v1,rfl,hlen,heq,hall,hrow,hf1,hg1,Zc,YE,hI⟩:=hrel
  have HE:=Lib.hid heq
  have HK:=Lib.hid Zc
  have HO:=Lib.hid YE
  clear heq Zc YE
  cases R with
  | nil=>
    obtain rfl:k=l.len:=by simpa [aP.len] using hlen
    have HX:Hid (Vy w L p aK aM aG aH (j:Int) A v res (.returned (.tuple #[.int .i64 0,.int .i64 0])) wr):=Lib.hid (by
     rw [HE.out]; exact ⟨rfl,HK.out,fun _=>⟨hf1,hg1,v1,HO.out,hI⟩⟩)
    clear hI hall hrow hf1 hg1 HE
    go_wp2_with fail
    go_ret2
    exact HX.out
  | cons h b e R=>
    obtain ⟨bl,off,s,rfl,hbl,hin,x0,x1,x2,x3,x4,x5,x6,x7,x8,x9,x10,hrest⟩:=aP.At.XH hrow
    have hkl:k < l.len:=by simp only [aP.len] at hlen; omega
    obtain ⟨dh,wS⟩:=hall
    obtain ⟨bn,aV,rfl,-⟩:=hI.form
    have Ut:=Lib.hid dh
    have ZL:=Lib.hid wS
    have oN:=Lib.hid hf1
    have uh:=Lib.hid hg1
    have jT:=Lib.hid hin
    have jc:=Lib.hid hrest
    have Io:=Lib.hid hI
    clear hrow hin dh wS hf1 hg1 hrest hI
    go_upto_region 4 with fail
    obtain ⟨nb,hnb⟩: ∃n,wr.heap.size=n:=⟨_,rfl⟩
    generalize hW2:World.alloc wr _=W2
    have AZ:Hid (W2.heap[nb]? =some (.cells (qh h b e s).toArray 131 (0,0))):=Lib.hid (by rw [← hW2,← hnb]; exact heap_alloc_new _ _)
    have Ae:Hid (Below wr.heap.size wr W2):=Lib.hid (by rw [← hW2]; exact aj _ _)
    have HI2:=Lib.hid (Io.out.below Ae.out)
    have gY:Hid (Kp L v w W2):=Lib.hid (HK.out.trans (.inl HO.out) (Kp.of_below Ae.out))
    have lI:Hid (L.B1≤nb∧nb < W2.heap.size):=Lib.hid ⟨by rw [← hnb]; exact Io.out.sz,(Array.getElem?_eq_some_iff.1 AZ.out).1⟩
    have VZ:Hid (Value.ownBlock (.slice bn A.length aV)≠some nb):=Lib.hid (fun e=>by
     have:=Io.out.row.lt _ e; omega)
    have HOZ:Hid (w.heap.size≤W2.heap.size):=Lib.hid gY.out.size
    rw [hnb]
    clear hW2 hnb x0 x1 x2 x3 x4 x5 x6 x7 x8 x9 x10 hbl
    have c3:W2.cell? ⟨L.bc,3,none⟩=some (.slice bn A.length aV):=(fC HI2.out.blk (j:=3) rfl).2
    have hA6:=HA.out
    obtain ⟨y0,y1,y2,y3,y4,y5,y6,y7,y8,y9,iV⟩:=Wn AZ.out
    by_cases Vv:A.length=6
    ·have HX:Hid (res=⟨2,h.line,f1,g1⟩):=Lib.hid (HE.out.trans (by rw [gL,if_pos (by rw [yT,Vv]; rfl)]))
     rw [Vv] at c3
     clear hA6
     go_wp2_with fail
     go_quiet (fail)
     go_wp2_with fail
     go_ret2
     refine ⟨uO (by rw [HX.out]; rfl) (by rw [HX.out]; rfl),gY.out.trans (.inr rfl) (v1:= .slice none 0 0) (Kp.of_below (below_drewN (Below.refl _ _) _)),fun h0=> ?_⟩
     rw [HX.out] at h0; cases h0
    ·have hA':A.length < 6:=by omega
     have hdec:decide (6 < (A.length:Int) + 1)=false:=by rw [decide_eq_false_iff_not]; omega
     go_wp2_with fail
     refine (Lu W2 L p aK aM aG aH j A (mem f1) (mem g1) f1.length g1.length _ t t0 r r0 hd hts hj (by unfold maxLen; omega) (Nat.lt_of_le_of_lt oN.out.le (by simpa [pQ] using hT)) (Nat.lt_of_le_of_lt uh.out.le (by simpa [pF] using hD)) HI2.out h b e s (jT.out.below (Ae.out.mono Io.out.b0))).mono ?_
     rintro e' w3 ⟨rfl,hK3,VQ⟩
     rw [WX,Vd,Na,Na] at VQ
     have EH:Hid (w3.heap[nb]? =some (.cells (qh h b e s).toArray 131 (0,0))):=Lib.hid ((hK3.far lI.out.2 lI.out.1 (by simp [Value.ownBlock])).trans AZ.out)
     have HI3:=Lib.hid VQ
     have jM:Hid (Kp L v w w3):=Lib.hid (gY.out.trans (.inr rfl) hK3)
     have Pb:=Lib.hid hK3
     have rY:nb < w3.heap.size:=(Array.getElem?_eq_some_iff.1 EH.out).1
     clear hK3 VQ y0 y1 y2 y3 y4 y5 y6 y7 y8 y9 iV c3 hdec Vv
     obtain ⟨y0,y1,y2,y3,y4,y5,y6,y7,y8,y9,iV⟩:=Wn EH.out
     have c3:w3.cell? ⟨L.bc,3,none⟩=some (.slice bn A.length aV):=(fC HI3.out.blk (j:=3) rfl).2
     have HE2:Hid (res=gL p j t.nm t0.nm (aP.cons h b e R) (fP A) f1 g1):=HE
     have KO:Hid (kC p j t.nm t0.nm (fP A) (mem f1) (mem g1) h=0→sN (pQ p) (fL 12 h f1)∧sN (pF p) (fL 14 h g1)):=Lib.hid (fun h0=>⟨XB oN.out h0,XY uh.out h0⟩)
     have HU:Hid (gL p j t.nm t0.nm (aP.cons h b e R) (fP A) f1 g1=if kC p j t.nm t0.nm (fP A) (mem f1) (mem g1) h != 0 then ⟨kC p j t.nm t0.nm (fP A) (mem f1) (mem g1) h,h.line,f1,g1⟩ else MR p j t.nm t0.nm b e R (fP A) ((fP A).app (.cons h b e .nil)) 0 (fL 12 h f1) (fL 14 h g1)):=Lib.hid (by
      rw [gL,if_neg (by rw [yT,decide_eq_true_iff]; omega)]; rfl)
     generalize kC p j t.nm t0.nm (fP A) (mem f1) (mem g1) h=x at *
     cases hx:(x != 0)
     ·have HT:Hid (res=MR p j t.nm t0.nm b e R (fP A) ((fP A).app (.cons h b e .nil)) 0 (fL 12 h f1) (fL 14 h g1)):=Lib.hid (HE2.out.trans (HU.out.trans (by rw [hx]; rfl)))
      have WQ:=Lib.hid (KO.out (by simpa using hx))
      clear HU KO HE HE2
      go_upto_region 9 with fail
      have Y0: ∀w',Below w3.heap.size w3 w'→w'.cell? ⟨nb,0,none⟩=some (.int .i64 h.op):=fun w' hb=>(hb.cell (p:=⟨nb,0,none⟩) rY).trans y0
      have Y1: ∀w',Below w3.heap.size w3 w'→w'.cell? ⟨nb,1,none⟩=some (.int .i64 h.line):=fun w' hb=>(hb.cell (p:=⟨nb,1,none⟩) rY).trans y1
      have Y2: ∀w',Below w3.heap.size w3 w'→w'.cell? ⟨nb,2,none⟩=some (.string h.nm):=fun w' hb=>(hb.cell (p:=⟨nb,2,none⟩) rY).trans y2
      have Y3: ∀w',Below w3.heap.size w3 w'→w'.cell? ⟨nb,3,none⟩=some (.string h.arg):=fun w' hb=>(hb.cell (p:=⟨nb,3,none⟩) rY).trans y3
      have Y4: ∀w',Below w3.heap.size w3 w'→w'.cell? ⟨nb,4,none⟩=some (.slice s.dZ h.idx.len s.dG):=fun w' hb=>(hb.cell (p:=⟨nb,4,none⟩) rY).trans y4
      have Y5: ∀w',Below w3.heap.size w3 w'→w'.cell? ⟨nb,5,none⟩=some (.int .i64 h.dN):=fun w' hb=>(hb.cell (p:=⟨nb,5,none⟩) rY).trans y5
      have Y6: ∀w',Below w3.heap.size w3 w'→w'.cell? ⟨nb,6,none⟩=some (.int .i64 h.xn):=fun w' hb=>(hb.cell (p:=⟨nb,6,none⟩) rY).trans y6
      have Y7: ∀w',Below w3.heap.size w3 w'→w'.cell? ⟨nb,7,none⟩=some (.string h.dM):=fun w' hb=>(hb.cell (p:=⟨nb,7,none⟩) rY).trans y7
      have Y8: ∀w',Below w3.heap.size w3 w'→w'.cell? ⟨nb,8,none⟩=some (.slice s.dH h.aR.len s.bR):=fun w' hb=>(hb.cell (p:=⟨nb,8,none⟩) rY).trans y8
      have Y9: ∀w',Below w3.heap.size w3 w'→w'.cell? ⟨nb,9,none⟩=some (.slice s.bV b.len s.bC):=fun w' hb=>(hb.cell (p:=⟨nb,9,none⟩) rY).trans y9
      have yI: ∀w',Below w3.heap.size w3 w'→w'.cell? ⟨nb,10,none⟩=some (.slice s.eB e.len s.dK):=fun w' hb=>(hb.cell (p:=⟨nb,10,none⟩) rY).trans iV
      have L3: ∀w',Below w3.heap.size w3 w'→w'.cell? ⟨L.bc,3,none⟩=some (.slice bn A.length aV):=fun w' hb=>(hb.cell (p:=⟨L.bc,3,none⟩) (by have:=HI3.out.sz; have:=L.c1; show L.bc < _; omega)).trans c3
      clear y0 y1 y2 y3 y4 y5 y6 y7 y8 y9 iV c3
      refine gy (by kernel_rfl) rfl ?_
      refine fU 0 7 [] [[],[0],[0,1],[0,1,2],[],[0,1,2,3],[],[0,1,2,3,4,5,6],[0,1,2,3,4,5,6,7],[0,1,2,3,4,5,6,7,8],[0,1,2,3,4,5,6,7],[0,1,2,3,4,5,6,7,10],[0,1,2,3,4,5,6,7,10,11]] [[],[],[],[],[],[],[]] (fun _ w'=>Below w3.heap.size w3 w') (fun w w'=>Below w.heap.size w w') [36,37,38,39,40,41,42] rfl rfl (by rfl) (by kernel_rfl) (by kernel_rfl) (by kernel_rfl) (by kernel_rfl) (by kernel_rfl) (by rfl) (fun _=>Below.refl _ _) (by rfl) (below_drewN (Below.refl _ _) 1) ?_
      simp only [List.take_succ_cons,List.take_zero,List.drop_zero,List.drop_succ_cons,mE,List.map_cons,List.map_nil]
      apply bg.step
      case aD=>
       intro c A w' hok hC hO hD
       have e0:=hO 0 (by rfl)
       simp [Act.eval] at e0
       simp [ay,ak,au,Act.eval,Region.binds] at hD
       simp [go_sem,gd,Oper.wp,hD,e0]
       exact aA.mk (Below.refl _ _) hC (ak.mk _ _)
      apply bg.step
      case aD=>
       intro c A w' hok hC hO hD
       simp [ay,ak,au,Act.eval,Region.binds] at hD
       simp [go_sem,gd,Oper.wp,hD]
       exact aA.mk (Below.refl _ _) hC (ak.mk _ _)
      apply bg.step
      case aD=>
       intro c A w' hok hC hO hD
       simp [ay,ak,au,Act.eval,Region.binds] at hD
       simp [go_sem,gd,Oper.wp,hD]
       exact aA.mk (Below.refl _ _) hC (ak.mk _ _)
      apply bg.step
      case aD=>
       intro c A w' hok hC hO hD
       simp [ay,ak,au,Act.eval,Region.binds] at hD
       simp [go_sem,gd,Oper.wp,hD,L3,hC]
       exact aA.mk (Below.refl _ _) hC (ak.mk _ _)
      apply bg.step
      case aD=>
       intro c A w' hok hC hO hD
       have e7:=hO 7 (by rfl)
       simp [Act.eval] at e7
       simp [ay,ak,au,Act.eval,Region.binds] at hD
       simp [go_sem,gd,Oper.wp,hD,e7,Y0,Y1,Y2,Y3,Y4,Y5,Y6,Y7,Y8,Y9,yI,hC]
       exact aA.mk (Below.refl _ _) hC (ak.mk _ _)
      apply bg.step
      case aD=>
       intro c A w' hok hC hO hD
       simp [ay,ak,au,Act.eval,Region.binds] at hD
       simp [go_sem,gd,Oper.wp,hD]
       exact aA.mk (Below.refl _ _) hC (ak.mk _ _)
      refine bg.some (fun v w'=> ∃bb,v= .slice (some ⟨bb,0,none⟩) 1 1∧w'.heap[bb]? =some (.cells WJ 131 (0,0))) ?_ ?_ ?_
      ·rintro v w w' hle ⟨bb,rfl,hbb⟩
       exact ⟨bb,rfl,(hle.block bb (Array.getElem?_eq_some_iff.1 hbb).1).trans hbb⟩
      ·intro c A w' hok hC hO hD
       simp [go_sem,gd,Oper.wp]
       exact aA.mk (d:=_) (v:= .slice (some ⟨_,0,none⟩) 1 1) (aj _ _) (hC.trans ((aj _ _).mono hC.size)) ⟨_,rfl,heap_alloc_new _ _⟩
      simp only [List.nil_append,List.cons_append]
      refine bg.done ?_
      intro wz fH
      simp only [List.drop_zero]
      intro v0 h0 v1 h1 v2 h2 v3 h3 v4 h4 v5 h5 v6 h6
      have h0':v0=_:=h0
      have h1':v1=_:=h1
      have h2':v2=_:=h2
      have h3':v3=_:=h3
      have h4':v4=_:=h4
      have h5':v5=_:=h5
      subst h0' h1' h2' h3' h4' h5'
      obtain ⟨bb,rfl,hbb⟩:=h6
      clear h0 h1 h2 h3 h4 h5
      refine eG.nil ?_
      go_simp
      refine gX 7 [[],[0],[0,1],[0,1,2],[],[0,1,2,3],[],[0,1,2,3,4,5,6],[0,1,2,3,4,5,6,7],[0,1,2,3,4,5,6,7,8],[0,1,2,3,4,5,6,7],[0,1,2,3,4,5,6,7,10],[0,1,2,3,4,5,6,7,10,11]] rfl rfl rfl rfl rfl (by kernel_rfl) (by kernel_rfl) (by kernel_rfl) ?_
      obtain ⟨i0,hi0,hz0,hz1,hz2⟩:=U6
      have JR:=Lib.hid (HI3.out.below fH)
      refine wp_append_lies wz _ _ _ (by rfl) L.B1 131 i0 _ 11 176 Tryz.underlying91 hi0 hz0 hz1 hz2 (by rfl) (by omega) (.slice bn A.length aV) A.length (yu A) (by rfl) JR.out.row ⟨bb,0,none⟩ 1 1 WJ.toList (by rfl) (by rfl) (World.news_of_block hbb) (by decide) (by omega) (by unfold maxLen; omega) (by omega) JR.out.sz wz.heap.size rfl ?_
      intro g' cap' w4 Gq IK Xo Qc
      clear hi0 hz0 hz1 hz2 hbb Y0 Y1 Y2 Y3 Y4 Y5 Y6 Y7 Y8 Y9 yI L3
      have AP:=Lib.hid (HI3.out.push ⟨h,b,e,s⟩ (jT.out.below ((Ae.out.mono Io.out.b0).trans (Pb.out.below HI2.out.b0 (by simp [Value.ownBlock])))) fH Gq IK Xo)
      have hgb:=(Gq.lt g' rfl).1
      have eX:Hid (w4.heap[L.bc]? =some (.cells (WU p aK aM aG aH (j:Int) (.slice bn A.length aV) L.bs L.bt) 174 (0,0))):=Lib.hid (by
       rw [IK.block _ (by have:=JR.out.sz; have:=L.c1; omega) (fun e'=>by
        have:=JR.out.own_ne L.c1
        rcases this with h1 | h1
        ·rw [h1] at e'; cases e'
        ·exact h1 e'.symm)]
       exact JR.out.blk)
      have Fx:=Lib.hid (LA Gq)
      have LX:g'≠L.bc:=by have:=L.c1; omega
      clear Gq IK Xo Qc hgb
      go_simp
      refine fU 8 13 [9,12] [[],[0],[0,1],[0,1,2],[],[0,1,2,3],[],[0,1,2,3,4,5,6],[0,1,2,3,4,5,6,7],[0,1,2,3,4,5,6,7,8],[0,1,2,3,4,5,6,7],[0,1,2,3,4,5,6,7,10],[0,1,2,3,4,5,6,7,10,11]] [[some false,none],[some false,none],[none,some false],[none,some false],[none,some false]] (PC w4 g' (A.length * 11) (qh h b e s) ⟨L.bc,3,none⟩ (.slice (some ⟨g',0,none⟩) (A.length + 1) cap')) (fun _ _=>True) [44,45,46] rfl rfl (by rfl) (by kernel_rfl) (by kernel_rfl) (by kernel_rfl) (by kernel_rfl) (by kernel_rfl) (by rfl) (fun _=>trivial) (by rfl) rfl ?_
      simp only [List.take_succ_cons,List.take_zero,List.drop_zero,List.drop_succ_cons,mE,List.map_cons,List.map_nil]
      have Sb:(0:Int)≤(A.length:Int):=by omega
      have hA1:(A.length:Int) < (A.length:Int) + 1:=by omega
      apply bg.step
      case aD=>
       intro c A w' hok hC hO hD
       have e43:=hO 43 (by rfl)
       have e41:=hO 41 (by rfl)
       simp [Act.eval] at e43 e41
       simp [ay,ak,au,Act.eval,Region.binds] at hD
       simp [go_sem,gd,Oper.wp,hD,e43,e41,hA1]
       exact aA.mk trivial (PC.skip (by rfl) (by rfl) hC) (ak.mk _ _)
      refine bg.some (fun _ _=>True) (fun _ _ _ _ _=>trivial) ?_ ?_
      ·intro c A' w' hok hC hO hD
       obtain ⟨x,y,rfl⟩:=hC.bits
       obtain ⟨rfl,-⟩:=hok
       have e40:=hO 40 (by rfl)
       simp [ay,ak,au,Act.eval,Region.binds] at hD
       simp only [gd,if_true]
       refine wp_store_mid _ _ _ (by rfl) g' (A.length * 11) (qh h b e s).toArray (by simp [Act.eval,hD]) (e40.trans (by rfl)) (F6 Fx.out (hC.SB LX)) U9 (by simp [qh,Value.oneCell']) ?_
       exact aA.Gh trivial (PC.elt LX (by rfl) (by rfl) hC) trivial
      simp only [List.nil_append,List.cons_append]
      apply bg.step
      case aD=>
       intro c A w' hok hC hO hD
       have e36:=hO 36 (by rfl)
       simp [Act.eval] at e36
       simp [ay,ak,au,Act.eval,Region.binds] at hD
       simp [go_sem,gd,Oper.wp,hD,e36]
       exact aA.mk trivial (PC.skip (by rfl) (by rfl) hC) (ak.mk _ _)
      apply bg.step
      case aD=>
       intro c A w' hok hC hO hD
       simp [ay,ak,au,Act.eval,Region.binds] at hD
       simp [go_sem,gd,Oper.wp,hD]
       exact aA.mk trivial (PC.skip (by rfl) (by rfl) hC) (ak.mk _ _)
      refine bg.some (fun _ _=>True) (fun _ _ _ _ _=>trivial) ?_ ?_
      ·intro c A' w' hok hC hO hD
       obtain ⟨x,y,rfl⟩:=hC.bits
       obtain ⟨rfl,-⟩:=hok
       have e43:=hO 43 (by rfl)
       simp [Act.eval] at e43
       simp [ay,ak,au,Act.eval,Region.binds] at hD
       have hbk0:w'.heap[L.bc]? =w4.heap[L.bc]?:=PC.Ud (a:=⟨L.bc,3,none⟩) LX hC (Array.getElem?_eq_some_iff.1 eX.out).1
       have hbk:=hbk0.trans eX.out
       have hcl:w'.cell? ⟨L.bc,3,none⟩=some (.slice bn A.length aV):=(fC hbk (j:=3) rfl).2
       have hfr:w'.frozen? ⟨L.bc,3,none⟩=false:=bH hbk
       simp [go_sem,gd,Oper.wp,hD,e43,hcl,hfr]
       exact aA.Gh (v:=undef) trivial (PC.fld (by rfl) (by rfl) hC) trivial
      simp only [List.nil_append,List.cons_append,List.drop_succ_cons,List.drop_zero]
      refine bg.done ?_
      intro w5 Z6
      simp only [List.drop_succ_cons,List.drop_zero]
      intro v0 h0 v1 h1 v2 h2 v3 h3 v4 h4
      clear h0 h1 h2 h3 h4
      refine eG.nil ?_
      refine iG rfl ?_
      have YU:Hid (w5=(w4.setCells g' (A.length * 11) (qh h b e s)).setCell ⟨L.bc,3,none⟩ (.slice (some ⟨g',0,none⟩) (A.length + 1) cap')):=Lib.hid Z6
      rw [← YU.out] at AP
      have YK:=Lib.hid AP.out.1
      have J2:Hid (Kp L v w w5):=Lib.hid (jM.out.trans (.inl (HO.out.trans (.inl rfl) (Nat.le_refl _))) AP.out.2.1)
      have Qk:=Lib.hid AP.out.2.1
      have Q6:=Lib.hid AP.out.2.2
      clear Z6 YU AP Fx eX Sb hA1 LX
      go_simp
      have Qn:Hid (w5.heap[nb]? =some (.cells (qh h b e s).toArray 131 (0,0))):=Lib.hid ((Qk.out.far rY lI.out.1 VZ.out).trans EH.out)
      have VX:=Lib.hid (Q6.out.ne rY VZ.out)
      have Zg:Hid (uQ w v (.slice (some ⟨g',0,none⟩) (A.length + 1) cap')):=Lib.hid (HO.out.trans Q6.out jM.out.size)
      have Rj:Hid (aP.At w5 L.B0 R (some ⟨bl,off,none⟩) (k + 1)):=Lib.hid (jc.out.below (((Ae.out.mono Io.out.b0).trans (Pb.out.below HI2.out.b0 (by simp [Value.ownBlock]))).trans (Qk.out.below HI3.out.b0 (fun q hq=>(HI3.out.row.lt q hq).1))))
      have IB:Hid (b.len≤maxLen∧e.len≤maxLen):=Lib.hid jT.out.1.2.2.2.2.2.2
      obtain ⟨-,-,-,-,-,-,-,-,-,y9,iV⟩:=Wn Qn.out
      clear hx rY JR fH HI3 jM Pb EH Qk Q6 VZ HI2 gY AZ Ae Io jT jc HO HK oN uh HF HG HI HAT
      go_wp2_with fail
      go_loopw [10,11,12,52] (fun _ _ _ VG wq=> ∃(kk:Nat) (f2 g2:List (List UInt8)) (v2:Value),VG= .int .i64 kk∧kk≤2∧res=MR p j t.nm t0.nm b e R (fP A) ((fP A).app (.cons h b e .nil)) kk f2 g2∧sN (pQ p) f2∧sN (pF p) g2∧Kp L v w wq∧uQ w v v2∧v2.ownBlock≠some nb∧wq.heap[nb]? =some (.cells (qh h b e s).toArray 131 (0,0))∧R.At wq L.B0 (some ⟨bl,off,none⟩) (k + 1)∧jq wq L p aK aM aG aH (j:Int) (A++[⟨h,b,e,s⟩]) (mem f2) (mem g2) f2.length g2.length v2) (fun _ _ _ VG _=>2 - (intOf VG).toNat)
      case atStart=>exact ⟨0,_,_,_,rfl,by omega,HT.out,WQ.out.1,WQ.out.2,J2.out,Zg.out,VX.out,Qn.out,Rj.out,YK.out⟩
      case round=>
       obtain ⟨kk,f2,g2,v2,rfl,hkk,heq2,hf2,hg2,Yj,Yf,WW,Vf,YQ,Vn⟩:=hrel
       clear y9 iV
       have Kv:=Lib.hid heq2
       have fu:=Lib.hid hf2
       have HG2:=Lib.hid hg2
       have Dr:=Lib.hid Yj
       have JL:=Lib.hid Yf
       have Lr:=Lib.hid WW
       have Fe:=Lib.hid Vf
       have MW:=Lib.hid YQ
       have zf:=Lib.hid Vn
       have HIS:=Lib.hid (Vn.uS ⟨h,b,e,s⟩ (by simp))
       clear heq2 hf2 hg2 Yj Yf WW Vf YQ Vn HT WQ J2 Zg VX Qn Rj YK
       have hk3:kk=0∨kk=1∨kk=2:=by omega
       have ixa:=ix0 s.bV s.eB b.len s.bC e.len s.dK
       have ixb:=ix1 s.bV s.eB b.len s.bC e.len s.dK
       rcases hk3 with rfl | rfl | rfl
       ·have qW:Hid (res=if (gL p j t.nm t0.nm b (fP (A++[⟨h,b,e,s⟩])) f2 g2).err != 0 then gL p j t.nm t0.nm b (fP (A++[⟨h,b,e,s⟩])) f2 g2 else Qo p j t.nm t0.nm e R (fP A) (fP (A++[⟨h,b,e,s⟩])) (gL p j t.nm t0.nm b (fP (A++[⟨h,b,e,s⟩])) f2 g2).f (gL p j t.nm t0.nm b (fP (A++[⟨h,b,e,s⟩])) f2 g2).g):=Lib.hid (by rw [wu]; exact Kv.out)
        clear Kv
        go_wp2_with fail
        refine (Ut.out.1 _ s.bV s.bC (A++[⟨h,b,e,s⟩]) f2 g2 v2 IB.out.1 HIS.out.2.2.2.1 (by simp; omega) fu.out HG2.out zf.out).mono ?_
        rintro e' w7 ⟨rfl,DT,Ou⟩
        generalize gL p j t.nm t0.nm b (fP (A++[⟨h,b,e,s⟩])) f2 g2=r1 at *
        have Ov:Hid (Kp L v w w7):=Lib.hid (Dr.out.trans (.inl JL.out) DT)
        have Hq:=Lib.hid Ou
        have KM:Hid (w7.heap[nb]? =some (.cells (qh h b e s).toArray 131 (0,0))):=Lib.hid ((DT.far (Array.getElem?_eq_some_iff.1 Fe.out).1 lI.out.1 Lr.out).trans Fe.out)
        have Uj:Hid (R.At w7 L.B0 (some ⟨bl,off,none⟩) (k + 1)):=Lib.hid (MW.out.below (DT.below zf.out.b0 (fun q hq=>(zf.out.row.lt q hq).1)))
        clear DT Ou
        cases hr1:(r1.err != 0)
        ·have I5:Hid (res=MR p j t.nm t0.nm b e R (fP A) ((fP A).app (.cons h b e .nil)) 1 r1.f r1.g):=Lib.hid (qW.out.trans ((if_neg (by rw [hr1]; decide)).trans (by first | rfl | (simp only [wu]; rfl))))
         obtain ⟨FM,FE,v7,Oh,Gc⟩:=Hq.out (by simpa using hr1)
         have wH:=Lib.hid (And.intro FM (And.intro FE (And.intro Oh Gc)))
         clear FM FE Oh Gc Hq qW
         go_wp2_with fail
         go_roundw
         case rel=>exact ⟨1,r1.f,r1.g,v7,rfl,by omega,I5.out,wH.out.1,wH.out.2.1,Ov.out,JL.out.trans wH.out.2.2.1 Dr.out.size,wH.out.2.2.1.ne (Array.getElem?_eq_some_iff.1 Fe.out).1 Lr.out,KM.out,Uj.out,wH.out.2.2.2⟩
         case measure=>simp [intOf]
        ·have yH:Hid (res=r1):=Lib.hid (qW.out.trans (if_pos hr1))
         have HX0:Hid (r1.err≠0):=Lib.hid (by simpa using hr1)
         clear qW Hq
         go_wp2_with fail
         go_ret2
         refine ⟨uO (by rw [yH.out]; rfl) (by rw [yH.out]; rfl),Ov.out,fun h0=> ?_⟩
         rw [yH.out] at h0; exact (HX0.out h0).elim
       ·have qW:Hid (res=if (gL p j t.nm t0.nm e (fP (A++[⟨h,b,e,s⟩])) f2 g2).err != 0 then gL p j t.nm t0.nm e (fP (A++[⟨h,b,e,s⟩])) f2 g2 else gL p j t.nm t0.nm R (fP A) (gL p j t.nm t0.nm e (fP (A++[⟨h,b,e,s⟩])) f2 g2).f (gL p j t.nm t0.nm e (fP (A++[⟨h,b,e,s⟩])) f2 g2).g):=Lib.hid (by rw [wu]; exact Kv.out)
        clear Kv
        go_wp2_with fail
        refine (Ut.out.2 _ s.eB s.dK (A++[⟨h,b,e,s⟩]) f2 g2 v2 IB.out.2 HIS.out.2.2.2.2 (by simp; omega) fu.out HG2.out zf.out).mono ?_
        rintro e' w7 ⟨rfl,DT,Ou⟩
        generalize gL p j t.nm t0.nm e (fP (A++[⟨h,b,e,s⟩])) f2 g2=r1 at *
        have Ov:Hid (Kp L v w w7):=Lib.hid (Dr.out.trans (.inl JL.out) DT)
        have Hq:=Lib.hid Ou
        have KM:Hid (w7.heap[nb]? =some (.cells (qh h b e s).toArray 131 (0,0))):=Lib.hid ((DT.far (Array.getElem?_eq_some_iff.1 Fe.out).1 lI.out.1 Lr.out).trans Fe.out)
        have Uj:Hid (R.At w7 L.B0 (some ⟨bl,off,none⟩) (k + 1)):=Lib.hid (MW.out.below (DT.below zf.out.b0 (fun q hq=>(zf.out.row.lt q hq).1)))
        clear DT Ou
        cases hr1:(r1.err != 0)
        ·have I5:Hid (res=MR p j t.nm t0.nm b e R (fP A) ((fP A).app (.cons h b e .nil)) 2 r1.f r1.g):=Lib.hid (qW.out.trans ((if_neg (by rw [hr1]; decide)).trans (by first | rfl | (simp only [wu]; rfl))))
         obtain ⟨FM,FE,v7,Oh,Gc⟩:=Hq.out (by simpa using hr1)
         have wH:=Lib.hid (And.intro FM (And.intro FE (And.intro Oh Gc)))
         clear FM FE Oh Gc Hq qW
         go_wp2_with fail
         go_roundw
         case rel=>exact ⟨2,r1.f,r1.g,v7,rfl,by omega,I5.out,wH.out.1,wH.out.2.1,Ov.out,JL.out.trans wH.out.2.2.1 Dr.out.size,wH.out.2.2.1.ne (Array.getElem?_eq_some_iff.1 Fe.out).1 Lr.out,KM.out,Uj.out,wH.out.2.2.2⟩
         case measure=>simp [intOf]
        ·have yH:Hid (res=r1):=Lib.hid (qW.out.trans (if_pos hr1))
         have HX0:Hid (r1.err≠0):=Lib.hid (by simpa using hr1)
         clear qW Hq
         go_wp2_with fail
         go_ret2
         refine ⟨uO (by rw [yH.out]; rfl) (by rw [yH.out]; rfl),Ov.out,fun h0=> ?_⟩
         rw [yH.out] at h0; exact (HX0.out h0).elim
       ·have I5:Hid (res=gL p j t.nm t0.nm R (fP A) f2 g2):=Kv
        obtain ⟨g7,zA,rfl,hc7⟩: ∃g7 zA,v2= .slice (some ⟨g7,0,none⟩) (A.length + 1) zA∧A.length + 1≤zA:=by
         rcases zf.out.row.2 with ⟨-,hn⟩ | ⟨g',cap,cur,e',-,-,hcc,-⟩
         ·simp at hn
         ·exact ⟨g',cap,by rw [e']; simp,by simpa using hcc⟩
        have hcl: ∀w',Below (World.heap wr).size wr w'→w'.cell? ⟨L.bc,3,none⟩=some (.slice (some ⟨g7,0,none⟩) (A.length + 1) zA):=fun w' hb=>(hb.cell (p:=⟨L.bc,3,none⟩) (by have:=zf.out.sz; have:=L.c1; show L.bc < _; omega)).trans (fC zf.out.blk (j:=3) rfl).2
        have hz1:(0:Int)≤(A.length:Int):=by omega
        have hz2:(A.length:Int)≤(zA:Int):=by omega
        have hwr:IntKind.i64.wrap (A.length:Int)=(A.length:Int):=IntWalk.i64_in _ (by omega)
        have EI:(A.length:Int) + 1 - 1=(A.length:Int):=by omega
        clear Kv ixa ixb
        go_upto_region 17 with fail
        refine gy (by kernel_rfl) rfl ?_
        refine fU 0 14 [] [[],[],[1],[1,2],[1,2,3],[],[5],[5,6],[5,6,7],[5,6,7,8],[5,6,7,8,9],[1,2,3,4,5,6,7,8,9,10],[0,1,2,3,4,5,6,7,8,9,10,11],[0,1,2,3,4,5,6,7,8,9,10,11,12],[0,1,2,3,4,5,6,7,8,9,10,11,12,13]] [[],[],[],[],[],[],[],[],[],[],[],[],[],[]] (fun _ w'=>Below (World.heap wr).size wr w') (fun w w'=>Below w.heap.size w w') [66,67,68,69,70,71,72,73,74,75,76,77,78,79] rfl rfl (by rfl) (by kernel_rfl) (by kernel_rfl) (by kernel_rfl) (by kernel_rfl) (by kernel_rfl) (by rfl) (fun _=>Below.refl _ _) (by rfl) (below_drewN (Below.refl _ _) 1) ?_
        simp only [List.take_succ_cons,List.take_zero,List.drop_zero,List.drop_succ_cons,mE,List.map_cons,List.map_nil]
        apply bg.step
        case aD=>
         intro c A w' hok hC hO hD
         have e0:=hO 0 (by rfl)
         simp [Act.eval] at e0
         simp [ay,ak,au,Act.eval,Region.binds] at hD
         simp [go_sem,gd,Oper.wp,hD,e0]
         exact aA.mk (Below.refl _ _) hC (ak.mk _ _)
        apply bg.step
        case aD=>
         intro c A w' hok hC hO hD
         have e0:=hO 0 (by rfl)
         simp [Act.eval] at e0
         simp [ay,ak,au,Act.eval,Region.binds] at hD
         simp [go_sem,gd,Oper.wp,hD,e0]
         exact aA.mk (Below.refl _ _) hC (ak.mk _ _)
        apply bg.step
        case aD=>
         intro c A w' hok hC hO hD
         simp [ay,ak,au,Act.eval,Region.binds] at hD
         simp [go_sem,gd,Oper.wp,hD]
         exact aA.mk (Below.refl _ _) hC (ak.mk _ _)
        apply bg.step
        case aD=>
         intro c A w' hok hC hO hD
         simp [ay,ak,au,Act.eval,Region.binds] at hD
         simp [go_sem,gd,Oper.wp,hD]
         exact aA.mk (Below.refl _ _) hC (ak.mk _ _)
        apply bg.step
        case aD=>
         intro c A w' hok hC hO hD
         simp [ay,ak,au,Act.eval,Region.binds] at hD
         simp [go_sem,gd,Oper.wp,hD,hcl,hC]
         exact aA.mk (Below.refl _ _) hC (ak.mk _ _)
        simp only [List.nil_append,List.cons_append]
        apply bg.step
        case aD=>
         intro c A w' hok hC hO hD
         have e0:=hO 0 (by rfl)
         simp [Act.eval] at e0
         simp [ay,ak,au,Act.eval,Region.binds] at hD
         simp [go_sem,gd,Oper.wp,hD,e0]
         exact aA.mk (Below.refl _ _) hC (ak.mk _ _)
        apply bg.step
        case aD=>
         intro c A w' hok hC hO hD
         simp [ay,ak,au,Act.eval,Region.binds] at hD
         simp [go_sem,gd,Oper.wp,hD]
         exact aA.mk (Below.refl _ _) hC (ak.mk _ _)
        apply bg.step
        case aD=>
         intro c A w' hok hC hO hD
         simp [ay,ak,au,Act.eval,Region.binds] at hD
         simp [go_sem,gd,Oper.wp,hD]
         exact aA.mk (Below.refl _ _) hC (ak.mk _ _)
        apply bg.step
        case aD=>
         intro c A w' hok hC hO hD
         simp [ay,ak,au,Act.eval,Region.binds] at hD
         simp [go_sem,gd,Oper.wp,hD,hcl,hC]
         exact aA.mk (Below.refl _ _) hC (ak.mk _ _)
        apply bg.step
        case aD=>
         intro c A w' hok hC hO hD
         simp [ay,ak,au,Act.eval,Region.binds] at hD
         simp [go_sem,gd,Oper.wp,hD]
         exact aA.mk (Below.refl _ _) hC (ak.mk _ _)
        simp only [List.nil_append,List.cons_append]
        apply bg.step
        case aD=>
         intro c A w' hok hC hO hD
         simp [ay,ak,au,Act.eval,Region.binds] at hD
         simp [go_sem,gd,Oper.wp,hD,EI,hwr]
         exact aA.mk (Below.refl _ _) hC (ak.mk _ _)
        apply bg.step
        case aD=>
         intro c A w' hok hC hO hD
         simp [ay,ak,au,Act.eval,Region.binds] at hD
         simp [go_sem,gd,Oper.wp,hD,hz1,hz2]
         exact aA.mk (Below.refl _ _) hC (ak.mk _ _)
        simp only [List.nil_append,List.cons_append]
        apply bg.step
        case aD=>
         intro c A w' hok hC hO hD
         simp [ay,ak,au,Act.eval,Region.binds] at hD
         simp [go_sem,gd,Oper.wp,hD]
         exact aA.mk (Below.refl _ _) hC (ak.mk _ _)
        apply bg.step
        case aD=>
         intro c A w' hok hC hO hD
         simp [ay,ak,au,Act.eval,Region.binds] at hD
         simp [go_sem,gd,Oper.wp,hD]
         exact aA.mk (Below.refl _ _) hC (ak.mk _ _)
        simp only [List.nil_append,List.cons_append]
        refine bg.done ?_
        intro wz fH
        simp only [List.drop_zero]
        intro v0 h0 v1 h1 v2 h2 v3 h3 v4 h4 v5 h5 v6 h6 v7 h7 v8 h8 v9 h9 v10 h10 v11 h11 v12 h12 v13 sJ
        have CU:v11=_:=h11
        have Zl:v13=_:=sJ
        subst CU Zl
        clear h0 h1 h2 h3 h4 h5 h6 h7 h8 h9 h10 h11 h12 sJ
        refine eG.nil ?_
        go_simp
        have V5:=Lib.hid (jq.pop ⟨h,b,e,s⟩ zf.out fH)
        have hclz:wz.cell? ⟨L.bc,3,none⟩=some (.slice (some ⟨g7,0,none⟩) (A.length + 1) zA):=hcl wz fH
        have Ui:wz.frozen? ⟨L.bc,3,none⟩=false:=bH ((zf.out.below fH).blk)
        clear hcl EI hwr
        refine gX 14 [[],[],[1],[1,2],[1,2,3],[],[5],[5,6],[5,6,7],[5,6,7,8],[5,6,7,8,9],[1,2,3,4,5,6,7,8,9,10],[0,1,2,3,4,5,6,7,8,9,10,11],[0,1,2,3,4,5,6,7,8,9,10,11,12],[0,1,2,3,4,5,6,7,8,9,10,11,12,13]] rfl rfl rfl rfl rfl (by kernel_rfl) (by kernel_rfl) (by kernel_rfl) ?_
        simp [go_sem,Oper.wp,hclz,Ui]
        refine iG rfl ?_
        clear hclz Ui fH
        go_simp
        go_wp2_with fail
        go_roundw
        case rel=>exact ⟨k + 1,R,f2,g2,.slice (some ⟨g7,0,none⟩) A.length zA,by go_num,by simp only [aP.len] at hlen; omega,I5.out,ZL.out,MW.out.below (V5.out.2.below zf.out.b0 (fun q hq=>(zf.out.row.lt q hq).1)),fu.out,HG2.out,Dr.out.trans (.inl JL.out) V5.out.2,JL.out.trans (.inl rfl) Dr.out.size,V5.out.1⟩
        case measure=>simp [intOf]; omega
     ·have HX:Hid (res=⟨x,h.line,f1,g1⟩):=Lib.hid (HE2.out.trans (HU.out.trans (by rw [hx]; rfl)))
      have HX0:Hid (x≠0):=Lib.hid (by simpa using hx)
      clear HU KO HE HE2
      go_wp2_with fail
      go_quiet (fail)
      go_wp2_with fail
      go_ret2
      refine ⟨uO (by rw [HX.out]; rfl) (by rw [HX.out]; rfl),jM.out.trans (.inr rfl) (v1:= .slice none 0 0) (Kp.of_below (below_drewN (Below.refl _ _) _)),fun h0=> ?_⟩
      rw [HX.out] at h0; exact (HX0.out h0).elim
theorem M7 (L:Lay) (p:Pr) (aK aM:Option Addr) (aG aH:Nat) (j:Nat) (t t0:Th) (r r0:List Th) (hd:p.ts.drop j=t ::r) (hts:p.ts=t0 ::r0) (hj:dR (j:Int)) (hT:p.ts.length < maxLen) (hD:p.ds.length < maxLen) (l:aP):yQ L p aK aM aG aH j t t0 l:=
 Bj L p aK aM aG aH j t t0 r r0 hd hts hj hT hD l (aP.lG (fun _ b e hb he=>⟨Bj L p aK aM aG aH j t t0 r r0 hd hts hj hT hD b hb,Bj L p aK aM aG aH j t t0 r r0 hd hts hj hT hD e he⟩) l)
end Go.Proofs.YtdajkddgnfgijaaGreatDoor
end
section
set_option linter.unusedSimpArgs false
set_option linter.unusedVariables false
namespace Go.Proofs.YtdajkddgnfgijaaGreatDoor
open Go.RowKit
namespace Md
def kK (p:Pr) (fM:ByteArray):List Th→Nat→List (List UInt8)→List (List UInt8)→JK
 | [],_,f,g=>⟨0,0,f,g⟩
 | t ::r,j,f,g=>if (gL p j t.nm fM t.body .nil f g).err != 0 then gL p j t.nm fM t.body .nil f g else kK p fM r (j + 1) (gL p j t.nm fM t.body .nil f g).f (gL p j t.nm fM t.body .nil f g).g
end Md
open Md
def RV (n:Nat) (h:0 < n):Lay where
 B0:=n
 B1:=n + 4
 bc:=n + 1 + 1 + 1
 bs:=n + 1
 bt:=n + 1 + 1
 c0:=by omega
 s0:=by omega
 t0:=by omega
 c1:=by omega
 s1:=by omega
 t1:=by omega
 cs:=by omega
 ct:=by omega
 st:=by omega
 kw:=h
theorem TB {p:Pr} {w W:World} {aK aM:Option Addr} {aG aH:Nat} (hp:p.At w aK aM) (dI:dw w)
 (hW:((((w.alloc (.cells #[.slice aK p.ds.length aG,.slice aM p.ts.length aH] 25)).alloc (.map #[] 0)).alloc (.map #[] 0)).alloc (.cells #[.slice aK p.ds.length aG,.slice aM p.ts.length aH,.int .i64 0,.slice none 0 0,.map (some (w.heap.size + 1)),.map (some (w.heap.size + 1 + 1))] 174))=W):
 jq W (RV w.heap.size dI.lt) p aK aM aG aH 0 [] (mem []) (mem []) 0 0 (.slice none 0 0)∧Below w.heap.size w W∧W.heap[w.heap.size]? =some (.cells #[.slice aK p.ds.length aG,.slice aM p.ts.length aH] 25 (0,0)):=by
 have hb:Below w.heap.size w W:=by
  rw [← hW]
  exact ((((Below.refl _ _).alloc (Nat.le_refl _) _).alloc (by simp) _).alloc (by simp; omega) _).alloc (by simp; omega) _
 have h0:W.heap[w.heap.size]? =some (.cells #[.slice aK p.ds.length aG,.slice aM p.ts.length aH] 25 (0,0)):=by
  rw [← hW,heap_alloc_old _ _ (by simp; omega),heap_alloc_old _ _ (by simp; omega),heap_alloc_old _ _ (by simp)]
  exact heap_alloc_new _ _
 have h1:gQ W (w.heap.size + 1) 0 (mem []):=by
  have:=gQ.made (w.alloc (.cells #[.slice aK p.ds.length aG,.slice aM p.ts.length aH] 25))
  have e:(w.alloc (.cells #[.slice aK p.ds.length aG,.slice aM p.ts.length aH] 25)).heap.size=w.heap.size + 1:=by simp
  rw [e] at this
  refine gQ.same (f:=mem []) this ?_
  rw [← hW,heap_alloc_old _ _ (by simp),heap_alloc_old _ _ (by simp)]
 have h2:gQ W (w.heap.size + 1 + 1) 0 (mem []):=by
  have:=gQ.made ((w.alloc (.cells #[.slice aK p.ds.length aG,.slice aM p.ts.length aH] 25)).alloc (.map #[] 0))
  have e:((w.alloc (.cells #[.slice aK p.ds.length aG,.slice aM p.ts.length aH] 25)).alloc (.map #[] 0)).heap.size=w.heap.size + 1 + 1:=by simp
  rw [e] at this
  refine gQ.same (f:=mem []) this ?_
  rw [← hW,heap_alloc_old _ _ (by simp)]
 have h3:W.heap[w.heap.size + 1 + 1 + 1]? =some (.cells (WU p aK aM aG aH 0 (.slice none 0 0) (w.heap.size + 1) (w.heap.size + 1 + 1)) 174 (0,0)):=by
  rw [← hW]
  have e:(((w.alloc (.cells #[.slice aK p.ds.length aG,.slice aM p.ts.length aH] 25)).alloc (.map #[] 0)).alloc (.map #[] 0)).heap.size=w.heap.size + 1 + 1 + 1:=by simp
  rw [← e]; exact heap_alloc_new _ _
 refine ⟨{blk:=h3,row:=World.ownsRow_nil _ _ _ _,ms:=h1,mt:=h2,sz:= ?_,dat:= ?_,uS:=by intro x hx; simp at hx},hb,h0⟩
 ·show w.heap.size + 4≤W.heap.size
  rw [← hW]; simp
 ·exact ⟨hp.1,hp.2.1,hp.2.2.1.below hb,hp.2.2.2.below hb,dI.same hb⟩
theorem jq.ZO {w:World} {L:Lay} {p:Pr} {aK aM:Option Addr} {aG aH:Nat} {i i':Int} {A:List Fr} {f g:List UInt8→Bool} {n m:Nat} {v:Value}
 (h:jq w L p aK aM aG aH i A f g n m v):jq (w.setCell ⟨L.bc,2,none⟩ (.int .i64 i')) L p aK aM aG aH i' A f g n m v:=by
 have hg:=dO w ⟨L.bc,2,none⟩ (.int .i64 i')
 have hbel:=dB hg L.c0 h.b0
 exact {blk:=by rw [dV h.blk]; rfl,row:=h.row.kept hg (h.own_ne L.c1),ms:=h.ms.same (bJ w _ _ rfl L.cs),mt:=h.mt.same (bJ w _ _ rfl L.ct),sz:=Nat.le_trans h.sz hg.size,dat:=h.dat.below hbel,uS:=fun x hx=>(h.uS x hx).below hbel}
set_option maxHeartbeats 4000000 in
set_option maxRecDepth 100000 in
theorem JG (p:Pr) (w:World) (aK aM:Option Addr) (aG aH:Nat) (t0:Th) (r0:List Th) (hts:p.ts=t0 ::r0) (hT:p.ts.length < maxLen) (hD:p.ds.length < maxLen) (hp:p.At w aK aM) (dI:dw w):
 Calls Tryz.prog 70 #[.agg #[.slice aK p.ds.length aG,.slice aM p.ts.length aH]] w fun e w'=>e= .returned (.tuple #[.int .i64 (kK p t0.nm p.ts 0 [] []).err,.int .i64 (kK p t0.nm p.ts 0 [] []).line])∧Below w.heap.size w w':=by
 generalize hres:kK p t0.nm p.ts 0 [] []=res
 have HR:=Lib.hid hres
 have HP:=Lib.hid hp
 have gU:=Lib.hid dI
 have qU:=Lib.hid hts
 have HT:=Lib.hid hT
 unfold maxLen at hT
 clear hres hp dI hts
 have hmm:= @run_makeMap Tryz.prog
 go_enter Tryz.func70,Tryz.ntmps70
 go_upto_region 2 with fail
 generalize hW:World.alloc (World.alloc (World.alloc (World.alloc w _) _) _) _=W
 generalize Value.agg #[_,_]=a0
 have HS:=Lib.hid (TB HP.out gU.out hW)
 obtain ⟨L,hL⟩: ∃L,RV w.heap.size gU.out.lt=L:=⟨_,rfl⟩
 have YF:w.heap.size + 1 + 1 + 1=L.bc:=by rw [← hL]; rfl
 have Wq:Hid (w.heap.size=L.B0):=Lib.hid (by rw [← hL]; rfl)
 rw [hL] at HS
 clear hW hL hmm
 have c0:W.cell? ⟨w.heap.size,1,none⟩=some (.slice aM p.ts.length aH):=(fC HS.out.2.2 (j:=1) rfl).2
 rw [YF]
 clear YF
 go_wp2_with fail
 go_loopw [5,6,7,8,17] (fun _ _ _ _ s wr=> ∃(k:Nat) (R:List Th) (f1 g1:List (List UInt8)) (v1:Value) (i1:Int),s= .int .i64 k∧k + R.length=p.ts.length∧p.ts.drop k=R∧res=kK p t0.nm R k f1 g1∧sN (pQ p) f1∧sN (pF p) g1∧Below L.B0 w wr∧jq wr L p aK aM aG aH i1 [] (mem f1) (mem g1) f1.length g1.length v1) (fun _ _ _ _ s _=>p.ts.length - (intOf s).toNat)
 case atStart=>exact ⟨0,p.ts,[],[],_,0,rfl,by simp,rfl,HR.out.symm,⟨List.nodup_nil,by simp⟩,⟨List.nodup_nil,by simp⟩,by rw [← Wq.out]; exact HS.out.2.1,HS.out.1⟩
 case round=>
  obtain ⟨k,R,f1,g1,v1,i1,rfl,hlen,hdr,heq,hf1,hg1,hB,hI⟩:=hrel
  have HE:=Lib.hid heq
  have oN:=Lib.hid hf1
  have uh:=Lib.hid hg1
  have HB:=Lib.hid hB
  have HI:=Lib.hid hI
  have HDR:=Lib.hid hdr
  clear heq hf1 hg1 hB hI hdr c0 HS
  cases R with
  | nil=>
    obtain rfl:k=p.ts.length:=by simpa using hlen
    have HX:Hid (res.err=0∧res.line=0):=Lib.hid (by rw [HE.out]; exact ⟨rfl,rfl⟩)
    go_wp2_with fail
    go_ret2
    exact ⟨uO (by rw [HX.out.1]; rfl) (by rw [HX.out.2]; rfl),by rw [Wq.out]; exact HB.out⟩
  | cons t R=>
    have hrow:=HI.out.dat.2.2.2.1.drop k
    rw [HDR.out,Nat.zero_add] at hrow
    obtain ⟨⟨bl,off,fF,dW,bV,bC,rfl,hbl,x0,x1,x2,x3,hok,htx,hst,-⟩,-⟩:=hrow
    simp only [List.length_cons] at hlen
    have hkl:k < p.ts.length:=by omega
    have pJ:=Lib.hid hok
    have HST:=Lib.hid hst
    clear hok hst htx hbl
    go_upto_region 5 with fail
    obtain ⟨nb,hnb⟩: ∃n,wr.heap.size=n:=⟨_,rfl⟩
    generalize hW2:World.alloc wr _=W2
    have AZ:Hid (W2.heap[nb]? =some (.cells #[.string t.nm,.int .i64 t.line,.slice fF t.cZ.length dW,.slice bV t.body.len bC] 93 (0,0))):=Lib.hid (by rw [← hW2,← hnb]; exact heap_alloc_new _ _)
    have Ae:Hid (Below wr.heap.size wr W2):=Lib.hid (by rw [← hW2]; exact aj _ _)
    have HI2:=Lib.hid (HI.out.below Ae.out)
    have lI:Hid (L.B1≤nb):=Lib.hid (by rw [← hnb]; exact HI.out.sz)
    have HB2:Hid (Below L.B0 w W2):=Lib.hid (HB.out.trans (Ae.out.mono HI.out.b0))
    have VR:=Lib.hid (HST.out.below (Ae.out.mono HI.out.b0))
    rw [hnb]
    clear hW2 hnb x0 x1 x2 x3 HST HB
    have c2:W2.cell? ⟨L.bc,2,none⟩=some (.int .i64 i1):=(fC HI2.out.blk (j:=2) rfl).2
    have f2:W2.frozen? ⟨L.bc,2,none⟩=false:=bH HI2.out.blk
    go_upto_region 6 with fail
    generalize hW3:World.setCell W2 _ _=W3
    have wh:Hid (W2.grownBy W3 (some L.bc)):=Lib.hid (by rw [← hW3]; exact dO _ _ _)
    have HI3:Hid (jq W3 L p aK _ aG aH (k:Int) [] (mem f1) (mem g1) f1.length g1.length v1):=Lib.hid (by rw [← hW3]; exact HI2.out.ZO)
    have EH:Hid (W3.heap[nb]? =some (.cells #[.string t.nm,.int .i64 t.line,.slice fF t.cZ.length dW,.slice bV t.body.len bC] 93 (0,0))):=Lib.hid ((wh.out.block _ (Array.getElem?_eq_some_iff.1 AZ.out).1 (by have:=L.c1; have:=lI.out; simp; omega)).trans AZ.out)
    have kV:=Lib.hid (dB wh.out L.c0 HI2.out.b0)
    have HB3:=Lib.hid (HB2.out.trans kV.out)
    have aa8:=Lib.hid (VR.out.below kV.out)
    clear hW3 c2 f2 HI2 AZ Ae HB2 VR kV HI
    have y3:W3.cell? ⟨nb,3,none⟩=some (.slice bV t.body.len bC):=(fC EH.out (j:=3) rfl).2
    have qW:Hid (res=if (gL p k t.nm t0.nm t.body (fP []) f1 g1).err != 0 then gL p k t.nm t0.nm t.body (fP []) f1 g1 else kK p t0.nm R (k + 1) (gL p k t.nm t0.nm t.body (fP []) f1 g1).f (gL p k t.nm t0.nm t.body (fP []) f1 g1).g):=Lib.hid HE.out
    clear HE
    go_wp2_with fail
    refine (M7 L p _ _ aG aH k t t0 R r0 HDR.out qU.out (by unfold dR; omega) HT.out hD t.body W3 bV bC [] f1 g1 v1 pJ.out.2.2.2 aa8.out (by simp) oN.out uh.out HI3.out).mono ?_
    rintro e' w4 ⟨rfl,hK4,hq4⟩
    generalize gL p k t.nm t0.nm t.body (fP []) f1 g1=r1 at *
    have eX:=Lib.hid (HB3.out.trans (hK4.below HI3.out.b0 (fun q hq=>(HI3.out.row.lt q hq).1)))
    have Wp:=Lib.hid hq4
    clear hK4 hq4
    cases hr1:(r1.err != 0)
    ·have I5:Hid (res=kK p t0.nm R (k + 1) r1.f r1.g):=Lib.hid (qW.out.trans (if_neg (by rw [hr1]; decide)))
     obtain ⟨FM,FE,v7,-,Gc⟩:=Wp.out (by simpa using hr1)
     have wH:=Lib.hid (And.intro FM (And.intro FE Gc))
     have HD7:Hid (p.ts.drop (k + 1)=R):=Lib.hid (by rw [← List.drop_drop,HDR.out]; rfl)
     clear FM FE Gc Wp qW
     go_wp2_with fail
     go_roundw
     case rel=>exact ⟨k + 1,R,r1.f,r1.g,v7,_,by go_num,by omega,HD7.out,I5.out,wH.out.1,wH.out.2.1,eX.out,wH.out.2.2⟩
     case measure=>simp [intOf]; omega
    ·have yH:Hid (res=r1):=Lib.hid (qW.out.trans (if_pos hr1))
     clear qW Wp
     go_wp2_with fail
     go_ret2
     exact ⟨uO (by rw [yH.out]; rfl) (by rw [yH.out]; rfl),by rw [Wq.out]; exact eX.out⟩
end Go.Proofs.YtdajkddgnfgijaaGreatDoor
end
