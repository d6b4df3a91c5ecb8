/-
  Contract of the checker's statement at join and get.
-/
import Derived.Test.YtnknfoibmgphnaaDoorGMG
set_option linter.unusedSimpArgs false
set_option linter.unusedVariables false
namespace Go.Proofs.YtnknfoibmgphnaaDoor
open Go.RowKit
open Md
section
variable (p:Pr) (w:World) (aC aF:Option Addr) (aA av:Nat) (aJ:Option Addr) (aI bs bt bc:Nat)
set_option maxHeartbeats 4000000 in
set_option maxRecDepth 100000 in
theorem Jq (i:Int) (h:eH) (b e ar:aR) (s:Sl) (hi:aX i) (hp:p.At w aC aF) (hin:jE w h b e s) (dL:dZ w) (har:ar.len≤maxLen) (hat:ar.At w w.heap.size aJ 0) (hh:Holds w (iU bc p aC aF aA av i aJ ar.len aI bs bt)) (hop:h.op=15):
 Calls Tryd.prog 43 #[.pointer (some ⟨bc,0,none⟩),aY h b e s] w fun e' w'=>e'= .returned (.int .i64 (dR [bC (mean p i h.nm) [1],bC (mean p i h.arg) [7],nest (dB ar [7])]))∧Below w.heap.size w w':=by
 have HH:=Lib.hid (show Sit w w _ from ⟨Below.refl _ _,hh⟩)
 obtain ⟨fU,eG,dW,cB,bg,aT,eY,dP⟩:=s
 have hxk:=hin.1.2.2.2.2.2.1
 have hns:=hin.1.2.2.1
 generalize hres:dR [bC (mean p i h.nm) [1],bC (mean p i h.arg) [7],nest (dB ar [7])]=res
 have HR:=Lib.hid hres
 have iG:=Lib.hid hop
 have jS:=Lib.hid hin
 clear hres hop
 unfold aY
 dsimp only
 go_enter Tryd.func43,Tryd.ntmps43
 go_upto_region 1 with fail
 generalize hW:World.alloc w _=W
 generalize Value.agg #[_,_,_,_,_,_,_,_,_,_,_]=a0
 have HX:Hid (Sit w W (iT w.heap.size h b e ⟨fU,eG,dW,cB,bg,aT,eY,dP⟩ (iU bc p aC aF aA av i aJ ar.len aI bs bt))):=Lib.hid (by rw [← hW]; exact HH.out.gZ rfl _ _ _ _ _ _ _ _ _ _ _ _)
 clear hW HH
 have HP:=Lib.hid (hp.same HX.out.1)
 have iW:=Lib.hid (dL.same HX.out.1)
 have rG:=Lib.hid (hin.2.2.1.same HX.out.1)
 have dG:=Lib.hid (hat.same HX.out.1)
 have dw:=Lib.hid har
 have HK:Hid (∀w',Below W.heap.size W w'→Holds w' (iU bc p aC aF aA av i aJ ar.len aI bs bt)):=Lib.hid (fun w' hb=>(HX.out.next hb).2.2.2.2.2.2.2.2.2.2.2.2)
 clear hp dL hh hin hat har
 have L0: ∀w',Below W.heap.size W w'→w'.cell? ⟨w.heap.size,0,none⟩=some (.int .i64 h.op):=fun w' hb=>(HX.out.next hb).2.1.2
 have L2: ∀w',Below W.heap.size W w'→w'.cell? ⟨w.heap.size,2,none⟩=some (.string h.nm):=fun w' hb=>(HX.out.next hb).2.2.2.1.2
 have L3: ∀w',Below W.heap.size W w'→w'.cell? ⟨w.heap.size,3,none⟩=some (.string h.arg):=fun w' hb=>(HX.out.next hb).2.2.2.2.1.2
 have L5: ∀w',Below W.heap.size W w'→w'.cell? ⟨w.heap.size,5,none⟩=some (.int .i64 h.dU):=fun w' hb=>(HX.out.next hb).2.2.2.2.2.2.1.2
 have L6: ∀w',Below W.heap.size W w'→w'.cell? ⟨w.heap.size,6,none⟩=some (.int .i64 h.xn):=fun w' hb=>(HX.out.next hb).2.2.2.2.2.2.2.1.2
 have L7: ∀w',Below W.heap.size W w'→w'.cell? ⟨w.heap.size,7,none⟩=some (.string h.dV):=fun w' hb=>(HX.out.next hb).2.2.2.2.2.2.2.2.1.2
 have L8: ∀w',Below W.heap.size W w'→w'.cell? ⟨w.heap.size,8,none⟩=some (.slice dW h.bq.len cB):=fun w' hb=>(HX.out.next hb).2.2.2.2.2.2.2.2.2.1.2
 have hB0:Below W.heap.size W W:=Below.refl _ _
 have l0:=L0 W hB0
 have hop:=iG.out
 have g1:(h.op == 1)=false:=by rw [hop]; rfl
 have g2:(h.op == 2)=false:=by rw [hop]; rfl
 have g3:(h.op == 3)=false:=by rw [hop]; rfl
 have g4:(h.op == 4)=false:=by rw [hop]; rfl
 have g5:(h.op == 5)=false:=by rw [hop]; rfl
 have g6:(h.op == 6)=false:=by rw [hop]; rfl
 have g7:(h.op == 7)=false:=by rw [hop]; rfl
 have g8:(h.op == 8)=false:=by rw [hop]; rfl
 have g9:(h.op == 9)=false:=by rw [hop]; rfl
 have g10:(h.op == 10)=false:=by rw [hop]; rfl
 have g11:(h.op == 11)=false:=by rw [hop]; rfl
 have g12:(h.op == 12)=false:=by rw [hop]; rfl
 have g13:(h.op == 13)=false:=by rw [hop]; rfl
 have g14:(h.op == 14)=false:=by rw [hop]; rfl
 have g15:(h.op == 15)=true:=by rw [hop]; rfl
 clear hop
 go_upto_region 27 with fail
 refine mY (fun w'=>Below W.heap.size W w') (fun w w'=>Below w.heap.size w w') [193,194,195,196,197,198,199,200,201,202,203,204,205,206,207,208,4] (by kernel_rfl) (by kernel_rfl) (fun _=>Below.refl _ _) (by rfl) (below_drewN (Below.refl _ _) 1) ?_
 apply aP.step
 case aB=>
  intro β A w' hβ hC hO hD
  have e0:=hO 0 (by rfl)
  have e3:=hO 3 (by rfl)
  simp [Act.eval] at e0 e3
  simp [au,ah,aj,Act.eval,Region.binds] at hD
  simp [go_sem,gd,Oper.wp,e0,e3,hD]
  exact ak.mk (Below.refl _ _) hC (ah.mk _ _)
 apply aP.step
 case aB=>
  intro β A w' hβ hC hO hD
  have e0:=hO 0 (by rfl)
  have e3:=hO 3 (by rfl)
  simp [Act.eval] at e0 e3
  simp [au,ah,aj,Act.eval,Region.binds] at hD
  simp [go_sem,gd,Oper.wp,e0,e3,hD]
  exact ak.mk (Below.refl _ _) hC (ah.mk _ _)
 apply aP.step
 case aB=>
  intro β A w' hβ hC hO hD
  have e0:=hO 0 (by rfl)
  have e3:=hO 3 (by rfl)
  simp [Act.eval] at e0 e3
  simp [au,ah,aj,Act.eval,Region.binds] at hD
  simp [go_sem,gd,Oper.wp,e0,e3,hD,L2,hC]
  exact ak.mk (Below.refl _ _) hC (ah.mk _ _)
 refine aP.some (fun v w'=> ∃b,v= .slice (some ⟨b,0,none⟩) 1 1∧eD w' w'.heap.size [1] (some ⟨b,0,none⟩) 0) ?_ ?_ ?_
 ·rintro v w w' hle ⟨b,rfl,hin⟩
  exact ⟨b,rfl,hin.same hle⟩
 ·intro β A w' hβ hC hO hD
  simp [go_sem,gd,Oper.wp]
  exact ak.mk (d:=_) (v:= .slice (some ⟨_,0,none⟩) 1 1) (ay _ _) (hC.trans ((ay _ _).mono hC.size)) ⟨_,rfl,fH _ 1 _⟩
 apply aP.step
 case aB=>
  intro β A w' hβ hC hO hD
  simp [au,ah,aj,Act.eval,Region.binds] at hD
  obtain ⟨Tg,Sj,Va,Tq,Oa⟩:=hD
  simp [go_sem,gd,Oper.wp,Tg,Sj,Tq]
  refine (iC p w' aC aF aA av _ aJ _ aI bs bt bc h.nm [1] _ 1 hi (by decide) (HP.out.same hC) Oa (HK.out _ hC)).mono ?_
  rintro e' w2 ⟨rfl,hb⟩
  exact ak.mk hb (hC.trans (hb.mono hC.size)) (ah.mk _ _)
 apply aP.step
 case aB=>
  intro β A w' hβ hC hO hD
  have e0:=hO 0 (by rfl)
  have e3:=hO 3 (by rfl)
  simp [Act.eval] at e0 e3
  simp [au,ah,aj,Act.eval,Region.binds] at hD
  simp [go_sem,gd,Oper.wp,e0,e3,hD]
  exact ak.mk (Below.refl _ _) hC (ah.mk _ _)
 apply aP.step
 case aB=>
  intro β A w' hβ hC hO hD
  have e0:=hO 0 (by rfl)
  have e3:=hO 3 (by rfl)
  simp [Act.eval] at e0 e3
  simp [au,ah,aj,Act.eval,Region.binds] at hD
  simp [go_sem,gd,Oper.wp,e0,e3,hD]
  exact ak.mk (Below.refl _ _) hC (ah.mk _ _)
 apply aP.step
 case aB=>
  intro β A w' hβ hC hO hD
  have e0:=hO 0 (by rfl)
  have e3:=hO 3 (by rfl)
  simp [Act.eval] at e0 e3
  simp [au,ah,aj,Act.eval,Region.binds] at hD
  simp [go_sem,gd,Oper.wp,e0,e3,hD,L3,hC]
  exact ak.mk (Below.refl _ _) hC (ah.mk _ _)
 refine aP.some (fun v w'=> ∃b,v= .slice (some ⟨b,0,none⟩) 1 1∧eD w' w'.heap.size [7] (some ⟨b,0,none⟩) 0) ?_ ?_ ?_
 ·rintro v w w' hle ⟨b,rfl,hin⟩
  exact ⟨b,rfl,hin.same hle⟩
 ·intro β A w' hβ hC hO hD
  simp [go_sem,gd,Oper.wp]
  exact ak.mk (d:=_) (v:= .slice (some ⟨_,0,none⟩) 1 1) (ay _ _) (hC.trans ((ay _ _).mono hC.size)) ⟨_,rfl,fH _ 7 _⟩
 apply aP.step
 case aB=>
  intro β A w' hβ hC hO hD
  simp [au,ah,aj,Act.eval,Region.binds] at hD
  obtain ⟨T9,RF,⟨UZ,TA,Ny⟩,-⟩:=hD
  simp [go_sem,gd,Oper.wp,T9,RF,TA]
  refine (iC p w' aC aF aA av _ aJ _ aI bs bt bc h.arg [7] _ 1 hi (by decide) (HP.out.same hC) Ny (HK.out _ hC)).mono ?_
  rintro e' w2 ⟨rfl,hb⟩
  exact ak.mk hb (hC.trans (hb.mono hC.size)) (ah.mk _ _)
 apply aP.step
 case aB=>
  intro β A w' hβ hC hO hD
  have e0:=hO 0 (by rfl)
  have e3:=hO 3 (by rfl)
  simp [Act.eval] at e0 e3
  simp [au,ah,aj,Act.eval,Region.binds] at hD
  simp [go_sem,gd,Oper.wp,e0,e3,hD]
  exact ak.mk (Below.refl _ _) hC (ah.mk _ _)
 refine aP.some (fun v w'=> ∃b,v= .slice (some ⟨b,0,none⟩) 1 1∧eD w' w'.heap.size [7] (some ⟨b,0,none⟩) 0) ?_ ?_ ?_
 ·rintro v w w' hle ⟨b,rfl,hin⟩
  exact ⟨b,rfl,hin.same hle⟩
 ·intro β A w' hβ hC hO hD
  simp [go_sem,gd,Oper.wp]
  exact ak.mk (d:=_) (v:= .slice (some ⟨_,0,none⟩) 1 1) (ay _ _) (hC.trans ((ay _ _).mono hC.size)) ⟨_,rfl,fH _ 7 _⟩
 apply aP.step
 case aB=>
  intro β A w' hβ hC hO hD
  simp [au,ah,aj,Act.eval,Region.binds] at hD
  obtain ⟨SB,⟨V4,RV,OA⟩,-⟩:=hD
  simp [go_sem,gd,Oper.wp,SB,RV]
  refine (gI p w' aC aF aA av _ aJ aI bs bt bc ar [7] _ 1 (by decide) OA dw.out (dG.out.same hC) (HK.out _ hC)).mono ?_
  rintro e' w2 ⟨rfl,hb⟩
  exact ak.mk hb (hC.trans (hb.mono hC.size)) (ah.mk _ _)
 apply aP.step
 case aB=>
  intro β A w' hβ hC hO hD
  simp [au,ah,aj,Act.eval,Region.binds] at hD
  simp [go_sem,gd,Oper.wp,hD]
  refine (dK (dB ar [7]) w').mono ?_
  rintro e' w2 ⟨rfl,rfl⟩
  exact ak.mk (Below.refl _ _) hC (ah.mk _ _)
 refine aP.some (fun v w'=> ∃b,v= .slice (some ⟨b,0,none⟩) 3 3∧eD w' w'.heap.size [bC (mean p i h.nm) [1],bC (mean p i h.arg) [7],nest (dB ar [7])] (some ⟨b,0,none⟩) 0) ?_ ?_ ?_
 ·rintro v w w' hle ⟨b,rfl,hin⟩
  exact ⟨b,rfl,hin.same hle⟩
 ·intro β A w' hβ hC hO hD
  simp [au,ah,aj,Act.eval,Region.binds] at hD
  simp [go_sem,gd,Oper.wp,hD]
  exact ak.mk (d:=_) (v:= .slice (some ⟨_,0,none⟩) 3 3) (ay _ _) (hC.trans ((ay _ _).mono hC.size)) ⟨_,rfl,mH _ _ _ _ _⟩
 apply aP.step
 case aB=>
  intro β A w' hβ hC hO hD
  simp [au,ah,aj,Act.eval,Region.binds] at hD
  obtain ⟨⟨UQ,SY,O4⟩,-⟩:=hD
  simp [go_sem,gd,Oper.wp,SY]
  refine (dJ [bC (mean p i h.nm) [1],bC (mean p i h.arg) [7],nest (dB ar [7])] w' _ _ (by simp [maxLen]) O4).mono ?_
  rintro e' w2 ⟨rfl,rfl⟩
  exact ak.mk (Below.refl _ _) hC (ah.mk _ _)
 apply aP.step
 case aB=>
  intro β A w' hβ hC hO hD
  have e0:=hO 0 (by rfl)
  have e3:=hO 3 (by rfl)
  simp [Act.eval] at e0 e3
  simp [au,ah,aj,Act.eval,Region.binds] at hD
  simp [go_sem,gd,Oper.wp,e0,e3,hD]
  exact ak.mk (Below.refl _ _) hC (ah.mk _ _)
 intro wz bK
 intro v0 h0 v1 h1 v2 h2 v3 h3 v4 h4 v5 h5 v6 h6 v7 h7 v8 h8 v9 h9 v10 h10 v11 h11 v12 h12 v13 mP v14 lG v15 oJ v16 h16
 have hl':v16=_:=h16
 subst hl'
 clear h0 h1 h2 h3 h4 h5 h6 h7 h8 h9 h10 h11 h12 mP lG oJ h16
 refine bM.nil ?_
 go_wp2_with fail
 go_ret
 exact ⟨aS (by first | exact HR.out | exact HR.out.symm | (rw [← HR.out]; first | rfl | simp_all)),(HX.out.next bK).1⟩
set_option maxHeartbeats 4000000 in
set_option maxRecDepth 100000 in
theorem JN (j:Nat) (t:Th) (r:List Th) (hd:p.ts.drop j=t ::r) (h:eH) (b e ar:aR) (s:Sl) (hi:aX (j:Int)) (hp:p.At w aC aF) (hin:jE w h b e s) (dL:dZ w) (har:ar.len≤maxLen) (hat:ar.At w w.heap.size aJ 0) (hh:Holds w (iU bc p aC aF aA av (j:Int) aJ ar.len aI bs bt)) (hop:h.op=13):
 Calls Tryd.prog 43 #[.pointer (some ⟨bc,0,none⟩),aY h b e s] w fun e' w'=>e'= .returned (.int .i64 (dR [bC (mean p (j:Int) h.nm) [8],nest (dB ar [7,8] || h.nm.toList == t.nm.toList)]))∧Below w.heap.size w w':=by
 have HH:=Lib.hid (show Sit w w _ from ⟨Below.refl _ _,hh⟩)
 obtain ⟨fU,eG,dW,cB,bg,aT,eY,dP⟩:=s
 have hxk:=hin.1.2.2.2.2.2.1
 have hns:=hin.1.2.2.1
 generalize hres:dR [bC (mean p (j:Int) h.nm) [8],nest (dB ar [7,8] || h.nm.toList == t.nm.toList)]=res
 have HR:=Lib.hid hres
 have iG:=Lib.hid hop
 have jS:=Lib.hid hin
 clear hres hop
 unfold aY
 dsimp only
 go_enter Tryd.func43,Tryd.ntmps43
 go_upto_region 1 with fail
 generalize hW:World.alloc w _=W
 generalize Value.agg #[_,_,_,_,_,_,_,_,_,_,_]=a0
 have HX:Hid (Sit w W (iT w.heap.size h b e ⟨fU,eG,dW,cB,bg,aT,eY,dP⟩ (iU bc p aC aF aA av (j:Int) aJ ar.len aI bs bt))):=Lib.hid (by rw [← hW]; exact HH.out.gZ rfl _ _ _ _ _ _ _ _ _ _ _ _)
 clear hW HH
 have HP:=Lib.hid (hp.same HX.out.1)
 have iW:=Lib.hid (dL.same HX.out.1)
 have rG:=Lib.hid (hin.2.2.1.same HX.out.1)
 have dG:=Lib.hid (hat.same HX.out.1)
 have dw:=Lib.hid har
 have HK:Hid (∀w',Below W.heap.size W w'→Holds w' (iU bc p aC aF aA av (j:Int) aJ ar.len aI bs bt)):=Lib.hid (fun w' hb=>(HX.out.next hb).2.2.2.2.2.2.2.2.2.2.2.2)
 clear hp dL hh hin hat har
 have L0: ∀w',Below W.heap.size W w'→w'.cell? ⟨w.heap.size,0,none⟩=some (.int .i64 h.op):=fun w' hb=>(HX.out.next hb).2.1.2
 have L2: ∀w',Below W.heap.size W w'→w'.cell? ⟨w.heap.size,2,none⟩=some (.string h.nm):=fun w' hb=>(HX.out.next hb).2.2.2.1.2
 have L3: ∀w',Below W.heap.size W w'→w'.cell? ⟨w.heap.size,3,none⟩=some (.string h.arg):=fun w' hb=>(HX.out.next hb).2.2.2.2.1.2
 have L5: ∀w',Below W.heap.size W w'→w'.cell? ⟨w.heap.size,5,none⟩=some (.int .i64 h.dU):=fun w' hb=>(HX.out.next hb).2.2.2.2.2.2.1.2
 have L6: ∀w',Below W.heap.size W w'→w'.cell? ⟨w.heap.size,6,none⟩=some (.int .i64 h.xn):=fun w' hb=>(HX.out.next hb).2.2.2.2.2.2.2.1.2
 have L7: ∀w',Below W.heap.size W w'→w'.cell? ⟨w.heap.size,7,none⟩=some (.string h.dV):=fun w' hb=>(HX.out.next hb).2.2.2.2.2.2.2.2.1.2
 have L8: ∀w',Below W.heap.size W w'→w'.cell? ⟨w.heap.size,8,none⟩=some (.slice dW h.bq.len cB):=fun w' hb=>(HX.out.next hb).2.2.2.2.2.2.2.2.2.1.2
 have hB0:Below W.heap.size W W:=Below.refl _ _
 have l0:=L0 W hB0
 have hop:=iG.out
 have g1:(h.op == 1)=false:=by rw [hop]; rfl
 have g2:(h.op == 2)=false:=by rw [hop]; rfl
 have g3:(h.op == 3)=false:=by rw [hop]; rfl
 have g4:(h.op == 4)=false:=by rw [hop]; rfl
 have g5:(h.op == 5)=false:=by rw [hop]; rfl
 have g6:(h.op == 6)=false:=by rw [hop]; rfl
 have g7:(h.op == 7)=false:=by rw [hop]; rfl
 have g8:(h.op == 8)=false:=by rw [hop]; rfl
 have g9:(h.op == 9)=false:=by rw [hop]; rfl
 have g10:(h.op == 10)=false:=by rw [hop]; rfl
 have g11:(h.op == 11)=false:=by rw [hop]; rfl
 have g12:(h.op == 12)=false:=by rw [hop]; rfl
 have g13:(h.op == 13)=true:=by rw [hop]; rfl
 have g14:(h.op == 14)=false:=by rw [hop]; rfl
 have g15:(h.op == 15)=false:=by rw [hop]; rfl
 clear hop
 go_upto_region 23 with fail
 cases hq:dB ar [7,8]
 ·refine mY (fun w'=>Below W.heap.size W w') (fun w w'=>Below w.heap.size w w') [149,150,151,152,153,154,155,156,157,158,159,160,161,162,163,164,165,166,4] (by kernel_rfl) (by kernel_rfl) (fun _=>Below.refl _ _) (by rfl) (below_drewN (Below.refl _ _) 1) ?_
  apply aP.step
  case aB=>
   intro β A w' hβ hC hO hD
   have e0:=hO 0 (by rfl)
   have e3:=hO 3 (by rfl)
   simp [Act.eval] at e0 e3
   simp [au,ah,aj,Act.eval,Region.binds] at hD
   simp [go_sem,gd,Oper.wp,e0,e3,hD]
   exact ak.mk (Below.refl _ _) hC (ah.mk _ _)
  apply aP.step
  case aB=>
   intro β A w' hβ hC hO hD
   have e0:=hO 0 (by rfl)
   have e3:=hO 3 (by rfl)
   simp [Act.eval] at e0 e3
   simp [au,ah,aj,Act.eval,Region.binds] at hD
   simp [go_sem,gd,Oper.wp,e0,e3,hD]
   exact ak.mk (Below.refl _ _) hC (ah.mk _ _)
  apply aP.step
  case aB=>
   intro β A w' hβ hC hO hD
   have e0:=hO 0 (by rfl)
   have e3:=hO 3 (by rfl)
   simp [Act.eval] at e0 e3
   simp [au,ah,aj,Act.eval,Region.binds] at hD
   simp [go_sem,gd,Oper.wp,e0,e3,hD,L2,hC]
   exact ak.mk (Below.refl _ _) hC (ah.mk _ _)
  refine aP.some (fun v w'=> ∃b,v= .slice (some ⟨b,0,none⟩) 1 1∧eD w' w'.heap.size [8] (some ⟨b,0,none⟩) 0) ?_ ?_ ?_
  ·rintro v w w' hle ⟨b,rfl,hin⟩
   exact ⟨b,rfl,hin.same hle⟩
  ·intro β A w' hβ hC hO hD
   simp [go_sem,gd,Oper.wp]
   exact ak.mk (d:=_) (v:= .slice (some ⟨_,0,none⟩) 1 1) (ay _ _) (hC.trans ((ay _ _).mono hC.size)) ⟨_,rfl,fH _ 8 _⟩
  apply aP.step
  case aB=>
   intro β A w' hβ hC hO hD
   simp [au,ah,aj,Act.eval,Region.binds] at hD
   obtain ⟨JY,KC,Sb,Jh,Dt⟩:=hD
   simp [go_sem,gd,Oper.wp,JY,KC,Jh]
   refine (iC p w' aC aF aA av _ aJ _ aI bs bt bc h.nm [8] _ 1 hi (by decide) (HP.out.same hC) Dt (HK.out _ hC)).mono ?_
   rintro e' w2 ⟨rfl,hb⟩
   exact ak.mk hb (hC.trans (hb.mono hC.size)) (ah.mk _ _)
  apply aP.step
  case aB=>
   intro β A w' hβ hC hO hD
   have e0:=hO 0 (by rfl)
   have e3:=hO 3 (by rfl)
   simp [Act.eval] at e0 e3
   simp [au,ah,aj,Act.eval,Region.binds] at hD
   simp [go_sem,gd,Oper.wp,e0,e3,hD]
   exact ak.mk (Below.refl _ _) hC (ah.mk _ _)
  refine aP.some (fun v w'=> ∃b,v= .slice (some ⟨b,0,none⟩) 2 2∧eD w' w'.heap.size [7,8] (some ⟨b,0,none⟩) 0) ?_ ?_ ?_
  ·rintro v w w' hle ⟨b,rfl,hin⟩
   exact ⟨b,rfl,hin.same hle⟩
  ·intro β A w' hβ hC hO hD
   simp [go_sem,gd,Oper.wp]
   exact ak.mk (d:=_) (v:= .slice (some ⟨_,0,none⟩) 2 2) (ay _ _) (hC.trans ((ay _ _).mono hC.size)) ⟨_,rfl,eU _ 7 8 _⟩
  apply aP.step
  case aB=>
   intro β A w' hβ hC hO hD
   simp [au,ah,aj,Act.eval,Region.binds] at hD
   obtain ⟨JK,⟨RX,Ju,Ey⟩,-⟩:=hD
   simp [go_sem,gd,Oper.wp,JK,Ju]
   refine (hq ▸ gI p w' aC aF aA av (j:Int) aJ aI bs bt bc ar [7,8] _ 2 (by decide) Ey dw.out (dG.out.same hC) (HK.out _ hC)).mono ?_
   rintro e' w2 ⟨rfl,hb⟩
   exact ak.mk hb (hC.trans (hb.mono hC.size)) (ah.mk _ _)
  apply aP.step
  case aB=>
   intro β A w' hβ hC hO hD
   have e0:=hO 0 (by rfl)
   have e3:=hO 3 (by rfl)
   simp [Act.eval] at e0 e3
   simp [au,ah,aj,Act.eval,Region.binds] at hD
   simp [go_sem,gd,Oper.wp,e0,e3,hD]
   exact ak.mk (Below.refl _ _) hC (ah.mk _ _)
  apply aP.step
  case aB=>
   intro β A w' hβ hC hO hD
   have e0:=hO 0 (by rfl)
   have e3:=hO 3 (by rfl)
   simp [Act.eval] at e0 e3
   simp [au,ah,aj,Act.eval,Region.binds] at hD
   simp [go_sem,gd,Oper.wp,e0,e3,hD]
   exact ak.mk (Below.refl _ _) hC (ah.mk _ _)
  apply aP.step
  case aB=>
   intro β A w' hβ hC hO hD
   have e0:=hO 0 (by rfl)
   have e3:=hO 3 (by rfl)
   simp [Act.eval] at e0 e3
   simp [au,ah,aj,Act.eval,Region.binds] at hD
   simp [go_sem,gd,Oper.wp,e0,e3,hD,L2,hC]
   exact ak.mk (Below.refl _ _) hC (ah.mk _ _)
  apply aP.step
  case aB=>
   intro β A w' hβ hC hO hD
   have e0:=hO 0 (by rfl)
   have e3:=hO 3 (by rfl)
   simp [Act.eval] at e0 e3
   simp [au,ah,aj,Act.eval,Region.binds] at hD
   simp [go_sem,gd,Oper.wp,e0,e3,hD]
   exact ak.mk (Below.refl _ _) hC (ah.mk _ _)
  apply aP.step
  case aB=>
   intro β A w' hβ hC hO hD
   simp [au,ah,aj,Act.eval,Region.binds] at hD
   simp [go_sem,gd,Oper.wp,hD]
   refine (yw p w' aC aF aA av aJ ar.len aI bs bt bc j t r hd (HP.out.same hC) (HK.out _ hC)).mono ?_
   rintro e' w2 ⟨rfl,hb⟩
   exact ak.mk hb (hC.trans (hb.mono hC.size)) (ah.mk _ _)
  apply aP.step
  case aB=>
   intro β A w' hβ hC hO hD
   have e0:=hO 0 (by rfl)
   have e3:=hO 3 (by rfl)
   simp [Act.eval] at e0 e3
   simp [au,ah,aj,Act.eval,Region.binds] at hD
   simp [go_sem,gd,Oper.wp,e0,e3,hD]
   exact ak.mk (Below.refl _ _) hC (ah.mk _ _)
  apply aP.step
  case aB=>
   intro β A w' hβ hC hO hD
   have e0:=hO 0 (by rfl)
   have e3:=hO 3 (by rfl)
   simp [Act.eval] at e0 e3
   simp [au,ah,aj,Act.eval,Region.binds] at hD
   simp [go_sem,gd,Oper.wp,e0,e3,hD]
   exact ak.mk (Below.refl _ _) hC (ah.mk _ _)
  apply aP.step
  case aB=>
   intro β A w' hβ hC hO hD
   simp [au,ah,aj,Act.eval,Region.binds] at hD
   simp [go_sem,gd,Oper.wp,hD]
   refine (dK (h.nm.toList == t.nm.toList) w').mono ?_
   rintro e' w2 ⟨rfl,rfl⟩
   exact ak.mk (Below.refl _ _) hC (ah.mk _ _)
  refine aP.some (fun v w'=> ∃b,v= .slice (some ⟨b,0,none⟩) 2 2∧eD w' w'.heap.size [bC (mean p (j:Int) h.nm) [8],nest (h.nm.toList == t.nm.toList)] (some ⟨b,0,none⟩) 0) ?_ ?_ ?_
  ·rintro v w w' hle ⟨b,rfl,hin⟩
   exact ⟨b,rfl,hin.same hle⟩
  ·intro β A w' hβ hC hO hD
   simp [au,ah,aj,Act.eval,Region.binds] at hD
   simp [go_sem,gd,Oper.wp,hD]
   exact ak.mk (d:=_) (v:= .slice (some ⟨_,0,none⟩) 2 2) (ay _ _) (hC.trans ((ay _ _).mono hC.size)) ⟨_,rfl,eU _ _ _ _⟩
  apply aP.step
  case aB=>
   intro β A w' hβ hC hO hD
   simp [au,ah,aj,Act.eval,Region.binds] at hD
   obtain ⟨⟨RI,Kt,Eb⟩,-⟩:=hD
   simp [go_sem,gd,Oper.wp,Kt]
   refine (dJ [bC (mean p (j:Int) h.nm) [8],nest (h.nm.toList == t.nm.toList)] w' _ _ (by simp [maxLen]) Eb).mono ?_
   rintro e' w2 ⟨rfl,rfl⟩
   exact ak.mk (Below.refl _ _) hC (ah.mk _ _)
  apply aP.step
  case aB=>
   intro β A w' hβ hC hO hD
   have e0:=hO 0 (by rfl)
   have e3:=hO 3 (by rfl)
   simp [Act.eval] at e0 e3
   simp [au,ah,aj,Act.eval,Region.binds] at hD
   simp [go_sem,gd,Oper.wp,e0,e3,hD]
   exact ak.mk (Below.refl _ _) hC (ah.mk _ _)
  intro wz bK
  intro v0 h0 v1 h1 v2 h2 v3 h3 v4 h4 v5 h5 v6 h6 v7 h7 v8 h8 v9 h9 v10 h10 v11 h11 v12 h12 v13 mP v14 lG v15 oJ v16 h16 v17 sj v18 h18
  have hl':v18=_:=h18
  subst hl'
  clear h0 h1 h2 h3 h4 h5 h6 h7 h8 h9 h10 h11 h12 mP lG oJ h16 sj h18
  refine bM.nil ?_
  go_wp2_with fail
  go_ret
  exact ⟨aS (by first | exact HR.out | exact HR.out.symm | (rw [← HR.out]; first | rfl | simp_all)),(HX.out.next bK).1⟩
 ·refine mY (fun w'=>Below W.heap.size W w') (fun w w'=>Below w.heap.size w w') [149,150,151,152,153,154,155,156,157,158,159,160,161,162,163,164,165,166,4] (by kernel_rfl) (by kernel_rfl) (fun _=>Below.refl _ _) (by rfl) (below_drewN (Below.refl _ _) 1) ?_
  apply aP.step
  case aB=>
   intro β A w' hβ hC hO hD
   have e0:=hO 0 (by rfl)
   have e3:=hO 3 (by rfl)
   simp [Act.eval] at e0 e3
   simp [au,ah,aj,Act.eval,Region.binds] at hD
   simp [go_sem,gd,Oper.wp,e0,e3,hD]
   exact ak.mk (Below.refl _ _) hC (ah.mk _ _)
  apply aP.step
  case aB=>
   intro β A w' hβ hC hO hD
   have e0:=hO 0 (by rfl)
   have e3:=hO 3 (by rfl)
   simp [Act.eval] at e0 e3
   simp [au,ah,aj,Act.eval,Region.binds] at hD
   simp [go_sem,gd,Oper.wp,e0,e3,hD]
   exact ak.mk (Below.refl _ _) hC (ah.mk _ _)
  apply aP.step
  case aB=>
   intro β A w' hβ hC hO hD
   have e0:=hO 0 (by rfl)
   have e3:=hO 3 (by rfl)
   simp [Act.eval] at e0 e3
   simp [au,ah,aj,Act.eval,Region.binds] at hD
   simp [go_sem,gd,Oper.wp,e0,e3,hD,L2,hC]
   exact ak.mk (Below.refl _ _) hC (ah.mk _ _)
  refine aP.some (fun v w'=> ∃b,v= .slice (some ⟨b,0,none⟩) 1 1∧eD w' w'.heap.size [8] (some ⟨b,0,none⟩) 0) ?_ ?_ ?_
  ·rintro v w w' hle ⟨b,rfl,hin⟩
   exact ⟨b,rfl,hin.same hle⟩
  ·intro β A w' hβ hC hO hD
   simp [go_sem,gd,Oper.wp]
   exact ak.mk (d:=_) (v:= .slice (some ⟨_,0,none⟩) 1 1) (ay _ _) (hC.trans ((ay _ _).mono hC.size)) ⟨_,rfl,fH _ 8 _⟩
  apply aP.step
  case aB=>
   intro β A w' hβ hC hO hD
   simp [au,ah,aj,Act.eval,Region.binds] at hD
   obtain ⟨JY,KC,Sb,Jh,Dt⟩:=hD
   simp [go_sem,gd,Oper.wp,JY,KC,Jh]
   refine (iC p w' aC aF aA av _ aJ _ aI bs bt bc h.nm [8] _ 1 hi (by decide) (HP.out.same hC) Dt (HK.out _ hC)).mono ?_
   rintro e' w2 ⟨rfl,hb⟩
   exact ak.mk hb (hC.trans (hb.mono hC.size)) (ah.mk _ _)
  apply aP.step
  case aB=>
   intro β A w' hβ hC hO hD
   have e0:=hO 0 (by rfl)
   have e3:=hO 3 (by rfl)
   simp [Act.eval] at e0 e3
   simp [au,ah,aj,Act.eval,Region.binds] at hD
   simp [go_sem,gd,Oper.wp,e0,e3,hD]
   exact ak.mk (Below.refl _ _) hC (ah.mk _ _)
  refine aP.some (fun v w'=> ∃b,v= .slice (some ⟨b,0,none⟩) 2 2∧eD w' w'.heap.size [7,8] (some ⟨b,0,none⟩) 0) ?_ ?_ ?_
  ·rintro v w w' hle ⟨b,rfl,hin⟩
   exact ⟨b,rfl,hin.same hle⟩
  ·intro β A w' hβ hC hO hD
   simp [go_sem,gd,Oper.wp]
   exact ak.mk (d:=_) (v:= .slice (some ⟨_,0,none⟩) 2 2) (ay _ _) (hC.trans ((ay _ _).mono hC.size)) ⟨_,rfl,eU _ 7 8 _⟩
  apply aP.step
  case aB=>
   intro β A w' hβ hC hO hD
   simp [au,ah,aj,Act.eval,Region.binds] at hD
   obtain ⟨JK,⟨RX,Ju,Ey⟩,-⟩:=hD
   simp [go_sem,gd,Oper.wp,JK,Ju]
   refine (hq ▸ gI p w' aC aF aA av (j:Int) aJ aI bs bt bc ar [7,8] _ 2 (by decide) Ey dw.out (dG.out.same hC) (HK.out _ hC)).mono ?_
   rintro e' w2 ⟨rfl,hb⟩
   exact ak.mk hb (hC.trans (hb.mono hC.size)) (ah.mk _ _)
  apply aP.step
  case aB=>
   intro β A w' hβ hC hO hD
   have e0:=hO 0 (by rfl)
   have e3:=hO 3 (by rfl)
   simp [Act.eval] at e0 e3
   simp [au,ah,aj,Act.eval,Region.binds] at hD
   simp [go_sem,gd,Oper.wp,e0,e3,hD]
   exact ak.mk (Below.refl _ _) hC (ah.mk _ _)
  refine aP.step (v:=undef) ?_ ?_
  ·intro β A w' hβ hC hO hD
   simp [au,ah,aj,Act.eval,Region.binds] at hD
   simp [gd,Act.eval,hD]
   first | exact ah.mk _ _ | exact ⟨by rfl,ah.mk _ _⟩
  refine aP.step (v:=undef) ?_ ?_
  ·intro β A w' hβ hC hO hD
   simp [au,ah,aj,Act.eval,Region.binds] at hD
   simp [gd,Act.eval,hD]
   first | exact ah.mk _ _ | exact ⟨by rfl,ah.mk _ _⟩
  refine aP.step (v:=undef) ?_ ?_
  ·intro β A w' hβ hC hO hD
   simp [au,ah,aj,Act.eval,Region.binds] at hD
   simp [gd,Act.eval,hD]
   first | exact ah.mk _ _ | exact ⟨by rfl,ah.mk _ _⟩
  refine aP.step (v:=undef) ?_ ?_
  ·intro β A w' hβ hC hO hD
   simp [au,ah,aj,Act.eval,Region.binds] at hD
   simp [gd,Act.eval,hD]
   first | exact ah.mk _ _ | exact ⟨by rfl,ah.mk _ _⟩
  refine aP.step (v:=undef) ?_ ?_
  ·intro β A w' hβ hC hO hD
   simp [au,ah,aj,Act.eval,Region.binds] at hD
   simp [gd,Act.eval,hD]
   first | exact ah.mk _ _ | exact ⟨by rfl,ah.mk _ _⟩
  apply aP.step
  case aB=>
   intro β A w' hβ hC hO hD
   have e0:=hO 0 (by rfl)
   have e3:=hO 3 (by rfl)
   simp [Act.eval] at e0 e3
   simp [au,ah,aj,Act.eval,Region.binds] at hD
   simp [go_sem,gd,Oper.wp,e0,e3,hD]
   exact ak.mk (Below.refl _ _) hC (ah.mk _ _)
  apply aP.step
  case aB=>
   intro β A w' hβ hC hO hD
   simp [au,ah,aj,Act.eval,Region.binds] at hD
   simp [go_sem,gd,Oper.wp,hD]
   refine (dK true w').mono ?_
   rintro e' w2 ⟨rfl,rfl⟩
   exact ak.mk (Below.refl _ _) hC (ah.mk _ _)
  refine aP.some (fun v w'=> ∃b,v= .slice (some ⟨b,0,none⟩) 2 2∧eD w' w'.heap.size [bC (mean p (j:Int) h.nm) [8],nest true] (some ⟨b,0,none⟩) 0) ?_ ?_ ?_
  ·rintro v w w' hle ⟨b,rfl,hin⟩
   exact ⟨b,rfl,hin.same hle⟩
  ·intro β A w' hβ hC hO hD
   simp [au,ah,aj,Act.eval,Region.binds] at hD
   simp [go_sem,gd,Oper.wp,hD]
   exact ak.mk (d:=_) (v:= .slice (some ⟨_,0,none⟩) 2 2) (ay _ _) (hC.trans ((ay _ _).mono hC.size)) ⟨_,rfl,eU _ _ _ _⟩
  apply aP.step
  case aB=>
   intro β A w' hβ hC hO hD
   simp [au,ah,aj,Act.eval,Region.binds] at hD
   obtain ⟨⟨RI,Kt,Eb⟩,-⟩:=hD
   simp [go_sem,gd,Oper.wp,Kt]
   refine (dJ [bC (mean p (j:Int) h.nm) [8],nest true] w' _ _ (by simp [maxLen]) Eb).mono ?_
   rintro e' w2 ⟨rfl,rfl⟩
   exact ak.mk (Below.refl _ _) hC (ah.mk _ _)
  apply aP.step
  case aB=>
   intro β A w' hβ hC hO hD
   have e0:=hO 0 (by rfl)
   have e3:=hO 3 (by rfl)
   simp [Act.eval] at e0 e3
   simp [au,ah,aj,Act.eval,Region.binds] at hD
   simp [go_sem,gd,Oper.wp,e0,e3,hD]
   exact ak.mk (Below.refl _ _) hC (ah.mk _ _)
  intro wz bK
  intro v0 h0 v1 h1 v2 h2 v3 h3 v4 h4 v5 h5 v6 h6 v7 h7 v8 h8 v9 h9 v10 h10 v11 h11 v12 h12 v13 mP v14 lG v15 oJ v16 h16 v17 sj v18 h18
  have hl':v18=_:=h18
  subst hl'
  clear h0 h1 h2 h3 h4 h5 h6 h7 h8 h9 h10 h11 h12 mP lG oJ h16 sj h18
  refine bM.nil ?_
  go_wp2_with fail
  go_ret
  exact ⟨aS (by first | exact HR.out | exact HR.out.symm | (rw [← HR.out]; first | rfl | simp_all)),(HX.out.next bK).1⟩
end
end Go.Proofs.YtnknfoibmgphnaaDoor
