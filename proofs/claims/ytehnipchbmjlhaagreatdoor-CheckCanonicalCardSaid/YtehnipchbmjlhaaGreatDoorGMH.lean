/-
  Contract of the checker's statement at join and get.
-/
import Derived.Test.YtehnipchbmjlhaaGreatDoorGMG
set_option linter.unusedSimpArgs false
set_option linter.unusedVariables false
set_option maxHeartbeats 40000000
set_option maxRecDepth 1000000
namespace Go.Proofs.YtehnipchbmjlhaaGreatDoor
open Go.RowKit
open Md
section
variable (p:Pr) (w:World) (aH aI:Option Addr) (aC aD:Nat) (aX:Option Addr) (aQ bs bt bc:Nat)
theorem RB (i:Int) (h:aV) (b e ar:aN) (s:Sl) (hi:aU i) (hp:p.At w aH aI) (hin:nG w h b e s) (cZ:cO w) (har:ar.len≤maxLen) (hat:ar.At w w.heap.size aX 0) (hh:Holds w (gT bc p aH aI aC aD i aX ar.len aQ bs bt)) (hop:h.op=15):
 Calls Tryz.prog 126 #[.pointer (some ⟨bc,0,none⟩),dx h b e s] w fun e' w'=>e'= .returned (.int .i64 (eP [bg (mean p i h.nm) [1],bg (mean p i h.arg) [7],nest (dY ar [7])]))∧Below w.heap.size w w':=by
 have HH:=Lib.hid (show Sit w w _ from ⟨Below.refl _ _,hh⟩)
 obtain ⟨dF,bT,bS,bf,bG,aS,dw,bR⟩:=s
 have hxk:=hin.1.2.2.2.2.2.1
 have hns:=hin.1.2.2.1
 generalize hres:eP [bg (mean p i h.nm) [1],bg (mean p i h.arg) [7],nest (dY ar [7])]=res
 have HR:=Lib.hid hres
 have dH:=Lib.hid hop
 have vX:=Lib.hid hin
 clear hres hop
 unfold dx
 dsimp only
 go_enter Tryz.func126,Tryz.ntmps126
 go_upto_region 1 with fail
 generalize hW:World.alloc w _=W
 generalize Value.agg #[_,_,_,_,_,_,_,_,_,_,_]=a0
 have HX:Hid (Sit w W (nN w.heap.size h b e ⟨dF,bT,bS,bf,bG,aS,dw,bR⟩ (gT bc p aH aI aC aD i aX ar.len aQ bs bt))):=Lib.hid (by rw [← hW]; exact HH.out.gF rfl _ _ _ _ _ _ _ _ _ _ _ _)
 clear hW HH
 have HP:=Lib.hid (hp.same HX.out.1)
 have ig:=Lib.hid (cZ.same HX.out.1)
 have sP:=Lib.hid (hin.2.2.1.same HX.out.1)
 have kD:=Lib.hid (hat.same HX.out.1)
 have jv:=Lib.hid har
 have HK:Hid (∀w',Below W.heap.size W w'→Holds w' (gT bc p aH aI aC aD i aX ar.len aQ bs bt)):=Lib.hid (fun w' hb=>(HX.out.next hb).2.2.2.2.2.2.2.2.2.2.2.2)
 clear hp cZ hh hin hat har
 have L0: ∀w',Below W.heap.size W w'→w'.cell? ⟨w.heap.size,0,none⟩=some (.int .i64 h.op):=fun w' hb=>(HX.out.next hb).2.1.2
 have L2: ∀w',Below W.heap.size W w'→w'.cell? ⟨w.heap.size,2,none⟩=some (.string h.nm):=fun w' hb=>(HX.out.next hb).2.2.2.1.2
 have L3: ∀w',Below W.heap.size W w'→w'.cell? ⟨w.heap.size,3,none⟩=some (.string h.arg):=fun w' hb=>(HX.out.next hb).2.2.2.2.1.2
 have L5: ∀w',Below W.heap.size W w'→w'.cell? ⟨w.heap.size,5,none⟩=some (.int .i64 h.bD):=fun w' hb=>(HX.out.next hb).2.2.2.2.2.2.1.2
 have L6: ∀w',Below W.heap.size W w'→w'.cell? ⟨w.heap.size,6,none⟩=some (.int .i64 h.xn):=fun w' hb=>(HX.out.next hb).2.2.2.2.2.2.2.1.2
 have L7: ∀w',Below W.heap.size W w'→w'.cell? ⟨w.heap.size,7,none⟩=some (.string h.bC):=fun w' hb=>(HX.out.next hb).2.2.2.2.2.2.2.2.1.2
 have L8: ∀w',Below W.heap.size W w'→w'.cell? ⟨w.heap.size,8,none⟩=some (.slice bS h.aL.len bf):=fun w' hb=>(HX.out.next hb).2.2.2.2.2.2.2.2.2.1.2
 have hB0:Below W.heap.size W W:=Below.refl _ _
 have l0:=L0 W hB0
 have hop:=dH.out
 have g1:(h.op == 1)=false:=by rw [hop]; rfl
 have g2:(h.op == 2)=false:=by rw [hop]; rfl
 have g3:(h.op == 3)=false:=by rw [hop]; rfl
 have g4:(h.op == 4)=false:=by rw [hop]; rfl
 have g5:(h.op == 5)=false:=by rw [hop]; rfl
 have g6:(h.op == 6)=false:=by rw [hop]; rfl
 have g7:(h.op == 7)=false:=by rw [hop]; rfl
 have g8:(h.op == 8)=false:=by rw [hop]; rfl
 have g9:(h.op == 9)=false:=by rw [hop]; rfl
 have g10:(h.op == 10)=false:=by rw [hop]; rfl
 have g11:(h.op == 11)=false:=by rw [hop]; rfl
 have g12:(h.op == 12)=false:=by rw [hop]; rfl
 have g13:(h.op == 13)=false:=by rw [hop]; rfl
 have g14:(h.op == 14)=false:=by rw [hop]; rfl
 have g15:(h.op == 15)=true:=by rw [hop]; rfl
 clear hop
 go_upto_region 27 with fail
 refine mF (fun w'=>Below W.heap.size W w') (fun w w'=>Below w.heap.size w w') [193,194,195,196,197,198,199,200,201,202,203,204,205,206,207,208,4] (by kernel_rfl) (by kernel_rfl) (fun _=>Below.refl _ _) (by rfl) (below_drewN (Below.refl _ _) 1) ?_
 apply aM.step
 case aB=>
  intro β A w' hβ hC hO hD
  have e0:=hO 0 (by rfl)
  have e3:=hO 3 (by rfl)
  simp [Act.eval] at e0 e3
  simp [au,aj,ak,Act.eval,Region.binds] at hD
  simp [go_sem,gd,Oper.wp,e0,e3,hD]
  exact ay.mk (Below.refl _ _) hC (aj.mk _ _)
 apply aM.step
 case aB=>
  intro β A w' hβ hC hO hD
  have e0:=hO 0 (by rfl)
  have e3:=hO 3 (by rfl)
  simp [Act.eval] at e0 e3
  simp [au,aj,ak,Act.eval,Region.binds] at hD
  simp [go_sem,gd,Oper.wp,e0,e3,hD]
  exact ay.mk (Below.refl _ _) hC (aj.mk _ _)
 apply aM.step
 case aB=>
  intro β A w' hβ hC hO hD
  have e0:=hO 0 (by rfl)
  have e3:=hO 3 (by rfl)
  simp [Act.eval] at e0 e3
  simp [au,aj,ak,Act.eval,Region.binds] at hD
  simp [go_sem,gd,Oper.wp,e0,e3,hD,L2,hC]
  exact ay.mk (Below.refl _ _) hC (aj.mk _ _)
 refine aM.some (fun v w'=> ∃b,v= .slice (some ⟨b,0,none⟩) 1 1∧dI w' w'.heap.size [1] (some ⟨b,0,none⟩) 0) ?_ ?_ ?_
 ·rintro v w w' hle ⟨b,rfl,hin⟩
  exact ⟨b,rfl,hin.same hle⟩
 ·intro β A w' hβ hC hO hD
  simp [go_sem,gd,Oper.wp]
  exact ay.mk (d:=_) (v:= .slice (some ⟨_,0,none⟩) 1 1) (ah _ _) (hC.trans ((ah _ _).mono hC.size)) ⟨_,rfl,dX _ 1 _⟩
 apply aM.step
 case aB=>
  intro β A w' hβ hC hO hD
  simp [au,aj,ak,Act.eval,Region.binds] at hD
  obtain ⟨ae4,ak2,ar4,ad8,Vs⟩:=hD
  simp [go_sem,gd,Oper.wp,ae4,ak2,ad8]
  refine (gH p w' aH aI aC aD _ aX _ aQ bs bt bc h.nm [1] _ 1 hi (by decide) (HP.out.same hC) Vs (HK.out _ hC)).mono ?_
  rintro e' w2 ⟨rfl,hb⟩
  exact ay.mk hb (hC.trans (hb.mono hC.size)) (aj.mk _ _)
 apply aM.step
 case aB=>
  intro β A w' hβ hC hO hD
  have e0:=hO 0 (by rfl)
  have e3:=hO 3 (by rfl)
  simp [Act.eval] at e0 e3
  simp [au,aj,ak,Act.eval,Region.binds] at hD
  simp [go_sem,gd,Oper.wp,e0,e3,hD]
  exact ay.mk (Below.refl _ _) hC (aj.mk _ _)
 apply aM.step
 case aB=>
  intro β A w' hβ hC hO hD
  have e0:=hO 0 (by rfl)
  have e3:=hO 3 (by rfl)
  simp [Act.eval] at e0 e3
  simp [au,aj,ak,Act.eval,Region.binds] at hD
  simp [go_sem,gd,Oper.wp,e0,e3,hD]
  exact ay.mk (Below.refl _ _) hC (aj.mk _ _)
 apply aM.step
 case aB=>
  intro β A w' hβ hC hO hD
  have e0:=hO 0 (by rfl)
  have e3:=hO 3 (by rfl)
  simp [Act.eval] at e0 e3
  simp [au,aj,ak,Act.eval,Region.binds] at hD
  simp [go_sem,gd,Oper.wp,e0,e3,hD,L3,hC]
  exact ay.mk (Below.refl _ _) hC (aj.mk _ _)
 refine aM.some (fun v w'=> ∃b,v= .slice (some ⟨b,0,none⟩) 1 1∧dI w' w'.heap.size [7] (some ⟨b,0,none⟩) 0) ?_ ?_ ?_
 ·rintro v w w' hle ⟨b,rfl,hin⟩
  exact ⟨b,rfl,hin.same hle⟩
 ·intro β A w' hβ hC hO hD
  simp [go_sem,gd,Oper.wp]
  exact ay.mk (d:=_) (v:= .slice (some ⟨_,0,none⟩) 1 1) (ah _ _) (hC.trans ((ah _ _).mono hC.size)) ⟨_,rfl,dX _ 7 _⟩
 apply aM.step
 case aB=>
  intro β A w' hβ hC hO hD
  simp [au,aj,ak,Act.eval,Region.binds] at hD
  obtain ⟨ag3,ag4,⟨as9,ae6,WO⟩,-⟩:=hD
  simp [go_sem,gd,Oper.wp,ag3,ag4,ae6]
  refine (gH p w' aH aI aC aD _ aX _ aQ bs bt bc h.arg [7] _ 1 hi (by decide) (HP.out.same hC) WO (HK.out _ hC)).mono ?_
  rintro e' w2 ⟨rfl,hb⟩
  exact ay.mk hb (hC.trans (hb.mono hC.size)) (aj.mk _ _)
 apply aM.step
 case aB=>
  intro β A w' hβ hC hO hD
  have e0:=hO 0 (by rfl)
  have e3:=hO 3 (by rfl)
  simp [Act.eval] at e0 e3
  simp [au,aj,ak,Act.eval,Region.binds] at hD
  simp [go_sem,gd,Oper.wp,e0,e3,hD]
  exact ay.mk (Below.refl _ _) hC (aj.mk _ _)
 refine aM.some (fun v w'=> ∃b,v= .slice (some ⟨b,0,none⟩) 1 1∧dI w' w'.heap.size [7] (some ⟨b,0,none⟩) 0) ?_ ?_ ?_
 ·rintro v w w' hle ⟨b,rfl,hin⟩
  exact ⟨b,rfl,hin.same hle⟩
 ·intro β A w' hβ hC hO hD
  simp [go_sem,gd,Oper.wp]
  exact ay.mk (d:=_) (v:= .slice (some ⟨_,0,none⟩) 1 1) (ah _ _) (hC.trans ((ah _ _).mono hC.size)) ⟨_,rfl,dX _ 7 _⟩
 apply aM.step
 case aB=>
  intro β A w' hβ hC hO hD
  simp [au,aj,ak,Act.eval,Region.binds] at hD
  obtain ⟨ad9,⟨as8,aj6,Wj⟩,-⟩:=hD
  simp [go_sem,gd,Oper.wp,ad9,aj6]
  refine (eX p w' aH aI aC aD _ aX aQ bs bt bc ar [7] _ 1 (by decide) Wj jv.out (kD.out.same hC) (HK.out _ hC)).mono ?_
  rintro e' w2 ⟨rfl,hb⟩
  exact ay.mk hb (hC.trans (hb.mono hC.size)) (aj.mk _ _)
 apply aM.step
 case aB=>
  intro β A w' hβ hC hO hD
  simp [au,aj,ak,Act.eval,Region.binds] at hD
  simp [go_sem,gd,Oper.wp,hD]
  refine (cK (dY ar [7]) w').mono ?_
  rintro e' w2 ⟨rfl,rfl⟩
  exact ay.mk (Below.refl _ _) hC (aj.mk _ _)
 refine aM.some (fun v w'=> ∃b,v= .slice (some ⟨b,0,none⟩) 3 3∧dI w' w'.heap.size [bg (mean p i h.nm) [1],bg (mean p i h.arg) [7],nest (dY ar [7])] (some ⟨b,0,none⟩) 0) ?_ ?_ ?_
 ·rintro v w w' hle ⟨b,rfl,hin⟩
  exact ⟨b,rfl,hin.same hle⟩
 ·intro β A w' hβ hC hO hD
  simp [au,aj,ak,Act.eval,Region.binds] at hD
  simp [go_sem,gd,Oper.wp,hD]
  exact ay.mk (d:=_) (v:= .slice (some ⟨_,0,none⟩) 3 3) (ah _ _) (hC.trans ((ah _ _).mono hC.size)) ⟨_,rfl,lS _ _ _ _ _⟩
 apply aM.step
 case aB=>
  intro β A w' hβ hC hO hD
  simp [au,aj,ak,Act.eval,Region.binds] at hD
  obtain ⟨⟨as7,ag9,Yr⟩,-⟩:=hD
  simp [go_sem,gd,Oper.wp,ag9]
  refine (cB [bg (mean p i h.nm) [1],bg (mean p i h.arg) [7],nest (dY ar [7])] w' _ _ (by simp [maxLen]) Yr).mono ?_
  rintro e' w2 ⟨rfl,rfl⟩
  exact ay.mk (Below.refl _ _) hC (aj.mk _ _)
 apply aM.step
 case aB=>
  intro β A w' hβ hC hO hD
  have e0:=hO 0 (by rfl)
  have e3:=hO 3 (by rfl)
  simp [Act.eval] at e0 e3
  simp [au,aj,ak,Act.eval,Region.binds] at hD
  simp [go_sem,gd,Oper.wp,e0,e3,hD]
  exact ay.mk (Below.refl _ _) hC (aj.mk _ _)
 intro wz dP
 intro v0 h0 v1 h1 v2 h2 v3 h3 v4 h4 v5 h5 v6 h6 v7 h7 v8 h8 v9 h9 v10 h10 v11 h11 v12 h12 v13 mM v14 nW v15 oO v16 h16
 have hl':v16=_:=h16
 subst hl'
 clear h0 h1 h2 h3 h4 h5 h6 h7 h8 h9 h10 h11 h12 mM nW oO h16
 refine dG.nil ?_
 go_wp2_with fail
 go_ret
 exact ⟨bU (by first | exact HR.out | exact HR.out.symm | (rw [← HR.out]; first | rfl | simp_all)),(HX.out.next dP).1⟩
theorem Rx (j:Nat) (t:Th) (r:List Th) (hd:p.ts.drop j=t ::r) (h:aV) (b e ar:aN) (s:Sl) (hi:aU (j:Int)) (hp:p.At w aH aI) (hin:nG w h b e s) (cZ:cO w) (har:ar.len≤maxLen) (hat:ar.At w w.heap.size aX 0) (hh:Holds w (gT bc p aH aI aC aD (j:Int) aX ar.len aQ bs bt)) (hop:h.op=13):
 Calls Tryz.prog 126 #[.pointer (some ⟨bc,0,none⟩),dx h b e s] w fun e' w'=>e'= .returned (.int .i64 (eP [bg (mean p (j:Int) h.nm) [8],nest (dY ar [7,8] || h.nm.toList == t.nm.toList)]))∧Below w.heap.size w w':=by
 have HH:=Lib.hid (show Sit w w _ from ⟨Below.refl _ _,hh⟩)
 obtain ⟨dF,bT,bS,bf,bG,aS,dw,bR⟩:=s
 have hxk:=hin.1.2.2.2.2.2.1
 have hns:=hin.1.2.2.1
 generalize hres:eP [bg (mean p (j:Int) h.nm) [8],nest (dY ar [7,8] || h.nm.toList == t.nm.toList)]=res
 have HR:=Lib.hid hres
 have dH:=Lib.hid hop
 have vX:=Lib.hid hin
 clear hres hop
 unfold dx
 dsimp only
 go_enter Tryz.func126,Tryz.ntmps126
 go_upto_region 1 with fail
 generalize hW:World.alloc w _=W
 generalize Value.agg #[_,_,_,_,_,_,_,_,_,_,_]=a0
 have HX:Hid (Sit w W (nN w.heap.size h b e ⟨dF,bT,bS,bf,bG,aS,dw,bR⟩ (gT bc p aH aI aC aD (j:Int) aX ar.len aQ bs bt))):=Lib.hid (by rw [← hW]; exact HH.out.gF rfl _ _ _ _ _ _ _ _ _ _ _ _)
 clear hW HH
 have HP:=Lib.hid (hp.same HX.out.1)
 have ig:=Lib.hid (cZ.same HX.out.1)
 have sP:=Lib.hid (hin.2.2.1.same HX.out.1)
 have kD:=Lib.hid (hat.same HX.out.1)
 have jv:=Lib.hid har
 have HK:Hid (∀w',Below W.heap.size W w'→Holds w' (gT bc p aH aI aC aD (j:Int) aX ar.len aQ bs bt)):=Lib.hid (fun w' hb=>(HX.out.next hb).2.2.2.2.2.2.2.2.2.2.2.2)
 clear hp cZ hh hin hat har
 have L0: ∀w',Below W.heap.size W w'→w'.cell? ⟨w.heap.size,0,none⟩=some (.int .i64 h.op):=fun w' hb=>(HX.out.next hb).2.1.2
 have L2: ∀w',Below W.heap.size W w'→w'.cell? ⟨w.heap.size,2,none⟩=some (.string h.nm):=fun w' hb=>(HX.out.next hb).2.2.2.1.2
 have L3: ∀w',Below W.heap.size W w'→w'.cell? ⟨w.heap.size,3,none⟩=some (.string h.arg):=fun w' hb=>(HX.out.next hb).2.2.2.2.1.2
 have L5: ∀w',Below W.heap.size W w'→w'.cell? ⟨w.heap.size,5,none⟩=some (.int .i64 h.bD):=fun w' hb=>(HX.out.next hb).2.2.2.2.2.2.1.2
 have L6: ∀w',Below W.heap.size W w'→w'.cell? ⟨w.heap.size,6,none⟩=some (.int .i64 h.xn):=fun w' hb=>(HX.out.next hb).2.2.2.2.2.2.2.1.2
 have L7: ∀w',Below W.heap.size W w'→w'.cell? ⟨w.heap.size,7,none⟩=some (.string h.bC):=fun w' hb=>(HX.out.next hb).2.2.2.2.2.2.2.2.1.2
 have L8: ∀w',Below W.heap.size W w'→w'.cell? ⟨w.heap.size,8,none⟩=some (.slice bS h.aL.len bf):=fun w' hb=>(HX.out.next hb).2.2.2.2.2.2.2.2.2.1.2
 have hB0:Below W.heap.size W W:=Below.refl _ _
 have l0:=L0 W hB0
 have hop:=dH.out
 have g1:(h.op == 1)=false:=by rw [hop]; rfl
 have g2:(h.op == 2)=false:=by rw [hop]; rfl
 have g3:(h.op == 3)=false:=by rw [hop]; rfl
 have g4:(h.op == 4)=false:=by rw [hop]; rfl
 have g5:(h.op == 5)=false:=by rw [hop]; rfl
 have g6:(h.op == 6)=false:=by rw [hop]; rfl
 have g7:(h.op == 7)=false:=by rw [hop]; rfl
 have g8:(h.op == 8)=false:=by rw [hop]; rfl
 have g9:(h.op == 9)=false:=by rw [hop]; rfl
 have g10:(h.op == 10)=false:=by rw [hop]; rfl
 have g11:(h.op == 11)=false:=by rw [hop]; rfl
 have g12:(h.op == 12)=false:=by rw [hop]; rfl
 have g13:(h.op == 13)=true:=by rw [hop]; rfl
 have g14:(h.op == 14)=false:=by rw [hop]; rfl
 have g15:(h.op == 15)=false:=by rw [hop]; rfl
 clear hop
 go_upto_region 23 with fail
 cases hq:dY ar [7,8]
 ·refine mF (fun w'=>Below W.heap.size W w') (fun w w'=>Below w.heap.size w w') [149,150,151,152,153,154,155,156,157,158,159,160,161,162,163,164,165,166,4] (by kernel_rfl) (by kernel_rfl) (fun _=>Below.refl _ _) (by rfl) (below_drewN (Below.refl _ _) 1) ?_
  apply aM.step
  case aB=>
   intro β A w' hβ hC hO hD
   have e0:=hO 0 (by rfl)
   have e3:=hO 3 (by rfl)
   simp [Act.eval] at e0 e3
   simp [au,aj,ak,Act.eval,Region.binds] at hD
   simp [go_sem,gd,Oper.wp,e0,e3,hD]
   exact ay.mk (Below.refl _ _) hC (aj.mk _ _)
  apply aM.step
  case aB=>
   intro β A w' hβ hC hO hD
   have e0:=hO 0 (by rfl)
   have e3:=hO 3 (by rfl)
   simp [Act.eval] at e0 e3
   simp [au,aj,ak,Act.eval,Region.binds] at hD
   simp [go_sem,gd,Oper.wp,e0,e3,hD]
   exact ay.mk (Below.refl _ _) hC (aj.mk _ _)
  apply aM.step
  case aB=>
   intro β A w' hβ hC hO hD
   have e0:=hO 0 (by rfl)
   have e3:=hO 3 (by rfl)
   simp [Act.eval] at e0 e3
   simp [au,aj,ak,Act.eval,Region.binds] at hD
   simp [go_sem,gd,Oper.wp,e0,e3,hD,L2,hC]
   exact ay.mk (Below.refl _ _) hC (aj.mk _ _)
  refine aM.some (fun v w'=> ∃b,v= .slice (some ⟨b,0,none⟩) 1 1∧dI w' w'.heap.size [8] (some ⟨b,0,none⟩) 0) ?_ ?_ ?_
  ·rintro v w w' hle ⟨b,rfl,hin⟩
   exact ⟨b,rfl,hin.same hle⟩
  ·intro β A w' hβ hC hO hD
   simp [go_sem,gd,Oper.wp]
   exact ay.mk (d:=_) (v:= .slice (some ⟨_,0,none⟩) 1 1) (ah _ _) (hC.trans ((ah _ _).mono hC.size)) ⟨_,rfl,dX _ 8 _⟩
  apply aM.step
  case aB=>
   intro β A w' hβ hC hO hD
   simp [au,aj,ak,Act.eval,Region.binds] at hD
   obtain ⟨Qe,QO,ak1,QC,GY⟩:=hD
   simp [go_sem,gd,Oper.wp,Qe,QO,QC]
   refine (gH p w' aH aI aC aD _ aX _ aQ bs bt bc h.nm [8] _ 1 hi (by decide) (HP.out.same hC) GY (HK.out _ hC)).mono ?_
   rintro e' w2 ⟨rfl,hb⟩
   exact ay.mk hb (hC.trans (hb.mono hC.size)) (aj.mk _ _)
  apply aM.step
  case aB=>
   intro β A w' hβ hC hO hD
   have e0:=hO 0 (by rfl)
   have e3:=hO 3 (by rfl)
   simp [Act.eval] at e0 e3
   simp [au,aj,ak,Act.eval,Region.binds] at hD
   simp [go_sem,gd,Oper.wp,e0,e3,hD]
   exact ay.mk (Below.refl _ _) hC (aj.mk _ _)
  refine aM.some (fun v w'=> ∃b,v= .slice (some ⟨b,0,none⟩) 2 2∧dI w' w'.heap.size [7,8] (some ⟨b,0,none⟩) 0) ?_ ?_ ?_
  ·rintro v w w' hle ⟨b,rfl,hin⟩
   exact ⟨b,rfl,hin.same hle⟩
  ·intro β A w' hβ hC hO hD
   simp [go_sem,gd,Oper.wp]
   exact ay.mk (d:=_) (v:= .slice (some ⟨_,0,none⟩) 2 2) (ah _ _) (hC.trans ((ah _ _).mono hC.size)) ⟨_,rfl,dU _ 7 8 _⟩
  apply aM.step
  case aB=>
   intro β A w' hβ hC hO hD
   simp [au,aj,ak,Act.eval,Region.binds] at hD
   obtain ⟨Qd,⟨aj9,Qw,Iu⟩,-⟩:=hD
   simp [go_sem,gd,Oper.wp,Qd,Qw]
   refine (hq ▸ eX p w' aH aI aC aD (j:Int) aX aQ bs bt bc ar [7,8] _ 2 (by decide) Iu jv.out (kD.out.same hC) (HK.out _ hC)).mono ?_
   rintro e' w2 ⟨rfl,hb⟩
   exact ay.mk hb (hC.trans (hb.mono hC.size)) (aj.mk _ _)
  apply aM.step
  case aB=>
   intro β A w' hβ hC hO hD
   have e0:=hO 0 (by rfl)
   have e3:=hO 3 (by rfl)
   simp [Act.eval] at e0 e3
   simp [au,aj,ak,Act.eval,Region.binds] at hD
   simp [go_sem,gd,Oper.wp,e0,e3,hD]
   exact ay.mk (Below.refl _ _) hC (aj.mk _ _)
  apply aM.step
  case aB=>
   intro β A w' hβ hC hO hD
   have e0:=hO 0 (by rfl)
   have e3:=hO 3 (by rfl)
   simp [Act.eval] at e0 e3
   simp [au,aj,ak,Act.eval,Region.binds] at hD
   simp [go_sem,gd,Oper.wp,e0,e3,hD]
   exact ay.mk (Below.refl _ _) hC (aj.mk _ _)
  apply aM.step
  case aB=>
   intro β A w' hβ hC hO hD
   have e0:=hO 0 (by rfl)
   have e3:=hO 3 (by rfl)
   simp [Act.eval] at e0 e3
   simp [au,aj,ak,Act.eval,Region.binds] at hD
   simp [go_sem,gd,Oper.wp,e0,e3,hD,L2,hC]
   exact ay.mk (Below.refl _ _) hC (aj.mk _ _)
  apply aM.step
  case aB=>
   intro β A w' hβ hC hO hD
   have e0:=hO 0 (by rfl)
   have e3:=hO 3 (by rfl)
   simp [Act.eval] at e0 e3
   simp [au,aj,ak,Act.eval,Region.binds] at hD
   simp [go_sem,gd,Oper.wp,e0,e3,hD]
   exact ay.mk (Below.refl _ _) hC (aj.mk _ _)
  apply aM.step
  case aB=>
   intro β A w' hβ hC hO hD
   simp [au,aj,ak,Act.eval,Region.binds] at hD
   simp [go_sem,gd,Oper.wp,hD]
   refine (A9 p w' aH aI aC aD aX ar.len aQ bs bt bc j t r hd (HP.out.same hC) (HK.out _ hC)).mono ?_
   rintro e' w2 ⟨rfl,hb⟩
   exact ay.mk hb (hC.trans (hb.mono hC.size)) (aj.mk _ _)
  apply aM.step
  case aB=>
   intro β A w' hβ hC hO hD
   have e0:=hO 0 (by rfl)
   have e3:=hO 3 (by rfl)
   simp [Act.eval] at e0 e3
   simp [au,aj,ak,Act.eval,Region.binds] at hD
   simp [go_sem,gd,Oper.wp,e0,e3,hD]
   exact ay.mk (Below.refl _ _) hC (aj.mk _ _)
  apply aM.step
  case aB=>
   intro β A w' hβ hC hO hD
   have e0:=hO 0 (by rfl)
   have e3:=hO 3 (by rfl)
   simp [Act.eval] at e0 e3
   simp [au,aj,ak,Act.eval,Region.binds] at hD
   simp [go_sem,gd,Oper.wp,e0,e3,hD]
   exact ay.mk (Below.refl _ _) hC (aj.mk _ _)
  apply aM.step
  case aB=>
   intro β A w' hβ hC hO hD
   simp [au,aj,ak,Act.eval,Region.binds] at hD
   simp [go_sem,gd,Oper.wp,hD]
   refine (cK (h.nm.toList == t.nm.toList) w').mono ?_
   rintro e' w2 ⟨rfl,rfl⟩
   exact ay.mk (Below.refl _ _) hC (aj.mk _ _)
  refine aM.some (fun v w'=> ∃b,v= .slice (some ⟨b,0,none⟩) 2 2∧dI w' w'.heap.size [bg (mean p (j:Int) h.nm) [8],nest (h.nm.toList == t.nm.toList)] (some ⟨b,0,none⟩) 0) ?_ ?_ ?_
  ·rintro v w w' hle ⟨b,rfl,hin⟩
   exact ⟨b,rfl,hin.same hle⟩
  ·intro β A w' hβ hC hO hD
   simp [au,aj,ak,Act.eval,Region.binds] at hD
   simp [go_sem,gd,Oper.wp,hD]
   exact ay.mk (d:=_) (v:= .slice (some ⟨_,0,none⟩) 2 2) (ah _ _) (hC.trans ((ah _ _).mono hC.size)) ⟨_,rfl,dU _ _ _ _⟩
  apply aM.step
  case aB=>
   intro β A w' hβ hC hO hD
   simp [au,aj,ak,Act.eval,Region.binds] at hD
   obtain ⟨⟨ae2,Qv,Ih⟩,-⟩:=hD
   simp [go_sem,gd,Oper.wp,Qv]
   refine (cB [bg (mean p (j:Int) h.nm) [8],nest (h.nm.toList == t.nm.toList)] w' _ _ (by simp [maxLen]) Ih).mono ?_
   rintro e' w2 ⟨rfl,rfl⟩
   exact ay.mk (Below.refl _ _) hC (aj.mk _ _)
  apply aM.step
  case aB=>
   intro β A w' hβ hC hO hD
   have e0:=hO 0 (by rfl)
   have e3:=hO 3 (by rfl)
   simp [Act.eval] at e0 e3
   simp [au,aj,ak,Act.eval,Region.binds] at hD
   simp [go_sem,gd,Oper.wp,e0,e3,hD]
   exact ay.mk (Below.refl _ _) hC (aj.mk _ _)
  intro wz dP
  intro v0 h0 v1 h1 v2 h2 v3 h3 v4 h4 v5 h5 v6 h6 v7 h7 v8 h8 v9 h9 v10 h10 v11 h11 v12 h12 v13 mM v14 nW v15 oO v16 h16 v17 qx v18 h18
  have hl':v18=_:=h18
  subst hl'
  clear h0 h1 h2 h3 h4 h5 h6 h7 h8 h9 h10 h11 h12 mM nW oO h16 qx h18
  refine dG.nil ?_
  go_wp2_with fail
  go_ret
  exact ⟨bU (by first | exact HR.out | exact HR.out.symm | (rw [← HR.out]; first | rfl | simp_all)),(HX.out.next dP).1⟩
 ·refine mF (fun w'=>Below W.heap.size W w') (fun w w'=>Below w.heap.size w w') [149,150,151,152,153,154,155,156,157,158,159,160,161,162,163,164,165,166,4] (by kernel_rfl) (by kernel_rfl) (fun _=>Below.refl _ _) (by rfl) (below_drewN (Below.refl _ _) 1) ?_
  apply aM.step
  case aB=>
   intro β A w' hβ hC hO hD
   have e0:=hO 0 (by rfl)
   have e3:=hO 3 (by rfl)
   simp [Act.eval] at e0 e3
   simp [au,aj,ak,Act.eval,Region.binds] at hD
   simp [go_sem,gd,Oper.wp,e0,e3,hD]
   exact ay.mk (Below.refl _ _) hC (aj.mk _ _)
  apply aM.step
  case aB=>
   intro β A w' hβ hC hO hD
   have e0:=hO 0 (by rfl)
   have e3:=hO 3 (by rfl)
   simp [Act.eval] at e0 e3
   simp [au,aj,ak,Act.eval,Region.binds] at hD
   simp [go_sem,gd,Oper.wp,e0,e3,hD]
   exact ay.mk (Below.refl _ _) hC (aj.mk _ _)
  apply aM.step
  case aB=>
   intro β A w' hβ hC hO hD
   have e0:=hO 0 (by rfl)
   have e3:=hO 3 (by rfl)
   simp [Act.eval] at e0 e3
   simp [au,aj,ak,Act.eval,Region.binds] at hD
   simp [go_sem,gd,Oper.wp,e0,e3,hD,L2,hC]
   exact ay.mk (Below.refl _ _) hC (aj.mk _ _)
  refine aM.some (fun v w'=> ∃b,v= .slice (some ⟨b,0,none⟩) 1 1∧dI w' w'.heap.size [8] (some ⟨b,0,none⟩) 0) ?_ ?_ ?_
  ·rintro v w w' hle ⟨b,rfl,hin⟩
   exact ⟨b,rfl,hin.same hle⟩
  ·intro β A w' hβ hC hO hD
   simp [go_sem,gd,Oper.wp]
   exact ay.mk (d:=_) (v:= .slice (some ⟨_,0,none⟩) 1 1) (ah _ _) (hC.trans ((ah _ _).mono hC.size)) ⟨_,rfl,dX _ 8 _⟩
  apply aM.step
  case aB=>
   intro β A w' hβ hC hO hD
   simp [au,aj,ak,Act.eval,Region.binds] at hD
   obtain ⟨Qe,QO,ak1,QC,GY⟩:=hD
   simp [go_sem,gd,Oper.wp,Qe,QO,QC]
   refine (gH p w' aH aI aC aD _ aX _ aQ bs bt bc h.nm [8] _ 1 hi (by decide) (HP.out.same hC) GY (HK.out _ hC)).mono ?_
   rintro e' w2 ⟨rfl,hb⟩
   exact ay.mk hb (hC.trans (hb.mono hC.size)) (aj.mk _ _)
  apply aM.step
  case aB=>
   intro β A w' hβ hC hO hD
   have e0:=hO 0 (by rfl)
   have e3:=hO 3 (by rfl)
   simp [Act.eval] at e0 e3
   simp [au,aj,ak,Act.eval,Region.binds] at hD
   simp [go_sem,gd,Oper.wp,e0,e3,hD]
   exact ay.mk (Below.refl _ _) hC (aj.mk _ _)
  refine aM.some (fun v w'=> ∃b,v= .slice (some ⟨b,0,none⟩) 2 2∧dI w' w'.heap.size [7,8] (some ⟨b,0,none⟩) 0) ?_ ?_ ?_
  ·rintro v w w' hle ⟨b,rfl,hin⟩
   exact ⟨b,rfl,hin.same hle⟩
  ·intro β A w' hβ hC hO hD
   simp [go_sem,gd,Oper.wp]
   exact ay.mk (d:=_) (v:= .slice (some ⟨_,0,none⟩) 2 2) (ah _ _) (hC.trans ((ah _ _).mono hC.size)) ⟨_,rfl,dU _ 7 8 _⟩
  apply aM.step
  case aB=>
   intro β A w' hβ hC hO hD
   simp [au,aj,ak,Act.eval,Region.binds] at hD
   obtain ⟨Qd,⟨aj9,Qw,Iu⟩,-⟩:=hD
   simp [go_sem,gd,Oper.wp,Qd,Qw]
   refine (hq ▸ eX p w' aH aI aC aD (j:Int) aX aQ bs bt bc ar [7,8] _ 2 (by decide) Iu jv.out (kD.out.same hC) (HK.out _ hC)).mono ?_
   rintro e' w2 ⟨rfl,hb⟩
   exact ay.mk hb (hC.trans (hb.mono hC.size)) (aj.mk _ _)
  apply aM.step
  case aB=>
   intro β A w' hβ hC hO hD
   have e0:=hO 0 (by rfl)
   have e3:=hO 3 (by rfl)
   simp [Act.eval] at e0 e3
   simp [au,aj,ak,Act.eval,Region.binds] at hD
   simp [go_sem,gd,Oper.wp,e0,e3,hD]
   exact ay.mk (Below.refl _ _) hC (aj.mk _ _)
  refine aM.step (v:=undef) ?_ ?_
  ·intro β A w' hβ hC hO hD
   simp [au,aj,ak,Act.eval,Region.binds] at hD
   simp [gd,Act.eval,hD]
   first | exact aj.mk _ _ | exact ⟨by rfl,aj.mk _ _⟩
  refine aM.step (v:=undef) ?_ ?_
  ·intro β A w' hβ hC hO hD
   simp [au,aj,ak,Act.eval,Region.binds] at hD
   simp [gd,Act.eval,hD]
   first | exact aj.mk _ _ | exact ⟨by rfl,aj.mk _ _⟩
  refine aM.step (v:=undef) ?_ ?_
  ·intro β A w' hβ hC hO hD
   simp [au,aj,ak,Act.eval,Region.binds] at hD
   simp [gd,Act.eval,hD]
   first | exact aj.mk _ _ | exact ⟨by rfl,aj.mk _ _⟩
  refine aM.step (v:=undef) ?_ ?_
  ·intro β A w' hβ hC hO hD
   simp [au,aj,ak,Act.eval,Region.binds] at hD
   simp [gd,Act.eval,hD]
   first | exact aj.mk _ _ | exact ⟨by rfl,aj.mk _ _⟩
  refine aM.step (v:=undef) ?_ ?_
  ·intro β A w' hβ hC hO hD
   simp [au,aj,ak,Act.eval,Region.binds] at hD
   simp [gd,Act.eval,hD]
   first | exact aj.mk _ _ | exact ⟨by rfl,aj.mk _ _⟩
  apply aM.step
  case aB=>
   intro β A w' hβ hC hO hD
   have e0:=hO 0 (by rfl)
   have e3:=hO 3 (by rfl)
   simp [Act.eval] at e0 e3
   simp [au,aj,ak,Act.eval,Region.binds] at hD
   simp [go_sem,gd,Oper.wp,e0,e3,hD]
   exact ay.mk (Below.refl _ _) hC (aj.mk _ _)
  apply aM.step
  case aB=>
   intro β A w' hβ hC hO hD
   simp [au,aj,ak,Act.eval,Region.binds] at hD
   simp [go_sem,gd,Oper.wp,hD]
   refine (cK true w').mono ?_
   rintro e' w2 ⟨rfl,rfl⟩
   exact ay.mk (Below.refl _ _) hC (aj.mk _ _)
  refine aM.some (fun v w'=> ∃b,v= .slice (some ⟨b,0,none⟩) 2 2∧dI w' w'.heap.size [bg (mean p (j:Int) h.nm) [8],nest true] (some ⟨b,0,none⟩) 0) ?_ ?_ ?_
  ·rintro v w w' hle ⟨b,rfl,hin⟩
   exact ⟨b,rfl,hin.same hle⟩
  ·intro β A w' hβ hC hO hD
   simp [au,aj,ak,Act.eval,Region.binds] at hD
   simp [go_sem,gd,Oper.wp,hD]
   exact ay.mk (d:=_) (v:= .slice (some ⟨_,0,none⟩) 2 2) (ah _ _) (hC.trans ((ah _ _).mono hC.size)) ⟨_,rfl,dU _ _ _ _⟩
  apply aM.step
  case aB=>
   intro β A w' hβ hC hO hD
   simp [au,aj,ak,Act.eval,Region.binds] at hD
   obtain ⟨⟨ae2,Qv,Ih⟩,-⟩:=hD
   simp [go_sem,gd,Oper.wp,Qv]
   refine (cB [bg (mean p (j:Int) h.nm) [8],nest true] w' _ _ (by simp [maxLen]) Ih).mono ?_
   rintro e' w2 ⟨rfl,rfl⟩
   exact ay.mk (Below.refl _ _) hC (aj.mk _ _)
  apply aM.step
  case aB=>
   intro β A w' hβ hC hO hD
   have e0:=hO 0 (by rfl)
   have e3:=hO 3 (by rfl)
   simp [Act.eval] at e0 e3
   simp [au,aj,ak,Act.eval,Region.binds] at hD
   simp [go_sem,gd,Oper.wp,e0,e3,hD]
   exact ay.mk (Below.refl _ _) hC (aj.mk _ _)
  intro wz dP
  intro v0 h0 v1 h1 v2 h2 v3 h3 v4 h4 v5 h5 v6 h6 v7 h7 v8 h8 v9 h9 v10 h10 v11 h11 v12 h12 v13 mM v14 nW v15 oO v16 h16 v17 qx v18 h18
  have hl':v18=_:=h18
  subst hl'
  clear h0 h1 h2 h3 h4 h5 h6 h7 h8 h9 h10 h11 h12 mM nW oO h16 qx h18
  refine dG.nil ?_
  go_wp2_with fail
  go_ret
  exact ⟨bU (by first | exact HR.out | exact HR.out.symm | (rw [← HR.out]; first | rfl | simp_all)),(HX.out.next dP).1⟩
end
end Go.Proofs.YtehnipchbmjlhaaGreatDoor
