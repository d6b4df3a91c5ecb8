/-
  Contract of the reference walk's one: where nothing is appended.
  Contract of the reference walk's one: where nothing is appended.
-/
import Derived.Test.YtnknfoibmgphnaaDoorGRC
import Derived.Test.YtnknfoibmgphnaaDoorGMdRefX
import Derived.IntWalk
import Derived.Deep.RegionWith
import Derived.Test.YtnknfoibmgphnaaDoorGRA
section
set_option linter.unusedSimpArgs false
set_option linter.unusedVariables false
namespace Go.Proofs.YtnknfoibmgphnaaDoor
open Go.RowKit
open Md
section
variable (p:Pr) (w:World) (aC aF:Option Addr) (aA av:Nat) (i:Int) (aJ:Option Addr) (aI bc:Nat) (bV:Option Addr) (cK bf:Nat) (bW:Option Addr) (cO aZ:Nat)
set_option maxHeartbeats 4000000 in
set_option maxRecDepth 100000 in
theorem NT (h:eH) (b e ar:aR) (s:Sl) (hi:aX i) (hp:p.At w aC aF) (hin:jE w h b e s) (har:ar.len≤maxLen) (hat:ar.At w w.heap.size aJ 0) (hh:Holds w (kE bc p aC aF aA av i aJ ar.len aI bV cK bf bW cO aZ)) (hop:h.op=7):
 Calls Tryd.prog 39 #[.pointer (some ⟨bc,0,none⟩),aY h b e s] w fun e' w'=>e'= .returned (.int .i64 (nest (aU ar 7 7 ⟨#[]⟩)))∧Below w.heap.size w w':=by
 generalize hres:(nest (aU ar 7 7 ⟨#[]⟩))=res
 have HR:Hid (res=(nest (aU ar 7 7 ⟨#[]⟩))):=Lib.hid (by rw [← hres])
 have iG:=Lib.hid hop
 clear hres hop
 have HH:=Lib.hid (show Sit w w _ from ⟨Below.refl _ _,hh⟩)
 have jS:=Lib.hid hin
 have dG:=Lib.hid hat
 have dw:=Lib.hid har
 have HP:=Lib.hid hp
 unfold aY
 clear hh hin hat har hp
 go_enter Tryd.func39,Tryd.ntmps39
 go_upto_region 1 with fail
 generalize hW:World.alloc w _=W
 generalize Value.agg #[_,_,_,_,_,_,_,_,_,_,_]=a0
 have HX:Hid (Sit w W (iT w.heap.size h b e s (kE bc p aC aF aA av i aJ ar.len aI bV cK bf bW cO aZ))):=Lib.hid (by rw [← hW]; exact HH.out.gZ rfl _ _ _ _ _ _ _ _ _ _ _ _)
 clear hW HH
 have K0: ∀w',Below W.heap.size W w'→w'.cell? ⟨bc,0,none⟩=some (.slice aC p.ds.length aA):=fun w' hb=>(HX.out.next hb).2.2.2.2.2.2.2.2.2.2.2.2.1.2
 have K1: ∀w',Below W.heap.size W w'→w'.cell? ⟨bc,1,none⟩=some (.slice aF p.ts.length av):=fun w' hb=>(HX.out.next hb).2.2.2.2.2.2.2.2.2.2.2.2.2.1.2
 have K2: ∀w',Below W.heap.size W w'→w'.cell? ⟨bc,2,none⟩=some (.int .i64 i):=fun w' hb=>(HX.out.next hb).2.2.2.2.2.2.2.2.2.2.2.2.2.2.1.2
 have HD1:Below W.heap.size W (W.drewN 1):=below_drewN (Below.refl _ _) 1
 refine cu (by kernel_rfl) rfl ?_
 generalize W.drewN 1=W1 at *
 refine bG 0 11 [8,9] [[],[0],[0,1],[0,1,2],[],[4],[4,5],[4,5,6],[],[0,1,2,3,8],[0,1,2,3,4,5,6,7,8,9]] [[none,some false],[none,some false],[none,some false],[none,some false],[none,none],[none,none],[none,none],[none,none],[some false,some false],[some true,some false],[some true,some true]] (AC W1 (.cells #[.slice none 0 0,.slice none 0 0] 26) (.cells #[.slice aC p.ds.length aA,.slice aF p.ts.length av] 26)) (fun _ _=>True) [15,16,17,18,19,20,21,22,5,6] rfl rfl (by rfl) (by kernel_rfl) (by kernel_rfl) (by kernel_rfl) (by kernel_rfl) (by kernel_rfl) (by rfl) (fun _=>trivial) (by rfl) rfl ?_
 simp only [List.take_succ_cons,List.take_zero,List.drop_zero,List.drop_succ_cons,gP,List.map_cons,List.map_nil]
 apply aH.step
 case aB=>
  intro c A w' hok hC hO hD
  have e0:=hO 0 (by rfl)
  simp [Act.eval] at e0
  simp [au,ah,aj,Act.eval,Region.binds] at hD
  simp [go_sem,gd,Oper.wp,hD,e0]
  exact ak.mk trivial (AC.skip (by rfl) (by rfl) hC) (ah.mk _ _)
 apply aH.step
 case aB=>
  intro c A w' hok hC hO hD
  simp [au,ah,aj,Act.eval,Region.binds] at hD
  simp [go_sem,gd,Oper.wp,hD]
  exact ak.mk trivial (AC.skip (by rfl) (by rfl) hC) (ah.mk _ _)
 apply aH.step
 case aB=>
  intro c A w' hok hC hO hD
  simp [au,ah,aj,Act.eval,Region.binds] at hD
  simp [go_sem,gd,Oper.wp,hD]
  exact ak.mk trivial (AC.skip (by rfl) (by rfl) hC) (ah.mk _ _)
 apply aH.step
 case aB=>
  intro c A w' hok hC hO hD
  simp [au,ah,aj,Act.eval,Region.binds] at hD
  simp [go_sem,gd,Oper.wp,hD,K0,K1,AC.below HD1 hC]
  exact ak.mk trivial (AC.skip (by rfl) (by rfl) hC) (ah.mk _ _)
 apply aH.step
 case aB=>
  intro c A w' hok hC hO hD
  have e0:=hO 0 (by rfl)
  simp [Act.eval] at e0
  simp [au,ah,aj,Act.eval,Region.binds] at hD
  simp [go_sem,gd,Oper.wp,hD,e0]
  exact ak.mk trivial (AC.skip (by rfl) (by rfl) hC) (ah.mk _ _)
 simp only [List.nil_append,List.cons_append]
 apply aH.step
 case aB=>
  intro c A w' hok hC hO hD
  simp [au,ah,aj,Act.eval,Region.binds] at hD
  simp [go_sem,gd,Oper.wp,hD]
  exact ak.mk trivial (AC.skip (by rfl) (by rfl) hC) (ah.mk _ _)
 apply aH.step
 case aB=>
  intro c A w' hok hC hO hD
  simp [au,ah,aj,Act.eval,Region.binds] at hD
  simp [go_sem,gd,Oper.wp,hD]
  exact ak.mk trivial (AC.skip (by rfl) (by rfl) hC) (ah.mk _ _)
 apply aH.step
 case aB=>
  intro c A w' hok hC hO hD
  simp [au,ah,aj,Act.eval,Region.binds] at hD
  simp [go_sem,gd,Oper.wp,hD,K2,AC.below HD1 hC]
  exact ak.mk trivial (AC.skip (by rfl) (by rfl) hC) (ah.mk _ _)
 simp only [List.nil_append,List.cons_append]
 apply aH.step
 case aB=>
  intro c A w' hok hC hO hD
  obtain ⟨x,y,rfl⟩:=hC.bits
  obtain ⟨rfl,rfl,-⟩:=hok
  have hw:w'=W1:=hC
  subst hw
  simp [go_sem,gd,Oper.wp]
  exact ak.mk trivial (AC.lay (by rfl) (by rfl)) (ah.mk _ _)
 refine aH.some (fun _ _=>True) (fun _ _ _ _ _=>trivial) ?_ ?_
 ·intro c A w' hok hC hO hD
  obtain ⟨x,y,rfl⟩:=hC.bits
  obtain ⟨rfl,rfl,-⟩:=hok
  have hw:w'=W1.alloc _:=hC
  subst hw
  simp [au,ah,aj,Act.eval,Region.binds] at hD
  simp [go_sem,gd,Oper.wp,hD]
  exact ak.mF (v:=undef) trivial (AC.fill (by rfl) (by rfl)) trivial
 simp only [List.nil_append,List.cons_append]
 apply aH.step
 case aB=>
  intro c A w' hok hC hO hD
  simp [au,ah,aj,Act.eval,Region.binds] at hD
  simp [go_sem,gd,Oper.wp,hD]
  exact ak.mk trivial (AC.skip (by rfl) (by rfl) hC) (ah.mk _ _)
 simp only [List.nil_append,List.cons_append]
 refine aH.done ?_
 intro wz bK
 simp only [List.drop_zero]
 intro v0 h0 v1 h1 v2 h2 v3 h3 v4 h4 v5 h5 v6 h6 v7 h7 v8 h8 v9 h9 v10 h10
 have h8':v8=_:=h8
 have jG:v10=_:=h10
 subst h8' jG
 clear h0 h1 h2 h3 h4 h5 h6 h7 h8 h9 h10
 refine bM.nil ?_
 refine dQ rfl ?_
 have gN:wz=W1.alloc _:=bK
 generalize hn1:W1.heap.size=n1 at *
 have HY:=Lib.hid ((HX.out.next HD1).kC hn1 (.slice aC p.ds.length aA) (.slice aF p.ts.length av) 26)
 rw [← gN] at HY
 clear bK gN HX K0 K1 K2 HD1 hn1
 go_simp
 obtain ⟨-,⟨-,c0⟩,⟨-,c1⟩,⟨-,c2⟩,⟨-,c3⟩,⟨-,c4⟩,⟨-,c5⟩,⟨-,c6⟩,⟨-,c7⟩,⟨-,c8⟩,⟨-,c9⟩,⟨-,c10⟩,⟨-,c11⟩,⟨-,c12⟩,⟨-,c13⟩,⟨-,c14⟩,⟨-,c15⟩,⟨-,c16⟩,⟨-,c17⟩,⟨-,c18⟩,-⟩:=HY.out
 go_wp2_with fail
 refine (aQ p _ aC aF aA av i aJ aI bc bV cK bf bW cO aZ ar 7 7 ⟨#[]⟩ dw.out (dG.out.same HY.out.1) (bQ HY.out)).mono ?_
 rintro e' W ⟨rfl,hb⟩
 replace HY:=Lib.hid (HY.out.next hb)
 clear hb c0 c1 c2 c3 c4 c5 c6 c7 c8 c9 c10 c11 c12 c13 c14 c15 c16 c17 c18
 obtain ⟨-,⟨-,c0⟩,⟨-,c1⟩,⟨-,c2⟩,⟨-,c3⟩,⟨-,c4⟩,⟨-,c5⟩,⟨-,c6⟩,⟨-,c7⟩,⟨-,c8⟩,⟨-,c9⟩,⟨-,c10⟩,⟨-,c11⟩,⟨-,c12⟩,⟨-,c13⟩,⟨-,c14⟩,⟨-,c15⟩,⟨-,c16⟩,⟨-,c17⟩,⟨-,c18⟩,-⟩:=HY.out
 go_wp2_with fail
 refine (aQ p _ aC aF aA av i aJ aI bc bV cK bf bW cO aZ ar 8 8 ⟨#[]⟩ dw.out (dG.out.same HY.out.1) (bQ HY.out)).mono ?_
 rintro e' W ⟨rfl,hb⟩
 replace HY:=Lib.hid (HY.out.next hb)
 clear hb c0 c1 c2 c3 c4 c5 c6 c7 c8 c9 c10 c11 c12 c13 c14 c15 c16 c17 c18
 obtain ⟨-,⟨-,c0⟩,⟨-,c1⟩,⟨-,c2⟩,⟨-,c3⟩,⟨-,c4⟩,⟨-,c5⟩,⟨-,c6⟩,⟨-,c7⟩,⟨-,c8⟩,⟨-,c9⟩,⟨-,c10⟩,⟨-,c11⟩,⟨-,c12⟩,⟨-,c13⟩,⟨-,c14⟩,⟨-,c15⟩,⟨-,c16⟩,⟨-,c17⟩,⟨-,c18⟩,-⟩:=HY.out
 go_wp2_with fail
 refine (aQ p _ aC aF aA av i aJ aI bc bV cK bf bW cO aZ ar 3 3 ⟨#[]⟩ dw.out (dG.out.same HY.out.1) (bQ HY.out)).mono ?_
 rintro e' W ⟨rfl,hb⟩
 replace HY:=Lib.hid (HY.out.next hb)
 clear hb c0 c1 c2 c3 c4 c5 c6 c7 c8 c9 c10 c11 c12 c13 c14 c15 c16 c17 c18
 obtain ⟨-,⟨-,c0⟩,⟨-,c1⟩,⟨-,c2⟩,⟨-,c3⟩,⟨-,c4⟩,⟨-,c5⟩,⟨-,c6⟩,⟨-,c7⟩,⟨-,c8⟩,⟨-,c9⟩,⟨-,c10⟩,⟨-,c11⟩,⟨-,c12⟩,⟨-,c13⟩,⟨-,c14⟩,⟨-,c15⟩,⟨-,c16⟩,⟨-,c17⟩,⟨-,c18⟩,-⟩:=HY.out
 generalize htx:aU ar 7 7 ⟨#[]⟩=tx at *
 generalize hat':aU ar 8 8 ⟨#[]⟩=nK at *
 generalize hlo:aU ar 3 3 ⟨#[]⟩=lop at *
 clear htx hat' hlo
 have hop:=iG.out
 have g1:(h.op == 1)=false:=by rw [hop]; rfl
 have g2:(h.op == 2)=false:=by rw [hop]; rfl
 have g3:(h.op == 3)=false:=by rw [hop]; rfl
 have g4:(h.op == 4)=false:=by rw [hop]; rfl
 have g5:(h.op == 5)=false:=by rw [hop]; rfl
 have g6:(h.op == 6)=false:=by rw [hop]; rfl
 have g7:(h.op == 7)=true:=by rw [hop]; rfl
 have g8:(h.op == 8)=false:=by rw [hop]; rfl
 have g9:(h.op == 9)=false:=by rw [hop]; rfl
 have g10:(h.op == 10)=false:=by rw [hop]; rfl
 have g11:(h.op == 11)=false:=by rw [hop]; rfl
 have g12:(h.op == 12)=false:=by rw [hop]; rfl
 have g13:(h.op == 13)=false:=by rw [hop]; rfl
 have g14:(h.op == 14)=false:=by rw [hop]; rfl
 have g15:(h.op == 15)=false:=by rw [hop]; rfl
 clear hop
 go_wp2_with fail
 refine (dO _ _).mono ?_
 rintro e' W' ⟨rfl,rfl⟩
 go_wp2_with fail
 go_ret
 exact ⟨aS (by first | exact HR.out.symm | (rw [HR.out]; first | done | rfl | simp [fP,nest])),HY.out.1⟩
set_option maxHeartbeats 4000000 in
set_option maxRecDepth 100000 in
theorem Oe (h:eH) (b e ar:aR) (s:Sl) (hi:aX i) (hp:p.At w aC aF) (hin:jE w h b e s) (har:ar.len≤maxLen) (hat:ar.At w w.heap.size aJ 0) (hh:Holds w (kE bc p aC aF aA av i aJ ar.len aI bV cK bf bW cO aZ)) (hop:h.op=8):
 Calls Tryd.prog 39 #[.pointer (some ⟨bc,0,none⟩),aY h b e s] w fun e' w'=>e'= .returned (.int .i64 (nest (aU ar 7 7 ⟨#[]⟩ || aU ar 8 8 ⟨#[]⟩)))∧Below w.heap.size w w':=by
 generalize hres:(nest (aU ar 7 7 ⟨#[]⟩ || aU ar 8 8 ⟨#[]⟩))=res
 have HR:Hid (res=(nest (aU ar 7 7 ⟨#[]⟩ || aU ar 8 8 ⟨#[]⟩))):=Lib.hid (by rw [← hres])
 have iG:=Lib.hid hop
 clear hres hop
 have HH:=Lib.hid (show Sit w w _ from ⟨Below.refl _ _,hh⟩)
 have jS:=Lib.hid hin
 have dG:=Lib.hid hat
 have dw:=Lib.hid har
 have HP:=Lib.hid hp
 unfold aY
 clear hh hin hat har hp
 go_enter Tryd.func39,Tryd.ntmps39
 go_upto_region 1 with fail
 generalize hW:World.alloc w _=W
 generalize Value.agg #[_,_,_,_,_,_,_,_,_,_,_]=a0
 have HX:Hid (Sit w W (iT w.heap.size h b e s (kE bc p aC aF aA av i aJ ar.len aI bV cK bf bW cO aZ))):=Lib.hid (by rw [← hW]; exact HH.out.gZ rfl _ _ _ _ _ _ _ _ _ _ _ _)
 clear hW HH
 have K0: ∀w',Below W.heap.size W w'→w'.cell? ⟨bc,0,none⟩=some (.slice aC p.ds.length aA):=fun w' hb=>(HX.out.next hb).2.2.2.2.2.2.2.2.2.2.2.2.1.2
 have K1: ∀w',Below W.heap.size W w'→w'.cell? ⟨bc,1,none⟩=some (.slice aF p.ts.length av):=fun w' hb=>(HX.out.next hb).2.2.2.2.2.2.2.2.2.2.2.2.2.1.2
 have K2: ∀w',Below W.heap.size W w'→w'.cell? ⟨bc,2,none⟩=some (.int .i64 i):=fun w' hb=>(HX.out.next hb).2.2.2.2.2.2.2.2.2.2.2.2.2.2.1.2
 have HD1:Below W.heap.size W (W.drewN 1):=below_drewN (Below.refl _ _) 1
 refine cu (by kernel_rfl) rfl ?_
 generalize W.drewN 1=W1 at *
 refine bG 0 11 [8,9] [[],[0],[0,1],[0,1,2],[],[4],[4,5],[4,5,6],[],[0,1,2,3,8],[0,1,2,3,4,5,6,7,8,9]] [[none,some false],[none,some false],[none,some false],[none,some false],[none,none],[none,none],[none,none],[none,none],[some false,some false],[some true,some false],[some true,some true]] (AC W1 (.cells #[.slice none 0 0,.slice none 0 0] 26) (.cells #[.slice aC p.ds.length aA,.slice aF p.ts.length av] 26)) (fun _ _=>True) [15,16,17,18,19,20,21,22,5,6] rfl rfl (by rfl) (by kernel_rfl) (by kernel_rfl) (by kernel_rfl) (by kernel_rfl) (by kernel_rfl) (by rfl) (fun _=>trivial) (by rfl) rfl ?_
 simp only [List.take_succ_cons,List.take_zero,List.drop_zero,List.drop_succ_cons,gP,List.map_cons,List.map_nil]
 apply aH.step
 case aB=>
  intro c A w' hok hC hO hD
  have e0:=hO 0 (by rfl)
  simp [Act.eval] at e0
  simp [au,ah,aj,Act.eval,Region.binds] at hD
  simp [go_sem,gd,Oper.wp,hD,e0]
  exact ak.mk trivial (AC.skip (by rfl) (by rfl) hC) (ah.mk _ _)
 apply aH.step
 case aB=>
  intro c A w' hok hC hO hD
  simp [au,ah,aj,Act.eval,Region.binds] at hD
  simp [go_sem,gd,Oper.wp,hD]
  exact ak.mk trivial (AC.skip (by rfl) (by rfl) hC) (ah.mk _ _)
 apply aH.step
 case aB=>
  intro c A w' hok hC hO hD
  simp [au,ah,aj,Act.eval,Region.binds] at hD
  simp [go_sem,gd,Oper.wp,hD]
  exact ak.mk trivial (AC.skip (by rfl) (by rfl) hC) (ah.mk _ _)
 apply aH.step
 case aB=>
  intro c A w' hok hC hO hD
  simp [au,ah,aj,Act.eval,Region.binds] at hD
  simp [go_sem,gd,Oper.wp,hD,K0,K1,AC.below HD1 hC]
  exact ak.mk trivial (AC.skip (by rfl) (by rfl) hC) (ah.mk _ _)
 apply aH.step
 case aB=>
  intro c A w' hok hC hO hD
  have e0:=hO 0 (by rfl)
  simp [Act.eval] at e0
  simp [au,ah,aj,Act.eval,Region.binds] at hD
  simp [go_sem,gd,Oper.wp,hD,e0]
  exact ak.mk trivial (AC.skip (by rfl) (by rfl) hC) (ah.mk _ _)
 simp only [List.nil_append,List.cons_append]
 apply aH.step
 case aB=>
  intro c A w' hok hC hO hD
  simp [au,ah,aj,Act.eval,Region.binds] at hD
  simp [go_sem,gd,Oper.wp,hD]
  exact ak.mk trivial (AC.skip (by rfl) (by rfl) hC) (ah.mk _ _)
 apply aH.step
 case aB=>
  intro c A w' hok hC hO hD
  simp [au,ah,aj,Act.eval,Region.binds] at hD
  simp [go_sem,gd,Oper.wp,hD]
  exact ak.mk trivial (AC.skip (by rfl) (by rfl) hC) (ah.mk _ _)
 apply aH.step
 case aB=>
  intro c A w' hok hC hO hD
  simp [au,ah,aj,Act.eval,Region.binds] at hD
  simp [go_sem,gd,Oper.wp,hD,K2,AC.below HD1 hC]
  exact ak.mk trivial (AC.skip (by rfl) (by rfl) hC) (ah.mk _ _)
 simp only [List.nil_append,List.cons_append]
 apply aH.step
 case aB=>
  intro c A w' hok hC hO hD
  obtain ⟨x,y,rfl⟩:=hC.bits
  obtain ⟨rfl,rfl,-⟩:=hok
  have hw:w'=W1:=hC
  subst hw
  simp [go_sem,gd,Oper.wp]
  exact ak.mk trivial (AC.lay (by rfl) (by rfl)) (ah.mk _ _)
 refine aH.some (fun _ _=>True) (fun _ _ _ _ _=>trivial) ?_ ?_
 ·intro c A w' hok hC hO hD
  obtain ⟨x,y,rfl⟩:=hC.bits
  obtain ⟨rfl,rfl,-⟩:=hok
  have hw:w'=W1.alloc _:=hC
  subst hw
  simp [au,ah,aj,Act.eval,Region.binds] at hD
  simp [go_sem,gd,Oper.wp,hD]
  exact ak.mF (v:=undef) trivial (AC.fill (by rfl) (by rfl)) trivial
 simp only [List.nil_append,List.cons_append]
 apply aH.step
 case aB=>
  intro c A w' hok hC hO hD
  simp [au,ah,aj,Act.eval,Region.binds] at hD
  simp [go_sem,gd,Oper.wp,hD]
  exact ak.mk trivial (AC.skip (by rfl) (by rfl) hC) (ah.mk _ _)
 simp only [List.nil_append,List.cons_append]
 refine aH.done ?_
 intro wz bK
 simp only [List.drop_zero]
 intro v0 h0 v1 h1 v2 h2 v3 h3 v4 h4 v5 h5 v6 h6 v7 h7 v8 h8 v9 h9 v10 h10
 have h8':v8=_:=h8
 have jG:v10=_:=h10
 subst h8' jG
 clear h0 h1 h2 h3 h4 h5 h6 h7 h8 h9 h10
 refine bM.nil ?_
 refine dQ rfl ?_
 have gN:wz=W1.alloc _:=bK
 generalize hn1:W1.heap.size=n1 at *
 have HY:=Lib.hid ((HX.out.next HD1).kC hn1 (.slice aC p.ds.length aA) (.slice aF p.ts.length av) 26)
 rw [← gN] at HY
 clear bK gN HX K0 K1 K2 HD1 hn1
 go_simp
 obtain ⟨-,⟨-,c0⟩,⟨-,c1⟩,⟨-,c2⟩,⟨-,c3⟩,⟨-,c4⟩,⟨-,c5⟩,⟨-,c6⟩,⟨-,c7⟩,⟨-,c8⟩,⟨-,c9⟩,⟨-,c10⟩,⟨-,c11⟩,⟨-,c12⟩,⟨-,c13⟩,⟨-,c14⟩,⟨-,c15⟩,⟨-,c16⟩,⟨-,c17⟩,⟨-,c18⟩,-⟩:=HY.out
 go_wp2_with fail
 refine (aQ p _ aC aF aA av i aJ aI bc bV cK bf bW cO aZ ar 7 7 ⟨#[]⟩ dw.out (dG.out.same HY.out.1) (bQ HY.out)).mono ?_
 rintro e' W ⟨rfl,hb⟩
 replace HY:=Lib.hid (HY.out.next hb)
 clear hb c0 c1 c2 c3 c4 c5 c6 c7 c8 c9 c10 c11 c12 c13 c14 c15 c16 c17 c18
 obtain ⟨-,⟨-,c0⟩,⟨-,c1⟩,⟨-,c2⟩,⟨-,c3⟩,⟨-,c4⟩,⟨-,c5⟩,⟨-,c6⟩,⟨-,c7⟩,⟨-,c8⟩,⟨-,c9⟩,⟨-,c10⟩,⟨-,c11⟩,⟨-,c12⟩,⟨-,c13⟩,⟨-,c14⟩,⟨-,c15⟩,⟨-,c16⟩,⟨-,c17⟩,⟨-,c18⟩,-⟩:=HY.out
 go_wp2_with fail
 refine (aQ p _ aC aF aA av i aJ aI bc bV cK bf bW cO aZ ar 8 8 ⟨#[]⟩ dw.out (dG.out.same HY.out.1) (bQ HY.out)).mono ?_
 rintro e' W ⟨rfl,hb⟩
 replace HY:=Lib.hid (HY.out.next hb)
 clear hb c0 c1 c2 c3 c4 c5 c6 c7 c8 c9 c10 c11 c12 c13 c14 c15 c16 c17 c18
 obtain ⟨-,⟨-,c0⟩,⟨-,c1⟩,⟨-,c2⟩,⟨-,c3⟩,⟨-,c4⟩,⟨-,c5⟩,⟨-,c6⟩,⟨-,c7⟩,⟨-,c8⟩,⟨-,c9⟩,⟨-,c10⟩,⟨-,c11⟩,⟨-,c12⟩,⟨-,c13⟩,⟨-,c14⟩,⟨-,c15⟩,⟨-,c16⟩,⟨-,c17⟩,⟨-,c18⟩,-⟩:=HY.out
 go_wp2_with fail
 refine (aQ p _ aC aF aA av i aJ aI bc bV cK bf bW cO aZ ar 3 3 ⟨#[]⟩ dw.out (dG.out.same HY.out.1) (bQ HY.out)).mono ?_
 rintro e' W ⟨rfl,hb⟩
 replace HY:=Lib.hid (HY.out.next hb)
 clear hb c0 c1 c2 c3 c4 c5 c6 c7 c8 c9 c10 c11 c12 c13 c14 c15 c16 c17 c18
 obtain ⟨-,⟨-,c0⟩,⟨-,c1⟩,⟨-,c2⟩,⟨-,c3⟩,⟨-,c4⟩,⟨-,c5⟩,⟨-,c6⟩,⟨-,c7⟩,⟨-,c8⟩,⟨-,c9⟩,⟨-,c10⟩,⟨-,c11⟩,⟨-,c12⟩,⟨-,c13⟩,⟨-,c14⟩,⟨-,c15⟩,⟨-,c16⟩,⟨-,c17⟩,⟨-,c18⟩,-⟩:=HY.out
 generalize htx:aU ar 7 7 ⟨#[]⟩=tx at *
 generalize hat':aU ar 8 8 ⟨#[]⟩=nK at *
 generalize hlo:aU ar 3 3 ⟨#[]⟩=lop at *
 clear htx hat' hlo
 have hop:=iG.out
 have g1:(h.op == 1)=false:=by rw [hop]; rfl
 have g2:(h.op == 2)=false:=by rw [hop]; rfl
 have g3:(h.op == 3)=false:=by rw [hop]; rfl
 have g4:(h.op == 4)=false:=by rw [hop]; rfl
 have g5:(h.op == 5)=false:=by rw [hop]; rfl
 have g6:(h.op == 6)=false:=by rw [hop]; rfl
 have g7:(h.op == 7)=false:=by rw [hop]; rfl
 have g8:(h.op == 8)=true:=by rw [hop]; rfl
 have g9:(h.op == 9)=false:=by rw [hop]; rfl
 have g10:(h.op == 10)=false:=by rw [hop]; rfl
 have g11:(h.op == 11)=false:=by rw [hop]; rfl
 have g12:(h.op == 12)=false:=by rw [hop]; rfl
 have g13:(h.op == 13)=false:=by rw [hop]; rfl
 have g14:(h.op == 14)=false:=by rw [hop]; rfl
 have g15:(h.op == 15)=false:=by rw [hop]; rfl
 clear hop
 cases tx
 ·go_wp2_with fail
  refine (dO _ _).mono ?_
  rintro e' W' ⟨rfl,rfl⟩
  go_wp2_with fail
  go_ret
  exact ⟨aS (by first | exact HR.out.symm | (rw [HR.out]; first | done | rfl | simp [fP,nest])),HY.out.1⟩
 ·go_wp2_with fail
  refine (dO _ _).mono ?_
  rintro e' W' ⟨rfl,rfl⟩
  go_wp2_with fail
  go_ret
  exact ⟨aS (by first | exact HR.out.symm | (rw [HR.out]; first | done | rfl | simp [fP,nest])),HY.out.1⟩
set_option maxHeartbeats 4000000 in
set_option maxRecDepth 100000 in
theorem Nl (h:eH) (b e ar:aR) (s:Sl) (hi:aX i) (hp:p.At w aC aF) (hin:jE w h b e s) (har:ar.len≤maxLen) (hat:ar.At w w.heap.size aJ 0) (hh:Holds w (kE bc p aC aF aA av i aJ ar.len aI bV cK bf bW cO aZ)) (hop:h.op=4):
 Calls Tryd.prog 39 #[.pointer (some ⟨bc,0,none⟩),aY h b e s] w fun e' w'=>e'= .returned (.int .i64 (fP (bR (conv (mean p i h.nm)) 3 3) (nest (aU ar 7 7 ⟨#[]⟩ || aU ar 4 4 h.nm))))∧Below w.heap.size w w':=by
 generalize hres:(fP (bR (conv (mean p i h.nm)) 3 3) (nest (aU ar 7 7 ⟨#[]⟩ || aU ar 4 4 h.nm)))=res
 have HR:Hid (res=(fP (bR (conv (mean p i h.nm)) 3 3) (nest (aU ar 7 7 ⟨#[]⟩ || aU ar 4 4 h.nm)))):=Lib.hid (by rw [← hres])
 have iG:=Lib.hid hop
 clear hres hop
 have HH:=Lib.hid (show Sit w w _ from ⟨Below.refl _ _,hh⟩)
 have jS:=Lib.hid hin
 have dG:=Lib.hid hat
 have dw:=Lib.hid har
 have HP:=Lib.hid hp
 unfold aY
 clear hh hin hat har hp
 go_enter Tryd.func39,Tryd.ntmps39
 go_upto_region 1 with fail
 generalize hW:World.alloc w _=W
 generalize Value.agg #[_,_,_,_,_,_,_,_,_,_,_]=a0
 have HX:Hid (Sit w W (iT w.heap.size h b e s (kE bc p aC aF aA av i aJ ar.len aI bV cK bf bW cO aZ))):=Lib.hid (by rw [← hW]; exact HH.out.gZ rfl _ _ _ _ _ _ _ _ _ _ _ _)
 clear hW HH
 have K0: ∀w',Below W.heap.size W w'→w'.cell? ⟨bc,0,none⟩=some (.slice aC p.ds.length aA):=fun w' hb=>(HX.out.next hb).2.2.2.2.2.2.2.2.2.2.2.2.1.2
 have K1: ∀w',Below W.heap.size W w'→w'.cell? ⟨bc,1,none⟩=some (.slice aF p.ts.length av):=fun w' hb=>(HX.out.next hb).2.2.2.2.2.2.2.2.2.2.2.2.2.1.2
 have K2: ∀w',Below W.heap.size W w'→w'.cell? ⟨bc,2,none⟩=some (.int .i64 i):=fun w' hb=>(HX.out.next hb).2.2.2.2.2.2.2.2.2.2.2.2.2.2.1.2
 have HD1:Below W.heap.size W (W.drewN 1):=below_drewN (Below.refl _ _) 1
 refine cu (by kernel_rfl) rfl ?_
 generalize W.drewN 1=W1 at *
 refine bG 0 11 [8,9] [[],[0],[0,1],[0,1,2],[],[4],[4,5],[4,5,6],[],[0,1,2,3,8],[0,1,2,3,4,5,6,7,8,9]] [[none,some false],[none,some false],[none,some false],[none,some false],[none,none],[none,none],[none,none],[none,none],[some false,some false],[some true,some false],[some true,some true]] (AC W1 (.cells #[.slice none 0 0,.slice none 0 0] 26) (.cells #[.slice aC p.ds.length aA,.slice aF p.ts.length av] 26)) (fun _ _=>True) [15,16,17,18,19,20,21,22,5,6] rfl rfl (by rfl) (by kernel_rfl) (by kernel_rfl) (by kernel_rfl) (by kernel_rfl) (by kernel_rfl) (by rfl) (fun _=>trivial) (by rfl) rfl ?_
 simp only [List.take_succ_cons,List.take_zero,List.drop_zero,List.drop_succ_cons,gP,List.map_cons,List.map_nil]
 apply aH.step
 case aB=>
  intro c A w' hok hC hO hD
  have e0:=hO 0 (by rfl)
  simp [Act.eval] at e0
  simp [au,ah,aj,Act.eval,Region.binds] at hD
  simp [go_sem,gd,Oper.wp,hD,e0]
  exact ak.mk trivial (AC.skip (by rfl) (by rfl) hC) (ah.mk _ _)
 apply aH.step
 case aB=>
  intro c A w' hok hC hO hD
  simp [au,ah,aj,Act.eval,Region.binds] at hD
  simp [go_sem,gd,Oper.wp,hD]
  exact ak.mk trivial (AC.skip (by rfl) (by rfl) hC) (ah.mk _ _)
 apply aH.step
 case aB=>
  intro c A w' hok hC hO hD
  simp [au,ah,aj,Act.eval,Region.binds] at hD
  simp [go_sem,gd,Oper.wp,hD]
  exact ak.mk trivial (AC.skip (by rfl) (by rfl) hC) (ah.mk _ _)
 apply aH.step
 case aB=>
  intro c A w' hok hC hO hD
  simp [au,ah,aj,Act.eval,Region.binds] at hD
  simp [go_sem,gd,Oper.wp,hD,K0,K1,AC.below HD1 hC]
  exact ak.mk trivial (AC.skip (by rfl) (by rfl) hC) (ah.mk _ _)
 apply aH.step
 case aB=>
  intro c A w' hok hC hO hD
  have e0:=hO 0 (by rfl)
  simp [Act.eval] at e0
  simp [au,ah,aj,Act.eval,Region.binds] at hD
  simp [go_sem,gd,Oper.wp,hD,e0]
  exact ak.mk trivial (AC.skip (by rfl) (by rfl) hC) (ah.mk _ _)
 simp only [List.nil_append,List.cons_append]
 apply aH.step
 case aB=>
  intro c A w' hok hC hO hD
  simp [au,ah,aj,Act.eval,Region.binds] at hD
  simp [go_sem,gd,Oper.wp,hD]
  exact ak.mk trivial (AC.skip (by rfl) (by rfl) hC) (ah.mk _ _)
 apply aH.step
 case aB=>
  intro c A w' hok hC hO hD
  simp [au,ah,aj,Act.eval,Region.binds] at hD
  simp [go_sem,gd,Oper.wp,hD]
  exact ak.mk trivial (AC.skip (by rfl) (by rfl) hC) (ah.mk _ _)
 apply aH.step
 case aB=>
  intro c A w' hok hC hO hD
  simp [au,ah,aj,Act.eval,Region.binds] at hD
  simp [go_sem,gd,Oper.wp,hD,K2,AC.below HD1 hC]
  exact ak.mk trivial (AC.skip (by rfl) (by rfl) hC) (ah.mk _ _)
 simp only [List.nil_append,List.cons_append]
 apply aH.step
 case aB=>
  intro c A w' hok hC hO hD
  obtain ⟨x,y,rfl⟩:=hC.bits
  obtain ⟨rfl,rfl,-⟩:=hok
  have hw:w'=W1:=hC
  subst hw
  simp [go_sem,gd,Oper.wp]
  exact ak.mk trivial (AC.lay (by rfl) (by rfl)) (ah.mk _ _)
 refine aH.some (fun _ _=>True) (fun _ _ _ _ _=>trivial) ?_ ?_
 ·intro c A w' hok hC hO hD
  obtain ⟨x,y,rfl⟩:=hC.bits
  obtain ⟨rfl,rfl,-⟩:=hok
  have hw:w'=W1.alloc _:=hC
  subst hw
  simp [au,ah,aj,Act.eval,Region.binds] at hD
  simp [go_sem,gd,Oper.wp,hD]
  exact ak.mF (v:=undef) trivial (AC.fill (by rfl) (by rfl)) trivial
 simp only [List.nil_append,List.cons_append]
 apply aH.step
 case aB=>
  intro c A w' hok hC hO hD
  simp [au,ah,aj,Act.eval,Region.binds] at hD
  simp [go_sem,gd,Oper.wp,hD]
  exact ak.mk trivial (AC.skip (by rfl) (by rfl) hC) (ah.mk _ _)
 simp only [List.nil_append,List.cons_append]
 refine aH.done ?_
 intro wz bK
 simp only [List.drop_zero]
 intro v0 h0 v1 h1 v2 h2 v3 h3 v4 h4 v5 h5 v6 h6 v7 h7 v8 h8 v9 h9 v10 h10
 have h8':v8=_:=h8
 have jG:v10=_:=h10
 subst h8' jG
 clear h0 h1 h2 h3 h4 h5 h6 h7 h8 h9 h10
 refine bM.nil ?_
 refine dQ rfl ?_
 have gN:wz=W1.alloc _:=bK
 generalize hn1:W1.heap.size=n1 at *
 have HY:=Lib.hid ((HX.out.next HD1).kC hn1 (.slice aC p.ds.length aA) (.slice aF p.ts.length av) 26)
 rw [← gN] at HY
 clear bK gN HX K0 K1 K2 HD1 hn1
 go_simp
 obtain ⟨-,⟨-,c0⟩,⟨-,c1⟩,⟨-,c2⟩,⟨-,c3⟩,⟨-,c4⟩,⟨-,c5⟩,⟨-,c6⟩,⟨-,c7⟩,⟨-,c8⟩,⟨-,c9⟩,⟨-,c10⟩,⟨-,c11⟩,⟨-,c12⟩,⟨-,c13⟩,⟨-,c14⟩,⟨-,c15⟩,⟨-,c16⟩,⟨-,c17⟩,⟨-,c18⟩,-⟩:=HY.out
 go_wp2_with fail
 refine (aQ p _ aC aF aA av i aJ aI bc bV cK bf bW cO aZ ar 7 7 ⟨#[]⟩ dw.out (dG.out.same HY.out.1) (bQ HY.out)).mono ?_
 rintro e' W ⟨rfl,hb⟩
 replace HY:=Lib.hid (HY.out.next hb)
 clear hb c0 c1 c2 c3 c4 c5 c6 c7 c8 c9 c10 c11 c12 c13 c14 c15 c16 c17 c18
 obtain ⟨-,⟨-,c0⟩,⟨-,c1⟩,⟨-,c2⟩,⟨-,c3⟩,⟨-,c4⟩,⟨-,c5⟩,⟨-,c6⟩,⟨-,c7⟩,⟨-,c8⟩,⟨-,c9⟩,⟨-,c10⟩,⟨-,c11⟩,⟨-,c12⟩,⟨-,c13⟩,⟨-,c14⟩,⟨-,c15⟩,⟨-,c16⟩,⟨-,c17⟩,⟨-,c18⟩,-⟩:=HY.out
 go_wp2_with fail
 refine (aQ p _ aC aF aA av i aJ aI bc bV cK bf bW cO aZ ar 8 8 ⟨#[]⟩ dw.out (dG.out.same HY.out.1) (bQ HY.out)).mono ?_
 rintro e' W ⟨rfl,hb⟩
 replace HY:=Lib.hid (HY.out.next hb)
 clear hb c0 c1 c2 c3 c4 c5 c6 c7 c8 c9 c10 c11 c12 c13 c14 c15 c16 c17 c18
 obtain ⟨-,⟨-,c0⟩,⟨-,c1⟩,⟨-,c2⟩,⟨-,c3⟩,⟨-,c4⟩,⟨-,c5⟩,⟨-,c6⟩,⟨-,c7⟩,⟨-,c8⟩,⟨-,c9⟩,⟨-,c10⟩,⟨-,c11⟩,⟨-,c12⟩,⟨-,c13⟩,⟨-,c14⟩,⟨-,c15⟩,⟨-,c16⟩,⟨-,c17⟩,⟨-,c18⟩,-⟩:=HY.out
 go_wp2_with fail
 refine (aQ p _ aC aF aA av i aJ aI bc bV cK bf bW cO aZ ar 3 3 ⟨#[]⟩ dw.out (dG.out.same HY.out.1) (bQ HY.out)).mono ?_
 rintro e' W ⟨rfl,hb⟩
 replace HY:=Lib.hid (HY.out.next hb)
 clear hb c0 c1 c2 c3 c4 c5 c6 c7 c8 c9 c10 c11 c12 c13 c14 c15 c16 c17 c18
 obtain ⟨-,⟨-,c0⟩,⟨-,c1⟩,⟨-,c2⟩,⟨-,c3⟩,⟨-,c4⟩,⟨-,c5⟩,⟨-,c6⟩,⟨-,c7⟩,⟨-,c8⟩,⟨-,c9⟩,⟨-,c10⟩,⟨-,c11⟩,⟨-,c12⟩,⟨-,c13⟩,⟨-,c14⟩,⟨-,c15⟩,⟨-,c16⟩,⟨-,c17⟩,⟨-,c18⟩,-⟩:=HY.out
 generalize htx:aU ar 7 7 ⟨#[]⟩=tx at *
 generalize hat':aU ar 8 8 ⟨#[]⟩=nK at *
 generalize hlo:aU ar 3 3 ⟨#[]⟩=lop at *
 clear htx hat' hlo
 have hop:=iG.out
 have g1:(h.op == 1)=false:=by rw [hop]; rfl
 have g2:(h.op == 2)=false:=by rw [hop]; rfl
 have g3:(h.op == 3)=false:=by rw [hop]; rfl
 have g4:(h.op == 4)=true:=by rw [hop]; rfl
 have g5:(h.op == 5)=false:=by rw [hop]; rfl
 have g6:(h.op == 6)=false:=by rw [hop]; rfl
 have g7:(h.op == 7)=false:=by rw [hop]; rfl
 have g8:(h.op == 8)=false:=by rw [hop]; rfl
 have g9:(h.op == 9)=false:=by rw [hop]; rfl
 have g10:(h.op == 10)=false:=by rw [hop]; rfl
 have g11:(h.op == 11)=false:=by rw [hop]; rfl
 have g12:(h.op == 12)=false:=by rw [hop]; rfl
 have g13:(h.op == 13)=false:=by rw [hop]; rfl
 have g14:(h.op == 14)=false:=by rw [hop]; rfl
 have g15:(h.op == 15)=false:=by rw [hop]; rfl
 clear hop
 cases tx
 ·go_wp2_with fail
  refine (fM p i h.nm 3 3 _ aC aF aA av hi (HP.out.same HY.out.1)).mono ?_
  rintro e' W ⟨rfl,hb⟩
  replace HY:=Lib.hid (HY.out.next hb)
  clear hb c0 c1 c2 c3 c4 c5 c6 c7 c8 c9 c10 c11 c12 c13 c14 c15 c16 c17 c18
  obtain ⟨-,⟨-,c0⟩,⟨-,c1⟩,⟨-,c2⟩,⟨-,c3⟩,⟨-,c4⟩,⟨-,c5⟩,⟨-,c6⟩,⟨-,c7⟩,⟨-,c8⟩,⟨-,c9⟩,⟨-,c10⟩,⟨-,c11⟩,⟨-,c12⟩,⟨-,c13⟩,⟨-,c14⟩,⟨-,c15⟩,⟨-,c16⟩,⟨-,c17⟩,⟨-,c18⟩,-⟩:=HY.out
  go_wp2_with fail
  refine (aQ p _ aC aF aA av i aJ aI bc bV cK bf bW cO aZ ar 4 4 h.nm dw.out (dG.out.same HY.out.1) (bQ HY.out)).mono ?_
  rintro e' W ⟨rfl,hb⟩
  replace HY:=Lib.hid (HY.out.next hb)
  clear hb c0 c1 c2 c3 c4 c5 c6 c7 c8 c9 c10 c11 c12 c13 c14 c15 c16 c17 c18
  obtain ⟨-,⟨-,c0⟩,⟨-,c1⟩,⟨-,c2⟩,⟨-,c3⟩,⟨-,c4⟩,⟨-,c5⟩,⟨-,c6⟩,⟨-,c7⟩,⟨-,c8⟩,⟨-,c9⟩,⟨-,c10⟩,⟨-,c11⟩,⟨-,c12⟩,⟨-,c13⟩,⟨-,c14⟩,⟨-,c15⟩,⟨-,c16⟩,⟨-,c17⟩,⟨-,c18⟩,-⟩:=HY.out
  go_wp2_with fail
  refine (dO _ _).mono ?_
  rintro e' W' ⟨rfl,rfl⟩
  go_wp2_with fail
  refine (gU _ _ _).mono ?_
  rintro e' W' ⟨rfl,rfl⟩
  go_wp2_with fail
  go_ret
  exact ⟨aS (by first | exact HR.out.symm | (rw [HR.out]; first | done | rfl | simp [fP,nest])),HY.out.1⟩
 ·go_wp2_with fail
  refine (fM p i h.nm 3 3 _ aC aF aA av hi (HP.out.same HY.out.1)).mono ?_
  rintro e' W ⟨rfl,hb⟩
  replace HY:=Lib.hid (HY.out.next hb)
  clear hb c0 c1 c2 c3 c4 c5 c6 c7 c8 c9 c10 c11 c12 c13 c14 c15 c16 c17 c18
  obtain ⟨-,⟨-,c0⟩,⟨-,c1⟩,⟨-,c2⟩,⟨-,c3⟩,⟨-,c4⟩,⟨-,c5⟩,⟨-,c6⟩,⟨-,c7⟩,⟨-,c8⟩,⟨-,c9⟩,⟨-,c10⟩,⟨-,c11⟩,⟨-,c12⟩,⟨-,c13⟩,⟨-,c14⟩,⟨-,c15⟩,⟨-,c16⟩,⟨-,c17⟩,⟨-,c18⟩,-⟩:=HY.out
  go_wp2_with fail
  refine (dO _ _).mono ?_
  rintro e' W' ⟨rfl,rfl⟩
  go_wp2_with fail
  refine (gU _ _ _).mono ?_
  rintro e' W' ⟨rfl,rfl⟩
  go_wp2_with fail
  go_ret
  exact ⟨aS (by first | exact HR.out.symm | (rw [HR.out]; first | done | rfl | simp [fP,nest])),HY.out.1⟩
set_option maxHeartbeats 4000000 in
set_option maxRecDepth 100000 in
theorem OQ (h:eH) (b e ar:aR) (s:Sl) (hi:aX i) (hp:p.At w aC aF) (hin:jE w h b e s) (har:ar.len≤maxLen) (hat:ar.At w w.heap.size aJ 0) (hh:Holds w (kE bc p aC aF aA av i aJ ar.len aI bV cK bf bW cO aZ)) (hop:h.op=5):
 Calls Tryd.prog 39 #[.pointer (some ⟨bc,0,none⟩),aY h b e s] w fun e' w'=>e'= .returned (.int .i64 (fP (bR (conv (mean p i h.nm)) 4 4) (nest (aU ar 7 7 ⟨#[]⟩ || aU ar 5 6 h.nm))))∧Below w.heap.size w w':=by
 generalize hres:(fP (bR (conv (mean p i h.nm)) 4 4) (nest (aU ar 7 7 ⟨#[]⟩ || aU ar 5 6 h.nm)))=res
 have HR:Hid (res=(fP (bR (conv (mean p i h.nm)) 4 4) (nest (aU ar 7 7 ⟨#[]⟩ || aU ar 5 6 h.nm)))):=Lib.hid (by rw [← hres])
 have iG:=Lib.hid hop
 clear hres hop
 have HH:=Lib.hid (show Sit w w _ from ⟨Below.refl _ _,hh⟩)
 have jS:=Lib.hid hin
 have dG:=Lib.hid hat
 have dw:=Lib.hid har
 have HP:=Lib.hid hp
 unfold aY
 clear hh hin hat har hp
 go_enter Tryd.func39,Tryd.ntmps39
 go_upto_region 1 with fail
 generalize hW:World.alloc w _=W
 generalize Value.agg #[_,_,_,_,_,_,_,_,_,_,_]=a0
 have HX:Hid (Sit w W (iT w.heap.size h b e s (kE bc p aC aF aA av i aJ ar.len aI bV cK bf bW cO aZ))):=Lib.hid (by rw [← hW]; exact HH.out.gZ rfl _ _ _ _ _ _ _ _ _ _ _ _)
 clear hW HH
 have K0: ∀w',Below W.heap.size W w'→w'.cell? ⟨bc,0,none⟩=some (.slice aC p.ds.length aA):=fun w' hb=>(HX.out.next hb).2.2.2.2.2.2.2.2.2.2.2.2.1.2
 have K1: ∀w',Below W.heap.size W w'→w'.cell? ⟨bc,1,none⟩=some (.slice aF p.ts.length av):=fun w' hb=>(HX.out.next hb).2.2.2.2.2.2.2.2.2.2.2.2.2.1.2
 have K2: ∀w',Below W.heap.size W w'→w'.cell? ⟨bc,2,none⟩=some (.int .i64 i):=fun w' hb=>(HX.out.next hb).2.2.2.2.2.2.2.2.2.2.2.2.2.2.1.2
 have HD1:Below W.heap.size W (W.drewN 1):=below_drewN (Below.refl _ _) 1
 refine cu (by kernel_rfl) rfl ?_
 generalize W.drewN 1=W1 at *
 refine bG 0 11 [8,9] [[],[0],[0,1],[0,1,2],[],[4],[4,5],[4,5,6],[],[0,1,2,3,8],[0,1,2,3,4,5,6,7,8,9]] [[none,some false],[none,some false],[none,some false],[none,some false],[none,none],[none,none],[none,none],[none,none],[some false,some false],[some true,some false],[some true,some true]] (AC W1 (.cells #[.slice none 0 0,.slice none 0 0] 26) (.cells #[.slice aC p.ds.length aA,.slice aF p.ts.length av] 26)) (fun _ _=>True) [15,16,17,18,19,20,21,22,5,6] rfl rfl (by rfl) (by kernel_rfl) (by kernel_rfl) (by kernel_rfl) (by kernel_rfl) (by kernel_rfl) (by rfl) (fun _=>trivial) (by rfl) rfl ?_
 simp only [List.take_succ_cons,List.take_zero,List.drop_zero,List.drop_succ_cons,gP,List.map_cons,List.map_nil]
 apply aH.step
 case aB=>
  intro c A w' hok hC hO hD
  have e0:=hO 0 (by rfl)
  simp [Act.eval] at e0
  simp [au,ah,aj,Act.eval,Region.binds] at hD
  simp [go_sem,gd,Oper.wp,hD,e0]
  exact ak.mk trivial (AC.skip (by rfl) (by rfl) hC) (ah.mk _ _)
 apply aH.step
 case aB=>
  intro c A w' hok hC hO hD
  simp [au,ah,aj,Act.eval,Region.binds] at hD
  simp [go_sem,gd,Oper.wp,hD]
  exact ak.mk trivial (AC.skip (by rfl) (by rfl) hC) (ah.mk _ _)
 apply aH.step
 case aB=>
  intro c A w' hok hC hO hD
  simp [au,ah,aj,Act.eval,Region.binds] at hD
  simp [go_sem,gd,Oper.wp,hD]
  exact ak.mk trivial (AC.skip (by rfl) (by rfl) hC) (ah.mk _ _)
 apply aH.step
 case aB=>
  intro c A w' hok hC hO hD
  simp [au,ah,aj,Act.eval,Region.binds] at hD
  simp [go_sem,gd,Oper.wp,hD,K0,K1,AC.below HD1 hC]
  exact ak.mk trivial (AC.skip (by rfl) (by rfl) hC) (ah.mk _ _)
 apply aH.step
 case aB=>
  intro c A w' hok hC hO hD
  have e0:=hO 0 (by rfl)
  simp [Act.eval] at e0
  simp [au,ah,aj,Act.eval,Region.binds] at hD
  simp [go_sem,gd,Oper.wp,hD,e0]
  exact ak.mk trivial (AC.skip (by rfl) (by rfl) hC) (ah.mk _ _)
 simp only [List.nil_append,List.cons_append]
 apply aH.step
 case aB=>
  intro c A w' hok hC hO hD
  simp [au,ah,aj,Act.eval,Region.binds] at hD
  simp [go_sem,gd,Oper.wp,hD]
  exact ak.mk trivial (AC.skip (by rfl) (by rfl) hC) (ah.mk _ _)
 apply aH.step
 case aB=>
  intro c A w' hok hC hO hD
  simp [au,ah,aj,Act.eval,Region.binds] at hD
  simp [go_sem,gd,Oper.wp,hD]
  exact ak.mk trivial (AC.skip (by rfl) (by rfl) hC) (ah.mk _ _)
 apply aH.step
 case aB=>
  intro c A w' hok hC hO hD
  simp [au,ah,aj,Act.eval,Region.binds] at hD
  simp [go_sem,gd,Oper.wp,hD,K2,AC.below HD1 hC]
  exact ak.mk trivial (AC.skip (by rfl) (by rfl) hC) (ah.mk _ _)
 simp only [List.nil_append,List.cons_append]
 apply aH.step
 case aB=>
  intro c A w' hok hC hO hD
  obtain ⟨x,y,rfl⟩:=hC.bits
  obtain ⟨rfl,rfl,-⟩:=hok
  have hw:w'=W1:=hC
  subst hw
  simp [go_sem,gd,Oper.wp]
  exact ak.mk trivial (AC.lay (by rfl) (by rfl)) (ah.mk _ _)
 refine aH.some (fun _ _=>True) (fun _ _ _ _ _=>trivial) ?_ ?_
 ·intro c A w' hok hC hO hD
  obtain ⟨x,y,rfl⟩:=hC.bits
  obtain ⟨rfl,rfl,-⟩:=hok
  have hw:w'=W1.alloc _:=hC
  subst hw
  simp [au,ah,aj,Act.eval,Region.binds] at hD
  simp [go_sem,gd,Oper.wp,hD]
  exact ak.mF (v:=undef) trivial (AC.fill (by rfl) (by rfl)) trivial
 simp only [List.nil_append,List.cons_append]
 apply aH.step
 case aB=>
  intro c A w' hok hC hO hD
  simp [au,ah,aj,Act.eval,Region.binds] at hD
  simp [go_sem,gd,Oper.wp,hD]
  exact ak.mk trivial (AC.skip (by rfl) (by rfl) hC) (ah.mk _ _)
 simp only [List.nil_append,List.cons_append]
 refine aH.done ?_
 intro wz bK
 simp only [List.drop_zero]
 intro v0 h0 v1 h1 v2 h2 v3 h3 v4 h4 v5 h5 v6 h6 v7 h7 v8 h8 v9 h9 v10 h10
 have h8':v8=_:=h8
 have jG:v10=_:=h10
 subst h8' jG
 clear h0 h1 h2 h3 h4 h5 h6 h7 h8 h9 h10
 refine bM.nil ?_
 refine dQ rfl ?_
 have gN:wz=W1.alloc _:=bK
 generalize hn1:W1.heap.size=n1 at *
 have HY:=Lib.hid ((HX.out.next HD1).kC hn1 (.slice aC p.ds.length aA) (.slice aF p.ts.length av) 26)
 rw [← gN] at HY
 clear bK gN HX K0 K1 K2 HD1 hn1
 go_simp
 obtain ⟨-,⟨-,c0⟩,⟨-,c1⟩,⟨-,c2⟩,⟨-,c3⟩,⟨-,c4⟩,⟨-,c5⟩,⟨-,c6⟩,⟨-,c7⟩,⟨-,c8⟩,⟨-,c9⟩,⟨-,c10⟩,⟨-,c11⟩,⟨-,c12⟩,⟨-,c13⟩,⟨-,c14⟩,⟨-,c15⟩,⟨-,c16⟩,⟨-,c17⟩,⟨-,c18⟩,-⟩:=HY.out
 go_wp2_with fail
 refine (aQ p _ aC aF aA av i aJ aI bc bV cK bf bW cO aZ ar 7 7 ⟨#[]⟩ dw.out (dG.out.same HY.out.1) (bQ HY.out)).mono ?_
 rintro e' W ⟨rfl,hb⟩
 replace HY:=Lib.hid (HY.out.next hb)
 clear hb c0 c1 c2 c3 c4 c5 c6 c7 c8 c9 c10 c11 c12 c13 c14 c15 c16 c17 c18
 obtain ⟨-,⟨-,c0⟩,⟨-,c1⟩,⟨-,c2⟩,⟨-,c3⟩,⟨-,c4⟩,⟨-,c5⟩,⟨-,c6⟩,⟨-,c7⟩,⟨-,c8⟩,⟨-,c9⟩,⟨-,c10⟩,⟨-,c11⟩,⟨-,c12⟩,⟨-,c13⟩,⟨-,c14⟩,⟨-,c15⟩,⟨-,c16⟩,⟨-,c17⟩,⟨-,c18⟩,-⟩:=HY.out
 go_wp2_with fail
 refine (aQ p _ aC aF aA av i aJ aI bc bV cK bf bW cO aZ ar 8 8 ⟨#[]⟩ dw.out (dG.out.same HY.out.1) (bQ HY.out)).mono ?_
 rintro e' W ⟨rfl,hb⟩
 replace HY:=Lib.hid (HY.out.next hb)
 clear hb c0 c1 c2 c3 c4 c5 c6 c7 c8 c9 c10 c11 c12 c13 c14 c15 c16 c17 c18
 obtain ⟨-,⟨-,c0⟩,⟨-,c1⟩,⟨-,c2⟩,⟨-,c3⟩,⟨-,c4⟩,⟨-,c5⟩,⟨-,c6⟩,⟨-,c7⟩,⟨-,c8⟩,⟨-,c9⟩,⟨-,c10⟩,⟨-,c11⟩,⟨-,c12⟩,⟨-,c13⟩,⟨-,c14⟩,⟨-,c15⟩,⟨-,c16⟩,⟨-,c17⟩,⟨-,c18⟩,-⟩:=HY.out
 go_wp2_with fail
 refine (aQ p _ aC aF aA av i aJ aI bc bV cK bf bW cO aZ ar 3 3 ⟨#[]⟩ dw.out (dG.out.same HY.out.1) (bQ HY.out)).mono ?_
 rintro e' W ⟨rfl,hb⟩
 replace HY:=Lib.hid (HY.out.next hb)
 clear hb c0 c1 c2 c3 c4 c5 c6 c7 c8 c9 c10 c11 c12 c13 c14 c15 c16 c17 c18
 obtain ⟨-,⟨-,c0⟩,⟨-,c1⟩,⟨-,c2⟩,⟨-,c3⟩,⟨-,c4⟩,⟨-,c5⟩,⟨-,c6⟩,⟨-,c7⟩,⟨-,c8⟩,⟨-,c9⟩,⟨-,c10⟩,⟨-,c11⟩,⟨-,c12⟩,⟨-,c13⟩,⟨-,c14⟩,⟨-,c15⟩,⟨-,c16⟩,⟨-,c17⟩,⟨-,c18⟩,-⟩:=HY.out
 generalize htx:aU ar 7 7 ⟨#[]⟩=tx at *
 generalize hat':aU ar 8 8 ⟨#[]⟩=nK at *
 generalize hlo:aU ar 3 3 ⟨#[]⟩=lop at *
 clear htx hat' hlo
 have hop:=iG.out
 have g1:(h.op == 1)=false:=by rw [hop]; rfl
 have g2:(h.op == 2)=false:=by rw [hop]; rfl
 have g3:(h.op == 3)=false:=by rw [hop]; rfl
 have g4:(h.op == 4)=false:=by rw [hop]; rfl
 have g5:(h.op == 5)=true:=by rw [hop]; rfl
 have g6:(h.op == 6)=false:=by rw [hop]; rfl
 have g7:(h.op == 7)=false:=by rw [hop]; rfl
 have g8:(h.op == 8)=false:=by rw [hop]; rfl
 have g9:(h.op == 9)=false:=by rw [hop]; rfl
 have g10:(h.op == 10)=false:=by rw [hop]; rfl
 have g11:(h.op == 11)=false:=by rw [hop]; rfl
 have g12:(h.op == 12)=false:=by rw [hop]; rfl
 have g13:(h.op == 13)=false:=by rw [hop]; rfl
 have g14:(h.op == 14)=false:=by rw [hop]; rfl
 have g15:(h.op == 15)=false:=by rw [hop]; rfl
 clear hop
 cases tx
 ·go_wp2_with fail
  refine (fM p i h.nm 4 4 _ aC aF aA av hi (HP.out.same HY.out.1)).mono ?_
  rintro e' W ⟨rfl,hb⟩
  replace HY:=Lib.hid (HY.out.next hb)
  clear hb c0 c1 c2 c3 c4 c5 c6 c7 c8 c9 c10 c11 c12 c13 c14 c15 c16 c17 c18
  obtain ⟨-,⟨-,c0⟩,⟨-,c1⟩,⟨-,c2⟩,⟨-,c3⟩,⟨-,c4⟩,⟨-,c5⟩,⟨-,c6⟩,⟨-,c7⟩,⟨-,c8⟩,⟨-,c9⟩,⟨-,c10⟩,⟨-,c11⟩,⟨-,c12⟩,⟨-,c13⟩,⟨-,c14⟩,⟨-,c15⟩,⟨-,c16⟩,⟨-,c17⟩,⟨-,c18⟩,-⟩:=HY.out
  go_wp2_with fail
  refine (aQ p _ aC aF aA av i aJ aI bc bV cK bf bW cO aZ ar 5 6 h.nm dw.out (dG.out.same HY.out.1) (bQ HY.out)).mono ?_
  rintro e' W ⟨rfl,hb⟩
  replace HY:=Lib.hid (HY.out.next hb)
  clear hb c0 c1 c2 c3 c4 c5 c6 c7 c8 c9 c10 c11 c12 c13 c14 c15 c16 c17 c18
  obtain ⟨-,⟨-,c0⟩,⟨-,c1⟩,⟨-,c2⟩,⟨-,c3⟩,⟨-,c4⟩,⟨-,c5⟩,⟨-,c6⟩,⟨-,c7⟩,⟨-,c8⟩,⟨-,c9⟩,⟨-,c10⟩,⟨-,c11⟩,⟨-,c12⟩,⟨-,c13⟩,⟨-,c14⟩,⟨-,c15⟩,⟨-,c16⟩,⟨-,c17⟩,⟨-,c18⟩,-⟩:=HY.out
  go_wp2_with fail
  refine (dO _ _).mono ?_
  rintro e' W' ⟨rfl,rfl⟩
  go_wp2_with fail
  refine (gU _ _ _).mono ?_
  rintro e' W' ⟨rfl,rfl⟩
  go_wp2_with fail
  go_ret
  exact ⟨aS (by first | exact HR.out.symm | (rw [HR.out]; first | done | rfl | simp [fP,nest])),HY.out.1⟩
 ·go_wp2_with fail
  refine (fM p i h.nm 4 4 _ aC aF aA av hi (HP.out.same HY.out.1)).mono ?_
  rintro e' W ⟨rfl,hb⟩
  replace HY:=Lib.hid (HY.out.next hb)
  clear hb c0 c1 c2 c3 c4 c5 c6 c7 c8 c9 c10 c11 c12 c13 c14 c15 c16 c17 c18
  obtain ⟨-,⟨-,c0⟩,⟨-,c1⟩,⟨-,c2⟩,⟨-,c3⟩,⟨-,c4⟩,⟨-,c5⟩,⟨-,c6⟩,⟨-,c7⟩,⟨-,c8⟩,⟨-,c9⟩,⟨-,c10⟩,⟨-,c11⟩,⟨-,c12⟩,⟨-,c13⟩,⟨-,c14⟩,⟨-,c15⟩,⟨-,c16⟩,⟨-,c17⟩,⟨-,c18⟩,-⟩:=HY.out
  go_wp2_with fail
  refine (dO _ _).mono ?_
  rintro e' W' ⟨rfl,rfl⟩
  go_wp2_with fail
  refine (gU _ _ _).mono ?_
  rintro e' W' ⟨rfl,rfl⟩
  go_wp2_with fail
  go_ret
  exact ⟨aS (by first | exact HR.out.symm | (rw [HR.out]; first | done | rfl | simp [fP,nest])),HY.out.1⟩
set_option maxHeartbeats 4000000 in
set_option maxRecDepth 100000 in
theorem NA (h:eH) (b e ar:aR) (s:Sl) (hi:aX i) (hp:p.At w aC aF) (hin:jE w h b e s) (har:ar.len≤maxLen) (hat:ar.At w w.heap.size aJ 0) (hh:Holds w (kE bc p aC aF aA av i aJ ar.len aI bV cK bf bW cO aZ)) (hop:h.op=6):
 Calls Tryd.prog 39 #[.pointer (some ⟨bc,0,none⟩),aY h b e s] w fun e' w'=>e'= .returned (.int .i64 (fP (bR (conv (mean p i h.nm)) 4 4) (nest (aU ar 7 7 ⟨#[]⟩ || aU ar 5 6 h.nm))))∧Below w.heap.size w w':=by
 generalize hres:(fP (bR (conv (mean p i h.nm)) 4 4) (nest (aU ar 7 7 ⟨#[]⟩ || aU ar 5 6 h.nm)))=res
 have HR:Hid (res=(fP (bR (conv (mean p i h.nm)) 4 4) (nest (aU ar 7 7 ⟨#[]⟩ || aU ar 5 6 h.nm)))):=Lib.hid (by rw [← hres])
 have iG:=Lib.hid hop
 clear hres hop
 have HH:=Lib.hid (show Sit w w _ from ⟨Below.refl _ _,hh⟩)
 have jS:=Lib.hid hin
 have dG:=Lib.hid hat
 have dw:=Lib.hid har
 have HP:=Lib.hid hp
 unfold aY
 clear hh hin hat har hp
 go_enter Tryd.func39,Tryd.ntmps39
 go_upto_region 1 with fail
 generalize hW:World.alloc w _=W
 generalize Value.agg #[_,_,_,_,_,_,_,_,_,_,_]=a0
 have HX:Hid (Sit w W (iT w.heap.size h b e s (kE bc p aC aF aA av i aJ ar.len aI bV cK bf bW cO aZ))):=Lib.hid (by rw [← hW]; exact HH.out.gZ rfl _ _ _ _ _ _ _ _ _ _ _ _)
 clear hW HH
 have K0: ∀w',Below W.heap.size W w'→w'.cell? ⟨bc,0,none⟩=some (.slice aC p.ds.length aA):=fun w' hb=>(HX.out.next hb).2.2.2.2.2.2.2.2.2.2.2.2.1.2
 have K1: ∀w',Below W.heap.size W w'→w'.cell? ⟨bc,1,none⟩=some (.slice aF p.ts.length av):=fun w' hb=>(HX.out.next hb).2.2.2.2.2.2.2.2.2.2.2.2.2.1.2
 have K2: ∀w',Below W.heap.size W w'→w'.cell? ⟨bc,2,none⟩=some (.int .i64 i):=fun w' hb=>(HX.out.next hb).2.2.2.2.2.2.2.2.2.2.2.2.2.2.1.2
 have HD1:Below W.heap.size W (W.drewN 1):=below_drewN (Below.refl _ _) 1
 refine cu (by kernel_rfl) rfl ?_
 generalize W.drewN 1=W1 at *
 refine bG 0 11 [8,9] [[],[0],[0,1],[0,1,2],[],[4],[4,5],[4,5,6],[],[0,1,2,3,8],[0,1,2,3,4,5,6,7,8,9]] [[none,some false],[none,some false],[none,some false],[none,some false],[none,none],[none,none],[none,none],[none,none],[some false,some false],[some true,some false],[some true,some true]] (AC W1 (.cells #[.slice none 0 0,.slice none 0 0] 26) (.cells #[.slice aC p.ds.length aA,.slice aF p.ts.length av] 26)) (fun _ _=>True) [15,16,17,18,19,20,21,22,5,6] rfl rfl (by rfl) (by kernel_rfl) (by kernel_rfl) (by kernel_rfl) (by kernel_rfl) (by kernel_rfl) (by rfl) (fun _=>trivial) (by rfl) rfl ?_
 simp only [List.take_succ_cons,List.take_zero,List.drop_zero,List.drop_succ_cons,gP,List.map_cons,List.map_nil]
 apply aH.step
 case aB=>
  intro c A w' hok hC hO hD
  have e0:=hO 0 (by rfl)
  simp [Act.eval] at e0
  simp [au,ah,aj,Act.eval,Region.binds] at hD
  simp [go_sem,gd,Oper.wp,hD,e0]
  exact ak.mk trivial (AC.skip (by rfl) (by rfl) hC) (ah.mk _ _)
 apply aH.step
 case aB=>
  intro c A w' hok hC hO hD
  simp [au,ah,aj,Act.eval,Region.binds] at hD
  simp [go_sem,gd,Oper.wp,hD]
  exact ak.mk trivial (AC.skip (by rfl) (by rfl) hC) (ah.mk _ _)
 apply aH.step
 case aB=>
  intro c A w' hok hC hO hD
  simp [au,ah,aj,Act.eval,Region.binds] at hD
  simp [go_sem,gd,Oper.wp,hD]
  exact ak.mk trivial (AC.skip (by rfl) (by rfl) hC) (ah.mk _ _)
 apply aH.step
 case aB=>
  intro c A w' hok hC hO hD
  simp [au,ah,aj,Act.eval,Region.binds] at hD
  simp [go_sem,gd,Oper.wp,hD,K0,K1,AC.below HD1 hC]
  exact ak.mk trivial (AC.skip (by rfl) (by rfl) hC) (ah.mk _ _)
 apply aH.step
 case aB=>
  intro c A w' hok hC hO hD
  have e0:=hO 0 (by rfl)
  simp [Act.eval] at e0
  simp [au,ah,aj,Act.eval,Region.binds] at hD
  simp [go_sem,gd,Oper.wp,hD,e0]
  exact ak.mk trivial (AC.skip (by rfl) (by rfl) hC) (ah.mk _ _)
 simp only [List.nil_append,List.cons_append]
 apply aH.step
 case aB=>
  intro c A w' hok hC hO hD
  simp [au,ah,aj,Act.eval,Region.binds] at hD
  simp [go_sem,gd,Oper.wp,hD]
  exact ak.mk trivial (AC.skip (by rfl) (by rfl) hC) (ah.mk _ _)
 apply aH.step
 case aB=>
  intro c A w' hok hC hO hD
  simp [au,ah,aj,Act.eval,Region.binds] at hD
  simp [go_sem,gd,Oper.wp,hD]
  exact ak.mk trivial (AC.skip (by rfl) (by rfl) hC) (ah.mk _ _)
 apply aH.step
 case aB=>
  intro c A w' hok hC hO hD
  simp [au,ah,aj,Act.eval,Region.binds] at hD
  simp [go_sem,gd,Oper.wp,hD,K2,AC.below HD1 hC]
  exact ak.mk trivial (AC.skip (by rfl) (by rfl) hC) (ah.mk _ _)
 simp only [List.nil_append,List.cons_append]
 apply aH.step
 case aB=>
  intro c A w' hok hC hO hD
  obtain ⟨x,y,rfl⟩:=hC.bits
  obtain ⟨rfl,rfl,-⟩:=hok
  have hw:w'=W1:=hC
  subst hw
  simp [go_sem,gd,Oper.wp]
  exact ak.mk trivial (AC.lay (by rfl) (by rfl)) (ah.mk _ _)
 refine aH.some (fun _ _=>True) (fun _ _ _ _ _=>trivial) ?_ ?_
 ·intro c A w' hok hC hO hD
  obtain ⟨x,y,rfl⟩:=hC.bits
  obtain ⟨rfl,rfl,-⟩:=hok
  have hw:w'=W1.alloc _:=hC
  subst hw
  simp [au,ah,aj,Act.eval,Region.binds] at hD
  simp [go_sem,gd,Oper.wp,hD]
  exact ak.mF (v:=undef) trivial (AC.fill (by rfl) (by rfl)) trivial
 simp only [List.nil_append,List.cons_append]
 apply aH.step
 case aB=>
  intro c A w' hok hC hO hD
  simp [au,ah,aj,Act.eval,Region.binds] at hD
  simp [go_sem,gd,Oper.wp,hD]
  exact ak.mk trivial (AC.skip (by rfl) (by rfl) hC) (ah.mk _ _)
 simp only [List.nil_append,List.cons_append]
 refine aH.done ?_
 intro wz bK
 simp only [List.drop_zero]
 intro v0 h0 v1 h1 v2 h2 v3 h3 v4 h4 v5 h5 v6 h6 v7 h7 v8 h8 v9 h9 v10 h10
 have h8':v8=_:=h8
 have jG:v10=_:=h10
 subst h8' jG
 clear h0 h1 h2 h3 h4 h5 h6 h7 h8 h9 h10
 refine bM.nil ?_
 refine dQ rfl ?_
 have gN:wz=W1.alloc _:=bK
 generalize hn1:W1.heap.size=n1 at *
 have HY:=Lib.hid ((HX.out.next HD1).kC hn1 (.slice aC p.ds.length aA) (.slice aF p.ts.length av) 26)
 rw [← gN] at HY
 clear bK gN HX K0 K1 K2 HD1 hn1
 go_simp
 obtain ⟨-,⟨-,c0⟩,⟨-,c1⟩,⟨-,c2⟩,⟨-,c3⟩,⟨-,c4⟩,⟨-,c5⟩,⟨-,c6⟩,⟨-,c7⟩,⟨-,c8⟩,⟨-,c9⟩,⟨-,c10⟩,⟨-,c11⟩,⟨-,c12⟩,⟨-,c13⟩,⟨-,c14⟩,⟨-,c15⟩,⟨-,c16⟩,⟨-,c17⟩,⟨-,c18⟩,-⟩:=HY.out
 go_wp2_with fail
 refine (aQ p _ aC aF aA av i aJ aI bc bV cK bf bW cO aZ ar 7 7 ⟨#[]⟩ dw.out (dG.out.same HY.out.1) (bQ HY.out)).mono ?_
 rintro e' W ⟨rfl,hb⟩
 replace HY:=Lib.hid (HY.out.next hb)
 clear hb c0 c1 c2 c3 c4 c5 c6 c7 c8 c9 c10 c11 c12 c13 c14 c15 c16 c17 c18
 obtain ⟨-,⟨-,c0⟩,⟨-,c1⟩,⟨-,c2⟩,⟨-,c3⟩,⟨-,c4⟩,⟨-,c5⟩,⟨-,c6⟩,⟨-,c7⟩,⟨-,c8⟩,⟨-,c9⟩,⟨-,c10⟩,⟨-,c11⟩,⟨-,c12⟩,⟨-,c13⟩,⟨-,c14⟩,⟨-,c15⟩,⟨-,c16⟩,⟨-,c17⟩,⟨-,c18⟩,-⟩:=HY.out
 go_wp2_with fail
 refine (aQ p _ aC aF aA av i aJ aI bc bV cK bf bW cO aZ ar 8 8 ⟨#[]⟩ dw.out (dG.out.same HY.out.1) (bQ HY.out)).mono ?_
 rintro e' W ⟨rfl,hb⟩
 replace HY:=Lib.hid (HY.out.next hb)
 clear hb c0 c1 c2 c3 c4 c5 c6 c7 c8 c9 c10 c11 c12 c13 c14 c15 c16 c17 c18
 obtain ⟨-,⟨-,c0⟩,⟨-,c1⟩,⟨-,c2⟩,⟨-,c3⟩,⟨-,c4⟩,⟨-,c5⟩,⟨-,c6⟩,⟨-,c7⟩,⟨-,c8⟩,⟨-,c9⟩,⟨-,c10⟩,⟨-,c11⟩,⟨-,c12⟩,⟨-,c13⟩,⟨-,c14⟩,⟨-,c15⟩,⟨-,c16⟩,⟨-,c17⟩,⟨-,c18⟩,-⟩:=HY.out
 go_wp2_with fail
 refine (aQ p _ aC aF aA av i aJ aI bc bV cK bf bW cO aZ ar 3 3 ⟨#[]⟩ dw.out (dG.out.same HY.out.1) (bQ HY.out)).mono ?_
 rintro e' W ⟨rfl,hb⟩
 replace HY:=Lib.hid (HY.out.next hb)
 clear hb c0 c1 c2 c3 c4 c5 c6 c7 c8 c9 c10 c11 c12 c13 c14 c15 c16 c17 c18
 obtain ⟨-,⟨-,c0⟩,⟨-,c1⟩,⟨-,c2⟩,⟨-,c3⟩,⟨-,c4⟩,⟨-,c5⟩,⟨-,c6⟩,⟨-,c7⟩,⟨-,c8⟩,⟨-,c9⟩,⟨-,c10⟩,⟨-,c11⟩,⟨-,c12⟩,⟨-,c13⟩,⟨-,c14⟩,⟨-,c15⟩,⟨-,c16⟩,⟨-,c17⟩,⟨-,c18⟩,-⟩:=HY.out
 generalize htx:aU ar 7 7 ⟨#[]⟩=tx at *
 generalize hat':aU ar 8 8 ⟨#[]⟩=nK at *
 generalize hlo:aU ar 3 3 ⟨#[]⟩=lop at *
 clear htx hat' hlo
 have hop:=iG.out
 have g1:(h.op == 1)=false:=by rw [hop]; rfl
 have g2:(h.op == 2)=false:=by rw [hop]; rfl
 have g3:(h.op == 3)=false:=by rw [hop]; rfl
 have g4:(h.op == 4)=false:=by rw [hop]; rfl
 have g5:(h.op == 5)=false:=by rw [hop]; rfl
 have g6:(h.op == 6)=true:=by rw [hop]; rfl
 have g7:(h.op == 7)=false:=by rw [hop]; rfl
 have g8:(h.op == 8)=false:=by rw [hop]; rfl
 have g9:(h.op == 9)=false:=by rw [hop]; rfl
 have g10:(h.op == 10)=false:=by rw [hop]; rfl
 have g11:(h.op == 11)=false:=by rw [hop]; rfl
 have g12:(h.op == 12)=false:=by rw [hop]; rfl
 have g13:(h.op == 13)=false:=by rw [hop]; rfl
 have g14:(h.op == 14)=false:=by rw [hop]; rfl
 have g15:(h.op == 15)=false:=by rw [hop]; rfl
 clear hop
 cases tx
 ·go_wp2_with fail
  refine (fM p i h.nm 4 4 _ aC aF aA av hi (HP.out.same HY.out.1)).mono ?_
  rintro e' W ⟨rfl,hb⟩
  replace HY:=Lib.hid (HY.out.next hb)
  clear hb c0 c1 c2 c3 c4 c5 c6 c7 c8 c9 c10 c11 c12 c13 c14 c15 c16 c17 c18
  obtain ⟨-,⟨-,c0⟩,⟨-,c1⟩,⟨-,c2⟩,⟨-,c3⟩,⟨-,c4⟩,⟨-,c5⟩,⟨-,c6⟩,⟨-,c7⟩,⟨-,c8⟩,⟨-,c9⟩,⟨-,c10⟩,⟨-,c11⟩,⟨-,c12⟩,⟨-,c13⟩,⟨-,c14⟩,⟨-,c15⟩,⟨-,c16⟩,⟨-,c17⟩,⟨-,c18⟩,-⟩:=HY.out
  go_wp2_with fail
  refine (aQ p _ aC aF aA av i aJ aI bc bV cK bf bW cO aZ ar 5 6 h.nm dw.out (dG.out.same HY.out.1) (bQ HY.out)).mono ?_
  rintro e' W ⟨rfl,hb⟩
  replace HY:=Lib.hid (HY.out.next hb)
  clear hb c0 c1 c2 c3 c4 c5 c6 c7 c8 c9 c10 c11 c12 c13 c14 c15 c16 c17 c18
  obtain ⟨-,⟨-,c0⟩,⟨-,c1⟩,⟨-,c2⟩,⟨-,c3⟩,⟨-,c4⟩,⟨-,c5⟩,⟨-,c6⟩,⟨-,c7⟩,⟨-,c8⟩,⟨-,c9⟩,⟨-,c10⟩,⟨-,c11⟩,⟨-,c12⟩,⟨-,c13⟩,⟨-,c14⟩,⟨-,c15⟩,⟨-,c16⟩,⟨-,c17⟩,⟨-,c18⟩,-⟩:=HY.out
  go_wp2_with fail
  refine (dO _ _).mono ?_
  rintro e' W' ⟨rfl,rfl⟩
  go_wp2_with fail
  refine (gU _ _ _).mono ?_
  rintro e' W' ⟨rfl,rfl⟩
  go_wp2_with fail
  go_ret
  exact ⟨aS (by first | exact HR.out.symm | (rw [HR.out]; first | done | rfl | simp [fP,nest])),HY.out.1⟩
 ·go_wp2_with fail
  refine (fM p i h.nm 4 4 _ aC aF aA av hi (HP.out.same HY.out.1)).mono ?_
  rintro e' W ⟨rfl,hb⟩
  replace HY:=Lib.hid (HY.out.next hb)
  clear hb c0 c1 c2 c3 c4 c5 c6 c7 c8 c9 c10 c11 c12 c13 c14 c15 c16 c17 c18
  obtain ⟨-,⟨-,c0⟩,⟨-,c1⟩,⟨-,c2⟩,⟨-,c3⟩,⟨-,c4⟩,⟨-,c5⟩,⟨-,c6⟩,⟨-,c7⟩,⟨-,c8⟩,⟨-,c9⟩,⟨-,c10⟩,⟨-,c11⟩,⟨-,c12⟩,⟨-,c13⟩,⟨-,c14⟩,⟨-,c15⟩,⟨-,c16⟩,⟨-,c17⟩,⟨-,c18⟩,-⟩:=HY.out
  go_wp2_with fail
  refine (dO _ _).mono ?_
  rintro e' W' ⟨rfl,rfl⟩
  go_wp2_with fail
  refine (gU _ _ _).mono ?_
  rintro e' W' ⟨rfl,rfl⟩
  go_wp2_with fail
  go_ret
  exact ⟨aS (by first | exact HR.out.symm | (rw [HR.out]; first | done | rfl | simp [fP,nest])),HY.out.1⟩
set_option maxHeartbeats 4000000 in
set_option maxRecDepth 100000 in
theorem Pz (h:eH) (b e ar:aR) (s:Sl) (hi:aX i) (hp:p.At w aC aF) (hin:jE w h b e s) (har:ar.len≤maxLen) (hat:ar.At w w.heap.size aJ 0) (hh:Holds w (kE bc p aC aF aA av i aJ ar.len aI bV cK bf bW cO aZ)) (hop:h.op=2):
 Calls Tryd.prog 39 #[.pointer (some ⟨bc,0,none⟩),aY h b e s] w fun e' w'=>e'= .returned (.int .i64 (iE p i h.dU h.xn h.dV h.bq))∧Below w.heap.size w w':=by
 generalize hres:(iE p i h.dU h.xn h.dV h.bq)=res
 have HR:Hid (res=(iE p i h.dU h.xn h.dV h.bq)):=Lib.hid (by rw [← hres])
 have iG:=Lib.hid hop
 clear hres hop
 have HH:=Lib.hid (show Sit w w _ from ⟨Below.refl _ _,hh⟩)
 have jS:=Lib.hid hin
 have dG:=Lib.hid hat
 have dw:=Lib.hid har
 have HP:=Lib.hid hp
 unfold aY
 clear hh hin hat har hp
 go_enter Tryd.func39,Tryd.ntmps39
 go_upto_region 1 with fail
 generalize hW:World.alloc w _=W
 generalize Value.agg #[_,_,_,_,_,_,_,_,_,_,_]=a0
 have HX:Hid (Sit w W (iT w.heap.size h b e s (kE bc p aC aF aA av i aJ ar.len aI bV cK bf bW cO aZ))):=Lib.hid (by rw [← hW]; exact HH.out.gZ rfl _ _ _ _ _ _ _ _ _ _ _ _)
 clear hW HH
 have K0: ∀w',Below W.heap.size W w'→w'.cell? ⟨bc,0,none⟩=some (.slice aC p.ds.length aA):=fun w' hb=>(HX.out.next hb).2.2.2.2.2.2.2.2.2.2.2.2.1.2
 have K1: ∀w',Below W.heap.size W w'→w'.cell? ⟨bc,1,none⟩=some (.slice aF p.ts.length av):=fun w' hb=>(HX.out.next hb).2.2.2.2.2.2.2.2.2.2.2.2.2.1.2
 have K2: ∀w',Below W.heap.size W w'→w'.cell? ⟨bc,2,none⟩=some (.int .i64 i):=fun w' hb=>(HX.out.next hb).2.2.2.2.2.2.2.2.2.2.2.2.2.2.1.2
 have HD1:Below W.heap.size W (W.drewN 1):=below_drewN (Below.refl _ _) 1
 refine cu (by kernel_rfl) rfl ?_
 generalize W.drewN 1=W1 at *
 refine bG 0 11 [8,9] [[],[0],[0,1],[0,1,2],[],[4],[4,5],[4,5,6],[],[0,1,2,3,8],[0,1,2,3,4,5,6,7,8,9]] [[none,some false],[none,some false],[none,some false],[none,some false],[none,none],[none,none],[none,none],[none,none],[some false,some false],[some true,some false],[some true,some true]] (AC W1 (.cells #[.slice none 0 0,.slice none 0 0] 26) (.cells #[.slice aC p.ds.length aA,.slice aF p.ts.length av] 26)) (fun _ _=>True) [15,16,17,18,19,20,21,22,5,6] rfl rfl (by rfl) (by kernel_rfl) (by kernel_rfl) (by kernel_rfl) (by kernel_rfl) (by kernel_rfl) (by rfl) (fun _=>trivial) (by rfl) rfl ?_
 simp only [List.take_succ_cons,List.take_zero,List.drop_zero,List.drop_succ_cons,gP,List.map_cons,List.map_nil]
 apply aH.step
 case aB=>
  intro c A w' hok hC hO hD
  have e0:=hO 0 (by rfl)
  simp [Act.eval] at e0
  simp [au,ah,aj,Act.eval,Region.binds] at hD
  simp [go_sem,gd,Oper.wp,hD,e0]
  exact ak.mk trivial (AC.skip (by rfl) (by rfl) hC) (ah.mk _ _)
 apply aH.step
 case aB=>
  intro c A w' hok hC hO hD
  simp [au,ah,aj,Act.eval,Region.binds] at hD
  simp [go_sem,gd,Oper.wp,hD]
  exact ak.mk trivial (AC.skip (by rfl) (by rfl) hC) (ah.mk _ _)
 apply aH.step
 case aB=>
  intro c A w' hok hC hO hD
  simp [au,ah,aj,Act.eval,Region.binds] at hD
  simp [go_sem,gd,Oper.wp,hD]
  exact ak.mk trivial (AC.skip (by rfl) (by rfl) hC) (ah.mk _ _)
 apply aH.step
 case aB=>
  intro c A w' hok hC hO hD
  simp [au,ah,aj,Act.eval,Region.binds] at hD
  simp [go_sem,gd,Oper.wp,hD,K0,K1,AC.below HD1 hC]
  exact ak.mk trivial (AC.skip (by rfl) (by rfl) hC) (ah.mk _ _)
 apply aH.step
 case aB=>
  intro c A w' hok hC hO hD
  have e0:=hO 0 (by rfl)
  simp [Act.eval] at e0
  simp [au,ah,aj,Act.eval,Region.binds] at hD
  simp [go_sem,gd,Oper.wp,hD,e0]
  exact ak.mk trivial (AC.skip (by rfl) (by rfl) hC) (ah.mk _ _)
 simp only [List.nil_append,List.cons_append]
 apply aH.step
 case aB=>
  intro c A w' hok hC hO hD
  simp [au,ah,aj,Act.eval,Region.binds] at hD
  simp [go_sem,gd,Oper.wp,hD]
  exact ak.mk trivial (AC.skip (by rfl) (by rfl) hC) (ah.mk _ _)
 apply aH.step
 case aB=>
  intro c A w' hok hC hO hD
  simp [au,ah,aj,Act.eval,Region.binds] at hD
  simp [go_sem,gd,Oper.wp,hD]
  exact ak.mk trivial (AC.skip (by rfl) (by rfl) hC) (ah.mk _ _)
 apply aH.step
 case aB=>
  intro c A w' hok hC hO hD
  simp [au,ah,aj,Act.eval,Region.binds] at hD
  simp [go_sem,gd,Oper.wp,hD,K2,AC.below HD1 hC]
  exact ak.mk trivial (AC.skip (by rfl) (by rfl) hC) (ah.mk _ _)
 simp only [List.nil_append,List.cons_append]
 apply aH.step
 case aB=>
  intro c A w' hok hC hO hD
  obtain ⟨x,y,rfl⟩:=hC.bits
  obtain ⟨rfl,rfl,-⟩:=hok
  have hw:w'=W1:=hC
  subst hw
  simp [go_sem,gd,Oper.wp]
  exact ak.mk trivial (AC.lay (by rfl) (by rfl)) (ah.mk _ _)
 refine aH.some (fun _ _=>True) (fun _ _ _ _ _=>trivial) ?_ ?_
 ·intro c A w' hok hC hO hD
  obtain ⟨x,y,rfl⟩:=hC.bits
  obtain ⟨rfl,rfl,-⟩:=hok
  have hw:w'=W1.alloc _:=hC
  subst hw
  simp [au,ah,aj,Act.eval,Region.binds] at hD
  simp [go_sem,gd,Oper.wp,hD]
  exact ak.mF (v:=undef) trivial (AC.fill (by rfl) (by rfl)) trivial
 simp only [List.nil_append,List.cons_append]
 apply aH.step
 case aB=>
  intro c A w' hok hC hO hD
  simp [au,ah,aj,Act.eval,Region.binds] at hD
  simp [go_sem,gd,Oper.wp,hD]
  exact ak.mk trivial (AC.skip (by rfl) (by rfl) hC) (ah.mk _ _)
 simp only [List.nil_append,List.cons_append]
 refine aH.done ?_
 intro wz bK
 simp only [List.drop_zero]
 intro v0 h0 v1 h1 v2 h2 v3 h3 v4 h4 v5 h5 v6 h6 v7 h7 v8 h8 v9 h9 v10 h10
 have h8':v8=_:=h8
 have jG:v10=_:=h10
 subst h8' jG
 clear h0 h1 h2 h3 h4 h5 h6 h7 h8 h9 h10
 refine bM.nil ?_
 refine dQ rfl ?_
 have gN:wz=W1.alloc _:=bK
 generalize hn1:W1.heap.size=n1 at *
 have HY:=Lib.hid ((HX.out.next HD1).kC hn1 (.slice aC p.ds.length aA) (.slice aF p.ts.length av) 26)
 rw [← gN] at HY
 clear bK gN HX K0 K1 K2 HD1 hn1
 go_simp
 obtain ⟨-,⟨-,c0⟩,⟨-,c1⟩,⟨-,c2⟩,⟨-,c3⟩,⟨-,c4⟩,⟨-,c5⟩,⟨-,c6⟩,⟨-,c7⟩,⟨-,c8⟩,⟨-,c9⟩,⟨-,c10⟩,⟨-,c11⟩,⟨-,c12⟩,⟨-,c13⟩,⟨-,c14⟩,⟨-,c15⟩,⟨-,c16⟩,⟨-,c17⟩,⟨-,c18⟩,-⟩:=HY.out
 go_wp2_with fail
 refine (aQ p _ aC aF aA av i aJ aI bc bV cK bf bW cO aZ ar 7 7 ⟨#[]⟩ dw.out (dG.out.same HY.out.1) (bQ HY.out)).mono ?_
 rintro e' W ⟨rfl,hb⟩
 replace HY:=Lib.hid (HY.out.next hb)
 clear hb c0 c1 c2 c3 c4 c5 c6 c7 c8 c9 c10 c11 c12 c13 c14 c15 c16 c17 c18
 obtain ⟨-,⟨-,c0⟩,⟨-,c1⟩,⟨-,c2⟩,⟨-,c3⟩,⟨-,c4⟩,⟨-,c5⟩,⟨-,c6⟩,⟨-,c7⟩,⟨-,c8⟩,⟨-,c9⟩,⟨-,c10⟩,⟨-,c11⟩,⟨-,c12⟩,⟨-,c13⟩,⟨-,c14⟩,⟨-,c15⟩,⟨-,c16⟩,⟨-,c17⟩,⟨-,c18⟩,-⟩:=HY.out
 go_wp2_with fail
 refine (aQ p _ aC aF aA av i aJ aI bc bV cK bf bW cO aZ ar 8 8 ⟨#[]⟩ dw.out (dG.out.same HY.out.1) (bQ HY.out)).mono ?_
 rintro e' W ⟨rfl,hb⟩
 replace HY:=Lib.hid (HY.out.next hb)
 clear hb c0 c1 c2 c3 c4 c5 c6 c7 c8 c9 c10 c11 c12 c13 c14 c15 c16 c17 c18
 obtain ⟨-,⟨-,c0⟩,⟨-,c1⟩,⟨-,c2⟩,⟨-,c3⟩,⟨-,c4⟩,⟨-,c5⟩,⟨-,c6⟩,⟨-,c7⟩,⟨-,c8⟩,⟨-,c9⟩,⟨-,c10⟩,⟨-,c11⟩,⟨-,c12⟩,⟨-,c13⟩,⟨-,c14⟩,⟨-,c15⟩,⟨-,c16⟩,⟨-,c17⟩,⟨-,c18⟩,-⟩:=HY.out
 go_wp2_with fail
 refine (aQ p _ aC aF aA av i aJ aI bc bV cK bf bW cO aZ ar 3 3 ⟨#[]⟩ dw.out (dG.out.same HY.out.1) (bQ HY.out)).mono ?_
 rintro e' W ⟨rfl,hb⟩
 replace HY:=Lib.hid (HY.out.next hb)
 clear hb c0 c1 c2 c3 c4 c5 c6 c7 c8 c9 c10 c11 c12 c13 c14 c15 c16 c17 c18
 obtain ⟨-,⟨-,c0⟩,⟨-,c1⟩,⟨-,c2⟩,⟨-,c3⟩,⟨-,c4⟩,⟨-,c5⟩,⟨-,c6⟩,⟨-,c7⟩,⟨-,c8⟩,⟨-,c9⟩,⟨-,c10⟩,⟨-,c11⟩,⟨-,c12⟩,⟨-,c13⟩,⟨-,c14⟩,⟨-,c15⟩,⟨-,c16⟩,⟨-,c17⟩,⟨-,c18⟩,-⟩:=HY.out
 generalize htx:aU ar 7 7 ⟨#[]⟩=tx at *
 generalize hat':aU ar 8 8 ⟨#[]⟩=nK at *
 generalize hlo:aU ar 3 3 ⟨#[]⟩=lop at *
 clear htx hat' hlo
 have hop:=iG.out
 have g1:(h.op == 1)=false:=by rw [hop]; rfl
 have g2:(h.op == 2)=true:=by rw [hop]; rfl
 have g3:(h.op == 3)=false:=by rw [hop]; rfl
 have g4:(h.op == 4)=false:=by rw [hop]; rfl
 have g5:(h.op == 5)=false:=by rw [hop]; rfl
 have g6:(h.op == 6)=false:=by rw [hop]; rfl
 have g7:(h.op == 7)=false:=by rw [hop]; rfl
 have g8:(h.op == 8)=false:=by rw [hop]; rfl
 have g9:(h.op == 9)=false:=by rw [hop]; rfl
 have g10:(h.op == 10)=false:=by rw [hop]; rfl
 have g11:(h.op == 11)=false:=by rw [hop]; rfl
 have g12:(h.op == 12)=false:=by rw [hop]; rfl
 have g13:(h.op == 13)=false:=by rw [hop]; rfl
 have g14:(h.op == 14)=false:=by rw [hop]; rfl
 have g15:(h.op == 15)=false:=by rw [hop]; rfl
 clear hop
 go_wp2_with fail
 refine (kJ p i h.dU h.xn h.dV h.bq _ aC aF s.dW aA av s.cB hi (HP.out.same HY.out.1) jS.out.1.2.2.2.2.2.1 (jS.out.2.2.1.same HY.out.1)).mono ?_
 rintro e' W ⟨rfl,hb⟩
 replace HY:=Lib.hid (HY.out.next hb)
 clear hb c0 c1 c2 c3 c4 c5 c6 c7 c8 c9 c10 c11 c12 c13 c14 c15 c16 c17 c18
 obtain ⟨-,⟨-,c0⟩,⟨-,c1⟩,⟨-,c2⟩,⟨-,c3⟩,⟨-,c4⟩,⟨-,c5⟩,⟨-,c6⟩,⟨-,c7⟩,⟨-,c8⟩,⟨-,c9⟩,⟨-,c10⟩,⟨-,c11⟩,⟨-,c12⟩,⟨-,c13⟩,⟨-,c14⟩,⟨-,c15⟩,⟨-,c16⟩,⟨-,c17⟩,⟨-,c18⟩,-⟩:=HY.out
 go_wp2_with fail
 go_ret
 exact ⟨aS (by first | exact HR.out.symm | (rw [HR.out]; first | done | rfl | simp [fP,nest])),HY.out.1⟩
set_option maxHeartbeats 4000000 in
set_option maxRecDepth 100000 in
theorem OP (h:eH) (b e ar:aR) (s:Sl) (hi:aX i) (hp:p.At w aC aF) (hin:jE w h b e s) (har:ar.len≤maxLen) (hat:ar.At w w.heap.size aJ 0) (hh:Holds w (kE bc p aC aF aA av i aJ ar.len aI bV cK bf bW cO aZ)) (hop:h.op=3):
 Calls Tryd.prog 39 #[.pointer (some ⟨bc,0,none⟩),aY h b e s] w fun e' w'=>e'= .returned (.int .i64 (iE p i h.dU h.xn h.dV h.bq))∧Below w.heap.size w w':=by
 generalize hres:(iE p i h.dU h.xn h.dV h.bq)=res
 have HR:Hid (res=(iE p i h.dU h.xn h.dV h.bq)):=Lib.hid (by rw [← hres])
 have iG:=Lib.hid hop
 clear hres hop
 have HH:=Lib.hid (show Sit w w _ from ⟨Below.refl _ _,hh⟩)
 have jS:=Lib.hid hin
 have dG:=Lib.hid hat
 have dw:=Lib.hid har
 have HP:=Lib.hid hp
 unfold aY
 clear hh hin hat har hp
 go_enter Tryd.func39,Tryd.ntmps39
 go_upto_region 1 with fail
 generalize hW:World.alloc w _=W
 generalize Value.agg #[_,_,_,_,_,_,_,_,_,_,_]=a0
 have HX:Hid (Sit w W (iT w.heap.size h b e s (kE bc p aC aF aA av i aJ ar.len aI bV cK bf bW cO aZ))):=Lib.hid (by rw [← hW]; exact HH.out.gZ rfl _ _ _ _ _ _ _ _ _ _ _ _)
 clear hW HH
 have K0: ∀w',Below W.heap.size W w'→w'.cell? ⟨bc,0,none⟩=some (.slice aC p.ds.length aA):=fun w' hb=>(HX.out.next hb).2.2.2.2.2.2.2.2.2.2.2.2.1.2
 have K1: ∀w',Below W.heap.size W w'→w'.cell? ⟨bc,1,none⟩=some (.slice aF p.ts.length av):=fun w' hb=>(HX.out.next hb).2.2.2.2.2.2.2.2.2.2.2.2.2.1.2
 have K2: ∀w',Below W.heap.size W w'→w'.cell? ⟨bc,2,none⟩=some (.int .i64 i):=fun w' hb=>(HX.out.next hb).2.2.2.2.2.2.2.2.2.2.2.2.2.2.1.2
 have HD1:Below W.heap.size W (W.drewN 1):=below_drewN (Below.refl _ _) 1
 refine cu (by kernel_rfl) rfl ?_
 generalize W.drewN 1=W1 at *
 refine bG 0 11 [8,9] [[],[0],[0,1],[0,1,2],[],[4],[4,5],[4,5,6],[],[0,1,2,3,8],[0,1,2,3,4,5,6,7,8,9]] [[none,some false],[none,some false],[none,some false],[none,some false],[none,none],[none,none],[none,none],[none,none],[some false,some false],[some true,some false],[some true,some true]] (AC W1 (.cells #[.slice none 0 0,.slice none 0 0] 26) (.cells #[.slice aC p.ds.length aA,.slice aF p.ts.length av] 26)) (fun _ _=>True) [15,16,17,18,19,20,21,22,5,6] rfl rfl (by rfl) (by kernel_rfl) (by kernel_rfl) (by kernel_rfl) (by kernel_rfl) (by kernel_rfl) (by rfl) (fun _=>trivial) (by rfl) rfl ?_
 simp only [List.take_succ_cons,List.take_zero,List.drop_zero,List.drop_succ_cons,gP,List.map_cons,List.map_nil]
 apply aH.step
 case aB=>
  intro c A w' hok hC hO hD
  have e0:=hO 0 (by rfl)
  simp [Act.eval] at e0
  simp [au,ah,aj,Act.eval,Region.binds] at hD
  simp [go_sem,gd,Oper.wp,hD,e0]
  exact ak.mk trivial (AC.skip (by rfl) (by rfl) hC) (ah.mk _ _)
 apply aH.step
 case aB=>
  intro c A w' hok hC hO hD
  simp [au,ah,aj,Act.eval,Region.binds] at hD
  simp [go_sem,gd,Oper.wp,hD]
  exact ak.mk trivial (AC.skip (by rfl) (by rfl) hC) (ah.mk _ _)
 apply aH.step
 case aB=>
  intro c A w' hok hC hO hD
  simp [au,ah,aj,Act.eval,Region.binds] at hD
  simp [go_sem,gd,Oper.wp,hD]
  exact ak.mk trivial (AC.skip (by rfl) (by rfl) hC) (ah.mk _ _)
 apply aH.step
 case aB=>
  intro c A w' hok hC hO hD
  simp [au,ah,aj,Act.eval,Region.binds] at hD
  simp [go_sem,gd,Oper.wp,hD,K0,K1,AC.below HD1 hC]
  exact ak.mk trivial (AC.skip (by rfl) (by rfl) hC) (ah.mk _ _)
 apply aH.step
 case aB=>
  intro c A w' hok hC hO hD
  have e0:=hO 0 (by rfl)
  simp [Act.eval] at e0
  simp [au,ah,aj,Act.eval,Region.binds] at hD
  simp [go_sem,gd,Oper.wp,hD,e0]
  exact ak.mk trivial (AC.skip (by rfl) (by rfl) hC) (ah.mk _ _)
 simp only [List.nil_append,List.cons_append]
 apply aH.step
 case aB=>
  intro c A w' hok hC hO hD
  simp [au,ah,aj,Act.eval,Region.binds] at hD
  simp [go_sem,gd,Oper.wp,hD]
  exact ak.mk trivial (AC.skip (by rfl) (by rfl) hC) (ah.mk _ _)
 apply aH.step
 case aB=>
  intro c A w' hok hC hO hD
  simp [au,ah,aj,Act.eval,Region.binds] at hD
  simp [go_sem,gd,Oper.wp,hD]
  exact ak.mk trivial (AC.skip (by rfl) (by rfl) hC) (ah.mk _ _)
 apply aH.step
 case aB=>
  intro c A w' hok hC hO hD
  simp [au,ah,aj,Act.eval,Region.binds] at hD
  simp [go_sem,gd,Oper.wp,hD,K2,AC.below HD1 hC]
  exact ak.mk trivial (AC.skip (by rfl) (by rfl) hC) (ah.mk _ _)
 simp only [List.nil_append,List.cons_append]
 apply aH.step
 case aB=>
  intro c A w' hok hC hO hD
  obtain ⟨x,y,rfl⟩:=hC.bits
  obtain ⟨rfl,rfl,-⟩:=hok
  have hw:w'=W1:=hC
  subst hw
  simp [go_sem,gd,Oper.wp]
  exact ak.mk trivial (AC.lay (by rfl) (by rfl)) (ah.mk _ _)
 refine aH.some (fun _ _=>True) (fun _ _ _ _ _=>trivial) ?_ ?_
 ·intro c A w' hok hC hO hD
  obtain ⟨x,y,rfl⟩:=hC.bits
  obtain ⟨rfl,rfl,-⟩:=hok
  have hw:w'=W1.alloc _:=hC
  subst hw
  simp [au,ah,aj,Act.eval,Region.binds] at hD
  simp [go_sem,gd,Oper.wp,hD]
  exact ak.mF (v:=undef) trivial (AC.fill (by rfl) (by rfl)) trivial
 simp only [List.nil_append,List.cons_append]
 apply aH.step
 case aB=>
  intro c A w' hok hC hO hD
  simp [au,ah,aj,Act.eval,Region.binds] at hD
  simp [go_sem,gd,Oper.wp,hD]
  exact ak.mk trivial (AC.skip (by rfl) (by rfl) hC) (ah.mk _ _)
 simp only [List.nil_append,List.cons_append]
 refine aH.done ?_
 intro wz bK
 simp only [List.drop_zero]
 intro v0 h0 v1 h1 v2 h2 v3 h3 v4 h4 v5 h5 v6 h6 v7 h7 v8 h8 v9 h9 v10 h10
 have h8':v8=_:=h8
 have jG:v10=_:=h10
 subst h8' jG
 clear h0 h1 h2 h3 h4 h5 h6 h7 h8 h9 h10
 refine bM.nil ?_
 refine dQ rfl ?_
 have gN:wz=W1.alloc _:=bK
 generalize hn1:W1.heap.size=n1 at *
 have HY:=Lib.hid ((HX.out.next HD1).kC hn1 (.slice aC p.ds.length aA) (.slice aF p.ts.length av) 26)
 rw [← gN] at HY
 clear bK gN HX K0 K1 K2 HD1 hn1
 go_simp
 obtain ⟨-,⟨-,c0⟩,⟨-,c1⟩,⟨-,c2⟩,⟨-,c3⟩,⟨-,c4⟩,⟨-,c5⟩,⟨-,c6⟩,⟨-,c7⟩,⟨-,c8⟩,⟨-,c9⟩,⟨-,c10⟩,⟨-,c11⟩,⟨-,c12⟩,⟨-,c13⟩,⟨-,c14⟩,⟨-,c15⟩,⟨-,c16⟩,⟨-,c17⟩,⟨-,c18⟩,-⟩:=HY.out
 go_wp2_with fail
 refine (aQ p _ aC aF aA av i aJ aI bc bV cK bf bW cO aZ ar 7 7 ⟨#[]⟩ dw.out (dG.out.same HY.out.1) (bQ HY.out)).mono ?_
 rintro e' W ⟨rfl,hb⟩
 replace HY:=Lib.hid (HY.out.next hb)
 clear hb c0 c1 c2 c3 c4 c5 c6 c7 c8 c9 c10 c11 c12 c13 c14 c15 c16 c17 c18
 obtain ⟨-,⟨-,c0⟩,⟨-,c1⟩,⟨-,c2⟩,⟨-,c3⟩,⟨-,c4⟩,⟨-,c5⟩,⟨-,c6⟩,⟨-,c7⟩,⟨-,c8⟩,⟨-,c9⟩,⟨-,c10⟩,⟨-,c11⟩,⟨-,c12⟩,⟨-,c13⟩,⟨-,c14⟩,⟨-,c15⟩,⟨-,c16⟩,⟨-,c17⟩,⟨-,c18⟩,-⟩:=HY.out
 go_wp2_with fail
 refine (aQ p _ aC aF aA av i aJ aI bc bV cK bf bW cO aZ ar 8 8 ⟨#[]⟩ dw.out (dG.out.same HY.out.1) (bQ HY.out)).mono ?_
 rintro e' W ⟨rfl,hb⟩
 replace HY:=Lib.hid (HY.out.next hb)
 clear hb c0 c1 c2 c3 c4 c5 c6 c7 c8 c9 c10 c11 c12 c13 c14 c15 c16 c17 c18
 obtain ⟨-,⟨-,c0⟩,⟨-,c1⟩,⟨-,c2⟩,⟨-,c3⟩,⟨-,c4⟩,⟨-,c5⟩,⟨-,c6⟩,⟨-,c7⟩,⟨-,c8⟩,⟨-,c9⟩,⟨-,c10⟩,⟨-,c11⟩,⟨-,c12⟩,⟨-,c13⟩,⟨-,c14⟩,⟨-,c15⟩,⟨-,c16⟩,⟨-,c17⟩,⟨-,c18⟩,-⟩:=HY.out
 go_wp2_with fail
 refine (aQ p _ aC aF aA av i aJ aI bc bV cK bf bW cO aZ ar 3 3 ⟨#[]⟩ dw.out (dG.out.same HY.out.1) (bQ HY.out)).mono ?_
 rintro e' W ⟨rfl,hb⟩
 replace HY:=Lib.hid (HY.out.next hb)
 clear hb c0 c1 c2 c3 c4 c5 c6 c7 c8 c9 c10 c11 c12 c13 c14 c15 c16 c17 c18
 obtain ⟨-,⟨-,c0⟩,⟨-,c1⟩,⟨-,c2⟩,⟨-,c3⟩,⟨-,c4⟩,⟨-,c5⟩,⟨-,c6⟩,⟨-,c7⟩,⟨-,c8⟩,⟨-,c9⟩,⟨-,c10⟩,⟨-,c11⟩,⟨-,c12⟩,⟨-,c13⟩,⟨-,c14⟩,⟨-,c15⟩,⟨-,c16⟩,⟨-,c17⟩,⟨-,c18⟩,-⟩:=HY.out
 generalize htx:aU ar 7 7 ⟨#[]⟩=tx at *
 generalize hat':aU ar 8 8 ⟨#[]⟩=nK at *
 generalize hlo:aU ar 3 3 ⟨#[]⟩=lop at *
 clear htx hat' hlo
 have hop:=iG.out
 have g1:(h.op == 1)=false:=by rw [hop]; rfl
 have g2:(h.op == 2)=false:=by rw [hop]; rfl
 have g3:(h.op == 3)=true:=by rw [hop]; rfl
 have g4:(h.op == 4)=false:=by rw [hop]; rfl
 have g5:(h.op == 5)=false:=by rw [hop]; rfl
 have g6:(h.op == 6)=false:=by rw [hop]; rfl
 have g7:(h.op == 7)=false:=by rw [hop]; rfl
 have g8:(h.op == 8)=false:=by rw [hop]; rfl
 have g9:(h.op == 9)=false:=by rw [hop]; rfl
 have g10:(h.op == 10)=false:=by rw [hop]; rfl
 have g11:(h.op == 11)=false:=by rw [hop]; rfl
 have g12:(h.op == 12)=false:=by rw [hop]; rfl
 have g13:(h.op == 13)=false:=by rw [hop]; rfl
 have g14:(h.op == 14)=false:=by rw [hop]; rfl
 have g15:(h.op == 15)=false:=by rw [hop]; rfl
 clear hop
 go_wp2_with fail
 refine (kJ p i h.dU h.xn h.dV h.bq _ aC aF s.dW aA av s.cB hi (HP.out.same HY.out.1) jS.out.1.2.2.2.2.2.1 (jS.out.2.2.1.same HY.out.1)).mono ?_
 rintro e' W ⟨rfl,hb⟩
 replace HY:=Lib.hid (HY.out.next hb)
 clear hb c0 c1 c2 c3 c4 c5 c6 c7 c8 c9 c10 c11 c12 c13 c14 c15 c16 c17 c18
 obtain ⟨-,⟨-,c0⟩,⟨-,c1⟩,⟨-,c2⟩,⟨-,c3⟩,⟨-,c4⟩,⟨-,c5⟩,⟨-,c6⟩,⟨-,c7⟩,⟨-,c8⟩,⟨-,c9⟩,⟨-,c10⟩,⟨-,c11⟩,⟨-,c12⟩,⟨-,c13⟩,⟨-,c14⟩,⟨-,c15⟩,⟨-,c16⟩,⟨-,c17⟩,⟨-,c18⟩,-⟩:=HY.out
 go_wp2_with fail
 go_ret
 exact ⟨aS (by first | exact HR.out.symm | (rw [HR.out]; first | done | rfl | simp [fP,nest])),HY.out.1⟩
set_option maxHeartbeats 4000000 in
set_option maxRecDepth 100000 in
theorem Mx (h:eH) (b e ar:aR) (s:Sl) (hi:aX i) (hp:p.At w aC aF) (hin:jE w h b e s) (har:ar.len≤maxLen) (hat:ar.At w w.heap.size aJ 0) (hh:Holds w (kE bc p aC aF aA av i aJ ar.len aI bV cK bf bW cO aZ)) (hop:h.op=13):
 Calls Tryd.prog 39 #[.pointer (some ⟨bc,0,none⟩),aY h b e s] w fun e' w'=>e'= .returned (.int .i64 (fP (bR (conv (mean p i h.nm)) 7 7) (nest ((aU ar 7 7 ⟨#[]⟩ || aU ar 8 8 ⟨#[]⟩) || kY p.ts h.nm == i))))∧Below w.heap.size w w':=by
 generalize hres:(fP (bR (conv (mean p i h.nm)) 7 7) (nest ((aU ar 7 7 ⟨#[]⟩ || aU ar 8 8 ⟨#[]⟩) || kY p.ts h.nm == i)))=res
 have HR:Hid (res=(fP (bR (conv (mean p i h.nm)) 7 7) (nest ((aU ar 7 7 ⟨#[]⟩ || aU ar 8 8 ⟨#[]⟩) || kY p.ts h.nm == i)))):=Lib.hid (by rw [← hres])
 have iG:=Lib.hid hop
 clear hres hop
 have HH:=Lib.hid (show Sit w w _ from ⟨Below.refl _ _,hh⟩)
 have jS:=Lib.hid hin
 have dG:=Lib.hid hat
 have dw:=Lib.hid har
 have HP:=Lib.hid hp
 unfold aY
 clear hh hin hat har hp
 go_enter Tryd.func39,Tryd.ntmps39
 go_upto_region 1 with fail
 generalize hW:World.alloc w _=W
 generalize Value.agg #[_,_,_,_,_,_,_,_,_,_,_]=a0
 have HX:Hid (Sit w W (iT w.heap.size h b e s (kE bc p aC aF aA av i aJ ar.len aI bV cK bf bW cO aZ))):=Lib.hid (by rw [← hW]; exact HH.out.gZ rfl _ _ _ _ _ _ _ _ _ _ _ _)
 clear hW HH
 have K0: ∀w',Below W.heap.size W w'→w'.cell? ⟨bc,0,none⟩=some (.slice aC p.ds.length aA):=fun w' hb=>(HX.out.next hb).2.2.2.2.2.2.2.2.2.2.2.2.1.2
 have K1: ∀w',Below W.heap.size W w'→w'.cell? ⟨bc,1,none⟩=some (.slice aF p.ts.length av):=fun w' hb=>(HX.out.next hb).2.2.2.2.2.2.2.2.2.2.2.2.2.1.2
 have K2: ∀w',Below W.heap.size W w'→w'.cell? ⟨bc,2,none⟩=some (.int .i64 i):=fun w' hb=>(HX.out.next hb).2.2.2.2.2.2.2.2.2.2.2.2.2.2.1.2
 have HD1:Below W.heap.size W (W.drewN 1):=below_drewN (Below.refl _ _) 1
 refine cu (by kernel_rfl) rfl ?_
 generalize W.drewN 1=W1 at *
 refine bG 0 11 [8,9] [[],[0],[0,1],[0,1,2],[],[4],[4,5],[4,5,6],[],[0,1,2,3,8],[0,1,2,3,4,5,6,7,8,9]] [[none,some false],[none,some false],[none,some false],[none,some false],[none,none],[none,none],[none,none],[none,none],[some false,some false],[some true,some false],[some true,some true]] (AC W1 (.cells #[.slice none 0 0,.slice none 0 0] 26) (.cells #[.slice aC p.ds.length aA,.slice aF p.ts.length av] 26)) (fun _ _=>True) [15,16,17,18,19,20,21,22,5,6] rfl rfl (by rfl) (by kernel_rfl) (by kernel_rfl) (by kernel_rfl) (by kernel_rfl) (by kernel_rfl) (by rfl) (fun _=>trivial) (by rfl) rfl ?_
 simp only [List.take_succ_cons,List.take_zero,List.drop_zero,List.drop_succ_cons,gP,List.map_cons,List.map_nil]
 apply aH.step
 case aB=>
  intro c A w' hok hC hO hD
  have e0:=hO 0 (by rfl)
  simp [Act.eval] at e0
  simp [au,ah,aj,Act.eval,Region.binds] at hD
  simp [go_sem,gd,Oper.wp,hD,e0]
  exact ak.mk trivial (AC.skip (by rfl) (by rfl) hC) (ah.mk _ _)
 apply aH.step
 case aB=>
  intro c A w' hok hC hO hD
  simp [au,ah,aj,Act.eval,Region.binds] at hD
  simp [go_sem,gd,Oper.wp,hD]
  exact ak.mk trivial (AC.skip (by rfl) (by rfl) hC) (ah.mk _ _)
 apply aH.step
 case aB=>
  intro c A w' hok hC hO hD
  simp [au,ah,aj,Act.eval,Region.binds] at hD
  simp [go_sem,gd,Oper.wp,hD]
  exact ak.mk trivial (AC.skip (by rfl) (by rfl) hC) (ah.mk _ _)
 apply aH.step
 case aB=>
  intro c A w' hok hC hO hD
  simp [au,ah,aj,Act.eval,Region.binds] at hD
  simp [go_sem,gd,Oper.wp,hD,K0,K1,AC.below HD1 hC]
  exact ak.mk trivial (AC.skip (by rfl) (by rfl) hC) (ah.mk _ _)
 apply aH.step
 case aB=>
  intro c A w' hok hC hO hD
  have e0:=hO 0 (by rfl)
  simp [Act.eval] at e0
  simp [au,ah,aj,Act.eval,Region.binds] at hD
  simp [go_sem,gd,Oper.wp,hD,e0]
  exact ak.mk trivial (AC.skip (by rfl) (by rfl) hC) (ah.mk _ _)
 simp only [List.nil_append,List.cons_append]
 apply aH.step
 case aB=>
  intro c A w' hok hC hO hD
  simp [au,ah,aj,Act.eval,Region.binds] at hD
  simp [go_sem,gd,Oper.wp,hD]
  exact ak.mk trivial (AC.skip (by rfl) (by rfl) hC) (ah.mk _ _)
 apply aH.step
 case aB=>
  intro c A w' hok hC hO hD
  simp [au,ah,aj,Act.eval,Region.binds] at hD
  simp [go_sem,gd,Oper.wp,hD]
  exact ak.mk trivial (AC.skip (by rfl) (by rfl) hC) (ah.mk _ _)
 apply aH.step
 case aB=>
  intro c A w' hok hC hO hD
  simp [au,ah,aj,Act.eval,Region.binds] at hD
  simp [go_sem,gd,Oper.wp,hD,K2,AC.below HD1 hC]
  exact ak.mk trivial (AC.skip (by rfl) (by rfl) hC) (ah.mk _ _)
 simp only [List.nil_append,List.cons_append]
 apply aH.step
 case aB=>
  intro c A w' hok hC hO hD
  obtain ⟨x,y,rfl⟩:=hC.bits
  obtain ⟨rfl,rfl,-⟩:=hok
  have hw:w'=W1:=hC
  subst hw
  simp [go_sem,gd,Oper.wp]
  exact ak.mk trivial (AC.lay (by rfl) (by rfl)) (ah.mk _ _)
 refine aH.some (fun _ _=>True) (fun _ _ _ _ _=>trivial) ?_ ?_
 ·intro c A w' hok hC hO hD
  obtain ⟨x,y,rfl⟩:=hC.bits
  obtain ⟨rfl,rfl,-⟩:=hok
  have hw:w'=W1.alloc _:=hC
  subst hw
  simp [au,ah,aj,Act.eval,Region.binds] at hD
  simp [go_sem,gd,Oper.wp,hD]
  exact ak.mF (v:=undef) trivial (AC.fill (by rfl) (by rfl)) trivial
 simp only [List.nil_append,List.cons_append]
 apply aH.step
 case aB=>
  intro c A w' hok hC hO hD
  simp [au,ah,aj,Act.eval,Region.binds] at hD
  simp [go_sem,gd,Oper.wp,hD]
  exact ak.mk trivial (AC.skip (by rfl) (by rfl) hC) (ah.mk _ _)
 simp only [List.nil_append,List.cons_append]
 refine aH.done ?_
 intro wz bK
 simp only [List.drop_zero]
 intro v0 h0 v1 h1 v2 h2 v3 h3 v4 h4 v5 h5 v6 h6 v7 h7 v8 h8 v9 h9 v10 h10
 have h8':v8=_:=h8
 have jG:v10=_:=h10
 subst h8' jG
 clear h0 h1 h2 h3 h4 h5 h6 h7 h8 h9 h10
 refine bM.nil ?_
 refine dQ rfl ?_
 have gN:wz=W1.alloc _:=bK
 generalize hn1:W1.heap.size=n1 at *
 have HY:=Lib.hid ((HX.out.next HD1).kC hn1 (.slice aC p.ds.length aA) (.slice aF p.ts.length av) 26)
 rw [← gN] at HY
 clear bK gN HX K0 K1 K2 HD1 hn1
 go_simp
 obtain ⟨-,⟨-,c0⟩,⟨-,c1⟩,⟨-,c2⟩,⟨-,c3⟩,⟨-,c4⟩,⟨-,c5⟩,⟨-,c6⟩,⟨-,c7⟩,⟨-,c8⟩,⟨-,c9⟩,⟨-,c10⟩,⟨-,c11⟩,⟨-,c12⟩,⟨-,c13⟩,⟨-,c14⟩,⟨-,c15⟩,⟨-,c16⟩,⟨-,c17⟩,⟨-,c18⟩,-⟩:=HY.out
 go_wp2_with fail
 refine (aQ p _ aC aF aA av i aJ aI bc bV cK bf bW cO aZ ar 7 7 ⟨#[]⟩ dw.out (dG.out.same HY.out.1) (bQ HY.out)).mono ?_
 rintro e' W ⟨rfl,hb⟩
 replace HY:=Lib.hid (HY.out.next hb)
 clear hb c0 c1 c2 c3 c4 c5 c6 c7 c8 c9 c10 c11 c12 c13 c14 c15 c16 c17 c18
 obtain ⟨-,⟨-,c0⟩,⟨-,c1⟩,⟨-,c2⟩,⟨-,c3⟩,⟨-,c4⟩,⟨-,c5⟩,⟨-,c6⟩,⟨-,c7⟩,⟨-,c8⟩,⟨-,c9⟩,⟨-,c10⟩,⟨-,c11⟩,⟨-,c12⟩,⟨-,c13⟩,⟨-,c14⟩,⟨-,c15⟩,⟨-,c16⟩,⟨-,c17⟩,⟨-,c18⟩,-⟩:=HY.out
 go_wp2_with fail
 refine (aQ p _ aC aF aA av i aJ aI bc bV cK bf bW cO aZ ar 8 8 ⟨#[]⟩ dw.out (dG.out.same HY.out.1) (bQ HY.out)).mono ?_
 rintro e' W ⟨rfl,hb⟩
 replace HY:=Lib.hid (HY.out.next hb)
 clear hb c0 c1 c2 c3 c4 c5 c6 c7 c8 c9 c10 c11 c12 c13 c14 c15 c16 c17 c18
 obtain ⟨-,⟨-,c0⟩,⟨-,c1⟩,⟨-,c2⟩,⟨-,c3⟩,⟨-,c4⟩,⟨-,c5⟩,⟨-,c6⟩,⟨-,c7⟩,⟨-,c8⟩,⟨-,c9⟩,⟨-,c10⟩,⟨-,c11⟩,⟨-,c12⟩,⟨-,c13⟩,⟨-,c14⟩,⟨-,c15⟩,⟨-,c16⟩,⟨-,c17⟩,⟨-,c18⟩,-⟩:=HY.out
 go_wp2_with fail
 refine (aQ p _ aC aF aA av i aJ aI bc bV cK bf bW cO aZ ar 3 3 ⟨#[]⟩ dw.out (dG.out.same HY.out.1) (bQ HY.out)).mono ?_
 rintro e' W ⟨rfl,hb⟩
 replace HY:=Lib.hid (HY.out.next hb)
 clear hb c0 c1 c2 c3 c4 c5 c6 c7 c8 c9 c10 c11 c12 c13 c14 c15 c16 c17 c18
 obtain ⟨-,⟨-,c0⟩,⟨-,c1⟩,⟨-,c2⟩,⟨-,c3⟩,⟨-,c4⟩,⟨-,c5⟩,⟨-,c6⟩,⟨-,c7⟩,⟨-,c8⟩,⟨-,c9⟩,⟨-,c10⟩,⟨-,c11⟩,⟨-,c12⟩,⟨-,c13⟩,⟨-,c14⟩,⟨-,c15⟩,⟨-,c16⟩,⟨-,c17⟩,⟨-,c18⟩,-⟩:=HY.out
 generalize htx:aU ar 7 7 ⟨#[]⟩=tx at *
 generalize hat':aU ar 8 8 ⟨#[]⟩=nK at *
 generalize hlo:aU ar 3 3 ⟨#[]⟩=lop at *
 clear htx hat' hlo
 have hop:=iG.out
 have g1:(h.op == 1)=false:=by rw [hop]; rfl
 have g2:(h.op == 2)=false:=by rw [hop]; rfl
 have g3:(h.op == 3)=false:=by rw [hop]; rfl
 have g4:(h.op == 4)=false:=by rw [hop]; rfl
 have g5:(h.op == 5)=false:=by rw [hop]; rfl
 have g6:(h.op == 6)=false:=by rw [hop]; rfl
 have g7:(h.op == 7)=false:=by rw [hop]; rfl
 have g8:(h.op == 8)=false:=by rw [hop]; rfl
 have g9:(h.op == 9)=false:=by rw [hop]; rfl
 have g10:(h.op == 10)=false:=by rw [hop]; rfl
 have g11:(h.op == 11)=false:=by rw [hop]; rfl
 have g12:(h.op == 12)=false:=by rw [hop]; rfl
 have g13:(h.op == 13)=true:=by rw [hop]; rfl
 have g14:(h.op == 14)=false:=by rw [hop]; rfl
 have g15:(h.op == 15)=false:=by rw [hop]; rfl
 clear hop
 have vR:Hid (∃z:Int,kY p.ts h.nm=z):=Lib.hid ⟨_,rfl⟩
 obtain ⟨kk,hkk⟩:=vR.out
 have HKK:=Lib.hid hkk
 rw [hkk] at HR
 clear hkk vR
 cases tx
 ·cases nK
  ·cases hki:(kk == i)
   ·go_wp2_with fail
    refine (fM p i h.nm 7 7 _ aC aF aA av hi (HP.out.same HY.out.1)).mono ?_
    rintro e' W ⟨rfl,hb⟩
    replace HY:=Lib.hid (HY.out.next hb)
    clear hb c0 c1 c2 c3 c4 c5 c6 c7 c8 c9 c10 c11 c12 c13 c14 c15 c16 c17 c18
    obtain ⟨-,⟨-,c0⟩,⟨-,c1⟩,⟨-,c2⟩,⟨-,c3⟩,⟨-,c4⟩,⟨-,c5⟩,⟨-,c6⟩,⟨-,c7⟩,⟨-,c8⟩,⟨-,c9⟩,⟨-,c10⟩,⟨-,c11⟩,⟨-,c12⟩,⟨-,c13⟩,⟨-,c14⟩,⟨-,c15⟩,⟨-,c16⟩,⟨-,c17⟩,⟨-,c18⟩,-⟩:=HY.out
    go_wp2_with fail
    refine (kR p.ts h.nm _ aF av HP.out.2.1 (HP.out.same HY.out.1).2.2.2).mono ?_
    rintro e' W' ⟨rfl,rfl⟩
    rw [HKK.out]
    go_wp2_with fail
    refine (dO _ _).mono ?_
    rintro e' W' ⟨rfl,rfl⟩
    go_wp2_with fail
    refine (gU _ _ _).mono ?_
    rintro e' W' ⟨rfl,rfl⟩
    go_wp2_with fail
    go_ret
    exact ⟨aS (by rw [HR.out,hki]; first | done | rfl | simp [fP,nest]),HY.out.1⟩
   ·go_wp2_with fail
    refine (fM p i h.nm 7 7 _ aC aF aA av hi (HP.out.same HY.out.1)).mono ?_
    rintro e' W ⟨rfl,hb⟩
    replace HY:=Lib.hid (HY.out.next hb)
    clear hb c0 c1 c2 c3 c4 c5 c6 c7 c8 c9 c10 c11 c12 c13 c14 c15 c16 c17 c18
    obtain ⟨-,⟨-,c0⟩,⟨-,c1⟩,⟨-,c2⟩,⟨-,c3⟩,⟨-,c4⟩,⟨-,c5⟩,⟨-,c6⟩,⟨-,c7⟩,⟨-,c8⟩,⟨-,c9⟩,⟨-,c10⟩,⟨-,c11⟩,⟨-,c12⟩,⟨-,c13⟩,⟨-,c14⟩,⟨-,c15⟩,⟨-,c16⟩,⟨-,c17⟩,⟨-,c18⟩,-⟩:=HY.out
    go_wp2_with fail
    refine (kR p.ts h.nm _ aF av HP.out.2.1 (HP.out.same HY.out.1).2.2.2).mono ?_
    rintro e' W' ⟨rfl,rfl⟩
    rw [HKK.out]
    go_wp2_with fail
    refine (dO _ _).mono ?_
    rintro e' W' ⟨rfl,rfl⟩
    go_wp2_with fail
    refine (gU _ _ _).mono ?_
    rintro e' W' ⟨rfl,rfl⟩
    go_wp2_with fail
    go_ret
    exact ⟨aS (by rw [HR.out,hki]; first | done | rfl | simp [fP,nest]),HY.out.1⟩
  ·go_wp2_with fail
   refine (fM p i h.nm 7 7 _ aC aF aA av hi (HP.out.same HY.out.1)).mono ?_
   rintro e' W ⟨rfl,hb⟩
   replace HY:=Lib.hid (HY.out.next hb)
   clear hb c0 c1 c2 c3 c4 c5 c6 c7 c8 c9 c10 c11 c12 c13 c14 c15 c16 c17 c18
   obtain ⟨-,⟨-,c0⟩,⟨-,c1⟩,⟨-,c2⟩,⟨-,c3⟩,⟨-,c4⟩,⟨-,c5⟩,⟨-,c6⟩,⟨-,c7⟩,⟨-,c8⟩,⟨-,c9⟩,⟨-,c10⟩,⟨-,c11⟩,⟨-,c12⟩,⟨-,c13⟩,⟨-,c14⟩,⟨-,c15⟩,⟨-,c16⟩,⟨-,c17⟩,⟨-,c18⟩,-⟩:=HY.out
   go_wp2_with fail
   refine (dO _ _).mono ?_
   rintro e' W' ⟨rfl,rfl⟩
   go_wp2_with fail
   refine (gU _ _ _).mono ?_
   rintro e' W' ⟨rfl,rfl⟩
   go_wp2_with fail
   go_ret
   exact ⟨aS (by first | exact HR.out.symm | (rw [HR.out]; first | done | rfl | simp [fP,nest])),HY.out.1⟩
 ·go_wp2_with fail
  refine (fM p i h.nm 7 7 _ aC aF aA av hi (HP.out.same HY.out.1)).mono ?_
  rintro e' W ⟨rfl,hb⟩
  replace HY:=Lib.hid (HY.out.next hb)
  clear hb c0 c1 c2 c3 c4 c5 c6 c7 c8 c9 c10 c11 c12 c13 c14 c15 c16 c17 c18
  obtain ⟨-,⟨-,c0⟩,⟨-,c1⟩,⟨-,c2⟩,⟨-,c3⟩,⟨-,c4⟩,⟨-,c5⟩,⟨-,c6⟩,⟨-,c7⟩,⟨-,c8⟩,⟨-,c9⟩,⟨-,c10⟩,⟨-,c11⟩,⟨-,c12⟩,⟨-,c13⟩,⟨-,c14⟩,⟨-,c15⟩,⟨-,c16⟩,⟨-,c17⟩,⟨-,c18⟩,-⟩:=HY.out
  go_wp2_with fail
  refine (dO _ _).mono ?_
  rintro e' W' ⟨rfl,rfl⟩
  go_wp2_with fail
  refine (gU _ _ _).mono ?_
  rintro e' W' ⟨rfl,rfl⟩
  go_wp2_with fail
  go_ret
  exact ⟨aS (by first | exact HR.out.symm | (rw [HR.out]; first | done | rfl | simp [fP,nest])),HY.out.1⟩
end
end Go.Proofs.YtnknfoibmgphnaaDoor
end
section
set_option linter.unusedSimpArgs false
set_option linter.unusedVariables false
namespace Go.Proofs.YtnknfoibmgphnaaDoor
open Go.RowKit
open Md
section
variable (p:Pr) (w:World) (aC aF:Option Addr) (aA av:Nat) (i:Int) (aJ:Option Addr) (aI bc:Nat) (bV:Option Addr) (cK bf:Nat) (bW:Option Addr) (cO aZ:Nat)
set_option maxHeartbeats 4000000 in
set_option maxRecDepth 100000 in
theorem MN (h:eH) (b e ar:aR) (s:Sl) (hi:aX i) (hp:p.At w aC aF) (hin:jE w h b e s) (har:ar.len≤maxLen) (hat:ar.At w w.heap.size aJ 0) (hh:Holds w (kE bc p aC aF aA av i aJ ar.len aI bV cK bf bW cO aZ)) (hop:h.op=1) (hx:h.idx.len=0):
 Calls Tryd.prog 39 #[.pointer (some ⟨bc,0,none⟩),aY h b e s] w fun e' w'=>e'= .returned (.int .i64 (fP (bR (conv (mean p i h.nm)) 8 1) (iE p i h.dU h.xn h.dV h.bq)))∧Below w.heap.size w w':=by
 generalize hres:(fP (bR (conv (mean p i h.nm)) 8 1) (iE p i h.dU h.xn h.dV h.bq))=res
 have HR:Hid (res=(fP (bR (conv (mean p i h.nm)) 8 1) (iE p i h.dU h.xn h.dV h.bq))):=Lib.hid (by rw [← hres])
 have iG:=Lib.hid hop
 clear hres hop
 have HX0:=Lib.hid hx
 clear hx
 have HH:=Lib.hid (show Sit w w _ from ⟨Below.refl _ _,hh⟩)
 have jS:=Lib.hid hin
 have dG:=Lib.hid hat
 have dw:=Lib.hid har
 have HP:=Lib.hid hp
 unfold aY
 clear hh hin hat har hp
 go_enter Tryd.func39,Tryd.ntmps39
 go_upto_region 1 with fail
 generalize hW:World.alloc w _=W
 generalize Value.agg #[_,_,_,_,_,_,_,_,_,_,_]=a0
 have HX:Hid (Sit w W (iT w.heap.size h b e s (kE bc p aC aF aA av i aJ ar.len aI bV cK bf bW cO aZ))):=Lib.hid (by rw [← hW]; exact HH.out.gZ rfl _ _ _ _ _ _ _ _ _ _ _ _)
 clear hW HH
 have K0: ∀w',Below W.heap.size W w'→w'.cell? ⟨bc,0,none⟩=some (.slice aC p.ds.length aA):=fun w' hb=>(HX.out.next hb).2.2.2.2.2.2.2.2.2.2.2.2.1.2
 have K1: ∀w',Below W.heap.size W w'→w'.cell? ⟨bc,1,none⟩=some (.slice aF p.ts.length av):=fun w' hb=>(HX.out.next hb).2.2.2.2.2.2.2.2.2.2.2.2.2.1.2
 have K2: ∀w',Below W.heap.size W w'→w'.cell? ⟨bc,2,none⟩=some (.int .i64 i):=fun w' hb=>(HX.out.next hb).2.2.2.2.2.2.2.2.2.2.2.2.2.2.1.2
 have HD1:Below W.heap.size W (W.drewN 1):=below_drewN (Below.refl _ _) 1
 refine cu (by kernel_rfl) rfl ?_
 generalize W.drewN 1=W1 at *
 refine bG 0 11 [8,9] [[],[0],[0,1],[0,1,2],[],[4],[4,5],[4,5,6],[],[0,1,2,3,8],[0,1,2,3,4,5,6,7,8,9]] [[none,some false],[none,some false],[none,some false],[none,some false],[none,none],[none,none],[none,none],[none,none],[some false,some false],[some true,some false],[some true,some true]] (AC W1 (.cells #[.slice none 0 0,.slice none 0 0] 26) (.cells #[.slice aC p.ds.length aA,.slice aF p.ts.length av] 26)) (fun _ _=>True) [15,16,17,18,19,20,21,22,5,6] rfl rfl (by rfl) (by kernel_rfl) (by kernel_rfl) (by kernel_rfl) (by kernel_rfl) (by kernel_rfl) (by rfl) (fun _=>trivial) (by rfl) rfl ?_
 simp only [List.take_succ_cons,List.take_zero,List.drop_zero,List.drop_succ_cons,gP,List.map_cons,List.map_nil]
 apply aH.step
 case aB=>
  intro c A w' hok hC hO hD
  have e0:=hO 0 (by rfl)
  simp [Act.eval] at e0
  simp [au,ah,aj,Act.eval,Region.binds] at hD
  simp [go_sem,gd,Oper.wp,hD,e0]
  exact ak.mk trivial (AC.skip (by rfl) (by rfl) hC) (ah.mk _ _)
 apply aH.step
 case aB=>
  intro c A w' hok hC hO hD
  simp [au,ah,aj,Act.eval,Region.binds] at hD
  simp [go_sem,gd,Oper.wp,hD]
  exact ak.mk trivial (AC.skip (by rfl) (by rfl) hC) (ah.mk _ _)
 apply aH.step
 case aB=>
  intro c A w' hok hC hO hD
  simp [au,ah,aj,Act.eval,Region.binds] at hD
  simp [go_sem,gd,Oper.wp,hD]
  exact ak.mk trivial (AC.skip (by rfl) (by rfl) hC) (ah.mk _ _)
 apply aH.step
 case aB=>
  intro c A w' hok hC hO hD
  simp [au,ah,aj,Act.eval,Region.binds] at hD
  simp [go_sem,gd,Oper.wp,hD,K0,K1,AC.below HD1 hC]
  exact ak.mk trivial (AC.skip (by rfl) (by rfl) hC) (ah.mk _ _)
 apply aH.step
 case aB=>
  intro c A w' hok hC hO hD
  have e0:=hO 0 (by rfl)
  simp [Act.eval] at e0
  simp [au,ah,aj,Act.eval,Region.binds] at hD
  simp [go_sem,gd,Oper.wp,hD,e0]
  exact ak.mk trivial (AC.skip (by rfl) (by rfl) hC) (ah.mk _ _)
 simp only [List.nil_append,List.cons_append]
 apply aH.step
 case aB=>
  intro c A w' hok hC hO hD
  simp [au,ah,aj,Act.eval,Region.binds] at hD
  simp [go_sem,gd,Oper.wp,hD]
  exact ak.mk trivial (AC.skip (by rfl) (by rfl) hC) (ah.mk _ _)
 apply aH.step
 case aB=>
  intro c A w' hok hC hO hD
  simp [au,ah,aj,Act.eval,Region.binds] at hD
  simp [go_sem,gd,Oper.wp,hD]
  exact ak.mk trivial (AC.skip (by rfl) (by rfl) hC) (ah.mk _ _)
 apply aH.step
 case aB=>
  intro c A w' hok hC hO hD
  simp [au,ah,aj,Act.eval,Region.binds] at hD
  simp [go_sem,gd,Oper.wp,hD,K2,AC.below HD1 hC]
  exact ak.mk trivial (AC.skip (by rfl) (by rfl) hC) (ah.mk _ _)
 simp only [List.nil_append,List.cons_append]
 apply aH.step
 case aB=>
  intro c A w' hok hC hO hD
  obtain ⟨x,y,rfl⟩:=hC.bits
  obtain ⟨rfl,rfl,-⟩:=hok
  have hw:w'=W1:=hC
  subst hw
  simp [go_sem,gd,Oper.wp]
  exact ak.mk trivial (AC.lay (by rfl) (by rfl)) (ah.mk _ _)
 refine aH.some (fun _ _=>True) (fun _ _ _ _ _=>trivial) ?_ ?_
 ·intro c A w' hok hC hO hD
  obtain ⟨x,y,rfl⟩:=hC.bits
  obtain ⟨rfl,rfl,-⟩:=hok
  have hw:w'=W1.alloc _:=hC
  subst hw
  simp [au,ah,aj,Act.eval,Region.binds] at hD
  simp [go_sem,gd,Oper.wp,hD]
  exact ak.mF (v:=undef) trivial (AC.fill (by rfl) (by rfl)) trivial
 simp only [List.nil_append,List.cons_append]
 apply aH.step
 case aB=>
  intro c A w' hok hC hO hD
  simp [au,ah,aj,Act.eval,Region.binds] at hD
  simp [go_sem,gd,Oper.wp,hD]
  exact ak.mk trivial (AC.skip (by rfl) (by rfl) hC) (ah.mk _ _)
 simp only [List.nil_append,List.cons_append]
 refine aH.done ?_
 intro wz bK
 simp only [List.drop_zero]
 intro v0 h0 v1 h1 v2 h2 v3 h3 v4 h4 v5 h5 v6 h6 v7 h7 v8 h8 v9 h9 v10 h10
 have h8':v8=_:=h8
 have jG:v10=_:=h10
 subst h8' jG
 clear h0 h1 h2 h3 h4 h5 h6 h7 h8 h9 h10
 refine bM.nil ?_
 refine dQ rfl ?_
 have gN:wz=W1.alloc _:=bK
 generalize hn1:W1.heap.size=n1 at *
 have HY:=Lib.hid ((HX.out.next HD1).kC hn1 (.slice aC p.ds.length aA) (.slice aF p.ts.length av) 26)
 rw [← gN] at HY
 clear bK gN HX K0 K1 K2 HD1 hn1
 go_simp
 obtain ⟨-,⟨-,c0⟩,⟨-,c1⟩,⟨-,c2⟩,⟨-,c3⟩,⟨-,c4⟩,⟨-,c5⟩,⟨-,c6⟩,⟨-,c7⟩,⟨-,c8⟩,⟨-,c9⟩,⟨-,c10⟩,⟨-,c11⟩,⟨-,c12⟩,⟨-,c13⟩,⟨-,c14⟩,⟨-,c15⟩,⟨-,c16⟩,⟨-,c17⟩,⟨-,c18⟩,-⟩:=HY.out
 go_wp2_with fail
 refine (aQ p _ aC aF aA av i aJ aI bc bV cK bf bW cO aZ ar 7 7 ⟨#[]⟩ dw.out (dG.out.same HY.out.1) (bQ HY.out)).mono ?_
 rintro e' W ⟨rfl,hb⟩
 replace HY:=Lib.hid (HY.out.next hb)
 clear hb c0 c1 c2 c3 c4 c5 c6 c7 c8 c9 c10 c11 c12 c13 c14 c15 c16 c17 c18
 obtain ⟨-,⟨-,c0⟩,⟨-,c1⟩,⟨-,c2⟩,⟨-,c3⟩,⟨-,c4⟩,⟨-,c5⟩,⟨-,c6⟩,⟨-,c7⟩,⟨-,c8⟩,⟨-,c9⟩,⟨-,c10⟩,⟨-,c11⟩,⟨-,c12⟩,⟨-,c13⟩,⟨-,c14⟩,⟨-,c15⟩,⟨-,c16⟩,⟨-,c17⟩,⟨-,c18⟩,-⟩:=HY.out
 go_wp2_with fail
 refine (aQ p _ aC aF aA av i aJ aI bc bV cK bf bW cO aZ ar 8 8 ⟨#[]⟩ dw.out (dG.out.same HY.out.1) (bQ HY.out)).mono ?_
 rintro e' W ⟨rfl,hb⟩
 replace HY:=Lib.hid (HY.out.next hb)
 clear hb c0 c1 c2 c3 c4 c5 c6 c7 c8 c9 c10 c11 c12 c13 c14 c15 c16 c17 c18
 obtain ⟨-,⟨-,c0⟩,⟨-,c1⟩,⟨-,c2⟩,⟨-,c3⟩,⟨-,c4⟩,⟨-,c5⟩,⟨-,c6⟩,⟨-,c7⟩,⟨-,c8⟩,⟨-,c9⟩,⟨-,c10⟩,⟨-,c11⟩,⟨-,c12⟩,⟨-,c13⟩,⟨-,c14⟩,⟨-,c15⟩,⟨-,c16⟩,⟨-,c17⟩,⟨-,c18⟩,-⟩:=HY.out
 go_wp2_with fail
 refine (aQ p _ aC aF aA av i aJ aI bc bV cK bf bW cO aZ ar 3 3 ⟨#[]⟩ dw.out (dG.out.same HY.out.1) (bQ HY.out)).mono ?_
 rintro e' W ⟨rfl,hb⟩
 replace HY:=Lib.hid (HY.out.next hb)
 clear hb c0 c1 c2 c3 c4 c5 c6 c7 c8 c9 c10 c11 c12 c13 c14 c15 c16 c17 c18
 obtain ⟨-,⟨-,c0⟩,⟨-,c1⟩,⟨-,c2⟩,⟨-,c3⟩,⟨-,c4⟩,⟨-,c5⟩,⟨-,c6⟩,⟨-,c7⟩,⟨-,c8⟩,⟨-,c9⟩,⟨-,c10⟩,⟨-,c11⟩,⟨-,c12⟩,⟨-,c13⟩,⟨-,c14⟩,⟨-,c15⟩,⟨-,c16⟩,⟨-,c17⟩,⟨-,c18⟩,-⟩:=HY.out
 generalize htx:aU ar 7 7 ⟨#[]⟩=tx at *
 generalize hat':aU ar 8 8 ⟨#[]⟩=nK at *
 generalize hlo:aU ar 3 3 ⟨#[]⟩=lop at *
 clear htx hat' hlo
 have hop:=iG.out
 have g1:(h.op == 1)=true:=by rw [hop]; rfl
 have g2:(h.op == 2)=false:=by rw [hop]; rfl
 have g3:(h.op == 3)=false:=by rw [hop]; rfl
 have g4:(h.op == 4)=false:=by rw [hop]; rfl
 have g5:(h.op == 5)=false:=by rw [hop]; rfl
 have g6:(h.op == 6)=false:=by rw [hop]; rfl
 have g7:(h.op == 7)=false:=by rw [hop]; rfl
 have g8:(h.op == 8)=false:=by rw [hop]; rfl
 have g9:(h.op == 9)=false:=by rw [hop]; rfl
 have g10:(h.op == 10)=false:=by rw [hop]; rfl
 have g11:(h.op == 11)=false:=by rw [hop]; rfl
 have g12:(h.op == 12)=false:=by rw [hop]; rfl
 have g13:(h.op == 13)=false:=by rw [hop]; rfl
 have g14:(h.op == 14)=false:=by rw [hop]; rfl
 have g15:(h.op == 15)=false:=by rw [hop]; rfl
 clear hop
 rw [HX0.out] at c6
 go_upto_region 8 with fail
 obtain ⟨T,F,qz,hst,hF,hnext⟩:=calm W
 have HF:=Lib.hid hF
 have bS:=Lib.hid hnext
 clear hnext hF
 have d0:=fun x=>(HY.out.next (HF.out x)).2.1.2
 have d1:=fun x=>(HY.out.next (HF.out x)).2.2.1.2
 have d2:=fun x=>(HY.out.next (HF.out x)).2.2.2.1.2
 have d3:=fun x=>(HY.out.next (HF.out x)).2.2.2.2.1.2
 have d4:=fun x=>(HY.out.next (HF.out x)).2.2.2.2.2.1.2
 have d5:=fun x=>(HY.out.next (HF.out x)).2.2.2.2.2.2.1.2
 have d6:=fun x=>(HY.out.next (HF.out x)).2.2.2.2.2.2.2.1.2
 have d7:=fun x=>(HY.out.next (HF.out x)).2.2.2.2.2.2.2.2.1.2
 have d8:=fun x=>(HY.out.next (HF.out x)).2.2.2.2.2.2.2.2.2.1.2
 have d9:=fun x=>(HY.out.next (HF.out x)).2.2.2.2.2.2.2.2.2.2.1.2
 have nk:=fun x=>(HY.out.next (HF.out x)).2.2.2.2.2.2.2.2.2.2.2.1.2
 have mQ:=fun x=>(HY.out.next (HF.out x)).2.2.2.2.2.2.2.2.2.2.2.2.1.2
 have qj:=fun x=>(HY.out.next (HF.out x)).2.2.2.2.2.2.2.2.2.2.2.2.2.1.2
 have qK:=fun x=>(HY.out.next (HF.out x)).2.2.2.2.2.2.2.2.2.2.2.2.2.2.1.2
 have nL:=fun x=>(HY.out.next (HF.out x)).2.2.2.2.2.2.2.2.2.2.2.2.2.2.2.1.2
 have qI:=fun x=>(HY.out.next (HF.out x)).2.2.2.2.2.2.2.2.2.2.2.2.2.2.2.2.1.2
 have qg:=fun x=>(HY.out.next (HF.out x)).2.2.2.2.2.2.2.2.2.2.2.2.2.2.2.2.2.1.2
 have qH:=fun x=>(HY.out.next (HF.out x)).2.2.2.2.2.2.2.2.2.2.2.2.2.2.2.2.2.2.1.2
 have pJ:=fun x=>(HY.out.next (HF.out x)).2.2.2.2.2.2.2.2.2.2.2.2.2.2.2.2.2.2.2.1.2
 clear c0 c1 c2 c3 c4 c5 c6 c7 c8 c9 c10 c11 c12 c13 c14 c15 c16 c17 c18
 refine gF F (by kernel_rfl) (by kernel_rfl) hst ?_
 repeat (any_goals (first | go_big_quiet_step ((first | (go_at_call 50; refine (fM p i h.nm 8 1 _ aC aF aA av hi ((HP.out.same HY.out.1).same (HF.out _))).mono ?_; rintro e w' ⟨rfl,hb⟩; exact ⟨rfl,bS.out _ _ hb⟩) | (go_at_call 51; refine (kJ p i h.dU h.xn h.dV h.bq _ aC aF s.dW aA av s.cB hi ((HP.out.same HY.out.1).same (HF.out _)) jS.out.1.2.2.2.2.2.1 ((jS.out.2.2.1.same HY.out.1).same (HF.out _))).mono ?_; rintro e w' ⟨rfl,hb⟩; exact ⟨rfl,bS.out _ _ hb⟩) | (go_at_call 49; refine (gU _ _ _).mono ?_; rintro e w' ⟨rfl,rfl⟩; exact ⟨rfl,bS.out _ _ (Below.refl _ _)⟩))) | (refine wpQuiet_step (fun K hK=> ?_); go_simp; first | (refine hK _ ?_; clear hK K) | (split <;> first | (refine hK _ ?_; clear hK K) | (apply Exists.intro; refine ⟨fun _=> ?_,hK _ ?_⟩; ((first | (go_at_call 50; refine (fM p i h.nm 8 1 _ aC aF aA av hi ((HP.out.same HY.out.1).same (HF.out _))).mono ?_; rintro e w' ⟨rfl,hb⟩; exact ⟨rfl,bS.out _ _ hb⟩) | (go_at_call 51; refine (kJ p i h.dU h.xn h.dV h.bq _ aC aF s.dW aA av s.cB hi ((HP.out.same HY.out.1).same (HF.out _)) jS.out.1.2.2.2.2.2.1 ((jS.out.2.2.1.same HY.out.1).same (HF.out _))).mono ?_; rintro e w' ⟨rfl,hb⟩; exact ⟨rfl,bS.out _ _ hb⟩) | (go_at_call 49; refine (gU _ _ _).mono ?_; rintro e w' ⟨rfl,rfl⟩; exact ⟨rfl,bS.out _ _ (Below.refl _ _)⟩))); clear hK K)))))
 all_goals (refine wpQuiet_nil ?_; rintro _ ⟨x,rfl⟩)
 replace HY:=Lib.hid (HY.out.next (HF.out x))
 clear d0 d1 d2 d3 d4 d5 d6 d7 d8 d9 nk mQ qj qK nL qI qg qH pJ HF bS hst
 generalize F x=W2 at *
 go_wp2_with fail
 go_ret
 exact ⟨aS (by first | exact HR.out.symm | (rw [HR.out]; first | done | rfl | simp [fP,nest])),HY.out.1⟩
set_option maxHeartbeats 4000000 in
set_option maxRecDepth 100000 in
theorem M9 (h:eH) (b e ar:aR) (s:Sl) (hi:aX i) (hp:p.At w aC aF) (hin:jE w h b e s) (har:ar.len≤maxLen) (hat:ar.At w w.heap.size aJ 0) (hh:Holds w (kE bc p aC aF aA av i aJ ar.len aI bV cK bf bW cO aZ)) (hop:h.op=1) (yA n0:Int) (yu:ByteArray) (qp vY:bJ) (hix:h.idx= .cons yA n0 yu qp vY):
 Calls Tryd.prog 39 #[.pointer (some ⟨bc,0,none⟩),aY h b e s] w fun e' w'=>e'= .returned (.int .i64 (fP (bR (conv (mean p i h.nm)) 2 2) (fP (iE p i yA n0 yu qp) (iE p i h.dU h.xn h.dV h.bq))))∧Below w.heap.size w w':=by
 generalize hres:(fP (bR (conv (mean p i h.nm)) 2 2) (fP (iE p i yA n0 yu qp) (iE p i h.dU h.xn h.dV h.bq)))=res
 have HR:Hid (res=(fP (bR (conv (mean p i h.nm)) 2 2) (fP (iE p i yA n0 yu qp) (iE p i h.dU h.xn h.dV h.bq)))):=Lib.hid (by rw [← hres])
 have iG:=Lib.hid hop
 clear hres hop
 obtain ⟨⟨b0,oC,ET,cap0,hao,ni,x0,x1,x2,x3,hok0,hk0⟩,-⟩:=(hix ▸ hin.2.1:(bJ.cons yA n0 yu qp vY).At w w.heap.size s.fU 0)
 have L9:=Lib.hid (And.intro hok0 hk0)
 have Bw:=Lib.hid (And.intro ni (And.intro x0 (And.intro x1 (And.intro x2 x3))))
 have LK:=Lib.hid hao
 have BS:=Lib.hid hix
 clear hok0 hk0 ni x0 x1 x2 x3 hao hix
 have HH:=Lib.hid (show Sit w w _ from ⟨Below.refl _ _,hh⟩)
 have jS:=Lib.hid hin
 have dG:=Lib.hid hat
 have dw:=Lib.hid har
 have HP:=Lib.hid hp
 unfold aY
 clear hh hin hat har hp
 go_enter Tryd.func39,Tryd.ntmps39
 go_upto_region 1 with fail
 generalize hW:World.alloc w _=W
 generalize Value.agg #[_,_,_,_,_,_,_,_,_,_,_]=a0
 have HX:Hid (Sit w W (iT w.heap.size h b e s (kE bc p aC aF aA av i aJ ar.len aI bV cK bf bW cO aZ))):=Lib.hid (by rw [← hW]; exact HH.out.gZ rfl _ _ _ _ _ _ _ _ _ _ _ _)
 clear hW HH
 have K0: ∀w',Below W.heap.size W w'→w'.cell? ⟨bc,0,none⟩=some (.slice aC p.ds.length aA):=fun w' hb=>(HX.out.next hb).2.2.2.2.2.2.2.2.2.2.2.2.1.2
 have K1: ∀w',Below W.heap.size W w'→w'.cell? ⟨bc,1,none⟩=some (.slice aF p.ts.length av):=fun w' hb=>(HX.out.next hb).2.2.2.2.2.2.2.2.2.2.2.2.2.1.2
 have K2: ∀w',Below W.heap.size W w'→w'.cell? ⟨bc,2,none⟩=some (.int .i64 i):=fun w' hb=>(HX.out.next hb).2.2.2.2.2.2.2.2.2.2.2.2.2.2.1.2
 have HD1:Below W.heap.size W (W.drewN 1):=below_drewN (Below.refl _ _) 1
 refine cu (by kernel_rfl) rfl ?_
 generalize W.drewN 1=W1 at *
 refine bG 0 11 [8,9] [[],[0],[0,1],[0,1,2],[],[4],[4,5],[4,5,6],[],[0,1,2,3,8],[0,1,2,3,4,5,6,7,8,9]] [[none,some false],[none,some false],[none,some false],[none,some false],[none,none],[none,none],[none,none],[none,none],[some false,some false],[some true,some false],[some true,some true]] (AC W1 (.cells #[.slice none 0 0,.slice none 0 0] 26) (.cells #[.slice aC p.ds.length aA,.slice aF p.ts.length av] 26)) (fun _ _=>True) [15,16,17,18,19,20,21,22,5,6] rfl rfl (by rfl) (by kernel_rfl) (by kernel_rfl) (by kernel_rfl) (by kernel_rfl) (by kernel_rfl) (by rfl) (fun _=>trivial) (by rfl) rfl ?_
 simp only [List.take_succ_cons,List.take_zero,List.drop_zero,List.drop_succ_cons,gP,List.map_cons,List.map_nil]
 apply aH.step
 case aB=>
  intro c A w' hok hC hO hD
  have e0:=hO 0 (by rfl)
  simp [Act.eval] at e0
  simp [au,ah,aj,Act.eval,Region.binds] at hD
  simp [go_sem,gd,Oper.wp,hD,e0]
  exact ak.mk trivial (AC.skip (by rfl) (by rfl) hC) (ah.mk _ _)
 apply aH.step
 case aB=>
  intro c A w' hok hC hO hD
  simp [au,ah,aj,Act.eval,Region.binds] at hD
  simp [go_sem,gd,Oper.wp,hD]
  exact ak.mk trivial (AC.skip (by rfl) (by rfl) hC) (ah.mk _ _)
 apply aH.step
 case aB=>
  intro c A w' hok hC hO hD
  simp [au,ah,aj,Act.eval,Region.binds] at hD
  simp [go_sem,gd,Oper.wp,hD]
  exact ak.mk trivial (AC.skip (by rfl) (by rfl) hC) (ah.mk _ _)
 apply aH.step
 case aB=>
  intro c A w' hok hC hO hD
  simp [au,ah,aj,Act.eval,Region.binds] at hD
  simp [go_sem,gd,Oper.wp,hD,K0,K1,AC.below HD1 hC]
  exact ak.mk trivial (AC.skip (by rfl) (by rfl) hC) (ah.mk _ _)
 apply aH.step
 case aB=>
  intro c A w' hok hC hO hD
  have e0:=hO 0 (by rfl)
  simp [Act.eval] at e0
  simp [au,ah,aj,Act.eval,Region.binds] at hD
  simp [go_sem,gd,Oper.wp,hD,e0]
  exact ak.mk trivial (AC.skip (by rfl) (by rfl) hC) (ah.mk _ _)
 simp only [List.nil_append,List.cons_append]
 apply aH.step
 case aB=>
  intro c A w' hok hC hO hD
  simp [au,ah,aj,Act.eval,Region.binds] at hD
  simp [go_sem,gd,Oper.wp,hD]
  exact ak.mk trivial (AC.skip (by rfl) (by rfl) hC) (ah.mk _ _)
 apply aH.step
 case aB=>
  intro c A w' hok hC hO hD
  simp [au,ah,aj,Act.eval,Region.binds] at hD
  simp [go_sem,gd,Oper.wp,hD]
  exact ak.mk trivial (AC.skip (by rfl) (by rfl) hC) (ah.mk _ _)
 apply aH.step
 case aB=>
  intro c A w' hok hC hO hD
  simp [au,ah,aj,Act.eval,Region.binds] at hD
  simp [go_sem,gd,Oper.wp,hD,K2,AC.below HD1 hC]
  exact ak.mk trivial (AC.skip (by rfl) (by rfl) hC) (ah.mk _ _)
 simp only [List.nil_append,List.cons_append]
 apply aH.step
 case aB=>
  intro c A w' hok hC hO hD
  obtain ⟨x,y,rfl⟩:=hC.bits
  obtain ⟨rfl,rfl,-⟩:=hok
  have hw:w'=W1:=hC
  subst hw
  simp [go_sem,gd,Oper.wp]
  exact ak.mk trivial (AC.lay (by rfl) (by rfl)) (ah.mk _ _)
 refine aH.some (fun _ _=>True) (fun _ _ _ _ _=>trivial) ?_ ?_
 ·intro c A w' hok hC hO hD
  obtain ⟨x,y,rfl⟩:=hC.bits
  obtain ⟨rfl,rfl,-⟩:=hok
  have hw:w'=W1.alloc _:=hC
  subst hw
  simp [au,ah,aj,Act.eval,Region.binds] at hD
  simp [go_sem,gd,Oper.wp,hD]
  exact ak.mF (v:=undef) trivial (AC.fill (by rfl) (by rfl)) trivial
 simp only [List.nil_append,List.cons_append]
 apply aH.step
 case aB=>
  intro c A w' hok hC hO hD
  simp [au,ah,aj,Act.eval,Region.binds] at hD
  simp [go_sem,gd,Oper.wp,hD]
  exact ak.mk trivial (AC.skip (by rfl) (by rfl) hC) (ah.mk _ _)
 simp only [List.nil_append,List.cons_append]
 refine aH.done ?_
 intro wz bK
 simp only [List.drop_zero]
 intro v0 h0 v1 h1 v2 h2 v3 h3 v4 h4 v5 h5 v6 h6 v7 h7 v8 h8 v9 h9 v10 h10
 have h8':v8=_:=h8
 have jG:v10=_:=h10
 subst h8' jG
 clear h0 h1 h2 h3 h4 h5 h6 h7 h8 h9 h10
 refine bM.nil ?_
 refine dQ rfl ?_
 have gN:wz=W1.alloc _:=bK
 generalize hn1:W1.heap.size=n1 at *
 have HY:=Lib.hid ((HX.out.next HD1).kC hn1 (.slice aC p.ds.length aA) (.slice aF p.ts.length av) 26)
 rw [← gN] at HY
 clear bK gN HX K0 K1 K2 HD1 hn1
 go_simp
 obtain ⟨-,⟨-,c0⟩,⟨-,c1⟩,⟨-,c2⟩,⟨-,c3⟩,⟨-,c4⟩,⟨-,c5⟩,⟨-,c6⟩,⟨-,c7⟩,⟨-,c8⟩,⟨-,c9⟩,⟨-,c10⟩,⟨-,c11⟩,⟨-,c12⟩,⟨-,c13⟩,⟨-,c14⟩,⟨-,c15⟩,⟨-,c16⟩,⟨-,c17⟩,⟨-,c18⟩,-⟩:=HY.out
 go_wp2_with fail
 refine (aQ p _ aC aF aA av i aJ aI bc bV cK bf bW cO aZ ar 7 7 ⟨#[]⟩ dw.out (dG.out.same HY.out.1) (bQ HY.out)).mono ?_
 rintro e' W ⟨rfl,hb⟩
 replace HY:=Lib.hid (HY.out.next hb)
 clear hb c0 c1 c2 c3 c4 c5 c6 c7 c8 c9 c10 c11 c12 c13 c14 c15 c16 c17 c18
 obtain ⟨-,⟨-,c0⟩,⟨-,c1⟩,⟨-,c2⟩,⟨-,c3⟩,⟨-,c4⟩,⟨-,c5⟩,⟨-,c6⟩,⟨-,c7⟩,⟨-,c8⟩,⟨-,c9⟩,⟨-,c10⟩,⟨-,c11⟩,⟨-,c12⟩,⟨-,c13⟩,⟨-,c14⟩,⟨-,c15⟩,⟨-,c16⟩,⟨-,c17⟩,⟨-,c18⟩,-⟩:=HY.out
 go_wp2_with fail
 refine (aQ p _ aC aF aA av i aJ aI bc bV cK bf bW cO aZ ar 8 8 ⟨#[]⟩ dw.out (dG.out.same HY.out.1) (bQ HY.out)).mono ?_
 rintro e' W ⟨rfl,hb⟩
 replace HY:=Lib.hid (HY.out.next hb)
 clear hb c0 c1 c2 c3 c4 c5 c6 c7 c8 c9 c10 c11 c12 c13 c14 c15 c16 c17 c18
 obtain ⟨-,⟨-,c0⟩,⟨-,c1⟩,⟨-,c2⟩,⟨-,c3⟩,⟨-,c4⟩,⟨-,c5⟩,⟨-,c6⟩,⟨-,c7⟩,⟨-,c8⟩,⟨-,c9⟩,⟨-,c10⟩,⟨-,c11⟩,⟨-,c12⟩,⟨-,c13⟩,⟨-,c14⟩,⟨-,c15⟩,⟨-,c16⟩,⟨-,c17⟩,⟨-,c18⟩,-⟩:=HY.out
 go_wp2_with fail
 refine (aQ p _ aC aF aA av i aJ aI bc bV cK bf bW cO aZ ar 3 3 ⟨#[]⟩ dw.out (dG.out.same HY.out.1) (bQ HY.out)).mono ?_
 rintro e' W ⟨rfl,hb⟩
 replace HY:=Lib.hid (HY.out.next hb)
 clear hb c0 c1 c2 c3 c4 c5 c6 c7 c8 c9 c10 c11 c12 c13 c14 c15 c16 c17 c18
 obtain ⟨-,⟨-,c0⟩,⟨-,c1⟩,⟨-,c2⟩,⟨-,c3⟩,⟨-,c4⟩,⟨-,c5⟩,⟨-,c6⟩,⟨-,c7⟩,⟨-,c8⟩,⟨-,c9⟩,⟨-,c10⟩,⟨-,c11⟩,⟨-,c12⟩,⟨-,c13⟩,⟨-,c14⟩,⟨-,c15⟩,⟨-,c16⟩,⟨-,c17⟩,⟨-,c18⟩,-⟩:=HY.out
 generalize htx:aU ar 7 7 ⟨#[]⟩=tx at *
 generalize hat':aU ar 8 8 ⟨#[]⟩=nK at *
 generalize hlo:aU ar 3 3 ⟨#[]⟩=lop at *
 clear htx hat' hlo
 have hop:=iG.out
 have g1:(h.op == 1)=true:=by rw [hop]; rfl
 have g2:(h.op == 2)=false:=by rw [hop]; rfl
 have g3:(h.op == 3)=false:=by rw [hop]; rfl
 have g4:(h.op == 4)=false:=by rw [hop]; rfl
 have g5:(h.op == 5)=false:=by rw [hop]; rfl
 have g6:(h.op == 6)=false:=by rw [hop]; rfl
 have g7:(h.op == 7)=false:=by rw [hop]; rfl
 have g8:(h.op == 8)=false:=by rw [hop]; rfl
 have g9:(h.op == 9)=false:=by rw [hop]; rfl
 have g10:(h.op == 10)=false:=by rw [hop]; rfl
 have g11:(h.op == 11)=false:=by rw [hop]; rfl
 have g12:(h.op == 12)=false:=by rw [hop]; rfl
 have g13:(h.op == 13)=false:=by rw [hop]; rfl
 have g14:(h.op == 14)=false:=by rw [hop]; rfl
 have g15:(h.op == 15)=false:=by rw [hop]; rfl
 clear hop
 rw [BS.out,LK.out] at c6
 simp only [bJ.len] at c6
 go_upto_region 9 with fail
 obtain ⟨T,F,qz,hst,hF,hnext⟩:=calm W
 have HF:=Lib.hid hF
 have bS:=Lib.hid hnext
 clear hnext hF
 have d0:=fun x=>(HY.out.next (HF.out x)).2.1.2
 have d1:=fun x=>(HY.out.next (HF.out x)).2.2.1.2
 have d2:=fun x=>(HY.out.next (HF.out x)).2.2.2.1.2
 have d3:=fun x=>(HY.out.next (HF.out x)).2.2.2.2.1.2
 have d4:=fun x=>(HY.out.next (HF.out x)).2.2.2.2.2.1.2
 have d5:=fun x=>(HY.out.next (HF.out x)).2.2.2.2.2.2.1.2
 have d6:=fun x=>(HY.out.next (HF.out x)).2.2.2.2.2.2.2.1.2
 have d7:=fun x=>(HY.out.next (HF.out x)).2.2.2.2.2.2.2.2.1.2
 have d8:=fun x=>(HY.out.next (HF.out x)).2.2.2.2.2.2.2.2.2.1.2
 have d9:=fun x=>(HY.out.next (HF.out x)).2.2.2.2.2.2.2.2.2.2.1.2
 have nk:=fun x=>(HY.out.next (HF.out x)).2.2.2.2.2.2.2.2.2.2.2.1.2
 have mQ:=fun x=>(HY.out.next (HF.out x)).2.2.2.2.2.2.2.2.2.2.2.2.1.2
 have qj:=fun x=>(HY.out.next (HF.out x)).2.2.2.2.2.2.2.2.2.2.2.2.2.1.2
 have qK:=fun x=>(HY.out.next (HF.out x)).2.2.2.2.2.2.2.2.2.2.2.2.2.2.1.2
 have nL:=fun x=>(HY.out.next (HF.out x)).2.2.2.2.2.2.2.2.2.2.2.2.2.2.2.1.2
 have qI:=fun x=>(HY.out.next (HF.out x)).2.2.2.2.2.2.2.2.2.2.2.2.2.2.2.2.1.2
 have qg:=fun x=>(HY.out.next (HF.out x)).2.2.2.2.2.2.2.2.2.2.2.2.2.2.2.2.2.1.2
 have qH:=fun x=>(HY.out.next (HF.out x)).2.2.2.2.2.2.2.2.2.2.2.2.2.2.2.2.2.2.1.2
 have pJ:=fun x=>(HY.out.next (HF.out x)).2.2.2.2.2.2.2.2.2.2.2.2.2.2.2.2.2.2.2.1.2
 clear c0 c1 c2 c3 c4 c5 c6 c7 c8 c9 c10 c11 c12 c13 c14 c15 c16 c17 c18
 have y0:=fun x=>(((HY.out.1.trans ((HF.out x).mono HY.out.1.size)).cell (p:=⟨b0,oC + 0 * 4,none⟩) Bw.out.1)).trans Bw.out.2.1
 have y1:=fun x=>(((HY.out.1.trans ((HF.out x).mono HY.out.1.size)).cell (p:=⟨b0,oC + 0 * 4 + 1,none⟩) Bw.out.1)).trans Bw.out.2.2.1
 have y2:=fun x=>(((HY.out.1.trans ((HF.out x).mono HY.out.1.size)).cell (p:=⟨b0,oC + 0 * 4 + 2,none⟩) Bw.out.1)).trans Bw.out.2.2.2.1
 have y3:=fun x=>(((HY.out.1.trans ((HF.out x).mono HY.out.1.size)).cell (p:=⟨b0,oC + 0 * 4 + 3,none⟩) Bw.out.1)).trans Bw.out.2.2.2.2
 simp only [Nat.zero_mul,Nat.add_zero] at y0 y1 y2 y3
 simp only [BS.out,LK.out,bJ.len] at d6
 have hz0:(0:Int) < (vY.len:Int) + 1:=by omega
 have hz1:(0:Int) < ((vY.len + 1:Nat):Int):=by omega
 refine gF F (by kernel_rfl) (by kernel_rfl) hst ?_
 repeat (any_goals (first | go_big_quiet_step ((first | (go_at_call 50; refine (fM p i h.nm 2 2 _ aC aF aA av hi ((HP.out.same HY.out.1).same (HF.out _))).mono ?_; rintro e w' ⟨rfl,hb⟩; exact ⟨rfl,bS.out _ _ hb⟩) | (go_at_call_of 51 (Value.agg #[.int .i64 yA,.int .i64 n0,.string yu,.slice ET qp.len cap0]); refine (kJ p i yA n0 yu qp _ aC aF ET aA av cap0 hi ((HP.out.same HY.out.1).same (HF.out _)) L9.out.1 ((L9.out.2.same HY.out.1).same (HF.out _))).mono ?_; rintro e w' ⟨rfl,hb⟩; exact ⟨rfl,bS.out _ _ hb⟩) | (go_at_call_of 51 (Value.agg #[.int .i64 h.dU,.int .i64 h.xn,.string h.dV,.slice s.dW h.bq.len s.cB]); refine (kJ p i h.dU h.xn h.dV h.bq _ aC aF s.dW aA av s.cB hi ((HP.out.same HY.out.1).same (HF.out _)) jS.out.1.2.2.2.2.2.1 ((jS.out.2.2.1.same HY.out.1).same (HF.out _))).mono ?_; rintro e w' ⟨rfl,hb⟩; exact ⟨rfl,bS.out _ _ hb⟩) | (go_at_call 49; refine (gU _ _ _).mono ?_; rintro e w' ⟨rfl,rfl⟩; exact ⟨rfl,bS.out _ _ (Below.refl _ _)⟩))) | (refine wpQuiet_step (fun K hK=> ?_); go_simp; first | (refine hK _ ?_; clear hK K) | (split <;> first | (refine hK _ ?_; clear hK K) | (apply Exists.intro; refine ⟨fun _=> ?_,hK _ ?_⟩; ((first | (go_at_call 50; refine (fM p i h.nm 2 2 _ aC aF aA av hi ((HP.out.same HY.out.1).same (HF.out _))).mono ?_; rintro e w' ⟨rfl,hb⟩; exact ⟨rfl,bS.out _ _ hb⟩) | (go_at_call_of 51 (Value.agg #[.int .i64 yA,.int .i64 n0,.string yu,.slice ET qp.len cap0]); refine (kJ p i yA n0 yu qp _ aC aF ET aA av cap0 hi ((HP.out.same HY.out.1).same (HF.out _)) L9.out.1 ((L9.out.2.same HY.out.1).same (HF.out _))).mono ?_; rintro e w' ⟨rfl,hb⟩; exact ⟨rfl,bS.out _ _ hb⟩) | (go_at_call_of 51 (Value.agg #[.int .i64 h.dU,.int .i64 h.xn,.string h.dV,.slice s.dW h.bq.len s.cB]); refine (kJ p i h.dU h.xn h.dV h.bq _ aC aF s.dW aA av s.cB hi ((HP.out.same HY.out.1).same (HF.out _)) jS.out.1.2.2.2.2.2.1 ((jS.out.2.2.1.same HY.out.1).same (HF.out _))).mono ?_; rintro e w' ⟨rfl,hb⟩; exact ⟨rfl,bS.out _ _ hb⟩) | (go_at_call 49; refine (gU _ _ _).mono ?_; rintro e w' ⟨rfl,rfl⟩; exact ⟨rfl,bS.out _ _ (Below.refl _ _)⟩))); clear hK K)))))
 all_goals (refine wpQuiet_nil ?_; rintro _ ⟨x,rfl⟩)
 replace HY:=Lib.hid (HY.out.next (HF.out x))
 clear d0 d1 d2 d3 d4 d5 d6 d7 d8 d9 nk mQ qj qK nL qI qg qH pJ y0 y1 y2 y3 HF bS hst
 generalize F x=W2 at *
 go_wp2_with fail
 go_ret
 exact ⟨aS (by first | exact HR.out.symm | (rw [HR.out]; first | done | rfl | simp [fP,nest])),HY.out.1⟩
set_option maxHeartbeats 4000000 in
set_option maxRecDepth 100000 in
theorem MB (h:eH) (b e ar:aR) (s:Sl) (hi:aX i) (hp:p.At w aC aF) (hin:jE w h b e s) (har:ar.len≤maxLen) (hat:ar.At w w.heap.size aJ 0) (hh:Holds w (kE bc p aC aF aA av i aJ ar.len aI bV cK bf bW cO aZ)) (hop:h.op=15):
 Calls Tryd.prog 39 #[.pointer (some ⟨bc,0,none⟩),aY h b e s] w fun e' w'=>e'= .returned (.int .i64 (fP (bR (conv (mean p i h.nm)) 8 8) (fP (bR (conv (mean p i h.arg)) 6 6) (nest (aU ar 7 7 ⟨#[]⟩)))))∧Below w.heap.size w w':=by
 generalize hres:(fP (bR (conv (mean p i h.nm)) 8 8) (fP (bR (conv (mean p i h.arg)) 6 6) (nest (aU ar 7 7 ⟨#[]⟩))))=res
 have HR:Hid (res=(fP (bR (conv (mean p i h.nm)) 8 8) (fP (bR (conv (mean p i h.arg)) 6 6) (nest (aU ar 7 7 ⟨#[]⟩))))):=Lib.hid (by rw [← hres])
 have iG:=Lib.hid hop
 clear hres hop
 have HH:=Lib.hid (show Sit w w _ from ⟨Below.refl _ _,hh⟩)
 have jS:=Lib.hid hin
 have dG:=Lib.hid hat
 have dw:=Lib.hid har
 have HP:=Lib.hid hp
 unfold aY
 clear hh hin hat har hp
 go_enter Tryd.func39,Tryd.ntmps39
 go_upto_region 1 with fail
 generalize hW:World.alloc w _=W
 generalize Value.agg #[_,_,_,_,_,_,_,_,_,_,_]=a0
 have HX:Hid (Sit w W (iT w.heap.size h b e s (kE bc p aC aF aA av i aJ ar.len aI bV cK bf bW cO aZ))):=Lib.hid (by rw [← hW]; exact HH.out.gZ rfl _ _ _ _ _ _ _ _ _ _ _ _)
 clear hW HH
 have K0: ∀w',Below W.heap.size W w'→w'.cell? ⟨bc,0,none⟩=some (.slice aC p.ds.length aA):=fun w' hb=>(HX.out.next hb).2.2.2.2.2.2.2.2.2.2.2.2.1.2
 have K1: ∀w',Below W.heap.size W w'→w'.cell? ⟨bc,1,none⟩=some (.slice aF p.ts.length av):=fun w' hb=>(HX.out.next hb).2.2.2.2.2.2.2.2.2.2.2.2.2.1.2
 have K2: ∀w',Below W.heap.size W w'→w'.cell? ⟨bc,2,none⟩=some (.int .i64 i):=fun w' hb=>(HX.out.next hb).2.2.2.2.2.2.2.2.2.2.2.2.2.2.1.2
 have HD1:Below W.heap.size W (W.drewN 1):=below_drewN (Below.refl _ _) 1
 refine cu (by kernel_rfl) rfl ?_
 generalize W.drewN 1=W1 at *
 refine bG 0 11 [8,9] [[],[0],[0,1],[0,1,2],[],[4],[4,5],[4,5,6],[],[0,1,2,3,8],[0,1,2,3,4,5,6,7,8,9]] [[none,some false],[none,some false],[none,some false],[none,some false],[none,none],[none,none],[none,none],[none,none],[some false,some false],[some true,some false],[some true,some true]] (AC W1 (.cells #[.slice none 0 0,.slice none 0 0] 26) (.cells #[.slice aC p.ds.length aA,.slice aF p.ts.length av] 26)) (fun _ _=>True) [15,16,17,18,19,20,21,22,5,6] rfl rfl (by rfl) (by kernel_rfl) (by kernel_rfl) (by kernel_rfl) (by kernel_rfl) (by kernel_rfl) (by rfl) (fun _=>trivial) (by rfl) rfl ?_
 simp only [List.take_succ_cons,List.take_zero,List.drop_zero,List.drop_succ_cons,gP,List.map_cons,List.map_nil]
 apply aH.step
 case aB=>
  intro c A w' hok hC hO hD
  have e0:=hO 0 (by rfl)
  simp [Act.eval] at e0
  simp [au,ah,aj,Act.eval,Region.binds] at hD
  simp [go_sem,gd,Oper.wp,hD,e0]
  exact ak.mk trivial (AC.skip (by rfl) (by rfl) hC) (ah.mk _ _)
 apply aH.step
 case aB=>
  intro c A w' hok hC hO hD
  simp [au,ah,aj,Act.eval,Region.binds] at hD
  simp [go_sem,gd,Oper.wp,hD]
  exact ak.mk trivial (AC.skip (by rfl) (by rfl) hC) (ah.mk _ _)
 apply aH.step
 case aB=>
  intro c A w' hok hC hO hD
  simp [au,ah,aj,Act.eval,Region.binds] at hD
  simp [go_sem,gd,Oper.wp,hD]
  exact ak.mk trivial (AC.skip (by rfl) (by rfl) hC) (ah.mk _ _)
 apply aH.step
 case aB=>
  intro c A w' hok hC hO hD
  simp [au,ah,aj,Act.eval,Region.binds] at hD
  simp [go_sem,gd,Oper.wp,hD,K0,K1,AC.below HD1 hC]
  exact ak.mk trivial (AC.skip (by rfl) (by rfl) hC) (ah.mk _ _)
 apply aH.step
 case aB=>
  intro c A w' hok hC hO hD
  have e0:=hO 0 (by rfl)
  simp [Act.eval] at e0
  simp [au,ah,aj,Act.eval,Region.binds] at hD
  simp [go_sem,gd,Oper.wp,hD,e0]
  exact ak.mk trivial (AC.skip (by rfl) (by rfl) hC) (ah.mk _ _)
 simp only [List.nil_append,List.cons_append]
 apply aH.step
 case aB=>
  intro c A w' hok hC hO hD
  simp [au,ah,aj,Act.eval,Region.binds] at hD
  simp [go_sem,gd,Oper.wp,hD]
  exact ak.mk trivial (AC.skip (by rfl) (by rfl) hC) (ah.mk _ _)
 apply aH.step
 case aB=>
  intro c A w' hok hC hO hD
  simp [au,ah,aj,Act.eval,Region.binds] at hD
  simp [go_sem,gd,Oper.wp,hD]
  exact ak.mk trivial (AC.skip (by rfl) (by rfl) hC) (ah.mk _ _)
 apply aH.step
 case aB=>
  intro c A w' hok hC hO hD
  simp [au,ah,aj,Act.eval,Region.binds] at hD
  simp [go_sem,gd,Oper.wp,hD,K2,AC.below HD1 hC]
  exact ak.mk trivial (AC.skip (by rfl) (by rfl) hC) (ah.mk _ _)
 simp only [List.nil_append,List.cons_append]
 apply aH.step
 case aB=>
  intro c A w' hok hC hO hD
  obtain ⟨x,y,rfl⟩:=hC.bits
  obtain ⟨rfl,rfl,-⟩:=hok
  have hw:w'=W1:=hC
  subst hw
  simp [go_sem,gd,Oper.wp]
  exact ak.mk trivial (AC.lay (by rfl) (by rfl)) (ah.mk _ _)
 refine aH.some (fun _ _=>True) (fun _ _ _ _ _=>trivial) ?_ ?_
 ·intro c A w' hok hC hO hD
  obtain ⟨x,y,rfl⟩:=hC.bits
  obtain ⟨rfl,rfl,-⟩:=hok
  have hw:w'=W1.alloc _:=hC
  subst hw
  simp [au,ah,aj,Act.eval,Region.binds] at hD
  simp [go_sem,gd,Oper.wp,hD]
  exact ak.mF (v:=undef) trivial (AC.fill (by rfl) (by rfl)) trivial
 simp only [List.nil_append,List.cons_append]
 apply aH.step
 case aB=>
  intro c A w' hok hC hO hD
  simp [au,ah,aj,Act.eval,Region.binds] at hD
  simp [go_sem,gd,Oper.wp,hD]
  exact ak.mk trivial (AC.skip (by rfl) (by rfl) hC) (ah.mk _ _)
 simp only [List.nil_append,List.cons_append]
 refine aH.done ?_
 intro wz bK
 simp only [List.drop_zero]
 intro v0 h0 v1 h1 v2 h2 v3 h3 v4 h4 v5 h5 v6 h6 v7 h7 v8 h8 v9 h9 v10 h10
 have h8':v8=_:=h8
 have jG:v10=_:=h10
 subst h8' jG
 clear h0 h1 h2 h3 h4 h5 h6 h7 h8 h9 h10
 refine bM.nil ?_
 refine dQ rfl ?_
 have gN:wz=W1.alloc _:=bK
 generalize hn1:W1.heap.size=n1 at *
 have HY:=Lib.hid ((HX.out.next HD1).kC hn1 (.slice aC p.ds.length aA) (.slice aF p.ts.length av) 26)
 rw [← gN] at HY
 clear bK gN HX K0 K1 K2 HD1 hn1
 go_simp
 obtain ⟨-,⟨-,c0⟩,⟨-,c1⟩,⟨-,c2⟩,⟨-,c3⟩,⟨-,c4⟩,⟨-,c5⟩,⟨-,c6⟩,⟨-,c7⟩,⟨-,c8⟩,⟨-,c9⟩,⟨-,c10⟩,⟨-,c11⟩,⟨-,c12⟩,⟨-,c13⟩,⟨-,c14⟩,⟨-,c15⟩,⟨-,c16⟩,⟨-,c17⟩,⟨-,c18⟩,-⟩:=HY.out
 go_wp2_with fail
 refine (aQ p _ aC aF aA av i aJ aI bc bV cK bf bW cO aZ ar 7 7 ⟨#[]⟩ dw.out (dG.out.same HY.out.1) (bQ HY.out)).mono ?_
 rintro e' W ⟨rfl,hb⟩
 replace HY:=Lib.hid (HY.out.next hb)
 clear hb c0 c1 c2 c3 c4 c5 c6 c7 c8 c9 c10 c11 c12 c13 c14 c15 c16 c17 c18
 obtain ⟨-,⟨-,c0⟩,⟨-,c1⟩,⟨-,c2⟩,⟨-,c3⟩,⟨-,c4⟩,⟨-,c5⟩,⟨-,c6⟩,⟨-,c7⟩,⟨-,c8⟩,⟨-,c9⟩,⟨-,c10⟩,⟨-,c11⟩,⟨-,c12⟩,⟨-,c13⟩,⟨-,c14⟩,⟨-,c15⟩,⟨-,c16⟩,⟨-,c17⟩,⟨-,c18⟩,-⟩:=HY.out
 go_wp2_with fail
 refine (aQ p _ aC aF aA av i aJ aI bc bV cK bf bW cO aZ ar 8 8 ⟨#[]⟩ dw.out (dG.out.same HY.out.1) (bQ HY.out)).mono ?_
 rintro e' W ⟨rfl,hb⟩
 replace HY:=Lib.hid (HY.out.next hb)
 clear hb c0 c1 c2 c3 c4 c5 c6 c7 c8 c9 c10 c11 c12 c13 c14 c15 c16 c17 c18
 obtain ⟨-,⟨-,c0⟩,⟨-,c1⟩,⟨-,c2⟩,⟨-,c3⟩,⟨-,c4⟩,⟨-,c5⟩,⟨-,c6⟩,⟨-,c7⟩,⟨-,c8⟩,⟨-,c9⟩,⟨-,c10⟩,⟨-,c11⟩,⟨-,c12⟩,⟨-,c13⟩,⟨-,c14⟩,⟨-,c15⟩,⟨-,c16⟩,⟨-,c17⟩,⟨-,c18⟩,-⟩:=HY.out
 go_wp2_with fail
 refine (aQ p _ aC aF aA av i aJ aI bc bV cK bf bW cO aZ ar 3 3 ⟨#[]⟩ dw.out (dG.out.same HY.out.1) (bQ HY.out)).mono ?_
 rintro e' W ⟨rfl,hb⟩
 replace HY:=Lib.hid (HY.out.next hb)
 clear hb c0 c1 c2 c3 c4 c5 c6 c7 c8 c9 c10 c11 c12 c13 c14 c15 c16 c17 c18
 obtain ⟨-,⟨-,c0⟩,⟨-,c1⟩,⟨-,c2⟩,⟨-,c3⟩,⟨-,c4⟩,⟨-,c5⟩,⟨-,c6⟩,⟨-,c7⟩,⟨-,c8⟩,⟨-,c9⟩,⟨-,c10⟩,⟨-,c11⟩,⟨-,c12⟩,⟨-,c13⟩,⟨-,c14⟩,⟨-,c15⟩,⟨-,c16⟩,⟨-,c17⟩,⟨-,c18⟩,-⟩:=HY.out
 generalize htx:aU ar 7 7 ⟨#[]⟩=tx at *
 generalize hat':aU ar 8 8 ⟨#[]⟩=nK at *
 generalize hlo:aU ar 3 3 ⟨#[]⟩=lop at *
 clear htx hat' hlo
 have hop:=iG.out
 have g1:(h.op == 1)=false:=by rw [hop]; rfl
 have g2:(h.op == 2)=false:=by rw [hop]; rfl
 have g3:(h.op == 3)=false:=by rw [hop]; rfl
 have g4:(h.op == 4)=false:=by rw [hop]; rfl
 have g5:(h.op == 5)=false:=by rw [hop]; rfl
 have g6:(h.op == 6)=false:=by rw [hop]; rfl
 have g7:(h.op == 7)=false:=by rw [hop]; rfl
 have g8:(h.op == 8)=false:=by rw [hop]; rfl
 have g9:(h.op == 9)=false:=by rw [hop]; rfl
 have g10:(h.op == 10)=false:=by rw [hop]; rfl
 have g11:(h.op == 11)=false:=by rw [hop]; rfl
 have g12:(h.op == 12)=false:=by rw [hop]; rfl
 have g13:(h.op == 13)=false:=by rw [hop]; rfl
 have g14:(h.op == 14)=false:=by rw [hop]; rfl
 have g15:(h.op == 15)=true:=by rw [hop]; rfl
 clear hop
 go_upto_region 49 with fail
 obtain ⟨T,F,qz,hst,hF,hnext⟩:=calm W
 have HF:=Lib.hid hF
 have bS:=Lib.hid hnext
 clear hnext hF
 have d0:=fun x=>(HY.out.next (HF.out x)).2.1.2
 have d1:=fun x=>(HY.out.next (HF.out x)).2.2.1.2
 have d2:=fun x=>(HY.out.next (HF.out x)).2.2.2.1.2
 have d3:=fun x=>(HY.out.next (HF.out x)).2.2.2.2.1.2
 have d4:=fun x=>(HY.out.next (HF.out x)).2.2.2.2.2.1.2
 have d5:=fun x=>(HY.out.next (HF.out x)).2.2.2.2.2.2.1.2
 have d6:=fun x=>(HY.out.next (HF.out x)).2.2.2.2.2.2.2.1.2
 have d7:=fun x=>(HY.out.next (HF.out x)).2.2.2.2.2.2.2.2.1.2
 have d8:=fun x=>(HY.out.next (HF.out x)).2.2.2.2.2.2.2.2.2.1.2
 have d9:=fun x=>(HY.out.next (HF.out x)).2.2.2.2.2.2.2.2.2.2.1.2
 have nk:=fun x=>(HY.out.next (HF.out x)).2.2.2.2.2.2.2.2.2.2.2.1.2
 have mQ:=fun x=>(HY.out.next (HF.out x)).2.2.2.2.2.2.2.2.2.2.2.2.1.2
 have qj:=fun x=>(HY.out.next (HF.out x)).2.2.2.2.2.2.2.2.2.2.2.2.2.1.2
 have qK:=fun x=>(HY.out.next (HF.out x)).2.2.2.2.2.2.2.2.2.2.2.2.2.2.1.2
 have nL:=fun x=>(HY.out.next (HF.out x)).2.2.2.2.2.2.2.2.2.2.2.2.2.2.2.1.2
 have qI:=fun x=>(HY.out.next (HF.out x)).2.2.2.2.2.2.2.2.2.2.2.2.2.2.2.2.1.2
 have qg:=fun x=>(HY.out.next (HF.out x)).2.2.2.2.2.2.2.2.2.2.2.2.2.2.2.2.2.1.2
 have qH:=fun x=>(HY.out.next (HF.out x)).2.2.2.2.2.2.2.2.2.2.2.2.2.2.2.2.2.2.1.2
 have pJ:=fun x=>(HY.out.next (HF.out x)).2.2.2.2.2.2.2.2.2.2.2.2.2.2.2.2.2.2.2.1.2
 clear c0 c1 c2 c3 c4 c5 c6 c7 c8 c9 c10 c11 c12 c13 c14 c15 c16 c17 c18
 refine gF F (by kernel_rfl) (by kernel_rfl) hst ?_
 repeat (any_goals (first | go_big_quiet_step ((first | (go_at_call_of 50 (Value.int .i64 8); refine (fM p i h.nm 8 8 _ aC aF aA av hi ((HP.out.same HY.out.1).same (HF.out _))).mono ?_; rintro e w' ⟨rfl,hb⟩; exact ⟨rfl,bS.out _ _ hb⟩) | (go_at_call_of 50 (Value.int .i64 6); refine (fM p i h.arg 6 6 _ aC aF aA av hi ((HP.out.same HY.out.1).same (HF.out _))).mono ?_; rintro e w' ⟨rfl,hb⟩; exact ⟨rfl,bS.out _ _ hb⟩) | (go_at_call 49; refine (gU _ _ _).mono ?_; rintro e w' ⟨rfl,rfl⟩; exact ⟨rfl,bS.out _ _ (Below.refl _ _)⟩) | (go_at_call 52; refine (dO _ _).mono ?_; rintro e w' ⟨rfl,rfl⟩; exact ⟨rfl,bS.out _ _ (Below.refl _ _)⟩))) | (refine wpQuiet_step (fun K hK=> ?_); go_simp; first | (refine hK _ ?_; clear hK K) | (split <;> first | (refine hK _ ?_; clear hK K) | (apply Exists.intro; refine ⟨fun _=> ?_,hK _ ?_⟩; ((first | (go_at_call_of 50 (Value.int .i64 8); refine (fM p i h.nm 8 8 _ aC aF aA av hi ((HP.out.same HY.out.1).same (HF.out _))).mono ?_; rintro e w' ⟨rfl,hb⟩; exact ⟨rfl,bS.out _ _ hb⟩) | (go_at_call_of 50 (Value.int .i64 6); refine (fM p i h.arg 6 6 _ aC aF aA av hi ((HP.out.same HY.out.1).same (HF.out _))).mono ?_; rintro e w' ⟨rfl,hb⟩; exact ⟨rfl,bS.out _ _ hb⟩) | (go_at_call 49; refine (gU _ _ _).mono ?_; rintro e w' ⟨rfl,rfl⟩; exact ⟨rfl,bS.out _ _ (Below.refl _ _)⟩) | (go_at_call 52; refine (dO _ _).mono ?_; rintro e w' ⟨rfl,rfl⟩; exact ⟨rfl,bS.out _ _ (Below.refl _ _)⟩))); clear hK K)))))
 all_goals (refine wpQuiet_nil ?_; rintro _ ⟨x,rfl⟩)
 replace HY:=Lib.hid (HY.out.next (HF.out x))
 clear d0 d1 d2 d3 d4 d5 d6 d7 d8 d9 nk mQ qj qK nL qI qg qH pJ HF bS hst
 generalize F x=W2 at *
 go_wp2_with fail
 go_ret
 exact ⟨aS (by first | exact HR.out.symm | (rw [HR.out]; first | done | rfl | simp [fP,nest])),HY.out.1⟩
set_option maxHeartbeats 4000000 in
set_option maxRecDepth 100000 in
theorem O1 (h:eH) (b e ar:aR) (s:Sl) (hi:aX i) (hp:p.At w aC aF) (hin:jE w h b e s) (har:ar.len≤maxLen) (hat:ar.At w w.heap.size aJ 0) (hh:Holds w (kE bc p aC aF aA av i aJ ar.len aI bV cK bf bW cO aZ)) (hop:h.op=9):
 Calls Tryd.prog 39 #[.pointer (some ⟨bc,0,none⟩),aY h b e s] w fun e' w'=>e'= .returned (.int .i64 (if bR (conv (mean p i h.nm)) 5 5 != 0 then bR (conv (mean p i h.nm)) 5 5 else nest ((aU ar 7 7 ⟨#[]⟩ || !aU ar 4 4 (ig p.ds h.nm)) || (true && aU ar 8 8 ⟨#[]⟩))))∧Below w.heap.size w w':=by
 generalize hres:(if bR (conv (mean p i h.nm)) 5 5 != 0 then bR (conv (mean p i h.nm)) 5 5 else nest ((aU ar 7 7 ⟨#[]⟩ || !aU ar 4 4 (ig p.ds h.nm)) || (true && aU ar 8 8 ⟨#[]⟩)))=res
 have HR:Hid (res=(if bR (conv (mean p i h.nm)) 5 5 != 0 then bR (conv (mean p i h.nm)) 5 5 else nest ((aU ar 7 7 ⟨#[]⟩ || !aU ar 4 4 (ig p.ds h.nm)) || (true && aU ar 8 8 ⟨#[]⟩)))):=Lib.hid (by rw [← hres])
 have iG:=Lib.hid hop
 clear hres hop
 have HH:=Lib.hid (show Sit w w _ from ⟨Below.refl _ _,hh⟩)
 have jS:=Lib.hid hin
 have dG:=Lib.hid hat
 have dw:=Lib.hid har
 have HP:=Lib.hid hp
 unfold aY
 clear hh hin hat har hp
 go_enter Tryd.func39,Tryd.ntmps39
 go_upto_region 1 with fail
 generalize hW:World.alloc w _=W
 generalize Value.agg #[_,_,_,_,_,_,_,_,_,_,_]=a0
 have HX:Hid (Sit w W (iT w.heap.size h b e s (kE bc p aC aF aA av i aJ ar.len aI bV cK bf bW cO aZ))):=Lib.hid (by rw [← hW]; exact HH.out.gZ rfl _ _ _ _ _ _ _ _ _ _ _ _)
 clear hW HH
 have K0: ∀w',Below W.heap.size W w'→w'.cell? ⟨bc,0,none⟩=some (.slice aC p.ds.length aA):=fun w' hb=>(HX.out.next hb).2.2.2.2.2.2.2.2.2.2.2.2.1.2
 have K1: ∀w',Below W.heap.size W w'→w'.cell? ⟨bc,1,none⟩=some (.slice aF p.ts.length av):=fun w' hb=>(HX.out.next hb).2.2.2.2.2.2.2.2.2.2.2.2.2.1.2
 have K2: ∀w',Below W.heap.size W w'→w'.cell? ⟨bc,2,none⟩=some (.int .i64 i):=fun w' hb=>(HX.out.next hb).2.2.2.2.2.2.2.2.2.2.2.2.2.2.1.2
 have HD1:Below W.heap.size W (W.drewN 1):=below_drewN (Below.refl _ _) 1
 refine cu (by kernel_rfl) rfl ?_
 generalize W.drewN 1=W1 at *
 refine bG 0 11 [8,9] [[],[0],[0,1],[0,1,2],[],[4],[4,5],[4,5,6],[],[0,1,2,3,8],[0,1,2,3,4,5,6,7,8,9]] [[none,some false],[none,some false],[none,some false],[none,some false],[none,none],[none,none],[none,none],[none,none],[some false,some false],[some true,some false],[some true,some true]] (AC W1 (.cells #[.slice none 0 0,.slice none 0 0] 26) (.cells #[.slice aC p.ds.length aA,.slice aF p.ts.length av] 26)) (fun _ _=>True) [15,16,17,18,19,20,21,22,5,6] rfl rfl (by rfl) (by kernel_rfl) (by kernel_rfl) (by kernel_rfl) (by kernel_rfl) (by kernel_rfl) (by rfl) (fun _=>trivial) (by rfl) rfl ?_
 simp only [List.take_succ_cons,List.take_zero,List.drop_zero,List.drop_succ_cons,gP,List.map_cons,List.map_nil]
 apply aH.step
 case aB=>
  intro c A w' hok hC hO hD
  have e0:=hO 0 (by rfl)
  simp [Act.eval] at e0
  simp [au,ah,aj,Act.eval,Region.binds] at hD
  simp [go_sem,gd,Oper.wp,hD,e0]
  exact ak.mk trivial (AC.skip (by rfl) (by rfl) hC) (ah.mk _ _)
 apply aH.step
 case aB=>
  intro c A w' hok hC hO hD
  simp [au,ah,aj,Act.eval,Region.binds] at hD
  simp [go_sem,gd,Oper.wp,hD]
  exact ak.mk trivial (AC.skip (by rfl) (by rfl) hC) (ah.mk _ _)
 apply aH.step
 case aB=>
  intro c A w' hok hC hO hD
  simp [au,ah,aj,Act.eval,Region.binds] at hD
  simp [go_sem,gd,Oper.wp,hD]
  exact ak.mk trivial (AC.skip (by rfl) (by rfl) hC) (ah.mk _ _)
 apply aH.step
 case aB=>
  intro c A w' hok hC hO hD
  simp [au,ah,aj,Act.eval,Region.binds] at hD
  simp [go_sem,gd,Oper.wp,hD,K0,K1,AC.below HD1 hC]
  exact ak.mk trivial (AC.skip (by rfl) (by rfl) hC) (ah.mk _ _)
 apply aH.step
 case aB=>
  intro c A w' hok hC hO hD
  have e0:=hO 0 (by rfl)
  simp [Act.eval] at e0
  simp [au,ah,aj,Act.eval,Region.binds] at hD
  simp [go_sem,gd,Oper.wp,hD,e0]
  exact ak.mk trivial (AC.skip (by rfl) (by rfl) hC) (ah.mk _ _)
 simp only [List.nil_append,List.cons_append]
 apply aH.step
 case aB=>
  intro c A w' hok hC hO hD
  simp [au,ah,aj,Act.eval,Region.binds] at hD
  simp [go_sem,gd,Oper.wp,hD]
  exact ak.mk trivial (AC.skip (by rfl) (by rfl) hC) (ah.mk _ _)
 apply aH.step
 case aB=>
  intro c A w' hok hC hO hD
  simp [au,ah,aj,Act.eval,Region.binds] at hD
  simp [go_sem,gd,Oper.wp,hD]
  exact ak.mk trivial (AC.skip (by rfl) (by rfl) hC) (ah.mk _ _)
 apply aH.step
 case aB=>
  intro c A w' hok hC hO hD
  simp [au,ah,aj,Act.eval,Region.binds] at hD
  simp [go_sem,gd,Oper.wp,hD,K2,AC.below HD1 hC]
  exact ak.mk trivial (AC.skip (by rfl) (by rfl) hC) (ah.mk _ _)
 simp only [List.nil_append,List.cons_append]
 apply aH.step
 case aB=>
  intro c A w' hok hC hO hD
  obtain ⟨x,y,rfl⟩:=hC.bits
  obtain ⟨rfl,rfl,-⟩:=hok
  have hw:w'=W1:=hC
  subst hw
  simp [go_sem,gd,Oper.wp]
  exact ak.mk trivial (AC.lay (by rfl) (by rfl)) (ah.mk _ _)
 refine aH.some (fun _ _=>True) (fun _ _ _ _ _=>trivial) ?_ ?_
 ·intro c A w' hok hC hO hD
  obtain ⟨x,y,rfl⟩:=hC.bits
  obtain ⟨rfl,rfl,-⟩:=hok
  have hw:w'=W1.alloc _:=hC
  subst hw
  simp [au,ah,aj,Act.eval,Region.binds] at hD
  simp [go_sem,gd,Oper.wp,hD]
  exact ak.mF (v:=undef) trivial (AC.fill (by rfl) (by rfl)) trivial
 simp only [List.nil_append,List.cons_append]
 apply aH.step
 case aB=>
  intro c A w' hok hC hO hD
  simp [au,ah,aj,Act.eval,Region.binds] at hD
  simp [go_sem,gd,Oper.wp,hD]
  exact ak.mk trivial (AC.skip (by rfl) (by rfl) hC) (ah.mk _ _)
 simp only [List.nil_append,List.cons_append]
 refine aH.done ?_
 intro wz bK
 simp only [List.drop_zero]
 intro v0 h0 v1 h1 v2 h2 v3 h3 v4 h4 v5 h5 v6 h6 v7 h7 v8 h8 v9 h9 v10 h10
 have h8':v8=_:=h8
 have jG:v10=_:=h10
 subst h8' jG
 clear h0 h1 h2 h3 h4 h5 h6 h7 h8 h9 h10
 refine bM.nil ?_
 refine dQ rfl ?_
 have gN:wz=W1.alloc _:=bK
 generalize hn1:W1.heap.size=n1 at *
 have HY:=Lib.hid ((HX.out.next HD1).kC hn1 (.slice aC p.ds.length aA) (.slice aF p.ts.length av) 26)
 rw [← gN] at HY
 clear bK gN HX K0 K1 K2 HD1 hn1
 go_simp
 obtain ⟨-,⟨-,c0⟩,⟨-,c1⟩,⟨-,c2⟩,⟨-,c3⟩,⟨-,c4⟩,⟨-,c5⟩,⟨-,c6⟩,⟨-,c7⟩,⟨-,c8⟩,⟨-,c9⟩,⟨-,c10⟩,⟨-,c11⟩,⟨-,c12⟩,⟨-,c13⟩,⟨-,c14⟩,⟨-,c15⟩,⟨-,c16⟩,⟨-,c17⟩,⟨-,c18⟩,-⟩:=HY.out
 go_wp2_with fail
 refine (aQ p _ aC aF aA av i aJ aI bc bV cK bf bW cO aZ ar 7 7 ⟨#[]⟩ dw.out (dG.out.same HY.out.1) (bQ HY.out)).mono ?_
 rintro e' W ⟨rfl,hb⟩
 replace HY:=Lib.hid (HY.out.next hb)
 clear hb c0 c1 c2 c3 c4 c5 c6 c7 c8 c9 c10 c11 c12 c13 c14 c15 c16 c17 c18
 obtain ⟨-,⟨-,c0⟩,⟨-,c1⟩,⟨-,c2⟩,⟨-,c3⟩,⟨-,c4⟩,⟨-,c5⟩,⟨-,c6⟩,⟨-,c7⟩,⟨-,c8⟩,⟨-,c9⟩,⟨-,c10⟩,⟨-,c11⟩,⟨-,c12⟩,⟨-,c13⟩,⟨-,c14⟩,⟨-,c15⟩,⟨-,c16⟩,⟨-,c17⟩,⟨-,c18⟩,-⟩:=HY.out
 go_wp2_with fail
 refine (aQ p _ aC aF aA av i aJ aI bc bV cK bf bW cO aZ ar 8 8 ⟨#[]⟩ dw.out (dG.out.same HY.out.1) (bQ HY.out)).mono ?_
 rintro e' W ⟨rfl,hb⟩
 replace HY:=Lib.hid (HY.out.next hb)
 clear hb c0 c1 c2 c3 c4 c5 c6 c7 c8 c9 c10 c11 c12 c13 c14 c15 c16 c17 c18
 obtain ⟨-,⟨-,c0⟩,⟨-,c1⟩,⟨-,c2⟩,⟨-,c3⟩,⟨-,c4⟩,⟨-,c5⟩,⟨-,c6⟩,⟨-,c7⟩,⟨-,c8⟩,⟨-,c9⟩,⟨-,c10⟩,⟨-,c11⟩,⟨-,c12⟩,⟨-,c13⟩,⟨-,c14⟩,⟨-,c15⟩,⟨-,c16⟩,⟨-,c17⟩,⟨-,c18⟩,-⟩:=HY.out
 go_wp2_with fail
 refine (aQ p _ aC aF aA av i aJ aI bc bV cK bf bW cO aZ ar 3 3 ⟨#[]⟩ dw.out (dG.out.same HY.out.1) (bQ HY.out)).mono ?_
 rintro e' W ⟨rfl,hb⟩
 replace HY:=Lib.hid (HY.out.next hb)
 clear hb c0 c1 c2 c3 c4 c5 c6 c7 c8 c9 c10 c11 c12 c13 c14 c15 c16 c17 c18
 obtain ⟨-,⟨-,c0⟩,⟨-,c1⟩,⟨-,c2⟩,⟨-,c3⟩,⟨-,c4⟩,⟨-,c5⟩,⟨-,c6⟩,⟨-,c7⟩,⟨-,c8⟩,⟨-,c9⟩,⟨-,c10⟩,⟨-,c11⟩,⟨-,c12⟩,⟨-,c13⟩,⟨-,c14⟩,⟨-,c15⟩,⟨-,c16⟩,⟨-,c17⟩,⟨-,c18⟩,-⟩:=HY.out
 generalize htx:aU ar 7 7 ⟨#[]⟩=tx at *
 generalize hat':aU ar 8 8 ⟨#[]⟩=nK at *
 generalize hlo:aU ar 3 3 ⟨#[]⟩=lop at *
 clear htx hat' hlo
 have hop:=iG.out
 have g1:(h.op == 1)=false:=by rw [hop]; rfl
 have g2:(h.op == 2)=false:=by rw [hop]; rfl
 have g3:(h.op == 3)=false:=by rw [hop]; rfl
 have g4:(h.op == 4)=false:=by rw [hop]; rfl
 have g5:(h.op == 5)=false:=by rw [hop]; rfl
 have g6:(h.op == 6)=false:=by rw [hop]; rfl
 have g7:(h.op == 7)=false:=by rw [hop]; rfl
 have g8:(h.op == 8)=false:=by rw [hop]; rfl
 have g9:(h.op == 9)=true:=by rw [hop]; rfl
 have g10:(h.op == 10)=false:=by rw [hop]; rfl
 have g11:(h.op == 11)=false:=by rw [hop]; rfl
 have g12:(h.op == 12)=false:=by rw [hop]; rfl
 have g13:(h.op == 13)=false:=by rw [hop]; rfl
 have g14:(h.op == 14)=false:=by rw [hop]; rfl
 have g15:(h.op == 15)=false:=by rw [hop]; rfl
 clear hop
 go_wp2_with fail
 refine (fM p i h.nm 5 5 _ aC aF aA av hi (HP.out.same HY.out.1)).mono ?_
 rintro e' W ⟨rfl,hb⟩
 replace HY:=Lib.hid (HY.out.next hb)
 clear hb c0 c1 c2 c3 c4 c5 c6 c7 c8 c9 c10 c11 c12 c13 c14 c15 c16 c17 c18
 obtain ⟨-,⟨-,c0⟩,⟨-,c1⟩,⟨-,c2⟩,⟨-,c3⟩,⟨-,c4⟩,⟨-,c5⟩,⟨-,c6⟩,⟨-,c7⟩,⟨-,c8⟩,⟨-,c9⟩,⟨-,c10⟩,⟨-,c11⟩,⟨-,c12⟩,⟨-,c13⟩,⟨-,c14⟩,⟨-,c15⟩,⟨-,c16⟩,⟨-,c17⟩,⟨-,c18⟩,-⟩:=HY.out
 have xB:=Lib.hid (sS (p:=p) (i:=i) (nm:=h.nm))
 generalize bR (conv (mean p i h.nm)) 5 5=q at *
 cases hq:(q != 0)
 case true=>
  have HR':Hid (res=q):=Lib.hid (HR.out.trans (if_pos hq))
  clear xB HR
  go_wp2_with fail
  go_ret
  exact ⟨aS HR'.out.symm,HY.out.1⟩
 obtain ⟨k,d,r,hk,hfx,hdr,-,-,hmu⟩:=xB.out (by simpa using hq)
 have HR':Hid (res=nest ((tx || !aU ar 4 4 d.on) || (true && nK))):=Lib.hid (HR.out.trans ((if_neg (by rw [hq]; decide)).trans (by rw [hmu])))
 have BH:Hid (pF p.ds h.nm=(k:Int)):=Lib.hid hfx
 have hrow:=(HP.out.same HY.out.1).2.2.1.drop k
 rw [hdr,Nat.zero_add] at hrow
 obtain ⟨⟨bD,D6,rfl,hbD,-,-,-,-,-,x5,-⟩,-⟩:=hrow
 have hk0:(0:Int)≤(k:Int):=by omega
 have hk1:(k:Int) < (p.ds.length:Int):=by omega
 clear HR xB hfx hmu hdr
 go_upto_region 28 with fail
 obtain ⟨T,F,qz,hst,hF,hnext⟩:=calm W
 have HF:=Lib.hid hF
 have bS:=Lib.hid hnext
 clear hnext hF
 have d0:=fun x=>(HY.out.next (HF.out x)).2.1.2
 have d1:=fun x=>(HY.out.next (HF.out x)).2.2.1.2
 have d2:=fun x=>(HY.out.next (HF.out x)).2.2.2.1.2
 have d3:=fun x=>(HY.out.next (HF.out x)).2.2.2.2.1.2
 have d4:=fun x=>(HY.out.next (HF.out x)).2.2.2.2.2.1.2
 have d5:=fun x=>(HY.out.next (HF.out x)).2.2.2.2.2.2.1.2
 have d6:=fun x=>(HY.out.next (HF.out x)).2.2.2.2.2.2.2.1.2
 have d7:=fun x=>(HY.out.next (HF.out x)).2.2.2.2.2.2.2.2.1.2
 have d8:=fun x=>(HY.out.next (HF.out x)).2.2.2.2.2.2.2.2.2.1.2
 have d9:=fun x=>(HY.out.next (HF.out x)).2.2.2.2.2.2.2.2.2.2.1.2
 have nk:=fun x=>(HY.out.next (HF.out x)).2.2.2.2.2.2.2.2.2.2.2.1.2
 have mQ:=fun x=>(HY.out.next (HF.out x)).2.2.2.2.2.2.2.2.2.2.2.2.1.2
 have qj:=fun x=>(HY.out.next (HF.out x)).2.2.2.2.2.2.2.2.2.2.2.2.2.1.2
 have qK:=fun x=>(HY.out.next (HF.out x)).2.2.2.2.2.2.2.2.2.2.2.2.2.2.1.2
 have nL:=fun x=>(HY.out.next (HF.out x)).2.2.2.2.2.2.2.2.2.2.2.2.2.2.2.1.2
 have qI:=fun x=>(HY.out.next (HF.out x)).2.2.2.2.2.2.2.2.2.2.2.2.2.2.2.2.1.2
 have qg:=fun x=>(HY.out.next (HF.out x)).2.2.2.2.2.2.2.2.2.2.2.2.2.2.2.2.2.1.2
 have qH:=fun x=>(HY.out.next (HF.out x)).2.2.2.2.2.2.2.2.2.2.2.2.2.2.2.2.2.2.1.2
 have pJ:=fun x=>(HY.out.next (HF.out x)).2.2.2.2.2.2.2.2.2.2.2.2.2.2.2.2.2.2.2.1.2
 clear c0 c1 c2 c3 c4 c5 c6 c7 c8 c9 c10 c11 c12 c13 c14 c15 c16 c17 c18
 have y5:=fun x=>((HF.out x).cell (p:=⟨bD,D6 + k * 6 + 5,none⟩) hbD).trans x5
 clear x5
 refine gF F (by kernel_rfl) (by kernel_rfl) hst ?_
 repeat (any_goals (first | go_big_quiet_step ((first | (go_at_call 36; refine (iP p.ds h.nm _ _ aA HP.out.1 ((HP.out.same HY.out.1).same (HF.out _)).2.2.1).mono ?_; rintro e w' ⟨rfl,rfl⟩; rw [BH.out]; exact ⟨rfl,bS.out _ _ (Below.refl _ _)⟩) | (go_at_call 48; refine (aQ p _ _ aF aA av i aJ aI bc bV cK bf bW cO aZ ar 4 4 d.on dw.out ((dG.out.same HY.out.1).same (HF.out _)) ((bQ HY.out).next (HF.out _))).mono ?_; rintro e w' ⟨rfl,hb⟩; exact ⟨rfl,bS.out _ _ hb⟩))) | (refine wpQuiet_step (fun K hK=> ?_); go_simp; first | (refine hK _ ?_; clear hK K) | (split <;> first | (refine hK _ ?_; clear hK K) | (apply Exists.intro; refine ⟨fun _=> ?_,hK _ ?_⟩; ((first | (go_at_call 36; refine (iP p.ds h.nm _ _ aA HP.out.1 ((HP.out.same HY.out.1).same (HF.out _)).2.2.1).mono ?_; rintro e w' ⟨rfl,rfl⟩; rw [BH.out]; exact ⟨rfl,bS.out _ _ (Below.refl _ _)⟩) | (go_at_call 48; refine (aQ p _ _ aF aA av i aJ aI bc bV cK bf bW cO aZ ar 4 4 d.on dw.out ((dG.out.same HY.out.1).same (HF.out _)) ((bQ HY.out).next (HF.out _))).mono ?_; rintro e w' ⟨rfl,hb⟩; exact ⟨rfl,bS.out _ _ hb⟩))); clear hK K)))))
 all_goals (refine wpQuiet_nil ?_; rintro _ ⟨x,rfl⟩)
 replace HY:=Lib.hid (HY.out.next (HF.out x))
 clear d0 d1 d2 d3 d4 d5 d6 d7 d8 d9 nk mQ qj qK nL qI qg qH pJ y5 HF bS hst
 generalize F x=W2 at *
 generalize aU ar 4 4 d.on=hel at *
 obtain ⟨-,⟨-,c0⟩,⟨-,c1⟩,⟨-,c2⟩,⟨-,c3⟩,⟨-,c4⟩,⟨-,c5⟩,⟨-,c6⟩,⟨-,c7⟩,⟨-,c8⟩,⟨-,c9⟩,⟨-,c10⟩,⟨-,c11⟩,⟨-,c12⟩,⟨-,c13⟩,⟨-,c14⟩,⟨-,c15⟩,⟨-,c16⟩,⟨-,c17⟩,⟨-,c18⟩,-⟩:=HY.out
 cases tx <;> cases hel <;> cases nK
 all_goals
  go_wp2_with fail
  refine (dO _ _).mono ?_
  rintro e' W' ⟨rfl,rfl⟩
  go_wp2_with fail
  go_ret
  exact ⟨aS (by first | exact HR'.out.symm | (rw [HR'.out]; first | done | rfl | simp [nest])),HY.out.1⟩
set_option maxHeartbeats 4000000 in
set_option maxRecDepth 100000 in
theorem MZ (h:eH) (b e ar:aR) (s:Sl) (hi:aX i) (hp:p.At w aC aF) (hin:jE w h b e s) (har:ar.len≤maxLen) (hat:ar.At w w.heap.size aJ 0) (hh:Holds w (kE bc p aC aF aA av i aJ ar.len aI bV cK bf bW cO aZ)) (hop:h.op=10):
 Calls Tryd.prog 39 #[.pointer (some ⟨bc,0,none⟩),aY h b e s] w fun e' w'=>e'= .returned (.int .i64 (if bR (conv (mean p i h.nm)) 5 5 != 0 then bR (conv (mean p i h.nm)) 5 5 else nest ((aU ar 7 7 ⟨#[]⟩ || !aU ar 4 4 (ig p.ds h.nm)) || (false && aU ar 8 8 ⟨#[]⟩))))∧Below w.heap.size w w':=by
 generalize hres:(if bR (conv (mean p i h.nm)) 5 5 != 0 then bR (conv (mean p i h.nm)) 5 5 else nest ((aU ar 7 7 ⟨#[]⟩ || !aU ar 4 4 (ig p.ds h.nm)) || (false && aU ar 8 8 ⟨#[]⟩)))=res
 have HR:Hid (res=(if bR (conv (mean p i h.nm)) 5 5 != 0 then bR (conv (mean p i h.nm)) 5 5 else nest ((aU ar 7 7 ⟨#[]⟩ || !aU ar 4 4 (ig p.ds h.nm)) || (false && aU ar 8 8 ⟨#[]⟩)))):=Lib.hid (by rw [← hres])
 have iG:=Lib.hid hop
 clear hres hop
 have HH:=Lib.hid (show Sit w w _ from ⟨Below.refl _ _,hh⟩)
 have jS:=Lib.hid hin
 have dG:=Lib.hid hat
 have dw:=Lib.hid har
 have HP:=Lib.hid hp
 unfold aY
 clear hh hin hat har hp
 go_enter Tryd.func39,Tryd.ntmps39
 go_upto_region 1 with fail
 generalize hW:World.alloc w _=W
 generalize Value.agg #[_,_,_,_,_,_,_,_,_,_,_]=a0
 have HX:Hid (Sit w W (iT w.heap.size h b e s (kE bc p aC aF aA av i aJ ar.len aI bV cK bf bW cO aZ))):=Lib.hid (by rw [← hW]; exact HH.out.gZ rfl _ _ _ _ _ _ _ _ _ _ _ _)
 clear hW HH
 have K0: ∀w',Below W.heap.size W w'→w'.cell? ⟨bc,0,none⟩=some (.slice aC p.ds.length aA):=fun w' hb=>(HX.out.next hb).2.2.2.2.2.2.2.2.2.2.2.2.1.2
 have K1: ∀w',Below W.heap.size W w'→w'.cell? ⟨bc,1,none⟩=some (.slice aF p.ts.length av):=fun w' hb=>(HX.out.next hb).2.2.2.2.2.2.2.2.2.2.2.2.2.1.2
 have K2: ∀w',Below W.heap.size W w'→w'.cell? ⟨bc,2,none⟩=some (.int .i64 i):=fun w' hb=>(HX.out.next hb).2.2.2.2.2.2.2.2.2.2.2.2.2.2.1.2
 have HD1:Below W.heap.size W (W.drewN 1):=below_drewN (Below.refl _ _) 1
 refine cu (by kernel_rfl) rfl ?_
 generalize W.drewN 1=W1 at *
 refine bG 0 11 [8,9] [[],[0],[0,1],[0,1,2],[],[4],[4,5],[4,5,6],[],[0,1,2,3,8],[0,1,2,3,4,5,6,7,8,9]] [[none,some false],[none,some false],[none,some false],[none,some false],[none,none],[none,none],[none,none],[none,none],[some false,some false],[some true,some false],[some true,some true]] (AC W1 (.cells #[.slice none 0 0,.slice none 0 0] 26) (.cells #[.slice aC p.ds.length aA,.slice aF p.ts.length av] 26)) (fun _ _=>True) [15,16,17,18,19,20,21,22,5,6] rfl rfl (by rfl) (by kernel_rfl) (by kernel_rfl) (by kernel_rfl) (by kernel_rfl) (by kernel_rfl) (by rfl) (fun _=>trivial) (by rfl) rfl ?_
 simp only [List.take_succ_cons,List.take_zero,List.drop_zero,List.drop_succ_cons,gP,List.map_cons,List.map_nil]
 apply aH.step
 case aB=>
  intro c A w' hok hC hO hD
  have e0:=hO 0 (by rfl)
  simp [Act.eval] at e0
  simp [au,ah,aj,Act.eval,Region.binds] at hD
  simp [go_sem,gd,Oper.wp,hD,e0]
  exact ak.mk trivial (AC.skip (by rfl) (by rfl) hC) (ah.mk _ _)
 apply aH.step
 case aB=>
  intro c A w' hok hC hO hD
  simp [au,ah,aj,Act.eval,Region.binds] at hD
  simp [go_sem,gd,Oper.wp,hD]
  exact ak.mk trivial (AC.skip (by rfl) (by rfl) hC) (ah.mk _ _)
 apply aH.step
 case aB=>
  intro c A w' hok hC hO hD
  simp [au,ah,aj,Act.eval,Region.binds] at hD
  simp [go_sem,gd,Oper.wp,hD]
  exact ak.mk trivial (AC.skip (by rfl) (by rfl) hC) (ah.mk _ _)
 apply aH.step
 case aB=>
  intro c A w' hok hC hO hD
  simp [au,ah,aj,Act.eval,Region.binds] at hD
  simp [go_sem,gd,Oper.wp,hD,K0,K1,AC.below HD1 hC]
  exact ak.mk trivial (AC.skip (by rfl) (by rfl) hC) (ah.mk _ _)
 apply aH.step
 case aB=>
  intro c A w' hok hC hO hD
  have e0:=hO 0 (by rfl)
  simp [Act.eval] at e0
  simp [au,ah,aj,Act.eval,Region.binds] at hD
  simp [go_sem,gd,Oper.wp,hD,e0]
  exact ak.mk trivial (AC.skip (by rfl) (by rfl) hC) (ah.mk _ _)
 simp only [List.nil_append,List.cons_append]
 apply aH.step
 case aB=>
  intro c A w' hok hC hO hD
  simp [au,ah,aj,Act.eval,Region.binds] at hD
  simp [go_sem,gd,Oper.wp,hD]
  exact ak.mk trivial (AC.skip (by rfl) (by rfl) hC) (ah.mk _ _)
 apply aH.step
 case aB=>
  intro c A w' hok hC hO hD
  simp [au,ah,aj,Act.eval,Region.binds] at hD
  simp [go_sem,gd,Oper.wp,hD]
  exact ak.mk trivial (AC.skip (by rfl) (by rfl) hC) (ah.mk _ _)
 apply aH.step
 case aB=>
  intro c A w' hok hC hO hD
  simp [au,ah,aj,Act.eval,Region.binds] at hD
  simp [go_sem,gd,Oper.wp,hD,K2,AC.below HD1 hC]
  exact ak.mk trivial (AC.skip (by rfl) (by rfl) hC) (ah.mk _ _)
 simp only [List.nil_append,List.cons_append]
 apply aH.step
 case aB=>
  intro c A w' hok hC hO hD
  obtain ⟨x,y,rfl⟩:=hC.bits
  obtain ⟨rfl,rfl,-⟩:=hok
  have hw:w'=W1:=hC
  subst hw
  simp [go_sem,gd,Oper.wp]
  exact ak.mk trivial (AC.lay (by rfl) (by rfl)) (ah.mk _ _)
 refine aH.some (fun _ _=>True) (fun _ _ _ _ _=>trivial) ?_ ?_
 ·intro c A w' hok hC hO hD
  obtain ⟨x,y,rfl⟩:=hC.bits
  obtain ⟨rfl,rfl,-⟩:=hok
  have hw:w'=W1.alloc _:=hC
  subst hw
  simp [au,ah,aj,Act.eval,Region.binds] at hD
  simp [go_sem,gd,Oper.wp,hD]
  exact ak.mF (v:=undef) trivial (AC.fill (by rfl) (by rfl)) trivial
 simp only [List.nil_append,List.cons_append]
 apply aH.step
 case aB=>
  intro c A w' hok hC hO hD
  simp [au,ah,aj,Act.eval,Region.binds] at hD
  simp [go_sem,gd,Oper.wp,hD]
  exact ak.mk trivial (AC.skip (by rfl) (by rfl) hC) (ah.mk _ _)
 simp only [List.nil_append,List.cons_append]
 refine aH.done ?_
 intro wz bK
 simp only [List.drop_zero]
 intro v0 h0 v1 h1 v2 h2 v3 h3 v4 h4 v5 h5 v6 h6 v7 h7 v8 h8 v9 h9 v10 h10
 have h8':v8=_:=h8
 have jG:v10=_:=h10
 subst h8' jG
 clear h0 h1 h2 h3 h4 h5 h6 h7 h8 h9 h10
 refine bM.nil ?_
 refine dQ rfl ?_
 have gN:wz=W1.alloc _:=bK
 generalize hn1:W1.heap.size=n1 at *
 have HY:=Lib.hid ((HX.out.next HD1).kC hn1 (.slice aC p.ds.length aA) (.slice aF p.ts.length av) 26)
 rw [← gN] at HY
 clear bK gN HX K0 K1 K2 HD1 hn1
 go_simp
 obtain ⟨-,⟨-,c0⟩,⟨-,c1⟩,⟨-,c2⟩,⟨-,c3⟩,⟨-,c4⟩,⟨-,c5⟩,⟨-,c6⟩,⟨-,c7⟩,⟨-,c8⟩,⟨-,c9⟩,⟨-,c10⟩,⟨-,c11⟩,⟨-,c12⟩,⟨-,c13⟩,⟨-,c14⟩,⟨-,c15⟩,⟨-,c16⟩,⟨-,c17⟩,⟨-,c18⟩,-⟩:=HY.out
 go_wp2_with fail
 refine (aQ p _ aC aF aA av i aJ aI bc bV cK bf bW cO aZ ar 7 7 ⟨#[]⟩ dw.out (dG.out.same HY.out.1) (bQ HY.out)).mono ?_
 rintro e' W ⟨rfl,hb⟩
 replace HY:=Lib.hid (HY.out.next hb)
 clear hb c0 c1 c2 c3 c4 c5 c6 c7 c8 c9 c10 c11 c12 c13 c14 c15 c16 c17 c18
 obtain ⟨-,⟨-,c0⟩,⟨-,c1⟩,⟨-,c2⟩,⟨-,c3⟩,⟨-,c4⟩,⟨-,c5⟩,⟨-,c6⟩,⟨-,c7⟩,⟨-,c8⟩,⟨-,c9⟩,⟨-,c10⟩,⟨-,c11⟩,⟨-,c12⟩,⟨-,c13⟩,⟨-,c14⟩,⟨-,c15⟩,⟨-,c16⟩,⟨-,c17⟩,⟨-,c18⟩,-⟩:=HY.out
 go_wp2_with fail
 refine (aQ p _ aC aF aA av i aJ aI bc bV cK bf bW cO aZ ar 8 8 ⟨#[]⟩ dw.out (dG.out.same HY.out.1) (bQ HY.out)).mono ?_
 rintro e' W ⟨rfl,hb⟩
 replace HY:=Lib.hid (HY.out.next hb)
 clear hb c0 c1 c2 c3 c4 c5 c6 c7 c8 c9 c10 c11 c12 c13 c14 c15 c16 c17 c18
 obtain ⟨-,⟨-,c0⟩,⟨-,c1⟩,⟨-,c2⟩,⟨-,c3⟩,⟨-,c4⟩,⟨-,c5⟩,⟨-,c6⟩,⟨-,c7⟩,⟨-,c8⟩,⟨-,c9⟩,⟨-,c10⟩,⟨-,c11⟩,⟨-,c12⟩,⟨-,c13⟩,⟨-,c14⟩,⟨-,c15⟩,⟨-,c16⟩,⟨-,c17⟩,⟨-,c18⟩,-⟩:=HY.out
 go_wp2_with fail
 refine (aQ p _ aC aF aA av i aJ aI bc bV cK bf bW cO aZ ar 3 3 ⟨#[]⟩ dw.out (dG.out.same HY.out.1) (bQ HY.out)).mono ?_
 rintro e' W ⟨rfl,hb⟩
 replace HY:=Lib.hid (HY.out.next hb)
 clear hb c0 c1 c2 c3 c4 c5 c6 c7 c8 c9 c10 c11 c12 c13 c14 c15 c16 c17 c18
 obtain ⟨-,⟨-,c0⟩,⟨-,c1⟩,⟨-,c2⟩,⟨-,c3⟩,⟨-,c4⟩,⟨-,c5⟩,⟨-,c6⟩,⟨-,c7⟩,⟨-,c8⟩,⟨-,c9⟩,⟨-,c10⟩,⟨-,c11⟩,⟨-,c12⟩,⟨-,c13⟩,⟨-,c14⟩,⟨-,c15⟩,⟨-,c16⟩,⟨-,c17⟩,⟨-,c18⟩,-⟩:=HY.out
 generalize htx:aU ar 7 7 ⟨#[]⟩=tx at *
 generalize hat':aU ar 8 8 ⟨#[]⟩=nK at *
 generalize hlo:aU ar 3 3 ⟨#[]⟩=lop at *
 clear htx hat' hlo
 have hop:=iG.out
 have g1:(h.op == 1)=false:=by rw [hop]; rfl
 have g2:(h.op == 2)=false:=by rw [hop]; rfl
 have g3:(h.op == 3)=false:=by rw [hop]; rfl
 have g4:(h.op == 4)=false:=by rw [hop]; rfl
 have g5:(h.op == 5)=false:=by rw [hop]; rfl
 have g6:(h.op == 6)=false:=by rw [hop]; rfl
 have g7:(h.op == 7)=false:=by rw [hop]; rfl
 have g8:(h.op == 8)=false:=by rw [hop]; rfl
 have g9:(h.op == 9)=false:=by rw [hop]; rfl
 have g10:(h.op == 10)=true:=by rw [hop]; rfl
 have g11:(h.op == 11)=false:=by rw [hop]; rfl
 have g12:(h.op == 12)=false:=by rw [hop]; rfl
 have g13:(h.op == 13)=false:=by rw [hop]; rfl
 have g14:(h.op == 14)=false:=by rw [hop]; rfl
 have g15:(h.op == 15)=false:=by rw [hop]; rfl
 clear hop
 go_wp2_with fail
 refine (fM p i h.nm 5 5 _ aC aF aA av hi (HP.out.same HY.out.1)).mono ?_
 rintro e' W ⟨rfl,hb⟩
 replace HY:=Lib.hid (HY.out.next hb)
 clear hb c0 c1 c2 c3 c4 c5 c6 c7 c8 c9 c10 c11 c12 c13 c14 c15 c16 c17 c18
 obtain ⟨-,⟨-,c0⟩,⟨-,c1⟩,⟨-,c2⟩,⟨-,c3⟩,⟨-,c4⟩,⟨-,c5⟩,⟨-,c6⟩,⟨-,c7⟩,⟨-,c8⟩,⟨-,c9⟩,⟨-,c10⟩,⟨-,c11⟩,⟨-,c12⟩,⟨-,c13⟩,⟨-,c14⟩,⟨-,c15⟩,⟨-,c16⟩,⟨-,c17⟩,⟨-,c18⟩,-⟩:=HY.out
 have xB:=Lib.hid (sS (p:=p) (i:=i) (nm:=h.nm))
 generalize bR (conv (mean p i h.nm)) 5 5=q at *
 cases hq:(q != 0)
 case true=>
  have HR':Hid (res=q):=Lib.hid (HR.out.trans (if_pos hq))
  clear xB HR
  go_wp2_with fail
  go_ret
  exact ⟨aS HR'.out.symm,HY.out.1⟩
 obtain ⟨k,d,r,hk,hfx,hdr,-,-,hmu⟩:=xB.out (by simpa using hq)
 have HR':Hid (res=nest ((tx || !aU ar 4 4 d.on) || (false && nK))):=Lib.hid (HR.out.trans ((if_neg (by rw [hq]; decide)).trans (by rw [hmu])))
 have BH:Hid (pF p.ds h.nm=(k:Int)):=Lib.hid hfx
 have hrow:=(HP.out.same HY.out.1).2.2.1.drop k
 rw [hdr,Nat.zero_add] at hrow
 obtain ⟨⟨bD,D6,rfl,hbD,-,-,-,-,-,x5,-⟩,-⟩:=hrow
 have hk0:(0:Int)≤(k:Int):=by omega
 have hk1:(k:Int) < (p.ds.length:Int):=by omega
 clear HR xB hfx hmu hdr
 go_upto_region 28 with fail
 obtain ⟨T,F,qz,hst,hF,hnext⟩:=calm W
 have HF:=Lib.hid hF
 have bS:=Lib.hid hnext
 clear hnext hF
 have d0:=fun x=>(HY.out.next (HF.out x)).2.1.2
 have d1:=fun x=>(HY.out.next (HF.out x)).2.2.1.2
 have d2:=fun x=>(HY.out.next (HF.out x)).2.2.2.1.2
 have d3:=fun x=>(HY.out.next (HF.out x)).2.2.2.2.1.2
 have d4:=fun x=>(HY.out.next (HF.out x)).2.2.2.2.2.1.2
 have d5:=fun x=>(HY.out.next (HF.out x)).2.2.2.2.2.2.1.2
 have d6:=fun x=>(HY.out.next (HF.out x)).2.2.2.2.2.2.2.1.2
 have d7:=fun x=>(HY.out.next (HF.out x)).2.2.2.2.2.2.2.2.1.2
 have d8:=fun x=>(HY.out.next (HF.out x)).2.2.2.2.2.2.2.2.2.1.2
 have d9:=fun x=>(HY.out.next (HF.out x)).2.2.2.2.2.2.2.2.2.2.1.2
 have nk:=fun x=>(HY.out.next (HF.out x)).2.2.2.2.2.2.2.2.2.2.2.1.2
 have mQ:=fun x=>(HY.out.next (HF.out x)).2.2.2.2.2.2.2.2.2.2.2.2.1.2
 have qj:=fun x=>(HY.out.next (HF.out x)).2.2.2.2.2.2.2.2.2.2.2.2.2.1.2
 have qK:=fun x=>(HY.out.next (HF.out x)).2.2.2.2.2.2.2.2.2.2.2.2.2.2.1.2
 have nL:=fun x=>(HY.out.next (HF.out x)).2.2.2.2.2.2.2.2.2.2.2.2.2.2.2.1.2
 have qI:=fun x=>(HY.out.next (HF.out x)).2.2.2.2.2.2.2.2.2.2.2.2.2.2.2.2.1.2
 have qg:=fun x=>(HY.out.next (HF.out x)).2.2.2.2.2.2.2.2.2.2.2.2.2.2.2.2.2.1.2
 have qH:=fun x=>(HY.out.next (HF.out x)).2.2.2.2.2.2.2.2.2.2.2.2.2.2.2.2.2.2.1.2
 have pJ:=fun x=>(HY.out.next (HF.out x)).2.2.2.2.2.2.2.2.2.2.2.2.2.2.2.2.2.2.2.1.2
 clear c0 c1 c2 c3 c4 c5 c6 c7 c8 c9 c10 c11 c12 c13 c14 c15 c16 c17 c18
 have y5:=fun x=>((HF.out x).cell (p:=⟨bD,D6 + k * 6 + 5,none⟩) hbD).trans x5
 clear x5
 refine gF F (by kernel_rfl) (by kernel_rfl) hst ?_
 repeat (any_goals (first | go_big_quiet_step ((first | (go_at_call 36; refine (iP p.ds h.nm _ _ aA HP.out.1 ((HP.out.same HY.out.1).same (HF.out _)).2.2.1).mono ?_; rintro e w' ⟨rfl,rfl⟩; rw [BH.out]; exact ⟨rfl,bS.out _ _ (Below.refl _ _)⟩) | (go_at_call 48; refine (aQ p _ _ aF aA av i aJ aI bc bV cK bf bW cO aZ ar 4 4 d.on dw.out ((dG.out.same HY.out.1).same (HF.out _)) ((bQ HY.out).next (HF.out _))).mono ?_; rintro e w' ⟨rfl,hb⟩; exact ⟨rfl,bS.out _ _ hb⟩))) | (refine wpQuiet_step (fun K hK=> ?_); go_simp; first | (refine hK _ ?_; clear hK K) | (split <;> first | (refine hK _ ?_; clear hK K) | (apply Exists.intro; refine ⟨fun _=> ?_,hK _ ?_⟩; ((first | (go_at_call 36; refine (iP p.ds h.nm _ _ aA HP.out.1 ((HP.out.same HY.out.1).same (HF.out _)).2.2.1).mono ?_; rintro e w' ⟨rfl,rfl⟩; rw [BH.out]; exact ⟨rfl,bS.out _ _ (Below.refl _ _)⟩) | (go_at_call 48; refine (aQ p _ _ aF aA av i aJ aI bc bV cK bf bW cO aZ ar 4 4 d.on dw.out ((dG.out.same HY.out.1).same (HF.out _)) ((bQ HY.out).next (HF.out _))).mono ?_; rintro e w' ⟨rfl,hb⟩; exact ⟨rfl,bS.out _ _ hb⟩))); clear hK K)))))
 all_goals (refine wpQuiet_nil ?_; rintro _ ⟨x,rfl⟩)
 replace HY:=Lib.hid (HY.out.next (HF.out x))
 clear d0 d1 d2 d3 d4 d5 d6 d7 d8 d9 nk mQ qj qK nL qI qg qH pJ y5 HF bS hst
 generalize F x=W2 at *
 generalize aU ar 4 4 d.on=hel at *
 obtain ⟨-,⟨-,c0⟩,⟨-,c1⟩,⟨-,c2⟩,⟨-,c3⟩,⟨-,c4⟩,⟨-,c5⟩,⟨-,c6⟩,⟨-,c7⟩,⟨-,c8⟩,⟨-,c9⟩,⟨-,c10⟩,⟨-,c11⟩,⟨-,c12⟩,⟨-,c13⟩,⟨-,c14⟩,⟨-,c15⟩,⟨-,c16⟩,⟨-,c17⟩,⟨-,c18⟩,-⟩:=HY.out
 cases tx <;> cases hel <;> cases nK
 all_goals
  go_wp2_with fail
  refine (dO _ _).mono ?_
  rintro e' W' ⟨rfl,rfl⟩
  go_wp2_with fail
  go_ret
  exact ⟨aS (by first | exact HR'.out.symm | (rw [HR'.out]; first | done | rfl | simp [nest])),HY.out.1⟩
set_option maxHeartbeats 4000000 in
set_option maxRecDepth 100000 in
theorem Mq (h:eH) (b e ar:aR) (s:Sl) (hi:aX i) (hp:p.At w aC aF) (hin:jE w h b e s) (har:ar.len≤maxLen) (hat:ar.At w w.heap.size aJ 0) (hh:Holds w (kE bc p aC aF aA av i aJ ar.len aI bV cK bf bW cO aZ)) (hop:h.op=11):
 Calls Tryd.prog 39 #[.pointer (some ⟨bc,0,none⟩),aY h b e s] w fun e' w'=>e'= .returned (.int .i64 (if bR (conv (mean p i h.nm)) 5 5 != 0 then bR (conv (mean p i h.nm)) 5 5 else nest ((aU ar 7 7 ⟨#[]⟩ || !aU ar 4 4 (ig p.ds h.nm)) || (false && aU ar 8 8 ⟨#[]⟩))))∧Below w.heap.size w w':=by
 generalize hres:(if bR (conv (mean p i h.nm)) 5 5 != 0 then bR (conv (mean p i h.nm)) 5 5 else nest ((aU ar 7 7 ⟨#[]⟩ || !aU ar 4 4 (ig p.ds h.nm)) || (false && aU ar 8 8 ⟨#[]⟩)))=res
 have HR:Hid (res=(if bR (conv (mean p i h.nm)) 5 5 != 0 then bR (conv (mean p i h.nm)) 5 5 else nest ((aU ar 7 7 ⟨#[]⟩ || !aU ar 4 4 (ig p.ds h.nm)) || (false && aU ar 8 8 ⟨#[]⟩)))):=Lib.hid (by rw [← hres])
 have iG:=Lib.hid hop
 clear hres hop
 have HH:=Lib.hid (show Sit w w _ from ⟨Below.refl _ _,hh⟩)
 have jS:=Lib.hid hin
 have dG:=Lib.hid hat
 have dw:=Lib.hid har
 have HP:=Lib.hid hp
 unfold aY
 clear hh hin hat har hp
 go_enter Tryd.func39,Tryd.ntmps39
 go_upto_region 1 with fail
 generalize hW:World.alloc w _=W
 generalize Value.agg #[_,_,_,_,_,_,_,_,_,_,_]=a0
 have HX:Hid (Sit w W (iT w.heap.size h b e s (kE bc p aC aF aA av i aJ ar.len aI bV cK bf bW cO aZ))):=Lib.hid (by rw [← hW]; exact HH.out.gZ rfl _ _ _ _ _ _ _ _ _ _ _ _)
 clear hW HH
 have K0: ∀w',Below W.heap.size W w'→w'.cell? ⟨bc,0,none⟩=some (.slice aC p.ds.length aA):=fun w' hb=>(HX.out.next hb).2.2.2.2.2.2.2.2.2.2.2.2.1.2
 have K1: ∀w',Below W.heap.size W w'→w'.cell? ⟨bc,1,none⟩=some (.slice aF p.ts.length av):=fun w' hb=>(HX.out.next hb).2.2.2.2.2.2.2.2.2.2.2.2.2.1.2
 have K2: ∀w',Below W.heap.size W w'→w'.cell? ⟨bc,2,none⟩=some (.int .i64 i):=fun w' hb=>(HX.out.next hb).2.2.2.2.2.2.2.2.2.2.2.2.2.2.1.2
 have HD1:Below W.heap.size W (W.drewN 1):=below_drewN (Below.refl _ _) 1
 refine cu (by kernel_rfl) rfl ?_
 generalize W.drewN 1=W1 at *
 refine bG 0 11 [8,9] [[],[0],[0,1],[0,1,2],[],[4],[4,5],[4,5,6],[],[0,1,2,3,8],[0,1,2,3,4,5,6,7,8,9]] [[none,some false],[none,some false],[none,some false],[none,some false],[none,none],[none,none],[none,none],[none,none],[some false,some false],[some true,some false],[some true,some true]] (AC W1 (.cells #[.slice none 0 0,.slice none 0 0] 26) (.cells #[.slice aC p.ds.length aA,.slice aF p.ts.length av] 26)) (fun _ _=>True) [15,16,17,18,19,20,21,22,5,6] rfl rfl (by rfl) (by kernel_rfl) (by kernel_rfl) (by kernel_rfl) (by kernel_rfl) (by kernel_rfl) (by rfl) (fun _=>trivial) (by rfl) rfl ?_
 simp only [List.take_succ_cons,List.take_zero,List.drop_zero,List.drop_succ_cons,gP,List.map_cons,List.map_nil]
 apply aH.step
 case aB=>
  intro c A w' hok hC hO hD
  have e0:=hO 0 (by rfl)
  simp [Act.eval] at e0
  simp [au,ah,aj,Act.eval,Region.binds] at hD
  simp [go_sem,gd,Oper.wp,hD,e0]
  exact ak.mk trivial (AC.skip (by rfl) (by rfl) hC) (ah.mk _ _)
 apply aH.step
 case aB=>
  intro c A w' hok hC hO hD
  simp [au,ah,aj,Act.eval,Region.binds] at hD
  simp [go_sem,gd,Oper.wp,hD]
  exact ak.mk trivial (AC.skip (by rfl) (by rfl) hC) (ah.mk _ _)
 apply aH.step
 case aB=>
  intro c A w' hok hC hO hD
  simp [au,ah,aj,Act.eval,Region.binds] at hD
  simp [go_sem,gd,Oper.wp,hD]
  exact ak.mk trivial (AC.skip (by rfl) (by rfl) hC) (ah.mk _ _)
 apply aH.step
 case aB=>
  intro c A w' hok hC hO hD
  simp [au,ah,aj,Act.eval,Region.binds] at hD
  simp [go_sem,gd,Oper.wp,hD,K0,K1,AC.below HD1 hC]
  exact ak.mk trivial (AC.skip (by rfl) (by rfl) hC) (ah.mk _ _)
 apply aH.step
 case aB=>
  intro c A w' hok hC hO hD
  have e0:=hO 0 (by rfl)
  simp [Act.eval] at e0
  simp [au,ah,aj,Act.eval,Region.binds] at hD
  simp [go_sem,gd,Oper.wp,hD,e0]
  exact ak.mk trivial (AC.skip (by rfl) (by rfl) hC) (ah.mk _ _)
 simp only [List.nil_append,List.cons_append]
 apply aH.step
 case aB=>
  intro c A w' hok hC hO hD
  simp [au,ah,aj,Act.eval,Region.binds] at hD
  simp [go_sem,gd,Oper.wp,hD]
  exact ak.mk trivial (AC.skip (by rfl) (by rfl) hC) (ah.mk _ _)
 apply aH.step
 case aB=>
  intro c A w' hok hC hO hD
  simp [au,ah,aj,Act.eval,Region.binds] at hD
  simp [go_sem,gd,Oper.wp,hD]
  exact ak.mk trivial (AC.skip (by rfl) (by rfl) hC) (ah.mk _ _)
 apply aH.step
 case aB=>
  intro c A w' hok hC hO hD
  simp [au,ah,aj,Act.eval,Region.binds] at hD
  simp [go_sem,gd,Oper.wp,hD,K2,AC.below HD1 hC]
  exact ak.mk trivial (AC.skip (by rfl) (by rfl) hC) (ah.mk _ _)
 simp only [List.nil_append,List.cons_append]
 apply aH.step
 case aB=>
  intro c A w' hok hC hO hD
  obtain ⟨x,y,rfl⟩:=hC.bits
  obtain ⟨rfl,rfl,-⟩:=hok
  have hw:w'=W1:=hC
  subst hw
  simp [go_sem,gd,Oper.wp]
  exact ak.mk trivial (AC.lay (by rfl) (by rfl)) (ah.mk _ _)
 refine aH.some (fun _ _=>True) (fun _ _ _ _ _=>trivial) ?_ ?_
 ·intro c A w' hok hC hO hD
  obtain ⟨x,y,rfl⟩:=hC.bits
  obtain ⟨rfl,rfl,-⟩:=hok
  have hw:w'=W1.alloc _:=hC
  subst hw
  simp [au,ah,aj,Act.eval,Region.binds] at hD
  simp [go_sem,gd,Oper.wp,hD]
  exact ak.mF (v:=undef) trivial (AC.fill (by rfl) (by rfl)) trivial
 simp only [List.nil_append,List.cons_append]
 apply aH.step
 case aB=>
  intro c A w' hok hC hO hD
  simp [au,ah,aj,Act.eval,Region.binds] at hD
  simp [go_sem,gd,Oper.wp,hD]
  exact ak.mk trivial (AC.skip (by rfl) (by rfl) hC) (ah.mk _ _)
 simp only [List.nil_append,List.cons_append]
 refine aH.done ?_
 intro wz bK
 simp only [List.drop_zero]
 intro v0 h0 v1 h1 v2 h2 v3 h3 v4 h4 v5 h5 v6 h6 v7 h7 v8 h8 v9 h9 v10 h10
 have h8':v8=_:=h8
 have jG:v10=_:=h10
 subst h8' jG
 clear h0 h1 h2 h3 h4 h5 h6 h7 h8 h9 h10
 refine bM.nil ?_
 refine dQ rfl ?_
 have gN:wz=W1.alloc _:=bK
 generalize hn1:W1.heap.size=n1 at *
 have HY:=Lib.hid ((HX.out.next HD1).kC hn1 (.slice aC p.ds.length aA) (.slice aF p.ts.length av) 26)
 rw [← gN] at HY
 clear bK gN HX K0 K1 K2 HD1 hn1
 go_simp
 obtain ⟨-,⟨-,c0⟩,⟨-,c1⟩,⟨-,c2⟩,⟨-,c3⟩,⟨-,c4⟩,⟨-,c5⟩,⟨-,c6⟩,⟨-,c7⟩,⟨-,c8⟩,⟨-,c9⟩,⟨-,c10⟩,⟨-,c11⟩,⟨-,c12⟩,⟨-,c13⟩,⟨-,c14⟩,⟨-,c15⟩,⟨-,c16⟩,⟨-,c17⟩,⟨-,c18⟩,-⟩:=HY.out
 go_wp2_with fail
 refine (aQ p _ aC aF aA av i aJ aI bc bV cK bf bW cO aZ ar 7 7 ⟨#[]⟩ dw.out (dG.out.same HY.out.1) (bQ HY.out)).mono ?_
 rintro e' W ⟨rfl,hb⟩
 replace HY:=Lib.hid (HY.out.next hb)
 clear hb c0 c1 c2 c3 c4 c5 c6 c7 c8 c9 c10 c11 c12 c13 c14 c15 c16 c17 c18
 obtain ⟨-,⟨-,c0⟩,⟨-,c1⟩,⟨-,c2⟩,⟨-,c3⟩,⟨-,c4⟩,⟨-,c5⟩,⟨-,c6⟩,⟨-,c7⟩,⟨-,c8⟩,⟨-,c9⟩,⟨-,c10⟩,⟨-,c11⟩,⟨-,c12⟩,⟨-,c13⟩,⟨-,c14⟩,⟨-,c15⟩,⟨-,c16⟩,⟨-,c17⟩,⟨-,c18⟩,-⟩:=HY.out
 go_wp2_with fail
 refine (aQ p _ aC aF aA av i aJ aI bc bV cK bf bW cO aZ ar 8 8 ⟨#[]⟩ dw.out (dG.out.same HY.out.1) (bQ HY.out)).mono ?_
 rintro e' W ⟨rfl,hb⟩
 replace HY:=Lib.hid (HY.out.next hb)
 clear hb c0 c1 c2 c3 c4 c5 c6 c7 c8 c9 c10 c11 c12 c13 c14 c15 c16 c17 c18
 obtain ⟨-,⟨-,c0⟩,⟨-,c1⟩,⟨-,c2⟩,⟨-,c3⟩,⟨-,c4⟩,⟨-,c5⟩,⟨-,c6⟩,⟨-,c7⟩,⟨-,c8⟩,⟨-,c9⟩,⟨-,c10⟩,⟨-,c11⟩,⟨-,c12⟩,⟨-,c13⟩,⟨-,c14⟩,⟨-,c15⟩,⟨-,c16⟩,⟨-,c17⟩,⟨-,c18⟩,-⟩:=HY.out
 go_wp2_with fail
 refine (aQ p _ aC aF aA av i aJ aI bc bV cK bf bW cO aZ ar 3 3 ⟨#[]⟩ dw.out (dG.out.same HY.out.1) (bQ HY.out)).mono ?_
 rintro e' W ⟨rfl,hb⟩
 replace HY:=Lib.hid (HY.out.next hb)
 clear hb c0 c1 c2 c3 c4 c5 c6 c7 c8 c9 c10 c11 c12 c13 c14 c15 c16 c17 c18
 obtain ⟨-,⟨-,c0⟩,⟨-,c1⟩,⟨-,c2⟩,⟨-,c3⟩,⟨-,c4⟩,⟨-,c5⟩,⟨-,c6⟩,⟨-,c7⟩,⟨-,c8⟩,⟨-,c9⟩,⟨-,c10⟩,⟨-,c11⟩,⟨-,c12⟩,⟨-,c13⟩,⟨-,c14⟩,⟨-,c15⟩,⟨-,c16⟩,⟨-,c17⟩,⟨-,c18⟩,-⟩:=HY.out
 generalize htx:aU ar 7 7 ⟨#[]⟩=tx at *
 generalize hat':aU ar 8 8 ⟨#[]⟩=nK at *
 generalize hlo:aU ar 3 3 ⟨#[]⟩=lop at *
 clear htx hat' hlo
 have hop:=iG.out
 have g1:(h.op == 1)=false:=by rw [hop]; rfl
 have g2:(h.op == 2)=false:=by rw [hop]; rfl
 have g3:(h.op == 3)=false:=by rw [hop]; rfl
 have g4:(h.op == 4)=false:=by rw [hop]; rfl
 have g5:(h.op == 5)=false:=by rw [hop]; rfl
 have g6:(h.op == 6)=false:=by rw [hop]; rfl
 have g7:(h.op == 7)=false:=by rw [hop]; rfl
 have g8:(h.op == 8)=false:=by rw [hop]; rfl
 have g9:(h.op == 9)=false:=by rw [hop]; rfl
 have g10:(h.op == 10)=false:=by rw [hop]; rfl
 have g11:(h.op == 11)=true:=by rw [hop]; rfl
 have g12:(h.op == 12)=false:=by rw [hop]; rfl
 have g13:(h.op == 13)=false:=by rw [hop]; rfl
 have g14:(h.op == 14)=false:=by rw [hop]; rfl
 have g15:(h.op == 15)=false:=by rw [hop]; rfl
 clear hop
 go_wp2_with fail
 refine (fM p i h.nm 5 5 _ aC aF aA av hi (HP.out.same HY.out.1)).mono ?_
 rintro e' W ⟨rfl,hb⟩
 replace HY:=Lib.hid (HY.out.next hb)
 clear hb c0 c1 c2 c3 c4 c5 c6 c7 c8 c9 c10 c11 c12 c13 c14 c15 c16 c17 c18
 obtain ⟨-,⟨-,c0⟩,⟨-,c1⟩,⟨-,c2⟩,⟨-,c3⟩,⟨-,c4⟩,⟨-,c5⟩,⟨-,c6⟩,⟨-,c7⟩,⟨-,c8⟩,⟨-,c9⟩,⟨-,c10⟩,⟨-,c11⟩,⟨-,c12⟩,⟨-,c13⟩,⟨-,c14⟩,⟨-,c15⟩,⟨-,c16⟩,⟨-,c17⟩,⟨-,c18⟩,-⟩:=HY.out
 have xB:=Lib.hid (sS (p:=p) (i:=i) (nm:=h.nm))
 generalize bR (conv (mean p i h.nm)) 5 5=q at *
 cases hq:(q != 0)
 case true=>
  have HR':Hid (res=q):=Lib.hid (HR.out.trans (if_pos hq))
  clear xB HR
  go_wp2_with fail
  go_ret
  exact ⟨aS HR'.out.symm,HY.out.1⟩
 obtain ⟨k,d,r,hk,hfx,hdr,-,-,hmu⟩:=xB.out (by simpa using hq)
 have HR':Hid (res=nest ((tx || !aU ar 4 4 d.on) || (false && nK))):=Lib.hid (HR.out.trans ((if_neg (by rw [hq]; decide)).trans (by rw [hmu])))
 have BH:Hid (pF p.ds h.nm=(k:Int)):=Lib.hid hfx
 have hrow:=(HP.out.same HY.out.1).2.2.1.drop k
 rw [hdr,Nat.zero_add] at hrow
 obtain ⟨⟨bD,D6,rfl,hbD,-,-,-,-,-,x5,-⟩,-⟩:=hrow
 have hk0:(0:Int)≤(k:Int):=by omega
 have hk1:(k:Int) < (p.ds.length:Int):=by omega
 clear HR xB hfx hmu hdr
 go_upto_region 28 with fail
 obtain ⟨T,F,qz,hst,hF,hnext⟩:=calm W
 have HF:=Lib.hid hF
 have bS:=Lib.hid hnext
 clear hnext hF
 have d0:=fun x=>(HY.out.next (HF.out x)).2.1.2
 have d1:=fun x=>(HY.out.next (HF.out x)).2.2.1.2
 have d2:=fun x=>(HY.out.next (HF.out x)).2.2.2.1.2
 have d3:=fun x=>(HY.out.next (HF.out x)).2.2.2.2.1.2
 have d4:=fun x=>(HY.out.next (HF.out x)).2.2.2.2.2.1.2
 have d5:=fun x=>(HY.out.next (HF.out x)).2.2.2.2.2.2.1.2
 have d6:=fun x=>(HY.out.next (HF.out x)).2.2.2.2.2.2.2.1.2
 have d7:=fun x=>(HY.out.next (HF.out x)).2.2.2.2.2.2.2.2.1.2
 have d8:=fun x=>(HY.out.next (HF.out x)).2.2.2.2.2.2.2.2.2.1.2
 have d9:=fun x=>(HY.out.next (HF.out x)).2.2.2.2.2.2.2.2.2.2.1.2
 have nk:=fun x=>(HY.out.next (HF.out x)).2.2.2.2.2.2.2.2.2.2.2.1.2
 have mQ:=fun x=>(HY.out.next (HF.out x)).2.2.2.2.2.2.2.2.2.2.2.2.1.2
 have qj:=fun x=>(HY.out.next (HF.out x)).2.2.2.2.2.2.2.2.2.2.2.2.2.1.2
 have qK:=fun x=>(HY.out.next (HF.out x)).2.2.2.2.2.2.2.2.2.2.2.2.2.2.1.2
 have nL:=fun x=>(HY.out.next (HF.out x)).2.2.2.2.2.2.2.2.2.2.2.2.2.2.2.1.2
 have qI:=fun x=>(HY.out.next (HF.out x)).2.2.2.2.2.2.2.2.2.2.2.2.2.2.2.2.1.2
 have qg:=fun x=>(HY.out.next (HF.out x)).2.2.2.2.2.2.2.2.2.2.2.2.2.2.2.2.2.1.2
 have qH:=fun x=>(HY.out.next (HF.out x)).2.2.2.2.2.2.2.2.2.2.2.2.2.2.2.2.2.2.1.2
 have pJ:=fun x=>(HY.out.next (HF.out x)).2.2.2.2.2.2.2.2.2.2.2.2.2.2.2.2.2.2.2.1.2
 clear c0 c1 c2 c3 c4 c5 c6 c7 c8 c9 c10 c11 c12 c13 c14 c15 c16 c17 c18
 have y5:=fun x=>((HF.out x).cell (p:=⟨bD,D6 + k * 6 + 5,none⟩) hbD).trans x5
 clear x5
 refine gF F (by kernel_rfl) (by kernel_rfl) hst ?_
 repeat (any_goals (first | go_big_quiet_step ((first | (go_at_call 36; refine (iP p.ds h.nm _ _ aA HP.out.1 ((HP.out.same HY.out.1).same (HF.out _)).2.2.1).mono ?_; rintro e w' ⟨rfl,rfl⟩; rw [BH.out]; exact ⟨rfl,bS.out _ _ (Below.refl _ _)⟩) | (go_at_call 48; refine (aQ p _ _ aF aA av i aJ aI bc bV cK bf bW cO aZ ar 4 4 d.on dw.out ((dG.out.same HY.out.1).same (HF.out _)) ((bQ HY.out).next (HF.out _))).mono ?_; rintro e w' ⟨rfl,hb⟩; exact ⟨rfl,bS.out _ _ hb⟩))) | (refine wpQuiet_step (fun K hK=> ?_); go_simp; first | (refine hK _ ?_; clear hK K) | (split <;> first | (refine hK _ ?_; clear hK K) | (apply Exists.intro; refine ⟨fun _=> ?_,hK _ ?_⟩; ((first | (go_at_call 36; refine (iP p.ds h.nm _ _ aA HP.out.1 ((HP.out.same HY.out.1).same (HF.out _)).2.2.1).mono ?_; rintro e w' ⟨rfl,rfl⟩; rw [BH.out]; exact ⟨rfl,bS.out _ _ (Below.refl _ _)⟩) | (go_at_call 48; refine (aQ p _ _ aF aA av i aJ aI bc bV cK bf bW cO aZ ar 4 4 d.on dw.out ((dG.out.same HY.out.1).same (HF.out _)) ((bQ HY.out).next (HF.out _))).mono ?_; rintro e w' ⟨rfl,hb⟩; exact ⟨rfl,bS.out _ _ hb⟩))); clear hK K)))))
 all_goals (refine wpQuiet_nil ?_; rintro _ ⟨x,rfl⟩)
 replace HY:=Lib.hid (HY.out.next (HF.out x))
 clear d0 d1 d2 d3 d4 d5 d6 d7 d8 d9 nk mQ qj qK nL qI qg qH pJ y5 HF bS hst
 generalize F x=W2 at *
 generalize aU ar 4 4 d.on=hel at *
 obtain ⟨-,⟨-,c0⟩,⟨-,c1⟩,⟨-,c2⟩,⟨-,c3⟩,⟨-,c4⟩,⟨-,c5⟩,⟨-,c6⟩,⟨-,c7⟩,⟨-,c8⟩,⟨-,c9⟩,⟨-,c10⟩,⟨-,c11⟩,⟨-,c12⟩,⟨-,c13⟩,⟨-,c14⟩,⟨-,c15⟩,⟨-,c16⟩,⟨-,c17⟩,⟨-,c18⟩,-⟩:=HY.out
 cases tx <;> cases hel <;> cases nK
 all_goals
  go_wp2_with fail
  refine (dO _ _).mono ?_
  rintro e' W' ⟨rfl,rfl⟩
  go_wp2_with fail
  go_ret
  exact ⟨aS (by first | exact HR'.out.symm | (rw [HR'.out]; first | done | rfl | simp [nest])),HY.out.1⟩
end
end Go.Proofs.YtnknfoibmgphnaaDoor
end
