/-
  Contract of the checker's statement at an operator that is none.
  Contract of the checker's statement, operator by operator.
-/
import Derived.Test.YtehnipchbmjlhaaGreatDoorGMF
set_option linter.unusedSimpArgs false
set_option linter.unusedVariables false
set_option maxHeartbeats 40000000
set_option maxRecDepth 1000000
section
namespace Go.Proofs.YtehnipchbmjlhaaGreatDoor
open Go.RowKit
open Md
section
variable (p:Pr) (w:World) (aH aI:Option Addr) (aC aD:Nat) (i:Int) (aX:Option Addr) (aQ bs bt bc:Nat)
theorem Vk (h:aV) (b e ar:aN) (s:Sl) (hi:aU i) (hp:p.At w aH aI) (hin:nG w h b e s) (cZ:cO w) (har:ar.len≤maxLen) (hat:ar.At w w.heap.size aX 0) (hh:Holds w (gT bc p aH aI aC aD i aX ar.len aQ bs bt)) (hop:h.op < 1∨15 < h.op):
 Calls Tryz.prog 126 #[.pointer (some ⟨bc,0,none⟩),dx h b e s] w fun e' w'=>e'= .returned (.int .i64 (0))∧Below w.heap.size w w':=by
 have HH:=Lib.hid (show Sit w w _ from ⟨Below.refl _ _,hh⟩)
 obtain ⟨dF,bT,bS,bf,bG,aS,dw,bR⟩:=s
 have hxk:=hin.1.2.2.2.2.2.1
 have hns:=hin.1.2.2.1
 generalize hres:0=res
 have HR:=Lib.hid hres
 have dH:=Lib.hid hop
 have vX:=Lib.hid hin
 clear hres hop
 unfold dx
 dsimp only
 go_enter Tryz.func126,Tryz.ntmps126
 go_upto_region 1 with fail
 generalize hW:World.alloc w _=W
 generalize Value.agg #[_,_,_,_,_,_,_,_,_,_,_]=a0
 have HX:Hid (Sit w W (nN w.heap.size h b e ⟨dF,bT,bS,bf,bG,aS,dw,bR⟩ (gT bc p aH aI aC aD i aX ar.len aQ bs bt))):=Lib.hid (by rw [← hW]; exact HH.out.gF rfl _ _ _ _ _ _ _ _ _ _ _ _)
 clear hW HH
 have HP:=Lib.hid (hp.same HX.out.1)
 have ig:=Lib.hid (cZ.same HX.out.1)
 have sP:=Lib.hid (hin.2.2.1.same HX.out.1)
 have kD:=Lib.hid (hat.same HX.out.1)
 have jv:=Lib.hid har
 have HK:Hid (∀w',Below W.heap.size W w'→Holds w' (gT bc p aH aI aC aD i aX ar.len aQ bs bt)):=Lib.hid (fun w' hb=>(HX.out.next hb).2.2.2.2.2.2.2.2.2.2.2.2)
 clear hp cZ hh hin hat har
 have L0: ∀w',Below W.heap.size W w'→w'.cell? ⟨w.heap.size,0,none⟩=some (.int .i64 h.op):=fun w' hb=>(HX.out.next hb).2.1.2
 have L2: ∀w',Below W.heap.size W w'→w'.cell? ⟨w.heap.size,2,none⟩=some (.string h.nm):=fun w' hb=>(HX.out.next hb).2.2.2.1.2
 have L3: ∀w',Below W.heap.size W w'→w'.cell? ⟨w.heap.size,3,none⟩=some (.string h.arg):=fun w' hb=>(HX.out.next hb).2.2.2.2.1.2
 have L5: ∀w',Below W.heap.size W w'→w'.cell? ⟨w.heap.size,5,none⟩=some (.int .i64 h.bD):=fun w' hb=>(HX.out.next hb).2.2.2.2.2.2.1.2
 have L6: ∀w',Below W.heap.size W w'→w'.cell? ⟨w.heap.size,6,none⟩=some (.int .i64 h.xn):=fun w' hb=>(HX.out.next hb).2.2.2.2.2.2.2.1.2
 have L7: ∀w',Below W.heap.size W w'→w'.cell? ⟨w.heap.size,7,none⟩=some (.string h.bC):=fun w' hb=>(HX.out.next hb).2.2.2.2.2.2.2.2.1.2
 have L8: ∀w',Below W.heap.size W w'→w'.cell? ⟨w.heap.size,8,none⟩=some (.slice bS h.aL.len bf):=fun w' hb=>(HX.out.next hb).2.2.2.2.2.2.2.2.2.1.2
 have hB0:Below W.heap.size W W:=Below.refl _ _
 have l0:=L0 W hB0
 have hop:=dH.out
 have g1:(h.op == 1)=false:=by rw [beq_eq_false_iff_ne]; omega
 have g2:(h.op == 2)=false:=by rw [beq_eq_false_iff_ne]; omega
 have g3:(h.op == 3)=false:=by rw [beq_eq_false_iff_ne]; omega
 have g4:(h.op == 4)=false:=by rw [beq_eq_false_iff_ne]; omega
 have g5:(h.op == 5)=false:=by rw [beq_eq_false_iff_ne]; omega
 have g6:(h.op == 6)=false:=by rw [beq_eq_false_iff_ne]; omega
 have g7:(h.op == 7)=false:=by rw [beq_eq_false_iff_ne]; omega
 have g8:(h.op == 8)=false:=by rw [beq_eq_false_iff_ne]; omega
 have g9:(h.op == 9)=false:=by rw [beq_eq_false_iff_ne]; omega
 have g10:(h.op == 10)=false:=by rw [beq_eq_false_iff_ne]; omega
 have g11:(h.op == 11)=false:=by rw [beq_eq_false_iff_ne]; omega
 have g12:(h.op == 12)=false:=by rw [beq_eq_false_iff_ne]; omega
 have g13:(h.op == 13)=false:=by rw [beq_eq_false_iff_ne]; omega
 have g14:(h.op == 14)=false:=by rw [beq_eq_false_iff_ne]; omega
 have g15:(h.op == 15)=false:=by rw [beq_eq_false_iff_ne]; omega
 clear hop
 go_wp2_with fail
 go_ret
 exact ⟨rfl,HX.out.1⟩
end
end Go.Proofs.YtehnipchbmjlhaaGreatDoor
end
section
namespace Go.Proofs.YtehnipchbmjlhaaGreatDoor
open Go.RowKit
open Md
section
variable (p:Pr) (w:World) (aH aI:Option Addr) (aC aD:Nat) (i:Int) (aX:Option Addr) (aQ bs bt bc:Nat)
theorem TT (h:aV) (b e ar:aN) (s:Sl) (hi:aU i) (hp:p.At w aH aI) (hin:nG w h b e s) (cZ:cO w) (har:ar.len≤maxLen) (hat:ar.At w w.heap.size aX 0) (hh:Holds w (gT bc p aH aI aC aD i aX ar.len aQ bs bt)) (hop:h.op=4):
 Calls Tryz.prog 126 #[.pointer (some ⟨bc,0,none⟩),dx h b e s] w fun e' w'=>e'= .returned (.int .i64 (eP [bg (mean p i h.nm) [4],nest (dY ar [7] || jR ar h.nm [4])]))∧Below w.heap.size w w':=by
 have HH:=Lib.hid (show Sit w w _ from ⟨Below.refl _ _,hh⟩)
 obtain ⟨dF,bT,bS,bf,bG,aS,dw,bR⟩:=s
 have hxk:=hin.1.2.2.2.2.2.1
 have hns:=hin.1.2.2.1
 generalize hres:eP [bg (mean p i h.nm) [4],nest (dY ar [7] || jR ar h.nm [4])]=res
 have HR:=Lib.hid hres
 have dH:=Lib.hid hop
 have vX:=Lib.hid hin
 clear hres hop
 unfold dx
 dsimp only
 go_enter Tryz.func126,Tryz.ntmps126
 go_upto_region 1 with fail
 generalize hW:World.alloc w _=W
 generalize Value.agg #[_,_,_,_,_,_,_,_,_,_,_]=a0
 have HX:Hid (Sit w W (nN w.heap.size h b e ⟨dF,bT,bS,bf,bG,aS,dw,bR⟩ (gT bc p aH aI aC aD i aX ar.len aQ bs bt))):=Lib.hid (by rw [← hW]; exact HH.out.gF rfl _ _ _ _ _ _ _ _ _ _ _ _)
 clear hW HH
 have HP:=Lib.hid (hp.same HX.out.1)
 have ig:=Lib.hid (cZ.same HX.out.1)
 have sP:=Lib.hid (hin.2.2.1.same HX.out.1)
 have kD:=Lib.hid (hat.same HX.out.1)
 have jv:=Lib.hid har
 have HK:Hid (∀w',Below W.heap.size W w'→Holds w' (gT bc p aH aI aC aD i aX ar.len aQ bs bt)):=Lib.hid (fun w' hb=>(HX.out.next hb).2.2.2.2.2.2.2.2.2.2.2.2)
 clear hp cZ hh hin hat har
 have L0: ∀w',Below W.heap.size W w'→w'.cell? ⟨w.heap.size,0,none⟩=some (.int .i64 h.op):=fun w' hb=>(HX.out.next hb).2.1.2
 have L2: ∀w',Below W.heap.size W w'→w'.cell? ⟨w.heap.size,2,none⟩=some (.string h.nm):=fun w' hb=>(HX.out.next hb).2.2.2.1.2
 have L3: ∀w',Below W.heap.size W w'→w'.cell? ⟨w.heap.size,3,none⟩=some (.string h.arg):=fun w' hb=>(HX.out.next hb).2.2.2.2.1.2
 have L5: ∀w',Below W.heap.size W w'→w'.cell? ⟨w.heap.size,5,none⟩=some (.int .i64 h.bD):=fun w' hb=>(HX.out.next hb).2.2.2.2.2.2.1.2
 have L6: ∀w',Below W.heap.size W w'→w'.cell? ⟨w.heap.size,6,none⟩=some (.int .i64 h.xn):=fun w' hb=>(HX.out.next hb).2.2.2.2.2.2.2.1.2
 have L7: ∀w',Below W.heap.size W w'→w'.cell? ⟨w.heap.size,7,none⟩=some (.string h.bC):=fun w' hb=>(HX.out.next hb).2.2.2.2.2.2.2.2.1.2
 have L8: ∀w',Below W.heap.size W w'→w'.cell? ⟨w.heap.size,8,none⟩=some (.slice bS h.aL.len bf):=fun w' hb=>(HX.out.next hb).2.2.2.2.2.2.2.2.2.1.2
 have hB0:Below W.heap.size W W:=Below.refl _ _
 have l0:=L0 W hB0
 have hop:=dH.out
 have g1:(h.op == 1)=false:=by rw [hop]; rfl
 have g2:(h.op == 2)=false:=by rw [hop]; rfl
 have g3:(h.op == 3)=false:=by rw [hop]; rfl
 have g4:(h.op == 4)=true:=by rw [hop]; rfl
 have g5:(h.op == 5)=false:=by rw [hop]; rfl
 have g6:(h.op == 6)=false:=by rw [hop]; rfl
 have g7:(h.op == 7)=false:=by rw [hop]; rfl
 have g8:(h.op == 8)=false:=by rw [hop]; rfl
 have g9:(h.op == 9)=false:=by rw [hop]; rfl
 have g10:(h.op == 10)=false:=by rw [hop]; rfl
 have g11:(h.op == 11)=false:=by rw [hop]; rfl
 have g12:(h.op == 12)=false:=by rw [hop]; rfl
 have g13:(h.op == 13)=false:=by rw [hop]; rfl
 have g14:(h.op == 14)=false:=by rw [hop]; rfl
 have g15:(h.op == 15)=false:=by rw [hop]; rfl
 clear hop
 go_wp2_with fail
 refine (gH p _ aH aI aC aD i aX ar.len aQ bs bt bc h.nm [4] _ 1 hi (by decide) (HP.out.same (hB0.alloc hB0.size _)) (dX _ 4 _) (HK.out _ (hB0.alloc hB0.size _))).mono ?_
 rintro e' w1 ⟨rfl,hb⟩
 have hB1:=(hB0.alloc hB0.size _).trans (hb.mono (hB0.alloc hB0.size _).size)
 clear hb
 go_wp2_with fail
 refine (eX p _ aH aI aC aD i aX aQ bs bt bc ar [7] _ 1 (by decide) (dX _ 7 _) jv.out (kD.out.same (hB1.alloc hB1.size _)) (HK.out _ (hB1.alloc hB1.size _))).mono ?_
 rintro e' w2 ⟨rfl,hb⟩
 have hB2:=(hB1.alloc hB1.size _).trans (hb.mono (hB1.alloc hB1.size _).size)
 clear hb
 cases hq:dY ar [7]
 ·go_wp2_with fail
  refine (ji p _ aH aI aC aD i aX aQ bs bt bc ar h.nm [4] _ 1 (by decide) (dX _ 4 _) jv.out (kD.out.same (hB2.alloc hB2.size _)) (HK.out _ (hB2.alloc hB2.size _))).mono ?_
  rintro e' w3 ⟨rfl,hb⟩
  have hB3:=(hB2.alloc hB2.size _).trans (hb.mono (hB2.alloc hB2.size _).size)
  clear hb
  cases hq2:jR ar h.nm [4]
  ·go_wp2_with fail
   refine (cK _ _).mono ?_
   rintro e' wn ⟨rfl,rfl⟩
   go_wp2_with fail
   refine (cB [bg (mean p i h.nm) [4],nest false] _ _ 2 (by simp [maxLen]) (dU _ _ _ _)).mono ?_
   rintro e' wf ⟨rfl,rfl⟩
   have qX:=hB3.alloc hB3.size (.cells #[] 0)
   go_wp2_with fail
   go_ret
   exact ⟨bU (by first | exact HR.out | exact HR.out.symm | (rw [← HR.out]; first | rfl | simp_all)),(HX.out.next (hB3.alloc hB3.size _)).1⟩
  ·go_wp2_with fail
   refine (cK _ _).mono ?_
   rintro e' wn ⟨rfl,rfl⟩
   go_wp2_with fail
   refine (cB [bg (mean p i h.nm) [4],nest true] _ _ 2 (by simp [maxLen]) (dU _ _ _ _)).mono ?_
   rintro e' wf ⟨rfl,rfl⟩
   have qX:=hB3.alloc hB3.size (.cells #[] 0)
   go_wp2_with fail
   go_ret
   exact ⟨bU (by first | exact HR.out | exact HR.out.symm | (rw [← HR.out]; first | rfl | simp_all)),(HX.out.next (hB3.alloc hB3.size _)).1⟩
 ·go_wp2_with fail
  refine (cK _ _).mono ?_
  rintro e' wn ⟨rfl,rfl⟩
  go_wp2_with fail
  refine (cB [bg (mean p i h.nm) [4],nest true] _ _ 2 (by simp [maxLen]) (dU _ _ _ _)).mono ?_
  rintro e' wf ⟨rfl,rfl⟩
  have qX:=hB2.alloc hB2.size (.cells #[] 0)
  go_wp2_with fail
  go_ret
  exact ⟨bU (by first | exact HR.out | exact HR.out.symm | (rw [← HR.out]; first | rfl | simp_all)),(HX.out.next (hB2.alloc hB2.size _)).1⟩
theorem UY (h:aV) (b e ar:aN) (s:Sl) (hi:aU i) (hp:p.At w aH aI) (hin:nG w h b e s) (cZ:cO w) (har:ar.len≤maxLen) (hat:ar.At w w.heap.size aX 0) (hh:Holds w (gT bc p aH aI aC aD i aX ar.len aQ bs bt)) (hop:h.op=7):
 Calls Tryz.prog 126 #[.pointer (some ⟨bc,0,none⟩),dx h b e s] w fun e' w'=>e'= .returned (.int .i64 (nest (dY ar [7])))∧Below w.heap.size w w':=by
 have HH:=Lib.hid (show Sit w w _ from ⟨Below.refl _ _,hh⟩)
 obtain ⟨dF,bT,bS,bf,bG,aS,dw,bR⟩:=s
 have hxk:=hin.1.2.2.2.2.2.1
 have hns:=hin.1.2.2.1
 generalize hres:nest (dY ar [7])=res
 have HR:=Lib.hid hres
 have dH:=Lib.hid hop
 have vX:=Lib.hid hin
 clear hres hop
 unfold dx
 dsimp only
 go_enter Tryz.func126,Tryz.ntmps126
 go_upto_region 1 with fail
 generalize hW:World.alloc w _=W
 generalize Value.agg #[_,_,_,_,_,_,_,_,_,_,_]=a0
 have HX:Hid (Sit w W (nN w.heap.size h b e ⟨dF,bT,bS,bf,bG,aS,dw,bR⟩ (gT bc p aH aI aC aD i aX ar.len aQ bs bt))):=Lib.hid (by rw [← hW]; exact HH.out.gF rfl _ _ _ _ _ _ _ _ _ _ _ _)
 clear hW HH
 have HP:=Lib.hid (hp.same HX.out.1)
 have ig:=Lib.hid (cZ.same HX.out.1)
 have sP:=Lib.hid (hin.2.2.1.same HX.out.1)
 have kD:=Lib.hid (hat.same HX.out.1)
 have jv:=Lib.hid har
 have HK:Hid (∀w',Below W.heap.size W w'→Holds w' (gT bc p aH aI aC aD i aX ar.len aQ bs bt)):=Lib.hid (fun w' hb=>(HX.out.next hb).2.2.2.2.2.2.2.2.2.2.2.2)
 clear hp cZ hh hin hat har
 have L0: ∀w',Below W.heap.size W w'→w'.cell? ⟨w.heap.size,0,none⟩=some (.int .i64 h.op):=fun w' hb=>(HX.out.next hb).2.1.2
 have L2: ∀w',Below W.heap.size W w'→w'.cell? ⟨w.heap.size,2,none⟩=some (.string h.nm):=fun w' hb=>(HX.out.next hb).2.2.2.1.2
 have L3: ∀w',Below W.heap.size W w'→w'.cell? ⟨w.heap.size,3,none⟩=some (.string h.arg):=fun w' hb=>(HX.out.next hb).2.2.2.2.1.2
 have L5: ∀w',Below W.heap.size W w'→w'.cell? ⟨w.heap.size,5,none⟩=some (.int .i64 h.bD):=fun w' hb=>(HX.out.next hb).2.2.2.2.2.2.1.2
 have L6: ∀w',Below W.heap.size W w'→w'.cell? ⟨w.heap.size,6,none⟩=some (.int .i64 h.xn):=fun w' hb=>(HX.out.next hb).2.2.2.2.2.2.2.1.2
 have L7: ∀w',Below W.heap.size W w'→w'.cell? ⟨w.heap.size,7,none⟩=some (.string h.bC):=fun w' hb=>(HX.out.next hb).2.2.2.2.2.2.2.2.1.2
 have L8: ∀w',Below W.heap.size W w'→w'.cell? ⟨w.heap.size,8,none⟩=some (.slice bS h.aL.len bf):=fun w' hb=>(HX.out.next hb).2.2.2.2.2.2.2.2.2.1.2
 have hB0:Below W.heap.size W W:=Below.refl _ _
 have l0:=L0 W hB0
 have hop:=dH.out
 have g1:(h.op == 1)=false:=by rw [hop]; rfl
 have g2:(h.op == 2)=false:=by rw [hop]; rfl
 have g3:(h.op == 3)=false:=by rw [hop]; rfl
 have g4:(h.op == 4)=false:=by rw [hop]; rfl
 have g5:(h.op == 5)=false:=by rw [hop]; rfl
 have g6:(h.op == 6)=false:=by rw [hop]; rfl
 have g7:(h.op == 7)=true:=by rw [hop]; rfl
 have g8:(h.op == 8)=false:=by rw [hop]; rfl
 have g9:(h.op == 9)=false:=by rw [hop]; rfl
 have g10:(h.op == 10)=false:=by rw [hop]; rfl
 have g11:(h.op == 11)=false:=by rw [hop]; rfl
 have g12:(h.op == 12)=false:=by rw [hop]; rfl
 have g13:(h.op == 13)=false:=by rw [hop]; rfl
 have g14:(h.op == 14)=false:=by rw [hop]; rfl
 have g15:(h.op == 15)=false:=by rw [hop]; rfl
 clear hop
 go_wp2_with fail
 refine (eX p _ aH aI aC aD i aX aQ bs bt bc ar [7] _ 1 (by decide) (dX _ 7 _) jv.out (kD.out.same (hB0.alloc hB0.size _)) (HK.out _ (hB0.alloc hB0.size _))).mono ?_
 rintro e' w1 ⟨rfl,hb⟩
 have hB1:=(hB0.alloc hB0.size _).trans (hb.mono (hB0.alloc hB0.size _).size)
 clear hb
 go_wp2_with fail
 refine (cK _ _).mono ?_
 rintro e' wn ⟨rfl,rfl⟩
 go_wp2_with fail
 go_ret
 exact ⟨bU (by first | exact HR.out | exact HR.out.symm | (rw [← HR.out]; first | rfl | simp_all)),(HX.out.next hB1).1⟩
theorem Ud (h:aV) (b e ar:aN) (s:Sl) (hi:aU i) (hp:p.At w aH aI) (hin:nG w h b e s) (cZ:cO w) (har:ar.len≤maxLen) (hat:ar.At w w.heap.size aX 0) (hh:Holds w (gT bc p aH aI aC aD i aX ar.len aQ bs bt)) (hop:h.op=8):
 Calls Tryz.prog 126 #[.pointer (some ⟨bc,0,none⟩),dx h b e s] w fun e' w'=>e'= .returned (.int .i64 (nest (dY ar [7,8])))∧Below w.heap.size w w':=by
 have HH:=Lib.hid (show Sit w w _ from ⟨Below.refl _ _,hh⟩)
 obtain ⟨dF,bT,bS,bf,bG,aS,dw,bR⟩:=s
 have hxk:=hin.1.2.2.2.2.2.1
 have hns:=hin.1.2.2.1
 generalize hres:nest (dY ar [7,8])=res
 have HR:=Lib.hid hres
 have dH:=Lib.hid hop
 have vX:=Lib.hid hin
 clear hres hop
 unfold dx
 dsimp only
 go_enter Tryz.func126,Tryz.ntmps126
 go_upto_region 1 with fail
 generalize hW:World.alloc w _=W
 generalize Value.agg #[_,_,_,_,_,_,_,_,_,_,_]=a0
 have HX:Hid (Sit w W (nN w.heap.size h b e ⟨dF,bT,bS,bf,bG,aS,dw,bR⟩ (gT bc p aH aI aC aD i aX ar.len aQ bs bt))):=Lib.hid (by rw [← hW]; exact HH.out.gF rfl _ _ _ _ _ _ _ _ _ _ _ _)
 clear hW HH
 have HP:=Lib.hid (hp.same HX.out.1)
 have ig:=Lib.hid (cZ.same HX.out.1)
 have sP:=Lib.hid (hin.2.2.1.same HX.out.1)
 have kD:=Lib.hid (hat.same HX.out.1)
 have jv:=Lib.hid har
 have HK:Hid (∀w',Below W.heap.size W w'→Holds w' (gT bc p aH aI aC aD i aX ar.len aQ bs bt)):=Lib.hid (fun w' hb=>(HX.out.next hb).2.2.2.2.2.2.2.2.2.2.2.2)
 clear hp cZ hh hin hat har
 have L0: ∀w',Below W.heap.size W w'→w'.cell? ⟨w.heap.size,0,none⟩=some (.int .i64 h.op):=fun w' hb=>(HX.out.next hb).2.1.2
 have L2: ∀w',Below W.heap.size W w'→w'.cell? ⟨w.heap.size,2,none⟩=some (.string h.nm):=fun w' hb=>(HX.out.next hb).2.2.2.1.2
 have L3: ∀w',Below W.heap.size W w'→w'.cell? ⟨w.heap.size,3,none⟩=some (.string h.arg):=fun w' hb=>(HX.out.next hb).2.2.2.2.1.2
 have L5: ∀w',Below W.heap.size W w'→w'.cell? ⟨w.heap.size,5,none⟩=some (.int .i64 h.bD):=fun w' hb=>(HX.out.next hb).2.2.2.2.2.2.1.2
 have L6: ∀w',Below W.heap.size W w'→w'.cell? ⟨w.heap.size,6,none⟩=some (.int .i64 h.xn):=fun w' hb=>(HX.out.next hb).2.2.2.2.2.2.2.1.2
 have L7: ∀w',Below W.heap.size W w'→w'.cell? ⟨w.heap.size,7,none⟩=some (.string h.bC):=fun w' hb=>(HX.out.next hb).2.2.2.2.2.2.2.2.1.2
 have L8: ∀w',Below W.heap.size W w'→w'.cell? ⟨w.heap.size,8,none⟩=some (.slice bS h.aL.len bf):=fun w' hb=>(HX.out.next hb).2.2.2.2.2.2.2.2.2.1.2
 have hB0:Below W.heap.size W W:=Below.refl _ _
 have l0:=L0 W hB0
 have hop:=dH.out
 have g1:(h.op == 1)=false:=by rw [hop]; rfl
 have g2:(h.op == 2)=false:=by rw [hop]; rfl
 have g3:(h.op == 3)=false:=by rw [hop]; rfl
 have g4:(h.op == 4)=false:=by rw [hop]; rfl
 have g5:(h.op == 5)=false:=by rw [hop]; rfl
 have g6:(h.op == 6)=false:=by rw [hop]; rfl
 have g7:(h.op == 7)=false:=by rw [hop]; rfl
 have g8:(h.op == 8)=true:=by rw [hop]; rfl
 have g9:(h.op == 9)=false:=by rw [hop]; rfl
 have g10:(h.op == 10)=false:=by rw [hop]; rfl
 have g11:(h.op == 11)=false:=by rw [hop]; rfl
 have g12:(h.op == 12)=false:=by rw [hop]; rfl
 have g13:(h.op == 13)=false:=by rw [hop]; rfl
 have g14:(h.op == 14)=false:=by rw [hop]; rfl
 have g15:(h.op == 15)=false:=by rw [hop]; rfl
 clear hop
 go_wp2_with fail
 refine (eX p _ aH aI aC aD i aX aQ bs bt bc ar [7,8] _ 2 (by decide) (dU _ 7 8 _) jv.out (kD.out.same (hB0.alloc hB0.size _)) (HK.out _ (hB0.alloc hB0.size _))).mono ?_
 rintro e' w1 ⟨rfl,hb⟩
 have hB1:=(hB0.alloc hB0.size _).trans (hb.mono (hB0.alloc hB0.size _).size)
 clear hb
 go_wp2_with fail
 refine (cK _ _).mono ?_
 rintro e' wn ⟨rfl,rfl⟩
 go_wp2_with fail
 go_ret
 exact ⟨bU (by first | exact HR.out | exact HR.out.symm | (rw [← HR.out]; first | rfl | simp_all)),(HX.out.next hB1).1⟩
theorem Qa (h:aV) (b e ar:aN) (s:Sl) (hi:aU i) (hp:p.At w aH aI) (hin:nG w h b e s) (cZ:cO w) (har:ar.len≤maxLen) (hat:ar.At w w.heap.size aX 0) (hh:Holds w (gT bc p aH aI aC aD i aX ar.len aQ bs bt)) (hop:h.op=5∨h.op=6):
 Calls Tryz.prog 126 #[.pointer (some ⟨bc,0,none⟩),dx h b e s] w fun e' w'=>e'= .returned (.int .i64 (eP [bg (mean p i h.nm) [5],nest (dY ar [7] || jR ar h.nm [5,6])]))∧Below w.heap.size w w':=by
 have HH:=Lib.hid (show Sit w w _ from ⟨Below.refl _ _,hh⟩)
 obtain ⟨dF,bT,bS,bf,bG,aS,dw,bR⟩:=s
 have hxk:=hin.1.2.2.2.2.2.1
 have hns:=hin.1.2.2.1
 generalize hres:eP [bg (mean p i h.nm) [5],nest (dY ar [7] || jR ar h.nm [5,6])]=res
 have HR:=Lib.hid hres
 have dH:=Lib.hid hop
 have vX:=Lib.hid hin
 clear hres hop
 unfold dx
 dsimp only
 go_enter Tryz.func126,Tryz.ntmps126
 go_upto_region 1 with fail
 generalize hW:World.alloc w _=W
 generalize Value.agg #[_,_,_,_,_,_,_,_,_,_,_]=a0
 have HX:Hid (Sit w W (nN w.heap.size h b e ⟨dF,bT,bS,bf,bG,aS,dw,bR⟩ (gT bc p aH aI aC aD i aX ar.len aQ bs bt))):=Lib.hid (by rw [← hW]; exact HH.out.gF rfl _ _ _ _ _ _ _ _ _ _ _ _)
 clear hW HH
 have HP:=Lib.hid (hp.same HX.out.1)
 have ig:=Lib.hid (cZ.same HX.out.1)
 have sP:=Lib.hid (hin.2.2.1.same HX.out.1)
 have kD:=Lib.hid (hat.same HX.out.1)
 have jv:=Lib.hid har
 have HK:Hid (∀w',Below W.heap.size W w'→Holds w' (gT bc p aH aI aC aD i aX ar.len aQ bs bt)):=Lib.hid (fun w' hb=>(HX.out.next hb).2.2.2.2.2.2.2.2.2.2.2.2)
 clear hp cZ hh hin hat har
 have L0: ∀w',Below W.heap.size W w'→w'.cell? ⟨w.heap.size,0,none⟩=some (.int .i64 h.op):=fun w' hb=>(HX.out.next hb).2.1.2
 have L2: ∀w',Below W.heap.size W w'→w'.cell? ⟨w.heap.size,2,none⟩=some (.string h.nm):=fun w' hb=>(HX.out.next hb).2.2.2.1.2
 have L3: ∀w',Below W.heap.size W w'→w'.cell? ⟨w.heap.size,3,none⟩=some (.string h.arg):=fun w' hb=>(HX.out.next hb).2.2.2.2.1.2
 have L5: ∀w',Below W.heap.size W w'→w'.cell? ⟨w.heap.size,5,none⟩=some (.int .i64 h.bD):=fun w' hb=>(HX.out.next hb).2.2.2.2.2.2.1.2
 have L6: ∀w',Below W.heap.size W w'→w'.cell? ⟨w.heap.size,6,none⟩=some (.int .i64 h.xn):=fun w' hb=>(HX.out.next hb).2.2.2.2.2.2.2.1.2
 have L7: ∀w',Below W.heap.size W w'→w'.cell? ⟨w.heap.size,7,none⟩=some (.string h.bC):=fun w' hb=>(HX.out.next hb).2.2.2.2.2.2.2.2.1.2
 have L8: ∀w',Below W.heap.size W w'→w'.cell? ⟨w.heap.size,8,none⟩=some (.slice bS h.aL.len bf):=fun w' hb=>(HX.out.next hb).2.2.2.2.2.2.2.2.2.1.2
 have hB0:Below W.heap.size W W:=Below.refl _ _
 have l0:=L0 W hB0
 have hop:=dH.out
 rcases hop with hop | hop
 ·have g1:(h.op == 1)=false:=by rw [hop]; rfl
  have g2:(h.op == 2)=false:=by rw [hop]; rfl
  have g3:(h.op == 3)=false:=by rw [hop]; rfl
  have g4:(h.op == 4)=false:=by rw [hop]; rfl
  have g5:(h.op == 5)=true:=by rw [hop]; rfl
  have g6:(h.op == 6)=false:=by rw [hop]; rfl
  have g7:(h.op == 7)=false:=by rw [hop]; rfl
  have g8:(h.op == 8)=false:=by rw [hop]; rfl
  have g9:(h.op == 9)=false:=by rw [hop]; rfl
  have g10:(h.op == 10)=false:=by rw [hop]; rfl
  have g11:(h.op == 11)=false:=by rw [hop]; rfl
  have g12:(h.op == 12)=false:=by rw [hop]; rfl
  have g13:(h.op == 13)=false:=by rw [hop]; rfl
  have g14:(h.op == 14)=false:=by rw [hop]; rfl
  have g15:(h.op == 15)=false:=by rw [hop]; rfl
  clear hop
  go_wp2_with fail
  refine (gH p _ aH aI aC aD i aX ar.len aQ bs bt bc h.nm [5] _ 1 hi (by decide) (HP.out.same (hB0.alloc hB0.size _)) (dX _ 5 _) (HK.out _ (hB0.alloc hB0.size _))).mono ?_
  rintro e' w1 ⟨rfl,hb⟩
  have hB1:=(hB0.alloc hB0.size _).trans (hb.mono (hB0.alloc hB0.size _).size)
  clear hb
  go_wp2_with fail
  refine (eX p _ aH aI aC aD i aX aQ bs bt bc ar [7] _ 1 (by decide) (dX _ 7 _) jv.out (kD.out.same (hB1.alloc hB1.size _)) (HK.out _ (hB1.alloc hB1.size _))).mono ?_
  rintro e' w2 ⟨rfl,hb⟩
  have hB2:=(hB1.alloc hB1.size _).trans (hb.mono (hB1.alloc hB1.size _).size)
  clear hb
  cases hq:dY ar [7]
  ·go_wp2_with fail
   refine (ji p _ aH aI aC aD i aX aQ bs bt bc ar h.nm [5,6] _ 2 (by decide) (dU _ 5 6 _) jv.out (kD.out.same (hB2.alloc hB2.size _)) (HK.out _ (hB2.alloc hB2.size _))).mono ?_
   rintro e' w3 ⟨rfl,hb⟩
   have hB3:=(hB2.alloc hB2.size _).trans (hb.mono (hB2.alloc hB2.size _).size)
   clear hb
   cases hq2:jR ar h.nm [5,6]
   ·go_wp2_with fail
    refine (cK _ _).mono ?_
    rintro e' wn ⟨rfl,rfl⟩
    go_wp2_with fail
    refine (cB [bg (mean p i h.nm) [5],nest false] _ _ 2 (by simp [maxLen]) (dU _ _ _ _)).mono ?_
    rintro e' wf ⟨rfl,rfl⟩
    have qX:=hB3.alloc hB3.size (.cells #[] 0)
    go_wp2_with fail
    go_ret
    exact ⟨bU (by first | exact HR.out | exact HR.out.symm | (rw [← HR.out]; first | rfl | simp_all)),(HX.out.next (hB3.alloc hB3.size _)).1⟩
   ·go_wp2_with fail
    refine (cK _ _).mono ?_
    rintro e' wn ⟨rfl,rfl⟩
    go_wp2_with fail
    refine (cB [bg (mean p i h.nm) [5],nest true] _ _ 2 (by simp [maxLen]) (dU _ _ _ _)).mono ?_
    rintro e' wf ⟨rfl,rfl⟩
    have qX:=hB3.alloc hB3.size (.cells #[] 0)
    go_wp2_with fail
    go_ret
    exact ⟨bU (by first | exact HR.out | exact HR.out.symm | (rw [← HR.out]; first | rfl | simp_all)),(HX.out.next (hB3.alloc hB3.size _)).1⟩
  ·go_wp2_with fail
   refine (cK _ _).mono ?_
   rintro e' wn ⟨rfl,rfl⟩
   go_wp2_with fail
   refine (cB [bg (mean p i h.nm) [5],nest true] _ _ 2 (by simp [maxLen]) (dU _ _ _ _)).mono ?_
   rintro e' wf ⟨rfl,rfl⟩
   have qX:=hB2.alloc hB2.size (.cells #[] 0)
   go_wp2_with fail
   go_ret
   exact ⟨bU (by first | exact HR.out | exact HR.out.symm | (rw [← HR.out]; first | rfl | simp_all)),(HX.out.next (hB2.alloc hB2.size _)).1⟩
 ·have g1:(h.op == 1)=false:=by rw [hop]; rfl
  have g2:(h.op == 2)=false:=by rw [hop]; rfl
  have g3:(h.op == 3)=false:=by rw [hop]; rfl
  have g4:(h.op == 4)=false:=by rw [hop]; rfl
  have g5:(h.op == 5)=false:=by rw [hop]; rfl
  have g6:(h.op == 6)=true:=by rw [hop]; rfl
  have g7:(h.op == 7)=false:=by rw [hop]; rfl
  have g8:(h.op == 8)=false:=by rw [hop]; rfl
  have g9:(h.op == 9)=false:=by rw [hop]; rfl
  have g10:(h.op == 10)=false:=by rw [hop]; rfl
  have g11:(h.op == 11)=false:=by rw [hop]; rfl
  have g12:(h.op == 12)=false:=by rw [hop]; rfl
  have g13:(h.op == 13)=false:=by rw [hop]; rfl
  have g14:(h.op == 14)=false:=by rw [hop]; rfl
  have g15:(h.op == 15)=false:=by rw [hop]; rfl
  clear hop
  go_wp2_with fail
  refine (gH p _ aH aI aC aD i aX ar.len aQ bs bt bc h.nm [5] _ 1 hi (by decide) (HP.out.same (hB0.alloc hB0.size _)) (dX _ 5 _) (HK.out _ (hB0.alloc hB0.size _))).mono ?_
  rintro e' w1 ⟨rfl,hb⟩
  have hB1:=(hB0.alloc hB0.size _).trans (hb.mono (hB0.alloc hB0.size _).size)
  clear hb
  go_wp2_with fail
  refine (eX p _ aH aI aC aD i aX aQ bs bt bc ar [7] _ 1 (by decide) (dX _ 7 _) jv.out (kD.out.same (hB1.alloc hB1.size _)) (HK.out _ (hB1.alloc hB1.size _))).mono ?_
  rintro e' w2 ⟨rfl,hb⟩
  have hB2:=(hB1.alloc hB1.size _).trans (hb.mono (hB1.alloc hB1.size _).size)
  clear hb
  cases hq:dY ar [7]
  ·go_wp2_with fail
   refine (ji p _ aH aI aC aD i aX aQ bs bt bc ar h.nm [5,6] _ 2 (by decide) (dU _ 5 6 _) jv.out (kD.out.same (hB2.alloc hB2.size _)) (HK.out _ (hB2.alloc hB2.size _))).mono ?_
   rintro e' w3 ⟨rfl,hb⟩
   have hB3:=(hB2.alloc hB2.size _).trans (hb.mono (hB2.alloc hB2.size _).size)
   clear hb
   cases hq2:jR ar h.nm [5,6]
   ·go_wp2_with fail
    refine (cK _ _).mono ?_
    rintro e' wn ⟨rfl,rfl⟩
    go_wp2_with fail
    refine (cB [bg (mean p i h.nm) [5],nest false] _ _ 2 (by simp [maxLen]) (dU _ _ _ _)).mono ?_
    rintro e' wf ⟨rfl,rfl⟩
    have qX:=hB3.alloc hB3.size (.cells #[] 0)
    go_wp2_with fail
    go_ret
    exact ⟨bU (by first | exact HR.out | exact HR.out.symm | (rw [← HR.out]; first | rfl | simp_all)),(HX.out.next (hB3.alloc hB3.size _)).1⟩
   ·go_wp2_with fail
    refine (cK _ _).mono ?_
    rintro e' wn ⟨rfl,rfl⟩
    go_wp2_with fail
    refine (cB [bg (mean p i h.nm) [5],nest true] _ _ 2 (by simp [maxLen]) (dU _ _ _ _)).mono ?_
    rintro e' wf ⟨rfl,rfl⟩
    have qX:=hB3.alloc hB3.size (.cells #[] 0)
    go_wp2_with fail
    go_ret
    exact ⟨bU (by first | exact HR.out | exact HR.out.symm | (rw [← HR.out]; first | rfl | simp_all)),(HX.out.next (hB3.alloc hB3.size _)).1⟩
  ·go_wp2_with fail
   refine (cK _ _).mono ?_
   rintro e' wn ⟨rfl,rfl⟩
   go_wp2_with fail
   refine (cB [bg (mean p i h.nm) [5],nest true] _ _ 2 (by simp [maxLen]) (dU _ _ _ _)).mono ?_
   rintro e' wf ⟨rfl,rfl⟩
   have qX:=hB2.alloc hB2.size (.cells #[] 0)
   go_wp2_with fail
   go_ret
   exact ⟨bU (by first | exact HR.out | exact HR.out.symm | (rw [← HR.out]; first | rfl | simp_all)),(HX.out.next (hB2.alloc hB2.size _)).1⟩
theorem Qf (h:aV) (b e ar:aN) (s:Sl) (hi:aU i) (hp:p.At w aH aI) (hin:nG w h b e s) (cZ:cO w) (har:ar.len≤maxLen) (hat:ar.At w w.heap.size aX 0) (hh:Holds w (gT bc p aH aI aC aD i aX ar.len aQ bs bt)) (hop:h.op=2∨h.op=3):
 Calls Tryz.prog 126 #[.pointer (some ⟨bc,0,none⟩),dx h b e s] w fun e' w'=>e'= .returned (.int .i64 (kP p i h.bD h.xn h.bC h.aL))∧Below w.heap.size w w':=by
 have HH:=Lib.hid (show Sit w w _ from ⟨Below.refl _ _,hh⟩)
 obtain ⟨dF,bT,bS,bf,bG,aS,dw,bR⟩:=s
 have hxk:=hin.1.2.2.2.2.2.1
 have hns:=hin.1.2.2.1
 generalize hres:kP p i h.bD h.xn h.bC h.aL=res
 have HR:=Lib.hid hres
 have dH:=Lib.hid hop
 have vX:=Lib.hid hin
 clear hres hop
 unfold dx
 dsimp only
 go_enter Tryz.func126,Tryz.ntmps126
 go_upto_region 1 with fail
 generalize hW:World.alloc w _=W
 generalize Value.agg #[_,_,_,_,_,_,_,_,_,_,_]=a0
 have HX:Hid (Sit w W (nN w.heap.size h b e ⟨dF,bT,bS,bf,bG,aS,dw,bR⟩ (gT bc p aH aI aC aD i aX ar.len aQ bs bt))):=Lib.hid (by rw [← hW]; exact HH.out.gF rfl _ _ _ _ _ _ _ _ _ _ _ _)
 clear hW HH
 have HP:=Lib.hid (hp.same HX.out.1)
 have ig:=Lib.hid (cZ.same HX.out.1)
 have sP:=Lib.hid (hin.2.2.1.same HX.out.1)
 have kD:=Lib.hid (hat.same HX.out.1)
 have jv:=Lib.hid har
 have HK:Hid (∀w',Below W.heap.size W w'→Holds w' (gT bc p aH aI aC aD i aX ar.len aQ bs bt)):=Lib.hid (fun w' hb=>(HX.out.next hb).2.2.2.2.2.2.2.2.2.2.2.2)
 clear hp cZ hh hin hat har
 have L0: ∀w',Below W.heap.size W w'→w'.cell? ⟨w.heap.size,0,none⟩=some (.int .i64 h.op):=fun w' hb=>(HX.out.next hb).2.1.2
 have L2: ∀w',Below W.heap.size W w'→w'.cell? ⟨w.heap.size,2,none⟩=some (.string h.nm):=fun w' hb=>(HX.out.next hb).2.2.2.1.2
 have L3: ∀w',Below W.heap.size W w'→w'.cell? ⟨w.heap.size,3,none⟩=some (.string h.arg):=fun w' hb=>(HX.out.next hb).2.2.2.2.1.2
 have L5: ∀w',Below W.heap.size W w'→w'.cell? ⟨w.heap.size,5,none⟩=some (.int .i64 h.bD):=fun w' hb=>(HX.out.next hb).2.2.2.2.2.2.1.2
 have L6: ∀w',Below W.heap.size W w'→w'.cell? ⟨w.heap.size,6,none⟩=some (.int .i64 h.xn):=fun w' hb=>(HX.out.next hb).2.2.2.2.2.2.2.1.2
 have L7: ∀w',Below W.heap.size W w'→w'.cell? ⟨w.heap.size,7,none⟩=some (.string h.bC):=fun w' hb=>(HX.out.next hb).2.2.2.2.2.2.2.2.1.2
 have L8: ∀w',Below W.heap.size W w'→w'.cell? ⟨w.heap.size,8,none⟩=some (.slice bS h.aL.len bf):=fun w' hb=>(HX.out.next hb).2.2.2.2.2.2.2.2.2.1.2
 have hB0:Below W.heap.size W W:=Below.refl _ _
 have l0:=L0 W hB0
 have hop:=dH.out
 rcases hop with hop | hop
 ·have g1:(h.op == 1)=false:=by rw [hop]; rfl
  have g2:(h.op == 2)=true:=by rw [hop]; rfl
  have g3:(h.op == 3)=false:=by rw [hop]; rfl
  have g4:(h.op == 4)=false:=by rw [hop]; rfl
  have g5:(h.op == 5)=false:=by rw [hop]; rfl
  have g6:(h.op == 6)=false:=by rw [hop]; rfl
  have g7:(h.op == 7)=false:=by rw [hop]; rfl
  have g8:(h.op == 8)=false:=by rw [hop]; rfl
  have g9:(h.op == 9)=false:=by rw [hop]; rfl
  have g10:(h.op == 10)=false:=by rw [hop]; rfl
  have g11:(h.op == 11)=false:=by rw [hop]; rfl
  have g12:(h.op == 12)=false:=by rw [hop]; rfl
  have g13:(h.op == 13)=false:=by rw [hop]; rfl
  have g14:(h.op == 14)=false:=by rw [hop]; rfl
  have g15:(h.op == 15)=false:=by rw [hop]; rfl
  clear hop
  go_wp2_with fail
  refine (oJ p _ aH aI aC aD i aX ar.len aQ bs bt bc h.bD h.xn h.bC h.aL bS bf hi (HP.out.same hB0) hxk (sP.out.same hB0) (ig.out.same hB0) (HK.out _ hB0)).mono ?_
  rintro e' w1 ⟨rfl,hb⟩
  have hB1:=hB0.trans (hb.mono hB0.size)
  clear hb
  go_wp2_with fail
  go_ret
  exact ⟨bU (by first | exact HR.out | exact HR.out.symm | (rw [← HR.out]; first | rfl | simp_all)),(HX.out.next hB1).1⟩
 ·have g1:(h.op == 1)=false:=by rw [hop]; rfl
  have g2:(h.op == 2)=false:=by rw [hop]; rfl
  have g3:(h.op == 3)=true:=by rw [hop]; rfl
  have g4:(h.op == 4)=false:=by rw [hop]; rfl
  have g5:(h.op == 5)=false:=by rw [hop]; rfl
  have g6:(h.op == 6)=false:=by rw [hop]; rfl
  have g7:(h.op == 7)=false:=by rw [hop]; rfl
  have g8:(h.op == 8)=false:=by rw [hop]; rfl
  have g9:(h.op == 9)=false:=by rw [hop]; rfl
  have g10:(h.op == 10)=false:=by rw [hop]; rfl
  have g11:(h.op == 11)=false:=by rw [hop]; rfl
  have g12:(h.op == 12)=false:=by rw [hop]; rfl
  have g13:(h.op == 13)=false:=by rw [hop]; rfl
  have g14:(h.op == 14)=false:=by rw [hop]; rfl
  have g15:(h.op == 15)=false:=by rw [hop]; rfl
  clear hop
  go_wp2_with fail
  refine (oJ p _ aH aI aC aD i aX ar.len aQ bs bt bc h.bD h.xn h.bC h.aL bS bf hi (HP.out.same hB0) hxk (sP.out.same hB0) (ig.out.same hB0) (HK.out _ hB0)).mono ?_
  rintro e' w1 ⟨rfl,hb⟩
  have hB1:=hB0.trans (hb.mono hB0.size)
  clear hb
  go_wp2_with fail
  go_ret
  exact ⟨bU (by first | exact HR.out | exact HR.out.symm | (rw [← HR.out]; first | rfl | simp_all)),(HX.out.next hB1).1⟩
theorem Vg (h:aV) (b e ar:aN) (s:Sl) (hi:aU i) (hp:p.At w aH aI) (hin:nG w h b e s) (cZ:cO w) (har:ar.len≤maxLen) (hat:ar.At w w.heap.size aX 0) (hh:Holds w (gT bc p aH aI aC aD i aX ar.len aQ bs bt)) (hop:h.op=1):
 Calls Tryz.prog 126 #[.pointer (some ⟨bc,0,none⟩),dx h b e s] w fun e' w'=>e'= .returned (.int .i64 (yY p i h))∧Below w.heap.size w w':=by
 have HH:=Lib.hid (show Sit w w _ from ⟨Below.refl _ _,hh⟩)
 obtain ⟨dF,bT,bS,bf,bG,aS,dw,bR⟩:=s
 have hxk:=hin.1.2.2.2.2.2.1
 have hns:=hin.1.2.2.1
 generalize hres:yY p i h=res
 have HR:=Lib.hid hres
 have dH:=Lib.hid hop
 have vX:=Lib.hid hin
 clear hres hop
 unfold dx
 dsimp only
 go_enter Tryz.func126,Tryz.ntmps126
 go_upto_region 1 with fail
 generalize hW:World.alloc w _=W
 generalize Value.agg #[_,_,_,_,_,_,_,_,_,_,_]=a0
 have HX:Hid (Sit w W (nN w.heap.size h b e ⟨dF,bT,bS,bf,bG,aS,dw,bR⟩ (gT bc p aH aI aC aD i aX ar.len aQ bs bt))):=Lib.hid (by rw [← hW]; exact HH.out.gF rfl _ _ _ _ _ _ _ _ _ _ _ _)
 clear hW HH
 have HP:=Lib.hid (hp.same HX.out.1)
 have ig:=Lib.hid (cZ.same HX.out.1)
 have sP:=Lib.hid (hin.2.2.1.same HX.out.1)
 have kD:=Lib.hid (hat.same HX.out.1)
 have jv:=Lib.hid har
 have HK:Hid (∀w',Below W.heap.size W w'→Holds w' (gT bc p aH aI aC aD i aX ar.len aQ bs bt)):=Lib.hid (fun w' hb=>(HX.out.next hb).2.2.2.2.2.2.2.2.2.2.2.2)
 clear hp cZ hh hin hat har
 have L0: ∀w',Below W.heap.size W w'→w'.cell? ⟨w.heap.size,0,none⟩=some (.int .i64 h.op):=fun w' hb=>(HX.out.next hb).2.1.2
 have L2: ∀w',Below W.heap.size W w'→w'.cell? ⟨w.heap.size,2,none⟩=some (.string h.nm):=fun w' hb=>(HX.out.next hb).2.2.2.1.2
 have L3: ∀w',Below W.heap.size W w'→w'.cell? ⟨w.heap.size,3,none⟩=some (.string h.arg):=fun w' hb=>(HX.out.next hb).2.2.2.2.1.2
 have L5: ∀w',Below W.heap.size W w'→w'.cell? ⟨w.heap.size,5,none⟩=some (.int .i64 h.bD):=fun w' hb=>(HX.out.next hb).2.2.2.2.2.2.1.2
 have L6: ∀w',Below W.heap.size W w'→w'.cell? ⟨w.heap.size,6,none⟩=some (.int .i64 h.xn):=fun w' hb=>(HX.out.next hb).2.2.2.2.2.2.2.1.2
 have L7: ∀w',Below W.heap.size W w'→w'.cell? ⟨w.heap.size,7,none⟩=some (.string h.bC):=fun w' hb=>(HX.out.next hb).2.2.2.2.2.2.2.2.1.2
 have L8: ∀w',Below W.heap.size W w'→w'.cell? ⟨w.heap.size,8,none⟩=some (.slice bS h.aL.len bf):=fun w' hb=>(HX.out.next hb).2.2.2.2.2.2.2.2.2.1.2
 have lA:=(HX.out.2).2.1.2
 have lB:=(HX.out.2).2.2.2.2.1.2
 have lC:=(HX.out.2).2.2.2.2.2.2.2.2.2.1.2
 have lD:=(HX.out.2).2.2.2.2.2.2.2.2.2.2.1.2
 have hB0:Below W.heap.size W W:=Below.refl _ _
 have l0:=L0 W hB0
 have hop:=dH.out
 have g1:(h.op == 1)=true:=by rw [hop]; rfl
 have g2:(h.op == 2)=false:=by rw [hop]; rfl
 have g3:(h.op == 3)=false:=by rw [hop]; rfl
 have g4:(h.op == 4)=false:=by rw [hop]; rfl
 have g5:(h.op == 5)=false:=by rw [hop]; rfl
 have g6:(h.op == 6)=false:=by rw [hop]; rfl
 have g7:(h.op == 7)=false:=by rw [hop]; rfl
 have g8:(h.op == 8)=false:=by rw [hop]; rfl
 have g9:(h.op == 9)=false:=by rw [hop]; rfl
 have g10:(h.op == 10)=false:=by rw [hop]; rfl
 have g11:(h.op == 11)=false:=by rw [hop]; rfl
 have g12:(h.op == 12)=false:=by rw [hop]; rfl
 have g13:(h.op == 13)=false:=by rw [hop]; rfl
 have g14:(h.op == 14)=false:=by rw [hop]; rfl
 have g15:(h.op == 15)=false:=by rw [hop]; rfl
 clear hop
 have l2:=L2 W hB0
 have l3:=L3 W hB0
 go_wp2_with fail
 refine (J5 p _ aH aI aC aD i aX ar.len aQ bs bt bc h b e ⟨dF,bT,bS,bf,bG,aS,dw,bR⟩ hi (HP.out.same hB0) (vX.out.same HX.out.1) (ig.out.same hB0) (HK.out _ hB0)).mono ?_
 rintro e' w1 ⟨rfl,hb⟩
 have hB1:=hB0.trans (hb.mono hB0.size)
 clear hb
 go_wp2_with fail
 go_ret
 exact ⟨bU (by first | exact HR.out | exact HR.out.symm | (rw [← HR.out]; first | rfl | simp_all)),(HX.out.next hB1).1⟩
theorem Ul (h:aV) (b e ar:aN) (s:Sl) (hi:aU i) (hp:p.At w aH aI) (hin:nG w h b e s) (cZ:cO w) (har:ar.len≤maxLen) (hat:ar.At w w.heap.size aX 0) (hh:Holds w (gT bc p aH aI aC aD i aX ar.len aQ bs bt)) (hop:h.op=9∨h.op=10∨h.op=11):
 Calls Tryz.prog 126 #[.pointer (some ⟨bc,0,none⟩),dx h b e s] w fun e' w'=>e'= .returned (.int .i64 (eP [bg (mean p i h.nm) [6],nest ((dY ar [7] || !jR ar (jw p.ds h.nm) [4]) || (h.op == 9 && dY ar [8]))]))∧Below w.heap.size w w':=by
 have HH:=Lib.hid (show Sit w w _ from ⟨Below.refl _ _,hh⟩)
 obtain ⟨dF,bT,bS,bf,bG,aS,dw,bR⟩:=s
 have hxk:=hin.1.2.2.2.2.2.1
 have hns:=hin.1.2.2.1
 generalize hres:eP [bg (mean p i h.nm) [6],nest ((dY ar [7] || !jR ar (jw p.ds h.nm) [4]) || (h.op == 9 && dY ar [8]))]=res
 have HR:=Lib.hid hres
 have dH:=Lib.hid hop
 have vX:=Lib.hid hin
 clear hres hop
 unfold dx
 dsimp only
 go_enter Tryz.func126,Tryz.ntmps126
 go_upto_region 1 with fail
 generalize hW:World.alloc w _=W
 generalize Value.agg #[_,_,_,_,_,_,_,_,_,_,_]=a0
 have HX:Hid (Sit w W (nN w.heap.size h b e ⟨dF,bT,bS,bf,bG,aS,dw,bR⟩ (gT bc p aH aI aC aD i aX ar.len aQ bs bt))):=Lib.hid (by rw [← hW]; exact HH.out.gF rfl _ _ _ _ _ _ _ _ _ _ _ _)
 clear hW HH
 have HP:=Lib.hid (hp.same HX.out.1)
 have ig:=Lib.hid (cZ.same HX.out.1)
 have sP:=Lib.hid (hin.2.2.1.same HX.out.1)
 have kD:=Lib.hid (hat.same HX.out.1)
 have jv:=Lib.hid har
 have HK:Hid (∀w',Below W.heap.size W w'→Holds w' (gT bc p aH aI aC aD i aX ar.len aQ bs bt)):=Lib.hid (fun w' hb=>(HX.out.next hb).2.2.2.2.2.2.2.2.2.2.2.2)
 clear hp cZ hh hin hat har
 have L0: ∀w',Below W.heap.size W w'→w'.cell? ⟨w.heap.size,0,none⟩=some (.int .i64 h.op):=fun w' hb=>(HX.out.next hb).2.1.2
 have L2: ∀w',Below W.heap.size W w'→w'.cell? ⟨w.heap.size,2,none⟩=some (.string h.nm):=fun w' hb=>(HX.out.next hb).2.2.2.1.2
 have L3: ∀w',Below W.heap.size W w'→w'.cell? ⟨w.heap.size,3,none⟩=some (.string h.arg):=fun w' hb=>(HX.out.next hb).2.2.2.2.1.2
 have L5: ∀w',Below W.heap.size W w'→w'.cell? ⟨w.heap.size,5,none⟩=some (.int .i64 h.bD):=fun w' hb=>(HX.out.next hb).2.2.2.2.2.2.1.2
 have L6: ∀w',Below W.heap.size W w'→w'.cell? ⟨w.heap.size,6,none⟩=some (.int .i64 h.xn):=fun w' hb=>(HX.out.next hb).2.2.2.2.2.2.2.1.2
 have L7: ∀w',Below W.heap.size W w'→w'.cell? ⟨w.heap.size,7,none⟩=some (.string h.bC):=fun w' hb=>(HX.out.next hb).2.2.2.2.2.2.2.2.1.2
 have L8: ∀w',Below W.heap.size W w'→w'.cell? ⟨w.heap.size,8,none⟩=some (.slice bS h.aL.len bf):=fun w' hb=>(HX.out.next hb).2.2.2.2.2.2.2.2.2.1.2
 have hB0:Below W.heap.size W W:=Below.refl _ _
 have l0:=L0 W hB0
 have hop:=dH.out
 rcases hop with hop | hop | hop
 ·have g1:(h.op == 1)=false:=by rw [hop]; rfl
  have g2:(h.op == 2)=false:=by rw [hop]; rfl
  have g3:(h.op == 3)=false:=by rw [hop]; rfl
  have g4:(h.op == 4)=false:=by rw [hop]; rfl
  have g5:(h.op == 5)=false:=by rw [hop]; rfl
  have g6:(h.op == 6)=false:=by rw [hop]; rfl
  have g7:(h.op == 7)=false:=by rw [hop]; rfl
  have g8:(h.op == 8)=false:=by rw [hop]; rfl
  have g9:(h.op == 9)=true:=by rw [hop]; rfl
  have g10:(h.op == 10)=false:=by rw [hop]; rfl
  have g11:(h.op == 11)=false:=by rw [hop]; rfl
  have g12:(h.op == 12)=false:=by rw [hop]; rfl
  have g13:(h.op == 13)=false:=by rw [hop]; rfl
  have g14:(h.op == 14)=false:=by rw [hop]; rfl
  have g15:(h.op == 15)=false:=by rw [hop]; rfl
  clear hop
  go_wp2_with fail
  refine (gH p _ aH aI aC aD i aX ar.len aQ bs bt bc h.nm [6] _ 1 hi (by decide) (HP.out.same (hB0.alloc hB0.size _)) (dX _ 6 _) (HK.out _ (hB0.alloc hB0.size _))).mono ?_
  rintro e' w1 ⟨rfl,hb⟩
  have hB1:=(hB0.alloc hB0.size _).trans (hb.mono (hB0.alloc hB0.size _).size)
  clear hb
  go_wp2_with fail
  refine (eX p _ aH aI aC aD i aX aQ bs bt bc ar [7] _ 1 (by decide) (dX _ 7 _) jv.out (kD.out.same (hB1.alloc hB1.size _)) (HK.out _ (hB1.alloc hB1.size _))).mono ?_
  rintro e' w2 ⟨rfl,hb⟩
  have hB2:=(hB1.alloc hB1.size _).trans (hb.mono (hB1.alloc hB1.size _).size)
  clear hb
  cases hq:dY ar [7]
  ·go_wp2_with fail
   refine (tu p _ aH aI aC aD i aX ar.len aQ bs bt bc h.nm (HP.out.same hB2) (HK.out _ hB2)).mono ?_
   rintro e' w3 ⟨rfl,hb⟩
   have hB3:=hB2.trans (hb.mono hB2.size)
   clear hb
   go_wp2_with fail
   refine (ji p _ aH aI aC aD i aX aQ bs bt bc ar (jw p.ds h.nm) [4] _ 1 (by decide) (dX _ 4 _) jv.out (kD.out.same (hB3.alloc hB3.size _)) (HK.out _ (hB3.alloc hB3.size _))).mono ?_
   rintro e' w4 ⟨rfl,hb⟩
   have hB4:=(hB3.alloc hB3.size _).trans (hb.mono (hB3.alloc hB3.size _).size)
   clear hb
   cases hq2:jR ar (jw p.ds h.nm) [4]
   ·go_wp2_with fail
    refine (cK _ _).mono ?_
    rintro e' wn ⟨rfl,rfl⟩
    go_wp2_with fail
    refine (cB [bg (mean p i h.nm) [6],nest true] _ _ 2 (by simp [maxLen]) (dU _ _ _ _)).mono ?_
    rintro e' wf ⟨rfl,rfl⟩
    have qX:=hB4.alloc hB4.size (.cells #[] 0)
    go_wp2_with fail
    go_ret
    exact ⟨bU (by first | exact HR.out | exact HR.out.symm | (rw [← HR.out]; first | rfl | simp_all)),(HX.out.next (hB4.alloc hB4.size _)).1⟩
   ·go_wp2_with fail
    refine (eX p _ aH aI aC aD i aX aQ bs bt bc ar [8] _ 1 (by decide) (dX _ 8 _) jv.out (kD.out.same (hB4.alloc hB4.size _)) (HK.out _ (hB4.alloc hB4.size _))).mono ?_
    rintro e' w5 ⟨rfl,hb⟩
    have ET:=(hB4.alloc hB4.size _).trans (hb.mono (hB4.alloc hB4.size _).size)
    clear hb
    cases hq3:dY ar [8]
    ·go_wp2_with fail
     refine (cK _ _).mono ?_
     rintro e' wn ⟨rfl,rfl⟩
     go_wp2_with fail
     refine (cB [bg (mean p i h.nm) [6],nest false] _ _ 2 (by simp [maxLen]) (dU _ _ _ _)).mono ?_
     rintro e' wf ⟨rfl,rfl⟩
     have qX:=ET.alloc ET.size (.cells #[] 0)
     go_wp2_with fail
     go_ret
     exact ⟨bU (by first | exact HR.out | exact HR.out.symm | (rw [← HR.out]; first | rfl | simp_all)),(HX.out.next (ET.alloc ET.size _)).1⟩
    ·go_wp2_with fail
     refine (cK _ _).mono ?_
     rintro e' wn ⟨rfl,rfl⟩
     go_wp2_with fail
     refine (cB [bg (mean p i h.nm) [6],nest true] _ _ 2 (by simp [maxLen]) (dU _ _ _ _)).mono ?_
     rintro e' wf ⟨rfl,rfl⟩
     have qX:=ET.alloc ET.size (.cells #[] 0)
     go_wp2_with fail
     go_ret
     exact ⟨bU (by first | exact HR.out | exact HR.out.symm | (rw [← HR.out]; first | rfl | simp_all)),(HX.out.next (ET.alloc ET.size _)).1⟩
  ·go_wp2_with fail
   refine (cK _ _).mono ?_
   rintro e' wn ⟨rfl,rfl⟩
   go_wp2_with fail
   refine (cB [bg (mean p i h.nm) [6],nest true] _ _ 2 (by simp [maxLen]) (dU _ _ _ _)).mono ?_
   rintro e' wf ⟨rfl,rfl⟩
   have qX:=hB2.alloc hB2.size (.cells #[] 0)
   go_wp2_with fail
   go_ret
   exact ⟨bU (by first | exact HR.out | exact HR.out.symm | (rw [← HR.out]; first | rfl | simp_all)),(HX.out.next (hB2.alloc hB2.size _)).1⟩
 ·have g1:(h.op == 1)=false:=by rw [hop]; rfl
  have g2:(h.op == 2)=false:=by rw [hop]; rfl
  have g3:(h.op == 3)=false:=by rw [hop]; rfl
  have g4:(h.op == 4)=false:=by rw [hop]; rfl
  have g5:(h.op == 5)=false:=by rw [hop]; rfl
  have g6:(h.op == 6)=false:=by rw [hop]; rfl
  have g7:(h.op == 7)=false:=by rw [hop]; rfl
  have g8:(h.op == 8)=false:=by rw [hop]; rfl
  have g9:(h.op == 9)=false:=by rw [hop]; rfl
  have g10:(h.op == 10)=true:=by rw [hop]; rfl
  have g11:(h.op == 11)=false:=by rw [hop]; rfl
  have g12:(h.op == 12)=false:=by rw [hop]; rfl
  have g13:(h.op == 13)=false:=by rw [hop]; rfl
  have g14:(h.op == 14)=false:=by rw [hop]; rfl
  have g15:(h.op == 15)=false:=by rw [hop]; rfl
  clear hop
  go_wp2_with fail
  refine (gH p _ aH aI aC aD i aX ar.len aQ bs bt bc h.nm [6] _ 1 hi (by decide) (HP.out.same (hB0.alloc hB0.size _)) (dX _ 6 _) (HK.out _ (hB0.alloc hB0.size _))).mono ?_
  rintro e' w1 ⟨rfl,hb⟩
  have hB1:=(hB0.alloc hB0.size _).trans (hb.mono (hB0.alloc hB0.size _).size)
  clear hb
  go_wp2_with fail
  refine (eX p _ aH aI aC aD i aX aQ bs bt bc ar [7] _ 1 (by decide) (dX _ 7 _) jv.out (kD.out.same (hB1.alloc hB1.size _)) (HK.out _ (hB1.alloc hB1.size _))).mono ?_
  rintro e' w2 ⟨rfl,hb⟩
  have hB2:=(hB1.alloc hB1.size _).trans (hb.mono (hB1.alloc hB1.size _).size)
  clear hb
  cases hq:dY ar [7]
  ·go_wp2_with fail
   refine (tu p _ aH aI aC aD i aX ar.len aQ bs bt bc h.nm (HP.out.same hB2) (HK.out _ hB2)).mono ?_
   rintro e' w3 ⟨rfl,hb⟩
   have hB3:=hB2.trans (hb.mono hB2.size)
   clear hb
   go_wp2_with fail
   refine (ji p _ aH aI aC aD i aX aQ bs bt bc ar (jw p.ds h.nm) [4] _ 1 (by decide) (dX _ 4 _) jv.out (kD.out.same (hB3.alloc hB3.size _)) (HK.out _ (hB3.alloc hB3.size _))).mono ?_
   rintro e' w4 ⟨rfl,hb⟩
   have hB4:=(hB3.alloc hB3.size _).trans (hb.mono (hB3.alloc hB3.size _).size)
   clear hb
   cases hq2:jR ar (jw p.ds h.nm) [4]
   ·go_wp2_with fail
    refine (cK _ _).mono ?_
    rintro e' wn ⟨rfl,rfl⟩
    go_wp2_with fail
    refine (cB [bg (mean p i h.nm) [6],nest true] _ _ 2 (by simp [maxLen]) (dU _ _ _ _)).mono ?_
    rintro e' wf ⟨rfl,rfl⟩
    have qX:=hB4.alloc hB4.size (.cells #[] 0)
    go_wp2_with fail
    go_ret
    exact ⟨bU (by first | exact HR.out | exact HR.out.symm | (rw [← HR.out]; first | rfl | simp_all)),(HX.out.next (hB4.alloc hB4.size _)).1⟩
   ·go_wp2_with fail
    refine (cK _ _).mono ?_
    rintro e' wn ⟨rfl,rfl⟩
    go_wp2_with fail
    refine (cB [bg (mean p i h.nm) [6],nest false] _ _ 2 (by simp [maxLen]) (dU _ _ _ _)).mono ?_
    rintro e' wf ⟨rfl,rfl⟩
    have qX:=hB4.alloc hB4.size (.cells #[] 0)
    go_wp2_with fail
    go_ret
    exact ⟨bU (by first | exact HR.out | exact HR.out.symm | (rw [← HR.out]; first | rfl | simp_all)),(HX.out.next (hB4.alloc hB4.size _)).1⟩
  ·go_wp2_with fail
   refine (cK _ _).mono ?_
   rintro e' wn ⟨rfl,rfl⟩
   go_wp2_with fail
   refine (cB [bg (mean p i h.nm) [6],nest true] _ _ 2 (by simp [maxLen]) (dU _ _ _ _)).mono ?_
   rintro e' wf ⟨rfl,rfl⟩
   have qX:=hB2.alloc hB2.size (.cells #[] 0)
   go_wp2_with fail
   go_ret
   exact ⟨bU (by first | exact HR.out | exact HR.out.symm | (rw [← HR.out]; first | rfl | simp_all)),(HX.out.next (hB2.alloc hB2.size _)).1⟩
 ·have g1:(h.op == 1)=false:=by rw [hop]; rfl
  have g2:(h.op == 2)=false:=by rw [hop]; rfl
  have g3:(h.op == 3)=false:=by rw [hop]; rfl
  have g4:(h.op == 4)=false:=by rw [hop]; rfl
  have g5:(h.op == 5)=false:=by rw [hop]; rfl
  have g6:(h.op == 6)=false:=by rw [hop]; rfl
  have g7:(h.op == 7)=false:=by rw [hop]; rfl
  have g8:(h.op == 8)=false:=by rw [hop]; rfl
  have g9:(h.op == 9)=false:=by rw [hop]; rfl
  have g10:(h.op == 10)=false:=by rw [hop]; rfl
  have g11:(h.op == 11)=true:=by rw [hop]; rfl
  have g12:(h.op == 12)=false:=by rw [hop]; rfl
  have g13:(h.op == 13)=false:=by rw [hop]; rfl
  have g14:(h.op == 14)=false:=by rw [hop]; rfl
  have g15:(h.op == 15)=false:=by rw [hop]; rfl
  clear hop
  go_wp2_with fail
  refine (gH p _ aH aI aC aD i aX ar.len aQ bs bt bc h.nm [6] _ 1 hi (by decide) (HP.out.same (hB0.alloc hB0.size _)) (dX _ 6 _) (HK.out _ (hB0.alloc hB0.size _))).mono ?_
  rintro e' w1 ⟨rfl,hb⟩
  have hB1:=(hB0.alloc hB0.size _).trans (hb.mono (hB0.alloc hB0.size _).size)
  clear hb
  go_wp2_with fail
  refine (eX p _ aH aI aC aD i aX aQ bs bt bc ar [7] _ 1 (by decide) (dX _ 7 _) jv.out (kD.out.same (hB1.alloc hB1.size _)) (HK.out _ (hB1.alloc hB1.size _))).mono ?_
  rintro e' w2 ⟨rfl,hb⟩
  have hB2:=(hB1.alloc hB1.size _).trans (hb.mono (hB1.alloc hB1.size _).size)
  clear hb
  cases hq:dY ar [7]
  ·go_wp2_with fail
   refine (tu p _ aH aI aC aD i aX ar.len aQ bs bt bc h.nm (HP.out.same hB2) (HK.out _ hB2)).mono ?_
   rintro e' w3 ⟨rfl,hb⟩
   have hB3:=hB2.trans (hb.mono hB2.size)
   clear hb
   go_wp2_with fail
   refine (ji p _ aH aI aC aD i aX aQ bs bt bc ar (jw p.ds h.nm) [4] _ 1 (by decide) (dX _ 4 _) jv.out (kD.out.same (hB3.alloc hB3.size _)) (HK.out _ (hB3.alloc hB3.size _))).mono ?_
   rintro e' w4 ⟨rfl,hb⟩
   have hB4:=(hB3.alloc hB3.size _).trans (hb.mono (hB3.alloc hB3.size _).size)
   clear hb
   cases hq2:jR ar (jw p.ds h.nm) [4]
   ·go_wp2_with fail
    refine (cK _ _).mono ?_
    rintro e' wn ⟨rfl,rfl⟩
    go_wp2_with fail
    refine (cB [bg (mean p i h.nm) [6],nest true] _ _ 2 (by simp [maxLen]) (dU _ _ _ _)).mono ?_
    rintro e' wf ⟨rfl,rfl⟩
    have qX:=hB4.alloc hB4.size (.cells #[] 0)
    go_wp2_with fail
    go_ret
    exact ⟨bU (by first | exact HR.out | exact HR.out.symm | (rw [← HR.out]; first | rfl | simp_all)),(HX.out.next (hB4.alloc hB4.size _)).1⟩
   ·go_wp2_with fail
    refine (cK _ _).mono ?_
    rintro e' wn ⟨rfl,rfl⟩
    go_wp2_with fail
    refine (cB [bg (mean p i h.nm) [6],nest false] _ _ 2 (by simp [maxLen]) (dU _ _ _ _)).mono ?_
    rintro e' wf ⟨rfl,rfl⟩
    have qX:=hB4.alloc hB4.size (.cells #[] 0)
    go_wp2_with fail
    go_ret
    exact ⟨bU (by first | exact HR.out | exact HR.out.symm | (rw [← HR.out]; first | rfl | simp_all)),(HX.out.next (hB4.alloc hB4.size _)).1⟩
  ·go_wp2_with fail
   refine (cK _ _).mono ?_
   rintro e' wn ⟨rfl,rfl⟩
   go_wp2_with fail
   refine (cB [bg (mean p i h.nm) [6],nest true] _ _ 2 (by simp [maxLen]) (dU _ _ _ _)).mono ?_
   rintro e' wf ⟨rfl,rfl⟩
   have qX:=hB2.alloc hB2.size (.cells #[] 0)
   go_wp2_with fail
   go_ret
   exact ⟨bU (by first | exact HR.out | exact HR.out.symm | (rw [← HR.out]; first | rfl | simp_all)),(HX.out.next (hB2.alloc hB2.size _)).1⟩
end
end Go.Proofs.YtehnipchbmjlhaaGreatDoor
end
