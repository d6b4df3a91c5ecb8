/-
  Contract of the checker's statement at an operator that is none.
  Contract of the checker's statement, operator by operator.
-/
import Derived.Test.YtnknfoibmgphnaaDoorGMF
section
set_option linter.unusedSimpArgs false
set_option linter.unusedVariables false
namespace Go.Proofs.YtnknfoibmgphnaaDoor
open Go.RowKit
open Md
section
variable (p:Pr) (w:World) (aC aF:Option Addr) (aA av:Nat) (i:Int) (aJ:Option Addr) (aI bs bt bc:Nat)
set_option maxHeartbeats 4000000 in
set_option maxRecDepth 100000 in
theorem Mc (h:eH) (b e ar:aR) (s:Sl) (hi:aX i) (hp:p.At w aC aF) (hin:jE w h b e s) (dL:dZ w) (har:ar.len≤maxLen) (hat:ar.At w w.heap.size aJ 0) (hh:Holds w (iU bc p aC aF aA av i aJ ar.len aI bs bt)) (hop:h.op < 1∨15 < h.op):
 Calls Tryd.prog 43 #[.pointer (some ⟨bc,0,none⟩),aY h b e s] w fun e' w'=>e'= .returned (.int .i64 (0))∧Below w.heap.size w w':=by
 have HH:=Lib.hid (show Sit w w _ from ⟨Below.refl _ _,hh⟩)
 obtain ⟨fU,eG,dW,cB,bg,aT,eY,dP⟩:=s
 have hxk:=hin.1.2.2.2.2.2.1
 have hns:=hin.1.2.2.1
 generalize hres:0=res
 have HR:=Lib.hid hres
 have iG:=Lib.hid hop
 have jS:=Lib.hid hin
 clear hres hop
 unfold aY
 dsimp only
 go_enter Tryd.func43,Tryd.ntmps43
 go_upto_region 1 with fail
 generalize hW:World.alloc w _=W
 generalize Value.agg #[_,_,_,_,_,_,_,_,_,_,_]=a0
 have HX:Hid (Sit w W (iT w.heap.size h b e ⟨fU,eG,dW,cB,bg,aT,eY,dP⟩ (iU bc p aC aF aA av i aJ ar.len aI bs bt))):=Lib.hid (by rw [← hW]; exact HH.out.gZ rfl _ _ _ _ _ _ _ _ _ _ _ _)
 clear hW HH
 have HP:=Lib.hid (hp.same HX.out.1)
 have iW:=Lib.hid (dL.same HX.out.1)
 have rG:=Lib.hid (hin.2.2.1.same HX.out.1)
 have dG:=Lib.hid (hat.same HX.out.1)
 have dw:=Lib.hid har
 have HK:Hid (∀w',Below W.heap.size W w'→Holds w' (iU bc p aC aF aA av i aJ ar.len aI bs bt)):=Lib.hid (fun w' hb=>(HX.out.next hb).2.2.2.2.2.2.2.2.2.2.2.2)
 clear hp dL hh hin hat har
 have L0: ∀w',Below W.heap.size W w'→w'.cell? ⟨w.heap.size,0,none⟩=some (.int .i64 h.op):=fun w' hb=>(HX.out.next hb).2.1.2
 have L2: ∀w',Below W.heap.size W w'→w'.cell? ⟨w.heap.size,2,none⟩=some (.string h.nm):=fun w' hb=>(HX.out.next hb).2.2.2.1.2
 have L3: ∀w',Below W.heap.size W w'→w'.cell? ⟨w.heap.size,3,none⟩=some (.string h.arg):=fun w' hb=>(HX.out.next hb).2.2.2.2.1.2
 have L5: ∀w',Below W.heap.size W w'→w'.cell? ⟨w.heap.size,5,none⟩=some (.int .i64 h.dU):=fun w' hb=>(HX.out.next hb).2.2.2.2.2.2.1.2
 have L6: ∀w',Below W.heap.size W w'→w'.cell? ⟨w.heap.size,6,none⟩=some (.int .i64 h.xn):=fun w' hb=>(HX.out.next hb).2.2.2.2.2.2.2.1.2
 have L7: ∀w',Below W.heap.size W w'→w'.cell? ⟨w.heap.size,7,none⟩=some (.string h.dV):=fun w' hb=>(HX.out.next hb).2.2.2.2.2.2.2.2.1.2
 have L8: ∀w',Below W.heap.size W w'→w'.cell? ⟨w.heap.size,8,none⟩=some (.slice dW h.bq.len cB):=fun w' hb=>(HX.out.next hb).2.2.2.2.2.2.2.2.2.1.2
 have hB0:Below W.heap.size W W:=Below.refl _ _
 have l0:=L0 W hB0
 have hop:=iG.out
 have g1:(h.op == 1)=false:=by rw [beq_eq_false_iff_ne]; omega
 have g2:(h.op == 2)=false:=by rw [beq_eq_false_iff_ne]; omega
 have g3:(h.op == 3)=false:=by rw [beq_eq_false_iff_ne]; omega
 have g4:(h.op == 4)=false:=by rw [beq_eq_false_iff_ne]; omega
 have g5:(h.op == 5)=false:=by rw [beq_eq_false_iff_ne]; omega
 have g6:(h.op == 6)=false:=by rw [beq_eq_false_iff_ne]; omega
 have g7:(h.op == 7)=false:=by rw [beq_eq_false_iff_ne]; omega
 have g8:(h.op == 8)=false:=by rw [beq_eq_false_iff_ne]; omega
 have g9:(h.op == 9)=false:=by rw [beq_eq_false_iff_ne]; omega
 have g10:(h.op == 10)=false:=by rw [beq_eq_false_iff_ne]; omega
 have g11:(h.op == 11)=false:=by rw [beq_eq_false_iff_ne]; omega
 have g12:(h.op == 12)=false:=by rw [beq_eq_false_iff_ne]; omega
 have g13:(h.op == 13)=false:=by rw [beq_eq_false_iff_ne]; omega
 have g14:(h.op == 14)=false:=by rw [beq_eq_false_iff_ne]; omega
 have g15:(h.op == 15)=false:=by rw [beq_eq_false_iff_ne]; omega
 clear hop
 go_wp2_with fail
 go_ret
 exact ⟨rfl,HX.out.1⟩
end
end Go.Proofs.YtnknfoibmgphnaaDoor
end
section
set_option linter.unusedSimpArgs false
set_option linter.unusedVariables false
namespace Go.Proofs.YtnknfoibmgphnaaDoor
open Go.RowKit
open Md
section
variable (p:Pr) (w:World) (aC aF:Option Addr) (aA av:Nat) (i:Int) (aJ:Option Addr) (aI bs bt bc:Nat)
set_option maxHeartbeats 4000000 in
set_option maxRecDepth 100000 in
theorem MS (h:eH) (b e ar:aR) (s:Sl) (hi:aX i) (hp:p.At w aC aF) (hin:jE w h b e s) (dL:dZ w) (har:ar.len≤maxLen) (hat:ar.At w w.heap.size aJ 0) (hh:Holds w (iU bc p aC aF aA av i aJ ar.len aI bs bt)) (hop:h.op=4):
 Calls Tryd.prog 43 #[.pointer (some ⟨bc,0,none⟩),aY h b e s] w fun e' w'=>e'= .returned (.int .i64 (dR [bC (mean p i h.nm) [4],nest (dB ar [7] || kI ar h.nm [4])]))∧Below w.heap.size w w':=by
 have HH:=Lib.hid (show Sit w w _ from ⟨Below.refl _ _,hh⟩)
 obtain ⟨fU,eG,dW,cB,bg,aT,eY,dP⟩:=s
 have hxk:=hin.1.2.2.2.2.2.1
 have hns:=hin.1.2.2.1
 generalize hres:dR [bC (mean p i h.nm) [4],nest (dB ar [7] || kI ar h.nm [4])]=res
 have HR:=Lib.hid hres
 have iG:=Lib.hid hop
 have jS:=Lib.hid hin
 clear hres hop
 unfold aY
 dsimp only
 go_enter Tryd.func43,Tryd.ntmps43
 go_upto_region 1 with fail
 generalize hW:World.alloc w _=W
 generalize Value.agg #[_,_,_,_,_,_,_,_,_,_,_]=a0
 have HX:Hid (Sit w W (iT w.heap.size h b e ⟨fU,eG,dW,cB,bg,aT,eY,dP⟩ (iU bc p aC aF aA av i aJ ar.len aI bs bt))):=Lib.hid (by rw [← hW]; exact HH.out.gZ rfl _ _ _ _ _ _ _ _ _ _ _ _)
 clear hW HH
 have HP:=Lib.hid (hp.same HX.out.1)
 have iW:=Lib.hid (dL.same HX.out.1)
 have rG:=Lib.hid (hin.2.2.1.same HX.out.1)
 have dG:=Lib.hid (hat.same HX.out.1)
 have dw:=Lib.hid har
 have HK:Hid (∀w',Below W.heap.size W w'→Holds w' (iU bc p aC aF aA av i aJ ar.len aI bs bt)):=Lib.hid (fun w' hb=>(HX.out.next hb).2.2.2.2.2.2.2.2.2.2.2.2)
 clear hp dL hh hin hat har
 have L0: ∀w',Below W.heap.size W w'→w'.cell? ⟨w.heap.size,0,none⟩=some (.int .i64 h.op):=fun w' hb=>(HX.out.next hb).2.1.2
 have L2: ∀w',Below W.heap.size W w'→w'.cell? ⟨w.heap.size,2,none⟩=some (.string h.nm):=fun w' hb=>(HX.out.next hb).2.2.2.1.2
 have L3: ∀w',Below W.heap.size W w'→w'.cell? ⟨w.heap.size,3,none⟩=some (.string h.arg):=fun w' hb=>(HX.out.next hb).2.2.2.2.1.2
 have L5: ∀w',Below W.heap.size W w'→w'.cell? ⟨w.heap.size,5,none⟩=some (.int .i64 h.dU):=fun w' hb=>(HX.out.next hb).2.2.2.2.2.2.1.2
 have L6: ∀w',Below W.heap.size W w'→w'.cell? ⟨w.heap.size,6,none⟩=some (.int .i64 h.xn):=fun w' hb=>(HX.out.next hb).2.2.2.2.2.2.2.1.2
 have L7: ∀w',Below W.heap.size W w'→w'.cell? ⟨w.heap.size,7,none⟩=some (.string h.dV):=fun w' hb=>(HX.out.next hb).2.2.2.2.2.2.2.2.1.2
 have L8: ∀w',Below W.heap.size W w'→w'.cell? ⟨w.heap.size,8,none⟩=some (.slice dW h.bq.len cB):=fun w' hb=>(HX.out.next hb).2.2.2.2.2.2.2.2.2.1.2
 have hB0:Below W.heap.size W W:=Below.refl _ _
 have l0:=L0 W hB0
 have hop:=iG.out
 have g1:(h.op == 1)=false:=by rw [hop]; rfl
 have g2:(h.op == 2)=false:=by rw [hop]; rfl
 have g3:(h.op == 3)=false:=by rw [hop]; rfl
 have g4:(h.op == 4)=true:=by rw [hop]; rfl
 have g5:(h.op == 5)=false:=by rw [hop]; rfl
 have g6:(h.op == 6)=false:=by rw [hop]; rfl
 have g7:(h.op == 7)=false:=by rw [hop]; rfl
 have g8:(h.op == 8)=false:=by rw [hop]; rfl
 have g9:(h.op == 9)=false:=by rw [hop]; rfl
 have g10:(h.op == 10)=false:=by rw [hop]; rfl
 have g11:(h.op == 11)=false:=by rw [hop]; rfl
 have g12:(h.op == 12)=false:=by rw [hop]; rfl
 have g13:(h.op == 13)=false:=by rw [hop]; rfl
 have g14:(h.op == 14)=false:=by rw [hop]; rfl
 have g15:(h.op == 15)=false:=by rw [hop]; rfl
 clear hop
 go_wp2_with fail
 refine (iC p _ aC aF aA av i aJ ar.len aI bs bt bc h.nm [4] _ 1 hi (by decide) (HP.out.same (hB0.alloc hB0.size _)) (fH _ 4 _) (HK.out _ (hB0.alloc hB0.size _))).mono ?_
 rintro e' w1 ⟨rfl,hb⟩
 have hB1:=(hB0.alloc hB0.size _).trans (hb.mono (hB0.alloc hB0.size _).size)
 clear hb
 go_wp2_with fail
 refine (gI p _ aC aF aA av i aJ aI bs bt bc ar [7] _ 1 (by decide) (fH _ 7 _) dw.out (dG.out.same (hB1.alloc hB1.size _)) (HK.out _ (hB1.alloc hB1.size _))).mono ?_
 rintro e' w2 ⟨rfl,hb⟩
 have hB2:=(hB1.alloc hB1.size _).trans (hb.mono (hB1.alloc hB1.size _).size)
 clear hb
 cases hq:dB ar [7]
 ·go_wp2_with fail
  refine (jW p _ aC aF aA av i aJ aI bs bt bc ar h.nm [4] _ 1 (by decide) (fH _ 4 _) dw.out (dG.out.same (hB2.alloc hB2.size _)) (HK.out _ (hB2.alloc hB2.size _))).mono ?_
  rintro e' w3 ⟨rfl,hb⟩
  have hB3:=(hB2.alloc hB2.size _).trans (hb.mono (hB2.alloc hB2.size _).size)
  clear hb
  cases hq2:kI ar h.nm [4]
  ·go_wp2_with fail
   refine (dK _ _).mono ?_
   rintro e' wn ⟨rfl,rfl⟩
   go_wp2_with fail
   refine (dJ [bC (mean p i h.nm) [4],nest false] _ _ 2 (by simp [maxLen]) (eU _ _ _ _)).mono ?_
   rintro e' wf ⟨rfl,rfl⟩
   have qN:=hB3.alloc hB3.size (.cells #[] 0)
   go_wp2_with fail
   go_ret
   exact ⟨aS (by first | exact HR.out | exact HR.out.symm | (rw [← HR.out]; first | rfl | simp_all)),(HX.out.next (hB3.alloc hB3.size _)).1⟩
  ·go_wp2_with fail
   refine (dK _ _).mono ?_
   rintro e' wn ⟨rfl,rfl⟩
   go_wp2_with fail
   refine (dJ [bC (mean p i h.nm) [4],nest true] _ _ 2 (by simp [maxLen]) (eU _ _ _ _)).mono ?_
   rintro e' wf ⟨rfl,rfl⟩
   have qN:=hB3.alloc hB3.size (.cells #[] 0)
   go_wp2_with fail
   go_ret
   exact ⟨aS (by first | exact HR.out | exact HR.out.symm | (rw [← HR.out]; first | rfl | simp_all)),(HX.out.next (hB3.alloc hB3.size _)).1⟩
 ·go_wp2_with fail
  refine (dK _ _).mono ?_
  rintro e' wn ⟨rfl,rfl⟩
  go_wp2_with fail
  refine (dJ [bC (mean p i h.nm) [4],nest true] _ _ 2 (by simp [maxLen]) (eU _ _ _ _)).mono ?_
  rintro e' wf ⟨rfl,rfl⟩
  have qN:=hB2.alloc hB2.size (.cells #[] 0)
  go_wp2_with fail
  go_ret
  exact ⟨aS (by first | exact HR.out | exact HR.out.symm | (rw [← HR.out]; first | rfl | simp_all)),(HX.out.next (hB2.alloc hB2.size _)).1⟩
set_option maxHeartbeats 4000000 in
set_option maxRecDepth 100000 in
theorem Mw (h:eH) (b e ar:aR) (s:Sl) (hi:aX i) (hp:p.At w aC aF) (hin:jE w h b e s) (dL:dZ w) (har:ar.len≤maxLen) (hat:ar.At w w.heap.size aJ 0) (hh:Holds w (iU bc p aC aF aA av i aJ ar.len aI bs bt)) (hop:h.op=7):
 Calls Tryd.prog 43 #[.pointer (some ⟨bc,0,none⟩),aY h b e s] w fun e' w'=>e'= .returned (.int .i64 (nest (dB ar [7])))∧Below w.heap.size w w':=by
 have HH:=Lib.hid (show Sit w w _ from ⟨Below.refl _ _,hh⟩)
 obtain ⟨fU,eG,dW,cB,bg,aT,eY,dP⟩:=s
 have hxk:=hin.1.2.2.2.2.2.1
 have hns:=hin.1.2.2.1
 generalize hres:nest (dB ar [7])=res
 have HR:=Lib.hid hres
 have iG:=Lib.hid hop
 have jS:=Lib.hid hin
 clear hres hop
 unfold aY
 dsimp only
 go_enter Tryd.func43,Tryd.ntmps43
 go_upto_region 1 with fail
 generalize hW:World.alloc w _=W
 generalize Value.agg #[_,_,_,_,_,_,_,_,_,_,_]=a0
 have HX:Hid (Sit w W (iT w.heap.size h b e ⟨fU,eG,dW,cB,bg,aT,eY,dP⟩ (iU bc p aC aF aA av i aJ ar.len aI bs bt))):=Lib.hid (by rw [← hW]; exact HH.out.gZ rfl _ _ _ _ _ _ _ _ _ _ _ _)
 clear hW HH
 have HP:=Lib.hid (hp.same HX.out.1)
 have iW:=Lib.hid (dL.same HX.out.1)
 have rG:=Lib.hid (hin.2.2.1.same HX.out.1)
 have dG:=Lib.hid (hat.same HX.out.1)
 have dw:=Lib.hid har
 have HK:Hid (∀w',Below W.heap.size W w'→Holds w' (iU bc p aC aF aA av i aJ ar.len aI bs bt)):=Lib.hid (fun w' hb=>(HX.out.next hb).2.2.2.2.2.2.2.2.2.2.2.2)
 clear hp dL hh hin hat har
 have L0: ∀w',Below W.heap.size W w'→w'.cell? ⟨w.heap.size,0,none⟩=some (.int .i64 h.op):=fun w' hb=>(HX.out.next hb).2.1.2
 have L2: ∀w',Below W.heap.size W w'→w'.cell? ⟨w.heap.size,2,none⟩=some (.string h.nm):=fun w' hb=>(HX.out.next hb).2.2.2.1.2
 have L3: ∀w',Below W.heap.size W w'→w'.cell? ⟨w.heap.size,3,none⟩=some (.string h.arg):=fun w' hb=>(HX.out.next hb).2.2.2.2.1.2
 have L5: ∀w',Below W.heap.size W w'→w'.cell? ⟨w.heap.size,5,none⟩=some (.int .i64 h.dU):=fun w' hb=>(HX.out.next hb).2.2.2.2.2.2.1.2
 have L6: ∀w',Below W.heap.size W w'→w'.cell? ⟨w.heap.size,6,none⟩=some (.int .i64 h.xn):=fun w' hb=>(HX.out.next hb).2.2.2.2.2.2.2.1.2
 have L7: ∀w',Below W.heap.size W w'→w'.cell? ⟨w.heap.size,7,none⟩=some (.string h.dV):=fun w' hb=>(HX.out.next hb).2.2.2.2.2.2.2.2.1.2
 have L8: ∀w',Below W.heap.size W w'→w'.cell? ⟨w.heap.size,8,none⟩=some (.slice dW h.bq.len cB):=fun w' hb=>(HX.out.next hb).2.2.2.2.2.2.2.2.2.1.2
 have hB0:Below W.heap.size W W:=Below.refl _ _
 have l0:=L0 W hB0
 have hop:=iG.out
 have g1:(h.op == 1)=false:=by rw [hop]; rfl
 have g2:(h.op == 2)=false:=by rw [hop]; rfl
 have g3:(h.op == 3)=false:=by rw [hop]; rfl
 have g4:(h.op == 4)=false:=by rw [hop]; rfl
 have g5:(h.op == 5)=false:=by rw [hop]; rfl
 have g6:(h.op == 6)=false:=by rw [hop]; rfl
 have g7:(h.op == 7)=true:=by rw [hop]; rfl
 have g8:(h.op == 8)=false:=by rw [hop]; rfl
 have g9:(h.op == 9)=false:=by rw [hop]; rfl
 have g10:(h.op == 10)=false:=by rw [hop]; rfl
 have g11:(h.op == 11)=false:=by rw [hop]; rfl
 have g12:(h.op == 12)=false:=by rw [hop]; rfl
 have g13:(h.op == 13)=false:=by rw [hop]; rfl
 have g14:(h.op == 14)=false:=by rw [hop]; rfl
 have g15:(h.op == 15)=false:=by rw [hop]; rfl
 clear hop
 go_wp2_with fail
 refine (gI p _ aC aF aA av i aJ aI bs bt bc ar [7] _ 1 (by decide) (fH _ 7 _) dw.out (dG.out.same (hB0.alloc hB0.size _)) (HK.out _ (hB0.alloc hB0.size _))).mono ?_
 rintro e' w1 ⟨rfl,hb⟩
 have hB1:=(hB0.alloc hB0.size _).trans (hb.mono (hB0.alloc hB0.size _).size)
 clear hb
 go_wp2_with fail
 refine (dK _ _).mono ?_
 rintro e' wn ⟨rfl,rfl⟩
 go_wp2_with fail
 go_ret
 exact ⟨aS (by first | exact HR.out | exact HR.out.symm | (rw [← HR.out]; first | rfl | simp_all)),(HX.out.next hB1).1⟩
set_option maxHeartbeats 4000000 in
set_option maxRecDepth 100000 in
theorem Mr (h:eH) (b e ar:aR) (s:Sl) (hi:aX i) (hp:p.At w aC aF) (hin:jE w h b e s) (dL:dZ w) (har:ar.len≤maxLen) (hat:ar.At w w.heap.size aJ 0) (hh:Holds w (iU bc p aC aF aA av i aJ ar.len aI bs bt)) (hop:h.op=8):
 Calls Tryd.prog 43 #[.pointer (some ⟨bc,0,none⟩),aY h b e s] w fun e' w'=>e'= .returned (.int .i64 (nest (dB ar [7,8])))∧Below w.heap.size w w':=by
 have HH:=Lib.hid (show Sit w w _ from ⟨Below.refl _ _,hh⟩)
 obtain ⟨fU,eG,dW,cB,bg,aT,eY,dP⟩:=s
 have hxk:=hin.1.2.2.2.2.2.1
 have hns:=hin.1.2.2.1
 generalize hres:nest (dB ar [7,8])=res
 have HR:=Lib.hid hres
 have iG:=Lib.hid hop
 have jS:=Lib.hid hin
 clear hres hop
 unfold aY
 dsimp only
 go_enter Tryd.func43,Tryd.ntmps43
 go_upto_region 1 with fail
 generalize hW:World.alloc w _=W
 generalize Value.agg #[_,_,_,_,_,_,_,_,_,_,_]=a0
 have HX:Hid (Sit w W (iT w.heap.size h b e ⟨fU,eG,dW,cB,bg,aT,eY,dP⟩ (iU bc p aC aF aA av i aJ ar.len aI bs bt))):=Lib.hid (by rw [← hW]; exact HH.out.gZ rfl _ _ _ _ _ _ _ _ _ _ _ _)
 clear hW HH
 have HP:=Lib.hid (hp.same HX.out.1)
 have iW:=Lib.hid (dL.same HX.out.1)
 have rG:=Lib.hid (hin.2.2.1.same HX.out.1)
 have dG:=Lib.hid (hat.same HX.out.1)
 have dw:=Lib.hid har
 have HK:Hid (∀w',Below W.heap.size W w'→Holds w' (iU bc p aC aF aA av i aJ ar.len aI bs bt)):=Lib.hid (fun w' hb=>(HX.out.next hb).2.2.2.2.2.2.2.2.2.2.2.2)
 clear hp dL hh hin hat har
 have L0: ∀w',Below W.heap.size W w'→w'.cell? ⟨w.heap.size,0,none⟩=some (.int .i64 h.op):=fun w' hb=>(HX.out.next hb).2.1.2
 have L2: ∀w',Below W.heap.size W w'→w'.cell? ⟨w.heap.size,2,none⟩=some (.string h.nm):=fun w' hb=>(HX.out.next hb).2.2.2.1.2
 have L3: ∀w',Below W.heap.size W w'→w'.cell? ⟨w.heap.size,3,none⟩=some (.string h.arg):=fun w' hb=>(HX.out.next hb).2.2.2.2.1.2
 have L5: ∀w',Below W.heap.size W w'→w'.cell? ⟨w.heap.size,5,none⟩=some (.int .i64 h.dU):=fun w' hb=>(HX.out.next hb).2.2.2.2.2.2.1.2
 have L6: ∀w',Below W.heap.size W w'→w'.cell? ⟨w.heap.size,6,none⟩=some (.int .i64 h.xn):=fun w' hb=>(HX.out.next hb).2.2.2.2.2.2.2.1.2
 have L7: ∀w',Below W.heap.size W w'→w'.cell? ⟨w.heap.size,7,none⟩=some (.string h.dV):=fun w' hb=>(HX.out.next hb).2.2.2.2.2.2.2.2.1.2
 have L8: ∀w',Below W.heap.size W w'→w'.cell? ⟨w.heap.size,8,none⟩=some (.slice dW h.bq.len cB):=fun w' hb=>(HX.out.next hb).2.2.2.2.2.2.2.2.2.1.2
 have hB0:Below W.heap.size W W:=Below.refl _ _
 have l0:=L0 W hB0
 have hop:=iG.out
 have g1:(h.op == 1)=false:=by rw [hop]; rfl
 have g2:(h.op == 2)=false:=by rw [hop]; rfl
 have g3:(h.op == 3)=false:=by rw [hop]; rfl
 have g4:(h.op == 4)=false:=by rw [hop]; rfl
 have g5:(h.op == 5)=false:=by rw [hop]; rfl
 have g6:(h.op == 6)=false:=by rw [hop]; rfl
 have g7:(h.op == 7)=false:=by rw [hop]; rfl
 have g8:(h.op == 8)=true:=by rw [hop]; rfl
 have g9:(h.op == 9)=false:=by rw [hop]; rfl
 have g10:(h.op == 10)=false:=by rw [hop]; rfl
 have g11:(h.op == 11)=false:=by rw [hop]; rfl
 have g12:(h.op == 12)=false:=by rw [hop]; rfl
 have g13:(h.op == 13)=false:=by rw [hop]; rfl
 have g14:(h.op == 14)=false:=by rw [hop]; rfl
 have g15:(h.op == 15)=false:=by rw [hop]; rfl
 clear hop
 go_wp2_with fail
 refine (gI p _ aC aF aA av i aJ aI bs bt bc ar [7,8] _ 2 (by decide) (eU _ 7 8 _) dw.out (dG.out.same (hB0.alloc hB0.size _)) (HK.out _ (hB0.alloc hB0.size _))).mono ?_
 rintro e' w1 ⟨rfl,hb⟩
 have hB1:=(hB0.alloc hB0.size _).trans (hb.mono (hB0.alloc hB0.size _).size)
 clear hb
 go_wp2_with fail
 refine (dK _ _).mono ?_
 rintro e' wn ⟨rfl,rfl⟩
 go_wp2_with fail
 go_ret
 exact ⟨aS (by first | exact HR.out | exact HR.out.symm | (rw [← HR.out]; first | rfl | simp_all)),(HX.out.next hB1).1⟩
set_option maxHeartbeats 4000000 in
set_option maxRecDepth 100000 in
theorem Jz (h:eH) (b e ar:aR) (s:Sl) (hi:aX i) (hp:p.At w aC aF) (hin:jE w h b e s) (dL:dZ w) (har:ar.len≤maxLen) (hat:ar.At w w.heap.size aJ 0) (hh:Holds w (iU bc p aC aF aA av i aJ ar.len aI bs bt)) (hop:h.op=5∨h.op=6):
 Calls Tryd.prog 43 #[.pointer (some ⟨bc,0,none⟩),aY h b e s] w fun e' w'=>e'= .returned (.int .i64 (dR [bC (mean p i h.nm) [5],nest (dB ar [7] || kI ar h.nm [5,6])]))∧Below w.heap.size w w':=by
 have HH:=Lib.hid (show Sit w w _ from ⟨Below.refl _ _,hh⟩)
 obtain ⟨fU,eG,dW,cB,bg,aT,eY,dP⟩:=s
 have hxk:=hin.1.2.2.2.2.2.1
 have hns:=hin.1.2.2.1
 generalize hres:dR [bC (mean p i h.nm) [5],nest (dB ar [7] || kI ar h.nm [5,6])]=res
 have HR:=Lib.hid hres
 have iG:=Lib.hid hop
 have jS:=Lib.hid hin
 clear hres hop
 unfold aY
 dsimp only
 go_enter Tryd.func43,Tryd.ntmps43
 go_upto_region 1 with fail
 generalize hW:World.alloc w _=W
 generalize Value.agg #[_,_,_,_,_,_,_,_,_,_,_]=a0
 have HX:Hid (Sit w W (iT w.heap.size h b e ⟨fU,eG,dW,cB,bg,aT,eY,dP⟩ (iU bc p aC aF aA av i aJ ar.len aI bs bt))):=Lib.hid (by rw [← hW]; exact HH.out.gZ rfl _ _ _ _ _ _ _ _ _ _ _ _)
 clear hW HH
 have HP:=Lib.hid (hp.same HX.out.1)
 have iW:=Lib.hid (dL.same HX.out.1)
 have rG:=Lib.hid (hin.2.2.1.same HX.out.1)
 have dG:=Lib.hid (hat.same HX.out.1)
 have dw:=Lib.hid har
 have HK:Hid (∀w',Below W.heap.size W w'→Holds w' (iU bc p aC aF aA av i aJ ar.len aI bs bt)):=Lib.hid (fun w' hb=>(HX.out.next hb).2.2.2.2.2.2.2.2.2.2.2.2)
 clear hp dL hh hin hat har
 have L0: ∀w',Below W.heap.size W w'→w'.cell? ⟨w.heap.size,0,none⟩=some (.int .i64 h.op):=fun w' hb=>(HX.out.next hb).2.1.2
 have L2: ∀w',Below W.heap.size W w'→w'.cell? ⟨w.heap.size,2,none⟩=some (.string h.nm):=fun w' hb=>(HX.out.next hb).2.2.2.1.2
 have L3: ∀w',Below W.heap.size W w'→w'.cell? ⟨w.heap.size,3,none⟩=some (.string h.arg):=fun w' hb=>(HX.out.next hb).2.2.2.2.1.2
 have L5: ∀w',Below W.heap.size W w'→w'.cell? ⟨w.heap.size,5,none⟩=some (.int .i64 h.dU):=fun w' hb=>(HX.out.next hb).2.2.2.2.2.2.1.2
 have L6: ∀w',Below W.heap.size W w'→w'.cell? ⟨w.heap.size,6,none⟩=some (.int .i64 h.xn):=fun w' hb=>(HX.out.next hb).2.2.2.2.2.2.2.1.2
 have L7: ∀w',Below W.heap.size W w'→w'.cell? ⟨w.heap.size,7,none⟩=some (.string h.dV):=fun w' hb=>(HX.out.next hb).2.2.2.2.2.2.2.2.1.2
 have L8: ∀w',Below W.heap.size W w'→w'.cell? ⟨w.heap.size,8,none⟩=some (.slice dW h.bq.len cB):=fun w' hb=>(HX.out.next hb).2.2.2.2.2.2.2.2.2.1.2
 have hB0:Below W.heap.size W W:=Below.refl _ _
 have l0:=L0 W hB0
 have hop:=iG.out
 rcases hop with hop | hop
 ·have g1:(h.op == 1)=false:=by rw [hop]; rfl
  have g2:(h.op == 2)=false:=by rw [hop]; rfl
  have g3:(h.op == 3)=false:=by rw [hop]; rfl
  have g4:(h.op == 4)=false:=by rw [hop]; rfl
  have g5:(h.op == 5)=true:=by rw [hop]; rfl
  have g6:(h.op == 6)=false:=by rw [hop]; rfl
  have g7:(h.op == 7)=false:=by rw [hop]; rfl
  have g8:(h.op == 8)=false:=by rw [hop]; rfl
  have g9:(h.op == 9)=false:=by rw [hop]; rfl
  have g10:(h.op == 10)=false:=by rw [hop]; rfl
  have g11:(h.op == 11)=false:=by rw [hop]; rfl
  have g12:(h.op == 12)=false:=by rw [hop]; rfl
  have g13:(h.op == 13)=false:=by rw [hop]; rfl
  have g14:(h.op == 14)=false:=by rw [hop]; rfl
  have g15:(h.op == 15)=false:=by rw [hop]; rfl
  clear hop
  go_wp2_with fail
  refine (iC p _ aC aF aA av i aJ ar.len aI bs bt bc h.nm [5] _ 1 hi (by decide) (HP.out.same (hB0.alloc hB0.size _)) (fH _ 5 _) (HK.out _ (hB0.alloc hB0.size _))).mono ?_
  rintro e' w1 ⟨rfl,hb⟩
  have hB1:=(hB0.alloc hB0.size _).trans (hb.mono (hB0.alloc hB0.size _).size)
  clear hb
  go_wp2_with fail
  refine (gI p _ aC aF aA av i aJ aI bs bt bc ar [7] _ 1 (by decide) (fH _ 7 _) dw.out (dG.out.same (hB1.alloc hB1.size _)) (HK.out _ (hB1.alloc hB1.size _))).mono ?_
  rintro e' w2 ⟨rfl,hb⟩
  have hB2:=(hB1.alloc hB1.size _).trans (hb.mono (hB1.alloc hB1.size _).size)
  clear hb
  cases hq:dB ar [7]
  ·go_wp2_with fail
   refine (jW p _ aC aF aA av i aJ aI bs bt bc ar h.nm [5,6] _ 2 (by decide) (eU _ 5 6 _) dw.out (dG.out.same (hB2.alloc hB2.size _)) (HK.out _ (hB2.alloc hB2.size _))).mono ?_
   rintro e' w3 ⟨rfl,hb⟩
   have hB3:=(hB2.alloc hB2.size _).trans (hb.mono (hB2.alloc hB2.size _).size)
   clear hb
   cases hq2:kI ar h.nm [5,6]
   ·go_wp2_with fail
    refine (dK _ _).mono ?_
    rintro e' wn ⟨rfl,rfl⟩
    go_wp2_with fail
    refine (dJ [bC (mean p i h.nm) [5],nest false] _ _ 2 (by simp [maxLen]) (eU _ _ _ _)).mono ?_
    rintro e' wf ⟨rfl,rfl⟩
    have qN:=hB3.alloc hB3.size (.cells #[] 0)
    go_wp2_with fail
    go_ret
    exact ⟨aS (by first | exact HR.out | exact HR.out.symm | (rw [← HR.out]; first | rfl | simp_all)),(HX.out.next (hB3.alloc hB3.size _)).1⟩
   ·go_wp2_with fail
    refine (dK _ _).mono ?_
    rintro e' wn ⟨rfl,rfl⟩
    go_wp2_with fail
    refine (dJ [bC (mean p i h.nm) [5],nest true] _ _ 2 (by simp [maxLen]) (eU _ _ _ _)).mono ?_
    rintro e' wf ⟨rfl,rfl⟩
    have qN:=hB3.alloc hB3.size (.cells #[] 0)
    go_wp2_with fail
    go_ret
    exact ⟨aS (by first | exact HR.out | exact HR.out.symm | (rw [← HR.out]; first | rfl | simp_all)),(HX.out.next (hB3.alloc hB3.size _)).1⟩
  ·go_wp2_with fail
   refine (dK _ _).mono ?_
   rintro e' wn ⟨rfl,rfl⟩
   go_wp2_with fail
   refine (dJ [bC (mean p i h.nm) [5],nest true] _ _ 2 (by simp [maxLen]) (eU _ _ _ _)).mono ?_
   rintro e' wf ⟨rfl,rfl⟩
   have qN:=hB2.alloc hB2.size (.cells #[] 0)
   go_wp2_with fail
   go_ret
   exact ⟨aS (by first | exact HR.out | exact HR.out.symm | (rw [← HR.out]; first | rfl | simp_all)),(HX.out.next (hB2.alloc hB2.size _)).1⟩
 ·have g1:(h.op == 1)=false:=by rw [hop]; rfl
  have g2:(h.op == 2)=false:=by rw [hop]; rfl
  have g3:(h.op == 3)=false:=by rw [hop]; rfl
  have g4:(h.op == 4)=false:=by rw [hop]; rfl
  have g5:(h.op == 5)=false:=by rw [hop]; rfl
  have g6:(h.op == 6)=true:=by rw [hop]; rfl
  have g7:(h.op == 7)=false:=by rw [hop]; rfl
  have g8:(h.op == 8)=false:=by rw [hop]; rfl
  have g9:(h.op == 9)=false:=by rw [hop]; rfl
  have g10:(h.op == 10)=false:=by rw [hop]; rfl
  have g11:(h.op == 11)=false:=by rw [hop]; rfl
  have g12:(h.op == 12)=false:=by rw [hop]; rfl
  have g13:(h.op == 13)=false:=by rw [hop]; rfl
  have g14:(h.op == 14)=false:=by rw [hop]; rfl
  have g15:(h.op == 15)=false:=by rw [hop]; rfl
  clear hop
  go_wp2_with fail
  refine (iC p _ aC aF aA av i aJ ar.len aI bs bt bc h.nm [5] _ 1 hi (by decide) (HP.out.same (hB0.alloc hB0.size _)) (fH _ 5 _) (HK.out _ (hB0.alloc hB0.size _))).mono ?_
  rintro e' w1 ⟨rfl,hb⟩
  have hB1:=(hB0.alloc hB0.size _).trans (hb.mono (hB0.alloc hB0.size _).size)
  clear hb
  go_wp2_with fail
  refine (gI p _ aC aF aA av i aJ aI bs bt bc ar [7] _ 1 (by decide) (fH _ 7 _) dw.out (dG.out.same (hB1.alloc hB1.size _)) (HK.out _ (hB1.alloc hB1.size _))).mono ?_
  rintro e' w2 ⟨rfl,hb⟩
  have hB2:=(hB1.alloc hB1.size _).trans (hb.mono (hB1.alloc hB1.size _).size)
  clear hb
  cases hq:dB ar [7]
  ·go_wp2_with fail
   refine (jW p _ aC aF aA av i aJ aI bs bt bc ar h.nm [5,6] _ 2 (by decide) (eU _ 5 6 _) dw.out (dG.out.same (hB2.alloc hB2.size _)) (HK.out _ (hB2.alloc hB2.size _))).mono ?_
   rintro e' w3 ⟨rfl,hb⟩
   have hB3:=(hB2.alloc hB2.size _).trans (hb.mono (hB2.alloc hB2.size _).size)
   clear hb
   cases hq2:kI ar h.nm [5,6]
   ·go_wp2_with fail
    refine (dK _ _).mono ?_
    rintro e' wn ⟨rfl,rfl⟩
    go_wp2_with fail
    refine (dJ [bC (mean p i h.nm) [5],nest false] _ _ 2 (by simp [maxLen]) (eU _ _ _ _)).mono ?_
    rintro e' wf ⟨rfl,rfl⟩
    have qN:=hB3.alloc hB3.size (.cells #[] 0)
    go_wp2_with fail
    go_ret
    exact ⟨aS (by first | exact HR.out | exact HR.out.symm | (rw [← HR.out]; first | rfl | simp_all)),(HX.out.next (hB3.alloc hB3.size _)).1⟩
   ·go_wp2_with fail
    refine (dK _ _).mono ?_
    rintro e' wn ⟨rfl,rfl⟩
    go_wp2_with fail
    refine (dJ [bC (mean p i h.nm) [5],nest true] _ _ 2 (by simp [maxLen]) (eU _ _ _ _)).mono ?_
    rintro e' wf ⟨rfl,rfl⟩
    have qN:=hB3.alloc hB3.size (.cells #[] 0)
    go_wp2_with fail
    go_ret
    exact ⟨aS (by first | exact HR.out | exact HR.out.symm | (rw [← HR.out]; first | rfl | simp_all)),(HX.out.next (hB3.alloc hB3.size _)).1⟩
  ·go_wp2_with fail
   refine (dK _ _).mono ?_
   rintro e' wn ⟨rfl,rfl⟩
   go_wp2_with fail
   refine (dJ [bC (mean p i h.nm) [5],nest true] _ _ 2 (by simp [maxLen]) (eU _ _ _ _)).mono ?_
   rintro e' wf ⟨rfl,rfl⟩
   have qN:=hB2.alloc hB2.size (.cells #[] 0)
   go_wp2_with fail
   go_ret
   exact ⟨aS (by first | exact HR.out | exact HR.out.symm | (rw [← HR.out]; first | rfl | simp_all)),(HX.out.next (hB2.alloc hB2.size _)).1⟩
set_option maxHeartbeats 4000000 in
set_option maxRecDepth 100000 in
theorem JM (h:eH) (b e ar:aR) (s:Sl) (hi:aX i) (hp:p.At w aC aF) (hin:jE w h b e s) (dL:dZ w) (har:ar.len≤maxLen) (hat:ar.At w w.heap.size aJ 0) (hh:Holds w (iU bc p aC aF aA av i aJ ar.len aI bs bt)) (hop:h.op=2∨h.op=3):
 Calls Tryd.prog 43 #[.pointer (some ⟨bc,0,none⟩),aY h b e s] w fun e' w'=>e'= .returned (.int .i64 (iE p i h.dU h.xn h.dV h.bq))∧Below w.heap.size w w':=by
 have HH:=Lib.hid (show Sit w w _ from ⟨Below.refl _ _,hh⟩)
 obtain ⟨fU,eG,dW,cB,bg,aT,eY,dP⟩:=s
 have hxk:=hin.1.2.2.2.2.2.1
 have hns:=hin.1.2.2.1
 generalize hres:iE p i h.dU h.xn h.dV h.bq=res
 have HR:=Lib.hid hres
 have iG:=Lib.hid hop
 have jS:=Lib.hid hin
 clear hres hop
 unfold aY
 dsimp only
 go_enter Tryd.func43,Tryd.ntmps43
 go_upto_region 1 with fail
 generalize hW:World.alloc w _=W
 generalize Value.agg #[_,_,_,_,_,_,_,_,_,_,_]=a0
 have HX:Hid (Sit w W (iT w.heap.size h b e ⟨fU,eG,dW,cB,bg,aT,eY,dP⟩ (iU bc p aC aF aA av i aJ ar.len aI bs bt))):=Lib.hid (by rw [← hW]; exact HH.out.gZ rfl _ _ _ _ _ _ _ _ _ _ _ _)
 clear hW HH
 have HP:=Lib.hid (hp.same HX.out.1)
 have iW:=Lib.hid (dL.same HX.out.1)
 have rG:=Lib.hid (hin.2.2.1.same HX.out.1)
 have dG:=Lib.hid (hat.same HX.out.1)
 have dw:=Lib.hid har
 have HK:Hid (∀w',Below W.heap.size W w'→Holds w' (iU bc p aC aF aA av i aJ ar.len aI bs bt)):=Lib.hid (fun w' hb=>(HX.out.next hb).2.2.2.2.2.2.2.2.2.2.2.2)
 clear hp dL hh hin hat har
 have L0: ∀w',Below W.heap.size W w'→w'.cell? ⟨w.heap.size,0,none⟩=some (.int .i64 h.op):=fun w' hb=>(HX.out.next hb).2.1.2
 have L2: ∀w',Below W.heap.size W w'→w'.cell? ⟨w.heap.size,2,none⟩=some (.string h.nm):=fun w' hb=>(HX.out.next hb).2.2.2.1.2
 have L3: ∀w',Below W.heap.size W w'→w'.cell? ⟨w.heap.size,3,none⟩=some (.string h.arg):=fun w' hb=>(HX.out.next hb).2.2.2.2.1.2
 have L5: ∀w',Below W.heap.size W w'→w'.cell? ⟨w.heap.size,5,none⟩=some (.int .i64 h.dU):=fun w' hb=>(HX.out.next hb).2.2.2.2.2.2.1.2
 have L6: ∀w',Below W.heap.size W w'→w'.cell? ⟨w.heap.size,6,none⟩=some (.int .i64 h.xn):=fun w' hb=>(HX.out.next hb).2.2.2.2.2.2.2.1.2
 have L7: ∀w',Below W.heap.size W w'→w'.cell? ⟨w.heap.size,7,none⟩=some (.string h.dV):=fun w' hb=>(HX.out.next hb).2.2.2.2.2.2.2.2.1.2
 have L8: ∀w',Below W.heap.size W w'→w'.cell? ⟨w.heap.size,8,none⟩=some (.slice dW h.bq.len cB):=fun w' hb=>(HX.out.next hb).2.2.2.2.2.2.2.2.2.1.2
 have hB0:Below W.heap.size W W:=Below.refl _ _
 have l0:=L0 W hB0
 have hop:=iG.out
 rcases hop with hop | hop
 ·have g1:(h.op == 1)=false:=by rw [hop]; rfl
  have g2:(h.op == 2)=true:=by rw [hop]; rfl
  have g3:(h.op == 3)=false:=by rw [hop]; rfl
  have g4:(h.op == 4)=false:=by rw [hop]; rfl
  have g5:(h.op == 5)=false:=by rw [hop]; rfl
  have g6:(h.op == 6)=false:=by rw [hop]; rfl
  have g7:(h.op == 7)=false:=by rw [hop]; rfl
  have g8:(h.op == 8)=false:=by rw [hop]; rfl
  have g9:(h.op == 9)=false:=by rw [hop]; rfl
  have g10:(h.op == 10)=false:=by rw [hop]; rfl
  have g11:(h.op == 11)=false:=by rw [hop]; rfl
  have g12:(h.op == 12)=false:=by rw [hop]; rfl
  have g13:(h.op == 13)=false:=by rw [hop]; rfl
  have g14:(h.op == 14)=false:=by rw [hop]; rfl
  have g15:(h.op == 15)=false:=by rw [hop]; rfl
  clear hop
  go_wp2_with fail
  refine (oF p _ aC aF aA av i aJ ar.len aI bs bt bc h.dU h.xn h.dV h.bq dW cB hi (HP.out.same hB0) hxk (rG.out.same hB0) (iW.out.same hB0) (HK.out _ hB0)).mono ?_
  rintro e' w1 ⟨rfl,hb⟩
  have hB1:=hB0.trans (hb.mono hB0.size)
  clear hb
  go_wp2_with fail
  go_ret
  exact ⟨aS (by first | exact HR.out | exact HR.out.symm | (rw [← HR.out]; first | rfl | simp_all)),(HX.out.next hB1).1⟩
 ·have g1:(h.op == 1)=false:=by rw [hop]; rfl
  have g2:(h.op == 2)=false:=by rw [hop]; rfl
  have g3:(h.op == 3)=true:=by rw [hop]; rfl
  have g4:(h.op == 4)=false:=by rw [hop]; rfl
  have g5:(h.op == 5)=false:=by rw [hop]; rfl
  have g6:(h.op == 6)=false:=by rw [hop]; rfl
  have g7:(h.op == 7)=false:=by rw [hop]; rfl
  have g8:(h.op == 8)=false:=by rw [hop]; rfl
  have g9:(h.op == 9)=false:=by rw [hop]; rfl
  have g10:(h.op == 10)=false:=by rw [hop]; rfl
  have g11:(h.op == 11)=false:=by rw [hop]; rfl
  have g12:(h.op == 12)=false:=by rw [hop]; rfl
  have g13:(h.op == 13)=false:=by rw [hop]; rfl
  have g14:(h.op == 14)=false:=by rw [hop]; rfl
  have g15:(h.op == 15)=false:=by rw [hop]; rfl
  clear hop
  go_wp2_with fail
  refine (oF p _ aC aF aA av i aJ ar.len aI bs bt bc h.dU h.xn h.dV h.bq dW cB hi (HP.out.same hB0) hxk (rG.out.same hB0) (iW.out.same hB0) (HK.out _ hB0)).mono ?_
  rintro e' w1 ⟨rfl,hb⟩
  have hB1:=hB0.trans (hb.mono hB0.size)
  clear hb
  go_wp2_with fail
  go_ret
  exact ⟨aS (by first | exact HR.out | exact HR.out.symm | (rw [← HR.out]; first | rfl | simp_all)),(HX.out.next hB1).1⟩
set_option maxHeartbeats 4000000 in
set_option maxRecDepth 100000 in
theorem MI (h:eH) (b e ar:aR) (s:Sl) (hi:aX i) (hp:p.At w aC aF) (hin:jE w h b e s) (dL:dZ w) (har:ar.len≤maxLen) (hat:ar.At w w.heap.size aJ 0) (hh:Holds w (iU bc p aC aF aA av i aJ ar.len aI bs bt)) (hop:h.op=1):
 Calls Tryd.prog 43 #[.pointer (some ⟨bc,0,none⟩),aY h b e s] w fun e' w'=>e'= .returned (.int .i64 (tO p i h))∧Below w.heap.size w w':=by
 have HH:=Lib.hid (show Sit w w _ from ⟨Below.refl _ _,hh⟩)
 obtain ⟨fU,eG,dW,cB,bg,aT,eY,dP⟩:=s
 have hxk:=hin.1.2.2.2.2.2.1
 have hns:=hin.1.2.2.1
 generalize hres:tO p i h=res
 have HR:=Lib.hid hres
 have iG:=Lib.hid hop
 have jS:=Lib.hid hin
 clear hres hop
 unfold aY
 dsimp only
 go_enter Tryd.func43,Tryd.ntmps43
 go_upto_region 1 with fail
 generalize hW:World.alloc w _=W
 generalize Value.agg #[_,_,_,_,_,_,_,_,_,_,_]=a0
 have HX:Hid (Sit w W (iT w.heap.size h b e ⟨fU,eG,dW,cB,bg,aT,eY,dP⟩ (iU bc p aC aF aA av i aJ ar.len aI bs bt))):=Lib.hid (by rw [← hW]; exact HH.out.gZ rfl _ _ _ _ _ _ _ _ _ _ _ _)
 clear hW HH
 have HP:=Lib.hid (hp.same HX.out.1)
 have iW:=Lib.hid (dL.same HX.out.1)
 have rG:=Lib.hid (hin.2.2.1.same HX.out.1)
 have dG:=Lib.hid (hat.same HX.out.1)
 have dw:=Lib.hid har
 have HK:Hid (∀w',Below W.heap.size W w'→Holds w' (iU bc p aC aF aA av i aJ ar.len aI bs bt)):=Lib.hid (fun w' hb=>(HX.out.next hb).2.2.2.2.2.2.2.2.2.2.2.2)
 clear hp dL hh hin hat har
 have L0: ∀w',Below W.heap.size W w'→w'.cell? ⟨w.heap.size,0,none⟩=some (.int .i64 h.op):=fun w' hb=>(HX.out.next hb).2.1.2
 have L2: ∀w',Below W.heap.size W w'→w'.cell? ⟨w.heap.size,2,none⟩=some (.string h.nm):=fun w' hb=>(HX.out.next hb).2.2.2.1.2
 have L3: ∀w',Below W.heap.size W w'→w'.cell? ⟨w.heap.size,3,none⟩=some (.string h.arg):=fun w' hb=>(HX.out.next hb).2.2.2.2.1.2
 have L5: ∀w',Below W.heap.size W w'→w'.cell? ⟨w.heap.size,5,none⟩=some (.int .i64 h.dU):=fun w' hb=>(HX.out.next hb).2.2.2.2.2.2.1.2
 have L6: ∀w',Below W.heap.size W w'→w'.cell? ⟨w.heap.size,6,none⟩=some (.int .i64 h.xn):=fun w' hb=>(HX.out.next hb).2.2.2.2.2.2.2.1.2
 have L7: ∀w',Below W.heap.size W w'→w'.cell? ⟨w.heap.size,7,none⟩=some (.string h.dV):=fun w' hb=>(HX.out.next hb).2.2.2.2.2.2.2.2.1.2
 have L8: ∀w',Below W.heap.size W w'→w'.cell? ⟨w.heap.size,8,none⟩=some (.slice dW h.bq.len cB):=fun w' hb=>(HX.out.next hb).2.2.2.2.2.2.2.2.2.1.2
 have lA:=(HX.out.2).2.1.2
 have lB:=(HX.out.2).2.2.2.2.1.2
 have lC:=(HX.out.2).2.2.2.2.2.2.2.2.2.1.2
 have lD:=(HX.out.2).2.2.2.2.2.2.2.2.2.2.1.2
 have hB0:Below W.heap.size W W:=Below.refl _ _
 have l0:=L0 W hB0
 have hop:=iG.out
 have g1:(h.op == 1)=true:=by rw [hop]; rfl
 have g2:(h.op == 2)=false:=by rw [hop]; rfl
 have g3:(h.op == 3)=false:=by rw [hop]; rfl
 have g4:(h.op == 4)=false:=by rw [hop]; rfl
 have g5:(h.op == 5)=false:=by rw [hop]; rfl
 have g6:(h.op == 6)=false:=by rw [hop]; rfl
 have g7:(h.op == 7)=false:=by rw [hop]; rfl
 have g8:(h.op == 8)=false:=by rw [hop]; rfl
 have g9:(h.op == 9)=false:=by rw [hop]; rfl
 have g10:(h.op == 10)=false:=by rw [hop]; rfl
 have g11:(h.op == 11)=false:=by rw [hop]; rfl
 have g12:(h.op == 12)=false:=by rw [hop]; rfl
 have g13:(h.op == 13)=false:=by rw [hop]; rfl
 have g14:(h.op == 14)=false:=by rw [hop]; rfl
 have g15:(h.op == 15)=false:=by rw [hop]; rfl
 clear hop
 have l2:=L2 W hB0
 have l3:=L3 W hB0
 go_wp2_with fail
 refine (CX p _ aC aF aA av i aJ ar.len aI bs bt bc h b e ⟨fU,eG,dW,cB,bg,aT,eY,dP⟩ hi (HP.out.same hB0) (jS.out.same HX.out.1) (iW.out.same hB0) (HK.out _ hB0)).mono ?_
 rintro e' w1 ⟨rfl,hb⟩
 have hB1:=hB0.trans (hb.mono hB0.size)
 clear hb
 go_wp2_with fail
 go_ret
 exact ⟨aS (by first | exact HR.out | exact HR.out.symm | (rw [← HR.out]; first | rfl | simp_all)),(HX.out.next hB1).1⟩
set_option maxHeartbeats 4000000 in
set_option maxRecDepth 100000 in
theorem N7 (h:eH) (b e ar:aR) (s:Sl) (hi:aX i) (hp:p.At w aC aF) (hin:jE w h b e s) (dL:dZ w) (har:ar.len≤maxLen) (hat:ar.At w w.heap.size aJ 0) (hh:Holds w (iU bc p aC aF aA av i aJ ar.len aI bs bt)) (hop:h.op=9∨h.op=10∨h.op=11):
 Calls Tryd.prog 43 #[.pointer (some ⟨bc,0,none⟩),aY h b e s] w fun e' w'=>e'= .returned (.int .i64 (dR [bC (mean p i h.nm) [6],nest ((dB ar [7] || !kI ar (ig p.ds h.nm) [4]) || (h.op == 9 && dB ar [8]))]))∧Below w.heap.size w w':=by
 have HH:=Lib.hid (show Sit w w _ from ⟨Below.refl _ _,hh⟩)
 obtain ⟨fU,eG,dW,cB,bg,aT,eY,dP⟩:=s
 have hxk:=hin.1.2.2.2.2.2.1
 have hns:=hin.1.2.2.1
 generalize hres:dR [bC (mean p i h.nm) [6],nest ((dB ar [7] || !kI ar (ig p.ds h.nm) [4]) || (h.op == 9 && dB ar [8]))]=res
 have HR:=Lib.hid hres
 have iG:=Lib.hid hop
 have jS:=Lib.hid hin
 clear hres hop
 unfold aY
 dsimp only
 go_enter Tryd.func43,Tryd.ntmps43
 go_upto_region 1 with fail
 generalize hW:World.alloc w _=W
 generalize Value.agg #[_,_,_,_,_,_,_,_,_,_,_]=a0
 have HX:Hid (Sit w W (iT w.heap.size h b e ⟨fU,eG,dW,cB,bg,aT,eY,dP⟩ (iU bc p aC aF aA av i aJ ar.len aI bs bt))):=Lib.hid (by rw [← hW]; exact HH.out.gZ rfl _ _ _ _ _ _ _ _ _ _ _ _)
 clear hW HH
 have HP:=Lib.hid (hp.same HX.out.1)
 have iW:=Lib.hid (dL.same HX.out.1)
 have rG:=Lib.hid (hin.2.2.1.same HX.out.1)
 have dG:=Lib.hid (hat.same HX.out.1)
 have dw:=Lib.hid har
 have HK:Hid (∀w',Below W.heap.size W w'→Holds w' (iU bc p aC aF aA av i aJ ar.len aI bs bt)):=Lib.hid (fun w' hb=>(HX.out.next hb).2.2.2.2.2.2.2.2.2.2.2.2)
 clear hp dL hh hin hat har
 have L0: ∀w',Below W.heap.size W w'→w'.cell? ⟨w.heap.size,0,none⟩=some (.int .i64 h.op):=fun w' hb=>(HX.out.next hb).2.1.2
 have L2: ∀w',Below W.heap.size W w'→w'.cell? ⟨w.heap.size,2,none⟩=some (.string h.nm):=fun w' hb=>(HX.out.next hb).2.2.2.1.2
 have L3: ∀w',Below W.heap.size W w'→w'.cell? ⟨w.heap.size,3,none⟩=some (.string h.arg):=fun w' hb=>(HX.out.next hb).2.2.2.2.1.2
 have L5: ∀w',Below W.heap.size W w'→w'.cell? ⟨w.heap.size,5,none⟩=some (.int .i64 h.dU):=fun w' hb=>(HX.out.next hb).2.2.2.2.2.2.1.2
 have L6: ∀w',Below W.heap.size W w'→w'.cell? ⟨w.heap.size,6,none⟩=some (.int .i64 h.xn):=fun w' hb=>(HX.out.next hb).2.2.2.2.2.2.2.1.2
 have L7: ∀w',Below W.heap.size W w'→w'.cell? ⟨w.heap.size,7,none⟩=some (.string h.dV):=fun w' hb=>(HX.out.next hb).2.2.2.2.2.2.2.2.1.2
 have L8: ∀w',Below W.heap.size W w'→w'.cell? ⟨w.heap.size,8,none⟩=some (.slice dW h.bq.len cB):=fun w' hb=>(HX.out.next hb).2.2.2.2.2.2.2.2.2.1.2
 have hB0:Below W.heap.size W W:=Below.refl _ _
 have l0:=L0 W hB0
 have hop:=iG.out
 rcases hop with hop | hop | hop
 ·have g1:(h.op == 1)=false:=by rw [hop]; rfl
  have g2:(h.op == 2)=false:=by rw [hop]; rfl
  have g3:(h.op == 3)=false:=by rw [hop]; rfl
  have g4:(h.op == 4)=false:=by rw [hop]; rfl
  have g5:(h.op == 5)=false:=by rw [hop]; rfl
  have g6:(h.op == 6)=false:=by rw [hop]; rfl
  have g7:(h.op == 7)=false:=by rw [hop]; rfl
  have g8:(h.op == 8)=false:=by rw [hop]; rfl
  have g9:(h.op == 9)=true:=by rw [hop]; rfl
  have g10:(h.op == 10)=false:=by rw [hop]; rfl
  have g11:(h.op == 11)=false:=by rw [hop]; rfl
  have g12:(h.op == 12)=false:=by rw [hop]; rfl
  have g13:(h.op == 13)=false:=by rw [hop]; rfl
  have g14:(h.op == 14)=false:=by rw [hop]; rfl
  have g15:(h.op == 15)=false:=by rw [hop]; rfl
  clear hop
  go_wp2_with fail
  refine (iC p _ aC aF aA av i aJ ar.len aI bs bt bc h.nm [6] _ 1 hi (by decide) (HP.out.same (hB0.alloc hB0.size _)) (fH _ 6 _) (HK.out _ (hB0.alloc hB0.size _))).mono ?_
  rintro e' w1 ⟨rfl,hb⟩
  have hB1:=(hB0.alloc hB0.size _).trans (hb.mono (hB0.alloc hB0.size _).size)
  clear hb
  go_wp2_with fail
  refine (gI p _ aC aF aA av i aJ aI bs bt bc ar [7] _ 1 (by decide) (fH _ 7 _) dw.out (dG.out.same (hB1.alloc hB1.size _)) (HK.out _ (hB1.alloc hB1.size _))).mono ?_
  rintro e' w2 ⟨rfl,hb⟩
  have hB2:=(hB1.alloc hB1.size _).trans (hb.mono (hB1.alloc hB1.size _).size)
  clear hb
  cases hq:dB ar [7]
  ·go_wp2_with fail
   refine (rT p _ aC aF aA av i aJ ar.len aI bs bt bc h.nm (HP.out.same hB2) (HK.out _ hB2)).mono ?_
   rintro e' w3 ⟨rfl,hb⟩
   have hB3:=hB2.trans (hb.mono hB2.size)
   clear hb
   go_wp2_with fail
   refine (jW p _ aC aF aA av i aJ aI bs bt bc ar (ig p.ds h.nm) [4] _ 1 (by decide) (fH _ 4 _) dw.out (dG.out.same (hB3.alloc hB3.size _)) (HK.out _ (hB3.alloc hB3.size _))).mono ?_
   rintro e' w4 ⟨rfl,hb⟩
   have hB4:=(hB3.alloc hB3.size _).trans (hb.mono (hB3.alloc hB3.size _).size)
   clear hb
   cases hq2:kI ar (ig p.ds h.nm) [4]
   ·go_wp2_with fail
    refine (dK _ _).mono ?_
    rintro e' wn ⟨rfl,rfl⟩
    go_wp2_with fail
    refine (dJ [bC (mean p i h.nm) [6],nest true] _ _ 2 (by simp [maxLen]) (eU _ _ _ _)).mono ?_
    rintro e' wf ⟨rfl,rfl⟩
    have qN:=hB4.alloc hB4.size (.cells #[] 0)
    go_wp2_with fail
    go_ret
    exact ⟨aS (by first | exact HR.out | exact HR.out.symm | (rw [← HR.out]; first | rfl | simp_all)),(HX.out.next (hB4.alloc hB4.size _)).1⟩
   ·go_wp2_with fail
    refine (gI p _ aC aF aA av i aJ aI bs bt bc ar [8] _ 1 (by decide) (fH _ 8 _) dw.out (dG.out.same (hB4.alloc hB4.size _)) (HK.out _ (hB4.alloc hB4.size _))).mono ?_
    rintro e' w5 ⟨rfl,hb⟩
    have wR:=(hB4.alloc hB4.size _).trans (hb.mono (hB4.alloc hB4.size _).size)
    clear hb
    cases hq3:dB ar [8]
    ·go_wp2_with fail
     refine (dK _ _).mono ?_
     rintro e' wn ⟨rfl,rfl⟩
     go_wp2_with fail
     refine (dJ [bC (mean p i h.nm) [6],nest false] _ _ 2 (by simp [maxLen]) (eU _ _ _ _)).mono ?_
     rintro e' wf ⟨rfl,rfl⟩
     have qN:=wR.alloc wR.size (.cells #[] 0)
     go_wp2_with fail
     go_ret
     exact ⟨aS (by first | exact HR.out | exact HR.out.symm | (rw [← HR.out]; first | rfl | simp_all)),(HX.out.next (wR.alloc wR.size _)).1⟩
    ·go_wp2_with fail
     refine (dK _ _).mono ?_
     rintro e' wn ⟨rfl,rfl⟩
     go_wp2_with fail
     refine (dJ [bC (mean p i h.nm) [6],nest true] _ _ 2 (by simp [maxLen]) (eU _ _ _ _)).mono ?_
     rintro e' wf ⟨rfl,rfl⟩
     have qN:=wR.alloc wR.size (.cells #[] 0)
     go_wp2_with fail
     go_ret
     exact ⟨aS (by first | exact HR.out | exact HR.out.symm | (rw [← HR.out]; first | rfl | simp_all)),(HX.out.next (wR.alloc wR.size _)).1⟩
  ·go_wp2_with fail
   refine (dK _ _).mono ?_
   rintro e' wn ⟨rfl,rfl⟩
   go_wp2_with fail
   refine (dJ [bC (mean p i h.nm) [6],nest true] _ _ 2 (by simp [maxLen]) (eU _ _ _ _)).mono ?_
   rintro e' wf ⟨rfl,rfl⟩
   have qN:=hB2.alloc hB2.size (.cells #[] 0)
   go_wp2_with fail
   go_ret
   exact ⟨aS (by first | exact HR.out | exact HR.out.symm | (rw [← HR.out]; first | rfl | simp_all)),(HX.out.next (hB2.alloc hB2.size _)).1⟩
 ·have g1:(h.op == 1)=false:=by rw [hop]; rfl
  have g2:(h.op == 2)=false:=by rw [hop]; rfl
  have g3:(h.op == 3)=false:=by rw [hop]; rfl
  have g4:(h.op == 4)=false:=by rw [hop]; rfl
  have g5:(h.op == 5)=false:=by rw [hop]; rfl
  have g6:(h.op == 6)=false:=by rw [hop]; rfl
  have g7:(h.op == 7)=false:=by rw [hop]; rfl
  have g8:(h.op == 8)=false:=by rw [hop]; rfl
  have g9:(h.op == 9)=false:=by rw [hop]; rfl
  have g10:(h.op == 10)=true:=by rw [hop]; rfl
  have g11:(h.op == 11)=false:=by rw [hop]; rfl
  have g12:(h.op == 12)=false:=by rw [hop]; rfl
  have g13:(h.op == 13)=false:=by rw [hop]; rfl
  have g14:(h.op == 14)=false:=by rw [hop]; rfl
  have g15:(h.op == 15)=false:=by rw [hop]; rfl
  clear hop
  go_wp2_with fail
  refine (iC p _ aC aF aA av i aJ ar.len aI bs bt bc h.nm [6] _ 1 hi (by decide) (HP.out.same (hB0.alloc hB0.size _)) (fH _ 6 _) (HK.out _ (hB0.alloc hB0.size _))).mono ?_
  rintro e' w1 ⟨rfl,hb⟩
  have hB1:=(hB0.alloc hB0.size _).trans (hb.mono (hB0.alloc hB0.size _).size)
  clear hb
  go_wp2_with fail
  refine (gI p _ aC aF aA av i aJ aI bs bt bc ar [7] _ 1 (by decide) (fH _ 7 _) dw.out (dG.out.same (hB1.alloc hB1.size _)) (HK.out _ (hB1.alloc hB1.size _))).mono ?_
  rintro e' w2 ⟨rfl,hb⟩
  have hB2:=(hB1.alloc hB1.size _).trans (hb.mono (hB1.alloc hB1.size _).size)
  clear hb
  cases hq:dB ar [7]
  ·go_wp2_with fail
   refine (rT p _ aC aF aA av i aJ ar.len aI bs bt bc h.nm (HP.out.same hB2) (HK.out _ hB2)).mono ?_
   rintro e' w3 ⟨rfl,hb⟩
   have hB3:=hB2.trans (hb.mono hB2.size)
   clear hb
   go_wp2_with fail
   refine (jW p _ aC aF aA av i aJ aI bs bt bc ar (ig p.ds h.nm) [4] _ 1 (by decide) (fH _ 4 _) dw.out (dG.out.same (hB3.alloc hB3.size _)) (HK.out _ (hB3.alloc hB3.size _))).mono ?_
   rintro e' w4 ⟨rfl,hb⟩
   have hB4:=(hB3.alloc hB3.size _).trans (hb.mono (hB3.alloc hB3.size _).size)
   clear hb
   cases hq2:kI ar (ig p.ds h.nm) [4]
   ·go_wp2_with fail
    refine (dK _ _).mono ?_
    rintro e' wn ⟨rfl,rfl⟩
    go_wp2_with fail
    refine (dJ [bC (mean p i h.nm) [6],nest true] _ _ 2 (by simp [maxLen]) (eU _ _ _ _)).mono ?_
    rintro e' wf ⟨rfl,rfl⟩
    have qN:=hB4.alloc hB4.size (.cells #[] 0)
    go_wp2_with fail
    go_ret
    exact ⟨aS (by first | exact HR.out | exact HR.out.symm | (rw [← HR.out]; first | rfl | simp_all)),(HX.out.next (hB4.alloc hB4.size _)).1⟩
   ·go_wp2_with fail
    refine (dK _ _).mono ?_
    rintro e' wn ⟨rfl,rfl⟩
    go_wp2_with fail
    refine (dJ [bC (mean p i h.nm) [6],nest false] _ _ 2 (by simp [maxLen]) (eU _ _ _ _)).mono ?_
    rintro e' wf ⟨rfl,rfl⟩
    have qN:=hB4.alloc hB4.size (.cells #[] 0)
    go_wp2_with fail
    go_ret
    exact ⟨aS (by first | exact HR.out | exact HR.out.symm | (rw [← HR.out]; first | rfl | simp_all)),(HX.out.next (hB4.alloc hB4.size _)).1⟩
  ·go_wp2_with fail
   refine (dK _ _).mono ?_
   rintro e' wn ⟨rfl,rfl⟩
   go_wp2_with fail
   refine (dJ [bC (mean p i h.nm) [6],nest true] _ _ 2 (by simp [maxLen]) (eU _ _ _ _)).mono ?_
   rintro e' wf ⟨rfl,rfl⟩
   have qN:=hB2.alloc hB2.size (.cells #[] 0)
   go_wp2_with fail
   go_ret
   exact ⟨aS (by first | exact HR.out | exact HR.out.symm | (rw [← HR.out]; first | rfl | simp_all)),(HX.out.next (hB2.alloc hB2.size _)).1⟩
 ·have g1:(h.op == 1)=false:=by rw [hop]; rfl
  have g2:(h.op == 2)=false:=by rw [hop]; rfl
  have g3:(h.op == 3)=false:=by rw [hop]; rfl
  have g4:(h.op == 4)=false:=by rw [hop]; rfl
  have g5:(h.op == 5)=false:=by rw [hop]; rfl
  have g6:(h.op == 6)=false:=by rw [hop]; rfl
  have g7:(h.op == 7)=false:=by rw [hop]; rfl
  have g8:(h.op == 8)=false:=by rw [hop]; rfl
  have g9:(h.op == 9)=false:=by rw [hop]; rfl
  have g10:(h.op == 10)=false:=by rw [hop]; rfl
  have g11:(h.op == 11)=true:=by rw [hop]; rfl
  have g12:(h.op == 12)=false:=by rw [hop]; rfl
  have g13:(h.op == 13)=false:=by rw [hop]; rfl
  have g14:(h.op == 14)=false:=by rw [hop]; rfl
  have g15:(h.op == 15)=false:=by rw [hop]; rfl
  clear hop
  go_wp2_with fail
  refine (iC p _ aC aF aA av i aJ ar.len aI bs bt bc h.nm [6] _ 1 hi (by decide) (HP.out.same (hB0.alloc hB0.size _)) (fH _ 6 _) (HK.out _ (hB0.alloc hB0.size _))).mono ?_
  rintro e' w1 ⟨rfl,hb⟩
  have hB1:=(hB0.alloc hB0.size _).trans (hb.mono (hB0.alloc hB0.size _).size)
  clear hb
  go_wp2_with fail
  refine (gI p _ aC aF aA av i aJ aI bs bt bc ar [7] _ 1 (by decide) (fH _ 7 _) dw.out (dG.out.same (hB1.alloc hB1.size _)) (HK.out _ (hB1.alloc hB1.size _))).mono ?_
  rintro e' w2 ⟨rfl,hb⟩
  have hB2:=(hB1.alloc hB1.size _).trans (hb.mono (hB1.alloc hB1.size _).size)
  clear hb
  cases hq:dB ar [7]
  ·go_wp2_with fail
   refine (rT p _ aC aF aA av i aJ ar.len aI bs bt bc h.nm (HP.out.same hB2) (HK.out _ hB2)).mono ?_
   rintro e' w3 ⟨rfl,hb⟩
   have hB3:=hB2.trans (hb.mono hB2.size)
   clear hb
   go_wp2_with fail
   refine (jW p _ aC aF aA av i aJ aI bs bt bc ar (ig p.ds h.nm) [4] _ 1 (by decide) (fH _ 4 _) dw.out (dG.out.same (hB3.alloc hB3.size _)) (HK.out _ (hB3.alloc hB3.size _))).mono ?_
   rintro e' w4 ⟨rfl,hb⟩
   have hB4:=(hB3.alloc hB3.size _).trans (hb.mono (hB3.alloc hB3.size _).size)
   clear hb
   cases hq2:kI ar (ig p.ds h.nm) [4]
   ·go_wp2_with fail
    refine (dK _ _).mono ?_
    rintro e' wn ⟨rfl,rfl⟩
    go_wp2_with fail
    refine (dJ [bC (mean p i h.nm) [6],nest true] _ _ 2 (by simp [maxLen]) (eU _ _ _ _)).mono ?_
    rintro e' wf ⟨rfl,rfl⟩
    have qN:=hB4.alloc hB4.size (.cells #[] 0)
    go_wp2_with fail
    go_ret
    exact ⟨aS (by first | exact HR.out | exact HR.out.symm | (rw [← HR.out]; first | rfl | simp_all)),(HX.out.next (hB4.alloc hB4.size _)).1⟩
   ·go_wp2_with fail
    refine (dK _ _).mono ?_
    rintro e' wn ⟨rfl,rfl⟩
    go_wp2_with fail
    refine (dJ [bC (mean p i h.nm) [6],nest false] _ _ 2 (by simp [maxLen]) (eU _ _ _ _)).mono ?_
    rintro e' wf ⟨rfl,rfl⟩
    have qN:=hB4.alloc hB4.size (.cells #[] 0)
    go_wp2_with fail
    go_ret
    exact ⟨aS (by first | exact HR.out | exact HR.out.symm | (rw [← HR.out]; first | rfl | simp_all)),(HX.out.next (hB4.alloc hB4.size _)).1⟩
  ·go_wp2_with fail
   refine (dK _ _).mono ?_
   rintro e' wn ⟨rfl,rfl⟩
   go_wp2_with fail
   refine (dJ [bC (mean p i h.nm) [6],nest true] _ _ 2 (by simp [maxLen]) (eU _ _ _ _)).mono ?_
   rintro e' wf ⟨rfl,rfl⟩
   have qN:=hB2.alloc hB2.size (.cells #[] 0)
   go_wp2_with fail
   go_ret
   exact ⟨aS (by first | exact HR.out | exact HR.out.symm | (rw [← HR.out]; first | rfl | simp_all)),(HX.out.next (hB2.alloc hB2.size _)).1⟩
end
end Go.Proofs.YtnknfoibmgphnaaDoor
end
