/-
  Contract of the checker's statement at set.
  Contract of the checker's statement at spawn.
-/
import Derived.Test.YtdajkddgnfgijaaGreatDoorGMF
section
set_option linter.unusedSimpArgs false
set_option linter.unusedVariables false
namespace Go.Proofs.YtdajkddgnfgijaaGreatDoor
open Go.RowKit
open Md
theorem nV {b:Nat} {w1 w2 w3:World} (h:w1.grownBy w2 (some b)) (k:w2.grownBy w3 (some b)):w1.grownBy w3 (some b):=
 ⟨k.os.trans h.os,k.tape.trans h.tape,k.output.trans h.output,Nat.le_trans h.size k.size,fun j hj hne=>(k.block j (Nat.lt_of_lt_of_le hj h.size) hne).trans (h.block j hj hne)⟩
theorem dA {b:Nat} {w w':World} (h:Below w.heap.size w w'):w.grownBy w' (some b):=⟨h.os,h.tape,h.output,h.size,fun k hk _=>h.block k hk⟩
theorem aO {b:Nat} (w:World):w.grownBy w (some b):=dA (Below.refl _ _)
def MC (W:World) (bm n:Nat) (f f':List UInt8→Bool) (β:Bool) (w':World):Prop:=W.grownBy w' (some bm)∧gQ w' bm (n + β.toNat) (if β then f' else f)
theorem MC.below {W:World} {bm n:Nat} {f f':List UInt8→Bool} {β:Bool} {w' w2:World} (h:MC W bm n f f' β w') (hb:Below w'.heap.size w' w2):MC W bm n f f' β w2:=⟨nV h.1 (dA hb),h.2.next hb⟩
theorem dP.grow {w w':World} {b bm:Nat} (hb:b≠bm) (hg:w.grownBy w' (some bm)): ∀ {l:List Int} {k:Nat},dP w w.heap.size l (some ⟨b,0,none⟩) k→dP w' w'.heap.size l (some ⟨b,0,none⟩) k
 | [],_,_=>trivial
 | _ ::_,_,⟨⟨b1,off,e,hB,c⟩,hr⟩=>by
   injection e with e; injection e with e1 e2; subst e1; subst e2
   exact ⟨⟨b,0,rfl,Nat.lt_of_lt_of_le hB hg.size,(World.cell?_of_block (hg.block b hB (by simp; exact hb))).trans c⟩,dP.grow hb hg hr⟩
theorem Sit.mc {w W w':World} {fs:List (Nat × Nat × Value)} {bm:Nat} (h:Sit w W fs) (hg:W.grownBy w' (some bm)) (hne: ∀f ∈ fs,f.1≠bm):Holds w' fs:=h.2.grown hg hne
def EU (v:Int) (w:World) (bm n:Nat) (f:List UInt8→Bool) (e:Ending) (w':World):Prop:=e= .returned (.int .i64 v)∧gQ w' bm n f∧w.grownBy w' (some bm)
theorem vE {v:Value} {res:Int} {w W wz:World} {bm n:Nat} {f f':List UInt8→Bool} (h:v= .int .i64 res) (hz:MC W bm n f f' true wz) (hg: ∀w',W.grownBy w' (some bm)→w.grownBy w' (some bm)):EU res w bm (n + 1) f' (.returned v) wz:=
 ⟨by rw [h],hz.2,hg _ hz.1⟩
theorem Oi (w:World) (a b c d:Int) (t:TypeId):dP (w.alloc (.cells #[.int .i64 a,.int .i64 b,.int .i64 c,.int .i64 d] t)) (w.alloc (.cells #[.int .i64 a,.int .i64 b,.int .i64 c,.int .i64 d] t)).heap.size [a,b,c,d] (some ⟨w.heap.size,0,none⟩) 0:=
 ⟨⟨_,_,rfl,by simp,bZ w [.int .i64 a,.int .i64 b,.int .i64 c,.int .i64 d] t 0⟩,⟨_,_,rfl,by simp,bZ w [.int .i64 a,.int .i64 b,.int .i64 c,.int .i64 d] t 1⟩,⟨_,_,rfl,by simp,bZ w [.int .i64 a,.int .i64 b,.int .i64 c,.int .i64 d] t 2⟩,⟨_,_,rfl,by simp,bZ w [.int .i64 a,.int .i64 b,.int .i64 c,.int .i64 d] t 3⟩,trivial⟩
section
variable (p:Pr) (w:World) (aK aM:Option Addr) (aG aH:Nat) (i:Int) (bn:Option Addr) (aV bs bt bc:Nat)
set_option maxHeartbeats 4000000 in
set_option maxRecDepth 100000 in
theorem QH (h:aX) (b e ar:aP) (s:Sl) (hi:dR i) (hp: ∀w',w.grownBy w' (some bt)→p.At w' aK aM) (hok:sj h b e) (hex: ∀w',w.grownBy w' (some bt)→h.aR.At w' w'.heap.size s.dH 0) (dI: ∀w',w.grownBy w' (some bt)→dw w') (har:ar.len≤maxLen) (hat: ∀w',w.grownBy w' (some bt)→ar.At w' w'.heap.size bn 0) (hh:Holds w (gW bc p aK aM aG aH i bn ar.len aV bs bt)) (hbc:bc≠bt) (n:Nat) (f:List UInt8→Bool) (hn:n < maxLen) (hmap:gQ w bt n f) (hop:h.op=14):
 Calls Tryz.prog 151 #[.pointer (some ⟨bc,0,none⟩),cO h b e s] w (EU (eP [bD (mean p i h.nm) [7],nest (eO ar [7,3]),(jL (f h.nm.toList)),kU p i h.dN h.xn h.dM h.aR]) w bt (n + 1) (pI f h.nm.toList)):=by
 have HH:=Lib.hid (show Sit w w _ from ⟨Below.refl _ _,hh⟩)
 obtain ⟨dZ,dG,dH,bR,bV,bC,eB,dK⟩:=s
 have hxk:=hok.2.2.2.2.2.1
 have hns:=hok.2.2.1
 generalize hres:eP [bD (mean p i h.nm) [7],nest (eO ar [7,3]),(jL (f h.nm.toList)),kU p i h.dN h.xn h.dM h.aR]=res
 have HR:=Lib.hid hres
 have bY:=Lib.hid hop
 have Mw:=Lib.hid hns
 have HN:=Lib.hid hn
 have hlt:=hmap.lt
 clear hres hop hn hns
 unfold cO
 dsimp only
 dsimp only at hex
 go_enter Tryz.func151,Tryz.ntmps151
 go_upto_region 1 with fail
 generalize hW:World.alloc w _=W
 generalize Value.agg #[_,_,_,_,_,_,_,_,_,_,_]=a0
 have HX:Hid (Sit w W (ow w.heap.size h b e ⟨dZ,dG,dH,bR,bV,bC,eB,dK⟩ (gW bc p aK aM aG aH i bn ar.len aV bs bt))):=Lib.hid (by rw [← hW]; exact HH.out.lU rfl _ _ _ _ _ _ _ _ _ _ _ _)
 clear hW HH
 have HG:Hid (∀w',W.grownBy w' (some bt)→w.grownBy w' (some bt)):=Lib.hid (fun w' hg=>nV (dA HX.out.1) hg)
 have HP:=Lib.hid (fun w' hg=>hp w' (HG.out w' hg))
 have gU:=Lib.hid (fun w' hg=>dI w' (HG.out w' hg))
 have uJ:=Lib.hid (fun w' hg=>hex w' (HG.out w' hg))
 have jk:=Lib.hid (fun w' hg=>hat w' (HG.out w' hg))
 have iZ:=Lib.hid har
 have HM:=Lib.hid (hmap.next HX.out.1)
 have HF:Hid (∀w',W.grownBy w' (some bt)→Holds w' (ow w.heap.size h b e ⟨dZ,dG,dH,bR,bV,bC,eB,dK⟩ (gW bc p aK aM aG aH i bn ar.len aV bs bt))):=Lib.hid (fun w' hg=>HX.out.mc hg (by
  intro x hx
  simp only [ow,gW,List.mem_cons,List.not_mem_nil,or_false] at hx
  rcases hx with rfl | rfl | rfl | rfl | rfl | rfl | rfl | rfl | rfl | rfl | rfl | rfl | rfl | rfl | rfl | rfl | rfl <;> first | exact hbc | (show w.heap.size≠bt; omega)))
 have HK:Hid (∀w',W.grownBy w' (some bt)→Holds w' (gW bc p aK aM aG aH i bn ar.len aV bs bt)):=Lib.hid (fun w' hg=>(HF.out w' hg).2.2.2.2.2.2.2.2.2.2.2)
 clear hp dI hh hat har hex hmap hlt hbc
 have L0: ∀w',W.grownBy w' (some bt)→w'.cell? ⟨w.heap.size,0,none⟩=some (.int .i64 h.op):=fun w' hb=>(HF.out w' hb).1.2
 have L2: ∀w',W.grownBy w' (some bt)→w'.cell? ⟨w.heap.size,2,none⟩=some (.string h.nm):=fun w' hb=>(HF.out w' hb).2.2.1.2
 have L5: ∀w',W.grownBy w' (some bt)→w'.cell? ⟨w.heap.size,5,none⟩=some (.int .i64 h.dN):=fun w' hb=>(HF.out w' hb).2.2.2.2.2.1.2
 have L6: ∀w',W.grownBy w' (some bt)→w'.cell? ⟨w.heap.size,6,none⟩=some (.int .i64 h.xn):=fun w' hb=>(HF.out w' hb).2.2.2.2.2.2.1.2
 have L7: ∀w',W.grownBy w' (some bt)→w'.cell? ⟨w.heap.size,7,none⟩=some (.string h.dM):=fun w' hb=>(HF.out w' hb).2.2.2.2.2.2.2.1.2
 have L8: ∀w',W.grownBy w' (some bt)→w'.cell? ⟨w.heap.size,8,none⟩=some (.slice dH h.aR.len bR):=fun w' hb=>(HF.out w' hb).2.2.2.2.2.2.2.2.1.2
 have LM: ∀w',W.grownBy w' (some bt)→w'.cell? ⟨bc,5,none⟩=some (.map (some bt)):=fun w' hb=>(HK.out w' hb).2.2.2.2.2.1.2
 have l0:=L0 W (aO _)
 have hop:=bY.out
 have g1:(h.op == 1)=false:=by rw [hop]; rfl
 have g2:(h.op == 2)=false:=by rw [hop]; rfl
 have g3:(h.op == 3)=false:=by rw [hop]; rfl
 have g4:(h.op == 4)=false:=by rw [hop]; rfl
 have g5:(h.op == 5)=false:=by rw [hop]; rfl
 have g6:(h.op == 6)=false:=by rw [hop]; rfl
 have g7:(h.op == 7)=false:=by rw [hop]; rfl
 have g8:(h.op == 8)=false:=by rw [hop]; rfl
 have g9:(h.op == 9)=false:=by rw [hop]; rfl
 have g10:(h.op == 10)=false:=by rw [hop]; rfl
 have g11:(h.op == 11)=false:=by rw [hop]; rfl
 have g12:(h.op == 12)=false:=by rw [hop]; rfl
 have g13:(h.op == 13)=false:=by rw [hop]; rfl
 have g14:(h.op == 14)=true:=by rw [hop]; rfl
 have g15:(h.op == 15)=false:=by rw [hop]; rfl
 clear hop l0
 have l0:=L0 W (aO _)
 go_upto_region 25 with fail
 refine lQ 15 (MC W bt n f (pI f h.nm.toList)) (fun w w'=>w.grownBy w' (some bt)) [169,170,171,172,173,174,175,176,177,178,179,180,181,182,183,184,185,186,187,188,189,190,4] (by kernel_rfl) (by kernel_rfl) (fun _=>aO _) (by rfl) ⟨dA (below_drewN (Below.refl _ _) 1),by simpa using HM.out.next (below_drewN (Below.refl _ _) 1)⟩ ?_
 apply aQ.step
 case aD=>
  intro β A w' hβ hC hO hD
  have e0:=hO 0 (by rfl)
  have e3:=hO 3 (by rfl)
  simp [Act.eval] at e0 e3
  simp [ay,ak,au,Act.eval,Region.binds] at hD
  simp [go_sem,gd,Oper.wp,e0,e3,hD]
  exact aA.mk (aO _) (by simpa using hC) (ak.mk _ _)
 apply aQ.step
 case aD=>
  intro β A w' hβ hC hO hD
  have e0:=hO 0 (by rfl)
  have e3:=hO 3 (by rfl)
  simp [Act.eval] at e0 e3
  simp [ay,ak,au,Act.eval,Region.binds] at hD
  simp [go_sem,gd,Oper.wp,e0,e3,hD]
  exact aA.mk (aO _) (by simpa using hC) (ak.mk _ _)
 apply aQ.step
 case aD=>
  intro β A w' hβ hC hO hD
  have e0:=hO 0 (by rfl)
  have e3:=hO 3 (by rfl)
  simp [Act.eval] at e0 e3
  simp [ay,ak,au,Act.eval,Region.binds] at hD
  simp [go_sem,gd,Oper.wp,e0,e3,hD,L2,hC.1]
  exact aA.mk (aO _) (by simpa using hC) (ak.mk _ _)
 refine aQ.some (fun v w'=> ∃b,b≠bt∧v= .slice (some ⟨b,0,none⟩) 1 1∧dP w' w'.heap.size [7] (some ⟨b,0,none⟩) 0) ?_ ?_ ?_
 ·rintro v w w' hle ⟨b,hbn,rfl,hin⟩
  exact ⟨b,hbn,rfl,dP.grow hbn hle hin⟩
 ·intro β A w' hβ hC hO hD
  simp [go_sem,gd,Oper.wp]
  exact aA.mk (d:=_) (v:= .slice (some ⟨_,0,none⟩) 1 1) (dA (aj _ _)) (by simpa using hC.below (aj _ _)) ⟨_,by have:=hC.2.lt; omega,rfl,eD _ 7 _⟩
 apply aQ.step
 case aD=>
  intro β A w' hβ hC hO hD
  simp [ay,ak,au,Act.eval,Region.binds] at hD
  obtain ⟨ZE,ad2,ao5,an1,Zm,VF⟩:=hD
  simp [go_sem,gd,Oper.wp,ZE,ad2,Zm]
  refine (gI p w' aK aM aG aH _ bn _ aV bs bt bc h.nm [7] _ 1 hi (by decide) (HP.out _ hC.1) VF (HK.out _ hC.1)).mono ?_
  rintro e' w2 ⟨rfl,hb⟩
  exact aA.mk (dA hb) (by simpa using hC.below hb) (ak.mk _ _)
 apply aQ.step
 case aD=>
  intro β A w' hβ hC hO hD
  have e0:=hO 0 (by rfl)
  have e3:=hO 3 (by rfl)
  simp [Act.eval] at e0 e3
  simp [ay,ak,au,Act.eval,Region.binds] at hD
  simp [go_sem,gd,Oper.wp,e0,e3,hD]
  exact aA.mk (aO _) (by simpa using hC) (ak.mk _ _)
 refine aQ.some (fun v w'=> ∃b,b≠bt∧v= .slice (some ⟨b,0,none⟩) 2 2∧dP w' w'.heap.size [7,3] (some ⟨b,0,none⟩) 0) ?_ ?_ ?_
 ·rintro v w w' hle ⟨b,hbn,rfl,hin⟩
  exact ⟨b,hbn,rfl,dP.grow hbn hle hin⟩
 ·intro β A w' hβ hC hO hD
  simp [go_sem,gd,Oper.wp]
  exact aA.mk (d:=_) (v:= .slice (some ⟨_,0,none⟩) 2 2) (dA (aj _ _)) (by simpa using hC.below (aj _ _)) ⟨_,by have:=hC.2.lt; omega,rfl,eu _ 7 3 _⟩
 apply aQ.step
 case aD=>
  intro β A w' hβ hC hO hD
  simp [ay,ak,au,Act.eval,Region.binds] at hD
  obtain ⟨ab5,⟨aq3,an3,ac5,Uz⟩,-⟩:=hD
  simp [go_sem,gd,Oper.wp,ab5,ac5]
  refine (eZ p w' aK aM aG aH _ bn aV bs bt bc ar [7,3] _ 2 (by decide) Uz iZ.out (jk.out _ hC.1) (HK.out _ hC.1)).mono ?_
  rintro e' w2 ⟨rfl,hb⟩
  exact aA.mk (dA hb) (by simpa using hC.below hb) (ak.mk _ _)
 apply aQ.step
 case aD=>
  intro β A w' hβ hC hO hD
  simp [ay,ak,au,Act.eval,Region.binds] at hD
  simp [go_sem,gd,Oper.wp,hD]
  refine (dD (eO ar [7,3]) w').mono ?_
  rintro e' w2 ⟨rfl,rfl⟩
  exact aA.mk (aO _) (by simpa using hC) (ak.mk _ _)
 apply aQ.step
 case aD=>
  intro β A w' hβ hC hO hD
  have e0:=hO 0 (by rfl)
  have e3:=hO 3 (by rfl)
  simp [Act.eval] at e0 e3
  simp [ay,ak,au,Act.eval,Region.binds] at hD
  simp [go_sem,gd,Oper.wp,e0,e3,hD]
  exact aA.mk (aO _) (by simpa using hC) (ak.mk _ _)
 apply aQ.step
 case aD=>
  intro β A w' hβ hC hO hD
  have e0:=hO 0 (by rfl)
  have e3:=hO 3 (by rfl)
  simp [Act.eval] at e0 e3
  simp [ay,ak,au,Act.eval,Region.binds] at hD
  simp [go_sem,gd,Oper.wp,e0,e3,hD]
  exact aA.mk (aO _) (by simpa using hC) (ak.mk _ _)
 apply aQ.step
 case aD=>
  intro β A w' hβ hC hO hD
  have e0:=hO 0 (by rfl)
  have e3:=hO 3 (by rfl)
  simp [Act.eval] at e0 e3
  simp [ay,ak,au,Act.eval,Region.binds] at hD
  simp [go_sem,gd,Oper.wp,e0,e3,hD]
  exact aA.mk (aO _) (by simpa using hC) (ak.mk _ _)
 apply aQ.step
 case aD=>
  intro β A w' hβ hC hO hD
  have e0:=hO 0 (by rfl)
  have e3:=hO 3 (by rfl)
  simp [Act.eval] at e0 e3
  simp [ay,ak,au,Act.eval,Region.binds] at hD
  simp [go_sem,gd,Oper.wp,e0,e3,hD,LM,hC.1]
  exact aA.mk (aO _) (by simpa using hC) (ak.mk _ _)
 apply aQ.step
 case aD=>
  intro β A w' hβ hC hO hD
  have e0:=hO 0 (by rfl)
  have e3:=hO 3 (by rfl)
  simp [Act.eval] at e0 e3
  simp [ay,ak,au,Act.eval,Region.binds] at hD
  simp [go_sem,gd,Oper.wp,e0,e3,hD]
  exact aA.mk (aO _) (by simpa using hC) (ak.mk _ _)
 apply aQ.step
 case aD=>
  intro β A w' hβ hC hO hD
  have e0:=hO 0 (by rfl)
  have e3:=hO 3 (by rfl)
  simp [Act.eval] at e0 e3
  simp [ay,ak,au,Act.eval,Region.binds] at hD
  simp [go_sem,gd,Oper.wp,e0,e3,hD,L2,hC.1]
  exact aA.mk (aO _) (by simpa using hC) (ak.mk _ _)
 apply aQ.step
 case aD=>
  intro β A w' hβ hC hO hD
  obtain rfl:=hβ (by simp)
  simp [ay,ak,au,Act.eval,Region.binds] at hD
  simp [go_sem,gd,Oper.wp,hD]
  refine (zJ h.nm w' bt n f HN.out Mw.out (by simpa using hC.2)).mono ?_
  rintro e' w2 ⟨rfl,hm2,hg2⟩
  exact aA.mk hg2 ⟨nV hC.1 hg2,by simpa using hm2⟩ (ak.mk _ _)
 apply aQ.step
 case aD=>
  intro β A w' hβ hC hO hD
  have e0:=hO 0 (by rfl)
  have e3:=hO 3 (by rfl)
  simp [Act.eval] at e0 e3
  simp [ay,ak,au,Act.eval,Region.binds] at hD
  simp [go_sem,gd,Oper.wp,e0,e3,hD]
  exact aA.mk (aO _) (by simpa using hC) (ak.mk _ _)
 apply aQ.step
 case aD=>
  intro β A w' hβ hC hO hD
  have e0:=hO 0 (by rfl)
  have e3:=hO 3 (by rfl)
  simp [Act.eval] at e0 e3
  simp [ay,ak,au,Act.eval,Region.binds] at hD
  simp [go_sem,gd,Oper.wp,e0,e3,hD]
  exact aA.mk (aO _) (by simpa using hC) (ak.mk _ _)
 apply aQ.step
 case aD=>
  intro β A w' hβ hC hO hD
  have e0:=hO 0 (by rfl)
  have e3:=hO 3 (by rfl)
  simp [Act.eval] at e0 e3
  simp [ay,ak,au,Act.eval,Region.binds] at hD
  simp [go_sem,gd,Oper.wp,e0,e3,hD,L5,L6,L7,L8,hC.1]
  exact aA.mk (aO _) (by simpa using hC) (ak.mk _ _)
 apply aQ.step
 case aD=>
  intro β A w' hβ hC hO hD
  simp [ay,ak,au,Act.eval,Region.binds] at hD
  simp [go_sem,gd,Oper.wp,hD]
  refine (pY p w' aK aM aG aH _ bn _ aV bs bt bc h.dN h.xn h.dM h.aR dH bR hi (HP.out _ hC.1) hxk (uJ.out _ hC.1) (gU.out _ hC.1) (HK.out _ hC.1)).mono ?_
  rintro e' w2 ⟨rfl,hb⟩
  exact aA.mk (dA hb) (by simpa using hC.below hb) (ak.mk _ _)
 refine aQ.some (fun v w'=> ∃b,b≠bt∧v= .slice (some ⟨b,0,none⟩) 4 4∧dP w' w'.heap.size [bD (mean p i h.nm) [7],nest (eO ar [7,3]),(jL (f h.nm.toList)),kU p i h.dN h.xn h.dM h.aR] (some ⟨b,0,none⟩) 0) ?_ ?_ ?_
 ·rintro v w w' hle ⟨b,hbn,rfl,hin⟩
  exact ⟨b,hbn,rfl,dP.grow hbn hle hin⟩
 ·intro β A w' hβ hC hO hD
  simp [ay,ak,au,Act.eval,Region.binds] at hD
  simp [go_sem,gd,Oper.wp,hD]
  exact aA.mk (d:=_) (v:= .slice (some ⟨_,0,none⟩) 4 4) (dA (aj _ _)) (by simpa using hC.below (aj _ _)) ⟨_,by have:=hC.2.lt; omega,rfl,Oi _ _ _ _ _ _⟩
 apply aQ.step
 case aD=>
  intro β A w' hβ hC hO hD
  simp [ay,ak,au,Act.eval,Region.binds] at hD
  obtain ⟨⟨ap9,an0,ZG,WK⟩,-⟩:=hD
  simp [go_sem,gd,Oper.wp,ZG]
  refine (dF [bD (mean p i h.nm) [7],nest (eO ar [7,3]),(jL (f h.nm.toList)),kU p i h.dN h.xn h.dM h.aR] w' _ _ (by simp [maxLen]) WK).mono ?_
  rintro e' w2 ⟨rfl,rfl⟩
  exact aA.mk (aO _) (by simpa using hC) (ak.mk _ _)
 apply aQ.step
 case aD=>
  intro β A w' hβ hC hO hD
  have e0:=hO 0 (by rfl)
  have e3:=hO 3 (by rfl)
  simp [Act.eval] at e0 e3
  simp [ay,ak,au,Act.eval,Region.binds] at hD
  simp [go_sem,gd,Oper.wp,e0,e3,hD]
  exact aA.mk (aO _) (by simpa using hC) (ak.mk _ _)
 simp only [List.nil_append,List.cons_append]
 intro wz fH
 intro v0 h0 v1 h1 v2 h2 v3 h3 v4 h4 v5 h5 v6 h6 v7 h7 v8 h8 v9 h9 v10 h10 v11 h11 v12 h12 v13 sJ v14 nD v15 wF v16 h16 v17 xB v18 h18 v19 h19 v20 h20 v21 h21 v22 h22
 have hl':v22=_:=h22
 subst hl'
 clear h0 h1 h2 h3 h4 h5 h6 h7 h8 h9 h10 h11 h12 sJ nD wF h16 xB h18 h19 h20 h21 h22
 refine eG.nil ?_
 have HZ:Hid (MC W bt n f (pI f h.nm.toList) true wz):=Lib.hid (by simpa using fH)
 clear fH
 go_simp
 go_wp2_with fail
 go_ret
 refine vE ?_ HZ.out HG.out
 rw [← HR.out]
 rfl
end
end Go.Proofs.YtdajkddgnfgijaaGreatDoor
end
section
set_option linter.unusedSimpArgs false
set_option linter.unusedVariables false
namespace Go.Proofs.YtdajkddgnfgijaaGreatDoor
open Go.RowKit
open Md
theorem QF {w:World} {B b off:Nat} {t:Th} {r:List Th} (h:gJ w B (t ::r) (some ⟨b,off,none⟩) 0):w.cell? ⟨b,off,none⟩=some (.string t.nm):=by
 obtain ⟨⟨b1,off1,fF,dW,bV,bC,e,-,x0,-⟩,-⟩:=h
 injection e with e; injection e with e1 e2; subst e1; subst e2
 simpa using x0
section
variable (p:Pr) (w:World) (aK aM:Option Addr) (aG aH:Nat) (bn:Option Addr) (aV bs bt bc:Nat)
set_option maxHeartbeats 4000000 in
set_option maxRecDepth 100000 in
theorem QE (j:Nat) (t t0:Th) (r r0:List Th) (hd:p.ts.drop j=t ::r) (hts:p.ts=t0 ::r0) (h:aX) (b e ar:aP) (s:Sl) (hi:dR (j:Int)) (hp: ∀w',w.grownBy w' (some bs)→p.At w' aK aM) (hok:sj h b e) (hex: ∀w',w.grownBy w' (some bs)→h.aR.At w' w'.heap.size s.dH 0) (dI: ∀w',w.grownBy w' (some bs)→dw w') (har:ar.len≤maxLen) (hat: ∀w',w.grownBy w' (some bs)→ar.At w' w'.heap.size bn 0) (hh:Holds w (gW bc p aK aM aG aH (j:Int) bn ar.len aV bs bt)) (hbc:bc≠bs) (n:Nat) (f:List UInt8→Bool) (hn:n < maxLen) (hmap:gQ w bs n f) (hop:h.op=12):
 Calls Tryz.prog 151 #[.pointer (some ⟨bc,0,none⟩),cO h b e s] w (EU (eP [bD (mean p (j:Int) h.nm) [8],nest (eO ar [7,8,3] || (h.nm.toList == t.nm.toList || h.nm.toList == t0.nm.toList)),(jL (f h.nm.toList))]) w bs (n + 1) (pI f h.nm.toList)):=by
 have HH:=Lib.hid (show Sit w w _ from ⟨Below.refl _ _,hh⟩)
 obtain ⟨dZ,dG,dH,bR,bV,bC,eB,dK⟩:=s
 have hxk:=hok.2.2.2.2.2.1
 have hns:=hok.2.2.1
 generalize hres:eP [bD (mean p (j:Int) h.nm) [8],nest (eO ar [7,8,3] || (h.nm.toList == t.nm.toList || h.nm.toList == t0.nm.toList)),(jL (f h.nm.toList))]=res
 have HR:=Lib.hid hres
 have bY:=Lib.hid hop
 have Mw:=Lib.hid hns
 have HN:=Lib.hid hn
 have hlt:=hmap.lt
 clear hres hop hn hns
 unfold cO
 dsimp only
 dsimp only at hex
 go_enter Tryz.func151,Tryz.ntmps151
 go_upto_region 1 with fail
 generalize hW:World.alloc w _=W
 generalize Value.agg #[_,_,_,_,_,_,_,_,_,_,_]=a0
 have HX:Hid (Sit w W (ow w.heap.size h b e ⟨dZ,dG,dH,bR,bV,bC,eB,dK⟩ (gW bc p aK aM aG aH (j:Int) bn ar.len aV bs bt))):=Lib.hid (by rw [← hW]; exact HH.out.lU rfl _ _ _ _ _ _ _ _ _ _ _ _)
 clear hW HH
 have HG:Hid (∀w',W.grownBy w' (some bs)→w.grownBy w' (some bs)):=Lib.hid (fun w' hg=>nV (dA HX.out.1) hg)
 have HP:=Lib.hid (fun w' hg=>hp w' (HG.out w' hg))
 have gU:=Lib.hid (fun w' hg=>dI w' (HG.out w' hg))
 have uJ:=Lib.hid (fun w' hg=>hex w' (HG.out w' hg))
 have jk:=Lib.hid (fun w' hg=>hat w' (HG.out w' hg))
 have iZ:=Lib.hid har
 have HM:=Lib.hid (hmap.next HX.out.1)
 have HF:Hid (∀w',W.grownBy w' (some bs)→Holds w' (ow w.heap.size h b e ⟨dZ,dG,dH,bR,bV,bC,eB,dK⟩ (gW bc p aK aM aG aH (j:Int) bn ar.len aV bs bt))):=Lib.hid (fun w' hg=>HX.out.mc hg (by
  intro x hx
  simp only [ow,gW,List.mem_cons,List.not_mem_nil,or_false] at hx
  rcases hx with rfl | rfl | rfl | rfl | rfl | rfl | rfl | rfl | rfl | rfl | rfl | rfl | rfl | rfl | rfl | rfl | rfl <;> first | exact hbc | (show w.heap.size≠bs; omega)))
 have HK:Hid (∀w',W.grownBy w' (some bs)→Holds w' (gW bc p aK aM aG aH (j:Int) bn ar.len aV bs bt)):=Lib.hid (fun w' hg=>(HF.out w' hg).2.2.2.2.2.2.2.2.2.2.2)
 clear hp dI hh hat har hex hmap hlt hbc
 have L0: ∀w',W.grownBy w' (some bs)→w'.cell? ⟨w.heap.size,0,none⟩=some (.int .i64 h.op):=fun w' hb=>(HF.out w' hb).1.2
 have L2: ∀w',W.grownBy w' (some bs)→w'.cell? ⟨w.heap.size,2,none⟩=some (.string h.nm):=fun w' hb=>(HF.out w' hb).2.2.1.2
 have L5: ∀w',W.grownBy w' (some bs)→w'.cell? ⟨w.heap.size,5,none⟩=some (.int .i64 h.dN):=fun w' hb=>(HF.out w' hb).2.2.2.2.2.1.2
 have L6: ∀w',W.grownBy w' (some bs)→w'.cell? ⟨w.heap.size,6,none⟩=some (.int .i64 h.xn):=fun w' hb=>(HF.out w' hb).2.2.2.2.2.2.1.2
 have L7: ∀w',W.grownBy w' (some bs)→w'.cell? ⟨w.heap.size,7,none⟩=some (.string h.dM):=fun w' hb=>(HF.out w' hb).2.2.2.2.2.2.2.1.2
 have L8: ∀w',W.grownBy w' (some bs)→w'.cell? ⟨w.heap.size,8,none⟩=some (.slice dH h.aR.len bR):=fun w' hb=>(HF.out w' hb).2.2.2.2.2.2.2.2.1.2
 have LM: ∀w',W.grownBy w' (some bs)→w'.cell? ⟨bc,4,none⟩=some (.map (some bs)):=fun w' hb=>(HK.out w' hb).2.2.2.2.1.2
 have l0:=L0 W (aO _)
 have hop:=bY.out
 have g1:(h.op == 1)=false:=by rw [hop]; rfl
 have g2:(h.op == 2)=false:=by rw [hop]; rfl
 have g3:(h.op == 3)=false:=by rw [hop]; rfl
 have g4:(h.op == 4)=false:=by rw [hop]; rfl
 have g5:(h.op == 5)=false:=by rw [hop]; rfl
 have g6:(h.op == 6)=false:=by rw [hop]; rfl
 have g7:(h.op == 7)=false:=by rw [hop]; rfl
 have g8:(h.op == 8)=false:=by rw [hop]; rfl
 have g9:(h.op == 9)=false:=by rw [hop]; rfl
 have g10:(h.op == 10)=false:=by rw [hop]; rfl
 have g11:(h.op == 11)=false:=by rw [hop]; rfl
 have g12:(h.op == 12)=true:=by rw [hop]; rfl
 have g13:(h.op == 13)=false:=by rw [hop]; rfl
 have g14:(h.op == 14)=false:=by rw [hop]; rfl
 have g15:(h.op == 15)=false:=by rw [hop]; rfl
 clear hop l0
 have l0:=L0 W (aO _)
 go_upto_region 21 with fail
 have hpos:0 < p.ts.length:=by rw [hts]; simp
 have XJ:(0:Int) < p.ts.length:=by omega
 obtain ⟨b0,uL,eT⟩: ∃b0 uL,aM=some ⟨b0,uL,none⟩:=by
  have:=(HP.out W (aO _)).2.2.2
  rw [hts] at this
  obtain ⟨⟨b1,off1,fF,dW,bV,bC,e,-⟩,-⟩:=this
  exact ⟨b1,off1,e⟩
 subst eT
 have LN: ∀w',W.grownBy w' (some bs)→w'.cell? ⟨b0,uL,none⟩=some (.string t0.nm):=fun w' hb=>by
  have:=(HP.out w' hb).2.2.2
  rw [hts] at this
  exact QF this
 have LT: ∀w',W.grownBy w' (some bs)→w'.cell? ⟨bc,1,none⟩=some (.slice (some ⟨b0,uL,none⟩) p.ts.length aH):=fun w' hb=>(HK.out w' hb).2.1.2
 cases hq:eO ar [7,8,3]
 ·cases ho:(h.nm.toList == t.nm.toList)
  ·refine lQ 35 (MC W bs n f (pI f h.nm.toList)) (fun w w'=>w.grownBy w' (some bs)) [109,110,111,112,113,114,115,116,117,118,119,120,121,122,123,124,125,126,127,128,129,130,131,132,133,134,135,136,137,138,139,140,141,142,143,144,145,146,4] (by kernel_rfl) (by kernel_rfl) (fun _=>aO _) (by rfl) ⟨dA (below_drewN (Below.refl _ _) 1),by simpa using HM.out.next (below_drewN (Below.refl _ _) 1)⟩ ?_
   apply aQ.step
   case aD=>
    intro β A w' hβ hC hO hD
    have e0:=hO 0 (by rfl)
    have e3:=hO 3 (by rfl)
    simp [Act.eval] at e0 e3
    simp [ay,ak,au,Act.eval,Region.binds] at hD
    simp [go_sem,gd,Oper.wp,e0,e3,hD]
    exact aA.mk (aO _) (by simpa using hC) (ak.mk _ _)
   apply aQ.step
   case aD=>
    intro β A w' hβ hC hO hD
    have e0:=hO 0 (by rfl)
    have e3:=hO 3 (by rfl)
    simp [Act.eval] at e0 e3
    simp [ay,ak,au,Act.eval,Region.binds] at hD
    simp [go_sem,gd,Oper.wp,e0,e3,hD]
    exact aA.mk (aO _) (by simpa using hC) (ak.mk _ _)
   simp only [List.nil_append,List.cons_append]
   apply aQ.step
   case aD=>
    intro β A w' hβ hC hO hD
    have e0:=hO 0 (by rfl)
    have e3:=hO 3 (by rfl)
    simp [Act.eval] at e0 e3
    simp [ay,ak,au,Act.eval,Region.binds] at hD
    simp [go_sem,gd,Oper.wp,e0,e3,hD,L2,hC.1]
    exact aA.mk (aO _) (by simpa using hC) (ak.mk _ _)
   simp only [List.nil_append,List.cons_append]
   refine aQ.some (fun v w'=> ∃b,b≠bs∧v= .slice (some ⟨b,0,none⟩) 1 1∧dP w' w'.heap.size [8] (some ⟨b,0,none⟩) 0) ?_ ?_ ?_
   ·rintro v w w' hle ⟨b,hbn,rfl,hin⟩
    exact ⟨b,hbn,rfl,dP.grow hbn hle hin⟩
   ·intro β A w' hβ hC hO hD
    simp [go_sem,gd,Oper.wp]
    exact aA.mk (d:=_) (v:= .slice (some ⟨_,0,none⟩) 1 1) (dA (aj _ _)) (by simpa using hC.below (aj _ _)) ⟨_,by have:=hC.2.lt; omega,rfl,eD _ 8 _⟩
   simp only [List.nil_append,List.cons_append]
   apply aQ.step
   case aD=>
    intro β A w' hβ hC hO hD
    simp [ay,ak,au,Act.eval,Region.binds] at hD
    obtain ⟨Gv,GI,WE,Ru,Gz,Ao⟩:=hD
    simp [go_sem,gd,Oper.wp,Gv,GI,Gz]
    refine (gI p w' aK (some ⟨b0,uL,none⟩) aG aH _ bn _ aV bs bt bc h.nm [8] _ 1 hi (by decide) (HP.out _ hC.1) Ao (HK.out _ hC.1)).mono ?_
    rintro e' w2 ⟨rfl,hb⟩
    exact aA.mk (dA hb) (by simpa using hC.below hb) (ak.mk _ _)
   simp only [List.nil_append,List.cons_append]
   apply aQ.step
   case aD=>
    intro β A w' hβ hC hO hD
    have e0:=hO 0 (by rfl)
    have e3:=hO 3 (by rfl)
    simp [Act.eval] at e0 e3
    simp [ay,ak,au,Act.eval,Region.binds] at hD
    simp [go_sem,gd,Oper.wp,e0,e3,hD]
    exact aA.mk (aO _) (by simpa using hC) (ak.mk _ _)
   simp only [List.nil_append,List.cons_append]
   refine aQ.some (fun v w'=> ∃b,b≠bs∧v= .slice (some ⟨b,0,none⟩) 3 3∧dP w' w'.heap.size [7,8,3] (some ⟨b,0,none⟩) 0) ?_ ?_ ?_
   ·rintro v w w' hle ⟨b,hbn,rfl,hin⟩
    exact ⟨b,hbn,rfl,dP.grow hbn hle hin⟩
   ·intro β A w' hβ hC hO hD
    simp [go_sem,gd,Oper.wp]
    exact aA.mk (d:=_) (v:= .slice (some ⟨_,0,none⟩) 3 3) (dA (aj _ _)) (by simpa using hC.below (aj _ _)) ⟨_,by have:=hC.2.lt; omega,rfl,lX _ 7 8 3 _⟩
   simp only [List.nil_append,List.cons_append]
   apply aQ.step
   case aD=>
    intro β A w' hβ hC hO hD
    simp [ay,ak,au,Act.eval,Region.binds] at hD
    obtain ⟨He,⟨UU,Ro,H6,Ai⟩,-⟩:=hD
    simp [go_sem,gd,Oper.wp,He,H6]
    refine (hq ▸ eZ p w' aK (some ⟨b0,uL,none⟩) aG aH (j:Int) bn aV bs bt bc ar [7,8,3] _ 3 (by decide) Ai iZ.out (jk.out _ hC.1) (HK.out _ hC.1)).mono ?_
    rintro e' w2 ⟨rfl,hb⟩
    exact aA.mk (dA hb) (by simpa using hC.below hb) (ak.mk _ _)
   simp only [List.nil_append,List.cons_append]
   apply aQ.step
   case aD=>
    intro β A w' hβ hC hO hD
    have e0:=hO 0 (by rfl)
    have e3:=hO 3 (by rfl)
    simp [Act.eval] at e0 e3
    simp [ay,ak,au,Act.eval,Region.binds] at hD
    simp [go_sem,gd,Oper.wp,e0,e3,hD]
    exact aA.mk (aO _) (by simpa using hC) (ak.mk _ _)
   simp only [List.nil_append,List.cons_append]
   apply aQ.step
   case aD=>
    intro β A w' hβ hC hO hD
    have e0:=hO 0 (by rfl)
    have e3:=hO 3 (by rfl)
    simp [Act.eval] at e0 e3
    simp [ay,ak,au,Act.eval,Region.binds] at hD
    simp [go_sem,gd,Oper.wp,e0,e3,hD]
    exact aA.mk (aO _) (by simpa using hC) (ak.mk _ _)
   simp only [List.nil_append,List.cons_append]
   apply aQ.step
   case aD=>
    intro β A w' hβ hC hO hD
    have e0:=hO 0 (by rfl)
    have e3:=hO 3 (by rfl)
    simp [Act.eval] at e0 e3
    simp [ay,ak,au,Act.eval,Region.binds] at hD
    simp [go_sem,gd,Oper.wp,e0,e3,hD,L2,hC.1]
    exact aA.mk (aO _) (by simpa using hC) (ak.mk _ _)
   simp only [List.nil_append,List.cons_append]
   apply aQ.step
   case aD=>
    intro β A w' hβ hC hO hD
    have e0:=hO 0 (by rfl)
    have e3:=hO 3 (by rfl)
    simp [Act.eval] at e0 e3
    simp [ay,ak,au,Act.eval,Region.binds] at hD
    simp [go_sem,gd,Oper.wp,e0,e3,hD]
    exact aA.mk (aO _) (by simpa using hC) (ak.mk _ _)
   simp only [List.nil_append,List.cons_append]
   apply aQ.step
   case aD=>
    intro β A w' hβ hC hO hD
    simp [ay,ak,au,Act.eval,Region.binds] at hD
    simp [go_sem,gd,Oper.wp,hD]
    refine (Ad p w' aK (some ⟨b0,uL,none⟩) aG aH bn ar.len aV bs bt bc j t r hd (HP.out _ hC.1) (HK.out _ hC.1)).mono ?_
    rintro e' w2 ⟨rfl,hb⟩
    exact aA.mk (dA hb) (by simpa using hC.below hb) (ak.mk _ _)
   simp only [List.nil_append,List.cons_append]
   apply aQ.step
   case aD=>
    intro β A w' hβ hC hO hD
    have e0:=hO 0 (by rfl)
    have e3:=hO 3 (by rfl)
    simp [Act.eval] at e0 e3
    simp [ay,ak,au,Act.eval,Region.binds] at hD
    simp [go_sem,gd,Oper.wp,e0,e3,hD,ho]
    exact aA.mk (aO _) (by simpa using hC) (ak.mk _ _)
   simp only [List.nil_append,List.cons_append]
   apply aQ.step
   case aD=>
    intro β A w' hβ hC hO hD
    have e0:=hO 0 (by rfl)
    have e3:=hO 3 (by rfl)
    simp [Act.eval] at e0 e3
    simp [ay,ak,au,Act.eval,Region.binds] at hD
    simp [go_sem,gd,Oper.wp,e0,e3,hD]
    exact aA.mk (aO _) (by simpa using hC) (ak.mk _ _)
   simp only [List.nil_append,List.cons_append]
   apply aQ.step
   case aD=>
    intro β A w' hβ hC hO hD
    have e0:=hO 0 (by rfl)
    have e3:=hO 3 (by rfl)
    simp [Act.eval] at e0 e3
    simp [ay,ak,au,Act.eval,Region.binds] at hD
    simp [go_sem,gd,Oper.wp,e0,e3,hD]
    exact aA.mk (aO _) (by simpa using hC) (ak.mk _ _)
   simp only [List.nil_append,List.cons_append]
   apply aQ.step
   case aD=>
    intro β A w' hβ hC hO hD
    have e0:=hO 0 (by rfl)
    have e3:=hO 3 (by rfl)
    simp [Act.eval] at e0 e3
    simp [ay,ak,au,Act.eval,Region.binds] at hD
    simp [go_sem,gd,Oper.wp,e0,e3,hD]
    exact aA.mk (aO _) (by simpa using hC) (ak.mk _ _)
   simp only [List.nil_append,List.cons_append]
   apply aQ.step
   case aD=>
    intro β A w' hβ hC hO hD
    have e0:=hO 0 (by rfl)
    have e3:=hO 3 (by rfl)
    simp [Act.eval] at e0 e3
    simp [ay,ak,au,Act.eval,Region.binds] at hD
    simp [go_sem,gd,Oper.wp,e0,e3,hD,L2,hC.1]
    exact aA.mk (aO _) (by simpa using hC) (ak.mk _ _)
   simp only [List.nil_append,List.cons_append]
   apply aQ.step
   case aD=>
    intro β A w' hβ hC hO hD
    have e0:=hO 0 (by rfl)
    have e3:=hO 3 (by rfl)
    simp [Act.eval] at e0 e3
    simp [ay,ak,au,Act.eval,Region.binds] at hD
    simp [go_sem,gd,Oper.wp,e0,e3,hD]
    exact aA.mk (aO _) (by simpa using hC) (ak.mk _ _)
   simp only [List.nil_append,List.cons_append]
   apply aQ.step
   case aD=>
    intro β A w' hβ hC hO hD
    have e0:=hO 0 (by rfl)
    have e3:=hO 3 (by rfl)
    simp [Act.eval] at e0 e3
    simp [ay,ak,au,Act.eval,Region.binds] at hD
    simp [go_sem,gd,Oper.wp,e0,e3,hD]
    exact aA.mk (aO _) (by simpa using hC) (ak.mk _ _)
   simp only [List.nil_append,List.cons_append]
   apply aQ.step
   case aD=>
    intro β A w' hβ hC hO hD
    have e0:=hO 0 (by rfl)
    have e3:=hO 3 (by rfl)
    simp [Act.eval] at e0 e3
    simp [ay,ak,au,Act.eval,Region.binds] at hD
    simp [go_sem,gd,Oper.wp,e0,e3,hD]
    exact aA.mk (aO _) (by simpa using hC) (ak.mk _ _)
   simp only [List.nil_append,List.cons_append]
   apply aQ.step
   case aD=>
    intro β A w' hβ hC hO hD
    have e0:=hO 0 (by rfl)
    have e3:=hO 3 (by rfl)
    simp [Act.eval] at e0 e3
    simp [ay,ak,au,Act.eval,Region.binds] at hD
    simp [go_sem,gd,Oper.wp,e0,e3,hD]
    exact aA.mk (aO _) (by simpa using hC) (ak.mk _ _)
   simp only [List.nil_append,List.cons_append]
   apply aQ.step
   case aD=>
    intro β A w' hβ hC hO hD
    have e0:=hO 0 (by rfl)
    have e3:=hO 3 (by rfl)
    simp [Act.eval] at e0 e3
    simp [ay,ak,au,Act.eval,Region.binds] at hD
    simp [go_sem,gd,Oper.wp,e0,e3,hD,LT,hC.1]
    exact aA.mk (aO _) (by simpa using hC) (ak.mk _ _)
   simp only [List.nil_append,List.cons_append]
   apply aQ.step
   case aD=>
    intro β A w' hβ hC hO hD
    have e0:=hO 0 (by rfl)
    have e3:=hO 3 (by rfl)
    simp [Act.eval] at e0 e3
    simp [ay,ak,au,Act.eval,Region.binds] at hD
    simp [go_sem,gd,Oper.wp,e0,e3,hD,hpos,XJ]
    exact aA.mk (aO _) (by simpa using hC) (ak.mk _ _)
   simp only [List.nil_append,List.cons_append]
   apply aQ.step
   case aD=>
    intro β A w' hβ hC hO hD
    have e0:=hO 0 (by rfl)
    have e3:=hO 3 (by rfl)
    simp [Act.eval] at e0 e3
    simp [ay,ak,au,Act.eval,Region.binds] at hD
    simp [go_sem,gd,Oper.wp,e0,e3,hD]
    exact aA.mk (aO _) (by simpa using hC) (ak.mk _ _)
   simp only [List.nil_append,List.cons_append]
   apply aQ.step
   case aD=>
    intro β A w' hβ hC hO hD
    have e0:=hO 0 (by rfl)
    have e3:=hO 3 (by rfl)
    simp [Act.eval] at e0 e3
    simp [ay,ak,au,Act.eval,Region.binds] at hD
    simp [go_sem,gd,Oper.wp,e0,e3,hD,LN,hC.1]
    exact aA.mk (aO _) (by simpa using hC) (ak.mk _ _)
   simp only [List.nil_append,List.cons_append]
   apply aQ.step
   case aD=>
    intro β A w' hβ hC hO hD
    have e0:=hO 0 (by rfl)
    have e3:=hO 3 (by rfl)
    simp [Act.eval] at e0 e3
    simp [ay,ak,au,Act.eval,Region.binds] at hD
    simp [go_sem,gd,Oper.wp,e0,e3,hD]
    exact aA.mk (aO _) (by simpa using hC) (ak.mk _ _)
   simp only [List.nil_append,List.cons_append]
   apply aQ.step
   case aD=>
    intro β A w' hβ hC hO hD
    have e0:=hO 0 (by rfl)
    have e3:=hO 3 (by rfl)
    simp [Act.eval] at e0 e3
    simp [ay,ak,au,Act.eval,Region.binds] at hD
    simp [go_sem,gd,Oper.wp,e0,e3,hD]
    exact aA.mk (aO _) (by simpa using hC) (ak.mk _ _)
   simp only [List.nil_append,List.cons_append]
   apply aQ.step
   case aD=>
    intro β A w' hβ hC hO hD
    simp [ay,ak,au,Act.eval,Region.binds] at hD
    simp [go_sem,gd,Oper.wp,hD]
    refine (dD (h.nm.toList == t0.nm.toList) w').mono ?_
    rintro e' w2 ⟨rfl,rfl⟩
    exact aA.mk (aO _) (by simpa using hC) (ak.mk _ _)
   simp only [List.nil_append,List.cons_append]
   apply aQ.step
   case aD=>
    intro β A w' hβ hC hO hD
    have e0:=hO 0 (by rfl)
    have e3:=hO 3 (by rfl)
    simp [Act.eval] at e0 e3
    simp [ay,ak,au,Act.eval,Region.binds] at hD
    simp [go_sem,gd,Oper.wp,e0,e3,hD]
    exact aA.mk (aO _) (by simpa using hC) (ak.mk _ _)
   simp only [List.nil_append,List.cons_append]
   apply aQ.step
   case aD=>
    intro β A w' hβ hC hO hD
    have e0:=hO 0 (by rfl)
    have e3:=hO 3 (by rfl)
    simp [Act.eval] at e0 e3
    simp [ay,ak,au,Act.eval,Region.binds] at hD
    simp [go_sem,gd,Oper.wp,e0,e3,hD]
    exact aA.mk (aO _) (by simpa using hC) (ak.mk _ _)
   simp only [List.nil_append,List.cons_append]
   apply aQ.step
   case aD=>
    intro β A w' hβ hC hO hD
    have e0:=hO 0 (by rfl)
    have e3:=hO 3 (by rfl)
    simp [Act.eval] at e0 e3
    simp [ay,ak,au,Act.eval,Region.binds] at hD
    simp [go_sem,gd,Oper.wp,e0,e3,hD]
    exact aA.mk (aO _) (by simpa using hC) (ak.mk _ _)
   simp only [List.nil_append,List.cons_append]
   apply aQ.step
   case aD=>
    intro β A w' hβ hC hO hD
    have e0:=hO 0 (by rfl)
    have e3:=hO 3 (by rfl)
    simp [Act.eval] at e0 e3
    simp [ay,ak,au,Act.eval,Region.binds] at hD
    simp [go_sem,gd,Oper.wp,e0,e3,hD,LM,hC.1]
    exact aA.mk (aO _) (by simpa using hC) (ak.mk _ _)
   simp only [List.nil_append,List.cons_append]
   apply aQ.step
   case aD=>
    intro β A w' hβ hC hO hD
    have e0:=hO 0 (by rfl)
    have e3:=hO 3 (by rfl)
    simp [Act.eval] at e0 e3
    simp [ay,ak,au,Act.eval,Region.binds] at hD
    simp [go_sem,gd,Oper.wp,e0,e3,hD]
    exact aA.mk (aO _) (by simpa using hC) (ak.mk _ _)
   simp only [List.nil_append,List.cons_append]
   apply aQ.step
   case aD=>
    intro β A w' hβ hC hO hD
    have e0:=hO 0 (by rfl)
    have e3:=hO 3 (by rfl)
    simp [Act.eval] at e0 e3
    simp [ay,ak,au,Act.eval,Region.binds] at hD
    simp [go_sem,gd,Oper.wp,e0,e3,hD,L2,hC.1]
    exact aA.mk (aO _) (by simpa using hC) (ak.mk _ _)
   simp only [List.nil_append,List.cons_append]
   apply aQ.step
   case aD=>
    intro β A w' hβ hC hO hD
    obtain rfl:=hβ (by simp)
    simp [ay,ak,au,Act.eval,Region.binds] at hD
    simp [go_sem,gd,Oper.wp,hD]
    refine (zJ h.nm w' bs n f HN.out Mw.out (by simpa using hC.2)).mono ?_
    rintro e' w2 ⟨rfl,hm2,hg2⟩
    exact aA.mk hg2 ⟨nV hC.1 hg2,by simpa using hm2⟩ (ak.mk _ _)
   simp only [List.nil_append,List.cons_append]
   refine aQ.some (fun v w'=> ∃b,b≠bs∧v= .slice (some ⟨b,0,none⟩) 3 3∧dP w' w'.heap.size [bD (mean p (j:Int) h.nm) [8],nest (h.nm.toList == t0.nm.toList),(jL (f h.nm.toList))] (some ⟨b,0,none⟩) 0) ?_ ?_ ?_
   ·rintro v w w' hle ⟨b,hbn,rfl,hin⟩
    exact ⟨b,hbn,rfl,dP.grow hbn hle hin⟩
   ·intro β A w' hβ hC hO hD
    simp [ay,ak,au,Act.eval,Region.binds] at hD
    simp [go_sem,gd,Oper.wp,hD]
    exact aA.mk (d:=_) (v:= .slice (some ⟨_,0,none⟩) 3 3) (dA (aj _ _)) (by simpa using hC.below (aj _ _)) ⟨_,by have:=hC.2.lt; omega,rfl,lX _ _ _ _ _⟩
   simp only [List.nil_append,List.cons_append]
   apply aQ.step
   case aD=>
    intro β A w' hβ hC hO hD
    simp [ay,ak,au,Act.eval,Region.binds] at hD
    obtain ⟨⟨V6,Sd,Iy,Bc⟩,-⟩:=hD
    simp [go_sem,gd,Oper.wp,Iy]
    refine (dF [bD (mean p (j:Int) h.nm) [8],nest (h.nm.toList == t0.nm.toList),(jL (f h.nm.toList))] w' _ _ (by simp [maxLen]) Bc).mono ?_
    rintro e' w2 ⟨rfl,rfl⟩
    exact aA.mk (aO _) (by simpa using hC) (ak.mk _ _)
   simp only [List.nil_append,List.cons_append]
   apply aQ.step
   case aD=>
    intro β A w' hβ hC hO hD
    have e0:=hO 0 (by rfl)
    have e3:=hO 3 (by rfl)
    simp [Act.eval] at e0 e3
    simp [ay,ak,au,Act.eval,Region.binds] at hD
    simp [go_sem,gd,Oper.wp,e0,e3,hD]
    exact aA.mk (aO _) (by simpa using hC) (ak.mk _ _)
   simp only [List.nil_append,List.cons_append]
   intro wz fH
   intro v0 h0 v1 h1 v2 h2 v3 h3 v4 h4 v5 h5 v6 h6 v7 h7 v8 h8 v9 h9 v10 h10 v11 h11 v12 h12 v13 sJ v14 nD v15 wF v16 h16 v17 xB v18 h18 v19 h19 v20 h20 v21 h21 v22 h22 v23 h23 v24 MJ v25 Nb v26 Oc v27 h27 v28 OE v29 OL v30 Oo v31 h31 v32 h32 v33 Nh v34 Om v35 NM v36 N7 v37 h37 v38 Fw
   have hl':v38=_:=Fw
   subst hl'
   clear h0 h1 h2 h3 h4 h5 h6 h7 h8 h9 h10 h11 h12 sJ nD wF h16 xB h18 h19 h20 h21 h22 h23 MJ Nb Oc h27 OE OL Oo h31 h32 Nh Om NM N7 h37 Fw
   refine eG.nil ?_
   have HZ:Hid (MC W bs n f (pI f h.nm.toList) true wz):=Lib.hid (by simpa using fH)
   clear fH
   go_simp
   go_wp2_with fail
   go_ret
   refine vE ?_ HZ.out HG.out
   rw [← HR.out,hq,ho]
   try rfl
  ·refine lQ 35 (MC W bs n f (pI f h.nm.toList)) (fun w w'=>w.grownBy w' (some bs)) [109,110,111,112,113,114,115,116,117,118,119,120,121,122,123,124,125,126,127,128,129,130,131,132,133,134,135,136,137,138,139,140,141,142,143,144,145,146,4] (by kernel_rfl) (by kernel_rfl) (fun _=>aO _) (by rfl) ⟨dA (below_drewN (Below.refl _ _) 1),by simpa using HM.out.next (below_drewN (Below.refl _ _) 1)⟩ ?_
   apply aQ.step
   case aD=>
    intro β A w' hβ hC hO hD
    have e0:=hO 0 (by rfl)
    have e3:=hO 3 (by rfl)
    simp [Act.eval] at e0 e3
    simp [ay,ak,au,Act.eval,Region.binds] at hD
    simp [go_sem,gd,Oper.wp,e0,e3,hD]
    exact aA.mk (aO _) (by simpa using hC) (ak.mk _ _)
   apply aQ.step
   case aD=>
    intro β A w' hβ hC hO hD
    have e0:=hO 0 (by rfl)
    have e3:=hO 3 (by rfl)
    simp [Act.eval] at e0 e3
    simp [ay,ak,au,Act.eval,Region.binds] at hD
    simp [go_sem,gd,Oper.wp,e0,e3,hD]
    exact aA.mk (aO _) (by simpa using hC) (ak.mk _ _)
   simp only [List.nil_append,List.cons_append]
   apply aQ.step
   case aD=>
    intro β A w' hβ hC hO hD
    have e0:=hO 0 (by rfl)
    have e3:=hO 3 (by rfl)
    simp [Act.eval] at e0 e3
    simp [ay,ak,au,Act.eval,Region.binds] at hD
    simp [go_sem,gd,Oper.wp,e0,e3,hD,L2,hC.1]
    exact aA.mk (aO _) (by simpa using hC) (ak.mk _ _)
   simp only [List.nil_append,List.cons_append]
   refine aQ.some (fun v w'=> ∃b,b≠bs∧v= .slice (some ⟨b,0,none⟩) 1 1∧dP w' w'.heap.size [8] (some ⟨b,0,none⟩) 0) ?_ ?_ ?_
   ·rintro v w w' hle ⟨b,hbn,rfl,hin⟩
    exact ⟨b,hbn,rfl,dP.grow hbn hle hin⟩
   ·intro β A w' hβ hC hO hD
    simp [go_sem,gd,Oper.wp]
    exact aA.mk (d:=_) (v:= .slice (some ⟨_,0,none⟩) 1 1) (dA (aj _ _)) (by simpa using hC.below (aj _ _)) ⟨_,by have:=hC.2.lt; omega,rfl,eD _ 8 _⟩
   simp only [List.nil_append,List.cons_append]
   apply aQ.step
   case aD=>
    intro β A w' hβ hC hO hD
    simp [ay,ak,au,Act.eval,Region.binds] at hD
    obtain ⟨Gv,GI,WE,Ru,Gz,Ao⟩:=hD
    simp [go_sem,gd,Oper.wp,Gv,GI,Gz]
    refine (gI p w' aK (some ⟨b0,uL,none⟩) aG aH _ bn _ aV bs bt bc h.nm [8] _ 1 hi (by decide) (HP.out _ hC.1) Ao (HK.out _ hC.1)).mono ?_
    rintro e' w2 ⟨rfl,hb⟩
    exact aA.mk (dA hb) (by simpa using hC.below hb) (ak.mk _ _)
   simp only [List.nil_append,List.cons_append]
   apply aQ.step
   case aD=>
    intro β A w' hβ hC hO hD
    have e0:=hO 0 (by rfl)
    have e3:=hO 3 (by rfl)
    simp [Act.eval] at e0 e3
    simp [ay,ak,au,Act.eval,Region.binds] at hD
    simp [go_sem,gd,Oper.wp,e0,e3,hD]
    exact aA.mk (aO _) (by simpa using hC) (ak.mk _ _)
   simp only [List.nil_append,List.cons_append]
   refine aQ.some (fun v w'=> ∃b,b≠bs∧v= .slice (some ⟨b,0,none⟩) 3 3∧dP w' w'.heap.size [7,8,3] (some ⟨b,0,none⟩) 0) ?_ ?_ ?_
   ·rintro v w w' hle ⟨b,hbn,rfl,hin⟩
    exact ⟨b,hbn,rfl,dP.grow hbn hle hin⟩
   ·intro β A w' hβ hC hO hD
    simp [go_sem,gd,Oper.wp]
    exact aA.mk (d:=_) (v:= .slice (some ⟨_,0,none⟩) 3 3) (dA (aj _ _)) (by simpa using hC.below (aj _ _)) ⟨_,by have:=hC.2.lt; omega,rfl,lX _ 7 8 3 _⟩
   simp only [List.nil_append,List.cons_append]
   apply aQ.step
   case aD=>
    intro β A w' hβ hC hO hD
    simp [ay,ak,au,Act.eval,Region.binds] at hD
    obtain ⟨He,⟨UU,Ro,H6,Ai⟩,-⟩:=hD
    simp [go_sem,gd,Oper.wp,He,H6]
    refine (hq ▸ eZ p w' aK (some ⟨b0,uL,none⟩) aG aH (j:Int) bn aV bs bt bc ar [7,8,3] _ 3 (by decide) Ai iZ.out (jk.out _ hC.1) (HK.out _ hC.1)).mono ?_
    rintro e' w2 ⟨rfl,hb⟩
    exact aA.mk (dA hb) (by simpa using hC.below hb) (ak.mk _ _)
   simp only [List.nil_append,List.cons_append]
   apply aQ.step
   case aD=>
    intro β A w' hβ hC hO hD
    have e0:=hO 0 (by rfl)
    have e3:=hO 3 (by rfl)
    simp [Act.eval] at e0 e3
    simp [ay,ak,au,Act.eval,Region.binds] at hD
    simp [go_sem,gd,Oper.wp,e0,e3,hD]
    exact aA.mk (aO _) (by simpa using hC) (ak.mk _ _)
   simp only [List.nil_append,List.cons_append]
   apply aQ.step
   case aD=>
    intro β A w' hβ hC hO hD
    have e0:=hO 0 (by rfl)
    have e3:=hO 3 (by rfl)
    simp [Act.eval] at e0 e3
    simp [ay,ak,au,Act.eval,Region.binds] at hD
    simp [go_sem,gd,Oper.wp,e0,e3,hD]
    exact aA.mk (aO _) (by simpa using hC) (ak.mk _ _)
   simp only [List.nil_append,List.cons_append]
   apply aQ.step
   case aD=>
    intro β A w' hβ hC hO hD
    have e0:=hO 0 (by rfl)
    have e3:=hO 3 (by rfl)
    simp [Act.eval] at e0 e3
    simp [ay,ak,au,Act.eval,Region.binds] at hD
    simp [go_sem,gd,Oper.wp,e0,e3,hD,L2,hC.1]
    exact aA.mk (aO _) (by simpa using hC) (ak.mk _ _)
   simp only [List.nil_append,List.cons_append]
   apply aQ.step
   case aD=>
    intro β A w' hβ hC hO hD
    have e0:=hO 0 (by rfl)
    have e3:=hO 3 (by rfl)
    simp [Act.eval] at e0 e3
    simp [ay,ak,au,Act.eval,Region.binds] at hD
    simp [go_sem,gd,Oper.wp,e0,e3,hD]
    exact aA.mk (aO _) (by simpa using hC) (ak.mk _ _)
   simp only [List.nil_append,List.cons_append]
   apply aQ.step
   case aD=>
    intro β A w' hβ hC hO hD
    simp [ay,ak,au,Act.eval,Region.binds] at hD
    simp [go_sem,gd,Oper.wp,hD]
    refine (Ad p w' aK (some ⟨b0,uL,none⟩) aG aH bn ar.len aV bs bt bc j t r hd (HP.out _ hC.1) (HK.out _ hC.1)).mono ?_
    rintro e' w2 ⟨rfl,hb⟩
    exact aA.mk (dA hb) (by simpa using hC.below hb) (ak.mk _ _)
   simp only [List.nil_append,List.cons_append]
   apply aQ.step
   case aD=>
    intro β A w' hβ hC hO hD
    have e0:=hO 0 (by rfl)
    have e3:=hO 3 (by rfl)
    simp [Act.eval] at e0 e3
    simp [ay,ak,au,Act.eval,Region.binds] at hD
    simp [go_sem,gd,Oper.wp,e0,e3,hD,ho]
    exact aA.mk (aO _) (by simpa using hC) (ak.mk _ _)
   simp only [List.nil_append,List.cons_append]
   apply aQ.step
   case aD=>
    intro β A w' hβ hC hO hD
    have e0:=hO 0 (by rfl)
    have e3:=hO 3 (by rfl)
    simp [Act.eval] at e0 e3
    simp [ay,ak,au,Act.eval,Region.binds] at hD
    simp [go_sem,gd,Oper.wp,e0,e3,hD]
    exact aA.mk (aO _) (by simpa using hC) (ak.mk _ _)
   simp only [List.nil_append,List.cons_append]
   apply aQ.step
   case aD=>
    intro β A w' hβ hC hO hD
    have e0:=hO 0 (by rfl)
    have e3:=hO 3 (by rfl)
    simp [Act.eval] at e0 e3
    simp [ay,ak,au,Act.eval,Region.binds] at hD
    simp [go_sem,gd,Oper.wp,e0,e3,hD]
    exact aA.mk (aO _) (by simpa using hC) (ak.mk _ _)
   simp only [List.nil_append,List.cons_append]
   refine aQ.step (v:=undef) ?_ ?_
   ·intro β A w' hβ hC hO hD
    simp [ay,ak,au,Act.eval,Region.binds] at hD
    simp [gd,Act.eval,hD]
    first | exact ak.mk _ _ | exact ⟨by rfl,ak.mk _ _⟩
   simp only [List.nil_append,List.cons_append]
   refine aQ.step (v:=undef) ?_ ?_
   ·intro β A w' hβ hC hO hD
    simp [ay,ak,au,Act.eval,Region.binds] at hD
    simp [gd,Act.eval,hD]
    first | exact ak.mk _ _ | exact ⟨by rfl,ak.mk _ _⟩
   simp only [List.nil_append,List.cons_append]
   refine aQ.step (v:=undef) ?_ ?_
   ·intro β A w' hβ hC hO hD
    simp [ay,ak,au,Act.eval,Region.binds] at hD
    simp [gd,Act.eval,hD]
    first | exact ak.mk _ _ | exact ⟨by rfl,ak.mk _ _⟩
   simp only [List.nil_append,List.cons_append]
   refine aQ.step (v:=undef) ?_ ?_
   ·intro β A w' hβ hC hO hD
    simp [ay,ak,au,Act.eval,Region.binds] at hD
    simp [gd,Act.eval,hD]
    first | exact ak.mk _ _ | exact ⟨by rfl,ak.mk _ _⟩
   simp only [List.nil_append,List.cons_append]
   refine aQ.step (v:=undef) ?_ ?_
   ·intro β A w' hβ hC hO hD
    simp [ay,ak,au,Act.eval,Region.binds] at hD
    simp [gd,Act.eval,hD]
    first | exact ak.mk _ _ | exact ⟨by rfl,ak.mk _ _⟩
   simp only [List.nil_append,List.cons_append]
   refine aQ.step (v:=undef) ?_ ?_
   ·intro β A w' hβ hC hO hD
    simp [ay,ak,au,Act.eval,Region.binds] at hD
    simp [gd,Act.eval,hD]
    first | exact ak.mk _ _ | exact ⟨by rfl,ak.mk _ _⟩
   simp only [List.nil_append,List.cons_append]
   refine aQ.step (v:=undef) ?_ ?_
   ·intro β A w' hβ hC hO hD
    simp [ay,ak,au,Act.eval,Region.binds] at hD
    simp [gd,Act.eval,hD]
    first | exact ak.mk _ _ | exact ⟨by rfl,ak.mk _ _⟩
   simp only [List.nil_append,List.cons_append]
   refine aQ.step (v:=undef) ?_ ?_
   ·intro β A w' hβ hC hO hD
    simp [ay,ak,au,Act.eval,Region.binds] at hD
    simp [gd,Act.eval,hD]
    first | exact ak.mk _ _ | exact ⟨by rfl,ak.mk _ _⟩
   simp only [List.nil_append,List.cons_append]
   refine aQ.step (v:=undef) ?_ ?_
   ·intro β A w' hβ hC hO hD
    simp [ay,ak,au,Act.eval,Region.binds] at hD
    simp [gd,Act.eval,hD]
    first | exact ak.mk _ _ | exact ⟨by rfl,ak.mk _ _⟩
   simp only [List.nil_append,List.cons_append]
   refine aQ.step (v:=undef) ?_ ?_
   ·intro β A w' hβ hC hO hD
    simp [ay,ak,au,Act.eval,Region.binds] at hD
    simp [gd,Act.eval,hD]
    first | exact ak.mk _ _ | exact ⟨by rfl,ak.mk _ _⟩
   simp only [List.nil_append,List.cons_append]
   refine aQ.step (v:=undef) ?_ ?_
   ·intro β A w' hβ hC hO hD
    simp [ay,ak,au,Act.eval,Region.binds] at hD
    simp [gd,Act.eval,hD]
    first | exact ak.mk _ _ | exact ⟨by rfl,ak.mk _ _⟩
   simp only [List.nil_append,List.cons_append]
   apply aQ.step
   case aD=>
    intro β A w' hβ hC hO hD
    have e0:=hO 0 (by rfl)
    have e3:=hO 3 (by rfl)
    simp [Act.eval] at e0 e3
    simp [ay,ak,au,Act.eval,Region.binds] at hD
    simp [go_sem,gd,Oper.wp,e0,e3,hD]
    exact aA.mk (aO _) (by simpa using hC) (ak.mk _ _)
   simp only [List.nil_append,List.cons_append]
   apply aQ.step
   case aD=>
    intro β A w' hβ hC hO hD
    simp [ay,ak,au,Act.eval,Region.binds] at hD
    simp [go_sem,gd,Oper.wp,hD]
    refine (dD true w').mono ?_
    rintro e' w2 ⟨rfl,rfl⟩
    exact aA.mk (aO _) (by simpa using hC) (ak.mk _ _)
   simp only [List.nil_append,List.cons_append]
   apply aQ.step
   case aD=>
    intro β A w' hβ hC hO hD
    have e0:=hO 0 (by rfl)
    have e3:=hO 3 (by rfl)
    simp [Act.eval] at e0 e3
    simp [ay,ak,au,Act.eval,Region.binds] at hD
    simp [go_sem,gd,Oper.wp,e0,e3,hD]
    exact aA.mk (aO _) (by simpa using hC) (ak.mk _ _)
   simp only [List.nil_append,List.cons_append]
   apply aQ.step
   case aD=>
    intro β A w' hβ hC hO hD
    have e0:=hO 0 (by rfl)
    have e3:=hO 3 (by rfl)
    simp [Act.eval] at e0 e3
    simp [ay,ak,au,Act.eval,Region.binds] at hD
    simp [go_sem,gd,Oper.wp,e0,e3,hD]
    exact aA.mk (aO _) (by simpa using hC) (ak.mk _ _)
   simp only [List.nil_append,List.cons_append]
   apply aQ.step
   case aD=>
    intro β A w' hβ hC hO hD
    have e0:=hO 0 (by rfl)
    have e3:=hO 3 (by rfl)
    simp [Act.eval] at e0 e3
    simp [ay,ak,au,Act.eval,Region.binds] at hD
    simp [go_sem,gd,Oper.wp,e0,e3,hD]
    exact aA.mk (aO _) (by simpa using hC) (ak.mk _ _)
   simp only [List.nil_append,List.cons_append]
   apply aQ.step
   case aD=>
    intro β A w' hβ hC hO hD
    have e0:=hO 0 (by rfl)
    have e3:=hO 3 (by rfl)
    simp [Act.eval] at e0 e3
    simp [ay,ak,au,Act.eval,Region.binds] at hD
    simp [go_sem,gd,Oper.wp,e0,e3,hD,LM,hC.1]
    exact aA.mk (aO _) (by simpa using hC) (ak.mk _ _)
   simp only [List.nil_append,List.cons_append]
   apply aQ.step
   case aD=>
    intro β A w' hβ hC hO hD
    have e0:=hO 0 (by rfl)
    have e3:=hO 3 (by rfl)
    simp [Act.eval] at e0 e3
    simp [ay,ak,au,Act.eval,Region.binds] at hD
    simp [go_sem,gd,Oper.wp,e0,e3,hD]
    exact aA.mk (aO _) (by simpa using hC) (ak.mk _ _)
   simp only [List.nil_append,List.cons_append]
   apply aQ.step
   case aD=>
    intro β A w' hβ hC hO hD
    have e0:=hO 0 (by rfl)
    have e3:=hO 3 (by rfl)
    simp [Act.eval] at e0 e3
    simp [ay,ak,au,Act.eval,Region.binds] at hD
    simp [go_sem,gd,Oper.wp,e0,e3,hD,L2,hC.1]
    exact aA.mk (aO _) (by simpa using hC) (ak.mk _ _)
   simp only [List.nil_append,List.cons_append]
   apply aQ.step
   case aD=>
    intro β A w' hβ hC hO hD
    obtain rfl:=hβ (by simp)
    simp [ay,ak,au,Act.eval,Region.binds] at hD
    simp [go_sem,gd,Oper.wp,hD]
    refine (zJ h.nm w' bs n f HN.out Mw.out (by simpa using hC.2)).mono ?_
    rintro e' w2 ⟨rfl,hm2,hg2⟩
    exact aA.mk hg2 ⟨nV hC.1 hg2,by simpa using hm2⟩ (ak.mk _ _)
   simp only [List.nil_append,List.cons_append]
   refine aQ.some (fun v w'=> ∃b,b≠bs∧v= .slice (some ⟨b,0,none⟩) 3 3∧dP w' w'.heap.size [bD (mean p (j:Int) h.nm) [8],nest true,(jL (f h.nm.toList))] (some ⟨b,0,none⟩) 0) ?_ ?_ ?_
   ·rintro v w w' hle ⟨b,hbn,rfl,hin⟩
    exact ⟨b,hbn,rfl,dP.grow hbn hle hin⟩
   ·intro β A w' hβ hC hO hD
    simp [ay,ak,au,Act.eval,Region.binds] at hD
    simp [go_sem,gd,Oper.wp,hD]
    exact aA.mk (d:=_) (v:= .slice (some ⟨_,0,none⟩) 3 3) (dA (aj _ _)) (by simpa using hC.below (aj _ _)) ⟨_,by have:=hC.2.lt; omega,rfl,lX _ _ _ _ _⟩
   simp only [List.nil_append,List.cons_append]
   apply aQ.step
   case aD=>
    intro β A w' hβ hC hO hD
    simp [ay,ak,au,Act.eval,Region.binds] at hD
    obtain ⟨⟨V6,Sd,Iy,Bc⟩,-⟩:=hD
    simp [go_sem,gd,Oper.wp,Iy]
    refine (dF [bD (mean p (j:Int) h.nm) [8],nest true,(jL (f h.nm.toList))] w' _ _ (by simp [maxLen]) Bc).mono ?_
    rintro e' w2 ⟨rfl,rfl⟩
    exact aA.mk (aO _) (by simpa using hC) (ak.mk _ _)
   simp only [List.nil_append,List.cons_append]
   apply aQ.step
   case aD=>
    intro β A w' hβ hC hO hD
    have e0:=hO 0 (by rfl)
    have e3:=hO 3 (by rfl)
    simp [Act.eval] at e0 e3
    simp [ay,ak,au,Act.eval,Region.binds] at hD
    simp [go_sem,gd,Oper.wp,e0,e3,hD]
    exact aA.mk (aO _) (by simpa using hC) (ak.mk _ _)
   simp only [List.nil_append,List.cons_append]
   intro wz fH
   intro v0 h0 v1 h1 v2 h2 v3 h3 v4 h4 v5 h5 v6 h6 v7 h7 v8 h8 v9 h9 v10 h10 v11 h11 v12 h12 v13 sJ v14 nD v15 wF v16 h16 v17 xB v18 h18 v19 h19 v20 h20 v21 h21 v22 h22 v23 h23 v24 MJ v25 Nb v26 Oc v27 h27 v28 OE v29 OL v30 Oo v31 h31 v32 h32 v33 Nh v34 Om v35 NM v36 N7 v37 h37 v38 Fw
   have hl':v38=_:=Fw
   subst hl'
   clear h0 h1 h2 h3 h4 h5 h6 h7 h8 h9 h10 h11 h12 sJ nD wF h16 xB h18 h19 h20 h21 h22 h23 MJ Nb Oc h27 OE OL Oo h31 h32 Nh Om NM N7 h37 Fw
   refine eG.nil ?_
   have HZ:Hid (MC W bs n f (pI f h.nm.toList) true wz):=Lib.hid (by simpa using fH)
   clear fH
   go_simp
   go_wp2_with fail
   go_ret
   refine vE ?_ HZ.out HG.out
   rw [← HR.out,hq,ho]
   try rfl
 ·refine lQ 35 (MC W bs n f (pI f h.nm.toList)) (fun w w'=>w.grownBy w' (some bs)) [109,110,111,112,113,114,115,116,117,118,119,120,121,122,123,124,125,126,127,128,129,130,131,132,133,134,135,136,137,138,139,140,141,142,143,144,145,146,4] (by kernel_rfl) (by kernel_rfl) (fun _=>aO _) (by rfl) ⟨dA (below_drewN (Below.refl _ _) 1),by simpa using HM.out.next (below_drewN (Below.refl _ _) 1)⟩ ?_
  apply aQ.step
  case aD=>
   intro β A w' hβ hC hO hD
   have e0:=hO 0 (by rfl)
   have e3:=hO 3 (by rfl)
   simp [Act.eval] at e0 e3
   simp [ay,ak,au,Act.eval,Region.binds] at hD
   simp [go_sem,gd,Oper.wp,e0,e3,hD]
   exact aA.mk (aO _) (by simpa using hC) (ak.mk _ _)
  apply aQ.step
  case aD=>
   intro β A w' hβ hC hO hD
   have e0:=hO 0 (by rfl)
   have e3:=hO 3 (by rfl)
   simp [Act.eval] at e0 e3
   simp [ay,ak,au,Act.eval,Region.binds] at hD
   simp [go_sem,gd,Oper.wp,e0,e3,hD]
   exact aA.mk (aO _) (by simpa using hC) (ak.mk _ _)
  simp only [List.nil_append,List.cons_append]
  apply aQ.step
  case aD=>
   intro β A w' hβ hC hO hD
   have e0:=hO 0 (by rfl)
   have e3:=hO 3 (by rfl)
   simp [Act.eval] at e0 e3
   simp [ay,ak,au,Act.eval,Region.binds] at hD
   simp [go_sem,gd,Oper.wp,e0,e3,hD,L2,hC.1]
   exact aA.mk (aO _) (by simpa using hC) (ak.mk _ _)
  simp only [List.nil_append,List.cons_append]
  refine aQ.some (fun v w'=> ∃b,b≠bs∧v= .slice (some ⟨b,0,none⟩) 1 1∧dP w' w'.heap.size [8] (some ⟨b,0,none⟩) 0) ?_ ?_ ?_
  ·rintro v w w' hle ⟨b,hbn,rfl,hin⟩
   exact ⟨b,hbn,rfl,dP.grow hbn hle hin⟩
  ·intro β A w' hβ hC hO hD
   simp [go_sem,gd,Oper.wp]
   exact aA.mk (d:=_) (v:= .slice (some ⟨_,0,none⟩) 1 1) (dA (aj _ _)) (by simpa using hC.below (aj _ _)) ⟨_,by have:=hC.2.lt; omega,rfl,eD _ 8 _⟩
  simp only [List.nil_append,List.cons_append]
  apply aQ.step
  case aD=>
   intro β A w' hβ hC hO hD
   simp [ay,ak,au,Act.eval,Region.binds] at hD
   obtain ⟨Gv,GI,WE,Ru,Gz,Ao⟩:=hD
   simp [go_sem,gd,Oper.wp,Gv,GI,Gz]
   refine (gI p w' aK (some ⟨b0,uL,none⟩) aG aH _ bn _ aV bs bt bc h.nm [8] _ 1 hi (by decide) (HP.out _ hC.1) Ao (HK.out _ hC.1)).mono ?_
   rintro e' w2 ⟨rfl,hb⟩
   exact aA.mk (dA hb) (by simpa using hC.below hb) (ak.mk _ _)
  simp only [List.nil_append,List.cons_append]
  apply aQ.step
  case aD=>
   intro β A w' hβ hC hO hD
   have e0:=hO 0 (by rfl)
   have e3:=hO 3 (by rfl)
   simp [Act.eval] at e0 e3
   simp [ay,ak,au,Act.eval,Region.binds] at hD
   simp [go_sem,gd,Oper.wp,e0,e3,hD]
   exact aA.mk (aO _) (by simpa using hC) (ak.mk _ _)
  simp only [List.nil_append,List.cons_append]
  refine aQ.some (fun v w'=> ∃b,b≠bs∧v= .slice (some ⟨b,0,none⟩) 3 3∧dP w' w'.heap.size [7,8,3] (some ⟨b,0,none⟩) 0) ?_ ?_ ?_
  ·rintro v w w' hle ⟨b,hbn,rfl,hin⟩
   exact ⟨b,hbn,rfl,dP.grow hbn hle hin⟩
  ·intro β A w' hβ hC hO hD
   simp [go_sem,gd,Oper.wp]
   exact aA.mk (d:=_) (v:= .slice (some ⟨_,0,none⟩) 3 3) (dA (aj _ _)) (by simpa using hC.below (aj _ _)) ⟨_,by have:=hC.2.lt; omega,rfl,lX _ 7 8 3 _⟩
  simp only [List.nil_append,List.cons_append]
  apply aQ.step
  case aD=>
   intro β A w' hβ hC hO hD
   simp [ay,ak,au,Act.eval,Region.binds] at hD
   obtain ⟨He,⟨UU,Ro,H6,Ai⟩,-⟩:=hD
   simp [go_sem,gd,Oper.wp,He,H6]
   refine (hq ▸ eZ p w' aK (some ⟨b0,uL,none⟩) aG aH (j:Int) bn aV bs bt bc ar [7,8,3] _ 3 (by decide) Ai iZ.out (jk.out _ hC.1) (HK.out _ hC.1)).mono ?_
   rintro e' w2 ⟨rfl,hb⟩
   exact aA.mk (dA hb) (by simpa using hC.below hb) (ak.mk _ _)
  simp only [List.nil_append,List.cons_append]
  apply aQ.step
  case aD=>
   intro β A w' hβ hC hO hD
   have e0:=hO 0 (by rfl)
   have e3:=hO 3 (by rfl)
   simp [Act.eval] at e0 e3
   simp [ay,ak,au,Act.eval,Region.binds] at hD
   simp [go_sem,gd,Oper.wp,e0,e3,hD]
   exact aA.mk (aO _) (by simpa using hC) (ak.mk _ _)
  simp only [List.nil_append,List.cons_append]
  refine aQ.step (v:=undef) ?_ ?_
  ·intro β A w' hβ hC hO hD
   simp [ay,ak,au,Act.eval,Region.binds] at hD
   simp [gd,Act.eval,hD]
   first | exact ak.mk _ _ | exact ⟨by rfl,ak.mk _ _⟩
  simp only [List.nil_append,List.cons_append]
  refine aQ.step (v:=undef) ?_ ?_
  ·intro β A w' hβ hC hO hD
   simp [ay,ak,au,Act.eval,Region.binds] at hD
   simp [gd,Act.eval,hD]
   first | exact ak.mk _ _ | exact ⟨by rfl,ak.mk _ _⟩
  simp only [List.nil_append,List.cons_append]
  refine aQ.step (v:=undef) ?_ ?_
  ·intro β A w' hβ hC hO hD
   simp [ay,ak,au,Act.eval,Region.binds] at hD
   simp [gd,Act.eval,hD]
   first | exact ak.mk _ _ | exact ⟨by rfl,ak.mk _ _⟩
  simp only [List.nil_append,List.cons_append]
  refine aQ.step (v:=undef) ?_ ?_
  ·intro β A w' hβ hC hO hD
   simp [ay,ak,au,Act.eval,Region.binds] at hD
   simp [gd,Act.eval,hD]
   first | exact ak.mk _ _ | exact ⟨by rfl,ak.mk _ _⟩
  simp only [List.nil_append,List.cons_append]
  refine aQ.step (v:=undef) ?_ ?_
  ·intro β A w' hβ hC hO hD
   simp [ay,ak,au,Act.eval,Region.binds] at hD
   simp [gd,Act.eval,hD]
   first | exact ak.mk _ _ | exact ⟨by rfl,ak.mk _ _⟩
  simp only [List.nil_append,List.cons_append]
  apply aQ.step
  case aD=>
   intro β A w' hβ hC hO hD
   have e0:=hO 0 (by rfl)
   have e3:=hO 3 (by rfl)
   simp [Act.eval] at e0 e3
   simp [ay,ak,au,Act.eval,Region.binds] at hD
   simp [go_sem,gd,Oper.wp,e0,e3,hD]
   exact aA.mk (aO _) (by simpa using hC) (ak.mk _ _)
  simp only [List.nil_append,List.cons_append]
  apply aQ.step
  case aD=>
   intro β A w' hβ hC hO hD
   have e0:=hO 0 (by rfl)
   have e3:=hO 3 (by rfl)
   simp [Act.eval] at e0 e3
   simp [ay,ak,au,Act.eval,Region.binds] at hD
   simp [go_sem,gd,Oper.wp,e0,e3,hD]
   exact aA.mk (aO _) (by simpa using hC) (ak.mk _ _)
  simp only [List.nil_append,List.cons_append]
  refine aQ.step (v:=undef) ?_ ?_
  ·intro β A w' hβ hC hO hD
   simp [ay,ak,au,Act.eval,Region.binds] at hD
   simp [gd,Act.eval,hD]
   first | exact ak.mk _ _ | exact ⟨by rfl,ak.mk _ _⟩
  simp only [List.nil_append,List.cons_append]
  refine aQ.step (v:=undef) ?_ ?_
  ·intro β A w' hβ hC hO hD
   simp [ay,ak,au,Act.eval,Region.binds] at hD
   simp [gd,Act.eval,hD]
   first | exact ak.mk _ _ | exact ⟨by rfl,ak.mk _ _⟩
  simp only [List.nil_append,List.cons_append]
  refine aQ.step (v:=undef) ?_ ?_
  ·intro β A w' hβ hC hO hD
   simp [ay,ak,au,Act.eval,Region.binds] at hD
   simp [gd,Act.eval,hD]
   first | exact ak.mk _ _ | exact ⟨by rfl,ak.mk _ _⟩
  simp only [List.nil_append,List.cons_append]
  refine aQ.step (v:=undef) ?_ ?_
  ·intro β A w' hβ hC hO hD
   simp [ay,ak,au,Act.eval,Region.binds] at hD
   simp [gd,Act.eval,hD]
   first | exact ak.mk _ _ | exact ⟨by rfl,ak.mk _ _⟩
  simp only [List.nil_append,List.cons_append]
  refine aQ.step (v:=undef) ?_ ?_
  ·intro β A w' hβ hC hO hD
   simp [ay,ak,au,Act.eval,Region.binds] at hD
   simp [gd,Act.eval,hD]
   first | exact ak.mk _ _ | exact ⟨by rfl,ak.mk _ _⟩
  simp only [List.nil_append,List.cons_append]
  refine aQ.step (v:=undef) ?_ ?_
  ·intro β A w' hβ hC hO hD
   simp [ay,ak,au,Act.eval,Region.binds] at hD
   simp [gd,Act.eval,hD]
   first | exact ak.mk _ _ | exact ⟨by rfl,ak.mk _ _⟩
  simp only [List.nil_append,List.cons_append]
  refine aQ.step (v:=undef) ?_ ?_
  ·intro β A w' hβ hC hO hD
   simp [ay,ak,au,Act.eval,Region.binds] at hD
   simp [gd,Act.eval,hD]
   first | exact ak.mk _ _ | exact ⟨by rfl,ak.mk _ _⟩
  simp only [List.nil_append,List.cons_append]
  refine aQ.step (v:=undef) ?_ ?_
  ·intro β A w' hβ hC hO hD
   simp [ay,ak,au,Act.eval,Region.binds] at hD
   simp [gd,Act.eval,hD]
   first | exact ak.mk _ _ | exact ⟨by rfl,ak.mk _ _⟩
  simp only [List.nil_append,List.cons_append]
  refine aQ.step (v:=undef) ?_ ?_
  ·intro β A w' hβ hC hO hD
   simp [ay,ak,au,Act.eval,Region.binds] at hD
   simp [gd,Act.eval,hD]
   first | exact ak.mk _ _ | exact ⟨by rfl,ak.mk _ _⟩
  simp only [List.nil_append,List.cons_append]
  refine aQ.step (v:=undef) ?_ ?_
  ·intro β A w' hβ hC hO hD
   simp [ay,ak,au,Act.eval,Region.binds] at hD
   simp [gd,Act.eval,hD]
   first | exact ak.mk _ _ | exact ⟨by rfl,ak.mk _ _⟩
  simp only [List.nil_append,List.cons_append]
  refine aQ.step (v:=undef) ?_ ?_
  ·intro β A w' hβ hC hO hD
   simp [ay,ak,au,Act.eval,Region.binds] at hD
   simp [gd,Act.eval,hD]
   first | exact ak.mk _ _ | exact ⟨by rfl,ak.mk _ _⟩
  simp only [List.nil_append,List.cons_append]
  apply aQ.step
  case aD=>
   intro β A w' hβ hC hO hD
   have e0:=hO 0 (by rfl)
   have e3:=hO 3 (by rfl)
   simp [Act.eval] at e0 e3
   simp [ay,ak,au,Act.eval,Region.binds] at hD
   simp [go_sem,gd,Oper.wp,e0,e3,hD]
   exact aA.mk (aO _) (by simpa using hC) (ak.mk _ _)
  simp only [List.nil_append,List.cons_append]
  apply aQ.step
  case aD=>
   intro β A w' hβ hC hO hD
   simp [ay,ak,au,Act.eval,Region.binds] at hD
   simp [go_sem,gd,Oper.wp,hD]
   refine (dD true w').mono ?_
   rintro e' w2 ⟨rfl,rfl⟩
   exact aA.mk (aO _) (by simpa using hC) (ak.mk _ _)
  simp only [List.nil_append,List.cons_append]
  apply aQ.step
  case aD=>
   intro β A w' hβ hC hO hD
   have e0:=hO 0 (by rfl)
   have e3:=hO 3 (by rfl)
   simp [Act.eval] at e0 e3
   simp [ay,ak,au,Act.eval,Region.binds] at hD
   simp [go_sem,gd,Oper.wp,e0,e3,hD]
   exact aA.mk (aO _) (by simpa using hC) (ak.mk _ _)
  simp only [List.nil_append,List.cons_append]
  apply aQ.step
  case aD=>
   intro β A w' hβ hC hO hD
   have e0:=hO 0 (by rfl)
   have e3:=hO 3 (by rfl)
   simp [Act.eval] at e0 e3
   simp [ay,ak,au,Act.eval,Region.binds] at hD
   simp [go_sem,gd,Oper.wp,e0,e3,hD]
   exact aA.mk (aO _) (by simpa using hC) (ak.mk _ _)
  simp only [List.nil_append,List.cons_append]
  apply aQ.step
  case aD=>
   intro β A w' hβ hC hO hD
   have e0:=hO 0 (by rfl)
   have e3:=hO 3 (by rfl)
   simp [Act.eval] at e0 e3
   simp [ay,ak,au,Act.eval,Region.binds] at hD
   simp [go_sem,gd,Oper.wp,e0,e3,hD]
   exact aA.mk (aO _) (by simpa using hC) (ak.mk _ _)
  simp only [List.nil_append,List.cons_append]
  apply aQ.step
  case aD=>
   intro β A w' hβ hC hO hD
   have e0:=hO 0 (by rfl)
   have e3:=hO 3 (by rfl)
   simp [Act.eval] at e0 e3
   simp [ay,ak,au,Act.eval,Region.binds] at hD
   simp [go_sem,gd,Oper.wp,e0,e3,hD,LM,hC.1]
   exact aA.mk (aO _) (by simpa using hC) (ak.mk _ _)
  simp only [List.nil_append,List.cons_append]
  apply aQ.step
  case aD=>
   intro β A w' hβ hC hO hD
   have e0:=hO 0 (by rfl)
   have e3:=hO 3 (by rfl)
   simp [Act.eval] at e0 e3
   simp [ay,ak,au,Act.eval,Region.binds] at hD
   simp [go_sem,gd,Oper.wp,e0,e3,hD]
   exact aA.mk (aO _) (by simpa using hC) (ak.mk _ _)
  simp only [List.nil_append,List.cons_append]
  apply aQ.step
  case aD=>
   intro β A w' hβ hC hO hD
   have e0:=hO 0 (by rfl)
   have e3:=hO 3 (by rfl)
   simp [Act.eval] at e0 e3
   simp [ay,ak,au,Act.eval,Region.binds] at hD
   simp [go_sem,gd,Oper.wp,e0,e3,hD,L2,hC.1]
   exact aA.mk (aO _) (by simpa using hC) (ak.mk _ _)
  simp only [List.nil_append,List.cons_append]
  apply aQ.step
  case aD=>
   intro β A w' hβ hC hO hD
   obtain rfl:=hβ (by simp)
   simp [ay,ak,au,Act.eval,Region.binds] at hD
   simp [go_sem,gd,Oper.wp,hD]
   refine (zJ h.nm w' bs n f HN.out Mw.out (by simpa using hC.2)).mono ?_
   rintro e' w2 ⟨rfl,hm2,hg2⟩
   exact aA.mk hg2 ⟨nV hC.1 hg2,by simpa using hm2⟩ (ak.mk _ _)
  simp only [List.nil_append,List.cons_append]
  refine aQ.some (fun v w'=> ∃b,b≠bs∧v= .slice (some ⟨b,0,none⟩) 3 3∧dP w' w'.heap.size [bD (mean p (j:Int) h.nm) [8],nest true,(jL (f h.nm.toList))] (some ⟨b,0,none⟩) 0) ?_ ?_ ?_
  ·rintro v w w' hle ⟨b,hbn,rfl,hin⟩
   exact ⟨b,hbn,rfl,dP.grow hbn hle hin⟩
  ·intro β A w' hβ hC hO hD
   simp [ay,ak,au,Act.eval,Region.binds] at hD
   simp [go_sem,gd,Oper.wp,hD]
   exact aA.mk (d:=_) (v:= .slice (some ⟨_,0,none⟩) 3 3) (dA (aj _ _)) (by simpa using hC.below (aj _ _)) ⟨_,by have:=hC.2.lt; omega,rfl,lX _ _ _ _ _⟩
  simp only [List.nil_append,List.cons_append]
  apply aQ.step
  case aD=>
   intro β A w' hβ hC hO hD
   simp [ay,ak,au,Act.eval,Region.binds] at hD
   obtain ⟨⟨V6,Sd,Iy,Bc⟩,-⟩:=hD
   simp [go_sem,gd,Oper.wp,Iy]
   refine (dF [bD (mean p (j:Int) h.nm) [8],nest true,(jL (f h.nm.toList))] w' _ _ (by simp [maxLen]) Bc).mono ?_
   rintro e' w2 ⟨rfl,rfl⟩
   exact aA.mk (aO _) (by simpa using hC) (ak.mk _ _)
  simp only [List.nil_append,List.cons_append]
  apply aQ.step
  case aD=>
   intro β A w' hβ hC hO hD
   have e0:=hO 0 (by rfl)
   have e3:=hO 3 (by rfl)
   simp [Act.eval] at e0 e3
   simp [ay,ak,au,Act.eval,Region.binds] at hD
   simp [go_sem,gd,Oper.wp,e0,e3,hD]
   exact aA.mk (aO _) (by simpa using hC) (ak.mk _ _)
  simp only [List.nil_append,List.cons_append]
  intro wz fH
  intro v0 h0 v1 h1 v2 h2 v3 h3 v4 h4 v5 h5 v6 h6 v7 h7 v8 h8 v9 h9 v10 h10 v11 h11 v12 h12 v13 sJ v14 nD v15 wF v16 h16 v17 xB v18 h18 v19 h19 v20 h20 v21 h21 v22 h22 v23 h23 v24 MJ v25 Nb v26 Oc v27 h27 v28 OE v29 OL v30 Oo v31 h31 v32 h32 v33 Nh v34 Om v35 NM v36 N7 v37 h37 v38 Fw
  have hl':v38=_:=Fw
  subst hl'
  clear h0 h1 h2 h3 h4 h5 h6 h7 h8 h9 h10 h11 h12 sJ nD wF h16 xB h18 h19 h20 h21 h22 h23 MJ Nb Oc h27 OE OL Oo h31 h32 Nh Om NM N7 h37 Fw
  refine eG.nil ?_
  have HZ:Hid (MC W bs n f (pI f h.nm.toList) true wz):=Lib.hid (by simpa using fH)
  clear fH
  go_simp
  go_wp2_with fail
  go_ret
  refine vE ?_ HZ.out HG.out
  rw [← HR.out,hq]
  try rfl
end
end Go.Proofs.YtdajkddgnfgijaaGreatDoor
end
