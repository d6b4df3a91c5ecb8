/-
  Contract of the checker's statement at set.
  Contract of the checker's statement at spawn.
-/
import Derived.Test.YtehnipchbmjlhaaGreatDoorGMF
set_option linter.unusedSimpArgs false
set_option linter.unusedVariables false
set_option maxHeartbeats 40000000
set_option maxRecDepth 1000000
section
namespace Go.Proofs.YtehnipchbmjlhaaGreatDoor
open Go.RowKit
open Md
theorem nH {b:Nat} {w1 w2 w3:World} (h:w1.grownBy w2 (some b)) (k:w2.grownBy w3 (some b)):w1.grownBy w3 (some b):=
 ⟨k.os.trans h.os,k.tape.trans h.tape,k.output.trans h.output,Nat.le_trans h.size k.size,fun j hj hne=>(k.block j (Nat.lt_of_lt_of_le hj h.size) hne).trans (h.block j hj hne)⟩
theorem cu {b:Nat} {w w':World} (h:Below w.heap.size w w'):w.grownBy w' (some b):=⟨h.os,h.tape,h.output,h.size,fun k hk _=>h.block k hk⟩
theorem aJ {b:Nat} (w:World):w.grownBy w (some b):=cu (Below.refl _ _)
def MC (W:World) (bm n:Nat) (f f':List UInt8→Bool) (β:Bool) (w':World):Prop:=W.grownBy w' (some bm)∧gP w' bm (n + β.toNat) (if β then f' else f)
theorem MC.below {W:World} {bm n:Nat} {f f':List UInt8→Bool} {β:Bool} {w' w2:World} (h:MC W bm n f f' β w') (hb:Below w'.heap.size w' w2):MC W bm n f f' β w2:=⟨nH h.1 (cu hb),h.2.next hb⟩
theorem dI.grow {w w':World} {b bm:Nat} (hb:b≠bm) (hg:w.grownBy w' (some bm)): ∀ {l:List Int} {k:Nat},dI w w.heap.size l (some ⟨b,0,none⟩) k→dI w' w'.heap.size l (some ⟨b,0,none⟩) k
 | [],_,_=>trivial
 | _ ::_,_,⟨⟨b1,off,e,hB,c⟩,hr⟩=>by
   injection e with e; injection e with e1 e2; subst e1; subst e2
   exact ⟨⟨b,0,rfl,Nat.lt_of_lt_of_le hB hg.size,(World.cell?_of_block (hg.block b hB (by simp; exact hb))).trans c⟩,dI.grow hb hg hr⟩
theorem Sit.mc {w W w':World} {fs:List (Nat × Nat × Value)} {bm:Nat} (h:Sit w W fs) (hg:W.grownBy w' (some bm)) (hne: ∀f ∈ fs,f.1≠bm):Holds w' fs:=h.2.grown hg hne
def EB (v:Int) (w:World) (bm n:Nat) (f:List UInt8→Bool) (e:Ending) (w':World):Prop:=e= .returned (.int .i64 v)∧gP w' bm n f∧w.grownBy w' (some bm)
theorem uh {v:Value} {res:Int} {w W wz:World} {bm n:Nat} {f f':List UInt8→Bool} (h:v= .int .i64 res) (hz:MC W bm n f f' true wz) (hg: ∀w',W.grownBy w' (some bm)→w.grownBy w' (some bm)):EB res w bm (n + 1) f' (.returned v) wz:=
 ⟨by rw [h],hz.2,hg _ hz.1⟩
theorem OH (w:World) (a b c d:Int) (t:TypeId):dI (w.alloc (.cells #[.int .i64 a,.int .i64 b,.int .i64 c,.int .i64 d] t)) (w.alloc (.cells #[.int .i64 a,.int .i64 b,.int .i64 c,.int .i64 d] t)).heap.size [a,b,c,d] (some ⟨w.heap.size,0,none⟩) 0:=
 ⟨⟨_,_,rfl,by simp,bV w [.int .i64 a,.int .i64 b,.int .i64 c,.int .i64 d] t 0⟩,⟨_,_,rfl,by simp,bV w [.int .i64 a,.int .i64 b,.int .i64 c,.int .i64 d] t 1⟩,⟨_,_,rfl,by simp,bV w [.int .i64 a,.int .i64 b,.int .i64 c,.int .i64 d] t 2⟩,⟨_,_,rfl,by simp,bV w [.int .i64 a,.int .i64 b,.int .i64 c,.int .i64 d] t 3⟩,trivial⟩
section
variable (p:Pr) (w:World) (aH aI:Option Addr) (aC aD:Nat) (i:Int) (aX:Option Addr) (aQ bs bt bc:Nat)
theorem R4 (h:aV) (b e ar:aN) (s:Sl) (hi:aU i) (hp: ∀w',w.grownBy w' (some bt)→p.At w' aH aI) (hok:oW h b e) (hex: ∀w',w.grownBy w' (some bt)→h.aL.At w' w'.heap.size s.bS 0) (cZ: ∀w',w.grownBy w' (some bt)→cO w') (har:ar.len≤maxLen) (hat: ∀w',w.grownBy w' (some bt)→ar.At w' w'.heap.size aX 0) (hh:Holds w (gT bc p aH aI aC aD i aX ar.len aQ bs bt)) (hbc:bc≠bt) (n:Nat) (f:List UInt8→Bool) (hn:n < maxLen) (hmap:gP w bt n f) (hop:h.op=14):
 Calls Tryz.prog 126 #[.pointer (some ⟨bc,0,none⟩),dx h b e s] w (EB (eP [bg (mean p i h.nm) [7],nest (dY ar [7,3]),(jJ (f h.nm.toList)),kP p i h.bD h.xn h.bC h.aL]) w bt (n + 1) (ow f h.nm.toList)):=by
 have HH:=Lib.hid (show Sit w w _ from ⟨Below.refl _ _,hh⟩)
 obtain ⟨dF,bT,bS,bf,bG,aS,dw,bR⟩:=s
 have hxk:=hok.2.2.2.2.2.1
 have hns:=hok.2.2.1
 generalize hres:eP [bg (mean p i h.nm) [7],nest (dY ar [7,3]),(jJ (f h.nm.toList)),kP p i h.bD h.xn h.bC h.aL]=res
 have HR:=Lib.hid hres
 have dH:=Lib.hid hop
 have FW:=Lib.hid hns
 have HN:=Lib.hid hn
 have hlt:=hmap.lt
 clear hres hop hn hns
 unfold dx
 dsimp only
 dsimp only at hex
 go_enter Tryz.func126,Tryz.ntmps126
 go_upto_region 1 with fail
 generalize hW:World.alloc w _=W
 generalize Value.agg #[_,_,_,_,_,_,_,_,_,_,_]=a0
 have HX:Hid (Sit w W (nN w.heap.size h b e ⟨dF,bT,bS,bf,bG,aS,dw,bR⟩ (gT bc p aH aI aC aD i aX ar.len aQ bs bt))):=Lib.hid (by rw [← hW]; exact HH.out.gF rfl _ _ _ _ _ _ _ _ _ _ _ _)
 clear hW HH
 have HG:Hid (∀w',W.grownBy w' (some bt)→w.grownBy w' (some bt)):=Lib.hid (fun w' hg=>nH (cu HX.out.1) hg)
 have HP:=Lib.hid (fun w' hg=>hp w' (HG.out w' hg))
 have ig:=Lib.hid (fun w' hg=>cZ w' (HG.out w' hg))
 have sP:=Lib.hid (fun w' hg=>hex w' (HG.out w' hg))
 have kD:=Lib.hid (fun w' hg=>hat w' (HG.out w' hg))
 have jv:=Lib.hid har
 have HM:=Lib.hid (hmap.next HX.out.1)
 have HF:Hid (∀w',W.grownBy w' (some bt)→Holds w' (nN w.heap.size h b e ⟨dF,bT,bS,bf,bG,aS,dw,bR⟩ (gT bc p aH aI aC aD i aX ar.len aQ bs bt))):=Lib.hid (fun w' hg=>HX.out.mc hg (by
  intro x hx
  simp only [nN,gT,List.mem_cons,List.not_mem_nil,or_false] at hx
  rcases hx with rfl | rfl | rfl | rfl | rfl | rfl | rfl | rfl | rfl | rfl | rfl | rfl | rfl | rfl | rfl | rfl | rfl <;> first | exact hbc | (show w.heap.size≠bt; omega)))
 have HK:Hid (∀w',W.grownBy w' (some bt)→Holds w' (gT bc p aH aI aC aD i aX ar.len aQ bs bt)):=Lib.hid (fun w' hg=>(HF.out w' hg).2.2.2.2.2.2.2.2.2.2.2)
 clear hp cZ hh hat har hex hmap hlt hbc
 have L0: ∀w',W.grownBy w' (some bt)→w'.cell? ⟨w.heap.size,0,none⟩=some (.int .i64 h.op):=fun w' hb=>(HF.out w' hb).1.2
 have L2: ∀w',W.grownBy w' (some bt)→w'.cell? ⟨w.heap.size,2,none⟩=some (.string h.nm):=fun w' hb=>(HF.out w' hb).2.2.1.2
 have L5: ∀w',W.grownBy w' (some bt)→w'.cell? ⟨w.heap.size,5,none⟩=some (.int .i64 h.bD):=fun w' hb=>(HF.out w' hb).2.2.2.2.2.1.2
 have L6: ∀w',W.grownBy w' (some bt)→w'.cell? ⟨w.heap.size,6,none⟩=some (.int .i64 h.xn):=fun w' hb=>(HF.out w' hb).2.2.2.2.2.2.1.2
 have L7: ∀w',W.grownBy w' (some bt)→w'.cell? ⟨w.heap.size,7,none⟩=some (.string h.bC):=fun w' hb=>(HF.out w' hb).2.2.2.2.2.2.2.1.2
 have L8: ∀w',W.grownBy w' (some bt)→w'.cell? ⟨w.heap.size,8,none⟩=some (.slice bS h.aL.len bf):=fun w' hb=>(HF.out w' hb).2.2.2.2.2.2.2.2.1.2
 have LM: ∀w',W.grownBy w' (some bt)→w'.cell? ⟨bc,5,none⟩=some (.map (some bt)):=fun w' hb=>(HK.out w' hb).2.2.2.2.2.1.2
 have l0:=L0 W (aJ _)
 have hop:=dH.out
 have g1:(h.op == 1)=false:=by rw [hop]; rfl
 have g2:(h.op == 2)=false:=by rw [hop]; rfl
 have g3:(h.op == 3)=false:=by rw [hop]; rfl
 have g4:(h.op == 4)=false:=by rw [hop]; rfl
 have g5:(h.op == 5)=false:=by rw [hop]; rfl
 have g6:(h.op == 6)=false:=by rw [hop]; rfl
 have g7:(h.op == 7)=false:=by rw [hop]; rfl
 have g8:(h.op == 8)=false:=by rw [hop]; rfl
 have g9:(h.op == 9)=false:=by rw [hop]; rfl
 have g10:(h.op == 10)=false:=by rw [hop]; rfl
 have g11:(h.op == 11)=false:=by rw [hop]; rfl
 have g12:(h.op == 12)=false:=by rw [hop]; rfl
 have g13:(h.op == 13)=false:=by rw [hop]; rfl
 have g14:(h.op == 14)=true:=by rw [hop]; rfl
 have g15:(h.op == 15)=false:=by rw [hop]; rfl
 clear hop l0
 have l0:=L0 W (aJ _)
 go_upto_region 25 with fail
 refine lJ 15 (MC W bt n f (ow f h.nm.toList)) (fun w w'=>w.grownBy w' (some bt)) [169,170,171,172,173,174,175,176,177,178,179,180,181,182,183,184,185,186,187,188,189,190,4] (by kernel_rfl) (by kernel_rfl) (fun _=>aJ _) (by rfl) ⟨cu (below_drewN (Below.refl _ _) 1),by simpa using HM.out.next (below_drewN (Below.refl _ _) 1)⟩ ?_
 apply aM.step
 case aB=>
  intro β A w' hβ hC hO hD
  have e0:=hO 0 (by rfl)
  have e3:=hO 3 (by rfl)
  simp [Act.eval] at e0 e3
  simp [au,aj,ak,Act.eval,Region.binds] at hD
  simp [go_sem,gd,Oper.wp,e0,e3,hD]
  exact ay.mk (aJ _) (by simpa using hC) (aj.mk _ _)
 apply aM.step
 case aB=>
  intro β A w' hβ hC hO hD
  have e0:=hO 0 (by rfl)
  have e3:=hO 3 (by rfl)
  simp [Act.eval] at e0 e3
  simp [au,aj,ak,Act.eval,Region.binds] at hD
  simp [go_sem,gd,Oper.wp,e0,e3,hD]
  exact ay.mk (aJ _) (by simpa using hC) (aj.mk _ _)
 apply aM.step
 case aB=>
  intro β A w' hβ hC hO hD
  have e0:=hO 0 (by rfl)
  have e3:=hO 3 (by rfl)
  simp [Act.eval] at e0 e3
  simp [au,aj,ak,Act.eval,Region.binds] at hD
  simp [go_sem,gd,Oper.wp,e0,e3,hD,L2,hC.1]
  exact ay.mk (aJ _) (by simpa using hC) (aj.mk _ _)
 refine aM.some (fun v w'=> ∃b,b≠bt∧v= .slice (some ⟨b,0,none⟩) 1 1∧dI w' w'.heap.size [7] (some ⟨b,0,none⟩) 0) ?_ ?_ ?_
 ·rintro v w w' hle ⟨b,hbn,rfl,hin⟩
  exact ⟨b,hbn,rfl,dI.grow hbn hle hin⟩
 ·intro β A w' hβ hC hO hD
  simp [go_sem,gd,Oper.wp]
  exact ay.mk (d:=_) (v:= .slice (some ⟨_,0,none⟩) 1 1) (cu (ah _ _)) (by simpa using hC.below (ah _ _)) ⟨_,by have:=hC.2.lt; omega,rfl,dX _ 7 _⟩
 apply aM.step
 case aB=>
  intro β A w' hβ hC hO hD
  simp [au,aj,ak,Act.eval,Region.binds] at hD
  obtain ⟨af4,ai6,as2,aq8,ai9,XR⟩:=hD
  simp [go_sem,gd,Oper.wp,af4,ai6,ai9]
  refine (gH p w' aH aI aC aD _ aX _ aQ bs bt bc h.nm [7] _ 1 hi (by decide) (HP.out _ hC.1) XR (HK.out _ hC.1)).mono ?_
  rintro e' w2 ⟨rfl,hb⟩
  exact ay.mk (cu hb) (by simpa using hC.below hb) (aj.mk _ _)
 apply aM.step
 case aB=>
  intro β A w' hβ hC hO hD
  have e0:=hO 0 (by rfl)
  have e3:=hO 3 (by rfl)
  simp [Act.eval] at e0 e3
  simp [au,aj,ak,Act.eval,Region.binds] at hD
  simp [go_sem,gd,Oper.wp,e0,e3,hD]
  exact ay.mk (aJ _) (by simpa using hC) (aj.mk _ _)
 refine aM.some (fun v w'=> ∃b,b≠bt∧v= .slice (some ⟨b,0,none⟩) 2 2∧dI w' w'.heap.size [7,3] (some ⟨b,0,none⟩) 0) ?_ ?_ ?_
 ·rintro v w w' hle ⟨b,hbn,rfl,hin⟩
  exact ⟨b,hbn,rfl,dI.grow hbn hle hin⟩
 ·intro β A w' hβ hC hO hD
  simp [go_sem,gd,Oper.wp]
  exact ay.mk (d:=_) (v:= .slice (some ⟨_,0,none⟩) 2 2) (cu (ah _ _)) (by simpa using hC.below (ah _ _)) ⟨_,by have:=hC.2.lt; omega,rfl,dU _ 7 3 _⟩
 apply aM.step
 case aB=>
  intro β A w' hβ hC hO hD
  simp [au,aj,ak,Act.eval,Region.binds] at hD
  obtain ⟨ag1,⟨ar9,aq7,ah5,XP⟩,-⟩:=hD
  simp [go_sem,gd,Oper.wp,ag1,ah5]
  refine (eX p w' aH aI aC aD _ aX aQ bs bt bc ar [7,3] _ 2 (by decide) XP jv.out (kD.out _ hC.1) (HK.out _ hC.1)).mono ?_
  rintro e' w2 ⟨rfl,hb⟩
  exact ay.mk (cu hb) (by simpa using hC.below hb) (aj.mk _ _)
 apply aM.step
 case aB=>
  intro β A w' hβ hC hO hD
  simp [au,aj,ak,Act.eval,Region.binds] at hD
  simp [go_sem,gd,Oper.wp,hD]
  refine (cK (dY ar [7,3]) w').mono ?_
  rintro e' w2 ⟨rfl,rfl⟩
  exact ay.mk (aJ _) (by simpa using hC) (aj.mk _ _)
 apply aM.step
 case aB=>
  intro β A w' hβ hC hO hD
  have e0:=hO 0 (by rfl)
  have e3:=hO 3 (by rfl)
  simp [Act.eval] at e0 e3
  simp [au,aj,ak,Act.eval,Region.binds] at hD
  simp [go_sem,gd,Oper.wp,e0,e3,hD]
  exact ay.mk (aJ _) (by simpa using hC) (aj.mk _ _)
 apply aM.step
 case aB=>
  intro β A w' hβ hC hO hD
  have e0:=hO 0 (by rfl)
  have e3:=hO 3 (by rfl)
  simp [Act.eval] at e0 e3
  simp [au,aj,ak,Act.eval,Region.binds] at hD
  simp [go_sem,gd,Oper.wp,e0,e3,hD]
  exact ay.mk (aJ _) (by simpa using hC) (aj.mk _ _)
 apply aM.step
 case aB=>
  intro β A w' hβ hC hO hD
  have e0:=hO 0 (by rfl)
  have e3:=hO 3 (by rfl)
  simp [Act.eval] at e0 e3
  simp [au,aj,ak,Act.eval,Region.binds] at hD
  simp [go_sem,gd,Oper.wp,e0,e3,hD]
  exact ay.mk (aJ _) (by simpa using hC) (aj.mk _ _)
 apply aM.step
 case aB=>
  intro β A w' hβ hC hO hD
  have e0:=hO 0 (by rfl)
  have e3:=hO 3 (by rfl)
  simp [Act.eval] at e0 e3
  simp [au,aj,ak,Act.eval,Region.binds] at hD
  simp [go_sem,gd,Oper.wp,e0,e3,hD,LM,hC.1]
  exact ay.mk (aJ _) (by simpa using hC) (aj.mk _ _)
 apply aM.step
 case aB=>
  intro β A w' hβ hC hO hD
  have e0:=hO 0 (by rfl)
  have e3:=hO 3 (by rfl)
  simp [Act.eval] at e0 e3
  simp [au,aj,ak,Act.eval,Region.binds] at hD
  simp [go_sem,gd,Oper.wp,e0,e3,hD]
  exact ay.mk (aJ _) (by simpa using hC) (aj.mk _ _)
 apply aM.step
 case aB=>
  intro β A w' hβ hC hO hD
  have e0:=hO 0 (by rfl)
  have e3:=hO 3 (by rfl)
  simp [Act.eval] at e0 e3
  simp [au,aj,ak,Act.eval,Region.binds] at hD
  simp [go_sem,gd,Oper.wp,e0,e3,hD,L2,hC.1]
  exact ay.mk (aJ _) (by simpa using hC) (aj.mk _ _)
 apply aM.step
 case aB=>
  intro β A w' hβ hC hO hD
  obtain rfl:=hβ (by simp)
  simp [au,aj,ak,Act.eval,Region.binds] at hD
  simp [go_sem,gd,Oper.wp,hD]
  refine (yH h.nm w' bt n f HN.out FW.out (by simpa using hC.2)).mono ?_
  rintro e' w2 ⟨rfl,hm2,hg2⟩
  exact ay.mk hg2 ⟨nH hC.1 hg2,by simpa using hm2⟩ (aj.mk _ _)
 apply aM.step
 case aB=>
  intro β A w' hβ hC hO hD
  have e0:=hO 0 (by rfl)
  have e3:=hO 3 (by rfl)
  simp [Act.eval] at e0 e3
  simp [au,aj,ak,Act.eval,Region.binds] at hD
  simp [go_sem,gd,Oper.wp,e0,e3,hD]
  exact ay.mk (aJ _) (by simpa using hC) (aj.mk _ _)
 apply aM.step
 case aB=>
  intro β A w' hβ hC hO hD
  have e0:=hO 0 (by rfl)
  have e3:=hO 3 (by rfl)
  simp [Act.eval] at e0 e3
  simp [au,aj,ak,Act.eval,Region.binds] at hD
  simp [go_sem,gd,Oper.wp,e0,e3,hD]
  exact ay.mk (aJ _) (by simpa using hC) (aj.mk _ _)
 apply aM.step
 case aB=>
  intro β A w' hβ hC hO hD
  have e0:=hO 0 (by rfl)
  have e3:=hO 3 (by rfl)
  simp [Act.eval] at e0 e3
  simp [au,aj,ak,Act.eval,Region.binds] at hD
  simp [go_sem,gd,Oper.wp,e0,e3,hD,L5,L6,L7,L8,hC.1]
  exact ay.mk (aJ _) (by simpa using hC) (aj.mk _ _)
 apply aM.step
 case aB=>
  intro β A w' hβ hC hO hD
  simp [au,aj,ak,Act.eval,Region.binds] at hD
  simp [go_sem,gd,Oper.wp,hD]
  refine (oJ p w' aH aI aC aD _ aX _ aQ bs bt bc h.bD h.xn h.bC h.aL bS bf hi (HP.out _ hC.1) hxk (sP.out _ hC.1) (ig.out _ hC.1) (HK.out _ hC.1)).mono ?_
  rintro e' w2 ⟨rfl,hb⟩
  exact ay.mk (cu hb) (by simpa using hC.below hb) (aj.mk _ _)
 refine aM.some (fun v w'=> ∃b,b≠bt∧v= .slice (some ⟨b,0,none⟩) 4 4∧dI w' w'.heap.size [bg (mean p i h.nm) [7],nest (dY ar [7,3]),(jJ (f h.nm.toList)),kP p i h.bD h.xn h.bC h.aL] (some ⟨b,0,none⟩) 0) ?_ ?_ ?_
 ·rintro v w w' hle ⟨b,hbn,rfl,hin⟩
  exact ⟨b,hbn,rfl,dI.grow hbn hle hin⟩
 ·intro β A w' hβ hC hO hD
  simp [au,aj,ak,Act.eval,Region.binds] at hD
  simp [go_sem,gd,Oper.wp,hD]
  exact ay.mk (d:=_) (v:= .slice (some ⟨_,0,none⟩) 4 4) (cu (ah _ _)) (by simpa using hC.below (ah _ _)) ⟨_,by have:=hC.2.lt; omega,rfl,OH _ _ _ _ _ _⟩
 apply aM.step
 case aB=>
  intro β A w' hβ hC hO hD
  simp [au,aj,ak,Act.eval,Region.binds] at hD
  obtain ⟨⟨as0,ar0,af5,Wt⟩,-⟩:=hD
  simp [go_sem,gd,Oper.wp,af5]
  refine (cB [bg (mean p i h.nm) [7],nest (dY ar [7,3]),(jJ (f h.nm.toList)),kP p i h.bD h.xn h.bC h.aL] w' _ _ (by simp [maxLen]) Wt).mono ?_
  rintro e' w2 ⟨rfl,rfl⟩
  exact ay.mk (aJ _) (by simpa using hC) (aj.mk _ _)
 apply aM.step
 case aB=>
  intro β A w' hβ hC hO hD
  have e0:=hO 0 (by rfl)
  have e3:=hO 3 (by rfl)
  simp [Act.eval] at e0 e3
  simp [au,aj,ak,Act.eval,Region.binds] at hD
  simp [go_sem,gd,Oper.wp,e0,e3,hD]
  exact ay.mk (aJ _) (by simpa using hC) (aj.mk _ _)
 simp only [List.nil_append,List.cons_append]
 intro wz dP
 intro v0 h0 v1 h1 v2 h2 v3 h3 v4 h4 v5 h5 v6 h6 v7 h7 v8 h8 v9 h9 v10 h10 v11 h11 v12 h12 v13 mM v14 nW v15 oO v16 h16 v17 qx v18 h18 v19 h19 v20 h20 v21 h21 v22 h22
 have hl':v22=_:=h22
 subst hl'
 clear h0 h1 h2 h3 h4 h5 h6 h7 h8 h9 h10 h11 h12 mM nW oO h16 qx h18 h19 h20 h21 h22
 refine dG.nil ?_
 have HZ:Hid (MC W bt n f (ow f h.nm.toList) true wz):=Lib.hid (by simpa using dP)
 clear dP
 go_simp
 go_wp2_with fail
 go_ret
 refine uh ?_ HZ.out HG.out
 rw [← HR.out]
 rfl
end
end Go.Proofs.YtehnipchbmjlhaaGreatDoor
end
section
namespace Go.Proofs.YtehnipchbmjlhaaGreatDoor
open Go.RowKit
open Md
theorem Qc {w:World} {B b off:Nat} {t:Th} {r:List Th} (h:iI w B (t ::r) (some ⟨b,off,none⟩) 0):w.cell? ⟨b,off,none⟩=some (.string t.nm):=by
 obtain ⟨⟨b1,off1,fC,dN,bG,aS,e,-,x0,-⟩,-⟩:=h
 injection e with e; injection e with e1 e2; subst e1; subst e2
 simpa using x0
section
variable (p:Pr) (w:World) (aH aI:Option Addr) (aC aD:Nat) (aX:Option Addr) (aQ bs bt bc:Nat)
theorem PZ (j:Nat) (t t0:Th) (r r0:List Th) (hd:p.ts.drop j=t ::r) (hts:p.ts=t0 ::r0) (h:aV) (b e ar:aN) (s:Sl) (hi:aU (j:Int)) (hp: ∀w',w.grownBy w' (some bs)→p.At w' aH aI) (hok:oW h b e) (hex: ∀w',w.grownBy w' (some bs)→h.aL.At w' w'.heap.size s.bS 0) (cZ: ∀w',w.grownBy w' (some bs)→cO w') (har:ar.len≤maxLen) (hat: ∀w',w.grownBy w' (some bs)→ar.At w' w'.heap.size aX 0) (hh:Holds w (gT bc p aH aI aC aD (j:Int) aX ar.len aQ bs bt)) (hbc:bc≠bs) (n:Nat) (f:List UInt8→Bool) (hn:n < maxLen) (hmap:gP w bs n f) (hop:h.op=12):
 Calls Tryz.prog 126 #[.pointer (some ⟨bc,0,none⟩),dx h b e s] w (EB (eP [bg (mean p (j:Int) h.nm) [8],nest (dY ar [7,8,3] || (h.nm.toList == t.nm.toList || h.nm.toList == t0.nm.toList)),(jJ (f h.nm.toList))]) w bs (n + 1) (ow f h.nm.toList)):=by
 have HH:=Lib.hid (show Sit w w _ from ⟨Below.refl _ _,hh⟩)
 obtain ⟨dF,bT,bS,bf,bG,aS,dw,bR⟩:=s
 have hxk:=hok.2.2.2.2.2.1
 have hns:=hok.2.2.1
 generalize hres:eP [bg (mean p (j:Int) h.nm) [8],nest (dY ar [7,8,3] || (h.nm.toList == t.nm.toList || h.nm.toList == t0.nm.toList)),(jJ (f h.nm.toList))]=res
 have HR:=Lib.hid hres
 have dH:=Lib.hid hop
 have FW:=Lib.hid hns
 have HN:=Lib.hid hn
 have hlt:=hmap.lt
 clear hres hop hn hns
 unfold dx
 dsimp only
 dsimp only at hex
 go_enter Tryz.func126,Tryz.ntmps126
 go_upto_region 1 with fail
 generalize hW:World.alloc w _=W
 generalize Value.agg #[_,_,_,_,_,_,_,_,_,_,_]=a0
 have HX:Hid (Sit w W (nN w.heap.size h b e ⟨dF,bT,bS,bf,bG,aS,dw,bR⟩ (gT bc p aH aI aC aD (j:Int) aX ar.len aQ bs bt))):=Lib.hid (by rw [← hW]; exact HH.out.gF rfl _ _ _ _ _ _ _ _ _ _ _ _)
 clear hW HH
 have HG:Hid (∀w',W.grownBy w' (some bs)→w.grownBy w' (some bs)):=Lib.hid (fun w' hg=>nH (cu HX.out.1) hg)
 have HP:=Lib.hid (fun w' hg=>hp w' (HG.out w' hg))
 have ig:=Lib.hid (fun w' hg=>cZ w' (HG.out w' hg))
 have sP:=Lib.hid (fun w' hg=>hex w' (HG.out w' hg))
 have kD:=Lib.hid (fun w' hg=>hat w' (HG.out w' hg))
 have jv:=Lib.hid har
 have HM:=Lib.hid (hmap.next HX.out.1)
 have HF:Hid (∀w',W.grownBy w' (some bs)→Holds w' (nN w.heap.size h b e ⟨dF,bT,bS,bf,bG,aS,dw,bR⟩ (gT bc p aH aI aC aD (j:Int) aX ar.len aQ bs bt))):=Lib.hid (fun w' hg=>HX.out.mc hg (by
  intro x hx
  simp only [nN,gT,List.mem_cons,List.not_mem_nil,or_false] at hx
  rcases hx with rfl | rfl | rfl | rfl | rfl | rfl | rfl | rfl | rfl | rfl | rfl | rfl | rfl | rfl | rfl | rfl | rfl <;> first | exact hbc | (show w.heap.size≠bs; omega)))
 have HK:Hid (∀w',W.grownBy w' (some bs)→Holds w' (gT bc p aH aI aC aD (j:Int) aX ar.len aQ bs bt)):=Lib.hid (fun w' hg=>(HF.out w' hg).2.2.2.2.2.2.2.2.2.2.2)
 clear hp cZ hh hat har hex hmap hlt hbc
 have L0: ∀w',W.grownBy w' (some bs)→w'.cell? ⟨w.heap.size,0,none⟩=some (.int .i64 h.op):=fun w' hb=>(HF.out w' hb).1.2
 have L2: ∀w',W.grownBy w' (some bs)→w'.cell? ⟨w.heap.size,2,none⟩=some (.string h.nm):=fun w' hb=>(HF.out w' hb).2.2.1.2
 have L5: ∀w',W.grownBy w' (some bs)→w'.cell? ⟨w.heap.size,5,none⟩=some (.int .i64 h.bD):=fun w' hb=>(HF.out w' hb).2.2.2.2.2.1.2
 have L6: ∀w',W.grownBy w' (some bs)→w'.cell? ⟨w.heap.size,6,none⟩=some (.int .i64 h.xn):=fun w' hb=>(HF.out w' hb).2.2.2.2.2.2.1.2
 have L7: ∀w',W.grownBy w' (some bs)→w'.cell? ⟨w.heap.size,7,none⟩=some (.string h.bC):=fun w' hb=>(HF.out w' hb).2.2.2.2.2.2.2.1.2
 have L8: ∀w',W.grownBy w' (some bs)→w'.cell? ⟨w.heap.size,8,none⟩=some (.slice bS h.aL.len bf):=fun w' hb=>(HF.out w' hb).2.2.2.2.2.2.2.2.1.2
 have LM: ∀w',W.grownBy w' (some bs)→w'.cell? ⟨bc,4,none⟩=some (.map (some bs)):=fun w' hb=>(HK.out w' hb).2.2.2.2.1.2
 have l0:=L0 W (aJ _)
 have hop:=dH.out
 have g1:(h.op == 1)=false:=by rw [hop]; rfl
 have g2:(h.op == 2)=false:=by rw [hop]; rfl
 have g3:(h.op == 3)=false:=by rw [hop]; rfl
 have g4:(h.op == 4)=false:=by rw [hop]; rfl
 have g5:(h.op == 5)=false:=by rw [hop]; rfl
 have g6:(h.op == 6)=false:=by rw [hop]; rfl
 have g7:(h.op == 7)=false:=by rw [hop]; rfl
 have g8:(h.op == 8)=false:=by rw [hop]; rfl
 have g9:(h.op == 9)=false:=by rw [hop]; rfl
 have g10:(h.op == 10)=false:=by rw [hop]; rfl
 have g11:(h.op == 11)=false:=by rw [hop]; rfl
 have g12:(h.op == 12)=true:=by rw [hop]; rfl
 have g13:(h.op == 13)=false:=by rw [hop]; rfl
 have g14:(h.op == 14)=false:=by rw [hop]; rfl
 have g15:(h.op == 15)=false:=by rw [hop]; rfl
 clear hop l0
 have l0:=L0 W (aJ _)
 go_upto_region 21 with fail
 have hpos:0 < p.ts.length:=by rw [hts]; simp
 have YV:(0:Int) < p.ts.length:=by omega
 obtain ⟨b0,fJ,eT⟩: ∃b0 fJ,aI=some ⟨b0,fJ,none⟩:=by
  have:=(HP.out W (aJ _)).2.2.2
  rw [hts] at this
  obtain ⟨⟨b1,off1,fC,dN,bG,aS,e,-⟩,-⟩:=this
  exact ⟨b1,off1,e⟩
 subst eT
 have LN: ∀w',W.grownBy w' (some bs)→w'.cell? ⟨b0,fJ,none⟩=some (.string t0.nm):=fun w' hb=>by
  have:=(HP.out w' hb).2.2.2
  rw [hts] at this
  exact Qc this
 have LT: ∀w',W.grownBy w' (some bs)→w'.cell? ⟨bc,1,none⟩=some (.slice (some ⟨b0,fJ,none⟩) p.ts.length aD):=fun w' hb=>(HK.out w' hb).2.1.2
 cases hq:dY ar [7,8,3]
 ·cases ho:(h.nm.toList == t.nm.toList)
  ·refine lJ 35 (MC W bs n f (ow f h.nm.toList)) (fun w w'=>w.grownBy w' (some bs)) [109,110,111,112,113,114,115,116,117,118,119,120,121,122,123,124,125,126,127,128,129,130,131,132,133,134,135,136,137,138,139,140,141,142,143,144,145,146,4] (by kernel_rfl) (by kernel_rfl) (fun _=>aJ _) (by rfl) ⟨cu (below_drewN (Below.refl _ _) 1),by simpa using HM.out.next (below_drewN (Below.refl _ _) 1)⟩ ?_
   apply aM.step
   case aB=>
    intro β A w' hβ hC hO hD
    have e0:=hO 0 (by rfl)
    have e3:=hO 3 (by rfl)
    simp [Act.eval] at e0 e3
    simp [au,aj,ak,Act.eval,Region.binds] at hD
    simp [go_sem,gd,Oper.wp,e0,e3,hD]
    exact ay.mk (aJ _) (by simpa using hC) (aj.mk _ _)
   apply aM.step
   case aB=>
    intro β A w' hβ hC hO hD
    have e0:=hO 0 (by rfl)
    have e3:=hO 3 (by rfl)
    simp [Act.eval] at e0 e3
    simp [au,aj,ak,Act.eval,Region.binds] at hD
    simp [go_sem,gd,Oper.wp,e0,e3,hD]
    exact ay.mk (aJ _) (by simpa using hC) (aj.mk _ _)
   simp only [List.nil_append,List.cons_append]
   apply aM.step
   case aB=>
    intro β A w' hβ hC hO hD
    have e0:=hO 0 (by rfl)
    have e3:=hO 3 (by rfl)
    simp [Act.eval] at e0 e3
    simp [au,aj,ak,Act.eval,Region.binds] at hD
    simp [go_sem,gd,Oper.wp,e0,e3,hD,L2,hC.1]
    exact ay.mk (aJ _) (by simpa using hC) (aj.mk _ _)
   simp only [List.nil_append,List.cons_append]
   refine aM.some (fun v w'=> ∃b,b≠bs∧v= .slice (some ⟨b,0,none⟩) 1 1∧dI w' w'.heap.size [8] (some ⟨b,0,none⟩) 0) ?_ ?_ ?_
   ·rintro v w w' hle ⟨b,hbn,rfl,hin⟩
    exact ⟨b,hbn,rfl,dI.grow hbn hle hin⟩
   ·intro β A w' hβ hC hO hD
    simp [go_sem,gd,Oper.wp]
    exact ay.mk (d:=_) (v:= .slice (some ⟨_,0,none⟩) 1 1) (cu (ah _ _)) (by simpa using hC.below (ah _ _)) ⟨_,by have:=hC.2.lt; omega,rfl,dX _ 8 _⟩
   simp only [List.nil_append,List.cons_append]
   apply aM.step
   case aB=>
    intro β A w' hβ hC hO hD
    simp [au,aj,ak,Act.eval,Region.binds] at hD
    obtain ⟨J4,Jb,VH,Tf,J9,AQ⟩:=hD
    simp [go_sem,gd,Oper.wp,J4,Jb,J9]
    refine (gH p w' aH (some ⟨b0,fJ,none⟩) aC aD _ aX _ aQ bs bt bc h.nm [8] _ 1 hi (by decide) (HP.out _ hC.1) AQ (HK.out _ hC.1)).mono ?_
    rintro e' w2 ⟨rfl,hb⟩
    exact ay.mk (cu hb) (by simpa using hC.below hb) (aj.mk _ _)
   simp only [List.nil_append,List.cons_append]
   apply aM.step
   case aB=>
    intro β A w' hβ hC hO hD
    have e0:=hO 0 (by rfl)
    have e3:=hO 3 (by rfl)
    simp [Act.eval] at e0 e3
    simp [au,aj,ak,Act.eval,Region.binds] at hD
    simp [go_sem,gd,Oper.wp,e0,e3,hD]
    exact ay.mk (aJ _) (by simpa using hC) (aj.mk _ _)
   simp only [List.nil_append,List.cons_append]
   refine aM.some (fun v w'=> ∃b,b≠bs∧v= .slice (some ⟨b,0,none⟩) 3 3∧dI w' w'.heap.size [7,8,3] (some ⟨b,0,none⟩) 0) ?_ ?_ ?_
   ·rintro v w w' hle ⟨b,hbn,rfl,hin⟩
    exact ⟨b,hbn,rfl,dI.grow hbn hle hin⟩
   ·intro β A w' hβ hC hO hD
    simp [go_sem,gd,Oper.wp]
    exact ay.mk (d:=_) (v:= .slice (some ⟨_,0,none⟩) 3 3) (cu (ah _ _)) (by simpa using hC.below (ah _ _)) ⟨_,by have:=hC.2.lt; omega,rfl,lS _ 7 8 3 _⟩
   simp only [List.nil_append,List.cons_append]
   apply aM.step
   case aB=>
    intro β A w' hβ hC hO hD
    simp [au,aj,ak,Act.eval,Region.binds] at hD
    obtain ⟨IG,⟨WU,TK,GV,Al⟩,-⟩:=hD
    simp [go_sem,gd,Oper.wp,IG,GV]
    refine (hq ▸ eX p w' aH (some ⟨b0,fJ,none⟩) aC aD (j:Int) aX aQ bs bt bc ar [7,8,3] _ 3 (by decide) Al jv.out (kD.out _ hC.1) (HK.out _ hC.1)).mono ?_
    rintro e' w2 ⟨rfl,hb⟩
    exact ay.mk (cu hb) (by simpa using hC.below hb) (aj.mk _ _)
   simp only [List.nil_append,List.cons_append]
   apply aM.step
   case aB=>
    intro β A w' hβ hC hO hD
    have e0:=hO 0 (by rfl)
    have e3:=hO 3 (by rfl)
    simp [Act.eval] at e0 e3
    simp [au,aj,ak,Act.eval,Region.binds] at hD
    simp [go_sem,gd,Oper.wp,e0,e3,hD]
    exact ay.mk (aJ _) (by simpa using hC) (aj.mk _ _)
   simp only [List.nil_append,List.cons_append]
   apply aM.step
   case aB=>
    intro β A w' hβ hC hO hD
    have e0:=hO 0 (by rfl)
    have e3:=hO 3 (by rfl)
    simp [Act.eval] at e0 e3
    simp [au,aj,ak,Act.eval,Region.binds] at hD
    simp [go_sem,gd,Oper.wp,e0,e3,hD]
    exact ay.mk (aJ _) (by simpa using hC) (aj.mk _ _)
   simp only [List.nil_append,List.cons_append]
   apply aM.step
   case aB=>
    intro β A w' hβ hC hO hD
    have e0:=hO 0 (by rfl)
    have e3:=hO 3 (by rfl)
    simp [Act.eval] at e0 e3
    simp [au,aj,ak,Act.eval,Region.binds] at hD
    simp [go_sem,gd,Oper.wp,e0,e3,hD,L2,hC.1]
    exact ay.mk (aJ _) (by simpa using hC) (aj.mk _ _)
   simp only [List.nil_append,List.cons_append]
   apply aM.step
   case aB=>
    intro β A w' hβ hC hO hD
    have e0:=hO 0 (by rfl)
    have e3:=hO 3 (by rfl)
    simp [Act.eval] at e0 e3
    simp [au,aj,ak,Act.eval,Region.binds] at hD
    simp [go_sem,gd,Oper.wp,e0,e3,hD]
    exact ay.mk (aJ _) (by simpa using hC) (aj.mk _ _)
   simp only [List.nil_append,List.cons_append]
   apply aM.step
   case aB=>
    intro β A w' hβ hC hO hD
    simp [au,aj,ak,Act.eval,Region.binds] at hD
    simp [go_sem,gd,Oper.wp,hD]
    refine (A9 p w' aH (some ⟨b0,fJ,none⟩) aC aD aX ar.len aQ bs bt bc j t r hd (HP.out _ hC.1) (HK.out _ hC.1)).mono ?_
    rintro e' w2 ⟨rfl,hb⟩
    exact ay.mk (cu hb) (by simpa using hC.below hb) (aj.mk _ _)
   simp only [List.nil_append,List.cons_append]
   apply aM.step
   case aB=>
    intro β A w' hβ hC hO hD
    have e0:=hO 0 (by rfl)
    have e3:=hO 3 (by rfl)
    simp [Act.eval] at e0 e3
    simp [au,aj,ak,Act.eval,Region.binds] at hD
    simp [go_sem,gd,Oper.wp,e0,e3,hD,ho]
    exact ay.mk (aJ _) (by simpa using hC) (aj.mk _ _)
   simp only [List.nil_append,List.cons_append]
   apply aM.step
   case aB=>
    intro β A w' hβ hC hO hD
    have e0:=hO 0 (by rfl)
    have e3:=hO 3 (by rfl)
    simp [Act.eval] at e0 e3
    simp [au,aj,ak,Act.eval,Region.binds] at hD
    simp [go_sem,gd,Oper.wp,e0,e3,hD]
    exact ay.mk (aJ _) (by simpa using hC) (aj.mk _ _)
   simp only [List.nil_append,List.cons_append]
   apply aM.step
   case aB=>
    intro β A w' hβ hC hO hD
    have e0:=hO 0 (by rfl)
    have e3:=hO 3 (by rfl)
    simp [Act.eval] at e0 e3
    simp [au,aj,ak,Act.eval,Region.binds] at hD
    simp [go_sem,gd,Oper.wp,e0,e3,hD]
    exact ay.mk (aJ _) (by simpa using hC) (aj.mk _ _)
   simp only [List.nil_append,List.cons_append]
   apply aM.step
   case aB=>
    intro β A w' hβ hC hO hD
    have e0:=hO 0 (by rfl)
    have e3:=hO 3 (by rfl)
    simp [Act.eval] at e0 e3
    simp [au,aj,ak,Act.eval,Region.binds] at hD
    simp [go_sem,gd,Oper.wp,e0,e3,hD]
    exact ay.mk (aJ _) (by simpa using hC) (aj.mk _ _)
   simp only [List.nil_append,List.cons_append]
   apply aM.step
   case aB=>
    intro β A w' hβ hC hO hD
    have e0:=hO 0 (by rfl)
    have e3:=hO 3 (by rfl)
    simp [Act.eval] at e0 e3
    simp [au,aj,ak,Act.eval,Region.binds] at hD
    simp [go_sem,gd,Oper.wp,e0,e3,hD,L2,hC.1]
    exact ay.mk (aJ _) (by simpa using hC) (aj.mk _ _)
   simp only [List.nil_append,List.cons_append]
   apply aM.step
   case aB=>
    intro β A w' hβ hC hO hD
    have e0:=hO 0 (by rfl)
    have e3:=hO 3 (by rfl)
    simp [Act.eval] at e0 e3
    simp [au,aj,ak,Act.eval,Region.binds] at hD
    simp [go_sem,gd,Oper.wp,e0,e3,hD]
    exact ay.mk (aJ _) (by simpa using hC) (aj.mk _ _)
   simp only [List.nil_append,List.cons_append]
   apply aM.step
   case aB=>
    intro β A w' hβ hC hO hD
    have e0:=hO 0 (by rfl)
    have e3:=hO 3 (by rfl)
    simp [Act.eval] at e0 e3
    simp [au,aj,ak,Act.eval,Region.binds] at hD
    simp [go_sem,gd,Oper.wp,e0,e3,hD]
    exact ay.mk (aJ _) (by simpa using hC) (aj.mk _ _)
   simp only [List.nil_append,List.cons_append]
   apply aM.step
   case aB=>
    intro β A w' hβ hC hO hD
    have e0:=hO 0 (by rfl)
    have e3:=hO 3 (by rfl)
    simp [Act.eval] at e0 e3
    simp [au,aj,ak,Act.eval,Region.binds] at hD
    simp [go_sem,gd,Oper.wp,e0,e3,hD]
    exact ay.mk (aJ _) (by simpa using hC) (aj.mk _ _)
   simp only [List.nil_append,List.cons_append]
   apply aM.step
   case aB=>
    intro β A w' hβ hC hO hD
    have e0:=hO 0 (by rfl)
    have e3:=hO 3 (by rfl)
    simp [Act.eval] at e0 e3
    simp [au,aj,ak,Act.eval,Region.binds] at hD
    simp [go_sem,gd,Oper.wp,e0,e3,hD]
    exact ay.mk (aJ _) (by simpa using hC) (aj.mk _ _)
   simp only [List.nil_append,List.cons_append]
   apply aM.step
   case aB=>
    intro β A w' hβ hC hO hD
    have e0:=hO 0 (by rfl)
    have e3:=hO 3 (by rfl)
    simp [Act.eval] at e0 e3
    simp [au,aj,ak,Act.eval,Region.binds] at hD
    simp [go_sem,gd,Oper.wp,e0,e3,hD,LT,hC.1]
    exact ay.mk (aJ _) (by simpa using hC) (aj.mk _ _)
   simp only [List.nil_append,List.cons_append]
   apply aM.step
   case aB=>
    intro β A w' hβ hC hO hD
    have e0:=hO 0 (by rfl)
    have e3:=hO 3 (by rfl)
    simp [Act.eval] at e0 e3
    simp [au,aj,ak,Act.eval,Region.binds] at hD
    simp [go_sem,gd,Oper.wp,e0,e3,hD,hpos,YV]
    exact ay.mk (aJ _) (by simpa using hC) (aj.mk _ _)
   simp only [List.nil_append,List.cons_append]
   apply aM.step
   case aB=>
    intro β A w' hβ hC hO hD
    have e0:=hO 0 (by rfl)
    have e3:=hO 3 (by rfl)
    simp [Act.eval] at e0 e3
    simp [au,aj,ak,Act.eval,Region.binds] at hD
    simp [go_sem,gd,Oper.wp,e0,e3,hD]
    exact ay.mk (aJ _) (by simpa using hC) (aj.mk _ _)
   simp only [List.nil_append,List.cons_append]
   apply aM.step
   case aB=>
    intro β A w' hβ hC hO hD
    have e0:=hO 0 (by rfl)
    have e3:=hO 3 (by rfl)
    simp [Act.eval] at e0 e3
    simp [au,aj,ak,Act.eval,Region.binds] at hD
    simp [go_sem,gd,Oper.wp,e0,e3,hD,LN,hC.1]
    exact ay.mk (aJ _) (by simpa using hC) (aj.mk _ _)
   simp only [List.nil_append,List.cons_append]
   apply aM.step
   case aB=>
    intro β A w' hβ hC hO hD
    have e0:=hO 0 (by rfl)
    have e3:=hO 3 (by rfl)
    simp [Act.eval] at e0 e3
    simp [au,aj,ak,Act.eval,Region.binds] at hD
    simp [go_sem,gd,Oper.wp,e0,e3,hD]
    exact ay.mk (aJ _) (by simpa using hC) (aj.mk _ _)
   simp only [List.nil_append,List.cons_append]
   apply aM.step
   case aB=>
    intro β A w' hβ hC hO hD
    have e0:=hO 0 (by rfl)
    have e3:=hO 3 (by rfl)
    simp [Act.eval] at e0 e3
    simp [au,aj,ak,Act.eval,Region.binds] at hD
    simp [go_sem,gd,Oper.wp,e0,e3,hD]
    exact ay.mk (aJ _) (by simpa using hC) (aj.mk _ _)
   simp only [List.nil_append,List.cons_append]
   apply aM.step
   case aB=>
    intro β A w' hβ hC hO hD
    simp [au,aj,ak,Act.eval,Region.binds] at hD
    simp [go_sem,gd,Oper.wp,hD]
    refine (cK (h.nm.toList == t0.nm.toList) w').mono ?_
    rintro e' w2 ⟨rfl,rfl⟩
    exact ay.mk (aJ _) (by simpa using hC) (aj.mk _ _)
   simp only [List.nil_append,List.cons_append]
   apply aM.step
   case aB=>
    intro β A w' hβ hC hO hD
    have e0:=hO 0 (by rfl)
    have e3:=hO 3 (by rfl)
    simp [Act.eval] at e0 e3
    simp [au,aj,ak,Act.eval,Region.binds] at hD
    simp [go_sem,gd,Oper.wp,e0,e3,hD]
    exact ay.mk (aJ _) (by simpa using hC) (aj.mk _ _)
   simp only [List.nil_append,List.cons_append]
   apply aM.step
   case aB=>
    intro β A w' hβ hC hO hD
    have e0:=hO 0 (by rfl)
    have e3:=hO 3 (by rfl)
    simp [Act.eval] at e0 e3
    simp [au,aj,ak,Act.eval,Region.binds] at hD
    simp [go_sem,gd,Oper.wp,e0,e3,hD]
    exact ay.mk (aJ _) (by simpa using hC) (aj.mk _ _)
   simp only [List.nil_append,List.cons_append]
   apply aM.step
   case aB=>
    intro β A w' hβ hC hO hD
    have e0:=hO 0 (by rfl)
    have e3:=hO 3 (by rfl)
    simp [Act.eval] at e0 e3
    simp [au,aj,ak,Act.eval,Region.binds] at hD
    simp [go_sem,gd,Oper.wp,e0,e3,hD]
    exact ay.mk (aJ _) (by simpa using hC) (aj.mk _ _)
   simp only [List.nil_append,List.cons_append]
   apply aM.step
   case aB=>
    intro β A w' hβ hC hO hD
    have e0:=hO 0 (by rfl)
    have e3:=hO 3 (by rfl)
    simp [Act.eval] at e0 e3
    simp [au,aj,ak,Act.eval,Region.binds] at hD
    simp [go_sem,gd,Oper.wp,e0,e3,hD,LM,hC.1]
    exact ay.mk (aJ _) (by simpa using hC) (aj.mk _ _)
   simp only [List.nil_append,List.cons_append]
   apply aM.step
   case aB=>
    intro β A w' hβ hC hO hD
    have e0:=hO 0 (by rfl)
    have e3:=hO 3 (by rfl)
    simp [Act.eval] at e0 e3
    simp [au,aj,ak,Act.eval,Region.binds] at hD
    simp [go_sem,gd,Oper.wp,e0,e3,hD]
    exact ay.mk (aJ _) (by simpa using hC) (aj.mk _ _)
   simp only [List.nil_append,List.cons_append]
   apply aM.step
   case aB=>
    intro β A w' hβ hC hO hD
    have e0:=hO 0 (by rfl)
    have e3:=hO 3 (by rfl)
    simp [Act.eval] at e0 e3
    simp [au,aj,ak,Act.eval,Region.binds] at hD
    simp [go_sem,gd,Oper.wp,e0,e3,hD,L2,hC.1]
    exact ay.mk (aJ _) (by simpa using hC) (aj.mk _ _)
   simp only [List.nil_append,List.cons_append]
   apply aM.step
   case aB=>
    intro β A w' hβ hC hO hD
    obtain rfl:=hβ (by simp)
    simp [au,aj,ak,Act.eval,Region.binds] at hD
    simp [go_sem,gd,Oper.wp,hD]
    refine (yH h.nm w' bs n f HN.out FW.out (by simpa using hC.2)).mono ?_
    rintro e' w2 ⟨rfl,hm2,hg2⟩
    exact ay.mk hg2 ⟨nH hC.1 hg2,by simpa using hm2⟩ (aj.mk _ _)
   simp only [List.nil_append,List.cons_append]
   refine aM.some (fun v w'=> ∃b,b≠bs∧v= .slice (some ⟨b,0,none⟩) 3 3∧dI w' w'.heap.size [bg (mean p (j:Int) h.nm) [8],nest (h.nm.toList == t0.nm.toList),(jJ (f h.nm.toList))] (some ⟨b,0,none⟩) 0) ?_ ?_ ?_
   ·rintro v w w' hle ⟨b,hbn,rfl,hin⟩
    exact ⟨b,hbn,rfl,dI.grow hbn hle hin⟩
   ·intro β A w' hβ hC hO hD
    simp [au,aj,ak,Act.eval,Region.binds] at hD
    simp [go_sem,gd,Oper.wp,hD]
    exact ay.mk (d:=_) (v:= .slice (some ⟨_,0,none⟩) 3 3) (cu (ah _ _)) (by simpa using hC.below (ah _ _)) ⟨_,by have:=hC.2.lt; omega,rfl,lS _ _ _ _ _⟩
   simp only [List.nil_append,List.cons_append]
   apply aM.step
   case aB=>
    intro β A w' hβ hC hO hD
    simp [au,aj,ak,Act.eval,Region.binds] at hD
    obtain ⟨⟨Wx,Sz,IC,Ae⟩,-⟩:=hD
    simp [go_sem,gd,Oper.wp,IC]
    refine (cB [bg (mean p (j:Int) h.nm) [8],nest (h.nm.toList == t0.nm.toList),(jJ (f h.nm.toList))] w' _ _ (by simp [maxLen]) Ae).mono ?_
    rintro e' w2 ⟨rfl,rfl⟩
    exact ay.mk (aJ _) (by simpa using hC) (aj.mk _ _)
   simp only [List.nil_append,List.cons_append]
   apply aM.step
   case aB=>
    intro β A w' hβ hC hO hD
    have e0:=hO 0 (by rfl)
    have e3:=hO 3 (by rfl)
    simp [Act.eval] at e0 e3
    simp [au,aj,ak,Act.eval,Region.binds] at hD
    simp [go_sem,gd,Oper.wp,e0,e3,hD]
    exact ay.mk (aJ _) (by simpa using hC) (aj.mk _ _)
   simp only [List.nil_append,List.cons_append]
   intro wz dP
   intro v0 h0 v1 h1 v2 h2 v3 h3 v4 h4 v5 h5 v6 h6 v7 h7 v8 h8 v9 h9 v10 h10 v11 h11 v12 h12 v13 mM v14 nW v15 oO v16 h16 v17 qx v18 h18 v19 h19 v20 h20 v21 h21 v22 h22 v23 h23 v24 NW v25 Nz v26 MR v27 h27 v28 ML v29 Ph v30 Oe v31 h31 v32 h32 v33 FI v34 Nj v35 NP v36 Pb v37 h37 v38 BR
   have hl':v38=_:=BR
   subst hl'
   clear h0 h1 h2 h3 h4 h5 h6 h7 h8 h9 h10 h11 h12 mM nW oO h16 qx h18 h19 h20 h21 h22 h23 NW Nz MR h27 ML Ph Oe h31 h32 FI Nj NP Pb h37 BR
   refine dG.nil ?_
   have HZ:Hid (MC W bs n f (ow f h.nm.toList) true wz):=Lib.hid (by simpa using dP)
   clear dP
   go_simp
   go_wp2_with fail
   go_ret
   refine uh ?_ HZ.out HG.out
   rw [← HR.out,hq,ho]
   try rfl
  ·refine lJ 35 (MC W bs n f (ow f h.nm.toList)) (fun w w'=>w.grownBy w' (some bs)) [109,110,111,112,113,114,115,116,117,118,119,120,121,122,123,124,125,126,127,128,129,130,131,132,133,134,135,136,137,138,139,140,141,142,143,144,145,146,4] (by kernel_rfl) (by kernel_rfl) (fun _=>aJ _) (by rfl) ⟨cu (below_drewN (Below.refl _ _) 1),by simpa using HM.out.next (below_drewN (Below.refl _ _) 1)⟩ ?_
   apply aM.step
   case aB=>
    intro β A w' hβ hC hO hD
    have e0:=hO 0 (by rfl)
    have e3:=hO 3 (by rfl)
    simp [Act.eval] at e0 e3
    simp [au,aj,ak,Act.eval,Region.binds] at hD
    simp [go_sem,gd,Oper.wp,e0,e3,hD]
    exact ay.mk (aJ _) (by simpa using hC) (aj.mk _ _)
   apply aM.step
   case aB=>
    intro β A w' hβ hC hO hD
    have e0:=hO 0 (by rfl)
    have e3:=hO 3 (by rfl)
    simp [Act.eval] at e0 e3
    simp [au,aj,ak,Act.eval,Region.binds] at hD
    simp [go_sem,gd,Oper.wp,e0,e3,hD]
    exact ay.mk (aJ _) (by simpa using hC) (aj.mk _ _)
   simp only [List.nil_append,List.cons_append]
   apply aM.step
   case aB=>
    intro β A w' hβ hC hO hD
    have e0:=hO 0 (by rfl)
    have e3:=hO 3 (by rfl)
    simp [Act.eval] at e0 e3
    simp [au,aj,ak,Act.eval,Region.binds] at hD
    simp [go_sem,gd,Oper.wp,e0,e3,hD,L2,hC.1]
    exact ay.mk (aJ _) (by simpa using hC) (aj.mk _ _)
   simp only [List.nil_append,List.cons_append]
   refine aM.some (fun v w'=> ∃b,b≠bs∧v= .slice (some ⟨b,0,none⟩) 1 1∧dI w' w'.heap.size [8] (some ⟨b,0,none⟩) 0) ?_ ?_ ?_
   ·rintro v w w' hle ⟨b,hbn,rfl,hin⟩
    exact ⟨b,hbn,rfl,dI.grow hbn hle hin⟩
   ·intro β A w' hβ hC hO hD
    simp [go_sem,gd,Oper.wp]
    exact ay.mk (d:=_) (v:= .slice (some ⟨_,0,none⟩) 1 1) (cu (ah _ _)) (by simpa using hC.below (ah _ _)) ⟨_,by have:=hC.2.lt; omega,rfl,dX _ 8 _⟩
   simp only [List.nil_append,List.cons_append]
   apply aM.step
   case aB=>
    intro β A w' hβ hC hO hD
    simp [au,aj,ak,Act.eval,Region.binds] at hD
    obtain ⟨J4,Jb,VH,Tf,J9,AQ⟩:=hD
    simp [go_sem,gd,Oper.wp,J4,Jb,J9]
    refine (gH p w' aH (some ⟨b0,fJ,none⟩) aC aD _ aX _ aQ bs bt bc h.nm [8] _ 1 hi (by decide) (HP.out _ hC.1) AQ (HK.out _ hC.1)).mono ?_
    rintro e' w2 ⟨rfl,hb⟩
    exact ay.mk (cu hb) (by simpa using hC.below hb) (aj.mk _ _)
   simp only [List.nil_append,List.cons_append]
   apply aM.step
   case aB=>
    intro β A w' hβ hC hO hD
    have e0:=hO 0 (by rfl)
    have e3:=hO 3 (by rfl)
    simp [Act.eval] at e0 e3
    simp [au,aj,ak,Act.eval,Region.binds] at hD
    simp [go_sem,gd,Oper.wp,e0,e3,hD]
    exact ay.mk (aJ _) (by simpa using hC) (aj.mk _ _)
   simp only [List.nil_append,List.cons_append]
   refine aM.some (fun v w'=> ∃b,b≠bs∧v= .slice (some ⟨b,0,none⟩) 3 3∧dI w' w'.heap.size [7,8,3] (some ⟨b,0,none⟩) 0) ?_ ?_ ?_
   ·rintro v w w' hle ⟨b,hbn,rfl,hin⟩
    exact ⟨b,hbn,rfl,dI.grow hbn hle hin⟩
   ·intro β A w' hβ hC hO hD
    simp [go_sem,gd,Oper.wp]
    exact ay.mk (d:=_) (v:= .slice (some ⟨_,0,none⟩) 3 3) (cu (ah _ _)) (by simpa using hC.below (ah _ _)) ⟨_,by have:=hC.2.lt; omega,rfl,lS _ 7 8 3 _⟩
   simp only [List.nil_append,List.cons_append]
   apply aM.step
   case aB=>
    intro β A w' hβ hC hO hD
    simp [au,aj,ak,Act.eval,Region.binds] at hD
    obtain ⟨IG,⟨WU,TK,GV,Al⟩,-⟩:=hD
    simp [go_sem,gd,Oper.wp,IG,GV]
    refine (hq ▸ eX p w' aH (some ⟨b0,fJ,none⟩) aC aD (j:Int) aX aQ bs bt bc ar [7,8,3] _ 3 (by decide) Al jv.out (kD.out _ hC.1) (HK.out _ hC.1)).mono ?_
    rintro e' w2 ⟨rfl,hb⟩
    exact ay.mk (cu hb) (by simpa using hC.below hb) (aj.mk _ _)
   simp only [List.nil_append,List.cons_append]
   apply aM.step
   case aB=>
    intro β A w' hβ hC hO hD
    have e0:=hO 0 (by rfl)
    have e3:=hO 3 (by rfl)
    simp [Act.eval] at e0 e3
    simp [au,aj,ak,Act.eval,Region.binds] at hD
    simp [go_sem,gd,Oper.wp,e0,e3,hD]
    exact ay.mk (aJ _) (by simpa using hC) (aj.mk _ _)
   simp only [List.nil_append,List.cons_append]
   apply aM.step
   case aB=>
    intro β A w' hβ hC hO hD
    have e0:=hO 0 (by rfl)
    have e3:=hO 3 (by rfl)
    simp [Act.eval] at e0 e3
    simp [au,aj,ak,Act.eval,Region.binds] at hD
    simp [go_sem,gd,Oper.wp,e0,e3,hD]
    exact ay.mk (aJ _) (by simpa using hC) (aj.mk _ _)
   simp only [List.nil_append,List.cons_append]
   apply aM.step
   case aB=>
    intro β A w' hβ hC hO hD
    have e0:=hO 0 (by rfl)
    have e3:=hO 3 (by rfl)
    simp [Act.eval] at e0 e3
    simp [au,aj,ak,Act.eval,Region.binds] at hD
    simp [go_sem,gd,Oper.wp,e0,e3,hD,L2,hC.1]
    exact ay.mk (aJ _) (by simpa using hC) (aj.mk _ _)
   simp only [List.nil_append,List.cons_append]
   apply aM.step
   case aB=>
    intro β A w' hβ hC hO hD
    have e0:=hO 0 (by rfl)
    have e3:=hO 3 (by rfl)
    simp [Act.eval] at e0 e3
    simp [au,aj,ak,Act.eval,Region.binds] at hD
    simp [go_sem,gd,Oper.wp,e0,e3,hD]
    exact ay.mk (aJ _) (by simpa using hC) (aj.mk _ _)
   simp only [List.nil_append,List.cons_append]
   apply aM.step
   case aB=>
    intro β A w' hβ hC hO hD
    simp [au,aj,ak,Act.eval,Region.binds] at hD
    simp [go_sem,gd,Oper.wp,hD]
    refine (A9 p w' aH (some ⟨b0,fJ,none⟩) aC aD aX ar.len aQ bs bt bc j t r hd (HP.out _ hC.1) (HK.out _ hC.1)).mono ?_
    rintro e' w2 ⟨rfl,hb⟩
    exact ay.mk (cu hb) (by simpa using hC.below hb) (aj.mk _ _)
   simp only [List.nil_append,List.cons_append]
   apply aM.step
   case aB=>
    intro β A w' hβ hC hO hD
    have e0:=hO 0 (by rfl)
    have e3:=hO 3 (by rfl)
    simp [Act.eval] at e0 e3
    simp [au,aj,ak,Act.eval,Region.binds] at hD
    simp [go_sem,gd,Oper.wp,e0,e3,hD,ho]
    exact ay.mk (aJ _) (by simpa using hC) (aj.mk _ _)
   simp only [List.nil_append,List.cons_append]
   apply aM.step
   case aB=>
    intro β A w' hβ hC hO hD
    have e0:=hO 0 (by rfl)
    have e3:=hO 3 (by rfl)
    simp [Act.eval] at e0 e3
    simp [au,aj,ak,Act.eval,Region.binds] at hD
    simp [go_sem,gd,Oper.wp,e0,e3,hD]
    exact ay.mk (aJ _) (by simpa using hC) (aj.mk _ _)
   simp only [List.nil_append,List.cons_append]
   apply aM.step
   case aB=>
    intro β A w' hβ hC hO hD
    have e0:=hO 0 (by rfl)
    have e3:=hO 3 (by rfl)
    simp [Act.eval] at e0 e3
    simp [au,aj,ak,Act.eval,Region.binds] at hD
    simp [go_sem,gd,Oper.wp,e0,e3,hD]
    exact ay.mk (aJ _) (by simpa using hC) (aj.mk _ _)
   simp only [List.nil_append,List.cons_append]
   refine aM.step (v:=undef) ?_ ?_
   ·intro β A w' hβ hC hO hD
    simp [au,aj,ak,Act.eval,Region.binds] at hD
    simp [gd,Act.eval,hD]
    first | exact aj.mk _ _ | exact ⟨by rfl,aj.mk _ _⟩
   simp only [List.nil_append,List.cons_append]
   refine aM.step (v:=undef) ?_ ?_
   ·intro β A w' hβ hC hO hD
    simp [au,aj,ak,Act.eval,Region.binds] at hD
    simp [gd,Act.eval,hD]
    first | exact aj.mk _ _ | exact ⟨by rfl,aj.mk _ _⟩
   simp only [List.nil_append,List.cons_append]
   refine aM.step (v:=undef) ?_ ?_
   ·intro β A w' hβ hC hO hD
    simp [au,aj,ak,Act.eval,Region.binds] at hD
    simp [gd,Act.eval,hD]
    first | exact aj.mk _ _ | exact ⟨by rfl,aj.mk _ _⟩
   simp only [List.nil_append,List.cons_append]
   refine aM.step (v:=undef) ?_ ?_
   ·intro β A w' hβ hC hO hD
    simp [au,aj,ak,Act.eval,Region.binds] at hD
    simp [gd,Act.eval,hD]
    first | exact aj.mk _ _ | exact ⟨by rfl,aj.mk _ _⟩
   simp only [List.nil_append,List.cons_append]
   refine aM.step (v:=undef) ?_ ?_
   ·intro β A w' hβ hC hO hD
    simp [au,aj,ak,Act.eval,Region.binds] at hD
    simp [gd,Act.eval,hD]
    first | exact aj.mk _ _ | exact ⟨by rfl,aj.mk _ _⟩
   simp only [List.nil_append,List.cons_append]
   refine aM.step (v:=undef) ?_ ?_
   ·intro β A w' hβ hC hO hD
    simp [au,aj,ak,Act.eval,Region.binds] at hD
    simp [gd,Act.eval,hD]
    first | exact aj.mk _ _ | exact ⟨by rfl,aj.mk _ _⟩
   simp only [List.nil_append,List.cons_append]
   refine aM.step (v:=undef) ?_ ?_
   ·intro β A w' hβ hC hO hD
    simp [au,aj,ak,Act.eval,Region.binds] at hD
    simp [gd,Act.eval,hD]
    first | exact aj.mk _ _ | exact ⟨by rfl,aj.mk _ _⟩
   simp only [List.nil_append,List.cons_append]
   refine aM.step (v:=undef) ?_ ?_
   ·intro β A w' hβ hC hO hD
    simp [au,aj,ak,Act.eval,Region.binds] at hD
    simp [gd,Act.eval,hD]
    first | exact aj.mk _ _ | exact ⟨by rfl,aj.mk _ _⟩
   simp only [List.nil_append,List.cons_append]
   refine aM.step (v:=undef) ?_ ?_
   ·intro β A w' hβ hC hO hD
    simp [au,aj,ak,Act.eval,Region.binds] at hD
    simp [gd,Act.eval,hD]
    first | exact aj.mk _ _ | exact ⟨by rfl,aj.mk _ _⟩
   simp only [List.nil_append,List.cons_append]
   refine aM.step (v:=undef) ?_ ?_
   ·intro β A w' hβ hC hO hD
    simp [au,aj,ak,Act.eval,Region.binds] at hD
    simp [gd,Act.eval,hD]
    first | exact aj.mk _ _ | exact ⟨by rfl,aj.mk _ _⟩
   simp only [List.nil_append,List.cons_append]
   refine aM.step (v:=undef) ?_ ?_
   ·intro β A w' hβ hC hO hD
    simp [au,aj,ak,Act.eval,Region.binds] at hD
    simp [gd,Act.eval,hD]
    first | exact aj.mk _ _ | exact ⟨by rfl,aj.mk _ _⟩
   simp only [List.nil_append,List.cons_append]
   apply aM.step
   case aB=>
    intro β A w' hβ hC hO hD
    have e0:=hO 0 (by rfl)
    have e3:=hO 3 (by rfl)
    simp [Act.eval] at e0 e3
    simp [au,aj,ak,Act.eval,Region.binds] at hD
    simp [go_sem,gd,Oper.wp,e0,e3,hD]
    exact ay.mk (aJ _) (by simpa using hC) (aj.mk _ _)
   simp only [List.nil_append,List.cons_append]
   apply aM.step
   case aB=>
    intro β A w' hβ hC hO hD
    simp [au,aj,ak,Act.eval,Region.binds] at hD
    simp [go_sem,gd,Oper.wp,hD]
    refine (cK true w').mono ?_
    rintro e' w2 ⟨rfl,rfl⟩
    exact ay.mk (aJ _) (by simpa using hC) (aj.mk _ _)
   simp only [List.nil_append,List.cons_append]
   apply aM.step
   case aB=>
    intro β A w' hβ hC hO hD
    have e0:=hO 0 (by rfl)
    have e3:=hO 3 (by rfl)
    simp [Act.eval] at e0 e3
    simp [au,aj,ak,Act.eval,Region.binds] at hD
    simp [go_sem,gd,Oper.wp,e0,e3,hD]
    exact ay.mk (aJ _) (by simpa using hC) (aj.mk _ _)
   simp only [List.nil_append,List.cons_append]
   apply aM.step
   case aB=>
    intro β A w' hβ hC hO hD
    have e0:=hO 0 (by rfl)
    have e3:=hO 3 (by rfl)
    simp [Act.eval] at e0 e3
    simp [au,aj,ak,Act.eval,Region.binds] at hD
    simp [go_sem,gd,Oper.wp,e0,e3,hD]
    exact ay.mk (aJ _) (by simpa using hC) (aj.mk _ _)
   simp only [List.nil_append,List.cons_append]
   apply aM.step
   case aB=>
    intro β A w' hβ hC hO hD
    have e0:=hO 0 (by rfl)
    have e3:=hO 3 (by rfl)
    simp [Act.eval] at e0 e3
    simp [au,aj,ak,Act.eval,Region.binds] at hD
    simp [go_sem,gd,Oper.wp,e0,e3,hD]
    exact ay.mk (aJ _) (by simpa using hC) (aj.mk _ _)
   simp only [List.nil_append,List.cons_append]
   apply aM.step
   case aB=>
    intro β A w' hβ hC hO hD
    have e0:=hO 0 (by rfl)
    have e3:=hO 3 (by rfl)
    simp [Act.eval] at e0 e3
    simp [au,aj,ak,Act.eval,Region.binds] at hD
    simp [go_sem,gd,Oper.wp,e0,e3,hD,LM,hC.1]
    exact ay.mk (aJ _) (by simpa using hC) (aj.mk _ _)
   simp only [List.nil_append,List.cons_append]
   apply aM.step
   case aB=>
    intro β A w' hβ hC hO hD
    have e0:=hO 0 (by rfl)
    have e3:=hO 3 (by rfl)
    simp [Act.eval] at e0 e3
    simp [au,aj,ak,Act.eval,Region.binds] at hD
    simp [go_sem,gd,Oper.wp,e0,e3,hD]
    exact ay.mk (aJ _) (by simpa using hC) (aj.mk _ _)
   simp only [List.nil_append,List.cons_append]
   apply aM.step
   case aB=>
    intro β A w' hβ hC hO hD
    have e0:=hO 0 (by rfl)
    have e3:=hO 3 (by rfl)
    simp [Act.eval] at e0 e3
    simp [au,aj,ak,Act.eval,Region.binds] at hD
    simp [go_sem,gd,Oper.wp,e0,e3,hD,L2,hC.1]
    exact ay.mk (aJ _) (by simpa using hC) (aj.mk _ _)
   simp only [List.nil_append,List.cons_append]
   apply aM.step
   case aB=>
    intro β A w' hβ hC hO hD
    obtain rfl:=hβ (by simp)
    simp [au,aj,ak,Act.eval,Region.binds] at hD
    simp [go_sem,gd,Oper.wp,hD]
    refine (yH h.nm w' bs n f HN.out FW.out (by simpa using hC.2)).mono ?_
    rintro e' w2 ⟨rfl,hm2,hg2⟩
    exact ay.mk hg2 ⟨nH hC.1 hg2,by simpa using hm2⟩ (aj.mk _ _)
   simp only [List.nil_append,List.cons_append]
   refine aM.some (fun v w'=> ∃b,b≠bs∧v= .slice (some ⟨b,0,none⟩) 3 3∧dI w' w'.heap.size [bg (mean p (j:Int) h.nm) [8],nest true,(jJ (f h.nm.toList))] (some ⟨b,0,none⟩) 0) ?_ ?_ ?_
   ·rintro v w w' hle ⟨b,hbn,rfl,hin⟩
    exact ⟨b,hbn,rfl,dI.grow hbn hle hin⟩
   ·intro β A w' hβ hC hO hD
    simp [au,aj,ak,Act.eval,Region.binds] at hD
    simp [go_sem,gd,Oper.wp,hD]
    exact ay.mk (d:=_) (v:= .slice (some ⟨_,0,none⟩) 3 3) (cu (ah _ _)) (by simpa using hC.below (ah _ _)) ⟨_,by have:=hC.2.lt; omega,rfl,lS _ _ _ _ _⟩
   simp only [List.nil_append,List.cons_append]
   apply aM.step
   case aB=>
    intro β A w' hβ hC hO hD
    simp [au,aj,ak,Act.eval,Region.binds] at hD
    obtain ⟨⟨Wx,Sz,IC,Ae⟩,-⟩:=hD
    simp [go_sem,gd,Oper.wp,IC]
    refine (cB [bg (mean p (j:Int) h.nm) [8],nest true,(jJ (f h.nm.toList))] w' _ _ (by simp [maxLen]) Ae).mono ?_
    rintro e' w2 ⟨rfl,rfl⟩
    exact ay.mk (aJ _) (by simpa using hC) (aj.mk _ _)
   simp only [List.nil_append,List.cons_append]
   apply aM.step
   case aB=>
    intro β A w' hβ hC hO hD
    have e0:=hO 0 (by rfl)
    have e3:=hO 3 (by rfl)
    simp [Act.eval] at e0 e3
    simp [au,aj,ak,Act.eval,Region.binds] at hD
    simp [go_sem,gd,Oper.wp,e0,e3,hD]
    exact ay.mk (aJ _) (by simpa using hC) (aj.mk _ _)
   simp only [List.nil_append,List.cons_append]
   intro wz dP
   intro v0 h0 v1 h1 v2 h2 v3 h3 v4 h4 v5 h5 v6 h6 v7 h7 v8 h8 v9 h9 v10 h10 v11 h11 v12 h12 v13 mM v14 nW v15 oO v16 h16 v17 qx v18 h18 v19 h19 v20 h20 v21 h21 v22 h22 v23 h23 v24 NW v25 Nz v26 MR v27 h27 v28 ML v29 Ph v30 Oe v31 h31 v32 h32 v33 FI v34 Nj v35 NP v36 Pb v37 h37 v38 BR
   have hl':v38=_:=BR
   subst hl'
   clear h0 h1 h2 h3 h4 h5 h6 h7 h8 h9 h10 h11 h12 mM nW oO h16 qx h18 h19 h20 h21 h22 h23 NW Nz MR h27 ML Ph Oe h31 h32 FI Nj NP Pb h37 BR
   refine dG.nil ?_
   have HZ:Hid (MC W bs n f (ow f h.nm.toList) true wz):=Lib.hid (by simpa using dP)
   clear dP
   go_simp
   go_wp2_with fail
   go_ret
   refine uh ?_ HZ.out HG.out
   rw [← HR.out,hq,ho]
   try rfl
 ·refine lJ 35 (MC W bs n f (ow f h.nm.toList)) (fun w w'=>w.grownBy w' (some bs)) [109,110,111,112,113,114,115,116,117,118,119,120,121,122,123,124,125,126,127,128,129,130,131,132,133,134,135,136,137,138,139,140,141,142,143,144,145,146,4] (by kernel_rfl) (by kernel_rfl) (fun _=>aJ _) (by rfl) ⟨cu (below_drewN (Below.refl _ _) 1),by simpa using HM.out.next (below_drewN (Below.refl _ _) 1)⟩ ?_
  apply aM.step
  case aB=>
   intro β A w' hβ hC hO hD
   have e0:=hO 0 (by rfl)
   have e3:=hO 3 (by rfl)
   simp [Act.eval] at e0 e3
   simp [au,aj,ak,Act.eval,Region.binds] at hD
   simp [go_sem,gd,Oper.wp,e0,e3,hD]
   exact ay.mk (aJ _) (by simpa using hC) (aj.mk _ _)
  apply aM.step
  case aB=>
   intro β A w' hβ hC hO hD
   have e0:=hO 0 (by rfl)
   have e3:=hO 3 (by rfl)
   simp [Act.eval] at e0 e3
   simp [au,aj,ak,Act.eval,Region.binds] at hD
   simp [go_sem,gd,Oper.wp,e0,e3,hD]
   exact ay.mk (aJ _) (by simpa using hC) (aj.mk _ _)
  simp only [List.nil_append,List.cons_append]
  apply aM.step
  case aB=>
   intro β A w' hβ hC hO hD
   have e0:=hO 0 (by rfl)
   have e3:=hO 3 (by rfl)
   simp [Act.eval] at e0 e3
   simp [au,aj,ak,Act.eval,Region.binds] at hD
   simp [go_sem,gd,Oper.wp,e0,e3,hD,L2,hC.1]
   exact ay.mk (aJ _) (by simpa using hC) (aj.mk _ _)
  simp only [List.nil_append,List.cons_append]
  refine aM.some (fun v w'=> ∃b,b≠bs∧v= .slice (some ⟨b,0,none⟩) 1 1∧dI w' w'.heap.size [8] (some ⟨b,0,none⟩) 0) ?_ ?_ ?_
  ·rintro v w w' hle ⟨b,hbn,rfl,hin⟩
   exact ⟨b,hbn,rfl,dI.grow hbn hle hin⟩
  ·intro β A w' hβ hC hO hD
   simp [go_sem,gd,Oper.wp]
   exact ay.mk (d:=_) (v:= .slice (some ⟨_,0,none⟩) 1 1) (cu (ah _ _)) (by simpa using hC.below (ah _ _)) ⟨_,by have:=hC.2.lt; omega,rfl,dX _ 8 _⟩
  simp only [List.nil_append,List.cons_append]
  apply aM.step
  case aB=>
   intro β A w' hβ hC hO hD
   simp [au,aj,ak,Act.eval,Region.binds] at hD
   obtain ⟨J4,Jb,VH,Tf,J9,AQ⟩:=hD
   simp [go_sem,gd,Oper.wp,J4,Jb,J9]
   refine (gH p w' aH (some ⟨b0,fJ,none⟩) aC aD _ aX _ aQ bs bt bc h.nm [8] _ 1 hi (by decide) (HP.out _ hC.1) AQ (HK.out _ hC.1)).mono ?_
   rintro e' w2 ⟨rfl,hb⟩
   exact ay.mk (cu hb) (by simpa using hC.below hb) (aj.mk _ _)
  simp only [List.nil_append,List.cons_append]
  apply aM.step
  case aB=>
   intro β A w' hβ hC hO hD
   have e0:=hO 0 (by rfl)
   have e3:=hO 3 (by rfl)
   simp [Act.eval] at e0 e3
   simp [au,aj,ak,Act.eval,Region.binds] at hD
   simp [go_sem,gd,Oper.wp,e0,e3,hD]
   exact ay.mk (aJ _) (by simpa using hC) (aj.mk _ _)
  simp only [List.nil_append,List.cons_append]
  refine aM.some (fun v w'=> ∃b,b≠bs∧v= .slice (some ⟨b,0,none⟩) 3 3∧dI w' w'.heap.size [7,8,3] (some ⟨b,0,none⟩) 0) ?_ ?_ ?_
  ·rintro v w w' hle ⟨b,hbn,rfl,hin⟩
   exact ⟨b,hbn,rfl,dI.grow hbn hle hin⟩
  ·intro β A w' hβ hC hO hD
   simp [go_sem,gd,Oper.wp]
   exact ay.mk (d:=_) (v:= .slice (some ⟨_,0,none⟩) 3 3) (cu (ah _ _)) (by simpa using hC.below (ah _ _)) ⟨_,by have:=hC.2.lt; omega,rfl,lS _ 7 8 3 _⟩
  simp only [List.nil_append,List.cons_append]
  apply aM.step
  case aB=>
   intro β A w' hβ hC hO hD
   simp [au,aj,ak,Act.eval,Region.binds] at hD
   obtain ⟨IG,⟨WU,TK,GV,Al⟩,-⟩:=hD
   simp [go_sem,gd,Oper.wp,IG,GV]
   refine (hq ▸ eX p w' aH (some ⟨b0,fJ,none⟩) aC aD (j:Int) aX aQ bs bt bc ar [7,8,3] _ 3 (by decide) Al jv.out (kD.out _ hC.1) (HK.out _ hC.1)).mono ?_
   rintro e' w2 ⟨rfl,hb⟩
   exact ay.mk (cu hb) (by simpa using hC.below hb) (aj.mk _ _)
  simp only [List.nil_append,List.cons_append]
  apply aM.step
  case aB=>
   intro β A w' hβ hC hO hD
   have e0:=hO 0 (by rfl)
   have e3:=hO 3 (by rfl)
   simp [Act.eval] at e0 e3
   simp [au,aj,ak,Act.eval,Region.binds] at hD
   simp [go_sem,gd,Oper.wp,e0,e3,hD]
   exact ay.mk (aJ _) (by simpa using hC) (aj.mk _ _)
  simp only [List.nil_append,List.cons_append]
  refine aM.step (v:=undef) ?_ ?_
  ·intro β A w' hβ hC hO hD
   simp [au,aj,ak,Act.eval,Region.binds] at hD
   simp [gd,Act.eval,hD]
   first | exact aj.mk _ _ | exact ⟨by rfl,aj.mk _ _⟩
  simp only [List.nil_append,List.cons_append]
  refine aM.step (v:=undef) ?_ ?_
  ·intro β A w' hβ hC hO hD
   simp [au,aj,ak,Act.eval,Region.binds] at hD
   simp [gd,Act.eval,hD]
   first | exact aj.mk _ _ | exact ⟨by rfl,aj.mk _ _⟩
  simp only [List.nil_append,List.cons_append]
  refine aM.step (v:=undef) ?_ ?_
  ·intro β A w' hβ hC hO hD
   simp [au,aj,ak,Act.eval,Region.binds] at hD
   simp [gd,Act.eval,hD]
   first | exact aj.mk _ _ | exact ⟨by rfl,aj.mk _ _⟩
  simp only [List.nil_append,List.cons_append]
  refine aM.step (v:=undef) ?_ ?_
  ·intro β A w' hβ hC hO hD
   simp [au,aj,ak,Act.eval,Region.binds] at hD
   simp [gd,Act.eval,hD]
   first | exact aj.mk _ _ | exact ⟨by rfl,aj.mk _ _⟩
  simp only [List.nil_append,List.cons_append]
  refine aM.step (v:=undef) ?_ ?_
  ·intro β A w' hβ hC hO hD
   simp [au,aj,ak,Act.eval,Region.binds] at hD
   simp [gd,Act.eval,hD]
   first | exact aj.mk _ _ | exact ⟨by rfl,aj.mk _ _⟩
  simp only [List.nil_append,List.cons_append]
  apply aM.step
  case aB=>
   intro β A w' hβ hC hO hD
   have e0:=hO 0 (by rfl)
   have e3:=hO 3 (by rfl)
   simp [Act.eval] at e0 e3
   simp [au,aj,ak,Act.eval,Region.binds] at hD
   simp [go_sem,gd,Oper.wp,e0,e3,hD]
   exact ay.mk (aJ _) (by simpa using hC) (aj.mk _ _)
  simp only [List.nil_append,List.cons_append]
  apply aM.step
  case aB=>
   intro β A w' hβ hC hO hD
   have e0:=hO 0 (by rfl)
   have e3:=hO 3 (by rfl)
   simp [Act.eval] at e0 e3
   simp [au,aj,ak,Act.eval,Region.binds] at hD
   simp [go_sem,gd,Oper.wp,e0,e3,hD]
   exact ay.mk (aJ _) (by simpa using hC) (aj.mk _ _)
  simp only [List.nil_append,List.cons_append]
  refine aM.step (v:=undef) ?_ ?_
  ·intro β A w' hβ hC hO hD
   simp [au,aj,ak,Act.eval,Region.binds] at hD
   simp [gd,Act.eval,hD]
   first | exact aj.mk _ _ | exact ⟨by rfl,aj.mk _ _⟩
  simp only [List.nil_append,List.cons_append]
  refine aM.step (v:=undef) ?_ ?_
  ·intro β A w' hβ hC hO hD
   simp [au,aj,ak,Act.eval,Region.binds] at hD
   simp [gd,Act.eval,hD]
   first | exact aj.mk _ _ | exact ⟨by rfl,aj.mk _ _⟩
  simp only [List.nil_append,List.cons_append]
  refine aM.step (v:=undef) ?_ ?_
  ·intro β A w' hβ hC hO hD
   simp [au,aj,ak,Act.eval,Region.binds] at hD
   simp [gd,Act.eval,hD]
   first | exact aj.mk _ _ | exact ⟨by rfl,aj.mk _ _⟩
  simp only [List.nil_append,List.cons_append]
  refine aM.step (v:=undef) ?_ ?_
  ·intro β A w' hβ hC hO hD
   simp [au,aj,ak,Act.eval,Region.binds] at hD
   simp [gd,Act.eval,hD]
   first | exact aj.mk _ _ | exact ⟨by rfl,aj.mk _ _⟩
  simp only [List.nil_append,List.cons_append]
  refine aM.step (v:=undef) ?_ ?_
  ·intro β A w' hβ hC hO hD
   simp [au,aj,ak,Act.eval,Region.binds] at hD
   simp [gd,Act.eval,hD]
   first | exact aj.mk _ _ | exact ⟨by rfl,aj.mk _ _⟩
  simp only [List.nil_append,List.cons_append]
  refine aM.step (v:=undef) ?_ ?_
  ·intro β A w' hβ hC hO hD
   simp [au,aj,ak,Act.eval,Region.binds] at hD
   simp [gd,Act.eval,hD]
   first | exact aj.mk _ _ | exact ⟨by rfl,aj.mk _ _⟩
  simp only [List.nil_append,List.cons_append]
  refine aM.step (v:=undef) ?_ ?_
  ·intro β A w' hβ hC hO hD
   simp [au,aj,ak,Act.eval,Region.binds] at hD
   simp [gd,Act.eval,hD]
   first | exact aj.mk _ _ | exact ⟨by rfl,aj.mk _ _⟩
  simp only [List.nil_append,List.cons_append]
  refine aM.step (v:=undef) ?_ ?_
  ·intro β A w' hβ hC hO hD
   simp [au,aj,ak,Act.eval,Region.binds] at hD
   simp [gd,Act.eval,hD]
   first | exact aj.mk _ _ | exact ⟨by rfl,aj.mk _ _⟩
  simp only [List.nil_append,List.cons_append]
  refine aM.step (v:=undef) ?_ ?_
  ·intro β A w' hβ hC hO hD
   simp [au,aj,ak,Act.eval,Region.binds] at hD
   simp [gd,Act.eval,hD]
   first | exact aj.mk _ _ | exact ⟨by rfl,aj.mk _ _⟩
  simp only [List.nil_append,List.cons_append]
  refine aM.step (v:=undef) ?_ ?_
  ·intro β A w' hβ hC hO hD
   simp [au,aj,ak,Act.eval,Region.binds] at hD
   simp [gd,Act.eval,hD]
   first | exact aj.mk _ _ | exact ⟨by rfl,aj.mk _ _⟩
  simp only [List.nil_append,List.cons_append]
  refine aM.step (v:=undef) ?_ ?_
  ·intro β A w' hβ hC hO hD
   simp [au,aj,ak,Act.eval,Region.binds] at hD
   simp [gd,Act.eval,hD]
   first | exact aj.mk _ _ | exact ⟨by rfl,aj.mk _ _⟩
  simp only [List.nil_append,List.cons_append]
  apply aM.step
  case aB=>
   intro β A w' hβ hC hO hD
   have e0:=hO 0 (by rfl)
   have e3:=hO 3 (by rfl)
   simp [Act.eval] at e0 e3
   simp [au,aj,ak,Act.eval,Region.binds] at hD
   simp [go_sem,gd,Oper.wp,e0,e3,hD]
   exact ay.mk (aJ _) (by simpa using hC) (aj.mk _ _)
  simp only [List.nil_append,List.cons_append]
  apply aM.step
  case aB=>
   intro β A w' hβ hC hO hD
   simp [au,aj,ak,Act.eval,Region.binds] at hD
   simp [go_sem,gd,Oper.wp,hD]
   refine (cK true w').mono ?_
   rintro e' w2 ⟨rfl,rfl⟩
   exact ay.mk (aJ _) (by simpa using hC) (aj.mk _ _)
  simp only [List.nil_append,List.cons_append]
  apply aM.step
  case aB=>
   intro β A w' hβ hC hO hD
   have e0:=hO 0 (by rfl)
   have e3:=hO 3 (by rfl)
   simp [Act.eval] at e0 e3
   simp [au,aj,ak,Act.eval,Region.binds] at hD
   simp [go_sem,gd,Oper.wp,e0,e3,hD]
   exact ay.mk (aJ _) (by simpa using hC) (aj.mk _ _)
  simp only [List.nil_append,List.cons_append]
  apply aM.step
  case aB=>
   intro β A w' hβ hC hO hD
   have e0:=hO 0 (by rfl)
   have e3:=hO 3 (by rfl)
   simp [Act.eval] at e0 e3
   simp [au,aj,ak,Act.eval,Region.binds] at hD
   simp [go_sem,gd,Oper.wp,e0,e3,hD]
   exact ay.mk (aJ _) (by simpa using hC) (aj.mk _ _)
  simp only [List.nil_append,List.cons_append]
  apply aM.step
  case aB=>
   intro β A w' hβ hC hO hD
   have e0:=hO 0 (by rfl)
   have e3:=hO 3 (by rfl)
   simp [Act.eval] at e0 e3
   simp [au,aj,ak,Act.eval,Region.binds] at hD
   simp [go_sem,gd,Oper.wp,e0,e3,hD]
   exact ay.mk (aJ _) (by simpa using hC) (aj.mk _ _)
  simp only [List.nil_append,List.cons_append]
  apply aM.step
  case aB=>
   intro β A w' hβ hC hO hD
   have e0:=hO 0 (by rfl)
   have e3:=hO 3 (by rfl)
   simp [Act.eval] at e0 e3
   simp [au,aj,ak,Act.eval,Region.binds] at hD
   simp [go_sem,gd,Oper.wp,e0,e3,hD,LM,hC.1]
   exact ay.mk (aJ _) (by simpa using hC) (aj.mk _ _)
  simp only [List.nil_append,List.cons_append]
  apply aM.step
  case aB=>
   intro β A w' hβ hC hO hD
   have e0:=hO 0 (by rfl)
   have e3:=hO 3 (by rfl)
   simp [Act.eval] at e0 e3
   simp [au,aj,ak,Act.eval,Region.binds] at hD
   simp [go_sem,gd,Oper.wp,e0,e3,hD]
   exact ay.mk (aJ _) (by simpa using hC) (aj.mk _ _)
  simp only [List.nil_append,List.cons_append]
  apply aM.step
  case aB=>
   intro β A w' hβ hC hO hD
   have e0:=hO 0 (by rfl)
   have e3:=hO 3 (by rfl)
   simp [Act.eval] at e0 e3
   simp [au,aj,ak,Act.eval,Region.binds] at hD
   simp [go_sem,gd,Oper.wp,e0,e3,hD,L2,hC.1]
   exact ay.mk (aJ _) (by simpa using hC) (aj.mk _ _)
  simp only [List.nil_append,List.cons_append]
  apply aM.step
  case aB=>
   intro β A w' hβ hC hO hD
   obtain rfl:=hβ (by simp)
   simp [au,aj,ak,Act.eval,Region.binds] at hD
   simp [go_sem,gd,Oper.wp,hD]
   refine (yH h.nm w' bs n f HN.out FW.out (by simpa using hC.2)).mono ?_
   rintro e' w2 ⟨rfl,hm2,hg2⟩
   exact ay.mk hg2 ⟨nH hC.1 hg2,by simpa using hm2⟩ (aj.mk _ _)
  simp only [List.nil_append,List.cons_append]
  refine aM.some (fun v w'=> ∃b,b≠bs∧v= .slice (some ⟨b,0,none⟩) 3 3∧dI w' w'.heap.size [bg (mean p (j:Int) h.nm) [8],nest true,(jJ (f h.nm.toList))] (some ⟨b,0,none⟩) 0) ?_ ?_ ?_
  ·rintro v w w' hle ⟨b,hbn,rfl,hin⟩
   exact ⟨b,hbn,rfl,dI.grow hbn hle hin⟩
  ·intro β A w' hβ hC hO hD
   simp [au,aj,ak,Act.eval,Region.binds] at hD
   simp [go_sem,gd,Oper.wp,hD]
   exact ay.mk (d:=_) (v:= .slice (some ⟨_,0,none⟩) 3 3) (cu (ah _ _)) (by simpa using hC.below (ah _ _)) ⟨_,by have:=hC.2.lt; omega,rfl,lS _ _ _ _ _⟩
  simp only [List.nil_append,List.cons_append]
  apply aM.step
  case aB=>
   intro β A w' hβ hC hO hD
   simp [au,aj,ak,Act.eval,Region.binds] at hD
   obtain ⟨⟨Wx,Sz,IC,Ae⟩,-⟩:=hD
   simp [go_sem,gd,Oper.wp,IC]
   refine (cB [bg (mean p (j:Int) h.nm) [8],nest true,(jJ (f h.nm.toList))] w' _ _ (by simp [maxLen]) Ae).mono ?_
   rintro e' w2 ⟨rfl,rfl⟩
   exact ay.mk (aJ _) (by simpa using hC) (aj.mk _ _)
  simp only [List.nil_append,List.cons_append]
  apply aM.step
  case aB=>
   intro β A w' hβ hC hO hD
   have e0:=hO 0 (by rfl)
   have e3:=hO 3 (by rfl)
   simp [Act.eval] at e0 e3
   simp [au,aj,ak,Act.eval,Region.binds] at hD
   simp [go_sem,gd,Oper.wp,e0,e3,hD]
   exact ay.mk (aJ _) (by simpa using hC) (aj.mk _ _)
  simp only [List.nil_append,List.cons_append]
  intro wz dP
  intro v0 h0 v1 h1 v2 h2 v3 h3 v4 h4 v5 h5 v6 h6 v7 h7 v8 h8 v9 h9 v10 h10 v11 h11 v12 h12 v13 mM v14 nW v15 oO v16 h16 v17 qx v18 h18 v19 h19 v20 h20 v21 h21 v22 h22 v23 h23 v24 NW v25 Nz v26 MR v27 h27 v28 ML v29 Ph v30 Oe v31 h31 v32 h32 v33 FI v34 Nj v35 NP v36 Pb v37 h37 v38 BR
  have hl':v38=_:=BR
  subst hl'
  clear h0 h1 h2 h3 h4 h5 h6 h7 h8 h9 h10 h11 h12 mM nW oO h16 qx h18 h19 h20 h21 h22 h23 NW Nz MR h27 ML Ph Oe h31 h32 FI Nj NP Pb h37 BR
  refine dG.nil ?_
  have HZ:Hid (MC W bs n f (ow f h.nm.toList) true wz):=Lib.hid (by simpa using dP)
  clear dP
  go_simp
  go_wp2_with fail
  go_ret
  refine uh ?_ HZ.out HG.out
  rw [← HR.out,hq]
  try rfl
end
end Go.Proofs.YtehnipchbmjlhaaGreatDoor
end
