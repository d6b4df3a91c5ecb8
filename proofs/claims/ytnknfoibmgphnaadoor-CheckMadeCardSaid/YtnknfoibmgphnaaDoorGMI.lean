/-
  Contract of the checker's statement at set.
  Contract of the checker's statement at spawn.
-/
import Derived.Test.YtnknfoibmgphnaaDoorGMF
section
set_option linter.unusedSimpArgs false
set_option linter.unusedVariables false
namespace Go.Proofs.YtnknfoibmgphnaaDoor
open Go.RowKit
open Md
theorem nA {b:Nat} {w1 w2 w3:World} (h:w1.grownBy w2 (some b)) (k:w2.grownBy w3 (some b)):w1.grownBy w3 (some b):=
 ⟨k.os.trans h.os,k.tape.trans h.tape,k.output.trans h.output,Nat.le_trans h.size k.size,fun j hj hne=>(k.block j (Nat.lt_of_lt_of_le hj h.size) hne).trans (h.block j hj hne)⟩
theorem dI {b:Nat} {w w':World} (h:Below w.heap.size w w'):w.grownBy w' (some b):=⟨h.os,h.tape,h.output,h.size,fun k hk _=>h.block k hk⟩
theorem aL {b:Nat} (w:World):w.grownBy w (some b):=dI (Below.refl _ _)
def MC (W:World) (bm n:Nat) (f f':List UInt8→Bool) (β:Bool) (w':World):Prop:=W.grownBy w' (some bm)∧iL w' bm (n + β.toNat) (if β then f' else f)
theorem MC.below {W:World} {bm n:Nat} {f f':List UInt8→Bool} {β:Bool} {w' w2:World} (h:MC W bm n f f' β w') (hb:Below w'.heap.size w' w2):MC W bm n f f' β w2:=⟨nA h.1 (dI hb),h.2.next hb⟩
theorem eD.grow {w w':World} {b bm:Nat} (hb:b≠bm) (hg:w.grownBy w' (some bm)): ∀ {l:List Int} {k:Nat},eD w w.heap.size l (some ⟨b,0,none⟩) k→eD w' w'.heap.size l (some ⟨b,0,none⟩) k
 | [],_,_=>trivial
 | _ ::_,_,⟨⟨b1,off,e,hB,c⟩,hr⟩=>by
   injection e with e; injection e with e1 e2; subst e1; subst e2
   exact ⟨⟨b,0,rfl,Nat.lt_of_lt_of_le hB hg.size,(World.cell?_of_block (hg.block b hB (by simp; exact hb))).trans c⟩,eD.grow hb hg hr⟩
theorem Sit.mc {w W w':World} {fs:List (Nat × Nat × Value)} {bm:Nat} (h:Sit w W fs) (hg:W.grownBy w' (some bm)) (hne: ∀f ∈ fs,f.1≠bm):Holds w' fs:=h.2.grown hg hne
def AQ (v:Int) (w:World) (bm n:Nat) (f:List UInt8→Bool) (e:Ending) (w':World):Prop:=e= .returned (.int .i64 v)∧iL w' bm n f∧w.grownBy w' (some bm)
theorem sJ {v:Value} {res:Int} {w W wz:World} {bm n:Nat} {f f':List UInt8→Bool} (h:v= .int .i64 res) (hz:MC W bm n f f' true wz) (hg: ∀w',W.grownBy w' (some bm)→w.grownBy w' (some bm)):AQ res w bm (n + 1) f' (.returned v) wz:=
 ⟨by rw [h],hz.2,hg _ hz.1⟩
theorem J7 (w:World) (a b c d:Int) (t:TypeId):eD (w.alloc (.cells #[.int .i64 a,.int .i64 b,.int .i64 c,.int .i64 d] t)) (w.alloc (.cells #[.int .i64 a,.int .i64 b,.int .i64 c,.int .i64 d] t)).heap.size [a,b,c,d] (some ⟨w.heap.size,0,none⟩) 0:=
 ⟨⟨_,_,rfl,by simp,dz w [.int .i64 a,.int .i64 b,.int .i64 c,.int .i64 d] t 0⟩,⟨_,_,rfl,by simp,dz w [.int .i64 a,.int .i64 b,.int .i64 c,.int .i64 d] t 1⟩,⟨_,_,rfl,by simp,dz w [.int .i64 a,.int .i64 b,.int .i64 c,.int .i64 d] t 2⟩,⟨_,_,rfl,by simp,dz w [.int .i64 a,.int .i64 b,.int .i64 c,.int .i64 d] t 3⟩,trivial⟩
section
variable (p:Pr) (w:World) (aC aF:Option Addr) (aA av:Nat) (i:Int) (aJ:Option Addr) (aI bs bt bc:Nat)
set_option maxHeartbeats 4000000 in
set_option maxRecDepth 100000 in
theorem Ke (h:eH) (b e ar:aR) (s:Sl) (hi:aX i) (hp: ∀w',w.grownBy w' (some bt)→p.At w' aC aF) (hok:ko h b e) (hex: ∀w',w.grownBy w' (some bt)→h.bq.At w' w'.heap.size s.dW 0) (dL: ∀w',w.grownBy w' (some bt)→dZ w') (har:ar.len≤maxLen) (hat: ∀w',w.grownBy w' (some bt)→ar.At w' w'.heap.size aJ 0) (hh:Holds w (iU bc p aC aF aA av i aJ ar.len aI bs bt)) (hbc:bc≠bt) (n:Nat) (f:List UInt8→Bool) (hn:n < maxLen) (hmap:iL w bt n f) (hop:h.op=14):
 Calls Tryd.prog 43 #[.pointer (some ⟨bc,0,none⟩),aY h b e s] w (AQ (dR [bC (mean p i h.nm) [7],nest (dB ar [7,3]),(iN (f h.nm.toList)),iE p i h.dU h.xn h.dV h.bq]) w bt (n + 1) (ow f h.nm.toList)):=by
 have HH:=Lib.hid (show Sit w w _ from ⟨Below.refl _ _,hh⟩)
 obtain ⟨fU,eG,dW,cB,bg,aT,eY,dP⟩:=s
 have hxk:=hok.2.2.2.2.2.1
 have hns:=hok.2.2.1
 generalize hres:dR [bC (mean p i h.nm) [7],nest (dB ar [7,3]),(iN (f h.nm.toList)),iE p i h.dU h.xn h.dV h.bq]=res
 have HR:=Lib.hid hres
 have iG:=Lib.hid hop
 have Ja:=Lib.hid hns
 have HN:=Lib.hid hn
 have hlt:=hmap.lt
 clear hres hop hn hns
 unfold aY
 dsimp only
 dsimp only at hex
 go_enter Tryd.func43,Tryd.ntmps43
 go_upto_region 1 with fail
 generalize hW:World.alloc w _=W
 generalize Value.agg #[_,_,_,_,_,_,_,_,_,_,_]=a0
 have HX:Hid (Sit w W (iT w.heap.size h b e ⟨fU,eG,dW,cB,bg,aT,eY,dP⟩ (iU bc p aC aF aA av i aJ ar.len aI bs bt))):=Lib.hid (by rw [← hW]; exact HH.out.gZ rfl _ _ _ _ _ _ _ _ _ _ _ _)
 clear hW HH
 have HG:Hid (∀w',W.grownBy w' (some bt)→w.grownBy w' (some bt)):=Lib.hid (fun w' hg=>nA (dI HX.out.1) hg)
 have HP:=Lib.hid (fun w' hg=>hp w' (HG.out w' hg))
 have iW:=Lib.hid (fun w' hg=>dL w' (HG.out w' hg))
 have rG:=Lib.hid (fun w' hg=>hex w' (HG.out w' hg))
 have dG:=Lib.hid (fun w' hg=>hat w' (HG.out w' hg))
 have dw:=Lib.hid har
 have HM:=Lib.hid (hmap.next HX.out.1)
 have HF:Hid (∀w',W.grownBy w' (some bt)→Holds w' (iT w.heap.size h b e ⟨fU,eG,dW,cB,bg,aT,eY,dP⟩ (iU bc p aC aF aA av i aJ ar.len aI bs bt))):=Lib.hid (fun w' hg=>HX.out.mc hg (by
  intro x hx
  simp only [iT,iU,List.mem_cons,List.not_mem_nil,or_false] at hx
  rcases hx with rfl | rfl | rfl | rfl | rfl | rfl | rfl | rfl | rfl | rfl | rfl | rfl | rfl | rfl | rfl | rfl | rfl <;> first | exact hbc | (show w.heap.size≠bt; omega)))
 have HK:Hid (∀w',W.grownBy w' (some bt)→Holds w' (iU bc p aC aF aA av i aJ ar.len aI bs bt)):=Lib.hid (fun w' hg=>(HF.out w' hg).2.2.2.2.2.2.2.2.2.2.2)
 clear hp dL hh hat har hex hmap hlt hbc
 have L0: ∀w',W.grownBy w' (some bt)→w'.cell? ⟨w.heap.size,0,none⟩=some (.int .i64 h.op):=fun w' hb=>(HF.out w' hb).1.2
 have L2: ∀w',W.grownBy w' (some bt)→w'.cell? ⟨w.heap.size,2,none⟩=some (.string h.nm):=fun w' hb=>(HF.out w' hb).2.2.1.2
 have L5: ∀w',W.grownBy w' (some bt)→w'.cell? ⟨w.heap.size,5,none⟩=some (.int .i64 h.dU):=fun w' hb=>(HF.out w' hb).2.2.2.2.2.1.2
 have L6: ∀w',W.grownBy w' (some bt)→w'.cell? ⟨w.heap.size,6,none⟩=some (.int .i64 h.xn):=fun w' hb=>(HF.out w' hb).2.2.2.2.2.2.1.2
 have L7: ∀w',W.grownBy w' (some bt)→w'.cell? ⟨w.heap.size,7,none⟩=some (.string h.dV):=fun w' hb=>(HF.out w' hb).2.2.2.2.2.2.2.1.2
 have L8: ∀w',W.grownBy w' (some bt)→w'.cell? ⟨w.heap.size,8,none⟩=some (.slice dW h.bq.len cB):=fun w' hb=>(HF.out w' hb).2.2.2.2.2.2.2.2.1.2
 have LM: ∀w',W.grownBy w' (some bt)→w'.cell? ⟨bc,5,none⟩=some (.map (some bt)):=fun w' hb=>(HK.out w' hb).2.2.2.2.2.1.2
 have l0:=L0 W (aL _)
 have hop:=iG.out
 have g1:(h.op == 1)=false:=by rw [hop]; rfl
 have g2:(h.op == 2)=false:=by rw [hop]; rfl
 have g3:(h.op == 3)=false:=by rw [hop]; rfl
 have g4:(h.op == 4)=false:=by rw [hop]; rfl
 have g5:(h.op == 5)=false:=by rw [hop]; rfl
 have g6:(h.op == 6)=false:=by rw [hop]; rfl
 have g7:(h.op == 7)=false:=by rw [hop]; rfl
 have g8:(h.op == 8)=false:=by rw [hop]; rfl
 have g9:(h.op == 9)=false:=by rw [hop]; rfl
 have g10:(h.op == 10)=false:=by rw [hop]; rfl
 have g11:(h.op == 11)=false:=by rw [hop]; rfl
 have g12:(h.op == 12)=false:=by rw [hop]; rfl
 have g13:(h.op == 13)=false:=by rw [hop]; rfl
 have g14:(h.op == 14)=true:=by rw [hop]; rfl
 have g15:(h.op == 15)=false:=by rw [hop]; rfl
 clear hop l0
 have l0:=L0 W (aL _)
 go_upto_region 25 with fail
 refine mE 15 (MC W bt n f (ow f h.nm.toList)) (fun w w'=>w.grownBy w' (some bt)) [169,170,171,172,173,174,175,176,177,178,179,180,181,182,183,184,185,186,187,188,189,190,4] (by kernel_rfl) (by kernel_rfl) (fun _=>aL _) (by rfl) ⟨dI (below_drewN (Below.refl _ _) 1),by simpa using HM.out.next (below_drewN (Below.refl _ _) 1)⟩ ?_
 apply aP.step
 case aB=>
  intro β A w' hβ hC hO hD
  have e0:=hO 0 (by rfl)
  have e3:=hO 3 (by rfl)
  simp [Act.eval] at e0 e3
  simp [au,ah,aj,Act.eval,Region.binds] at hD
  simp [go_sem,gd,Oper.wp,e0,e3,hD]
  exact ak.mk (aL _) (by simpa using hC) (ah.mk _ _)
 apply aP.step
 case aB=>
  intro β A w' hβ hC hO hD
  have e0:=hO 0 (by rfl)
  have e3:=hO 3 (by rfl)
  simp [Act.eval] at e0 e3
  simp [au,ah,aj,Act.eval,Region.binds] at hD
  simp [go_sem,gd,Oper.wp,e0,e3,hD]
  exact ak.mk (aL _) (by simpa using hC) (ah.mk _ _)
 apply aP.step
 case aB=>
  intro β A w' hβ hC hO hD
  have e0:=hO 0 (by rfl)
  have e3:=hO 3 (by rfl)
  simp [Act.eval] at e0 e3
  simp [au,ah,aj,Act.eval,Region.binds] at hD
  simp [go_sem,gd,Oper.wp,e0,e3,hD,L2,hC.1]
  exact ak.mk (aL _) (by simpa using hC) (ah.mk _ _)
 refine aP.some (fun v w'=> ∃b,b≠bt∧v= .slice (some ⟨b,0,none⟩) 1 1∧eD w' w'.heap.size [7] (some ⟨b,0,none⟩) 0) ?_ ?_ ?_
 ·rintro v w w' hle ⟨b,hbn,rfl,hin⟩
  exact ⟨b,hbn,rfl,eD.grow hbn hle hin⟩
 ·intro β A w' hβ hC hO hD
  simp [go_sem,gd,Oper.wp]
  exact ak.mk (d:=_) (v:= .slice (some ⟨_,0,none⟩) 1 1) (dI (ay _ _)) (by simpa using hC.below (ay _ _)) ⟨_,by have:=hC.2.lt; omega,rfl,fH _ 7 _⟩
 apply aP.step
 case aB=>
  intro β A w' hβ hC hO hD
  simp [au,ah,aj,Act.eval,Region.binds] at hD
  obtain ⟨RB,Sk,V9,UN,RO,NY⟩:=hD
  simp [go_sem,gd,Oper.wp,RB,Sk,RO]
  refine (iC p w' aC aF aA av _ aJ _ aI bs bt bc h.nm [7] _ 1 hi (by decide) (HP.out _ hC.1) NY (HK.out _ hC.1)).mono ?_
  rintro e' w2 ⟨rfl,hb⟩
  exact ak.mk (dI hb) (by simpa using hC.below hb) (ah.mk _ _)
 apply aP.step
 case aB=>
  intro β A w' hβ hC hO hD
  have e0:=hO 0 (by rfl)
  have e3:=hO 3 (by rfl)
  simp [Act.eval] at e0 e3
  simp [au,ah,aj,Act.eval,Region.binds] at hD
  simp [go_sem,gd,Oper.wp,e0,e3,hD]
  exact ak.mk (aL _) (by simpa using hC) (ah.mk _ _)
 refine aP.some (fun v w'=> ∃b,b≠bt∧v= .slice (some ⟨b,0,none⟩) 2 2∧eD w' w'.heap.size [7,3] (some ⟨b,0,none⟩) 0) ?_ ?_ ?_
 ·rintro v w w' hle ⟨b,hbn,rfl,hin⟩
  exact ⟨b,hbn,rfl,eD.grow hbn hle hin⟩
 ·intro β A w' hβ hC hO hD
  simp [go_sem,gd,Oper.wp]
  exact ak.mk (d:=_) (v:= .slice (some ⟨_,0,none⟩) 2 2) (dI (ay _ _)) (by simpa using hC.below (ay _ _)) ⟨_,by have:=hC.2.lt; omega,rfl,eU _ 7 3 _⟩
 apply aP.step
 case aB=>
  intro β A w' hβ hC hO hD
  simp [au,ah,aj,Act.eval,Region.binds] at hD
  obtain ⟨RL,⟨V5,UL,SN,OG⟩,-⟩:=hD
  simp [go_sem,gd,Oper.wp,RL,SN]
  refine (gI p w' aC aF aA av _ aJ aI bs bt bc ar [7,3] _ 2 (by decide) OG dw.out (dG.out _ hC.1) (HK.out _ hC.1)).mono ?_
  rintro e' w2 ⟨rfl,hb⟩
  exact ak.mk (dI hb) (by simpa using hC.below hb) (ah.mk _ _)
 apply aP.step
 case aB=>
  intro β A w' hβ hC hO hD
  simp [au,ah,aj,Act.eval,Region.binds] at hD
  simp [go_sem,gd,Oper.wp,hD]
  refine (dK (dB ar [7,3]) w').mono ?_
  rintro e' w2 ⟨rfl,rfl⟩
  exact ak.mk (aL _) (by simpa using hC) (ah.mk _ _)
 apply aP.step
 case aB=>
  intro β A w' hβ hC hO hD
  have e0:=hO 0 (by rfl)
  have e3:=hO 3 (by rfl)
  simp [Act.eval] at e0 e3
  simp [au,ah,aj,Act.eval,Region.binds] at hD
  simp [go_sem,gd,Oper.wp,e0,e3,hD]
  exact ak.mk (aL _) (by simpa using hC) (ah.mk _ _)
 apply aP.step
 case aB=>
  intro β A w' hβ hC hO hD
  have e0:=hO 0 (by rfl)
  have e3:=hO 3 (by rfl)
  simp [Act.eval] at e0 e3
  simp [au,ah,aj,Act.eval,Region.binds] at hD
  simp [go_sem,gd,Oper.wp,e0,e3,hD]
  exact ak.mk (aL _) (by simpa using hC) (ah.mk _ _)
 apply aP.step
 case aB=>
  intro β A w' hβ hC hO hD
  have e0:=hO 0 (by rfl)
  have e3:=hO 3 (by rfl)
  simp [Act.eval] at e0 e3
  simp [au,ah,aj,Act.eval,Region.binds] at hD
  simp [go_sem,gd,Oper.wp,e0,e3,hD]
  exact ak.mk (aL _) (by simpa using hC) (ah.mk _ _)
 apply aP.step
 case aB=>
  intro β A w' hβ hC hO hD
  have e0:=hO 0 (by rfl)
  have e3:=hO 3 (by rfl)
  simp [Act.eval] at e0 e3
  simp [au,ah,aj,Act.eval,Region.binds] at hD
  simp [go_sem,gd,Oper.wp,e0,e3,hD,LM,hC.1]
  exact ak.mk (aL _) (by simpa using hC) (ah.mk _ _)
 apply aP.step
 case aB=>
  intro β A w' hβ hC hO hD
  have e0:=hO 0 (by rfl)
  have e3:=hO 3 (by rfl)
  simp [Act.eval] at e0 e3
  simp [au,ah,aj,Act.eval,Region.binds] at hD
  simp [go_sem,gd,Oper.wp,e0,e3,hD]
  exact ak.mk (aL _) (by simpa using hC) (ah.mk _ _)
 apply aP.step
 case aB=>
  intro β A w' hβ hC hO hD
  have e0:=hO 0 (by rfl)
  have e3:=hO 3 (by rfl)
  simp [Act.eval] at e0 e3
  simp [au,ah,aj,Act.eval,Region.binds] at hD
  simp [go_sem,gd,Oper.wp,e0,e3,hD,L2,hC.1]
  exact ak.mk (aL _) (by simpa using hC) (ah.mk _ _)
 apply aP.step
 case aB=>
  intro β A w' hβ hC hO hD
  obtain rfl:=hβ (by simp)
  simp [au,ah,aj,Act.eval,Region.binds] at hD
  simp [go_sem,gd,Oper.wp,hD]
  refine (wm h.nm w' bt n f HN.out Ja.out (by simpa using hC.2)).mono ?_
  rintro e' w2 ⟨rfl,hm2,hg2⟩
  exact ak.mk hg2 ⟨nA hC.1 hg2,by simpa using hm2⟩ (ah.mk _ _)
 apply aP.step
 case aB=>
  intro β A w' hβ hC hO hD
  have e0:=hO 0 (by rfl)
  have e3:=hO 3 (by rfl)
  simp [Act.eval] at e0 e3
  simp [au,ah,aj,Act.eval,Region.binds] at hD
  simp [go_sem,gd,Oper.wp,e0,e3,hD]
  exact ak.mk (aL _) (by simpa using hC) (ah.mk _ _)
 apply aP.step
 case aB=>
  intro β A w' hβ hC hO hD
  have e0:=hO 0 (by rfl)
  have e3:=hO 3 (by rfl)
  simp [Act.eval] at e0 e3
  simp [au,ah,aj,Act.eval,Region.binds] at hD
  simp [go_sem,gd,Oper.wp,e0,e3,hD]
  exact ak.mk (aL _) (by simpa using hC) (ah.mk _ _)
 apply aP.step
 case aB=>
  intro β A w' hβ hC hO hD
  have e0:=hO 0 (by rfl)
  have e3:=hO 3 (by rfl)
  simp [Act.eval] at e0 e3
  simp [au,ah,aj,Act.eval,Region.binds] at hD
  simp [go_sem,gd,Oper.wp,e0,e3,hD,L5,L6,L7,L8,hC.1]
  exact ak.mk (aL _) (by simpa using hC) (ah.mk _ _)
 apply aP.step
 case aB=>
  intro β A w' hβ hC hO hD
  simp [au,ah,aj,Act.eval,Region.binds] at hD
  simp [go_sem,gd,Oper.wp,hD]
  refine (oF p w' aC aF aA av _ aJ _ aI bs bt bc h.dU h.xn h.dV h.bq dW cB hi (HP.out _ hC.1) hxk (rG.out _ hC.1) (iW.out _ hC.1) (HK.out _ hC.1)).mono ?_
  rintro e' w2 ⟨rfl,hb⟩
  exact ak.mk (dI hb) (by simpa using hC.below hb) (ah.mk _ _)
 refine aP.some (fun v w'=> ∃b,b≠bt∧v= .slice (some ⟨b,0,none⟩) 4 4∧eD w' w'.heap.size [bC (mean p i h.nm) [7],nest (dB ar [7,3]),(iN (f h.nm.toList)),iE p i h.dU h.xn h.dV h.bq] (some ⟨b,0,none⟩) 0) ?_ ?_ ?_
 ·rintro v w w' hle ⟨b,hbn,rfl,hin⟩
  exact ⟨b,hbn,rfl,eD.grow hbn hle hin⟩
 ·intro β A w' hβ hC hO hD
  simp [au,ah,aj,Act.eval,Region.binds] at hD
  simp [go_sem,gd,Oper.wp,hD]
  exact ak.mk (d:=_) (v:= .slice (some ⟨_,0,none⟩) 4 4) (dI (ay _ _)) (by simpa using hC.below (ay _ _)) ⟨_,by have:=hC.2.lt; omega,rfl,J7 _ _ _ _ _ _⟩
 apply aP.step
 case aB=>
  intro β A w' hβ hC hO hD
  simp [au,ah,aj,Act.eval,Region.binds] at hD
  obtain ⟨⟨V6,UO,Td,P8⟩,-⟩:=hD
  simp [go_sem,gd,Oper.wp,Td]
  refine (dJ [bC (mean p i h.nm) [7],nest (dB ar [7,3]),(iN (f h.nm.toList)),iE p i h.dU h.xn h.dV h.bq] w' _ _ (by simp [maxLen]) P8).mono ?_
  rintro e' w2 ⟨rfl,rfl⟩
  exact ak.mk (aL _) (by simpa using hC) (ah.mk _ _)
 apply aP.step
 case aB=>
  intro β A w' hβ hC hO hD
  have e0:=hO 0 (by rfl)
  have e3:=hO 3 (by rfl)
  simp [Act.eval] at e0 e3
  simp [au,ah,aj,Act.eval,Region.binds] at hD
  simp [go_sem,gd,Oper.wp,e0,e3,hD]
  exact ak.mk (aL _) (by simpa using hC) (ah.mk _ _)
 simp only [List.nil_append,List.cons_append]
 intro wz bK
 intro v0 h0 v1 h1 v2 h2 v3 h3 v4 h4 v5 h5 v6 h6 v7 h7 v8 h8 v9 h9 v10 h10 v11 h11 v12 h12 v13 mP v14 lG v15 oJ v16 h16 v17 sj v18 h18 v19 h19 v20 h20 v21 h21 v22 h22
 have hl':v22=_:=h22
 subst hl'
 clear h0 h1 h2 h3 h4 h5 h6 h7 h8 h9 h10 h11 h12 mP lG oJ h16 sj h18 h19 h20 h21 h22
 refine bM.nil ?_
 have HZ:Hid (MC W bt n f (ow f h.nm.toList) true wz):=Lib.hid (by simpa using bK)
 clear bK
 go_simp
 go_wp2_with fail
 go_ret
 refine sJ ?_ HZ.out HG.out
 rw [← HR.out]
 rfl
end
end Go.Proofs.YtnknfoibmgphnaaDoor
end
section
set_option linter.unusedSimpArgs false
set_option linter.unusedVariables false
namespace Go.Proofs.YtnknfoibmgphnaaDoor
open Go.RowKit
open Md
theorem JI {w:World} {B b off:Nat} {t:Th} {r:List Th} (h:iy w B (t ::r) (some ⟨b,off,none⟩) 0):w.cell? ⟨b,off,none⟩=some (.string t.nm):=by
 obtain ⟨⟨b1,off1,iQ,gy,bg,aT,e,-,x0,-⟩,-⟩:=h
 injection e with e; injection e with e1 e2; subst e1; subst e2
 simpa using x0
section
variable (p:Pr) (w:World) (aC aF:Option Addr) (aA av:Nat) (aJ:Option Addr) (aI bs bt bc:Nat)
set_option maxHeartbeats 4000000 in
set_option maxRecDepth 100000 in
theorem Ka (j:Nat) (t t0:Th) (r r0:List Th) (hd:p.ts.drop j=t ::r) (hts:p.ts=t0 ::r0) (h:eH) (b e ar:aR) (s:Sl) (hi:aX (j:Int)) (hp: ∀w',w.grownBy w' (some bs)→p.At w' aC aF) (hok:ko h b e) (hex: ∀w',w.grownBy w' (some bs)→h.bq.At w' w'.heap.size s.dW 0) (dL: ∀w',w.grownBy w' (some bs)→dZ w') (har:ar.len≤maxLen) (hat: ∀w',w.grownBy w' (some bs)→ar.At w' w'.heap.size aJ 0) (hh:Holds w (iU bc p aC aF aA av (j:Int) aJ ar.len aI bs bt)) (hbc:bc≠bs) (n:Nat) (f:List UInt8→Bool) (hn:n < maxLen) (hmap:iL w bs n f) (hop:h.op=12):
 Calls Tryd.prog 43 #[.pointer (some ⟨bc,0,none⟩),aY h b e s] w (AQ (dR [bC (mean p (j:Int) h.nm) [8],nest (dB ar [7,8,3] || (h.nm.toList == t.nm.toList || h.nm.toList == t0.nm.toList)),(iN (f h.nm.toList))]) w bs (n + 1) (ow f h.nm.toList)):=by
 have HH:=Lib.hid (show Sit w w _ from ⟨Below.refl _ _,hh⟩)
 obtain ⟨fU,eG,dW,cB,bg,aT,eY,dP⟩:=s
 have hxk:=hok.2.2.2.2.2.1
 have hns:=hok.2.2.1
 generalize hres:dR [bC (mean p (j:Int) h.nm) [8],nest (dB ar [7,8,3] || (h.nm.toList == t.nm.toList || h.nm.toList == t0.nm.toList)),(iN (f h.nm.toList))]=res
 have HR:=Lib.hid hres
 have iG:=Lib.hid hop
 have Ja:=Lib.hid hns
 have HN:=Lib.hid hn
 have hlt:=hmap.lt
 clear hres hop hn hns
 unfold aY
 dsimp only
 dsimp only at hex
 go_enter Tryd.func43,Tryd.ntmps43
 go_upto_region 1 with fail
 generalize hW:World.alloc w _=W
 generalize Value.agg #[_,_,_,_,_,_,_,_,_,_,_]=a0
 have HX:Hid (Sit w W (iT w.heap.size h b e ⟨fU,eG,dW,cB,bg,aT,eY,dP⟩ (iU bc p aC aF aA av (j:Int) aJ ar.len aI bs bt))):=Lib.hid (by rw [← hW]; exact HH.out.gZ rfl _ _ _ _ _ _ _ _ _ _ _ _)
 clear hW HH
 have HG:Hid (∀w',W.grownBy w' (some bs)→w.grownBy w' (some bs)):=Lib.hid (fun w' hg=>nA (dI HX.out.1) hg)
 have HP:=Lib.hid (fun w' hg=>hp w' (HG.out w' hg))
 have iW:=Lib.hid (fun w' hg=>dL w' (HG.out w' hg))
 have rG:=Lib.hid (fun w' hg=>hex w' (HG.out w' hg))
 have dG:=Lib.hid (fun w' hg=>hat w' (HG.out w' hg))
 have dw:=Lib.hid har
 have HM:=Lib.hid (hmap.next HX.out.1)
 have HF:Hid (∀w',W.grownBy w' (some bs)→Holds w' (iT w.heap.size h b e ⟨fU,eG,dW,cB,bg,aT,eY,dP⟩ (iU bc p aC aF aA av (j:Int) aJ ar.len aI bs bt))):=Lib.hid (fun w' hg=>HX.out.mc hg (by
  intro x hx
  simp only [iT,iU,List.mem_cons,List.not_mem_nil,or_false] at hx
  rcases hx with rfl | rfl | rfl | rfl | rfl | rfl | rfl | rfl | rfl | rfl | rfl | rfl | rfl | rfl | rfl | rfl | rfl <;> first | exact hbc | (show w.heap.size≠bs; omega)))
 have HK:Hid (∀w',W.grownBy w' (some bs)→Holds w' (iU bc p aC aF aA av (j:Int) aJ ar.len aI bs bt)):=Lib.hid (fun w' hg=>(HF.out w' hg).2.2.2.2.2.2.2.2.2.2.2)
 clear hp dL hh hat har hex hmap hlt hbc
 have L0: ∀w',W.grownBy w' (some bs)→w'.cell? ⟨w.heap.size,0,none⟩=some (.int .i64 h.op):=fun w' hb=>(HF.out w' hb).1.2
 have L2: ∀w',W.grownBy w' (some bs)→w'.cell? ⟨w.heap.size,2,none⟩=some (.string h.nm):=fun w' hb=>(HF.out w' hb).2.2.1.2
 have L5: ∀w',W.grownBy w' (some bs)→w'.cell? ⟨w.heap.size,5,none⟩=some (.int .i64 h.dU):=fun w' hb=>(HF.out w' hb).2.2.2.2.2.1.2
 have L6: ∀w',W.grownBy w' (some bs)→w'.cell? ⟨w.heap.size,6,none⟩=some (.int .i64 h.xn):=fun w' hb=>(HF.out w' hb).2.2.2.2.2.2.1.2
 have L7: ∀w',W.grownBy w' (some bs)→w'.cell? ⟨w.heap.size,7,none⟩=some (.string h.dV):=fun w' hb=>(HF.out w' hb).2.2.2.2.2.2.2.1.2
 have L8: ∀w',W.grownBy w' (some bs)→w'.cell? ⟨w.heap.size,8,none⟩=some (.slice dW h.bq.len cB):=fun w' hb=>(HF.out w' hb).2.2.2.2.2.2.2.2.1.2
 have LM: ∀w',W.grownBy w' (some bs)→w'.cell? ⟨bc,4,none⟩=some (.map (some bs)):=fun w' hb=>(HK.out w' hb).2.2.2.2.1.2
 have l0:=L0 W (aL _)
 have hop:=iG.out
 have g1:(h.op == 1)=false:=by rw [hop]; rfl
 have g2:(h.op == 2)=false:=by rw [hop]; rfl
 have g3:(h.op == 3)=false:=by rw [hop]; rfl
 have g4:(h.op == 4)=false:=by rw [hop]; rfl
 have g5:(h.op == 5)=false:=by rw [hop]; rfl
 have g6:(h.op == 6)=false:=by rw [hop]; rfl
 have g7:(h.op == 7)=false:=by rw [hop]; rfl
 have g8:(h.op == 8)=false:=by rw [hop]; rfl
 have g9:(h.op == 9)=false:=by rw [hop]; rfl
 have g10:(h.op == 10)=false:=by rw [hop]; rfl
 have g11:(h.op == 11)=false:=by rw [hop]; rfl
 have g12:(h.op == 12)=true:=by rw [hop]; rfl
 have g13:(h.op == 13)=false:=by rw [hop]; rfl
 have g14:(h.op == 14)=false:=by rw [hop]; rfl
 have g15:(h.op == 15)=false:=by rw [hop]; rfl
 clear hop l0
 have l0:=L0 W (aL _)
 go_upto_region 21 with fail
 have hpos:0 < p.ts.length:=by rw [hts]; simp
 have Qg:(0:Int) < p.ts.length:=by omega
 obtain ⟨b0,oC,eT⟩: ∃b0 oC,aF=some ⟨b0,oC,none⟩:=by
  have:=(HP.out W (aL _)).2.2.2
  rw [hts] at this
  obtain ⟨⟨b1,off1,iQ,gy,bg,aT,e,-⟩,-⟩:=this
  exact ⟨b1,off1,e⟩
 subst eT
 have LN: ∀w',W.grownBy w' (some bs)→w'.cell? ⟨b0,oC,none⟩=some (.string t0.nm):=fun w' hb=>by
  have:=(HP.out w' hb).2.2.2
  rw [hts] at this
  exact JI this
 have LT: ∀w',W.grownBy w' (some bs)→w'.cell? ⟨bc,1,none⟩=some (.slice (some ⟨b0,oC,none⟩) p.ts.length av):=fun w' hb=>(HK.out w' hb).2.1.2
 cases hq:dB ar [7,8,3]
 ·cases ho:(h.nm.toList == t.nm.toList)
  ·refine mE 35 (MC W bs n f (ow f h.nm.toList)) (fun w w'=>w.grownBy w' (some bs)) [109,110,111,112,113,114,115,116,117,118,119,120,121,122,123,124,125,126,127,128,129,130,131,132,133,134,135,136,137,138,139,140,141,142,143,144,145,146,4] (by kernel_rfl) (by kernel_rfl) (fun _=>aL _) (by rfl) ⟨dI (below_drewN (Below.refl _ _) 1),by simpa using HM.out.next (below_drewN (Below.refl _ _) 1)⟩ ?_
   apply aP.step
   case aB=>
    intro β A w' hβ hC hO hD
    have e0:=hO 0 (by rfl)
    have e3:=hO 3 (by rfl)
    simp [Act.eval] at e0 e3
    simp [au,ah,aj,Act.eval,Region.binds] at hD
    simp [go_sem,gd,Oper.wp,e0,e3,hD]
    exact ak.mk (aL _) (by simpa using hC) (ah.mk _ _)
   apply aP.step
   case aB=>
    intro β A w' hβ hC hO hD
    have e0:=hO 0 (by rfl)
    have e3:=hO 3 (by rfl)
    simp [Act.eval] at e0 e3
    simp [au,ah,aj,Act.eval,Region.binds] at hD
    simp [go_sem,gd,Oper.wp,e0,e3,hD]
    exact ak.mk (aL _) (by simpa using hC) (ah.mk _ _)
   simp only [List.nil_append,List.cons_append]
   apply aP.step
   case aB=>
    intro β A w' hβ hC hO hD
    have e0:=hO 0 (by rfl)
    have e3:=hO 3 (by rfl)
    simp [Act.eval] at e0 e3
    simp [au,ah,aj,Act.eval,Region.binds] at hD
    simp [go_sem,gd,Oper.wp,e0,e3,hD,L2,hC.1]
    exact ak.mk (aL _) (by simpa using hC) (ah.mk _ _)
   simp only [List.nil_append,List.cons_append]
   refine aP.some (fun v w'=> ∃b,b≠bs∧v= .slice (some ⟨b,0,none⟩) 1 1∧eD w' w'.heap.size [8] (some ⟨b,0,none⟩) 0) ?_ ?_ ?_
   ·rintro v w w' hle ⟨b,hbn,rfl,hin⟩
    exact ⟨b,hbn,rfl,eD.grow hbn hle hin⟩
   ·intro β A w' hβ hC hO hD
    simp [go_sem,gd,Oper.wp]
    exact ak.mk (d:=_) (v:= .slice (some ⟨_,0,none⟩) 1 1) (dI (ay _ _)) (by simpa using hC.below (ay _ _)) ⟨_,by have:=hC.2.lt; omega,rfl,fH _ 8 _⟩
   simp only [List.nil_append,List.cons_append]
   apply aP.step
   case aB=>
    intro β A w' hβ hC hO hD
    simp [au,ah,aj,Act.eval,Region.binds] at hD
    obtain ⟨Ev,Eo,Nw,KM,Ed,xG⟩:=hD
    simp [go_sem,gd,Oper.wp,Ev,Eo,Ed]
    refine (iC p w' aC (some ⟨b0,oC,none⟩) aA av _ aJ _ aI bs bt bc h.nm [8] _ 1 hi (by decide) (HP.out _ hC.1) xG (HK.out _ hC.1)).mono ?_
    rintro e' w2 ⟨rfl,hb⟩
    exact ak.mk (dI hb) (by simpa using hC.below hb) (ah.mk _ _)
   simp only [List.nil_append,List.cons_append]
   apply aP.step
   case aB=>
    intro β A w' hβ hC hO hD
    have e0:=hO 0 (by rfl)
    have e3:=hO 3 (by rfl)
    simp [Act.eval] at e0 e3
    simp [au,ah,aj,Act.eval,Region.binds] at hD
    simp [go_sem,gd,Oper.wp,e0,e3,hD]
    exact ak.mk (aL _) (by simpa using hC) (ah.mk _ _)
   simp only [List.nil_append,List.cons_append]
   refine aP.some (fun v w'=> ∃b,b≠bs∧v= .slice (some ⟨b,0,none⟩) 3 3∧eD w' w'.heap.size [7,8,3] (some ⟨b,0,none⟩) 0) ?_ ?_ ?_
   ·rintro v w w' hle ⟨b,hbn,rfl,hin⟩
    exact ⟨b,hbn,rfl,eD.grow hbn hle hin⟩
   ·intro β A w' hβ hC hO hD
    simp [go_sem,gd,Oper.wp]
    exact ak.mk (d:=_) (v:= .slice (some ⟨_,0,none⟩) 3 3) (dI (ay _ _)) (by simpa using hC.below (ay _ _)) ⟨_,by have:=hC.2.lt; omega,rfl,mH _ 7 8 3 _⟩
   simp only [List.nil_append,List.cons_append]
   apply aP.step
   case aB=>
    intro β A w' hβ hC hO hD
    simp [au,ah,aj,Act.eval,Region.binds] at hD
    obtain ⟨E5,⟨Ot,LB,CW,wZ⟩,-⟩:=hD
    simp [go_sem,gd,Oper.wp,E5,CW]
    refine (hq ▸ gI p w' aC (some ⟨b0,oC,none⟩) aA av (j:Int) aJ aI bs bt bc ar [7,8,3] _ 3 (by decide) wZ dw.out (dG.out _ hC.1) (HK.out _ hC.1)).mono ?_
    rintro e' w2 ⟨rfl,hb⟩
    exact ak.mk (dI hb) (by simpa using hC.below hb) (ah.mk _ _)
   simp only [List.nil_append,List.cons_append]
   apply aP.step
   case aB=>
    intro β A w' hβ hC hO hD
    have e0:=hO 0 (by rfl)
    have e3:=hO 3 (by rfl)
    simp [Act.eval] at e0 e3
    simp [au,ah,aj,Act.eval,Region.binds] at hD
    simp [go_sem,gd,Oper.wp,e0,e3,hD]
    exact ak.mk (aL _) (by simpa using hC) (ah.mk _ _)
   simp only [List.nil_append,List.cons_append]
   apply aP.step
   case aB=>
    intro β A w' hβ hC hO hD
    have e0:=hO 0 (by rfl)
    have e3:=hO 3 (by rfl)
    simp [Act.eval] at e0 e3
    simp [au,ah,aj,Act.eval,Region.binds] at hD
    simp [go_sem,gd,Oper.wp,e0,e3,hD]
    exact ak.mk (aL _) (by simpa using hC) (ah.mk _ _)
   simp only [List.nil_append,List.cons_append]
   apply aP.step
   case aB=>
    intro β A w' hβ hC hO hD
    have e0:=hO 0 (by rfl)
    have e3:=hO 3 (by rfl)
    simp [Act.eval] at e0 e3
    simp [au,ah,aj,Act.eval,Region.binds] at hD
    simp [go_sem,gd,Oper.wp,e0,e3,hD,L2,hC.1]
    exact ak.mk (aL _) (by simpa using hC) (ah.mk _ _)
   simp only [List.nil_append,List.cons_append]
   apply aP.step
   case aB=>
    intro β A w' hβ hC hO hD
    have e0:=hO 0 (by rfl)
    have e3:=hO 3 (by rfl)
    simp [Act.eval] at e0 e3
    simp [au,ah,aj,Act.eval,Region.binds] at hD
    simp [go_sem,gd,Oper.wp,e0,e3,hD]
    exact ak.mk (aL _) (by simpa using hC) (ah.mk _ _)
   simp only [List.nil_append,List.cons_append]
   apply aP.step
   case aB=>
    intro β A w' hβ hC hO hD
    simp [au,ah,aj,Act.eval,Region.binds] at hD
    simp [go_sem,gd,Oper.wp,hD]
    refine (yw p w' aC (some ⟨b0,oC,none⟩) aA av aJ ar.len aI bs bt bc j t r hd (HP.out _ hC.1) (HK.out _ hC.1)).mono ?_
    rintro e' w2 ⟨rfl,hb⟩
    exact ak.mk (dI hb) (by simpa using hC.below hb) (ah.mk _ _)
   simp only [List.nil_append,List.cons_append]
   apply aP.step
   case aB=>
    intro β A w' hβ hC hO hD
    have e0:=hO 0 (by rfl)
    have e3:=hO 3 (by rfl)
    simp [Act.eval] at e0 e3
    simp [au,ah,aj,Act.eval,Region.binds] at hD
    simp [go_sem,gd,Oper.wp,e0,e3,hD,ho]
    exact ak.mk (aL _) (by simpa using hC) (ah.mk _ _)
   simp only [List.nil_append,List.cons_append]
   apply aP.step
   case aB=>
    intro β A w' hβ hC hO hD
    have e0:=hO 0 (by rfl)
    have e3:=hO 3 (by rfl)
    simp [Act.eval] at e0 e3
    simp [au,ah,aj,Act.eval,Region.binds] at hD
    simp [go_sem,gd,Oper.wp,e0,e3,hD]
    exact ak.mk (aL _) (by simpa using hC) (ah.mk _ _)
   simp only [List.nil_append,List.cons_append]
   apply aP.step
   case aB=>
    intro β A w' hβ hC hO hD
    have e0:=hO 0 (by rfl)
    have e3:=hO 3 (by rfl)
    simp [Act.eval] at e0 e3
    simp [au,ah,aj,Act.eval,Region.binds] at hD
    simp [go_sem,gd,Oper.wp,e0,e3,hD]
    exact ak.mk (aL _) (by simpa using hC) (ah.mk _ _)
   simp only [List.nil_append,List.cons_append]
   apply aP.step
   case aB=>
    intro β A w' hβ hC hO hD
    have e0:=hO 0 (by rfl)
    have e3:=hO 3 (by rfl)
    simp [Act.eval] at e0 e3
    simp [au,ah,aj,Act.eval,Region.binds] at hD
    simp [go_sem,gd,Oper.wp,e0,e3,hD]
    exact ak.mk (aL _) (by simpa using hC) (ah.mk _ _)
   simp only [List.nil_append,List.cons_append]
   apply aP.step
   case aB=>
    intro β A w' hβ hC hO hD
    have e0:=hO 0 (by rfl)
    have e3:=hO 3 (by rfl)
    simp [Act.eval] at e0 e3
    simp [au,ah,aj,Act.eval,Region.binds] at hD
    simp [go_sem,gd,Oper.wp,e0,e3,hD,L2,hC.1]
    exact ak.mk (aL _) (by simpa using hC) (ah.mk _ _)
   simp only [List.nil_append,List.cons_append]
   apply aP.step
   case aB=>
    intro β A w' hβ hC hO hD
    have e0:=hO 0 (by rfl)
    have e3:=hO 3 (by rfl)
    simp [Act.eval] at e0 e3
    simp [au,ah,aj,Act.eval,Region.binds] at hD
    simp [go_sem,gd,Oper.wp,e0,e3,hD]
    exact ak.mk (aL _) (by simpa using hC) (ah.mk _ _)
   simp only [List.nil_append,List.cons_append]
   apply aP.step
   case aB=>
    intro β A w' hβ hC hO hD
    have e0:=hO 0 (by rfl)
    have e3:=hO 3 (by rfl)
    simp [Act.eval] at e0 e3
    simp [au,ah,aj,Act.eval,Region.binds] at hD
    simp [go_sem,gd,Oper.wp,e0,e3,hD]
    exact ak.mk (aL _) (by simpa using hC) (ah.mk _ _)
   simp only [List.nil_append,List.cons_append]
   apply aP.step
   case aB=>
    intro β A w' hβ hC hO hD
    have e0:=hO 0 (by rfl)
    have e3:=hO 3 (by rfl)
    simp [Act.eval] at e0 e3
    simp [au,ah,aj,Act.eval,Region.binds] at hD
    simp [go_sem,gd,Oper.wp,e0,e3,hD]
    exact ak.mk (aL _) (by simpa using hC) (ah.mk _ _)
   simp only [List.nil_append,List.cons_append]
   apply aP.step
   case aB=>
    intro β A w' hβ hC hO hD
    have e0:=hO 0 (by rfl)
    have e3:=hO 3 (by rfl)
    simp [Act.eval] at e0 e3
    simp [au,ah,aj,Act.eval,Region.binds] at hD
    simp [go_sem,gd,Oper.wp,e0,e3,hD]
    exact ak.mk (aL _) (by simpa using hC) (ah.mk _ _)
   simp only [List.nil_append,List.cons_append]
   apply aP.step
   case aB=>
    intro β A w' hβ hC hO hD
    have e0:=hO 0 (by rfl)
    have e3:=hO 3 (by rfl)
    simp [Act.eval] at e0 e3
    simp [au,ah,aj,Act.eval,Region.binds] at hD
    simp [go_sem,gd,Oper.wp,e0,e3,hD,LT,hC.1]
    exact ak.mk (aL _) (by simpa using hC) (ah.mk _ _)
   simp only [List.nil_append,List.cons_append]
   apply aP.step
   case aB=>
    intro β A w' hβ hC hO hD
    have e0:=hO 0 (by rfl)
    have e3:=hO 3 (by rfl)
    simp [Act.eval] at e0 e3
    simp [au,ah,aj,Act.eval,Region.binds] at hD
    simp [go_sem,gd,Oper.wp,e0,e3,hD,hpos,Qg]
    exact ak.mk (aL _) (by simpa using hC) (ah.mk _ _)
   simp only [List.nil_append,List.cons_append]
   apply aP.step
   case aB=>
    intro β A w' hβ hC hO hD
    have e0:=hO 0 (by rfl)
    have e3:=hO 3 (by rfl)
    simp [Act.eval] at e0 e3
    simp [au,ah,aj,Act.eval,Region.binds] at hD
    simp [go_sem,gd,Oper.wp,e0,e3,hD]
    exact ak.mk (aL _) (by simpa using hC) (ah.mk _ _)
   simp only [List.nil_append,List.cons_append]
   apply aP.step
   case aB=>
    intro β A w' hβ hC hO hD
    have e0:=hO 0 (by rfl)
    have e3:=hO 3 (by rfl)
    simp [Act.eval] at e0 e3
    simp [au,ah,aj,Act.eval,Region.binds] at hD
    simp [go_sem,gd,Oper.wp,e0,e3,hD,LN,hC.1]
    exact ak.mk (aL _) (by simpa using hC) (ah.mk _ _)
   simp only [List.nil_append,List.cons_append]
   apply aP.step
   case aB=>
    intro β A w' hβ hC hO hD
    have e0:=hO 0 (by rfl)
    have e3:=hO 3 (by rfl)
    simp [Act.eval] at e0 e3
    simp [au,ah,aj,Act.eval,Region.binds] at hD
    simp [go_sem,gd,Oper.wp,e0,e3,hD]
    exact ak.mk (aL _) (by simpa using hC) (ah.mk _ _)
   simp only [List.nil_append,List.cons_append]
   apply aP.step
   case aB=>
    intro β A w' hβ hC hO hD
    have e0:=hO 0 (by rfl)
    have e3:=hO 3 (by rfl)
    simp [Act.eval] at e0 e3
    simp [au,ah,aj,Act.eval,Region.binds] at hD
    simp [go_sem,gd,Oper.wp,e0,e3,hD]
    exact ak.mk (aL _) (by simpa using hC) (ah.mk _ _)
   simp only [List.nil_append,List.cons_append]
   apply aP.step
   case aB=>
    intro β A w' hβ hC hO hD
    simp [au,ah,aj,Act.eval,Region.binds] at hD
    simp [go_sem,gd,Oper.wp,hD]
    refine (dK (h.nm.toList == t0.nm.toList) w').mono ?_
    rintro e' w2 ⟨rfl,rfl⟩
    exact ak.mk (aL _) (by simpa using hC) (ah.mk _ _)
   simp only [List.nil_append,List.cons_append]
   apply aP.step
   case aB=>
    intro β A w' hβ hC hO hD
    have e0:=hO 0 (by rfl)
    have e3:=hO 3 (by rfl)
    simp [Act.eval] at e0 e3
    simp [au,ah,aj,Act.eval,Region.binds] at hD
    simp [go_sem,gd,Oper.wp,e0,e3,hD]
    exact ak.mk (aL _) (by simpa using hC) (ah.mk _ _)
   simp only [List.nil_append,List.cons_append]
   apply aP.step
   case aB=>
    intro β A w' hβ hC hO hD
    have e0:=hO 0 (by rfl)
    have e3:=hO 3 (by rfl)
    simp [Act.eval] at e0 e3
    simp [au,ah,aj,Act.eval,Region.binds] at hD
    simp [go_sem,gd,Oper.wp,e0,e3,hD]
    exact ak.mk (aL _) (by simpa using hC) (ah.mk _ _)
   simp only [List.nil_append,List.cons_append]
   apply aP.step
   case aB=>
    intro β A w' hβ hC hO hD
    have e0:=hO 0 (by rfl)
    have e3:=hO 3 (by rfl)
    simp [Act.eval] at e0 e3
    simp [au,ah,aj,Act.eval,Region.binds] at hD
    simp [go_sem,gd,Oper.wp,e0,e3,hD]
    exact ak.mk (aL _) (by simpa using hC) (ah.mk _ _)
   simp only [List.nil_append,List.cons_append]
   apply aP.step
   case aB=>
    intro β A w' hβ hC hO hD
    have e0:=hO 0 (by rfl)
    have e3:=hO 3 (by rfl)
    simp [Act.eval] at e0 e3
    simp [au,ah,aj,Act.eval,Region.binds] at hD
    simp [go_sem,gd,Oper.wp,e0,e3,hD,LM,hC.1]
    exact ak.mk (aL _) (by simpa using hC) (ah.mk _ _)
   simp only [List.nil_append,List.cons_append]
   apply aP.step
   case aB=>
    intro β A w' hβ hC hO hD
    have e0:=hO 0 (by rfl)
    have e3:=hO 3 (by rfl)
    simp [Act.eval] at e0 e3
    simp [au,ah,aj,Act.eval,Region.binds] at hD
    simp [go_sem,gd,Oper.wp,e0,e3,hD]
    exact ak.mk (aL _) (by simpa using hC) (ah.mk _ _)
   simp only [List.nil_append,List.cons_append]
   apply aP.step
   case aB=>
    intro β A w' hβ hC hO hD
    have e0:=hO 0 (by rfl)
    have e3:=hO 3 (by rfl)
    simp [Act.eval] at e0 e3
    simp [au,ah,aj,Act.eval,Region.binds] at hD
    simp [go_sem,gd,Oper.wp,e0,e3,hD,L2,hC.1]
    exact ak.mk (aL _) (by simpa using hC) (ah.mk _ _)
   simp only [List.nil_append,List.cons_append]
   apply aP.step
   case aB=>
    intro β A w' hβ hC hO hD
    obtain rfl:=hβ (by simp)
    simp [au,ah,aj,Act.eval,Region.binds] at hD
    simp [go_sem,gd,Oper.wp,hD]
    refine (wm h.nm w' bs n f HN.out Ja.out (by simpa using hC.2)).mono ?_
    rintro e' w2 ⟨rfl,hm2,hg2⟩
    exact ak.mk hg2 ⟨nA hC.1 hg2,by simpa using hm2⟩ (ah.mk _ _)
   simp only [List.nil_append,List.cons_append]
   refine aP.some (fun v w'=> ∃b,b≠bs∧v= .slice (some ⟨b,0,none⟩) 3 3∧eD w' w'.heap.size [bC (mean p (j:Int) h.nm) [8],nest (h.nm.toList == t0.nm.toList),(iN (f h.nm.toList))] (some ⟨b,0,none⟩) 0) ?_ ?_ ?_
   ·rintro v w w' hle ⟨b,hbn,rfl,hin⟩
    exact ⟨b,hbn,rfl,eD.grow hbn hle hin⟩
   ·intro β A w' hβ hC hO hD
    simp [au,ah,aj,Act.eval,Region.binds] at hD
    simp [go_sem,gd,Oper.wp,hD]
    exact ak.mk (d:=_) (v:= .slice (some ⟨_,0,none⟩) 3 3) (dI (ay _ _)) (by simpa using hC.below (ay _ _)) ⟨_,by have:=hC.2.lt; omega,rfl,mH _ _ _ _ _⟩
   simp only [List.nil_append,List.cons_append]
   apply aP.step
   case aB=>
    intro β A w' hβ hC hO hD
    simp [au,ah,aj,Act.eval,Region.binds] at hD
    obtain ⟨⟨NW,M8,D5,yt⟩,-⟩:=hD
    simp [go_sem,gd,Oper.wp,D5]
    refine (dJ [bC (mean p (j:Int) h.nm) [8],nest (h.nm.toList == t0.nm.toList),(iN (f h.nm.toList))] w' _ _ (by simp [maxLen]) yt).mono ?_
    rintro e' w2 ⟨rfl,rfl⟩
    exact ak.mk (aL _) (by simpa using hC) (ah.mk _ _)
   simp only [List.nil_append,List.cons_append]
   apply aP.step
   case aB=>
    intro β A w' hβ hC hO hD
    have e0:=hO 0 (by rfl)
    have e3:=hO 3 (by rfl)
    simp [Act.eval] at e0 e3
    simp [au,ah,aj,Act.eval,Region.binds] at hD
    simp [go_sem,gd,Oper.wp,e0,e3,hD]
    exact ak.mk (aL _) (by simpa using hC) (ah.mk _ _)
   simp only [List.nil_append,List.cons_append]
   intro wz bK
   intro v0 h0 v1 h1 v2 h2 v3 h3 v4 h4 v5 h5 v6 h6 v7 h7 v8 h8 v9 h9 v10 h10 v11 h11 v12 h12 v13 mP v14 lG v15 oJ v16 h16 v17 sj v18 h18 v19 h19 v20 h20 v21 h21 v22 h22 v23 h23 v24 H8 v25 Iz v26 IV v27 h27 v28 Hg v29 IY v30 GX v31 h31 v32 h32 v33 Hy v34 Io v35 I5 v36 J9 v37 h37 v38 BJ
   have hl':v38=_:=BJ
   subst hl'
   clear h0 h1 h2 h3 h4 h5 h6 h7 h8 h9 h10 h11 h12 mP lG oJ h16 sj h18 h19 h20 h21 h22 h23 H8 Iz IV h27 Hg IY GX h31 h32 Hy Io I5 J9 h37 BJ
   refine bM.nil ?_
   have HZ:Hid (MC W bs n f (ow f h.nm.toList) true wz):=Lib.hid (by simpa using bK)
   clear bK
   go_simp
   go_wp2_with fail
   go_ret
   refine sJ ?_ HZ.out HG.out
   rw [← HR.out,hq,ho]
   try rfl
  ·refine mE 35 (MC W bs n f (ow f h.nm.toList)) (fun w w'=>w.grownBy w' (some bs)) [109,110,111,112,113,114,115,116,117,118,119,120,121,122,123,124,125,126,127,128,129,130,131,132,133,134,135,136,137,138,139,140,141,142,143,144,145,146,4] (by kernel_rfl) (by kernel_rfl) (fun _=>aL _) (by rfl) ⟨dI (below_drewN (Below.refl _ _) 1),by simpa using HM.out.next (below_drewN (Below.refl _ _) 1)⟩ ?_
   apply aP.step
   case aB=>
    intro β A w' hβ hC hO hD
    have e0:=hO 0 (by rfl)
    have e3:=hO 3 (by rfl)
    simp [Act.eval] at e0 e3
    simp [au,ah,aj,Act.eval,Region.binds] at hD
    simp [go_sem,gd,Oper.wp,e0,e3,hD]
    exact ak.mk (aL _) (by simpa using hC) (ah.mk _ _)
   apply aP.step
   case aB=>
    intro β A w' hβ hC hO hD
    have e0:=hO 0 (by rfl)
    have e3:=hO 3 (by rfl)
    simp [Act.eval] at e0 e3
    simp [au,ah,aj,Act.eval,Region.binds] at hD
    simp [go_sem,gd,Oper.wp,e0,e3,hD]
    exact ak.mk (aL _) (by simpa using hC) (ah.mk _ _)
   simp only [List.nil_append,List.cons_append]
   apply aP.step
   case aB=>
    intro β A w' hβ hC hO hD
    have e0:=hO 0 (by rfl)
    have e3:=hO 3 (by rfl)
    simp [Act.eval] at e0 e3
    simp [au,ah,aj,Act.eval,Region.binds] at hD
    simp [go_sem,gd,Oper.wp,e0,e3,hD,L2,hC.1]
    exact ak.mk (aL _) (by simpa using hC) (ah.mk _ _)
   simp only [List.nil_append,List.cons_append]
   refine aP.some (fun v w'=> ∃b,b≠bs∧v= .slice (some ⟨b,0,none⟩) 1 1∧eD w' w'.heap.size [8] (some ⟨b,0,none⟩) 0) ?_ ?_ ?_
   ·rintro v w w' hle ⟨b,hbn,rfl,hin⟩
    exact ⟨b,hbn,rfl,eD.grow hbn hle hin⟩
   ·intro β A w' hβ hC hO hD
    simp [go_sem,gd,Oper.wp]
    exact ak.mk (d:=_) (v:= .slice (some ⟨_,0,none⟩) 1 1) (dI (ay _ _)) (by simpa using hC.below (ay _ _)) ⟨_,by have:=hC.2.lt; omega,rfl,fH _ 8 _⟩
   simp only [List.nil_append,List.cons_append]
   apply aP.step
   case aB=>
    intro β A w' hβ hC hO hD
    simp [au,ah,aj,Act.eval,Region.binds] at hD
    obtain ⟨Ev,Eo,Nw,KM,Ed,xG⟩:=hD
    simp [go_sem,gd,Oper.wp,Ev,Eo,Ed]
    refine (iC p w' aC (some ⟨b0,oC,none⟩) aA av _ aJ _ aI bs bt bc h.nm [8] _ 1 hi (by decide) (HP.out _ hC.1) xG (HK.out _ hC.1)).mono ?_
    rintro e' w2 ⟨rfl,hb⟩
    exact ak.mk (dI hb) (by simpa using hC.below hb) (ah.mk _ _)
   simp only [List.nil_append,List.cons_append]
   apply aP.step
   case aB=>
    intro β A w' hβ hC hO hD
    have e0:=hO 0 (by rfl)
    have e3:=hO 3 (by rfl)
    simp [Act.eval] at e0 e3
    simp [au,ah,aj,Act.eval,Region.binds] at hD
    simp [go_sem,gd,Oper.wp,e0,e3,hD]
    exact ak.mk (aL _) (by simpa using hC) (ah.mk _ _)
   simp only [List.nil_append,List.cons_append]
   refine aP.some (fun v w'=> ∃b,b≠bs∧v= .slice (some ⟨b,0,none⟩) 3 3∧eD w' w'.heap.size [7,8,3] (some ⟨b,0,none⟩) 0) ?_ ?_ ?_
   ·rintro v w w' hle ⟨b,hbn,rfl,hin⟩
    exact ⟨b,hbn,rfl,eD.grow hbn hle hin⟩
   ·intro β A w' hβ hC hO hD
    simp [go_sem,gd,Oper.wp]
    exact ak.mk (d:=_) (v:= .slice (some ⟨_,0,none⟩) 3 3) (dI (ay _ _)) (by simpa using hC.below (ay _ _)) ⟨_,by have:=hC.2.lt; omega,rfl,mH _ 7 8 3 _⟩
   simp only [List.nil_append,List.cons_append]
   apply aP.step
   case aB=>
    intro β A w' hβ hC hO hD
    simp [au,ah,aj,Act.eval,Region.binds] at hD
    obtain ⟨E5,⟨Ot,LB,CW,wZ⟩,-⟩:=hD
    simp [go_sem,gd,Oper.wp,E5,CW]
    refine (hq ▸ gI p w' aC (some ⟨b0,oC,none⟩) aA av (j:Int) aJ aI bs bt bc ar [7,8,3] _ 3 (by decide) wZ dw.out (dG.out _ hC.1) (HK.out _ hC.1)).mono ?_
    rintro e' w2 ⟨rfl,hb⟩
    exact ak.mk (dI hb) (by simpa using hC.below hb) (ah.mk _ _)
   simp only [List.nil_append,List.cons_append]
   apply aP.step
   case aB=>
    intro β A w' hβ hC hO hD
    have e0:=hO 0 (by rfl)
    have e3:=hO 3 (by rfl)
    simp [Act.eval] at e0 e3
    simp [au,ah,aj,Act.eval,Region.binds] at hD
    simp [go_sem,gd,Oper.wp,e0,e3,hD]
    exact ak.mk (aL _) (by simpa using hC) (ah.mk _ _)
   simp only [List.nil_append,List.cons_append]
   apply aP.step
   case aB=>
    intro β A w' hβ hC hO hD
    have e0:=hO 0 (by rfl)
    have e3:=hO 3 (by rfl)
    simp [Act.eval] at e0 e3
    simp [au,ah,aj,Act.eval,Region.binds] at hD
    simp [go_sem,gd,Oper.wp,e0,e3,hD]
    exact ak.mk (aL _) (by simpa using hC) (ah.mk _ _)
   simp only [List.nil_append,List.cons_append]
   apply aP.step
   case aB=>
    intro β A w' hβ hC hO hD
    have e0:=hO 0 (by rfl)
    have e3:=hO 3 (by rfl)
    simp [Act.eval] at e0 e3
    simp [au,ah,aj,Act.eval,Region.binds] at hD
    simp [go_sem,gd,Oper.wp,e0,e3,hD,L2,hC.1]
    exact ak.mk (aL _) (by simpa using hC) (ah.mk _ _)
   simp only [List.nil_append,List.cons_append]
   apply aP.step
   case aB=>
    intro β A w' hβ hC hO hD
    have e0:=hO 0 (by rfl)
    have e3:=hO 3 (by rfl)
    simp [Act.eval] at e0 e3
    simp [au,ah,aj,Act.eval,Region.binds] at hD
    simp [go_sem,gd,Oper.wp,e0,e3,hD]
    exact ak.mk (aL _) (by simpa using hC) (ah.mk _ _)
   simp only [List.nil_append,List.cons_append]
   apply aP.step
   case aB=>
    intro β A w' hβ hC hO hD
    simp [au,ah,aj,Act.eval,Region.binds] at hD
    simp [go_sem,gd,Oper.wp,hD]
    refine (yw p w' aC (some ⟨b0,oC,none⟩) aA av aJ ar.len aI bs bt bc j t r hd (HP.out _ hC.1) (HK.out _ hC.1)).mono ?_
    rintro e' w2 ⟨rfl,hb⟩
    exact ak.mk (dI hb) (by simpa using hC.below hb) (ah.mk _ _)
   simp only [List.nil_append,List.cons_append]
   apply aP.step
   case aB=>
    intro β A w' hβ hC hO hD
    have e0:=hO 0 (by rfl)
    have e3:=hO 3 (by rfl)
    simp [Act.eval] at e0 e3
    simp [au,ah,aj,Act.eval,Region.binds] at hD
    simp [go_sem,gd,Oper.wp,e0,e3,hD,ho]
    exact ak.mk (aL _) (by simpa using hC) (ah.mk _ _)
   simp only [List.nil_append,List.cons_append]
   apply aP.step
   case aB=>
    intro β A w' hβ hC hO hD
    have e0:=hO 0 (by rfl)
    have e3:=hO 3 (by rfl)
    simp [Act.eval] at e0 e3
    simp [au,ah,aj,Act.eval,Region.binds] at hD
    simp [go_sem,gd,Oper.wp,e0,e3,hD]
    exact ak.mk (aL _) (by simpa using hC) (ah.mk _ _)
   simp only [List.nil_append,List.cons_append]
   apply aP.step
   case aB=>
    intro β A w' hβ hC hO hD
    have e0:=hO 0 (by rfl)
    have e3:=hO 3 (by rfl)
    simp [Act.eval] at e0 e3
    simp [au,ah,aj,Act.eval,Region.binds] at hD
    simp [go_sem,gd,Oper.wp,e0,e3,hD]
    exact ak.mk (aL _) (by simpa using hC) (ah.mk _ _)
   simp only [List.nil_append,List.cons_append]
   refine aP.step (v:=undef) ?_ ?_
   ·intro β A w' hβ hC hO hD
    simp [au,ah,aj,Act.eval,Region.binds] at hD
    simp [gd,Act.eval,hD]
    first | exact ah.mk _ _ | exact ⟨by rfl,ah.mk _ _⟩
   simp only [List.nil_append,List.cons_append]
   refine aP.step (v:=undef) ?_ ?_
   ·intro β A w' hβ hC hO hD
    simp [au,ah,aj,Act.eval,Region.binds] at hD
    simp [gd,Act.eval,hD]
    first | exact ah.mk _ _ | exact ⟨by rfl,ah.mk _ _⟩
   simp only [List.nil_append,List.cons_append]
   refine aP.step (v:=undef) ?_ ?_
   ·intro β A w' hβ hC hO hD
    simp [au,ah,aj,Act.eval,Region.binds] at hD
    simp [gd,Act.eval,hD]
    first | exact ah.mk _ _ | exact ⟨by rfl,ah.mk _ _⟩
   simp only [List.nil_append,List.cons_append]
   refine aP.step (v:=undef) ?_ ?_
   ·intro β A w' hβ hC hO hD
    simp [au,ah,aj,Act.eval,Region.binds] at hD
    simp [gd,Act.eval,hD]
    first | exact ah.mk _ _ | exact ⟨by rfl,ah.mk _ _⟩
   simp only [List.nil_append,List.cons_append]
   refine aP.step (v:=undef) ?_ ?_
   ·intro β A w' hβ hC hO hD
    simp [au,ah,aj,Act.eval,Region.binds] at hD
    simp [gd,Act.eval,hD]
    first | exact ah.mk _ _ | exact ⟨by rfl,ah.mk _ _⟩
   simp only [List.nil_append,List.cons_append]
   refine aP.step (v:=undef) ?_ ?_
   ·intro β A w' hβ hC hO hD
    simp [au,ah,aj,Act.eval,Region.binds] at hD
    simp [gd,Act.eval,hD]
    first | exact ah.mk _ _ | exact ⟨by rfl,ah.mk _ _⟩
   simp only [List.nil_append,List.cons_append]
   refine aP.step (v:=undef) ?_ ?_
   ·intro β A w' hβ hC hO hD
    simp [au,ah,aj,Act.eval,Region.binds] at hD
    simp [gd,Act.eval,hD]
    first | exact ah.mk _ _ | exact ⟨by rfl,ah.mk _ _⟩
   simp only [List.nil_append,List.cons_append]
   refine aP.step (v:=undef) ?_ ?_
   ·intro β A w' hβ hC hO hD
    simp [au,ah,aj,Act.eval,Region.binds] at hD
    simp [gd,Act.eval,hD]
    first | exact ah.mk _ _ | exact ⟨by rfl,ah.mk _ _⟩
   simp only [List.nil_append,List.cons_append]
   refine aP.step (v:=undef) ?_ ?_
   ·intro β A w' hβ hC hO hD
    simp [au,ah,aj,Act.eval,Region.binds] at hD
    simp [gd,Act.eval,hD]
    first | exact ah.mk _ _ | exact ⟨by rfl,ah.mk _ _⟩
   simp only [List.nil_append,List.cons_append]
   refine aP.step (v:=undef) ?_ ?_
   ·intro β A w' hβ hC hO hD
    simp [au,ah,aj,Act.eval,Region.binds] at hD
    simp [gd,Act.eval,hD]
    first | exact ah.mk _ _ | exact ⟨by rfl,ah.mk _ _⟩
   simp only [List.nil_append,List.cons_append]
   refine aP.step (v:=undef) ?_ ?_
   ·intro β A w' hβ hC hO hD
    simp [au,ah,aj,Act.eval,Region.binds] at hD
    simp [gd,Act.eval,hD]
    first | exact ah.mk _ _ | exact ⟨by rfl,ah.mk _ _⟩
   simp only [List.nil_append,List.cons_append]
   apply aP.step
   case aB=>
    intro β A w' hβ hC hO hD
    have e0:=hO 0 (by rfl)
    have e3:=hO 3 (by rfl)
    simp [Act.eval] at e0 e3
    simp [au,ah,aj,Act.eval,Region.binds] at hD
    simp [go_sem,gd,Oper.wp,e0,e3,hD]
    exact ak.mk (aL _) (by simpa using hC) (ah.mk _ _)
   simp only [List.nil_append,List.cons_append]
   apply aP.step
   case aB=>
    intro β A w' hβ hC hO hD
    simp [au,ah,aj,Act.eval,Region.binds] at hD
    simp [go_sem,gd,Oper.wp,hD]
    refine (dK true w').mono ?_
    rintro e' w2 ⟨rfl,rfl⟩
    exact ak.mk (aL _) (by simpa using hC) (ah.mk _ _)
   simp only [List.nil_append,List.cons_append]
   apply aP.step
   case aB=>
    intro β A w' hβ hC hO hD
    have e0:=hO 0 (by rfl)
    have e3:=hO 3 (by rfl)
    simp [Act.eval] at e0 e3
    simp [au,ah,aj,Act.eval,Region.binds] at hD
    simp [go_sem,gd,Oper.wp,e0,e3,hD]
    exact ak.mk (aL _) (by simpa using hC) (ah.mk _ _)
   simp only [List.nil_append,List.cons_append]
   apply aP.step
   case aB=>
    intro β A w' hβ hC hO hD
    have e0:=hO 0 (by rfl)
    have e3:=hO 3 (by rfl)
    simp [Act.eval] at e0 e3
    simp [au,ah,aj,Act.eval,Region.binds] at hD
    simp [go_sem,gd,Oper.wp,e0,e3,hD]
    exact ak.mk (aL _) (by simpa using hC) (ah.mk _ _)
   simp only [List.nil_append,List.cons_append]
   apply aP.step
   case aB=>
    intro β A w' hβ hC hO hD
    have e0:=hO 0 (by rfl)
    have e3:=hO 3 (by rfl)
    simp [Act.eval] at e0 e3
    simp [au,ah,aj,Act.eval,Region.binds] at hD
    simp [go_sem,gd,Oper.wp,e0,e3,hD]
    exact ak.mk (aL _) (by simpa using hC) (ah.mk _ _)
   simp only [List.nil_append,List.cons_append]
   apply aP.step
   case aB=>
    intro β A w' hβ hC hO hD
    have e0:=hO 0 (by rfl)
    have e3:=hO 3 (by rfl)
    simp [Act.eval] at e0 e3
    simp [au,ah,aj,Act.eval,Region.binds] at hD
    simp [go_sem,gd,Oper.wp,e0,e3,hD,LM,hC.1]
    exact ak.mk (aL _) (by simpa using hC) (ah.mk _ _)
   simp only [List.nil_append,List.cons_append]
   apply aP.step
   case aB=>
    intro β A w' hβ hC hO hD
    have e0:=hO 0 (by rfl)
    have e3:=hO 3 (by rfl)
    simp [Act.eval] at e0 e3
    simp [au,ah,aj,Act.eval,Region.binds] at hD
    simp [go_sem,gd,Oper.wp,e0,e3,hD]
    exact ak.mk (aL _) (by simpa using hC) (ah.mk _ _)
   simp only [List.nil_append,List.cons_append]
   apply aP.step
   case aB=>
    intro β A w' hβ hC hO hD
    have e0:=hO 0 (by rfl)
    have e3:=hO 3 (by rfl)
    simp [Act.eval] at e0 e3
    simp [au,ah,aj,Act.eval,Region.binds] at hD
    simp [go_sem,gd,Oper.wp,e0,e3,hD,L2,hC.1]
    exact ak.mk (aL _) (by simpa using hC) (ah.mk _ _)
   simp only [List.nil_append,List.cons_append]
   apply aP.step
   case aB=>
    intro β A w' hβ hC hO hD
    obtain rfl:=hβ (by simp)
    simp [au,ah,aj,Act.eval,Region.binds] at hD
    simp [go_sem,gd,Oper.wp,hD]
    refine (wm h.nm w' bs n f HN.out Ja.out (by simpa using hC.2)).mono ?_
    rintro e' w2 ⟨rfl,hm2,hg2⟩
    exact ak.mk hg2 ⟨nA hC.1 hg2,by simpa using hm2⟩ (ah.mk _ _)
   simp only [List.nil_append,List.cons_append]
   refine aP.some (fun v w'=> ∃b,b≠bs∧v= .slice (some ⟨b,0,none⟩) 3 3∧eD w' w'.heap.size [bC (mean p (j:Int) h.nm) [8],nest true,(iN (f h.nm.toList))] (some ⟨b,0,none⟩) 0) ?_ ?_ ?_
   ·rintro v w w' hle ⟨b,hbn,rfl,hin⟩
    exact ⟨b,hbn,rfl,eD.grow hbn hle hin⟩
   ·intro β A w' hβ hC hO hD
    simp [au,ah,aj,Act.eval,Region.binds] at hD
    simp [go_sem,gd,Oper.wp,hD]
    exact ak.mk (d:=_) (v:= .slice (some ⟨_,0,none⟩) 3 3) (dI (ay _ _)) (by simpa using hC.below (ay _ _)) ⟨_,by have:=hC.2.lt; omega,rfl,mH _ _ _ _ _⟩
   simp only [List.nil_append,List.cons_append]
   apply aP.step
   case aB=>
    intro β A w' hβ hC hO hD
    simp [au,ah,aj,Act.eval,Region.binds] at hD
    obtain ⟨⟨NW,M8,D5,yt⟩,-⟩:=hD
    simp [go_sem,gd,Oper.wp,D5]
    refine (dJ [bC (mean p (j:Int) h.nm) [8],nest true,(iN (f h.nm.toList))] w' _ _ (by simp [maxLen]) yt).mono ?_
    rintro e' w2 ⟨rfl,rfl⟩
    exact ak.mk (aL _) (by simpa using hC) (ah.mk _ _)
   simp only [List.nil_append,List.cons_append]
   apply aP.step
   case aB=>
    intro β A w' hβ hC hO hD
    have e0:=hO 0 (by rfl)
    have e3:=hO 3 (by rfl)
    simp [Act.eval] at e0 e3
    simp [au,ah,aj,Act.eval,Region.binds] at hD
    simp [go_sem,gd,Oper.wp,e0,e3,hD]
    exact ak.mk (aL _) (by simpa using hC) (ah.mk _ _)
   simp only [List.nil_append,List.cons_append]
   intro wz bK
   intro v0 h0 v1 h1 v2 h2 v3 h3 v4 h4 v5 h5 v6 h6 v7 h7 v8 h8 v9 h9 v10 h10 v11 h11 v12 h12 v13 mP v14 lG v15 oJ v16 h16 v17 sj v18 h18 v19 h19 v20 h20 v21 h21 v22 h22 v23 h23 v24 H8 v25 Iz v26 IV v27 h27 v28 Hg v29 IY v30 GX v31 h31 v32 h32 v33 Hy v34 Io v35 I5 v36 J9 v37 h37 v38 BJ
   have hl':v38=_:=BJ
   subst hl'
   clear h0 h1 h2 h3 h4 h5 h6 h7 h8 h9 h10 h11 h12 mP lG oJ h16 sj h18 h19 h20 h21 h22 h23 H8 Iz IV h27 Hg IY GX h31 h32 Hy Io I5 J9 h37 BJ
   refine bM.nil ?_
   have HZ:Hid (MC W bs n f (ow f h.nm.toList) true wz):=Lib.hid (by simpa using bK)
   clear bK
   go_simp
   go_wp2_with fail
   go_ret
   refine sJ ?_ HZ.out HG.out
   rw [← HR.out,hq,ho]
   try rfl
 ·refine mE 35 (MC W bs n f (ow f h.nm.toList)) (fun w w'=>w.grownBy w' (some bs)) [109,110,111,112,113,114,115,116,117,118,119,120,121,122,123,124,125,126,127,128,129,130,131,132,133,134,135,136,137,138,139,140,141,142,143,144,145,146,4] (by kernel_rfl) (by kernel_rfl) (fun _=>aL _) (by rfl) ⟨dI (below_drewN (Below.refl _ _) 1),by simpa using HM.out.next (below_drewN (Below.refl _ _) 1)⟩ ?_
  apply aP.step
  case aB=>
   intro β A w' hβ hC hO hD
   have e0:=hO 0 (by rfl)
   have e3:=hO 3 (by rfl)
   simp [Act.eval] at e0 e3
   simp [au,ah,aj,Act.eval,Region.binds] at hD
   simp [go_sem,gd,Oper.wp,e0,e3,hD]
   exact ak.mk (aL _) (by simpa using hC) (ah.mk _ _)
  apply aP.step
  case aB=>
   intro β A w' hβ hC hO hD
   have e0:=hO 0 (by rfl)
   have e3:=hO 3 (by rfl)
   simp [Act.eval] at e0 e3
   simp [au,ah,aj,Act.eval,Region.binds] at hD
   simp [go_sem,gd,Oper.wp,e0,e3,hD]
   exact ak.mk (aL _) (by simpa using hC) (ah.mk _ _)
  simp only [List.nil_append,List.cons_append]
  apply aP.step
  case aB=>
   intro β A w' hβ hC hO hD
   have e0:=hO 0 (by rfl)
   have e3:=hO 3 (by rfl)
   simp [Act.eval] at e0 e3
   simp [au,ah,aj,Act.eval,Region.binds] at hD
   simp [go_sem,gd,Oper.wp,e0,e3,hD,L2,hC.1]
   exact ak.mk (aL _) (by simpa using hC) (ah.mk _ _)
  simp only [List.nil_append,List.cons_append]
  refine aP.some (fun v w'=> ∃b,b≠bs∧v= .slice (some ⟨b,0,none⟩) 1 1∧eD w' w'.heap.size [8] (some ⟨b,0,none⟩) 0) ?_ ?_ ?_
  ·rintro v w w' hle ⟨b,hbn,rfl,hin⟩
   exact ⟨b,hbn,rfl,eD.grow hbn hle hin⟩
  ·intro β A w' hβ hC hO hD
   simp [go_sem,gd,Oper.wp]
   exact ak.mk (d:=_) (v:= .slice (some ⟨_,0,none⟩) 1 1) (dI (ay _ _)) (by simpa using hC.below (ay _ _)) ⟨_,by have:=hC.2.lt; omega,rfl,fH _ 8 _⟩
  simp only [List.nil_append,List.cons_append]
  apply aP.step
  case aB=>
   intro β A w' hβ hC hO hD
   simp [au,ah,aj,Act.eval,Region.binds] at hD
   obtain ⟨Ev,Eo,Nw,KM,Ed,xG⟩:=hD
   simp [go_sem,gd,Oper.wp,Ev,Eo,Ed]
   refine (iC p w' aC (some ⟨b0,oC,none⟩) aA av _ aJ _ aI bs bt bc h.nm [8] _ 1 hi (by decide) (HP.out _ hC.1) xG (HK.out _ hC.1)).mono ?_
   rintro e' w2 ⟨rfl,hb⟩
   exact ak.mk (dI hb) (by simpa using hC.below hb) (ah.mk _ _)
  simp only [List.nil_append,List.cons_append]
  apply aP.step
  case aB=>
   intro β A w' hβ hC hO hD
   have e0:=hO 0 (by rfl)
   have e3:=hO 3 (by rfl)
   simp [Act.eval] at e0 e3
   simp [au,ah,aj,Act.eval,Region.binds] at hD
   simp [go_sem,gd,Oper.wp,e0,e3,hD]
   exact ak.mk (aL _) (by simpa using hC) (ah.mk _ _)
  simp only [List.nil_append,List.cons_append]
  refine aP.some (fun v w'=> ∃b,b≠bs∧v= .slice (some ⟨b,0,none⟩) 3 3∧eD w' w'.heap.size [7,8,3] (some ⟨b,0,none⟩) 0) ?_ ?_ ?_
  ·rintro v w w' hle ⟨b,hbn,rfl,hin⟩
   exact ⟨b,hbn,rfl,eD.grow hbn hle hin⟩
  ·intro β A w' hβ hC hO hD
   simp [go_sem,gd,Oper.wp]
   exact ak.mk (d:=_) (v:= .slice (some ⟨_,0,none⟩) 3 3) (dI (ay _ _)) (by simpa using hC.below (ay _ _)) ⟨_,by have:=hC.2.lt; omega,rfl,mH _ 7 8 3 _⟩
  simp only [List.nil_append,List.cons_append]
  apply aP.step
  case aB=>
   intro β A w' hβ hC hO hD
   simp [au,ah,aj,Act.eval,Region.binds] at hD
   obtain ⟨E5,⟨Ot,LB,CW,wZ⟩,-⟩:=hD
   simp [go_sem,gd,Oper.wp,E5,CW]
   refine (hq ▸ gI p w' aC (some ⟨b0,oC,none⟩) aA av (j:Int) aJ aI bs bt bc ar [7,8,3] _ 3 (by decide) wZ dw.out (dG.out _ hC.1) (HK.out _ hC.1)).mono ?_
   rintro e' w2 ⟨rfl,hb⟩
   exact ak.mk (dI hb) (by simpa using hC.below hb) (ah.mk _ _)
  simp only [List.nil_append,List.cons_append]
  apply aP.step
  case aB=>
   intro β A w' hβ hC hO hD
   have e0:=hO 0 (by rfl)
   have e3:=hO 3 (by rfl)
   simp [Act.eval] at e0 e3
   simp [au,ah,aj,Act.eval,Region.binds] at hD
   simp [go_sem,gd,Oper.wp,e0,e3,hD]
   exact ak.mk (aL _) (by simpa using hC) (ah.mk _ _)
  simp only [List.nil_append,List.cons_append]
  refine aP.step (v:=undef) ?_ ?_
  ·intro β A w' hβ hC hO hD
   simp [au,ah,aj,Act.eval,Region.binds] at hD
   simp [gd,Act.eval,hD]
   first | exact ah.mk _ _ | exact ⟨by rfl,ah.mk _ _⟩
  simp only [List.nil_append,List.cons_append]
  refine aP.step (v:=undef) ?_ ?_
  ·intro β A w' hβ hC hO hD
   simp [au,ah,aj,Act.eval,Region.binds] at hD
   simp [gd,Act.eval,hD]
   first | exact ah.mk _ _ | exact ⟨by rfl,ah.mk _ _⟩
  simp only [List.nil_append,List.cons_append]
  refine aP.step (v:=undef) ?_ ?_
  ·intro β A w' hβ hC hO hD
   simp [au,ah,aj,Act.eval,Region.binds] at hD
   simp [gd,Act.eval,hD]
   first | exact ah.mk _ _ | exact ⟨by rfl,ah.mk _ _⟩
  simp only [List.nil_append,List.cons_append]
  refine aP.step (v:=undef) ?_ ?_
  ·intro β A w' hβ hC hO hD
   simp [au,ah,aj,Act.eval,Region.binds] at hD
   simp [gd,Act.eval,hD]
   first | exact ah.mk _ _ | exact ⟨by rfl,ah.mk _ _⟩
  simp only [List.nil_append,List.cons_append]
  refine aP.step (v:=undef) ?_ ?_
  ·intro β A w' hβ hC hO hD
   simp [au,ah,aj,Act.eval,Region.binds] at hD
   simp [gd,Act.eval,hD]
   first | exact ah.mk _ _ | exact ⟨by rfl,ah.mk _ _⟩
  simp only [List.nil_append,List.cons_append]
  apply aP.step
  case aB=>
   intro β A w' hβ hC hO hD
   have e0:=hO 0 (by rfl)
   have e3:=hO 3 (by rfl)
   simp [Act.eval] at e0 e3
   simp [au,ah,aj,Act.eval,Region.binds] at hD
   simp [go_sem,gd,Oper.wp,e0,e3,hD]
   exact ak.mk (aL _) (by simpa using hC) (ah.mk _ _)
  simp only [List.nil_append,List.cons_append]
  apply aP.step
  case aB=>
   intro β A w' hβ hC hO hD
   have e0:=hO 0 (by rfl)
   have e3:=hO 3 (by rfl)
   simp [Act.eval] at e0 e3
   simp [au,ah,aj,Act.eval,Region.binds] at hD
   simp [go_sem,gd,Oper.wp,e0,e3,hD]
   exact ak.mk (aL _) (by simpa using hC) (ah.mk _ _)
  simp only [List.nil_append,List.cons_append]
  refine aP.step (v:=undef) ?_ ?_
  ·intro β A w' hβ hC hO hD
   simp [au,ah,aj,Act.eval,Region.binds] at hD
   simp [gd,Act.eval,hD]
   first | exact ah.mk _ _ | exact ⟨by rfl,ah.mk _ _⟩
  simp only [List.nil_append,List.cons_append]
  refine aP.step (v:=undef) ?_ ?_
  ·intro β A w' hβ hC hO hD
   simp [au,ah,aj,Act.eval,Region.binds] at hD
   simp [gd,Act.eval,hD]
   first | exact ah.mk _ _ | exact ⟨by rfl,ah.mk _ _⟩
  simp only [List.nil_append,List.cons_append]
  refine aP.step (v:=undef) ?_ ?_
  ·intro β A w' hβ hC hO hD
   simp [au,ah,aj,Act.eval,Region.binds] at hD
   simp [gd,Act.eval,hD]
   first | exact ah.mk _ _ | exact ⟨by rfl,ah.mk _ _⟩
  simp only [List.nil_append,List.cons_append]
  refine aP.step (v:=undef) ?_ ?_
  ·intro β A w' hβ hC hO hD
   simp [au,ah,aj,Act.eval,Region.binds] at hD
   simp [gd,Act.eval,hD]
   first | exact ah.mk _ _ | exact ⟨by rfl,ah.mk _ _⟩
  simp only [List.nil_append,List.cons_append]
  refine aP.step (v:=undef) ?_ ?_
  ·intro β A w' hβ hC hO hD
   simp [au,ah,aj,Act.eval,Region.binds] at hD
   simp [gd,Act.eval,hD]
   first | exact ah.mk _ _ | exact ⟨by rfl,ah.mk _ _⟩
  simp only [List.nil_append,List.cons_append]
  refine aP.step (v:=undef) ?_ ?_
  ·intro β A w' hβ hC hO hD
   simp [au,ah,aj,Act.eval,Region.binds] at hD
   simp [gd,Act.eval,hD]
   first | exact ah.mk _ _ | exact ⟨by rfl,ah.mk _ _⟩
  simp only [List.nil_append,List.cons_append]
  refine aP.step (v:=undef) ?_ ?_
  ·intro β A w' hβ hC hO hD
   simp [au,ah,aj,Act.eval,Region.binds] at hD
   simp [gd,Act.eval,hD]
   first | exact ah.mk _ _ | exact ⟨by rfl,ah.mk _ _⟩
  simp only [List.nil_append,List.cons_append]
  refine aP.step (v:=undef) ?_ ?_
  ·intro β A w' hβ hC hO hD
   simp [au,ah,aj,Act.eval,Region.binds] at hD
   simp [gd,Act.eval,hD]
   first | exact ah.mk _ _ | exact ⟨by rfl,ah.mk _ _⟩
  simp only [List.nil_append,List.cons_append]
  refine aP.step (v:=undef) ?_ ?_
  ·intro β A w' hβ hC hO hD
   simp [au,ah,aj,Act.eval,Region.binds] at hD
   simp [gd,Act.eval,hD]
   first | exact ah.mk _ _ | exact ⟨by rfl,ah.mk _ _⟩
  simp only [List.nil_append,List.cons_append]
  refine aP.step (v:=undef) ?_ ?_
  ·intro β A w' hβ hC hO hD
   simp [au,ah,aj,Act.eval,Region.binds] at hD
   simp [gd,Act.eval,hD]
   first | exact ah.mk _ _ | exact ⟨by rfl,ah.mk _ _⟩
  simp only [List.nil_append,List.cons_append]
  refine aP.step (v:=undef) ?_ ?_
  ·intro β A w' hβ hC hO hD
   simp [au,ah,aj,Act.eval,Region.binds] at hD
   simp [gd,Act.eval,hD]
   first | exact ah.mk _ _ | exact ⟨by rfl,ah.mk _ _⟩
  simp only [List.nil_append,List.cons_append]
  apply aP.step
  case aB=>
   intro β A w' hβ hC hO hD
   have e0:=hO 0 (by rfl)
   have e3:=hO 3 (by rfl)
   simp [Act.eval] at e0 e3
   simp [au,ah,aj,Act.eval,Region.binds] at hD
   simp [go_sem,gd,Oper.wp,e0,e3,hD]
   exact ak.mk (aL _) (by simpa using hC) (ah.mk _ _)
  simp only [List.nil_append,List.cons_append]
  apply aP.step
  case aB=>
   intro β A w' hβ hC hO hD
   simp [au,ah,aj,Act.eval,Region.binds] at hD
   simp [go_sem,gd,Oper.wp,hD]
   refine (dK true w').mono ?_
   rintro e' w2 ⟨rfl,rfl⟩
   exact ak.mk (aL _) (by simpa using hC) (ah.mk _ _)
  simp only [List.nil_append,List.cons_append]
  apply aP.step
  case aB=>
   intro β A w' hβ hC hO hD
   have e0:=hO 0 (by rfl)
   have e3:=hO 3 (by rfl)
   simp [Act.eval] at e0 e3
   simp [au,ah,aj,Act.eval,Region.binds] at hD
   simp [go_sem,gd,Oper.wp,e0,e3,hD]
   exact ak.mk (aL _) (by simpa using hC) (ah.mk _ _)
  simp only [List.nil_append,List.cons_append]
  apply aP.step
  case aB=>
   intro β A w' hβ hC hO hD
   have e0:=hO 0 (by rfl)
   have e3:=hO 3 (by rfl)
   simp [Act.eval] at e0 e3
   simp [au,ah,aj,Act.eval,Region.binds] at hD
   simp [go_sem,gd,Oper.wp,e0,e3,hD]
   exact ak.mk (aL _) (by simpa using hC) (ah.mk _ _)
  simp only [List.nil_append,List.cons_append]
  apply aP.step
  case aB=>
   intro β A w' hβ hC hO hD
   have e0:=hO 0 (by rfl)
   have e3:=hO 3 (by rfl)
   simp [Act.eval] at e0 e3
   simp [au,ah,aj,Act.eval,Region.binds] at hD
   simp [go_sem,gd,Oper.wp,e0,e3,hD]
   exact ak.mk (aL _) (by simpa using hC) (ah.mk _ _)
  simp only [List.nil_append,List.cons_append]
  apply aP.step
  case aB=>
   intro β A w' hβ hC hO hD
   have e0:=hO 0 (by rfl)
   have e3:=hO 3 (by rfl)
   simp [Act.eval] at e0 e3
   simp [au,ah,aj,Act.eval,Region.binds] at hD
   simp [go_sem,gd,Oper.wp,e0,e3,hD,LM,hC.1]
   exact ak.mk (aL _) (by simpa using hC) (ah.mk _ _)
  simp only [List.nil_append,List.cons_append]
  apply aP.step
  case aB=>
   intro β A w' hβ hC hO hD
   have e0:=hO 0 (by rfl)
   have e3:=hO 3 (by rfl)
   simp [Act.eval] at e0 e3
   simp [au,ah,aj,Act.eval,Region.binds] at hD
   simp [go_sem,gd,Oper.wp,e0,e3,hD]
   exact ak.mk (aL _) (by simpa using hC) (ah.mk _ _)
  simp only [List.nil_append,List.cons_append]
  apply aP.step
  case aB=>
   intro β A w' hβ hC hO hD
   have e0:=hO 0 (by rfl)
   have e3:=hO 3 (by rfl)
   simp [Act.eval] at e0 e3
   simp [au,ah,aj,Act.eval,Region.binds] at hD
   simp [go_sem,gd,Oper.wp,e0,e3,hD,L2,hC.1]
   exact ak.mk (aL _) (by simpa using hC) (ah.mk _ _)
  simp only [List.nil_append,List.cons_append]
  apply aP.step
  case aB=>
   intro β A w' hβ hC hO hD
   obtain rfl:=hβ (by simp)
   simp [au,ah,aj,Act.eval,Region.binds] at hD
   simp [go_sem,gd,Oper.wp,hD]
   refine (wm h.nm w' bs n f HN.out Ja.out (by simpa using hC.2)).mono ?_
   rintro e' w2 ⟨rfl,hm2,hg2⟩
   exact ak.mk hg2 ⟨nA hC.1 hg2,by simpa using hm2⟩ (ah.mk _ _)
  simp only [List.nil_append,List.cons_append]
  refine aP.some (fun v w'=> ∃b,b≠bs∧v= .slice (some ⟨b,0,none⟩) 3 3∧eD w' w'.heap.size [bC (mean p (j:Int) h.nm) [8],nest true,(iN (f h.nm.toList))] (some ⟨b,0,none⟩) 0) ?_ ?_ ?_
  ·rintro v w w' hle ⟨b,hbn,rfl,hin⟩
   exact ⟨b,hbn,rfl,eD.grow hbn hle hin⟩
  ·intro β A w' hβ hC hO hD
   simp [au,ah,aj,Act.eval,Region.binds] at hD
   simp [go_sem,gd,Oper.wp,hD]
   exact ak.mk (d:=_) (v:= .slice (some ⟨_,0,none⟩) 3 3) (dI (ay _ _)) (by simpa using hC.below (ay _ _)) ⟨_,by have:=hC.2.lt; omega,rfl,mH _ _ _ _ _⟩
  simp only [List.nil_append,List.cons_append]
  apply aP.step
  case aB=>
   intro β A w' hβ hC hO hD
   simp [au,ah,aj,Act.eval,Region.binds] at hD
   obtain ⟨⟨NW,M8,D5,yt⟩,-⟩:=hD
   simp [go_sem,gd,Oper.wp,D5]
   refine (dJ [bC (mean p (j:Int) h.nm) [8],nest true,(iN (f h.nm.toList))] w' _ _ (by simp [maxLen]) yt).mono ?_
   rintro e' w2 ⟨rfl,rfl⟩
   exact ak.mk (aL _) (by simpa using hC) (ah.mk _ _)
  simp only [List.nil_append,List.cons_append]
  apply aP.step
  case aB=>
   intro β A w' hβ hC hO hD
   have e0:=hO 0 (by rfl)
   have e3:=hO 3 (by rfl)
   simp [Act.eval] at e0 e3
   simp [au,ah,aj,Act.eval,Region.binds] at hD
   simp [go_sem,gd,Oper.wp,e0,e3,hD]
   exact ak.mk (aL _) (by simpa using hC) (ah.mk _ _)
  simp only [List.nil_append,List.cons_append]
  intro wz bK
  intro v0 h0 v1 h1 v2 h2 v3 h3 v4 h4 v5 h5 v6 h6 v7 h7 v8 h8 v9 h9 v10 h10 v11 h11 v12 h12 v13 mP v14 lG v15 oJ v16 h16 v17 sj v18 h18 v19 h19 v20 h20 v21 h21 v22 h22 v23 h23 v24 H8 v25 Iz v26 IV v27 h27 v28 Hg v29 IY v30 GX v31 h31 v32 h32 v33 Hy v34 Io v35 I5 v36 J9 v37 h37 v38 BJ
  have hl':v38=_:=BJ
  subst hl'
  clear h0 h1 h2 h3 h4 h5 h6 h7 h8 h9 h10 h11 h12 mP lG oJ h16 sj h18 h19 h20 h21 h22 h23 H8 Iz IV h27 Hg IY GX h31 h32 Hy Io I5 J9 h37 BJ
  refine bM.nil ?_
  have HZ:Hid (MC W bs n f (ow f h.nm.toList) true wz):=Lib.hid (by simpa using bK)
  clear bK
  go_simp
  go_wp2_with fail
  go_ret
  refine sJ ?_ HZ.out HG.out
  rw [← HR.out,hq]
  try rfl
end
end Go.Proofs.YtnknfoibmgphnaaDoor
end
