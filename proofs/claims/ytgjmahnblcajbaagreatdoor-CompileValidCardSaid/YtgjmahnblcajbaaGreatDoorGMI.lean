/- Contract of the checker's statement at set. And what hangs on it. -/
import Derived.Test.YtgjmahnblcajbaaGreatDoorGMF
set_option linter.unusedSimpArgs false
set_option linter.unusedVariables false
set_option maxHeartbeats 40000000
set_option maxRecDepth 1000000
namespace Go.Proofs.YtgjmahnblcajbaaGreatDoor
open Go.RowKit
open Md
theorem uV {b:Nat} {w1 w2 w3:World} (h:w1.grownBy w2 (some b)) (k:w2.grownBy w3 (some b)):w1.grownBy w3 (some b):=
 ⟨k.os.trans h.os,k.tape.trans h.tape,k.output.trans h.output,Nat.le_trans h.size k.size,fun j hj hne=>(k.block j (Nat.lt_of_lt_of_le hj h.size) hne).trans (h.block j hj hne)⟩
theorem fP {b:Nat} {w w':World} (h:Below w.heap.size w w'):w.grownBy w' (some b):=⟨h.os,h.tape,h.output,h.size,fun k hk _=>h.block k hk⟩
theorem eG {b:Nat} (w:World):w.grownBy w (some b):=fP (Below.refl _ _)
def MC (W:World) (bm n:Nat) (f f':List UInt8->Bool) (β:Bool) (w':World):Prop:=W.grownBy w' (some bm)∧gT w' bm (n + β.toNat) (if β then f' else f)
theorem MC.below {W:World} {bm n:Nat} {f f':List UInt8->Bool} {β:Bool} {w' w2:World} (h:MC W bm n f f' β w') (hb:Below w'.heap.size w' w2):MC W bm n f f' β w2:=⟨uV h.1 (fP hb),h.2.next hb⟩
theorem dS.grow {w w':World} {b bm:Nat} (hb:b≠bm) (hg:w.grownBy w' (some bm)): ∀ {l:List Int} {k:Nat},dS w w.heap.size l (some ⟨b,0,none⟩) k->dS w' w'.heap.size l (some ⟨b,0,none⟩) k
 | [],_,_=>trivial
 | _ ::_,_,⟨⟨b1,off,e,hB,c⟩,hr⟩=>by injection e with e; injection e with e1 e2; subst e1; subst e2;exact ⟨⟨b,0,rfl,Nat.lt_of_lt_of_le hB hg.size,(World.cell?_of_block (hg.block b hB (by simp; exact hb))).trans c⟩,dS.grow hb hg hr⟩
theorem Sit.mc {w W w':World} {fs:List (Nat × Nat × Value)} {bm:Nat} (h:Sit w W fs) (hg:W.grownBy w' (some bm)) (hne: ∀f ∈ fs,f.1≠bm):Holds w' fs:=h.2.grown hg hne
def JE (v:Int) (w:World) (bm n:Nat) (f:List UInt8->Bool) (e:Ending) (w':World):Prop:=e= .returned (.int .i64 v)∧gT w' bm n f∧w.grownBy w' (some bm)
theorem Jh {v:Value} {res:Int} {w W wz:World} {bm n:Nat} {f f':List UInt8->Bool} (h:v= .int .i64 res) (hz:MC W bm n f f' true wz) (hg: ∀w',W.grownBy w' (some bm)->w.grownBy w' (some bm)):JE res w bm (n + 1) f' (.returned v) wz:=
 ⟨by rw [h],hz.2,hg _ hz.1⟩
theorem Ut (w:World) (a b c d:Int) (t:TypeId):dS (w.alloc (.cells #[.int .i64 a,.int .i64 b,.int .i64 c,.int .i64 d] t)) (w.alloc (.cells #[.int .i64 a,.int .i64 b,.int .i64 c,.int .i64 d] t)).heap.size [a,b,c,d] (some ⟨w.heap.size,0,none⟩) 0:=
 ⟨⟨_,_,rfl,by simp,bS w [.int .i64 a,.int .i64 b,.int .i64 c,.int .i64 d] t 0⟩,⟨_,_,rfl,by simp,bS w [.int .i64 a,.int .i64 b,.int .i64 c,.int .i64 d] t 1⟩,⟨_,_,rfl,by simp,bS w [.int .i64 a,.int .i64 b,.int .i64 c,.int .i64 d] t 2⟩,⟨_,_,rfl,by simp,bS w [.int .i64 a,.int .i64 b,.int .i64 c,.int .i64 d] t 3⟩,trivial⟩
section
variable (p:Pr) (w:World) (aG aH:Option Addr) (aB aD:Nat) (i:Int) (cO:Option Addr) (bC bs bt bc:Nat)
theorem Wh (h:aX) (b e ar:aJ) (s:Sl) (hi:bV i) (hp: ∀w',w.grownBy w' (some bt)->p.At w' aG aH) (hok:uP h b e) (hex: ∀w',w.grownBy w' (some bt)->h.aO.At w' w'.heap.size s.dZ 0) (dH: ∀w',w.grownBy w' (some bt)->cB w') (har:ar.len<=maxLen) (hat: ∀w',w.grownBy w' (some bt)->ar.At w' w'.heap.size cO 0) (hh:Holds w (qM bc p aG aH aB aD i cO ar.len bC bs bt)) (hbc:bc≠bt) (n:Nat) (f:List UInt8->Bool) (hn:n < maxLen) (hmap:gT w bt n f) (hop:h.op=14):
 Calls Tryz.prog 112 #[.pointer (some ⟨bc,0,none⟩),fK h b e s] w (JE (gu [dF (mean p i h.nm) [7],nest (gH ar [7,3]),(mX (f h.nm.toList)),mI p i h.dP h.xn h.dO h.aO]) w bt (n + 1) (wT f h.nm.toList)):=by
 have HH:=ah (show Sit w w _ from ⟨Below.refl _ _,hh⟩);obtain ⟨dw,bJ,dZ,dI,cK,aZ,fF,dX⟩:=s;have hxk:=hok.2.2.2.2.2.1;have hns:=hok.2.2.1;generalize hres:gu [dF (mean p i h.nm) [7],nest (gH ar [7,3]),(mX (f h.nm.toList)),mI p i h.dP h.xn h.dO h.aO]=res;have HR:=ah hres;have dW:=ah hop;have HNS:=ah hns;have HN:=ah hn;have hlt:=hmap.lt;clear hres hop hn hns;unfold fK;dsimp only;dsimp only at hex;go_enter Tryz.func112,Tryz.ntmps112;go_upto_region 1 with fail;generalize hW:World.alloc w _=W;generalize Value.agg #[_,_,_,_,_,_,_,_,_,_,_]=a0;have HX:aj (Sit w W (yH w.heap.size h b e ⟨dw,bJ,dZ,dI,cK,aZ,fF,dX⟩ (qM bc p aG aH aB aD i cO ar.len bC bs bt))):=ah (by rw [<- hW]; exact HH.o.Aq rfl _ _ _ _ _ _ _ _ _ _ _ _);clear hW HH;have HG:aj (∀w',W.grownBy w' (some bt)->w.grownBy w' (some bt)):=ah (fun w' hg=>uV (fP HX.o.1) hg);have HP:=ah (fun w' hg=>hp w' (HG.o w' hg));have gV:=ah (fun w' hg=>dH w' (HG.o w' hg));have Mc:=ah (fun w' hg=>hex w' (HG.o w' hg));have qC:=ah (fun w' hg=>hat w' (HG.o w' hg));have kX:=ah har;have HM:=ah (hmap.next HX.o.1);have HF:aj (∀w',W.grownBy w' (some bt)->Holds w' (yH w.heap.size h b e ⟨dw,bJ,dZ,dI,cK,aZ,fF,dX⟩ (qM bc p aG aH aB aD i cO ar.len bC bs bt))):=ah (fun w' hg=>HX.o.mc hg (by intro x hx;simp only [yH,qM,List.mem_cons,List.not_mem_nil,or_false] at hx;rcases hx with rfl | rfl | rfl | rfl | rfl | rfl | rfl | rfl | rfl | rfl | rfl | rfl | rfl | rfl | rfl | rfl | rfl <;> first | exact hbc | (show w.heap.size≠bt; omega)));have HK:aj (∀w',W.grownBy w' (some bt)->Holds w' (qM bc p aG aH aB aD i cO ar.len bC bs bt)):=ah (fun w' hg=>(HF.o w' hg).2.2.2.2.2.2.2.2.2.2.2);clear hp dH hh hat har hex hmap hlt hbc;have L0: ∀w',W.grownBy w' (some bt)->w'.cell? ⟨w.heap.size,0,none⟩=some (.int .i64 h.op):=fun w' hb=>(HF.o w' hb).1.2;have L2: ∀w',W.grownBy w' (some bt)->w'.cell? ⟨w.heap.size,2,none⟩=some (.string h.nm):=fun w' hb=>(HF.o w' hb).2.2.1.2;have L5: ∀w',W.grownBy w' (some bt)->w'.cell? ⟨w.heap.size,5,none⟩=some (.int .i64 h.dP):=fun w' hb=>(HF.o w' hb).2.2.2.2.2.1.2;have L6: ∀w',W.grownBy w' (some bt)->w'.cell? ⟨w.heap.size,6,none⟩=some (.int .i64 h.xn):=fun w' hb=>(HF.o w' hb).2.2.2.2.2.2.1.2;have L7: ∀w',W.grownBy w' (some bt)->w'.cell? ⟨w.heap.size,7,none⟩=some (.string h.dO):=fun w' hb=>(HF.o w' hb).2.2.2.2.2.2.2.1.2;have L8: ∀w',W.grownBy w' (some bt)->w'.cell? ⟨w.heap.size,8,none⟩=some (.slice dZ h.aO.len dI):=fun w' hb=>(HF.o w' hb).2.2.2.2.2.2.2.2.1.2;have LM: ∀w',W.grownBy w' (some bt)->w'.cell? ⟨bc,5,none⟩=some (.map (some bt)):=fun w' hb=>(HK.o w' hb).2.2.2.2.2.1.2;have l0:=L0 W (eG _);have hop:=dW.o;obtain ⟨g1,g2,g3,g4,g5,g6,g7,g8,g9,g10,g11,g12,g13,g14,g15⟩:=ao5 hop;clear hop l0;have l0:=L0 W (eG _);go_upto_region 25 with fail;refine vQ 15 (MC W bt n f (wT f h.nm.toList)) (fun w w'=>w.grownBy w' (some bt)) [169,170,171,172,173,174,175,176,177,178,179,180,181,182,183,184,185,186,187,188,189,190,4] (by kernel_rfl) (by kernel_rfl) (fun _=>eG _) (by rfl) ⟨fP (below_drewN (Below.refl _ _) 1),by simpa using HM.o.next (below_drewN (Below.refl _ _) 1)⟩ ?_
 iterate 3
  apply dA.step
  case aP=>intro β A w' hβ hC hO hD;have e0:=hO 0 (by rfl);have e3:=hO 3 (by rfl);simp [Act.eval] at e0 e3;simp [Act.eval] at hD;simp [go_sem,gd,Oper.wp,e0,e3,hD,L2,hC.1];exact aI.mk (eG _) (by simpa using hC) (bG.mk _ _)
 refine dA.some (fun v w'=> ∃b,b≠bt∧v= .slice (some ⟨b,0,none⟩) 1 1∧dS w' w'.heap.size [7] (some ⟨b,0,none⟩) 0) ?_ ?_ ?_
 ·rintro v w w' hle ⟨b,hbn,rfl,hin⟩;exact ⟨b,hbn,rfl,dS.grow hbn hle hin⟩
 ·intro β A w' hβ hC hO hD;simp [go_sem,gd,Oper.wp];exact aI.mk (d:=_) (v:= .slice (some ⟨_,0,none⟩) 1 1) (fP (au _ _)) (by simpa using hC.below (au _ _)) ⟨_,by have:=hC.2.lt; omega,rfl,gG _ 7 _⟩
 apply dA.step
 case aP=>intro β A w' hβ hC hO hD;simp [Act.eval] at hD;obtain ⟨aJ2,aJ3,ba4,aZ5,aJ4,aj8⟩:=hD;simp [go_sem,gd,Oper.wp,aJ2,aJ3,aJ4];refine (iY p w' aG aH aB aD _ cO _ bC bs bt bc h.nm [7] _ 1 hi (by decide) (HP.o _ hC.1) aj8 (HK.o _ hC.1)).mono ?_;rintro e' w2 ⟨rfl,hb⟩;exact aI.mk (fP hb) (by simpa using hC.below hb) (bG.mk _ _)
 apply dA.step
 case aP=>intro β A w' hβ hC hO hD;have e0:=hO 0 (by rfl);have e3:=hO 3 (by rfl);simp [Act.eval] at e0 e3;simp [Act.eval] at hD;simp [go_sem,gd,Oper.wp,e0,e3,hD];exact aI.mk (eG _) (by simpa using hC) (bG.mk _ _)
 refine dA.some (fun v w'=> ∃b,b≠bt∧v= .slice (some ⟨b,0,none⟩) 2 2∧dS w' w'.heap.size [7,3] (some ⟨b,0,none⟩) 0) ?_ ?_ ?_
 ·rintro v w w' hle ⟨b,hbn,rfl,hin⟩;exact ⟨b,hbn,rfl,dS.grow hbn hle hin⟩
 ·intro β A w' hβ hC hO hD;simp [go_sem,gd,Oper.wp];exact aI.mk (d:=_) (v:= .slice (some ⟨_,0,none⟩) 2 2) (fP (au _ _)) (by simpa using hC.below (au _ _)) ⟨_,by have:=hC.2.lt; omega,rfl,jw _ 7 3 _⟩
 apply dA.step
 case aP=>intro β A w' hβ hC hO hD;simp [Act.eval] at hD;obtain ⟨aJ5,⟨ba5,aZ6,aJ6,aj9⟩,-⟩:=hD;simp [go_sem,gd,Oper.wp,aJ5,aJ6];refine (jk p w' aG aH aB aD _ cO bC bs bt bc ar [7,3] _ 2 (by decide) aj9 kX.o (qC.o _ hC.1) (HK.o _ hC.1)).mono ?_;rintro e' w2 ⟨rfl,hb⟩;exact aI.mk (fP hb) (by simpa using hC.below hb) (bG.mk _ _)
 apply dA.step
 case aP=>intro β A w' hβ hC hO hD;simp [Act.eval] at hD;simp [go_sem,gd,Oper.wp,hD];refine (jH (gH ar [7,3]) w').mono ?_;rintro e' w2 ⟨rfl,rfl⟩;exact aI.mk (eG _) (by simpa using hC) (bG.mk _ _)
 iterate 6
  apply dA.step
  case aP=>intro β A w' hβ hC hO hD;have e0:=hO 0 (by rfl);have e3:=hO 3 (by rfl);simp [Act.eval] at e0 e3;simp [Act.eval] at hD;simp [go_sem,gd,Oper.wp,e0,e3,hD,LM,hC.1,L2];exact aI.mk (eG _) (by simpa using hC) (bG.mk _ _)
 apply dA.step
 case aP=>intro β A w' hβ hC hO hD;obtain rfl:=hβ (by simp);simp [Act.eval] at hD;simp [go_sem,gd,Oper.wp,hD];refine (Om h.nm w' bt n f HN.o HNS.o (by simpa using hC.2)).mono ?_;rintro e' w2 ⟨rfl,hm2,hg2⟩;exact aI.mk hg2 ⟨uV hC.1 hg2,by simpa using hm2⟩ (bG.mk _ _)
 iterate 3
  apply dA.step
  case aP=>intro β A w' hβ hC hO hD;have e0:=hO 0 (by rfl);have e3:=hO 3 (by rfl);simp [Act.eval] at e0 e3;simp [Act.eval] at hD;simp [go_sem,gd,Oper.wp,e0,e3,hD,L5,L6,L7,L8,hC.1];exact aI.mk (eG _) (by simpa using hC) (bG.mk _ _)
 apply dA.step
 case aP=>intro β A w' hβ hC hO hD;simp [Act.eval] at hD;simp [go_sem,gd,Oper.wp,hD];refine (uS p w' aG aH aB aD _ cO _ bC bs bt bc h.dP h.xn h.dO h.aO dZ dI hi (HP.o _ hC.1) hxk (Mc.o _ hC.1) (gV.o _ hC.1) (HK.o _ hC.1)).mono ?_;rintro e' w2 ⟨rfl,hb⟩;exact aI.mk (fP hb) (by simpa using hC.below hb) (bG.mk _ _)
 refine dA.some (fun v w'=> ∃b,b≠bt∧v= .slice (some ⟨b,0,none⟩) 4 4∧dS w' w'.heap.size [dF (mean p i h.nm) [7],nest (gH ar [7,3]),(mX (f h.nm.toList)),mI p i h.dP h.xn h.dO h.aO] (some ⟨b,0,none⟩) 0) ?_ ?_ ?_
 ·rintro v w w' hle ⟨b,hbn,rfl,hin⟩;exact ⟨b,hbn,rfl,dS.grow hbn hle hin⟩
 ·intro β A w' hβ hC hO hD;simp [Act.eval] at hD;simp [go_sem,gd,Oper.wp,hD];exact aI.mk (d:=_) (v:= .slice (some ⟨_,0,none⟩) 4 4) (fP (au _ _)) (by simpa using hC.below (au _ _)) ⟨_,by have:=hC.2.lt; omega,rfl,Ut _ _ _ _ _ _⟩
 apply dA.step
 case aP=>intro β A w' hβ hC hO hD;simp [Act.eval] at hD;obtain ⟨⟨ba6,aZ7,aJ7,ak0⟩,-⟩:=hD;simp [go_sem,gd,Oper.wp,aJ7];refine (iV [dF (mean p i h.nm) [7],nest (gH ar [7,3]),(mX (f h.nm.toList)),mI p i h.dP h.xn h.dO h.aO] w' _ _ (by simp [maxLen]) ak0).mono ?_;rintro e' w2 ⟨rfl,rfl⟩;exact aI.mk (eG _) (by simpa using hC) (bG.mk _ _)
 apply dA.step
 case aP=>intro β A w' hβ hC hO hD;have e0:=hO 0 (by rfl);have e3:=hO 3 (by rfl);simp [Act.eval] at e0 e3;simp [Act.eval] at hD;simp [go_sem,gd,Oper.wp,e0,e3,hD];exact aI.mk (eG _) (by simpa using hC) (bG.mk _ _)
 simp only [gZ];intro wz gy;intro v0 h0 v1 h1 v2 h2 v3 h3 v4 h4 v5 h5 v6 h6 v7 h7 v8 h8 v9 h9 v10 h10 v11 h11 v12 h12 v13 DF v14 uf v15 IQ v16 h16 v17 Ll v18 h18 v19 h19 v20 h20 v21 h21 v22 h22;have hl':v22=_:=h22;subst hl';clear h0 h1 h2 h3 h4 h5 h6 h7 h8 h9 h10 h11 h12 DF uf IQ h16 Ll h18 h19 h20 h21 h22;refine eu.nil ?_;have HZ:aj (MC W bt n f (wT f h.nm.toList) true wz):=ah (by simpa using gy);clear gy;go_simp;go_wp2_with fail;go_ret;refine Jh ?_ HZ.o HG.o;rw [<- HR.o];rfl
end
theorem Xy {w:World} {B b off:Nat} {t:Th} {r:List Th} (h:gF w B (t ::r) (some ⟨b,off,none⟩) 0):w.cell? ⟨b,off,none⟩=some (.string t.nm):=by
 obtain ⟨⟨b1,off1,eZ,dM,cK,aZ,e,-,x0,-⟩,-⟩:=h;injection e with e; injection e with e1 e2; subst e1; subst e2;simpa using x0
section
variable (p:Pr) (w:World) (aG aH:Option Addr) (aB aD:Nat) (cO:Option Addr) (bC bs bt bc:Nat)
theorem Wd (j:Nat) (t t0:Th) (r r0:List Th) (hd:p.ts.drop j=t ::r) (hts:p.ts=t0 ::r0) (h:aX) (b e ar:aJ) (s:Sl) (hi:bV (j:Int)) (hp: ∀w',w.grownBy w' (some bs)->p.At w' aG aH) (hok:uP h b e) (hex: ∀w',w.grownBy w' (some bs)->h.aO.At w' w'.heap.size s.dZ 0) (dH: ∀w',w.grownBy w' (some bs)->cB w') (har:ar.len<=maxLen) (hat: ∀w',w.grownBy w' (some bs)->ar.At w' w'.heap.size cO 0) (hh:Holds w (qM bc p aG aH aB aD (j:Int) cO ar.len bC bs bt)) (hbc:bc≠bs) (n:Nat) (f:List UInt8->Bool) (hn:n < maxLen) (hmap:gT w bs n f) (hop:h.op=12):
 Calls Tryz.prog 112 #[.pointer (some ⟨bc,0,none⟩),fK h b e s] w (JE (gu [dF (mean p (j:Int) h.nm) [8],nest (gH ar [7,8,3] || (h.nm.toList == t.nm.toList || h.nm.toList == t0.nm.toList)),(mX (f h.nm.toList))]) w bs (n + 1) (wT f h.nm.toList)):=by
 have HH:=ah (show Sit w w _ from ⟨Below.refl _ _,hh⟩);obtain ⟨dw,bJ,dZ,dI,cK,aZ,fF,dX⟩:=s;have hxk:=hok.2.2.2.2.2.1;have hns:=hok.2.2.1;generalize hres:gu [dF (mean p (j:Int) h.nm) [8],nest (gH ar [7,8,3] || (h.nm.toList == t.nm.toList || h.nm.toList == t0.nm.toList)),(mX (f h.nm.toList))]=res;have HR:=ah hres;have dW:=ah hop;have HNS:=ah hns;have HN:=ah hn;have hlt:=hmap.lt;clear hres hop hn hns;unfold fK;dsimp only;dsimp only at hex;go_enter Tryz.func112,Tryz.ntmps112;go_upto_region 1 with fail;generalize hW:World.alloc w _=W;generalize Value.agg #[_,_,_,_,_,_,_,_,_,_,_]=a0;have HX:aj (Sit w W (yH w.heap.size h b e ⟨dw,bJ,dZ,dI,cK,aZ,fF,dX⟩ (qM bc p aG aH aB aD (j:Int) cO ar.len bC bs bt))):=ah (by rw [<- hW]; exact HH.o.Aq rfl _ _ _ _ _ _ _ _ _ _ _ _);clear hW HH;have HG:aj (∀w',W.grownBy w' (some bs)->w.grownBy w' (some bs)):=ah (fun w' hg=>uV (fP HX.o.1) hg);have HP:=ah (fun w' hg=>hp w' (HG.o w' hg));have gV:=ah (fun w' hg=>dH w' (HG.o w' hg));have Mc:=ah (fun w' hg=>hex w' (HG.o w' hg));have qC:=ah (fun w' hg=>hat w' (HG.o w' hg));have kX:=ah har;have HM:=ah (hmap.next HX.o.1);have HF:aj (∀w',W.grownBy w' (some bs)->Holds w' (yH w.heap.size h b e ⟨dw,bJ,dZ,dI,cK,aZ,fF,dX⟩ (qM bc p aG aH aB aD (j:Int) cO ar.len bC bs bt))):=ah (fun w' hg=>HX.o.mc hg (by intro x hx;simp only [yH,qM,List.mem_cons,List.not_mem_nil,or_false] at hx;rcases hx with rfl | rfl | rfl | rfl | rfl | rfl | rfl | rfl | rfl | rfl | rfl | rfl | rfl | rfl | rfl | rfl | rfl <;> first | exact hbc | (show w.heap.size≠bs; omega)));have HK:aj (∀w',W.grownBy w' (some bs)->Holds w' (qM bc p aG aH aB aD (j:Int) cO ar.len bC bs bt)):=ah (fun w' hg=>(HF.o w' hg).2.2.2.2.2.2.2.2.2.2.2);clear hp dH hh hat har hex hmap hlt hbc;have L0: ∀w',W.grownBy w' (some bs)->w'.cell? ⟨w.heap.size,0,none⟩=some (.int .i64 h.op):=fun w' hb=>(HF.o w' hb).1.2;have L2: ∀w',W.grownBy w' (some bs)->w'.cell? ⟨w.heap.size,2,none⟩=some (.string h.nm):=fun w' hb=>(HF.o w' hb).2.2.1.2;have L5: ∀w',W.grownBy w' (some bs)->w'.cell? ⟨w.heap.size,5,none⟩=some (.int .i64 h.dP):=fun w' hb=>(HF.o w' hb).2.2.2.2.2.1.2;have L6: ∀w',W.grownBy w' (some bs)->w'.cell? ⟨w.heap.size,6,none⟩=some (.int .i64 h.xn):=fun w' hb=>(HF.o w' hb).2.2.2.2.2.2.1.2;have L7: ∀w',W.grownBy w' (some bs)->w'.cell? ⟨w.heap.size,7,none⟩=some (.string h.dO):=fun w' hb=>(HF.o w' hb).2.2.2.2.2.2.2.1.2;have L8: ∀w',W.grownBy w' (some bs)->w'.cell? ⟨w.heap.size,8,none⟩=some (.slice dZ h.aO.len dI):=fun w' hb=>(HF.o w' hb).2.2.2.2.2.2.2.2.1.2;have LM: ∀w',W.grownBy w' (some bs)->w'.cell? ⟨bc,4,none⟩=some (.map (some bs)):=fun w' hb=>(HK.o w' hb).2.2.2.2.1.2;have l0:=L0 W (eG _);have hop:=dW.o;obtain ⟨g1,g2,g3,g4,g5,g6,g7,g8,g9,g10,g11,g12,g13,g14,g15⟩:=an9 hop;clear hop l0;have l0:=L0 W (eG _);go_upto_region 21 with fail;have hpos:0 < p.ts.length:=by rw [hts]; simp
 have au3:(0:Int) < p.ts.length:=by omega
 obtain ⟨b0,GQ,eT⟩: ∃b0 GQ,aH=some ⟨b0,GQ,none⟩:=by have:=(HP.o W (eG _)).2.2.2;rw [hts] at this;obtain ⟨⟨b1,off1,eZ,dM,cK,aZ,e,-⟩,-⟩:=this;exact ⟨b1,off1,e⟩
 subst eT;have LN: ∀w',W.grownBy w' (some bs)->w'.cell? ⟨b0,GQ,none⟩=some (.string t0.nm):=fun w' hb=>by have:=(HP.o w' hb).2.2.2;rw [hts] at this;exact Xy this
 have LT: ∀w',W.grownBy w' (some bs)->w'.cell? ⟨bc,1,none⟩=some (.slice (some ⟨b0,GQ,none⟩) p.ts.length aD):=fun w' hb=>(HK.o w' hb).2.1.2;cases hq:gH ar [7,8,3] <;> cases ho:(h.nm.toList == t.nm.toList)
 all_goals
  refine vQ 35 (MC W bs n f (wT f h.nm.toList)) (fun w w'=>w.grownBy w' (some bs)) [109,110,111,112,113,114,115,116,117,118,119,120,121,122,123,124,125,126,127,128,129,130,131,132,133,134,135,136,137,138,139,140,141,142,143,144,145,146,4] (by kernel_rfl) (by kernel_rfl) (fun _=>eG _) (by rfl) ⟨fP (below_drewN (Below.refl _ _) 1),by simpa using HM.o.next (below_drewN (Below.refl _ _) 1)⟩ ?_
  iterate 3
   apply dA.step
   case aP=>intro β A w' hβ hC hO hD;have e0:=hO 0 (by rfl);have e3:=hO 3 (by rfl);simp [Act.eval] at e0 e3;simp [Act.eval] at hD;simp [go_sem,gd,Oper.wp,e0,e3,hD,L2,hC.1];exact aI.mk (eG _) (by simpa using hC) (bG.mk _ _)
   try simp only [gZ]
  refine dA.some (fun v w'=> ∃b,b≠bs∧v= .slice (some ⟨b,0,none⟩) 1 1∧dS w' w'.heap.size [8] (some ⟨b,0,none⟩) 0) ?_ ?_ ?_
  ·rintro v w w' hle ⟨b,hbn,rfl,hin⟩;exact ⟨b,hbn,rfl,dS.grow hbn hle hin⟩
  ·intro β A w' hβ hC hO hD;simp [go_sem,gd,Oper.wp];exact aI.mk (d:=_) (v:= .slice (some ⟨_,0,none⟩) 1 1) (fP (au _ _)) (by simpa using hC.below (au _ _)) ⟨_,by have:=hC.2.lt; omega,rfl,gG _ 8 _⟩
  simp only [gZ];apply dA.step
  case aP=>intro β A w' hβ hC hO hD;simp [Act.eval] at hD;obtain ⟨aI6,aI7,ba1,aZ2,aI8,aj5⟩:=hD;simp [go_sem,gd,Oper.wp,aI6,aI7,aI8];refine (iY p w' aG (some ⟨b0,GQ,none⟩) aB aD _ cO _ bC bs bt bc h.nm [8] _ 1 hi (by decide) (HP.o _ hC.1) aj5 (HK.o _ hC.1)).mono ?_;rintro e' w2 ⟨rfl,hb⟩;exact aI.mk (fP hb) (by simpa using hC.below hb) (bG.mk _ _)
  simp only [gZ];apply dA.step
  case aP=>intro β A w' hβ hC hO hD;have e0:=hO 0 (by rfl);have e3:=hO 3 (by rfl);simp [Act.eval] at e0 e3;simp [Act.eval] at hD;simp [go_sem,gd,Oper.wp,e0,e3,hD];exact aI.mk (eG _) (by simpa using hC) (bG.mk _ _)
  simp only [gZ];refine dA.some (fun v w'=> ∃b,b≠bs∧v= .slice (some ⟨b,0,none⟩) 3 3∧dS w' w'.heap.size [7,8,3] (some ⟨b,0,none⟩) 0) ?_ ?_ ?_
  ·rintro v w w' hle ⟨b,hbn,rfl,hin⟩;exact ⟨b,hbn,rfl,dS.grow hbn hle hin⟩
  ·intro β A w' hβ hC hO hD;simp [go_sem,gd,Oper.wp];exact aI.mk (d:=_) (v:= .slice (some ⟨_,0,none⟩) 3 3) (fP (au _ _)) (by simpa using hC.below (au _ _)) ⟨_,by have:=hC.2.lt; omega,rfl,yO _ 7 8 3 _⟩
  simp only [gZ];apply dA.step
  case aP=>intro β A w' hβ hC hO hD;simp [Act.eval] at hD;obtain ⟨aI9,⟨ba2,aZ3,aJ0,aj6⟩,-⟩:=hD;simp [go_sem,gd,Oper.wp,aI9,aJ0];refine (hq ▸ jk p w' aG (some ⟨b0,GQ,none⟩) aB aD (j:Int) cO bC bs bt bc ar [7,8,3] _ 3 (by decide) aj6 kX.o (qC.o _ hC.1) (HK.o _ hC.1)).mono ?_;rintro e' w2 ⟨rfl,hb⟩;exact aI.mk (fP hb) (by simpa using hC.below hb) (bG.mk _ _)
  simp only [gZ];apply dA.step
  case aP=>intro β A w' hβ hC hO hD;have e0:=hO 0 (by rfl);have e3:=hO 3 (by rfl);simp [Act.eval] at e0 e3;simp [Act.eval] at hD;simp [go_sem,gd,Oper.wp,e0,e3,hD];exact aI.mk (eG _) (by simpa using hC) (bG.mk _ _)
  simp only [gZ]
  iterate 3
   first
   | (apply dA.step
      case aP=>intro β A w' hβ hC hO hD;have e0:=hO 0 (by rfl);have e3:=hO 3 (by rfl);simp [Act.eval] at e0 e3;simp [Act.eval] at hD;simp [go_sem,gd,Oper.wp,e0,e3,hD,L2,hC.1];exact aI.mk (eG _) (by simpa using hC) (bG.mk _ _))
   | (refine dA.step (v:=undef) ?_ ?_
      ·intro β A w' hβ hC hO hD;simp [Act.eval] at hD;simp [gd,Act.eval,hD]
       first | done | exact bG.mk _ _ | exact ⟨by rfl,bG.mk _ _⟩)
   try simp only [gZ]
  first
  | (apply dA.step
     case aP=>intro β A w' hβ hC hO hD;simp [Act.eval] at hD;simp [go_sem,gd,Oper.wp,hD];refine (KZ p w' aG (some ⟨b0,GQ,none⟩) aB aD cO ar.len bC bs bt bc j t r hd (HP.o _ hC.1) (HK.o _ hC.1)).mono ?_;rintro e' w2 ⟨rfl,hb⟩;exact aI.mk (fP hb) (by simpa using hC.below hb) (bG.mk _ _))
  | (refine dA.step (v:=undef) ?_ ?_
     ·intro β A w' hβ hC hO hD;simp [Act.eval] at hD;simp [gd,Act.eval,hD]
      first | done | exact bG.mk _ _ | exact ⟨by rfl,bG.mk _ _⟩)
  try simp only [gZ]
  iterate 15
   first
   | (apply dA.step
      case aP=>intro β A w' hβ hC hO hD;have e0:=hO 0 (by rfl);have e3:=hO 3 (by rfl);simp [Act.eval] at e0 e3;simp [Act.eval] at hD;simp [go_sem,gd,Oper.wp,e0,e3,hD,ho,L2,hC.1,LT,hpos,au3,LN];exact aI.mk (eG _) (by simpa using hC) (bG.mk _ _))
   | (refine dA.step (v:=undef) ?_ ?_
      ·intro β A w' hβ hC hO hD;simp [Act.eval] at hD;simp [gd,Act.eval,hD]
       first | done | exact bG.mk _ _ | exact ⟨by rfl,bG.mk _ _⟩)
   try simp only [gZ]
  apply dA.step
  case aP=>intro β A w' hβ hC hO hD;simp [Act.eval] at hD;simp [go_sem,gd,Oper.wp,hD];refine (jH _ w').mono ?_;rintro e' w2 ⟨rfl,rfl⟩;exact aI.mk (eG _) (by simpa using hC) (bG.mk _ _)
  simp only [gZ]
  iterate 6
   apply dA.step
   case aP=>intro β A w' hβ hC hO hD;have e0:=hO 0 (by rfl);have e3:=hO 3 (by rfl);simp [Act.eval] at e0 e3;simp [Act.eval] at hD;simp [go_sem,gd,Oper.wp,e0,e3,hD,LM,hC.1,L2];exact aI.mk (eG _) (by simpa using hC) (bG.mk _ _)
   try simp only [gZ]
  apply dA.step
  case aP=>intro β A w' hβ hC hO hD;obtain rfl:=hβ (by simp);simp [Act.eval] at hD;simp [go_sem,gd,Oper.wp,hD];refine (Om h.nm w' bs n f HN.o HNS.o (by simpa using hC.2)).mono ?_;rintro e' w2 ⟨rfl,hm2,hg2⟩;exact aI.mk hg2 ⟨uV hC.1 hg2,by simpa using hm2⟩ (bG.mk _ _)
  simp only [gZ];refine dA.some (fun v w'=> ∃b,b≠bs∧v= .slice (some ⟨b,0,none⟩) 3 3∧dS w' w'.heap.size [dF (mean p (j:Int) h.nm) [8],nest (gH ar [7,8,3] || (h.nm.toList == t.nm.toList || h.nm.toList == t0.nm.toList)),(mX (f h.nm.toList))] (some ⟨b,0,none⟩) 0) ?_ ?_ ?_
  ·rintro v w w' hle ⟨b,hbn,rfl,hin⟩;exact ⟨b,hbn,rfl,dS.grow hbn hle hin⟩
  ·intro β A w' hβ hC hO hD;simp [Act.eval] at hD;simp [go_sem,gd,Oper.wp,hD];exact aI.mk (d:=_) (v:= .slice (some ⟨_,0,none⟩) 3 3) (fP (au _ _)) (by simpa using hC.below (au _ _)) ⟨_,by have:=hC.2.lt; omega,rfl,by rw [hq,ho]; exact yO _ _ _ _ _⟩
  simp only [gZ];apply dA.step
  case aP=>intro β A w' hβ hC hO hD;simp [Act.eval] at hD;obtain ⟨⟨ba3,aZ4,aJ1,aj7⟩,-⟩:=hD;simp [go_sem,gd,Oper.wp,aJ1];refine (iV [dF (mean p (j:Int) h.nm) [8],nest (gH ar [7,8,3] || (h.nm.toList == t.nm.toList || h.nm.toList == t0.nm.toList)),(mX (f h.nm.toList))] w' _ _ (by simp [maxLen]) aj7).mono ?_;rintro e' w2 ⟨rfl,rfl⟩;exact aI.mk (eG _) (by simpa using hC) (bG.mk _ _)
  simp only [gZ];apply dA.step
  case aP=>intro β A w' hβ hC hO hD;have e0:=hO 0 (by rfl);have e3:=hO 3 (by rfl);simp [Act.eval] at e0 e3;simp [Act.eval] at hD;simp [go_sem,gd,Oper.wp,e0,e3,hD];exact aI.mk (eG _) (by simpa using hC) (bG.mk _ _)
  simp only [gZ];intro wz gy
  iterate 38 intro _ _
  intro v38 h38;have hl':v38=_:=h38;subst hl';clear h38;refine eu.nil ?_;have HZ:aj (MC W bs n f (wT f h.nm.toList) true wz):=ah (by simpa using gy);clear gy;go_simp;go_wp2_with fail;go_ret;refine Jh ?_ HZ.o HG.o
  first | exact congrArg (Value.int .i64) HR.o.symm | (rw [<- HR.o]; done) | (rw [<- HR.o,hq]; rfl) | (rw [<- HR.o,hq,ho]; rfl) | (rw [<- HR.o]; simp [hq,ho])
end
end Go.Proofs.YtgjmahnblcajbaaGreatDoor
