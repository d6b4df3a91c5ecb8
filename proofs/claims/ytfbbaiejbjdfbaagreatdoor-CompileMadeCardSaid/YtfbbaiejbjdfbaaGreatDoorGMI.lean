/- Contract of the checker's statement at set. And what hangs on it. -/
import Derived.Test.YtfbbaiejbjdfbaaGreatDoorGMF
set_option linter.unusedSimpArgs false
set_option linter.unusedVariables false
set_option maxHeartbeats 40000000
set_option maxRecDepth 1000000
namespace Go.Proofs.YtfbbaiejbjdfbaaGreatDoor
open Go.RowKit
open Md
theorem zk {b:Nat} {w1 w2 w3:World} (h:w1.grownBy w2 (some b)) (k:w2.grownBy w3 (some b)):w1.grownBy w3 (some b):=
 ⟨k.os.trans h.os,k.tape.trans h.tape,k.output.trans h.output,Nat.le_trans h.size k.size,fun j hj hne=>(k.block j (Nat.lt_of_lt_of_le hj h.size) hne).trans (h.block j hj hne)⟩
theorem jc {b:Nat} {w w':World} (h:Below w.heap.size w w'):w.grownBy w' (some b):=⟨h.os,h.tape,h.output,h.size,fun k hk _=>h.block k hk⟩
theorem iD {b:Nat} (w:World):w.grownBy w (some b):=jc (Below.refl _ _)
def MC (W:World) (bm n:Nat) (f f':List UInt8->Bool) (β:Bool) (w':World):Prop:=W.grownBy w' (some bm)∧jF w' bm (n + β.toNat) (if β then f' else f)
theorem MC.below {W:World} {bm n:Nat} {f f':List UInt8->Bool} {β:Bool} {w' w2:World} (h:MC W bm n f f' β w') (hb:Below w'.heap.size w' w2):MC W bm n f f' β w2:=⟨zk h.1 (jc hb),h.2.next hb⟩
theorem fM.grow {w w':World} {b bm:Nat} (hb:b≠bm) (hg:w.grownBy w' (some bm)): ∀ {l:List Int} {k:Nat},fM w w.heap.size l (some ⟨b,0,none⟩) k->fM w' w'.heap.size l (some ⟨b,0,none⟩) k
 | [],_,_=>trivial
 | _ ::_,_,⟨⟨b1,off,e,hB,c⟩,hr⟩=>by injection e with e; injection e with e1 e2; subst e1; subst e2;exact ⟨⟨b,0,rfl,Nat.lt_of_lt_of_le hB hg.size,(World.cell?_of_block (hg.block b hB (by simp; exact hb))).trans c⟩,fM.grow hb hg hr⟩
theorem Sit.mc {w W w':World} {fs:List (Nat × Nat × Value)} {bm:Nat} (h:Sit w W fs) (hg:W.grownBy w' (some bm)) (hne: ∀f ∈ fs,f.1≠bm):Holds w' fs:=h.2.grown hg hne
def MH (v:Int) (w:World) (bm n:Nat) (f:List UInt8->Bool) (e:Ending) (w':World):Prop:=e= .returned (.int .i64 v)∧jF w' bm n f∧w.grownBy w' (some bm)
theorem M8 {v:Value} {res:Int} {w W wz:World} {bm n:Nat} {f f':List UInt8->Bool} (h:v= .int .i64 res) (hz:MC W bm n f f' true wz) (hg: ∀w',W.grownBy w' (some bm)->w.grownBy w' (some bm)):MH res w bm (n + 1) f' (.returned v) wz:=
 ⟨by rw [h],hz.2,hg _ hz.1⟩
theorem Xz (w:World) (a b c d:Int) (t:TypeId):fM (w.alloc (.cells #[.int .i64 a,.int .i64 b,.int .i64 c,.int .i64 d] t)) (w.alloc (.cells #[.int .i64 a,.int .i64 b,.int .i64 c,.int .i64 d] t)).heap.size [a,b,c,d] (some ⟨w.heap.size,0,none⟩) 0:=
 ⟨⟨_,_,rfl,by simp,dR w [.int .i64 a,.int .i64 b,.int .i64 c,.int .i64 d] t 0⟩,⟨_,_,rfl,by simp,dR w [.int .i64 a,.int .i64 b,.int .i64 c,.int .i64 d] t 1⟩,⟨_,_,rfl,by simp,dR w [.int .i64 a,.int .i64 b,.int .i64 c,.int .i64 d] t 2⟩,⟨_,_,rfl,by simp,dR w [.int .i64 a,.int .i64 b,.int .i64 c,.int .i64 d] t 3⟩,trivial⟩
section
variable (p:Pr) (w:World) (aB aD:Option Addr) (aA ay:Nat) (i:Int) (bR:Option Addr) (bf bs bt bc:Nat)
theorem Zk (h:dL) (b e ar:aH) (s:Sl) (hi:bS i) (hp: ∀w',w.grownBy w' (some bt)->p.At w' aB aD) (hok:DN h b e) (hex: ∀w',w.grownBy w' (some bt)->h.aI.At w' w'.heap.size s.dX 0) (fK: ∀w',w.grownBy w' (some bt)->fC w') (har:ar.len<=maxLen) (hat: ∀w',w.grownBy w' (some bt)->ar.At w' w'.heap.size bR 0) (hh:Holds w (vQ bc p aB aD aA ay i bR ar.len bf bs bt)) (hbc:bc≠bt) (n:Nat) (f:List UInt8->Bool) (hn:n < maxLen) (hmap:jF w bt n f) (hop:h.op=14):
 Calls Tryz.prog 103 #[.pointer (some ⟨bc,0,none⟩),dS h b e s] w (MH (dN [cB (mean p i h.nm) [7],nest (eY ar [7,3]),(kR (f h.nm.toList)),jT p i h.bY h.xn h.bW h.aI]) w bt (n + 1) (Am f h.nm.toList)):=by
 have HH:=ah (show Sit w w _ from ⟨Below.refl _ _,hh⟩);obtain ⟨dU,dG,dX,dA,cu,bJ,gH,eB⟩:=s;have hxk:=hok.2.2.2.2.2.1;have hns:=hok.2.2.1;generalize hres:dN [cB (mean p i h.nm) [7],nest (eY ar [7,3]),(kR (f h.nm.toList)),jT p i h.bY h.xn h.bW h.aI]=res;have HR:=ah hres;have dw:=ah hop;have Wd:=ah hns;have HN:=ah hn;have hlt:=hmap.lt;clear hres hop hn hns;unfold dS;dsimp only;dsimp only at hex;go_enter Tryz.func103,Tryz.ntmps103;go_upto_region 1 with fail;generalize hW:World.alloc w _=W;generalize Value.agg #[_,_,_,_,_,_,_,_,_,_,_]=a0;have HX:aj (Sit w W (sQ w.heap.size h b e ⟨dU,dG,dX,dA,cu,bJ,gH,eB⟩ (vQ bc p aB aD aA ay i bR ar.len bf bs bt))):=ah (by rw [<- hW]; exact HH.o.wK rfl _ _ _ _ _ _ _ _ _ _ _ _);clear hW HH;have HG:aj (∀w',W.grownBy w' (some bt)->w.grownBy w' (some bt)):=ah (fun w' hg=>zk (jc HX.o.1) hg);have HP:=ah (fun w' hg=>hp w' (HG.o w' hg));have kD:=ah (fun w' hg=>fK w' (HG.o w' hg));have OW:=ah (fun w' hg=>hex w' (HG.o w' hg));have kG:=ah (fun w' hg=>hat w' (HG.o w' hg));have jA:=ah har;have HM:=ah (hmap.next HX.o.1);have HF:aj (∀w',W.grownBy w' (some bt)->Holds w' (sQ w.heap.size h b e ⟨dU,dG,dX,dA,cu,bJ,gH,eB⟩ (vQ bc p aB aD aA ay i bR ar.len bf bs bt))):=ah (fun w' hg=>HX.o.mc hg (by intro x hx;simp only [sQ,vQ,List.mem_cons,List.not_mem_nil,or_false] at hx;rcases hx with rfl | rfl | rfl | rfl | rfl | rfl | rfl | rfl | rfl | rfl | rfl | rfl | rfl | rfl | rfl | rfl | rfl <;> first | exact hbc | (show w.heap.size≠bt; omega)));have HK:aj (∀w',W.grownBy w' (some bt)->Holds w' (vQ bc p aB aD aA ay i bR ar.len bf bs bt)):=ah (fun w' hg=>(HF.o w' hg).2.2.2.2.2.2.2.2.2.2.2);clear hp fK hh hat har hex hmap hlt hbc;have L0: ∀w',W.grownBy w' (some bt)->w'.cell? ⟨w.heap.size,0,none⟩=some (.int .i64 h.op):=fun w' hb=>(HF.o w' hb).1.2;have L2: ∀w',W.grownBy w' (some bt)->w'.cell? ⟨w.heap.size,2,none⟩=some (.string h.nm):=fun w' hb=>(HF.o w' hb).2.2.1.2;have L5: ∀w',W.grownBy w' (some bt)->w'.cell? ⟨w.heap.size,5,none⟩=some (.int .i64 h.bY):=fun w' hb=>(HF.o w' hb).2.2.2.2.2.1.2;have L6: ∀w',W.grownBy w' (some bt)->w'.cell? ⟨w.heap.size,6,none⟩=some (.int .i64 h.xn):=fun w' hb=>(HF.o w' hb).2.2.2.2.2.2.1.2;have L7: ∀w',W.grownBy w' (some bt)->w'.cell? ⟨w.heap.size,7,none⟩=some (.string h.bW):=fun w' hb=>(HF.o w' hb).2.2.2.2.2.2.2.1.2;have L8: ∀w',W.grownBy w' (some bt)->w'.cell? ⟨w.heap.size,8,none⟩=some (.slice dX h.aI.len dA):=fun w' hb=>(HF.o w' hb).2.2.2.2.2.2.2.2.1.2;have LM: ∀w',W.grownBy w' (some bt)->w'.cell? ⟨bc,5,none⟩=some (.map (some bt)):=fun w' hb=>(HK.o w' hb).2.2.2.2.2.1.2;have l0:=L0 W (iD _);have hop:=dw.o;obtain ⟨g1,g2,g3,g4,g5,g6,g7,g8,g9,g10,g11,g12,g13,g14,g15⟩:=VG hop;clear hop l0;have l0:=L0 W (iD _);go_upto_region 25 with fail;refine zD 15 (MC W bt n f (Am f h.nm.toList)) (fun w w'=>w.grownBy w' (some bt)) [169,170,171,172,173,174,175,176,177,178,179,180,181,182,183,184,185,186,187,188,189,190,4] (by kernel_rfl) (by kernel_rfl) (fun _=>iD _) (by rfl) ⟨jc (below_drewN (Below.refl _ _) 1),by simpa using HM.o.next (below_drewN (Below.refl _ _) 1)⟩ ?_
 iterate 3
  apply eO.step
  case aM=>intro β A w' hβ hC hO hD;have e0:=hO 0 (by rfl);have e3:=hO 3 (by rfl);simp [Act.eval] at e0 e3;simp [Act.eval] at hD;simp [go_sem,gd,Oper.wp,e0,e3,hD,L2,hC.1];exact aG.mk (iD _) (by simpa using hC) (bH.mk _ _)
 refine eO.some (fun v w'=> ∃b,b≠bt∧v= .slice (some ⟨b,0,none⟩) 1 1∧fM w' w'.heap.size [7] (some ⟨b,0,none⟩) 0) ?_ ?_ ?_
 ·rintro v w w' hle ⟨b,hbn,rfl,hin⟩;exact ⟨b,hbn,rfl,fM.grow hbn hle hin⟩
 ·intro β A w' hβ hC hO hD;simp [go_sem,gd,Oper.wp];exact aG.mk (d:=_) (v:= .slice (some ⟨_,0,none⟩) 1 1) (jc (ak _ _)) (by simpa using hC.below (ak _ _)) ⟨_,by have:=hC.2.lt; omega,rfl,jh _ 7 _⟩
 apply eO.step
 case aM=>intro β A w' hβ hC hO hD;simp [Act.eval] at hD;obtain ⟨bd1,bd2,br9,br2,bd3,aB9⟩:=hD;simp [go_sem,gd,Oper.wp,bd1,bd2,bd3];refine (lG p w' aB aD aA ay _ bR _ bf bs bt bc h.nm [7] _ 1 hi (by decide) (HP.o _ hC.1) aB9 (HK.o _ hC.1)).mono ?_;rintro e' w2 ⟨rfl,hb⟩;exact aG.mk (jc hb) (by simpa using hC.below hb) (bH.mk _ _)
 apply eO.step
 case aM=>intro β A w' hβ hC hO hD;have e0:=hO 0 (by rfl);have e3:=hO 3 (by rfl);simp [Act.eval] at e0 e3;simp [Act.eval] at hD;simp [go_sem,gd,Oper.wp,e0,e3,hD];exact aG.mk (iD _) (by simpa using hC) (bH.mk _ _)
 refine eO.some (fun v w'=> ∃b,b≠bt∧v= .slice (some ⟨b,0,none⟩) 2 2∧fM w' w'.heap.size [7,3] (some ⟨b,0,none⟩) 0) ?_ ?_ ?_
 ·rintro v w w' hle ⟨b,hbn,rfl,hin⟩;exact ⟨b,hbn,rfl,fM.grow hbn hle hin⟩
 ·intro β A w' hβ hC hO hD;simp [go_sem,gd,Oper.wp];exact aG.mk (d:=_) (v:= .slice (some ⟨_,0,none⟩) 2 2) (jc (ak _ _)) (by simpa using hC.below (ak _ _)) ⟨_,by have:=hC.2.lt; omega,rfl,mX _ 7 3 _⟩
 apply eO.step
 case aM=>intro β A w' hβ hC hO hD;simp [Act.eval] at hD;obtain ⟨bd4,⟨bs0,br3,bd5,aC0⟩,-⟩:=hD;simp [go_sem,gd,Oper.wp,bd4,bd5];refine (mI p w' aB aD aA ay _ bR bf bs bt bc ar [7,3] _ 2 (by decide) aC0 jA.o (kG.o _ hC.1) (HK.o _ hC.1)).mono ?_;rintro e' w2 ⟨rfl,hb⟩;exact aG.mk (jc hb) (by simpa using hC.below hb) (bH.mk _ _)
 apply eO.step
 case aM=>intro β A w' hβ hC hO hD;simp [Act.eval] at hD;simp [go_sem,gd,Oper.wp,hD];refine (nO (eY ar [7,3]) w').mono ?_;rintro e' w2 ⟨rfl,rfl⟩;exact aG.mk (iD _) (by simpa using hC) (bH.mk _ _)
 iterate 6
  apply eO.step
  case aM=>intro β A w' hβ hC hO hD;have e0:=hO 0 (by rfl);have e3:=hO 3 (by rfl);simp [Act.eval] at e0 e3;simp [Act.eval] at hD;simp [go_sem,gd,Oper.wp,e0,e3,hD,LM,hC.1,L2];exact aG.mk (iD _) (by simpa using hC) (bH.mk _ _)
 apply eO.step
 case aM=>intro β A w' hβ hC hO hD;obtain rfl:=hβ (by simp);simp [Act.eval] at hD;simp [go_sem,gd,Oper.wp,hD];refine (Rm h.nm w' bt n f HN.o Wd.o (by simpa using hC.2)).mono ?_;rintro e' w2 ⟨rfl,hm2,hg2⟩;exact aG.mk hg2 ⟨zk hC.1 hg2,by simpa using hm2⟩ (bH.mk _ _)
 iterate 3
  apply eO.step
  case aM=>intro β A w' hβ hC hO hD;have e0:=hO 0 (by rfl);have e3:=hO 3 (by rfl);simp [Act.eval] at e0 e3;simp [Act.eval] at hD;simp [go_sem,gd,Oper.wp,e0,e3,hD,L5,L6,L7,L8,hC.1];exact aG.mk (iD _) (by simpa using hC) (bH.mk _ _)
 apply eO.step
 case aM=>intro β A w' hβ hC hO hD;simp [Act.eval] at hD;simp [go_sem,gd,Oper.wp,hD];refine (zh p w' aB aD aA ay _ bR _ bf bs bt bc h.bY h.xn h.bW h.aI dX dA hi (HP.o _ hC.1) hxk (OW.o _ hC.1) (kD.o _ hC.1) (HK.o _ hC.1)).mono ?_;rintro e' w2 ⟨rfl,hb⟩;exact aG.mk (jc hb) (by simpa using hC.below hb) (bH.mk _ _)
 refine eO.some (fun v w'=> ∃b,b≠bt∧v= .slice (some ⟨b,0,none⟩) 4 4∧fM w' w'.heap.size [cB (mean p i h.nm) [7],nest (eY ar [7,3]),(kR (f h.nm.toList)),jT p i h.bY h.xn h.bW h.aI] (some ⟨b,0,none⟩) 0) ?_ ?_ ?_
 ·rintro v w w' hle ⟨b,hbn,rfl,hin⟩;exact ⟨b,hbn,rfl,fM.grow hbn hle hin⟩
 ·intro β A w' hβ hC hO hD;simp [Act.eval] at hD;simp [go_sem,gd,Oper.wp,hD];exact aG.mk (d:=_) (v:= .slice (some ⟨_,0,none⟩) 4 4) (jc (ak _ _)) (by simpa using hC.below (ak _ _)) ⟨_,by have:=hC.2.lt; omega,rfl,Xz _ _ _ _ _ _⟩
 apply eO.step
 case aM=>intro β A w' hβ hC hO hD;simp [Act.eval] at hD;obtain ⟨⟨bs1,br4,bd6,aC1⟩,-⟩:=hD;simp [go_sem,gd,Oper.wp,bd6];refine (lg [cB (mean p i h.nm) [7],nest (eY ar [7,3]),(kR (f h.nm.toList)),jT p i h.bY h.xn h.bW h.aI] w' _ _ (by simp [maxLen]) aC1).mono ?_;rintro e' w2 ⟨rfl,rfl⟩;exact aG.mk (iD _) (by simpa using hC) (bH.mk _ _)
 apply eO.step
 case aM=>intro β A w' hβ hC hO hD;have e0:=hO 0 (by rfl);have e3:=hO 3 (by rfl);simp [Act.eval] at e0 e3;simp [Act.eval] at hD;simp [go_sem,gd,Oper.wp,e0,e3,hD];exact aG.mk (iD _) (by simpa using hC) (bH.mk _ _)
 simp only [bP];intro wz bC;intro v0 h0 v1 h1 v2 h2 v3 h3 v4 h4 v5 h5 v6 h6 v7 h7 v8 h8 v9 h9 v10 h10 v11 h11 v12 h12 v13 zl v14 uY v15 zO v16 h16 v17 Jk v18 h18 v19 h19 v20 h20 v21 h21 v22 h22;have hl':v22=_:=h22;subst hl';clear h0 h1 h2 h3 h4 h5 h6 h7 h8 h9 h10 h11 h12 zl uY zO h16 Jk h18 h19 h20 h21 h22;refine dJ.nil ?_;have HZ:aj (MC W bt n f (Am f h.nm.toList) true wz):=ah (by simpa using bC);clear bC;go_simp;go_wp2_with fail;go_ret;refine M8 ?_ HZ.o HG.o;rw [<- HR.o];rfl
end
theorem ab3 {w:World} {B b off:Nat} {t:Th} {r:List Th} (h:iN w B (t ::r) (some ⟨b,off,none⟩) 0):w.cell? ⟨b,off,none⟩=some (.string t.nm):=by
 obtain ⟨⟨b1,off1,iK,fq,cu,bJ,e,-,x0,-⟩,-⟩:=h;injection e with e; injection e with e1 e2; subst e1; subst e2;simpa using x0
section
variable (p:Pr) (w:World) (aB aD:Option Addr) (aA ay:Nat) (bR:Option Addr) (bf bs bt bc:Nat)
theorem Zj (j:Nat) (t t0:Th) (r r0:List Th) (hd:p.ts.drop j=t ::r) (hts:p.ts=t0 ::r0) (h:dL) (b e ar:aH) (s:Sl) (hi:bS (j:Int)) (hp: ∀w',w.grownBy w' (some bs)->p.At w' aB aD) (hok:DN h b e) (hex: ∀w',w.grownBy w' (some bs)->h.aI.At w' w'.heap.size s.dX 0) (fK: ∀w',w.grownBy w' (some bs)->fC w') (har:ar.len<=maxLen) (hat: ∀w',w.grownBy w' (some bs)->ar.At w' w'.heap.size bR 0) (hh:Holds w (vQ bc p aB aD aA ay (j:Int) bR ar.len bf bs bt)) (hbc:bc≠bs) (n:Nat) (f:List UInt8->Bool) (hn:n < maxLen) (hmap:jF w bs n f) (hop:h.op=12):
 Calls Tryz.prog 103 #[.pointer (some ⟨bc,0,none⟩),dS h b e s] w (MH (dN [cB (mean p (j:Int) h.nm) [8],nest (eY ar [7,8,3] || (h.nm.toList == t.nm.toList || h.nm.toList == t0.nm.toList)),(kR (f h.nm.toList))]) w bs (n + 1) (Am f h.nm.toList)):=by
 have HH:=ah (show Sit w w _ from ⟨Below.refl _ _,hh⟩);obtain ⟨dU,dG,dX,dA,cu,bJ,gH,eB⟩:=s;have hxk:=hok.2.2.2.2.2.1;have hns:=hok.2.2.1;generalize hres:dN [cB (mean p (j:Int) h.nm) [8],nest (eY ar [7,8,3] || (h.nm.toList == t.nm.toList || h.nm.toList == t0.nm.toList)),(kR (f h.nm.toList))]=res;have HR:=ah hres;have dw:=ah hop;have Wd:=ah hns;have HN:=ah hn;have hlt:=hmap.lt;clear hres hop hn hns;unfold dS;dsimp only;dsimp only at hex;go_enter Tryz.func103,Tryz.ntmps103;go_upto_region 1 with fail;generalize hW:World.alloc w _=W;generalize Value.agg #[_,_,_,_,_,_,_,_,_,_,_]=a0;have HX:aj (Sit w W (sQ w.heap.size h b e ⟨dU,dG,dX,dA,cu,bJ,gH,eB⟩ (vQ bc p aB aD aA ay (j:Int) bR ar.len bf bs bt))):=ah (by rw [<- hW]; exact HH.o.wK rfl _ _ _ _ _ _ _ _ _ _ _ _);clear hW HH;have HG:aj (∀w',W.grownBy w' (some bs)->w.grownBy w' (some bs)):=ah (fun w' hg=>zk (jc HX.o.1) hg);have HP:=ah (fun w' hg=>hp w' (HG.o w' hg));have kD:=ah (fun w' hg=>fK w' (HG.o w' hg));have OW:=ah (fun w' hg=>hex w' (HG.o w' hg));have kG:=ah (fun w' hg=>hat w' (HG.o w' hg));have jA:=ah har;have HM:=ah (hmap.next HX.o.1);have HF:aj (∀w',W.grownBy w' (some bs)->Holds w' (sQ w.heap.size h b e ⟨dU,dG,dX,dA,cu,bJ,gH,eB⟩ (vQ bc p aB aD aA ay (j:Int) bR ar.len bf bs bt))):=ah (fun w' hg=>HX.o.mc hg (by intro x hx;simp only [sQ,vQ,List.mem_cons,List.not_mem_nil,or_false] at hx;rcases hx with rfl | rfl | rfl | rfl | rfl | rfl | rfl | rfl | rfl | rfl | rfl | rfl | rfl | rfl | rfl | rfl | rfl <;> first | exact hbc | (show w.heap.size≠bs; omega)));have HK:aj (∀w',W.grownBy w' (some bs)->Holds w' (vQ bc p aB aD aA ay (j:Int) bR ar.len bf bs bt)):=ah (fun w' hg=>(HF.o w' hg).2.2.2.2.2.2.2.2.2.2.2);clear hp fK hh hat har hex hmap hlt hbc;have L0: ∀w',W.grownBy w' (some bs)->w'.cell? ⟨w.heap.size,0,none⟩=some (.int .i64 h.op):=fun w' hb=>(HF.o w' hb).1.2;have L2: ∀w',W.grownBy w' (some bs)->w'.cell? ⟨w.heap.size,2,none⟩=some (.string h.nm):=fun w' hb=>(HF.o w' hb).2.2.1.2;have L5: ∀w',W.grownBy w' (some bs)->w'.cell? ⟨w.heap.size,5,none⟩=some (.int .i64 h.bY):=fun w' hb=>(HF.o w' hb).2.2.2.2.2.1.2;have L6: ∀w',W.grownBy w' (some bs)->w'.cell? ⟨w.heap.size,6,none⟩=some (.int .i64 h.xn):=fun w' hb=>(HF.o w' hb).2.2.2.2.2.2.1.2;have L7: ∀w',W.grownBy w' (some bs)->w'.cell? ⟨w.heap.size,7,none⟩=some (.string h.bW):=fun w' hb=>(HF.o w' hb).2.2.2.2.2.2.2.1.2;have L8: ∀w',W.grownBy w' (some bs)->w'.cell? ⟨w.heap.size,8,none⟩=some (.slice dX h.aI.len dA):=fun w' hb=>(HF.o w' hb).2.2.2.2.2.2.2.2.1.2;have LM: ∀w',W.grownBy w' (some bs)->w'.cell? ⟨bc,4,none⟩=some (.map (some bs)):=fun w' hb=>(HK.o w' hb).2.2.2.2.1.2;have l0:=L0 W (iD _);have hop:=dw.o;obtain ⟨g1,g2,g3,g4,g5,g6,g7,g8,g9,g10,g11,g12,g13,g14,g15⟩:=VE hop;clear hop l0;have l0:=L0 W (iD _);go_upto_region 21 with fail;have hpos:0 < p.ts.length:=by rw [hts]; simp
 have aJ8:(0:Int) < p.ts.length:=by omega
 obtain ⟨b0,Bd,eT⟩: ∃b0 Bd,aD=some ⟨b0,Bd,none⟩:=by have:=(HP.o W (iD _)).2.2.2;rw [hts] at this;obtain ⟨⟨b1,off1,iK,fq,cu,bJ,e,-⟩,-⟩:=this;exact ⟨b1,off1,e⟩
 subst eT;have LN: ∀w',W.grownBy w' (some bs)->w'.cell? ⟨b0,Bd,none⟩=some (.string t0.nm):=fun w' hb=>by have:=(HP.o w' hb).2.2.2;rw [hts] at this;exact ab3 this
 have LT: ∀w',W.grownBy w' (some bs)->w'.cell? ⟨bc,1,none⟩=some (.slice (some ⟨b0,Bd,none⟩) p.ts.length ay):=fun w' hb=>(HK.o w' hb).2.1.2;cases hq:eY ar [7,8,3] <;> cases ho:(h.nm.toList == t.nm.toList)
 all_goals
  refine zD 35 (MC W bs n f (Am f h.nm.toList)) (fun w w'=>w.grownBy w' (some bs)) [109,110,111,112,113,114,115,116,117,118,119,120,121,122,123,124,125,126,127,128,129,130,131,132,133,134,135,136,137,138,139,140,141,142,143,144,145,146,4] (by kernel_rfl) (by kernel_rfl) (fun _=>iD _) (by rfl) ⟨jc (below_drewN (Below.refl _ _) 1),by simpa using HM.o.next (below_drewN (Below.refl _ _) 1)⟩ ?_
  iterate 3
   apply eO.step
   case aM=>intro β A w' hβ hC hO hD;have e0:=hO 0 (by rfl);have e3:=hO 3 (by rfl);simp [Act.eval] at e0 e3;simp [Act.eval] at hD;simp [go_sem,gd,Oper.wp,e0,e3,hD,L2,hC.1];exact aG.mk (iD _) (by simpa using hC) (bH.mk _ _)
   try simp only [bP]
  refine eO.some (fun v w'=> ∃b,b≠bs∧v= .slice (some ⟨b,0,none⟩) 1 1∧fM w' w'.heap.size [8] (some ⟨b,0,none⟩) 0) ?_ ?_ ?_
  ·rintro v w w' hle ⟨b,hbn,rfl,hin⟩;exact ⟨b,hbn,rfl,fM.grow hbn hle hin⟩
  ·intro β A w' hβ hC hO hD;simp [go_sem,gd,Oper.wp];exact aG.mk (d:=_) (v:= .slice (some ⟨_,0,none⟩) 1 1) (jc (ak _ _)) (by simpa using hC.below (ak _ _)) ⟨_,by have:=hC.2.lt; omega,rfl,jh _ 8 _⟩
  simp only [bP];apply eO.step
  case aM=>intro β A w' hβ hC hO hD;simp [Act.eval] at hD;obtain ⟨bc5,bc6,br6,bq9,bc7,aB6⟩:=hD;simp [go_sem,gd,Oper.wp,bc5,bc6,bc7];refine (lG p w' aB (some ⟨b0,Bd,none⟩) aA ay _ bR _ bf bs bt bc h.nm [8] _ 1 hi (by decide) (HP.o _ hC.1) aB6 (HK.o _ hC.1)).mono ?_;rintro e' w2 ⟨rfl,hb⟩;exact aG.mk (jc hb) (by simpa using hC.below hb) (bH.mk _ _)
  simp only [bP];apply eO.step
  case aM=>intro β A w' hβ hC hO hD;have e0:=hO 0 (by rfl);have e3:=hO 3 (by rfl);simp [Act.eval] at e0 e3;simp [Act.eval] at hD;simp [go_sem,gd,Oper.wp,e0,e3,hD];exact aG.mk (iD _) (by simpa using hC) (bH.mk _ _)
  simp only [bP];refine eO.some (fun v w'=> ∃b,b≠bs∧v= .slice (some ⟨b,0,none⟩) 3 3∧fM w' w'.heap.size [7,8,3] (some ⟨b,0,none⟩) 0) ?_ ?_ ?_
  ·rintro v w w' hle ⟨b,hbn,rfl,hin⟩;exact ⟨b,hbn,rfl,fM.grow hbn hle hin⟩
  ·intro β A w' hβ hC hO hD;simp [go_sem,gd,Oper.wp];exact aG.mk (d:=_) (v:= .slice (some ⟨_,0,none⟩) 3 3) (jc (ak _ _)) (by simpa using hC.below (ak _ _)) ⟨_,by have:=hC.2.lt; omega,rfl,BP _ 7 8 3 _⟩
  simp only [bP];apply eO.step
  case aM=>intro β A w' hβ hC hO hD;simp [Act.eval] at hD;obtain ⟨bc8,⟨br7,br0,bc9,aB7⟩,-⟩:=hD;simp [go_sem,gd,Oper.wp,bc8,bc9];refine (hq ▸ mI p w' aB (some ⟨b0,Bd,none⟩) aA ay (j:Int) bR bf bs bt bc ar [7,8,3] _ 3 (by decide) aB7 jA.o (kG.o _ hC.1) (HK.o _ hC.1)).mono ?_;rintro e' w2 ⟨rfl,hb⟩;exact aG.mk (jc hb) (by simpa using hC.below hb) (bH.mk _ _)
  simp only [bP];apply eO.step
  case aM=>intro β A w' hβ hC hO hD;have e0:=hO 0 (by rfl);have e3:=hO 3 (by rfl);simp [Act.eval] at e0 e3;simp [Act.eval] at hD;simp [go_sem,gd,Oper.wp,e0,e3,hD];exact aG.mk (iD _) (by simpa using hC) (bH.mk _ _)
  simp only [bP]
  iterate 3
   first
   | (apply eO.step
      case aM=>intro β A w' hβ hC hO hD;have e0:=hO 0 (by rfl);have e3:=hO 3 (by rfl);simp [Act.eval] at e0 e3;simp [Act.eval] at hD;simp [go_sem,gd,Oper.wp,e0,e3,hD,L2,hC.1];exact aG.mk (iD _) (by simpa using hC) (bH.mk _ _))
   | (refine eO.step (v:=undef) ?_ ?_
      ·intro β A w' hβ hC hO hD;simp [Act.eval] at hD;simp [gd,Act.eval,hD]
       first | done | exact bH.mk _ _ | exact ⟨by rfl,bH.mk _ _⟩)
   try simp only [bP]
  first
  | (apply eO.step
     case aM=>intro β A w' hβ hC hO hD;simp [Act.eval] at hD;simp [go_sem,gd,Oper.wp,hD];refine (O4 p w' aB (some ⟨b0,Bd,none⟩) aA ay bR ar.len bf bs bt bc j t r hd (HP.o _ hC.1) (HK.o _ hC.1)).mono ?_;rintro e' w2 ⟨rfl,hb⟩;exact aG.mk (jc hb) (by simpa using hC.below hb) (bH.mk _ _))
  | (refine eO.step (v:=undef) ?_ ?_
     ·intro β A w' hβ hC hO hD;simp [Act.eval] at hD;simp [gd,Act.eval,hD]
      first | done | exact bH.mk _ _ | exact ⟨by rfl,bH.mk _ _⟩)
  try simp only [bP]
  iterate 15
   first
   | (apply eO.step
      case aM=>intro β A w' hβ hC hO hD;have e0:=hO 0 (by rfl);have e3:=hO 3 (by rfl);simp [Act.eval] at e0 e3;simp [Act.eval] at hD;simp [go_sem,gd,Oper.wp,e0,e3,hD,ho,L2,hC.1,LT,hpos,aJ8,LN];exact aG.mk (iD _) (by simpa using hC) (bH.mk _ _))
   | (refine eO.step (v:=undef) ?_ ?_
      ·intro β A w' hβ hC hO hD;simp [Act.eval] at hD;simp [gd,Act.eval,hD]
       first | done | exact bH.mk _ _ | exact ⟨by rfl,bH.mk _ _⟩)
   try simp only [bP]
  apply eO.step
  case aM=>intro β A w' hβ hC hO hD;simp [Act.eval] at hD;simp [go_sem,gd,Oper.wp,hD];refine (nO _ w').mono ?_;rintro e' w2 ⟨rfl,rfl⟩;exact aG.mk (iD _) (by simpa using hC) (bH.mk _ _)
  simp only [bP]
  iterate 6
   apply eO.step
   case aM=>intro β A w' hβ hC hO hD;have e0:=hO 0 (by rfl);have e3:=hO 3 (by rfl);simp [Act.eval] at e0 e3;simp [Act.eval] at hD;simp [go_sem,gd,Oper.wp,e0,e3,hD,LM,hC.1,L2];exact aG.mk (iD _) (by simpa using hC) (bH.mk _ _)
   try simp only [bP]
  apply eO.step
  case aM=>intro β A w' hβ hC hO hD;obtain rfl:=hβ (by simp);simp [Act.eval] at hD;simp [go_sem,gd,Oper.wp,hD];refine (Rm h.nm w' bs n f HN.o Wd.o (by simpa using hC.2)).mono ?_;rintro e' w2 ⟨rfl,hm2,hg2⟩;exact aG.mk hg2 ⟨zk hC.1 hg2,by simpa using hm2⟩ (bH.mk _ _)
  simp only [bP];refine eO.some (fun v w'=> ∃b,b≠bs∧v= .slice (some ⟨b,0,none⟩) 3 3∧fM w' w'.heap.size [cB (mean p (j:Int) h.nm) [8],nest (eY ar [7,8,3] || (h.nm.toList == t.nm.toList || h.nm.toList == t0.nm.toList)),(kR (f h.nm.toList))] (some ⟨b,0,none⟩) 0) ?_ ?_ ?_
  ·rintro v w w' hle ⟨b,hbn,rfl,hin⟩;exact ⟨b,hbn,rfl,fM.grow hbn hle hin⟩
  ·intro β A w' hβ hC hO hD;simp [Act.eval] at hD;simp [go_sem,gd,Oper.wp,hD];exact aG.mk (d:=_) (v:= .slice (some ⟨_,0,none⟩) 3 3) (jc (ak _ _)) (by simpa using hC.below (ak _ _)) ⟨_,by have:=hC.2.lt; omega,rfl,by rw [hq,ho]; exact BP _ _ _ _ _⟩
  simp only [bP];apply eO.step
  case aM=>intro β A w' hβ hC hO hD;simp [Act.eval] at hD;obtain ⟨⟨br8,br1,bd0,aB8⟩,-⟩:=hD;simp [go_sem,gd,Oper.wp,bd0];refine (lg [cB (mean p (j:Int) h.nm) [8],nest (eY ar [7,8,3] || (h.nm.toList == t.nm.toList || h.nm.toList == t0.nm.toList)),(kR (f h.nm.toList))] w' _ _ (by simp [maxLen]) aB8).mono ?_;rintro e' w2 ⟨rfl,rfl⟩;exact aG.mk (iD _) (by simpa using hC) (bH.mk _ _)
  simp only [bP];apply eO.step
  case aM=>intro β A w' hβ hC hO hD;have e0:=hO 0 (by rfl);have e3:=hO 3 (by rfl);simp [Act.eval] at e0 e3;simp [Act.eval] at hD;simp [go_sem,gd,Oper.wp,e0,e3,hD];exact aG.mk (iD _) (by simpa using hC) (bH.mk _ _)
  simp only [bP];intro wz bC
  iterate 38 intro _ _
  intro v38 h38;have hl':v38=_:=h38;subst hl';clear h38;refine dJ.nil ?_;have HZ:aj (MC W bs n f (Am f h.nm.toList) true wz):=ah (by simpa using bC);clear bC;go_simp;go_wp2_with fail;go_ret;refine M8 ?_ HZ.o HG.o
  first | exact congrArg (Value.int .i64) HR.o.symm | (rw [<- HR.o]; done) | (rw [<- HR.o,hq]; rfl) | (rw [<- HR.o,hq,ho]; rfl) | (rw [<- HR.o]; simp [hq,ho])
end
end Go.Proofs.YtfbbaiejbjdfbaaGreatDoor
