/- Contract of the checker's statement at set. And what hangs on it. -/
import Derived.Test.YtkmllehjemjgpaaGreatDoorGMF
set_option linter.unusedSimpArgs false
set_option linter.unusedVariables false
set_option maxHeartbeats 40000000
set_option maxRecDepth 1000000
namespace Go.Proofs.YtkmllehjemjgpaaGreatDoor
open Go.RowKit
open Md
theorem wS {b:Nat} {w1 w2 w3:World} (h:w1.grownBy w2 (some b)) (k:w2.grownBy w3 (some b)):w1.grownBy w3 (some b):=
 ⟨k.os.trans h.os,k.tape.trans h.tape,k.output.trans h.output,Nat.le_trans h.size k.size,λj hj hne=>(k.block j (Nat.lt_of_lt_of_le hj h.size) hne).trans (h.block j hj hne)⟩
theorem gW {b:Nat} {w w':World} (h:Below w.heap.size w w'):w.grownBy w' (some b):=⟨h.os,h.tape,h.output,h.size,λk hk _=>h.block k hk⟩
theorem fZ {b:Nat} (w:World):w.grownBy w (some b):=gW (Below.refl _ _)
def MC (W:World) (bm n:Nat) (f f':List UInt8->Bool) (β:Bool) (w':World):Prop:=W.grownBy w' (some bm)∧iN w' bm (n+β.toNat) (if β then f' else f)
theorem MC.below {W:World} {bm n:Nat} {f f':List UInt8->Bool} {β:Bool} {w' w2:World} (h:MC W bm n f f' β w') (hb:Below w'.heap.size w' w2):MC W bm n f f' β w2:=⟨wS h.1 (gW hb),h.2.next hb⟩
theorem eH.grow {w w':World} {b bm:Nat} (hb:b≠bm) (hg:w.grownBy w' (some bm)): ∀ {l:List Int} {k:Nat},eH w w.heap.size l (some ⟨b,0,none⟩) k->eH w' w'.heap.size l (some ⟨b,0,none⟩) k
 | [],_,_=>trivial
 |_::_,_,⟨⟨b1,off,e,hB,c⟩,hr⟩=>by injection e with e;injection e with e1 e2;subst e1;subst e2;exact⟨⟨b,0,rfl,Nat.lt_of_lt_of_le hB hg.size,(World.cell?_of_block (hg.block b hB (by simp;exact hb))).trans c⟩,eH.grow hb hg hr⟩
theorem Sit.mc {w W w':World} {fs:List (Nat×Nat×Value)} {bm:Nat} (h:Sit w W fs) (hg:W.grownBy w' (some bm)) (hne: ∀f∈fs,f.1≠bm):Holds w' fs:=h.2.grown hg hne
def K6 (v:Int) (w:World) (bm n:Nat) (f:List UInt8->Bool) (e:Ending) (w':World):Prop:=e= .returned (.int .i64 v)∧iN w' bm n f∧w.grownBy w' (some bm)
theorem JN {v:Value} {res:Int} {w W wz:World} {bm n:Nat} {f f':List UInt8->Bool} (h:v= .int .i64 res) (hz:MC W bm n f f' true wz) (hg: ∀w',W.grownBy w' (some bm)->w.grownBy w' (some bm)):K6 res w bm (n+1) f' (.returned v) wz:=
 ⟨by rw[h],hz.2,hg _ hz.1⟩
theorem Vj (w:World) (a b c d:Int) (t:TypeId):eH (w.alloc (.cells #[.int .i64 a,.int .i64 b,.int .i64 c,.int .i64 d] t)) (w.alloc (.cells #[.int .i64 a,.int .i64 b,.int .i64 c,.int .i64 d] t)).heap.size [a,b,c,d] (some ⟨w.heap.size,0,none⟩) 0:=
 ⟨⟨_,_,rfl,by simp,dB w [.int .i64 a,.int .i64 b,.int .i64 c,.int .i64 d] t 0⟩,⟨_,_,rfl,by simp,dB w [.int .i64 a,.int .i64 b,.int .i64 c,.int .i64 d] t 1⟩,⟨_,_,rfl,by simp,dB w [.int .i64 a,.int .i64 b,.int .i64 c,.int .i64 d] t 2⟩,⟨_,_,rfl,by simp,dB w [.int .i64 a,.int .i64 b,.int .i64 c,.int .i64 d] t 3⟩,trivial⟩
section
variable (p:Pr) (w:World) (aB aD:Option Addr) (aA ay:Nat) (i:Int) (bK:Option Addr) (aU bs bt bc:Nat)
theorem Xw (h:cB) (b e ar:aH) (s:Sl) (hi:fD i) (hp: ∀w',w.grownBy w' (some bt)->p.At w' aB aD) (hok:uY h b e) (hex: ∀w',w.grownBy w' (some bt)->h.aK.At w' w'.heap.size s.dR 0) (dG: ∀w',w.grownBy w' (some bt)->dD w') (har:ar.len<=maxLen) (hat: ∀w',w.grownBy w' (some bt)->ar.At w' w'.heap.size bK 0) (hh:Holds w (sK bc p aB aD aA ay i bK ar.len aU bs bt)) (hbc:bc≠bt) (n:Nat) (f:List UInt8->Bool) (hn:n<maxLen) (hmap:iN w bt n f) (hop:h.op=14):
 Calls Tryz.prog 81 #[.pointer (some ⟨bc,0,none⟩),jD h b e s] w (K6 (eF [dh (mean p i h.nm) [7],nest (dW ar [7,3]),(jR (f h.nm.toList)),kg p i h.cu h.xn h.bZ h.aK]) w bt (n+1) (yA f h.nm.toList)):=by
 have HH:=ah (show Sit w w _ from⟨Below.refl _ _,hh⟩);obtain⟨eu,dI,dR,cO,bR,aY,fH,dX⟩:=s;have hxk:=hok.2.2.2.2.2.1;have hns:=hok.2.2.1;generalize hres:eF [dh (mean p i h.nm) [7],nest (dW ar [7,3]),(jR (f h.nm.toList)),kg p i h.cu h.xn h.bZ h.aK]=res;have HR:=ah hres;have bW:=ah hop;have HNS:=ah hns;have HN:=ah hn;have hlt:=hmap.lt;clear hres hop hn hns;unfold jD;dsimp only;dsimp only at hex;go_enter Tryz.func81,Tryz.ntmps81;go_upto_region 1 with fail;generalize hW:World.alloc w _=W;generalize Value.agg #[_,_,_,_,_,_,_,_,_,_,_]=a0;have HX:aj (Sit w W (ql w.heap.size h b e ⟨eu,dI,dR,cO,bR,aY,fH,dX⟩ (sK bc p aB aD aA ay i bK ar.len aU bs bt))):=ah (by rw[<- hW];exact HH.o.tK rfl _ _ _ _ _ _ _ _ _ _ _ _);clear hW HH;have HG:aj (∀w',W.grownBy w' (some bt)->w.grownBy w' (some bt)):=ah (λw' hg=>wS (gW HX.o.1) hg);have HP:=ah (λw' hg=>hp w' (HG.o w' hg));have iF:=ah (λw' hg=>dG w' (HG.o w' hg));have Mq:=ah (λw' hg=>hex w' (HG.o w' hg));have jy:=ah (λw' hg=>hat w' (HG.o w' hg));have jd:=ah har;have HM:=ah (hmap.next HX.o.1);have HF:aj (∀w',W.grownBy w' (some bt)->Holds w' (ql w.heap.size h b e ⟨eu,dI,dR,cO,bR,aY,fH,dX⟩ (sK bc p aB aD aA ay i bK ar.len aU bs bt))):=ah (λw' hg=>HX.o.mc hg (by intro x hx;simp only[ql,sK,List.mem_cons,List.not_mem_nil,or_false]at hx;rcases hx with rfl|rfl|rfl|rfl|rfl|rfl|rfl|rfl|rfl|rfl|rfl|rfl|rfl|rfl|rfl|rfl|rfl <;> first|exact hbc|(show w.heap.size≠bt;omega)));have HK:aj (∀w',W.grownBy w' (some bt)->Holds w' (sK bc p aB aD aA ay i bK ar.len aU bs bt)):=ah (λw' hg=>(HF.o w' hg).2.2.2.2.2.2.2.2.2.2.2);clear hp dG hh hat har hex hmap hlt hbc;have L0: ∀w',W.grownBy w' (some bt)->w'.cell? ⟨w.heap.size,0,none⟩=some (.int .i64 h.op):=λw' hb=>(HF.o w' hb).1.2;have L2: ∀w',W.grownBy w' (some bt)->w'.cell? ⟨w.heap.size,2,none⟩=some (.string h.nm):=λw' hb=>(HF.o w' hb).2.2.1.2;have L5: ∀w',W.grownBy w' (some bt)->w'.cell? ⟨w.heap.size,5,none⟩=some (.int .i64 h.cu):=λw' hb=>(HF.o w' hb).2.2.2.2.2.1.2;have L6: ∀w',W.grownBy w' (some bt)->w'.cell? ⟨w.heap.size,6,none⟩=some (.int .i64 h.xn):=λw' hb=>(HF.o w' hb).2.2.2.2.2.2.1.2;have L7: ∀w',W.grownBy w' (some bt)->w'.cell? ⟨w.heap.size,7,none⟩=some (.string h.bZ):=λw' hb=>(HF.o w' hb).2.2.2.2.2.2.2.1.2;have L8: ∀w',W.grownBy w' (some bt)->w'.cell? ⟨w.heap.size,8,none⟩=some (.slice dR h.aK.len cO):=λw' hb=>(HF.o w' hb).2.2.2.2.2.2.2.2.1.2;have LM: ∀w',W.grownBy w' (some bt)->w'.cell? ⟨bc,5,none⟩=some (.map (some bt)):=λw' hb=>(HK.o w' hb).2.2.2.2.2.1.2;have l0:=L0 W (fZ _);have hop:=bW.o;obtain⟨g1,g2,g3,g4,g5,g6,g7,g8,g9,g10,g11,g12,g13,g14,g15⟩:=SX hop;clear hop l0;have l0:=L0 W (fZ _);go_upto_region 25 with fail;refine xC 15 (MC W bt n f (yA f h.nm.toList)) (λw w'=>w.grownBy w' (some bt)) [169,170,171,172,173,174,175,176,177,178,179,180,181,182,183,184,185,186,187,188,189,190,4] (by kernel_rfl) (by kernel_rfl) (λ_=>fZ _) (by rfl) ⟨gW (below_drewN (Below.refl _ _) 1),by simpa using HM.o.next (below_drewN (Below.refl _ _) 1)⟩ ?_
 iterate 3
  apply dQ.step
  case aJ=>intro β A w' hβ hC hO hD;have e0:=hO 0 (by rfl);have e3:=hO 3 (by rfl);simp[Act.eval]at e0 e3;simp[Act.eval]at hD;simp[go_sem,gd,Oper.wp,e0,e3,hD,L2,hC.1];exact aG.mk (fZ _) (by simpa using hC) (aW.mk _ _)
 refine dQ.some (λv w'=> ∃b,b≠bt∧v= .slice (some ⟨b,0,none⟩) 1 1∧eH w' w'.heap.size [7] (some ⟨b,0,none⟩) 0) ?_ ?_ ?_
 ·rintro v w w' hle ⟨b,hbn,rfl,hin⟩;exact⟨b,hbn,rfl,eH.grow hbn hle hin⟩
 ·intro β A w' hβ hC hO hD;simp[go_sem,gd,Oper.wp];exact aG.mk (d:=_) (v:= .slice (some ⟨_,0,none⟩) 1 1) (gW (ak _ _)) (by simpa using hC.below (ak _ _)) ⟨_,by have:=hC.2.lt;omega,rfl,iq _ 7 _⟩
 apply dQ.step
 case aJ=>intro β A w' hβ hC hO hD;simp[Act.eval]at hD;obtain⟨aT1,aT2,bi7,bh8,aT3,au2⟩:=hD;simp[go_sem,gd,Oper.wp,aT1,aT2,aT3];refine(jO p w' aB aD aA ay _ bK _ aU bs bt bc h.nm [7] _ 1 hi (by decide) (HP.o _ hC.1) au2 (HK.o _ hC.1)).mono ?_;rintro e' w2 ⟨rfl,hb⟩;exact aG.mk (gW hb) (by simpa using hC.below hb) (aW.mk _ _)
 apply dQ.step
 case aJ=>intro β A w' hβ hC hO hD;have e0:=hO 0 (by rfl);have e3:=hO 3 (by rfl);simp[Act.eval]at e0 e3;simp[Act.eval]at hD;simp[go_sem,gd,Oper.wp,e0,e3,hD];exact aG.mk (fZ _) (by simpa using hC) (aW.mk _ _)
 refine dQ.some (λv w'=> ∃b,b≠bt∧v= .slice (some ⟨b,0,none⟩) 2 2∧eH w' w'.heap.size [7,3] (some ⟨b,0,none⟩) 0) ?_ ?_ ?_
 ·rintro v w w' hle ⟨b,hbn,rfl,hin⟩;exact⟨b,hbn,rfl,eH.grow hbn hle hin⟩
 ·intro β A w' hβ hC hO hD;simp[go_sem,gd,Oper.wp];exact aG.mk (d:=_) (v:= .slice (some ⟨_,0,none⟩) 2 2) (gW (ak _ _)) (by simpa using hC.below (ak _ _)) ⟨_,by have:=hC.2.lt;omega,rfl,kM _ 7 3 _⟩
 apply dQ.step
 case aJ=>intro β A w' hβ hC hO hD;simp[Act.eval]at hD;obtain⟨aT4,⟨bi8,bh9,aT5,au3⟩,-⟩:=hD;simp[go_sem,gd,Oper.wp,aT4,aT5];refine(kH p w' aB aD aA ay _ bK aU bs bt bc ar [7,3] _ 2 (by decide) au3 jd.o (jy.o _ hC.1) (HK.o _ hC.1)).mono ?_;rintro e' w2 ⟨rfl,hb⟩;exact aG.mk (gW hb) (by simpa using hC.below hb) (aW.mk _ _)
 apply dQ.step
 case aJ=>intro β A w' hβ hC hO hD;simp[Act.eval]at hD;simp[go_sem,gd,Oper.wp,hD];refine(lu (dW ar [7,3]) w').mono ?_;rintro e' w2 ⟨rfl,rfl⟩;exact aG.mk (fZ _) (by simpa using hC) (aW.mk _ _)
 iterate 6
  apply dQ.step
  case aJ=>intro β A w' hβ hC hO hD;have e0:=hO 0 (by rfl);have e3:=hO 3 (by rfl);simp[Act.eval]at e0 e3;simp[Act.eval]at hD;simp[go_sem,gd,Oper.wp,e0,e3,hD,LM,hC.1,L2];exact aG.mk (fZ _) (by simpa using hC) (aW.mk _ _)
 apply dQ.step
 case aJ=>intro β A w' hβ hC hO hD;obtain rfl:=hβ (by simp);simp[Act.eval]at hD;simp[go_sem,gd,Oper.wp,hD];refine(OE h.nm w' bt n f HN.o HNS.o (by simpa using hC.2)).mono ?_;rintro e' w2 ⟨rfl,hm2,hg2⟩;exact aG.mk hg2 ⟨wS hC.1 hg2,by simpa using hm2⟩ (aW.mk _ _)
 iterate 3
  apply dQ.step
  case aJ=>intro β A w' hβ hC hO hD;have e0:=hO 0 (by rfl);have e3:=hO 3 (by rfl);simp[Act.eval]at e0 e3;simp[Act.eval]at hD;simp[go_sem,gd,Oper.wp,e0,e3,hD,L5,L6,L7,L8,hC.1];exact aG.mk (fZ _) (by simpa using hC) (aW.mk _ _)
 apply dQ.step
 case aJ=>intro β A w' hβ hC hO hD;simp[Act.eval]at hD;simp[go_sem,gd,Oper.wp,hD];refine(wQ p w' aB aD aA ay _ bK _ aU bs bt bc h.cu h.xn h.bZ h.aK dR cO hi (HP.o _ hC.1) hxk (Mq.o _ hC.1) (iF.o _ hC.1) (HK.o _ hC.1)).mono ?_;rintro e' w2 ⟨rfl,hb⟩;exact aG.mk (gW hb) (by simpa using hC.below hb) (aW.mk _ _)
 refine dQ.some (λv w'=> ∃b,b≠bt∧v= .slice (some ⟨b,0,none⟩) 4 4∧eH w' w'.heap.size [dh (mean p i h.nm) [7],nest (dW ar [7,3]),(jR (f h.nm.toList)),kg p i h.cu h.xn h.bZ h.aK] (some ⟨b,0,none⟩) 0) ?_ ?_ ?_
 ·rintro v w w' hle ⟨b,hbn,rfl,hin⟩;exact⟨b,hbn,rfl,eH.grow hbn hle hin⟩
 ·intro β A w' hβ hC hO hD;simp[Act.eval]at hD;simp[go_sem,gd,Oper.wp,hD];exact aG.mk (d:=_) (v:= .slice (some ⟨_,0,none⟩) 4 4) (gW (ak _ _)) (by simpa using hC.below (ak _ _)) ⟨_,by have:=hC.2.lt;omega,rfl,Vj _ _ _ _ _ _⟩
 apply dQ.step
 case aJ=>intro β A w' hβ hC hO hD;simp[Act.eval]at hD;obtain⟨⟨bi9,bi0,aT6,au4⟩,-⟩:=hD;simp[go_sem,gd,Oper.wp,aT6];refine(jL [dh (mean p i h.nm) [7],nest (dW ar [7,3]),(jR (f h.nm.toList)),kg p i h.cu h.xn h.bZ h.aK] w' _ _ (by simp[maxLen]) au4).mono ?_;rintro e' w2 ⟨rfl,rfl⟩;exact aG.mk (fZ _) (by simpa using hC) (aW.mk _ _)
 apply dQ.step
 case aJ=>intro β A w' hβ hC hO hD;have e0:=hO 0 (by rfl);have e3:=hO 3 (by rfl);simp[Act.eval]at e0 e3;simp[Act.eval]at hD;simp[go_sem,gd,Oper.wp,e0,e3,hD];exact aG.mk (fZ _) (by simpa using hC) (aW.mk _ _)
 simp only[bP];intro wz bH;intro v0 h0 v1 h1 v2 h2 v3 h3 v4 h4 v5 h5 v6 h6 v7 h7 v8 h8 v9 h9 v10 h10 v11 h11 v12 h12 v13 Az v14 um v15 zA v16 h16 v17 GK v18 h18 v19 h19 v20 h20 v21 h21 v22 h22;have hl':v22=_:=h22;subst hl';clear h0 h1 h2 h3 h4 h5 h6 h7 h8 h9 h10 h11 h12 Az um zA h16 GK h18 h19 h20 h21 h22;refine dA.nil ?_;have HZ:aj (MC W bt n f (yA f h.nm.toList) true wz):=ah (by simpa using bH);clear bH;go_simp;go_wp2_with fail;go_ret;refine JN ?_ HZ.o HG.o;rw[<- HR.o];rfl
end
theorem YO {w:World} {B b off:Nat} {t:Th} {r:List Th} (h:fQ w B (t::r) (some ⟨b,off,none⟩) 0):w.cell? ⟨b,off,none⟩=some (.string t.nm):=by
 obtain⟨⟨b1,off1,fC,dw,bR,aY,e,-,x0,-⟩,-⟩:=h;injection e with e;injection e with e1 e2;subst e1;subst e2;simpa using x0
section
variable (p:Pr) (w:World) (aB aD:Option Addr) (aA ay:Nat) (bK:Option Addr) (aU bs bt bc:Nat)
theorem Xv (j:Nat) (t t0:Th) (r r0:List Th) (hd:p.ts.drop j=t::r) (hts:p.ts=t0::r0) (h:cB) (b e ar:aH) (s:Sl) (hi:fD (j:Int)) (hp: ∀w',w.grownBy w' (some bs)->p.At w' aB aD) (hok:uY h b e) (hex: ∀w',w.grownBy w' (some bs)->h.aK.At w' w'.heap.size s.dR 0) (dG: ∀w',w.grownBy w' (some bs)->dD w') (har:ar.len<=maxLen) (hat: ∀w',w.grownBy w' (some bs)->ar.At w' w'.heap.size bK 0) (hh:Holds w (sK bc p aB aD aA ay (j:Int) bK ar.len aU bs bt)) (hbc:bc≠bs) (n:Nat) (f:List UInt8->Bool) (hn:n<maxLen) (hmap:iN w bs n f) (hop:h.op=12):
 Calls Tryz.prog 81 #[.pointer (some ⟨bc,0,none⟩),jD h b e s] w (K6 (eF [dh (mean p (j:Int) h.nm) [8],nest (dW ar [7,8,3]||(h.nm.toList==t.nm.toList||h.nm.toList==t0.nm.toList)),(jR (f h.nm.toList))]) w bs (n+1) (yA f h.nm.toList)):=by
 have HH:=ah (show Sit w w _ from⟨Below.refl _ _,hh⟩);obtain⟨eu,dI,dR,cO,bR,aY,fH,dX⟩:=s;have hxk:=hok.2.2.2.2.2.1;have hns:=hok.2.2.1;generalize hres:eF [dh (mean p (j:Int) h.nm) [8],nest (dW ar [7,8,3]||(h.nm.toList==t.nm.toList||h.nm.toList==t0.nm.toList)),(jR (f h.nm.toList))]=res;have HR:=ah hres;have bW:=ah hop;have HNS:=ah hns;have HN:=ah hn;have hlt:=hmap.lt;clear hres hop hn hns;unfold jD;dsimp only;dsimp only at hex;go_enter Tryz.func81,Tryz.ntmps81;go_upto_region 1 with fail;generalize hW:World.alloc w _=W;generalize Value.agg #[_,_,_,_,_,_,_,_,_,_,_]=a0;have HX:aj (Sit w W (ql w.heap.size h b e ⟨eu,dI,dR,cO,bR,aY,fH,dX⟩ (sK bc p aB aD aA ay (j:Int) bK ar.len aU bs bt))):=ah (by rw[<- hW];exact HH.o.tK rfl _ _ _ _ _ _ _ _ _ _ _ _);clear hW HH;have HG:aj (∀w',W.grownBy w' (some bs)->w.grownBy w' (some bs)):=ah (λw' hg=>wS (gW HX.o.1) hg);have HP:=ah (λw' hg=>hp w' (HG.o w' hg));have iF:=ah (λw' hg=>dG w' (HG.o w' hg));have Mq:=ah (λw' hg=>hex w' (HG.o w' hg));have jy:=ah (λw' hg=>hat w' (HG.o w' hg));have jd:=ah har;have HM:=ah (hmap.next HX.o.1);have HF:aj (∀w',W.grownBy w' (some bs)->Holds w' (ql w.heap.size h b e ⟨eu,dI,dR,cO,bR,aY,fH,dX⟩ (sK bc p aB aD aA ay (j:Int) bK ar.len aU bs bt))):=ah (λw' hg=>HX.o.mc hg (by intro x hx;simp only[ql,sK,List.mem_cons,List.not_mem_nil,or_false]at hx;rcases hx with rfl|rfl|rfl|rfl|rfl|rfl|rfl|rfl|rfl|rfl|rfl|rfl|rfl|rfl|rfl|rfl|rfl <;> first|exact hbc|(show w.heap.size≠bs;omega)));have HK:aj (∀w',W.grownBy w' (some bs)->Holds w' (sK bc p aB aD aA ay (j:Int) bK ar.len aU bs bt)):=ah (λw' hg=>(HF.o w' hg).2.2.2.2.2.2.2.2.2.2.2);clear hp dG hh hat har hex hmap hlt hbc;have L0: ∀w',W.grownBy w' (some bs)->w'.cell? ⟨w.heap.size,0,none⟩=some (.int .i64 h.op):=λw' hb=>(HF.o w' hb).1.2;have L2: ∀w',W.grownBy w' (some bs)->w'.cell? ⟨w.heap.size,2,none⟩=some (.string h.nm):=λw' hb=>(HF.o w' hb).2.2.1.2;have L5: ∀w',W.grownBy w' (some bs)->w'.cell? ⟨w.heap.size,5,none⟩=some (.int .i64 h.cu):=λw' hb=>(HF.o w' hb).2.2.2.2.2.1.2;have L6: ∀w',W.grownBy w' (some bs)->w'.cell? ⟨w.heap.size,6,none⟩=some (.int .i64 h.xn):=λw' hb=>(HF.o w' hb).2.2.2.2.2.2.1.2;have L7: ∀w',W.grownBy w' (some bs)->w'.cell? ⟨w.heap.size,7,none⟩=some (.string h.bZ):=λw' hb=>(HF.o w' hb).2.2.2.2.2.2.2.1.2;have L8: ∀w',W.grownBy w' (some bs)->w'.cell? ⟨w.heap.size,8,none⟩=some (.slice dR h.aK.len cO):=λw' hb=>(HF.o w' hb).2.2.2.2.2.2.2.2.1.2;have LM: ∀w',W.grownBy w' (some bs)->w'.cell? ⟨bc,4,none⟩=some (.map (some bs)):=λw' hb=>(HK.o w' hb).2.2.2.2.1.2;have l0:=L0 W (fZ _);have hop:=bW.o;obtain⟨g1,g2,g3,g4,g5,g6,g7,g8,g9,g10,g11,g12,g13,g14,g15⟩:=SQ hop;clear hop l0;have l0:=L0 W (fZ _);go_upto_region 21 with fail;have hpos:0<p.ts.length:=by rw[hts];simp
 have aC2:(0:Int)<p.ts.length:=by omega
 obtain⟨b0,yY,eT⟩: ∃b0 yY,aD=some ⟨b0,yY,none⟩:=by have:=(HP.o W (fZ _)).2.2.2;rw[hts]at this;obtain⟨⟨b1,off1,fC,dw,bR,aY,e,-⟩,-⟩:=this;exact⟨b1,off1,e⟩
 subst eT;have LN: ∀w',W.grownBy w' (some bs)->w'.cell? ⟨b0,yY,none⟩=some (.string t0.nm):=λw' hb=>by have:=(HP.o w' hb).2.2.2;rw[hts]at this;exact YO this
 have LT: ∀w',W.grownBy w' (some bs)->w'.cell? ⟨bc,1,none⟩=some (.slice (some ⟨b0,yY,none⟩) p.ts.length ay):=λw' hb=>(HK.o w' hb).2.1.2;cases hq:dW ar [7,8,3] <;> cases ho:(h.nm.toList==t.nm.toList)
 all_goals
  refine xC 35 (MC W bs n f (yA f h.nm.toList)) (λw w'=>w.grownBy w' (some bs)) [109,110,111,112,113,114,115,116,117,118,119,120,121,122,123,124,125,126,127,128,129,130,131,132,133,134,135,136,137,138,139,140,141,142,143,144,145,146,4] (by kernel_rfl) (by kernel_rfl) (λ_=>fZ _) (by rfl) ⟨gW (below_drewN (Below.refl _ _) 1),by simpa using HM.o.next (below_drewN (Below.refl _ _) 1)⟩ ?_
  iterate 3
   apply dQ.step
   case aJ=>intro β A w' hβ hC hO hD;have e0:=hO 0 (by rfl);have e3:=hO 3 (by rfl);simp[Act.eval]at e0 e3;simp[Act.eval]at hD;simp[go_sem,gd,Oper.wp,e0,e3,hD,L2,hC.1];exact aG.mk (fZ _) (by simpa using hC) (aW.mk _ _)
   try simp only[bP]
  refine dQ.some (λv w'=> ∃b,b≠bs∧v= .slice (some ⟨b,0,none⟩) 1 1∧eH w' w'.heap.size [8] (some ⟨b,0,none⟩) 0) ?_ ?_ ?_
  ·rintro v w w' hle ⟨b,hbn,rfl,hin⟩;exact⟨b,hbn,rfl,eH.grow hbn hle hin⟩
  ·intro β A w' hβ hC hO hD;simp[go_sem,gd,Oper.wp];exact aG.mk (d:=_) (v:= .slice (some ⟨_,0,none⟩) 1 1) (gW (ak _ _)) (by simpa using hC.below (ak _ _)) ⟨_,by have:=hC.2.lt;omega,rfl,iq _ 8 _⟩
  simp only[bP];apply dQ.step
  case aJ=>intro β A w' hβ hC hO hD;simp[Act.eval]at hD;obtain⟨aS5,aS6,bi4,bh5,aS7,at7⟩:=hD;simp[go_sem,gd,Oper.wp,aS5,aS6,aS7];refine(jO p w' aB (some ⟨b0,yY,none⟩) aA ay _ bK _ aU bs bt bc h.nm [8] _ 1 hi (by decide) (HP.o _ hC.1) at7 (HK.o _ hC.1)).mono ?_;rintro e' w2 ⟨rfl,hb⟩;exact aG.mk (gW hb) (by simpa using hC.below hb) (aW.mk _ _)
  simp only[bP];apply dQ.step
  case aJ=>intro β A w' hβ hC hO hD;have e0:=hO 0 (by rfl);have e3:=hO 3 (by rfl);simp[Act.eval]at e0 e3;simp[Act.eval]at hD;simp[go_sem,gd,Oper.wp,e0,e3,hD];exact aG.mk (fZ _) (by simpa using hC) (aW.mk _ _)
  simp only[bP];refine dQ.some (λv w'=> ∃b,b≠bs∧v= .slice (some ⟨b,0,none⟩) 3 3∧eH w' w'.heap.size [7,8,3] (some ⟨b,0,none⟩) 0) ?_ ?_ ?_
  ·rintro v w w' hle ⟨b,hbn,rfl,hin⟩;exact⟨b,hbn,rfl,eH.grow hbn hle hin⟩
  ·intro β A w' hβ hC hO hD;simp[go_sem,gd,Oper.wp];exact aG.mk (d:=_) (v:= .slice (some ⟨_,0,none⟩) 3 3) (gW (ak _ _)) (by simpa using hC.below (ak _ _)) ⟨_,by have:=hC.2.lt;omega,rfl,zK _ 7 8 3 _⟩
  simp only[bP];apply dQ.step
  case aJ=>intro β A w' hβ hC hO hD;simp[Act.eval]at hD;obtain⟨aS8,⟨bi5,bh6,aS9,au0⟩,-⟩:=hD;simp[go_sem,gd,Oper.wp,aS8,aS9];refine(hq ▸ kH p w' aB (some ⟨b0,yY,none⟩) aA ay (j:Int) bK aU bs bt bc ar [7,8,3] _ 3 (by decide) au0 jd.o (jy.o _ hC.1) (HK.o _ hC.1)).mono ?_;rintro e' w2 ⟨rfl,hb⟩;exact aG.mk (gW hb) (by simpa using hC.below hb) (aW.mk _ _)
  simp only[bP];apply dQ.step
  case aJ=>intro β A w' hβ hC hO hD;have e0:=hO 0 (by rfl);have e3:=hO 3 (by rfl);simp[Act.eval]at e0 e3;simp[Act.eval]at hD;simp[go_sem,gd,Oper.wp,e0,e3,hD];exact aG.mk (fZ _) (by simpa using hC) (aW.mk _ _)
  simp only[bP]
  iterate 3
   first
   |(apply dQ.step
     case aJ=>intro β A w' hβ hC hO hD;have e0:=hO 0 (by rfl);have e3:=hO 3 (by rfl);simp[Act.eval]at e0 e3;simp[Act.eval]at hD;simp[go_sem,gd,Oper.wp,e0,e3,hD,L2,hC.1];exact aG.mk (fZ _) (by simpa using hC) (aW.mk _ _))
   |(refine dQ.step (v:=undef) ?_ ?_
     ·intro β A w' hβ hC hO hD;simp[Act.eval]at hD;simp[gd,Act.eval,hD]
      first|done|exact aW.mk _ _|exact⟨by rfl,aW.mk _ _⟩)
   try simp only[bP]
  first
  |(apply dQ.step
    case aJ=>intro β A w' hβ hC hO hD;simp[Act.eval]at hD;simp[go_sem,gd,Oper.wp,hD];refine(Lg p w' aB (some ⟨b0,yY,none⟩) aA ay bK ar.len aU bs bt bc j t r hd (HP.o _ hC.1) (HK.o _ hC.1)).mono ?_;rintro e' w2 ⟨rfl,hb⟩;exact aG.mk (gW hb) (by simpa using hC.below hb) (aW.mk _ _))
  |(refine dQ.step (v:=undef) ?_ ?_
    ·intro β A w' hβ hC hO hD;simp[Act.eval]at hD;simp[gd,Act.eval,hD]
     first|done|exact aW.mk _ _|exact⟨by rfl,aW.mk _ _⟩)
  try simp only[bP]
  iterate 15
   first
   |(apply dQ.step
     case aJ=>intro β A w' hβ hC hO hD;have e0:=hO 0 (by rfl);have e3:=hO 3 (by rfl);simp[Act.eval]at e0 e3;simp[Act.eval]at hD;simp[go_sem,gd,Oper.wp,e0,e3,hD,ho,L2,hC.1,LT,hpos,aC2,LN];exact aG.mk (fZ _) (by simpa using hC) (aW.mk _ _))
   |(refine dQ.step (v:=undef) ?_ ?_
     ·intro β A w' hβ hC hO hD;simp[Act.eval]at hD;simp[gd,Act.eval,hD]
      first|done|exact aW.mk _ _|exact⟨by rfl,aW.mk _ _⟩)
   try simp only[bP]
  apply dQ.step
  case aJ=>intro β A w' hβ hC hO hD;simp[Act.eval]at hD;simp[go_sem,gd,Oper.wp,hD];refine(lu _ w').mono ?_;rintro e' w2 ⟨rfl,rfl⟩;exact aG.mk (fZ _) (by simpa using hC) (aW.mk _ _)
  simp only[bP]
  iterate 6
   apply dQ.step
   case aJ=>intro β A w' hβ hC hO hD;have e0:=hO 0 (by rfl);have e3:=hO 3 (by rfl);simp[Act.eval]at e0 e3;simp[Act.eval]at hD;simp[go_sem,gd,Oper.wp,e0,e3,hD,LM,hC.1,L2];exact aG.mk (fZ _) (by simpa using hC) (aW.mk _ _)
   try simp only[bP]
  apply dQ.step
  case aJ=>intro β A w' hβ hC hO hD;obtain rfl:=hβ (by simp);simp[Act.eval]at hD;simp[go_sem,gd,Oper.wp,hD];refine(OE h.nm w' bs n f HN.o HNS.o (by simpa using hC.2)).mono ?_;rintro e' w2 ⟨rfl,hm2,hg2⟩;exact aG.mk hg2 ⟨wS hC.1 hg2,by simpa using hm2⟩ (aW.mk _ _)
  simp only[bP];refine dQ.some (λv w'=> ∃b,b≠bs∧v= .slice (some ⟨b,0,none⟩) 3 3∧eH w' w'.heap.size [dh (mean p (j:Int) h.nm) [8],nest (dW ar [7,8,3]||(h.nm.toList==t.nm.toList||h.nm.toList==t0.nm.toList)),(jR (f h.nm.toList))] (some ⟨b,0,none⟩) 0) ?_ ?_ ?_
  ·rintro v w w' hle ⟨b,hbn,rfl,hin⟩;exact⟨b,hbn,rfl,eH.grow hbn hle hin⟩
  ·intro β A w' hβ hC hO hD;simp[Act.eval]at hD;simp[go_sem,gd,Oper.wp,hD];exact aG.mk (d:=_) (v:= .slice (some ⟨_,0,none⟩) 3 3) (gW (ak _ _)) (by simpa using hC.below (ak _ _)) ⟨_,by have:=hC.2.lt;omega,rfl,by rw[hq,ho];exact zK _ _ _ _ _⟩
  simp only[bP];apply dQ.step
  case aJ=>intro β A w' hβ hC hO hD;simp[Act.eval]at hD;obtain⟨⟨bi6,bh7,aT0,au1⟩,-⟩:=hD;simp[go_sem,gd,Oper.wp,aT0];refine(jL [dh (mean p (j:Int) h.nm) [8],nest (dW ar [7,8,3]||(h.nm.toList==t.nm.toList||h.nm.toList==t0.nm.toList)),(jR (f h.nm.toList))] w' _ _ (by simp[maxLen]) au1).mono ?_;rintro e' w2 ⟨rfl,rfl⟩;exact aG.mk (fZ _) (by simpa using hC) (aW.mk _ _)
  simp only[bP];apply dQ.step
  case aJ=>intro β A w' hβ hC hO hD;have e0:=hO 0 (by rfl);have e3:=hO 3 (by rfl);simp[Act.eval]at e0 e3;simp[Act.eval]at hD;simp[go_sem,gd,Oper.wp,e0,e3,hD];exact aG.mk (fZ _) (by simpa using hC) (aW.mk _ _)
  simp only[bP];intro wz bH
  iterate 38 intro _ _
  intro v38 h38;have hl':v38=_:=h38;subst hl';clear h38;refine dA.nil ?_;have HZ:aj (MC W bs n f (yA f h.nm.toList) true wz):=ah (by simpa using bH);clear bH;go_simp;go_wp2_with fail;go_ret;refine JN ?_ HZ.o HG.o
  first|exact congrArg (Value.int .i64) HR.o.symm|(rw[<- HR.o];done)|(rw[<- HR.o,hq];rfl)|(rw[<- HR.o,hq,ho];rfl)|(rw[<- HR.o];simp[hq,ho])
end
end Go.Proofs.YtkmllehjemjgpaaGreatDoor
