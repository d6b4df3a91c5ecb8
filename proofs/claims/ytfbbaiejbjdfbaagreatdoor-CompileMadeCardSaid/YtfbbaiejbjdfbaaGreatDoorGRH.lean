/- Contract of the reference walk's one: where nothing is appended. -/
import Derived.Test.YtfbbaiejbjdfbaaGreatDoorGRC
import Derived.Test.YtfbbaiejbjdfbaaGreatDoorGRA
import Derived.Test.YtfbbaiejbjdfbaaGreatDoorGRF
import Derived.IntWalk
import Derived.Deep.RegionWith
set_option linter.unusedSimpArgs false
set_option linter.unusedVariables false
set_option maxHeartbeats 40000000
set_option maxRecDepth 1000000
namespace Go.Proofs.YtfbbaiejbjdfbaaGreatDoor
open Go.RowKit
open Md
section
variable (p:Pr) (w:World) (aB aD:Option Addr) (aA ay:Nat) (i:Int) (bR:Option Addr) (bf bc:Nat) (kI:Option Addr) (qy iP:Nat) (gY:Option Addr) (qx iO:Nat)
theorem am1 (h:dL) (b e ar:aH) (s:Sl) {res:Int} (hi:bS i) (hp:p.At w aB aD) (hin:DL w h b e s) (har:ar.len<=maxLen) (hat:ar.At w w.heap.size bR 0) (hh:Holds w (I7 bc p aB aD aA ay i bR ar.len bf kI qy iP gY qx iO)) (hc:
 (h.op=1∧h.idx.len=0∧res=(kN (gF (conv (mean p i h.nm)) 8 1) (jT p i h.bY h.xn h.bW h.aI)))∨
 (h.op=1∧ ∃LZ n0 LX BQ Fg,h.idx= .cons LZ n0 LX BQ Fg∧res=(kN (gF (conv (mean p i h.nm)) 2 2) (kN (jT p i LZ n0 LX BQ) (jT p i h.bY h.xn h.bW h.aI))))∨
 (h.op=2∧res=(jT p i h.bY h.xn h.bW h.aI))∨
 (h.op=3∧res=(jT p i h.bY h.xn h.bW h.aI))∨
 (h.op=4∧res=(kN (gF (conv (mean p i h.nm)) 3 3) (nest (eF ar 7 7 ⟨#[]⟩ || eF ar 4 4 h.nm))))∨
 (h.op=5∧res=(kN (gF (conv (mean p i h.nm)) 4 4) (nest (eF ar 7 7 ⟨#[]⟩ || eF ar 5 6 h.nm))))∨
 (h.op=6∧res=(kN (gF (conv (mean p i h.nm)) 4 4) (nest (eF ar 7 7 ⟨#[]⟩ || eF ar 5 6 h.nm))))∨
 (h.op=7∧res=(nest (eF ar 7 7 ⟨#[]⟩)))∨
 (h.op=8∧res=(nest (eF ar 7 7 ⟨#[]⟩ || eF ar 8 8 ⟨#[]⟩)))∨
 (h.op=9∧res=(if gF (conv (mean p i h.nm)) 5 5 != 0 then gF (conv (mean p i h.nm)) 5 5 else nest ((eF ar 7 7 ⟨#[]⟩ || !eF ar 4 4 (qm p.ds h.nm)) || (true && eF ar 8 8 ⟨#[]⟩))))∨
 (h.op=10∧res=(if gF (conv (mean p i h.nm)) 5 5 != 0 then gF (conv (mean p i h.nm)) 5 5 else nest ((eF ar 7 7 ⟨#[]⟩ || !eF ar 4 4 (qm p.ds h.nm)) || (false && eF ar 8 8 ⟨#[]⟩))))∨
 (h.op=11∧res=(if gF (conv (mean p i h.nm)) 5 5 != 0 then gF (conv (mean p i h.nm)) 5 5 else nest ((eF ar 7 7 ⟨#[]⟩ || !eF ar 4 4 (qm p.ds h.nm)) || (false && eF ar 8 8 ⟨#[]⟩))))∨
 (h.op=13∧res=(kN (gF (conv (mean p i h.nm)) 7 7) (nest ((eF ar 7 7 ⟨#[]⟩ || eF ar 8 8 ⟨#[]⟩) || rF p.ts h.nm == i))))∨
 (h.op=15∧res=(kN (gF (conv (mean p i h.nm)) 8 8) (kN (gF (conv (mean p i h.arg)) 6 6) (nest (eF ar 7 7 ⟨#[]⟩)))))):
 Calls Tryz.prog 64 #[.pointer (some ⟨bc,0,none⟩),dS h b e s] w fun e' w'=>e'= .returned (.int .i64 res)∧Below w.heap.size w w':=by
 have Ky:=ah hc;clear hc;have HH:=ah (show Sit w w _ from ⟨Below.refl _ _,hh⟩);have ni:=ah hin;have kG:=ah hat;have jA:=ah har;have HP:=ah hp;unfold dS;clear hh hin hat har hp;go_enter Tryz.func64,Tryz.ntmps64;go_upto_region 1 with fail;generalize hW:World.alloc w _=W;generalize Value.agg #[_,_,_,_,_,_,_,_,_,_,_]=a0;have HX:aj (Sit w W (sQ w.heap.size h b e s (I7 bc p aB aD aA ay i bR ar.len bf kI qy iP gY qx iO))):=ah (by rw [<- hW]; exact HH.o.wK rfl _ _ _ _ _ _ _ _ _ _ _ _);clear hW HH;have K0: ∀w',Below W.heap.size W w'->w'.cell? ⟨bc,0,none⟩=some (.slice aB p.ds.length aA):=fun w' hb=>(HX.o.next hb).2.2.2.2.2.2.2.2.2.2.2.2.1.2;have K1: ∀w',Below W.heap.size W w'->w'.cell? ⟨bc,1,none⟩=some (.slice aD p.ts.length ay):=fun w' hb=>(HX.o.next hb).2.2.2.2.2.2.2.2.2.2.2.2.2.1.2;have K2: ∀w',Below W.heap.size W w'->w'.cell? ⟨bc,2,none⟩=some (.int .i64 i):=fun w' hb=>(HX.o.next hb).2.2.2.2.2.2.2.2.2.2.2.2.2.2.1.2;have HD1:Below W.heap.size W (W.drewN 1):=below_drewN (Below.refl _ _) 1;refine bG (by kernel_rfl) rfl ?_;generalize W.drewN 1=W1 at *;refine aY 0 11 [8,9] [[],[0],[0,1],[0,1,2],[],[4],[4,5],[4,5,6],[],[0,1,2,3,8],[0,1,2,3,4,5,6,7,8,9]] [[none,some false],[none,some false],[none,some false],[none,some false],[none,none],[none,none],[none,none],[none,none],[some false,some false],[some true,some false],[some true,some true]] (AC W1 (.cells #[.slice none 0 0,.slice none 0 0] 26) (.cells #[.slice aB p.ds.length aA,.slice aD p.ts.length ay] 26)) (fun _ _=>True) [15,16,17,18,19,20,21,22,5,6] rfl rfl (by rfl) (by kernel_rfl) (by kernel_rfl) (by kernel_rfl) (by kernel_rfl) (by kernel_rfl) (by rfl) (fun _=>trivial) (by rfl) rfl ?_;simp only [eP,jC]
 iterate 8
  apply aU.step
  case aM=>intro c A w' hok hC hO hD;have e0:=hO 0 (by rfl);simp [Act.eval] at e0;simp [Act.eval] at hD;simp [go_sem,gd,Oper.wp,hD,e0,K0,K1,AC.below HD1 hC,K2];exact aG.mk trivial (AC.skip (by rfl) (by rfl) hC) (bH.mk _ _)
  try simp only [bP]
 apply aU.step
 case aM=>intro c A w' hok hC hO hD;obtain ⟨x,y,rfl⟩:=hC.bits;obtain ⟨rfl,rfl,-⟩:=hok;have hw:w'=W1:=hC;subst hw;simp [go_sem,gd,Oper.wp];exact aG.mk trivial (AC.lay (by rfl) (by rfl)) (bH.mk _ _)
 refine aU.some (fun _ _=>True) (fun _ _ _ _ _=>trivial) ?_ ?_
 ·intro c A w' hok hC hO hD;obtain ⟨x,y,rfl⟩:=hC.bits;obtain ⟨rfl,rfl,-⟩:=hok;have hw:w'=W1.alloc _:=hC;subst hw;simp [Act.eval] at hD;simp [go_sem,gd,Oper.wp,hD];exact aG.CX (v:=undef) trivial (AC.fill (by rfl) (by rfl)) trivial
 try simp only [bP]
 apply aU.step
 case aM=>intro c A w' hok hC hO hD;simp [Act.eval] at hD;simp [go_sem,gd,Oper.wp,hD];exact aG.mk trivial (AC.skip (by rfl) (by rfl) hC) (bH.mk _ _)
 try simp only [bP]
 refine aU.done ?_;intro wz bC;simp only [List.drop_zero];intro v0 h0 v1 h1 v2 h2 v3 h3 v4 h4 v5 h5 v6 h6 v7 h7 v8 h8 v9 h9 v10 h10;have h8':v8=_:=h8;have JX:v10=_:=h10;subst h8' JX;clear h0 h1 h2 h3 h4 h5 h6 h7 h8 h9 h10;refine dJ.nil ?_;refine bV rfl ?_;have GA:wz=W1.alloc _:=bC;generalize hn1:W1.heap.size=n1 at *;have HY:=ah ((HX.o.next HD1).yg hn1 (.slice aB p.ds.length aA) (.slice aD p.ts.length ay) 26);rw [<- GA] at HY;clear bC GA HX K0 K1 K2 HD1 hn1;go_simp
 iterate 3 obtain ⟨-,⟨-,c0⟩,⟨-,c1⟩,⟨-,c2⟩,⟨-,c3⟩,⟨-,c4⟩,⟨-,c5⟩,⟨-,c6⟩,⟨-,c7⟩,⟨-,c8⟩,⟨-,c9⟩,⟨-,c10⟩,⟨-,c11⟩,⟨-,c12⟩,⟨-,c13⟩,⟨-,c14⟩,⟨-,c15⟩,⟨-,c16⟩,⟨-,c17⟩,⟨-,c18⟩,-⟩:=HY.o;go_wp2_with fail;refine (iF p _ aB aD aA ay i bR bf bc kI qy iP gY qx iO ar _ _ ⟨#[]⟩ jA.o (kG.o.same HY.o.1) (nG HY.o)).mono ?_;rintro e' W ⟨rfl,hb⟩;replace HY:=ah (HY.o.next hb);clear hb c0 c1 c2 c3 c4 c5 c6 c7 c8 c9 c10 c11 c12 c13 c14 c15 c16 c17 c18
 obtain ⟨-,⟨-,c0⟩,⟨-,c1⟩,⟨-,c2⟩,⟨-,c3⟩,⟨-,c4⟩,⟨-,c5⟩,⟨-,c6⟩,⟨-,c7⟩,⟨-,c8⟩,⟨-,c9⟩,⟨-,c10⟩,⟨-,c11⟩,⟨-,c12⟩,⟨-,c13⟩,⟨-,c14⟩,⟨-,c15⟩,⟨-,c16⟩,⟨-,c17⟩,⟨-,c18⟩,-⟩:=HY.o;generalize htx:eF ar 7 7 ⟨#[]⟩=tx at *;generalize hat':eF ar 8 8 ⟨#[]⟩=NV at *;generalize hlo:eF ar 3 3 ⟨#[]⟩=lop at *;clear htx hat' hlo;rcases Ky.o with ⟨hop,hx,hr⟩ | ⟨hop,LZ,n0,LX,BQ,Fg,hix,hr⟩ | ⟨hop,hr⟩ | ⟨hop,hr⟩ | ⟨hop,hr⟩ | ⟨hop,hr⟩ | ⟨hop,hr⟩ | ⟨hop,hr⟩ | ⟨hop,hr⟩ | ⟨hop,hr⟩ | ⟨hop,hr⟩ | ⟨hop,hr⟩ | ⟨hop,hr⟩ | ⟨hop,hr⟩
 all_goals have HR:=ah hr;clear hr Ky
 ·obtain ⟨g1,g2,g3,g4,g5,g6,g7,g8,g9,g10,g11,g12,g13,g14,g15⟩:=op1 hop;clear hop;rw [hx] at c6;clear hx;go_upto_region 8 with fail;obtain ⟨T,F,Bc,hst,hF,hnext⟩:=calm W;have HF:=ah hF;have cO:=ah hnext;clear hnext hF;have d0:=fun x=>(HY.o.next (HF.o x)).2.1.2;have d1:=fun x=>(HY.o.next (HF.o x)).2.2.1.2;have d2:=fun x=>(HY.o.next (HF.o x)).2.2.2.1.2;have d3:=fun x=>(HY.o.next (HF.o x)).2.2.2.2.1.2;have d4:=fun x=>(HY.o.next (HF.o x)).2.2.2.2.2.1.2;have d5:=fun x=>(HY.o.next (HF.o x)).2.2.2.2.2.2.1.2;have d6:=fun x=>(HY.o.next (HF.o x)).2.2.2.2.2.2.2.1.2;have d7:=fun x=>(HY.o.next (HF.o x)).2.2.2.2.2.2.2.2.1.2;have d8:=fun x=>(HY.o.next (HF.o x)).2.2.2.2.2.2.2.2.2.1.2;have d9:=fun x=>(HY.o.next (HF.o x)).2.2.2.2.2.2.2.2.2.2.1.2;have xq:=fun x=>(HY.o.next (HF.o x)).2.2.2.2.2.2.2.2.2.2.2.1.2;have uX:=fun x=>(HY.o.next (HF.o x)).2.2.2.2.2.2.2.2.2.2.2.2.1.2;have BD:=fun x=>(HY.o.next (HF.o x)).2.2.2.2.2.2.2.2.2.2.2.2.2.1.2;have Dk:=fun x=>(HY.o.next (HF.o x)).2.2.2.2.2.2.2.2.2.2.2.2.2.2.1.2;have xP:=fun x=>(HY.o.next (HF.o x)).2.2.2.2.2.2.2.2.2.2.2.2.2.2.2.1.2;have Dl:=fun x=>(HY.o.next (HF.o x)).2.2.2.2.2.2.2.2.2.2.2.2.2.2.2.2.1.2;have BF:=fun x=>(HY.o.next (HF.o x)).2.2.2.2.2.2.2.2.2.2.2.2.2.2.2.2.2.1.2;have Dm:=fun x=>(HY.o.next (HF.o x)).2.2.2.2.2.2.2.2.2.2.2.2.2.2.2.2.2.2.1.2;have BG:=fun x=>(HY.o.next (HF.o x)).2.2.2.2.2.2.2.2.2.2.2.2.2.2.2.2.2.2.2.1.2;clear c0 c1 c2 c3 c4 c5 c6 c7 c8 c9 c10 c11 c12 c13 c14 c15 c16 c17 c18;refine je F (by kernel_rfl) (by kernel_rfl) hst ?_
  repeat (any_goals (first | go_big_quiet_step ((first | (go_at_call 97; refine (iY p i h.nm 8 1 _ aB aD aA ay hi ((HP.o.same HY.o.1).same (HF.o _))).mono ?_; rintro e w' ⟨rfl,hb⟩; exact ⟨rfl,cO.o _ _ hb⟩) | (go_at_call 98; refine (jw p i h.bY h.xn h.bW h.aI _ aB aD s.dX aA ay s.dA hi ((HP.o.same HY.o.1).same (HF.o _)) ni.o.1.2.2.2.2.2.1 ((ni.o.2.2.1.same HY.o.1).same (HF.o _))).mono ?_; rintro e w' ⟨rfl,hb⟩; exact ⟨rfl,cO.o _ _ hb⟩) | (go_at_call 96; refine (jJ _ _ _).mono ?_; rintro e w' ⟨rfl,rfl⟩; exact ⟨rfl,cO.o _ _ (Below.refl _ _)⟩))) | (refine wpQuiet_step (fun K hK=> ?_); go_simp; first | (refine hK _ ?_; clear hK K) | (split <;> first | (refine hK _ ?_; clear hK K) | (apply Exists.intro; refine ⟨fun _=> ?_,hK _ ?_⟩; ((first | (go_at_call 97; refine (iY p i h.nm 8 1 _ aB aD aA ay hi ((HP.o.same HY.o.1).same (HF.o _))).mono ?_; rintro e w' ⟨rfl,hb⟩; exact ⟨rfl,cO.o _ _ hb⟩) | (go_at_call 98; refine (jw p i h.bY h.xn h.bW h.aI _ aB aD s.dX aA ay s.dA hi ((HP.o.same HY.o.1).same (HF.o _)) ni.o.1.2.2.2.2.2.1 ((ni.o.2.2.1.same HY.o.1).same (HF.o _))).mono ?_; rintro e w' ⟨rfl,hb⟩; exact ⟨rfl,cO.o _ _ hb⟩) | (go_at_call 96; refine (jJ _ _ _).mono ?_; rintro e w' ⟨rfl,rfl⟩; exact ⟨rfl,cO.o _ _ (Below.refl _ _)⟩))); clear hK K)))))
  all_goals (refine wpQuiet_nil ?_; rintro _ ⟨x,rfl⟩)
  replace HY:=ah (HY.o.next (HF.o x));clear d0 d1 d2 d3 d4 d5 d6 d7 d8 d9 xq uX BD Dk xP Dl BF Dm BG HF cO hst;generalize F x=W2 at *;go_wp2_with fail;go_ret;exact ⟨bF (by first | exact HR.o.symm | (rw [HR.o]; first | done | rfl | simp [kN,nest])),HY.o.1⟩
 ·obtain ⟨⟨b0,Bd,Bz,cap0,hao,jD,x0,x1,x2,x3,hok0,hk0⟩,-⟩:=(hix ▸ ni.o.2.1:(aZ.cons LZ n0 LX BQ Fg).At w w.heap.size s.dU 0);have HO0:=ah (And.intro hok0 hk0);have NP:=ah (And.intro jD (And.intro x0 (And.intro x1 (And.intro x2 x3))));have zH:=ah hao;have NA:=ah hix;clear hok0 hk0 jD x0 x1 x2 x3 hao hix;obtain ⟨g1,g2,g3,g4,g5,g6,g7,g8,g9,g10,g11,g12,g13,g14,g15⟩:=op1 hop;clear hop;rw [NA.o,zH.o] at c6;simp only [aZ.len] at c6;go_upto_region 9 with fail;obtain ⟨T,F,Bc,hst,hF,hnext⟩:=calm W;have HF:=ah hF;have cO:=ah hnext;clear hnext hF;have d0:=fun x=>(HY.o.next (HF.o x)).2.1.2;have d1:=fun x=>(HY.o.next (HF.o x)).2.2.1.2;have d2:=fun x=>(HY.o.next (HF.o x)).2.2.2.1.2;have d3:=fun x=>(HY.o.next (HF.o x)).2.2.2.2.1.2;have d4:=fun x=>(HY.o.next (HF.o x)).2.2.2.2.2.1.2;have d5:=fun x=>(HY.o.next (HF.o x)).2.2.2.2.2.2.1.2;have d6:=fun x=>(HY.o.next (HF.o x)).2.2.2.2.2.2.2.1.2;have d7:=fun x=>(HY.o.next (HF.o x)).2.2.2.2.2.2.2.2.1.2;have d8:=fun x=>(HY.o.next (HF.o x)).2.2.2.2.2.2.2.2.2.1.2;have d9:=fun x=>(HY.o.next (HF.o x)).2.2.2.2.2.2.2.2.2.2.1.2;have xq:=fun x=>(HY.o.next (HF.o x)).2.2.2.2.2.2.2.2.2.2.2.1.2;have uX:=fun x=>(HY.o.next (HF.o x)).2.2.2.2.2.2.2.2.2.2.2.2.1.2;have BD:=fun x=>(HY.o.next (HF.o x)).2.2.2.2.2.2.2.2.2.2.2.2.2.1.2;have Dk:=fun x=>(HY.o.next (HF.o x)).2.2.2.2.2.2.2.2.2.2.2.2.2.2.1.2;have xP:=fun x=>(HY.o.next (HF.o x)).2.2.2.2.2.2.2.2.2.2.2.2.2.2.2.1.2;have Dl:=fun x=>(HY.o.next (HF.o x)).2.2.2.2.2.2.2.2.2.2.2.2.2.2.2.2.1.2;have BF:=fun x=>(HY.o.next (HF.o x)).2.2.2.2.2.2.2.2.2.2.2.2.2.2.2.2.2.1.2;have Dm:=fun x=>(HY.o.next (HF.o x)).2.2.2.2.2.2.2.2.2.2.2.2.2.2.2.2.2.2.1.2;have BG:=fun x=>(HY.o.next (HF.o x)).2.2.2.2.2.2.2.2.2.2.2.2.2.2.2.2.2.2.2.1.2;clear c0 c1 c2 c3 c4 c5 c6 c7 c8 c9 c10 c11 c12 c13 c14 c15 c16 c17 c18;have y0:=fun x=>(((HY.o.1.trans ((HF.o x).mono HY.o.1.size)).cell (p:=⟨b0,Bd + 0 * 4,none⟩) NP.o.1)).trans NP.o.2.1;have y1:=fun x=>(((HY.o.1.trans ((HF.o x).mono HY.o.1.size)).cell (p:=⟨b0,Bd + 0 * 4 + 1,none⟩) NP.o.1)).trans NP.o.2.2.1;have y2:=fun x=>(((HY.o.1.trans ((HF.o x).mono HY.o.1.size)).cell (p:=⟨b0,Bd + 0 * 4 + 2,none⟩) NP.o.1)).trans NP.o.2.2.2.1;have y3:=fun x=>(((HY.o.1.trans ((HF.o x).mono HY.o.1.size)).cell (p:=⟨b0,Bd + 0 * 4 + 3,none⟩) NP.o.1)).trans NP.o.2.2.2.2;simp only [Nat.zero_mul,Nat.add_zero] at y0 y1 y2 y3;simp only [NA.o,zH.o,aZ.len] at d6;have hz0:(0:Int) < (Fg.len:Int) + 1:=by omega
  have hz1:(0:Int) < ((Fg.len + 1:Nat):Int):=by omega
  refine je F (by kernel_rfl) (by kernel_rfl) hst ?_
  repeat (any_goals (first | go_big_quiet_step ((first | (go_at_call 97; refine (iY p i h.nm 2 2 _ aB aD aA ay hi ((HP.o.same HY.o.1).same (HF.o _))).mono ?_; rintro e w' ⟨rfl,hb⟩; exact ⟨rfl,cO.o _ _ hb⟩) | (go_at_call_of 98 (Value.agg #[.int .i64 LZ,.int .i64 n0,.string LX,.slice Bz BQ.len cap0]); refine (jw p i LZ n0 LX BQ _ aB aD Bz aA ay cap0 hi ((HP.o.same HY.o.1).same (HF.o _)) HO0.o.1 ((HO0.o.2.same HY.o.1).same (HF.o _))).mono ?_; rintro e w' ⟨rfl,hb⟩; exact ⟨rfl,cO.o _ _ hb⟩) | (go_at_call_of 98 (Value.agg #[.int .i64 h.bY,.int .i64 h.xn,.string h.bW,.slice s.dX h.aI.len s.dA]); refine (jw p i h.bY h.xn h.bW h.aI _ aB aD s.dX aA ay s.dA hi ((HP.o.same HY.o.1).same (HF.o _)) ni.o.1.2.2.2.2.2.1 ((ni.o.2.2.1.same HY.o.1).same (HF.o _))).mono ?_; rintro e w' ⟨rfl,hb⟩; exact ⟨rfl,cO.o _ _ hb⟩) | (go_at_call 96; refine (jJ _ _ _).mono ?_; rintro e w' ⟨rfl,rfl⟩; exact ⟨rfl,cO.o _ _ (Below.refl _ _)⟩))) | (refine wpQuiet_step (fun K hK=> ?_); go_simp; first | (refine hK _ ?_; clear hK K) | (split <;> first | (refine hK _ ?_; clear hK K) | (apply Exists.intro; refine ⟨fun _=> ?_,hK _ ?_⟩; ((first | (go_at_call 97; refine (iY p i h.nm 2 2 _ aB aD aA ay hi ((HP.o.same HY.o.1).same (HF.o _))).mono ?_; rintro e w' ⟨rfl,hb⟩; exact ⟨rfl,cO.o _ _ hb⟩) | (go_at_call_of 98 (Value.agg #[.int .i64 LZ,.int .i64 n0,.string LX,.slice Bz BQ.len cap0]); refine (jw p i LZ n0 LX BQ _ aB aD Bz aA ay cap0 hi ((HP.o.same HY.o.1).same (HF.o _)) HO0.o.1 ((HO0.o.2.same HY.o.1).same (HF.o _))).mono ?_; rintro e w' ⟨rfl,hb⟩; exact ⟨rfl,cO.o _ _ hb⟩) | (go_at_call_of 98 (Value.agg #[.int .i64 h.bY,.int .i64 h.xn,.string h.bW,.slice s.dX h.aI.len s.dA]); refine (jw p i h.bY h.xn h.bW h.aI _ aB aD s.dX aA ay s.dA hi ((HP.o.same HY.o.1).same (HF.o _)) ni.o.1.2.2.2.2.2.1 ((ni.o.2.2.1.same HY.o.1).same (HF.o _))).mono ?_; rintro e w' ⟨rfl,hb⟩; exact ⟨rfl,cO.o _ _ hb⟩) | (go_at_call 96; refine (jJ _ _ _).mono ?_; rintro e w' ⟨rfl,rfl⟩; exact ⟨rfl,cO.o _ _ (Below.refl _ _)⟩))); clear hK K)))))
  all_goals (refine wpQuiet_nil ?_; rintro _ ⟨x,rfl⟩)
  replace HY:=ah (HY.o.next (HF.o x));clear d0 d1 d2 d3 d4 d5 d6 d7 d8 d9 xq uX BD Dk xP Dl BF Dm BG y0 y1 y2 y3 HF cO hst;generalize F x=W2 at *;go_wp2_with fail;go_ret;exact ⟨bF (by first | exact HR.o.symm | (rw [HR.o]; first | done | rfl | simp [kN,nest])),HY.o.1⟩
 ·obtain ⟨g1,g2,g3,g4,g5,g6,g7,g8,g9,g10,g11,g12,g13,g14,g15⟩:=op2 hop;clear hop
  repeat
   go_wp2_with fail
   first
   | (go_at_call 99; refine (iH _ _).mono ?_; rintro e' W' ⟨rfl,rfl⟩)
   | (go_at_call 96; refine (jJ _ _ _).mono ?_; rintro e' W' ⟨rfl,rfl⟩)
   | (go_at_call 62; refine (iT p.ts h.nm _ aD ay HP.o.2.1 (HP.o.same HY.o.1).2.2.2).mono ?_; rintro e' W' ⟨rfl,rfl⟩; rw [HKK.o])
   | (first
      | (go_at_call 97; refine (iY p i h.nm _ _ _ aB aD aA ay hi (HP.o.same HY.o.1)).mono ?_)
      | (go_at_call 98; refine (jw p i h.bY h.xn h.bW h.aI _ aB aD s.dX aA ay s.dA hi (HP.o.same HY.o.1) ni.o.1.2.2.2.2.2.1 (ni.o.2.2.1.same HY.o.1)).mono ?_)
      | (go_at_call 95; refine (iF p _ aB aD aA ay i bR bf bc kI qy iP gY qx iO ar _ _ h.nm jA.o (kG.o.same HY.o.1) (nG HY.o)).mono ?_)
      rintro e' W ⟨rfl,hb⟩;replace HY:=ah (HY.o.next hb);clear hb c0 c1 c2 c3 c4 c5 c6 c7 c8 c9 c10 c11 c12 c13 c14 c15 c16 c17 c18;obtain ⟨-,⟨-,c0⟩,⟨-,c1⟩,⟨-,c2⟩,⟨-,c3⟩,⟨-,c4⟩,⟨-,c5⟩,⟨-,c6⟩,⟨-,c7⟩,⟨-,c8⟩,⟨-,c9⟩,⟨-,c10⟩,⟨-,c11⟩,⟨-,c12⟩,⟨-,c13⟩,⟨-,c14⟩,⟨-,c15⟩,⟨-,c16⟩,⟨-,c17⟩,⟨-,c18⟩,-⟩:=HY.o;skip)
  go_wp2_with fail;go_ret;exact ⟨bF (by first | exact HR.o.symm | (rw [HR.o]; first | done | rfl | simp [kN,nest])),HY.o.1⟩
 ·obtain ⟨g1,g2,g3,g4,g5,g6,g7,g8,g9,g10,g11,g12,g13,g14,g15⟩:=op3 hop;clear hop
  repeat
   go_wp2_with fail
   first
   | (go_at_call 99; refine (iH _ _).mono ?_; rintro e' W' ⟨rfl,rfl⟩)
   | (go_at_call 96; refine (jJ _ _ _).mono ?_; rintro e' W' ⟨rfl,rfl⟩)
   | (go_at_call 62; refine (iT p.ts h.nm _ aD ay HP.o.2.1 (HP.o.same HY.o.1).2.2.2).mono ?_; rintro e' W' ⟨rfl,rfl⟩; rw [HKK.o])
   | (first
      | (go_at_call 97; refine (iY p i h.nm _ _ _ aB aD aA ay hi (HP.o.same HY.o.1)).mono ?_)
      | (go_at_call 98; refine (jw p i h.bY h.xn h.bW h.aI _ aB aD s.dX aA ay s.dA hi (HP.o.same HY.o.1) ni.o.1.2.2.2.2.2.1 (ni.o.2.2.1.same HY.o.1)).mono ?_)
      | (go_at_call 95; refine (iF p _ aB aD aA ay i bR bf bc kI qy iP gY qx iO ar _ _ h.nm jA.o (kG.o.same HY.o.1) (nG HY.o)).mono ?_)
      rintro e' W ⟨rfl,hb⟩;replace HY:=ah (HY.o.next hb);clear hb c0 c1 c2 c3 c4 c5 c6 c7 c8 c9 c10 c11 c12 c13 c14 c15 c16 c17 c18;obtain ⟨-,⟨-,c0⟩,⟨-,c1⟩,⟨-,c2⟩,⟨-,c3⟩,⟨-,c4⟩,⟨-,c5⟩,⟨-,c6⟩,⟨-,c7⟩,⟨-,c8⟩,⟨-,c9⟩,⟨-,c10⟩,⟨-,c11⟩,⟨-,c12⟩,⟨-,c13⟩,⟨-,c14⟩,⟨-,c15⟩,⟨-,c16⟩,⟨-,c17⟩,⟨-,c18⟩,-⟩:=HY.o;skip)
  go_wp2_with fail;go_ret;exact ⟨bF (by first | exact HR.o.symm | (rw [HR.o]; first | done | rfl | simp [kN,nest])),HY.o.1⟩
 ·obtain ⟨g1,g2,g3,g4,g5,g6,g7,g8,g9,g10,g11,g12,g13,g14,g15⟩:=op4 hop;clear hop;cases tx
  all_goals
   repeat
    go_wp2_with fail
    first
    | (go_at_call 99; refine (iH _ _).mono ?_; rintro e' W' ⟨rfl,rfl⟩)
    | (go_at_call 96; refine (jJ _ _ _).mono ?_; rintro e' W' ⟨rfl,rfl⟩)
    | (go_at_call 62; refine (iT p.ts h.nm _ aD ay HP.o.2.1 (HP.o.same HY.o.1).2.2.2).mono ?_; rintro e' W' ⟨rfl,rfl⟩; rw [HKK.o])
    | (first
       | (go_at_call 97; refine (iY p i h.nm _ _ _ aB aD aA ay hi (HP.o.same HY.o.1)).mono ?_)
       | (go_at_call 98; refine (jw p i h.bY h.xn h.bW h.aI _ aB aD s.dX aA ay s.dA hi (HP.o.same HY.o.1) ni.o.1.2.2.2.2.2.1 (ni.o.2.2.1.same HY.o.1)).mono ?_)
       | (go_at_call 95; refine (iF p _ aB aD aA ay i bR bf bc kI qy iP gY qx iO ar _ _ h.nm jA.o (kG.o.same HY.o.1) (nG HY.o)).mono ?_)
       rintro e' W ⟨rfl,hb⟩;replace HY:=ah (HY.o.next hb);clear hb c0 c1 c2 c3 c4 c5 c6 c7 c8 c9 c10 c11 c12 c13 c14 c15 c16 c17 c18;obtain ⟨-,⟨-,c0⟩,⟨-,c1⟩,⟨-,c2⟩,⟨-,c3⟩,⟨-,c4⟩,⟨-,c5⟩,⟨-,c6⟩,⟨-,c7⟩,⟨-,c8⟩,⟨-,c9⟩,⟨-,c10⟩,⟨-,c11⟩,⟨-,c12⟩,⟨-,c13⟩,⟨-,c14⟩,⟨-,c15⟩,⟨-,c16⟩,⟨-,c17⟩,⟨-,c18⟩,-⟩:=HY.o;skip)
   go_wp2_with fail;go_ret;exact ⟨bF (by first | exact HR.o.symm | (rw [HR.o]; first | done | rfl | simp [kN,nest])),HY.o.1⟩
 ·obtain ⟨g1,g2,g3,g4,g5,g6,g7,g8,g9,g10,g11,g12,g13,g14,g15⟩:=op5 hop;clear hop;cases tx
  all_goals
   repeat
    go_wp2_with fail
    first
    | (go_at_call 99; refine (iH _ _).mono ?_; rintro e' W' ⟨rfl,rfl⟩)
    | (go_at_call 96; refine (jJ _ _ _).mono ?_; rintro e' W' ⟨rfl,rfl⟩)
    | (go_at_call 62; refine (iT p.ts h.nm _ aD ay HP.o.2.1 (HP.o.same HY.o.1).2.2.2).mono ?_; rintro e' W' ⟨rfl,rfl⟩; rw [HKK.o])
    | (first
       | (go_at_call 97; refine (iY p i h.nm _ _ _ aB aD aA ay hi (HP.o.same HY.o.1)).mono ?_)
       | (go_at_call 98; refine (jw p i h.bY h.xn h.bW h.aI _ aB aD s.dX aA ay s.dA hi (HP.o.same HY.o.1) ni.o.1.2.2.2.2.2.1 (ni.o.2.2.1.same HY.o.1)).mono ?_)
       | (go_at_call 95; refine (iF p _ aB aD aA ay i bR bf bc kI qy iP gY qx iO ar _ _ h.nm jA.o (kG.o.same HY.o.1) (nG HY.o)).mono ?_)
       rintro e' W ⟨rfl,hb⟩;replace HY:=ah (HY.o.next hb);clear hb c0 c1 c2 c3 c4 c5 c6 c7 c8 c9 c10 c11 c12 c13 c14 c15 c16 c17 c18;obtain ⟨-,⟨-,c0⟩,⟨-,c1⟩,⟨-,c2⟩,⟨-,c3⟩,⟨-,c4⟩,⟨-,c5⟩,⟨-,c6⟩,⟨-,c7⟩,⟨-,c8⟩,⟨-,c9⟩,⟨-,c10⟩,⟨-,c11⟩,⟨-,c12⟩,⟨-,c13⟩,⟨-,c14⟩,⟨-,c15⟩,⟨-,c16⟩,⟨-,c17⟩,⟨-,c18⟩,-⟩:=HY.o;skip)
   go_wp2_with fail;go_ret;exact ⟨bF (by first | exact HR.o.symm | (rw [HR.o]; first | done | rfl | simp [kN,nest])),HY.o.1⟩
 ·obtain ⟨g1,g2,g3,g4,g5,g6,g7,g8,g9,g10,g11,g12,g13,g14,g15⟩:=op6 hop;clear hop;cases tx
  all_goals
   repeat
    go_wp2_with fail
    first
    | (go_at_call 99; refine (iH _ _).mono ?_; rintro e' W' ⟨rfl,rfl⟩)
    | (go_at_call 96; refine (jJ _ _ _).mono ?_; rintro e' W' ⟨rfl,rfl⟩)
    | (go_at_call 62; refine (iT p.ts h.nm _ aD ay HP.o.2.1 (HP.o.same HY.o.1).2.2.2).mono ?_; rintro e' W' ⟨rfl,rfl⟩; rw [HKK.o])
    | (first
       | (go_at_call 97; refine (iY p i h.nm _ _ _ aB aD aA ay hi (HP.o.same HY.o.1)).mono ?_)
       | (go_at_call 98; refine (jw p i h.bY h.xn h.bW h.aI _ aB aD s.dX aA ay s.dA hi (HP.o.same HY.o.1) ni.o.1.2.2.2.2.2.1 (ni.o.2.2.1.same HY.o.1)).mono ?_)
       | (go_at_call 95; refine (iF p _ aB aD aA ay i bR bf bc kI qy iP gY qx iO ar _ _ h.nm jA.o (kG.o.same HY.o.1) (nG HY.o)).mono ?_)
       rintro e' W ⟨rfl,hb⟩;replace HY:=ah (HY.o.next hb);clear hb c0 c1 c2 c3 c4 c5 c6 c7 c8 c9 c10 c11 c12 c13 c14 c15 c16 c17 c18;obtain ⟨-,⟨-,c0⟩,⟨-,c1⟩,⟨-,c2⟩,⟨-,c3⟩,⟨-,c4⟩,⟨-,c5⟩,⟨-,c6⟩,⟨-,c7⟩,⟨-,c8⟩,⟨-,c9⟩,⟨-,c10⟩,⟨-,c11⟩,⟨-,c12⟩,⟨-,c13⟩,⟨-,c14⟩,⟨-,c15⟩,⟨-,c16⟩,⟨-,c17⟩,⟨-,c18⟩,-⟩:=HY.o;skip)
   go_wp2_with fail;go_ret;exact ⟨bF (by first | exact HR.o.symm | (rw [HR.o]; first | done | rfl | simp [kN,nest])),HY.o.1⟩
 ·obtain ⟨g1,g2,g3,g4,g5,g6,g7,g8,g9,g10,g11,g12,g13,g14,g15⟩:=op7 hop;clear hop
  repeat
   go_wp2_with fail
   first
   | (go_at_call 99; refine (iH _ _).mono ?_; rintro e' W' ⟨rfl,rfl⟩)
   | (go_at_call 96; refine (jJ _ _ _).mono ?_; rintro e' W' ⟨rfl,rfl⟩)
   | (go_at_call 62; refine (iT p.ts h.nm _ aD ay HP.o.2.1 (HP.o.same HY.o.1).2.2.2).mono ?_; rintro e' W' ⟨rfl,rfl⟩; rw [HKK.o])
   | (first
      | (go_at_call 97; refine (iY p i h.nm _ _ _ aB aD aA ay hi (HP.o.same HY.o.1)).mono ?_)
      | (go_at_call 98; refine (jw p i h.bY h.xn h.bW h.aI _ aB aD s.dX aA ay s.dA hi (HP.o.same HY.o.1) ni.o.1.2.2.2.2.2.1 (ni.o.2.2.1.same HY.o.1)).mono ?_)
      | (go_at_call 95; refine (iF p _ aB aD aA ay i bR bf bc kI qy iP gY qx iO ar _ _ h.nm jA.o (kG.o.same HY.o.1) (nG HY.o)).mono ?_)
      rintro e' W ⟨rfl,hb⟩;replace HY:=ah (HY.o.next hb);clear hb c0 c1 c2 c3 c4 c5 c6 c7 c8 c9 c10 c11 c12 c13 c14 c15 c16 c17 c18;obtain ⟨-,⟨-,c0⟩,⟨-,c1⟩,⟨-,c2⟩,⟨-,c3⟩,⟨-,c4⟩,⟨-,c5⟩,⟨-,c6⟩,⟨-,c7⟩,⟨-,c8⟩,⟨-,c9⟩,⟨-,c10⟩,⟨-,c11⟩,⟨-,c12⟩,⟨-,c13⟩,⟨-,c14⟩,⟨-,c15⟩,⟨-,c16⟩,⟨-,c17⟩,⟨-,c18⟩,-⟩:=HY.o;skip)
  go_wp2_with fail;go_ret;exact ⟨bF (by first | exact HR.o.symm | (rw [HR.o]; first | done | rfl | simp [kN,nest])),HY.o.1⟩
 ·obtain ⟨g1,g2,g3,g4,g5,g6,g7,g8,g9,g10,g11,g12,g13,g14,g15⟩:=op8 hop;clear hop;cases tx
  all_goals
   repeat
    go_wp2_with fail
    first
    | (go_at_call 99; refine (iH _ _).mono ?_; rintro e' W' ⟨rfl,rfl⟩)
    | (go_at_call 96; refine (jJ _ _ _).mono ?_; rintro e' W' ⟨rfl,rfl⟩)
    | (go_at_call 62; refine (iT p.ts h.nm _ aD ay HP.o.2.1 (HP.o.same HY.o.1).2.2.2).mono ?_; rintro e' W' ⟨rfl,rfl⟩; rw [HKK.o])
    | (first
       | (go_at_call 97; refine (iY p i h.nm _ _ _ aB aD aA ay hi (HP.o.same HY.o.1)).mono ?_)
       | (go_at_call 98; refine (jw p i h.bY h.xn h.bW h.aI _ aB aD s.dX aA ay s.dA hi (HP.o.same HY.o.1) ni.o.1.2.2.2.2.2.1 (ni.o.2.2.1.same HY.o.1)).mono ?_)
       | (go_at_call 95; refine (iF p _ aB aD aA ay i bR bf bc kI qy iP gY qx iO ar _ _ h.nm jA.o (kG.o.same HY.o.1) (nG HY.o)).mono ?_)
       rintro e' W ⟨rfl,hb⟩;replace HY:=ah (HY.o.next hb);clear hb c0 c1 c2 c3 c4 c5 c6 c7 c8 c9 c10 c11 c12 c13 c14 c15 c16 c17 c18;obtain ⟨-,⟨-,c0⟩,⟨-,c1⟩,⟨-,c2⟩,⟨-,c3⟩,⟨-,c4⟩,⟨-,c5⟩,⟨-,c6⟩,⟨-,c7⟩,⟨-,c8⟩,⟨-,c9⟩,⟨-,c10⟩,⟨-,c11⟩,⟨-,c12⟩,⟨-,c13⟩,⟨-,c14⟩,⟨-,c15⟩,⟨-,c16⟩,⟨-,c17⟩,⟨-,c18⟩,-⟩:=HY.o;skip)
   go_wp2_with fail;go_ret;exact ⟨bF (by first | exact HR.o.symm | (rw [HR.o]; first | done | rfl | simp [kN,nest])),HY.o.1⟩
 iterate 3
  ·first | (obtain ⟨g1,g2,g3,g4,g5,g6,g7,g8,g9,g10,g11,g12,g13,g14,g15⟩:=op9 hop; clear hop) | (obtain ⟨g1,g2,g3,g4,g5,g6,g7,g8,g9,g10,g11,g12,g13,g14,g15⟩:=VB hop; clear hop) | (obtain ⟨g1,g2,g3,g4,g5,g6,g7,g8,g9,g10,g11,g12,g13,g14,g15⟩:=VD hop; clear hop)
   go_wp2_with fail;refine (iY p i h.nm 5 5 _ aB aD aA ay hi (HP.o.same HY.o.1)).mono ?_;rintro e' W ⟨rfl,hb⟩;replace HY:=ah (HY.o.next hb);clear hb c0 c1 c2 c3 c4 c5 c6 c7 c8 c9 c10 c11 c12 c13 c14 c15 c16 c17 c18;obtain ⟨-,⟨-,c0⟩,⟨-,c1⟩,⟨-,c2⟩,⟨-,c3⟩,⟨-,c4⟩,⟨-,c5⟩,⟨-,c6⟩,⟨-,c7⟩,⟨-,c8⟩,⟨-,c9⟩,⟨-,c10⟩,⟨-,c11⟩,⟨-,c12⟩,⟨-,c13⟩,⟨-,c14⟩,⟨-,c15⟩,⟨-,c16⟩,⟨-,c17⟩,⟨-,c18⟩,-⟩:=HY.o;have HDF:=ah (KZ (p:=p) (i:=i) (nm:=h.nm));generalize gF (conv (mean p i h.nm)) 5 5=q at *;cases hq:(q != 0)
   case true=>have HR':aj (res=q):=ah (HR.o.trans (if_pos hq));clear HDF HR;go_wp2_with fail;go_ret;exact ⟨bF HR'.o.symm,HY.o.1⟩
   obtain ⟨k,d,r,hk,hfx,hdr,-,-,hmu⟩:=HDF.o (by simpa using hq);have HR':aj (res=nest ((tx || !eF ar 4 4 d.on) || (_ && NV))):=ah (HR.o.trans ((if_neg (by rw [hq]; decide)).trans (by rw [hmu])));have Da:aj (Ac p.ds h.nm=(k:Int)):=ah hfx;have hrow:=(HP.o.same HY.o.1).2.2.1.drop k;rw [hdr,Nat.zero_add] at hrow;obtain ⟨⟨bD,bg6,rfl,hbD,-,-,-,-,-,x5,-⟩,-⟩:=hrow;have hk0:(0:Int)<=(k:Int):=by omega
   have hk1:(k:Int) < (p.ds.length:Int):=by omega
   clear HR HDF hfx hmu hdr;go_upto_region 28 with fail;obtain ⟨T,F,Bc,hst,hF,hnext⟩:=calm W;have HF:=ah hF;have cO:=ah hnext;clear hnext hF;have d0:=fun x=>(HY.o.next (HF.o x)).2.1.2;have d1:=fun x=>(HY.o.next (HF.o x)).2.2.1.2;have d2:=fun x=>(HY.o.next (HF.o x)).2.2.2.1.2;have d3:=fun x=>(HY.o.next (HF.o x)).2.2.2.2.1.2;have d4:=fun x=>(HY.o.next (HF.o x)).2.2.2.2.2.1.2;have d5:=fun x=>(HY.o.next (HF.o x)).2.2.2.2.2.2.1.2;have d6:=fun x=>(HY.o.next (HF.o x)).2.2.2.2.2.2.2.1.2;have d7:=fun x=>(HY.o.next (HF.o x)).2.2.2.2.2.2.2.2.1.2;have d8:=fun x=>(HY.o.next (HF.o x)).2.2.2.2.2.2.2.2.2.1.2;have d9:=fun x=>(HY.o.next (HF.o x)).2.2.2.2.2.2.2.2.2.2.1.2;have xq:=fun x=>(HY.o.next (HF.o x)).2.2.2.2.2.2.2.2.2.2.2.1.2;have uX:=fun x=>(HY.o.next (HF.o x)).2.2.2.2.2.2.2.2.2.2.2.2.1.2;have BD:=fun x=>(HY.o.next (HF.o x)).2.2.2.2.2.2.2.2.2.2.2.2.2.1.2;have Dk:=fun x=>(HY.o.next (HF.o x)).2.2.2.2.2.2.2.2.2.2.2.2.2.2.1.2;have xP:=fun x=>(HY.o.next (HF.o x)).2.2.2.2.2.2.2.2.2.2.2.2.2.2.2.1.2;have Dl:=fun x=>(HY.o.next (HF.o x)).2.2.2.2.2.2.2.2.2.2.2.2.2.2.2.2.1.2;have BF:=fun x=>(HY.o.next (HF.o x)).2.2.2.2.2.2.2.2.2.2.2.2.2.2.2.2.2.1.2;have Dm:=fun x=>(HY.o.next (HF.o x)).2.2.2.2.2.2.2.2.2.2.2.2.2.2.2.2.2.2.1.2;have BG:=fun x=>(HY.o.next (HF.o x)).2.2.2.2.2.2.2.2.2.2.2.2.2.2.2.2.2.2.2.1.2;clear c0 c1 c2 c3 c4 c5 c6 c7 c8 c9 c10 c11 c12 c13 c14 c15 c16 c17 c18;have y5:=fun x=>((HF.o x).cell (p:=⟨bD,bg6 + k * 6 + 5,none⟩) hbD).trans x5;clear x5;refine je F (by kernel_rfl) (by kernel_rfl) hst ?_
   repeat (any_goals (first | go_big_quiet_step ((first | (go_at_call 61; refine (qg p.ds h.nm _ _ aA HP.o.1 ((HP.o.same HY.o.1).same (HF.o _)).2.2.1).mono ?_; rintro e w' ⟨rfl,rfl⟩; rw [Da.o]; exact ⟨rfl,cO.o _ _ (Below.refl _ _)⟩) | (go_at_call 95; refine (iF p _ _ aD aA ay i bR bf bc kI qy iP gY qx iO ar 4 4 d.on jA.o ((kG.o.same HY.o.1).same (HF.o _)) ((nG HY.o).next (HF.o _))).mono ?_; rintro e w' ⟨rfl,hb⟩; exact ⟨rfl,cO.o _ _ hb⟩))) | (refine wpQuiet_step (fun K hK=> ?_); go_simp; first | (refine hK _ ?_; clear hK K) | (split <;> first | (refine hK _ ?_; clear hK K) | (apply Exists.intro; refine ⟨fun _=> ?_,hK _ ?_⟩; ((first | (go_at_call 61; refine (qg p.ds h.nm _ _ aA HP.o.1 ((HP.o.same HY.o.1).same (HF.o _)).2.2.1).mono ?_; rintro e w' ⟨rfl,rfl⟩; rw [Da.o]; exact ⟨rfl,cO.o _ _ (Below.refl _ _)⟩) | (go_at_call 95; refine (iF p _ _ aD aA ay i bR bf bc kI qy iP gY qx iO ar 4 4 d.on jA.o ((kG.o.same HY.o.1).same (HF.o _)) ((nG HY.o).next (HF.o _))).mono ?_; rintro e w' ⟨rfl,hb⟩; exact ⟨rfl,cO.o _ _ hb⟩))); clear hK K)))))
   all_goals (refine wpQuiet_nil ?_; rintro _ ⟨x,rfl⟩)
   replace HY:=ah (HY.o.next (HF.o x));clear d0 d1 d2 d3 d4 d5 d6 d7 d8 d9 xq uX BD Dk xP Dl BF Dm BG y5 HF cO hst;generalize F x=W2 at *;generalize eF ar 4 4 d.on=hel at *;obtain ⟨-,⟨-,c0⟩,⟨-,c1⟩,⟨-,c2⟩,⟨-,c3⟩,⟨-,c4⟩,⟨-,c5⟩,⟨-,c6⟩,⟨-,c7⟩,⟨-,c8⟩,⟨-,c9⟩,⟨-,c10⟩,⟨-,c11⟩,⟨-,c12⟩,⟨-,c13⟩,⟨-,c14⟩,⟨-,c15⟩,⟨-,c16⟩,⟨-,c17⟩,⟨-,c18⟩,-⟩:=HY.o;cases tx <;> cases hel <;> cases NV
   all_goals go_wp2_with fail;refine (iH _ _).mono ?_;rintro e' W' ⟨rfl,rfl⟩;go_wp2_with fail;go_ret;exact ⟨bF (by first | exact HR'.o.symm | (rw [HR'.o]; first | done | rfl | simp [nest])),HY.o.1⟩
 ·obtain ⟨g1,g2,g3,g4,g5,g6,g7,g8,g9,g10,g11,g12,g13,g14,g15⟩:=VF hop;clear hop;obtain ⟨kk,hkk⟩: ∃z:Int,rF p.ts h.nm=z:=⟨_,rfl⟩;have HKK:=ah hkk;rw [hkk] at HR;clear hkk;cases tx <;> cases NV <;> cases hki:(kk == i) <;> rw [hki] at HR
  all_goals
   repeat
    go_wp2_with fail
    first
    | (go_at_call 99; refine (iH _ _).mono ?_; rintro e' W' ⟨rfl,rfl⟩)
    | (go_at_call 96; refine (jJ _ _ _).mono ?_; rintro e' W' ⟨rfl,rfl⟩)
    | (go_at_call 62; refine (iT p.ts h.nm _ aD ay HP.o.2.1 (HP.o.same HY.o.1).2.2.2).mono ?_; rintro e' W' ⟨rfl,rfl⟩; rw [HKK.o])
    | (first
       | (go_at_call 97; refine (iY p i h.nm _ _ _ aB aD aA ay hi (HP.o.same HY.o.1)).mono ?_)
       | (go_at_call 98; refine (jw p i h.bY h.xn h.bW h.aI _ aB aD s.dX aA ay s.dA hi (HP.o.same HY.o.1) ni.o.1.2.2.2.2.2.1 (ni.o.2.2.1.same HY.o.1)).mono ?_)
       | (go_at_call 95; refine (iF p _ aB aD aA ay i bR bf bc kI qy iP gY qx iO ar _ _ h.nm jA.o (kG.o.same HY.o.1) (nG HY.o)).mono ?_)
       rintro e' W ⟨rfl,hb⟩;replace HY:=ah (HY.o.next hb);clear hb c0 c1 c2 c3 c4 c5 c6 c7 c8 c9 c10 c11 c12 c13 c14 c15 c16 c17 c18;obtain ⟨-,⟨-,c0⟩,⟨-,c1⟩,⟨-,c2⟩,⟨-,c3⟩,⟨-,c4⟩,⟨-,c5⟩,⟨-,c6⟩,⟨-,c7⟩,⟨-,c8⟩,⟨-,c9⟩,⟨-,c10⟩,⟨-,c11⟩,⟨-,c12⟩,⟨-,c13⟩,⟨-,c14⟩,⟨-,c15⟩,⟨-,c16⟩,⟨-,c17⟩,⟨-,c18⟩,-⟩:=HY.o;skip)
   go_wp2_with fail;go_ret;exact ⟨bF (by first | exact HR.o.symm | (rw [HR.o]; first | done | rfl | simp [kN,nest])),HY.o.1⟩
 ·obtain ⟨g1,g2,g3,g4,g5,g6,g7,g8,g9,g10,g11,g12,g13,g14,g15⟩:=VH hop;clear hop;go_upto_region 49 with fail;obtain ⟨T,F,Bc,hst,hF,hnext⟩:=calm W;have HF:=ah hF;have cO:=ah hnext;clear hnext hF;have d0:=fun x=>(HY.o.next (HF.o x)).2.1.2;have d1:=fun x=>(HY.o.next (HF.o x)).2.2.1.2;have d2:=fun x=>(HY.o.next (HF.o x)).2.2.2.1.2;have d3:=fun x=>(HY.o.next (HF.o x)).2.2.2.2.1.2;have d4:=fun x=>(HY.o.next (HF.o x)).2.2.2.2.2.1.2;have d5:=fun x=>(HY.o.next (HF.o x)).2.2.2.2.2.2.1.2;have d6:=fun x=>(HY.o.next (HF.o x)).2.2.2.2.2.2.2.1.2;have d7:=fun x=>(HY.o.next (HF.o x)).2.2.2.2.2.2.2.2.1.2;have d8:=fun x=>(HY.o.next (HF.o x)).2.2.2.2.2.2.2.2.2.1.2;have d9:=fun x=>(HY.o.next (HF.o x)).2.2.2.2.2.2.2.2.2.2.1.2;have xq:=fun x=>(HY.o.next (HF.o x)).2.2.2.2.2.2.2.2.2.2.2.1.2;have uX:=fun x=>(HY.o.next (HF.o x)).2.2.2.2.2.2.2.2.2.2.2.2.1.2;have BD:=fun x=>(HY.o.next (HF.o x)).2.2.2.2.2.2.2.2.2.2.2.2.2.1.2;have Dk:=fun x=>(HY.o.next (HF.o x)).2.2.2.2.2.2.2.2.2.2.2.2.2.2.1.2;have xP:=fun x=>(HY.o.next (HF.o x)).2.2.2.2.2.2.2.2.2.2.2.2.2.2.2.1.2;have Dl:=fun x=>(HY.o.next (HF.o x)).2.2.2.2.2.2.2.2.2.2.2.2.2.2.2.2.1.2;have BF:=fun x=>(HY.o.next (HF.o x)).2.2.2.2.2.2.2.2.2.2.2.2.2.2.2.2.2.1.2;have Dm:=fun x=>(HY.o.next (HF.o x)).2.2.2.2.2.2.2.2.2.2.2.2.2.2.2.2.2.2.1.2;have BG:=fun x=>(HY.o.next (HF.o x)).2.2.2.2.2.2.2.2.2.2.2.2.2.2.2.2.2.2.2.1.2;clear c0 c1 c2 c3 c4 c5 c6 c7 c8 c9 c10 c11 c12 c13 c14 c15 c16 c17 c18;refine je F (by kernel_rfl) (by kernel_rfl) hst ?_
  repeat (any_goals (first | go_big_quiet_step ((first | (go_at_call_of 97 (Value.int .i64 8); refine (iY p i h.nm 8 8 _ aB aD aA ay hi ((HP.o.same HY.o.1).same (HF.o _))).mono ?_; rintro e w' ⟨rfl,hb⟩; exact ⟨rfl,cO.o _ _ hb⟩) | (go_at_call_of 97 (Value.int .i64 6); refine (iY p i h.arg 6 6 _ aB aD aA ay hi ((HP.o.same HY.o.1).same (HF.o _))).mono ?_; rintro e w' ⟨rfl,hb⟩; exact ⟨rfl,cO.o _ _ hb⟩) | (go_at_call 96; refine (jJ _ _ _).mono ?_; rintro e w' ⟨rfl,rfl⟩; exact ⟨rfl,cO.o _ _ (Below.refl _ _)⟩) | (go_at_call 99; refine (iH _ _).mono ?_; rintro e w' ⟨rfl,rfl⟩; exact ⟨rfl,cO.o _ _ (Below.refl _ _)⟩))) | (refine wpQuiet_step (fun K hK=> ?_); go_simp; first | (refine hK _ ?_; clear hK K) | (split <;> first | (refine hK _ ?_; clear hK K) | (apply Exists.intro; refine ⟨fun _=> ?_,hK _ ?_⟩; ((first | (go_at_call_of 97 (Value.int .i64 8); refine (iY p i h.nm 8 8 _ aB aD aA ay hi ((HP.o.same HY.o.1).same (HF.o _))).mono ?_; rintro e w' ⟨rfl,hb⟩; exact ⟨rfl,cO.o _ _ hb⟩) | (go_at_call_of 97 (Value.int .i64 6); refine (iY p i h.arg 6 6 _ aB aD aA ay hi ((HP.o.same HY.o.1).same (HF.o _))).mono ?_; rintro e w' ⟨rfl,hb⟩; exact ⟨rfl,cO.o _ _ hb⟩) | (go_at_call 96; refine (jJ _ _ _).mono ?_; rintro e w' ⟨rfl,rfl⟩; exact ⟨rfl,cO.o _ _ (Below.refl _ _)⟩) | (go_at_call 99; refine (iH _ _).mono ?_; rintro e w' ⟨rfl,rfl⟩; exact ⟨rfl,cO.o _ _ (Below.refl _ _)⟩))); clear hK K)))))
  all_goals (refine wpQuiet_nil ?_; rintro _ ⟨x,rfl⟩)
  replace HY:=ah (HY.o.next (HF.o x));clear d0 d1 d2 d3 d4 d5 d6 d7 d8 d9 xq uX BD Dk xP Dl BF Dm BG HF cO hst;generalize F x=W2 at *;go_wp2_with fail;go_ret;exact ⟨bF (by first | exact HR.o.symm | (rw [HR.o]; first | done | rfl | simp [kN,nest])),HY.o.1⟩
end
end Go.Proofs.YtfbbaiejbjdfbaaGreatDoor
