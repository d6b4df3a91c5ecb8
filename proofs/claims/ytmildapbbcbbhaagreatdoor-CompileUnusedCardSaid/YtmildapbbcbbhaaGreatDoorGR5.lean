/- Contract of the reference walk's one: where nothing is appended. -/
import Derived.Test.YtmildapbbcbbhaaGreatDoorGR3
set_option linter.unusedSimpArgs false
set_option linter.unusedVariables false
set_option maxHeartbeats 40000000
set_option maxRecDepth 1000000
namespace Go.Proofs.YtmildapbbcbbhaaGreatDoor
open Go.RowKit
open Md
section
variable (p:Pr) (w:World) (aK aM:Option Addr) (aH aD:Nat) (i:Int) (cK:Option Addr) (bQ bc:Nat) (kC:Option Addr) (pz iY:Nat) (jJ:Option Addr) (pq iX:Nat)
theorem aw6 (h:dD) (b e ar:aY) (s:Sl) {res:Int} (hi:bW i) (hp:p.At w aK aM) (hin:DF w h b e s) (har:ar.len<=maxLen) (hat:ar.At w w.heap.size cK 0) (hh:Holds w (Hg bc p aK aM aH aD i cK ar.len bQ kC pz iY jJ pq iX)) (hc:
 (h.op=1∧h.idx.len=0∧res=(kJ (gM (conv (mean p i h.nm)) 8 1) (jW p i h.dN h.xn h.dJ h.bG)))∨
 (h.op=1∧∃Lc n0 La Bj Fb,h.idx= .cons Lc n0 La Bj Fb∧res=(kJ (gM (conv (mean p i h.nm)) 2 2) (kJ (jW p i Lc n0 La Bj) (jW p i h.dN h.xn h.dJ h.bG))))∨
 (h.op=2∧res=(jW p i h.dN h.xn h.dJ h.bG))∨
 (h.op=3∧res=(jW p i h.dN h.xn h.dJ h.bG))∨
 (h.op=4∧res=(kJ (gM (conv (mean p i h.nm)) 3 3) (nest (eZ ar 7 7 ⟨#[]⟩||eZ ar 4 4 h.nm))))∨
 (h.op=5∧res=(kJ (gM (conv (mean p i h.nm)) 4 4) (nest (eZ ar 7 7 ⟨#[]⟩||eZ ar 5 6 h.nm))))∨
 (h.op=6∧res=(kJ (gM (conv (mean p i h.nm)) 4 4) (nest (eZ ar 7 7 ⟨#[]⟩||eZ ar 5 6 h.nm))))∨
 (h.op=7∧res=(nest (eZ ar 7 7 ⟨#[]⟩)))∨
 (h.op=8∧res=(nest (eZ ar 7 7 ⟨#[]⟩||eZ ar 8 8 ⟨#[]⟩)))∨
 (h.op=9∧res=(if gM (conv (mean p i h.nm)) 5 5 != 0 then gM (conv (mean p i h.nm)) 5 5 else nest ((eZ ar 7 7 ⟨#[]⟩|| !eZ ar 4 4 (jY p.ds h.nm))||(true&&eZ ar 8 8 ⟨#[]⟩))))∨
 (h.op=10∧res=(if gM (conv (mean p i h.nm)) 5 5 != 0 then gM (conv (mean p i h.nm)) 5 5 else nest ((eZ ar 7 7 ⟨#[]⟩|| !eZ ar 4 4 (jY p.ds h.nm))||(false&&eZ ar 8 8 ⟨#[]⟩))))∨
 (h.op=11∧res=(if gM (conv (mean p i h.nm)) 5 5 != 0 then gM (conv (mean p i h.nm)) 5 5 else nest ((eZ ar 7 7 ⟨#[]⟩|| !eZ ar 4 4 (jY p.ds h.nm))||(false&&eZ ar 8 8 ⟨#[]⟩))))∨
 (h.op=13∧res=(kJ (gM (conv (mean p i h.nm)) 7 7) (nest ((eZ ar 7 7 ⟨#[]⟩||eZ ar 8 8 ⟨#[]⟩)||qz p.ts h.nm==i))))∨
 (h.op=15∧res=(kJ (gM (conv (mean p i h.nm)) 8 8) (kJ (gM (conv (mean p i h.arg)) 6 6) (nest (eZ ar 7 7 ⟨#[]⟩)))))):
 Calls Tryz.prog 55 #[.pointer (some ⟨bc,0,none⟩),iy h b e s] w λe' w'=>e'= .returned (.int .i64 res)∧Below w.heap.size w w':=by
 have OJ:=ah hc;clear hc;have HH:=ah (show Sit w w _ from⟨ak _ _,hh⟩);have oN:=ah hin;have lQ:=ah hat;have ku:=ah har;have HP:=ah hp;unfold iy;clear hh hin hat har hp;go_enter Tryz.func55,Tryz.ntmps55;go_upto_region 1 with fail;generalize hW:World.alloc w _=W;generalize Value.agg #[_,_,_,_,_,_,_,_,_,_,_]=a0;have HX:aj (Sit w W (rA w.heap.size h b e s (Hg bc p aK aM aH aD i cK ar.len bQ kC pz iY jJ pq iX))):=ah (by rw[<- hW];exact HH.o.uW rfl _ _ _ _ _ _ _ _ _ _ _ _);clear hW HH;have K0: ∀w',Below W.heap.size W w'->w'.cell? ⟨bc,0,none⟩=some (.slice aK p.ds.length aH):=λw' hb=>(HX.o.next hb).2.2.2.2.2.2.2.2.2.2.2.2.1.2;have K1: ∀w',Below W.heap.size W w'->w'.cell? ⟨bc,1,none⟩=some (.slice aM p.ts.length aD):=λw' hb=>(HX.o.next hb).2.2.2.2.2.2.2.2.2.2.2.2.2.1.2;have K2: ∀w',Below W.heap.size W w'->w'.cell? ⟨bc,2,none⟩=some (.int .i64 i):=λw' hb=>(HX.o.next hb).2.2.2.2.2.2.2.2.2.2.2.2.2.2.1.2;have HD1:Below W.heap.size W (W.drewN 1):=below_drewN (ak _ _) 1;refine dI (by kernel_rfl) rfl ?_;generalize W.drewN 1=W1 at *;refine dw 0 11 [8,9] [[],[0],[0,1],[0,1,2],[],[4],[4,5],[4,5,6],[],[0,1,2,3,8],[0,1,2,3,4,5,6,7,8,9]] [[none,some false],[none,some false],[none,some false],[none,some false],[none,none],[none,none],[none,none],[none,none],[some false,some false],[some true,some false],[some true,some true]] (AC W1 (.cells #[.slice none 0 0,.slice none 0 0] 26) (.cells #[.slice aK p.ds.length aH,.slice aM p.ts.length aD] 26)) (λ_ _=>True) [15,16,17,18,19,20,21,22,5,6] rfl rfl (by rfl) (by kernel_rfl) (by kernel_rfl) (by kernel_rfl) (by kernel_rfl) (by kernel_rfl) (by rfl) (λ_=>trivial) (by rfl) rfl ?_;simp only[iW,mU]
 iterate 8
  apply bS.step
  case bg=>intro c A w' hok hC hO hD;have e0:=hO 0 (by rfl);simp[Act.eval]at e0;simp[Act.eval]at hD;simp[go_sem,gd,Oper.wp,hD,e0,K0,K1,AC.below HD1 hC,K2];exact aR.mk trivial (AC.skip (by rfl) (by rfl) hC) (bZ.mk _ _)
  try simp only[dR]
 apply bS.step
 case bg=>intro c A w' hok hC hO hD;obtain⟨x,y,rfl⟩:=hC.bits;obtain⟨rfl,rfl,-⟩:=hok;have hw:w'=W1:=hC;subst hw;simp[go_sem,gd,Oper.wp];exact aR.mk trivial (AC.lay (by rfl) (by rfl)) (bZ.mk _ _)
 refine bS.some (λ_ _=>True) (λ_ _ _ _ _=>trivial) ?_ ?_
 ·intro c A w' hok hC hO hD;obtain⟨x,y,rfl⟩:=hC.bits;obtain⟨rfl,rfl,-⟩:=hok;have hw:w'=W1.alloc _:=hC;subst hw;simp[Act.eval]at hD;simp[go_sem,gd,Oper.wp,hD];exact aR.Cx (v:=undef) trivial (AC.fill (by rfl) (by rfl)) trivial
 try simp only[dR]
 apply bS.step
 case bg=>intro c A w' hok hC hO hD;simp[Act.eval]at hD;simp[go_sem,gd,Oper.wp,hD];exact aR.mk trivial (AC.skip (by rfl) (by rfl) hC) (bZ.mk _ _)
 try simp only[dR]
 refine bS.done ?_;intro wz dF;simp only[List.drop_zero];intro v0 h0 v1 h1 v2 h2 v3 h3 v4 h4 v5 h5 v6 h6 v7 h7 v8 h8 v9 h9 v10 h10;have h8':v8=_:=h8;have Jt:v10=_:=h10;subst h8' Jt;clear h0 h1 h2 h3 h4 h5 h6 h7 h8 h9 h10;refine dP.nil ?_;refine eO rfl ?_;have GI:wz=W1.alloc _:=dF;generalize hn1:W1.heap.size=n1 at *;have HY:=ah ((HX.o.next HD1).wG hn1 (.slice aK p.ds.length aH) (.slice aM p.ts.length aD) 26);rw[<- GI]at HY;clear dF GI HX K0 K1 K2 HD1 hn1;go_simp
 iterate 3 obtain⟨-,⟨-,c0⟩,⟨-,c1⟩,⟨-,c2⟩,⟨-,c3⟩,⟨-,c4⟩,⟨-,c5⟩,⟨-,c6⟩,⟨-,c7⟩,⟨-,c8⟩,⟨-,c9⟩,⟨-,c10⟩,⟨-,c11⟩,⟨-,c12⟩,⟨-,c13⟩,⟨-,c14⟩,⟨-,c15⟩,⟨-,c16⟩,⟨-,c17⟩,⟨-,c18⟩,-⟩:=HY.o;go_wp2_with fail;refine(iN p _ aK aM aH aD i cK bQ bc kC pz iY jJ pq iX ar _ _ ⟨#[]⟩ ku.o (lQ.o.same HY.o.1) (mM HY.o)).mono ?_;rintro e' W ⟨rfl,hb⟩;replace HY:=ah (HY.o.next hb);clear hb c0 c1 c2 c3 c4 c5 c6 c7 c8 c9 c10 c11 c12 c13 c14 c15 c16 c17 c18
 obtain⟨-,⟨-,c0⟩,⟨-,c1⟩,⟨-,c2⟩,⟨-,c3⟩,⟨-,c4⟩,⟨-,c5⟩,⟨-,c6⟩,⟨-,c7⟩,⟨-,c8⟩,⟨-,c9⟩,⟨-,c10⟩,⟨-,c11⟩,⟨-,c12⟩,⟨-,c13⟩,⟨-,c14⟩,⟨-,c15⟩,⟨-,c16⟩,⟨-,c17⟩,⟨-,c18⟩,-⟩:=HY.o;generalize htx:eZ ar 7 7 ⟨#[]⟩=tx at *;generalize hat':eZ ar 8 8 ⟨#[]⟩=Ng at *;generalize hlo:eZ ar 3 3 ⟨#[]⟩=lop at *;clear htx hat' hlo;rcases OJ.o with⟨hop,hx,hr⟩|⟨hop,Lc,n0,La,Bj,Fb,hix,hr⟩|⟨hop,hr⟩|⟨hop,hr⟩|⟨hop,hr⟩|⟨hop,hr⟩|⟨hop,hr⟩|⟨hop,hr⟩|⟨hop,hr⟩|⟨hop,hr⟩|⟨hop,hr⟩|⟨hop,hr⟩|⟨hop,hr⟩|⟨hop,hr⟩
 all_goals have HR:=ah hr;clear hr OJ
 ·obtain⟨g1,g2,g3,g4,g5,g6,g7,g8,g9,g10,g11,g12,g13,g14,g15⟩:=op1 hop;clear hop;rw[hx]at c6;clear hx;go_upto_region 8 with fail;obtain⟨T,F,Af,hst,hF,hnext⟩:=calm W;have HF:=ah hF;have dB:=ah hnext;clear hnext hF;have d0:=λx=>(HY.o.next (HF.o x)).2.1.2;have d1:=λx=>(HY.o.next (HF.o x)).2.2.1.2;have d2:=λx=>(HY.o.next (HF.o x)).2.2.2.1.2;have d3:=λx=>(HY.o.next (HF.o x)).2.2.2.2.1.2;have d4:=λx=>(HY.o.next (HF.o x)).2.2.2.2.2.1.2;have d5:=λx=>(HY.o.next (HF.o x)).2.2.2.2.2.2.1.2;have d6:=λx=>(HY.o.next (HF.o x)).2.2.2.2.2.2.2.1.2;have d7:=λx=>(HY.o.next (HF.o x)).2.2.2.2.2.2.2.2.1.2;have d8:=λx=>(HY.o.next (HF.o x)).2.2.2.2.2.2.2.2.2.1.2;have d9:=λx=>(HY.o.next (HF.o x)).2.2.2.2.2.2.2.2.2.2.1.2;have rV:=λx=>(HY.o.next (HF.o x)).2.2.2.2.2.2.2.2.2.2.2.1.2;have uo:=λx=>(HY.o.next (HF.o x)).2.2.2.2.2.2.2.2.2.2.2.2.1.2;have AL:=λx=>(HY.o.next (HF.o x)).2.2.2.2.2.2.2.2.2.2.2.2.2.1.2;have D8:=λx=>(HY.o.next (HF.o x)).2.2.2.2.2.2.2.2.2.2.2.2.2.2.1.2;have vV:=λx=>(HY.o.next (HF.o x)).2.2.2.2.2.2.2.2.2.2.2.2.2.2.2.1.2;have D9:=λx=>(HY.o.next (HF.o x)).2.2.2.2.2.2.2.2.2.2.2.2.2.2.2.2.1.2;have AO:=λx=>(HY.o.next (HF.o x)).2.2.2.2.2.2.2.2.2.2.2.2.2.2.2.2.2.1.2;have Da:=λx=>(HY.o.next (HF.o x)).2.2.2.2.2.2.2.2.2.2.2.2.2.2.2.2.2.2.1.2;have AP:=λx=>(HY.o.next (HF.o x)).2.2.2.2.2.2.2.2.2.2.2.2.2.2.2.2.2.2.2.1.2;clear c0 c1 c2 c3 c4 c5 c6 c7 c8 c9 c10 c11 c12 c13 c14 c15 c16 c17 c18;refine jh F (by kernel_rfl) (by kernel_rfl) hst ?_
  repeat (any_goals (first|go_big_quiet_step ((first|(go_at_call 83;refine(je p i h.nm 8 1 _ aK aM aH aD hi ((HP.o.same HY.o.1).same (HF.o _))).mono ?_;rintro e w' ⟨rfl,hb⟩;exact⟨rfl,dB.o _ _ hb⟩)|(go_at_call 84;refine(jA p i h.dN h.xn h.dJ h.bG _ aK aM s.fT aH aD s.eu hi ((HP.o.same HY.o.1).same (HF.o _)) oN.o.1.2.2.2.2.2.1 ((oN.o.2.2.1.same HY.o.1).same (HF.o _))).mono ?_;rintro e w' ⟨rfl,hb⟩;exact⟨rfl,dB.o _ _ hb⟩)|(go_at_call 82;refine(jI _ _ _).mono ?_;rintro e w' ⟨rfl,rfl⟩;exact⟨rfl,dB.o _ _ (ak _ _)⟩)))|(refine wpQuiet_step (λK hK=> ?_);go_simp;first|(refine hK _ ?_;clear hK K)|(split <;> first|(refine hK _ ?_;clear hK K)|(apply Exists.intro;refine⟨λ_=> ?_,hK _ ?_⟩;((first|(go_at_call 83;refine(je p i h.nm 8 1 _ aK aM aH aD hi ((HP.o.same HY.o.1).same (HF.o _))).mono ?_;rintro e w' ⟨rfl,hb⟩;exact⟨rfl,dB.o _ _ hb⟩)|(go_at_call 84;refine(jA p i h.dN h.xn h.dJ h.bG _ aK aM s.fT aH aD s.eu hi ((HP.o.same HY.o.1).same (HF.o _)) oN.o.1.2.2.2.2.2.1 ((oN.o.2.2.1.same HY.o.1).same (HF.o _))).mono ?_;rintro e w' ⟨rfl,hb⟩;exact⟨rfl,dB.o _ _ hb⟩)|(go_at_call 82;refine(jI _ _ _).mono ?_;rintro e w' ⟨rfl,rfl⟩;exact⟨rfl,dB.o _ _ (ak _ _)⟩)));clear hK K)))))
  all_goals (refine wpQuiet_nil ?_;rintro _ ⟨x,rfl⟩)
  replace HY:=ah (HY.o.next (HF.o x));clear d0 d1 d2 d3 d4 d5 d6 d7 d8 d9 rV uo AL D8 vV D9 AO Da AP HF dB hst;generalize F x=W2 at *;go_wp2_with fail;go_ret;exact⟨bV (by first|exact HR.o.symm|(rw[HR.o];first|done|rfl|simp[kJ,nest])),HY.o.1⟩
 ·obtain⟨⟨b0,Ah,FC,cap0,hao,mV,x0,x1,x2,x3,hok0,hk0⟩,-⟩:=(hix ▸ oN.o.2.1:(bJ.cons Lc n0 La Bj Fb).At w w.heap.size s.fQ 0);have HO0:=ah (aI hok0 hk0);have N9:=ah (aI mV (aI x0 (aI x1 (aI x2 x3))));have zF:=ah hao;have MQ:=ah hix;clear hok0 hk0 mV x0 x1 x2 x3 hao hix;obtain⟨g1,g2,g3,g4,g5,g6,g7,g8,g9,g10,g11,g12,g13,g14,g15⟩:=op1 hop;clear hop;rw[MQ.o,zF.o]at c6;simp only[bJ.len]at c6;go_upto_region 9 with fail;obtain⟨T,F,Af,hst,hF,hnext⟩:=calm W;have HF:=ah hF;have dB:=ah hnext;clear hnext hF;have d0:=λx=>(HY.o.next (HF.o x)).2.1.2;have d1:=λx=>(HY.o.next (HF.o x)).2.2.1.2;have d2:=λx=>(HY.o.next (HF.o x)).2.2.2.1.2;have d3:=λx=>(HY.o.next (HF.o x)).2.2.2.2.1.2;have d4:=λx=>(HY.o.next (HF.o x)).2.2.2.2.2.1.2;have d5:=λx=>(HY.o.next (HF.o x)).2.2.2.2.2.2.1.2;have d6:=λx=>(HY.o.next (HF.o x)).2.2.2.2.2.2.2.1.2;have d7:=λx=>(HY.o.next (HF.o x)).2.2.2.2.2.2.2.2.1.2;have d8:=λx=>(HY.o.next (HF.o x)).2.2.2.2.2.2.2.2.2.1.2;have d9:=λx=>(HY.o.next (HF.o x)).2.2.2.2.2.2.2.2.2.2.1.2;have rV:=λx=>(HY.o.next (HF.o x)).2.2.2.2.2.2.2.2.2.2.2.1.2;have uo:=λx=>(HY.o.next (HF.o x)).2.2.2.2.2.2.2.2.2.2.2.2.1.2;have AL:=λx=>(HY.o.next (HF.o x)).2.2.2.2.2.2.2.2.2.2.2.2.2.1.2;have D8:=λx=>(HY.o.next (HF.o x)).2.2.2.2.2.2.2.2.2.2.2.2.2.2.1.2;have vV:=λx=>(HY.o.next (HF.o x)).2.2.2.2.2.2.2.2.2.2.2.2.2.2.2.1.2;have D9:=λx=>(HY.o.next (HF.o x)).2.2.2.2.2.2.2.2.2.2.2.2.2.2.2.2.1.2;have AO:=λx=>(HY.o.next (HF.o x)).2.2.2.2.2.2.2.2.2.2.2.2.2.2.2.2.2.1.2;have Da:=λx=>(HY.o.next (HF.o x)).2.2.2.2.2.2.2.2.2.2.2.2.2.2.2.2.2.2.1.2;have AP:=λx=>(HY.o.next (HF.o x)).2.2.2.2.2.2.2.2.2.2.2.2.2.2.2.2.2.2.2.1.2;clear c0 c1 c2 c3 c4 c5 c6 c7 c8 c9 c10 c11 c12 c13 c14 c15 c16 c17 c18;have y0:=λx=>(((HY.o.1.trans ((HF.o x).mono HY.o.1.size)).cell (p:=⟨b0,Ah+0*4,none⟩) N9.o.1)).trans N9.o.2.1;have y1:=λx=>(((HY.o.1.trans ((HF.o x).mono HY.o.1.size)).cell (p:=⟨b0,Ah+0*4+1,none⟩) N9.o.1)).trans N9.o.2.2.1;have y2:=λx=>(((HY.o.1.trans ((HF.o x).mono HY.o.1.size)).cell (p:=⟨b0,Ah+0*4+2,none⟩) N9.o.1)).trans N9.o.2.2.2.1;have y3:=λx=>(((HY.o.1.trans ((HF.o x).mono HY.o.1.size)).cell (p:=⟨b0,Ah+0*4+3,none⟩) N9.o.1)).trans N9.o.2.2.2.2;simp only[Nat.zero_mul,Nat.add_zero]at y0 y1 y2 y3;simp only[MQ.o,zF.o,bJ.len]at d6;have hz0:(0:Int)<(Fb.len:Int)+1:=by omega
  have hz1:(0:Int)<((Fb.len+1:Nat):Int):=by omega
  refine jh F (by kernel_rfl) (by kernel_rfl) hst ?_
  repeat (any_goals (first|go_big_quiet_step ((first|(go_at_call 83;refine(je p i h.nm 2 2 _ aK aM aH aD hi ((HP.o.same HY.o.1).same (HF.o _))).mono ?_;rintro e w' ⟨rfl,hb⟩;exact⟨rfl,dB.o _ _ hb⟩)|(go_at_call_of 84 (Value.agg #[.int .i64 Lc,.int .i64 n0,.string La,.slice FC Bj.len cap0]);refine(jA p i Lc n0 La Bj _ aK aM FC aH aD cap0 hi ((HP.o.same HY.o.1).same (HF.o _)) HO0.o.1 ((HO0.o.2.same HY.o.1).same (HF.o _))).mono ?_;rintro e w' ⟨rfl,hb⟩;exact⟨rfl,dB.o _ _ hb⟩)|(go_at_call_of 84 (Value.agg #[.int .i64 h.dN,.int .i64 h.xn,.string h.dJ,.slice s.fT h.bG.len s.eu]);refine(jA p i h.dN h.xn h.dJ h.bG _ aK aM s.fT aH aD s.eu hi ((HP.o.same HY.o.1).same (HF.o _)) oN.o.1.2.2.2.2.2.1 ((oN.o.2.2.1.same HY.o.1).same (HF.o _))).mono ?_;rintro e w' ⟨rfl,hb⟩;exact⟨rfl,dB.o _ _ hb⟩)|(go_at_call 82;refine(jI _ _ _).mono ?_;rintro e w' ⟨rfl,rfl⟩;exact⟨rfl,dB.o _ _ (ak _ _)⟩)))|(refine wpQuiet_step (λK hK=> ?_);go_simp;first|(refine hK _ ?_;clear hK K)|(split <;> first|(refine hK _ ?_;clear hK K)|(apply Exists.intro;refine⟨λ_=> ?_,hK _ ?_⟩;((first|(go_at_call 83;refine(je p i h.nm 2 2 _ aK aM aH aD hi ((HP.o.same HY.o.1).same (HF.o _))).mono ?_;rintro e w' ⟨rfl,hb⟩;exact⟨rfl,dB.o _ _ hb⟩)|(go_at_call_of 84 (Value.agg #[.int .i64 Lc,.int .i64 n0,.string La,.slice FC Bj.len cap0]);refine(jA p i Lc n0 La Bj _ aK aM FC aH aD cap0 hi ((HP.o.same HY.o.1).same (HF.o _)) HO0.o.1 ((HO0.o.2.same HY.o.1).same (HF.o _))).mono ?_;rintro e w' ⟨rfl,hb⟩;exact⟨rfl,dB.o _ _ hb⟩)|(go_at_call_of 84 (Value.agg #[.int .i64 h.dN,.int .i64 h.xn,.string h.dJ,.slice s.fT h.bG.len s.eu]);refine(jA p i h.dN h.xn h.dJ h.bG _ aK aM s.fT aH aD s.eu hi ((HP.o.same HY.o.1).same (HF.o _)) oN.o.1.2.2.2.2.2.1 ((oN.o.2.2.1.same HY.o.1).same (HF.o _))).mono ?_;rintro e w' ⟨rfl,hb⟩;exact⟨rfl,dB.o _ _ hb⟩)|(go_at_call 82;refine(jI _ _ _).mono ?_;rintro e w' ⟨rfl,rfl⟩;exact⟨rfl,dB.o _ _ (ak _ _)⟩)));clear hK K)))))
  all_goals (refine wpQuiet_nil ?_;rintro _ ⟨x,rfl⟩)
  replace HY:=ah (HY.o.next (HF.o x));clear d0 d1 d2 d3 d4 d5 d6 d7 d8 d9 rV uo AL D8 vV D9 AO Da AP y0 y1 y2 y3 HF dB hst;generalize F x=W2 at *;go_wp2_with fail;go_ret;exact⟨bV (by first|exact HR.o.symm|(rw[HR.o];first|done|rfl|simp[kJ,nest])),HY.o.1⟩
 ·obtain⟨g1,g2,g3,g4,g5,g6,g7,g8,g9,g10,g11,g12,g13,g14,g15⟩:=op2 hop;clear hop
  repeat
   go_wp2_with fail
   first
   |(go_at_call 85;refine(iQ _ _).mono ?_;rintro e' W' ⟨rfl,rfl⟩)
   |(go_at_call 82;refine(jI _ _ _).mono ?_;rintro e' W' ⟨rfl,rfl⟩)
   |(go_at_call 53;refine(jc p.ts h.nm _ aM aD HP.o.2.1 (HP.o.same HY.o.1).2.2.2).mono ?_;rintro e' W' ⟨rfl,rfl⟩;rw[HKK.o])
   |(first
     |(go_at_call 83;refine(je p i h.nm _ _ _ aK aM aH aD hi (HP.o.same HY.o.1)).mono ?_)
     |(go_at_call 84;refine(jA p i h.dN h.xn h.dJ h.bG _ aK aM s.fT aH aD s.eu hi (HP.o.same HY.o.1) oN.o.1.2.2.2.2.2.1 (oN.o.2.2.1.same HY.o.1)).mono ?_)
     |(go_at_call 81;refine(iN p _ aK aM aH aD i cK bQ bc kC pz iY jJ pq iX ar _ _ h.nm ku.o (lQ.o.same HY.o.1) (mM HY.o)).mono ?_)
     rintro e' W ⟨rfl,hb⟩;replace HY:=ah (HY.o.next hb);clear hb c0 c1 c2 c3 c4 c5 c6 c7 c8 c9 c10 c11 c12 c13 c14 c15 c16 c17 c18;obtain⟨-,⟨-,c0⟩,⟨-,c1⟩,⟨-,c2⟩,⟨-,c3⟩,⟨-,c4⟩,⟨-,c5⟩,⟨-,c6⟩,⟨-,c7⟩,⟨-,c8⟩,⟨-,c9⟩,⟨-,c10⟩,⟨-,c11⟩,⟨-,c12⟩,⟨-,c13⟩,⟨-,c14⟩,⟨-,c15⟩,⟨-,c16⟩,⟨-,c17⟩,⟨-,c18⟩,-⟩:=HY.o;skip)
  go_wp2_with fail;go_ret;exact⟨bV (by first|exact HR.o.symm|(rw[HR.o];first|done|rfl|simp[kJ,nest])),HY.o.1⟩
 ·obtain⟨g1,g2,g3,g4,g5,g6,g7,g8,g9,g10,g11,g12,g13,g14,g15⟩:=op3 hop;clear hop
  repeat
   go_wp2_with fail
   first
   |(go_at_call 85;refine(iQ _ _).mono ?_;rintro e' W' ⟨rfl,rfl⟩)
   |(go_at_call 82;refine(jI _ _ _).mono ?_;rintro e' W' ⟨rfl,rfl⟩)
   |(go_at_call 53;refine(jc p.ts h.nm _ aM aD HP.o.2.1 (HP.o.same HY.o.1).2.2.2).mono ?_;rintro e' W' ⟨rfl,rfl⟩;rw[HKK.o])
   |(first
     |(go_at_call 83;refine(je p i h.nm _ _ _ aK aM aH aD hi (HP.o.same HY.o.1)).mono ?_)
     |(go_at_call 84;refine(jA p i h.dN h.xn h.dJ h.bG _ aK aM s.fT aH aD s.eu hi (HP.o.same HY.o.1) oN.o.1.2.2.2.2.2.1 (oN.o.2.2.1.same HY.o.1)).mono ?_)
     |(go_at_call 81;refine(iN p _ aK aM aH aD i cK bQ bc kC pz iY jJ pq iX ar _ _ h.nm ku.o (lQ.o.same HY.o.1) (mM HY.o)).mono ?_)
     rintro e' W ⟨rfl,hb⟩;replace HY:=ah (HY.o.next hb);clear hb c0 c1 c2 c3 c4 c5 c6 c7 c8 c9 c10 c11 c12 c13 c14 c15 c16 c17 c18;obtain⟨-,⟨-,c0⟩,⟨-,c1⟩,⟨-,c2⟩,⟨-,c3⟩,⟨-,c4⟩,⟨-,c5⟩,⟨-,c6⟩,⟨-,c7⟩,⟨-,c8⟩,⟨-,c9⟩,⟨-,c10⟩,⟨-,c11⟩,⟨-,c12⟩,⟨-,c13⟩,⟨-,c14⟩,⟨-,c15⟩,⟨-,c16⟩,⟨-,c17⟩,⟨-,c18⟩,-⟩:=HY.o;skip)
  go_wp2_with fail;go_ret;exact⟨bV (by first|exact HR.o.symm|(rw[HR.o];first|done|rfl|simp[kJ,nest])),HY.o.1⟩
 ·obtain⟨g1,g2,g3,g4,g5,g6,g7,g8,g9,g10,g11,g12,g13,g14,g15⟩:=op4 hop;clear hop;cases tx
  all_goals
   repeat
    go_wp2_with fail
    first
    |(go_at_call 85;refine(iQ _ _).mono ?_;rintro e' W' ⟨rfl,rfl⟩)
    |(go_at_call 82;refine(jI _ _ _).mono ?_;rintro e' W' ⟨rfl,rfl⟩)
    |(go_at_call 53;refine(jc p.ts h.nm _ aM aD HP.o.2.1 (HP.o.same HY.o.1).2.2.2).mono ?_;rintro e' W' ⟨rfl,rfl⟩;rw[HKK.o])
    |(first
      |(go_at_call 83;refine(je p i h.nm _ _ _ aK aM aH aD hi (HP.o.same HY.o.1)).mono ?_)
      |(go_at_call 84;refine(jA p i h.dN h.xn h.dJ h.bG _ aK aM s.fT aH aD s.eu hi (HP.o.same HY.o.1) oN.o.1.2.2.2.2.2.1 (oN.o.2.2.1.same HY.o.1)).mono ?_)
      |(go_at_call 81;refine(iN p _ aK aM aH aD i cK bQ bc kC pz iY jJ pq iX ar _ _ h.nm ku.o (lQ.o.same HY.o.1) (mM HY.o)).mono ?_)
      rintro e' W ⟨rfl,hb⟩;replace HY:=ah (HY.o.next hb);clear hb c0 c1 c2 c3 c4 c5 c6 c7 c8 c9 c10 c11 c12 c13 c14 c15 c16 c17 c18;obtain⟨-,⟨-,c0⟩,⟨-,c1⟩,⟨-,c2⟩,⟨-,c3⟩,⟨-,c4⟩,⟨-,c5⟩,⟨-,c6⟩,⟨-,c7⟩,⟨-,c8⟩,⟨-,c9⟩,⟨-,c10⟩,⟨-,c11⟩,⟨-,c12⟩,⟨-,c13⟩,⟨-,c14⟩,⟨-,c15⟩,⟨-,c16⟩,⟨-,c17⟩,⟨-,c18⟩,-⟩:=HY.o;skip)
   go_wp2_with fail;go_ret;exact⟨bV (by first|exact HR.o.symm|(rw[HR.o];first|done|rfl|simp[kJ,nest])),HY.o.1⟩
 ·obtain⟨g1,g2,g3,g4,g5,g6,g7,g8,g9,g10,g11,g12,g13,g14,g15⟩:=op5 hop;clear hop;cases tx
  all_goals
   repeat
    go_wp2_with fail
    first
    |(go_at_call 85;refine(iQ _ _).mono ?_;rintro e' W' ⟨rfl,rfl⟩)
    |(go_at_call 82;refine(jI _ _ _).mono ?_;rintro e' W' ⟨rfl,rfl⟩)
    |(go_at_call 53;refine(jc p.ts h.nm _ aM aD HP.o.2.1 (HP.o.same HY.o.1).2.2.2).mono ?_;rintro e' W' ⟨rfl,rfl⟩;rw[HKK.o])
    |(first
      |(go_at_call 83;refine(je p i h.nm _ _ _ aK aM aH aD hi (HP.o.same HY.o.1)).mono ?_)
      |(go_at_call 84;refine(jA p i h.dN h.xn h.dJ h.bG _ aK aM s.fT aH aD s.eu hi (HP.o.same HY.o.1) oN.o.1.2.2.2.2.2.1 (oN.o.2.2.1.same HY.o.1)).mono ?_)
      |(go_at_call 81;refine(iN p _ aK aM aH aD i cK bQ bc kC pz iY jJ pq iX ar _ _ h.nm ku.o (lQ.o.same HY.o.1) (mM HY.o)).mono ?_)
      rintro e' W ⟨rfl,hb⟩;replace HY:=ah (HY.o.next hb);clear hb c0 c1 c2 c3 c4 c5 c6 c7 c8 c9 c10 c11 c12 c13 c14 c15 c16 c17 c18;obtain⟨-,⟨-,c0⟩,⟨-,c1⟩,⟨-,c2⟩,⟨-,c3⟩,⟨-,c4⟩,⟨-,c5⟩,⟨-,c6⟩,⟨-,c7⟩,⟨-,c8⟩,⟨-,c9⟩,⟨-,c10⟩,⟨-,c11⟩,⟨-,c12⟩,⟨-,c13⟩,⟨-,c14⟩,⟨-,c15⟩,⟨-,c16⟩,⟨-,c17⟩,⟨-,c18⟩,-⟩:=HY.o;skip)
   go_wp2_with fail;go_ret;exact⟨bV (by first|exact HR.o.symm|(rw[HR.o];first|done|rfl|simp[kJ,nest])),HY.o.1⟩
 ·obtain⟨g1,g2,g3,g4,g5,g6,g7,g8,g9,g10,g11,g12,g13,g14,g15⟩:=op6 hop;clear hop;cases tx
  all_goals
   repeat
    go_wp2_with fail
    first
    |(go_at_call 85;refine(iQ _ _).mono ?_;rintro e' W' ⟨rfl,rfl⟩)
    |(go_at_call 82;refine(jI _ _ _).mono ?_;rintro e' W' ⟨rfl,rfl⟩)
    |(go_at_call 53;refine(jc p.ts h.nm _ aM aD HP.o.2.1 (HP.o.same HY.o.1).2.2.2).mono ?_;rintro e' W' ⟨rfl,rfl⟩;rw[HKK.o])
    |(first
      |(go_at_call 83;refine(je p i h.nm _ _ _ aK aM aH aD hi (HP.o.same HY.o.1)).mono ?_)
      |(go_at_call 84;refine(jA p i h.dN h.xn h.dJ h.bG _ aK aM s.fT aH aD s.eu hi (HP.o.same HY.o.1) oN.o.1.2.2.2.2.2.1 (oN.o.2.2.1.same HY.o.1)).mono ?_)
      |(go_at_call 81;refine(iN p _ aK aM aH aD i cK bQ bc kC pz iY jJ pq iX ar _ _ h.nm ku.o (lQ.o.same HY.o.1) (mM HY.o)).mono ?_)
      rintro e' W ⟨rfl,hb⟩;replace HY:=ah (HY.o.next hb);clear hb c0 c1 c2 c3 c4 c5 c6 c7 c8 c9 c10 c11 c12 c13 c14 c15 c16 c17 c18;obtain⟨-,⟨-,c0⟩,⟨-,c1⟩,⟨-,c2⟩,⟨-,c3⟩,⟨-,c4⟩,⟨-,c5⟩,⟨-,c6⟩,⟨-,c7⟩,⟨-,c8⟩,⟨-,c9⟩,⟨-,c10⟩,⟨-,c11⟩,⟨-,c12⟩,⟨-,c13⟩,⟨-,c14⟩,⟨-,c15⟩,⟨-,c16⟩,⟨-,c17⟩,⟨-,c18⟩,-⟩:=HY.o;skip)
   go_wp2_with fail;go_ret;exact⟨bV (by first|exact HR.o.symm|(rw[HR.o];first|done|rfl|simp[kJ,nest])),HY.o.1⟩
 ·obtain⟨g1,g2,g3,g4,g5,g6,g7,g8,g9,g10,g11,g12,g13,g14,g15⟩:=op7 hop;clear hop
  repeat
   go_wp2_with fail
   first
   |(go_at_call 85;refine(iQ _ _).mono ?_;rintro e' W' ⟨rfl,rfl⟩)
   |(go_at_call 82;refine(jI _ _ _).mono ?_;rintro e' W' ⟨rfl,rfl⟩)
   |(go_at_call 53;refine(jc p.ts h.nm _ aM aD HP.o.2.1 (HP.o.same HY.o.1).2.2.2).mono ?_;rintro e' W' ⟨rfl,rfl⟩;rw[HKK.o])
   |(first
     |(go_at_call 83;refine(je p i h.nm _ _ _ aK aM aH aD hi (HP.o.same HY.o.1)).mono ?_)
     |(go_at_call 84;refine(jA p i h.dN h.xn h.dJ h.bG _ aK aM s.fT aH aD s.eu hi (HP.o.same HY.o.1) oN.o.1.2.2.2.2.2.1 (oN.o.2.2.1.same HY.o.1)).mono ?_)
     |(go_at_call 81;refine(iN p _ aK aM aH aD i cK bQ bc kC pz iY jJ pq iX ar _ _ h.nm ku.o (lQ.o.same HY.o.1) (mM HY.o)).mono ?_)
     rintro e' W ⟨rfl,hb⟩;replace HY:=ah (HY.o.next hb);clear hb c0 c1 c2 c3 c4 c5 c6 c7 c8 c9 c10 c11 c12 c13 c14 c15 c16 c17 c18;obtain⟨-,⟨-,c0⟩,⟨-,c1⟩,⟨-,c2⟩,⟨-,c3⟩,⟨-,c4⟩,⟨-,c5⟩,⟨-,c6⟩,⟨-,c7⟩,⟨-,c8⟩,⟨-,c9⟩,⟨-,c10⟩,⟨-,c11⟩,⟨-,c12⟩,⟨-,c13⟩,⟨-,c14⟩,⟨-,c15⟩,⟨-,c16⟩,⟨-,c17⟩,⟨-,c18⟩,-⟩:=HY.o;skip)
  go_wp2_with fail;go_ret;exact⟨bV (by first|exact HR.o.symm|(rw[HR.o];first|done|rfl|simp[kJ,nest])),HY.o.1⟩
 ·obtain⟨g1,g2,g3,g4,g5,g6,g7,g8,g9,g10,g11,g12,g13,g14,g15⟩:=op8 hop;clear hop;cases tx
  all_goals
   repeat
    go_wp2_with fail
    first
    |(go_at_call 85;refine(iQ _ _).mono ?_;rintro e' W' ⟨rfl,rfl⟩)
    |(go_at_call 82;refine(jI _ _ _).mono ?_;rintro e' W' ⟨rfl,rfl⟩)
    |(go_at_call 53;refine(jc p.ts h.nm _ aM aD HP.o.2.1 (HP.o.same HY.o.1).2.2.2).mono ?_;rintro e' W' ⟨rfl,rfl⟩;rw[HKK.o])
    |(first
      |(go_at_call 83;refine(je p i h.nm _ _ _ aK aM aH aD hi (HP.o.same HY.o.1)).mono ?_)
      |(go_at_call 84;refine(jA p i h.dN h.xn h.dJ h.bG _ aK aM s.fT aH aD s.eu hi (HP.o.same HY.o.1) oN.o.1.2.2.2.2.2.1 (oN.o.2.2.1.same HY.o.1)).mono ?_)
      |(go_at_call 81;refine(iN p _ aK aM aH aD i cK bQ bc kC pz iY jJ pq iX ar _ _ h.nm ku.o (lQ.o.same HY.o.1) (mM HY.o)).mono ?_)
      rintro e' W ⟨rfl,hb⟩;replace HY:=ah (HY.o.next hb);clear hb c0 c1 c2 c3 c4 c5 c6 c7 c8 c9 c10 c11 c12 c13 c14 c15 c16 c17 c18;obtain⟨-,⟨-,c0⟩,⟨-,c1⟩,⟨-,c2⟩,⟨-,c3⟩,⟨-,c4⟩,⟨-,c5⟩,⟨-,c6⟩,⟨-,c7⟩,⟨-,c8⟩,⟨-,c9⟩,⟨-,c10⟩,⟨-,c11⟩,⟨-,c12⟩,⟨-,c13⟩,⟨-,c14⟩,⟨-,c15⟩,⟨-,c16⟩,⟨-,c17⟩,⟨-,c18⟩,-⟩:=HY.o;skip)
   go_wp2_with fail;go_ret;exact⟨bV (by first|exact HR.o.symm|(rw[HR.o];first|done|rfl|simp[kJ,nest])),HY.o.1⟩
 iterate 3
  ·first|(obtain⟨g1,g2,g3,g4,g5,g6,g7,g8,g9,g10,g11,g12,g13,g14,g15⟩:=op9 hop;clear hop)|(obtain⟨g1,g2,g3,g4,g5,g6,g7,g8,g9,g10,g11,g12,g13,g14,g15⟩:=ad2 hop;clear hop)|(obtain⟨g1,g2,g3,g4,g5,g6,g7,g8,g9,g10,g11,g12,g13,g14,g15⟩:=ad3 hop;clear hop)
   go_wp2_with fail;refine(je p i h.nm 5 5 _ aK aM aH aD hi (HP.o.same HY.o.1)).mono ?_;rintro e' W ⟨rfl,hb⟩;replace HY:=ah (HY.o.next hb);clear hb c0 c1 c2 c3 c4 c5 c6 c7 c8 c9 c10 c11 c12 c13 c14 c15 c16 c17 c18;obtain⟨-,⟨-,c0⟩,⟨-,c1⟩,⟨-,c2⟩,⟨-,c3⟩,⟨-,c4⟩,⟨-,c5⟩,⟨-,c6⟩,⟨-,c7⟩,⟨-,c8⟩,⟨-,c9⟩,⟨-,c10⟩,⟨-,c11⟩,⟨-,c12⟩,⟨-,c13⟩,⟨-,c14⟩,⟨-,c15⟩,⟨-,c16⟩,⟨-,c17⟩,⟨-,c18⟩,-⟩:=HY.o;have HDF:=ah (Ku (p:=p) (i:=i) (nm:=h.nm));generalize gM (conv (mean p i h.nm)) 5 5=q at *;cases hq:(q != 0)
   case true=>have HR':aj (res=q):=ah (HR.o.trans (if_pos hq));clear HDF HR;go_wp2_with fail;go_ret;exact⟨bV HR'.o.symm,HY.o.1⟩
   obtain⟨k,d,r,hk,hfx,hdr,-,-,hmu⟩:=HDF.o (by simpa using hq);have HR':aj (res=nest ((tx|| !eZ ar 4 4 d.on)||(_&&Ng))):=ah (HR.o.trans ((if_neg (by rw[hq];decide)).trans (by rw[hmu])));have HFX:aj (zh p.ds h.nm=(k:Int)):=ah hfx;have hrow:=(HP.o.same HY.o.1).2.2.1.drop k;rw[hdr,aU]at hrow;obtain⟨⟨bD,bv5,rfl,hbD,-,-,-,-,-,x5,-⟩,-⟩:=hrow;have hk0:(0:Int)<=(k:Int):=by omega
   have hk1:(k:Int)<(p.ds.length:Int):=by omega
   clear HR HDF hfx hmu hdr;go_upto_region 28 with fail;obtain⟨T,F,Af,hst,hF,hnext⟩:=calm W;have HF:=ah hF;have dB:=ah hnext;clear hnext hF;have d0:=λx=>(HY.o.next (HF.o x)).2.1.2;have d1:=λx=>(HY.o.next (HF.o x)).2.2.1.2;have d2:=λx=>(HY.o.next (HF.o x)).2.2.2.1.2;have d3:=λx=>(HY.o.next (HF.o x)).2.2.2.2.1.2;have d4:=λx=>(HY.o.next (HF.o x)).2.2.2.2.2.1.2;have d5:=λx=>(HY.o.next (HF.o x)).2.2.2.2.2.2.1.2;have d6:=λx=>(HY.o.next (HF.o x)).2.2.2.2.2.2.2.1.2;have d7:=λx=>(HY.o.next (HF.o x)).2.2.2.2.2.2.2.2.1.2;have d8:=λx=>(HY.o.next (HF.o x)).2.2.2.2.2.2.2.2.2.1.2;have d9:=λx=>(HY.o.next (HF.o x)).2.2.2.2.2.2.2.2.2.2.1.2;have rV:=λx=>(HY.o.next (HF.o x)).2.2.2.2.2.2.2.2.2.2.2.1.2;have uo:=λx=>(HY.o.next (HF.o x)).2.2.2.2.2.2.2.2.2.2.2.2.1.2;have AL:=λx=>(HY.o.next (HF.o x)).2.2.2.2.2.2.2.2.2.2.2.2.2.1.2;have D8:=λx=>(HY.o.next (HF.o x)).2.2.2.2.2.2.2.2.2.2.2.2.2.2.1.2;have vV:=λx=>(HY.o.next (HF.o x)).2.2.2.2.2.2.2.2.2.2.2.2.2.2.2.1.2;have D9:=λx=>(HY.o.next (HF.o x)).2.2.2.2.2.2.2.2.2.2.2.2.2.2.2.2.1.2;have AO:=λx=>(HY.o.next (HF.o x)).2.2.2.2.2.2.2.2.2.2.2.2.2.2.2.2.2.1.2;have Da:=λx=>(HY.o.next (HF.o x)).2.2.2.2.2.2.2.2.2.2.2.2.2.2.2.2.2.2.1.2;have AP:=λx=>(HY.o.next (HF.o x)).2.2.2.2.2.2.2.2.2.2.2.2.2.2.2.2.2.2.2.1.2;clear c0 c1 c2 c3 c4 c5 c6 c7 c8 c9 c10 c11 c12 c13 c14 c15 c16 c17 c18;have y5:=λx=>((HF.o x).cell (p:=⟨bD,bv5+k*6+5,none⟩) hbD).trans x5;clear x5;refine jh F (by kernel_rfl) (by kernel_rfl) hst ?_
   repeat (any_goals (first|go_big_quiet_step ((first|(go_at_call 52;refine(oJ p.ds h.nm _ _ aH HP.o.1 ((HP.o.same HY.o.1).same (HF.o _)).2.2.1).mono ?_;rintro e w' ⟨rfl,rfl⟩;rw[HFX.o];exact⟨rfl,dB.o _ _ (ak _ _)⟩)|(go_at_call 81;refine(iN p _ _ aM aH aD i cK bQ bc kC pz iY jJ pq iX ar 4 4 d.on ku.o ((lQ.o.same HY.o.1).same (HF.o _)) ((mM HY.o).next (HF.o _))).mono ?_;rintro e w' ⟨rfl,hb⟩;exact⟨rfl,dB.o _ _ hb⟩)))|(refine wpQuiet_step (λK hK=> ?_);go_simp;first|(refine hK _ ?_;clear hK K)|(split <;> first|(refine hK _ ?_;clear hK K)|(apply Exists.intro;refine⟨λ_=> ?_,hK _ ?_⟩;((first|(go_at_call 52;refine(oJ p.ds h.nm _ _ aH HP.o.1 ((HP.o.same HY.o.1).same (HF.o _)).2.2.1).mono ?_;rintro e w' ⟨rfl,rfl⟩;rw[HFX.o];exact⟨rfl,dB.o _ _ (ak _ _)⟩)|(go_at_call 81;refine(iN p _ _ aM aH aD i cK bQ bc kC pz iY jJ pq iX ar 4 4 d.on ku.o ((lQ.o.same HY.o.1).same (HF.o _)) ((mM HY.o).next (HF.o _))).mono ?_;rintro e w' ⟨rfl,hb⟩;exact⟨rfl,dB.o _ _ hb⟩)));clear hK K)))))
   all_goals (refine wpQuiet_nil ?_;rintro _ ⟨x,rfl⟩)
   replace HY:=ah (HY.o.next (HF.o x));clear d0 d1 d2 d3 d4 d5 d6 d7 d8 d9 rV uo AL D8 vV D9 AO Da AP y5 HF dB hst;generalize F x=W2 at *;generalize eZ ar 4 4 d.on=hel at *;obtain⟨-,⟨-,c0⟩,⟨-,c1⟩,⟨-,c2⟩,⟨-,c3⟩,⟨-,c4⟩,⟨-,c5⟩,⟨-,c6⟩,⟨-,c7⟩,⟨-,c8⟩,⟨-,c9⟩,⟨-,c10⟩,⟨-,c11⟩,⟨-,c12⟩,⟨-,c13⟩,⟨-,c14⟩,⟨-,c15⟩,⟨-,c16⟩,⟨-,c17⟩,⟨-,c18⟩,-⟩:=HY.o;cases tx <;> cases hel <;> cases Ng
   all_goals go_wp2_with fail;refine(iQ _ _).mono ?_;rintro e' W' ⟨rfl,rfl⟩;go_wp2_with fail;go_ret;exact⟨bV (by first|exact HR'.o.symm|(rw[HR'.o];first|done|rfl|simp[nest])),HY.o.1⟩
 ·obtain⟨g1,g2,g3,g4,g5,g6,g7,g8,g9,g10,g11,g12,g13,g14,g15⟩:=ad5 hop;clear hop;obtain⟨kk,hkk⟩: ∃z:Int,qz p.ts h.nm=z:=⟨_,rfl⟩;have HKK:=ah hkk;rw[hkk]at HR;clear hkk;cases tx <;> cases Ng <;> cases hki:(kk==i) <;> rw[hki]at HR
  all_goals
   repeat
    go_wp2_with fail
    first
    |(go_at_call 85;refine(iQ _ _).mono ?_;rintro e' W' ⟨rfl,rfl⟩)
    |(go_at_call 82;refine(jI _ _ _).mono ?_;rintro e' W' ⟨rfl,rfl⟩)
    |(go_at_call 53;refine(jc p.ts h.nm _ aM aD HP.o.2.1 (HP.o.same HY.o.1).2.2.2).mono ?_;rintro e' W' ⟨rfl,rfl⟩;rw[HKK.o])
    |(first
      |(go_at_call 83;refine(je p i h.nm _ _ _ aK aM aH aD hi (HP.o.same HY.o.1)).mono ?_)
      |(go_at_call 84;refine(jA p i h.dN h.xn h.dJ h.bG _ aK aM s.fT aH aD s.eu hi (HP.o.same HY.o.1) oN.o.1.2.2.2.2.2.1 (oN.o.2.2.1.same HY.o.1)).mono ?_)
      |(go_at_call 81;refine(iN p _ aK aM aH aD i cK bQ bc kC pz iY jJ pq iX ar _ _ h.nm ku.o (lQ.o.same HY.o.1) (mM HY.o)).mono ?_)
      rintro e' W ⟨rfl,hb⟩;replace HY:=ah (HY.o.next hb);clear hb c0 c1 c2 c3 c4 c5 c6 c7 c8 c9 c10 c11 c12 c13 c14 c15 c16 c17 c18;obtain⟨-,⟨-,c0⟩,⟨-,c1⟩,⟨-,c2⟩,⟨-,c3⟩,⟨-,c4⟩,⟨-,c5⟩,⟨-,c6⟩,⟨-,c7⟩,⟨-,c8⟩,⟨-,c9⟩,⟨-,c10⟩,⟨-,c11⟩,⟨-,c12⟩,⟨-,c13⟩,⟨-,c14⟩,⟨-,c15⟩,⟨-,c16⟩,⟨-,c17⟩,⟨-,c18⟩,-⟩:=HY.o;skip)
   go_wp2_with fail;go_ret;exact⟨bV (by first|exact HR.o.symm|(rw[HR.o];first|done|rfl|simp[kJ,nest])),HY.o.1⟩
 ·obtain⟨g1,g2,g3,g4,g5,g6,g7,g8,g9,g10,g11,g12,g13,g14,g15⟩:=ad7 hop;clear hop;go_upto_region 49 with fail;obtain⟨T,F,Af,hst,hF,hnext⟩:=calm W;have HF:=ah hF;have dB:=ah hnext;clear hnext hF;have d0:=λx=>(HY.o.next (HF.o x)).2.1.2;have d1:=λx=>(HY.o.next (HF.o x)).2.2.1.2;have d2:=λx=>(HY.o.next (HF.o x)).2.2.2.1.2;have d3:=λx=>(HY.o.next (HF.o x)).2.2.2.2.1.2;have d4:=λx=>(HY.o.next (HF.o x)).2.2.2.2.2.1.2;have d5:=λx=>(HY.o.next (HF.o x)).2.2.2.2.2.2.1.2;have d6:=λx=>(HY.o.next (HF.o x)).2.2.2.2.2.2.2.1.2;have d7:=λx=>(HY.o.next (HF.o x)).2.2.2.2.2.2.2.2.1.2;have d8:=λx=>(HY.o.next (HF.o x)).2.2.2.2.2.2.2.2.2.1.2;have d9:=λx=>(HY.o.next (HF.o x)).2.2.2.2.2.2.2.2.2.2.1.2;have rV:=λx=>(HY.o.next (HF.o x)).2.2.2.2.2.2.2.2.2.2.2.1.2;have uo:=λx=>(HY.o.next (HF.o x)).2.2.2.2.2.2.2.2.2.2.2.2.1.2;have AL:=λx=>(HY.o.next (HF.o x)).2.2.2.2.2.2.2.2.2.2.2.2.2.1.2;have D8:=λx=>(HY.o.next (HF.o x)).2.2.2.2.2.2.2.2.2.2.2.2.2.2.1.2;have vV:=λx=>(HY.o.next (HF.o x)).2.2.2.2.2.2.2.2.2.2.2.2.2.2.2.1.2;have D9:=λx=>(HY.o.next (HF.o x)).2.2.2.2.2.2.2.2.2.2.2.2.2.2.2.2.1.2;have AO:=λx=>(HY.o.next (HF.o x)).2.2.2.2.2.2.2.2.2.2.2.2.2.2.2.2.2.1.2;have Da:=λx=>(HY.o.next (HF.o x)).2.2.2.2.2.2.2.2.2.2.2.2.2.2.2.2.2.2.1.2;have AP:=λx=>(HY.o.next (HF.o x)).2.2.2.2.2.2.2.2.2.2.2.2.2.2.2.2.2.2.2.1.2;clear c0 c1 c2 c3 c4 c5 c6 c7 c8 c9 c10 c11 c12 c13 c14 c15 c16 c17 c18;refine jh F (by kernel_rfl) (by kernel_rfl) hst ?_
  repeat (any_goals (first|go_big_quiet_step ((first|(go_at_call_of 83 (Value.int .i64 8);refine(je p i h.nm 8 8 _ aK aM aH aD hi ((HP.o.same HY.o.1).same (HF.o _))).mono ?_;rintro e w' ⟨rfl,hb⟩;exact⟨rfl,dB.o _ _ hb⟩)|(go_at_call_of 83 (Value.int .i64 6);refine(je p i h.arg 6 6 _ aK aM aH aD hi ((HP.o.same HY.o.1).same (HF.o _))).mono ?_;rintro e w' ⟨rfl,hb⟩;exact⟨rfl,dB.o _ _ hb⟩)|(go_at_call 82;refine(jI _ _ _).mono ?_;rintro e w' ⟨rfl,rfl⟩;exact⟨rfl,dB.o _ _ (ak _ _)⟩)|(go_at_call 85;refine(iQ _ _).mono ?_;rintro e w' ⟨rfl,rfl⟩;exact⟨rfl,dB.o _ _ (ak _ _)⟩)))|(refine wpQuiet_step (λK hK=> ?_);go_simp;first|(refine hK _ ?_;clear hK K)|(split <;> first|(refine hK _ ?_;clear hK K)|(apply Exists.intro;refine⟨λ_=> ?_,hK _ ?_⟩;((first|(go_at_call_of 83 (Value.int .i64 8);refine(je p i h.nm 8 8 _ aK aM aH aD hi ((HP.o.same HY.o.1).same (HF.o _))).mono ?_;rintro e w' ⟨rfl,hb⟩;exact⟨rfl,dB.o _ _ hb⟩)|(go_at_call_of 83 (Value.int .i64 6);refine(je p i h.arg 6 6 _ aK aM aH aD hi ((HP.o.same HY.o.1).same (HF.o _))).mono ?_;rintro e w' ⟨rfl,hb⟩;exact⟨rfl,dB.o _ _ hb⟩)|(go_at_call 82;refine(jI _ _ _).mono ?_;rintro e w' ⟨rfl,rfl⟩;exact⟨rfl,dB.o _ _ (ak _ _)⟩)|(go_at_call 85;refine(iQ _ _).mono ?_;rintro e w' ⟨rfl,rfl⟩;exact⟨rfl,dB.o _ _ (ak _ _)⟩)));clear hK K)))))
  all_goals (refine wpQuiet_nil ?_;rintro _ ⟨x,rfl⟩)
  replace HY:=ah (HY.o.next (HF.o x));clear d0 d1 d2 d3 d4 d5 d6 d7 d8 d9 rV uo AL D8 vV D9 AO Da AP HF dB hst;generalize F x=W2 at *;go_wp2_with fail;go_ret;exact⟨bV (by first|exact HR.o.symm|(rw[HR.o];first|done|rfl|simp[kJ,nest])),HY.o.1⟩
end
end Go.Proofs.YtmildapbbcbbhaaGreatDoor
