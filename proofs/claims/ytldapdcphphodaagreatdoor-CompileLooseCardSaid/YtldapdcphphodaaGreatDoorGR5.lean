/- Contract of the reference walk's one: where nothing is appended. And what hangs on it. -/
import Derived.Test.YtldapdcphphodaaGreatDoorGR3
set_option linter.unusedSimpArgs false
set_option linter.unusedVariables false
set_option maxHeartbeats 40000000
set_option maxRecDepth 1000000
namespace Go.Proofs.YtldapdcphphodaaGreatDoor
open Go.RowKit
open Md
section
variable (p:Pr) (w:World) (aK aM:Option Addr) (aG aD:Nat) (i:Int) (dx:Option Addr) (bV bc:Nat) (ko:Option Addr) (pK iD:Nat) (gU:Option Addr) (pJ iC:Nat)
theorem aw1 (h:dM) (b e ar:aY) (s:Sl) {res:Int} (hi:dD i) (hp:p.At w aK aM) (hin:Dm w h b e s) (har:ar.len<=maxLen) (hat:ar.At w w.heap.size dx 0) (hh:Holds w (I6 bc p aK aM aG aD i dx ar.len bV ko pK iD gU pJ iC)) (hc:
 (h.op=1∧h.idx.len=0∧res=(kC (gy (conv (mean p i h.nm)) 8 1) (kZ p i h.dQ h.xn h.dP h.bG)))∨
 (h.op=1∧∃LC n0 LA AZ F3,h.idx= .cons LC n0 LA AZ F3∧res=(kC (gy (conv (mean p i h.nm)) 2 2) (kC (kZ p i LC n0 LA AZ) (kZ p i h.dQ h.xn h.dP h.bG))))∨
 (h.op=2∧res=(kZ p i h.dQ h.xn h.dP h.bG))∨
 (h.op=3∧res=(kZ p i h.dQ h.xn h.dP h.bG))∨
 (h.op=4∧res=(kC (gy (conv (mean p i h.nm)) 3 3) (nest (eY ar 7 7 ⟨#[]⟩||eY ar 4 4 h.nm))))∨
 (h.op=5∧res=(kC (gy (conv (mean p i h.nm)) 4 4) (nest (eY ar 7 7 ⟨#[]⟩||eY ar 5 6 h.nm))))∨
 (h.op=6∧res=(kC (gy (conv (mean p i h.nm)) 4 4) (nest (eY ar 7 7 ⟨#[]⟩||eY ar 5 6 h.nm))))∨
 (h.op=7∧res=(nest (eY ar 7 7 ⟨#[]⟩)))∨
 (h.op=8∧res=(nest (eY ar 7 7 ⟨#[]⟩||eY ar 8 8 ⟨#[]⟩)))∨
 (h.op=9∧res=(if gy (conv (mean p i h.nm)) 5 5 != 0 then gy (conv (mean p i h.nm)) 5 5 else nest ((eY ar 7 7 ⟨#[]⟩|| !eY ar 4 4 (pE p.ds h.nm))||(true&&eY ar 8 8 ⟨#[]⟩))))∨
 (h.op=10∧res=(if gy (conv (mean p i h.nm)) 5 5 != 0 then gy (conv (mean p i h.nm)) 5 5 else nest ((eY ar 7 7 ⟨#[]⟩|| !eY ar 4 4 (pE p.ds h.nm))||(false&&eY ar 8 8 ⟨#[]⟩))))∨
 (h.op=11∧res=(if gy (conv (mean p i h.nm)) 5 5 != 0 then gy (conv (mean p i h.nm)) 5 5 else nest ((eY ar 7 7 ⟨#[]⟩|| !eY ar 4 4 (pE p.ds h.nm))||(false&&eY ar 8 8 ⟨#[]⟩))))∨
 (h.op=13∧res=(kC (gy (conv (mean p i h.nm)) 7 7) (nest ((eY ar 7 7 ⟨#[]⟩||eY ar 8 8 ⟨#[]⟩)||qp p.ts h.nm==i))))∨
 (h.op=15∧res=(kC (gy (conv (mean p i h.nm)) 8 8) (kC (gy (conv (mean p i h.arg)) 6 6) (nest (eY ar 7 7 ⟨#[]⟩)))))):
 Calls Tryz.prog 74 #[.pointer (some ⟨bc,0,none⟩),jH h b e s] w λe' w'=>e'= .returned (.int .i64 res)∧Below w.heap.size w w':=by
 have K8:=ah hc;clear hc;have HH:=ah (show Sit w w _ from⟨ak _ _,hh⟩);have lZ:=ah hin;have jZ:=ah hat;have jM:=ah har;have HP:=ah hp;unfold jH;clear hh hin hat har hp;go_enter Tryz.func74,Tryz.ntmps74;go_upto_region 1 with fail;generalize hW:World.alloc w _=W;generalize Value.agg #[_,_,_,_,_,_,_,_,_,_,_]=a0;have HX:aj (Sit w W (qY w.heap.size h b e s (I6 bc p aK aM aG aD i dx ar.len bV ko pK iD gU pJ iC))):=ah aaV;clear hW HH;have K0: ∀w',Below W.heap.size W w'->w'.cell? ⟨bc,0,none⟩=some (.slice aK p.ds.length aG):=λw' hb=>(HX.o.next hb).2.2.2.2.2.2.2.2.2.2.2.2.1.2;have K1: ∀w',Below W.heap.size W w'->w'.cell? ⟨bc,1,none⟩=some (.slice aM p.ts.length aD):=λw' hb=>(HX.o.next hb).2.2.2.2.2.2.2.2.2.2.2.2.2.1.2;have K2: ∀w',Below W.heap.size W w'->w'.cell? ⟨bc,2,none⟩=some (.int .i64 i):=λw' hb=>(HX.o.next hb).2.2.2.2.2.2.2.2.2.2.2.2.2.2.1.2;have HD1:Below W.heap.size W (W.drewN 1):=below_drewN (ak _ _) 1;refine bS ahd rfl ?_;generalize W.drewN 1=W1 at *;refine bK 0 11 [8,9] [[],[0],[0,1],[0,1,2],[],[4],[4,5],[4,5,6],[],[0,1,2,3,8],[0,1,2,3,4,5,6,7,8,9]] [[none,some false],[none,some false],[none,some false],[none,some false],[none,none],[none,none],[none,none],[none,none],[some false,some false],[some true,some false],[some true,some true]] (AC W1 (.cells #[.slice none 0 0,.slice none 0 0] 26) (.cells #[.slice aK p.ds.length aG,.slice aM p.ts.length aD] 26)) (λ_ _=>True) [15,16,17,18,19,20,21,22,5,6] rfl rfl aip ahd ahd ahd ahd ahd aip (λ_=>trivial) aip rfl ?_;simp only[eB,iP]
 iterate 8
  apply bf.step
  case aZ=>intro c A w' hok hC hO hD;have e0:=hO 0 aip;simp[Act.eval]at e0;simp[Act.eval]at hD;simp[go_sem,gd,Oper.wp,hD,e0,K0,K1,AC.below HD1 hC,K2];exact aO.mk trivial (AC.skip aip aip hC) (bT.mk _ _)
  try simp only[bP]
 apply bf.step
 case aZ=>intro c A w' hok hC hO hD;obtain⟨x,y,rfl⟩:=hC.bits;obtain⟨rfl,rfl,-⟩:=hok;have hw:w'=W1:=hC;subst hw;simp[go_sem,gd,Oper.wp];exact aO.mk trivial (AC.lay aip aip) (bT.mk _ _)
 refine bf.some (λ_ _=>True) (λ_ _ _ _ _=>trivial) ?_ ?_
 ·intro c A w' hok hC hO hD;obtain⟨x,y,rfl⟩:=hC.bits;obtain⟨rfl,rfl,-⟩:=hok;have hw:w'=W1.alloc _:=hC;subst hw;simp[Act.eval]at hD;simp[go_sem,gd,Oper.wp,hD];exact aO.qK (v:=undef) trivial (AC.fill aip aip) trivial
 try simp only[bP]
 apply bf.step
 case aZ=>intro c A w' hok hC hO hD;simp[Act.eval]at hD;simp[go_sem,gd,Oper.wp,hD];exact aO.mk trivial (AC.skip aip aip hC) (bT.mk _ _)
 try simp only[bP]
 refine bf.done ?_;intro wz bR;simp only[List.drop_zero];intro v0 h0 v1 h1 v2 h2 v3 h3 v4 h4 v5 h5 v6 h6 v7 h7 v8 h8 v9 h9 v10 h10;have h8':v8=_:=h8;have JG:v10=_:=h10;subst h8' JG;clear h0 h1 h2 h3 h4 h5 h6 h7 h8 h9 h10;refine dH.nil ?_;refine cO rfl ?_;have Gz:wz=W1.alloc _:=bR;generalize hn1:W1.heap.size=n1 at *;have HY:=ah ((HX.o.next HD1).wL hn1 (.slice aK p.ds.length aG) (.slice aM p.ts.length aD) 26);rw[<- Gz]at HY;clear bR Gz HX K0 K1 K2 HD1 hn1;go_simp
 iterate 3 obtain⟨-,⟨-,c0⟩,⟨-,c1⟩,⟨-,c2⟩,⟨-,c3⟩,⟨-,c4⟩,⟨-,c5⟩,⟨-,c6⟩,⟨-,c7⟩,⟨-,c8⟩,⟨-,c9⟩,⟨-,c10⟩,⟨-,c11⟩,⟨-,c12⟩,⟨-,c13⟩,⟨-,c14⟩,⟨-,c15⟩,⟨-,c16⟩,⟨-,c17⟩,⟨-,c18⟩,-⟩:=HY.o;go_wp2_with fail;refine(iq p _ aK aM aG aD i dx bV bc ko pK iD gU pJ iC ar _ _ ⟨#[]⟩ jM.o (jZ.o.same HY.o.1) (mG HY.o)).mono ?_;rintro e' W ⟨rfl,hb⟩;replace HY:=ah (HY.o.next hb);clear hb c0 c1 c2 c3 c4 c5 c6 c7 c8 c9 c10 c11 c12 c13 c14 c15 c16 c17 c18
 obtain⟨-,⟨-,c0⟩,⟨-,c1⟩,⟨-,c2⟩,⟨-,c3⟩,⟨-,c4⟩,⟨-,c5⟩,⟨-,c6⟩,⟨-,c7⟩,⟨-,c8⟩,⟨-,c9⟩,⟨-,c10⟩,⟨-,c11⟩,⟨-,c12⟩,⟨-,c13⟩,⟨-,c14⟩,⟨-,c15⟩,⟨-,c16⟩,⟨-,c17⟩,⟨-,c18⟩,-⟩:=HY.o;generalize htx:eY ar 7 7 ⟨#[]⟩=tx at *;generalize hat':eY ar 8 8 ⟨#[]⟩=Ns at *;generalize hlo:eY ar 3 3 ⟨#[]⟩=lop at *;clear htx hat' hlo;rcases K8.o with⟨hop,hx,hr⟩|⟨hop,LC,n0,LA,AZ,F3,hix,hr⟩|⟨hop,hr⟩|⟨hop,hr⟩|⟨hop,hr⟩|⟨hop,hr⟩|⟨hop,hr⟩|⟨hop,hr⟩|⟨hop,hr⟩|⟨hop,hr⟩|⟨hop,hr⟩|⟨hop,hr⟩|⟨hop,hr⟩|⟨hop,hr⟩
 all_goals have HR:=ah hr;clear hr K8
 ·obtain⟨g1,g2,g3,g4,g5,g6,g7,g8,g9,g10,g11,g12,g13,g14,g15⟩:=op1 hop;clear hop;rw[hx]at c6;clear hx;go_upto_region 8 with fail;obtain⟨T,F,Ad,hst,hF,hnext⟩:=calm W;have HF:=ah hF;have eH:=ah hnext;clear hnext hF;have d0:=λx=>(HY.o.next (HF.o x)).2.1.2;have d1:=λx=>(HY.o.next (HF.o x)).2.2.1.2;have d2:=λx=>(HY.o.next (HF.o x)).2.2.2.1.2;have d3:=λx=>(HY.o.next (HF.o x)).2.2.2.2.1.2;have d4:=λx=>(HY.o.next (HF.o x)).2.2.2.2.2.1.2;have d5:=λx=>(HY.o.next (HF.o x)).2.2.2.2.2.2.1.2;have d6:=λx=>(HY.o.next (HF.o x)).2.2.2.2.2.2.2.1.2;have d7:=λx=>(HY.o.next (HF.o x)).2.2.2.2.2.2.2.2.1.2;have d8:=λx=>(HY.o.next (HF.o x)).2.2.2.2.2.2.2.2.2.1.2;have d9:=λx=>(HY.o.next (HF.o x)).2.2.2.2.2.2.2.2.2.2.1.2;have sw:=λx=>(HY.o.next (HF.o x)).2.2.2.2.2.2.2.2.2.2.2.1.2;have tX:=λx=>(HY.o.next (HF.o x)).2.2.2.2.2.2.2.2.2.2.2.2.1.2;have Av:=λx=>(HY.o.next (HF.o x)).2.2.2.2.2.2.2.2.2.2.2.2.2.1.2;have CQ:=λx=>(HY.o.next (HF.o x)).2.2.2.2.2.2.2.2.2.2.2.2.2.2.1.2;have vZ:=λx=>(HY.o.next (HF.o x)).2.2.2.2.2.2.2.2.2.2.2.2.2.2.2.1.2;have CS:=λx=>(HY.o.next (HF.o x)).2.2.2.2.2.2.2.2.2.2.2.2.2.2.2.2.1.2;have Aw:=λx=>(HY.o.next (HF.o x)).2.2.2.2.2.2.2.2.2.2.2.2.2.2.2.2.2.1.2;have CU:=λx=>(HY.o.next (HF.o x)).2.2.2.2.2.2.2.2.2.2.2.2.2.2.2.2.2.2.1.2;have Ay:=λx=>(HY.o.next (HF.o x)).2.2.2.2.2.2.2.2.2.2.2.2.2.2.2.2.2.2.2.1.2;clear c0 c1 c2 c3 c4 c5 c6 c7 c8 c9 c10 c11 c12 c13 c14 c15 c16 c17 c18;refine iR F ahd ahd hst ?_
  repeat (any_goals (first|go_big_quiet_step ((first|(go_at_call 103;refine(iL p i h.nm 8 1 _ aK aM aG aD hi ((HP.o.same HY.o.1).same (HF.o _))).mono ?_;rintro e w' ⟨rfl,hb⟩;exact⟨rfl,eH.o _ _ hb⟩)|(go_at_call 104;refine(jh p i h.dQ h.xn h.dP h.bG _ aK aM s.fD aG aD s.dS hi ((HP.o.same HY.o.1).same (HF.o _)) lZ.o.1.2.2.2.2.2.1 ((lZ.o.2.2.1.same HY.o.1).same (HF.o _))).mono ?_;rintro e w' ⟨rfl,hb⟩;exact⟨rfl,eH.o _ _ hb⟩)|(go_at_call 102;refine(jw _ _ _).mono ?_;rintro e w' ⟨rfl,rfl⟩;exact⟨rfl,eH.o _ _ (ak _ _)⟩)))|(refine wpQuiet_step (λK hK=> ?_);go_simp;first|(refine hK _ ?_;clear hK K)|(split <;> first|(refine hK _ ?_;clear hK K)|(apply Exists.intro;refine⟨λ_=> ?_,hK _ ?_⟩;((first|(go_at_call 103;refine(iL p i h.nm 8 1 _ aK aM aG aD hi ((HP.o.same HY.o.1).same (HF.o _))).mono ?_;rintro e w' ⟨rfl,hb⟩;exact⟨rfl,eH.o _ _ hb⟩)|(go_at_call 104;refine(jh p i h.dQ h.xn h.dP h.bG _ aK aM s.fD aG aD s.dS hi ((HP.o.same HY.o.1).same (HF.o _)) lZ.o.1.2.2.2.2.2.1 ((lZ.o.2.2.1.same HY.o.1).same (HF.o _))).mono ?_;rintro e w' ⟨rfl,hb⟩;exact⟨rfl,eH.o _ _ hb⟩)|(go_at_call 102;refine(jw _ _ _).mono ?_;rintro e w' ⟨rfl,rfl⟩;exact⟨rfl,eH.o _ _ (ak _ _)⟩)));clear hK K)))))
  all_goals (refine wpQuiet_nil ?_;rintro _ ⟨x,rfl⟩)
  replace HY:=ah (HY.o.next (HF.o x));clear d0 d1 d2 d3 d4 d5 d6 d7 d8 d9 sw tX Av CQ vZ CS Aw CU Ay HF eH hst;generalize F x=W2 at *;go_wp2_with fail;go_ret;exact⟨bW aap,HY.o.1⟩
 ·obtain⟨⟨b0,Ae,Fv,cap0,hao,jq,x0,x1,x2,x3,hok0,hk0⟩,-⟩:=(hix ▸ lZ.o.2.1:(bY.cons LC n0 LA AZ F3).At w w.heap.size s.fM 0);have HO0:=ah (aB hok0 hk0);have Nk:=ah (aB jq (aB x0 (aB x1 (aB x2 x3))));have xJ:=ah hao;have IW:=ah hix;clear hok0 hk0 jq x0 x1 x2 x3 hao hix;obtain⟨g1,g2,g3,g4,g5,g6,g7,g8,g9,g10,g11,g12,g13,g14,g15⟩:=op1 hop;clear hop;rw[IW.o,xJ.o]at c6;simp only[bY.len]at c6;go_upto_region 9 with fail;obtain⟨T,F,Ad,hst,hF,hnext⟩:=calm W;have HF:=ah hF;have eH:=ah hnext;clear hnext hF;have d0:=λx=>(HY.o.next (HF.o x)).2.1.2;have d1:=λx=>(HY.o.next (HF.o x)).2.2.1.2;have d2:=λx=>(HY.o.next (HF.o x)).2.2.2.1.2;have d3:=λx=>(HY.o.next (HF.o x)).2.2.2.2.1.2;have d4:=λx=>(HY.o.next (HF.o x)).2.2.2.2.2.1.2;have d5:=λx=>(HY.o.next (HF.o x)).2.2.2.2.2.2.1.2;have d6:=λx=>(HY.o.next (HF.o x)).2.2.2.2.2.2.2.1.2;have d7:=λx=>(HY.o.next (HF.o x)).2.2.2.2.2.2.2.2.1.2;have d8:=λx=>(HY.o.next (HF.o x)).2.2.2.2.2.2.2.2.2.1.2;have d9:=λx=>(HY.o.next (HF.o x)).2.2.2.2.2.2.2.2.2.2.1.2;have sw:=λx=>(HY.o.next (HF.o x)).2.2.2.2.2.2.2.2.2.2.2.1.2;have tX:=λx=>(HY.o.next (HF.o x)).2.2.2.2.2.2.2.2.2.2.2.2.1.2;have Av:=λx=>(HY.o.next (HF.o x)).2.2.2.2.2.2.2.2.2.2.2.2.2.1.2;have CQ:=λx=>(HY.o.next (HF.o x)).2.2.2.2.2.2.2.2.2.2.2.2.2.2.1.2;have vZ:=λx=>(HY.o.next (HF.o x)).2.2.2.2.2.2.2.2.2.2.2.2.2.2.2.1.2;have CS:=λx=>(HY.o.next (HF.o x)).2.2.2.2.2.2.2.2.2.2.2.2.2.2.2.2.1.2;have Aw:=λx=>(HY.o.next (HF.o x)).2.2.2.2.2.2.2.2.2.2.2.2.2.2.2.2.2.1.2;have CU:=λx=>(HY.o.next (HF.o x)).2.2.2.2.2.2.2.2.2.2.2.2.2.2.2.2.2.2.1.2;have Ay:=λx=>(HY.o.next (HF.o x)).2.2.2.2.2.2.2.2.2.2.2.2.2.2.2.2.2.2.2.1.2;clear c0 c1 c2 c3 c4 c5 c6 c7 c8 c9 c10 c11 c12 c13 c14 c15 c16 c17 c18;have y0:=λx=>(((HY.o.1.trans ((HF.o x).mono HY.o.1.size)).cell (p:=⟨b0,Ae+0*4,none⟩) Nk.o.1)).trans Nk.o.2.1;have y1:=λx=>(((HY.o.1.trans ((HF.o x).mono HY.o.1.size)).cell (p:=⟨b0,Ae+0*4+1,none⟩) Nk.o.1)).trans Nk.o.2.2.1;have y2:=λx=>(((HY.o.1.trans ((HF.o x).mono HY.o.1.size)).cell (p:=⟨b0,Ae+0*4+2,none⟩) Nk.o.1)).trans Nk.o.2.2.2.1;have y3:=λx=>(((HY.o.1.trans ((HF.o x).mono HY.o.1.size)).cell (p:=⟨b0,Ae+0*4+3,none⟩) Nk.o.1)).trans Nk.o.2.2.2.2;simp only[Nat.zero_mul,Nat.add_zero]at y0 y1 y2 y3;simp only[IW.o,xJ.o,bY.len]at d6;have hz0:(0:Int)<(F3.len:Int)+1:=by omega
  have hz1:(0:Int)<((F3.len+1:Nat):Int):=ahe
  refine iR F ahd ahd hst ?_
  repeat (any_goals (first|go_big_quiet_step ((first|(go_at_call 103;refine(iL p i h.nm 2 2 _ aK aM aG aD hi ((HP.o.same HY.o.1).same (HF.o _))).mono ?_;rintro e w' ⟨rfl,hb⟩;exact⟨rfl,eH.o _ _ hb⟩)|(go_at_call_of 104 (Value.agg #[.int .i64 LC,.int .i64 n0,.string LA,.slice Fv AZ.len cap0]);refine(jh p i LC n0 LA AZ _ aK aM Fv aG aD cap0 hi ((HP.o.same HY.o.1).same (HF.o _)) HO0.o.1 ((HO0.o.2.same HY.o.1).same (HF.o _))).mono ?_;rintro e w' ⟨rfl,hb⟩;exact⟨rfl,eH.o _ _ hb⟩)|(go_at_call_of 104 (Value.agg #[.int .i64 h.dQ,.int .i64 h.xn,.string h.dP,.slice s.fD h.bG.len s.dS]);refine(jh p i h.dQ h.xn h.dP h.bG _ aK aM s.fD aG aD s.dS hi ((HP.o.same HY.o.1).same (HF.o _)) lZ.o.1.2.2.2.2.2.1 ((lZ.o.2.2.1.same HY.o.1).same (HF.o _))).mono ?_;rintro e w' ⟨rfl,hb⟩;exact⟨rfl,eH.o _ _ hb⟩)|(go_at_call 102;refine(jw _ _ _).mono ?_;rintro e w' ⟨rfl,rfl⟩;exact⟨rfl,eH.o _ _ (ak _ _)⟩)))|(refine wpQuiet_step (λK hK=> ?_);go_simp;first|(refine hK _ ?_;clear hK K)|(split <;> first|(refine hK _ ?_;clear hK K)|(apply Exists.intro;refine⟨λ_=> ?_,hK _ ?_⟩;((first|(go_at_call 103;refine(iL p i h.nm 2 2 _ aK aM aG aD hi ((HP.o.same HY.o.1).same (HF.o _))).mono ?_;rintro e w' ⟨rfl,hb⟩;exact⟨rfl,eH.o _ _ hb⟩)|(go_at_call_of 104 (Value.agg #[.int .i64 LC,.int .i64 n0,.string LA,.slice Fv AZ.len cap0]);refine(jh p i LC n0 LA AZ _ aK aM Fv aG aD cap0 hi ((HP.o.same HY.o.1).same (HF.o _)) HO0.o.1 ((HO0.o.2.same HY.o.1).same (HF.o _))).mono ?_;rintro e w' ⟨rfl,hb⟩;exact⟨rfl,eH.o _ _ hb⟩)|(go_at_call_of 104 (Value.agg #[.int .i64 h.dQ,.int .i64 h.xn,.string h.dP,.slice s.fD h.bG.len s.dS]);refine(jh p i h.dQ h.xn h.dP h.bG _ aK aM s.fD aG aD s.dS hi ((HP.o.same HY.o.1).same (HF.o _)) lZ.o.1.2.2.2.2.2.1 ((lZ.o.2.2.1.same HY.o.1).same (HF.o _))).mono ?_;rintro e w' ⟨rfl,hb⟩;exact⟨rfl,eH.o _ _ hb⟩)|(go_at_call 102;refine(jw _ _ _).mono ?_;rintro e w' ⟨rfl,rfl⟩;exact⟨rfl,eH.o _ _ (ak _ _)⟩)));clear hK K)))))
  all_goals (refine wpQuiet_nil ?_;rintro _ ⟨x,rfl⟩)
  replace HY:=ah (HY.o.next (HF.o x));clear d0 d1 d2 d3 d4 d5 d6 d7 d8 d9 sw tX Av CQ vZ CS Aw CU Ay y0 y1 y2 y3 HF eH hst;generalize F x=W2 at *;go_wp2_with fail;go_ret;exact⟨bW aap,HY.o.1⟩
 ·obtain⟨g1,g2,g3,g4,g5,g6,g7,g8,g9,g10,g11,g12,g13,g14,g15⟩:=op2 hop;clear hop
  repeat
   go_wp2_with fail
   first
   |(go_at_call 105;refine(iw _ _).mono ?_;rintro e' W' ⟨rfl,rfl⟩)
   |(go_at_call 102;refine(jw _ _ _).mono ?_;rintro e' W' ⟨rfl,rfl⟩)
   |(go_at_call 72;refine(iG p.ts h.nm _ aM aD HP.o.2.1 (HP.o.same HY.o.1).2.2.2).mono ?_;rintro e' W' ⟨rfl,rfl⟩;rw[HKK.o])
   |(first
     |(go_at_call 103;refine(iL p i h.nm _ _ _ aK aM aG aD hi (HP.o.same HY.o.1)).mono ?_)
     |(go_at_call 104;refine(jh p i h.dQ h.xn h.dP h.bG _ aK aM s.fD aG aD s.dS hi (HP.o.same HY.o.1) lZ.o.1.2.2.2.2.2.1 (lZ.o.2.2.1.same HY.o.1)).mono ?_)
     |(go_at_call 101;refine(iq p _ aK aM aG aD i dx bV bc ko pK iD gU pJ iC ar _ _ h.nm jM.o (jZ.o.same HY.o.1) (mG HY.o)).mono ?_)
     rintro e' W ⟨rfl,hb⟩;replace HY:=ah (HY.o.next hb);clear hb c0 c1 c2 c3 c4 c5 c6 c7 c8 c9 c10 c11 c12 c13 c14 c15 c16 c17 c18;obtain⟨-,⟨-,c0⟩,⟨-,c1⟩,⟨-,c2⟩,⟨-,c3⟩,⟨-,c4⟩,⟨-,c5⟩,⟨-,c6⟩,⟨-,c7⟩,⟨-,c8⟩,⟨-,c9⟩,⟨-,c10⟩,⟨-,c11⟩,⟨-,c12⟩,⟨-,c13⟩,⟨-,c14⟩,⟨-,c15⟩,⟨-,c16⟩,⟨-,c17⟩,⟨-,c18⟩,-⟩:=HY.o;skip)
  go_wp2_with fail;go_ret;exact⟨bW aap,HY.o.1⟩
 ·obtain⟨g1,g2,g3,g4,g5,g6,g7,g8,g9,g10,g11,g12,g13,g14,g15⟩:=Ye hop;clear hop
  repeat
   go_wp2_with fail
   first
   |(go_at_call 105;refine(iw _ _).mono ?_;rintro e' W' ⟨rfl,rfl⟩)
   |(go_at_call 102;refine(jw _ _ _).mono ?_;rintro e' W' ⟨rfl,rfl⟩)
   |(go_at_call 72;refine(iG p.ts h.nm _ aM aD HP.o.2.1 (HP.o.same HY.o.1).2.2.2).mono ?_;rintro e' W' ⟨rfl,rfl⟩;rw[HKK.o])
   |(first
     |(go_at_call 103;refine(iL p i h.nm _ _ _ aK aM aG aD hi (HP.o.same HY.o.1)).mono ?_)
     |(go_at_call 104;refine(jh p i h.dQ h.xn h.dP h.bG _ aK aM s.fD aG aD s.dS hi (HP.o.same HY.o.1) lZ.o.1.2.2.2.2.2.1 (lZ.o.2.2.1.same HY.o.1)).mono ?_)
     |(go_at_call 101;refine(iq p _ aK aM aG aD i dx bV bc ko pK iD gU pJ iC ar _ _ h.nm jM.o (jZ.o.same HY.o.1) (mG HY.o)).mono ?_)
     rintro e' W ⟨rfl,hb⟩;replace HY:=ah (HY.o.next hb);clear hb c0 c1 c2 c3 c4 c5 c6 c7 c8 c9 c10 c11 c12 c13 c14 c15 c16 c17 c18;obtain⟨-,⟨-,c0⟩,⟨-,c1⟩,⟨-,c2⟩,⟨-,c3⟩,⟨-,c4⟩,⟨-,c5⟩,⟨-,c6⟩,⟨-,c7⟩,⟨-,c8⟩,⟨-,c9⟩,⟨-,c10⟩,⟨-,c11⟩,⟨-,c12⟩,⟨-,c13⟩,⟨-,c14⟩,⟨-,c15⟩,⟨-,c16⟩,⟨-,c17⟩,⟨-,c18⟩,-⟩:=HY.o;skip)
  go_wp2_with fail;go_ret;exact⟨bW aap,HY.o.1⟩
 ·obtain⟨g1,g2,g3,g4,g5,g6,g7,g8,g9,g10,g11,g12,g13,g14,g15⟩:=Yf hop;clear hop;cases tx
  all_goals
   repeat
    go_wp2_with fail
    first
    |(go_at_call 105;refine(iw _ _).mono ?_;rintro e' W' ⟨rfl,rfl⟩)
    |(go_at_call 102;refine(jw _ _ _).mono ?_;rintro e' W' ⟨rfl,rfl⟩)
    |(go_at_call 72;refine(iG p.ts h.nm _ aM aD HP.o.2.1 (HP.o.same HY.o.1).2.2.2).mono ?_;rintro e' W' ⟨rfl,rfl⟩;rw[HKK.o])
    |(first
      |(go_at_call 103;refine(iL p i h.nm _ _ _ aK aM aG aD hi (HP.o.same HY.o.1)).mono ?_)
      |(go_at_call 104;refine(jh p i h.dQ h.xn h.dP h.bG _ aK aM s.fD aG aD s.dS hi (HP.o.same HY.o.1) lZ.o.1.2.2.2.2.2.1 (lZ.o.2.2.1.same HY.o.1)).mono ?_)
      |(go_at_call 101;refine(iq p _ aK aM aG aD i dx bV bc ko pK iD gU pJ iC ar _ _ h.nm jM.o (jZ.o.same HY.o.1) (mG HY.o)).mono ?_)
      rintro e' W ⟨rfl,hb⟩;replace HY:=ah (HY.o.next hb);clear hb c0 c1 c2 c3 c4 c5 c6 c7 c8 c9 c10 c11 c12 c13 c14 c15 c16 c17 c18;obtain⟨-,⟨-,c0⟩,⟨-,c1⟩,⟨-,c2⟩,⟨-,c3⟩,⟨-,c4⟩,⟨-,c5⟩,⟨-,c6⟩,⟨-,c7⟩,⟨-,c8⟩,⟨-,c9⟩,⟨-,c10⟩,⟨-,c11⟩,⟨-,c12⟩,⟨-,c13⟩,⟨-,c14⟩,⟨-,c15⟩,⟨-,c16⟩,⟨-,c17⟩,⟨-,c18⟩,-⟩:=HY.o;skip)
   go_wp2_with fail;go_ret;exact⟨bW aap,HY.o.1⟩
 ·obtain⟨g1,g2,g3,g4,g5,g6,g7,g8,g9,g10,g11,g12,g13,g14,g15⟩:=Yg hop;clear hop;cases tx
  all_goals
   repeat
    go_wp2_with fail
    first
    |(go_at_call 105;refine(iw _ _).mono ?_;rintro e' W' ⟨rfl,rfl⟩)
    |(go_at_call 102;refine(jw _ _ _).mono ?_;rintro e' W' ⟨rfl,rfl⟩)
    |(go_at_call 72;refine(iG p.ts h.nm _ aM aD HP.o.2.1 (HP.o.same HY.o.1).2.2.2).mono ?_;rintro e' W' ⟨rfl,rfl⟩;rw[HKK.o])
    |(first
      |(go_at_call 103;refine(iL p i h.nm _ _ _ aK aM aG aD hi (HP.o.same HY.o.1)).mono ?_)
      |(go_at_call 104;refine(jh p i h.dQ h.xn h.dP h.bG _ aK aM s.fD aG aD s.dS hi (HP.o.same HY.o.1) lZ.o.1.2.2.2.2.2.1 (lZ.o.2.2.1.same HY.o.1)).mono ?_)
      |(go_at_call 101;refine(iq p _ aK aM aG aD i dx bV bc ko pK iD gU pJ iC ar _ _ h.nm jM.o (jZ.o.same HY.o.1) (mG HY.o)).mono ?_)
      rintro e' W ⟨rfl,hb⟩;replace HY:=ah (HY.o.next hb);clear hb c0 c1 c2 c3 c4 c5 c6 c7 c8 c9 c10 c11 c12 c13 c14 c15 c16 c17 c18;obtain⟨-,⟨-,c0⟩,⟨-,c1⟩,⟨-,c2⟩,⟨-,c3⟩,⟨-,c4⟩,⟨-,c5⟩,⟨-,c6⟩,⟨-,c7⟩,⟨-,c8⟩,⟨-,c9⟩,⟨-,c10⟩,⟨-,c11⟩,⟨-,c12⟩,⟨-,c13⟩,⟨-,c14⟩,⟨-,c15⟩,⟨-,c16⟩,⟨-,c17⟩,⟨-,c18⟩,-⟩:=HY.o;skip)
   go_wp2_with fail;go_ret;exact⟨bW aap,HY.o.1⟩
 ·obtain⟨g1,g2,g3,g4,g5,g6,g7,g8,g9,g10,g11,g12,g13,g14,g15⟩:=Yh hop;clear hop;cases tx
  all_goals
   repeat
    go_wp2_with fail
    first
    |(go_at_call 105;refine(iw _ _).mono ?_;rintro e' W' ⟨rfl,rfl⟩)
    |(go_at_call 102;refine(jw _ _ _).mono ?_;rintro e' W' ⟨rfl,rfl⟩)
    |(go_at_call 72;refine(iG p.ts h.nm _ aM aD HP.o.2.1 (HP.o.same HY.o.1).2.2.2).mono ?_;rintro e' W' ⟨rfl,rfl⟩;rw[HKK.o])
    |(first
      |(go_at_call 103;refine(iL p i h.nm _ _ _ aK aM aG aD hi (HP.o.same HY.o.1)).mono ?_)
      |(go_at_call 104;refine(jh p i h.dQ h.xn h.dP h.bG _ aK aM s.fD aG aD s.dS hi (HP.o.same HY.o.1) lZ.o.1.2.2.2.2.2.1 (lZ.o.2.2.1.same HY.o.1)).mono ?_)
      |(go_at_call 101;refine(iq p _ aK aM aG aD i dx bV bc ko pK iD gU pJ iC ar _ _ h.nm jM.o (jZ.o.same HY.o.1) (mG HY.o)).mono ?_)
      rintro e' W ⟨rfl,hb⟩;replace HY:=ah (HY.o.next hb);clear hb c0 c1 c2 c3 c4 c5 c6 c7 c8 c9 c10 c11 c12 c13 c14 c15 c16 c17 c18;obtain⟨-,⟨-,c0⟩,⟨-,c1⟩,⟨-,c2⟩,⟨-,c3⟩,⟨-,c4⟩,⟨-,c5⟩,⟨-,c6⟩,⟨-,c7⟩,⟨-,c8⟩,⟨-,c9⟩,⟨-,c10⟩,⟨-,c11⟩,⟨-,c12⟩,⟨-,c13⟩,⟨-,c14⟩,⟨-,c15⟩,⟨-,c16⟩,⟨-,c17⟩,⟨-,c18⟩,-⟩:=HY.o;skip)
   go_wp2_with fail;go_ret;exact⟨bW aap,HY.o.1⟩
 ·obtain⟨g1,g2,g3,g4,g5,g6,g7,g8,g9,g10,g11,g12,g13,g14,g15⟩:=Yi hop;clear hop
  repeat
   go_wp2_with fail
   first
   |(go_at_call 105;refine(iw _ _).mono ?_;rintro e' W' ⟨rfl,rfl⟩)
   |(go_at_call 102;refine(jw _ _ _).mono ?_;rintro e' W' ⟨rfl,rfl⟩)
   |(go_at_call 72;refine(iG p.ts h.nm _ aM aD HP.o.2.1 (HP.o.same HY.o.1).2.2.2).mono ?_;rintro e' W' ⟨rfl,rfl⟩;rw[HKK.o])
   |(first
     |(go_at_call 103;refine(iL p i h.nm _ _ _ aK aM aG aD hi (HP.o.same HY.o.1)).mono ?_)
     |(go_at_call 104;refine(jh p i h.dQ h.xn h.dP h.bG _ aK aM s.fD aG aD s.dS hi (HP.o.same HY.o.1) lZ.o.1.2.2.2.2.2.1 (lZ.o.2.2.1.same HY.o.1)).mono ?_)
     |(go_at_call 101;refine(iq p _ aK aM aG aD i dx bV bc ko pK iD gU pJ iC ar _ _ h.nm jM.o (jZ.o.same HY.o.1) (mG HY.o)).mono ?_)
     rintro e' W ⟨rfl,hb⟩;replace HY:=ah (HY.o.next hb);clear hb c0 c1 c2 c3 c4 c5 c6 c7 c8 c9 c10 c11 c12 c13 c14 c15 c16 c17 c18;obtain⟨-,⟨-,c0⟩,⟨-,c1⟩,⟨-,c2⟩,⟨-,c3⟩,⟨-,c4⟩,⟨-,c5⟩,⟨-,c6⟩,⟨-,c7⟩,⟨-,c8⟩,⟨-,c9⟩,⟨-,c10⟩,⟨-,c11⟩,⟨-,c12⟩,⟨-,c13⟩,⟨-,c14⟩,⟨-,c15⟩,⟨-,c16⟩,⟨-,c17⟩,⟨-,c18⟩,-⟩:=HY.o;skip)
  go_wp2_with fail;go_ret;exact⟨bW aap,HY.o.1⟩
 ·obtain⟨g1,g2,g3,g4,g5,g6,g7,g8,g9,g10,g11,g12,g13,g14,g15⟩:=Yj hop;clear hop;cases tx
  all_goals
   repeat
    go_wp2_with fail
    first
    |(go_at_call 105;refine(iw _ _).mono ?_;rintro e' W' ⟨rfl,rfl⟩)
    |(go_at_call 102;refine(jw _ _ _).mono ?_;rintro e' W' ⟨rfl,rfl⟩)
    |(go_at_call 72;refine(iG p.ts h.nm _ aM aD HP.o.2.1 (HP.o.same HY.o.1).2.2.2).mono ?_;rintro e' W' ⟨rfl,rfl⟩;rw[HKK.o])
    |(first
      |(go_at_call 103;refine(iL p i h.nm _ _ _ aK aM aG aD hi (HP.o.same HY.o.1)).mono ?_)
      |(go_at_call 104;refine(jh p i h.dQ h.xn h.dP h.bG _ aK aM s.fD aG aD s.dS hi (HP.o.same HY.o.1) lZ.o.1.2.2.2.2.2.1 (lZ.o.2.2.1.same HY.o.1)).mono ?_)
      |(go_at_call 101;refine(iq p _ aK aM aG aD i dx bV bc ko pK iD gU pJ iC ar _ _ h.nm jM.o (jZ.o.same HY.o.1) (mG HY.o)).mono ?_)
      rintro e' W ⟨rfl,hb⟩;replace HY:=ah (HY.o.next hb);clear hb c0 c1 c2 c3 c4 c5 c6 c7 c8 c9 c10 c11 c12 c13 c14 c15 c16 c17 c18;obtain⟨-,⟨-,c0⟩,⟨-,c1⟩,⟨-,c2⟩,⟨-,c3⟩,⟨-,c4⟩,⟨-,c5⟩,⟨-,c6⟩,⟨-,c7⟩,⟨-,c8⟩,⟨-,c9⟩,⟨-,c10⟩,⟨-,c11⟩,⟨-,c12⟩,⟨-,c13⟩,⟨-,c14⟩,⟨-,c15⟩,⟨-,c16⟩,⟨-,c17⟩,⟨-,c18⟩,-⟩:=HY.o;skip)
   go_wp2_with fail;go_ret;exact⟨bW aap,HY.o.1⟩
 iterate 3
  ·first|(obtain⟨g1,g2,g3,g4,g5,g6,g7,g8,g9,g10,g11,g12,g13,g14,g15⟩:=Yk hop;clear hop)|(obtain⟨g1,g2,g3,g4,g5,g6,g7,g8,g9,g10,g11,g12,g13,g14,g15⟩:=QM hop;clear hop)|(obtain⟨g1,g2,g3,g4,g5,g6,g7,g8,g9,g10,g11,g12,g13,g14,g15⟩:=QN hop;clear hop)
   go_wp2_with fail;refine(iL p i h.nm 5 5 _ aK aM aG aD hi (HP.o.same HY.o.1)).mono ?_;rintro e' W ⟨rfl,hb⟩;replace HY:=ah (HY.o.next hb);clear hb c0 c1 c2 c3 c4 c5 c6 c7 c8 c9 c10 c11 c12 c13 c14 c15 c16 c17 c18;obtain⟨-,⟨-,c0⟩,⟨-,c1⟩,⟨-,c2⟩,⟨-,c3⟩,⟨-,c4⟩,⟨-,c5⟩,⟨-,c6⟩,⟨-,c7⟩,⟨-,c8⟩,⟨-,c9⟩,⟨-,c10⟩,⟨-,c11⟩,⟨-,c12⟩,⟨-,c13⟩,⟨-,c14⟩,⟨-,c15⟩,⟨-,c16⟩,⟨-,c17⟩,⟨-,c18⟩,-⟩:=HY.o;have HDF:=ah (KT (p:=p) (i:=i) (nm:=h.nm));generalize gy (conv (mean p i h.nm)) 5 5=q at *;cases hq:(q != 0)
   case true=>have HR':aj (res=q):=ah (HR.o.trans (if_pos hq));clear HDF HR;go_wp2_with fail;go_ret;exact⟨bW HR'.o.symm,HY.o.1⟩
   obtain⟨k,d,r,hk,hfx,hdr,-,-,hmu⟩:=HDF.o (by simpa using hq);have HR':aj (res=nest ((tx|| !eY ar 4 4 d.on)||(_&&Ns))):=ah (HR.o.trans ((if_neg (by rw[hq];decide)).trans (by rw[hmu])));have HFX:aj (zq p.ds h.nm=(k:Int)):=ah hfx;have hrow:=(HP.o.same HY.o.1).2.2.1.drop k;rw[hdr,aV]at hrow;obtain⟨⟨bD,bq7,rfl,hbD,-,-,-,-,-,x5,-⟩,-⟩:=hrow;have hk0:(0:Int)<=(k:Int):=ahe
   have hk1:(k:Int)<(p.ds.length:Int):=ahe
   clear HR HDF hfx hmu hdr;go_upto_region 28 with fail;obtain⟨T,F,Ad,hst,hF,hnext⟩:=calm W;have HF:=ah hF;have eH:=ah hnext;clear hnext hF;have d0:=λx=>(HY.o.next (HF.o x)).2.1.2;have d1:=λx=>(HY.o.next (HF.o x)).2.2.1.2;have d2:=λx=>(HY.o.next (HF.o x)).2.2.2.1.2;have d3:=λx=>(HY.o.next (HF.o x)).2.2.2.2.1.2;have d4:=λx=>(HY.o.next (HF.o x)).2.2.2.2.2.1.2;have d5:=λx=>(HY.o.next (HF.o x)).2.2.2.2.2.2.1.2;have d6:=λx=>(HY.o.next (HF.o x)).2.2.2.2.2.2.2.1.2;have d7:=λx=>(HY.o.next (HF.o x)).2.2.2.2.2.2.2.2.1.2;have d8:=λx=>(HY.o.next (HF.o x)).2.2.2.2.2.2.2.2.2.1.2;have d9:=λx=>(HY.o.next (HF.o x)).2.2.2.2.2.2.2.2.2.2.1.2;have sw:=λx=>(HY.o.next (HF.o x)).2.2.2.2.2.2.2.2.2.2.2.1.2;have tX:=λx=>(HY.o.next (HF.o x)).2.2.2.2.2.2.2.2.2.2.2.2.1.2;have Av:=λx=>(HY.o.next (HF.o x)).2.2.2.2.2.2.2.2.2.2.2.2.2.1.2;have CQ:=λx=>(HY.o.next (HF.o x)).2.2.2.2.2.2.2.2.2.2.2.2.2.2.1.2;have vZ:=λx=>(HY.o.next (HF.o x)).2.2.2.2.2.2.2.2.2.2.2.2.2.2.2.1.2;have CS:=λx=>(HY.o.next (HF.o x)).2.2.2.2.2.2.2.2.2.2.2.2.2.2.2.2.1.2;have Aw:=λx=>(HY.o.next (HF.o x)).2.2.2.2.2.2.2.2.2.2.2.2.2.2.2.2.2.1.2;have CU:=λx=>(HY.o.next (HF.o x)).2.2.2.2.2.2.2.2.2.2.2.2.2.2.2.2.2.2.1.2;have Ay:=λx=>(HY.o.next (HF.o x)).2.2.2.2.2.2.2.2.2.2.2.2.2.2.2.2.2.2.2.1.2;clear c0 c1 c2 c3 c4 c5 c6 c7 c8 c9 c10 c11 c12 c13 c14 c15 c16 c17 c18;have y5:=λx=>((HF.o x).cell (p:=⟨bD,bq7+k*6+5,none⟩) hbD).trans x5;clear x5;refine iR F ahd ahd hst ?_
   repeat (any_goals (first|go_big_quiet_step ((first|(go_at_call 71;refine(oQ p.ds h.nm _ _ aG HP.o.1 ((HP.o.same HY.o.1).same (HF.o _)).2.2.1).mono ?_;rintro e w' ⟨rfl,rfl⟩;rw[HFX.o];exact⟨rfl,eH.o _ _ (ak _ _)⟩)|(go_at_call 101;refine(iq p _ _ aM aG aD i dx bV bc ko pK iD gU pJ iC ar 4 4 d.on jM.o ((jZ.o.same HY.o.1).same (HF.o _)) ((mG HY.o).next (HF.o _))).mono ?_;rintro e w' ⟨rfl,hb⟩;exact⟨rfl,eH.o _ _ hb⟩)))|(refine wpQuiet_step (λK hK=> ?_);go_simp;first|(refine hK _ ?_;clear hK K)|(split <;> first|(refine hK _ ?_;clear hK K)|(apply Exists.intro;refine⟨λ_=> ?_,hK _ ?_⟩;((first|(go_at_call 71;refine(oQ p.ds h.nm _ _ aG HP.o.1 ((HP.o.same HY.o.1).same (HF.o _)).2.2.1).mono ?_;rintro e w' ⟨rfl,rfl⟩;rw[HFX.o];exact⟨rfl,eH.o _ _ (ak _ _)⟩)|(go_at_call 101;refine(iq p _ _ aM aG aD i dx bV bc ko pK iD gU pJ iC ar 4 4 d.on jM.o ((jZ.o.same HY.o.1).same (HF.o _)) ((mG HY.o).next (HF.o _))).mono ?_;rintro e w' ⟨rfl,hb⟩;exact⟨rfl,eH.o _ _ hb⟩)));clear hK K)))))
   all_goals (refine wpQuiet_nil ?_;rintro _ ⟨x,rfl⟩)
   replace HY:=ah (HY.o.next (HF.o x));clear d0 d1 d2 d3 d4 d5 d6 d7 d8 d9 sw tX Av CQ vZ CS Aw CU Ay y5 HF eH hst;generalize F x=W2 at *;generalize eY ar 4 4 d.on=hel at *;obtain⟨-,⟨-,c0⟩,⟨-,c1⟩,⟨-,c2⟩,⟨-,c3⟩,⟨-,c4⟩,⟨-,c5⟩,⟨-,c6⟩,⟨-,c7⟩,⟨-,c8⟩,⟨-,c9⟩,⟨-,c10⟩,⟨-,c11⟩,⟨-,c12⟩,⟨-,c13⟩,⟨-,c14⟩,⟨-,c15⟩,⟨-,c16⟩,⟨-,c17⟩,⟨-,c18⟩,-⟩:=HY.o;cases tx <;> cases hel <;> cases Ns
   all_goals go_wp2_with fail;refine(iw _ _).mono ?_;rintro e' W' ⟨rfl,rfl⟩;go_wp2_with fail;go_ret;exact⟨bW (by first|exact HR'.o.symm|(rw[HR'.o];first|done|rfl|simp[nest])),HY.o.1⟩
 ·obtain⟨g1,g2,g3,g4,g5,g6,g7,g8,g9,g10,g11,g12,g13,g14,g15⟩:=QS hop;clear hop;obtain⟨kk,hkk⟩: ∃z:Int,qp p.ts h.nm=z:=⟨_,rfl⟩;have HKK:=ah hkk;rw[hkk]at HR;clear hkk;cases tx <;> cases Ns <;> cases hki:(kk==i) <;> rw[hki]at HR
  all_goals
   repeat
    go_wp2_with fail
    first
    |(go_at_call 105;refine(iw _ _).mono ?_;rintro e' W' ⟨rfl,rfl⟩)
    |(go_at_call 102;refine(jw _ _ _).mono ?_;rintro e' W' ⟨rfl,rfl⟩)
    |(go_at_call 72;refine(iG p.ts h.nm _ aM aD HP.o.2.1 (HP.o.same HY.o.1).2.2.2).mono ?_;rintro e' W' ⟨rfl,rfl⟩;rw[HKK.o])
    |(first
      |(go_at_call 103;refine(iL p i h.nm _ _ _ aK aM aG aD hi (HP.o.same HY.o.1)).mono ?_)
      |(go_at_call 104;refine(jh p i h.dQ h.xn h.dP h.bG _ aK aM s.fD aG aD s.dS hi (HP.o.same HY.o.1) lZ.o.1.2.2.2.2.2.1 (lZ.o.2.2.1.same HY.o.1)).mono ?_)
      |(go_at_call 101;refine(iq p _ aK aM aG aD i dx bV bc ko pK iD gU pJ iC ar _ _ h.nm jM.o (jZ.o.same HY.o.1) (mG HY.o)).mono ?_)
      rintro e' W ⟨rfl,hb⟩;replace HY:=ah (HY.o.next hb);clear hb c0 c1 c2 c3 c4 c5 c6 c7 c8 c9 c10 c11 c12 c13 c14 c15 c16 c17 c18;obtain⟨-,⟨-,c0⟩,⟨-,c1⟩,⟨-,c2⟩,⟨-,c3⟩,⟨-,c4⟩,⟨-,c5⟩,⟨-,c6⟩,⟨-,c7⟩,⟨-,c8⟩,⟨-,c9⟩,⟨-,c10⟩,⟨-,c11⟩,⟨-,c12⟩,⟨-,c13⟩,⟨-,c14⟩,⟨-,c15⟩,⟨-,c16⟩,⟨-,c17⟩,⟨-,c18⟩,-⟩:=HY.o;skip)
   go_wp2_with fail;go_ret;exact⟨bW aap,HY.o.1⟩
 ·obtain⟨g1,g2,g3,g4,g5,g6,g7,g8,g9,g10,g11,g12,g13,g14,g15⟩:=QU hop;clear hop;go_upto_region 49 with fail;obtain⟨T,F,Ad,hst,hF,hnext⟩:=calm W;have HF:=ah hF;have eH:=ah hnext;clear hnext hF;have d0:=λx=>(HY.o.next (HF.o x)).2.1.2;have d1:=λx=>(HY.o.next (HF.o x)).2.2.1.2;have d2:=λx=>(HY.o.next (HF.o x)).2.2.2.1.2;have d3:=λx=>(HY.o.next (HF.o x)).2.2.2.2.1.2;have d4:=λx=>(HY.o.next (HF.o x)).2.2.2.2.2.1.2;have d5:=λx=>(HY.o.next (HF.o x)).2.2.2.2.2.2.1.2;have d6:=λx=>(HY.o.next (HF.o x)).2.2.2.2.2.2.2.1.2;have d7:=λx=>(HY.o.next (HF.o x)).2.2.2.2.2.2.2.2.1.2;have d8:=λx=>(HY.o.next (HF.o x)).2.2.2.2.2.2.2.2.2.1.2;have d9:=λx=>(HY.o.next (HF.o x)).2.2.2.2.2.2.2.2.2.2.1.2;have sw:=λx=>(HY.o.next (HF.o x)).2.2.2.2.2.2.2.2.2.2.2.1.2;have tX:=λx=>(HY.o.next (HF.o x)).2.2.2.2.2.2.2.2.2.2.2.2.1.2;have Av:=λx=>(HY.o.next (HF.o x)).2.2.2.2.2.2.2.2.2.2.2.2.2.1.2;have CQ:=λx=>(HY.o.next (HF.o x)).2.2.2.2.2.2.2.2.2.2.2.2.2.2.1.2;have vZ:=λx=>(HY.o.next (HF.o x)).2.2.2.2.2.2.2.2.2.2.2.2.2.2.2.1.2;have CS:=λx=>(HY.o.next (HF.o x)).2.2.2.2.2.2.2.2.2.2.2.2.2.2.2.2.1.2;have Aw:=λx=>(HY.o.next (HF.o x)).2.2.2.2.2.2.2.2.2.2.2.2.2.2.2.2.2.1.2;have CU:=λx=>(HY.o.next (HF.o x)).2.2.2.2.2.2.2.2.2.2.2.2.2.2.2.2.2.2.1.2;have Ay:=λx=>(HY.o.next (HF.o x)).2.2.2.2.2.2.2.2.2.2.2.2.2.2.2.2.2.2.2.1.2;clear c0 c1 c2 c3 c4 c5 c6 c7 c8 c9 c10 c11 c12 c13 c14 c15 c16 c17 c18;refine iR F ahd ahd hst ?_
  repeat (any_goals (first|go_big_quiet_step ((first|(go_at_call_of 103 (Value.int .i64 8);refine(iL p i h.nm 8 8 _ aK aM aG aD hi ((HP.o.same HY.o.1).same (HF.o _))).mono ?_;rintro e w' ⟨rfl,hb⟩;exact⟨rfl,eH.o _ _ hb⟩)|(go_at_call_of 103 (Value.int .i64 6);refine(iL p i h.arg 6 6 _ aK aM aG aD hi ((HP.o.same HY.o.1).same (HF.o _))).mono ?_;rintro e w' ⟨rfl,hb⟩;exact⟨rfl,eH.o _ _ hb⟩)|(go_at_call 102;refine(jw _ _ _).mono ?_;rintro e w' ⟨rfl,rfl⟩;exact⟨rfl,eH.o _ _ (ak _ _)⟩)|(go_at_call 105;refine(iw _ _).mono ?_;rintro e w' ⟨rfl,rfl⟩;exact⟨rfl,eH.o _ _ (ak _ _)⟩)))|(refine wpQuiet_step (λK hK=> ?_);go_simp;first|(refine hK _ ?_;clear hK K)|(split <;> first|(refine hK _ ?_;clear hK K)|(apply Exists.intro;refine⟨λ_=> ?_,hK _ ?_⟩;((first|(go_at_call_of 103 (Value.int .i64 8);refine(iL p i h.nm 8 8 _ aK aM aG aD hi ((HP.o.same HY.o.1).same (HF.o _))).mono ?_;rintro e w' ⟨rfl,hb⟩;exact⟨rfl,eH.o _ _ hb⟩)|(go_at_call_of 103 (Value.int .i64 6);refine(iL p i h.arg 6 6 _ aK aM aG aD hi ((HP.o.same HY.o.1).same (HF.o _))).mono ?_;rintro e w' ⟨rfl,hb⟩;exact⟨rfl,eH.o _ _ hb⟩)|(go_at_call 102;refine(jw _ _ _).mono ?_;rintro e w' ⟨rfl,rfl⟩;exact⟨rfl,eH.o _ _ (ak _ _)⟩)|(go_at_call 105;refine(iw _ _).mono ?_;rintro e w' ⟨rfl,rfl⟩;exact⟨rfl,eH.o _ _ (ak _ _)⟩)));clear hK K)))))
  all_goals (refine wpQuiet_nil ?_;rintro _ ⟨x,rfl⟩)
  replace HY:=ah (HY.o.next (HF.o x));clear d0 d1 d2 d3 d4 d5 d6 d7 d8 d9 sw tX Av CQ vZ CS Aw CU Ay HF eH hst;generalize F x=W2 at *;go_wp2_with fail;go_ret;exact⟨bW aap,HY.o.1⟩
end
namespace Md
def nms (l:List ByteArray):List (List UInt8):=(l.map (·.toList)).reverse
def BR (k:Int) (h:dM) (l:List ByteArray):List ByteArray:=if h.op==k then l++[h.nm]else l
theorem IB (k:Int) (h:dM) (l:List ByteArray):nms (BR k h l)=fL k h (nms l):=by
 unfold nms BR fL;cases h.op==k <;> simp
theorem TW (l:List ByteArray) (x:List UInt8):mem (nms l) x=nO l x:=by
 unfold mem nms nO;rw[Bool.eq_iff_iff,List.contains_iff_mem];simp[List.any_eq_true]
theorem U8 (l:List ByteArray):(nms l).length=l.length:=by simp[nms]
theorem O8 {ds:List De} : ∀(ts pre:List Th),uV ds ts pre=none->∀(k:Nat) (d:Th) (r:List Th),ts.drop k=d::r->nQ (pre++ts.take k) d.nm.toList=false
 | [],_,_,k,d,r,hd=>by simp at hd
 |t::ts,pre,h,k,d,r,hd=>by
  unfold uV at h;split at h
  ·cases h
  ·rename_i hc;cases k with
   |zero=>simp only[List.drop_zero,List.cons.injEq]at hd;obtain⟨rfl,rfl⟩:=hd;simp only[Bool.or_eq_true,not_or,Bool.not_eq_true]at hc;simpa using hc.2
   |succ k=>have:=O8 ts (pre++[t]) h k d r (by simpa using hd);simpa using this
theorem Ob {l:List Th} {x:List UInt8} (h:nQ l x=false): ∀t∈l,t.nm.toList≠x:=λt ht e=>by
 unfold nQ at h;rw[List.any_eq_false]at h;exact h t ht (by simp[e])
theorem ad9 {p:Pr} {j:Int} {nm:ByteArray} (h:mean p j nm=8):p.ts.any (λt=>t.nm.toList==nm.toList)=true:=by
 have:=Je h;unfold kH at this;obtain⟨t,ht,e⟩:=List.mem_map.1 this;exact List.any_eq_true.2 ⟨t,ht,by simp[e]⟩
theorem Ch {ts:List Th} {j k:Nat} {t:Th} {r:List Th} (hd:ts.drop j=t::r) (hjk:j<k):t∈ts.take k:=by
 have h1:ts[j]? =some t:=by have:=List.getElem?_drop (xs:=ts) (i:=j) (j:=0);rw[hd]at this;simpa using this.symm
 have h2:(ts.take k)[j]? =some t:=by rw[List.getElem?_take,if_pos hjk];exact h1
 exact List.mem_of_getElem? h2
theorem Mf {p:Pr} {i:Int} {nm:ByteArray} {j:Nat} {t:Th} {r:List Th} (qw:uV p.ds p.ts []=none) (hd:p.ts.drop j=t::r) (hm:mean p i nm=8):(qp p.ts nm==(j:Int))=(nm.toList==t.nm.toList):=by
 have ha:=ad9 hm;rcases pW (λt:Th=>t.nm.toList==nm.toList) p.ts 0 with⟨-,-,hn⟩|⟨k,d,r',hk,hf,hdk,hs,-⟩
 ·rw[ha]at hn;cases hn
 ·have hdn:d.nm.toList=nm.toList:=by simpa using List.find?_some hs
  have hU:=O8 p.ts [] qw;have e:qp p.ts nm=(k:Int):=by unfold qp;simpa using hf
  rw[e,Bool.eq_iff_iff,beq_iff_eq,beq_iff_eq];constructor
  ·intro hkj;have:k=j:=by omega
   subst this;rw[hd]at hdk;injection hdk with h1 h2;rw[h1];exact hdn.symm
  ·intro hnm;by_cases hlt:k<j
   ·exact absurd (by rw[hdn,hnm]) (Ob (hU j t r hd) d (by simpa using Ch hdk hlt))
   ·by_cases hgt:j<k
    ·exact absurd (by rw[hdn,hnm]) (Ob (hU k d r' hdk) t (by simpa using Ch hd hgt))
    ·omega
theorem U6 {nm:ByteArray} (h:kP nm true=true):nm.toList.isEmpty=false:=by
 unfold kP at h;rw[if_pos rfl]at h;rw[Lib.toList_data];cases hl:nm.data.toList with
 |nil=>rw[hl]at h;exact absurd h ahf
 |cons a r=>rfl
theorem ag1 {h:dM} {bl el:Nat} (hs:ou h bl el=true):1<=h.op∧h.op<=15:=by
 unfold ou fO at hs;simp only[aP,decide_eq_true_eq]at hs;exact⟨hs.1.1.1.1,hs.1.1.1.2⟩
theorem ag0 {h:dM} {bl el:Nat} (hs:ou h bl el=true) (hf:fN h.op=true):h.nm.toList.isEmpty=false:=by
 unfold ou at hs;simp only[aP]at hs;have:=hs.1.1.2.1;rw[hf]at this;exact U6 this
theorem au3 {d:De} (hs:iV d=true) (hk:d.kind=5):d.on.toList.isEmpty=false:=by
 unfold iV at hs;simp only[aP]at hs;have:=hs.2.2;rw[hk]at this;exact U6 this
theorem Oc (p:Pr) (i:Int) (nm:ByteArray) (k a:Int) (hk:0<=k∧k<=9) (ha:conv k=a) (h0:gy (conv (mean p i nm)) a a=0):mean p i nm=k:=by
 rw[<- nL p i nm k a hk ha]at h0;exact sM h0
theorem Mw {a x y:Int} (h:a=0->x=y):kC a x=kC a y:=by
 unfold kC;cases ha:(a != 0)
 ·exact h (by simpa using ha)
 ·rfl
theorem an0 (a b:Int):(if a != 0 then a else b)=kC a b:=rfl
section
variable {p:Pr} {j:Nat} {tn iK:ByteArray} {ar:aY} {f g:List UInt8->Bool} {h:dM}
theorem ag5 (hsd: ∀d∈p.ds,iV d=true) (q:Bool):
 (if gy (conv (mean p j h.nm)) 5 5 != 0 then gy (conv (mean p j h.nm)) 5 5 else nest ((eY ar 7 7 ⟨#[]⟩|| !eY ar 4 4 (pE p.ds h.nm))||(q&&eY ar 8 8 ⟨#[]⟩)))=fQ [dU (mean p j h.nm) [6],nest ((fG ar [7]|| !qR ar (pE p.ds h.nm) [4])||(q&&fG ar [8]))]:=by
 rw[uJ,an0,nL p j h.nm 6 5 ahf rfl,oF,oF];refine Mw (λh0=> ?_);obtain⟨k,d,r,-,-,-,hm,hk,hmu⟩:=KT h0;rw[hmu,JL 4 d.on (au3 (hsd d hm) hk)]
theorem aT4 {t t0:Th} {r r0:List Th} (qw:uV p.ds p.ts []=none) (hd:p.ts.drop j=t::r) (hts:p.ts=t0::r0) {fs:List ByteArray} :
 (if gy (conv (mean p j h.nm)) 7 7 != 0 then gy (conv (mean p j h.nm)) 7 7 else if((((eY ar 7 7 ⟨#[]⟩||eY ar 8 8 ⟨#[]⟩)||eY ar 3 3 ⟨#[]⟩)||qp p.ts h.nm==(j:Int))||qp p.ts h.nm==0)then 7 else kQ (nO fs h.nm.toList))=
 fQ [dU (mean p j h.nm) [8],nest (fG ar [7,8,3]||(h.nm.toList==t.nm.toList||h.nm.toList==t0.nm.toList)),kQ (mem (nms fs) h.nm.toList)]:=by
 rw[Dr,an0,nL p j h.nm 8 7 ahf rfl,oF,oF,oF,Lm];refine Mw (λh0=> ?_);have hm:=Oc p j h.nm 8 7 ahf rfl h0;have e0:=Mf (j:=0) (t:=t0) (r:=r0) qw (by simpa using hts) hm;have e1:=Mf qw hd hm;rw[e1,show((0:Int))=((0:Nat):Int)from rfl,e0,TW,Bool.or_assoc (_||_) (_==_)];cases ((fG ar [7]||fG ar [8]||fG ar [3])||(h.nm.toList==t.nm.toList||h.nm.toList==t0.nm.toList)) <;> simp[nest,kC]
theorem aT5 {t:Th} {r:List Th} (qw:uV p.ds p.ts []=none) (hd:p.ts.drop j=t::r):
 kC (gy (conv (mean p j h.nm)) 7 7) (nest ((eY ar 7 7 ⟨#[]⟩||eY ar 8 8 ⟨#[]⟩)||qp p.ts h.nm==(j:Int)))=fQ [dU (mean p j h.nm) [8],nest (fG ar [7,8]||h.nm.toList==t.nm.toList)]:=by
 rw[uJ,nL p j h.nm 8 7 ahf rfl,oF,oF,ET];refine Mw (λh0=> ?_);rw[Mf qw hd (Oc p j h.nm 8 7 ahf rfl h0)]
theorem aT6 {gs:List ByteArray} {x:Int} :
 kC (if(kC (gy (conv (mean p j h.nm)) 6 6) (nest (eY ar 7 7 ⟨#[]⟩||eY ar 3 3 ⟨#[]⟩))==0)&&nO gs h.nm.toList then 8 else kC (gy (conv (mean p j h.nm)) 6 6) (nest (eY ar 7 7 ⟨#[]⟩||eY ar 3 3 ⟨#[]⟩))) x=
 fQ [dU (mean p j h.nm) [7],nest (fG ar [7,3]),kQ (mem (nms gs) h.nm.toList),x]:=by
 rw[oF,oF,ET,TW,nL p j h.nm 7 6 ahf rfl];generalize gy (conv (mean p j h.nm)) 6 6=a;generalize nest (fG ar [7]||fG ar [3])=b;generalize nO gs h.nm.toList=c;unfold fQ fQ fQ fQ kC kQ;cases ha:(a != 0) <;> cases hb:(b != 0) <;> cases c <;> simp_all[fQ]
 all_goals (intro hx;exact hx.symm)
end
end Md
theorem BQ.plain {w w':World} {L:sI} {p:Pr} {aK aM:Option Addr} {aG aD:Nat} {i:Int} {A:List Fr} {fs gs:List ByteArray} {v vs ve:Value} {h:dM} {r x:Int} {e:Ending}
 (hI:ku w L p aK aM aG aD i A fs gs v vs ve) (h12:(h.op==12)=false) (qD:(h.op==14)=false) (hr:x=r) (hp:e= .returned (.int .i64 x)∧Below w.heap.size w w'):BQ w L p aK aM aG aD i A fs gs v vs ve (BR 12 h fs) (BR 14 h gs) r e w':=by
 subst hr;refine⟨hp.1,Kw.of_below hp.2,fs,gs,vs,ve,lU.refl _ _,hI.below hp.2,λ_=> ?_⟩;unfold BR;rw[h12,qD];exact⟨rfl,rfl⟩
theorem YV (L:sI) (p:Pr) (w:World) (aK aM:Option Addr) (aG aD:Nat) (j:Nat) (A:List Fr) (fs gs:List ByteArray) (v vs ve:Value) (hI:ku w L p aK aM aG aD (j:Int) A fs gs v vs ve) (h:dM) (b e:aY) (s:Sl) (hin:tV w L.B0 h b e s) (hj:dD (j:Int)) (hA:A.length<=maxLen) (hfs:fs.length<=1000000000000) (hgs:gs.length<=1000000000000)
 (t t0:Th) (r r0:List Th) (hd:p.ts.drop j=t::r) (hts:p.ts=t0::r0) (qw:uV p.ds p.ts []=none) (hsd: ∀d∈p.ds,iV d=true) (hsh:ou h b.len e.len=true):
 Calls Tryz.prog 74 #[.pointer (some ⟨L.bc,0,none⟩),jH h b e s] w (BQ w L p aK aM aG aD (j:Int) A fs gs v vs ve (BR 12 h fs) (BR 14 h gs) (jy p j t.nm t0.nm (dG A) (mem (nms fs)) (mem (nms gs)) h)):=by
 have hop:=ag1 hsh;have hnm:=ag0 hsh;have hc:h.op=12∨h.op=14∨h.op=1∨h.op=2∨h.op=3∨h.op=4∨h.op=5∨h.op=6∨h.op=7∨h.op=8∨h.op=9∨h.op=10∨h.op=11∨h.op=13∨h.op=15:=ahe
 rcases hc with hc|hc|hc
 ·refine(av9 L p w aK aM aG aD j A fs gs v vs ve hI h b e s hin hj hA hfs hgs hc).mono (λe' w' hr=> ?_);have e1:BR 12 h fs=fs++[h.nm]:=by unfold BR;rw[hc];rfl
  have e2:BR 14 h gs=gs:=by unfold BR;rw[hc];rfl
  have e3:jy p j t.nm t0.nm (dG A) (mem (nms fs)) (mem (nms gs)) h=fQ [dU (mean p j h.nm) [8],nest (fG (dG A) [7,8,3]||(h.nm.toList==t.nm.toList||h.nm.toList==t0.nm.toList)),kQ (mem (nms fs) h.nm.toList)]:=afz
  rw[e1,e2,e3,<- aT4 qw hd hts];exact hr
 ·refine(aw0 L p w aK aM aG aD j A fs gs v vs ve hI h b e s hin hj hA hfs hgs hc).mono (λe' w' hr=> ?_);have e1:BR 12 h fs=fs:=by unfold BR;rw[hc];rfl
  have e2:BR 14 h gs=gs++[h.nm]:=by unfold BR;rw[hc];rfl
  have e3:jy p j t.nm t0.nm (dG A) (mem (nms fs)) (mem (nms gs)) h=fQ [dU (mean p j h.nm) [7],nest (fG (dG A) [7,3]),kQ (mem (nms gs) h.nm.toList),kZ p j h.dQ h.xn h.dP h.bG]:=afz
  rw[e1,e2,e3,<- aT6];exact hr
 ·obtain⟨dx,bV,rfl,hat⟩:=hI.form;obtain⟨ko,iD,rfl,-⟩:=hI.UW;obtain⟨gU,iC,rfl,-⟩:=hI.UU;have hp:=hI.dat.use hI.b0;have hin':=hin.use hI.b0;have hal:(dG A).len<=maxLen:=by rw[rO];exact hA
  have hh:=hI.holds;refine(aw1 p w aK aM aG aD j dx bV L.bc ko _ iD gU _ iC h b e (dG A) s hj hp hin' hal hat hh ?_).mono (λe' w' hr=>BQ.plain hI ahh ahh rfl hr);rcases hc with hc|hc|hc|hc|hc|hc|hc|hc|hc|hc|hc|hc|hc
  ·cases hix:h.idx with
   |nil=>exact .inl ⟨hc,rfl,Eq.symm (by rw[<- Ve,<- uJ];unfold jy Gi;simp[hc,hix,bY.len])⟩
   |cons LC n0 LA AZ F3=>exact .inr (.inl ⟨hc,_,_,_,_,_,rfl,Eq.symm (by have hne: ¬((F3.len:Int)+1=0):=ahe;rw[<- nL p j h.nm 3 2 ahf rfl,<- Dr];unfold jy Gi ex1;simp[hc,hix,bY.len,hne])⟩)
  ·exact .inr (.inr (.inl ⟨hc,Eq.symm afz⟩))
  ·exact .inr (.inr (.inr (.inl ⟨hc,Eq.symm afz⟩)))
  ·exact .inr (.inr (.inr (.inr (.inl ⟨hc,Eq.symm (by rw[<- nL p j h.nm 4 3 ahf rfl,<- uJ,oF,JL 4 h.nm (hnm aht)];unfold jy;simp[hc])⟩))))
  ·exact .inr (.inr (.inr (.inr (.inr (.inl ⟨hc,Eq.symm aaj⟩)))))
  ·exact .inr (.inr (.inr (.inr (.inr (.inr (.inl ⟨hc,Eq.symm aaj⟩))))))
  ·exact .inr (.inr (.inr (.inr (.inr (.inr (.inr (.inl ⟨hc,Eq.symm (by rw[oF];unfold jy;simp[hc])⟩)))))))
  ·exact .inr (.inr (.inr (.inr (.inr (.inr (.inr (.inr (.inl ⟨hc,Eq.symm (by rw[oF,oF,<- ET];unfold jy;simp[hc])⟩))))))))
  ·exact .inr (.inr (.inr (.inr (.inr (.inr (.inr (.inr (.inr (.inl ⟨hc,Eq.symm adH⟩)))))))))
  ·exact .inr (.inr (.inr (.inr (.inr (.inr (.inr (.inr (.inr (.inr (.inl ⟨hc,Eq.symm adH⟩))))))))))
  ·exact .inr (.inr (.inr (.inr (.inr (.inr (.inr (.inr (.inr (.inr (.inr (.inl ⟨hc,Eq.symm adH⟩)))))))))))
  ·exact .inr (.inr (.inr (.inr (.inr (.inr (.inr (.inr (.inr (.inr (.inr (.inr (.inl ⟨hc,Eq.symm (by rw[aT5 qw hd];unfold jy;simp[hc])⟩))))))))))))
  ·exact .inr (.inr (.inr (.inr (.inr (.inr (.inr (.inr (.inr (.inr (.inr (.inr (.inr ⟨hc,Eq.symm (by rw[<- nL p j h.nm 1 8 ahf rfl,<- nL p j h.arg 7 6 ahf rfl,oF,<- Dr];unfold jy;simp[hc])⟩))))))))))))
def aF1 (w:World) (L:sI) (p:Pr) (aK aM:Option Addr) (aG aD:Nat) (i:Int) (A:List Fr) (v vs ve:Value) (r:MR) (e:Ending) (w':World):Prop:=
 e= .returned (.tuple #[.int .i64 r.err,.int .i64 r.line])∧Kw L [v,vs,ve] w w'∧∃fs' gs' v' vs' ve',lU w [v,vs,ve] [v',vs',ve']∧ku w' L p aK aM aG aD i A fs' gs' v' vs' ve'∧(r.err=0->nC (kH p) r.f∧nC (kS p) r.g∧nms fs'=r.f∧nms gs'=r.g)
def E9 (L:sI) (p:Pr) (aK aM:Option Addr) (aG aD:Nat) (j:Nat) (t t0:Th) (l:aY):Prop:=
 ∀(w:World) (ao:Option Addr) (cap:Nat) (A:List Fr) (fs gs:List ByteArray) (v vs ve:Value),l.len<=maxLen->l.At w L.B0 ao 0->fT l=true->A.length<=6->nC (kH p) (nms fs)->nC (kS p) (nms gs)->ku w L p aK aM aG aD (j:Int) A fs gs v vs ve->
  Calls Tryz.prog 43 #[.pointer (some ⟨L.bc,0,none⟩),.slice ao l.len cap] w (aF1 w L p aK aM aG aD (j:Int) A v vs ve (gI p j t.nm t0.nm l (dG A) (nms fs) (nms gs)))
theorem aH0 {p:Pr} {fs:List ByteArray} {n:Nat} (h:nC (kH p) (nms fs)) (hT:p.ts.length<=n):fs.length<=n:=by
 have:=h.le;rw[U8]at this;unfold kH at this;rw[ji]at this;omega
theorem aG9 {p:Pr} {fs:List ByteArray} {n:Nat} (h:nC (kS p) (nms fs)) (hT:p.ds.length<=n):fs.length<=n:=by
 have:=h.le;rw[U8]at this;unfold kS at this;rw[ji]at this;omega
theorem K6 (L:sI) (p:Pr) (aK aM:Option Addr) (aG aD:Nat) (j:Nat) (t t0:Th) (r r0:List Th) (hd:p.ts.drop j=t::r) (hts:p.ts=t0::r0) (hj:dD (j:Int)) (hT:p.ts.length<=1000000000000) (hD:p.ds.length<=1000000000000) (qw:uV p.ds p.ts []=none) (hsd: ∀d∈p.ds,iV d=true) (l:aY) (hall:l.All λ_ b e=>E9 L p aK aM aG aD j t t0 b∧E9 L p aK aM aG aD j t t0 e):E9 L p aK aM aG aD j t t0 l:=by
 intro w ao cap A fs gs v vs ve hl hat hsh hA hf hg hI;generalize hres:gI p j t.nm t0.nm l (dG A) (nms fs) (nms gs)=res;have HR:=ah hres;have HAT:=ah hat;have jM:=ah hall;have xU:=ah hsh;have HF:=ah hf;have HG:=ah hg;have HI:=ah hI;have sW:=ah qw;have wY:=ah hsd;have HTT:=ah hT;have Sw:=ah hD;have HD:=ah hd;have lK:=ah hts;unfold maxLen at hl;have HA:=ah hA;clear hres hat hall hf hg hI hA hsh qw hsd hT hD hd hts;go_enter Tryz.func43,Tryz.ntmps43;go_wp2_with fail;go_loopw [6,7,8,9] (λs _ _ _ wr=> ∃(k:Nat) (R:aY) (f1 g1:List ByteArray) (v1 s1 e1:Value),s= .int .i64 k∧k+R.len=l.len∧res=gI p j t.nm t0.nm R (dG A) (nms f1) (nms g1)∧(R.All λ_ b e=>E9 L p aK aM aG aD j t t0 b∧E9 L p aK aM aG aD j t t0 e)∧R.At wr L.B0 ao k∧fT R=true∧nC (kH p) (nms f1)∧nC (kS p) (nms g1)∧Kw L [v,vs,ve] w wr∧lU w [v,vs,ve] [v1,s1,e1]∧ku wr L p aK aM aG aD (j:Int) A f1 g1 v1 s1 e1) (λs _ _ _ _=>l.len -(intOf s).toNat)
 case atStart=>exact⟨0,l,fs,gs,v,vs,ve,rfl,ahg,HR.o.symm,jM.o,HAT.o,xU.o,HF.o,HG.o,Kw.refl _ _ _,lU.refl _ _,HI.o⟩
 case round=>
  obtain⟨k,R,f1,g1,v1,s1,e1,rfl,hlen,heq,hall,hrow,hsl,hf1,hg1,hKw,Xt,hI⟩:=hrel;have HE:=ah heq;have HK:=ah hKw;have HO:=ah Xt;have HSL:=ah hsl;clear heq hKw Xt hsl;cases R with
  |nil=>
   obtain rfl:k=l.len:=afs
   have HX:aj (aF1 w L p aK aM aG aD (j:Int) A v vs ve res (.returned (.tuple #[.int .i64 0,.int .i64 0])) wr):=ah (by rw[HE.o];exact⟨rfl,HK.o,f1,g1,v1,s1,e1,HO.o,hI,λ_=>⟨hf1,hg1,rfl,rfl⟩⟩);clear hI hall hrow hf1 hg1 HE;go_wp2_with fail
   go_ret2
   exact HX.o
  |cons h b e R=>
   obtain⟨bl,off,s,rfl,hbl,hin,x0,x1,x2,x3,x4,x5,x6,x7,x8,x9,x10,hrest⟩:=aY.At.am7 hrow;have hkl:k<l.len:=acO
   obtain⟨iI,qE⟩:=hall;obtain⟨dx,bV,rfl,-⟩:=hI.form;have P9:=ah iI;have Z8:=ah qE;have zM:=ah hf1;have rZ:=ah hg1;have fF:=ah hin;have kr:=ah hrest;have Bw:=ah hI;have kY:aj (ou h b.len e.len=true∧fT b=true∧fT e=true∧fT R=true):=ah (by have:=HSL.o;unfold fT at this;simp only[aP]at this;exact⟨this.1.1,this.1.2.1,this.1.2.2,this.2⟩);clear hrow hin iI qE hf1 hg1 hrest hI HSL;go_upto_region 5 with fail;generalize hW2:World.alloc wr _=W2;obtain⟨nb,hnb,vN,-,kX,-⟩:=nI hW2;have HI2:=ah (Bw.o.below vN.o);have lI:aj (Kw L [v,vs,ve] w W2):=ah (HK.o.trans HO.o (Kw.of_below vN.o));have iy:aj (L.B1<=nb∧nb<W2.heap.size):=ah ⟨by rw[<- hnb];exact Bw.o.sz,(aU kX.o)⟩;have OY:aj (¬Own [.slice dx A.length bV,s1,e1] nb):=ah (λe=>by have:=(Bw.o.own _ e).2;omega);rw[hnb];clear hW2 hnb x0 x1 x2 x3 x4 x5 x6 x7 x8 x9 x10 hbl;have hA6:=HA.o;obtain⟨y0,y1,y2,y3,y4,y5,y6,y7,y8,y9,uo⟩:=vY kX.o;go_wp2_with fail;refine(YV L p W2 aK aM aG aD j A f1 g1 _ s1 e1 HI2.o h b e s (fF.o.below (vN.o.mono Bw.o.b0)) hj afp (aH0 zM.o HTT.o) (aG9 rZ.o Sw.o) t t0 r r0 HD.o lK.o sW.o wY.o kY.o.1).mono ?_;rintro e' w3 ⟨rfl,hK3,f3,g3,s3,e3,hO3,C9,hq3⟩;have Bq:aj (w3.heap[nb]? =some (.cells (oJ h b e s).toArray 101 (0,0))):=ah ((hK3.far iy.o.2 iy.o.1 OY.o).trans kX.o);have HI3:=ah C9;have Jq:=ah hK3;have nY:aj (Kw L [v,vs,ve] w w3):=ah (lI.o.trans HO.o hK3);have VU:aj (lU w [v,vs,ve] [.slice dx A.length bV,s3,e3]):=ah (HO.o.trans hO3 lI.o.size);have Zt:aj (¬Own [.slice dx A.length bV,s3,e3] nb):=ah (hO3.ne iy.o.2 OY.o);have Cz:=ah hq3;have ES:nb<w3.heap.size:=(aU Bq.o);clear hK3 C9 hO3 hq3 y0 y1 y2 y3 y4 y5 y6 y7 y8 y9 uo;obtain⟨y0,y1,y2,y3,y4,y5,y6,y7,y8,y9,uo⟩:=vY Bq.o;have c3:w3.cell? ⟨L.bc,3,none⟩=some (.slice dx A.length bV):=(eX HI3.o.blk (j:=3) rfl).2;by_cases Qf:A.length=6
   ·have HX:aj (res=⟨2,h.line,nms f1,nms g1⟩):=ah (HE.o.trans aeu);rw[Qf]at c3;clear hA6;go_wp2_with fail;go_quiet (fail);go_wp2_with fail
    go_ret2
    refine⟨qy ahE ahE,nY.o.trans (lU.refl _ _) (Kw.of_below (below_drewN (ak _ _) _)),f3,g3,_,s3,e3,VU.o,HI3.o.below (below_drewN (ak _ _) _),λh0=> ?_⟩;rw[HX.o]at h0;cases h0
   ·have hA':A.length<6:=ahe;have hdec:decide (6<(A.length:Int)+1)=false:=adE;have DR:aj (jy p j t.nm t0.nm (dG A) (mem (nms f1)) (mem (nms g1)) h=0->nC (kH p) (fL 12 h (nms f1))∧nC (kS p) (fL 14 h (nms g1))):=ah (λh0=>⟨al9 zM.o h0,am0 rZ.o h0⟩);have HU:aj (res=if jy p j t.nm t0.nm (dG A) (mem (nms f1)) (mem (nms g1)) h != 0 then⟨jy p j t.nm t0.nm (dG A) (mem (nms f1)) (mem (nms g1)) h,h.line,nms f1,nms g1⟩else Tg p j t.nm t0.nm b e R (dG A) ((dG A).app (.cons h b e .nil)) 0 (fL 12 h (nms f1)) (fL 14 h (nms g1))):=ah (HE.o.trans abF);clear HE Qf;generalize jy p j t.nm t0.nm (dG A) (mem (nms f1)) (mem (nms g1)) h=x at *;cases hx:(x != 0)
    case true=>
     have HX:aj (res=⟨x,h.line,nms f1,nms g1⟩):=ah (HU.o.trans (by rw[hx];rfl));have HX0:aj (x≠0):=ah ahz;clear HU DR;go_wp2_with fail;go_quiet (fail);go_wp2_with fail
     go_ret2
     refine⟨qy ahE ahE,nY.o.trans (lU.refl _ _) (Kw.of_below (below_drewN (ak _ _) _)),f3,g3,_,s3,e3,VU.o,HI3.o.below (below_drewN (ak _ _) _),λh0=> ?_⟩;rw[HX.o]at h0;exact(HX0.o h0).elim
    have HT:aj (res=aF7 p j t.nm t0.nm b e R (dG A) ((dG A).app (.cons h b e .nil)) (nms f3) (nms g3)):=ah (HU.o.trans (by rw[hx,(Cz.o ahz).1,(Cz.o ahz).2,IB,IB];rfl));have wU:aj (nC (kH p) (nms f3)∧nC (kS p) (nms g3)):=ah (by rw[(Cz.o ahz).1,(Cz.o ahz).2,IB,IB];exact DR.o ahz);clear HU DR Cz;go_upto_region 10 with fail;obtain⟨Y0,Y1,Y2,Y3,Y4,Y5,Y6,Y7,Y8,Y9,pq⟩:=zw ES y0 y1 y2 y3 y4 y5 y6 y7 y8 y9 uo;have L3:=gQ acA c3;clear y0 y1 y2 y3 y4 y5 y6 y7 y8 y9 uo c3 hdec;refine bS ahd rfl ?_;refine bK 0 7 [] [[],[0],[0,1],[0,1,2],[],[0,1,2,3],[],[0,1,2,3,4,5,6],[0,1,2,3,4,5,6,7],[0,1,2,3,4,5,6,7,8],[0,1,2,3,4,5,6,7],[0,1,2,3,4,5,6,7,10],[0,1,2,3,4,5,6,7,10,11]] [[],[],[],[],[],[],[]] (λ_ w'=>Below w3.heap.size w3 w') (λw w'=>Below w.heap.size w w') [35,36,37,38,39,40,41] rfl rfl aip ahd ahd ahd ahd ahd aip (λ_=>ak _ _) aip (below_drewN (ak _ _) 1) ?_;simp only[eB,iP]
    iterate 6
     apply bf.step
     case aZ=>intro c A w' hok hC hO hD;have e0:=hO 0 aip;have e7:=hO 7 aip;simp[Act.eval]at e0 e7;simp[Act.eval]at hD;simp[go_sem,gd,Oper.wp,hD,e0,e7,L3,hC,Y0,Y1,Y2,Y3,Y4,Y5,Y6,Y7,Y8,Y9,pq];exact aO.mk (ak _ _) hC (bT.mk _ _)
    refine bf.some (λv w'=> ∃bb,v= .slice (some ⟨bb,0,none⟩) 1 1∧w'.heap[bb]? =some (.cells RA 101 (0,0))) ?_ ?_ ?_
    ·rintro v w w' hle ⟨bb,rfl,hbb⟩;exact⟨bb,rfl,(hle.block bb (aU hbb)).trans hbb⟩
    ·intro c A w' hok hC hO hD;simp[go_sem,gd,Oper.wp];exact aO.mk (d:=_) (v:= .slice (some ⟨_,0,none⟩) 1 1) (aA _ _) (hC.trans ((aA _ _).mono hC.size)) ⟨_,rfl,heap_alloc_new _ _⟩
    try simp only[bP]
    refine bf.done ?_;intro wz bR;simp only[List.drop_zero];intro v0 h0 v1 h1 v2 h2 v3 h3 v4 h4 v5 h5 v6 h6;have h0':v0=_:=h0;have h1':v1=_:=h1;have h2':v2=_:=h2;have h3':v3=_:=h3;have h4':v4=_:=h4;have h5':v5=_:=h5;subst h0' h1' h2' h3' h4' h5';obtain⟨bb,rfl,hbb⟩:=h6;clear h0 h1 h2 h3 h4 h5;refine dH.nil ?_;go_simp;refine dA 7 [[],[0],[0,1],[0,1,2],[],[0,1,2,3],[],[0,1,2,3,4,5,6],[0,1,2,3,4,5,6,7],[0,1,2,3,4,5,6,7,8],[0,1,2,3,4,5,6,7],[0,1,2,3,4,5,6,7,10],[0,1,2,3,4,5,6,7,10,11]] rfl rfl rfl rfl rfl ahd ahd ahd ?_;obtain⟨i0,hi0,hz0,hz1,hz2⟩:=MH;have DJ:=ah (HI3.o.below bR);refine wp_append_lies wz _ _ _ aip L.B1 101 i0 _ 11 176 Tryz.underlying57 hi0 hz0 hz1 hz2 aip ahe (.slice dx A.length bV) A.length (Az A) aip DJ.o.row ⟨bb,0,none⟩ 1 1 RA.toList aip aip (World.news_of_block hbb) ahf ahe afp ahe DJ.o.sz wz.heap.size rfl ?_;intro g' cap' w4 sK qh yj yu;clear hi0 hz0 hz1 hz2 hbb Y0 Y1 Y2 Y3 Y4 Y5 Y6 Y7 Y8 Y9 pq L3;have Zi:aj (tV w3 L.B0 h b e s):=ah (fF.o.below ((vN.o.mono Bw.o.b0).trans (Jq.o.below HI2.o.b0 (λk e=>(HI2.o.own k e).1))));have vU:=ah (HI3.o.push ⟨h,b,e,s⟩ Zi.o bR sK qh yj);have hgb:=(sK.lt g' rfl).1;have eF:aj (w4.heap[L.bc]? =some (.cells (wkV p aK aM aG aD (j:Int) (.slice dx A.length bV) s3 e3) 109 (0,0))):=ah ((qh.block _ (aU DJ.o.blk) (λe'=>DJ.o.Mg (u:= .slice dx A.length bV) ahg e'.symm)).trans DJ.o.blk);have aC2:=ah (LG sK);have ER:g'≠L.bc:=agA;clear sK qh yj yu hgb;go_simp;refine bK 8 13 [9,12] [[],[0],[0,1],[0,1,2],[],[0,1,2,3],[],[0,1,2,3,4,5,6],[0,1,2,3,4,5,6,7],[0,1,2,3,4,5,6,7,8],[0,1,2,3,4,5,6,7],[0,1,2,3,4,5,6,7,10],[0,1,2,3,4,5,6,7,10,11]] [[some false,none],[some false,none],[none,some false],[none,some false],[none,some false]] (PC w4 g' (A.length*11) (oJ h b e s) ⟨L.bc,3,none⟩ (.slice (some ⟨g',0,none⟩) (A.length+1) cap')) (λ_ _=>True) [43,44,45] rfl rfl aip ahd ahd ahd ahd ahd aip (λ_=>trivial) aip rfl ?_;simp only[eB,iP];have Tx:(0:Int)<=(A.length:Int):=ahe;have hA1:(A.length:Int)<(A.length:Int)+1:=ahe;apply bf.step
    case aZ=>intro c A w' hok hC hO hD;have e42:=hO 42 aip;have e40:=hO 40 aip;simp[Act.eval]at e42 e40;simp[Act.eval]at hD;simp[go_sem,gd,Oper.wp,hD,e42,e40,hA1];exact aO.mk trivial (PC.skip aip aip hC) (bT.mk _ _)
    refine bf.some (λ_ _=>True) (λ_ _ _ _ _=>trivial) ?_ ?_
    ·intro c A' w' hok hC hO hD;obtain⟨x,y,rfl⟩:=hC.bits;obtain⟨rfl,-⟩:=hok;have e39:=hO 39 aip;simp[Act.eval]at hD;simp only[gd,if_true];refine wp_store_mid _ _ _ aip g' (A.length*11) (oJ h b e s).toArray afN (e39.trans aip) (Ey aC2.o (hC.Ti ER)) MI (by simp[oJ,Value.oneCell']) ?_;exact aO.qK trivial (PC.elt ER aip aip hC) trivial
    try simp only[bP]
    iterate 2
     apply bf.step
     case aZ=>intro c A w' hok hC hO hD;have e35:=hO 35 aip;simp[Act.eval]at e35;simp[Act.eval]at hD;simp[go_sem,gd,Oper.wp,hD,e35];exact aO.mk trivial (PC.skip aip aip hC) (bT.mk _ _)
    refine bf.some (λ_ _=>True) (λ_ _ _ _ _=>trivial) ?_ ?_
    ·intro c A' w' hok hC hO hD;obtain⟨x,y,rfl⟩:=hC.bits;obtain⟨rfl,-⟩:=hok;have e42:=hO 42 aip;simp[Act.eval]at e42;simp[Act.eval]at hD;have hbk0:w'.heap[L.bc]? =w4.heap[L.bc]?:=PC.Tv (a:=⟨L.bc,3,none⟩) ER hC (aU eF.o);have hbk:=hbk0.trans eF.o;have hcl:w'.cell? ⟨L.bc,3,none⟩=some (.slice dx A.length bV):=(eX hbk (j:=3) rfl).2;have hfr:w'.frozen? ⟨L.bc,3,none⟩=false:=bC hbk;simp[go_sem,gd,Oper.wp,hD,e42,hcl,hfr];exact aO.qK (v:=undef) trivial (PC.fld aip aip hC) trivial
    simp only[List.nil_append,List.cons_append,List.drop_succ_cons,List.drop_zero];refine bf.done ?_;intro w5 Xo;simp only[List.drop_succ_cons,List.drop_zero];intro v0 h0 v1 h1 v2 h2 v3 h3 v4 h4;clear h0 h1 h2 h3 h4;refine dH.nil ?_;refine cO rfl ?_;have sZ:aj (w5=(w4.setCells g' (A.length*11) (oJ h b e s)).setCell ⟨L.bc,3,none⟩ (.slice (some ⟨g',0,none⟩) (A.length+1) cap')):=ah Xo;rw[<- sZ.o]at vU;have DF:=ah vU.o.1;have Jr:=ah vU.o.2.1;have M4:=ah vU.o.2.2;have Cv:aj (Kw L [v,vs,ve] w w5):=ah (nY.o.trans VU.o vU.o.2.1);have SE:aj (lU w [v,vs,ve] [.slice (some ⟨g',0,none⟩) (A.length+1) cap',s3,e3]):=ah (VU.o.trans vU.o.2.2 nY.o.size);have M5:aj (¬Own [.slice (some ⟨g',0,none⟩) (A.length+1) cap',s3,e3] nb):=ah (M4.o.ne ES Zt.o);have FK:aj (w5.heap[nb]? =some (.cells (oJ h b e s).toArray 101 (0,0))):=ah ((Jr.o.far ES iy.o.1 Zt.o).trans Bq.o);have Zb:=ah (Jr.o.below HI3.o.b0 (λk e=>(HI3.o.own k e).1));have P6:aj (aY.At w5 L.B0 R (some ⟨bl,off,none⟩) (k+1)):=ah (kr.o.below (((vN.o.mono Bw.o.b0).trans (Jq.o.below HI2.o.b0 (λk e=>(HI2.o.own k e).1))).trans Zb.o));have Zh:=ah (Zi.o.below Zb.o);have jv:aj (b.len<=maxLen∧e.len<=maxLen):=ah fF.o.1.2.2.2.2.2.2;have ab8:nb<w5.heap.size:=(aU FK.o);obtain⟨-,-,-,-,-,-,-,-,-,y9,uo⟩:=vY FK.o;clear Xo sZ vU aC2 eF Tx hA1 ER;clear hx ES DJ bR HI3 nY Jq Bq Jr M4 OY HI2 lI kX vN Bw fF Zi kr HO HK zM rZ HF HG HI HAT VU Zt Zb;go_simp;have FL:aj (res=if(gI p j t.nm t0.nm b (dG (A++[⟨h,b,e,s⟩])) (nms f3) (nms g3)).err != 0 then gI p j t.nm t0.nm b (dG (A++[⟨h,b,e,s⟩])) (nms f3) (nms g3)else PX p j t.nm t0.nm e R (dG A) (dG (A++[⟨h,b,e,s⟩])) (gI p j t.nm t0.nm b (dG (A++[⟨h,b,e,s⟩])) (nms f3) (nms g3)).f (gI p j t.nm t0.nm b (dG (A++[⟨h,b,e,s⟩])) (nms f3) (nms g3)).g):=ah (by rw[zB];exact HT.o);clear HT;go_wp2_with fail;refine(P9.o.1 _ s.dL s.cK (A++[⟨h,b,e,s⟩]) f3 g3 _ s3 e3 jv.o.1 Zh.o.2.2.2.1 kY.o.2.1 ahh wU.o.1 wU.o.2 DF.o).mono ?_;rintro e' w6 ⟨rfl,Qh,f6,g6,v6,s6,e6,TA,La,hq6⟩;generalize gI p j t.nm t0.nm b (dG (A++[⟨h,b,e,s⟩])) (nms f3) (nms g3)=r1 at *;have Ze:=ah (Qh.below DF.o.b0 (λk e=>(DF.o.own k e).1));have FP:aj (Kw L [v,vs,ve] w w6):=ah (Cv.o.trans SE.o Qh);have FT:aj (lU w [v,vs,ve] [v6,s6,e6]):=ah (SE.o.trans TA Cv.o.size);have M6:aj (¬Own [v6,s6,e6] nb):=ah (TA.ne ab8 M5.o);have Di:aj (w6.heap[nb]? =some (.cells (oJ h b e s).toArray 101 (0,0))):=ah ((Qh.far ab8 iy.o.1 M5.o).trans FK.o);have Kn:=ah (P6.o.below Ze.o);have az2:=ah (Zh.o.below Ze.o);have xP:=ah La;have P5:=ah hq6;clear Qh TA La hq6 Ze Cv SE M5 FK P6 Zh DF ab8 y9 uo wU;obtain⟨-,-,-,-,-,-,-,-,-,y9,uo⟩:=vY Di.o
    go_upto_if 54 with fail
    go_cut [8,9] (λs8 s9 W7=> ∃(r2:MR) (f7 g7:List ByteArray) (v7 s7 e7:Value),s8= .int .i64 r2.err∧s9= .int .i64 r2.line∧(res=if r2.err != 0 then r2 else gI p j t.nm t0.nm R (dG A) r2.f r2.g)∧Kw L [v,vs,ve] w W7∧lU w [v,vs,ve] [v7,s7,e7]∧R.At W7 L.B0 (some ⟨bl,off,none⟩) (k+1)∧ku W7 L p aK aM aG aD (j:Int) (A++[⟨h,b,e,s⟩]) f7 g7 v7 s7 e7∧(r2.err=0->nC (kH p) r2.f∧nC (kS p) r2.g∧nms f7=r2.f∧nms g7=r2.g))
    case first=>
     cases hr1:(r1.err==0)
     ·have G6:aj (res=if r1.err != 0 then r1 else gI p j t.nm t0.nm R (dG A) r1.f r1.g):=ah (by have hb:(r1.err != 0)=true:=afC;rw[hb];exact FL.o.trans (by rw[hb];rfl));clear FL;go_wp2_with fail;go_meet;exact⟨r1,f6,g6,v6,s6,e6,rfl,rfl,G6.o,FP.o,FT.o,Kn.o,xP.o,P5.o⟩
     ·have hr0:r1.err=0:=afC;have wU:=ah (P5.o hr0);have G6:aj (res=PX p j t.nm t0.nm e R (dG A) (dG (A++[⟨h,b,e,s⟩])) (nms f6) (nms g6)):=ah (FL.o.trans (by rw[hr0,wU.o.2.2.1,wU.o.2.2.2];rfl));have bE7:nb<w6.heap.size:=(aU Di.o);clear FL P5 hr0;go_wp2_with fail;refine(P9.o.2 _ s.gJ s.fH (A++[⟨h,b,e,s⟩]) f6 g6 v6 s6 e6 jv.o.2 az2.o.2.2.2.2 kY.o.2.2.1 ahh (by rw[wU.o.2.2.1];exact wU.o.1) (by rw[wU.o.2.2.2];exact wU.o.2.1) xP.o).mono ?_;rintro e' w7 ⟨rfl,AB,f7,g7,v7,s7,e7,GH,CX,GU⟩;have vW:aj (res=if(gI p j t.nm t0.nm e (dG (A++[⟨h,b,e,s⟩])) (nms f6) (nms g6)).err != 0 then gI p j t.nm t0.nm e (dG (A++[⟨h,b,e,s⟩])) (nms f6) (nms g6)else gI p j t.nm t0.nm R (dG A) (gI p j t.nm t0.nm e (dG (A++[⟨h,b,e,s⟩])) (nms f6) (nms g6)).f (gI p j t.nm t0.nm e (dG (A++[⟨h,b,e,s⟩])) (nms f6) (nms g6)).g):=ah G6.o;generalize gI p j t.nm t0.nm e (dG (A++[⟨h,b,e,s⟩])) (nms f6) (nms g6)=r2 at *;have bg7:=ah (AB.below xP.o.b0 (λk e=>(xP.o.own k e).1));have IX:aj (Kw L [v,vs,ve] w w7):=ah (FP.o.trans FT.o AB);have VW:aj (lU w [v,vs,ve] [v7,s7,e7]):=ah (FT.o.trans GH FP.o.size);have Nf:=ah (Kn.o.below bg7.o);have IV:=ah CX;have BD:=ah GU;clear AB GH CX GU G6 y9 uo;go_wp2_with fail;go_meet;exact⟨r2,f7,g7,v7,s7,e7,rfl,rfl,vW.o,IX.o,VW.o,Nf.o,IV.o,BD.o⟩
    obtain⟨r2,f7,g7,v7,s7,e7,rfl,rfl,hX,AB,GH,hR7,CX,GU⟩:=hcut;obtain⟨W7,rfl⟩: ∃W:World,W=wc:=⟨_,rfl⟩;have HX:=ah hX;have IX:=ah AB;have VW:=ah GH;have Nf:=ah hR7;have IV:=ah CX;have BD:=ah GU;clear hX AB GH hR7 CX GU y9 uo FL FP FT M6 Di Kn az2 xP P5;obtain⟨g9,Dq,rfl,hc9⟩: ∃g9 Dq,v7= .slice (some ⟨g9,0,none⟩) (A.length+1) Dq∧A.length+1<=Dq:=by
     rcases IV.o.row.2 with⟨-,hn⟩|⟨g',cap,cur,e',-,-,hcc,-⟩
     ·simp at hn
     ·exact⟨g',cap,by rw[e'];simp,by simpa using hcc⟩
    have hcl:=gQ (x:= .slice (some ⟨g9,0,none⟩) (A.length+1) Dq) (by have:=IV.o.sz;have:=L.c1;show L.bc<_;omega) (eX IV.o.blk (j:=3) rfl).2;have hz1:(0:Int)<=(A.length:Int):=ahe;have hz2:(A.length:Int)<=(Dq:Int):=ahe;have hwr:IntKind.i64.wrap (A.length:Int)=(A.length:Int):=IntWalk.i64_in _ ahe;have rQ:(A.length:Int)+1 -1=(A.length:Int):=ahe;go_upto_region 14 with fail;refine bS ahd rfl ?_;refine bK 0 14 [] [[],[],[1],[1,2],[1,2,3],[],[5],[5,6],[5,6,7],[5,6,7,8],[5,6,7,8,9],[1,2,3,4,5,6,7,8,9,10],[0,1,2,3,4,5,6,7,8,9,10,11],[0,1,2,3,4,5,6,7,8,9,10,11,12],[0,1,2,3,4,5,6,7,8,9,10,11,12,13]] [[],[],[],[],[],[],[],[],[],[],[],[],[],[]] (λ_ w'=>Below W7.heap.size W7 w') (λw w'=>Below w.heap.size w w') [62,63,64,65,66,67,68,69,70,71,72,73,74,75] rfl rfl aip ahd ahd ahd ahd ahd aip (λ_=>ak _ _) aip (below_drewN (ak _ _) 1) ?_;simp only[eB,iP]
    iterate 14
     apply bf.step
     case aZ=>intro c A w' hok hC hO hD;have e0:=hO 0 aip;simp[Act.eval]at e0;simp[Act.eval]at hD;simp[go_sem,gd,Oper.wp,hD,e0,hcl,hC,rQ,hwr,hz1,hz2];exact aO.mk (ak _ _) hC (bT.mk _ _)
     try simp only[bP]
    try simp only[bP]
    refine bf.done ?_;intro wz bR;simp only[List.drop_zero];intro v0 h0 v1 h1 v2 h2 v3 h3 v4 h4 v5 h5 v6 h6 v7 h7 v8 h8 v9 h9 v10 h10 v11 h11 v12 h12 v13 tY;have JH:v11=_:=h11;have Mq:v13=_:=tY;subst JH Mq;clear h0 h1 h2 h3 h4 h5 h6 h7 h8 h9 h10 h11 h12 tY;refine dH.nil ?_;go_simp;have Na:=ah (ku.pop ⟨h,b,e,s⟩ IV.o bR);have hclz:wz.cell? ⟨L.bc,3,none⟩=some (.slice (some ⟨g9,0,none⟩) (A.length+1) Dq):=hcl wz bR;have Qq:wz.frozen? ⟨L.bc,3,none⟩=false:=bC ((IV.o.below bR).blk);clear hcl rQ hwr;refine dA 14 [[],[],[1],[1,2],[1,2,3],[],[5],[5,6],[5,6,7],[5,6,7,8],[5,6,7,8,9],[1,2,3,4,5,6,7,8,9,10],[0,1,2,3,4,5,6,7,8,9,10,11],[0,1,2,3,4,5,6,7,8,9,10,11,12],[0,1,2,3,4,5,6,7,8,9,10,11,12,13]] rfl rfl rfl rfl rfl ahd ahd ahd ?_;simp[go_sem,Oper.wp,hclz,Qq];refine cO rfl ?_;clear hclz Qq bR;go_simp;have HK8:=ah (IX.o.trans VW.o Na.o.2);have HO8:aj (lU w [v,vs,ve] [.slice (some ⟨g9,0,none⟩) A.length Dq,s7,e7]):=ah (λk hk=>VW.o k (by
     rcases uR.1 hk with e|e|e
     ·exact uR.2 (.inl e)
     ·exact uR.2 (.inr (.inl e))
     ·exact uR.2 (.inr (.inr e))))
    have HR8:=ah (Nf.o.below (Na.o.2.below IV.o.b0 (λk e=>(IV.o.own k e).1)));have HI8:=ah Na.o.1;clear Na IX VW Nf IV;cases hr2:(r2.err != 0)
    ·have Fq:aj (res=gI p j t.nm t0.nm R (dG A) (nms f7) (nms g7)):=ah (HX.o.trans (by rw[hr2,(BD.o agE).2.2.1,(BD.o agE).2.2.2];rfl));have wU:aj (nC (kH p) (nms f7)∧nC (kS p) (nms g7)):=ah (by have:=BD.o agE;rw[this.2.2.1,this.2.2.2];exact⟨this.1,this.2.1⟩);clear HX BD;go_wp2_with fail;go_roundw
     case rel=>exact⟨k+1,R,f7,g7,_,s7,e7,ahi,acO,Fq.o,Z8.o,HR8.o,kY.o.2.2.2,wU.o.1,wU.o.2,HK8.o,HO8.o,HI8.o⟩
     case measure=>simp[intOf];omega
    ·have Fq:aj (res=r2):=ah (HX.o.trans (if_pos hr2));have HX0:aj (r2.err≠0):=ah agE;clear HX BD;go_wp2_with fail
     go_ret2
     refine⟨qy (by rw[Fq.o];rfl) (by rw[Fq.o];rfl),HK8.o,f7,g7,_,s7,e7,HO8.o,HI8.o,λh0=> ?_⟩;rw[Fq.o]at h0;exact(HX0.o h0).elim
theorem YU (L:sI) (p:Pr) (aK aM:Option Addr) (aG aD:Nat) (j:Nat) (t t0:Th) (r r0:List Th) (hd:p.ts.drop j=t::r) (hts:p.ts=t0::r0) (hj:dD (j:Int)) (hT:p.ts.length<=1000000000000) (hD:p.ds.length<=1000000000000) (qw:uV p.ds p.ts []=none) (hsd: ∀d∈p.ds,iV d=true) (l:aY):E9 L p aK aM aG aD j t t0 l:=
 K6 L p aK aM aG aD j t t0 r r0 hd hts hj hT hD qw hsd l (aY.mW (λ_ b e hb he=>⟨K6 L p aK aM aG aD j t t0 r r0 hd hts hj hT hD qw hsd b hb,K6 L p aK aM aG aD j t t0 r r0 hd hts hj hT hD qw hsd e he⟩) l)
namespace Md
theorem YJ {p:Pr} (h:(kW p).1=0):uV p.ds p.ts []=none:=by
 unfold kW at h;split at h
 ·simp at h
 ·rename_i h';exact h'
end Md
theorem aw2 {p:Pr} {w W:World} {aK aM:Option Addr} {aG aD n:Nat} (hn:w.heap.size=n) (hp:p.At w aK aM)
 (hW:w.alloc (.cells #[.slice aK p.ds.length aG,.slice aM p.ts.length aD,.int .i64 0,.slice none 0 0,.slice none 0 0,.slice none 0 0] 109)=W):
 ku W ⟨n,n+1,n,aH _,Nat.lt_succ_self _⟩ p aK aM aG aD 0 [] [] [] (.slice none 0 0) (.slice none 0 0) (.slice none 0 0)∧Below w.heap.size w W:=by
 subst hn;have hb:Below w.heap.size w W:=aft
 refine⟨{blk:=acR,row:=World.ownsRow_nil _ _ _ _,rs:=World.ownsRow_nil _ _ _ _,re:=World.ownsRow_nil _ _ _ _,d1:=adC,d2:=adC,d3:=adC,sz:=by rw[<- hW];simp,dat:=⟨hp.1,hp.2.1,hp.2.2.1.below hb,hp.2.2.2.below hb⟩,qd:=ags,fo:=ags,go:=ags},hb⟩
theorem zm (p:Pr) (w:World) (aK aM:Option Addr) (aG aD:Nat) (hp:p.At w aK aM) (yZ:p.ds.length<=aG) (xu:p.ts.length<=aD):
 Calls Tryz.prog 20 #[.agg #[.slice aK p.ds.length aG,.slice aM p.ts.length aD]] w λe w'=>e= .returned (.tuple #[.int .i64 (jC p).1,.int .i64 (jC p).2])∧Below w.heap.size w w':=by
 have HS:aj (jC p=if !qz p then(3,0)else if(lV p.ds [] 0 0 0 0).1 != 0 then lV p.ds [] 0 0 0 0 else
  if decide ((4:Int)<p.ts.length)then(2,0)else if(kW p).1 != 0 then kW p else
  if decide (60<sJ p.ts 0)then(2,0)else((jK p (kN p) p.ts 0 [] []).err,(jK p (kN p) p.ts 0 [] []).line)):=ah rfl
 generalize jC p=res at *;have hld:=hp.1;have hlt:=hp.2.1;unfold maxLen at hld hlt;have HP:=ah hp;have HCD:=ah yZ;have HCT:=ah xu;clear hp yZ xu;go_enter Tryz.func20,Tryz.ntmps20;go_upto_region 1 with fail;generalize hW:World.alloc w _=W;generalize Value.agg #[_,_]=a0;have HX:=ah ((Sit.start w).wL rfl (.slice aK p.ds.length aG) (.slice aM p.ts.length aD) 26);rw[hW]at HX;clear hW;obtain⟨-,⟨-,c0⟩,⟨-,c1⟩,-⟩:=HX.o;go_wp2_with fail;refine(Og p _ aK aM aG aD (HP.o.same HX.o.1)).mono ?_;rintro e w1 ⟨rfl,hb1⟩;have HY:=ah (HX.o.next hb1);clear HX hb1 c0 c1;obtain⟨-,⟨-,c0⟩,⟨-,c1⟩,-⟩:=HY.o;have xU:aj (qz p=true->(∀d∈p.ds,iV d=true)∧(∀t∈p.ts,fT t.body=true)∧∃t0 r0,p.ts=t0::r0):=ah (λh=>by
  unfold qz at h;simp only[aP,List.all_eq_true,decide_eq_true_eq]at h;refine⟨h.1.1,λt ht=> ?_,?_⟩
  ·have:=h.1.2 t ht;unfold oU at this;simp only[aP]at this;exact this.2
  ·cases hts:p.ts with
   |nil=>rw[hts]at h;simp at h
   |cons a b=>exact⟨a,b,rfl⟩)
 cases hS:qz p
 ·have HE:aj (res=(3,0)):=ah (HS.o.trans ahZ);clear xU;go_wp2_with fail
  go_ret2
  exact⟨qy ahJ ahJ,HY.o.1⟩
 ·have HE:aj (res=if(lV p.ds [] 0 0 0 0).1 != 0 then lV p.ds [] 0 0 0 0 else
   if decide ((4:Int)<p.ts.length)then(2,0)else if(kW p).1 != 0 then kW p else
   if decide (60<sJ p.ts 0)then(2,0)else((jK p (kN p) p.ts 0 [] []).err,(jK p (kN p) p.ts 0 [] []).line)):=ah (HS.o.trans ahZ)
  have wY:=ah (xU.o hS);have xO:aj ((lV p.ds [] 0 0 0 0).1=0->p.ds.length<=1000000000000):=ah (λh0=>ach);clear HS xU;go_wp2_with fail;refine(Pv p.ds _ aK aG HP.o.1 HCD.o ((HP.o.same HY.o.1).2.2.1) wY.o.1).mono ?_;rintro e w2 ⟨rfl,hb2⟩;have HZ:=ah (HY.o.next hb2);clear HY hb2 c0 c1;obtain⟨-,⟨-,c0⟩,⟨-,c1⟩,-⟩:=HZ.o;generalize lV p.ds [] 0 0 0 0=dd at *;cases h1:(dd.1 != 0)
  case true=>
   have dJ:aj (res=dd):=ah (HE.o.trans (if_pos h1));clear HE wY xO;go_wp2_with fail
   go_ret2
   exact⟨qy ahk ahk,HZ.o.1⟩
  have Ka:aj (res=if decide ((4:Int)<p.ts.length)then(2,0)else if(kW p).1 != 0 then kW p else
   if decide (60<sJ p.ts 0)then(2,0)else((jK p (kN p) p.ts 0 [] []).err,(jK p (kN p) p.ts 0 [] []).line)):=ah (HE.o.trans (if_neg ahu))
  have bg9:=ah (xO.o ahl);clear HE xO;by_cases h4:(4:Int)<(p.ts.length:Int)
  ·have dJ:aj (res=(2,0)):=ah (Ka.o.trans (if_pos ahO));clear Ka wY;go_wp2_with fail
   go_ret2
   exact⟨qy ahk ahk,HZ.o.1⟩
  have HE2:aj (res=if(kW p).1 != 0 then kW p else
   if decide (60<sJ p.ts 0)then(2,0)else((jK p (kN p) p.ts 0 [] []).err,(jK p (kN p) p.ts 0 [] []).line)):=ah (Ka.o.trans (if_neg ahO))
  have h4':(p.ts.length:Int)<=4:=ahe
  have J3:aj (p.ts.length<=4):=ah ahe;have rE:=ah (YJ (p:=p));clear Ka;go_wp2_with fail;refine(Mc p _ aK aM aG aD (HP.o.same HZ.o.1) HCT.o).mono ?_;rintro e w3 ⟨rfl,hb3⟩;have HV:=ah (HZ.o.next hb3);clear HZ hb3 c0 c1 h1;obtain⟨-,⟨-,c0⟩,⟨-,c1⟩,-⟩:=HV.o;generalize kW p=tt at *;cases h2:(tt.1 != 0)
  case true=>
   have dJ:aj (res=tt):=ah (HE2.o.trans (if_pos h2));clear HE2 wY rE;go_wp2_with fail
   go_ret2
   exact⟨qy ahk ahk,HV.o.1⟩
  have pO:aj (res=if decide (60<sJ p.ts 0)then(2,0)else((jK p (kN p) p.ts 0 [] []).err,(jK p (kN p) p.ts 0 [] []).line)):=ah (HE2.o.trans (if_neg ahL));have Wi:=ah (rE.o aho);clear HE2 rE;have qw:=(HP.o.same HV.o.1).2.2.2;go_wp2_with fail;go_loopw [8,9] (λs8 s wr=> ∃(k:Nat) (R:List Th) (n:Int),s= .int .i64 k∧s8= .int .i64 n∧k+R.length=p.ts.length∧sJ p.ts 0=sJ R n∧gY wr wr.heap.size R aM k∧Sit w wr [(w.heap.size,0,(.slice aK p.ds.length aG)),(w.heap.size,1,(.slice aM p.ts.length aD))]) (λ_ s _=>p.ts.length -(intOf s).toNat)
  case atStart=>exact⟨0,p.ts,0,rfl,rfl,ahg,rfl,qw,HV.o⟩
  case round=>
   obtain⟨k,R,n,rfl,rfl,hlen,heq,hrow,hsit⟩:=hrel;have HU:=ah hsit;have HQ:=ah heq;clear hsit HV c0 c1 qw heq h2;obtain⟨-,⟨-,c0⟩,⟨-,c1⟩,-⟩:=HU.o;cases R with
   |cons t R=>
    obtain⟨⟨b,off,gK,dW,dL,cK,rfl,hB,x0,x1,x2,x3,hok,htx,hst,hcl⟩,hrest⟩:=hrow;simp only[ay]at hlen;have hkl:k<p.ts.length:=ahe;have je:=ah hok;have HST:=ah hst;clear hok htx hst hcl;go_wp2_with fail;refine(Pt t.body _ dL cK je.o.2.2.2 HST.o).mono ?_;rintro e' w4 ⟨rfl,hb4⟩;have jF:=ah hb4;clear hb4 c0 c1 x0 x1 x2 x3;go_wp2_with fail;go_roundw
    case rel=>exact⟨k+1,R,_,ahi,rfl,ahe,HQ.o.trans rfl,hrest.same jF.o,HU.o.next jF.o⟩
    case measure=>simp[intOf];omega
   |nil=>
    obtain rfl:k=p.ts.length:=afm;have HN:aj (sJ p.ts 0=n):=HQ;by_cases h6:60<n
    ·have dJ:aj (res=(2,0)):=ah (pO.o.trans (if_pos agb));clear pO wY;go_wp2_with fail
     go_ret2
     exact⟨qy ahk ahk,HU.o.1⟩
    ·have h6':n<=60:=ahe;obtain⟨-,-,t0,r0,hts⟩:=wY.o;have lK:=ah hts;have HHN:aj (kN p=t0.nm):=ah (by unfold kN;rw[hts];rfl);have dJ:aj (res=((jK p t0.nm p.ts 0 [] []).err,(jK p t0.nm p.ts 0 [] []).line)):=ah (pO.o.trans ((if_neg agb).trans (by rw[HHN.o])));clear pO hts hrow;go_upto_region 19 with fail;obtain⟨wo,rfl⟩: ∃wo:World,wo=wr:=⟨_,rfl⟩;obtain⟨nb,hnb⟩: ∃n,wo.heap.size=n:=⟨_,rfl⟩;generalize hW2:World.alloc wo _=W2;have aC0:=ah (aw2 hnb (HP.o.same HU.o.1) hW2);have iy:=ah hnb;have vP:aj (w.heap.size<nb):=ah (by rw[<- hnb];exact HU.o.2.1.1);rw[hnb];clear hW2 hnb c0 c1;have Ct:aj (Below nb wo W2):=ah (by rw[<- iy.o];exact aC0.o.2);generalize hL:(⟨nb,nb+1,nb,aH _,Nat.lt_succ_self _⟩:sI)=L at *;have zN:aj (L.B0=nb∧L.bc=nb):=ah (by rw[<- hL];exact⟨rfl,rfl⟩);have Xq:nb=L.bc:=zN.o.2.symm;have HB0:aj (Below L.B0 wo W2):=ah (by rw[zN.o.1];exact Ct.o);clear hL;generalize hrr:jK p t0.nm p.ts 0 [] []=rr at *;have HRR:=ah hrr;rw[Xq];clear hrr Xq Ct iy;have c1:W2.cell? ⟨w.heap.size,1,none⟩=some (.slice aM p.ts.length aD):=(HB0.o.cell (p:=⟨w.heap.size,1,none⟩) abh).trans HU.o.2.2.1.2;go_wp2_with fail;go_loopw [11,12,13] (λs _ _ wr=> ∃(k:Nat) (R:List Th) (f1 g1:List ByteArray) (v1 s1 e1:Value) (i1:Int),s= .int .i64 k∧k+R.length=p.ts.length∧p.ts.drop k=R∧rr=jK p t0.nm R k (nms f1) (nms g1)∧nC (kH p) (nms f1)∧nC (kS p) (nms g1)∧Below L.B0 wo wr∧ku wr L p aK aM aG aD i1 [] f1 g1 v1 s1 e1) (λs _ _ _=>p.ts.length -(intOf s).toNat)
     case atStart=>exact⟨0,p.ts,[],[],_,_,_,0,rfl,ahg,rfl,HRR.o.symm,⟨List.nodup_nil,by simp[nms]⟩,⟨List.nodup_nil,by simp[nms]⟩,HB0.o,aC0.o.1⟩
     case round=>
      obtain⟨k,R,f1,g1,v1,s1,e1,i1,rfl,hlen,hdr,heq,hf1,hg1,hB,hI⟩:=hrel;have HE:=ah heq;have zM:=ah hf1;have rZ:=ah hg1;have HB:=ah hB;have HI:=ah hI;have HDR:=ah hdr;clear heq hf1 hg1 hB hI hdr c1;have c1:wr.cell? ⟨w.heap.size,1,none⟩=some (.slice aM p.ts.length aD):=(HB.o.cell (p:=⟨w.heap.size,1,none⟩) abh).trans HU.o.2.2.1.2;have HWB:aj (∀w',Below L.B0 wr w'->Below w.heap.size w w'):=ah (λw' hb=>HU.o.1.trans ((HB.o.trans hb).mono (by have:=vP.o;have:=zN.o.1;omega)));cases R with
      |nil=>
       obtain rfl:k=p.ts.length:=afm;have HX:aj (rr.err=0∧rr.line=0):=ah aha;go_wp2_with fail
       go_ret2
       exact⟨qy (by rw[dJ.o,HX.o.1];rfl) (by rw[dJ.o,HX.o.2];rfl),HWB.o _ (ak _ _)⟩
      |cons t R=>
       simp only[ay]at hlen;have hkl:k<p.ts.length:=ahe;have Ao:aj (fT t.body=true):=ah (wY.o.2.1 t (by have:t∈p.ts.drop k:=(by rw[HDR.o];simp);exact List.mem_of_mem_drop this));have c2:wr.cell? ⟨L.bc,2,none⟩=some (.int .i64 i1):=(eX HI.o.blk (j:=2) rfl).2;have f2:wr.frozen? ⟨L.bc,2,none⟩=false:=bC HI.o.blk;go_upto_region 23 with fail;generalize hW3:World.setCell wr _ _=W3;have nR:aj (wr.grownBy W3 (some L.bc)):=ah (by rw[<- hW3];exact cB _ _ _);have HI3:aj (ku W3 L p aK aM aG aD (k:Int) [] f1 g1 v1 s1 e1):=ah (by rw[<- hW3];exact HI.o.af7);have nX:=ah (cZ nR.o L.c0 HI.o.b0);have HB3:=ah (HB.o.trans nX.o);have hrow:=HI3.o.dat.2.2.2.drop k;rw[HDR.o,aV]at hrow;obtain⟨⟨bl,off,gK,dW,dL,cK,rfl,hbl,x0,x1,x2,x3,hok,htx,hst,-⟩,-⟩:=hrow;have je:=ah hok;have HST:=ah hst;clear hW3 c1 c2 f2 nR HB hok hst htx HI;have c1:W3.cell? ⟨w.heap.size,1,none⟩=some (.slice (some ⟨bl,off,none⟩) p.ts.length aD):=(HB3.o.cell (p:=⟨w.heap.size,1,none⟩) abh).trans HU.o.2.2.1.2;have vC:aj (rr=if(gI p k t.nm t0.nm t.body (dG []) (nms f1) (nms g1)).err != 0 then gI p k t.nm t0.nm t.body (dG []) (nms f1) (nms g1)else jK p t0.nm R (k+1) (gI p k t.nm t0.nm t.body (dG []) (nms f1) (nms g1)).f (gI p k t.nm t0.nm t.body (dG []) (nms f1) (nms g1)).g):=ah HE.o;clear HE;go_wp2_with fail;refine(YU L p _ _ aG aD k t t0 R r0 HDR.o lK.o afM (by have:=J3.o;omega) bg9.o Wi.o wY.o.1 t.body W3 dL cK [] f1 g1 v1 s1 e1 je.o.2.2.2 HST.o Ao.o ahg zM.o rZ.o HI3.o).mono ?_;rintro e' w4 ⟨rfl,hK4,f4,g4,v4,s4,e4,hO4,NJ,hq4⟩;generalize gI p k t.nm t0.nm t.body (dG []) (nms f1) (nms g1)=r1 at *;have HBK:=ah (hK4.below HI3.o.b0 (λq hq=>(HI3.o.own q hq).1));have eF:=ah (HB3.o.trans HBK.o);have Ws:=ah (HWB.o _ (nX.o.trans HBK.o));have HI4:=ah NJ;have zO:=ah hq4;clear hK4 hq4 NJ hO4 x0 x1 x2 x3 c1;cases hr1:(r1.err != 0)
       ·have yR:aj (rr=jK p t0.nm R (k+1) (nms f4) (nms g4)):=ah (vC.o.trans ((if_neg ahV).trans (by rw[(zO.o afC).2.2.1,(zO.o afC).2.2.2])));have wU:aj (nC (kH p) (nms f4)∧nC (kS p) (nms g4)):=ah (by have:=zO.o afC;rw[this.2.2.1,this.2.2.2];exact⟨this.1,this.2.1⟩);have HD7:aj (p.ts.drop (k+1)=R):=ah aeC;clear zO vC;go_wp2_with fail;go_roundw
        case rel=>exact⟨k+1,R,f4,g4,v4,s4,e4,_,ahi,ahe,HD7.o,yR.o,wU.o.1,wU.o.2,eF.o,HI4.o⟩
        case measure=>simp[intOf];omega
       ·have Aq:aj (rr=r1):=ah (vC.o.trans (if_pos hr1));clear vC zO;go_wp2_with fail
        go_ret2
        exact⟨qy (by rw[dJ.o,Aq.o];rfl) (by rw[dJ.o,Aq.o];rfl),Ws.o⟩
end Go.Proofs.YtldapdcphphodaaGreatDoor
