/- Contract of the reference walk's one: where nothing is appended. -/
import Derived.Test.YtkmllehjemjgpaaGreatDoorGR3
import Derived.Test.YtkmllehjemjgpaaGreatDoorGR1
import Derived.Test.YtkmllehjemjgpaaGreatDoorGR7
import Derived.IntWalk
import Derived.Deep.RegionWith
set_option linter.unusedSimpArgs false
set_option linter.unusedVariables false
set_option maxHeartbeats 40000000
set_option maxRecDepth 1000000
namespace Go.Proofs.YtkmllehjemjgpaaGreatDoor
open Go.RowKit
open Md
section
variable (p:Pr) (w:World) (aB aD:Option Addr) (aA ay:Nat) (i:Int) (bK:Option Addr) (aU bc:Nat) (jC:Option Addr) (nZ gI:Nat) (fT:Option Addr) (nY gH:Nat)
theorem af8 (h:cB) (b e ar:aH) (s:Sl) {res:Int} (hi:fD i) (hp:p.At w aB aD) (hin:BO w h b e s) (har:ar.len<=maxLen) (hat:ar.At w w.heap.size bK 0) (hh:Holds w (FJ bc p aB aD aA ay i bK ar.len aU jC nZ gI fT nY gH)) (hc:
 (h.op=1∧h.idx.len=0∧res=(jG (eY (conv (mean p i h.nm)) 8 1) (kg p i h.cu h.xn h.bZ h.aK)))∨
 (h.op=1∧∃JG n0 JE zL Dy,h.idx= .cons JG n0 JE zL Dy∧res=(jG (eY (conv (mean p i h.nm)) 2 2) (jG (kg p i JG n0 JE zL) (kg p i h.cu h.xn h.bZ h.aK))))∨
 (h.op=2∧res=(kg p i h.cu h.xn h.bZ h.aK))∨
 (h.op=3∧res=(kg p i h.cu h.xn h.bZ h.aK))∨
 (h.op=4∧res=(jG (eY (conv (mean p i h.nm)) 3 3) (nest (dP ar 7 7 ⟨#[]⟩||dP ar 4 4 h.nm))))∨
 (h.op=5∧res=(jG (eY (conv (mean p i h.nm)) 4 4) (nest (dP ar 7 7 ⟨#[]⟩||dP ar 5 6 h.nm))))∨
 (h.op=6∧res=(jG (eY (conv (mean p i h.nm)) 4 4) (nest (dP ar 7 7 ⟨#[]⟩||dP ar 5 6 h.nm))))∨
 (h.op=7∧res=(nest (dP ar 7 7 ⟨#[]⟩)))∨
 (h.op=8∧res=(nest (dP ar 7 7 ⟨#[]⟩||dP ar 8 8 ⟨#[]⟩)))∨
 (h.op=9∧res=(if eY (conv (mean p i h.nm)) 5 5 != 0 then eY (conv (mean p i h.nm)) 5 5 else nest ((dP ar 7 7 ⟨#[]⟩|| !dP ar 4 4 (nU p.ds h.nm))||(true&&dP ar 8 8 ⟨#[]⟩))))∨
 (h.op=10∧res=(if eY (conv (mean p i h.nm)) 5 5 != 0 then eY (conv (mean p i h.nm)) 5 5 else nest ((dP ar 7 7 ⟨#[]⟩|| !dP ar 4 4 (nU p.ds h.nm))||(false&&dP ar 8 8 ⟨#[]⟩))))∨
 (h.op=11∧res=(if eY (conv (mean p i h.nm)) 5 5 != 0 then eY (conv (mean p i h.nm)) 5 5 else nest ((dP ar 7 7 ⟨#[]⟩|| !dP ar 4 4 (nU p.ds h.nm))||(false&&dP ar 8 8 ⟨#[]⟩))))∨
 (h.op=13∧res=(jG (eY (conv (mean p i h.nm)) 7 7) (nest ((dP ar 7 7 ⟨#[]⟩||dP ar 8 8 ⟨#[]⟩)||oQ p.ts h.nm==i))))∨
 (h.op=15∧res=(jG (eY (conv (mean p i h.nm)) 8 8) (jG (eY (conv (mean p i h.arg)) 6 6) (nest (dP ar 7 7 ⟨#[]⟩)))))):
 Calls Tryz.prog 66 #[.pointer (some ⟨bc,0,none⟩),jD h b e s] w λe' w'=>e'= .returned (.int .i64 res)∧Below w.heap.size w w':=by
 have IC:=ah hc;clear hc;have HH:=ah (show Sit w w _ from⟨Below.refl _ _,hh⟩);have nO:=ah hin;have jy:=ah hat;have jd:=ah har;have HP:=ah hp;unfold jD;clear hh hin hat har hp;go_enter Tryz.func66,Tryz.ntmps66;go_upto_region 1 with fail;generalize hW:World.alloc w _=W;generalize Value.agg #[_,_,_,_,_,_,_,_,_,_,_]=a0;have HX:aj (Sit w W (ql w.heap.size h b e s (FJ bc p aB aD aA ay i bK ar.len aU jC nZ gI fT nY gH))):=ah (by rw[<- hW];exact HH.o.tK rfl _ _ _ _ _ _ _ _ _ _ _ _);clear hW HH;have K0: ∀w',Below W.heap.size W w'->w'.cell? ⟨bc,0,none⟩=some (.slice aB p.ds.length aA):=λw' hb=>(HX.o.next hb).2.2.2.2.2.2.2.2.2.2.2.2.1.2;have K1: ∀w',Below W.heap.size W w'->w'.cell? ⟨bc,1,none⟩=some (.slice aD p.ts.length ay):=λw' hb=>(HX.o.next hb).2.2.2.2.2.2.2.2.2.2.2.2.2.1.2;have K2: ∀w',Below W.heap.size W w'->w'.cell? ⟨bc,2,none⟩=some (.int .i64 i):=λw' hb=>(HX.o.next hb).2.2.2.2.2.2.2.2.2.2.2.2.2.2.1.2;have HD1:Below W.heap.size W (W.drewN 1):=below_drewN (Below.refl _ _) 1;refine bf (by kernel_rfl) rfl ?_;generalize W.drewN 1=W1 at *;refine aX 0 11 [8,9] [[],[0],[0,1],[0,1,2],[],[4],[4,5],[4,5,6],[],[0,1,2,3,8],[0,1,2,3,4,5,6,7,8,9]] [[none,some false],[none,some false],[none,some false],[none,some false],[none,none],[none,none],[none,none],[none,none],[some false,some false],[some true,some false],[some true,some true]] (AC W1 (.cells #[.slice none 0 0,.slice none 0 0] 25) (.cells #[.slice aB p.ds.length aA,.slice aD p.ts.length ay] 25)) (λ_ _=>True) [15,16,17,18,19,20,21,22,5,6] rfl rfl (by rfl) (by kernel_rfl) (by kernel_rfl) (by kernel_rfl) (by kernel_rfl) (by kernel_rfl) (by rfl) (λ_=>trivial) (by rfl) rfl ?_;simp only[eP,jq]
 iterate 8
  apply aR.step
  case aJ=>intro c A w' hok hC hO hD;have e0:=hO 0 (by rfl);simp[Act.eval]at e0;simp[Act.eval]at hD;simp[go_sem,gd,Oper.wp,hD,e0,K0,K1,AC.below HD1 hC,K2];exact aG.mk trivial (AC.skip (by rfl) (by rfl) hC) (aW.mk _ _)
  try simp only[bP]
 apply aR.step
 case aJ=>intro c A w' hok hC hO hD;obtain⟨x,y,rfl⟩:=hC.bits;obtain⟨rfl,rfl,-⟩:=hok;have hw:w'=W1:=hC;subst hw;simp[go_sem,gd,Oper.wp];exact aG.mk trivial (AC.lay (by rfl) (by rfl)) (aW.mk _ _)
 refine aR.some (λ_ _=>True) (λ_ _ _ _ _=>trivial) ?_ ?_
 ·intro c A w' hok hC hO hD;obtain⟨x,y,rfl⟩:=hC.bits;obtain⟨rfl,rfl,-⟩:=hok;have hw:w'=W1.alloc _:=hC;subst hw;simp[Act.eval]at hD;simp[go_sem,gd,Oper.wp,hD];exact aG.yQ (v:=undef) trivial (AC.fill (by rfl) (by rfl)) trivial
 try simp only[bP]
 apply aR.step
 case aJ=>intro c A w' hok hC hO hD;simp[Act.eval]at hD;simp[go_sem,gd,Oper.wp,hD];exact aG.mk trivial (AC.skip (by rfl) (by rfl) hC) (aW.mk _ _)
 try simp only[bP]
 refine aR.done ?_;intro wz bH;simp only[List.drop_zero];intro v0 h0 v1 h1 v2 h2 v3 h3 v4 h4 v5 h5 v6 h6 v7 h7 v8 h8 v9 h9 v10 h10;have h8':v8=_:=h8;have Ib:v10=_:=h10;subst h8' Ib;clear h0 h1 h2 h3 h4 h5 h6 h7 h8 h9 h10;refine dA.nil ?_;refine bT rfl ?_;have F3:wz=W1.alloc _:=bH;generalize hn1:W1.heap.size=n1 at *;have HY:=ah ((HX.o.next HD1).vg hn1 (.slice aB p.ds.length aA) (.slice aD p.ts.length ay) 25);rw[<- F3]at HY;clear bH F3 HX K0 K1 K2 HD1 hn1;go_simp
 iterate 3 obtain⟨-,⟨-,c0⟩,⟨-,c1⟩,⟨-,c2⟩,⟨-,c3⟩,⟨-,c4⟩,⟨-,c5⟩,⟨-,c6⟩,⟨-,c7⟩,⟨-,c8⟩,⟨-,c9⟩,⟨-,c10⟩,⟨-,c11⟩,⟨-,c12⟩,⟨-,c13⟩,⟨-,c14⟩,⟨-,c15⟩,⟨-,c16⟩,⟨-,c17⟩,⟨-,c18⟩,-⟩:=HY.o;go_wp2_with fail;refine(gu p _ aB aD aA ay i bK aU bc jC nZ gI fT nY gH ar _ _ ⟨#[]⟩ jd.o (jy.o.same HY.o.1) (kW HY.o)).mono ?_;rintro e' W ⟨rfl,hb⟩;replace HY:=ah (HY.o.next hb);clear hb c0 c1 c2 c3 c4 c5 c6 c7 c8 c9 c10 c11 c12 c13 c14 c15 c16 c17 c18
 obtain⟨-,⟨-,c0⟩,⟨-,c1⟩,⟨-,c2⟩,⟨-,c3⟩,⟨-,c4⟩,⟨-,c5⟩,⟨-,c6⟩,⟨-,c7⟩,⟨-,c8⟩,⟨-,c9⟩,⟨-,c10⟩,⟨-,c11⟩,⟨-,c12⟩,⟨-,c13⟩,⟨-,c14⟩,⟨-,c15⟩,⟨-,c16⟩,⟨-,c17⟩,⟨-,c18⟩,-⟩:=HY.o;generalize htx:dP ar 7 7 ⟨#[]⟩=tx at *;generalize hat':dP ar 8 8 ⟨#[]⟩=Lb at *;generalize hlo:dP ar 3 3 ⟨#[]⟩=lop at *;clear htx hat' hlo;rcases IC.o with⟨hop,hx,hr⟩|⟨hop,JG,n0,JE,zL,Dy,hix,hr⟩|⟨hop,hr⟩|⟨hop,hr⟩|⟨hop,hr⟩|⟨hop,hr⟩|⟨hop,hr⟩|⟨hop,hr⟩|⟨hop,hr⟩|⟨hop,hr⟩|⟨hop,hr⟩|⟨hop,hr⟩|⟨hop,hr⟩|⟨hop,hr⟩
 all_goals have HR:=ah hr;clear hr IC
 ·obtain⟨g1,g2,g3,g4,g5,g6,g7,g8,g9,g10,g11,g12,g13,g14,g15⟩:=op1 hop;clear hop;rw[hx]at c6;clear hx;go_upto_region 8 with fail;obtain⟨T,F,yX,hst,hF,hnext⟩:=calm W;have HF:=ah hF;have dJ:=ah hnext;clear hnext hF;have d0:=λx=>(HY.o.next (HF.o x)).2.1.2;have d1:=λx=>(HY.o.next (HF.o x)).2.2.1.2;have d2:=λx=>(HY.o.next (HF.o x)).2.2.2.1.2;have d3:=λx=>(HY.o.next (HF.o x)).2.2.2.2.1.2;have d4:=λx=>(HY.o.next (HF.o x)).2.2.2.2.2.1.2;have d5:=λx=>(HY.o.next (HF.o x)).2.2.2.2.2.2.1.2;have d6:=λx=>(HY.o.next (HF.o x)).2.2.2.2.2.2.2.1.2;have d7:=λx=>(HY.o.next (HF.o x)).2.2.2.2.2.2.2.2.1.2;have d8:=λx=>(HY.o.next (HF.o x)).2.2.2.2.2.2.2.2.2.1.2;have d9:=λx=>(HY.o.next (HF.o x)).2.2.2.2.2.2.2.2.2.2.1.2;have qH:=λx=>(HY.o.next (HF.o x)).2.2.2.2.2.2.2.2.2.2.2.1.2;have rU:=λx=>(HY.o.next (HF.o x)).2.2.2.2.2.2.2.2.2.2.2.2.1.2;have zu:=λx=>(HY.o.next (HF.o x)).2.2.2.2.2.2.2.2.2.2.2.2.2.1.2;have Bq:=λx=>(HY.o.next (HF.o x)).2.2.2.2.2.2.2.2.2.2.2.2.2.2.1.2;have uO:=λx=>(HY.o.next (HF.o x)).2.2.2.2.2.2.2.2.2.2.2.2.2.2.2.1.2;have Br:=λx=>(HY.o.next (HF.o x)).2.2.2.2.2.2.2.2.2.2.2.2.2.2.2.2.1.2;have zw:=λx=>(HY.o.next (HF.o x)).2.2.2.2.2.2.2.2.2.2.2.2.2.2.2.2.2.1.2;have Bt:=λx=>(HY.o.next (HF.o x)).2.2.2.2.2.2.2.2.2.2.2.2.2.2.2.2.2.2.1.2;have zx:=λx=>(HY.o.next (HF.o x)).2.2.2.2.2.2.2.2.2.2.2.2.2.2.2.2.2.2.2.1.2;clear c0 c1 c2 c3 c4 c5 c6 c7 c8 c9 c10 c11 c12 c13 c14 c15 c16 c17 c18;refine gZ F (by kernel_rfl) (by kernel_rfl) hst ?_
  repeat (any_goals (first|go_big_quiet_step ((first|(go_at_call 93;refine(gU p i h.nm 8 1 _ aB aD aA ay hi ((HP.o.same HY.o.1).same (HF.o _))).mono ?_;rintro e w' ⟨rfl,hb⟩;exact⟨rfl,dJ.o _ _ hb⟩)|(go_at_call 94;refine(iJ p i h.cu h.xn h.bZ h.aK _ aB aD s.dR aA ay s.cO hi ((HP.o.same HY.o.1).same (HF.o _)) nO.o.1.2.2.2.2.2.1 ((nO.o.2.2.1.same HY.o.1).same (HF.o _))).mono ?_;rintro e w' ⟨rfl,hb⟩;exact⟨rfl,dJ.o _ _ hb⟩)|(go_at_call 92;refine(iO _ _ _).mono ?_;rintro e w' ⟨rfl,rfl⟩;exact⟨rfl,dJ.o _ _ (Below.refl _ _)⟩)))|(refine wpQuiet_step (λK hK=> ?_);go_simp;first|(refine hK _ ?_;clear hK K)|(split <;> first|(refine hK _ ?_;clear hK K)|(apply Exists.intro;refine⟨λ_=> ?_,hK _ ?_⟩;((first|(go_at_call 93;refine(gU p i h.nm 8 1 _ aB aD aA ay hi ((HP.o.same HY.o.1).same (HF.o _))).mono ?_;rintro e w' ⟨rfl,hb⟩;exact⟨rfl,dJ.o _ _ hb⟩)|(go_at_call 94;refine(iJ p i h.cu h.xn h.bZ h.aK _ aB aD s.dR aA ay s.cO hi ((HP.o.same HY.o.1).same (HF.o _)) nO.o.1.2.2.2.2.2.1 ((nO.o.2.2.1.same HY.o.1).same (HF.o _))).mono ?_;rintro e w' ⟨rfl,hb⟩;exact⟨rfl,dJ.o _ _ hb⟩)|(go_at_call 92;refine(iO _ _ _).mono ?_;rintro e w' ⟨rfl,rfl⟩;exact⟨rfl,dJ.o _ _ (Below.refl _ _)⟩)));clear hK K)))))
  all_goals (refine wpQuiet_nil ?_;rintro _ ⟨x,rfl⟩)
  replace HY:=ah (HY.o.next (HF.o x));clear d0 d1 d2 d3 d4 d5 d6 d7 d8 d9 qH rU zu Bq uO Br zw Bt zx HF dJ hst;generalize F x=W2 at *;go_wp2_with fail;go_ret;exact⟨aV (by first|exact HR.o.symm|(rw[HR.o];first|done|rfl|simp[jG,nest])),HY.o.1⟩
 ·obtain⟨⟨b0,yY,Gx,cap0,hao,iL,x0,x1,x2,x3,hok0,hk0⟩,-⟩:=(hix ▸ nO.o.2.1:(bC.cons JG n0 JE zL Dy).At w w.heap.size s.eu 0);have Zf:=ah (And.intro hok0 hk0);have KW:=ah (And.intro iL (And.intro x0 (And.intro x1 (And.intro x2 x3))));have xG:=ah hao;have KL:=ah hix;clear hok0 hk0 iL x0 x1 x2 x3 hao hix;obtain⟨g1,g2,g3,g4,g5,g6,g7,g8,g9,g10,g11,g12,g13,g14,g15⟩:=op1 hop;clear hop;rw[KL.o,xG.o]at c6;simp only[bC.len]at c6;go_upto_region 9 with fail;obtain⟨T,F,yX,hst,hF,hnext⟩:=calm W;have HF:=ah hF;have dJ:=ah hnext;clear hnext hF;have d0:=λx=>(HY.o.next (HF.o x)).2.1.2;have d1:=λx=>(HY.o.next (HF.o x)).2.2.1.2;have d2:=λx=>(HY.o.next (HF.o x)).2.2.2.1.2;have d3:=λx=>(HY.o.next (HF.o x)).2.2.2.2.1.2;have d4:=λx=>(HY.o.next (HF.o x)).2.2.2.2.2.1.2;have d5:=λx=>(HY.o.next (HF.o x)).2.2.2.2.2.2.1.2;have d6:=λx=>(HY.o.next (HF.o x)).2.2.2.2.2.2.2.1.2;have d7:=λx=>(HY.o.next (HF.o x)).2.2.2.2.2.2.2.2.1.2;have d8:=λx=>(HY.o.next (HF.o x)).2.2.2.2.2.2.2.2.2.1.2;have d9:=λx=>(HY.o.next (HF.o x)).2.2.2.2.2.2.2.2.2.2.1.2;have qH:=λx=>(HY.o.next (HF.o x)).2.2.2.2.2.2.2.2.2.2.2.1.2;have rU:=λx=>(HY.o.next (HF.o x)).2.2.2.2.2.2.2.2.2.2.2.2.1.2;have zu:=λx=>(HY.o.next (HF.o x)).2.2.2.2.2.2.2.2.2.2.2.2.2.1.2;have Bq:=λx=>(HY.o.next (HF.o x)).2.2.2.2.2.2.2.2.2.2.2.2.2.2.1.2;have uO:=λx=>(HY.o.next (HF.o x)).2.2.2.2.2.2.2.2.2.2.2.2.2.2.2.1.2;have Br:=λx=>(HY.o.next (HF.o x)).2.2.2.2.2.2.2.2.2.2.2.2.2.2.2.2.1.2;have zw:=λx=>(HY.o.next (HF.o x)).2.2.2.2.2.2.2.2.2.2.2.2.2.2.2.2.2.1.2;have Bt:=λx=>(HY.o.next (HF.o x)).2.2.2.2.2.2.2.2.2.2.2.2.2.2.2.2.2.2.1.2;have zx:=λx=>(HY.o.next (HF.o x)).2.2.2.2.2.2.2.2.2.2.2.2.2.2.2.2.2.2.2.1.2;clear c0 c1 c2 c3 c4 c5 c6 c7 c8 c9 c10 c11 c12 c13 c14 c15 c16 c17 c18;have y0:=λx=>(((HY.o.1.trans ((HF.o x).mono HY.o.1.size)).cell (p:=⟨b0,yY+0*4,none⟩) KW.o.1)).trans KW.o.2.1;have y1:=λx=>(((HY.o.1.trans ((HF.o x).mono HY.o.1.size)).cell (p:=⟨b0,yY+0*4+1,none⟩) KW.o.1)).trans KW.o.2.2.1;have y2:=λx=>(((HY.o.1.trans ((HF.o x).mono HY.o.1.size)).cell (p:=⟨b0,yY+0*4+2,none⟩) KW.o.1)).trans KW.o.2.2.2.1;have y3:=λx=>(((HY.o.1.trans ((HF.o x).mono HY.o.1.size)).cell (p:=⟨b0,yY+0*4+3,none⟩) KW.o.1)).trans KW.o.2.2.2.2;simp only[Nat.zero_mul,Nat.add_zero]at y0 y1 y2 y3;simp only[KL.o,xG.o,bC.len]at d6;have hz0:(0:Int)<(Dy.len:Int)+1:=by omega
  have hz1:(0:Int)<((Dy.len+1:Nat):Int):=by omega
  refine gZ F (by kernel_rfl) (by kernel_rfl) hst ?_
  repeat (any_goals (first|go_big_quiet_step ((first|(go_at_call 93;refine(gU p i h.nm 2 2 _ aB aD aA ay hi ((HP.o.same HY.o.1).same (HF.o _))).mono ?_;rintro e w' ⟨rfl,hb⟩;exact⟨rfl,dJ.o _ _ hb⟩)|(go_at_call_of 94 (Value.agg #[.int .i64 JG,.int .i64 n0,.string JE,.slice Gx zL.len cap0]);refine(iJ p i JG n0 JE zL _ aB aD Gx aA ay cap0 hi ((HP.o.same HY.o.1).same (HF.o _)) Zf.o.1 ((Zf.o.2.same HY.o.1).same (HF.o _))).mono ?_;rintro e w' ⟨rfl,hb⟩;exact⟨rfl,dJ.o _ _ hb⟩)|(go_at_call_of 94 (Value.agg #[.int .i64 h.cu,.int .i64 h.xn,.string h.bZ,.slice s.dR h.aK.len s.cO]);refine(iJ p i h.cu h.xn h.bZ h.aK _ aB aD s.dR aA ay s.cO hi ((HP.o.same HY.o.1).same (HF.o _)) nO.o.1.2.2.2.2.2.1 ((nO.o.2.2.1.same HY.o.1).same (HF.o _))).mono ?_;rintro e w' ⟨rfl,hb⟩;exact⟨rfl,dJ.o _ _ hb⟩)|(go_at_call 92;refine(iO _ _ _).mono ?_;rintro e w' ⟨rfl,rfl⟩;exact⟨rfl,dJ.o _ _ (Below.refl _ _)⟩)))|(refine wpQuiet_step (λK hK=> ?_);go_simp;first|(refine hK _ ?_;clear hK K)|(split <;> first|(refine hK _ ?_;clear hK K)|(apply Exists.intro;refine⟨λ_=> ?_,hK _ ?_⟩;((first|(go_at_call 93;refine(gU p i h.nm 2 2 _ aB aD aA ay hi ((HP.o.same HY.o.1).same (HF.o _))).mono ?_;rintro e w' ⟨rfl,hb⟩;exact⟨rfl,dJ.o _ _ hb⟩)|(go_at_call_of 94 (Value.agg #[.int .i64 JG,.int .i64 n0,.string JE,.slice Gx zL.len cap0]);refine(iJ p i JG n0 JE zL _ aB aD Gx aA ay cap0 hi ((HP.o.same HY.o.1).same (HF.o _)) Zf.o.1 ((Zf.o.2.same HY.o.1).same (HF.o _))).mono ?_;rintro e w' ⟨rfl,hb⟩;exact⟨rfl,dJ.o _ _ hb⟩)|(go_at_call_of 94 (Value.agg #[.int .i64 h.cu,.int .i64 h.xn,.string h.bZ,.slice s.dR h.aK.len s.cO]);refine(iJ p i h.cu h.xn h.bZ h.aK _ aB aD s.dR aA ay s.cO hi ((HP.o.same HY.o.1).same (HF.o _)) nO.o.1.2.2.2.2.2.1 ((nO.o.2.2.1.same HY.o.1).same (HF.o _))).mono ?_;rintro e w' ⟨rfl,hb⟩;exact⟨rfl,dJ.o _ _ hb⟩)|(go_at_call 92;refine(iO _ _ _).mono ?_;rintro e w' ⟨rfl,rfl⟩;exact⟨rfl,dJ.o _ _ (Below.refl _ _)⟩)));clear hK K)))))
  all_goals (refine wpQuiet_nil ?_;rintro _ ⟨x,rfl⟩)
  replace HY:=ah (HY.o.next (HF.o x));clear d0 d1 d2 d3 d4 d5 d6 d7 d8 d9 qH rU zu Bq uO Br zw Bt zx y0 y1 y2 y3 HF dJ hst;generalize F x=W2 at *;go_wp2_with fail;go_ret;exact⟨aV (by first|exact HR.o.symm|(rw[HR.o];first|done|rfl|simp[jG,nest])),HY.o.1⟩
 ·obtain⟨g1,g2,g3,g4,g5,g6,g7,g8,g9,g10,g11,g12,g13,g14,g15⟩:=op2 hop;clear hop
  repeat
   go_wp2_with fail
   first
   |(go_at_call 95;refine(gy _ _).mono ?_;rintro e' W' ⟨rfl,rfl⟩)
   |(go_at_call 92;refine(iO _ _ _).mono ?_;rintro e' W' ⟨rfl,rfl⟩)
   |(go_at_call 64;refine(gL p.ts h.nm _ aD ay HP.o.2.1 (HP.o.same HY.o.1).2.2.2).mono ?_;rintro e' W' ⟨rfl,rfl⟩;rw[HKK.o])
   |(first
     |(go_at_call 93;refine(gU p i h.nm _ _ _ aB aD aA ay hi (HP.o.same HY.o.1)).mono ?_)
     |(go_at_call 94;refine(iJ p i h.cu h.xn h.bZ h.aK _ aB aD s.dR aA ay s.cO hi (HP.o.same HY.o.1) nO.o.1.2.2.2.2.2.1 (nO.o.2.2.1.same HY.o.1)).mono ?_)
     |(go_at_call 91;refine(gu p _ aB aD aA ay i bK aU bc jC nZ gI fT nY gH ar _ _ h.nm jd.o (jy.o.same HY.o.1) (kW HY.o)).mono ?_)
     rintro e' W ⟨rfl,hb⟩;replace HY:=ah (HY.o.next hb);clear hb c0 c1 c2 c3 c4 c5 c6 c7 c8 c9 c10 c11 c12 c13 c14 c15 c16 c17 c18;obtain⟨-,⟨-,c0⟩,⟨-,c1⟩,⟨-,c2⟩,⟨-,c3⟩,⟨-,c4⟩,⟨-,c5⟩,⟨-,c6⟩,⟨-,c7⟩,⟨-,c8⟩,⟨-,c9⟩,⟨-,c10⟩,⟨-,c11⟩,⟨-,c12⟩,⟨-,c13⟩,⟨-,c14⟩,⟨-,c15⟩,⟨-,c16⟩,⟨-,c17⟩,⟨-,c18⟩,-⟩:=HY.o;skip)
  go_wp2_with fail;go_ret;exact⟨aV (by first|exact HR.o.symm|(rw[HR.o];first|done|rfl|simp[jG,nest])),HY.o.1⟩
 ·obtain⟨g1,g2,g3,g4,g5,g6,g7,g8,g9,g10,g11,g12,g13,g14,g15⟩:=ZU hop;clear hop
  repeat
   go_wp2_with fail
   first
   |(go_at_call 95;refine(gy _ _).mono ?_;rintro e' W' ⟨rfl,rfl⟩)
   |(go_at_call 92;refine(iO _ _ _).mono ?_;rintro e' W' ⟨rfl,rfl⟩)
   |(go_at_call 64;refine(gL p.ts h.nm _ aD ay HP.o.2.1 (HP.o.same HY.o.1).2.2.2).mono ?_;rintro e' W' ⟨rfl,rfl⟩;rw[HKK.o])
   |(first
     |(go_at_call 93;refine(gU p i h.nm _ _ _ aB aD aA ay hi (HP.o.same HY.o.1)).mono ?_)
     |(go_at_call 94;refine(iJ p i h.cu h.xn h.bZ h.aK _ aB aD s.dR aA ay s.cO hi (HP.o.same HY.o.1) nO.o.1.2.2.2.2.2.1 (nO.o.2.2.1.same HY.o.1)).mono ?_)
     |(go_at_call 91;refine(gu p _ aB aD aA ay i bK aU bc jC nZ gI fT nY gH ar _ _ h.nm jd.o (jy.o.same HY.o.1) (kW HY.o)).mono ?_)
     rintro e' W ⟨rfl,hb⟩;replace HY:=ah (HY.o.next hb);clear hb c0 c1 c2 c3 c4 c5 c6 c7 c8 c9 c10 c11 c12 c13 c14 c15 c16 c17 c18;obtain⟨-,⟨-,c0⟩,⟨-,c1⟩,⟨-,c2⟩,⟨-,c3⟩,⟨-,c4⟩,⟨-,c5⟩,⟨-,c6⟩,⟨-,c7⟩,⟨-,c8⟩,⟨-,c9⟩,⟨-,c10⟩,⟨-,c11⟩,⟨-,c12⟩,⟨-,c13⟩,⟨-,c14⟩,⟨-,c15⟩,⟨-,c16⟩,⟨-,c17⟩,⟨-,c18⟩,-⟩:=HY.o;skip)
  go_wp2_with fail;go_ret;exact⟨aV (by first|exact HR.o.symm|(rw[HR.o];first|done|rfl|simp[jG,nest])),HY.o.1⟩
 ·obtain⟨g1,g2,g3,g4,g5,g6,g7,g8,g9,g10,g11,g12,g13,g14,g15⟩:=ZV hop;clear hop;cases tx
  all_goals
   repeat
    go_wp2_with fail
    first
    |(go_at_call 95;refine(gy _ _).mono ?_;rintro e' W' ⟨rfl,rfl⟩)
    |(go_at_call 92;refine(iO _ _ _).mono ?_;rintro e' W' ⟨rfl,rfl⟩)
    |(go_at_call 64;refine(gL p.ts h.nm _ aD ay HP.o.2.1 (HP.o.same HY.o.1).2.2.2).mono ?_;rintro e' W' ⟨rfl,rfl⟩;rw[HKK.o])
    |(first
      |(go_at_call 93;refine(gU p i h.nm _ _ _ aB aD aA ay hi (HP.o.same HY.o.1)).mono ?_)
      |(go_at_call 94;refine(iJ p i h.cu h.xn h.bZ h.aK _ aB aD s.dR aA ay s.cO hi (HP.o.same HY.o.1) nO.o.1.2.2.2.2.2.1 (nO.o.2.2.1.same HY.o.1)).mono ?_)
      |(go_at_call 91;refine(gu p _ aB aD aA ay i bK aU bc jC nZ gI fT nY gH ar _ _ h.nm jd.o (jy.o.same HY.o.1) (kW HY.o)).mono ?_)
      rintro e' W ⟨rfl,hb⟩;replace HY:=ah (HY.o.next hb);clear hb c0 c1 c2 c3 c4 c5 c6 c7 c8 c9 c10 c11 c12 c13 c14 c15 c16 c17 c18;obtain⟨-,⟨-,c0⟩,⟨-,c1⟩,⟨-,c2⟩,⟨-,c3⟩,⟨-,c4⟩,⟨-,c5⟩,⟨-,c6⟩,⟨-,c7⟩,⟨-,c8⟩,⟨-,c9⟩,⟨-,c10⟩,⟨-,c11⟩,⟨-,c12⟩,⟨-,c13⟩,⟨-,c14⟩,⟨-,c15⟩,⟨-,c16⟩,⟨-,c17⟩,⟨-,c18⟩,-⟩:=HY.o;skip)
   go_wp2_with fail;go_ret;exact⟨aV (by first|exact HR.o.symm|(rw[HR.o];first|done|rfl|simp[jG,nest])),HY.o.1⟩
 ·obtain⟨g1,g2,g3,g4,g5,g6,g7,g8,g9,g10,g11,g12,g13,g14,g15⟩:=ZW hop;clear hop;cases tx
  all_goals
   repeat
    go_wp2_with fail
    first
    |(go_at_call 95;refine(gy _ _).mono ?_;rintro e' W' ⟨rfl,rfl⟩)
    |(go_at_call 92;refine(iO _ _ _).mono ?_;rintro e' W' ⟨rfl,rfl⟩)
    |(go_at_call 64;refine(gL p.ts h.nm _ aD ay HP.o.2.1 (HP.o.same HY.o.1).2.2.2).mono ?_;rintro e' W' ⟨rfl,rfl⟩;rw[HKK.o])
    |(first
      |(go_at_call 93;refine(gU p i h.nm _ _ _ aB aD aA ay hi (HP.o.same HY.o.1)).mono ?_)
      |(go_at_call 94;refine(iJ p i h.cu h.xn h.bZ h.aK _ aB aD s.dR aA ay s.cO hi (HP.o.same HY.o.1) nO.o.1.2.2.2.2.2.1 (nO.o.2.2.1.same HY.o.1)).mono ?_)
      |(go_at_call 91;refine(gu p _ aB aD aA ay i bK aU bc jC nZ gI fT nY gH ar _ _ h.nm jd.o (jy.o.same HY.o.1) (kW HY.o)).mono ?_)
      rintro e' W ⟨rfl,hb⟩;replace HY:=ah (HY.o.next hb);clear hb c0 c1 c2 c3 c4 c5 c6 c7 c8 c9 c10 c11 c12 c13 c14 c15 c16 c17 c18;obtain⟨-,⟨-,c0⟩,⟨-,c1⟩,⟨-,c2⟩,⟨-,c3⟩,⟨-,c4⟩,⟨-,c5⟩,⟨-,c6⟩,⟨-,c7⟩,⟨-,c8⟩,⟨-,c9⟩,⟨-,c10⟩,⟨-,c11⟩,⟨-,c12⟩,⟨-,c13⟩,⟨-,c14⟩,⟨-,c15⟩,⟨-,c16⟩,⟨-,c17⟩,⟨-,c18⟩,-⟩:=HY.o;skip)
   go_wp2_with fail;go_ret;exact⟨aV (by first|exact HR.o.symm|(rw[HR.o];first|done|rfl|simp[jG,nest])),HY.o.1⟩
 ·obtain⟨g1,g2,g3,g4,g5,g6,g7,g8,g9,g10,g11,g12,g13,g14,g15⟩:=ZX hop;clear hop;cases tx
  all_goals
   repeat
    go_wp2_with fail
    first
    |(go_at_call 95;refine(gy _ _).mono ?_;rintro e' W' ⟨rfl,rfl⟩)
    |(go_at_call 92;refine(iO _ _ _).mono ?_;rintro e' W' ⟨rfl,rfl⟩)
    |(go_at_call 64;refine(gL p.ts h.nm _ aD ay HP.o.2.1 (HP.o.same HY.o.1).2.2.2).mono ?_;rintro e' W' ⟨rfl,rfl⟩;rw[HKK.o])
    |(first
      |(go_at_call 93;refine(gU p i h.nm _ _ _ aB aD aA ay hi (HP.o.same HY.o.1)).mono ?_)
      |(go_at_call 94;refine(iJ p i h.cu h.xn h.bZ h.aK _ aB aD s.dR aA ay s.cO hi (HP.o.same HY.o.1) nO.o.1.2.2.2.2.2.1 (nO.o.2.2.1.same HY.o.1)).mono ?_)
      |(go_at_call 91;refine(gu p _ aB aD aA ay i bK aU bc jC nZ gI fT nY gH ar _ _ h.nm jd.o (jy.o.same HY.o.1) (kW HY.o)).mono ?_)
      rintro e' W ⟨rfl,hb⟩;replace HY:=ah (HY.o.next hb);clear hb c0 c1 c2 c3 c4 c5 c6 c7 c8 c9 c10 c11 c12 c13 c14 c15 c16 c17 c18;obtain⟨-,⟨-,c0⟩,⟨-,c1⟩,⟨-,c2⟩,⟨-,c3⟩,⟨-,c4⟩,⟨-,c5⟩,⟨-,c6⟩,⟨-,c7⟩,⟨-,c8⟩,⟨-,c9⟩,⟨-,c10⟩,⟨-,c11⟩,⟨-,c12⟩,⟨-,c13⟩,⟨-,c14⟩,⟨-,c15⟩,⟨-,c16⟩,⟨-,c17⟩,⟨-,c18⟩,-⟩:=HY.o;skip)
   go_wp2_with fail;go_ret;exact⟨aV (by first|exact HR.o.symm|(rw[HR.o];first|done|rfl|simp[jG,nest])),HY.o.1⟩
 ·obtain⟨g1,g2,g3,g4,g5,g6,g7,g8,g9,g10,g11,g12,g13,g14,g15⟩:=ZY hop;clear hop
  repeat
   go_wp2_with fail
   first
   |(go_at_call 95;refine(gy _ _).mono ?_;rintro e' W' ⟨rfl,rfl⟩)
   |(go_at_call 92;refine(iO _ _ _).mono ?_;rintro e' W' ⟨rfl,rfl⟩)
   |(go_at_call 64;refine(gL p.ts h.nm _ aD ay HP.o.2.1 (HP.o.same HY.o.1).2.2.2).mono ?_;rintro e' W' ⟨rfl,rfl⟩;rw[HKK.o])
   |(first
     |(go_at_call 93;refine(gU p i h.nm _ _ _ aB aD aA ay hi (HP.o.same HY.o.1)).mono ?_)
     |(go_at_call 94;refine(iJ p i h.cu h.xn h.bZ h.aK _ aB aD s.dR aA ay s.cO hi (HP.o.same HY.o.1) nO.o.1.2.2.2.2.2.1 (nO.o.2.2.1.same HY.o.1)).mono ?_)
     |(go_at_call 91;refine(gu p _ aB aD aA ay i bK aU bc jC nZ gI fT nY gH ar _ _ h.nm jd.o (jy.o.same HY.o.1) (kW HY.o)).mono ?_)
     rintro e' W ⟨rfl,hb⟩;replace HY:=ah (HY.o.next hb);clear hb c0 c1 c2 c3 c4 c5 c6 c7 c8 c9 c10 c11 c12 c13 c14 c15 c16 c17 c18;obtain⟨-,⟨-,c0⟩,⟨-,c1⟩,⟨-,c2⟩,⟨-,c3⟩,⟨-,c4⟩,⟨-,c5⟩,⟨-,c6⟩,⟨-,c7⟩,⟨-,c8⟩,⟨-,c9⟩,⟨-,c10⟩,⟨-,c11⟩,⟨-,c12⟩,⟨-,c13⟩,⟨-,c14⟩,⟨-,c15⟩,⟨-,c16⟩,⟨-,c17⟩,⟨-,c18⟩,-⟩:=HY.o;skip)
  go_wp2_with fail;go_ret;exact⟨aV (by first|exact HR.o.symm|(rw[HR.o];first|done|rfl|simp[jG,nest])),HY.o.1⟩
 ·obtain⟨g1,g2,g3,g4,g5,g6,g7,g8,g9,g10,g11,g12,g13,g14,g15⟩:=op8 hop;clear hop;cases tx
  all_goals
   repeat
    go_wp2_with fail
    first
    |(go_at_call 95;refine(gy _ _).mono ?_;rintro e' W' ⟨rfl,rfl⟩)
    |(go_at_call 92;refine(iO _ _ _).mono ?_;rintro e' W' ⟨rfl,rfl⟩)
    |(go_at_call 64;refine(gL p.ts h.nm _ aD ay HP.o.2.1 (HP.o.same HY.o.1).2.2.2).mono ?_;rintro e' W' ⟨rfl,rfl⟩;rw[HKK.o])
    |(first
      |(go_at_call 93;refine(gU p i h.nm _ _ _ aB aD aA ay hi (HP.o.same HY.o.1)).mono ?_)
      |(go_at_call 94;refine(iJ p i h.cu h.xn h.bZ h.aK _ aB aD s.dR aA ay s.cO hi (HP.o.same HY.o.1) nO.o.1.2.2.2.2.2.1 (nO.o.2.2.1.same HY.o.1)).mono ?_)
      |(go_at_call 91;refine(gu p _ aB aD aA ay i bK aU bc jC nZ gI fT nY gH ar _ _ h.nm jd.o (jy.o.same HY.o.1) (kW HY.o)).mono ?_)
      rintro e' W ⟨rfl,hb⟩;replace HY:=ah (HY.o.next hb);clear hb c0 c1 c2 c3 c4 c5 c6 c7 c8 c9 c10 c11 c12 c13 c14 c15 c16 c17 c18;obtain⟨-,⟨-,c0⟩,⟨-,c1⟩,⟨-,c2⟩,⟨-,c3⟩,⟨-,c4⟩,⟨-,c5⟩,⟨-,c6⟩,⟨-,c7⟩,⟨-,c8⟩,⟨-,c9⟩,⟨-,c10⟩,⟨-,c11⟩,⟨-,c12⟩,⟨-,c13⟩,⟨-,c14⟩,⟨-,c15⟩,⟨-,c16⟩,⟨-,c17⟩,⟨-,c18⟩,-⟩:=HY.o;skip)
   go_wp2_with fail;go_ret;exact⟨aV (by first|exact HR.o.symm|(rw[HR.o];first|done|rfl|simp[jG,nest])),HY.o.1⟩
 iterate 3
  ·first|(obtain⟨g1,g2,g3,g4,g5,g6,g7,g8,g9,g10,g11,g12,g13,g14,g15⟩:=op9 hop;clear hop)|(obtain⟨g1,g2,g3,g4,g5,g6,g7,g8,g9,g10,g11,g12,g13,g14,g15⟩:=SL hop;clear hop)|(obtain⟨g1,g2,g3,g4,g5,g6,g7,g8,g9,g10,g11,g12,g13,g14,g15⟩:=SN hop;clear hop)
   go_wp2_with fail;refine(gU p i h.nm 5 5 _ aB aD aA ay hi (HP.o.same HY.o.1)).mono ?_;rintro e' W ⟨rfl,hb⟩;replace HY:=ah (HY.o.next hb);clear hb c0 c1 c2 c3 c4 c5 c6 c7 c8 c9 c10 c11 c12 c13 c14 c15 c16 c17 c18;obtain⟨-,⟨-,c0⟩,⟨-,c1⟩,⟨-,c2⟩,⟨-,c3⟩,⟨-,c4⟩,⟨-,c5⟩,⟨-,c6⟩,⟨-,c7⟩,⟨-,c8⟩,⟨-,c9⟩,⟨-,c10⟩,⟨-,c11⟩,⟨-,c12⟩,⟨-,c13⟩,⟨-,c14⟩,⟨-,c15⟩,⟨-,c16⟩,⟨-,c17⟩,⟨-,c18⟩,-⟩:=HY.o;have HDF:=ah (Jg (p:=p) (i:=i) (nm:=h.nm));generalize eY (conv (mean p i h.nm)) 5 5=q at *;cases hq:(q != 0)
   case true=>have HR':aj (res=q):=ah (HR.o.trans (if_pos hq));clear HDF HR;go_wp2_with fail;go_ret;exact⟨aV HR'.o.symm,HY.o.1⟩
   obtain⟨k,d,r,hk,hfx,hdr,-,-,hmu⟩:=HDF.o (by simpa using hq);have HR':aj (res=nest ((tx|| !dP ar 4 4 d.on)||(_&&Lb))):=ah (HR.o.trans ((if_neg (by rw[hq];decide)).trans (by rw[hmu])));have HFX:aj (xZ p.ds h.nm=(k:Int)):=ah hfx;have hrow:=(HP.o.same HY.o.1).2.2.1.drop k;rw[hdr,Nat.zero_add]at hrow;obtain⟨⟨bD,aW8,rfl,hbD,-,-,-,-,-,x5,-⟩,-⟩:=hrow;have hk0:(0:Int)<=(k:Int):=by omega
   have hk1:(k:Int)<(p.ds.length:Int):=by omega
   clear HR HDF hfx hmu hdr;go_upto_region 28 with fail;obtain⟨T,F,yX,hst,hF,hnext⟩:=calm W;have HF:=ah hF;have dJ:=ah hnext;clear hnext hF;have d0:=λx=>(HY.o.next (HF.o x)).2.1.2;have d1:=λx=>(HY.o.next (HF.o x)).2.2.1.2;have d2:=λx=>(HY.o.next (HF.o x)).2.2.2.1.2;have d3:=λx=>(HY.o.next (HF.o x)).2.2.2.2.1.2;have d4:=λx=>(HY.o.next (HF.o x)).2.2.2.2.2.1.2;have d5:=λx=>(HY.o.next (HF.o x)).2.2.2.2.2.2.1.2;have d6:=λx=>(HY.o.next (HF.o x)).2.2.2.2.2.2.2.1.2;have d7:=λx=>(HY.o.next (HF.o x)).2.2.2.2.2.2.2.2.1.2;have d8:=λx=>(HY.o.next (HF.o x)).2.2.2.2.2.2.2.2.2.1.2;have d9:=λx=>(HY.o.next (HF.o x)).2.2.2.2.2.2.2.2.2.2.1.2;have qH:=λx=>(HY.o.next (HF.o x)).2.2.2.2.2.2.2.2.2.2.2.1.2;have rU:=λx=>(HY.o.next (HF.o x)).2.2.2.2.2.2.2.2.2.2.2.2.1.2;have zu:=λx=>(HY.o.next (HF.o x)).2.2.2.2.2.2.2.2.2.2.2.2.2.1.2;have Bq:=λx=>(HY.o.next (HF.o x)).2.2.2.2.2.2.2.2.2.2.2.2.2.2.1.2;have uO:=λx=>(HY.o.next (HF.o x)).2.2.2.2.2.2.2.2.2.2.2.2.2.2.2.1.2;have Br:=λx=>(HY.o.next (HF.o x)).2.2.2.2.2.2.2.2.2.2.2.2.2.2.2.2.1.2;have zw:=λx=>(HY.o.next (HF.o x)).2.2.2.2.2.2.2.2.2.2.2.2.2.2.2.2.2.1.2;have Bt:=λx=>(HY.o.next (HF.o x)).2.2.2.2.2.2.2.2.2.2.2.2.2.2.2.2.2.2.1.2;have zx:=λx=>(HY.o.next (HF.o x)).2.2.2.2.2.2.2.2.2.2.2.2.2.2.2.2.2.2.2.1.2;clear c0 c1 c2 c3 c4 c5 c6 c7 c8 c9 c10 c11 c12 c13 c14 c15 c16 c17 c18;have y5:=λx=>((HF.o x).cell (p:=⟨bD,aW8+k*6+5,none⟩) hbD).trans x5;clear x5;refine gZ F (by kernel_rfl) (by kernel_rfl) hst ?_
   repeat (any_goals (first|go_big_quiet_step ((first|(go_at_call 63;refine(nJ p.ds h.nm _ _ aA HP.o.1 ((HP.o.same HY.o.1).same (HF.o _)).2.2.1).mono ?_;rintro e w' ⟨rfl,rfl⟩;rw[HFX.o];exact⟨rfl,dJ.o _ _ (Below.refl _ _)⟩)|(go_at_call 91;refine(gu p _ _ aD aA ay i bK aU bc jC nZ gI fT nY gH ar 4 4 d.on jd.o ((jy.o.same HY.o.1).same (HF.o _)) ((kW HY.o).next (HF.o _))).mono ?_;rintro e w' ⟨rfl,hb⟩;exact⟨rfl,dJ.o _ _ hb⟩)))|(refine wpQuiet_step (λK hK=> ?_);go_simp;first|(refine hK _ ?_;clear hK K)|(split <;> first|(refine hK _ ?_;clear hK K)|(apply Exists.intro;refine⟨λ_=> ?_,hK _ ?_⟩;((first|(go_at_call 63;refine(nJ p.ds h.nm _ _ aA HP.o.1 ((HP.o.same HY.o.1).same (HF.o _)).2.2.1).mono ?_;rintro e w' ⟨rfl,rfl⟩;rw[HFX.o];exact⟨rfl,dJ.o _ _ (Below.refl _ _)⟩)|(go_at_call 91;refine(gu p _ _ aD aA ay i bK aU bc jC nZ gI fT nY gH ar 4 4 d.on jd.o ((jy.o.same HY.o.1).same (HF.o _)) ((kW HY.o).next (HF.o _))).mono ?_;rintro e w' ⟨rfl,hb⟩;exact⟨rfl,dJ.o _ _ hb⟩)));clear hK K)))))
   all_goals (refine wpQuiet_nil ?_;rintro _ ⟨x,rfl⟩)
   replace HY:=ah (HY.o.next (HF.o x));clear d0 d1 d2 d3 d4 d5 d6 d7 d8 d9 qH rU zu Bq uO Br zw Bt zx y5 HF dJ hst;generalize F x=W2 at *;generalize dP ar 4 4 d.on=hel at *;obtain⟨-,⟨-,c0⟩,⟨-,c1⟩,⟨-,c2⟩,⟨-,c3⟩,⟨-,c4⟩,⟨-,c5⟩,⟨-,c6⟩,⟨-,c7⟩,⟨-,c8⟩,⟨-,c9⟩,⟨-,c10⟩,⟨-,c11⟩,⟨-,c12⟩,⟨-,c13⟩,⟨-,c14⟩,⟨-,c15⟩,⟨-,c16⟩,⟨-,c17⟩,⟨-,c18⟩,-⟩:=HY.o;cases tx <;> cases hel <;> cases Lb
   all_goals go_wp2_with fail;refine(gy _ _).mono ?_;rintro e' W' ⟨rfl,rfl⟩;go_wp2_with fail;go_ret;exact⟨aV (by first|exact HR'.o.symm|(rw[HR'.o];first|done|rfl|simp[nest])),HY.o.1⟩
 ·obtain⟨g1,g2,g3,g4,g5,g6,g7,g8,g9,g10,g11,g12,g13,g14,g15⟩:=SV hop;clear hop;obtain⟨kk,hkk⟩: ∃z:Int,oQ p.ts h.nm=z:=⟨_,rfl⟩;have HKK:=ah hkk;rw[hkk]at HR;clear hkk;cases tx <;> cases Lb <;> cases hki:(kk==i) <;> rw[hki]at HR
  all_goals
   repeat
    go_wp2_with fail
    first
    |(go_at_call 95;refine(gy _ _).mono ?_;rintro e' W' ⟨rfl,rfl⟩)
    |(go_at_call 92;refine(iO _ _ _).mono ?_;rintro e' W' ⟨rfl,rfl⟩)
    |(go_at_call 64;refine(gL p.ts h.nm _ aD ay HP.o.2.1 (HP.o.same HY.o.1).2.2.2).mono ?_;rintro e' W' ⟨rfl,rfl⟩;rw[HKK.o])
    |(first
      |(go_at_call 93;refine(gU p i h.nm _ _ _ aB aD aA ay hi (HP.o.same HY.o.1)).mono ?_)
      |(go_at_call 94;refine(iJ p i h.cu h.xn h.bZ h.aK _ aB aD s.dR aA ay s.cO hi (HP.o.same HY.o.1) nO.o.1.2.2.2.2.2.1 (nO.o.2.2.1.same HY.o.1)).mono ?_)
      |(go_at_call 91;refine(gu p _ aB aD aA ay i bK aU bc jC nZ gI fT nY gH ar _ _ h.nm jd.o (jy.o.same HY.o.1) (kW HY.o)).mono ?_)
      rintro e' W ⟨rfl,hb⟩;replace HY:=ah (HY.o.next hb);clear hb c0 c1 c2 c3 c4 c5 c6 c7 c8 c9 c10 c11 c12 c13 c14 c15 c16 c17 c18;obtain⟨-,⟨-,c0⟩,⟨-,c1⟩,⟨-,c2⟩,⟨-,c3⟩,⟨-,c4⟩,⟨-,c5⟩,⟨-,c6⟩,⟨-,c7⟩,⟨-,c8⟩,⟨-,c9⟩,⟨-,c10⟩,⟨-,c11⟩,⟨-,c12⟩,⟨-,c13⟩,⟨-,c14⟩,⟨-,c15⟩,⟨-,c16⟩,⟨-,c17⟩,⟨-,c18⟩,-⟩:=HY.o;skip)
   go_wp2_with fail;go_ret;exact⟨aV (by first|exact HR.o.symm|(rw[HR.o];first|done|rfl|simp[jG,nest])),HY.o.1⟩
 ·obtain⟨g1,g2,g3,g4,g5,g6,g7,g8,g9,g10,g11,g12,g13,g14,g15⟩:=SY hop;clear hop;go_upto_region 49 with fail;obtain⟨T,F,yX,hst,hF,hnext⟩:=calm W;have HF:=ah hF;have dJ:=ah hnext;clear hnext hF;have d0:=λx=>(HY.o.next (HF.o x)).2.1.2;have d1:=λx=>(HY.o.next (HF.o x)).2.2.1.2;have d2:=λx=>(HY.o.next (HF.o x)).2.2.2.1.2;have d3:=λx=>(HY.o.next (HF.o x)).2.2.2.2.1.2;have d4:=λx=>(HY.o.next (HF.o x)).2.2.2.2.2.1.2;have d5:=λx=>(HY.o.next (HF.o x)).2.2.2.2.2.2.1.2;have d6:=λx=>(HY.o.next (HF.o x)).2.2.2.2.2.2.2.1.2;have d7:=λx=>(HY.o.next (HF.o x)).2.2.2.2.2.2.2.2.1.2;have d8:=λx=>(HY.o.next (HF.o x)).2.2.2.2.2.2.2.2.2.1.2;have d9:=λx=>(HY.o.next (HF.o x)).2.2.2.2.2.2.2.2.2.2.1.2;have qH:=λx=>(HY.o.next (HF.o x)).2.2.2.2.2.2.2.2.2.2.2.1.2;have rU:=λx=>(HY.o.next (HF.o x)).2.2.2.2.2.2.2.2.2.2.2.2.1.2;have zu:=λx=>(HY.o.next (HF.o x)).2.2.2.2.2.2.2.2.2.2.2.2.2.1.2;have Bq:=λx=>(HY.o.next (HF.o x)).2.2.2.2.2.2.2.2.2.2.2.2.2.2.1.2;have uO:=λx=>(HY.o.next (HF.o x)).2.2.2.2.2.2.2.2.2.2.2.2.2.2.2.1.2;have Br:=λx=>(HY.o.next (HF.o x)).2.2.2.2.2.2.2.2.2.2.2.2.2.2.2.2.1.2;have zw:=λx=>(HY.o.next (HF.o x)).2.2.2.2.2.2.2.2.2.2.2.2.2.2.2.2.2.1.2;have Bt:=λx=>(HY.o.next (HF.o x)).2.2.2.2.2.2.2.2.2.2.2.2.2.2.2.2.2.2.1.2;have zx:=λx=>(HY.o.next (HF.o x)).2.2.2.2.2.2.2.2.2.2.2.2.2.2.2.2.2.2.2.1.2;clear c0 c1 c2 c3 c4 c5 c6 c7 c8 c9 c10 c11 c12 c13 c14 c15 c16 c17 c18;refine gZ F (by kernel_rfl) (by kernel_rfl) hst ?_
  repeat (any_goals (first|go_big_quiet_step ((first|(go_at_call_of 93 (Value.int .i64 8);refine(gU p i h.nm 8 8 _ aB aD aA ay hi ((HP.o.same HY.o.1).same (HF.o _))).mono ?_;rintro e w' ⟨rfl,hb⟩;exact⟨rfl,dJ.o _ _ hb⟩)|(go_at_call_of 93 (Value.int .i64 6);refine(gU p i h.arg 6 6 _ aB aD aA ay hi ((HP.o.same HY.o.1).same (HF.o _))).mono ?_;rintro e w' ⟨rfl,hb⟩;exact⟨rfl,dJ.o _ _ hb⟩)|(go_at_call 92;refine(iO _ _ _).mono ?_;rintro e w' ⟨rfl,rfl⟩;exact⟨rfl,dJ.o _ _ (Below.refl _ _)⟩)|(go_at_call 95;refine(gy _ _).mono ?_;rintro e w' ⟨rfl,rfl⟩;exact⟨rfl,dJ.o _ _ (Below.refl _ _)⟩)))|(refine wpQuiet_step (λK hK=> ?_);go_simp;first|(refine hK _ ?_;clear hK K)|(split <;> first|(refine hK _ ?_;clear hK K)|(apply Exists.intro;refine⟨λ_=> ?_,hK _ ?_⟩;((first|(go_at_call_of 93 (Value.int .i64 8);refine(gU p i h.nm 8 8 _ aB aD aA ay hi ((HP.o.same HY.o.1).same (HF.o _))).mono ?_;rintro e w' ⟨rfl,hb⟩;exact⟨rfl,dJ.o _ _ hb⟩)|(go_at_call_of 93 (Value.int .i64 6);refine(gU p i h.arg 6 6 _ aB aD aA ay hi ((HP.o.same HY.o.1).same (HF.o _))).mono ?_;rintro e w' ⟨rfl,hb⟩;exact⟨rfl,dJ.o _ _ hb⟩)|(go_at_call 92;refine(iO _ _ _).mono ?_;rintro e w' ⟨rfl,rfl⟩;exact⟨rfl,dJ.o _ _ (Below.refl _ _)⟩)|(go_at_call 95;refine(gy _ _).mono ?_;rintro e w' ⟨rfl,rfl⟩;exact⟨rfl,dJ.o _ _ (Below.refl _ _)⟩)));clear hK K)))))
  all_goals (refine wpQuiet_nil ?_;rintro _ ⟨x,rfl⟩)
  replace HY:=ah (HY.o.next (HF.o x));clear d0 d1 d2 d3 d4 d5 d6 d7 d8 d9 qH rU zu Bq uO Br zw Bt zx HF dJ hst;generalize F x=W2 at *;go_wp2_with fail;go_ret;exact⟨aV (by first|exact HR.o.symm|(rw[HR.o];first|done|rfl|simp[jG,nest])),HY.o.1⟩
end
end Go.Proofs.YtkmllehjemjgpaaGreatDoor
