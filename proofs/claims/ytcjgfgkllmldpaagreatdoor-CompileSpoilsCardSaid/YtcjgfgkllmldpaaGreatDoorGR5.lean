/- Contract of the reference walk's one: where nothing is appended. -/
import Derived.Test.YtcjgfgkllmldpaaGreatDoorGR3
set_option linter.unusedSimpArgs false
set_option linter.unusedVariables false
set_option maxHeartbeats 40000000
set_option maxRecDepth 1000000
namespace Go.Proofs.YtcjgfgkllmldpaaGreatDoor
open Go.RowKit
open Md
section
variable (p:Pr) (w:World) (aQ aR:Option Addr) (aJ aH:Nat) (i:Int) (eZ:Option Addr) (dU bc:Nat) (kL:Option Addr) (pV jg:Nat) (iL:Option Addr) (pU jf:Nat)
theorem aQ3 (h:dM) (b e ar:bf) (s:Sl) {res:Int} (hi:cO i) (hp:p.At w aQ aR) (hin:FJ w h b e s) (har:ar.len<=maxLen) (hat:ar.At w w.heap.size eZ 0) (hh:Holds w (KT bc p aQ aR aJ aH i eZ ar.len dU kL pV jg iL pU jf)) (hc:
 (h.op=1∧h.idx.len=0∧res=(kQ (gV (conv (mean p i h.nm)) 8 1) (nO p i h.dY h.xn h.dX h.bM)))∨
 (h.op=1∧∃OU n0 OP Db IG,h.idx= .cons OU n0 OP Db IG∧res=(kQ (gV (conv (mean p i h.nm)) 2 2) (kQ (nO p i OU n0 OP Db) (nO p i h.dY h.xn h.dX h.bM))))∨
 (h.op=2∧res=(nO p i h.dY h.xn h.dX h.bM))∨
 (h.op=3∧res=(nO p i h.dY h.xn h.dX h.bM))∨
 (h.op=4∧res=(kQ (gV (conv (mean p i h.nm)) 3 3) (nest (eU ar 7 7 ⟨#[]⟩||eU ar 4 4 h.nm))))∨
 (h.op=5∧res=(kQ (gV (conv (mean p i h.nm)) 4 4) (nest (eU ar 7 7 ⟨#[]⟩||eU ar 5 6 h.nm))))∨
 (h.op=6∧res=(kQ (gV (conv (mean p i h.nm)) 4 4) (nest (eU ar 7 7 ⟨#[]⟩||eU ar 5 6 h.nm))))∨
 (h.op=7∧res=(nest (eU ar 7 7 ⟨#[]⟩)))∨
 (h.op=8∧res=(nest (eU ar 7 7 ⟨#[]⟩||eU ar 8 8 ⟨#[]⟩)))∨
 (h.op=9∧res=(if gV (conv (mean p i h.nm)) 5 5 != 0 then gV (conv (mean p i h.nm)) 5 5 else nest ((eU ar 7 7 ⟨#[]⟩|| !eU ar 4 4 (BQ p.ds h.nm))||(true&&eU ar 8 8 ⟨#[]⟩))))∨
 (h.op=10∧res=(if gV (conv (mean p i h.nm)) 5 5 != 0 then gV (conv (mean p i h.nm)) 5 5 else nest ((eU ar 7 7 ⟨#[]⟩|| !eU ar 4 4 (BQ p.ds h.nm))||(false&&eU ar 8 8 ⟨#[]⟩))))∨
 (h.op=11∧res=(if gV (conv (mean p i h.nm)) 5 5 != 0 then gV (conv (mean p i h.nm)) 5 5 else nest ((eU ar 7 7 ⟨#[]⟩|| !eU ar 4 4 (BQ p.ds h.nm))||(false&&eU ar 8 8 ⟨#[]⟩))))∨
 (h.op=13∧res=(kQ (gV (conv (mean p i h.nm)) 7 7) (nest ((eU ar 7 7 ⟨#[]⟩||eU ar 8 8 ⟨#[]⟩)||qV p.ts h.nm==i))))∨
 (h.op=15∧res=(kQ (gV (conv (mean p i h.nm)) 8 8) (kQ (gV (conv (mean p i h.arg)) 6 6) (nest (eU ar 7 7 ⟨#[]⟩)))))):
 Calls Tryz.prog 82 #[.pointer (some ⟨bc,0,none⟩),iG h b e s] w λe' w'=>e'= .returned (.int .i64 res)∧Below w.heap.size w w':=by
 have LQ:=ah hc;clear hc;have HH:=ah (show Sit w w _ from⟨ak _ _,hh⟩);have kX:=ah hin;have pz:=ah hat;have lG:=ah har;have HP:=ah hp;unfold iG;clear hh hin hat har hp;go_enter Tryz.func82,Tryz.ntmps82;go_upto_region 1 with fail;generalize hW:World.alloc w _=W;generalize Value.agg #[_,_,_,_,_,_,_,_,_,_,_]=a0;have HX:aj (Sit w W (xL w.heap.size h b e s (KT bc p aQ aR aJ aH i eZ ar.len dU kL pV jg iL pU jf))):=ah aa2;clear hW HH;obtain⟨-,-,-,-,-,-,-,-,-,-,-,K0,K1,K2,-⟩:=HX.o.Aa;have HD1:Below W.heap.size W (W.drewN 1):=below_drewN (ak _ _) 1;refine cK ahe rfl ?_;generalize W.drewN 1=W1 at *;refine bW 0 11 [8,9] [[],[0],[0,1],[0,1,2],[],[4],[4,5],[4,5,6],[],[0,1,2,3,8],[0,1,2,3,4,5,6,7,8,9]] [[none,some false],[none,some false],[none,some false],[none,some false],[none,none],[none,none],[none,none],[none,none],[some false,some false],[some true,some false],[some true,some true]] (AC W1 (.cells #[.slice none 0 0,.slice none 0 0] 52) (.cells #[.slice aQ p.ds.length aJ,.slice aR p.ts.length aH] 52)) (λ_ _=>True) [15,16,17,18,19,20,21,22,5,6] rfl rfl aix ahe ahe ahe ahe ahe aix (λ_=>trivial) aix rfl ?_;simp only[gJ,kE]
 iterate 8
  apply bH.step
  case cu=>exact Abc
  try simp only[dI]
 apply bH.step
 case cu=>exact Abo
 refine bH.some (λ_ _=>True) (λ_ _ _ _ _=>trivial) ?_ ?_
 ·exact Abb
 try simp only[dI]
 apply bH.step
 case cu=>exact Abp
 try simp only[dI]
 refine bH.done ?_;intro wz dx;simp only[List.drop_zero];intro v0 h0 v1 h1 v2 h2 v3 h3 v4 h4 v5 h5 v6 h6 v7 h7 v8 h8 v9 h9 v10 h10;have h8':v8=_:=h8;have Uq:v10=_:=h10;subst h8' Uq;clear h0 h1 h2 h3 h4 h5 h6 h7 h8 h9 h10;refine eY.nil ?_;refine dH rfl ?_;have Kj:wz=W1.alloc _:=dx;generalize hn1:W1.heap.size=n1 at *;have HY:=ah ((HX.o.next HD1).yP hn1 (.slice aQ p.ds.length aJ) (.slice aR p.ts.length aH) 52);rw[<- Kj]at HY;clear dx Kj HX K0 K1 K2 HD1 hn1;go_simp
 iterate 3 obtain⟨c0,c1,c2,c3,c4,c5,c6,c7,c8,c9,c10,c11,c12,c13,c14,c15,c16,c17,c18,-⟩:=HY.o.cs;go_wp2_with fail;refine(iR p _ aQ aR aJ aH i eZ dU bc kL pV jg iL pU jf ar _ _ ⟨#[]⟩ lG.o (pz.o.same HY.o.1) (nu HY.o)).mono ?_;rintro e' W ⟨rfl,hb⟩;replace HY:=ah (HY.o.next hb);clear hb c0 c1 c2 c3 c4 c5 c6 c7 c8 c9 c10 c11 c12 c13 c14 c15 c16 c17 c18
 obtain⟨c0,c1,c2,c3,c4,c5,c6,c7,c8,c9,c10,c11,c12,c13,c14,c15,c16,c17,c18,-⟩:=HY.o.cs;generalize htx:eU ar 7 7 ⟨#[]⟩=tx at *;generalize hat':eU ar 8 8 ⟨#[]⟩=QO at *;generalize hlo:eU ar 3 3 ⟨#[]⟩=lop at *;clear htx hat' hlo;rcases LQ.o with⟨hop,hx,hr⟩|⟨hop,OU,n0,OP,Db,IG,hix,hr⟩|⟨hop,hr⟩|⟨hop,hr⟩|⟨hop,hr⟩|⟨hop,hr⟩|⟨hop,hr⟩|⟨hop,hr⟩|⟨hop,hr⟩|⟨hop,hr⟩|⟨hop,hr⟩|⟨hop,hr⟩|⟨hop,hr⟩|⟨hop,hr⟩
 all_goals have HR:=ah hr;clear hr LQ
 ·obtain⟨g1,g2,g3,g4,g5,g6,g7,g8,g9,g10,g11,g12,g13,g14,g15⟩:=op1 hop;clear hop;rw[hx]at c6;clear hx;go_upto_region 8 with fail;obtain⟨T,F,yU,hst,hF,hnext⟩:=calm W;have HF:=ah hF;have dN:=ah hnext;clear hnext hF;obtain⟨d0,d1,d2,d3,d4,d5,d6,d7,d8,d9,tN,uY,Cy,F4,yC,F5,Cz,F6,CB,-⟩:=HY.o.Ca HF.o;clear c0 c1 c2 c3 c4 c5 c6 c7 c8 c9 c10 c11 c12 c13 c14 c15 c16 c17 c18;refine gX F ahe ahe hst ?_
  repeat (any_goals (first|go_big_quiet_step ((first|(go_at_call 122;refine(jB p i h.nm 8 1 _ aQ aR aJ aH hi ((HP.o.same HY.o.1).same (HF.o _))).mono ?_;rintro e w' ⟨rfl,hb⟩;exact⟨rfl,dN.o _ _ hb⟩)|(go_at_call 123;refine(jO p i h.dY h.xn h.dX h.bM _ aQ aR s.gY aJ aH s.fD hi ((HP.o.same HY.o.1).same (HF.o _)) kX.o.1.2.2.2.2.2.1 ((kX.o.2.2.1.same HY.o.1).same (HF.o _))).mono ?_;rintro e w' ⟨rfl,hb⟩;exact⟨rfl,dN.o _ _ hb⟩)|(go_at_call 121;refine(jS _ _ _).mono ?_;rintro e w' ⟨rfl,rfl⟩;exact⟨rfl,dN.o _ _ (ak _ _)⟩)))|(refine wpQuiet_step (λK hK=> ?_);go_simp;first|(refine hK _ ?_;clear hK K)|(split <;> first|(refine hK _ ?_;clear hK K)|(apply Exists.intro;refine⟨λ_=> ?_,hK _ ?_⟩;((first|(go_at_call 122;refine(jB p i h.nm 8 1 _ aQ aR aJ aH hi ((HP.o.same HY.o.1).same (HF.o _))).mono ?_;rintro e w' ⟨rfl,hb⟩;exact⟨rfl,dN.o _ _ hb⟩)|(go_at_call 123;refine(jO p i h.dY h.xn h.dX h.bM _ aQ aR s.gY aJ aH s.fD hi ((HP.o.same HY.o.1).same (HF.o _)) kX.o.1.2.2.2.2.2.1 ((kX.o.2.2.1.same HY.o.1).same (HF.o _))).mono ?_;rintro e w' ⟨rfl,hb⟩;exact⟨rfl,dN.o _ _ hb⟩)|(go_at_call 121;refine(jS _ _ _).mono ?_;rintro e w' ⟨rfl,rfl⟩;exact⟨rfl,dN.o _ _ (ak _ _)⟩)));clear hK K)))))
  all_goals (refine wpQuiet_nil ?_;rintro _ ⟨x,rfl⟩)
  replace HY:=ah (HY.o.next (HF.o x));clear d0 d1 d2 d3 d4 d5 d6 d7 d8 d9 tN uY Cy F4 yC F5 Cz F6 CB HF dN hst;exact Abq
 ·obtain⟨⟨b0,Zz,J5,cap0,hao,jT,x0,x1,x2,x3,hok0,hk0⟩,-⟩:=(hix ▸ kX.o.2.1:(bV.cons OU n0 OP Db IG).At w w.heap.size s.gu 0);have HO0:=ah (ay hok0 hk0);have QF:=ah (ay jT (ay x0 (ay x1 (ay x2 x3))));have zL:=ah hao;have EM:=ah hix;clear hok0 hk0 jT x0 x1 x2 x3 hao hix;obtain⟨g1,g2,g3,g4,g5,g6,g7,g8,g9,g10,g11,g12,g13,g14,g15⟩:=op1 hop;clear hop;rw[EM.o,zL.o]at c6;simp only[bV.len]at c6;go_upto_region 9 with fail;obtain⟨T,F,yU,hst,hF,hnext⟩:=calm W;have HF:=ah hF;have dN:=ah hnext;clear hnext hF;obtain⟨d0,d1,d2,d3,d4,d5,d6,d7,d8,d9,tN,uY,Cy,F4,yC,F5,Cz,F6,CB,-⟩:=HY.o.Ca HF.o;clear c0 c1 c2 c3 c4 c5 c6 c7 c8 c9 c10 c11 c12 c13 c14 c15 c16 c17 c18;have y0:=λx=>(((HY.o.1.trans ((HF.o x).mono HY.o.1.size)).cell (p:=⟨b0,Zz+0*4,none⟩) QF.o.1)).trans QF.o.2.1;have y1:=λx=>(((HY.o.1.trans ((HF.o x).mono HY.o.1.size)).cell (p:=⟨b0,Zz+0*4+1,none⟩) QF.o.1)).trans QF.o.2.2.1;have y2:=λx=>(((HY.o.1.trans ((HF.o x).mono HY.o.1.size)).cell (p:=⟨b0,Zz+0*4+2,none⟩) QF.o.1)).trans QF.o.2.2.2.1;have y3:=λx=>(((HY.o.1.trans ((HF.o x).mono HY.o.1.size)).cell (p:=⟨b0,Zz+0*4+3,none⟩) QF.o.1)).trans QF.o.2.2.2.2;simp only[Nat.zero_mul,Nat.add_zero]at y0 y1 y2 y3;simp only[EM.o,zL.o,bV.len]at d6;have hz0:(0:Int)<(IG.len:Int)+1:=by omega
  have hz1:(0:Int)<((IG.len+1:Nat):Int):=ahf
  refine gX F ahe ahe hst ?_
  repeat (any_goals (first|go_big_quiet_step ((first|(go_at_call 122;refine(jB p i h.nm 2 2 _ aQ aR aJ aH hi ((HP.o.same HY.o.1).same (HF.o _))).mono ?_;rintro e w' ⟨rfl,hb⟩;exact⟨rfl,dN.o _ _ hb⟩)|(go_at_call_of 123 (Value.agg #[.int .i64 OU,.int .i64 n0,.string OP,.slice J5 Db.len cap0]);refine(jO p i OU n0 OP Db _ aQ aR J5 aJ aH cap0 hi ((HP.o.same HY.o.1).same (HF.o _)) HO0.o.1 ((HO0.o.2.same HY.o.1).same (HF.o _))).mono ?_;rintro e w' ⟨rfl,hb⟩;exact⟨rfl,dN.o _ _ hb⟩)|(go_at_call_of 123 (Value.agg #[.int .i64 h.dY,.int .i64 h.xn,.string h.dX,.slice s.gY h.bM.len s.fD]);refine(jO p i h.dY h.xn h.dX h.bM _ aQ aR s.gY aJ aH s.fD hi ((HP.o.same HY.o.1).same (HF.o _)) kX.o.1.2.2.2.2.2.1 ((kX.o.2.2.1.same HY.o.1).same (HF.o _))).mono ?_;rintro e w' ⟨rfl,hb⟩;exact⟨rfl,dN.o _ _ hb⟩)|(go_at_call 121;refine(jS _ _ _).mono ?_;rintro e w' ⟨rfl,rfl⟩;exact⟨rfl,dN.o _ _ (ak _ _)⟩)))|(refine wpQuiet_step (λK hK=> ?_);go_simp;first|(refine hK _ ?_;clear hK K)|(split <;> first|(refine hK _ ?_;clear hK K)|(apply Exists.intro;refine⟨λ_=> ?_,hK _ ?_⟩;((first|(go_at_call 122;refine(jB p i h.nm 2 2 _ aQ aR aJ aH hi ((HP.o.same HY.o.1).same (HF.o _))).mono ?_;rintro e w' ⟨rfl,hb⟩;exact⟨rfl,dN.o _ _ hb⟩)|(go_at_call_of 123 (Value.agg #[.int .i64 OU,.int .i64 n0,.string OP,.slice J5 Db.len cap0]);refine(jO p i OU n0 OP Db _ aQ aR J5 aJ aH cap0 hi ((HP.o.same HY.o.1).same (HF.o _)) HO0.o.1 ((HO0.o.2.same HY.o.1).same (HF.o _))).mono ?_;rintro e w' ⟨rfl,hb⟩;exact⟨rfl,dN.o _ _ hb⟩)|(go_at_call_of 123 (Value.agg #[.int .i64 h.dY,.int .i64 h.xn,.string h.dX,.slice s.gY h.bM.len s.fD]);refine(jO p i h.dY h.xn h.dX h.bM _ aQ aR s.gY aJ aH s.fD hi ((HP.o.same HY.o.1).same (HF.o _)) kX.o.1.2.2.2.2.2.1 ((kX.o.2.2.1.same HY.o.1).same (HF.o _))).mono ?_;rintro e w' ⟨rfl,hb⟩;exact⟨rfl,dN.o _ _ hb⟩)|(go_at_call 121;refine(jS _ _ _).mono ?_;rintro e w' ⟨rfl,rfl⟩;exact⟨rfl,dN.o _ _ (ak _ _)⟩)));clear hK K)))))
  all_goals (refine wpQuiet_nil ?_;rintro _ ⟨x,rfl⟩)
  replace HY:=ah (HY.o.next (HF.o x));clear d0 d1 d2 d3 d4 d5 d6 d7 d8 d9 tN uY Cy F4 yC F5 Cz F6 CB y0 y1 y2 y3 HF dN hst;exact Abq
 ·obtain⟨g1,g2,g3,g4,g5,g6,g7,g8,g9,g10,g11,g12,g13,g14,g15⟩:=op2 hop;exact Aak
 ·obtain⟨g1,g2,g3,g4,g5,g6,g7,g8,g9,g10,g11,g12,g13,g14,g15⟩:=op3 hop;exact Aak
 ·obtain⟨g1,g2,g3,g4,g5,g6,g7,g8,g9,g10,g11,g12,g13,g14,g15⟩:=op4 hop;exact Aaj
 ·obtain⟨g1,g2,g3,g4,g5,g6,g7,g8,g9,g10,g11,g12,g13,g14,g15⟩:=op5 hop;exact Aaj
 ·obtain⟨g1,g2,g3,g4,g5,g6,g7,g8,g9,g10,g11,g12,g13,g14,g15⟩:=op6 hop;exact Aaj
 ·obtain⟨g1,g2,g3,g4,g5,g6,g7,g8,g9,g10,g11,g12,g13,g14,g15⟩:=op7 hop;exact Aak
 ·obtain⟨g1,g2,g3,g4,g5,g6,g7,g8,g9,g10,g11,g12,g13,g14,g15⟩:=op8 hop;exact Aaj
 iterate 3
  ·first|(obtain⟨g1,g2,g3,g4,g5,g6,g7,g8,g9,g10,g11,g12,g13,g14,g15⟩:=op9 hop;clear hop)|(obtain⟨g1,g2,g3,g4,g5,g6,g7,g8,g9,g10,g11,g12,g13,g14,g15⟩:=bj0 hop;clear hop)|(obtain⟨g1,g2,g3,g4,g5,g6,g7,g8,g9,g10,g11,g12,g13,g14,g15⟩:=bj1 hop;clear hop)
   go_wp2_with fail;refine(jB p i h.nm 5 5 _ aQ aR aJ aH hi (HP.o.same HY.o.1)).mono ?_;rintro e' W ⟨rfl,hb⟩;replace HY:=ah (HY.o.next hb);clear hb c0 c1 c2 c3 c4 c5 c6 c7 c8 c9 c10 c11 c12 c13 c14 c15 c16 c17 c18;obtain⟨c0,c1,c2,c3,c4,c5,c6,c7,c8,c9,c10,c11,c12,c13,c14,c15,c16,c17,c18,-⟩:=HY.o.cs;have HDF:=ah (Ob (p:=p) (i:=i) (nm:=h.nm));generalize gV (conv (mean p i h.nm)) 5 5=q at *;cases hq:(q != 0)
   case true=>have HR':aj (res=q):=ah (HR.o.trans (if_pos hq));clear HDF HR;go_wp2_with fail;go_ret;exact⟨dh HR'.o.symm,HY.o.1⟩
   obtain⟨k,d,r,hk,hfx,hdr,-,-,hmu⟩:=HDF.o (by simpa using hq);have HR':aj (res=nest ((tx|| !eU ar 4 4 d.on)||(_&&QO))):=ah (HR.o.trans ((if_neg (by rw[hq];decide)).trans (by rw[hmu])));have sj:aj (Bc p.ds h.nm=(k:Int)):=ah hfx;have hrow:=(HP.o.same HY.o.1).2.2.1.drop k;rw[hdr,aU]at hrow;obtain⟨⟨bD,bK5,rfl,hbD,-,-,-,-,-,x5,-⟩,-⟩:=hrow;have hk0:(0:Int)<=(k:Int):=ahf
   have hk1:(k:Int)<(p.ds.length:Int):=ahf
   clear HR HDF hfx hmu hdr;go_upto_region 28 with fail;obtain⟨T,F,yU,hst,hF,hnext⟩:=calm W;have HF:=ah hF;have dN:=ah hnext;clear hnext hF;obtain⟨d0,d1,d2,d3,d4,d5,d6,d7,d8,d9,tN,uY,Cy,F4,yC,F5,Cz,F6,CB,-⟩:=HY.o.Ca HF.o;clear c0 c1 c2 c3 c4 c5 c6 c7 c8 c9 c10 c11 c12 c13 c14 c15 c16 c17 c18;have y5:=λx=>((HF.o x).cell (p:=⟨bD,bK5+k*6+5,none⟩) hbD).trans x5;clear x5;refine gX F ahe ahe hst ?_
   repeat (any_goals (first|go_big_quiet_step ((first|(go_at_call 80;refine(pJ p.ds h.nm _ _ aJ HP.o.1 ((HP.o.same HY.o.1).same (HF.o _)).2.2.1).mono ?_;rintro e w' ⟨rfl,rfl⟩;rw[sj.o];exact⟨rfl,dN.o _ _ (ak _ _)⟩)|(go_at_call 120;refine(iR p _ _ aR aJ aH i eZ dU bc kL pV jg iL pU jf ar 4 4 d.on lG.o ((pz.o.same HY.o.1).same (HF.o _)) ((nu HY.o).next (HF.o _))).mono ?_;rintro e w' ⟨rfl,hb⟩;exact⟨rfl,dN.o _ _ hb⟩)))|(refine wpQuiet_step (λK hK=> ?_);go_simp;first|(refine hK _ ?_;clear hK K)|(split <;> first|(refine hK _ ?_;clear hK K)|(apply Exists.intro;refine⟨λ_=> ?_,hK _ ?_⟩;((first|(go_at_call 80;refine(pJ p.ds h.nm _ _ aJ HP.o.1 ((HP.o.same HY.o.1).same (HF.o _)).2.2.1).mono ?_;rintro e w' ⟨rfl,rfl⟩;rw[sj.o];exact⟨rfl,dN.o _ _ (ak _ _)⟩)|(go_at_call 120;refine(iR p _ _ aR aJ aH i eZ dU bc kL pV jg iL pU jf ar 4 4 d.on lG.o ((pz.o.same HY.o.1).same (HF.o _)) ((nu HY.o).next (HF.o _))).mono ?_;rintro e w' ⟨rfl,hb⟩;exact⟨rfl,dN.o _ _ hb⟩)));clear hK K)))))
   all_goals (refine wpQuiet_nil ?_;rintro _ ⟨x,rfl⟩)
   replace HY:=ah (HY.o.next (HF.o x));clear d0 d1 d2 d3 d4 d5 d6 d7 d8 d9 tN uY Cy F4 yC F5 Cz F6 CB y5 HF dN hst;generalize F x=W2 at *;generalize eU ar 4 4 d.on=hel at *;obtain⟨c0,c1,c2,c3,c4,c5,c6,c7,c8,c9,c10,c11,c12,c13,c14,c15,c16,c17,c18,-⟩:=HY.o.cs;cases tx <;> cases hel <;> cases QO
   all_goals go_wp2_with fail;refine(iW _ _).mono ?_;rintro e' W' ⟨rfl,rfl⟩;go_wp2_with fail;go_ret;exact⟨dh (by first|exact HR'.o.symm|(rw[HR'.o];first|done|rfl|simp[nest])),HY.o.1⟩
 ·obtain⟨g1,g2,g3,g4,g5,g6,g7,g8,g9,g10,g11,g12,g13,g14,g15⟩:=bj3 hop;clear hop;obtain⟨kk,hkk⟩: ∃z:Int,qV p.ts h.nm=z:=⟨_,rfl⟩;have HKK:=ah hkk;rw[hkk]at HR;clear hkk;cases tx <;> cases QO <;> cases hki:(kk==i) <;> rw[hki]at HR
  all_goals
   repeat
    go_wp2_with fail
    first
    |(go_at_call 124;refine(iW _ _).mono ?_;rintro e' W' ⟨rfl,rfl⟩)
    |(go_at_call 121;refine(jS _ _ _).mono ?_;rintro e' W' ⟨rfl,rfl⟩)
    |(go_at_call 81;refine(jo p.ts h.nm _ aR aH HP.o.2.1 (HP.o.same HY.o.1).2.2.2).mono ?_;rintro e' W' ⟨rfl,rfl⟩;rw[HKK.o])
    |(first
      |(go_at_call 122;refine(jB p i h.nm _ _ _ aQ aR aJ aH hi (HP.o.same HY.o.1)).mono ?_)
      |(go_at_call 123;refine(jO p i h.dY h.xn h.dX h.bM _ aQ aR s.gY aJ aH s.fD hi (HP.o.same HY.o.1) kX.o.1.2.2.2.2.2.1 (kX.o.2.2.1.same HY.o.1)).mono ?_)
      |(go_at_call 120;refine(iR p _ aQ aR aJ aH i eZ dU bc kL pV jg iL pU jf ar _ _ h.nm lG.o (pz.o.same HY.o.1) (nu HY.o)).mono ?_)
      rintro e' W ⟨rfl,hb⟩;replace HY:=ah (HY.o.next hb);clear hb c0 c1 c2 c3 c4 c5 c6 c7 c8 c9 c10 c11 c12 c13 c14 c15 c16 c17 c18;obtain⟨c0,c1,c2,c3,c4,c5,c6,c7,c8,c9,c10,c11,c12,c13,c14,c15,c16,c17,c18,-⟩:=HY.o.cs;skip)
   go_wp2_with fail;go_ret;exact⟨dh aar,HY.o.1⟩
 ·obtain⟨g1,g2,g3,g4,g5,g6,g7,g8,g9,g10,g11,g12,g13,g14,g15⟩:=bj5 hop;clear hop;go_upto_region 49 with fail;obtain⟨T,F,yU,hst,hF,hnext⟩:=calm W;have HF:=ah hF;have dN:=ah hnext;clear hnext hF;obtain⟨d0,d1,d2,d3,d4,d5,d6,d7,d8,d9,tN,uY,Cy,F4,yC,F5,Cz,F6,CB,-⟩:=HY.o.Ca HF.o;clear c0 c1 c2 c3 c4 c5 c6 c7 c8 c9 c10 c11 c12 c13 c14 c15 c16 c17 c18;refine gX F ahe ahe hst ?_
  repeat (any_goals (first|go_big_quiet_step ((first|(go_at_call_of 122 (Value.int .i64 8);refine(jB p i h.nm 8 8 _ aQ aR aJ aH hi ((HP.o.same HY.o.1).same (HF.o _))).mono ?_;rintro e w' ⟨rfl,hb⟩;exact⟨rfl,dN.o _ _ hb⟩)|(go_at_call_of 122 (Value.int .i64 6);refine(jB p i h.arg 6 6 _ aQ aR aJ aH hi ((HP.o.same HY.o.1).same (HF.o _))).mono ?_;rintro e w' ⟨rfl,hb⟩;exact⟨rfl,dN.o _ _ hb⟩)|(go_at_call 121;refine(jS _ _ _).mono ?_;rintro e w' ⟨rfl,rfl⟩;exact⟨rfl,dN.o _ _ (ak _ _)⟩)|(go_at_call 124;refine(iW _ _).mono ?_;rintro e w' ⟨rfl,rfl⟩;exact⟨rfl,dN.o _ _ (ak _ _)⟩)))|(refine wpQuiet_step (λK hK=> ?_);go_simp;first|(refine hK _ ?_;clear hK K)|(split <;> first|(refine hK _ ?_;clear hK K)|(apply Exists.intro;refine⟨λ_=> ?_,hK _ ?_⟩;((first|(go_at_call_of 122 (Value.int .i64 8);refine(jB p i h.nm 8 8 _ aQ aR aJ aH hi ((HP.o.same HY.o.1).same (HF.o _))).mono ?_;rintro e w' ⟨rfl,hb⟩;exact⟨rfl,dN.o _ _ hb⟩)|(go_at_call_of 122 (Value.int .i64 6);refine(jB p i h.arg 6 6 _ aQ aR aJ aH hi ((HP.o.same HY.o.1).same (HF.o _))).mono ?_;rintro e w' ⟨rfl,hb⟩;exact⟨rfl,dN.o _ _ hb⟩)|(go_at_call 121;refine(jS _ _ _).mono ?_;rintro e w' ⟨rfl,rfl⟩;exact⟨rfl,dN.o _ _ (ak _ _)⟩)|(go_at_call 124;refine(iW _ _).mono ?_;rintro e w' ⟨rfl,rfl⟩;exact⟨rfl,dN.o _ _ (ak _ _)⟩)));clear hK K)))))
  all_goals (refine wpQuiet_nil ?_;rintro _ ⟨x,rfl⟩)
  replace HY:=ah (HY.o.next (HF.o x));clear d0 d1 d2 d3 d4 d5 d6 d7 d8 d9 tN uY Cy F4 yC F5 Cz F6 CB HF dN hst;exact Abq
end
end Go.Proofs.YtcjgfgkllmldpaaGreatDoor
