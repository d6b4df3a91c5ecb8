/- Contract of the checker's statement: where nothing is noted. And what hangs on it. -/
import Derived.Test.YtdoplekppjkkpaaGreatDoorGME
set_option linter.unusedSimpArgs false
set_option linter.unusedVariables false
set_option maxHeartbeats 40000000
set_option maxRecDepth 1000000
namespace Go.Proofs.YtdoplekppjkkpaaGreatDoor
open Go.RowKit
open Md
section
variable (p:Pr) (w:World) (aK aM:Option Addr) (aH aG:Nat) (i:Int) (cO:Option Addr) (bR bs bt bc:Nat)
theorem qY (h:dF) (b e ar:aZ) (s:Sl) (hi:bY i) (hp:p.At w aK aM) (hin:Eh w h b e s) (eG:dW w) (har:ar.len<=maxLen) (hat:ar.At w w.heap.size cO 0) (hh:Holds w (vC bc p aK aM aH aG i cO ar.len bR bs bt)) {res:Int} (hc:
 ((h.op<1∨15<h.op)∧0=res)∨
 (h.op=1∧Ho p i h=res)∨
 ((h.op=2∨h.op=3)∧lU p i h.dP h.xn h.dO h.bJ=res)∨
 (h.op=4∧gF [dQ (mean p i h.nm) [4],nest (fG ar [7]||rA ar h.nm [4])]=res)∨
 ((h.op=5∨h.op=6)∧gF [dQ (mean p i h.nm) [5],nest (fG ar [7]||rA ar h.nm [5,6])]=res)∨
 (h.op=7∧nest (fG ar [7])=res)∨
 (h.op=8∧nest (fG ar [7,8])=res)∨
 ((h.op=9∨h.op=10∨h.op=11)∧gF [dQ (mean p i h.nm) [6],nest ((fG ar [7]|| !rA ar (pE p.ds h.nm) [4])||(h.op==9&&fG ar [8]))]=res)∨
 (h.op=15∧gF [dQ (mean p i h.nm) [1],dQ (mean p i h.arg) [7],nest (fG ar [7])]=res)∨
 (h.op=13∧∃(j:Nat) (t:Th) (r:List Th),i=(j:Int)∧p.ts.drop j=t::r∧gF [dQ (mean p i h.nm) [8],nest (fG ar [7,8]||h.nm.toList==t.nm.toList)]=res)):
 Calls Tryz.prog 113 #[.pointer (some ⟨bc,0,none⟩),iE h b e s] w λe' w'=>e'= .returned (.int .i64 res)∧Below w.heap.size w w':=by
 have HH:=ah (show Sit w w _ from⟨au _ _,hh⟩);obtain⟨gU,gy,fT,eB,dB,cu,iD,gu⟩:=s;have hxk:=hin.1.2.2.2.2.2.1;have hns:=hin.1.2.2.1;have oU:=ah hin;have Po:=ah hc;clear hc;unfold iE;dsimp only;go_enter Tryz.func113,Tryz.ntmps113;go_upto_region 1 with fail;generalize hW:World.alloc w _=W;generalize Value.agg #[_,_,_,_,_,_,_,_,_,_,_]=a0;have HX:aj (Sit w W (rM w.heap.size h b e ⟨gU,gy,fT,eB,dB,cu,iD,gu⟩ (vC bc p aK aM aH aG i cO ar.len bR bs bt))):=ah aaK;clear hW HH;have HP:=ah (hp.same HX.o.1);have jX:=ah (eG.same HX.o.1);have Pj:=ah (hin.2.2.1.same HX.o.1);have lq:=ah (hat.same HX.o.1);have jZ:=ah har;have HK:aj (∀w',Below W.heap.size W w'->Holds w' (vC bc p aK aM aH aG i cO ar.len bR bs bt)):=ah (λw' hb=>(HX.o.next hb).2.2.2.2.2.2.2.2.2.2.2.2);clear hp eG hh hin hat har;have L0: ∀w',Below W.heap.size W w'->w'.cell? ⟨w.heap.size,0,none⟩=some (.int .i64 h.op):=λw' hb=>(HX.o.next hb).2.1.2;have L2: ∀w',Below W.heap.size W w'->w'.cell? ⟨w.heap.size,2,none⟩=some (.string h.nm):=λw' hb=>(HX.o.next hb).2.2.2.1.2;have L3: ∀w',Below W.heap.size W w'->w'.cell? ⟨w.heap.size,3,none⟩=some (.string h.arg):=λw' hb=>(HX.o.next hb).2.2.2.2.1.2;have L5: ∀w',Below W.heap.size W w'->w'.cell? ⟨w.heap.size,5,none⟩=some (.int .i64 h.dP):=λw' hb=>(HX.o.next hb).2.2.2.2.2.2.1.2;have L6: ∀w',Below W.heap.size W w'->w'.cell? ⟨w.heap.size,6,none⟩=some (.int .i64 h.xn):=λw' hb=>(HX.o.next hb).2.2.2.2.2.2.2.1.2;have L7: ∀w',Below W.heap.size W w'->w'.cell? ⟨w.heap.size,7,none⟩=some (.string h.dO):=λw' hb=>(HX.o.next hb).2.2.2.2.2.2.2.2.1.2;have L8: ∀w',Below W.heap.size W w'->w'.cell? ⟨w.heap.size,8,none⟩=some (.slice fT h.bJ.len eB):=λw' hb=>(HX.o.next hb).2.2.2.2.2.2.2.2.2.1.2;have hB:Below W.heap.size W W:=au _ _;have l0:=L0 W hB;rcases Po.o with⟨hop,hr⟩|⟨hop,hr⟩|⟨hop,hr⟩|⟨hop,hr⟩|⟨hop,hr⟩|⟨hop,hr⟩|⟨hop,hr⟩|⟨hop,hr⟩|⟨hop,hr⟩|⟨hop,j,t,r,rfl,hd,hr⟩
 all_goals have HR:=ah hr;clear hr Po
 ·have gg: ∀k:Int,1<=k->k<=15->(h.op==k)=false:=λk h1 h2=>by rw[beq_eq_false_iff_ne];omega
  have g1:=gg 1 agI agI;have g2:=gg 2 agI agI;have g3:=gg 3 agI agI;have g4:=gg 4 agI agI;have g5:=gg 5 agI agI;have g6:=gg 6 agI agI;have g7:=gg 7 agI agI;have g8:=gg 8 agI agI;have g9:=gg 9 agI agI;have g10:=gg 10 agI agI;have g11:=gg 11 agI agI;have g12:=gg 12 agI agI;have g13:=gg 13 agI agI;have g14:=gg 14 agI agI;have g15:=gg 15 agI agI;clear hop gg;go_wp2_with fail;go_ret;exact⟨bV HR.o,HX.o.1⟩
 ·obtain⟨g1,g2,g3,g4,g5,g6,g7,g8,g9,g10,g11,g12,g13,g14,g15⟩:=op1 hop;clear hop;have lA:=(HX.o.2).2.1.2;have lB:=(HX.o.2).2.2.2.2.1.2;have lC:=(HX.o.2).2.2.2.2.2.2.2.2.2.1.2;have lD:=(HX.o.2).2.2.2.2.2.2.2.2.2.2.1.2;have l2:=L2 W hB;have l3:=L3 W hB;go_wp2_with fail;refine(Qy p _ aK aM aH aG i cO ar.len bR bs bt bc h b e ⟨gU,gy,fT,eB,dB,cu,iD,gu⟩ hi (HP.o.same hB) (oU.o.same HX.o.1) (jX.o.same hB) (HK.o _ hB)).mono ?_;rintro e' w1 ⟨rfl,hb⟩;replace hB:=hB.trans (hb.mono hB.size);clear hb;go_wp2_with fail;go_ret;exact⟨bV aah,aak⟩
 ·rcases hop with hop|hop
  all_goals
   first|obtain⟨g1,g2,g3,g4,g5,g6,g7,g8,g9,g10,g11,g12,g13,g14,g15⟩:=op2 hop|obtain⟨g1,g2,g3,g4,g5,g6,g7,g8,g9,g10,g11,g12,g13,g14,g15⟩:=op3 hop
   clear hop;go_wp2_with fail;refine(zl p _ aK aM aH aG i cO ar.len bR bs bt bc h.dP h.xn h.dO h.bJ fT eB hi (HP.o.same hB) hxk (Pj.o.same hB) (jX.o.same hB) (HK.o _ hB)).mono ?_;rintro e' w1 ⟨rfl,hb⟩;replace hB:=hB.trans (hb.mono hB.size);clear hb;go_wp2_with fail;go_ret;exact⟨bV aah,aak⟩
 ·obtain⟨g1,g2,g3,g4,g5,g6,g7,g8,g9,g10,g11,g12,g13,g14,g15⟩:=op4 hop;clear hop;cases hq:fG ar [7] <;> cases hq2:rA ar h.nm [4]
  all_goals
   repeat
    go_wp2_with fail
    first
    |(go_at_call 140;refine(nk _ _).mono ?_;rintro e' wn ⟨rfl,rfl⟩)
    |(go_at_call 138;refine(kT [_,_] _ _ 2 agU (mO _ _ _ _)).mono ?_;rintro e' wf ⟨rfl,rfl⟩)
    |(go_at_call 143;refine(uh p _ aK aM aH aG i cO ar.len bR bs bt bc h.nm (HP.o.same hB) (HK.o _ hB)).mono ?_;rintro e' w1 ⟨rfl,hb⟩;replace hB:=hB.trans (hb.mono hB.size);clear hb)
    |(first
      |(go_at_call 139;refine(kY p _ aK aM aH aG i cO ar.len bR bs bt bc h.nm [_] _ 1 hi agI (HP.o.same (hB.alloc hB.size _)) (jy _ _ _) (HK.o _ (hB.alloc hB.size _))).mono ?_)
      |(go_at_call 141;refine(mG p _ aK aM aH aG i cO bR bs bt bc ar [_] _ 1 agI (jy _ _ _) jZ.o (lq.o.same (hB.alloc hB.size _)) (HK.o _ (hB.alloc hB.size _))).mono ?_)
      |(go_at_call 142;refine(oZ p _ aK aM aH aG i cO bR bs bt bc ar _ [_] _ 1 agI (jy _ _ _) jZ.o (lq.o.same (hB.alloc hB.size _)) (HK.o _ (hB.alloc hB.size _))).mono ?_)
      rintro e' w1 ⟨rfl,hb⟩;replace hB:=(hB.alloc hB.size _).trans (hb.mono (hB.alloc hB.size _).size);clear hb)
   go_wp2_with fail;go_ret;exact⟨bV aah,aak⟩
 ·rcases hop with hop|hop
  all_goals
   first|obtain⟨g1,g2,g3,g4,g5,g6,g7,g8,g9,g10,g11,g12,g13,g14,g15⟩:=op5 hop|obtain⟨g1,g2,g3,g4,g5,g6,g7,g8,g9,g10,g11,g12,g13,g14,g15⟩:=op6 hop
   clear hop;cases hq:fG ar [7] <;> cases hq2:rA ar h.nm [5,6]
  all_goals
   repeat
    go_wp2_with fail
    first
    |(go_at_call 140;refine(nk _ _).mono ?_;rintro e' wn ⟨rfl,rfl⟩)
    |(go_at_call 138;refine(kT [_,_] _ _ 2 agU (mO _ _ _ _)).mono ?_;rintro e' wf ⟨rfl,rfl⟩)
    |(go_at_call 143;refine(uh p _ aK aM aH aG i cO ar.len bR bs bt bc h.nm (HP.o.same hB) (HK.o _ hB)).mono ?_;rintro e' w1 ⟨rfl,hb⟩;replace hB:=hB.trans (hb.mono hB.size);clear hb)
    |(first
      |(go_at_call 139;refine(kY p _ aK aM aH aG i cO ar.len bR bs bt bc h.nm [_] _ 1 hi agI (HP.o.same (hB.alloc hB.size _)) (jy _ _ _) (HK.o _ (hB.alloc hB.size _))).mono ?_)
      |(go_at_call 141;refine(mG p _ aK aM aH aG i cO bR bs bt bc ar [_] _ 1 agI (jy _ _ _) jZ.o (lq.o.same (hB.alloc hB.size _)) (HK.o _ (hB.alloc hB.size _))).mono ?_)
      |(go_at_call 142;refine(oZ p _ aK aM aH aG i cO bR bs bt bc ar _ [_,_] _ 2 agI (mO _ _ _ _) jZ.o (lq.o.same (hB.alloc hB.size _)) (HK.o _ (hB.alloc hB.size _))).mono ?_)
      rintro e' w1 ⟨rfl,hb⟩;replace hB:=(hB.alloc hB.size _).trans (hb.mono (hB.alloc hB.size _).size);clear hb)
   go_wp2_with fail;go_ret;exact⟨bV aah,aak⟩
 ·obtain⟨g1,g2,g3,g4,g5,g6,g7,g8,g9,g10,g11,g12,g13,g14,g15⟩:=op7 hop;clear hop
  repeat
   go_wp2_with fail
   first
   |(go_at_call 140;refine(nk _ _).mono ?_;rintro e' wn ⟨rfl,rfl⟩)
   |(go_at_call 138;refine(kT [_,_] _ _ 2 agU (mO _ _ _ _)).mono ?_;rintro e' wf ⟨rfl,rfl⟩)
   |(go_at_call 143;refine(uh p _ aK aM aH aG i cO ar.len bR bs bt bc h.nm (HP.o.same hB) (HK.o _ hB)).mono ?_;rintro e' w1 ⟨rfl,hb⟩;replace hB:=hB.trans (hb.mono hB.size);clear hb)
   |(first
     |(go_at_call 139;refine(kY p _ aK aM aH aG i cO ar.len bR bs bt bc h.nm [_] _ 1 hi agI (HP.o.same (hB.alloc hB.size _)) (jy _ _ _) (HK.o _ (hB.alloc hB.size _))).mono ?_)
     |(go_at_call 141;refine(mG p _ aK aM aH aG i cO bR bs bt bc ar [_] _ 1 agI (jy _ _ _) jZ.o (lq.o.same (hB.alloc hB.size _)) (HK.o _ (hB.alloc hB.size _))).mono ?_)
     |(go_at_call 142;refine(oZ p _ aK aM aH aG i cO bR bs bt bc ar _ [_] _ 1 agI (jy _ _ _) jZ.o (lq.o.same (hB.alloc hB.size _)) (HK.o _ (hB.alloc hB.size _))).mono ?_)
     rintro e' w1 ⟨rfl,hb⟩;replace hB:=(hB.alloc hB.size _).trans (hb.mono (hB.alloc hB.size _).size);clear hb)
  go_wp2_with fail;go_ret;exact⟨bV aah,aak⟩
 ·obtain⟨g1,g2,g3,g4,g5,g6,g7,g8,g9,g10,g11,g12,g13,g14,g15⟩:=op8 hop;clear hop
  repeat
   go_wp2_with fail
   first
   |(go_at_call 140;refine(nk _ _).mono ?_;rintro e' wn ⟨rfl,rfl⟩)
   |(go_at_call 138;refine(kT [_,_] _ _ 2 agU (mO _ _ _ _)).mono ?_;rintro e' wf ⟨rfl,rfl⟩)
   |(go_at_call 143;refine(uh p _ aK aM aH aG i cO ar.len bR bs bt bc h.nm (HP.o.same hB) (HK.o _ hB)).mono ?_;rintro e' w1 ⟨rfl,hb⟩;replace hB:=hB.trans (hb.mono hB.size);clear hb)
   |(first
     |(go_at_call 139;refine(kY p _ aK aM aH aG i cO ar.len bR bs bt bc h.nm [_] _ 1 hi agI (HP.o.same (hB.alloc hB.size _)) (jy _ _ _) (HK.o _ (hB.alloc hB.size _))).mono ?_)
     |(go_at_call 141;refine(mG p _ aK aM aH aG i cO bR bs bt bc ar [_,_] _ 2 agI (mO _ _ _ _) jZ.o (lq.o.same (hB.alloc hB.size _)) (HK.o _ (hB.alloc hB.size _))).mono ?_)
     |(go_at_call 142;refine(oZ p _ aK aM aH aG i cO bR bs bt bc ar _ [_] _ 1 agI (jy _ _ _) jZ.o (lq.o.same (hB.alloc hB.size _)) (HK.o _ (hB.alloc hB.size _))).mono ?_)
     rintro e' w1 ⟨rfl,hb⟩;replace hB:=(hB.alloc hB.size _).trans (hb.mono (hB.alloc hB.size _).size);clear hb)
  go_wp2_with fail;go_ret;exact⟨bV aah,aak⟩
 ·rcases hop with hop|hop|hop
  all_goals
   first|obtain⟨g1,g2,g3,g4,g5,g6,g7,g8,g9,g10,g11,g12,g13,g14,g15⟩:=op9 hop|obtain⟨g1,g2,g3,g4,g5,g6,g7,g8,g9,g10,g11,g12,g13,g14,g15⟩:=af8 hop|obtain⟨g1,g2,g3,g4,g5,g6,g7,g8,g9,g10,g11,g12,g13,g14,g15⟩:=af9 hop
   clear hop;cases hq:fG ar [7] <;> cases hq2:rA ar (pE p.ds h.nm) [4] <;> cases hq3:fG ar [8]
  all_goals
   repeat
    go_wp2_with fail
    first
    |(go_at_call 140;refine(nk _ _).mono ?_;rintro e' wn ⟨rfl,rfl⟩)
    |(go_at_call 138;refine(kT [_,_] _ _ 2 agU (mO _ _ _ _)).mono ?_;rintro e' wf ⟨rfl,rfl⟩)
    |(go_at_call 143;refine(uh p _ aK aM aH aG i cO ar.len bR bs bt bc h.nm (HP.o.same hB) (HK.o _ hB)).mono ?_;rintro e' w1 ⟨rfl,hb⟩;replace hB:=hB.trans (hb.mono hB.size);clear hb)
    |(first
      |(go_at_call 139;refine(kY p _ aK aM aH aG i cO ar.len bR bs bt bc h.nm [_] _ 1 hi agI (HP.o.same (hB.alloc hB.size _)) (jy _ _ _) (HK.o _ (hB.alloc hB.size _))).mono ?_)
      |(go_at_call 141;refine(mG p _ aK aM aH aG i cO bR bs bt bc ar [_] _ 1 agI (jy _ _ _) jZ.o (lq.o.same (hB.alloc hB.size _)) (HK.o _ (hB.alloc hB.size _))).mono ?_)
      |(go_at_call 142;refine(oZ p _ aK aM aH aG i cO bR bs bt bc ar _ [_] _ 1 agI (jy _ _ _) jZ.o (lq.o.same (hB.alloc hB.size _)) (HK.o _ (hB.alloc hB.size _))).mono ?_)
      rintro e' w1 ⟨rfl,hb⟩;replace hB:=(hB.alloc hB.size _).trans (hb.mono (hB.alloc hB.size _).size);clear hb)
   go_wp2_with fail;go_ret;exact⟨bV aah,aak⟩
 ·obtain⟨g1,g2,g3,g4,g5,g6,g7,g8,g9,g10,g11,g12,g13,g14,g15⟩:=ag3 hop;clear hop;go_upto_region 27 with fail;refine sF (λw'=>Below W.heap.size W w') (λw w'=>Below w.heap.size w w') [193,194,195,196,197,198,199,200,201,202,203,204,205,206,207,208,4] agG agG (λ_=>au _ _) ahS (below_drewN (au _ _) 1) ?_
  iterate 3
   apply fu.step
   case bL=>exact Aau
  refine fu.some (λv w'=> ∃b,v= .slice (some ⟨b,0,none⟩) 1 1∧iq w' w'.heap.size [1] (some ⟨b,0,none⟩) 0) ?_ ?_ ?_
  ·exact AaE
  ·intro β A w' hβ hC hO hD;simp[go_sem,gd,Oper.wp];exact aV.mk (d:=_) (v:= .slice (some ⟨_,0,none⟩) 1 1) (ak _ _) (hC.trans ((ak _ _).mono hC.size)) ⟨_,rfl,jy _ 1 _⟩
  apply fu.step
  case bL=>intro β A w' hβ hC hO hD;simp[Act.eval]at hD;obtain⟨bv7,bv8,bN3,bv9,aO2⟩:=hD;simp[go_sem,gd,Oper.wp,bv7,bv8,bv9];refine(kY p w' aK aM aH aG _ cO _ bR bs bt bc h.nm [1] _ 1 hi agI (HP.o.same hC) aO2 (HK.o _ hC)).mono ?_;exact AaD
  iterate 3
   apply fu.step
   case bL=>intro β A w' hβ hC hO hD;have e0:=hO 0 ahS;have e3:=hO 3 ahS;simp[Act.eval]at e0 e3;simp[Act.eval]at hD;simp[go_sem,gd,Oper.wp,e0,e3,hD,L3,hC];exact AaH
  refine fu.some (λv w'=> ∃b,v= .slice (some ⟨b,0,none⟩) 1 1∧iq w' w'.heap.size [7] (some ⟨b,0,none⟩) 0) ?_ ?_ ?_
  ·exact AaE
  ·intro β A w' hβ hC hO hD;simp[go_sem,gd,Oper.wp];exact aV.mk (d:=_) (v:= .slice (some ⟨_,0,none⟩) 1 1) (ak _ _) (hC.trans ((ak _ _).mono hC.size)) ⟨_,rfl,jy _ 7 _⟩
  apply fu.step
  case bL=>intro β A w' hβ hC hO hD;simp[Act.eval]at hD;obtain⟨bw0,bw1,⟨bN4,bw2,aO3⟩,-⟩:=hD;simp[go_sem,gd,Oper.wp,bw0,bw1,bw2];refine(kY p w' aK aM aH aG _ cO _ bR bs bt bc h.arg [7] _ 1 hi agI (HP.o.same hC) aO3 (HK.o _ hC)).mono ?_;exact AaD
  apply fu.step
  case bL=>exact Aav
  refine fu.some (λv w'=> ∃b,v= .slice (some ⟨b,0,none⟩) 1 1∧iq w' w'.heap.size [7] (some ⟨b,0,none⟩) 0) ?_ ?_ ?_
  ·exact AaE
  ·intro β A w' hβ hC hO hD;simp[go_sem,gd,Oper.wp];exact aV.mk (d:=_) (v:= .slice (some ⟨_,0,none⟩) 1 1) (ak _ _) (hC.trans ((ak _ _).mono hC.size)) ⟨_,rfl,jy _ 7 _⟩
  apply fu.step
  case bL=>intro β A w' hβ hC hO hD;simp[Act.eval]at hD;obtain⟨bw3,⟨bN5,bw4,aO4⟩,-⟩:=hD;simp[go_sem,gd,Oper.wp,bw3,bw4];refine(mG p w' aK aM aH aG _ cO bR bs bt bc ar [7] _ 1 agI aO4 jZ.o (lq.o.same hC) (HK.o _ hC)).mono ?_;exact AaD
  apply fu.step
  case bL=>intro β A w' hβ hC hO hD;simp[Act.eval]at hD;simp[go_sem,gd,Oper.wp,hD];refine(nk (fG ar [7]) w').mono ?_;rintro e' w2 ⟨rfl,rfl⟩;exact AaH
  refine fu.some (λv w'=> ∃b,v= .slice (some ⟨b,0,none⟩) 3 3∧iq w' w'.heap.size [dQ (mean p i h.nm) [1],dQ (mean p i h.arg) [7],nest (fG ar [7])] (some ⟨b,0,none⟩) 0) ?_ ?_ ?_
  ·exact AaE
  ·intro β A w' hβ hC hO hD;simp[Act.eval]at hD;simp[go_sem,gd,Oper.wp,hD];exact aV.mk (d:=_) (v:= .slice (some ⟨_,0,none⟩) 3 3) (ak _ _) (hC.trans ((ak _ _).mono hC.size)) ⟨_,rfl,BQ _ _ _ _ _⟩
  apply fu.step
  case bL=>intro β A w' hβ hC hO hD;simp[Act.eval]at hD;obtain⟨⟨bN6,bw5,aO5⟩,-⟩:=hD;simp[go_sem,gd,Oper.wp,bw5];refine(kT [dQ (mean p i h.nm) [1],dQ (mean p i h.arg) [7],nest (fG ar [7])] w' _ _ agU aO5).mono ?_;rintro e' w2 ⟨rfl,rfl⟩;exact AaH
  apply fu.step
  case bL=>exact Aav
  intro wz dL;intro v0 h0 v1 h1 v2 h2 v3 h3 v4 h4 v5 h5 v6 h6 v7 h7 v8 h8 v9 h9 v10 h10 v11 h11 v12 h12 v13 AO v14 uM v15 BG v16 h16;have hl':v16=_:=h16;subst hl';clear h0 h1 h2 h3 h4 h5 h6 h7 h8 h9 h10 h11 h12 AO uM BG h16;refine eO.nil ?_;go_wp2_with fail;go_ret;exact⟨bV aah,(HX.o.next dL).1⟩
 ·obtain⟨g1,g2,g3,g4,g5,g6,g7,g8,g9,g10,g11,g12,g13,g14,g15⟩:=ag1 hop;clear hop;go_upto_region 23 with fail;cases hq:fG ar [7,8]
  ·refine sF (λw'=>Below W.heap.size W w') (λw w'=>Below w.heap.size w w') [149,150,151,152,153,154,155,156,157,158,159,160,161,162,163,164,165,166,4] agG agG (λ_=>au _ _) ahS (below_drewN (au _ _) 1) ?_
   iterate 3
    apply fu.step
    case bL=>exact Aau
   refine fu.some (λv w'=> ∃b,v= .slice (some ⟨b,0,none⟩) 1 1∧iq w' w'.heap.size [8] (some ⟨b,0,none⟩) 0) ?_ ?_ ?_
   ·exact AaE
   ·intro β A w' hβ hC hO hD;simp[go_sem,gd,Oper.wp];exact aV.mk (d:=_) (v:= .slice (some ⟨_,0,none⟩) 1 1) (ak _ _) (hC.trans ((ak _ _).mono hC.size)) ⟨_,rfl,jy _ 8 _⟩
   apply fu.step
   case bL=>intro β A w' hβ hC hO hD;simp[Act.eval]at hD;obtain⟨aa3,aa4,bt7,aa5,QU⟩:=hD;simp[go_sem,gd,Oper.wp,aa3,aa4,aa5];refine(kY p w' aK aM aH aG _ cO _ bR bs bt bc h.nm [8] _ 1 hi agI (HP.o.same hC) QU (HK.o _ hC)).mono ?_;exact AaD
   apply fu.step
   case bL=>exact Aav
   refine fu.some (λv w'=> ∃b,v= .slice (some ⟨b,0,none⟩) 2 2∧iq w' w'.heap.size [7,8] (some ⟨b,0,none⟩) 0) ?_ ?_ ?_
   ·exact AaE
   ·intro β A w' hβ hC hO hD;simp[go_sem,gd,Oper.wp];exact aV.mk (d:=_) (v:= .slice (some ⟨_,0,none⟩) 2 2) (ak _ _) (hC.trans ((ak _ _).mono hC.size)) ⟨_,rfl,mO _ 7 8 _⟩
   apply fu.step
   case bL=>intro β A w' hβ hC hO hD;simp[Act.eval]at hD;obtain⟨aa6,⟨bt8,aa7,QV⟩,-⟩:=hD;simp[go_sem,gd,Oper.wp,aa6,aa7];refine(hq ▸ mG p w' aK aM aH aG (j:Int) cO bR bs bt bc ar [7,8] _ 2 agI QV jZ.o (lq.o.same hC) (HK.o _ hC)).mono ?_;exact AaD
   iterate 4
    apply fu.step
    case bL=>exact Aau
   apply fu.step
   case bL=>intro β A w' hβ hC hO hD;simp[Act.eval]at hD;simp[go_sem,gd,Oper.wp,hD];refine(Oa p w' aK aM aH aG cO ar.len bR bs bt bc j t r hd (HP.o.same hC) (HK.o _ hC)).mono ?_;exact AaD
   iterate 2
    apply fu.step
    case bL=>exact Aav
   apply fu.step
   case bL=>intro β A w' hβ hC hO hD;simp[Act.eval]at hD;simp[go_sem,gd,Oper.wp,hD];refine(nk (h.nm.toList==t.nm.toList) w').mono ?_;rintro e' w2 ⟨rfl,rfl⟩;exact AaH
   refine fu.some (λv w'=> ∃b,v= .slice (some ⟨b,0,none⟩) 2 2∧iq w' w'.heap.size [dQ (mean p (j:Int) h.nm) [8],nest (h.nm.toList==t.nm.toList)] (some ⟨b,0,none⟩) 0) ?_ ?_ ?_
   ·exact AaE
   ·intro β A w' hβ hC hO hD;simp[Act.eval]at hD;simp[go_sem,gd,Oper.wp,hD];exact aV.mk (d:=_) (v:= .slice (some ⟨_,0,none⟩) 2 2) (ak _ _) (hC.trans ((ak _ _).mono hC.size)) ⟨_,rfl,mO _ _ _ _⟩
   apply fu.step
   case bL=>intro β A w' hβ hC hO hD;simp[Act.eval]at hD;obtain⟨⟨bt9,aa8,QW⟩,-⟩:=hD;simp[go_sem,gd,Oper.wp,aa8];refine(kT [dQ (mean p (j:Int) h.nm) [8],nest (h.nm.toList==t.nm.toList)] w' _ _ agU QW).mono ?_;rintro e' w2 ⟨rfl,rfl⟩;exact AaH
   apply fu.step
   case bL=>exact Aav
   intro wz dL;intro v0 h0 v1 h1 v2 h2 v3 h3 v4 h4 v5 h5 v6 h6 v7 h7 v8 h8 v9 h9 v10 h10 v11 h11 v12 h12 v13 AO v14 uM v15 BG v16 h16 v17 JJ v18 h18;have hl':v18=_:=h18;subst hl';clear h0 h1 h2 h3 h4 h5 h6 h7 h8 h9 h10 h11 h12 AO uM BG h16 JJ h18;refine eO.nil ?_;go_wp2_with fail;go_ret;exact⟨bV aah,(HX.o.next dL).1⟩
  ·refine sF (λw'=>Below W.heap.size W w') (λw w'=>Below w.heap.size w w') [149,150,151,152,153,154,155,156,157,158,159,160,161,162,163,164,165,166,4] agG agG (λ_=>au _ _) ahS (below_drewN (au _ _) 1) ?_
   iterate 3
    apply fu.step
    case bL=>exact Aau
   refine fu.some (λv w'=> ∃b,v= .slice (some ⟨b,0,none⟩) 1 1∧iq w' w'.heap.size [8] (some ⟨b,0,none⟩) 0) ?_ ?_ ?_
   ·exact AaE
   ·intro β A w' hβ hC hO hD;simp[go_sem,gd,Oper.wp];exact aV.mk (d:=_) (v:= .slice (some ⟨_,0,none⟩) 1 1) (ak _ _) (hC.trans ((ak _ _).mono hC.size)) ⟨_,rfl,jy _ 8 _⟩
   apply fu.step
   case bL=>intro β A w' hβ hC hO hD;simp[Act.eval]at hD;obtain⟨aa3,aa4,bt7,aa5,QU⟩:=hD;simp[go_sem,gd,Oper.wp,aa3,aa4,aa5];refine(kY p w' aK aM aH aG _ cO _ bR bs bt bc h.nm [8] _ 1 hi agI (HP.o.same hC) QU (HK.o _ hC)).mono ?_;exact AaD
   apply fu.step
   case bL=>exact Aav
   refine fu.some (λv w'=> ∃b,v= .slice (some ⟨b,0,none⟩) 2 2∧iq w' w'.heap.size [7,8] (some ⟨b,0,none⟩) 0) ?_ ?_ ?_
   ·exact AaE
   ·intro β A w' hβ hC hO hD;simp[go_sem,gd,Oper.wp];exact aV.mk (d:=_) (v:= .slice (some ⟨_,0,none⟩) 2 2) (ak _ _) (hC.trans ((ak _ _).mono hC.size)) ⟨_,rfl,mO _ 7 8 _⟩
   apply fu.step
   case bL=>intro β A w' hβ hC hO hD;simp[Act.eval]at hD;obtain⟨aa6,⟨bt8,aa7,QV⟩,-⟩:=hD;simp[go_sem,gd,Oper.wp,aa6,aa7];refine(hq ▸ mG p w' aK aM aH aG (j:Int) cO bR bs bt bc ar [7,8] _ 2 agI QV jZ.o (lq.o.same hC) (HK.o _ hC)).mono ?_;exact AaD
   apply fu.step
   case bL=>exact Aav
   iterate 5
    refine fu.step (v:=undef) ?_ ?_
    ·intro β A w' hβ hC hO hD;simp[Act.eval]at hD;simp[gd,Act.eval,hD]
     first|done|exact cB.mk _ _|exact⟨ahS,cB.mk _ _⟩
   apply fu.step
   case bL=>exact Aav
   apply fu.step
   case bL=>intro β A w' hβ hC hO hD;simp[Act.eval]at hD;simp[go_sem,gd,Oper.wp,hD];refine(nk true w').mono ?_;rintro e' w2 ⟨rfl,rfl⟩;exact AaH
   refine fu.some (λv w'=> ∃b,v= .slice (some ⟨b,0,none⟩) 2 2∧iq w' w'.heap.size [dQ (mean p (j:Int) h.nm) [8],nest true] (some ⟨b,0,none⟩) 0) ?_ ?_ ?_
   ·exact AaE
   ·intro β A w' hβ hC hO hD;simp[Act.eval]at hD;simp[go_sem,gd,Oper.wp,hD];exact aV.mk (d:=_) (v:= .slice (some ⟨_,0,none⟩) 2 2) (ak _ _) (hC.trans ((ak _ _).mono hC.size)) ⟨_,rfl,mO _ _ _ _⟩
   apply fu.step
   case bL=>intro β A w' hβ hC hO hD;simp[Act.eval]at hD;obtain⟨⟨bt9,aa8,QW⟩,-⟩:=hD;simp[go_sem,gd,Oper.wp,aa8];refine(kT [dQ (mean p (j:Int) h.nm) [8],nest true] w' _ _ agU QW).mono ?_;rintro e' w2 ⟨rfl,rfl⟩;exact AaH
   apply fu.step
   case bL=>exact Aav
   intro wz dL;intro v0 h0 v1 h1 v2 h2 v3 h3 v4 h4 v5 h5 v6 h6 v7 h7 v8 h8 v9 h9 v10 h10 v11 h11 v12 h12 v13 AO v14 uM v15 BG v16 h16 v17 JJ v18 h18;have hl':v18=_:=h18;subst hl';clear h0 h1 h2 h3 h4 h5 h6 h7 h8 h9 h10 h11 h12 AO uM BG h16 JJ h18;refine eO.nil ?_;go_wp2_with fail;go_ret;exact⟨bV aah,(HX.o.next dL).1⟩
end
theorem zo {b:Nat} {w1 w2 w3:World} (h:w1.grownBy w2 (some b)) (k:w2.grownBy w3 (some b)):w1.grownBy w3 (some b):=
 ⟨k.os.trans h.os,k.tape.trans h.tape,k.output.trans h.output,aJ h.size k.size,λj hj hne=>(k.block j (aR hj h.size) hne).trans (h.block j hj hne)⟩
theorem jq {b:Nat} {w w':World} (h:Below w.heap.size w w'):w.grownBy w' (some b):=⟨h.os,h.tape,h.output,h.size,λk hk _=>h.block k hk⟩
theorem iR {b:Nat} (w:World):w.grownBy w (some b):=jq (au _ _)
def MC (W:World) (bm n:Nat) (f f':List UInt8->Bool) (β:Bool) (w':World):Prop:=W.grownBy w' (some bm)∧jI w' bm (n+β.toNat) (if β then f' else f)
theorem MC.below {W:World} {bm n:Nat} {f f':List UInt8->Bool} {β:Bool} {w' w2:World} (h:MC W bm n f f' β w') (hb:Below w'.heap.size w' w2):MC W bm n f f' β w2:=⟨zo h.1 (jq hb),h.2.next hb⟩
theorem iq.grow {w w':World} {b bm:Nat} (hb:b≠bm) (hg:w.grownBy w' (some bm)): ∀ {l:List Int} {k:Nat},iq w w.heap.size l (some ⟨b,0,none⟩) k->iq w' w'.heap.size l (some ⟨b,0,none⟩) k
 | [],_,_=>trivial
 |_::_,_,⟨⟨b1,off,e,hB,c⟩,hr⟩=>by injection e with e;injection e with e1 e2;subst e1;subst e2;exact⟨⟨b,0,rfl,aR hB hg.size,(World.cell?_of_block (hg.block b hB (by simp;exact hb))).trans c⟩,iq.grow hb hg hr⟩
theorem Sit.mc {w W w':World} {fs:List (Nat×Nat×Value)} {bm:Nat} (h:Sit w W fs) (hg:W.grownBy w' (some bm)) (hne: ∀f∈fs,f.1≠bm):Holds w' fs:=h.2.grown hg hne
def MI (v:Int) (w:World) (bm n:Nat) (f:List UInt8->Bool) (e:Ending) (w':World):Prop:=e= .returned (.int .i64 v)∧jI w' bm n f∧w.grownBy w' (some bm)
theorem Mi {v:Value} {res:Int} {w W wz:World} {bm n:Nat} {f f':List UInt8->Bool} (h:v= .int .i64 res) (hz:MC W bm n f f' true wz) (hg: ∀w',W.grownBy w' (some bm)->w.grownBy w' (some bm)):MI res w bm (n+1) f' (.returned v) wz:=
 ⟨by rw[h],hz.2,hg _ hz.1⟩
theorem Yi (w:World) (a b c d:Int) (t:TypeId):iq (w.alloc (.cells #[.int .i64 a,.int .i64 b,.int .i64 c,.int .i64 d] t)) (w.alloc (.cells #[.int .i64 a,.int .i64 b,.int .i64 c,.int .i64 d] t)).heap.size [a,b,c,d] (some ⟨w.heap.size,0,none⟩) 0:=
 ⟨⟨_,_,rfl,agJ,dX w [.int .i64 a,.int .i64 b,.int .i64 c,.int .i64 d] t 0⟩,⟨_,_,rfl,agJ,dX w [.int .i64 a,.int .i64 b,.int .i64 c,.int .i64 d] t 1⟩,⟨_,_,rfl,agJ,dX w [.int .i64 a,.int .i64 b,.int .i64 c,.int .i64 d] t 2⟩,⟨_,_,rfl,agJ,dX w [.int .i64 a,.int .i64 b,.int .i64 c,.int .i64 d] t 3⟩,trivial⟩
section
variable (p:Pr) (w:World) (aK aM:Option Addr) (aH aG:Nat) (i:Int) (cO:Option Addr) (bR bs bt bc:Nat)
theorem aa2 (h:dF) (b e ar:aZ) (s:Sl) (hi:bY i) (hp: ∀w',w.grownBy w' (some bt)->p.At w' aK aM) (hok:xg h b e) (hex: ∀w',w.grownBy w' (some bt)->h.bJ.At w' w'.heap.size s.fT 0) (eG: ∀w',w.grownBy w' (some bt)->dW w') (har:ar.len<=maxLen) (hat: ∀w',w.grownBy w' (some bt)->ar.At w' w'.heap.size cO 0) (hh:Holds w (vC bc p aK aM aH aG i cO ar.len bR bs bt)) (hbc:bc≠bt) (n:Nat) (f:List UInt8->Bool) (hn:n<maxLen) (hmap:jI w bt n f) (hop:h.op=14):
 Calls Tryz.prog 113 #[.pointer (some ⟨bc,0,none⟩),iE h b e s] w (MI (gF [dQ (mean p i h.nm) [7],nest (fG ar [7,3]),(lg (f h.nm.toList)),lU p i h.dP h.xn h.dO h.bJ]) w bt (n+1) (Ak f h.nm.toList)):=by
 have HH:=ah (show Sit w w _ from⟨au _ _,hh⟩);obtain⟨gU,gy,fT,eB,dB,cu,iD,gu⟩:=s;have hxk:=hok.2.2.2.2.2.1;have hns:=hok.2.2.1;generalize hres:gF [dQ (mean p i h.nm) [7],nest (fG ar [7,3]),(lg (f h.nm.toList)),lU p i h.dP h.xn h.dO h.bJ]=res;have HR:=ah hres;have iO:=ah hop;have HNS:=ah hns;have HN:=ah hn;have hlt:=hmap.lt;clear hres hop hn hns;unfold iE;dsimp only;dsimp only at hex;go_enter Tryz.func113,Tryz.ntmps113;go_upto_region 1 with fail;generalize hW:World.alloc w _=W;generalize Value.agg #[_,_,_,_,_,_,_,_,_,_,_]=a0;have HX:aj (Sit w W (rM w.heap.size h b e ⟨gU,gy,fT,eB,dB,cu,iD,gu⟩ (vC bc p aK aM aH aG i cO ar.len bR bs bt))):=ah aaK;clear hW HH;have HG:aj (∀w',W.grownBy w' (some bt)->w.grownBy w' (some bt)):=ah (λw' hg=>zo (jq HX.o.1) hg);have HP:=ah (λw' hg=>hp w' (HG.o w' hg));have jX:=ah (λw' hg=>eG w' (HG.o w' hg));have Pj:=ah (λw' hg=>hex w' (HG.o w' hg));have lq:=ah (λw' hg=>hat w' (HG.o w' hg));have jZ:=ah har;have HM:=ah (hmap.next HX.o.1);have HF:aj (∀w',W.grownBy w' (some bt)->Holds w' (rM w.heap.size h b e ⟨gU,gy,fT,eB,dB,cu,iD,gu⟩ (vC bc p aK aM aH aG i cO ar.len bR bs bt))):=ah (λw' hg=>HX.o.mc hg (by intro x hx;simp only[rM,vC,List.mem_cons,List.not_mem_nil,or_false]at hx;rcases hx with rfl|rfl|rfl|rfl|rfl|rfl|rfl|rfl|rfl|rfl|rfl|rfl|rfl|rfl|rfl|rfl|rfl <;> first|exact hbc|(show w.heap.size≠bt;omega)));have HK:aj (∀w',W.grownBy w' (some bt)->Holds w' (vC bc p aK aM aH aG i cO ar.len bR bs bt)):=ah (λw' hg=>(HF.o w' hg).2.2.2.2.2.2.2.2.2.2.2);clear hp eG hh hat har hex hmap hlt hbc;have L0: ∀w',W.grownBy w' (some bt)->w'.cell? ⟨w.heap.size,0,none⟩=some (.int .i64 h.op):=λw' hb=>(HF.o w' hb).1.2;have L2: ∀w',W.grownBy w' (some bt)->w'.cell? ⟨w.heap.size,2,none⟩=some (.string h.nm):=λw' hb=>(HF.o w' hb).2.2.1.2;have L5: ∀w',W.grownBy w' (some bt)->w'.cell? ⟨w.heap.size,5,none⟩=some (.int .i64 h.dP):=λw' hb=>(HF.o w' hb).2.2.2.2.2.1.2;have L6: ∀w',W.grownBy w' (some bt)->w'.cell? ⟨w.heap.size,6,none⟩=some (.int .i64 h.xn):=λw' hb=>(HF.o w' hb).2.2.2.2.2.2.1.2;have L7: ∀w',W.grownBy w' (some bt)->w'.cell? ⟨w.heap.size,7,none⟩=some (.string h.dO):=λw' hb=>(HF.o w' hb).2.2.2.2.2.2.2.1.2;have L8: ∀w',W.grownBy w' (some bt)->w'.cell? ⟨w.heap.size,8,none⟩=some (.slice fT h.bJ.len eB):=λw' hb=>(HF.o w' hb).2.2.2.2.2.2.2.2.1.2;have LM: ∀w',W.grownBy w' (some bt)->w'.cell? ⟨bc,5,none⟩=some (.map (some bt)):=λw' hb=>(HK.o w' hb).2.2.2.2.2.1.2;have l0:=L0 W (iR _);have hop:=iO.o;obtain⟨g1,g2,g3,g4,g5,g6,g7,g8,g9,g10,g11,g12,g13,g14,g15⟩:=ag2 hop;clear hop l0;have l0:=L0 W (iR _);go_upto_region 25 with fail;refine zO 15 (MC W bt n f (Ak f h.nm.toList)) (λw w'=>w.grownBy w' (some bt)) [169,170,171,172,173,174,175,176,177,178,179,180,181,182,183,184,185,186,187,188,189,190,4] agG agG (λ_=>iR _) ahS ⟨jq (below_drewN (au _ _) 1),ach⟩ ?_
 iterate 3
  apply fu.step
  case bL=>intro β A w' hβ hC hO hD;have e0:=hO 0 ahS;have e3:=hO 3 ahS;simp[Act.eval]at e0 e3;simp[Act.eval]at hD;simp[go_sem,gd,Oper.wp,e0,e3,hD,L2,hC.1];exact aV.mk (iR _) agS (cB.mk _ _)
 refine fu.some (λv w'=> ∃b,b≠bt∧v= .slice (some ⟨b,0,none⟩) 1 1∧iq w' w'.heap.size [7] (some ⟨b,0,none⟩) 0) ?_ ?_ ?_
 ·rintro v w w' hle ⟨b,hbn,rfl,hin⟩;exact⟨b,hbn,rfl,iq.grow hbn hle hin⟩
 ·intro β A w' hβ hC hO hD;simp[go_sem,gd,Oper.wp];exact aV.mk (d:=_) (v:= .slice (some ⟨_,0,none⟩) 1 1) (jq (ak _ _)) acK ⟨_,aft,rfl,jy _ 7 _⟩
 apply fu.step
 case bL=>intro β A w' hβ hC hO hD;simp[Act.eval]at hD;obtain⟨bv1,bv2,bN0,bM1,bv3,aN9⟩:=hD;simp[go_sem,gd,Oper.wp,bv1,bv2,bv3];refine(kY p w' aK aM aH aG _ cO _ bR bs bt bc h.nm [7] _ 1 hi agI (HP.o _ hC.1) aN9 (HK.o _ hC.1)).mono ?_;rintro e' w2 ⟨rfl,hb⟩;exact aV.mk (jq hb) afl (cB.mk _ _)
 apply fu.step
 case bL=>exact Aax
 refine fu.some (λv w'=> ∃b,b≠bt∧v= .slice (some ⟨b,0,none⟩) 2 2∧iq w' w'.heap.size [7,3] (some ⟨b,0,none⟩) 0) ?_ ?_ ?_
 ·rintro v w w' hle ⟨b,hbn,rfl,hin⟩;exact⟨b,hbn,rfl,iq.grow hbn hle hin⟩
 ·intro β A w' hβ hC hO hD;simp[go_sem,gd,Oper.wp];exact aV.mk (d:=_) (v:= .slice (some ⟨_,0,none⟩) 2 2) (jq (ak _ _)) acK ⟨_,aft,rfl,mO _ 7 3 _⟩
 apply fu.step
 case bL=>intro β A w' hβ hC hO hD;simp[Act.eval]at hD;obtain⟨bv4,⟨bN1,bM2,bv5,aO0⟩,-⟩:=hD;simp[go_sem,gd,Oper.wp,bv4,bv5];refine(mG p w' aK aM aH aG _ cO bR bs bt bc ar [7,3] _ 2 agI aO0 jZ.o (lq.o _ hC.1) (HK.o _ hC.1)).mono ?_;rintro e' w2 ⟨rfl,hb⟩;exact aV.mk (jq hb) afl (cB.mk _ _)
 apply fu.step
 case bL=>intro β A w' hβ hC hO hD;simp[Act.eval]at hD;simp[go_sem,gd,Oper.wp,hD];refine(nk (fG ar [7,3]) w').mono ?_;rintro e' w2 ⟨rfl,rfl⟩;exact aV.mk (iR _) agS (cB.mk _ _)
 iterate 6
  apply fu.step
  case bL=>intro β A w' hβ hC hO hD;have e0:=hO 0 ahS;have e3:=hO 3 ahS;simp[Act.eval]at e0 e3;simp[Act.eval]at hD;simp[go_sem,gd,Oper.wp,e0,e3,hD,LM,hC.1,L2];exact aV.mk (iR _) agS (cB.mk _ _)
 apply fu.step
 case bL=>intro β A w' hβ hC hO hD;obtain rfl:=hβ agJ;simp[Act.eval]at hD;simp[go_sem,gd,Oper.wp,hD];refine(Ro h.nm w' bt n f HN.o HNS.o (by simpa using hC.2)).mono ?_;rintro e' w2 ⟨rfl,hm2,hg2⟩;exact aV.mk hg2 ⟨zo hC.1 hg2,by simpa using hm2⟩ (cB.mk _ _)
 iterate 3
  apply fu.step
  case bL=>intro β A w' hβ hC hO hD;have e0:=hO 0 ahS;have e3:=hO 3 ahS;simp[Act.eval]at e0 e3;simp[Act.eval]at hD;simp[go_sem,gd,Oper.wp,e0,e3,hD,L5,L6,L7,L8,hC.1];exact aV.mk (iR _) agS (cB.mk _ _)
 apply fu.step
 case bL=>intro β A w' hβ hC hO hD;simp[Act.eval]at hD;simp[go_sem,gd,Oper.wp,hD];refine(zl p w' aK aM aH aG _ cO _ bR bs bt bc h.dP h.xn h.dO h.bJ fT eB hi (HP.o _ hC.1) hxk (Pj.o _ hC.1) (jX.o _ hC.1) (HK.o _ hC.1)).mono ?_;rintro e' w2 ⟨rfl,hb⟩;exact aV.mk (jq hb) afl (cB.mk _ _)
 refine fu.some (λv w'=> ∃b,b≠bt∧v= .slice (some ⟨b,0,none⟩) 4 4∧iq w' w'.heap.size [dQ (mean p i h.nm) [7],nest (fG ar [7,3]),(lg (f h.nm.toList)),lU p i h.dP h.xn h.dO h.bJ] (some ⟨b,0,none⟩) 0) ?_ ?_ ?_
 ·rintro v w w' hle ⟨b,hbn,rfl,hin⟩;exact⟨b,hbn,rfl,iq.grow hbn hle hin⟩
 ·intro β A w' hβ hC hO hD;simp[Act.eval]at hD;simp[go_sem,gd,Oper.wp,hD];exact aV.mk (d:=_) (v:= .slice (some ⟨_,0,none⟩) 4 4) (jq (ak _ _)) acK ⟨_,aft,rfl,Yi _ _ _ _ _ _⟩
 apply fu.step
 case bL=>intro β A w' hβ hC hO hD;simp[Act.eval]at hD;obtain⟨⟨bN2,bM3,bv6,aO1⟩,-⟩:=hD;simp[go_sem,gd,Oper.wp,bv6];refine(kT [dQ (mean p i h.nm) [7],nest (fG ar [7,3]),(lg (f h.nm.toList)),lU p i h.dP h.xn h.dO h.bJ] w' _ _ agU aO1).mono ?_;rintro e' w2 ⟨rfl,rfl⟩;exact aV.mk (iR _) agS (cB.mk _ _)
 apply fu.step
 case bL=>exact Aax
 simp only[dY];intro wz dL;intro v0 h0 v1 h1 v2 h2 v3 h3 v4 h4 v5 h5 v6 h6 v7 h7 v8 h8 v9 h9 v10 h10 v11 h11 v12 h12 v13 AO v14 uM v15 BG v16 h16 v17 JJ v18 h18 v19 h19 v20 h20 v21 h21 v22 h22;have hl':v22=_:=h22;subst hl';clear h0 h1 h2 h3 h4 h5 h6 h7 h8 h9 h10 h11 h12 AO uM BG h16 JJ h18 h19 h20 h21 h22;refine eO.nil ?_;have HZ:aj (MC W bt n f (Ak f h.nm.toList) true wz):=ah (by simpa using dL);clear dL;go_simp;go_wp2_with fail;go_ret;refine Mi ?_ HZ.o HG.o;rw[<- HR.o];rfl
end
theorem ai4 {w:World} {B b off:Nat} {t:Th} {r:List Th} (h:iG w B (t::r) (some ⟨b,off,none⟩) 0):w.cell? ⟨b,off,none⟩=some (.string t.nm):=by
 obtain⟨⟨b1,off1,iU,eU,dB,cu,e,-,x0,-⟩,-⟩:=h;injection e with e;injection e with e1 e2;subst e1;subst e2;simpa using x0
section
variable (p:Pr) (w:World) (aK aM:Option Addr) (aH aG:Nat) (cO:Option Addr) (bR bs bt bc:Nat)
theorem aa1 (j:Nat) (t t0:Th) (r r0:List Th) (hd:p.ts.drop j=t::r) (hts:p.ts=t0::r0) (h:dF) (b e ar:aZ) (s:Sl) (hi:bY (j:Int)) (hp: ∀w',w.grownBy w' (some bs)->p.At w' aK aM) (hok:xg h b e) (hex: ∀w',w.grownBy w' (some bs)->h.bJ.At w' w'.heap.size s.fT 0) (eG: ∀w',w.grownBy w' (some bs)->dW w') (har:ar.len<=maxLen) (hat: ∀w',w.grownBy w' (some bs)->ar.At w' w'.heap.size cO 0) (hh:Holds w (vC bc p aK aM aH aG (j:Int) cO ar.len bR bs bt)) (hbc:bc≠bs) (n:Nat) (f:List UInt8->Bool) (hn:n<maxLen) (hmap:jI w bs n f) (hop:h.op=12):
 Calls Tryz.prog 113 #[.pointer (some ⟨bc,0,none⟩),iE h b e s] w (MI (gF [dQ (mean p (j:Int) h.nm) [8],nest (fG ar [7,8,3]||(h.nm.toList==t.nm.toList||h.nm.toList==t0.nm.toList)),(lg (f h.nm.toList))]) w bs (n+1) (Ak f h.nm.toList)):=by
 have HH:=ah (show Sit w w _ from⟨au _ _,hh⟩);obtain⟨gU,gy,fT,eB,dB,cu,iD,gu⟩:=s;have hxk:=hok.2.2.2.2.2.1;have hns:=hok.2.2.1;generalize hres:gF [dQ (mean p (j:Int) h.nm) [8],nest (fG ar [7,8,3]||(h.nm.toList==t.nm.toList||h.nm.toList==t0.nm.toList)),(lg (f h.nm.toList))]=res;have HR:=ah hres;have iO:=ah hop;have HNS:=ah hns;have HN:=ah hn;have hlt:=hmap.lt;clear hres hop hn hns;unfold iE;dsimp only;dsimp only at hex;go_enter Tryz.func113,Tryz.ntmps113;go_upto_region 1 with fail;generalize hW:World.alloc w _=W;generalize Value.agg #[_,_,_,_,_,_,_,_,_,_,_]=a0;have HX:aj (Sit w W (rM w.heap.size h b e ⟨gU,gy,fT,eB,dB,cu,iD,gu⟩ (vC bc p aK aM aH aG (j:Int) cO ar.len bR bs bt))):=ah aaK;clear hW HH;have HG:aj (∀w',W.grownBy w' (some bs)->w.grownBy w' (some bs)):=ah (λw' hg=>zo (jq HX.o.1) hg);have HP:=ah (λw' hg=>hp w' (HG.o w' hg));have jX:=ah (λw' hg=>eG w' (HG.o w' hg));have Pj:=ah (λw' hg=>hex w' (HG.o w' hg));have lq:=ah (λw' hg=>hat w' (HG.o w' hg));have jZ:=ah har;have HM:=ah (hmap.next HX.o.1);have HF:aj (∀w',W.grownBy w' (some bs)->Holds w' (rM w.heap.size h b e ⟨gU,gy,fT,eB,dB,cu,iD,gu⟩ (vC bc p aK aM aH aG (j:Int) cO ar.len bR bs bt))):=ah (λw' hg=>HX.o.mc hg (by intro x hx;simp only[rM,vC,List.mem_cons,List.not_mem_nil,or_false]at hx;rcases hx with rfl|rfl|rfl|rfl|rfl|rfl|rfl|rfl|rfl|rfl|rfl|rfl|rfl|rfl|rfl|rfl|rfl <;> first|exact hbc|(show w.heap.size≠bs;omega)));have HK:aj (∀w',W.grownBy w' (some bs)->Holds w' (vC bc p aK aM aH aG (j:Int) cO ar.len bR bs bt)):=ah (λw' hg=>(HF.o w' hg).2.2.2.2.2.2.2.2.2.2.2);clear hp eG hh hat har hex hmap hlt hbc;have L0: ∀w',W.grownBy w' (some bs)->w'.cell? ⟨w.heap.size,0,none⟩=some (.int .i64 h.op):=λw' hb=>(HF.o w' hb).1.2;have L2: ∀w',W.grownBy w' (some bs)->w'.cell? ⟨w.heap.size,2,none⟩=some (.string h.nm):=λw' hb=>(HF.o w' hb).2.2.1.2;have L5: ∀w',W.grownBy w' (some bs)->w'.cell? ⟨w.heap.size,5,none⟩=some (.int .i64 h.dP):=λw' hb=>(HF.o w' hb).2.2.2.2.2.1.2;have L6: ∀w',W.grownBy w' (some bs)->w'.cell? ⟨w.heap.size,6,none⟩=some (.int .i64 h.xn):=λw' hb=>(HF.o w' hb).2.2.2.2.2.2.1.2;have L7: ∀w',W.grownBy w' (some bs)->w'.cell? ⟨w.heap.size,7,none⟩=some (.string h.dO):=λw' hb=>(HF.o w' hb).2.2.2.2.2.2.2.1.2;have L8: ∀w',W.grownBy w' (some bs)->w'.cell? ⟨w.heap.size,8,none⟩=some (.slice fT h.bJ.len eB):=λw' hb=>(HF.o w' hb).2.2.2.2.2.2.2.2.1.2;have LM: ∀w',W.grownBy w' (some bs)->w'.cell? ⟨bc,4,none⟩=some (.map (some bs)):=λw' hb=>(HK.o w' hb).2.2.2.2.1.2;have l0:=L0 W (iR _);have hop:=iO.o;obtain⟨g1,g2,g3,g4,g5,g6,g7,g8,g9,g10,g11,g12,g13,g14,g15⟩:=ag0 hop;clear hop l0;have l0:=L0 W (iR _);go_upto_region 21 with fail;have hpos:0<p.ts.length:=by rw[hts];simp
 have aX7:(0:Int)<p.ts.length:=agH
 obtain⟨b0,Bf,eT⟩: ∃b0 Bf,aM=some ⟨b0,Bf,none⟩:=by have:=(HP.o W (iR _)).2.2.2;rw[hts]at this;obtain⟨⟨b1,off1,iU,eU,dB,cu,e,-⟩,-⟩:=this;exact⟨b1,off1,e⟩
 subst eT;have LN: ∀w',W.grownBy w' (some bs)->w'.cell? ⟨b0,Bf,none⟩=some (.string t0.nm):=λw' hb=>by have:=(HP.o w' hb).2.2.2;rw[hts]at this;exact ai4 this
 have LT: ∀w',W.grownBy w' (some bs)->w'.cell? ⟨bc,1,none⟩=some (.slice (some ⟨b0,Bf,none⟩) p.ts.length aG):=λw' hb=>(HK.o w' hb).2.1.2;cases hq:fG ar [7,8,3] <;> cases ho:(h.nm.toList==t.nm.toList)
 all_goals
  refine zO 35 (MC W bs n f (Ak f h.nm.toList)) (λw w'=>w.grownBy w' (some bs)) [109,110,111,112,113,114,115,116,117,118,119,120,121,122,123,124,125,126,127,128,129,130,131,132,133,134,135,136,137,138,139,140,141,142,143,144,145,146,4] agG agG (λ_=>iR _) ahS ⟨jq (below_drewN (au _ _) 1),ach⟩ ?_
  iterate 3
   apply fu.step
   case bL=>intro β A w' hβ hC hO hD;have e0:=hO 0 ahS;have e3:=hO 3 ahS;simp[Act.eval]at e0 e3;simp[Act.eval]at hD;simp[go_sem,gd,Oper.wp,e0,e3,hD,L2,hC.1];exact aV.mk (iR _) agS (cB.mk _ _)
   try simp only[dY]
  refine fu.some (λv w'=> ∃b,b≠bs∧v= .slice (some ⟨b,0,none⟩) 1 1∧iq w' w'.heap.size [8] (some ⟨b,0,none⟩) 0) ?_ ?_ ?_
  ·rintro v w w' hle ⟨b,hbn,rfl,hin⟩;exact⟨b,hbn,rfl,iq.grow hbn hle hin⟩
  ·intro β A w' hβ hC hO hD;simp[go_sem,gd,Oper.wp];exact aV.mk (d:=_) (v:= .slice (some ⟨_,0,none⟩) 1 1) (jq (ak _ _)) acK ⟨_,aft,rfl,jy _ 8 _⟩
  simp only[dY];apply fu.step
  case bL=>intro β A w' hβ hC hO hD;simp[Act.eval]at hD;obtain⟨bu5,bu6,bM7,bL8,bu7,aN6⟩:=hD;simp[go_sem,gd,Oper.wp,bu5,bu6,bu7];refine(kY p w' aK (some ⟨b0,Bf,none⟩) aH aG _ cO _ bR bs bt bc h.nm [8] _ 1 hi agI (HP.o _ hC.1) aN6 (HK.o _ hC.1)).mono ?_;rintro e' w2 ⟨rfl,hb⟩;exact aV.mk (jq hb) afl (cB.mk _ _)
  simp only[dY];apply fu.step
  case bL=>exact Aax
  simp only[dY];refine fu.some (λv w'=> ∃b,b≠bs∧v= .slice (some ⟨b,0,none⟩) 3 3∧iq w' w'.heap.size [7,8,3] (some ⟨b,0,none⟩) 0) ?_ ?_ ?_
  ·rintro v w w' hle ⟨b,hbn,rfl,hin⟩;exact⟨b,hbn,rfl,iq.grow hbn hle hin⟩
  ·intro β A w' hβ hC hO hD;simp[go_sem,gd,Oper.wp];exact aV.mk (d:=_) (v:= .slice (some ⟨_,0,none⟩) 3 3) (jq (ak _ _)) acK ⟨_,aft,rfl,BQ _ 7 8 3 _⟩
  simp only[dY];apply fu.step
  case bL=>intro β A w' hβ hC hO hD;simp[Act.eval]at hD;obtain⟨bu8,⟨bM8,bL9,bu9,aN7⟩,-⟩:=hD;simp[go_sem,gd,Oper.wp,bu8,bu9];refine(hq ▸ mG p w' aK (some ⟨b0,Bf,none⟩) aH aG (j:Int) cO bR bs bt bc ar [7,8,3] _ 3 agI aN7 jZ.o (lq.o _ hC.1) (HK.o _ hC.1)).mono ?_;rintro e' w2 ⟨rfl,hb⟩;exact aV.mk (jq hb) afl (cB.mk _ _)
  simp only[dY];apply fu.step
  case bL=>exact Aax
  simp only[dY]
  iterate 3
   first
   |(apply fu.step
     case bL=>intro β A w' hβ hC hO hD;have e0:=hO 0 ahS;have e3:=hO 3 ahS;simp[Act.eval]at e0 e3;simp[Act.eval]at hD;simp[go_sem,gd,Oper.wp,e0,e3,hD,L2,hC.1];exact aV.mk (iR _) agS (cB.mk _ _))
   |(refine fu.step (v:=undef) ?_ ?_
     ·intro β A w' hβ hC hO hD;simp[Act.eval]at hD;simp[gd,Act.eval,hD]
      first|done|exact cB.mk _ _|exact⟨ahS,cB.mk _ _⟩)
   try simp only[dY]
  first
  |(apply fu.step
    case bL=>intro β A w' hβ hC hO hD;simp[Act.eval]at hD;simp[go_sem,gd,Oper.wp,hD];refine(Oa p w' aK (some ⟨b0,Bf,none⟩) aH aG cO ar.len bR bs bt bc j t r hd (HP.o _ hC.1) (HK.o _ hC.1)).mono ?_;rintro e' w2 ⟨rfl,hb⟩;exact aV.mk (jq hb) afl (cB.mk _ _))
  |(refine fu.step (v:=undef) ?_ ?_
    ·intro β A w' hβ hC hO hD;simp[Act.eval]at hD;simp[gd,Act.eval,hD]
     first|done|exact cB.mk _ _|exact⟨ahS,cB.mk _ _⟩)
  try simp only[dY]
  iterate 15
   first
   |(apply fu.step
     case bL=>intro β A w' hβ hC hO hD;have e0:=hO 0 ahS;have e3:=hO 3 ahS;simp[Act.eval]at e0 e3;simp[Act.eval]at hD;simp[go_sem,gd,Oper.wp,e0,e3,hD,ho,L2,hC.1,LT,hpos,aX7,LN];exact aV.mk (iR _) agS (cB.mk _ _))
   |(refine fu.step (v:=undef) ?_ ?_
     ·intro β A w' hβ hC hO hD;simp[Act.eval]at hD;simp[gd,Act.eval,hD]
      first|done|exact cB.mk _ _|exact⟨ahS,cB.mk _ _⟩)
   try simp only[dY]
  apply fu.step
  case bL=>intro β A w' hβ hC hO hD;simp[Act.eval]at hD;simp[go_sem,gd,Oper.wp,hD];refine(nk _ w').mono ?_;rintro e' w2 ⟨rfl,rfl⟩;exact aV.mk (iR _) agS (cB.mk _ _)
  simp only[dY]
  iterate 6
   apply fu.step
   case bL=>intro β A w' hβ hC hO hD;have e0:=hO 0 ahS;have e3:=hO 3 ahS;simp[Act.eval]at e0 e3;simp[Act.eval]at hD;simp[go_sem,gd,Oper.wp,e0,e3,hD,LM,hC.1,L2];exact aV.mk (iR _) agS (cB.mk _ _)
   try simp only[dY]
  apply fu.step
  case bL=>intro β A w' hβ hC hO hD;obtain rfl:=hβ agJ;simp[Act.eval]at hD;simp[go_sem,gd,Oper.wp,hD];refine(Ro h.nm w' bs n f HN.o HNS.o (by simpa using hC.2)).mono ?_;rintro e' w2 ⟨rfl,hm2,hg2⟩;exact aV.mk hg2 ⟨zo hC.1 hg2,by simpa using hm2⟩ (cB.mk _ _)
  simp only[dY];refine fu.some (λv w'=> ∃b,b≠bs∧v= .slice (some ⟨b,0,none⟩) 3 3∧iq w' w'.heap.size [dQ (mean p (j:Int) h.nm) [8],nest (fG ar [7,8,3]||(h.nm.toList==t.nm.toList||h.nm.toList==t0.nm.toList)),(lg (f h.nm.toList))] (some ⟨b,0,none⟩) 0) ?_ ?_ ?_
  ·rintro v w w' hle ⟨b,hbn,rfl,hin⟩;exact⟨b,hbn,rfl,iq.grow hbn hle hin⟩
  ·intro β A w' hβ hC hO hD;simp[Act.eval]at hD;simp[go_sem,gd,Oper.wp,hD];exact aV.mk (d:=_) (v:= .slice (some ⟨_,0,none⟩) 3 3) (jq (ak _ _)) acK ⟨_,aft,rfl,by rw[hq,ho];exact BQ _ _ _ _ _⟩
  simp only[dY];apply fu.step
  case bL=>intro β A w' hβ hC hO hD;simp[Act.eval]at hD;obtain⟨⟨bM9,bM0,bv0,aN8⟩,-⟩:=hD;simp[go_sem,gd,Oper.wp,bv0];refine(kT [dQ (mean p (j:Int) h.nm) [8],nest (fG ar [7,8,3]||(h.nm.toList==t.nm.toList||h.nm.toList==t0.nm.toList)),(lg (f h.nm.toList))] w' _ _ agU aN8).mono ?_;rintro e' w2 ⟨rfl,rfl⟩;exact aV.mk (iR _) agS (cB.mk _ _)
  simp only[dY];apply fu.step
  case bL=>exact Aax
  simp only[dY];intro wz dL
  iterate 38 intro _ _
  intro v38 h38;have hl':v38=_:=h38;subst hl';clear h38;refine eO.nil ?_;have HZ:aj (MC W bs n f (Ak f h.nm.toList) true wz):=ah (by simpa using dL);clear dL;go_simp;go_wp2_with fail;go_ret;refine Mi ?_ HZ.o HG.o
  first|exact congrArg (Value.int .i64) HR.o.symm|(rw[<- HR.o];done)|(rw[<- HR.o,hq];rfl)|(rw[<- HR.o,hq,ho];rfl)|(rw[<- HR.o];simp[hq,ho])
end
end Go.Proofs.YtdoplekppjkkpaaGreatDoor
