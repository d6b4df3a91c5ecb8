/- Contract of the checker's statement: where nothing is noted. -/
import Derived.Test.YtkmllehjemjgpaaGreatDoorGMF
set_option linter.unusedSimpArgs false
set_option linter.unusedVariables false
set_option maxHeartbeats 40000000
set_option maxRecDepth 1000000
namespace Go.Proofs.YtkmllehjemjgpaaGreatDoor
open Go.RowKit
open Md
section
variable (p:Pr) (w:World) (aB aD:Option Addr) (aA ay:Nat) (i:Int) (bK:Option Addr) (aU bs bt bc:Nat)
theorem pW (h:cB) (b e ar:aH) (s:Sl) (hi:fD i) (hp:p.At w aB aD) (hin:BO w h b e s) (dG:dD w) (har:ar.len<=maxLen) (hat:ar.At w w.heap.size bK 0) (hh:Holds w (sK bc p aB aD aA ay i bK ar.len aU bs bt)) {res:Int} (hc:
 ((h.op<1∨15<h.op)∧0=res)∨
 (h.op=1∧EI p i h=res)∨
 ((h.op=2∨h.op=3)∧kg p i h.cu h.xn h.bZ h.aK=res)∨
 (h.op=4∧eF [dh (mean p i h.nm) [4],nest (dW ar [7]||pY ar h.nm [4])]=res)∨
 ((h.op=5∨h.op=6)∧eF [dh (mean p i h.nm) [5],nest (dW ar [7]||pY ar h.nm [5,6])]=res)∨
 (h.op=7∧nest (dW ar [7])=res)∨
 (h.op=8∧nest (dW ar [7,8])=res)∨
 ((h.op=9∨h.op=10∨h.op=11)∧eF [dh (mean p i h.nm) [6],nest ((dW ar [7]|| !pY ar (nU p.ds h.nm) [4])||(h.op==9&&dW ar [8]))]=res)∨
 (h.op=15∧eF [dh (mean p i h.nm) [1],dh (mean p i h.arg) [7],nest (dW ar [7])]=res)∨
 (h.op=13∧∃(j:Nat) (t:Th) (r:List Th),i=(j:Int)∧p.ts.drop j=t::r∧eF [dh (mean p i h.nm) [8],nest (dW ar [7,8]||h.nm.toList==t.nm.toList)]=res)):
 Calls Tryz.prog 81 #[.pointer (some ⟨bc,0,none⟩),jD h b e s] w λe' w'=>e'= .returned (.int .i64 res)∧Below w.heap.size w w':=by
 have HH:=ah (show Sit w w _ from⟨Below.refl _ _,hh⟩);obtain⟨eu,dI,dR,cO,bR,aY,fH,dX⟩:=s;have hxk:=hin.1.2.2.2.2.2.1;have hns:=hin.1.2.2.1;have nO:=ah hin;have IC:=ah hc;clear hc;unfold jD;dsimp only;go_enter Tryz.func81,Tryz.ntmps81;go_upto_region 1 with fail;generalize hW:World.alloc w _=W;generalize Value.agg #[_,_,_,_,_,_,_,_,_,_,_]=a0;have HX:aj (Sit w W (ql w.heap.size h b e ⟨eu,dI,dR,cO,bR,aY,fH,dX⟩ (sK bc p aB aD aA ay i bK ar.len aU bs bt))):=ah (by rw[<- hW];exact HH.o.tK rfl _ _ _ _ _ _ _ _ _ _ _ _);clear hW HH;have HP:=ah (hp.same HX.o.1);have iF:=ah (dG.same HX.o.1);have Mq:=ah (hin.2.2.1.same HX.o.1);have jy:=ah (hat.same HX.o.1);have jd:=ah har;have HK:aj (∀w',Below W.heap.size W w'->Holds w' (sK bc p aB aD aA ay i bK ar.len aU bs bt)):=ah (λw' hb=>(HX.o.next hb).2.2.2.2.2.2.2.2.2.2.2.2);clear hp dG hh hin hat har;have L0: ∀w',Below W.heap.size W w'->w'.cell? ⟨w.heap.size,0,none⟩=some (.int .i64 h.op):=λw' hb=>(HX.o.next hb).2.1.2;have L2: ∀w',Below W.heap.size W w'->w'.cell? ⟨w.heap.size,2,none⟩=some (.string h.nm):=λw' hb=>(HX.o.next hb).2.2.2.1.2;have L3: ∀w',Below W.heap.size W w'->w'.cell? ⟨w.heap.size,3,none⟩=some (.string h.arg):=λw' hb=>(HX.o.next hb).2.2.2.2.1.2;have L5: ∀w',Below W.heap.size W w'->w'.cell? ⟨w.heap.size,5,none⟩=some (.int .i64 h.cu):=λw' hb=>(HX.o.next hb).2.2.2.2.2.2.1.2;have L6: ∀w',Below W.heap.size W w'->w'.cell? ⟨w.heap.size,6,none⟩=some (.int .i64 h.xn):=λw' hb=>(HX.o.next hb).2.2.2.2.2.2.2.1.2;have L7: ∀w',Below W.heap.size W w'->w'.cell? ⟨w.heap.size,7,none⟩=some (.string h.bZ):=λw' hb=>(HX.o.next hb).2.2.2.2.2.2.2.2.1.2;have L8: ∀w',Below W.heap.size W w'->w'.cell? ⟨w.heap.size,8,none⟩=some (.slice dR h.aK.len cO):=λw' hb=>(HX.o.next hb).2.2.2.2.2.2.2.2.2.1.2;have hB:Below W.heap.size W W:=Below.refl _ _;have l0:=L0 W hB;rcases IC.o with⟨hop,hr⟩|⟨hop,hr⟩|⟨hop,hr⟩|⟨hop,hr⟩|⟨hop,hr⟩|⟨hop,hr⟩|⟨hop,hr⟩|⟨hop,hr⟩|⟨hop,hr⟩|⟨hop,j,t,r,rfl,hd,hr⟩
 all_goals have HR:=ah hr;clear hr IC
 ·have gg: ∀k:Int,1<=k->k<=15->(h.op==k)=false:=λk h1 h2=>by rw[beq_eq_false_iff_ne];omega
  have g1:=gg 1 (by decide) (by decide);have g2:=gg 2 (by decide) (by decide);have g3:=gg 3 (by decide) (by decide);have g4:=gg 4 (by decide) (by decide);have g5:=gg 5 (by decide) (by decide);have g6:=gg 6 (by decide) (by decide);have g7:=gg 7 (by decide) (by decide);have g8:=gg 8 (by decide) (by decide);have g9:=gg 9 (by decide) (by decide);have g10:=gg 10 (by decide) (by decide);have g11:=gg 11 (by decide) (by decide);have g12:=gg 12 (by decide) (by decide);have g13:=gg 13 (by decide) (by decide);have g14:=gg 14 (by decide) (by decide);have g15:=gg 15 (by decide) (by decide);clear hop gg;go_wp2_with fail;go_ret;exact⟨aV HR.o,HX.o.1⟩
 ·obtain⟨g1,g2,g3,g4,g5,g6,g7,g8,g9,g10,g11,g12,g13,g14,g15⟩:=op1 hop;clear hop;have lA:=(HX.o.2).2.1.2;have lB:=(HX.o.2).2.2.2.2.1.2;have lC:=(HX.o.2).2.2.2.2.2.2.2.2.2.1.2;have lD:=(HX.o.2).2.2.2.2.2.2.2.2.2.2.1.2;have l2:=L2 W hB;have l3:=L3 W hB;go_wp2_with fail;refine(NJ p _ aB aD aA ay i bK ar.len aU bs bt bc h b e ⟨eu,dI,dR,cO,bR,aY,fH,dX⟩ hi (HP.o.same hB) (nO.o.same HX.o.1) (iF.o.same hB) (HK.o _ hB)).mono ?_;rintro e' w1 ⟨rfl,hb⟩;replace hB:=hB.trans (hb.mono hB.size);clear hb;go_wp2_with fail;go_ret;exact⟨aV (by first|exact HR.o|exact HR.o.symm|(rw[<- HR.o];first|rfl|simp_all)),by first|exact(HX.o.next hB).1|exact(HX.o.next (hB.alloc hB.size _)).1⟩
 ·rcases hop with hop|hop
  all_goals
   first|obtain⟨g1,g2,g3,g4,g5,g6,g7,g8,g9,g10,g11,g12,g13,g14,g15⟩:=op2 hop|obtain⟨g1,g2,g3,g4,g5,g6,g7,g8,g9,g10,g11,g12,g13,g14,g15⟩:=ZU hop
   clear hop;go_wp2_with fail;refine(wQ p _ aB aD aA ay i bK ar.len aU bs bt bc h.cu h.xn h.bZ h.aK dR cO hi (HP.o.same hB) hxk (Mq.o.same hB) (iF.o.same hB) (HK.o _ hB)).mono ?_;rintro e' w1 ⟨rfl,hb⟩;replace hB:=hB.trans (hb.mono hB.size);clear hb;go_wp2_with fail;go_ret;exact⟨aV (by first|exact HR.o|exact HR.o.symm|(rw[<- HR.o];first|rfl|simp_all)),by first|exact(HX.o.next hB).1|exact(HX.o.next (hB.alloc hB.size _)).1⟩
 ·obtain⟨g1,g2,g3,g4,g5,g6,g7,g8,g9,g10,g11,g12,g13,g14,g15⟩:=ZV hop;clear hop;cases hq:dW ar [7] <;> cases hq2:pY ar h.nm [4]
  all_goals
   repeat
    go_wp2_with fail
    first
    |(go_at_call 118;refine(lu _ _).mono ?_;rintro e' wn ⟨rfl,rfl⟩)
    |(go_at_call 116;refine(jL [_,_] _ _ 2 (by simp[maxLen]) (kM _ _ _ _)).mono ?_;rintro e' wf ⟨rfl,rfl⟩)
    |(go_at_call 121;refine(rD p _ aB aD aA ay i bK ar.len aU bs bt bc h.nm (HP.o.same hB) (HK.o _ hB)).mono ?_;rintro e' w1 ⟨rfl,hb⟩;replace hB:=hB.trans (hb.mono hB.size);clear hb)
    |(first
      |(go_at_call 117;refine(jO p _ aB aD aA ay i bK ar.len aU bs bt bc h.nm [_] _ 1 hi (by decide) (HP.o.same (hB.alloc hB.size _)) (iq _ _ _) (HK.o _ (hB.alloc hB.size _))).mono ?_)
      |(go_at_call 119;refine(kH p _ aB aD aA ay i bK aU bs bt bc ar [_] _ 1 (by decide) (iq _ _ _) jd.o (jy.o.same (hB.alloc hB.size _)) (HK.o _ (hB.alloc hB.size _))).mono ?_)
      |(go_at_call 120;refine(nT p _ aB aD aA ay i bK aU bs bt bc ar _ [_] _ 1 (by decide) (iq _ _ _) jd.o (jy.o.same (hB.alloc hB.size _)) (HK.o _ (hB.alloc hB.size _))).mono ?_)
      rintro e' w1 ⟨rfl,hb⟩;replace hB:=(hB.alloc hB.size _).trans (hb.mono (hB.alloc hB.size _).size);clear hb)
   go_wp2_with fail;go_ret;exact⟨aV (by first|exact HR.o|exact HR.o.symm|(rw[<- HR.o];first|rfl|simp_all)),by first|exact(HX.o.next hB).1|exact(HX.o.next (hB.alloc hB.size _)).1⟩
 ·rcases hop with hop|hop
  all_goals
   first|obtain⟨g1,g2,g3,g4,g5,g6,g7,g8,g9,g10,g11,g12,g13,g14,g15⟩:=ZW hop|obtain⟨g1,g2,g3,g4,g5,g6,g7,g8,g9,g10,g11,g12,g13,g14,g15⟩:=ZX hop
   clear hop;cases hq:dW ar [7] <;> cases hq2:pY ar h.nm [5,6]
  all_goals
   repeat
    go_wp2_with fail
    first
    |(go_at_call 118;refine(lu _ _).mono ?_;rintro e' wn ⟨rfl,rfl⟩)
    |(go_at_call 116;refine(jL [_,_] _ _ 2 (by simp[maxLen]) (kM _ _ _ _)).mono ?_;rintro e' wf ⟨rfl,rfl⟩)
    |(go_at_call 121;refine(rD p _ aB aD aA ay i bK ar.len aU bs bt bc h.nm (HP.o.same hB) (HK.o _ hB)).mono ?_;rintro e' w1 ⟨rfl,hb⟩;replace hB:=hB.trans (hb.mono hB.size);clear hb)
    |(first
      |(go_at_call 117;refine(jO p _ aB aD aA ay i bK ar.len aU bs bt bc h.nm [_] _ 1 hi (by decide) (HP.o.same (hB.alloc hB.size _)) (iq _ _ _) (HK.o _ (hB.alloc hB.size _))).mono ?_)
      |(go_at_call 119;refine(kH p _ aB aD aA ay i bK aU bs bt bc ar [_] _ 1 (by decide) (iq _ _ _) jd.o (jy.o.same (hB.alloc hB.size _)) (HK.o _ (hB.alloc hB.size _))).mono ?_)
      |(go_at_call 120;refine(nT p _ aB aD aA ay i bK aU bs bt bc ar _ [_,_] _ 2 (by decide) (kM _ _ _ _) jd.o (jy.o.same (hB.alloc hB.size _)) (HK.o _ (hB.alloc hB.size _))).mono ?_)
      rintro e' w1 ⟨rfl,hb⟩;replace hB:=(hB.alloc hB.size _).trans (hb.mono (hB.alloc hB.size _).size);clear hb)
   go_wp2_with fail;go_ret;exact⟨aV (by first|exact HR.o|exact HR.o.symm|(rw[<- HR.o];first|rfl|simp_all)),by first|exact(HX.o.next hB).1|exact(HX.o.next (hB.alloc hB.size _)).1⟩
 ·obtain⟨g1,g2,g3,g4,g5,g6,g7,g8,g9,g10,g11,g12,g13,g14,g15⟩:=ZY hop;clear hop
  repeat
   go_wp2_with fail
   first
   |(go_at_call 118;refine(lu _ _).mono ?_;rintro e' wn ⟨rfl,rfl⟩)
   |(go_at_call 116;refine(jL [_,_] _ _ 2 (by simp[maxLen]) (kM _ _ _ _)).mono ?_;rintro e' wf ⟨rfl,rfl⟩)
   |(go_at_call 121;refine(rD p _ aB aD aA ay i bK ar.len aU bs bt bc h.nm (HP.o.same hB) (HK.o _ hB)).mono ?_;rintro e' w1 ⟨rfl,hb⟩;replace hB:=hB.trans (hb.mono hB.size);clear hb)
   |(first
     |(go_at_call 117;refine(jO p _ aB aD aA ay i bK ar.len aU bs bt bc h.nm [_] _ 1 hi (by decide) (HP.o.same (hB.alloc hB.size _)) (iq _ _ _) (HK.o _ (hB.alloc hB.size _))).mono ?_)
     |(go_at_call 119;refine(kH p _ aB aD aA ay i bK aU bs bt bc ar [_] _ 1 (by decide) (iq _ _ _) jd.o (jy.o.same (hB.alloc hB.size _)) (HK.o _ (hB.alloc hB.size _))).mono ?_)
     |(go_at_call 120;refine(nT p _ aB aD aA ay i bK aU bs bt bc ar _ [_] _ 1 (by decide) (iq _ _ _) jd.o (jy.o.same (hB.alloc hB.size _)) (HK.o _ (hB.alloc hB.size _))).mono ?_)
     rintro e' w1 ⟨rfl,hb⟩;replace hB:=(hB.alloc hB.size _).trans (hb.mono (hB.alloc hB.size _).size);clear hb)
  go_wp2_with fail;go_ret;exact⟨aV (by first|exact HR.o|exact HR.o.symm|(rw[<- HR.o];first|rfl|simp_all)),by first|exact(HX.o.next hB).1|exact(HX.o.next (hB.alloc hB.size _)).1⟩
 ·obtain⟨g1,g2,g3,g4,g5,g6,g7,g8,g9,g10,g11,g12,g13,g14,g15⟩:=op8 hop;clear hop
  repeat
   go_wp2_with fail
   first
   |(go_at_call 118;refine(lu _ _).mono ?_;rintro e' wn ⟨rfl,rfl⟩)
   |(go_at_call 116;refine(jL [_,_] _ _ 2 (by simp[maxLen]) (kM _ _ _ _)).mono ?_;rintro e' wf ⟨rfl,rfl⟩)
   |(go_at_call 121;refine(rD p _ aB aD aA ay i bK ar.len aU bs bt bc h.nm (HP.o.same hB) (HK.o _ hB)).mono ?_;rintro e' w1 ⟨rfl,hb⟩;replace hB:=hB.trans (hb.mono hB.size);clear hb)
   |(first
     |(go_at_call 117;refine(jO p _ aB aD aA ay i bK ar.len aU bs bt bc h.nm [_] _ 1 hi (by decide) (HP.o.same (hB.alloc hB.size _)) (iq _ _ _) (HK.o _ (hB.alloc hB.size _))).mono ?_)
     |(go_at_call 119;refine(kH p _ aB aD aA ay i bK aU bs bt bc ar [_,_] _ 2 (by decide) (kM _ _ _ _) jd.o (jy.o.same (hB.alloc hB.size _)) (HK.o _ (hB.alloc hB.size _))).mono ?_)
     |(go_at_call 120;refine(nT p _ aB aD aA ay i bK aU bs bt bc ar _ [_] _ 1 (by decide) (iq _ _ _) jd.o (jy.o.same (hB.alloc hB.size _)) (HK.o _ (hB.alloc hB.size _))).mono ?_)
     rintro e' w1 ⟨rfl,hb⟩;replace hB:=(hB.alloc hB.size _).trans (hb.mono (hB.alloc hB.size _).size);clear hb)
  go_wp2_with fail;go_ret;exact⟨aV (by first|exact HR.o|exact HR.o.symm|(rw[<- HR.o];first|rfl|simp_all)),by first|exact(HX.o.next hB).1|exact(HX.o.next (hB.alloc hB.size _)).1⟩
 ·rcases hop with hop|hop|hop
  all_goals
   first|obtain⟨g1,g2,g3,g4,g5,g6,g7,g8,g9,g10,g11,g12,g13,g14,g15⟩:=op9 hop|obtain⟨g1,g2,g3,g4,g5,g6,g7,g8,g9,g10,g11,g12,g13,g14,g15⟩:=SL hop|obtain⟨g1,g2,g3,g4,g5,g6,g7,g8,g9,g10,g11,g12,g13,g14,g15⟩:=SN hop
   clear hop;cases hq:dW ar [7] <;> cases hq2:pY ar (nU p.ds h.nm) [4] <;> cases hq3:dW ar [8]
  all_goals
   repeat
    go_wp2_with fail
    first
    |(go_at_call 118;refine(lu _ _).mono ?_;rintro e' wn ⟨rfl,rfl⟩)
    |(go_at_call 116;refine(jL [_,_] _ _ 2 (by simp[maxLen]) (kM _ _ _ _)).mono ?_;rintro e' wf ⟨rfl,rfl⟩)
    |(go_at_call 121;refine(rD p _ aB aD aA ay i bK ar.len aU bs bt bc h.nm (HP.o.same hB) (HK.o _ hB)).mono ?_;rintro e' w1 ⟨rfl,hb⟩;replace hB:=hB.trans (hb.mono hB.size);clear hb)
    |(first
      |(go_at_call 117;refine(jO p _ aB aD aA ay i bK ar.len aU bs bt bc h.nm [_] _ 1 hi (by decide) (HP.o.same (hB.alloc hB.size _)) (iq _ _ _) (HK.o _ (hB.alloc hB.size _))).mono ?_)
      |(go_at_call 119;refine(kH p _ aB aD aA ay i bK aU bs bt bc ar [_] _ 1 (by decide) (iq _ _ _) jd.o (jy.o.same (hB.alloc hB.size _)) (HK.o _ (hB.alloc hB.size _))).mono ?_)
      |(go_at_call 120;refine(nT p _ aB aD aA ay i bK aU bs bt bc ar _ [_] _ 1 (by decide) (iq _ _ _) jd.o (jy.o.same (hB.alloc hB.size _)) (HK.o _ (hB.alloc hB.size _))).mono ?_)
      rintro e' w1 ⟨rfl,hb⟩;replace hB:=(hB.alloc hB.size _).trans (hb.mono (hB.alloc hB.size _).size);clear hb)
   go_wp2_with fail;go_ret;exact⟨aV (by first|exact HR.o|exact HR.o.symm|(rw[<- HR.o];first|rfl|simp_all)),by first|exact(HX.o.next hB).1|exact(HX.o.next (hB.alloc hB.size _)).1⟩
 ·obtain⟨g1,g2,g3,g4,g5,g6,g7,g8,g9,g10,g11,g12,g13,g14,g15⟩:=SY hop;clear hop;go_upto_region 27 with fail;refine qE (λw'=>Below W.heap.size W w') (λw w'=>Below w.heap.size w w') [193,194,195,196,197,198,199,200,201,202,203,204,205,206,207,208,4] (by kernel_rfl) (by kernel_rfl) (λ_=>Below.refl _ _) (by rfl) (below_drewN (Below.refl _ _) 1) ?_
  iterate 3
   apply dQ.step
   case aJ=>intro β A w' hβ hC hO hD;have e0:=hO 0 (by rfl);have e3:=hO 3 (by rfl);simp[Act.eval]at e0 e3;simp[Act.eval]at hD;simp[go_sem,gd,Oper.wp,e0,e3,hD,L2,hC];exact aG.mk (Below.refl _ _) hC (aW.mk _ _)
  refine dQ.some (λv w'=> ∃b,v= .slice (some ⟨b,0,none⟩) 1 1∧eH w' w'.heap.size [1] (some ⟨b,0,none⟩) 0) ?_ ?_ ?_
  ·rintro v w w' hle ⟨b,rfl,hin⟩;exact⟨b,rfl,hin.same hle⟩
  ·intro β A w' hβ hC hO hD;simp[go_sem,gd,Oper.wp];exact aG.mk (d:=_) (v:= .slice (some ⟨_,0,none⟩) 1 1) (ak _ _) (hC.trans ((ak _ _).mono hC.size)) ⟨_,rfl,iq _ 1 _⟩
  apply dQ.step
  case aJ=>intro β A w' hβ hC hO hD;simp[Act.eval]at hD;obtain⟨aT7,aT8,bj0,aT9,au5⟩:=hD;simp[go_sem,gd,Oper.wp,aT7,aT8,aT9];refine(jO p w' aB aD aA ay _ bK _ aU bs bt bc h.nm [1] _ 1 hi (by decide) (HP.o.same hC) au5 (HK.o _ hC)).mono ?_;rintro e' w2 ⟨rfl,hb⟩;exact aG.mk hb (hC.trans (hb.mono hC.size)) (aW.mk _ _)
  iterate 3
   apply dQ.step
   case aJ=>intro β A w' hβ hC hO hD;have e0:=hO 0 (by rfl);have e3:=hO 3 (by rfl);simp[Act.eval]at e0 e3;simp[Act.eval]at hD;simp[go_sem,gd,Oper.wp,e0,e3,hD,L3,hC];exact aG.mk (Below.refl _ _) hC (aW.mk _ _)
  refine dQ.some (λv w'=> ∃b,v= .slice (some ⟨b,0,none⟩) 1 1∧eH w' w'.heap.size [7] (some ⟨b,0,none⟩) 0) ?_ ?_ ?_
  ·rintro v w w' hle ⟨b,rfl,hin⟩;exact⟨b,rfl,hin.same hle⟩
  ·intro β A w' hβ hC hO hD;simp[go_sem,gd,Oper.wp];exact aG.mk (d:=_) (v:= .slice (some ⟨_,0,none⟩) 1 1) (ak _ _) (hC.trans ((ak _ _).mono hC.size)) ⟨_,rfl,iq _ 7 _⟩
  apply dQ.step
  case aJ=>intro β A w' hβ hC hO hD;simp[Act.eval]at hD;obtain⟨aU0,aU1,⟨bj1,aU2,au6⟩,-⟩:=hD;simp[go_sem,gd,Oper.wp,aU0,aU1,aU2];refine(jO p w' aB aD aA ay _ bK _ aU bs bt bc h.arg [7] _ 1 hi (by decide) (HP.o.same hC) au6 (HK.o _ hC)).mono ?_;rintro e' w2 ⟨rfl,hb⟩;exact aG.mk hb (hC.trans (hb.mono hC.size)) (aW.mk _ _)
  apply dQ.step
  case aJ=>intro β A w' hβ hC hO hD;have e0:=hO 0 (by rfl);have e3:=hO 3 (by rfl);simp[Act.eval]at e0 e3;simp[Act.eval]at hD;simp[go_sem,gd,Oper.wp,e0,e3,hD];exact aG.mk (Below.refl _ _) hC (aW.mk _ _)
  refine dQ.some (λv w'=> ∃b,v= .slice (some ⟨b,0,none⟩) 1 1∧eH w' w'.heap.size [7] (some ⟨b,0,none⟩) 0) ?_ ?_ ?_
  ·rintro v w w' hle ⟨b,rfl,hin⟩;exact⟨b,rfl,hin.same hle⟩
  ·intro β A w' hβ hC hO hD;simp[go_sem,gd,Oper.wp];exact aG.mk (d:=_) (v:= .slice (some ⟨_,0,none⟩) 1 1) (ak _ _) (hC.trans ((ak _ _).mono hC.size)) ⟨_,rfl,iq _ 7 _⟩
  apply dQ.step
  case aJ=>intro β A w' hβ hC hO hD;simp[Act.eval]at hD;obtain⟨aU3,⟨bj2,aU4,au7⟩,-⟩:=hD;simp[go_sem,gd,Oper.wp,aU3,aU4];refine(kH p w' aB aD aA ay _ bK aU bs bt bc ar [7] _ 1 (by decide) au7 jd.o (jy.o.same hC) (HK.o _ hC)).mono ?_;rintro e' w2 ⟨rfl,hb⟩;exact aG.mk hb (hC.trans (hb.mono hC.size)) (aW.mk _ _)
  apply dQ.step
  case aJ=>intro β A w' hβ hC hO hD;simp[Act.eval]at hD;simp[go_sem,gd,Oper.wp,hD];refine(lu (dW ar [7]) w').mono ?_;rintro e' w2 ⟨rfl,rfl⟩;exact aG.mk (Below.refl _ _) hC (aW.mk _ _)
  refine dQ.some (λv w'=> ∃b,v= .slice (some ⟨b,0,none⟩) 3 3∧eH w' w'.heap.size [dh (mean p i h.nm) [1],dh (mean p i h.arg) [7],nest (dW ar [7])] (some ⟨b,0,none⟩) 0) ?_ ?_ ?_
  ·rintro v w w' hle ⟨b,rfl,hin⟩;exact⟨b,rfl,hin.same hle⟩
  ·intro β A w' hβ hC hO hD;simp[Act.eval]at hD;simp[go_sem,gd,Oper.wp,hD];exact aG.mk (d:=_) (v:= .slice (some ⟨_,0,none⟩) 3 3) (ak _ _) (hC.trans ((ak _ _).mono hC.size)) ⟨_,rfl,zK _ _ _ _ _⟩
  apply dQ.step
  case aJ=>intro β A w' hβ hC hO hD;simp[Act.eval]at hD;obtain⟨⟨bj3,aU5,au8⟩,-⟩:=hD;simp[go_sem,gd,Oper.wp,aU5];refine(jL [dh (mean p i h.nm) [1],dh (mean p i h.arg) [7],nest (dW ar [7])] w' _ _ (by simp[maxLen]) au8).mono ?_;rintro e' w2 ⟨rfl,rfl⟩;exact aG.mk (Below.refl _ _) hC (aW.mk _ _)
  apply dQ.step
  case aJ=>intro β A w' hβ hC hO hD;have e0:=hO 0 (by rfl);have e3:=hO 3 (by rfl);simp[Act.eval]at e0 e3;simp[Act.eval]at hD;simp[go_sem,gd,Oper.wp,e0,e3,hD];exact aG.mk (Below.refl _ _) hC (aW.mk _ _)
  intro wz bH;intro v0 h0 v1 h1 v2 h2 v3 h3 v4 h4 v5 h5 v6 h6 v7 h7 v8 h8 v9 h9 v10 h10 v11 h11 v12 h12 v13 Az v14 um v15 zA v16 h16;have hl':v16=_:=h16;subst hl';clear h0 h1 h2 h3 h4 h5 h6 h7 h8 h9 h10 h11 h12 Az um zA h16;refine dA.nil ?_;go_wp2_with fail;go_ret;exact⟨aV (by first|exact HR.o|exact HR.o.symm|(rw[<- HR.o];first|rfl|simp_all)),(HX.o.next bH).1⟩
 ·obtain⟨g1,g2,g3,g4,g5,g6,g7,g8,g9,g10,g11,g12,g13,g14,g15⟩:=SV hop;clear hop;go_upto_region 23 with fail;cases hq:dW ar [7,8]
  ·refine qE (λw'=>Below W.heap.size W w') (λw w'=>Below w.heap.size w w') [149,150,151,152,153,154,155,156,157,158,159,160,161,162,163,164,165,166,4] (by kernel_rfl) (by kernel_rfl) (λ_=>Below.refl _ _) (by rfl) (below_drewN (Below.refl _ _) 1) ?_
   iterate 3
    apply dQ.step
    case aJ=>intro β A w' hβ hC hO hD;have e0:=hO 0 (by rfl);have e3:=hO 3 (by rfl);simp[Act.eval]at e0 e3;simp[Act.eval]at hD;simp[go_sem,gd,Oper.wp,e0,e3,hD,L2,hC];exact aG.mk (Below.refl _ _) hC (aW.mk _ _)
   refine dQ.some (λv w'=> ∃b,v= .slice (some ⟨b,0,none⟩) 1 1∧eH w' w'.heap.size [8] (some ⟨b,0,none⟩) 0) ?_ ?_ ?_
   ·rintro v w w' hle ⟨b,rfl,hin⟩;exact⟨b,rfl,hin.same hle⟩
   ·intro β A w' hβ hC hO hD;simp[go_sem,gd,Oper.wp];exact aG.mk (d:=_) (v:= .slice (some ⟨_,0,none⟩) 1 1) (ak _ _) (hC.trans ((ak _ _).mono hC.size)) ⟨_,rfl,iq _ 8 _⟩
   apply dQ.step
   case aJ=>intro β A w' hβ hC hO hD;simp[Act.eval]at hD;obtain⟨Xx,Xy,aR8,Xz,Oe⟩:=hD;simp[go_sem,gd,Oper.wp,Xx,Xy,Xz];refine(jO p w' aB aD aA ay _ bK _ aU bs bt bc h.nm [8] _ 1 hi (by decide) (HP.o.same hC) Oe (HK.o _ hC)).mono ?_;rintro e' w2 ⟨rfl,hb⟩;exact aG.mk hb (hC.trans (hb.mono hC.size)) (aW.mk _ _)
   apply dQ.step
   case aJ=>intro β A w' hβ hC hO hD;have e0:=hO 0 (by rfl);have e3:=hO 3 (by rfl);simp[Act.eval]at e0 e3;simp[Act.eval]at hD;simp[go_sem,gd,Oper.wp,e0,e3,hD];exact aG.mk (Below.refl _ _) hC (aW.mk _ _)
   refine dQ.some (λv w'=> ∃b,v= .slice (some ⟨b,0,none⟩) 2 2∧eH w' w'.heap.size [7,8] (some ⟨b,0,none⟩) 0) ?_ ?_ ?_
   ·rintro v w w' hle ⟨b,rfl,hin⟩;exact⟨b,rfl,hin.same hle⟩
   ·intro β A w' hβ hC hO hD;simp[go_sem,gd,Oper.wp];exact aG.mk (d:=_) (v:= .slice (some ⟨_,0,none⟩) 2 2) (ak _ _) (hC.trans ((ak _ _).mono hC.size)) ⟨_,rfl,kM _ 7 8 _⟩
   apply dQ.step
   case aJ=>intro β A w' hβ hC hO hD;simp[Act.eval]at hD;obtain⟨XA,⟨aR9,XB,Og⟩,-⟩:=hD;simp[go_sem,gd,Oper.wp,XA,XB];refine(hq ▸ kH p w' aB aD aA ay (j:Int) bK aU bs bt bc ar [7,8] _ 2 (by decide) Og jd.o (jy.o.same hC) (HK.o _ hC)).mono ?_;rintro e' w2 ⟨rfl,hb⟩;exact aG.mk hb (hC.trans (hb.mono hC.size)) (aW.mk _ _)
   iterate 4
    apply dQ.step
    case aJ=>intro β A w' hβ hC hO hD;have e0:=hO 0 (by rfl);have e3:=hO 3 (by rfl);simp[Act.eval]at e0 e3;simp[Act.eval]at hD;simp[go_sem,gd,Oper.wp,e0,e3,hD,L2,hC];exact aG.mk (Below.refl _ _) hC (aW.mk _ _)
   apply dQ.step
   case aJ=>intro β A w' hβ hC hO hD;simp[Act.eval]at hD;simp[go_sem,gd,Oper.wp,hD];refine(Lg p w' aB aD aA ay bK ar.len aU bs bt bc j t r hd (HP.o.same hC) (HK.o _ hC)).mono ?_;rintro e' w2 ⟨rfl,hb⟩;exact aG.mk hb (hC.trans (hb.mono hC.size)) (aW.mk _ _)
   iterate 2
    apply dQ.step
    case aJ=>intro β A w' hβ hC hO hD;have e0:=hO 0 (by rfl);have e3:=hO 3 (by rfl);simp[Act.eval]at e0 e3;simp[Act.eval]at hD;simp[go_sem,gd,Oper.wp,e0,e3,hD];exact aG.mk (Below.refl _ _) hC (aW.mk _ _)
   apply dQ.step
   case aJ=>intro β A w' hβ hC hO hD;simp[Act.eval]at hD;simp[go_sem,gd,Oper.wp,hD];refine(lu (h.nm.toList==t.nm.toList) w').mono ?_;rintro e' w2 ⟨rfl,rfl⟩;exact aG.mk (Below.refl _ _) hC (aW.mk _ _)
   refine dQ.some (λv w'=> ∃b,v= .slice (some ⟨b,0,none⟩) 2 2∧eH w' w'.heap.size [dh (mean p (j:Int) h.nm) [8],nest (h.nm.toList==t.nm.toList)] (some ⟨b,0,none⟩) 0) ?_ ?_ ?_
   ·rintro v w w' hle ⟨b,rfl,hin⟩;exact⟨b,rfl,hin.same hle⟩
   ·intro β A w' hβ hC hO hD;simp[Act.eval]at hD;simp[go_sem,gd,Oper.wp,hD];exact aG.mk (d:=_) (v:= .slice (some ⟨_,0,none⟩) 2 2) (ak _ _) (hC.trans ((ak _ _).mono hC.size)) ⟨_,rfl,kM _ _ _ _⟩
   apply dQ.step
   case aJ=>intro β A w' hβ hC hO hD;simp[Act.eval]at hD;obtain⟨⟨aS0,XC,Oh⟩,-⟩:=hD;simp[go_sem,gd,Oper.wp,XC];refine(jL [dh (mean p (j:Int) h.nm) [8],nest (h.nm.toList==t.nm.toList)] w' _ _ (by simp[maxLen]) Oh).mono ?_;rintro e' w2 ⟨rfl,rfl⟩;exact aG.mk (Below.refl _ _) hC (aW.mk _ _)
   apply dQ.step
   case aJ=>intro β A w' hβ hC hO hD;have e0:=hO 0 (by rfl);have e3:=hO 3 (by rfl);simp[Act.eval]at e0 e3;simp[Act.eval]at hD;simp[go_sem,gd,Oper.wp,e0,e3,hD];exact aG.mk (Below.refl _ _) hC (aW.mk _ _)
   intro wz bH;intro v0 h0 v1 h1 v2 h2 v3 h3 v4 h4 v5 h5 v6 h6 v7 h7 v8 h8 v9 h9 v10 h10 v11 h11 v12 h12 v13 Az v14 um v15 zA v16 h16 v17 GK v18 h18;have hl':v18=_:=h18;subst hl';clear h0 h1 h2 h3 h4 h5 h6 h7 h8 h9 h10 h11 h12 Az um zA h16 GK h18;refine dA.nil ?_;go_wp2_with fail;go_ret;exact⟨aV (by first|exact HR.o|exact HR.o.symm|(rw[<- HR.o];first|rfl|simp_all)),(HX.o.next bH).1⟩
  ·refine qE (λw'=>Below W.heap.size W w') (λw w'=>Below w.heap.size w w') [149,150,151,152,153,154,155,156,157,158,159,160,161,162,163,164,165,166,4] (by kernel_rfl) (by kernel_rfl) (λ_=>Below.refl _ _) (by rfl) (below_drewN (Below.refl _ _) 1) ?_
   iterate 3
    apply dQ.step
    case aJ=>intro β A w' hβ hC hO hD;have e0:=hO 0 (by rfl);have e3:=hO 3 (by rfl);simp[Act.eval]at e0 e3;simp[Act.eval]at hD;simp[go_sem,gd,Oper.wp,e0,e3,hD,L2,hC];exact aG.mk (Below.refl _ _) hC (aW.mk _ _)
   refine dQ.some (λv w'=> ∃b,v= .slice (some ⟨b,0,none⟩) 1 1∧eH w' w'.heap.size [8] (some ⟨b,0,none⟩) 0) ?_ ?_ ?_
   ·rintro v w w' hle ⟨b,rfl,hin⟩;exact⟨b,rfl,hin.same hle⟩
   ·intro β A w' hβ hC hO hD;simp[go_sem,gd,Oper.wp];exact aG.mk (d:=_) (v:= .slice (some ⟨_,0,none⟩) 1 1) (ak _ _) (hC.trans ((ak _ _).mono hC.size)) ⟨_,rfl,iq _ 8 _⟩
   apply dQ.step
   case aJ=>intro β A w' hβ hC hO hD;simp[Act.eval]at hD;obtain⟨Xx,Xy,aR8,Xz,Oe⟩:=hD;simp[go_sem,gd,Oper.wp,Xx,Xy,Xz];refine(jO p w' aB aD aA ay _ bK _ aU bs bt bc h.nm [8] _ 1 hi (by decide) (HP.o.same hC) Oe (HK.o _ hC)).mono ?_;rintro e' w2 ⟨rfl,hb⟩;exact aG.mk hb (hC.trans (hb.mono hC.size)) (aW.mk _ _)
   apply dQ.step
   case aJ=>intro β A w' hβ hC hO hD;have e0:=hO 0 (by rfl);have e3:=hO 3 (by rfl);simp[Act.eval]at e0 e3;simp[Act.eval]at hD;simp[go_sem,gd,Oper.wp,e0,e3,hD];exact aG.mk (Below.refl _ _) hC (aW.mk _ _)
   refine dQ.some (λv w'=> ∃b,v= .slice (some ⟨b,0,none⟩) 2 2∧eH w' w'.heap.size [7,8] (some ⟨b,0,none⟩) 0) ?_ ?_ ?_
   ·rintro v w w' hle ⟨b,rfl,hin⟩;exact⟨b,rfl,hin.same hle⟩
   ·intro β A w' hβ hC hO hD;simp[go_sem,gd,Oper.wp];exact aG.mk (d:=_) (v:= .slice (some ⟨_,0,none⟩) 2 2) (ak _ _) (hC.trans ((ak _ _).mono hC.size)) ⟨_,rfl,kM _ 7 8 _⟩
   apply dQ.step
   case aJ=>intro β A w' hβ hC hO hD;simp[Act.eval]at hD;obtain⟨XA,⟨aR9,XB,Og⟩,-⟩:=hD;simp[go_sem,gd,Oper.wp,XA,XB];refine(hq ▸ kH p w' aB aD aA ay (j:Int) bK aU bs bt bc ar [7,8] _ 2 (by decide) Og jd.o (jy.o.same hC) (HK.o _ hC)).mono ?_;rintro e' w2 ⟨rfl,hb⟩;exact aG.mk hb (hC.trans (hb.mono hC.size)) (aW.mk _ _)
   apply dQ.step
   case aJ=>intro β A w' hβ hC hO hD;have e0:=hO 0 (by rfl);have e3:=hO 3 (by rfl);simp[Act.eval]at e0 e3;simp[Act.eval]at hD;simp[go_sem,gd,Oper.wp,e0,e3,hD];exact aG.mk (Below.refl _ _) hC (aW.mk _ _)
   iterate 5
    refine dQ.step (v:=undef) ?_ ?_
    ·intro β A w' hβ hC hO hD;simp[Act.eval]at hD;simp[gd,Act.eval,hD]
     first|done|exact aW.mk _ _|exact⟨by rfl,aW.mk _ _⟩
   apply dQ.step
   case aJ=>intro β A w' hβ hC hO hD;have e0:=hO 0 (by rfl);have e3:=hO 3 (by rfl);simp[Act.eval]at e0 e3;simp[Act.eval]at hD;simp[go_sem,gd,Oper.wp,e0,e3,hD];exact aG.mk (Below.refl _ _) hC (aW.mk _ _)
   apply dQ.step
   case aJ=>intro β A w' hβ hC hO hD;simp[Act.eval]at hD;simp[go_sem,gd,Oper.wp,hD];refine(lu true w').mono ?_;rintro e' w2 ⟨rfl,rfl⟩;exact aG.mk (Below.refl _ _) hC (aW.mk _ _)
   refine dQ.some (λv w'=> ∃b,v= .slice (some ⟨b,0,none⟩) 2 2∧eH w' w'.heap.size [dh (mean p (j:Int) h.nm) [8],nest true] (some ⟨b,0,none⟩) 0) ?_ ?_ ?_
   ·rintro v w w' hle ⟨b,rfl,hin⟩;exact⟨b,rfl,hin.same hle⟩
   ·intro β A w' hβ hC hO hD;simp[Act.eval]at hD;simp[go_sem,gd,Oper.wp,hD];exact aG.mk (d:=_) (v:= .slice (some ⟨_,0,none⟩) 2 2) (ak _ _) (hC.trans ((ak _ _).mono hC.size)) ⟨_,rfl,kM _ _ _ _⟩
   apply dQ.step
   case aJ=>intro β A w' hβ hC hO hD;simp[Act.eval]at hD;obtain⟨⟨aS0,XC,Oh⟩,-⟩:=hD;simp[go_sem,gd,Oper.wp,XC];refine(jL [dh (mean p (j:Int) h.nm) [8],nest true] w' _ _ (by simp[maxLen]) Oh).mono ?_;rintro e' w2 ⟨rfl,rfl⟩;exact aG.mk (Below.refl _ _) hC (aW.mk _ _)
   apply dQ.step
   case aJ=>intro β A w' hβ hC hO hD;have e0:=hO 0 (by rfl);have e3:=hO 3 (by rfl);simp[Act.eval]at e0 e3;simp[Act.eval]at hD;simp[go_sem,gd,Oper.wp,e0,e3,hD];exact aG.mk (Below.refl _ _) hC (aW.mk _ _)
   intro wz bH;intro v0 h0 v1 h1 v2 h2 v3 h3 v4 h4 v5 h5 v6 h6 v7 h7 v8 h8 v9 h9 v10 h10 v11 h11 v12 h12 v13 Az v14 um v15 zA v16 h16 v17 GK v18 h18;have hl':v18=_:=h18;subst hl';clear h0 h1 h2 h3 h4 h5 h6 h7 h8 h9 h10 h11 h12 Az um zA h16 GK h18;refine dA.nil ?_;go_wp2_with fail;go_ret;exact⟨aV (by first|exact HR.o|exact HR.o.symm|(rw[<- HR.o];first|rfl|simp_all)),(HX.o.next bH).1⟩
end
end Go.Proofs.YtkmllehjemjgpaaGreatDoor
