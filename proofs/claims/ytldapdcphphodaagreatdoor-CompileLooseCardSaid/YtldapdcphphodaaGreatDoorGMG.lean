/- Contract of the checker's statement: where nothing is noted. And what hangs on it. -/
import Derived.Test.YtldapdcphphodaaGreatDoorGME
set_option linter.unusedSimpArgs false
set_option linter.unusedVariables false
set_option maxHeartbeats 40000000
set_option maxRecDepth 1000000
namespace Go.Proofs.YtldapdcphphodaaGreatDoor
open Go.RowKit
open Md
section
variable (p:Pr) (w:World) (aK aM:Option Addr) (aG aD:Nat) (i:Int) (dx:Option Addr) (bV bs bt bc:Nat)
theorem qP (h:dM) (b e ar:aY) (s:Sl) (hi:dD i) (hp:p.At w aK aM) (hin:Dm w h b e s) (eD:dZ w) (har:ar.len<=maxLen) (hat:ar.At w w.heap.size dx 0) (hh:Holds w (uG bc p aK aM aG aD i dx ar.len bV bs bt)) {res:Int} (hc:
 ((h.op<1∨15<h.op)∧0=res)∨
 (h.op=1∧Gi p i h=res)∨
 ((h.op=2∨h.op=3)∧kZ p i h.dQ h.xn h.dP h.bG=res)∨
 (h.op=4∧fQ [dU (mean p i h.nm) [4],nest (fG ar [7]||qR ar h.nm [4])]=res)∨
 ((h.op=5∨h.op=6)∧fQ [dU (mean p i h.nm) [5],nest (fG ar [7]||qR ar h.nm [5,6])]=res)∨
 (h.op=7∧nest (fG ar [7])=res)∨
 (h.op=8∧nest (fG ar [7,8])=res)∨
 ((h.op=9∨h.op=10∨h.op=11)∧fQ [dU (mean p i h.nm) [6],nest ((fG ar [7]|| !qR ar (pE p.ds h.nm) [4])||(h.op==9&&fG ar [8]))]=res)∨
 (h.op=15∧fQ [dU (mean p i h.nm) [1],dU (mean p i h.arg) [7],nest (fG ar [7])]=res)∨
 (h.op=13∧∃(j:Nat) (t:Th) (r:List Th),i=(j:Int)∧p.ts.drop j=t::r∧fQ [dU (mean p i h.nm) [8],nest (fG ar [7,8]||h.nm.toList==t.nm.toList)]=res)):
 Calls Tryz.prog 91 #[.pointer (some ⟨bc,0,none⟩),jH h b e s] w λe' w'=>e'= .returned (.int .i64 res)∧Below w.heap.size w w':=by
 have HH:=ah (show Sit w w _ from⟨ak _ _,hh⟩);obtain⟨fM,eU,fD,dS,dL,cK,gJ,fH⟩:=s;have hxk:=hin.1.2.2.2.2.2.1;have hns:=hin.1.2.2.1;have lZ:=ah hin;have K8:=ah hc;clear hc;unfold jH;dsimp only;go_enter Tryz.func91,Tryz.ntmps91;go_upto_region 1 with fail;generalize hW:World.alloc w _=W;generalize Value.agg #[_,_,_,_,_,_,_,_,_,_,_]=a0;have HX:aj (Sit w W (qY w.heap.size h b e ⟨fM,eU,fD,dS,dL,cK,gJ,fH⟩ (uG bc p aK aM aG aD i dx ar.len bV bs bt))):=ah aaV;clear hW HH;have HP:=ah (hp.same HX.o.1);have jc:=ah (eD.same HX.o.1);have OA:=ah (hin.2.2.1.same HX.o.1);have jZ:=ah (hat.same HX.o.1);have jM:=ah har;have HK:aj (∀w',Below W.heap.size W w'->Holds w' (uG bc p aK aM aG aD i dx ar.len bV bs bt)):=ah (λw' hb=>(HX.o.next hb).2.2.2.2.2.2.2.2.2.2.2.2);clear hp eD hh hin hat har;have L0: ∀w',Below W.heap.size W w'->w'.cell? ⟨w.heap.size,0,none⟩=some (.int .i64 h.op):=λw' hb=>(HX.o.next hb).2.1.2;have L2: ∀w',Below W.heap.size W w'->w'.cell? ⟨w.heap.size,2,none⟩=some (.string h.nm):=λw' hb=>(HX.o.next hb).2.2.2.1.2;have L3: ∀w',Below W.heap.size W w'->w'.cell? ⟨w.heap.size,3,none⟩=some (.string h.arg):=λw' hb=>(HX.o.next hb).2.2.2.2.1.2;have L5: ∀w',Below W.heap.size W w'->w'.cell? ⟨w.heap.size,5,none⟩=some (.int .i64 h.dQ):=λw' hb=>(HX.o.next hb).2.2.2.2.2.2.1.2;have L6: ∀w',Below W.heap.size W w'->w'.cell? ⟨w.heap.size,6,none⟩=some (.int .i64 h.xn):=λw' hb=>(HX.o.next hb).2.2.2.2.2.2.2.1.2;have L7: ∀w',Below W.heap.size W w'->w'.cell? ⟨w.heap.size,7,none⟩=some (.string h.dP):=λw' hb=>(HX.o.next hb).2.2.2.2.2.2.2.2.1.2;have L8: ∀w',Below W.heap.size W w'->w'.cell? ⟨w.heap.size,8,none⟩=some (.slice fD h.bG.len dS):=λw' hb=>(HX.o.next hb).2.2.2.2.2.2.2.2.2.1.2;have hB:Below W.heap.size W W:=ak _ _;have l0:=L0 W hB;rcases K8.o with⟨hop,hr⟩|⟨hop,hr⟩|⟨hop,hr⟩|⟨hop,hr⟩|⟨hop,hr⟩|⟨hop,hr⟩|⟨hop,hr⟩|⟨hop,hr⟩|⟨hop,hr⟩|⟨hop,j,t,r,rfl,hd,hr⟩
 all_goals have HR:=ah hr;clear hr K8
 ·have gg: ∀k:Int,1<=k->k<=15->(h.op==k)=false:=λk h1 h2=>by rw[beq_eq_false_iff_ne];omega
  have g1:=gg 1 ahf ahf;have g2:=gg 2 ahf ahf;have g3:=gg 3 ahf ahf;have g4:=gg 4 ahf ahf;have g5:=gg 5 ahf ahf;have g6:=gg 6 ahf ahf;have g7:=gg 7 ahf ahf;have g8:=gg 8 ahf ahf;have g9:=gg 9 ahf ahf;have g10:=gg 10 ahf ahf;have g11:=gg 11 ahf ahf;have g12:=gg 12 ahf ahf;have g13:=gg 13 ahf ahf;have g14:=gg 14 ahf ahf;have g15:=gg 15 ahf ahf;clear hop gg;go_wp2_with fail;go_ret;exact⟨bW HR.o,HX.o.1⟩
 ·obtain⟨g1,g2,g3,g4,g5,g6,g7,g8,g9,g10,g11,g12,g13,g14,g15⟩:=op1 hop;clear hop;have lA:=(HX.o.2).2.1.2;have lB:=(HX.o.2).2.2.2.2.1.2;have lC:=(HX.o.2).2.2.2.2.2.2.2.2.2.1.2;have lD:=(HX.o.2).2.2.2.2.2.2.2.2.2.2.1.2;have l2:=L2 W hB;have l3:=L3 W hB;go_wp2_with fail;refine(PW p _ aK aM aG aD i dx ar.len bV bs bt bc h b e ⟨fM,eU,fD,dS,dL,cK,gJ,fH⟩ hi (HP.o.same hB) (lZ.o.same HX.o.1) (jc.o.same hB) (HK.o _ hB)).mono ?_;rintro e' w1 ⟨rfl,hb⟩;replace hB:=hB.trans (hb.mono hB.size);clear hb;go_wp2_with fail;go_ret;exact⟨bW aaq,aar⟩
 ·rcases hop with hop|hop
  all_goals
   first|obtain⟨g1,g2,g3,g4,g5,g6,g7,g8,g9,g10,g11,g12,g13,g14,g15⟩:=op2 hop|obtain⟨g1,g2,g3,g4,g5,g6,g7,g8,g9,g10,g11,g12,g13,g14,g15⟩:=Ye hop
   clear hop;go_wp2_with fail;refine(xY p _ aK aM aG aD i dx ar.len bV bs bt bc h.dQ h.xn h.dP h.bG fD dS hi (HP.o.same hB) hxk (OA.o.same hB) (jc.o.same hB) (HK.o _ hB)).mono ?_;rintro e' w1 ⟨rfl,hb⟩;replace hB:=hB.trans (hb.mono hB.size);clear hb;go_wp2_with fail;go_ret;exact⟨bW aaq,aar⟩
 ·obtain⟨g1,g2,g3,g4,g5,g6,g7,g8,g9,g10,g11,g12,g13,g14,g15⟩:=Yf hop;clear hop;cases hq:fG ar [7] <;> cases hq2:qR ar h.nm [4]
  all_goals
   repeat
    go_wp2_with fail
    first
    |(go_at_call 128;refine(mO _ _).mono ?_;rintro e' wn ⟨rfl,rfl⟩)
    |(go_at_call 126;refine(kI [_,_] _ _ 2 ahq (lW _ _ _ _)).mono ?_;rintro e' wf ⟨rfl,rfl⟩)
    |(go_at_call 131;refine(tC p _ aK aM aG aD i dx ar.len bV bs bt bc h.nm (HP.o.same hB) (HK.o _ hB)).mono ?_;rintro e' w1 ⟨rfl,hb⟩;replace hB:=hB.trans (hb.mono hB.size);clear hb)
    |(first
      |(go_at_call 127;refine(kM p _ aK aM aG aD i dx ar.len bV bs bt bc h.nm [_] _ 1 hi ahf (HP.o.same (hB.alloc hB.size _)) (iU _ _ _) (HK.o _ (hB.alloc hB.size _))).mono ?_)
      |(go_at_call 129;refine(lN p _ aK aM aG aD i dx bV bs bt bc ar [_] _ 1 ahf (iU _ _ _) jM.o (jZ.o.same (hB.alloc hB.size _)) (HK.o _ (hB.alloc hB.size _))).mono ?_)
      |(go_at_call 130;refine(pz p _ aK aM aG aD i dx bV bs bt bc ar _ [_] _ 1 ahf (iU _ _ _) jM.o (jZ.o.same (hB.alloc hB.size _)) (HK.o _ (hB.alloc hB.size _))).mono ?_)
      rintro e' w1 ⟨rfl,hb⟩;replace hB:=(hB.alloc hB.size _).trans (hb.mono (hB.alloc hB.size _).size);clear hb)
   go_wp2_with fail;go_ret;exact⟨bW aaq,aar⟩
 ·rcases hop with hop|hop
  all_goals
   first|obtain⟨g1,g2,g3,g4,g5,g6,g7,g8,g9,g10,g11,g12,g13,g14,g15⟩:=Yg hop|obtain⟨g1,g2,g3,g4,g5,g6,g7,g8,g9,g10,g11,g12,g13,g14,g15⟩:=Yh hop
   clear hop;cases hq:fG ar [7] <;> cases hq2:qR ar h.nm [5,6]
  all_goals
   repeat
    go_wp2_with fail
    first
    |(go_at_call 128;refine(mO _ _).mono ?_;rintro e' wn ⟨rfl,rfl⟩)
    |(go_at_call 126;refine(kI [_,_] _ _ 2 ahq (lW _ _ _ _)).mono ?_;rintro e' wf ⟨rfl,rfl⟩)
    |(go_at_call 131;refine(tC p _ aK aM aG aD i dx ar.len bV bs bt bc h.nm (HP.o.same hB) (HK.o _ hB)).mono ?_;rintro e' w1 ⟨rfl,hb⟩;replace hB:=hB.trans (hb.mono hB.size);clear hb)
    |(first
      |(go_at_call 127;refine(kM p _ aK aM aG aD i dx ar.len bV bs bt bc h.nm [_] _ 1 hi ahf (HP.o.same (hB.alloc hB.size _)) (iU _ _ _) (HK.o _ (hB.alloc hB.size _))).mono ?_)
      |(go_at_call 129;refine(lN p _ aK aM aG aD i dx bV bs bt bc ar [_] _ 1 ahf (iU _ _ _) jM.o (jZ.o.same (hB.alloc hB.size _)) (HK.o _ (hB.alloc hB.size _))).mono ?_)
      |(go_at_call 130;refine(pz p _ aK aM aG aD i dx bV bs bt bc ar _ [_,_] _ 2 ahf (lW _ _ _ _) jM.o (jZ.o.same (hB.alloc hB.size _)) (HK.o _ (hB.alloc hB.size _))).mono ?_)
      rintro e' w1 ⟨rfl,hb⟩;replace hB:=(hB.alloc hB.size _).trans (hb.mono (hB.alloc hB.size _).size);clear hb)
   go_wp2_with fail;go_ret;exact⟨bW aaq,aar⟩
 ·obtain⟨g1,g2,g3,g4,g5,g6,g7,g8,g9,g10,g11,g12,g13,g14,g15⟩:=Yi hop;clear hop
  repeat
   go_wp2_with fail
   first
   |(go_at_call 128;refine(mO _ _).mono ?_;rintro e' wn ⟨rfl,rfl⟩)
   |(go_at_call 126;refine(kI [_,_] _ _ 2 ahq (lW _ _ _ _)).mono ?_;rintro e' wf ⟨rfl,rfl⟩)
   |(go_at_call 131;refine(tC p _ aK aM aG aD i dx ar.len bV bs bt bc h.nm (HP.o.same hB) (HK.o _ hB)).mono ?_;rintro e' w1 ⟨rfl,hb⟩;replace hB:=hB.trans (hb.mono hB.size);clear hb)
   |(first
     |(go_at_call 127;refine(kM p _ aK aM aG aD i dx ar.len bV bs bt bc h.nm [_] _ 1 hi ahf (HP.o.same (hB.alloc hB.size _)) (iU _ _ _) (HK.o _ (hB.alloc hB.size _))).mono ?_)
     |(go_at_call 129;refine(lN p _ aK aM aG aD i dx bV bs bt bc ar [_] _ 1 ahf (iU _ _ _) jM.o (jZ.o.same (hB.alloc hB.size _)) (HK.o _ (hB.alloc hB.size _))).mono ?_)
     |(go_at_call 130;refine(pz p _ aK aM aG aD i dx bV bs bt bc ar _ [_] _ 1 ahf (iU _ _ _) jM.o (jZ.o.same (hB.alloc hB.size _)) (HK.o _ (hB.alloc hB.size _))).mono ?_)
     rintro e' w1 ⟨rfl,hb⟩;replace hB:=(hB.alloc hB.size _).trans (hb.mono (hB.alloc hB.size _).size);clear hb)
  go_wp2_with fail;go_ret;exact⟨bW aaq,aar⟩
 ·obtain⟨g1,g2,g3,g4,g5,g6,g7,g8,g9,g10,g11,g12,g13,g14,g15⟩:=Yj hop;clear hop
  repeat
   go_wp2_with fail
   first
   |(go_at_call 128;refine(mO _ _).mono ?_;rintro e' wn ⟨rfl,rfl⟩)
   |(go_at_call 126;refine(kI [_,_] _ _ 2 ahq (lW _ _ _ _)).mono ?_;rintro e' wf ⟨rfl,rfl⟩)
   |(go_at_call 131;refine(tC p _ aK aM aG aD i dx ar.len bV bs bt bc h.nm (HP.o.same hB) (HK.o _ hB)).mono ?_;rintro e' w1 ⟨rfl,hb⟩;replace hB:=hB.trans (hb.mono hB.size);clear hb)
   |(first
     |(go_at_call 127;refine(kM p _ aK aM aG aD i dx ar.len bV bs bt bc h.nm [_] _ 1 hi ahf (HP.o.same (hB.alloc hB.size _)) (iU _ _ _) (HK.o _ (hB.alloc hB.size _))).mono ?_)
     |(go_at_call 129;refine(lN p _ aK aM aG aD i dx bV bs bt bc ar [_,_] _ 2 ahf (lW _ _ _ _) jM.o (jZ.o.same (hB.alloc hB.size _)) (HK.o _ (hB.alloc hB.size _))).mono ?_)
     |(go_at_call 130;refine(pz p _ aK aM aG aD i dx bV bs bt bc ar _ [_] _ 1 ahf (iU _ _ _) jM.o (jZ.o.same (hB.alloc hB.size _)) (HK.o _ (hB.alloc hB.size _))).mono ?_)
     rintro e' w1 ⟨rfl,hb⟩;replace hB:=(hB.alloc hB.size _).trans (hb.mono (hB.alloc hB.size _).size);clear hb)
  go_wp2_with fail;go_ret;exact⟨bW aaq,aar⟩
 ·rcases hop with hop|hop|hop
  all_goals
   first|obtain⟨g1,g2,g3,g4,g5,g6,g7,g8,g9,g10,g11,g12,g13,g14,g15⟩:=Yk hop|obtain⟨g1,g2,g3,g4,g5,g6,g7,g8,g9,g10,g11,g12,g13,g14,g15⟩:=QM hop|obtain⟨g1,g2,g3,g4,g5,g6,g7,g8,g9,g10,g11,g12,g13,g14,g15⟩:=QN hop
   clear hop;cases hq:fG ar [7] <;> cases hq2:qR ar (pE p.ds h.nm) [4] <;> cases hq3:fG ar [8]
  all_goals
   repeat
    go_wp2_with fail
    first
    |(go_at_call 128;refine(mO _ _).mono ?_;rintro e' wn ⟨rfl,rfl⟩)
    |(go_at_call 126;refine(kI [_,_] _ _ 2 ahq (lW _ _ _ _)).mono ?_;rintro e' wf ⟨rfl,rfl⟩)
    |(go_at_call 131;refine(tC p _ aK aM aG aD i dx ar.len bV bs bt bc h.nm (HP.o.same hB) (HK.o _ hB)).mono ?_;rintro e' w1 ⟨rfl,hb⟩;replace hB:=hB.trans (hb.mono hB.size);clear hb)
    |(first
      |(go_at_call 127;refine(kM p _ aK aM aG aD i dx ar.len bV bs bt bc h.nm [_] _ 1 hi ahf (HP.o.same (hB.alloc hB.size _)) (iU _ _ _) (HK.o _ (hB.alloc hB.size _))).mono ?_)
      |(go_at_call 129;refine(lN p _ aK aM aG aD i dx bV bs bt bc ar [_] _ 1 ahf (iU _ _ _) jM.o (jZ.o.same (hB.alloc hB.size _)) (HK.o _ (hB.alloc hB.size _))).mono ?_)
      |(go_at_call 130;refine(pz p _ aK aM aG aD i dx bV bs bt bc ar _ [_] _ 1 ahf (iU _ _ _) jM.o (jZ.o.same (hB.alloc hB.size _)) (HK.o _ (hB.alloc hB.size _))).mono ?_)
      rintro e' w1 ⟨rfl,hb⟩;replace hB:=(hB.alloc hB.size _).trans (hb.mono (hB.alloc hB.size _).size);clear hb)
   go_wp2_with fail;go_ret;exact⟨bW aaq,aar⟩
 ·obtain⟨g1,g2,g3,g4,g5,g6,g7,g8,g9,g10,g11,g12,g13,g14,g15⟩:=QU hop;clear hop;go_upto_region 27 with fail;refine rX (λw'=>Below W.heap.size W w') (λw w'=>Below w.heap.size w w') [193,194,195,196,197,198,199,200,201,202,203,204,205,206,207,208,4] ahd ahd (λ_=>ak _ _) aip (below_drewN (ak _ _) 1) ?_
  iterate 3
   apply eZ.step
   case aZ=>intro β A w' hβ hC hO hD;have e0:=hO 0 aip;have e3:=hO 3 aip;simp[Act.eval]at e0 e3;simp[Act.eval]at hD;simp[go_sem,gd,Oper.wp,e0,e3,hD,L2,hC];exact aO.mk (ak _ _) hC (bT.mk _ _)
  refine eZ.some (λv w'=> ∃b,v= .slice (some ⟨b,0,none⟩) 1 1∧fV w' w'.heap.size [1] (some ⟨b,0,none⟩) 0) ?_ ?_ ?_
  ·rintro v w w' hle ⟨b,rfl,hin⟩;exact⟨b,rfl,hin.same hle⟩
  ·intro β A w' hβ hC hO hD;simp[go_sem,gd,Oper.wp];exact aO.mk (d:=_) (v:= .slice (some ⟨_,0,none⟩) 1 1) (aA _ _) (hC.trans ((aA _ _).mono hC.size)) ⟨_,rfl,iU _ 1 _⟩
  apply eZ.step
  case aZ=>intro β A w' hβ hC hO hD;simp[Act.eval]at hD;obtain⟨bn3,bn4,bC8,bn5,aJ8⟩:=hD;simp[go_sem,gd,Oper.wp,bn3,bn4,bn5];refine(kM p w' aK aM aG aD _ dx _ bV bs bt bc h.nm [1] _ 1 hi ahf (HP.o.same hC) aJ8 (HK.o _ hC)).mono ?_;rintro e' w2 ⟨rfl,hb⟩;exact aO.mk hb (hC.trans (hb.mono hC.size)) (bT.mk _ _)
  iterate 3
   apply eZ.step
   case aZ=>intro β A w' hβ hC hO hD;have e0:=hO 0 aip;have e3:=hO 3 aip;simp[Act.eval]at e0 e3;simp[Act.eval]at hD;simp[go_sem,gd,Oper.wp,e0,e3,hD,L3,hC];exact aO.mk (ak _ _) hC (bT.mk _ _)
  refine eZ.some (λv w'=> ∃b,v= .slice (some ⟨b,0,none⟩) 1 1∧fV w' w'.heap.size [7] (some ⟨b,0,none⟩) 0) ?_ ?_ ?_
  ·rintro v w w' hle ⟨b,rfl,hin⟩;exact⟨b,rfl,hin.same hle⟩
  ·intro β A w' hβ hC hO hD;simp[go_sem,gd,Oper.wp];exact aO.mk (d:=_) (v:= .slice (some ⟨_,0,none⟩) 1 1) (aA _ _) (hC.trans ((aA _ _).mono hC.size)) ⟨_,rfl,iU _ 7 _⟩
  apply eZ.step
  case aZ=>intro β A w' hβ hC hO hD;simp[Act.eval]at hD;obtain⟨bn6,bn7,⟨bC9,bn8,aJ9⟩,-⟩:=hD;simp[go_sem,gd,Oper.wp,bn6,bn7,bn8];refine(kM p w' aK aM aG aD _ dx _ bV bs bt bc h.arg [7] _ 1 hi ahf (HP.o.same hC) aJ9 (HK.o _ hC)).mono ?_;rintro e' w2 ⟨rfl,hb⟩;exact aO.mk hb (hC.trans (hb.mono hC.size)) (bT.mk _ _)
  apply eZ.step
  case aZ=>intro β A w' hβ hC hO hD;have e0:=hO 0 aip;have e3:=hO 3 aip;simp[Act.eval]at e0 e3;simp[Act.eval]at hD;simp[go_sem,gd,Oper.wp,e0,e3,hD];exact aO.mk (ak _ _) hC (bT.mk _ _)
  refine eZ.some (λv w'=> ∃b,v= .slice (some ⟨b,0,none⟩) 1 1∧fV w' w'.heap.size [7] (some ⟨b,0,none⟩) 0) ?_ ?_ ?_
  ·rintro v w w' hle ⟨b,rfl,hin⟩;exact⟨b,rfl,hin.same hle⟩
  ·intro β A w' hβ hC hO hD;simp[go_sem,gd,Oper.wp];exact aO.mk (d:=_) (v:= .slice (some ⟨_,0,none⟩) 1 1) (aA _ _) (hC.trans ((aA _ _).mono hC.size)) ⟨_,rfl,iU _ 7 _⟩
  apply eZ.step
  case aZ=>intro β A w' hβ hC hO hD;simp[Act.eval]at hD;obtain⟨bn9,⟨bD0,bo0,aK0⟩,-⟩:=hD;simp[go_sem,gd,Oper.wp,bn9,bo0];refine(lN p w' aK aM aG aD _ dx bV bs bt bc ar [7] _ 1 ahf aK0 jM.o (jZ.o.same hC) (HK.o _ hC)).mono ?_;rintro e' w2 ⟨rfl,hb⟩;exact aO.mk hb (hC.trans (hb.mono hC.size)) (bT.mk _ _)
  apply eZ.step
  case aZ=>intro β A w' hβ hC hO hD;simp[Act.eval]at hD;simp[go_sem,gd,Oper.wp,hD];refine(mO (fG ar [7]) w').mono ?_;rintro e' w2 ⟨rfl,rfl⟩;exact aO.mk (ak _ _) hC (bT.mk _ _)
  refine eZ.some (λv w'=> ∃b,v= .slice (some ⟨b,0,none⟩) 3 3∧fV w' w'.heap.size [dU (mean p i h.nm) [1],dU (mean p i h.arg) [7],nest (fG ar [7])] (some ⟨b,0,none⟩) 0) ?_ ?_ ?_
  ·rintro v w w' hle ⟨b,rfl,hin⟩;exact⟨b,rfl,hin.same hle⟩
  ·intro β A w' hβ hC hO hD;simp[Act.eval]at hD;simp[go_sem,gd,Oper.wp,hD];exact aO.mk (d:=_) (v:= .slice (some ⟨_,0,none⟩) 3 3) (aA _ _) (hC.trans ((aA _ _).mono hC.size)) ⟨_,rfl,AY _ _ _ _ _⟩
  apply eZ.step
  case aZ=>intro β A w' hβ hC hO hD;simp[Act.eval]at hD;obtain⟨⟨bD1,bo1,aK1⟩,-⟩:=hD;simp[go_sem,gd,Oper.wp,bo1];refine(kI [dU (mean p i h.nm) [1],dU (mean p i h.arg) [7],nest (fG ar [7])] w' _ _ ahq aK1).mono ?_;rintro e' w2 ⟨rfl,rfl⟩;exact aO.mk (ak _ _) hC (bT.mk _ _)
  apply eZ.step
  case aZ=>intro β A w' hβ hC hO hD;have e0:=hO 0 aip;have e3:=hO 3 aip;simp[Act.eval]at e0 e3;simp[Act.eval]at hD;simp[go_sem,gd,Oper.wp,e0,e3,hD];exact aO.mk (ak _ _) hC (bT.mk _ _)
  intro wz bR;intro v0 h0 v1 h1 v2 h2 v3 h3 v4 h4 v5 h5 v6 h6 v7 h7 v8 h8 v9 h9 v10 h10 v11 h11 v12 h12 v13 tY v14 qD v15 uL v16 h16;have hl':v16=_:=h16;subst hl';clear h0 h1 h2 h3 h4 h5 h6 h7 h8 h9 h10 h11 h12 tY qD uL h16;refine dH.nil ?_;go_wp2_with fail;go_ret;exact⟨bW aaq,(HX.o.next bR).1⟩
 ·obtain⟨g1,g2,g3,g4,g5,g6,g7,g8,g9,g10,g11,g12,g13,g14,g15⟩:=QS hop;clear hop;go_upto_region 23 with fail;cases hq:fG ar [7,8]
  ·refine rX (λw'=>Below W.heap.size W w') (λw w'=>Below w.heap.size w w') [149,150,151,152,153,154,155,156,157,158,159,160,161,162,163,164,165,166,4] ahd ahd (λ_=>ak _ _) aip (below_drewN (ak _ _) 1) ?_
   iterate 3
    apply eZ.step
    case aZ=>intro β A w' hβ hC hO hD;have e0:=hO 0 aip;have e3:=hO 3 aip;simp[Act.eval]at e0 e3;simp[Act.eval]at hD;simp[go_sem,gd,Oper.wp,e0,e3,hD,L2,hC];exact aO.mk (ak _ _) hC (bT.mk _ _)
   refine eZ.some (λv w'=> ∃b,v= .slice (some ⟨b,0,none⟩) 1 1∧fV w' w'.heap.size [8] (some ⟨b,0,none⟩) 0) ?_ ?_ ?_
   ·rintro v w w' hle ⟨b,rfl,hin⟩;exact⟨b,rfl,hin.same hle⟩
   ·intro β A w' hβ hC hO hD;simp[go_sem,gd,Oper.wp];exact aO.mk (d:=_) (v:= .slice (some ⟨_,0,none⟩) 1 1) (aA _ _) (hC.trans ((aA _ _).mono hC.size)) ⟨_,rfl,iU _ 8 _⟩
   apply eZ.step
   case aZ=>intro β A w' hβ hC hO hD;simp[Act.eval]at hD;obtain⟨ZX,ZY,bl3,aa0,Qs⟩:=hD;simp[go_sem,gd,Oper.wp,ZX,ZY,aa0];refine(kM p w' aK aM aG aD _ dx _ bV bs bt bc h.nm [8] _ 1 hi ahf (HP.o.same hC) Qs (HK.o _ hC)).mono ?_;rintro e' w2 ⟨rfl,hb⟩;exact aO.mk hb (hC.trans (hb.mono hC.size)) (bT.mk _ _)
   apply eZ.step
   case aZ=>intro β A w' hβ hC hO hD;have e0:=hO 0 aip;have e3:=hO 3 aip;simp[Act.eval]at e0 e3;simp[Act.eval]at hD;simp[go_sem,gd,Oper.wp,e0,e3,hD];exact aO.mk (ak _ _) hC (bT.mk _ _)
   refine eZ.some (λv w'=> ∃b,v= .slice (some ⟨b,0,none⟩) 2 2∧fV w' w'.heap.size [7,8] (some ⟨b,0,none⟩) 0) ?_ ?_ ?_
   ·rintro v w w' hle ⟨b,rfl,hin⟩;exact⟨b,rfl,hin.same hle⟩
   ·intro β A w' hβ hC hO hD;simp[go_sem,gd,Oper.wp];exact aO.mk (d:=_) (v:= .slice (some ⟨_,0,none⟩) 2 2) (aA _ _) (hC.trans ((aA _ _).mono hC.size)) ⟨_,rfl,lW _ 7 8 _⟩
   apply eZ.step
   case aZ=>intro β A w' hβ hC hO hD;simp[Act.eval]at hD;obtain⟨aa1,⟨bl4,aa2,Qt⟩,-⟩:=hD;simp[go_sem,gd,Oper.wp,aa1,aa2];refine(hq ▸ lN p w' aK aM aG aD (j:Int) dx bV bs bt bc ar [7,8] _ 2 ahf Qt jM.o (jZ.o.same hC) (HK.o _ hC)).mono ?_;rintro e' w2 ⟨rfl,hb⟩;exact aO.mk hb (hC.trans (hb.mono hC.size)) (bT.mk _ _)
   iterate 4
    apply eZ.step
    case aZ=>intro β A w' hβ hC hO hD;have e0:=hO 0 aip;have e3:=hO 3 aip;simp[Act.eval]at e0 e3;simp[Act.eval]at hD;simp[go_sem,gd,Oper.wp,e0,e3,hD,L2,hC];exact aO.mk (ak _ _) hC (bT.mk _ _)
   apply eZ.step
   case aZ=>intro β A w' hβ hC hO hD;simp[Act.eval]at hD;simp[go_sem,gd,Oper.wp,hD];refine(Nw p w' aK aM aG aD dx ar.len bV bs bt bc j t r hd (HP.o.same hC) (HK.o _ hC)).mono ?_;rintro e' w2 ⟨rfl,hb⟩;exact aO.mk hb (hC.trans (hb.mono hC.size)) (bT.mk _ _)
   iterate 2
    apply eZ.step
    case aZ=>intro β A w' hβ hC hO hD;have e0:=hO 0 aip;have e3:=hO 3 aip;simp[Act.eval]at e0 e3;simp[Act.eval]at hD;simp[go_sem,gd,Oper.wp,e0,e3,hD];exact aO.mk (ak _ _) hC (bT.mk _ _)
   apply eZ.step
   case aZ=>intro β A w' hβ hC hO hD;simp[Act.eval]at hD;simp[go_sem,gd,Oper.wp,hD];refine(mO (h.nm.toList==t.nm.toList) w').mono ?_;rintro e' w2 ⟨rfl,rfl⟩;exact aO.mk (ak _ _) hC (bT.mk _ _)
   refine eZ.some (λv w'=> ∃b,v= .slice (some ⟨b,0,none⟩) 2 2∧fV w' w'.heap.size [dU (mean p (j:Int) h.nm) [8],nest (h.nm.toList==t.nm.toList)] (some ⟨b,0,none⟩) 0) ?_ ?_ ?_
   ·rintro v w w' hle ⟨b,rfl,hin⟩;exact⟨b,rfl,hin.same hle⟩
   ·intro β A w' hβ hC hO hD;simp[Act.eval]at hD;simp[go_sem,gd,Oper.wp,hD];exact aO.mk (d:=_) (v:= .slice (some ⟨_,0,none⟩) 2 2) (aA _ _) (hC.trans ((aA _ _).mono hC.size)) ⟨_,rfl,lW _ _ _ _⟩
   apply eZ.step
   case aZ=>intro β A w' hβ hC hO hD;simp[Act.eval]at hD;obtain⟨⟨bl5,aa3,Qu⟩,-⟩:=hD;simp[go_sem,gd,Oper.wp,aa3];refine(kI [dU (mean p (j:Int) h.nm) [8],nest (h.nm.toList==t.nm.toList)] w' _ _ ahq Qu).mono ?_;rintro e' w2 ⟨rfl,rfl⟩;exact aO.mk (ak _ _) hC (bT.mk _ _)
   apply eZ.step
   case aZ=>intro β A w' hβ hC hO hD;have e0:=hO 0 aip;have e3:=hO 3 aip;simp[Act.eval]at e0 e3;simp[Act.eval]at hD;simp[go_sem,gd,Oper.wp,e0,e3,hD];exact aO.mk (ak _ _) hC (bT.mk _ _)
   intro wz bR;intro v0 h0 v1 h1 v2 h2 v3 h3 v4 h4 v5 h5 v6 h6 v7 h7 v8 h8 v9 h9 v10 h10 v11 h11 v12 h12 v13 tY v14 qD v15 uL v16 h16 v17 AA v18 h18;have hl':v18=_:=h18;subst hl';clear h0 h1 h2 h3 h4 h5 h6 h7 h8 h9 h10 h11 h12 tY qD uL h16 AA h18;refine dH.nil ?_;go_wp2_with fail;go_ret;exact⟨bW aaq,(HX.o.next bR).1⟩
  ·refine rX (λw'=>Below W.heap.size W w') (λw w'=>Below w.heap.size w w') [149,150,151,152,153,154,155,156,157,158,159,160,161,162,163,164,165,166,4] ahd ahd (λ_=>ak _ _) aip (below_drewN (ak _ _) 1) ?_
   iterate 3
    apply eZ.step
    case aZ=>intro β A w' hβ hC hO hD;have e0:=hO 0 aip;have e3:=hO 3 aip;simp[Act.eval]at e0 e3;simp[Act.eval]at hD;simp[go_sem,gd,Oper.wp,e0,e3,hD,L2,hC];exact aO.mk (ak _ _) hC (bT.mk _ _)
   refine eZ.some (λv w'=> ∃b,v= .slice (some ⟨b,0,none⟩) 1 1∧fV w' w'.heap.size [8] (some ⟨b,0,none⟩) 0) ?_ ?_ ?_
   ·rintro v w w' hle ⟨b,rfl,hin⟩;exact⟨b,rfl,hin.same hle⟩
   ·intro β A w' hβ hC hO hD;simp[go_sem,gd,Oper.wp];exact aO.mk (d:=_) (v:= .slice (some ⟨_,0,none⟩) 1 1) (aA _ _) (hC.trans ((aA _ _).mono hC.size)) ⟨_,rfl,iU _ 8 _⟩
   apply eZ.step
   case aZ=>intro β A w' hβ hC hO hD;simp[Act.eval]at hD;obtain⟨ZX,ZY,bl3,aa0,Qs⟩:=hD;simp[go_sem,gd,Oper.wp,ZX,ZY,aa0];refine(kM p w' aK aM aG aD _ dx _ bV bs bt bc h.nm [8] _ 1 hi ahf (HP.o.same hC) Qs (HK.o _ hC)).mono ?_;rintro e' w2 ⟨rfl,hb⟩;exact aO.mk hb (hC.trans (hb.mono hC.size)) (bT.mk _ _)
   apply eZ.step
   case aZ=>intro β A w' hβ hC hO hD;have e0:=hO 0 aip;have e3:=hO 3 aip;simp[Act.eval]at e0 e3;simp[Act.eval]at hD;simp[go_sem,gd,Oper.wp,e0,e3,hD];exact aO.mk (ak _ _) hC (bT.mk _ _)
   refine eZ.some (λv w'=> ∃b,v= .slice (some ⟨b,0,none⟩) 2 2∧fV w' w'.heap.size [7,8] (some ⟨b,0,none⟩) 0) ?_ ?_ ?_
   ·rintro v w w' hle ⟨b,rfl,hin⟩;exact⟨b,rfl,hin.same hle⟩
   ·intro β A w' hβ hC hO hD;simp[go_sem,gd,Oper.wp];exact aO.mk (d:=_) (v:= .slice (some ⟨_,0,none⟩) 2 2) (aA _ _) (hC.trans ((aA _ _).mono hC.size)) ⟨_,rfl,lW _ 7 8 _⟩
   apply eZ.step
   case aZ=>intro β A w' hβ hC hO hD;simp[Act.eval]at hD;obtain⟨aa1,⟨bl4,aa2,Qt⟩,-⟩:=hD;simp[go_sem,gd,Oper.wp,aa1,aa2];refine(hq ▸ lN p w' aK aM aG aD (j:Int) dx bV bs bt bc ar [7,8] _ 2 ahf Qt jM.o (jZ.o.same hC) (HK.o _ hC)).mono ?_;rintro e' w2 ⟨rfl,hb⟩;exact aO.mk hb (hC.trans (hb.mono hC.size)) (bT.mk _ _)
   apply eZ.step
   case aZ=>intro β A w' hβ hC hO hD;have e0:=hO 0 aip;have e3:=hO 3 aip;simp[Act.eval]at e0 e3;simp[Act.eval]at hD;simp[go_sem,gd,Oper.wp,e0,e3,hD];exact aO.mk (ak _ _) hC (bT.mk _ _)
   iterate 5
    refine eZ.step (v:=undef) ?_ ?_
    ·intro β A w' hβ hC hO hD;simp[Act.eval]at hD;simp[gd,Act.eval,hD]
     first|done|exact bT.mk _ _|exact⟨aip,bT.mk _ _⟩
   apply eZ.step
   case aZ=>intro β A w' hβ hC hO hD;have e0:=hO 0 aip;have e3:=hO 3 aip;simp[Act.eval]at e0 e3;simp[Act.eval]at hD;simp[go_sem,gd,Oper.wp,e0,e3,hD];exact aO.mk (ak _ _) hC (bT.mk _ _)
   apply eZ.step
   case aZ=>intro β A w' hβ hC hO hD;simp[Act.eval]at hD;simp[go_sem,gd,Oper.wp,hD];refine(mO true w').mono ?_;rintro e' w2 ⟨rfl,rfl⟩;exact aO.mk (ak _ _) hC (bT.mk _ _)
   refine eZ.some (λv w'=> ∃b,v= .slice (some ⟨b,0,none⟩) 2 2∧fV w' w'.heap.size [dU (mean p (j:Int) h.nm) [8],nest true] (some ⟨b,0,none⟩) 0) ?_ ?_ ?_
   ·rintro v w w' hle ⟨b,rfl,hin⟩;exact⟨b,rfl,hin.same hle⟩
   ·intro β A w' hβ hC hO hD;simp[Act.eval]at hD;simp[go_sem,gd,Oper.wp,hD];exact aO.mk (d:=_) (v:= .slice (some ⟨_,0,none⟩) 2 2) (aA _ _) (hC.trans ((aA _ _).mono hC.size)) ⟨_,rfl,lW _ _ _ _⟩
   apply eZ.step
   case aZ=>intro β A w' hβ hC hO hD;simp[Act.eval]at hD;obtain⟨⟨bl5,aa3,Qu⟩,-⟩:=hD;simp[go_sem,gd,Oper.wp,aa3];refine(kI [dU (mean p (j:Int) h.nm) [8],nest true] w' _ _ ahq Qu).mono ?_;rintro e' w2 ⟨rfl,rfl⟩;exact aO.mk (ak _ _) hC (bT.mk _ _)
   apply eZ.step
   case aZ=>intro β A w' hβ hC hO hD;have e0:=hO 0 aip;have e3:=hO 3 aip;simp[Act.eval]at e0 e3;simp[Act.eval]at hD;simp[go_sem,gd,Oper.wp,e0,e3,hD];exact aO.mk (ak _ _) hC (bT.mk _ _)
   intro wz bR;intro v0 h0 v1 h1 v2 h2 v3 h3 v4 h4 v5 h5 v6 h6 v7 h7 v8 h8 v9 h9 v10 h10 v11 h11 v12 h12 v13 tY v14 qD v15 uL v16 h16 v17 AA v18 h18;have hl':v18=_:=h18;subst hl';clear h0 h1 h2 h3 h4 h5 h6 h7 h8 h9 h10 h11 h12 tY qD uL h16 AA h18;refine dH.nil ?_;go_wp2_with fail;go_ret;exact⟨bW aaq,(HX.o.next bR).1⟩
end
theorem yg {b:Nat} {w1 w2 w3:World} (h:w1.grownBy w2 (some b)) (k:w2.grownBy w3 (some b)):w1.grownBy w3 (some b):=
 ⟨k.os.trans h.os,k.tape.trans h.tape,k.output.trans h.output,aR h.size k.size,λj hj hne=>(k.block j (aJ hj h.size) hne).trans (h.block j hj hne)⟩
theorem iN {b:Nat} {w w':World} (h:Below w.heap.size w w'):w.grownBy w' (some b):=⟨h.os,h.tape,h.output,h.size,λk hk _=>h.block k hk⟩
theorem ig {b:Nat} (w:World):w.grownBy w (some b):=iN (ak _ _)
def MC (W:World) (bm n:Nat) (f f':List UInt8->Bool) (β:Bool) (w':World):Prop:=W.grownBy w' (some bm)∧jr w' bm (n+β.toNat) (if β then f' else f)
theorem MC.below {W:World} {bm n:Nat} {f f':List UInt8->Bool} {β:Bool} {w' w2:World} (h:MC W bm n f f' β w') (hb:Below w'.heap.size w' w2):MC W bm n f f' β w2:=⟨yg h.1 (iN hb),h.2.next hb⟩
theorem fV.grow {w w':World} {b bm:Nat} (hb:b≠bm) (hg:w.grownBy w' (some bm)): ∀ {l:List Int} {k:Nat},fV w w.heap.size l (some ⟨b,0,none⟩) k->fV w' w'.heap.size l (some ⟨b,0,none⟩) k
 | [],_,_=>trivial
 |_::_,_,⟨⟨b1,off,e,hB,c⟩,hr⟩=>by injection e with e;injection e with e1 e2;subst e1;subst e2;exact⟨⟨b,0,rfl,aJ hB hg.size,(World.cell?_of_block (hg.block b hB (by simp;exact hb))).trans c⟩,fV.grow hb hg hr⟩
theorem Sit.mc {w W w':World} {fs:List (Nat×Nat×Value)} {bm:Nat} (h:Sit w W fs) (hg:W.grownBy w' (some bm)) (hne: ∀f∈fs,f.1≠bm):Holds w' fs:=h.2.grown hg hne
def Me (v:Int) (w:World) (bm n:Nat) (f:List UInt8->Bool) (e:Ending) (w':World):Prop:=e= .returned (.int .i64 v)∧jr w' bm n f∧w.grownBy w' (some bm)
theorem LQ {v:Value} {res:Int} {w W wz:World} {bm n:Nat} {f f':List UInt8->Bool} (h:v= .int .i64 res) (hz:MC W bm n f f' true wz) (hg: ∀w',W.grownBy w' (some bm)->w.grownBy w' (some bm)):Me res w bm (n+1) f' (.returned v) wz:=
 ⟨by rw[h],hz.2,hg _ hz.1⟩
theorem XM (w:World) (a b c d:Int) (t:TypeId):fV (w.alloc (.cells #[.int .i64 a,.int .i64 b,.int .i64 c,.int .i64 d] t)) (w.alloc (.cells #[.int .i64 a,.int .i64 b,.int .i64 c,.int .i64 d] t)).heap.size [a,b,c,d] (some ⟨w.heap.size,0,none⟩) 0:=
 ⟨⟨_,_,rfl,ahg,dY w [.int .i64 a,.int .i64 b,.int .i64 c,.int .i64 d] t 0⟩,⟨_,_,rfl,ahg,dY w [.int .i64 a,.int .i64 b,.int .i64 c,.int .i64 d] t 1⟩,⟨_,_,rfl,ahg,dY w [.int .i64 a,.int .i64 b,.int .i64 c,.int .i64 d] t 2⟩,⟨_,_,rfl,ahg,dY w [.int .i64 a,.int .i64 b,.int .i64 c,.int .i64 d] t 3⟩,trivial⟩
section
variable (p:Pr) (w:World) (aK aM:Option Addr) (aG aD:Nat) (i:Int) (dx:Option Addr) (bV bs bt bc:Nat)
theorem ZW (h:dM) (b e ar:aY) (s:Sl) (hi:dD i) (hp: ∀w',w.grownBy w' (some bt)->p.At w' aK aM) (hok:uE h b e) (hex: ∀w',w.grownBy w' (some bt)->h.bG.At w' w'.heap.size s.fD 0) (eD: ∀w',w.grownBy w' (some bt)->dZ w') (har:ar.len<=maxLen) (hat: ∀w',w.grownBy w' (some bt)->ar.At w' w'.heap.size dx 0) (hh:Holds w (uG bc p aK aM aG aD i dx ar.len bV bs bt)) (hbc:bc≠bt) (n:Nat) (f:List UInt8->Bool) (hn:n<maxLen) (hmap:jr w bt n f) (hop:h.op=14):
 Calls Tryz.prog 91 #[.pointer (some ⟨bc,0,none⟩),jH h b e s] w (Me (fQ [dU (mean p i h.nm) [7],nest (fG ar [7,3]),(kQ (f h.nm.toList)),kZ p i h.dQ h.xn h.dP h.bG]) w bt (n+1) (zG f h.nm.toList)):=by
 have HH:=ah (show Sit w w _ from⟨ak _ _,hh⟩);obtain⟨fM,eU,fD,dS,dL,cK,gJ,fH⟩:=s;have hxk:=hok.2.2.2.2.2.1;have hns:=hok.2.2.1;generalize hres:fQ [dU (mean p i h.nm) [7],nest (fG ar [7,3]),(kQ (f h.nm.toList)),kZ p i h.dQ h.xn h.dP h.bG]=res;have HR:=ah hres;have dI:=ah hop;have HNS:=ah hns;have HN:=ah hn;have hlt:=hmap.lt;clear hres hop hn hns;unfold jH;dsimp only;dsimp only at hex;go_enter Tryz.func91,Tryz.ntmps91;go_upto_region 1 with fail;generalize hW:World.alloc w _=W;generalize Value.agg #[_,_,_,_,_,_,_,_,_,_,_]=a0;have HX:aj (Sit w W (qY w.heap.size h b e ⟨fM,eU,fD,dS,dL,cK,gJ,fH⟩ (uG bc p aK aM aG aD i dx ar.len bV bs bt))):=ah aaV;clear hW HH;have HG:aj (∀w',W.grownBy w' (some bt)->w.grownBy w' (some bt)):=ah (λw' hg=>yg (iN HX.o.1) hg);have HP:=ah (λw' hg=>hp w' (HG.o w' hg));have jc:=ah (λw' hg=>eD w' (HG.o w' hg));have OA:=ah (λw' hg=>hex w' (HG.o w' hg));have jZ:=ah (λw' hg=>hat w' (HG.o w' hg));have jM:=ah har;have HM:=ah (hmap.next HX.o.1);have HF:aj (∀w',W.grownBy w' (some bt)->Holds w' (qY w.heap.size h b e ⟨fM,eU,fD,dS,dL,cK,gJ,fH⟩ (uG bc p aK aM aG aD i dx ar.len bV bs bt))):=ah (λw' hg=>HX.o.mc hg (by intro x hx;simp only[qY,uG,List.mem_cons,List.not_mem_nil,or_false]at hx;rcases hx with rfl|rfl|rfl|rfl|rfl|rfl|rfl|rfl|rfl|rfl|rfl|rfl|rfl|rfl|rfl|rfl|rfl <;> first|exact hbc|(show w.heap.size≠bt;omega)));have HK:aj (∀w',W.grownBy w' (some bt)->Holds w' (uG bc p aK aM aG aD i dx ar.len bV bs bt)):=ah (λw' hg=>(HF.o w' hg).2.2.2.2.2.2.2.2.2.2.2);clear hp eD hh hat har hex hmap hlt hbc;have L0: ∀w',W.grownBy w' (some bt)->w'.cell? ⟨w.heap.size,0,none⟩=some (.int .i64 h.op):=λw' hb=>(HF.o w' hb).1.2;have L2: ∀w',W.grownBy w' (some bt)->w'.cell? ⟨w.heap.size,2,none⟩=some (.string h.nm):=λw' hb=>(HF.o w' hb).2.2.1.2;have L5: ∀w',W.grownBy w' (some bt)->w'.cell? ⟨w.heap.size,5,none⟩=some (.int .i64 h.dQ):=λw' hb=>(HF.o w' hb).2.2.2.2.2.1.2;have L6: ∀w',W.grownBy w' (some bt)->w'.cell? ⟨w.heap.size,6,none⟩=some (.int .i64 h.xn):=λw' hb=>(HF.o w' hb).2.2.2.2.2.2.1.2;have L7: ∀w',W.grownBy w' (some bt)->w'.cell? ⟨w.heap.size,7,none⟩=some (.string h.dP):=λw' hb=>(HF.o w' hb).2.2.2.2.2.2.2.1.2;have L8: ∀w',W.grownBy w' (some bt)->w'.cell? ⟨w.heap.size,8,none⟩=some (.slice fD h.bG.len dS):=λw' hb=>(HF.o w' hb).2.2.2.2.2.2.2.2.1.2;have LM: ∀w',W.grownBy w' (some bt)->w'.cell? ⟨bc,5,none⟩=some (.map (some bt)):=λw' hb=>(HK.o w' hb).2.2.2.2.2.1.2;have l0:=L0 W (ig _);have hop:=dI.o;obtain⟨g1,g2,g3,g4,g5,g6,g7,g8,g9,g10,g11,g12,g13,g14,g15⟩:=QT hop;clear hop l0;have l0:=L0 W (ig _);go_upto_region 25 with fail;refine yK 15 (MC W bt n f (zG f h.nm.toList)) (λw w'=>w.grownBy w' (some bt)) [169,170,171,172,173,174,175,176,177,178,179,180,181,182,183,184,185,186,187,188,189,190,4] ahd ahd (λ_=>ig _) aip ⟨iN (below_drewN (ak _ _) 1),acB⟩ ?_
 iterate 3
  apply eZ.step
  case aZ=>intro β A w' hβ hC hO hD;have e0:=hO 0 aip;have e3:=hO 3 aip;simp[Act.eval]at e0 e3;simp[Act.eval]at hD;simp[go_sem,gd,Oper.wp,e0,e3,hD,L2,hC.1];exact aO.mk (ig _) ahn (bT.mk _ _)
 refine eZ.some (λv w'=> ∃b,b≠bt∧v= .slice (some ⟨b,0,none⟩) 1 1∧fV w' w'.heap.size [7] (some ⟨b,0,none⟩) 0) ?_ ?_ ?_
 ·rintro v w w' hle ⟨b,hbn,rfl,hin⟩;exact⟨b,hbn,rfl,fV.grow hbn hle hin⟩
 ·intro β A w' hβ hC hO hD;simp[go_sem,gd,Oper.wp];exact aO.mk (d:=_) (v:= .slice (some ⟨_,0,none⟩) 1 1) (iN (aA _ _)) adg ⟨_,afT,rfl,iU _ 7 _⟩
 apply eZ.step
 case aZ=>intro β A w' hβ hC hO hD;simp[Act.eval]at hD;obtain⟨bm7,bm8,bC5,bB6,bm9,aJ5⟩:=hD;simp[go_sem,gd,Oper.wp,bm7,bm8,bm9];refine(kM p w' aK aM aG aD _ dx _ bV bs bt bc h.nm [7] _ 1 hi ahf (HP.o _ hC.1) aJ5 (HK.o _ hC.1)).mono ?_;rintro e' w2 ⟨rfl,hb⟩;exact aO.mk (iN hb) afJ (bT.mk _ _)
 apply eZ.step
 case aZ=>intro β A w' hβ hC hO hD;have e0:=hO 0 aip;have e3:=hO 3 aip;simp[Act.eval]at e0 e3;simp[Act.eval]at hD;simp[go_sem,gd,Oper.wp,e0,e3,hD];exact aO.mk (ig _) ahn (bT.mk _ _)
 refine eZ.some (λv w'=> ∃b,b≠bt∧v= .slice (some ⟨b,0,none⟩) 2 2∧fV w' w'.heap.size [7,3] (some ⟨b,0,none⟩) 0) ?_ ?_ ?_
 ·rintro v w w' hle ⟨b,hbn,rfl,hin⟩;exact⟨b,hbn,rfl,fV.grow hbn hle hin⟩
 ·intro β A w' hβ hC hO hD;simp[go_sem,gd,Oper.wp];exact aO.mk (d:=_) (v:= .slice (some ⟨_,0,none⟩) 2 2) (iN (aA _ _)) adg ⟨_,afT,rfl,lW _ 7 3 _⟩
 apply eZ.step
 case aZ=>intro β A w' hβ hC hO hD;simp[Act.eval]at hD;obtain⟨bn0,⟨bC6,bB7,bn1,aJ6⟩,-⟩:=hD;simp[go_sem,gd,Oper.wp,bn0,bn1];refine(lN p w' aK aM aG aD _ dx bV bs bt bc ar [7,3] _ 2 ahf aJ6 jM.o (jZ.o _ hC.1) (HK.o _ hC.1)).mono ?_;rintro e' w2 ⟨rfl,hb⟩;exact aO.mk (iN hb) afJ (bT.mk _ _)
 apply eZ.step
 case aZ=>intro β A w' hβ hC hO hD;simp[Act.eval]at hD;simp[go_sem,gd,Oper.wp,hD];refine(mO (fG ar [7,3]) w').mono ?_;rintro e' w2 ⟨rfl,rfl⟩;exact aO.mk (ig _) ahn (bT.mk _ _)
 iterate 6
  apply eZ.step
  case aZ=>intro β A w' hβ hC hO hD;have e0:=hO 0 aip;have e3:=hO 3 aip;simp[Act.eval]at e0 e3;simp[Act.eval]at hD;simp[go_sem,gd,Oper.wp,e0,e3,hD,LM,hC.1,L2];exact aO.mk (ig _) ahn (bT.mk _ _)
 apply eZ.step
 case aZ=>intro β A w' hβ hC hO hD;obtain rfl:=hβ ahg;simp[Act.eval]at hD;simp[go_sem,gd,Oper.wp,hD];refine(QL h.nm w' bt n f HN.o HNS.o (by simpa using hC.2)).mono ?_;rintro e' w2 ⟨rfl,hm2,hg2⟩;exact aO.mk hg2 ⟨yg hC.1 hg2,by simpa using hm2⟩ (bT.mk _ _)
 iterate 3
  apply eZ.step
  case aZ=>intro β A w' hβ hC hO hD;have e0:=hO 0 aip;have e3:=hO 3 aip;simp[Act.eval]at e0 e3;simp[Act.eval]at hD;simp[go_sem,gd,Oper.wp,e0,e3,hD,L5,L6,L7,L8,hC.1];exact aO.mk (ig _) ahn (bT.mk _ _)
 apply eZ.step
 case aZ=>intro β A w' hβ hC hO hD;simp[Act.eval]at hD;simp[go_sem,gd,Oper.wp,hD];refine(xY p w' aK aM aG aD _ dx _ bV bs bt bc h.dQ h.xn h.dP h.bG fD dS hi (HP.o _ hC.1) hxk (OA.o _ hC.1) (jc.o _ hC.1) (HK.o _ hC.1)).mono ?_;rintro e' w2 ⟨rfl,hb⟩;exact aO.mk (iN hb) afJ (bT.mk _ _)
 refine eZ.some (λv w'=> ∃b,b≠bt∧v= .slice (some ⟨b,0,none⟩) 4 4∧fV w' w'.heap.size [dU (mean p i h.nm) [7],nest (fG ar [7,3]),(kQ (f h.nm.toList)),kZ p i h.dQ h.xn h.dP h.bG] (some ⟨b,0,none⟩) 0) ?_ ?_ ?_
 ·rintro v w w' hle ⟨b,hbn,rfl,hin⟩;exact⟨b,hbn,rfl,fV.grow hbn hle hin⟩
 ·intro β A w' hβ hC hO hD;simp[Act.eval]at hD;simp[go_sem,gd,Oper.wp,hD];exact aO.mk (d:=_) (v:= .slice (some ⟨_,0,none⟩) 4 4) (iN (aA _ _)) adg ⟨_,afT,rfl,XM _ _ _ _ _ _⟩
 apply eZ.step
 case aZ=>intro β A w' hβ hC hO hD;simp[Act.eval]at hD;obtain⟨⟨bC7,bB8,bn2,aJ7⟩,-⟩:=hD;simp[go_sem,gd,Oper.wp,bn2];refine(kI [dU (mean p i h.nm) [7],nest (fG ar [7,3]),(kQ (f h.nm.toList)),kZ p i h.dQ h.xn h.dP h.bG] w' _ _ ahq aJ7).mono ?_;rintro e' w2 ⟨rfl,rfl⟩;exact aO.mk (ig _) ahn (bT.mk _ _)
 apply eZ.step
 case aZ=>intro β A w' hβ hC hO hD;have e0:=hO 0 aip;have e3:=hO 3 aip;simp[Act.eval]at e0 e3;simp[Act.eval]at hD;simp[go_sem,gd,Oper.wp,e0,e3,hD];exact aO.mk (ig _) ahn (bT.mk _ _)
 simp only[bP];intro wz bR;intro v0 h0 v1 h1 v2 h2 v3 h3 v4 h4 v5 h5 v6 h6 v7 h7 v8 h8 v9 h9 v10 h10 v11 h11 v12 h12 v13 tY v14 qD v15 uL v16 h16 v17 AA v18 h18 v19 h19 v20 h20 v21 h21 v22 h22;have hl':v22=_:=h22;subst hl';clear h0 h1 h2 h3 h4 h5 h6 h7 h8 h9 h10 h11 h12 tY qD uL h16 AA h18 h19 h20 h21 h22;refine dH.nil ?_;have HZ:aj (MC W bt n f (zG f h.nm.toList) true wz):=ah (by simpa using bR);clear bR;go_simp;go_wp2_with fail;go_ret;refine LQ ?_ HZ.o HG.o;rw[<- HR.o];rfl
end
theorem ag9 {w:World} {B b off:Nat} {t:Th} {r:List Th} (h:gY w B (t::r) (some ⟨b,off,none⟩) 0):w.cell? ⟨b,off,none⟩=some (.string t.nm):=by
 obtain⟨⟨b1,off1,gK,dW,dL,cK,e,-,x0,-⟩,-⟩:=h;injection e with e;injection e with e1 e2;subst e1;subst e2;simpa using x0
section
variable (p:Pr) (w:World) (aK aM:Option Addr) (aG aD:Nat) (dx:Option Addr) (bV bs bt bc:Nat)
theorem ZV (j:Nat) (t t0:Th) (r r0:List Th) (hd:p.ts.drop j=t::r) (hts:p.ts=t0::r0) (h:dM) (b e ar:aY) (s:Sl) (hi:dD (j:Int)) (hp: ∀w',w.grownBy w' (some bs)->p.At w' aK aM) (hok:uE h b e) (hex: ∀w',w.grownBy w' (some bs)->h.bG.At w' w'.heap.size s.fD 0) (eD: ∀w',w.grownBy w' (some bs)->dZ w') (har:ar.len<=maxLen) (hat: ∀w',w.grownBy w' (some bs)->ar.At w' w'.heap.size dx 0) (hh:Holds w (uG bc p aK aM aG aD (j:Int) dx ar.len bV bs bt)) (hbc:bc≠bs) (n:Nat) (f:List UInt8->Bool) (hn:n<maxLen) (hmap:jr w bs n f) (hop:h.op=12):
 Calls Tryz.prog 91 #[.pointer (some ⟨bc,0,none⟩),jH h b e s] w (Me (fQ [dU (mean p (j:Int) h.nm) [8],nest (fG ar [7,8,3]||(h.nm.toList==t.nm.toList||h.nm.toList==t0.nm.toList)),(kQ (f h.nm.toList))]) w bs (n+1) (zG f h.nm.toList)):=by
 have HH:=ah (show Sit w w _ from⟨ak _ _,hh⟩);obtain⟨fM,eU,fD,dS,dL,cK,gJ,fH⟩:=s;have hxk:=hok.2.2.2.2.2.1;have hns:=hok.2.2.1;generalize hres:fQ [dU (mean p (j:Int) h.nm) [8],nest (fG ar [7,8,3]||(h.nm.toList==t.nm.toList||h.nm.toList==t0.nm.toList)),(kQ (f h.nm.toList))]=res;have HR:=ah hres;have dI:=ah hop;have HNS:=ah hns;have HN:=ah hn;have hlt:=hmap.lt;clear hres hop hn hns;unfold jH;dsimp only;dsimp only at hex;go_enter Tryz.func91,Tryz.ntmps91;go_upto_region 1 with fail;generalize hW:World.alloc w _=W;generalize Value.agg #[_,_,_,_,_,_,_,_,_,_,_]=a0;have HX:aj (Sit w W (qY w.heap.size h b e ⟨fM,eU,fD,dS,dL,cK,gJ,fH⟩ (uG bc p aK aM aG aD (j:Int) dx ar.len bV bs bt))):=ah aaV;clear hW HH;have HG:aj (∀w',W.grownBy w' (some bs)->w.grownBy w' (some bs)):=ah (λw' hg=>yg (iN HX.o.1) hg);have HP:=ah (λw' hg=>hp w' (HG.o w' hg));have jc:=ah (λw' hg=>eD w' (HG.o w' hg));have OA:=ah (λw' hg=>hex w' (HG.o w' hg));have jZ:=ah (λw' hg=>hat w' (HG.o w' hg));have jM:=ah har;have HM:=ah (hmap.next HX.o.1);have HF:aj (∀w',W.grownBy w' (some bs)->Holds w' (qY w.heap.size h b e ⟨fM,eU,fD,dS,dL,cK,gJ,fH⟩ (uG bc p aK aM aG aD (j:Int) dx ar.len bV bs bt))):=ah (λw' hg=>HX.o.mc hg (by intro x hx;simp only[qY,uG,List.mem_cons,List.not_mem_nil,or_false]at hx;rcases hx with rfl|rfl|rfl|rfl|rfl|rfl|rfl|rfl|rfl|rfl|rfl|rfl|rfl|rfl|rfl|rfl|rfl <;> first|exact hbc|(show w.heap.size≠bs;omega)));have HK:aj (∀w',W.grownBy w' (some bs)->Holds w' (uG bc p aK aM aG aD (j:Int) dx ar.len bV bs bt)):=ah (λw' hg=>(HF.o w' hg).2.2.2.2.2.2.2.2.2.2.2);clear hp eD hh hat har hex hmap hlt hbc;have L0: ∀w',W.grownBy w' (some bs)->w'.cell? ⟨w.heap.size,0,none⟩=some (.int .i64 h.op):=λw' hb=>(HF.o w' hb).1.2;have L2: ∀w',W.grownBy w' (some bs)->w'.cell? ⟨w.heap.size,2,none⟩=some (.string h.nm):=λw' hb=>(HF.o w' hb).2.2.1.2;have L5: ∀w',W.grownBy w' (some bs)->w'.cell? ⟨w.heap.size,5,none⟩=some (.int .i64 h.dQ):=λw' hb=>(HF.o w' hb).2.2.2.2.2.1.2;have L6: ∀w',W.grownBy w' (some bs)->w'.cell? ⟨w.heap.size,6,none⟩=some (.int .i64 h.xn):=λw' hb=>(HF.o w' hb).2.2.2.2.2.2.1.2;have L7: ∀w',W.grownBy w' (some bs)->w'.cell? ⟨w.heap.size,7,none⟩=some (.string h.dP):=λw' hb=>(HF.o w' hb).2.2.2.2.2.2.2.1.2;have L8: ∀w',W.grownBy w' (some bs)->w'.cell? ⟨w.heap.size,8,none⟩=some (.slice fD h.bG.len dS):=λw' hb=>(HF.o w' hb).2.2.2.2.2.2.2.2.1.2;have LM: ∀w',W.grownBy w' (some bs)->w'.cell? ⟨bc,4,none⟩=some (.map (some bs)):=λw' hb=>(HK.o w' hb).2.2.2.2.1.2;have l0:=L0 W (ig _);have hop:=dI.o;obtain⟨g1,g2,g3,g4,g5,g6,g7,g8,g9,g10,g11,g12,g13,g14,g15⟩:=QO hop;clear hop l0;have l0:=L0 W (ig _);go_upto_region 21 with fail;have hpos:0<p.ts.length:=by rw[hts];simp
 have aS4:(0:Int)<p.ts.length:=ahe
 obtain⟨b0,Ae,eT⟩: ∃b0 Ae,aM=some ⟨b0,Ae,none⟩:=by have:=(HP.o W (ig _)).2.2.2;rw[hts]at this;obtain⟨⟨b1,off1,gK,dW,dL,cK,e,-⟩,-⟩:=this;exact⟨b1,off1,e⟩
 subst eT;have LN: ∀w',W.grownBy w' (some bs)->w'.cell? ⟨b0,Ae,none⟩=some (.string t0.nm):=λw' hb=>by have:=(HP.o w' hb).2.2.2;rw[hts]at this;exact ag9 this
 have LT: ∀w',W.grownBy w' (some bs)->w'.cell? ⟨bc,1,none⟩=some (.slice (some ⟨b0,Ae,none⟩) p.ts.length aD):=λw' hb=>(HK.o w' hb).2.1.2;cases hq:fG ar [7,8,3] <;> cases ho:(h.nm.toList==t.nm.toList)
 all_goals
  refine yK 35 (MC W bs n f (zG f h.nm.toList)) (λw w'=>w.grownBy w' (some bs)) [109,110,111,112,113,114,115,116,117,118,119,120,121,122,123,124,125,126,127,128,129,130,131,132,133,134,135,136,137,138,139,140,141,142,143,144,145,146,4] ahd ahd (λ_=>ig _) aip ⟨iN (below_drewN (ak _ _) 1),acB⟩ ?_
  iterate 3
   apply eZ.step
   case aZ=>intro β A w' hβ hC hO hD;have e0:=hO 0 aip;have e3:=hO 3 aip;simp[Act.eval]at e0 e3;simp[Act.eval]at hD;simp[go_sem,gd,Oper.wp,e0,e3,hD,L2,hC.1];exact aO.mk (ig _) ahn (bT.mk _ _)
   try simp only[bP]
  refine eZ.some (λv w'=> ∃b,b≠bs∧v= .slice (some ⟨b,0,none⟩) 1 1∧fV w' w'.heap.size [8] (some ⟨b,0,none⟩) 0) ?_ ?_ ?_
  ·rintro v w w' hle ⟨b,hbn,rfl,hin⟩;exact⟨b,hbn,rfl,fV.grow hbn hle hin⟩
  ·intro β A w' hβ hC hO hD;simp[go_sem,gd,Oper.wp];exact aO.mk (d:=_) (v:= .slice (some ⟨_,0,none⟩) 1 1) (iN (aA _ _)) adg ⟨_,afT,rfl,iU _ 8 _⟩
  simp only[bP];apply eZ.step
  case aZ=>intro β A w' hβ hC hO hD;simp[Act.eval]at hD;obtain⟨bm1,bm2,bC2,bB3,bm3,aJ2⟩:=hD;simp[go_sem,gd,Oper.wp,bm1,bm2,bm3];refine(kM p w' aK (some ⟨b0,Ae,none⟩) aG aD _ dx _ bV bs bt bc h.nm [8] _ 1 hi ahf (HP.o _ hC.1) aJ2 (HK.o _ hC.1)).mono ?_;rintro e' w2 ⟨rfl,hb⟩;exact aO.mk (iN hb) afJ (bT.mk _ _)
  simp only[bP];apply eZ.step
  case aZ=>intro β A w' hβ hC hO hD;have e0:=hO 0 aip;have e3:=hO 3 aip;simp[Act.eval]at e0 e3;simp[Act.eval]at hD;simp[go_sem,gd,Oper.wp,e0,e3,hD];exact aO.mk (ig _) ahn (bT.mk _ _)
  simp only[bP];refine eZ.some (λv w'=> ∃b,b≠bs∧v= .slice (some ⟨b,0,none⟩) 3 3∧fV w' w'.heap.size [7,8,3] (some ⟨b,0,none⟩) 0) ?_ ?_ ?_
  ·rintro v w w' hle ⟨b,hbn,rfl,hin⟩;exact⟨b,hbn,rfl,fV.grow hbn hle hin⟩
  ·intro β A w' hβ hC hO hD;simp[go_sem,gd,Oper.wp];exact aO.mk (d:=_) (v:= .slice (some ⟨_,0,none⟩) 3 3) (iN (aA _ _)) adg ⟨_,afT,rfl,AY _ 7 8 3 _⟩
  simp only[bP];apply eZ.step
  case aZ=>intro β A w' hβ hC hO hD;simp[Act.eval]at hD;obtain⟨bm4,⟨bC3,bB4,bm5,aJ3⟩,-⟩:=hD;simp[go_sem,gd,Oper.wp,bm4,bm5];refine(hq ▸ lN p w' aK (some ⟨b0,Ae,none⟩) aG aD (j:Int) dx bV bs bt bc ar [7,8,3] _ 3 ahf aJ3 jM.o (jZ.o _ hC.1) (HK.o _ hC.1)).mono ?_;rintro e' w2 ⟨rfl,hb⟩;exact aO.mk (iN hb) afJ (bT.mk _ _)
  simp only[bP];apply eZ.step
  case aZ=>intro β A w' hβ hC hO hD;have e0:=hO 0 aip;have e3:=hO 3 aip;simp[Act.eval]at e0 e3;simp[Act.eval]at hD;simp[go_sem,gd,Oper.wp,e0,e3,hD];exact aO.mk (ig _) ahn (bT.mk _ _)
  simp only[bP]
  iterate 3
   first
   |(apply eZ.step
     case aZ=>intro β A w' hβ hC hO hD;have e0:=hO 0 aip;have e3:=hO 3 aip;simp[Act.eval]at e0 e3;simp[Act.eval]at hD;simp[go_sem,gd,Oper.wp,e0,e3,hD,L2,hC.1];exact aO.mk (ig _) ahn (bT.mk _ _))
   |(refine eZ.step (v:=undef) ?_ ?_
     ·intro β A w' hβ hC hO hD;simp[Act.eval]at hD;simp[gd,Act.eval,hD]
      first|done|exact bT.mk _ _|exact⟨aip,bT.mk _ _⟩)
   try simp only[bP]
  first
  |(apply eZ.step
    case aZ=>intro β A w' hβ hC hO hD;simp[Act.eval]at hD;simp[go_sem,gd,Oper.wp,hD];refine(Nw p w' aK (some ⟨b0,Ae,none⟩) aG aD dx ar.len bV bs bt bc j t r hd (HP.o _ hC.1) (HK.o _ hC.1)).mono ?_;rintro e' w2 ⟨rfl,hb⟩;exact aO.mk (iN hb) afJ (bT.mk _ _))
  |(refine eZ.step (v:=undef) ?_ ?_
    ·intro β A w' hβ hC hO hD;simp[Act.eval]at hD;simp[gd,Act.eval,hD]
     first|done|exact bT.mk _ _|exact⟨aip,bT.mk _ _⟩)
  try simp only[bP]
  iterate 15
   first
   |(apply eZ.step
     case aZ=>intro β A w' hβ hC hO hD;have e0:=hO 0 aip;have e3:=hO 3 aip;simp[Act.eval]at e0 e3;simp[Act.eval]at hD;simp[go_sem,gd,Oper.wp,e0,e3,hD,ho,L2,hC.1,LT,hpos,aS4,LN];exact aO.mk (ig _) ahn (bT.mk _ _))
   |(refine eZ.step (v:=undef) ?_ ?_
     ·intro β A w' hβ hC hO hD;simp[Act.eval]at hD;simp[gd,Act.eval,hD]
      first|done|exact bT.mk _ _|exact⟨aip,bT.mk _ _⟩)
   try simp only[bP]
  apply eZ.step
  case aZ=>intro β A w' hβ hC hO hD;simp[Act.eval]at hD;simp[go_sem,gd,Oper.wp,hD];refine(mO _ w').mono ?_;rintro e' w2 ⟨rfl,rfl⟩;exact aO.mk (ig _) ahn (bT.mk _ _)
  simp only[bP]
  iterate 6
   apply eZ.step
   case aZ=>intro β A w' hβ hC hO hD;have e0:=hO 0 aip;have e3:=hO 3 aip;simp[Act.eval]at e0 e3;simp[Act.eval]at hD;simp[go_sem,gd,Oper.wp,e0,e3,hD,LM,hC.1,L2];exact aO.mk (ig _) ahn (bT.mk _ _)
   try simp only[bP]
  apply eZ.step
  case aZ=>intro β A w' hβ hC hO hD;obtain rfl:=hβ ahg;simp[Act.eval]at hD;simp[go_sem,gd,Oper.wp,hD];refine(QL h.nm w' bs n f HN.o HNS.o (by simpa using hC.2)).mono ?_;rintro e' w2 ⟨rfl,hm2,hg2⟩;exact aO.mk hg2 ⟨yg hC.1 hg2,by simpa using hm2⟩ (bT.mk _ _)
  simp only[bP];refine eZ.some (λv w'=> ∃b,b≠bs∧v= .slice (some ⟨b,0,none⟩) 3 3∧fV w' w'.heap.size [dU (mean p (j:Int) h.nm) [8],nest (fG ar [7,8,3]||(h.nm.toList==t.nm.toList||h.nm.toList==t0.nm.toList)),(kQ (f h.nm.toList))] (some ⟨b,0,none⟩) 0) ?_ ?_ ?_
  ·rintro v w w' hle ⟨b,hbn,rfl,hin⟩;exact⟨b,hbn,rfl,fV.grow hbn hle hin⟩
  ·intro β A w' hβ hC hO hD;simp[Act.eval]at hD;simp[go_sem,gd,Oper.wp,hD];exact aO.mk (d:=_) (v:= .slice (some ⟨_,0,none⟩) 3 3) (iN (aA _ _)) adg ⟨_,afT,rfl,by rw[hq,ho];exact AY _ _ _ _ _⟩
  simp only[bP];apply eZ.step
  case aZ=>intro β A w' hβ hC hO hD;simp[Act.eval]at hD;obtain⟨⟨bC4,bB5,bm6,aJ4⟩,-⟩:=hD;simp[go_sem,gd,Oper.wp,bm6];refine(kI [dU (mean p (j:Int) h.nm) [8],nest (fG ar [7,8,3]||(h.nm.toList==t.nm.toList||h.nm.toList==t0.nm.toList)),(kQ (f h.nm.toList))] w' _ _ ahq aJ4).mono ?_;rintro e' w2 ⟨rfl,rfl⟩;exact aO.mk (ig _) ahn (bT.mk _ _)
  simp only[bP];apply eZ.step
  case aZ=>intro β A w' hβ hC hO hD;have e0:=hO 0 aip;have e3:=hO 3 aip;simp[Act.eval]at e0 e3;simp[Act.eval]at hD;simp[go_sem,gd,Oper.wp,e0,e3,hD];exact aO.mk (ig _) ahn (bT.mk _ _)
  simp only[bP];intro wz bR
  iterate 38 intro _ _
  intro v38 h38;have hl':v38=_:=h38;subst hl';clear h38;refine dH.nil ?_;have HZ:aj (MC W bs n f (zG f h.nm.toList) true wz):=ah (by simpa using bR);clear bR;go_simp;go_wp2_with fail;go_ret;refine LQ ?_ HZ.o HG.o
  first|exact congrArg (Value.int .i64) HR.o.symm|(rw[<- HR.o];done)|(rw[<- HR.o,hq];rfl)|(rw[<- HR.o,hq,ho];rfl)|(rw[<- HR.o];simp[hq,ho])
end
end Go.Proofs.YtldapdcphphodaaGreatDoor
