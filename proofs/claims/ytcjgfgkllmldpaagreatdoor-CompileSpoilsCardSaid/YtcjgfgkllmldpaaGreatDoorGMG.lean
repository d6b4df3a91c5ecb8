/- Contract of the checker's statement: where nothing is noted. -/
import Derived.Test.YtcjgfgkllmldpaaGreatDoorGME
set_option linter.unusedSimpArgs false
set_option linter.unusedVariables false
set_option maxHeartbeats 40000000
set_option maxRecDepth 1000000
namespace Go.Proofs.YtcjgfgkllmldpaaGreatDoor
open Go.RowKit
open Md
def BH (h:dM):Prop:=h.op=1∨h.op=4
theorem JO {Q:bf->Prop} (step: ∀l:bf,(l.All λh b e=>BH h∧(Q b∧Q e))->Q l): ∀l:bf,l.Ev BH->l.All (λh b e=>BH h∧(Q b∧Q e))
 | .nil,_=>trivial
 | .cons h b e r,hE=>⟨⟨hE.1,step b (JO step b hE.2.1),step e (JO step e hE.2.2.1)⟩,JO step r hE.2.2.2⟩
section
variable (p:Pr) (w:World) (aQ aR:Option Addr) (aJ aH:Nat) (i:Int) (eZ:Option Addr) (dU bs bt bc:Nat)
theorem Ue (h:dM) (b e ar:bf) (s:Sl) (hi:cO i) (hp:p.At w aQ aR) (hin:FJ w h b e s) (fG:eD w) (har:ar.len<=maxLen) (hat:ar.At w w.heap.size eZ 0) (hh:Holds w (JZ bc p aQ aR aJ aH i eZ ar.len dU bs bt)) {res:Int} (hc:
 (h.op=1∧JR p i h=res)∨
 (h.op=4∧iI [gU (mean p i h.nm) [4],nest (jh ar [7]||wD ar h.nm [4])]=res)):
 Calls Tryz.prog 128 #[.pointer (some ⟨bc,0,none⟩),iG h b e s] w λe' w'=>e'= .returned (.int .i64 res)∧Below w.heap.size w w':=by
 have HH:=ah (show Sit w w _ from⟨ak _ _,hh⟩);obtain⟨gu,eG,gY,fD,dR,dA,jc,gZ⟩:=s;have hxk:=hin.1.2.2.2.2.2.1;have hns:=hin.1.2.2.1;have kX:=ah hin;have LQ:=ah hc;clear hc;unfold iG;dsimp only;go_enter Tryz.func128,Tryz.ntmps128;go_upto_region 1 with fail;generalize hW:World.alloc w _=W;generalize Value.agg #[_,_,_,_,_,_,_,_,_,_,_]=a0;have HX:aj (Sit w W (xL w.heap.size h b e ⟨gu,eG,gY,fD,dR,dA,jc,gZ⟩ (JZ bc p aQ aR aJ aH i eZ ar.len dU bs bt))):=ah aa2;clear hW HH;have HP:=ah (hp.same HX.o.1);have kG:=ah (fG.same HX.o.1);have HAX:=ah (hin.2.2.1.same HX.o.1);have pz:=ah (hat.same HX.o.1);have lG:=ah har;have HK:aj (∀w',Below W.heap.size W w'->Holds w' (JZ bc p aQ aR aJ aH i eZ ar.len dU bs bt)):=ah (λw' hb=>(HX.o.next hb).2.2.2.2.2.2.2.2.2.2.2.2);clear hp fG hh hin hat har;obtain⟨L0,-,L2,L3,-,L5,L6,L7,L8,-⟩:=HX.o.Aa;have hB:Below W.heap.size W W:=ak _ _;have l0:=L0 W hB;rcases LQ.o with⟨hop,hr⟩|⟨hop,hr⟩
 all_goals have HR:=ah hr;clear hr LQ
 ·obtain⟨g1,g2,g3,g4,g5,g6,g7,g8,g9,g10,g11,g12,g13,g14,g15⟩:=op1 hop;clear hop;have lA:=(HX.o.2).2.1.2;have lB:=(HX.o.2).2.2.2.2.1.2;have lC:=(HX.o.2).2.2.2.2.2.2.2.2.2.1.2;have lD:=(HX.o.2).2.2.2.2.2.2.2.2.2.2.1.2;have l2:=L2 W hB;have l3:=L3 W hB;go_wp2_with fail;refine(Uc p _ aQ aR aJ aH i eZ ar.len dU bs bt bc h b e ⟨gu,eG,gY,fD,dR,dA,jc,gZ⟩ hi (HP.o.same hB) (kX.o.same HX.o.1) (kG.o.same hB) (HK.o _ hB)).mono ?_;rintro e' w1 ⟨rfl,hb⟩;replace hB:=hB.trans (hb.mono hB.size);clear hb;go_wp2_with fail;go_ret;exact⟨dh aaL,aaP⟩
 ·obtain⟨g1,g2,g3,g4,g5,g6,g7,g8,g9,g10,g11,g12,g13,g14,g15⟩:=op4 hop;clear hop;cases hq:jh ar [7] <;> cases hq2:wD ar h.nm [4]
  all_goals
   repeat
    go_wp2_with fail
    first
    |(go_at_call 158;refine(Wu _ _).mono ?_;rintro e' wn ⟨rfl,rfl⟩)
    |(go_at_call 156;refine(FN [_,_] _ _ 2 ah9 (Io _ _ _ _)).mono ?_;rintro e' wf ⟨rfl,rfl⟩)
    |(first
      |(go_at_call 157;refine(Ia p _ aQ aR aJ aH i eZ ar.len dU bs bt bc h.nm [_] _ 1 hi ahg (HP.o.same (hB.alloc hB.size _)) (Et _ _ _) (HK.o _ (hB.alloc hB.size _))).mono ?_)
      |(go_at_call 159;refine(Ud p _ aQ aR aJ aH i eZ dU bs bt bc ar [_] _ 1 ahg (Et _ _ _) lG.o (pz.o.same (hB.alloc hB.size _)) (HK.o _ (hB.alloc hB.size _))).mono ?_)
      |(go_at_call 160;refine(LJ p _ aQ aR aJ aH i eZ dU bs bt bc ar _ [_] _ 1 ahg (Et _ _ _) lG.o (pz.o.same (hB.alloc hB.size _)) (HK.o _ (hB.alloc hB.size _))).mono ?_)
      rintro e' w1 ⟨rfl,hb⟩;replace hB:=(hB.alloc hB.size _).trans (hb.mono (hB.alloc hB.size _).size);clear hb)
   go_wp2_with fail;go_ret;exact⟨dh aaL,aaP⟩
end
end Go.Proofs.YtcjgfgkllmldpaaGreatDoor
