/-
  Contracts of parse.operands, nameOrEmpty, ShapedExpr.
  Contracts of parse.fieldsOf, zeroExpr, shapedDecl.
  Contract of parse.ShapedExpr.
  Contracts of parse.shapedStmt, shapedList, Shaped.
  Contract of parse.Shaped.
-/
import Derived.Test.YtehnipchbmjlhaaGreatDoorGMA
import Derived.Test.YtehnipchbmjlhaaGreatDoorGNA
set_option linter.unusedSimpArgs false
set_option linter.unusedVariables false
set_option maxHeartbeats 40000000
set_option maxRecDepth 1000000
section
namespace Go.Proofs.YtehnipchbmjlhaaGreatDoor
open Go.RowKit
open Md
theorem qK (op:Int) (w:World):
 Calls Tryz.prog 77 #[.int .i64 op] w fun e w'=>e= .returned (.int .i64 (opsOf op))∧w=w':=by
 unfold opsOf
 go_enter Tryz.func77,Tryz.ntmps77
 go_wp2
 all_goals go_ret
 all_goals refine ⟨bU ?_,rfl⟩
 all_goals first | (simp [*]; done) | ((repeat' split) <;> simp_all <;> omega)
theorem nT (s:ByteArray) (b:Bool) (w:World) (cZ:cO w) (hm:s.size≤maxLen):
 Calls Tryz.prog 70 #[.string s,.bool b] w fun e w'=>e= .returned (.bool (iU s b))∧Below w.heap.size w w':=by
 cases b
 ·go_enter Tryz.func70,Tryz.ntmps70
  go_wp2
  go_ret
  exact ⟨by simp [iU,Lib.toList_data],Below.refl _ _⟩
 ·go_enter Tryz.func70,Tryz.ntmps70
  go_wp2_with (go_at_call 38; refine (uw _ _ cZ hm).mono ?_; rintro e w' ⟨rfl,hb⟩)
  go_ret
  exact ⟨rfl,hb⟩
end Go.Proofs.YtehnipchbmjlhaaGreatDoor
end
section
namespace Go.Proofs.YtehnipchbmjlhaaGreatDoor
open Go.RowKit
open Md
theorem IK (op:Int) (w:World):
 Calls Tryz.prog 112 #[.int .i64 op] w fun e w'=>e= .returned (.tuple #[.agg #[.bool (fN op),.bool (fA op),.bool (fI op),.bool (fX op),.bool (fB op),.bool (fE op)],.bool (fO op)])∧Below w.heap.size w w':=by
 have hop:op=1∨op=2∨op=3∨op=4∨op=5∨op=6∨op=7∨op=8∨op=9∨op=10∨op=11∨op=12∨op=13∨op=14∨op=15∨(op < 1∨15 < op):=by omega
 rcases hop with rfl | rfl | rfl | rfl | rfl | rfl | rfl | rfl | rfl | rfl | rfl | rfl | rfl | rfl | rfl | hop
 case inr.inr.inr.inr.inr.inr.inr.inr.inr.inr.inr.inr.inr.inr.inr=>
  have e1:fN op=false:=by unfold fN; grind
  have e2:fA op=false:=by unfold fA; grind
  have e3:fI op=false:=by unfold fI; grind
  have e4:fX op=false:=by unfold fX; grind
  have e5:fB op=false:=by unfold fB; grind
  have e6:fE op=false:=by unfold fE; grind
  have e7:fO op=false:=by unfold fO; grind
  rw [e1,e2,e3,e4,e5,e6,e7]
  clear e1 e2 e3 e4 e5 e6 e7
  have g1:(op == 1)=false:=by rw [beq_eq_false_iff_ne]; omega
  have g2:(op == 2)=false:=by rw [beq_eq_false_iff_ne]; omega
  have g3:(op == 3)=false:=by rw [beq_eq_false_iff_ne]; omega
  have g4:(op == 4)=false:=by rw [beq_eq_false_iff_ne]; omega
  have g5:(op == 5)=false:=by rw [beq_eq_false_iff_ne]; omega
  have g6:(op == 6)=false:=by rw [beq_eq_false_iff_ne]; omega
  have g7:(op == 7)=false:=by rw [beq_eq_false_iff_ne]; omega
  have g8:(op == 8)=false:=by rw [beq_eq_false_iff_ne]; omega
  have g9:(op == 9)=false:=by rw [beq_eq_false_iff_ne]; omega
  have g10:(op == 10)=false:=by rw [beq_eq_false_iff_ne]; omega
  have g11:(op == 11)=false:=by rw [beq_eq_false_iff_ne]; omega
  have g12:(op == 12)=false:=by rw [beq_eq_false_iff_ne]; omega
  have g13:(op == 13)=false:=by rw [beq_eq_false_iff_ne]; omega
  have g14:(op == 14)=false:=by rw [beq_eq_false_iff_ne]; omega
  have g15:(op == 15)=false:=by rw [beq_eq_false_iff_ne]; omega
  clear hop
  go_enter Tryz.func112,Tryz.ntmps112
  go_wp2
  exact bodyPost_ret (v:= .tuple #[.agg #[.bool _,.bool _,.bool _,.bool _,.bool _,.bool _],.bool _]) (by simp [results,Tryz.results112,go_sem]) rfl ⟨rfl,ah _ _⟩
 all_goals
  go_enter Tryz.func112,Tryz.ntmps112
  go_wp2
  exact bodyPost_ret (v:= .tuple #[.agg #[.bool _,.bool _,.bool _,.bool _,.bool _,.bool _],.bool _]) (by simp [results,Tryz.results112,go_sem]; decide) rfl ⟨rfl,ah _ _⟩
theorem Hg (op n:Int) (nm:ByteArray) (len cap:Nat) (ao:Option Addr) (w:World):
 Calls Tryz.prog 113 #[.agg #[.int .i64 op,.int .i64 n,.string nm,.slice ao len cap]] w fun e w'=>e= .returned (.bool (pR op n nm len))∧Below w.heap.size w w':=by
 have HE:Hid (pR op n nm len=(((decide (op=0) && decide (n=0)) && decide (nm.toList=[])) && decide (len=0))):=Lib.hid (by unfold pR; rw [Bool.eq_iff_iff]; simp)
 go_enter Tryz.func113,Tryz.ntmps113
 go_wp2
 all_goals go_ret
 all_goals refine ⟨dh ?_,ah _ _⟩
 all_goals rw [HE.out]
 all_goals (go_light; grind)
theorem Eh (d:De) (w:World) (cZ:cO w) (hok:d.Ok):
 Calls Tryz.prog 37 #[.agg #[.int .i64 d.kind,.int .i64 d.line,.string d.nm,.int .i64 d.size,.int .i64 d.init,.string d.on]] w fun e w'=>e= .returned (.bool (fG d))∧Below w.heap.size w w':=by
 obtain ⟨⟨k1,k2⟩,-,hm,-,-,ho⟩:=hok
 obtain ⟨kind,line,nm,size,init,on⟩:=d
 have HE:Hid (fG ⟨kind,line,nm,size,init,on⟩=((((decide (1≤kind) && decide (kind≤6)) && Tk.dZ nm.data.toList) && (decide (0≤size) && (decide (size=0) || decide (kind=1)))) && ((!decide (init= -9223372036854775808) && (decide (init=0) || (decide (kind=1) || decide (kind=2)))) && iU on (kind == 5)))):=Lib.hid (by
  unfold fG; simp only [bne]; rw [Bool.eq_iff_iff]; simp)
 dsimp only at *
 generalize fG ⟨kind,line,nm,size,init,on⟩=res at *
 go_enter Tryz.func37,Tryz.ntmps37
 go_upto_region 1 with fail
 generalize hW:World.alloc w _=W
 generalize Value.agg #[_,_,_,_,_,_]=a0
 have HX:=Lib.hid ((Sit.start w).yV rfl (.int .i64 kind) (.int .i64 line) (.string nm) (.int .i64 size) (.int .i64 init) (.string on) 62)
 rw [hW] at HX
 clear hW
 obtain ⟨-,⟨-,c0⟩,⟨-,c1⟩,⟨-,c2⟩,⟨-,c3⟩,⟨-,c4⟩,⟨-,c5⟩,-⟩:=HX.out
 go_cut [16] (fun s W2=> ∃b,s= .bool b∧(!b)=((decide (1≤kind) && decide (kind≤6)) && Tk.dZ nm.data.toList)∧Sit w W2 [(w.heap.size,0,.int .i64 kind),(w.heap.size,1,.int .i64 line),(w.heap.size,2,.string nm),(w.heap.size,3,.int .i64 size),(w.heap.size,4,.int .i64 init),(w.heap.size,5,.string on)])
 case first=>
  go_wp2_with (go_at_call 38; refine (uw _ _ (cZ.same HX.out.1) hm).mono ?_; rintro e w' ⟨rfl,hb⟩)
  all_goals go_meet
  all_goals first | exact ⟨_,rfl,by go_light; grind,HX.out.next ‹_›⟩ | exact ⟨_,rfl,by go_light; grind,HX.out⟩
 obtain ⟨b1,rfl,hb1,hX⟩:=hcut
 have HY:=Lib.hid hX
 have HB1:=Lib.hid hb1
 clear hX HX hb1 c0 c1 c2 c3 c4 c5
 obtain ⟨-,⟨-,c0⟩,⟨-,c1⟩,⟨-,c2⟩,⟨-,c3⟩,⟨-,c4⟩,⟨-,c5⟩,-⟩:=HY.out
 cases b1
 ·cases h5:(kind == 5)
  all_goals
   rw [h5] at HE
   go_wp2_with (go_at_call 70; refine (nT _ _ _ (cZ.same HY.out.1) ho).mono ?_; rintro e w' ⟨rfl,hb⟩)
  all_goals go_ret
  all_goals first | refine ⟨dh ?_,(HY.out.next ‹_›).1⟩ | refine ⟨dh ?_,HY.out.1⟩
  all_goals rw [HE.out,← HB1.out]
  all_goals (go_light; grind)
 ·go_wp2_with fail
  go_ret
  refine ⟨dh ?_,HY.out.1⟩
  rw [HE.out,← HB1.out]; rfl
end Go.Proofs.YtehnipchbmjlhaaGreatDoor
end
section
namespace Go.Proofs.YtehnipchbmjlhaaGreatDoor
open Go.RowKit
open Md
def Bf (op n:Int) (nm:ByteArray) (kids:aP):Prop:=
 ∀(w:World) (ao:Option Addr) (cap:Nat),oz op n nm kids→kids.At w w.heap.size ao 0→cO w→
  Calls Tryz.prog 43 #[.agg #[.int .i64 op,.int .i64 n,.string nm,.slice ao kids.len cap]] w fun e w'=>e= .returned (.bool (dS op n nm kids))∧Below w.heap.size w w'
theorem Qu {op n:Int} {nm:ByteArray} {kids:aP} (h:((kids.len:Int) == opsOf op)=false):dS op n nm kids=false:=by unfold dS uO; rw [h]; rfl
theorem Nf {op n:Int} {nm:ByteArray} {kids:aP} (h:n < 0∨((n == 0)=false∧(op == 1)=false)):dS op n nm kids=false:=by
 unfold dS uO
 rcases h with h | ⟨h,h'⟩
 ·rw [decide_eq_true h]; simp
 ·rw [h,h']; simp
theorem V5 {op n:Int} {nm:ByteArray} {kids:aP} {b:Bool} (hb:named op=b) (h:iU nm b=false):dS op n nm kids=false:=by
 unfold dS uO; rw [hb,h]; simp
theorem RH {op n:Int} {nm:ByteArray} {kids:aP} {b:Bool} (h1:((kids.len:Int) == opsOf op)=true) (h2:0≤n) (h3:(n == 0)=true∨(op == 1)=true) (hb:named op=b) (h:iU nm b=true):dS op n nm kids=iy kids:=by
 unfold dS uO; rw [hb,h,h1,decide_eq_false (by omega)]
 rcases h3 with h3 | h3 <;> rw [h3] <;> simp
theorem UE (op n:Int):(n < 0)∨(0 < n∧op≠1)∨
 ∃b,named op=b∧0≤n∧((n == 0)=true∨(op == 1)=true)∧
  ((0 < n∧op=1∧b=false)∨(n=0∧op=2∧b=true)∨(n=0∧op=3∧b=true)∨(n=0∧(op == 2)=false∧(op == 3)=false∧b=false)):=by
 by_cases h:n < 0
 ·exact Or.inl h
 ·by_cases h0:n=0
  ·subst h0
   by_cases h2:op=2
   ·subst h2; exact Or.inr (Or.inr ⟨true,rfl,by omega,Or.inl rfl,by simp⟩)
   ·by_cases h3:op=3
    ·subst h3; exact Or.inr (Or.inr ⟨true,rfl,by omega,Or.inl rfl,by simp⟩)
    ·exact Or.inr (Or.inr ⟨false,by simp [named,h2,h3],by omega,Or.inl rfl,by simp [h2,h3]⟩)
  ·by_cases h1:op=1
   ·subst h1; exact Or.inr (Or.inr ⟨false,rfl,by omega,Or.inr rfl,by simp; omega⟩)
   ·exact Or.inr (Or.inl ⟨by omega,h1⟩)
theorem wI (op n:Int) (nm:ByteArray) (kids rest:aP):iy (.cons op n nm kids rest)=(dS op n nm kids && iy rest):=rfl
def Ug (kids R:aP) (k:Nat):Prop:=k + R.len=kids.len∧iy kids=iy R
theorem CY (op n:Int) (nm:ByteArray) (kids:aP) (ih:kids.All Bf):Bf op n nm kids:=by
 intro w ao cap hok hat cZ
 obtain ⟨⟨o1,o2⟩,⟨n1,n2⟩,hm,hl⟩:=hok
 unfold maxLen at hl
 have hl':kids.len≤9223372036854775807:=hl
 rcases UE op n with hn | ⟨hn,q1⟩ | ⟨b,hb,hn,hor,hq⟩
 ·have HR:=Lib.hid (Nf (nm:=nm) (kids:=kids) (op:=op) (Or.inl hn))
  go_enter Tryz.func43,Tryz.ntmps43
  go_wp2_with fail
  generalize hW:World.alloc w _=W
  have HX:=Lib.hid (rT.mk hW)
  clear hW
  obtain ⟨-,-,c0,c1,c2,c3⟩:=HX.out
  go_quiet (first | (go_at_call 77; refine yD (qK _ _)))
  go_wp2_with fail
  all_goals go_ret
  all_goals exact ⟨dh HR.out.symm,(HX.out.draws _).1⟩
 ·have HR:=Lib.hid (Nf (nm:=nm) (kids:=kids) (Or.inr ⟨beq_eq_false_iff_ne.2 (show n≠0 by omega),beq_eq_false_iff_ne.2 q1⟩))
  have q1':(op != 1)=true:=bne_iff_ne.2 q1
  have q0':(n != 0)=true:=bne_iff_ne.2 (by omega)
  go_enter Tryz.func43,Tryz.ntmps43
  go_wp2_with fail
  generalize hW:World.alloc w _=W
  have HX:=Lib.hid (rT.mk hW)
  clear hW
  obtain ⟨-,-,c0,c1,c2,c3⟩:=HX.out
  go_quiet (first | (go_at_call 77; refine yD (qK _ _)))
  go_wp2_with fail
  all_goals go_ret
  all_goals exact ⟨dh HR.out.symm,(HX.out.draws _).1⟩
 ·by_cases h1:((kids.len:Int) == opsOf op)=false
  ·have HR:=Lib.hid (Qu (n:=n) (nm:=nm) h1)
   have h1':((kids.len:Int) != opsOf op)=true:=by unfold bne; rw [h1]; rfl
   go_enter Tryz.func43,Tryz.ntmps43
   go_wp2_with fail
   generalize hW:World.alloc w _=W
   have HX:=Lib.hid (rT.mk hW)
   clear hW
   obtain ⟨-,-,c0,c1,c2,c3⟩:=HX.out
   go_quiet (first | (go_at_call 77; refine yD (qK _ _)))
   go_wp2_with fail
   go_ret
   exact ⟨dh HR.out.symm,(HX.out.draws _).1⟩
  ·have h1':((kids.len:Int) == opsOf op)=true:=by simpa using h1
   clear h1
   have HY:=Lib.hid (fun h:iU nm b=true=>RH h1' hn hor hb h)
   have HN:=Lib.hid (fun h:iU nm b=false=>V5 (n:=n) (kids:=kids) hb h)
   clear hb hor
   have HAT:=Lib.hid hat
   have iY:=Lib.hid ih
   clear hat ih
   have ar1:((kids.len:Int) != opsOf op)=false:=by unfold bne; rw [h1']; rfl
   clear h1'
   rcases hq with ⟨q0,rfl,rfl⟩ | ⟨rfl,rfl,rfl⟩ | ⟨rfl,rfl,rfl⟩ | ⟨rfl,q2,q3,rfl⟩
   all_goals
    go_enter Tryz.func43,Tryz.ntmps43
    go_wp2_with fail
    generalize hW:World.alloc w _=W
    have HX:=Lib.hid (rT.mk hW)
    clear hW
    obtain ⟨-,-,c0,c1,c2,c3⟩:=HX.out
    go_quiet (first | (go_at_call 77; refine yD (qK _ _)))
    have DN:=Lib.hid (HX.out.draws nq)
    clear HX c0 c1 c2 c3
    generalize W.drewN nq=wq at *
    obtain ⟨-,-,c0,c1,c2,c3⟩:=DN.out
    go_wp2_with fail
    refine (nT _ _ _ (cZ.same DN.out.1) hm).mono ?_
    rintro e w1 ⟨rfl,hb1⟩
    have HZ:=Lib.hid (DN.out.next hb1)
    clear hb1 DN c0 c1 c2 c3
    obtain ⟨-,-,c0,c1,c2,c3⟩:=HZ.out
   all_goals
    cases hN:iU nm _
    ·have HR:=Lib.hid (HN.out hN)
     clear HN HY
     go_wp2_with fail
     go_ret
     exact ⟨dh HR.out.symm,HZ.out.1⟩
    ·have HR:=Lib.hid (HY.out hN)
     clear HN HY
     go_wp2_with fail
     go_loopw [40] (fun i wr=> ∃k R,i= .int .i64 (k:Nat)∧Ug kids R k∧R.All Bf∧R.At wr wr.heap.size ao k∧rT w wr (Value.int IntKind.i64 _) (Value.int IntKind.i64 _) (Value.string nm) (Value.slice ao kids.len cap)) (fun i _=>kids.len - (intOf i).toNat)
     case atStart=>exact ⟨0,kids,rfl,⟨Nat.zero_add _,rfl⟩,iY.out,HAT.out.same HZ.out.1,HZ.out⟩
     case round=>
      obtain ⟨k,R,rfl,⟨hlen,heq⟩,hall,hrow,Ma⟩:=hrel
      have HT:=Lib.hid (HR.out.trans heq)
      cases R with
      | nil=>
        obtain rfl:k=kids.len:=by simpa [aP.len] using hlen
        go_wp2_with fail
        go_ret
        exact ⟨dh HT.out.symm,Ma.1⟩
      | cons op' n' nm' eD rest=>
        obtain ⟨⟨b,off,gQ,cap',rfl,vN,x0,x1,x2,x3,hok',og⟩,hrest⟩:=hrow
        obtain ⟨qN,pK⟩:=hall
        have hlt:k < kids.len:=by simp only [aP.len] at hlen; omega
        go_wp2_with fail
        have hba:=(Below.refl wr.heap.size wr).alloc (Nat.le_refl _) (.cells #[.int .i64 op',.int .i64 n',.string nm',.slice gQ eD.len cap'] 45)
        refine (qN _ _ _ hok' (og.same hba) ((cZ.same Ma.1).alloc _)).mono ?_
        rintro e w2 ⟨rfl,hb2⟩
        have hb3:=hba.trans (hb2.mono (by simp))
        have kZ:=Lib.hid (Ma.next hb3)
        have hrest':=hrest.same hb3
        clear hba hb2 hb3 Ma hrest x0 x1 x2 x3 c0 c1 c2 c3 og
        cases hS:dS op' n' nm' eD
        ·have HF:=Lib.hid (HT.out.trans (by rw [wI,hS]; rfl:iy (.cons op' n' nm' eD rest)=false))
         go_wp2_with fail
         go_ret
         exact ⟨dh HF.out.symm,kZ.out.1⟩
        ·have HF:=Lib.hid (heq.trans (by rw [wI,hS]; rfl:iy (.cons op' n' nm' eD rest)=iy rest))
         go_wp2_with fail
         go_roundw
         case rel=>exact ⟨k + 1,rest,by go_num,⟨by simp only [aP.len] at hlen; omega,HF.out⟩,pK,hrest',kZ.out⟩
         case measure=>simp [intOf]; omega
theorem rH (op n:Int) (nm:ByteArray) (kids:aP):Bf op n nm kids:=aP.xP CY op n nm kids
end Go.Proofs.YtehnipchbmjlhaaGreatDoor
end
section
namespace Go.Proofs.YtehnipchbmjlhaaGreatDoor
open Go.RowKit
open Md
def xV (h:aV) (b e:aN):Prop:=
 ∀(w:World) (s:Sl),nG w h b e s→cO w→
  Calls Tryz.prog 72 #[dx h b e s] w fun e' w'=>e'= .returned (.bool (tH h b e))∧Below w.heap.size w w'
theorem tJ (l:aN) (hall:l.All xV) (w:World) (ao:Option Addr) (cap:Nat) (hl:l.len≤maxLen) (hat:l.At w w.heap.size ao 0) (cZ:cO w):
 Calls Tryz.prog 39 #[.slice ao l.len cap] w fun e' w'=>e'= .returned (.bool (fK l))∧Below w.heap.size w w':=by
 unfold maxLen at hl
 go_enter Tryz.func39,Tryz.ntmps39
 go_wp2_with fail
 go_loopw [4,7] (fun _ s wr=> ∃(k:Nat) (R:aN),s= .int .i64 k∧k + R.len=l.len∧fK l=fK R∧R.All xV∧R.At wr wr.heap.size ao k∧Below w.heap.size w wr) (fun _ s _=>l.len - (intOf s).toNat)
 case atStart=>exact ⟨0,l,rfl,by simp,rfl,hall,hat,Below.refl _ _⟩
 case round=>
  obtain ⟨k,R,rfl,hlen,heq,pK,hrow,hB⟩:=hrel
  have HE:=Lib.hid heq
  clear heq
  cases R with
  | nil=>
    obtain rfl:k=l.len:=by simpa [aN.len] using hlen
    go_wp2_with fail
    go_ret
    exact ⟨dh HE.out.symm,hB⟩
  | cons h b e R=>
    obtain ⟨bl,off,s,rfl,hbl,hin,x0,x1,x2,x3,x4,x5,x6,x7,x8,x9,x10,hrest⟩:=aN.At.head hrow
    obtain ⟨qN,GL⟩:=pK
    have hkl:k < l.len:=by simp only [aN.len] at hlen; omega
    clear hrow
    go_wp2_with fail
    have hba:=ah wr (.cells #[.int .i64 h.op,.int .i64 h.line,.string h.nm,.string h.arg,.slice s.dF h.idx.len s.bT,.int .i64 h.bD,.int .i64 h.xn,.string h.bC,.slice s.bS h.aL.len s.bf,.slice s.bG b.len s.aS,.slice s.dw e.len s.bR] 89)
    refine (qN _ s (hin.same hba) (cZ.same (hB.trans (hba.mono hB.size)))).mono ?_
    rintro e' w2 ⟨rfl,hb2⟩
    have HB3:=Lib.hid (hba.trans (hb2.mono (by simp)))
    clear hba hb2 x0 x1 x2 x3 x4 x5 x6 x7 x8 x9 x10 hin
    cases hS:tH h b e
    ·have HF:=Lib.hid (HE.out.trans (by rw [yU,hS]; rfl:fK (.cons h b e R)=false))
     go_wp2_with fail
     go_ret
     exact ⟨dh HF.out.symm,hB.trans (HB3.out.mono hB.size)⟩
    ·have HF:=Lib.hid (HE.out.trans (by rw [yU,hS]; rfl:fK (.cons h b e R)=fK R))
     go_wp2_with fail
     go_roundw
     case rel=>exact ⟨k + 1,R,by go_num,by simp only [aN.len] at hlen; omega,HF.out,GL,hrest.same HB3.out,hB.trans (HB3.out.mono hB.size)⟩
     case measure=>simp [intOf]; omega
theorem Dj (h:aV) (b e:aN) (ihb:b.All xV) (H8:e.All xV):xV h b e:=by
 intro w s hin cZ
 obtain ⟨dF,bT,bS,bf,bG,aS,dw,bR⟩:=s
 have HS:Hid (tH h b e=((((fO h.op && (iU h.nm (fN h.op) && iU h.arg (fA h.op))) && ((decide ((h.idx.len:Int)≤1) && (!decide ((h.idx.len:Int)=1) || fI h.op)) && iy h.idx)) &&
  ((if fX h.op then dS h.bD h.xn h.bC h.aL else pR h.bD h.xn h.bC h.aL.len) && ((fB h.op || decide ((b.len:Int)≤0)) && (fE h.op || decide ((e.len:Int)≤0))))) && (fK b && fK e))):=Lib.hid (by
  unfold tH iq; rw [Uo,U8,Kn,Kn])
 generalize tH h b e=res at *
 have jD:=Lib.hid hin
 have ig:=Lib.hid cZ
 have HIB:=Lib.hid ihb
 have HIE:=Lib.hid H8
 obtain ⟨⟨⟨o1,o2⟩,-,hm,ha,hil,hxk,hbl,hel⟩,-⟩:=hin
 clear cZ ihb H8
 have Qp:=hil
 have ai5:=hbl
 have ai7:=hel
 have hxl:=hxk.2.2.2
 unfold maxLen at hil hbl hel hxl
 unfold dx
 dsimp only
 go_enter Tryz.func72,Tryz.ntmps72
 go_upto_region 1 with fail
 generalize hW:World.alloc w _=W
 generalize Value.agg #[_,_,_,_,_,_,_,_,_,_,_]=a0
 have HX:Hid (Sit w W (nN w.heap.size h b e ⟨dF,bT,bS,bf,bG,aS,dw,bR⟩ [])):=Lib.hid (by rw [← hW]; exact (Sit.start w).gF rfl _ _ _ _ _ _ _ _ _ _ _ _)
 clear hW
 obtain ⟨-,⟨-,c0⟩,⟨-,c1⟩,⟨-,c2⟩,⟨-,c3⟩,⟨-,c4⟩,⟨-,c5⟩,⟨-,c6⟩,⟨-,c7⟩,⟨-,c8⟩,⟨-,c9⟩,⟨-,c10⟩,-⟩:=HX.out
 go_upto_region 2 with (go_at_call 112; refine (IK _ _).mono ?_; rintro e' w1 ⟨rfl,hb1⟩)
 have HB1:=Lib.hid hb1
 clear hb1
 generalize fN h.op=bN at *
 generalize fA h.op=bA at *
 generalize fI h.op=bI at *
 generalize fX h.op=bX at *
 generalize fB h.op=bB at *
 generalize fE h.op=bE at *
 generalize fO h.op=bO at *
 obtain ⟨n2,hn2⟩: ∃n,w1.heap.size=n:=⟨_,rfl⟩
 generalize hW2:World.alloc w1 _=W2
 have HY:Hid (Sit w W2 ((n2,0,.bool bN) ::(n2,1,.bool bA) ::(n2,2,.bool bI) ::(n2,3,.bool bX) ::(n2,4,.bool bB) ::(n2,5,.bool bE) ::nN w.heap.size h b e ⟨dF,bT,bS,bf,bG,aS,dw,bR⟩ [])):=Lib.hid (by rw [← hW2]; exact (HX.out.next HB1.out).yV hn2 _ _ _ _ _ _ _)
 rw [hn2]
 clear hW2 hn2 HX HB1 c0 c1 c2 c3 c4 c5 c6 c7 c8 c9 c10
 obtain ⟨-,⟨-,c0⟩,⟨-,c1⟩,⟨-,c2⟩,⟨-,c3⟩,⟨-,c4⟩,⟨-,c5⟩,⟨-,c6⟩,⟨-,c7⟩,⟨-,c8⟩,⟨-,c9⟩,⟨-,c10⟩,⟨-,c11⟩,⟨-,c12⟩,⟨-,c13⟩,⟨-,c14⟩,⟨-,c15⟩,⟨-,c16⟩,-⟩:=HY.out
 go_cut [4,7,30] (fun _ _ s' W2=> ∃t,s'= .bool t∧(!t)=(bO && (iU h.nm bN && iU h.arg bA))∧Sit w W2 ((n2,0,.bool bN) ::(n2,1,.bool bA) ::(n2,2,.bool bI) ::(n2,3,.bool bX) ::(n2,4,.bool bB) ::(n2,5,.bool bE) ::nN w.heap.size h b e ⟨dF,bT,bS,bf,bG,aS,dw,bR⟩ []))
 case first=>
  cases bO
  ·go_wp2_with fail
   go_meet
   exact ⟨true,rfl,rfl,HY.out⟩
  ·go_wp2_with fail
   refine (nT _ _ _ (ig.out.same HY.out.1) hm).mono ?_
   rintro e' w3 ⟨rfl,hb3⟩
   have HZ:=Lib.hid (HY.out.next hb3)
   clear hb3 HY c0 c1 c2 c3 c4 c5 c6 c7 c8 c9 c10 c11 c12 c13 c14 c15 c16
   obtain ⟨-,⟨-,c0⟩,⟨-,c1⟩,⟨-,c2⟩,⟨-,c3⟩,⟨-,c4⟩,⟨-,c5⟩,⟨-,c6⟩,⟨-,c7⟩,⟨-,c8⟩,⟨-,c9⟩,⟨-,c10⟩,⟨-,c11⟩,⟨-,c12⟩,⟨-,c13⟩,⟨-,c14⟩,⟨-,c15⟩,⟨-,c16⟩,-⟩:=HZ.out
   cases hq:iU h.nm bN
   ·go_wp2_with fail
    go_meet
    exact ⟨true,rfl,by rw [hq]; rfl,HZ.out⟩
   ·go_wp2_with fail
    refine (nT _ _ _ (ig.out.same HZ.out.1) ha).mono ?_
    rintro e' w3 ⟨rfl,hb3⟩
    have HU:=Lib.hid (HZ.out.next hb3)
    clear hb3 HZ c0 c1 c2 c3 c4 c5 c6 c7 c8 c9 c10 c11 c12 c13 c14 c15 c16
    cases hq2:iU h.arg bA
    all_goals go_wp2_with fail
    all_goals go_meet
    all_goals exact ⟨_,rfl,by rw [hq,hq2]; rfl,HU.out⟩
 obtain ⟨t1,rfl,ht1,hX⟩:=hcut
 have HZ:=Lib.hid hX
 have HT1:=Lib.hid ht1
 clear hX ht1 HY c0 c1 c2 c3 c4 c5 c6 c7 c8 c9 c10 c11 c12 c13 c14 c15 c16
 rw [← HT1.out] at HS
 clear HT1
 cases t1
 case true=>
  go_wp2_with fail
  go_ret
  exact ⟨dh HS.out.symm,HZ.out.1⟩
 obtain ⟨-,⟨-,c0⟩,⟨-,c1⟩,⟨-,c2⟩,⟨-,c3⟩,⟨-,c4⟩,⟨-,c5⟩,⟨-,c6⟩,⟨-,c7⟩,⟨-,c8⟩,⟨-,c9⟩,⟨-,c10⟩,⟨-,c11⟩,⟨-,c12⟩,⟨-,c13⟩,⟨-,c14⟩,⟨-,c15⟩,⟨-,c16⟩,-⟩:=HZ.out
 go_upto_region 4 with fail
 go_cut [45] (fun s' W3=>wc=W3∧ ∃t,s'= .bool t∧(!t)=(decide ((h.idx.len:Int)≤1) && (!decide ((h.idx.len:Int)=1) || bI)))
 case first=>
  go_wp2_with fail
  all_goals go_meet
  all_goals exact ⟨rfl,_,rfl,by go_light; grind⟩
 obtain ⟨rfl,t2,rfl,ht2⟩:=hcut
 have HT2:=Lib.hid ht2
 rw [← HT2.out] at HS
 clear HT2 ht2
 cases t2
 case true=>
  go_wp2_with fail
  go_ret
  exact ⟨dh (HS.out.trans (by simp)).symm,HZ.out.1⟩
 have X0:=Lib.hid (jD.out.same HZ.out.1)
 have hrow:=X0.out.2.1
 have hall:=X0.out.1
 clear hall
 go_wp2_with fail
 go_loopw [6,49] (fun _ s' wr=> ∃(k:Nat) (R:aP),s'= .int .i64 k∧k + R.len=h.idx.len∧iy h.idx=iy R∧R.At wr wr.heap.size dF k∧Sit w wr ((n2,0,.bool bN) ::(n2,1,.bool bA) ::(n2,2,.bool bI) ::(n2,3,.bool bX) ::(n2,4,.bool bB) ::(n2,5,.bool bE) ::nN w.heap.size h b e ⟨dF,bT,bS,bf,bG,aS,dw,bR⟩ [])) (fun _ s' _=>h.idx.len - (intOf s').toNat)
 case atStart=>exact ⟨0,h.idx,rfl,by simp,rfl,hrow,HZ.out⟩
 case round=>
  obtain ⟨k,R,rfl,hlen,heq,hrow',hsit⟩:=hrel
  have HE:=Lib.hid heq
  have HU:=Lib.hid hsit
  clear heq hsit HZ hrow X0 c0 c1 c2 c3 c4 c5 c6 c7 c8 c9 c10 c11 c12 c13 c14 c15 c16
  cases R with
  | cons op' n' nm' eD rest=>
    obtain ⟨⟨b',off',gQ,cap',rfl,vN,x0,x1,x2,x3,hok',og⟩,hrest⟩:=hrow'
    have hlt:k < h.idx.len:=by simp only [aP.len] at hlen; omega
    go_wp2_with fail
    have hba:=ah wr (.cells #[.int .i64 op',.int .i64 n',.string nm',.slice gQ eD.len cap'] 45)
    refine (rH op' n' nm' eD _ _ _ hok' (og.same hba) ((ig.out.same HU.out.1).same hba)).mono ?_
    rintro e' w2 ⟨rfl,hb2⟩
    have HB3:=Lib.hid (hba.trans (hb2.mono (by simp)))
    clear hba hb2 x0 x1 x2 x3 og
    cases hS:dS op' n' nm' eD
    ·rw [HE.out,wI,hS] at HS
     go_wp2_with fail
     go_ret
     exact ⟨dh (HS.out.trans (by simp)).symm,(HU.out.next HB3.out).1⟩
    ·have HF:=Lib.hid (HE.out.trans (by rw [wI,hS]; rfl:iy (.cons op' n' nm' eD rest)=iy rest))
     go_wp2_with fail
     go_roundw
     case rel=>exact ⟨k + 1,rest,by go_num,by simp only [aP.len] at hlen; omega,HF.out,hrest.same HB3.out,HU.out.next HB3.out⟩
     case measure=>simp [intOf]; omega
  | nil=>
    obtain rfl:k=h.idx.len:=by simpa [aP.len] using hlen
    rw [HE.out] at HS
    clear HE hrow' hlen
    obtain ⟨-,⟨-,c0⟩,⟨-,c1⟩,⟨-,c2⟩,⟨-,c3⟩,⟨-,c4⟩,⟨-,c5⟩,⟨-,c6⟩,⟨-,c7⟩,⟨-,c8⟩,⟨-,c9⟩,⟨-,c10⟩,⟨-,c11⟩,⟨-,c12⟩,⟨-,c13⟩,⟨-,c14⟩,⟨-,c15⟩,⟨-,c16⟩,-⟩:=HU.out
    have hba:=ig.out.same HU.out.1
    go_upto_region 12 with fail
    go_cut [75] (fun s' W3=> ∃t,s'= .bool t∧(!t)=(if bX then dS h.bD h.xn h.bC h.aL else pR h.bD h.xn h.bC h.aL.len)∧Sit w W3 ((n2,0,.bool bN) ::(n2,1,.bool bA) ::(n2,2,.bool bI) ::(n2,3,.bool bX) ::(n2,4,.bool bB) ::(n2,5,.bool bE) ::nN w.heap.size h b e ⟨dF,bT,bS,bf,bG,aS,dw,bR⟩ []))
    case first=>
     cases bX
     ·go_wp2_with fail
      refine (Hg _ _ _ _ _ _ _).mono ?_
      rintro e' w3 ⟨rfl,hb3⟩
      have HV:=Lib.hid (HU.out.next hb3)
      clear hb3
      cases hq:pR h.bD h.xn h.bC h.aL.len
      all_goals go_wp2_with fail
      all_goals go_meet
      all_goals exact ⟨_,rfl,hq.symm,HV.out⟩
     ·go_wp2_with fail
      refine (rH _ _ _ _ _ _ _ hxk (jD.out.same HU.out.1).2.2.1 hba).mono ?_
      rintro e' w3 ⟨rfl,hb3⟩
      have HV:=Lib.hid (HU.out.next hb3)
      clear hb3 HU c0 c1 c2 c3 c4 c5 c6 c7 c8 c9 c10 c11 c12 c13 c14 c15 c16
      obtain ⟨-,⟨-,c0⟩,⟨-,c1⟩,⟨-,c2⟩,⟨-,c3⟩,⟨-,c4⟩,⟨-,c5⟩,⟨-,c6⟩,⟨-,c7⟩,⟨-,c8⟩,⟨-,c9⟩,⟨-,c10⟩,⟨-,c11⟩,⟨-,c12⟩,⟨-,c13⟩,⟨-,c14⟩,⟨-,c15⟩,⟨-,c16⟩,-⟩:=HV.out
      cases hq:dS h.bD h.xn h.bC h.aL
      all_goals go_wp2_with fail
      all_goals go_meet
      all_goals exact ⟨_,rfl,hq.symm,HV.out⟩
    obtain ⟨t3,rfl,ht3,hX⟩:=hcut
    have HV:=Lib.hid hX
    have HT3:=Lib.hid ht3
    clear hX ht3 HU hba c0 c1 c2 c3 c4 c5 c6 c7 c8 c9 c10 c11 c12 c13 c14 c15 c16
    rw [← HT3.out] at HS
    clear HT3
    cases t3
    case true=>
     go_wp2_with fail
     go_ret
     exact ⟨dh (HS.out.trans (by simp)).symm,HV.out.1⟩
    obtain ⟨-,⟨-,c0⟩,⟨-,c1⟩,⟨-,c2⟩,⟨-,c3⟩,⟨-,c4⟩,⟨-,c5⟩,⟨-,c6⟩,⟨-,c7⟩,⟨-,c8⟩,⟨-,c9⟩,⟨-,c10⟩,⟨-,c11⟩,⟨-,c12⟩,⟨-,c13⟩,⟨-,c14⟩,⟨-,c15⟩,⟨-,c16⟩,-⟩:=HV.out
    go_upto_region 14 with fail
    go_cut [95] (fun s' W3=>wc=W3∧ ∃t,s'= .bool t∧(!t)=((bB || decide ((b.len:Int)≤0)) && (bE || decide ((e.len:Int)≤0))))
    case first=>
     cases bB
     all_goals cases bE
     all_goals go_wp2_with fail
     all_goals go_meet
     all_goals exact ⟨rfl,_,rfl,by go_light; grind⟩
    obtain ⟨rfl,t4,rfl,ZT⟩:=hcut
    have OM:=Lib.hid ZT
    rw [← OM.out] at HS
    clear OM ZT
    cases t4
    case true=>
     go_wp2_with fail
     go_ret
     exact ⟨dh (HS.out.trans (by simp)).symm,HV.out.1⟩
    go_wp2_with fail
    refine (tJ b HIB.out _ _ _ ai5 (jD.out.same HV.out.1).2.2.2.1 (ig.out.same HV.out.1)).mono ?_
    rintro e' w4 ⟨rfl,hb4⟩
    have HA:=Lib.hid (HV.out.next hb4)
    clear hb4 HV c0 c1 c2 c3 c4 c5 c6 c7 c8 c9 c10 c11 c12 c13 c14 c15 c16
    obtain ⟨-,⟨-,c0⟩,⟨-,c1⟩,⟨-,c2⟩,⟨-,c3⟩,⟨-,c4⟩,⟨-,c5⟩,⟨-,c6⟩,⟨-,c7⟩,⟨-,c8⟩,⟨-,c9⟩,⟨-,c10⟩,⟨-,c11⟩,⟨-,c12⟩,⟨-,c13⟩,⟨-,c14⟩,⟨-,c15⟩,⟨-,c16⟩,-⟩:=HA.out
    cases hq:fK b
    ·rw [hq] at HS
     go_wp2_with fail
     go_ret
     exact ⟨dh (HS.out.trans (by simp)).symm,HA.out.1⟩
    ·rw [hq] at HS
     go_wp2_with fail
     refine (tJ e HIE.out _ _ _ ai7 (jD.out.same HA.out.1).2.2.2.2 (ig.out.same HA.out.1)).mono ?_
     rintro e' w5 ⟨rfl,hb5⟩
     go_wp2_with fail
     go_ret
     exact ⟨dh (HS.out.trans (by simp [iy])).symm,(HA.out.next hb5).1⟩
theorem El (l:aN) (w:World) (ao:Option Addr) (cap:Nat) (hl:l.len≤maxLen) (hat:l.At w w.heap.size ao 0) (cZ:cO w):
 Calls Tryz.prog 39 #[.slice ao l.len cap] w fun e' w'=>e'= .returned (.bool (fK l))∧Below w.heap.size w w':=
 tJ l (aN.oo Dj l) w ao cap hl hat cZ
end Go.Proofs.YtehnipchbmjlhaaGreatDoor
end
section
namespace Go.Proofs.YtehnipchbmjlhaaGreatDoor
open Go.RowKit
open Md
theorem Mw (p:Pr) (w:World) (aH aI:Option Addr) (aC aD:Nat) (hp:p.At w aH aI) (cZ:cO w):
 Calls Tryz.prog 13 #[.agg #[.slice aH p.ds.length aC,.slice aI p.ts.length aD]] w fun e w'=>e= .returned (.bool (nQ p))∧Below w.heap.size w w':=by
 have HS:Hid (nQ p=((p.ds.all fG && p.ts.all jh) && decide ((0:Int) < p.ts.length))):=Lib.hid rfl
 generalize nQ p=res at *
 have hld:=hp.1
 have hlt:=hp.2.1
 unfold maxLen at hld hlt
 have HP:=Lib.hid hp
 have ig:=Lib.hid cZ
 clear hp cZ
 go_enter Tryz.func13,Tryz.ntmps13
 go_upto_region 1 with fail
 generalize hW:World.alloc w _=W
 generalize Value.agg #[_,_]=a0
 have HX:=Lib.hid ((Sit.start w).zf rfl (.slice aH p.ds.length aC) (.slice aI p.ts.length aD) 26)
 rw [hW] at HX
 clear hW
 obtain ⟨-,⟨-,c0⟩,⟨-,c1⟩,-⟩:=HX.out
 have hde:=(HP.out.same HX.out.1).2.2.1
 go_wp2_with fail
 go_loopw [4,12] (fun _ s wr=> ∃(k:Nat) (R:List De),s= .int .i64 k∧k + R.length=p.ds.length∧p.ds.all fG=R.all fG∧iL wr wr.heap.size R aH k∧Sit w wr [(w.heap.size,0,(.slice aH p.ds.length aC)),(w.heap.size,1,(.slice aI p.ts.length aD))]) (fun _ s _=>p.ds.length - (intOf s).toNat)
 case atStart=>exact ⟨0,p.ds,rfl,by simp,rfl,hde,HX.out⟩
 case round=>
  obtain ⟨k,R,rfl,hlen,heq,hrow,hsit⟩:=hrel
  have HZ:=Lib.hid hsit
  have HE:=Lib.hid heq
  clear hsit HX c0 c1 hde heq
  cases R with
  | cons d R=>
    obtain ⟨⟨b,off,rfl,hB,x0,x1,x2,x3,x4,x5,hok⟩,hrest⟩:=hrow
    simp only [List.length_cons] at hlen
    have hkl:k < p.ds.length:=by omega
    have gV:=Lib.hid hok
    clear hok
    go_wp2_with fail
    have hba:=ah wr (.cells #[.int .i64 d.kind,.int .i64 d.line,.string d.nm,.int .i64 d.size,.int .i64 d.init,.string d.on] 62)
    refine (Eh d _ ((ig.out.same HZ.out.1).same hba) gV.out).mono ?_
    rintro e' w2 ⟨rfl,hb2⟩
    have HB3:=Lib.hid (hba.trans (hb2.mono (by simp)))
    clear hba hb2 x0 x1 x2 x3 x4 x5
    cases hS:fG d
    ·rw [HE.out,List.all_cons,hS] at HS
     go_wp2_with fail
     go_ret
     exact ⟨dh (HS.out.trans (by simp)).symm,(HZ.out.next HB3.out).1⟩
    ·have HF:=Lib.hid (HE.out.trans (by rw [List.all_cons,hS]; rfl:_=R.all fG))
     go_wp2_with fail
     go_roundw
     case rel=>exact ⟨k + 1,R,by go_num,by omega,HF.out,hrest.same HB3.out,HZ.out.next HB3.out⟩
     case measure=>simp [intOf]; omega
  | nil=>
    obtain rfl:k=p.ds.length:=by simpa using hlen
    rw [HE.out] at HS
    obtain ⟨-,⟨-,c0⟩,⟨-,c1⟩,-⟩:=HZ.out
    have hth:=(HP.out.same HZ.out.1).2.2.2
    clear HE hrow hlen
    go_wp2_with fail
    go_loopw [6,8,23,31,32,33,34,35] (fun _ _ s _ _ _ _ _ wr=> ∃(k:Nat) (R:List Th),s= .int .i64 k∧k + R.length=p.ts.length∧p.ts.all jh=R.all jh∧iI wr wr.heap.size R aI k∧Sit w wr [(w.heap.size,0,(.slice aH p.ds.length aC)),(w.heap.size,1,(.slice aI p.ts.length aD))]) (fun _ _ s _ _ _ _ _ _=>p.ts.length - (intOf s).toNat)
    case atStart=>exact ⟨0,p.ts,rfl,by simp,rfl,hth,HZ.out⟩
    case round=>
     obtain ⟨k,R,rfl,hlen,heq,hrow,hsit⟩:=hrel
     have HU:=Lib.hid hsit
     have HE:=Lib.hid heq
     clear hsit HZ c0 c1 hth heq
     cases R with
     | nil=>
       obtain rfl:k=p.ts.length:=by simpa using hlen
       rw [HE.out] at HS
       obtain ⟨-,⟨-,c0⟩,⟨-,c1⟩,-⟩:=HU.out
       go_wp2_with fail
       go_ret
       exact ⟨dh (HS.out.trans (by simp)).symm,HU.out.1⟩
     | cons t R=>
       obtain ⟨⟨b,off,fC,dN,bG,aS,rfl,hB,x0,x1,x2,x3,hok,htx,hst⟩,hrest⟩:=hrow
       simp only [List.length_cons] at hlen
       have hkl:k < p.ts.length:=by omega
       have hll:=hok.2.2.1
       have gV:=Lib.hid hok
       have zB:=Lib.hid htx
       have HST:=Lib.hid hst
       unfold maxLen at hll
       clear hok htx hst
       go_upto_region 10 with fail
       obtain ⟨n2,hn2⟩: ∃n,wr.heap.size=n:=⟨_,rfl⟩
       generalize hW2:World.alloc wr _=W2
       have HB2:Hid (Below wr.heap.size wr W2):=Lib.hid (by rw [← hW2]; exact ah _ _)
       have HV:Hid (Sit w W2 ((n2,0,.string t.nm) ::(n2,1,.int .i64 t.line) ::(n2,2,.slice fC t.bH.length dN) ::(n2,3,.slice bG t.body.len aS) ::[(w.heap.size,0,(.slice aH p.ds.length aC)),(w.heap.size,1,(.slice (some ⟨b,off,none⟩) p.ts.length aD))])):=Lib.hid (by rw [← hW2]; exact HU.out.qU hn2 _ _ _ _ _)
       rw [hn2]
       clear hW2 hn2 x0 x1 x2 x3
       obtain ⟨-,⟨-,c0⟩,⟨-,c1⟩,⟨-,c2⟩,⟨-,c3⟩,⟨-,c4⟩,⟨-,c5⟩,-⟩:=HV.out
       go_wp2_with fail
       refine (uw _ _ (ig.out.same HV.out.1) gV.out.1).mono ?_
       rintro e' w3 ⟨rfl,hb3⟩
       have HB3:=Lib.hid hb3
       have HA:=Lib.hid (HV.out.next hb3)
       clear hb3 HV c0 c1 c2 c3 c4 c5
       obtain ⟨-,⟨-,c0⟩,⟨-,c1⟩,⟨-,c2⟩,⟨-,c3⟩,⟨-,c4⟩,⟨-,c5⟩,-⟩:=HA.out
       cases hN:Tk.dZ t.nm.data.toList
       ·rw [HE.out,List.all_cons,show jh t=false by unfold jh; rw [hN]; rfl] at HS
        go_wp2_with fail
        go_ret
        exact ⟨dh (HS.out.trans (by simp)).symm,HA.out.1⟩
       ·have hrow:=zB.out.same (HB2.out.trans (HB3.out.mono HB2.out.size))
        have MK:=Lib.hid (HB2.out.trans (HB3.out.mono HB2.out.size))
        clear HB2 HB3
        go_wp2_with fail
        obtain ⟨wo,rfl⟩: ∃wo:World,wo=wr:=⟨_,rfl⟩
        go_loopw [8,34] (fun _ s wr=> ∃(k:Nat) (R:List ByteArray),s= .int .i64 k∧k + R.length=t.bH.length∧t.bH.all (fun s=>Tk.dZ s.data.toList)=R.all (fun s=>Tk.dZ s.data.toList)∧iX wr wr.heap.size R fC k∧Below wo.heap.size wo wr∧Sit w wr ((n2,0,.string t.nm) ::(n2,1,.int .i64 t.line) ::(n2,2,.slice fC t.bH.length dN) ::(n2,3,.slice bG t.body.len aS) ::[(w.heap.size,0,(.slice aH p.ds.length aC)),(w.heap.size,1,(.slice (some ⟨b,off,none⟩) p.ts.length aD))])) (fun _ s _=>t.bH.length - (intOf s).toNat)
        case atStart=>exact ⟨0,t.bH,rfl,by simp,rfl,hrow,MK.out,HA.out⟩
        case round=>
         obtain ⟨k',R',rfl,hlen',heq',hrow',Bw,Sm⟩:=hrel
         have HC:=Lib.hid Sm
         have OW:=Lib.hid Bw
         have fQ:=Lib.hid heq'
         clear Sm HA c0 c1 c2 c3 c4 c5 hrow heq' Bw MK
         cases R' with
         | cons s R'=>
           obtain ⟨⟨b',off',rfl,hB',y0,hs⟩,hrest'⟩:=hrow'
           simp only [List.length_cons] at hlen'
           have hkl':k' < t.bH.length:=by omega
           go_wp2_with fail
           refine (uw _ _ (ig.out.same HC.out.1) hs).mono ?_
           rintro e' w3 ⟨rfl,hb3⟩
           have gy:=Lib.hid hb3
           clear hb3
           cases Nn:Tk.dZ s.data.toList
           ·rw [HE.out,List.all_cons,show jh t=false by unfold jh; rw [fQ.out,List.all_cons,Nn]; simp] at HS
            go_wp2_with fail
            go_ret
            exact ⟨dh (HS.out.trans (by simp)).symm,(HC.out.next gy.out).1⟩
           ·have HF:=Lib.hid (fQ.out.trans (by rw [List.all_cons,Nn]; rfl:_=R'.all (fun s=>Tk.dZ s.data.toList)))
            go_wp2_with fail
            go_roundw
            case rel=>exact ⟨k' + 1,R',by go_num,by omega,HF.out,hrest'.same gy.out,OW.out.trans (gy.out.mono OW.out.size),HC.out.next gy.out⟩
            case measure=>simp [intOf]; omega
         | nil=>
           obtain rfl:k'=t.bH.length:=by simpa using hlen'
           obtain ⟨-,⟨-,c0⟩,⟨-,c1⟩,⟨-,c2⟩,⟨-,c3⟩,⟨-,c4⟩,⟨-,c5⟩,-⟩:=HC.out
           go_wp2_with fail
           refine (El t.body _ _ _ gV.out.2.2.2 (HST.out.1.same OW.out) (ig.out.same HC.out.1)).mono ?_
           rintro e' w3 ⟨rfl,hb3⟩
           have gy:=Lib.hid hb3
           clear hb3
           have HT:Hid (jh t=fK t.body):=Lib.hid (by unfold jh; rw [hN,fQ.out]; rfl)
           cases Nn:fK t.body
           ·rw [HE.out,List.all_cons,HT.out,Nn] at HS
            go_wp2_with fail
            go_ret
            exact ⟨dh (HS.out.trans (by simp)).symm,(HC.out.next gy.out).1⟩
           ·have HF:=Lib.hid (HE.out.trans (by rw [List.all_cons,HT.out,Nn]; rfl:_=R.all jh))
            have BH:=Lib.hid (OW.out.trans (gy.out.mono OW.out.size))
            have Yf:=Lib.hid (HU.out.next BH.out)
            go_wp2_with fail
            go_roundw
            case rel=>exact ⟨k + 1,R,by go_num,by omega,HF.out,hrest.same BH.out,Yf.out⟩
            case measure=>simp [intOf]; omega
end Go.Proofs.YtehnipchbmjlhaaGreatDoor
end
