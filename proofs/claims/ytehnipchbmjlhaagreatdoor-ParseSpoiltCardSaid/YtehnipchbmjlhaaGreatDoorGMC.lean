/-
  Contracts of parse.operands, nameOrEmpty, ShapedExpr.
  Contracts of parse.fieldsOf, zeroExpr, shapedDecl.
  Contract of parse.ShapedExpr.
  Contracts of parse.shapedStmt, shapedList, Shaped.
  Contract of parse.Shaped.
-/
import Derived.Test.YtehnipchbmjlhaaGreatDoorGMA
import Derived.Test.YtehnipchbmjlhaaGreatDoorGNA
set_option linter.unusedSimpArgs false
set_option linter.unusedVariables false
set_option maxHeartbeats 40000000
set_option maxRecDepth 1000000
section
namespace Go.Proofs.YtehnipchbmjlhaaGreatDoor
open Go.RowKit
open Md
theorem rH (op:Int) (w:World):
 Calls Tryz.prog 77 #[.int .i64 op] w fun e w'=>e= .returned (.int .i64 (opsOf op))∧w=w':=by
 unfold opsOf
 go_enter Tryz.func77,Tryz.ntmps77
 go_wp2
 all_goals go_ret
 all_goals refine ⟨LC ?_,rfl⟩
 all_goals first | (simp [*]; done) | ((repeat' split) <;> simp_all <;> omega)
theorem om (s:ByteArray) (b:Bool) (w:World) (jJ:eT w) (hm:s.size≤maxLen):
 Calls Tryz.prog 70 #[.string s,.bool b] w fun e w'=>e= .returned (.bool (jw s b))∧Below w.heap.size w w':=by
 cases b
 ·go_enter Tryz.func70,Tryz.ntmps70
  go_wp2
  go_ret
  exact ⟨by simp [jw,Lib.toList_data],Below.refl _ _⟩
 ·go_enter Tryz.func70,Tryz.ntmps70
  go_wp2_with (go_at_call 38; refine (uO _ _ jJ hm).mono ?_; rintro e w' ⟨rfl,hb⟩)
  go_ret
  exact ⟨rfl,hb⟩
end Go.Proofs.YtehnipchbmjlhaaGreatDoor
end
section
namespace Go.Proofs.YtehnipchbmjlhaaGreatDoor
open Go.RowKit
open Md
theorem Jp (op:Int) (w:World):
 Calls Tryz.prog 112 #[.int .i64 op] w fun e w'=>e= .returned (.tuple #[.agg #[.bool (fN op),.bool (fA op),.bool (fI op),.bool (fX op),.bool (fB op),.bool (fE op)],.bool (fO op)])∧Below w.heap.size w w':=by
 have hop:op=1∨op=2∨op=3∨op=4∨op=5∨op=6∨op=7∨op=8∨op=9∨op=10∨op=11∨op=12∨op=13∨op=14∨op=15∨(op < 1∨15 < op):=by omega
 rcases hop with rfl | rfl | rfl | rfl | rfl | rfl | rfl | rfl | rfl | rfl | rfl | rfl | rfl | rfl | rfl | hop
 case inr.inr.inr.inr.inr.inr.inr.inr.inr.inr.inr.inr.inr.inr.inr=>
  have e1:fN op=false:=by unfold fN; grind
  have e2:fA op=false:=by unfold fA; grind
  have e3:fI op=false:=by unfold fI; grind
  have e4:fX op=false:=by unfold fX; grind
  have e5:fB op=false:=by unfold fB; grind
  have e6:fE op=false:=by unfold fE; grind
  have e7:fO op=false:=by unfold fO; grind
  rw [e1,e2,e3,e4,e5,e6,e7]
  clear e1 e2 e3 e4 e5 e6 e7
  have g1:(op == 1)=false:=by rw [beq_eq_false_iff_ne]; omega
  have g2:(op == 2)=false:=by rw [beq_eq_false_iff_ne]; omega
  have g3:(op == 3)=false:=by rw [beq_eq_false_iff_ne]; omega
  have g4:(op == 4)=false:=by rw [beq_eq_false_iff_ne]; omega
  have g5:(op == 5)=false:=by rw [beq_eq_false_iff_ne]; omega
  have g6:(op == 6)=false:=by rw [beq_eq_false_iff_ne]; omega
  have g7:(op == 7)=false:=by rw [beq_eq_false_iff_ne]; omega
  have g8:(op == 8)=false:=by rw [beq_eq_false_iff_ne]; omega
  have g9:(op == 9)=false:=by rw [beq_eq_false_iff_ne]; omega
  have g10:(op == 10)=false:=by rw [beq_eq_false_iff_ne]; omega
  have g11:(op == 11)=false:=by rw [beq_eq_false_iff_ne]; omega
  have g12:(op == 12)=false:=by rw [beq_eq_false_iff_ne]; omega
  have g13:(op == 13)=false:=by rw [beq_eq_false_iff_ne]; omega
  have g14:(op == 14)=false:=by rw [beq_eq_false_iff_ne]; omega
  have g15:(op == 15)=false:=by rw [beq_eq_false_iff_ne]; omega
  clear hop
  go_enter Tryz.func112,Tryz.ntmps112
  go_wp2
  exact bodyPost_ret (v:= .tuple #[.agg #[.bool _,.bool _,.bool _,.bool _,.bool _,.bool _],.bool _]) (by simp [results,Tryz.results112,go_sem]) rfl ⟨rfl,ah _ _⟩
 all_goals
  go_enter Tryz.func112,Tryz.ntmps112
  go_wp2
  exact bodyPost_ret (v:= .tuple #[.agg #[.bool _,.bool _,.bool _,.bool _,.bool _,.bool _],.bool _]) (by simp [results,Tryz.results112,go_sem]; decide) rfl ⟨rfl,ah _ _⟩
theorem K6 (op n:Int) (nm:ByteArray) (len cap:Nat) (ao:Option Addr) (w:World):
 Calls Tryz.prog 113 #[.agg #[.int .i64 op,.int .i64 n,.string nm,.slice ao len cap]] w fun e w'=>e= .returned (.bool (sV op n nm len))∧Below w.heap.size w w':=by
 have HE:Hid (sV op n nm len=(((decide (op=0) && decide (n=0)) && decide (nm.toList=[])) && decide (len=0))):=Lib.hid (by unfold sV; rw [Bool.eq_iff_iff]; simp)
 go_enter Tryz.func113,Tryz.ntmps113
 go_wp2
 all_goals go_ret
 all_goals refine ⟨bG ?_,ah _ _⟩
 all_goals rw [HE.out]
 all_goals (go_light; grind)
theorem Fy (d:De) (w:World) (jJ:eT w) (hok:d.Ok):
 Calls Tryz.prog 37 #[.agg #[.int .i64 d.kind,.int .i64 d.line,.string d.nm,.int .i64 d.size,.int .i64 d.init,.string d.on]] w fun e w'=>e= .returned (.bool (jv d))∧Below w.heap.size w w':=by
 obtain ⟨⟨k1,k2⟩,-,hm,-,-,ho⟩:=hok
 obtain ⟨kind,line,nm,size,init,on⟩:=d
 have HE:Hid (jv ⟨kind,line,nm,size,init,on⟩=((((decide (1≤kind) && decide (kind≤6)) && Tk.gM nm.data.toList) && (decide (0≤size) && (decide (size=0) || decide (kind=1)))) && ((!decide (init= -9223372036854775808) && (decide (init=0) || (decide (kind=1) || decide (kind=2)))) && jw on (kind == 5)))):=Lib.hid (by
  unfold jv; simp only [bne]; rw [Bool.eq_iff_iff]; simp)
 dsimp only at *
 generalize jv ⟨kind,line,nm,size,init,on⟩=res at *
 go_enter Tryz.func37,Tryz.ntmps37
 go_upto_region 1 with fail
 generalize hW:World.alloc w _=W
 generalize Value.agg #[_,_,_,_,_,_]=a0
 have HX:=Lib.hid ((Sit.start w).Bh rfl (.int .i64 kind) (.int .i64 line) (.string nm) (.int .i64 size) (.int .i64 init) (.string on) 62)
 rw [hW] at HX
 clear hW
 obtain ⟨-,⟨-,c0⟩,⟨-,c1⟩,⟨-,c2⟩,⟨-,c3⟩,⟨-,c4⟩,⟨-,c5⟩,-⟩:=HX.out
 go_cut [16] (fun s W2=> ∃b,s= .bool b∧(!b)=((decide (1≤kind) && decide (kind≤6)) && Tk.gM nm.data.toList)∧Sit w W2 [(w.heap.size,0,.int .i64 kind),(w.heap.size,1,.int .i64 line),(w.heap.size,2,.string nm),(w.heap.size,3,.int .i64 size),(w.heap.size,4,.int .i64 init),(w.heap.size,5,.string on)])
 case first=>
  go_wp2_with (go_at_call 38; refine (uO _ _ (jJ.same HX.out.1) hm).mono ?_; rintro e w' ⟨rfl,hb⟩)
  all_goals go_meet
  all_goals first | exact ⟨_,rfl,by go_light; grind,HX.out.next ‹_›⟩ | exact ⟨_,rfl,by go_light; grind,HX.out⟩
 obtain ⟨b1,rfl,hb1,hX⟩:=hcut
 have HY:=Lib.hid hX
 have HB1:=Lib.hid hb1
 clear hX HX hb1 c0 c1 c2 c3 c4 c5
 obtain ⟨-,⟨-,c0⟩,⟨-,c1⟩,⟨-,c2⟩,⟨-,c3⟩,⟨-,c4⟩,⟨-,c5⟩,-⟩:=HY.out
 cases b1
 ·cases h5:(kind == 5)
  all_goals
   rw [h5] at HE
   go_wp2_with (go_at_call 70; refine (om _ _ _ (jJ.same HY.out.1) ho).mono ?_; rintro e w' ⟨rfl,hb⟩)
  all_goals go_ret
  all_goals first | refine ⟨bG ?_,(HY.out.next ‹_›).1⟩ | refine ⟨bG ?_,HY.out.1⟩
  all_goals rw [HE.out,← HB1.out]
  all_goals (go_light; grind)
 ·go_wp2_with fail
  go_ret
  refine ⟨bG ?_,HY.out.1⟩
  rw [HE.out,← HB1.out]; rfl
end Go.Proofs.YtehnipchbmjlhaaGreatDoor
end
section
namespace Go.Proofs.YtehnipchbmjlhaaGreatDoor
open Go.RowKit
open Md
def C8 (op n:Int) (nm:ByteArray) (kids:aZ):Prop:=
 ∀(w:World) (ao:Option Addr) (cap:Nat),qO op n nm kids→kids.At w w.heap.size ao 0→eT w→
  Calls Tryz.prog 43 #[.agg #[.int .i64 op,.int .i64 n,.string nm,.slice ao kids.len cap]] w fun e w'=>e= .returned (.bool (gW op n nm kids))∧Below w.heap.size w w'
theorem SY {op n:Int} {nm:ByteArray} {kids:aZ} (h:((kids.len:Int) == opsOf op)=false):gW op n nm kids=false:=by unfold gW yh; rw [h]; rfl
theorem Qb {op n:Int} {nm:ByteArray} {kids:aZ} (h:n < 0∨((n == 0)=false∧(op == 1)=false)):gW op n nm kids=false:=by
 unfold gW yh
 rcases h with h | ⟨h,h'⟩
 ·rw [decide_eq_true h]; simp
 ·rw [h,h']; simp
theorem Wy {op n:Int} {nm:ByteArray} {kids:aZ} {b:Bool} (hb:named op=b) (h:jw nm b=false):gW op n nm kids=false:=by
 unfold gW yh; rw [hb,h]; simp
theorem S9 {op n:Int} {nm:ByteArray} {kids:aZ} {b:Bool} (h1:((kids.len:Int) == opsOf op)=true) (h2:0≤n) (h3:(n == 0)=true∨(op == 1)=true) (hb:named op=b) (h:jw nm b=true):gW op n nm kids=jo kids:=by
 unfold gW yh; rw [hb,h,h1,decide_eq_false (by omega)]
 rcases h3 with h3 | h3 <;> rw [h3] <;> simp
theorem VW (op n:Int):(n < 0)∨(0 < n∧op≠1)∨
 ∃b,named op=b∧0≤n∧((n == 0)=true∨(op == 1)=true)∧
  ((0 < n∧op=1∧b=false)∨(n=0∧op=2∧b=true)∨(n=0∧op=3∧b=true)∨(n=0∧(op == 2)=false∧(op == 3)=false∧b=false)):=by
 by_cases h:n < 0
 ·exact Or.inl h
 ·by_cases h0:n=0
  ·subst h0
   by_cases h2:op=2
   ·subst h2; exact Or.inr (Or.inr ⟨true,rfl,by omega,Or.inl rfl,by simp⟩)
   ·by_cases h3:op=3
    ·subst h3; exact Or.inr (Or.inr ⟨true,rfl,by omega,Or.inl rfl,by simp⟩)
    ·exact Or.inr (Or.inr ⟨false,by simp [named,h2,h3],by omega,Or.inl rfl,by simp [h2,h3]⟩)
  ·by_cases h1:op=1
   ·subst h1; exact Or.inr (Or.inr ⟨false,rfl,by omega,Or.inr rfl,by simp; omega⟩)
   ·exact Or.inr (Or.inl ⟨by omega,h1⟩)
theorem xS (op n:Int) (nm:ByteArray) (kids rest:aZ):jo (.cons op n nm kids rest)=(gW op n nm kids && jo rest):=rfl
def VQ (kids R:aZ) (k:Nat):Prop:=k + R.len=kids.len∧jo kids=jo R
theorem DV (op n:Int) (nm:ByteArray) (kids:aZ) (ih:kids.All C8):C8 op n nm kids:=by
 intro w ao cap hok hat jJ
 obtain ⟨⟨o1,o2⟩,⟨n1,n2⟩,hm,hl⟩:=hok
 unfold maxLen at hl
 have hl':kids.len≤9223372036854775807:=hl
 rcases VW op n with hn | ⟨hn,q1⟩ | ⟨b,hb,hn,hor,hq⟩
 ·have HR:=Lib.hid (Qb (nm:=nm) (kids:=kids) (op:=op) (Or.inl hn))
  go_enter Tryz.func43,Tryz.ntmps43
  go_wp2_with fail
  generalize hW:World.alloc w _=W
  have HX:=Lib.hid (sM.mk hW)
  clear hW
  obtain ⟨-,-,c0,c1,c2,c3⟩:=HX.out
  go_quiet (first | (go_at_call 77; refine sj (rH _ _)))
  go_wp2_with fail
  all_goals go_ret
  all_goals exact ⟨bG HR.out.symm,(HX.out.draws _).1⟩
 ·have HR:=Lib.hid (Qb (nm:=nm) (kids:=kids) (Or.inr ⟨beq_eq_false_iff_ne.2 (show n≠0 by omega),beq_eq_false_iff_ne.2 q1⟩))
  have q1':(op != 1)=true:=bne_iff_ne.2 q1
  have q0':(n != 0)=true:=bne_iff_ne.2 (by omega)
  go_enter Tryz.func43,Tryz.ntmps43
  go_wp2_with fail
  generalize hW:World.alloc w _=W
  have HX:=Lib.hid (sM.mk hW)
  clear hW
  obtain ⟨-,-,c0,c1,c2,c3⟩:=HX.out
  go_quiet (first | (go_at_call 77; refine sj (rH _ _)))
  go_wp2_with fail
  all_goals go_ret
  all_goals exact ⟨bG HR.out.symm,(HX.out.draws _).1⟩
 ·by_cases h1:((kids.len:Int) == opsOf op)=false
  ·have HR:=Lib.hid (SY (n:=n) (nm:=nm) h1)
   have h1':((kids.len:Int) != opsOf op)=true:=by unfold bne; rw [h1]; rfl
   go_enter Tryz.func43,Tryz.ntmps43
   go_wp2_with fail
   generalize hW:World.alloc w _=W
   have HX:=Lib.hid (sM.mk hW)
   clear hW
   obtain ⟨-,-,c0,c1,c2,c3⟩:=HX.out
   go_quiet (first | (go_at_call 77; refine sj (rH _ _)))
   go_wp2_with fail
   go_ret
   exact ⟨bG HR.out.symm,(HX.out.draws _).1⟩
  ·have h1':((kids.len:Int) == opsOf op)=true:=by simpa using h1
   clear h1
   have HY:=Lib.hid (fun h:jw nm b=true=>S9 h1' hn hor hb h)
   have HN:=Lib.hid (fun h:jw nm b=false=>Wy (n:=n) (kids:=kids) hb h)
   clear hb hor
   have HAT:=Lib.hid hat
   have fD:=Lib.hid ih
   clear hat ih
   have aw6:((kids.len:Int) != opsOf op)=false:=by unfold bne; rw [h1']; rfl
   clear h1'
   rcases hq with ⟨q0,rfl,rfl⟩ | ⟨rfl,rfl,rfl⟩ | ⟨rfl,rfl,rfl⟩ | ⟨rfl,q2,q3,rfl⟩
   all_goals
    go_enter Tryz.func43,Tryz.ntmps43
    go_wp2_with fail
    generalize hW:World.alloc w _=W
    have HX:=Lib.hid (sM.mk hW)
    clear hW
    obtain ⟨-,-,c0,c1,c2,c3⟩:=HX.out
    go_quiet (first | (go_at_call 77; refine sj (rH _ _)))
    have EA:=Lib.hid (HX.out.draws nq)
    clear HX c0 c1 c2 c3
    generalize W.drewN nq=wq at *
    obtain ⟨-,-,c0,c1,c2,c3⟩:=EA.out
    go_wp2_with fail
    refine (om _ _ _ (jJ.same EA.out.1) hm).mono ?_
    rintro e w1 ⟨rfl,hb1⟩
    have HZ:=Lib.hid (EA.out.next hb1)
    clear hb1 EA c0 c1 c2 c3
    obtain ⟨-,-,c0,c1,c2,c3⟩:=HZ.out
   all_goals
    cases hN:jw nm _
    ·have HR:=Lib.hid (HN.out hN)
     clear HN HY
     go_wp2_with fail
     go_ret
     exact ⟨bG HR.out.symm,HZ.out.1⟩
    ·have HR:=Lib.hid (HY.out hN)
     clear HN HY
     go_wp2_with fail
     go_loopw [40] (fun i wr=> ∃k R,i= .int .i64 (k:Nat)∧VQ kids R k∧R.All C8∧R.At wr wr.heap.size ao k∧sM w wr (Value.int IntKind.i64 _) (Value.int IntKind.i64 _) (Value.string nm) (Value.slice ao kids.len cap)) (fun i _=>kids.len - (intOf i).toNat)
     case atStart=>exact ⟨0,kids,rfl,⟨Nat.zero_add _,rfl⟩,fD.out,HAT.out.same HZ.out.1,HZ.out⟩
     case round=>
      obtain ⟨k,R,rfl,⟨hlen,heq⟩,hall,hrow,Nk⟩:=hrel
      have HT:=Lib.hid (HR.out.trans heq)
      cases R with
      | nil=>
        obtain rfl:k=kids.len:=by simpa [aZ.len] using hlen
        go_wp2_with fail
        go_ret
        exact ⟨bG HT.out.symm,Nk.1⟩
      | cons op' n' nm' gJ rest=>
        obtain ⟨⟨b,off,jf,cap',rfl,hbB,x0,x1,x2,x3,hok',xA⟩,hrest⟩:=hrow
        obtain ⟨zL,xw⟩:=hall
        have hlt:k < kids.len:=by simp only [aZ.len] at hlen; omega
        go_wp2_with fail
        have hba:=(Below.refl wr.heap.size wr).alloc (Nat.le_refl _) (.cells #[.int .i64 op',.int .i64 n',.string nm',.slice jf gJ.len cap'] 45)
        refine (zL _ _ _ hok' (xA.same hba) ((jJ.same Nk.1).alloc _)).mono ?_
        rintro e w2 ⟨rfl,hb2⟩
        have hb3:=hba.trans (hb2.mono (by simp))
        have fT:=Lib.hid (Nk.next hb3)
        have hrest':=hrest.same hb3
        clear hba hb2 hb3 Nk hrest x0 x1 x2 x3 c0 c1 c2 c3 xA
        cases hS:gW op' n' nm' gJ
        ·have HF:=Lib.hid (HT.out.trans (by rw [xS,hS]; rfl:jo (.cons op' n' nm' gJ rest)=false))
         go_wp2_with fail
         go_ret
         exact ⟨bG HF.out.symm,fT.out.1⟩
        ·have HF:=Lib.hid (heq.trans (by rw [xS,hS]; rfl:jo (.cons op' n' nm' gJ rest)=jo rest))
         go_wp2_with fail
         go_roundw
         case rel=>exact ⟨k + 1,rest,by go_num,⟨by simp only [aZ.len] at hlen; omega,HF.out⟩,xw,hrest',fT.out⟩
         case measure=>simp [intOf]; omega
theorem sF (op n:Int) (nm:ByteArray) (kids:aZ):C8 op n nm kids:=aZ.Ig DV op n nm kids
end Go.Proofs.YtehnipchbmjlhaaGreatDoor
end
section
namespace Go.Proofs.YtehnipchbmjlhaaGreatDoor
open Go.RowKit
open Md
def ze (h:bf) (b e:aS):Prop:=
 ∀(w:World) (s:Sl),Dn w h b e s→eT w→
  Calls Tryz.prog 72 #[bP h b e s] w fun e' w'=>e'= .returned (.bool (uq h b e))∧Below w.heap.size w w'
theorem uo (l:aS) (hall:l.All ze) (w:World) (ao:Option Addr) (cap:Nat) (hl:l.len≤maxLen) (hat:l.At w w.heap.size ao 0) (jJ:eT w):
 Calls Tryz.prog 39 #[.slice ao l.len cap] w fun e' w'=>e'= .returned (.bool (jd l))∧Below w.heap.size w w':=by
 unfold maxLen at hl
 go_enter Tryz.func39,Tryz.ntmps39
 go_wp2_with fail
 go_loopw [4,7] (fun _ s wr=> ∃(k:Nat) (R:aS),s= .int .i64 k∧k + R.len=l.len∧jd l=jd R∧R.All ze∧R.At wr wr.heap.size ao k∧Below w.heap.size w wr) (fun _ s _=>l.len - (intOf s).toNat)
 case atStart=>exact ⟨0,l,rfl,by simp,rfl,hall,hat,Below.refl _ _⟩
 case round=>
  obtain ⟨k,R,rfl,hlen,heq,xw,hrow,hB⟩:=hrel
  have HE:=Lib.hid heq
  clear heq
  cases R with
  | nil=>
    obtain rfl:k=l.len:=by simpa [aS.len] using hlen
    go_wp2_with fail
    go_ret
    exact ⟨bG HE.out.symm,hB⟩
  | cons h b e R=>
    obtain ⟨bl,off,s,rfl,hbl,hin,x0,x1,x2,x3,x4,x5,x6,x7,x8,x9,x10,hrest⟩:=aS.At.head hrow
    obtain ⟨zL,Zv⟩:=xw
    have hkl:k < l.len:=by simp only [aS.len] at hlen; omega
    clear hrow
    go_wp2_with fail
    have hba:=ah wr (.cells #[.int .i64 h.op,.int .i64 h.line,.string h.nm,.string h.arg,.slice s.fH h.idx.len s.dW,.int .i64 h.bV,.int .i64 h.xn,.string h.bU,.slice s.cB h.aO.len s.bF,.slice s.bC b.len s.aV,.slice s.eZ e.len s.dL] 89)
    refine (zL _ s (hin.same hba) (jJ.same (hB.trans (hba.mono hB.size)))).mono ?_
    rintro e' w2 ⟨rfl,hb2⟩
    have HB3:=Lib.hid (hba.trans (hb2.mono (by simp)))
    clear hba hb2 x0 x1 x2 x3 x4 x5 x6 x7 x8 x9 x10 hin
    cases hS:uq h b e
    ·have HF:=Lib.hid (HE.out.trans (by rw [zq,hS]; rfl:jd (.cons h b e R)=false))
     go_wp2_with fail
     go_ret
     exact ⟨bG HF.out.symm,hB.trans (HB3.out.mono hB.size)⟩
    ·have HF:=Lib.hid (HE.out.trans (by rw [zq,hS]; rfl:jd (.cons h b e R)=jd R))
     go_wp2_with fail
     go_roundw
     case rel=>exact ⟨k + 1,R,by go_num,by simp only [aS.len] at hlen; omega,HF.out,Zv,hrest.same HB3.out,hB.trans (HB3.out.mono hB.size)⟩
     case measure=>simp [intOf]; omega
theorem DR (h:bf) (b e:aS) (ihb:b.All ze) (Ow:e.All ze):ze h b e:=by
 intro w s hin jJ
 obtain ⟨fH,dW,cB,bF,bC,aV,eZ,dL⟩:=s
 have HS:Hid (uq h b e=((((fO h.op && (jw h.nm (fN h.op) && jw h.arg (fA h.op))) && ((decide ((h.idx.len:Int)≤1) && (!decide ((h.idx.len:Int)=1) || fI h.op)) && jo h.idx)) &&
  ((if fX h.op then gW h.bV h.xn h.bU h.aO else sV h.bV h.xn h.bU h.aO.len) && ((fB h.op || decide ((b.len:Int)≤0)) && (fE h.op || decide ((e.len:Int)≤0))))) && (jd b && jd e))):=Lib.hid (by
  unfold uq kG; rw [UW,VL,LK,LK])
 generalize uq h b e=res at *
 have jV:=Lib.hid hin
 have oq:=Lib.hid jJ
 have G7:=Lib.hid ihb
 have HIE:=Lib.hid Ow
 obtain ⟨⟨⟨o1,o2⟩,-,hm,ha,hil,hxk,hbl,hel⟩,-⟩:=hin
 clear jJ ihb Ow
 have aw7:=hil
 have ak3:=hbl
 have ak8:=hel
 have hxl:=hxk.2.2.2
 unfold maxLen at hil hbl hel hxl
 unfold bP
 dsimp only
 go_enter Tryz.func72,Tryz.ntmps72
 go_upto_region 1 with fail
 generalize hW:World.alloc w _=W
 generalize Value.agg #[_,_,_,_,_,_,_,_,_,_,_]=a0
 have HX:Hid (Sit w W (QN w.heap.size h b e ⟨fH,dW,cB,bF,bC,aV,eZ,dL⟩ [])):=Lib.hid (by rw [← hW]; exact (Sit.start w).lZ rfl _ _ _ _ _ _ _ _ _ _ _ _)
 clear hW
 obtain ⟨-,⟨-,c0⟩,⟨-,c1⟩,⟨-,c2⟩,⟨-,c3⟩,⟨-,c4⟩,⟨-,c5⟩,⟨-,c6⟩,⟨-,c7⟩,⟨-,c8⟩,⟨-,c9⟩,⟨-,c10⟩,-⟩:=HX.out
 go_upto_region 2 with (go_at_call 112; refine (Jp _ _).mono ?_; rintro e' w1 ⟨rfl,hb1⟩)
 have HB1:=Lib.hid hb1
 clear hb1
 generalize fN h.op=bN at *
 generalize fA h.op=bA at *
 generalize fI h.op=bI at *
 generalize fX h.op=bX at *
 generalize fB h.op=bB at *
 generalize fE h.op=bE at *
 generalize fO h.op=bO at *
 obtain ⟨n2,hn2⟩: ∃n,w1.heap.size=n:=⟨_,rfl⟩
 generalize hW2:World.alloc w1 _=W2
 have HY:Hid (Sit w W2 ((n2,0,.bool bN) ::(n2,1,.bool bA) ::(n2,2,.bool bI) ::(n2,3,.bool bX) ::(n2,4,.bool bB) ::(n2,5,.bool bE) ::QN w.heap.size h b e ⟨fH,dW,cB,bF,bC,aV,eZ,dL⟩ [])):=Lib.hid (by rw [← hW2]; exact (HX.out.next HB1.out).Bh hn2 _ _ _ _ _ _ _)
 rw [hn2]
 clear hW2 hn2 HX HB1 c0 c1 c2 c3 c4 c5 c6 c7 c8 c9 c10
 obtain ⟨-,⟨-,c0⟩,⟨-,c1⟩,⟨-,c2⟩,⟨-,c3⟩,⟨-,c4⟩,⟨-,c5⟩,⟨-,c6⟩,⟨-,c7⟩,⟨-,c8⟩,⟨-,c9⟩,⟨-,c10⟩,⟨-,c11⟩,⟨-,c12⟩,⟨-,c13⟩,⟨-,c14⟩,⟨-,c15⟩,⟨-,c16⟩,-⟩:=HY.out
 go_cut [4,7,30] (fun _ _ s' W2=> ∃t,s'= .bool t∧(!t)=(bO && (jw h.nm bN && jw h.arg bA))∧Sit w W2 ((n2,0,.bool bN) ::(n2,1,.bool bA) ::(n2,2,.bool bI) ::(n2,3,.bool bX) ::(n2,4,.bool bB) ::(n2,5,.bool bE) ::QN w.heap.size h b e ⟨fH,dW,cB,bF,bC,aV,eZ,dL⟩ []))
 case first=>
  cases bO
  ·go_wp2_with fail
   go_meet
   exact ⟨true,rfl,rfl,HY.out⟩
  ·go_wp2_with fail
   refine (om _ _ _ (oq.out.same HY.out.1) hm).mono ?_
   rintro e' w3 ⟨rfl,hb3⟩
   have HZ:=Lib.hid (HY.out.next hb3)
   clear hb3 HY c0 c1 c2 c3 c4 c5 c6 c7 c8 c9 c10 c11 c12 c13 c14 c15 c16
   obtain ⟨-,⟨-,c0⟩,⟨-,c1⟩,⟨-,c2⟩,⟨-,c3⟩,⟨-,c4⟩,⟨-,c5⟩,⟨-,c6⟩,⟨-,c7⟩,⟨-,c8⟩,⟨-,c9⟩,⟨-,c10⟩,⟨-,c11⟩,⟨-,c12⟩,⟨-,c13⟩,⟨-,c14⟩,⟨-,c15⟩,⟨-,c16⟩,-⟩:=HZ.out
   cases hq:jw h.nm bN
   ·go_wp2_with fail
    go_meet
    exact ⟨true,rfl,by rw [hq]; rfl,HZ.out⟩
   ·go_wp2_with fail
    refine (om _ _ _ (oq.out.same HZ.out.1) ha).mono ?_
    rintro e' w3 ⟨rfl,hb3⟩
    have HU:=Lib.hid (HZ.out.next hb3)
    clear hb3 HZ c0 c1 c2 c3 c4 c5 c6 c7 c8 c9 c10 c11 c12 c13 c14 c15 c16
    cases hq2:jw h.arg bA
    all_goals go_wp2_with fail
    all_goals go_meet
    all_goals exact ⟨_,rfl,by rw [hq,hq2]; rfl,HU.out⟩
 obtain ⟨t1,rfl,ht1,hX⟩:=hcut
 have HZ:=Lib.hid hX
 have HT1:=Lib.hid ht1
 clear hX ht1 HY c0 c1 c2 c3 c4 c5 c6 c7 c8 c9 c10 c11 c12 c13 c14 c15 c16
 rw [← HT1.out] at HS
 clear HT1
 cases t1
 case true=>
  go_wp2_with fail
  go_ret
  exact ⟨bG HS.out.symm,HZ.out.1⟩
 obtain ⟨-,⟨-,c0⟩,⟨-,c1⟩,⟨-,c2⟩,⟨-,c3⟩,⟨-,c4⟩,⟨-,c5⟩,⟨-,c6⟩,⟨-,c7⟩,⟨-,c8⟩,⟨-,c9⟩,⟨-,c10⟩,⟨-,c11⟩,⟨-,c12⟩,⟨-,c13⟩,⟨-,c14⟩,⟨-,c15⟩,⟨-,c16⟩,-⟩:=HZ.out
 go_upto_region 4 with fail
 go_cut [45] (fun s' W3=>wc=W3∧ ∃t,s'= .bool t∧(!t)=(decide ((h.idx.len:Int)≤1) && (!decide ((h.idx.len:Int)=1) || bI)))
 case first=>
  go_wp2_with fail
  all_goals go_meet
  all_goals exact ⟨rfl,_,rfl,by go_light; grind⟩
 obtain ⟨rfl,t2,rfl,ht2⟩:=hcut
 have HT2:=Lib.hid ht2
 rw [← HT2.out] at HS
 clear HT2 ht2
 cases t2
 case true=>
  go_wp2_with fail
  go_ret
  exact ⟨bG (HS.out.trans (by simp)).symm,HZ.out.1⟩
 have XQ:=Lib.hid (jV.out.same HZ.out.1)
 have hrow:=XQ.out.2.1
 have hall:=XQ.out.1
 clear hall
 go_wp2_with fail
 go_loopw [6,49] (fun _ s' wr=> ∃(k:Nat) (R:aZ),s'= .int .i64 k∧k + R.len=h.idx.len∧jo h.idx=jo R∧R.At wr wr.heap.size fH k∧Sit w wr ((n2,0,.bool bN) ::(n2,1,.bool bA) ::(n2,2,.bool bI) ::(n2,3,.bool bX) ::(n2,4,.bool bB) ::(n2,5,.bool bE) ::QN w.heap.size h b e ⟨fH,dW,cB,bF,bC,aV,eZ,dL⟩ [])) (fun _ s' _=>h.idx.len - (intOf s').toNat)
 case atStart=>exact ⟨0,h.idx,rfl,by simp,rfl,hrow,HZ.out⟩
 case round=>
  obtain ⟨k,R,rfl,hlen,heq,hrow',hsit⟩:=hrel
  have HE:=Lib.hid heq
  have HU:=Lib.hid hsit
  clear heq hsit HZ hrow XQ c0 c1 c2 c3 c4 c5 c6 c7 c8 c9 c10 c11 c12 c13 c14 c15 c16
  cases R with
  | cons op' n' nm' gJ rest=>
    obtain ⟨⟨b',off',jf,cap',rfl,hbB,x0,x1,x2,x3,hok',xA⟩,hrest⟩:=hrow'
    have hlt:k < h.idx.len:=by simp only [aZ.len] at hlen; omega
    go_wp2_with fail
    have hba:=ah wr (.cells #[.int .i64 op',.int .i64 n',.string nm',.slice jf gJ.len cap'] 45)
    refine (sF op' n' nm' gJ _ _ _ hok' (xA.same hba) ((oq.out.same HU.out.1).same hba)).mono ?_
    rintro e' w2 ⟨rfl,hb2⟩
    have HB3:=Lib.hid (hba.trans (hb2.mono (by simp)))
    clear hba hb2 x0 x1 x2 x3 xA
    cases hS:gW op' n' nm' gJ
    ·rw [HE.out,xS,hS] at HS
     go_wp2_with fail
     go_ret
     exact ⟨bG (HS.out.trans (by simp)).symm,(HU.out.next HB3.out).1⟩
    ·have HF:=Lib.hid (HE.out.trans (by rw [xS,hS]; rfl:jo (.cons op' n' nm' gJ rest)=jo rest))
     go_wp2_with fail
     go_roundw
     case rel=>exact ⟨k + 1,rest,by go_num,by simp only [aZ.len] at hlen; omega,HF.out,hrest.same HB3.out,HU.out.next HB3.out⟩
     case measure=>simp [intOf]; omega
  | nil=>
    obtain rfl:k=h.idx.len:=by simpa [aZ.len] using hlen
    rw [HE.out] at HS
    clear HE hrow' hlen
    obtain ⟨-,⟨-,c0⟩,⟨-,c1⟩,⟨-,c2⟩,⟨-,c3⟩,⟨-,c4⟩,⟨-,c5⟩,⟨-,c6⟩,⟨-,c7⟩,⟨-,c8⟩,⟨-,c9⟩,⟨-,c10⟩,⟨-,c11⟩,⟨-,c12⟩,⟨-,c13⟩,⟨-,c14⟩,⟨-,c15⟩,⟨-,c16⟩,-⟩:=HU.out
    have hba:=oq.out.same HU.out.1
    go_upto_region 12 with fail
    go_cut [75] (fun s' W3=> ∃t,s'= .bool t∧(!t)=(if bX then gW h.bV h.xn h.bU h.aO else sV h.bV h.xn h.bU h.aO.len)∧Sit w W3 ((n2,0,.bool bN) ::(n2,1,.bool bA) ::(n2,2,.bool bI) ::(n2,3,.bool bX) ::(n2,4,.bool bB) ::(n2,5,.bool bE) ::QN w.heap.size h b e ⟨fH,dW,cB,bF,bC,aV,eZ,dL⟩ []))
    case first=>
     cases bX
     ·go_wp2_with fail
      refine (K6 _ _ _ _ _ _ _).mono ?_
      rintro e' w3 ⟨rfl,hb3⟩
      have HV:=Lib.hid (HU.out.next hb3)
      clear hb3
      cases hq:sV h.bV h.xn h.bU h.aO.len
      all_goals go_wp2_with fail
      all_goals go_meet
      all_goals exact ⟨_,rfl,hq.symm,HV.out⟩
     ·go_wp2_with fail
      refine (sF _ _ _ _ _ _ _ hxk (jV.out.same HU.out.1).2.2.1 hba).mono ?_
      rintro e' w3 ⟨rfl,hb3⟩
      have HV:=Lib.hid (HU.out.next hb3)
      clear hb3 HU c0 c1 c2 c3 c4 c5 c6 c7 c8 c9 c10 c11 c12 c13 c14 c15 c16
      obtain ⟨-,⟨-,c0⟩,⟨-,c1⟩,⟨-,c2⟩,⟨-,c3⟩,⟨-,c4⟩,⟨-,c5⟩,⟨-,c6⟩,⟨-,c7⟩,⟨-,c8⟩,⟨-,c9⟩,⟨-,c10⟩,⟨-,c11⟩,⟨-,c12⟩,⟨-,c13⟩,⟨-,c14⟩,⟨-,c15⟩,⟨-,c16⟩,-⟩:=HV.out
      cases hq:gW h.bV h.xn h.bU h.aO
      all_goals go_wp2_with fail
      all_goals go_meet
      all_goals exact ⟨_,rfl,hq.symm,HV.out⟩
    obtain ⟨t3,rfl,ht3,hX⟩:=hcut
    have HV:=Lib.hid hX
    have HT3:=Lib.hid ht3
    clear hX ht3 HU hba c0 c1 c2 c3 c4 c5 c6 c7 c8 c9 c10 c11 c12 c13 c14 c15 c16
    rw [← HT3.out] at HS
    clear HT3
    cases t3
    case true=>
     go_wp2_with fail
     go_ret
     exact ⟨bG (HS.out.trans (by simp)).symm,HV.out.1⟩
    obtain ⟨-,⟨-,c0⟩,⟨-,c1⟩,⟨-,c2⟩,⟨-,c3⟩,⟨-,c4⟩,⟨-,c5⟩,⟨-,c6⟩,⟨-,c7⟩,⟨-,c8⟩,⟨-,c9⟩,⟨-,c10⟩,⟨-,c11⟩,⟨-,c12⟩,⟨-,c13⟩,⟨-,c14⟩,⟨-,c15⟩,⟨-,c16⟩,-⟩:=HV.out
    go_upto_region 14 with fail
    go_cut [95] (fun s' W3=>wc=W3∧ ∃t,s'= .bool t∧(!t)=((bB || decide ((b.len:Int)≤0)) && (bE || decide ((e.len:Int)≤0))))
    case first=>
     cases bB
     all_goals cases bE
     all_goals go_wp2_with fail
     all_goals go_meet
     all_goals exact ⟨rfl,_,rfl,by go_light; grind⟩
    obtain ⟨rfl,t4,rfl,ht4⟩:=hcut
    have HT4:=Lib.hid ht4
    rw [← HT4.out] at HS
    clear HT4 ht4
    cases t4
    case true=>
     go_wp2_with fail
     go_ret
     exact ⟨bG (HS.out.trans (by simp)).symm,HV.out.1⟩
    go_wp2_with fail
    refine (uo b G7.out _ _ _ ak3 (jV.out.same HV.out.1).2.2.2.1 (oq.out.same HV.out.1)).mono ?_
    rintro e' w4 ⟨rfl,hb4⟩
    have HA:=Lib.hid (HV.out.next hb4)
    clear hb4 HV c0 c1 c2 c3 c4 c5 c6 c7 c8 c9 c10 c11 c12 c13 c14 c15 c16
    obtain ⟨-,⟨-,c0⟩,⟨-,c1⟩,⟨-,c2⟩,⟨-,c3⟩,⟨-,c4⟩,⟨-,c5⟩,⟨-,c6⟩,⟨-,c7⟩,⟨-,c8⟩,⟨-,c9⟩,⟨-,c10⟩,⟨-,c11⟩,⟨-,c12⟩,⟨-,c13⟩,⟨-,c14⟩,⟨-,c15⟩,⟨-,c16⟩,-⟩:=HA.out
    cases hq:jd b
    ·rw [hq] at HS
     go_wp2_with fail
     go_ret
     exact ⟨bG (HS.out.trans (by simp)).symm,HA.out.1⟩
    ·rw [hq] at HS
     go_wp2_with fail
     refine (uo e HIE.out _ _ _ ak8 (jV.out.same HA.out.1).2.2.2.2 (oq.out.same HA.out.1)).mono ?_
     rintro e' w5 ⟨rfl,hb5⟩
     go_wp2_with fail
     go_ret
     exact ⟨bG (HS.out.trans (by simp [jo])).symm,(HA.out.next hb5).1⟩
theorem FK (l:aS) (w:World) (ao:Option Addr) (cap:Nat) (hl:l.len≤maxLen) (hat:l.At w w.heap.size ao 0) (jJ:eT w):
 Calls Tryz.prog 39 #[.slice ao l.len cap] w fun e' w'=>e'= .returned (.bool (jd l))∧Below w.heap.size w w':=
 uo l (aS.pQ DR l) w ao cap hl hat jJ
end Go.Proofs.YtehnipchbmjlhaaGreatDoor
end
section
namespace Go.Proofs.YtehnipchbmjlhaaGreatDoor
open Go.RowKit
open Md
theorem NT (p:Pr) (w:World) (bY dV:Option Addr) (bM bW:Nat) (hp:p.At w bY dV) (jJ:eT w):
 Calls Tryz.prog 13 #[.agg #[.slice bY p.ds.length bM,.slice dV p.ts.length bW]] w fun e w'=>e= .returned (.bool (yx p))∧Below w.heap.size w w':=by
 have HS:Hid (yx p=((p.ds.all jv && p.ts.all mW) && decide ((0:Int) < p.ts.length))):=Lib.hid rfl
 generalize yx p=res at *
 have hld:=hp.1
 have hlt:=hp.2.1
 unfold maxLen at hld hlt
 have HP:=Lib.hid hp
 have oq:=Lib.hid jJ
 clear hp jJ
 go_enter Tryz.func13,Tryz.ntmps13
 go_upto_region 1 with fail
 generalize hW:World.alloc w _=W
 generalize Value.agg #[_,_]=a0
 have HX:=Lib.hid ((Sit.start w).FH rfl (.slice bY p.ds.length bM) (.slice dV p.ts.length bW) 26)
 rw [hW] at HX
 clear hW
 obtain ⟨-,⟨-,c0⟩,⟨-,c1⟩,-⟩:=HX.out
 have hde:=(HP.out.same HX.out.1).2.2.1
 go_wp2_with fail
 go_loopw [4,12] (fun _ s wr=> ∃(k:Nat) (R:List De),s= .int .i64 k∧k + R.length=p.ds.length∧p.ds.all jv=R.all jv∧kg wr wr.heap.size R bY k∧Sit w wr [(w.heap.size,0,(.slice bY p.ds.length bM)),(w.heap.size,1,(.slice dV p.ts.length bW))]) (fun _ s _=>p.ds.length - (intOf s).toNat)
 case atStart=>exact ⟨0,p.ds,rfl,by simp,rfl,hde,HX.out⟩
 case round=>
  obtain ⟨k,R,rfl,hlen,heq,hrow,hsit⟩:=hrel
  have HZ:=Lib.hid hsit
  have HE:=Lib.hid heq
  clear hsit HX c0 c1 hde heq
  cases R with
  | cons d R=>
    obtain ⟨⟨b,off,rfl,hB,x0,x1,x2,x3,x4,x5,hok⟩,hrest⟩:=hrow
    simp only [List.length_cons] at hlen
    have hkl:k < p.ds.length:=by omega
    have gq:=Lib.hid hok
    clear hok
    go_wp2_with fail
    have hba:=ah wr (.cells #[.int .i64 d.kind,.int .i64 d.line,.string d.nm,.int .i64 d.size,.int .i64 d.init,.string d.on] 62)
    refine (Fy d _ ((oq.out.same HZ.out.1).same hba) gq.out).mono ?_
    rintro e' w2 ⟨rfl,hb2⟩
    have HB3:=Lib.hid (hba.trans (hb2.mono (by simp)))
    clear hba hb2 x0 x1 x2 x3 x4 x5
    cases hS:jv d
    ·rw [HE.out,List.all_cons,hS] at HS
     go_wp2_with fail
     go_ret
     exact ⟨bG (HS.out.trans (by simp)).symm,(HZ.out.next HB3.out).1⟩
    ·have HF:=Lib.hid (HE.out.trans (by rw [List.all_cons,hS]; rfl:_=R.all jv))
     go_wp2_with fail
     go_roundw
     case rel=>exact ⟨k + 1,R,by go_num,by omega,HF.out,hrest.same HB3.out,HZ.out.next HB3.out⟩
     case measure=>simp [intOf]; omega
  | nil=>
    obtain rfl:k=p.ds.length:=by simpa using hlen
    rw [HE.out] at HS
    obtain ⟨-,⟨-,c0⟩,⟨-,c1⟩,-⟩:=HZ.out
    have hth:=(HP.out.same HZ.out.1).2.2.2
    clear HE hrow hlen
    go_wp2_with fail
    go_loopw [6,8,23,31,32,33,34,35] (fun _ _ s _ _ _ _ _ wr=> ∃(k:Nat) (R:List Th),s= .int .i64 k∧k + R.length=p.ts.length∧p.ts.all mW=R.all mW∧jZ wr wr.heap.size R dV k∧Sit w wr [(w.heap.size,0,(.slice bY p.ds.length bM)),(w.heap.size,1,(.slice dV p.ts.length bW))]) (fun _ _ s _ _ _ _ _ _=>p.ts.length - (intOf s).toNat)
    case atStart=>exact ⟨0,p.ts,rfl,by simp,rfl,hth,HZ.out⟩
    case round=>
     obtain ⟨k,R,rfl,hlen,heq,hrow,hsit⟩:=hrel
     have HU:=Lib.hid hsit
     have HE:=Lib.hid heq
     clear hsit HZ c0 c1 hth heq
     cases R with
     | nil=>
       obtain rfl:k=p.ts.length:=by simpa using hlen
       rw [HE.out] at HS
       obtain ⟨-,⟨-,c0⟩,⟨-,c1⟩,-⟩:=HU.out
       go_wp2_with fail
       go_ret
       exact ⟨bG (HS.out.trans (by simp)).symm,HU.out.1⟩
     | cons t R=>
       obtain ⟨⟨b,off,fP,dn,bC,aV,rfl,hB,x0,x1,x2,x3,hok,htx,hst⟩,hrest⟩:=hrow
       simp only [List.length_cons] at hlen
       have hkl:k < p.ts.length:=by omega
       have hll:=hok.2.2.1
       have gq:=Lib.hid hok
       have vE:=Lib.hid htx
       have HST:=Lib.hid hst
       unfold maxLen at hll
       clear hok htx hst
       go_upto_region 10 with fail
       obtain ⟨n2,hn2⟩: ∃n,wr.heap.size=n:=⟨_,rfl⟩
       generalize hW2:World.alloc wr _=W2
       have HB2:Hid (Below wr.heap.size wr W2):=Lib.hid (by rw [← hW2]; exact ah _ _)
       have HV:Hid (Sit w W2 ((n2,0,.string t.nm) ::(n2,1,.int .i64 t.line) ::(n2,2,.slice fP t.bZ.length dn) ::(n2,3,.slice bC t.body.len aV) ::[(w.heap.size,0,(.slice bY p.ds.length bM)),(w.heap.size,1,(.slice (some ⟨b,off,none⟩) p.ts.length bW))])):=Lib.hid (by rw [← hW2]; exact HU.out.xX hn2 _ _ _ _ _)
       rw [hn2]
       clear hW2 hn2 x0 x1 x2 x3
       obtain ⟨-,⟨-,c0⟩,⟨-,c1⟩,⟨-,c2⟩,⟨-,c3⟩,⟨-,c4⟩,⟨-,c5⟩,-⟩:=HV.out
       go_wp2_with fail
       refine (uO _ _ (oq.out.same HV.out.1) gq.out.1).mono ?_
       rintro e' w3 ⟨rfl,hb3⟩
       have HB3:=Lib.hid hb3
       have HA:=Lib.hid (HV.out.next hb3)
       clear hb3 HV c0 c1 c2 c3 c4 c5
       obtain ⟨-,⟨-,c0⟩,⟨-,c1⟩,⟨-,c2⟩,⟨-,c3⟩,⟨-,c4⟩,⟨-,c5⟩,-⟩:=HA.out
       cases hN:Tk.gM t.nm.data.toList
       ·rw [HE.out,List.all_cons,show mW t=false by unfold mW; rw [hN]; rfl] at HS
        go_wp2_with fail
        go_ret
        exact ⟨bG (HS.out.trans (by simp)).symm,HA.out.1⟩
       ·have hrow:=vE.out.same (HB2.out.trans (HB3.out.mono HB2.out.size))
        have Bz:=Lib.hid (HB2.out.trans (HB3.out.mono HB2.out.size))
        clear HB2 HB3
        go_wp2_with fail
        obtain ⟨wo,rfl⟩: ∃wo:World,wo=wr:=⟨_,rfl⟩
        go_loopw [8,34] (fun _ s wr=> ∃(k:Nat) (R:List ByteArray),s= .int .i64 k∧k + R.length=t.bZ.length∧t.bZ.all (fun s=>Tk.gM s.data.toList)=R.all (fun s=>Tk.gM s.data.toList)∧mo wr wr.heap.size R fP k∧Below wo.heap.size wo wr∧Sit w wr ((n2,0,.string t.nm) ::(n2,1,.int .i64 t.line) ::(n2,2,.slice fP t.bZ.length dn) ::(n2,3,.slice bC t.body.len aV) ::[(w.heap.size,0,(.slice bY p.ds.length bM)),(w.heap.size,1,(.slice (some ⟨b,off,none⟩) p.ts.length bW))])) (fun _ s _=>t.bZ.length - (intOf s).toNat)
        case atStart=>exact ⟨0,t.bZ,rfl,by simp,rfl,hrow,Bz.out,HA.out⟩
        case round=>
         obtain ⟨k',R',rfl,hlen',heq',hrow',Ao,UK⟩:=hrel
         have HC:=Lib.hid UK
         have Cu:=Lib.hid Ao
         have Eo:=Lib.hid heq'
         clear UK HA c0 c1 c2 c3 c4 c5 hrow heq' Ao Bz
         cases R' with
         | cons s R'=>
           obtain ⟨⟨b',off',rfl,hB',y0,hs⟩,hrest'⟩:=hrow'
           simp only [List.length_cons] at hlen'
           have hkl':k' < t.bZ.length:=by omega
           go_wp2_with fail
           refine (uO _ _ (oq.out.same HC.out.1) hs).mono ?_
           rintro e' w3 ⟨rfl,hb3⟩
           have dh:=Lib.hid hb3
           clear hb3
           cases PW:Tk.gM s.data.toList
           ·rw [HE.out,List.all_cons,show mW t=false by unfold mW; rw [Eo.out,List.all_cons,PW]; simp] at HS
            go_wp2_with fail
            go_ret
            exact ⟨bG (HS.out.trans (by simp)).symm,(HC.out.next dh.out).1⟩
           ·have HF:=Lib.hid (Eo.out.trans (by rw [List.all_cons,PW]; rfl:_=R'.all (fun s=>Tk.gM s.data.toList)))
            go_wp2_with fail
            go_roundw
            case rel=>exact ⟨k' + 1,R',by go_num,by omega,HF.out,hrest'.same dh.out,Cu.out.trans (dh.out.mono Cu.out.size),HC.out.next dh.out⟩
            case measure=>simp [intOf]; omega
         | nil=>
           obtain rfl:k'=t.bZ.length:=by simpa using hlen'
           obtain ⟨-,⟨-,c0⟩,⟨-,c1⟩,⟨-,c2⟩,⟨-,c3⟩,⟨-,c4⟩,⟨-,c5⟩,-⟩:=HC.out
           go_wp2_with fail
           refine (FK t.body _ _ _ gq.out.2.2.2 (HST.out.1.same Cu.out) (oq.out.same HC.out.1)).mono ?_
           rintro e' w3 ⟨rfl,hb3⟩
           have dh:=Lib.hid hb3
           clear hb3
           have HT:Hid (mW t=jd t.body):=Lib.hid (by unfold mW; rw [hN,Eo.out]; rfl)
           cases PW:jd t.body
           ·rw [HE.out,List.all_cons,HT.out,PW] at HS
            go_wp2_with fail
            go_ret
            exact ⟨bG (HS.out.trans (by simp)).symm,(HC.out.next dh.out).1⟩
           ·have HF:=Lib.hid (HE.out.trans (by rw [List.all_cons,HT.out,PW]; rfl:_=R.all mW))
            have CK:=Lib.hid (Cu.out.trans (dh.out.mono Cu.out.size))
            have Xo:=Lib.hid (HU.out.next CK.out)
            go_wp2_with fail
            go_roundw
            case rel=>exact ⟨k + 1,R,by go_num,by omega,HF.out,hrest.same CK.out,Xo.out⟩
            case measure=>simp [intOf]; omega
end Go.Proofs.YtehnipchbmjlhaaGreatDoor
end
