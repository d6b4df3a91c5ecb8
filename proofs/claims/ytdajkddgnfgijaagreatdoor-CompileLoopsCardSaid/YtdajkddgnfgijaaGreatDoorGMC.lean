/-
  Contracts of parse.operands, nameOrEmpty, ShapedExpr.
  Contracts of parse.fieldsOf, zeroExpr, shapedDecl.
  Contract of parse.ShapedExpr.
  Contracts of parse.shapedStmt, shapedList, Shaped.
  Contract of parse.Shaped.
-/
import Derived.Test.YtdajkddgnfgijaaGreatDoorGMA
import Derived.Test.YtdajkddgnfgijaaGreatDoorGNmName
section
namespace Go.Proofs.YtdajkddgnfgijaaGreatDoor
open Go.RowKit
open Md
theorem rU (op:Int) (w:World):
 Calls Tryz.prog 206 #[.int .i64 op] w fun e w'=>e= .returned (.int .i64 (opsOf op))∧w=w':=by
 unfold opsOf
 go_enter Tryz.func206,Tryz.ntmps206
 go_wp2
 all_goals go_ret
 all_goals refine ⟨bG ?_,rfl⟩
 all_goals first | (simp [*]; done) | ((repeat' split) <;> simp_all <;> omega)
theorem oJ (s:ByteArray) (b:Bool) (w:World) (dI:dw w) (hm:s.size≤maxLen):
 Calls Tryz.prog 149 #[.string s,.bool b] w fun e w'=>e= .returned (.bool (oD s b))∧Below w.heap.size w w':=by
 cases b
 ·go_enter Tryz.func149,Tryz.ntmps149
  go_wp2
  go_ret
  exact ⟨by simp [oD,Lib.toList_data],Below.refl _ _⟩
 ·go_enter Tryz.func149,Tryz.ntmps149
  go_wp2_with (go_at_call 80; refine (vw _ _ dI hm).mono ?_; rintro e w' ⟨rfl,hb⟩)
  go_ret
  exact ⟨rfl,hb⟩
end Go.Proofs.YtdajkddgnfgijaaGreatDoor
end
section
namespace Go.Proofs.YtdajkddgnfgijaaGreatDoor
open Go.RowKit
open Md
set_option maxHeartbeats 1000000 in
theorem GU (op:Int) (w:World):
 Calls Tryz.prog 173 #[.int .i64 op] w fun e w'=>e= .returned (.tuple #[.agg #[.bool (fN op),.bool (fA op),.bool (fI op),.bool (fX op),.bool (fB op),.bool (fE op)],.bool (fO op)])∧Below w.heap.size w w':=by
 have hop:op=1∨op=2∨op=3∨op=4∨op=5∨op=6∨op=7∨op=8∨op=9∨op=10∨op=11∨op=12∨op=13∨op=14∨op=15∨(op < 1∨15 < op):=by omega
 rcases hop with rfl | rfl | rfl | rfl | rfl | rfl | rfl | rfl | rfl | rfl | rfl | rfl | rfl | rfl | rfl | hop
 case inr.inr.inr.inr.inr.inr.inr.inr.inr.inr.inr.inr.inr.inr.inr=>
  have e1:fN op=false:=by unfold fN; grind
  have e2:fA op=false:=by unfold fA; grind
  have e3:fI op=false:=by unfold fI; grind
  have e4:fX op=false:=by unfold fX; grind
  have e5:fB op=false:=by unfold fB; grind
  have e6:fE op=false:=by unfold fE; grind
  have e7:fO op=false:=by unfold fO; grind
  rw [e1,e2,e3,e4,e5,e6,e7]
  clear e1 e2 e3 e4 e5 e6 e7
  have g1:(op == 1)=false:=by rw [beq_eq_false_iff_ne]; omega
  have g2:(op == 2)=false:=by rw [beq_eq_false_iff_ne]; omega
  have g3:(op == 3)=false:=by rw [beq_eq_false_iff_ne]; omega
  have g4:(op == 4)=false:=by rw [beq_eq_false_iff_ne]; omega
  have g5:(op == 5)=false:=by rw [beq_eq_false_iff_ne]; omega
  have g6:(op == 6)=false:=by rw [beq_eq_false_iff_ne]; omega
  have g7:(op == 7)=false:=by rw [beq_eq_false_iff_ne]; omega
  have g8:(op == 8)=false:=by rw [beq_eq_false_iff_ne]; omega
  have g9:(op == 9)=false:=by rw [beq_eq_false_iff_ne]; omega
  have g10:(op == 10)=false:=by rw [beq_eq_false_iff_ne]; omega
  have g11:(op == 11)=false:=by rw [beq_eq_false_iff_ne]; omega
  have g12:(op == 12)=false:=by rw [beq_eq_false_iff_ne]; omega
  have g13:(op == 13)=false:=by rw [beq_eq_false_iff_ne]; omega
  have g14:(op == 14)=false:=by rw [beq_eq_false_iff_ne]; omega
  have g15:(op == 15)=false:=by rw [beq_eq_false_iff_ne]; omega
  clear hop
  go_enter Tryz.func173,Tryz.ntmps173
  go_wp2
  exact bodyPost_ret (v:= .tuple #[.agg #[.bool _,.bool _,.bool _,.bool _,.bool _,.bool _],.bool _]) (by simp [results,Tryz.results173,go_sem]) rfl ⟨rfl,aj _ _⟩
 all_goals
  go_enter Tryz.func173,Tryz.ntmps173
  go_wp2
  exact bodyPost_ret (v:= .tuple #[.agg #[.bool _,.bool _,.bool _,.bool _,.bool _,.bool _],.bool _]) (by simp [results,Tryz.results173,go_sem]; decide) rfl ⟨rfl,aj _ _⟩
theorem I9 (op n:Int) (nm:ByteArray) (len cap:Nat) (ao:Option Addr) (w:World):
 Calls Tryz.prog 175 #[.agg #[.int .i64 op,.int .i64 n,.string nm,.slice ao len cap]] w fun e w'=>e= .returned (.bool (tV op n nm len))∧Below w.heap.size w w':=by
 have HE:Hid (tV op n nm len=(((decide (op=0) && decide (n=0)) && decide (nm.toList=[])) && decide (len=0))):=Lib.hid (by unfold tV; rw [Bool.eq_iff_iff]; simp)
 go_enter Tryz.func175,Tryz.ntmps175
 go_wp2
 all_goals go_ret
 all_goals refine ⟨dL ?_,aj _ _⟩
 all_goals rw [HE.out]
 all_goals (go_light; grind)
set_option maxHeartbeats 1000000 in
theorem EN (d:De) (w:World) (dI:dw w) (hok:d.Ok):
 Calls Tryz.prog 103 #[.agg #[.int .i64 d.kind,.int .i64 d.line,.string d.nm,.int .i64 d.size,.int .i64 d.init,.string d.on]] w fun e w'=>e= .returned (.bool (kF d))∧Below w.heap.size w w':=by
 obtain ⟨⟨k1,k2⟩,-,hm,-,-,ho⟩:=hok
 obtain ⟨kind,line,nm,size,init,on⟩:=d
 have HE:Hid (kF ⟨kind,line,nm,size,init,on⟩=((((decide (1≤kind) && decide (kind≤6)) && Tk.kT nm.data.toList) && (decide (0≤size) && (decide (size=0) || decide (kind=1)))) && ((!decide (init= -9223372036854775808) && (decide (init=0) || (decide (kind=1) || decide (kind=2)))) && oD on (kind == 5)))):=Lib.hid (by
  unfold kF; simp only [bne]; rw [Bool.eq_iff_iff]; simp)
 dsimp only at *
 generalize kF ⟨kind,line,nm,size,init,on⟩=res at *
 go_enter Tryz.func103,Tryz.ntmps103
 go_upto_region 1 with fail
 generalize hW:World.alloc w _=W
 generalize Value.agg #[_,_,_,_,_,_]=a0
 have HX:=Lib.hid ((Sit.start w).QN rfl (.int .i64 kind) (.int .i64 line) (.string nm) (.int .i64 size) (.int .i64 init) (.string on) 75)
 rw [hW] at HX
 clear hW
 obtain ⟨-,⟨-,c0⟩,⟨-,c1⟩,⟨-,c2⟩,⟨-,c3⟩,⟨-,c4⟩,⟨-,c5⟩,-⟩:=HX.out
 go_cut [16] (fun s W2=> ∃b,s= .bool b∧(!b)=((decide (1≤kind) && decide (kind≤6)) && Tk.kT nm.data.toList)∧Sit w W2 [(w.heap.size,0,.int .i64 kind),(w.heap.size,1,.int .i64 line),(w.heap.size,2,.string nm),(w.heap.size,3,.int .i64 size),(w.heap.size,4,.int .i64 init),(w.heap.size,5,.string on)])
 case first=>
  go_wp2_with (go_at_call 80; refine (vw _ _ (dI.same HX.out.1) hm).mono ?_; rintro e w' ⟨rfl,hb⟩)
  all_goals go_meet
  all_goals first | exact ⟨_,rfl,by go_light; grind,HX.out.next ‹_›⟩ | exact ⟨_,rfl,by go_light; grind,HX.out⟩
 obtain ⟨b1,rfl,hb1,hX⟩:=hcut
 have HY:=Lib.hid hX
 have HB1:=Lib.hid hb1
 clear hX HX hb1 c0 c1 c2 c3 c4 c5
 obtain ⟨-,⟨-,c0⟩,⟨-,c1⟩,⟨-,c2⟩,⟨-,c3⟩,⟨-,c4⟩,⟨-,c5⟩,-⟩:=HY.out
 cases b1
 ·cases h5:(kind == 5)
  all_goals
   rw [h5] at HE
   go_wp2_with (go_at_call 149; refine (oJ _ _ _ (dI.same HY.out.1) ho).mono ?_; rintro e w' ⟨rfl,hb⟩)
  all_goals go_ret
  all_goals first | refine ⟨dL ?_,(HY.out.next ‹_›).1⟩ | refine ⟨dL ?_,HY.out.1⟩
  all_goals rw [HE.out,← HB1.out]
  all_goals (go_light; grind)
 ·go_wp2_with fail
  go_ret
  refine ⟨dL ?_,HY.out.1⟩
  rw [HE.out,← HB1.out]; rfl
end Go.Proofs.YtdajkddgnfgijaaGreatDoor
end
section
namespace Go.Proofs.YtdajkddgnfgijaaGreatDoor
open Go.RowKit
open Md
def BO (op n:Int) (nm:ByteArray) (kids:bL):Prop:=
 ∀(w:World) (ao:Option Addr) (cap:Nat),uK op n nm kids→kids.At w w.heap.size ao 0→dw w→
  Calls Tryz.prog 174 #[.agg #[.int .i64 op,.int .i64 n,.string nm,.slice ao kids.len cap]] w fun e w'=>e= .returned (.bool (jl op n nm kids))∧Below w.heap.size w w'
theorem PW {op n:Int} {nm:ByteArray} {kids:bL} (h:((kids.len:Int) == opsOf op)=false):jl op n nm kids=false:=by unfold jl CY; rw [h]; rfl
theorem MP {op n:Int} {nm:ByteArray} {kids:bL} (h:n < 0∨((n == 0)=false∧(op == 1)=false)):jl op n nm kids=false:=by
 unfold jl CY
 rcases h with h | ⟨h,h'⟩
 ·rw [decide_eq_true h]; simp
 ·rw [h,h']; simp
theorem U0 {op n:Int} {nm:ByteArray} {kids:bL} {b:Bool} (hb:named op=b) (h:oD nm b=false):jl op n nm kids=false:=by
 unfold jl CY; rw [hb,h]; simp
theorem OX {op n:Int} {nm:ByteArray} {kids:bL} {b:Bool} (h1:((kids.len:Int) == opsOf op)=true) (h2:0≤n) (h3:(n == 0)=true∨(op == 1)=true) (hb:named op=b) (h:oD nm b=true):jl op n nm kids=mO kids:=by
 unfold jl CY; rw [hb,h,h1,decide_eq_false (by omega)]
 rcases h3 with h3 | h3 <;> rw [h3] <;> simp
theorem TS (op n:Int):(n < 0)∨(0 < n∧op≠1)∨
 ∃b,named op=b∧0≤n∧((n == 0)=true∨(op == 1)=true)∧
  ((0 < n∧op=1∧b=false)∨(n=0∧op=2∧b=true)∨(n=0∧op=3∧b=true)∨(n=0∧(op == 2)=false∧(op == 3)=false∧b=false)):=by
 by_cases h:n < 0
 ·exact Or.inl h
 ·by_cases h0:n=0
  ·subst h0
   by_cases h2:op=2
   ·subst h2; exact Or.inr (Or.inr ⟨true,rfl,by omega,Or.inl rfl,by simp⟩)
   ·by_cases h3:op=3
    ·subst h3; exact Or.inr (Or.inr ⟨true,rfl,by omega,Or.inl rfl,by simp⟩)
    ·exact Or.inr (Or.inr ⟨false,by simp [named,h2,h3],by omega,Or.inl rfl,by simp [h2,h3]⟩)
  ·by_cases h1:op=1
   ·subst h1; exact Or.inr (Or.inr ⟨false,rfl,by omega,Or.inr rfl,by simp; omega⟩)
   ·exact Or.inr (Or.inl ⟨by omega,h1⟩)
theorem lM (op n:Int) (nm:ByteArray) (kids rest:bL):mO (.cons op n nm kids rest)=(jl op n nm kids && mO rest):=rfl
def Ua (kids R:bL) (k:Nat):Prop:=k + R.len=kids.len∧mO kids=mO R
set_option maxHeartbeats 2000000 in
theorem E9 (op n:Int) (nm:ByteArray) (kids:bL) (ih:kids.All BO):BO op n nm kids:=by
 intro w ao cap hok hat dI
 obtain ⟨⟨o1,o2⟩,⟨n1,n2⟩,hm,hl⟩:=hok
 unfold maxLen at hl
 have hl':kids.len≤9223372036854775807:=hl
 rcases TS op n with hn | ⟨hn,q1⟩ | ⟨b,hb,hn,hor,hq⟩
 ·have HR:=Lib.hid (MP (nm:=nm) (kids:=kids) (op:=op) (Or.inl hn))
  go_enter Tryz.func174,Tryz.ntmps174
  go_wp2_with fail
  generalize hW:World.alloc w _=W
  have HX:=Lib.hid (tF.mk hW)
  clear hW
  obtain ⟨-,-,c0,c1,c2,c3⟩:=HX.out
  go_quiet (first | (go_at_call 206; refine sS (rU _ _)))
  go_wp2_with fail
  all_goals go_ret
  all_goals exact ⟨dL HR.out.symm,(HX.out.draws _).1⟩
 ·have HR:=Lib.hid (MP (nm:=nm) (kids:=kids) (Or.inr ⟨beq_eq_false_iff_ne.2 (show n≠0 by omega),beq_eq_false_iff_ne.2 q1⟩))
  have q1':(op != 1)=true:=bne_iff_ne.2 q1
  have q0':(n != 0)=true:=bne_iff_ne.2 (by omega)
  go_enter Tryz.func174,Tryz.ntmps174
  go_wp2_with fail
  generalize hW:World.alloc w _=W
  have HX:=Lib.hid (tF.mk hW)
  clear hW
  obtain ⟨-,-,c0,c1,c2,c3⟩:=HX.out
  go_quiet (first | (go_at_call 206; refine sS (rU _ _)))
  go_wp2_with fail
  all_goals go_ret
  all_goals exact ⟨dL HR.out.symm,(HX.out.draws _).1⟩
 ·by_cases h1:((kids.len:Int) == opsOf op)=false
  ·have HR:=Lib.hid (PW (n:=n) (nm:=nm) h1)
   have h1':((kids.len:Int) != opsOf op)=true:=by unfold bne; rw [h1]; rfl
   go_enter Tryz.func174,Tryz.ntmps174
   go_wp2_with fail
   generalize hW:World.alloc w _=W
   have HX:=Lib.hid (tF.mk hW)
   clear hW
   obtain ⟨-,-,c0,c1,c2,c3⟩:=HX.out
   go_quiet (first | (go_at_call 206; refine sS (rU _ _)))
   go_wp2_with fail
   go_ret
   exact ⟨dL HR.out.symm,(HX.out.draws _).1⟩
  ·have h1':((kids.len:Int) == opsOf op)=true:=by simpa using h1
   clear h1
   have HY:=Lib.hid (fun h:oD nm b=true=>OX h1' hn hor hb h)
   have HN:=Lib.hid (fun h:oD nm b=false=>U0 (n:=n) (kids:=kids) hb h)
   clear hb hor
   have HAT:=Lib.hid hat
   have kE:=Lib.hid ih
   clear hat ih
   have an7:((kids.len:Int) != opsOf op)=false:=by unfold bne; rw [h1']; rfl
   clear h1'
   rcases hq with ⟨q0,rfl,rfl⟩ | ⟨rfl,rfl,rfl⟩ | ⟨rfl,rfl,rfl⟩ | ⟨rfl,q2,q3,rfl⟩
   all_goals
    go_enter Tryz.func174,Tryz.ntmps174
    go_wp2_with fail
    generalize hW:World.alloc w _=W
    have HX:=Lib.hid (tF.mk hW)
    clear hW
    obtain ⟨-,-,c0,c1,c2,c3⟩:=HX.out
    go_quiet (first | (go_at_call 206; refine sS (rU _ _)))
    have Ab:=Lib.hid (HX.out.draws nq)
    clear HX c0 c1 c2 c3
    generalize W.drewN nq=wq at *
    obtain ⟨-,-,c0,c1,c2,c3⟩:=Ab.out
    go_wp2_with fail
    refine (oJ _ _ _ (dI.same Ab.out.1) hm).mono ?_
    rintro e w1 ⟨rfl,hb1⟩
    have HZ:=Lib.hid (Ab.out.next hb1)
    clear hb1 Ab c0 c1 c2 c3
    obtain ⟨-,-,c0,c1,c2,c3⟩:=HZ.out
   all_goals
    cases hN:oD nm _
    ·have HR:=Lib.hid (HN.out hN)
     clear HN HY
     go_wp2_with fail
     go_ret
     exact ⟨dL HR.out.symm,HZ.out.1⟩
    ·have HR:=Lib.hid (HY.out hN)
     clear HN HY
     go_wp2_with fail
     go_loopw [40] (fun i wr=> ∃k R,i= .int .i64 (k:Nat)∧Ua kids R k∧R.All BO∧R.At wr wr.heap.size ao k∧tF w wr (Value.int IntKind.i64 _) (Value.int IntKind.i64 _) (Value.string nm) (Value.slice ao kids.len cap)) (fun i _=>kids.len - (intOf i).toNat)
     case atStart=>exact ⟨0,kids,rfl,⟨Nat.zero_add _,rfl⟩,kE.out,HAT.out.same HZ.out.1,HZ.out⟩
     case round=>
      obtain ⟨k,R,rfl,⟨hlen,heq⟩,hall,hrow,LU⟩:=hrel
      have HT:=Lib.hid (HR.out.trans heq)
      cases R with
      | nil=>
        obtain rfl:k=kids.len:=by simpa [bL.len] using hlen
        go_wp2_with fail
        go_ret
        exact ⟨dL HT.out.symm,LU.1⟩
      | cons op' n' nm' iO rest=>
        obtain ⟨⟨b,off,mH,cap',rfl,mF,x0,x1,x2,x3,hok',oM⟩,hrest⟩:=hrow
        obtain ⟨dh,vB⟩:=hall
        have hlt:k < kids.len:=by simp only [bL.len] at hlen; omega
        go_wp2_with fail
        have hba:=(Below.refl wr.heap.size wr).alloc (Nat.le_refl _) (.cells #[.int .i64 op',.int .i64 n',.string nm',.slice mH iO.len cap'] 129)
        refine (dh _ _ _ hok' (oM.same hba) ((dI.same LU.1).alloc _)).mono ?_
        rintro e w2 ⟨rfl,hb2⟩
        have hb3:=hba.trans (hb2.mono (by simp))
        have AZ:=Lib.hid (LU.next hb3)
        have hrest':=hrest.same hb3
        clear hba hb2 hb3 LU hrest x0 x1 x2 x3 c0 c1 c2 c3 oM
        cases hS:jl op' n' nm' iO
        ·have HF:=Lib.hid (HT.out.trans (by rw [lM,hS]; rfl:mO (.cons op' n' nm' iO rest)=false))
         go_wp2_with fail
         go_ret
         exact ⟨dL HF.out.symm,AZ.out.1⟩
        ·have HF:=Lib.hid (heq.trans (by rw [lM,hS]; rfl:mO (.cons op' n' nm' iO rest)=mO rest))
         go_wp2_with fail
         go_roundw
         case rel=>exact ⟨k + 1,rest,by go_num,⟨by simp only [bL.len] at hlen; omega,HF.out⟩,vB,hrest',AZ.out⟩
         case measure=>simp [intOf]; omega
theorem tK (op n:Int) (nm:ByteArray) (kids:bL):BO op n nm kids:=bL.Br E9 op n nm kids
end Go.Proofs.YtdajkddgnfgijaaGreatDoor
end
section
namespace Go.Proofs.YtdajkddgnfgijaaGreatDoor
open Go.RowKit
open Md
def yN (h:aX) (b e:aP):Prop:=
 ∀(w:World) (s:Sl),pK w h b e s→dw w→
  Calls Tryz.prog 150 #[cO h b e s] w fun e' w'=>e'= .returned (.bool (ER h b e))∧Below w.heap.size w w'
set_option maxHeartbeats 2000000 in
set_option maxRecDepth 100000 in
theorem uP (l:aP) (hall:l.All yN) (w:World) (ao:Option Addr) (cap:Nat) (hl:l.len≤maxLen) (hat:l.At w w.heap.size ao 0) (dI:dw w):
 Calls Tryz.prog 104 #[.slice ao l.len cap] w fun e' w'=>e'= .returned (.bool (iy l))∧Below w.heap.size w w':=by
 unfold maxLen at hl
 go_enter Tryz.func104,Tryz.ntmps104
 go_wp2_with fail
 go_loopw [4,7] (fun _ s wr=> ∃(k:Nat) (R:aP),s= .int .i64 k∧k + R.len=l.len∧iy l=iy R∧R.All yN∧R.At wr wr.heap.size ao k∧Below w.heap.size w wr) (fun _ s _=>l.len - (intOf s).toNat)
 case atStart=>exact ⟨0,l,rfl,by simp,rfl,hall,hat,Below.refl _ _⟩
 case round=>
  obtain ⟨k,R,rfl,hlen,heq,vB,hrow,hB⟩:=hrel
  have HE:=Lib.hid heq
  clear heq
  cases R with
  | nil=>
    obtain rfl:k=l.len:=by simpa [aP.len] using hlen
    go_wp2_with fail
    go_ret
    exact ⟨dL HE.out.symm,hB⟩
  | cons h b e R=>
    obtain ⟨bl,off,s,rfl,hbl,hin,x0,x1,x2,x3,x4,x5,x6,x7,x8,x9,x10,hrest⟩:=aP.At.head hrow
    obtain ⟨dh,GH⟩:=vB
    have hkl:k < l.len:=by simp only [aP.len] at hlen; omega
    clear hrow
    go_wp2_with fail
    have hba:=aj wr (.cells #[.int .i64 h.op,.int .i64 h.line,.string h.nm,.string h.arg,.slice s.dZ h.idx.len s.dG,.int .i64 h.dN,.int .i64 h.xn,.string h.dM,.slice s.dH h.aR.len s.bR,.slice s.bV b.len s.bC,.slice s.eB e.len s.dK] 131)
    refine (dh _ s (hin.same hba) (dI.same (hB.trans (hba.mono hB.size)))).mono ?_
    rintro e' w2 ⟨rfl,hb2⟩
    have HB3:=Lib.hid (hba.trans (hb2.mono (by simp)))
    clear hba hb2 x0 x1 x2 x3 x4 x5 x6 x7 x8 x9 x10 hin
    cases hS:ER h b e
    ·have HF:=Lib.hid (HE.out.trans (by rw [Du,hS]; rfl:iy (.cons h b e R)=false))
     go_wp2_with fail
     go_ret
     exact ⟨dL HF.out.symm,hB.trans (HB3.out.mono hB.size)⟩
    ·have HF:=Lib.hid (HE.out.trans (by rw [Du,hS]; rfl:iy (.cons h b e R)=iy R))
     go_wp2_with fail
     go_roundw
     case rel=>exact ⟨k + 1,R,by go_num,by simp only [aP.len] at hlen; omega,HF.out,GH,hrest.same HB3.out,hB.trans (HB3.out.mono hB.size)⟩
     case measure=>simp [intOf]; omega
set_option maxHeartbeats 4000000 in
set_option maxRecDepth 100000 in
theorem Dy (h:aX) (b e:aP) (ihb:b.All yN) (YJ:e.All yN):yN h b e:=by
 intro w s hin dI
 obtain ⟨dZ,dG,dH,bR,bV,bC,eB,dK⟩:=s
 have HS:Hid (ER h b e=((((fO h.op && (oD h.nm (fN h.op) && oD h.arg (fA h.op))) && ((decide ((h.idx.len:Int)≤1) && (!decide ((h.idx.len:Int)=1) || fI h.op)) && mO h.idx)) &&
  ((if fX h.op then jl h.dN h.xn h.dM h.aR else tV h.dN h.xn h.dM h.aR.len) && ((fB h.op || decide ((b.len:Int)≤0)) && (fE h.op || decide ((e.len:Int)≤0))))) && (iy b && iy e))):=Lib.hid (by
  unfold ER oK; rw [Tz,SX,K6,K6])
 generalize ER h b e=res at *
 have jT:=Lib.hid hin
 have gU:=Lib.hid dI
 have HIB:=Lib.hid ihb
 have HIE:=Lib.hid YJ
 obtain ⟨⟨⟨o1,o2⟩,-,hm,ha,hil,hxk,hbl,hel⟩,-⟩:=hin
 clear dI ihb YJ
 have ap5:=hil
 have ZN:=hbl
 have Zn:=hel
 have hxl:=hxk.2.2.2
 unfold maxLen at hil hbl hel hxl
 unfold cO
 dsimp only
 go_enter Tryz.func150,Tryz.ntmps150
 go_upto_region 1 with fail
 generalize hW:World.alloc w _=W
 generalize Value.agg #[_,_,_,_,_,_,_,_,_,_,_]=a0
 have HX:Hid (Sit w W (ow w.heap.size h b e ⟨dZ,dG,dH,bR,bV,bC,eB,dK⟩ [])):=Lib.hid (by rw [← hW]; exact (Sit.start w).lU rfl _ _ _ _ _ _ _ _ _ _ _ _)
 clear hW
 obtain ⟨-,⟨-,c0⟩,⟨-,c1⟩,⟨-,c2⟩,⟨-,c3⟩,⟨-,c4⟩,⟨-,c5⟩,⟨-,c6⟩,⟨-,c7⟩,⟨-,c8⟩,⟨-,c9⟩,⟨-,c10⟩,-⟩:=HX.out
 go_upto_region 2 with (go_at_call 173; refine (GU _ _).mono ?_; rintro e' w1 ⟨rfl,hb1⟩)
 have HB1:=Lib.hid hb1
 clear hb1
 generalize fN h.op=bN at *
 generalize fA h.op=bA at *
 generalize fI h.op=bI at *
 generalize fX h.op=bX at *
 generalize fB h.op=bB at *
 generalize fE h.op=bE at *
 generalize fO h.op=bO at *
 obtain ⟨n2,hn2⟩: ∃n,w1.heap.size=n:=⟨_,rfl⟩
 generalize hW2:World.alloc w1 _=W2
 have HY:Hid (Sit w W2 ((n2,0,.bool bN) ::(n2,1,.bool bA) ::(n2,2,.bool bI) ::(n2,3,.bool bX) ::(n2,4,.bool bB) ::(n2,5,.bool bE) ::ow w.heap.size h b e ⟨dZ,dG,dH,bR,bV,bC,eB,dK⟩ [])):=Lib.hid (by rw [← hW2]; exact (HX.out.next HB1.out).QN hn2 _ _ _ _ _ _ _)
 rw [hn2]
 clear hW2 hn2 HX HB1 c0 c1 c2 c3 c4 c5 c6 c7 c8 c9 c10
 obtain ⟨-,⟨-,c0⟩,⟨-,c1⟩,⟨-,c2⟩,⟨-,c3⟩,⟨-,c4⟩,⟨-,c5⟩,⟨-,c6⟩,⟨-,c7⟩,⟨-,c8⟩,⟨-,c9⟩,⟨-,c10⟩,⟨-,c11⟩,⟨-,c12⟩,⟨-,c13⟩,⟨-,c14⟩,⟨-,c15⟩,⟨-,c16⟩,-⟩:=HY.out
 go_cut [4,7,30] (fun _ _ s' W2=> ∃t,s'= .bool t∧(!t)=(bO && (oD h.nm bN && oD h.arg bA))∧Sit w W2 ((n2,0,.bool bN) ::(n2,1,.bool bA) ::(n2,2,.bool bI) ::(n2,3,.bool bX) ::(n2,4,.bool bB) ::(n2,5,.bool bE) ::ow w.heap.size h b e ⟨dZ,dG,dH,bR,bV,bC,eB,dK⟩ []))
 case first=>
  cases bO
  ·go_wp2_with fail
   go_meet
   exact ⟨true,rfl,rfl,HY.out⟩
  ·go_wp2_with fail
   refine (oJ _ _ _ (gU.out.same HY.out.1) hm).mono ?_
   rintro e' w3 ⟨rfl,hb3⟩
   have HZ:=Lib.hid (HY.out.next hb3)
   clear hb3 HY c0 c1 c2 c3 c4 c5 c6 c7 c8 c9 c10 c11 c12 c13 c14 c15 c16
   obtain ⟨-,⟨-,c0⟩,⟨-,c1⟩,⟨-,c2⟩,⟨-,c3⟩,⟨-,c4⟩,⟨-,c5⟩,⟨-,c6⟩,⟨-,c7⟩,⟨-,c8⟩,⟨-,c9⟩,⟨-,c10⟩,⟨-,c11⟩,⟨-,c12⟩,⟨-,c13⟩,⟨-,c14⟩,⟨-,c15⟩,⟨-,c16⟩,-⟩:=HZ.out
   cases hq:oD h.nm bN
   ·go_wp2_with fail
    go_meet
    exact ⟨true,rfl,by rw [hq]; rfl,HZ.out⟩
   ·go_wp2_with fail
    refine (oJ _ _ _ (gU.out.same HZ.out.1) ha).mono ?_
    rintro e' w3 ⟨rfl,hb3⟩
    have HU:=Lib.hid (HZ.out.next hb3)
    clear hb3 HZ c0 c1 c2 c3 c4 c5 c6 c7 c8 c9 c10 c11 c12 c13 c14 c15 c16
    cases hq2:oD h.arg bA
    all_goals go_wp2_with fail
    all_goals go_meet
    all_goals exact ⟨_,rfl,by rw [hq,hq2]; rfl,HU.out⟩
 obtain ⟨t1,rfl,ht1,hX⟩:=hcut
 have HZ:=Lib.hid hX
 have HT1:=Lib.hid ht1
 clear hX ht1 HY c0 c1 c2 c3 c4 c5 c6 c7 c8 c9 c10 c11 c12 c13 c14 c15 c16
 rw [← HT1.out] at HS
 clear HT1
 cases t1
 case true=>
  go_wp2_with fail
  go_ret
  exact ⟨dL HS.out.symm,HZ.out.1⟩
 obtain ⟨-,⟨-,c0⟩,⟨-,c1⟩,⟨-,c2⟩,⟨-,c3⟩,⟨-,c4⟩,⟨-,c5⟩,⟨-,c6⟩,⟨-,c7⟩,⟨-,c8⟩,⟨-,c9⟩,⟨-,c10⟩,⟨-,c11⟩,⟨-,c12⟩,⟨-,c13⟩,⟨-,c14⟩,⟨-,c15⟩,⟨-,c16⟩,-⟩:=HZ.out
 go_upto_region 4 with fail
 go_cut [45] (fun s' W3=>wc=W3∧ ∃t,s'= .bool t∧(!t)=(decide ((h.idx.len:Int)≤1) && (!decide ((h.idx.len:Int)=1) || bI)))
 case first=>
  go_wp2_with fail
  all_goals go_meet
  all_goals exact ⟨rfl,_,rfl,by go_light; grind⟩
 obtain ⟨rfl,t2,rfl,ht2⟩:=hcut
 have HT2:=Lib.hid ht2
 rw [← HT2.out] at HS
 clear HT2 ht2
 cases t2
 case true=>
  go_wp2_with fail
  go_ret
  exact ⟨dL (HS.out.trans (by simp)).symm,HZ.out.1⟩
 have VE:=Lib.hid (jT.out.same HZ.out.1)
 have hrow:=VE.out.2.1
 have hall:=VE.out.1
 clear hall
 go_wp2_with fail
 go_loopw [6,49] (fun _ s' wr=> ∃(k:Nat) (R:bL),s'= .int .i64 k∧k + R.len=h.idx.len∧mO h.idx=mO R∧R.At wr wr.heap.size dZ k∧Sit w wr ((n2,0,.bool bN) ::(n2,1,.bool bA) ::(n2,2,.bool bI) ::(n2,3,.bool bX) ::(n2,4,.bool bB) ::(n2,5,.bool bE) ::ow w.heap.size h b e ⟨dZ,dG,dH,bR,bV,bC,eB,dK⟩ [])) (fun _ s' _=>h.idx.len - (intOf s').toNat)
 case atStart=>exact ⟨0,h.idx,rfl,by simp,rfl,hrow,HZ.out⟩
 case round=>
  obtain ⟨k,R,rfl,hlen,heq,hrow',hsit⟩:=hrel
  have HE:=Lib.hid heq
  have HU:=Lib.hid hsit
  clear heq hsit HZ hrow VE c0 c1 c2 c3 c4 c5 c6 c7 c8 c9 c10 c11 c12 c13 c14 c15 c16
  cases R with
  | cons op' n' nm' iO rest=>
    obtain ⟨⟨b',off',mH,cap',rfl,mF,x0,x1,x2,x3,hok',oM⟩,hrest⟩:=hrow'
    have hlt:k < h.idx.len:=by simp only [bL.len] at hlen; omega
    go_wp2_with fail
    have hba:=aj wr (.cells #[.int .i64 op',.int .i64 n',.string nm',.slice mH iO.len cap'] 129)
    refine (tK op' n' nm' iO _ _ _ hok' (oM.same hba) ((gU.out.same HU.out.1).same hba)).mono ?_
    rintro e' w2 ⟨rfl,hb2⟩
    have HB3:=Lib.hid (hba.trans (hb2.mono (by simp)))
    clear hba hb2 x0 x1 x2 x3 oM
    cases hS:jl op' n' nm' iO
    ·rw [HE.out,lM,hS] at HS
     go_wp2_with fail
     go_ret
     exact ⟨dL (HS.out.trans (by simp)).symm,(HU.out.next HB3.out).1⟩
    ·have HF:=Lib.hid (HE.out.trans (by rw [lM,hS]; rfl:mO (.cons op' n' nm' iO rest)=mO rest))
     go_wp2_with fail
     go_roundw
     case rel=>exact ⟨k + 1,rest,by go_num,by simp only [bL.len] at hlen; omega,HF.out,hrest.same HB3.out,HU.out.next HB3.out⟩
     case measure=>simp [intOf]; omega
  | nil=>
    obtain rfl:k=h.idx.len:=by simpa [bL.len] using hlen
    rw [HE.out] at HS
    clear HE hrow' hlen
    obtain ⟨-,⟨-,c0⟩,⟨-,c1⟩,⟨-,c2⟩,⟨-,c3⟩,⟨-,c4⟩,⟨-,c5⟩,⟨-,c6⟩,⟨-,c7⟩,⟨-,c8⟩,⟨-,c9⟩,⟨-,c10⟩,⟨-,c11⟩,⟨-,c12⟩,⟨-,c13⟩,⟨-,c14⟩,⟨-,c15⟩,⟨-,c16⟩,-⟩:=HU.out
    have hba:=gU.out.same HU.out.1
    go_upto_region 12 with fail
    go_cut [75] (fun s' W3=> ∃t,s'= .bool t∧(!t)=(if bX then jl h.dN h.xn h.dM h.aR else tV h.dN h.xn h.dM h.aR.len)∧Sit w W3 ((n2,0,.bool bN) ::(n2,1,.bool bA) ::(n2,2,.bool bI) ::(n2,3,.bool bX) ::(n2,4,.bool bB) ::(n2,5,.bool bE) ::ow w.heap.size h b e ⟨dZ,dG,dH,bR,bV,bC,eB,dK⟩ []))
    case first=>
     cases bX
     ·go_wp2_with fail
      refine (I9 _ _ _ _ _ _ _).mono ?_
      rintro e' w3 ⟨rfl,hb3⟩
      have HV:=Lib.hid (HU.out.next hb3)
      clear hb3
      cases hq:tV h.dN h.xn h.dM h.aR.len
      all_goals go_wp2_with fail
      all_goals go_meet
      all_goals exact ⟨_,rfl,hq.symm,HV.out⟩
     ·go_wp2_with fail
      refine (tK _ _ _ _ _ _ _ hxk (jT.out.same HU.out.1).2.2.1 hba).mono ?_
      rintro e' w3 ⟨rfl,hb3⟩
      have HV:=Lib.hid (HU.out.next hb3)
      clear hb3 HU c0 c1 c2 c3 c4 c5 c6 c7 c8 c9 c10 c11 c12 c13 c14 c15 c16
      obtain ⟨-,⟨-,c0⟩,⟨-,c1⟩,⟨-,c2⟩,⟨-,c3⟩,⟨-,c4⟩,⟨-,c5⟩,⟨-,c6⟩,⟨-,c7⟩,⟨-,c8⟩,⟨-,c9⟩,⟨-,c10⟩,⟨-,c11⟩,⟨-,c12⟩,⟨-,c13⟩,⟨-,c14⟩,⟨-,c15⟩,⟨-,c16⟩,-⟩:=HV.out
      cases hq:jl h.dN h.xn h.dM h.aR
      all_goals go_wp2_with fail
      all_goals go_meet
      all_goals exact ⟨_,rfl,hq.symm,HV.out⟩
    obtain ⟨t3,rfl,ht3,hX⟩:=hcut
    have HV:=Lib.hid hX
    have HT3:=Lib.hid ht3
    clear hX ht3 HU hba c0 c1 c2 c3 c4 c5 c6 c7 c8 c9 c10 c11 c12 c13 c14 c15 c16
    rw [← HT3.out] at HS
    clear HT3
    cases t3
    case true=>
     go_wp2_with fail
     go_ret
     exact ⟨dL (HS.out.trans (by simp)).symm,HV.out.1⟩
    obtain ⟨-,⟨-,c0⟩,⟨-,c1⟩,⟨-,c2⟩,⟨-,c3⟩,⟨-,c4⟩,⟨-,c5⟩,⟨-,c6⟩,⟨-,c7⟩,⟨-,c8⟩,⟨-,c9⟩,⟨-,c10⟩,⟨-,c11⟩,⟨-,c12⟩,⟨-,c13⟩,⟨-,c14⟩,⟨-,c15⟩,⟨-,c16⟩,-⟩:=HV.out
    go_upto_region 14 with fail
    go_cut [95] (fun s' W3=>wc=W3∧ ∃t,s'= .bool t∧(!t)=((bB || decide ((b.len:Int)≤0)) && (bE || decide ((e.len:Int)≤0))))
    case first=>
     cases bB
     all_goals cases bE
     all_goals go_wp2_with fail
     all_goals go_meet
     all_goals exact ⟨rfl,_,rfl,by go_light; grind⟩
    obtain ⟨rfl,t4,rfl,Yb⟩:=hcut
    have O1:=Lib.hid Yb
    rw [← O1.out] at HS
    clear O1 Yb
    cases t4
    case true=>
     go_wp2_with fail
     go_ret
     exact ⟨dL (HS.out.trans (by simp)).symm,HV.out.1⟩
    go_wp2_with fail
    refine (uP b HIB.out _ _ _ ZN (jT.out.same HV.out.1).2.2.2.1 (gU.out.same HV.out.1)).mono ?_
    rintro e' w4 ⟨rfl,hb4⟩
    have HA:=Lib.hid (HV.out.next hb4)
    clear hb4 HV c0 c1 c2 c3 c4 c5 c6 c7 c8 c9 c10 c11 c12 c13 c14 c15 c16
    obtain ⟨-,⟨-,c0⟩,⟨-,c1⟩,⟨-,c2⟩,⟨-,c3⟩,⟨-,c4⟩,⟨-,c5⟩,⟨-,c6⟩,⟨-,c7⟩,⟨-,c8⟩,⟨-,c9⟩,⟨-,c10⟩,⟨-,c11⟩,⟨-,c12⟩,⟨-,c13⟩,⟨-,c14⟩,⟨-,c15⟩,⟨-,c16⟩,-⟩:=HA.out
    cases hq:iy b
    ·rw [hq] at HS
     go_wp2_with fail
     go_ret
     exact ⟨dL (HS.out.trans (by simp)).symm,HA.out.1⟩
    ·rw [hq] at HS
     go_wp2_with fail
     refine (uP e HIE.out _ _ _ Zn (jT.out.same HA.out.1).2.2.2.2 (gU.out.same HA.out.1)).mono ?_
     rintro e' w5 ⟨rfl,hb5⟩
     go_wp2_with fail
     go_ret
     exact ⟨dL (HS.out.trans (by simp [mO])).symm,(HA.out.next hb5).1⟩
theorem EO (l:aP) (w:World) (ao:Option Addr) (cap:Nat) (hl:l.len≤maxLen) (hat:l.At w w.heap.size ao 0) (dI:dw w):
 Calls Tryz.prog 104 #[.slice ao l.len cap] w fun e' w'=>e'= .returned (.bool (iy l))∧Below w.heap.size w w':=
 uP l (aP.lG Dy l) w ao cap hl hat dI
end Go.Proofs.YtdajkddgnfgijaaGreatDoor
end
section
namespace Go.Proofs.YtdajkddgnfgijaaGreatDoor
open Go.RowKit
open Md
set_option maxHeartbeats 2000000 in
set_option maxRecDepth 100000 in
theorem M5 (p:Pr) (w:World) (aK aM:Option Addr) (aG aH:Nat) (hp:p.At w aK aM) (dI:dw w):
 Calls Tryz.prog 66 #[.agg #[.slice aK p.ds.length aG,.slice aM p.ts.length aH]] w fun e w'=>e= .returned (.bool (tq p))∧Below w.heap.size w w':=by
 have HS:Hid (tq p=((p.ds.all kF && p.ts.all sW) && decide ((0:Int) < p.ts.length))):=Lib.hid rfl
 generalize tq p=res at *
 have hld:=hp.1
 have hlt:=hp.2.1
 unfold maxLen at hld hlt
 have HP:=Lib.hid hp
 have gU:=Lib.hid dI
 clear hp dI
 go_enter Tryz.func66,Tryz.ntmps66
 go_upto_region 1 with fail
 generalize hW:World.alloc w _=W
 generalize Value.agg #[_,_]=a0
 have HX:=Lib.hid ((Sit.start w).EA rfl (.slice aK p.ds.length aG) (.slice aM p.ts.length aH) 25)
 rw [hW] at HX
 clear hW
 obtain ⟨-,⟨-,c0⟩,⟨-,c1⟩,-⟩:=HX.out
 have hde:=(HP.out.same HX.out.1).2.2.1
 go_wp2_with fail
 go_loopw [4,12] (fun _ s wr=> ∃(k:Nat) (R:List De),s= .int .i64 k∧k + R.length=p.ds.length∧p.ds.all kF=R.all kF∧ig wr wr.heap.size R aK k∧Sit w wr [(w.heap.size,0,(.slice aK p.ds.length aG)),(w.heap.size,1,(.slice aM p.ts.length aH))]) (fun _ s _=>p.ds.length - (intOf s).toNat)
 case atStart=>exact ⟨0,p.ds,rfl,by simp,rfl,hde,HX.out⟩
 case round=>
  obtain ⟨k,R,rfl,hlen,heq,hrow,hsit⟩:=hrel
  have HZ:=Lib.hid hsit
  have HE:=Lib.hid heq
  clear hsit HX c0 c1 hde heq
  cases R with
  | cons d R=>
    obtain ⟨⟨b,off,rfl,hB,x0,x1,x2,x3,x4,x5,hok⟩,hrest⟩:=hrow
    simp only [List.length_cons] at hlen
    have hkl:k < p.ds.length:=by omega
    have pJ:=Lib.hid hok
    clear hok
    go_wp2_with fail
    have hba:=aj wr (.cells #[.int .i64 d.kind,.int .i64 d.line,.string d.nm,.int .i64 d.size,.int .i64 d.init,.string d.on] 75)
    refine (EN d _ ((gU.out.same HZ.out.1).same hba) pJ.out).mono ?_
    rintro e' w2 ⟨rfl,hb2⟩
    have HB3:=Lib.hid (hba.trans (hb2.mono (by simp)))
    clear hba hb2 x0 x1 x2 x3 x4 x5
    cases hS:kF d
    ·rw [HE.out,List.all_cons,hS] at HS
     go_wp2_with fail
     go_ret
     exact ⟨dL (HS.out.trans (by simp)).symm,(HZ.out.next HB3.out).1⟩
    ·have HF:=Lib.hid (HE.out.trans (by rw [List.all_cons,hS]; rfl:_=R.all kF))
     go_wp2_with fail
     go_roundw
     case rel=>exact ⟨k + 1,R,by go_num,by omega,HF.out,hrest.same HB3.out,HZ.out.next HB3.out⟩
     case measure=>simp [intOf]; omega
  | nil=>
    obtain rfl:k=p.ds.length:=by simpa using hlen
    rw [HE.out] at HS
    obtain ⟨-,⟨-,c0⟩,⟨-,c1⟩,-⟩:=HZ.out
    have hth:=(HP.out.same HZ.out.1).2.2.2
    clear HE hrow hlen
    go_wp2_with fail
    go_loopw [6,8,23,31,32,33,34,35] (fun _ _ s _ _ _ _ _ wr=> ∃(k:Nat) (R:List Th),s= .int .i64 k∧k + R.length=p.ts.length∧p.ts.all sW=R.all sW∧gJ wr wr.heap.size R aM k∧Sit w wr [(w.heap.size,0,(.slice aK p.ds.length aG)),(w.heap.size,1,(.slice aM p.ts.length aH))]) (fun _ _ s _ _ _ _ _ _=>p.ts.length - (intOf s).toNat)
    case atStart=>exact ⟨0,p.ts,rfl,by simp,rfl,hth,HZ.out⟩
    case round=>
     obtain ⟨k,R,rfl,hlen,heq,hrow,hsit⟩:=hrel
     have HU:=Lib.hid hsit
     have HE:=Lib.hid heq
     clear hsit HZ c0 c1 hth heq
     cases R with
     | nil=>
       obtain rfl:k=p.ts.length:=by simpa using hlen
       rw [HE.out] at HS
       obtain ⟨-,⟨-,c0⟩,⟨-,c1⟩,-⟩:=HU.out
       go_wp2_with fail
       go_ret
       exact ⟨dL (HS.out.trans (by simp)).symm,HU.out.1⟩
     | cons t R=>
       obtain ⟨⟨b,off,fF,dW,bV,bC,rfl,hB,x0,x1,x2,x3,hok,htx,hst⟩,hrest⟩:=hrow
       simp only [List.length_cons] at hlen
       have hkl:k < p.ts.length:=by omega
       have hll:=hok.2.2.1
       have pJ:=Lib.hid hok
       have Cr:=Lib.hid htx
       have HST:=Lib.hid hst
       unfold maxLen at hll
       clear hok htx hst
       go_upto_region 10 with fail
       obtain ⟨n2,hn2⟩: ∃n,wr.heap.size=n:=⟨_,rfl⟩
       generalize hW2:World.alloc wr _=W2
       have HB2:Hid (Below wr.heap.size wr W2):=Lib.hid (by rw [← hW2]; exact aj _ _)
       have HV:Hid (Sit w W2 ((n2,0,.string t.nm) ::(n2,1,.int .i64 t.line) ::(n2,2,.slice fF t.cZ.length dW) ::(n2,3,.slice bV t.body.len bC) ::[(w.heap.size,0,(.slice aK p.ds.length aG)),(w.heap.size,1,(.slice (some ⟨b,off,none⟩) p.ts.length aH))])):=Lib.hid (by rw [← hW2]; exact HU.out.CK hn2 _ _ _ _ _)
       rw [hn2]
       clear hW2 hn2 x0 x1 x2 x3
       obtain ⟨-,⟨-,c0⟩,⟨-,c1⟩,⟨-,c2⟩,⟨-,c3⟩,⟨-,c4⟩,⟨-,c5⟩,-⟩:=HV.out
       go_wp2_with fail
       refine (vw _ _ (gU.out.same HV.out.1) pJ.out.1).mono ?_
       rintro e' w3 ⟨rfl,hb3⟩
       have HB3:=Lib.hid hb3
       have HA:=Lib.hid (HV.out.next hb3)
       clear hb3 HV c0 c1 c2 c3 c4 c5
       obtain ⟨-,⟨-,c0⟩,⟨-,c1⟩,⟨-,c2⟩,⟨-,c3⟩,⟨-,c4⟩,⟨-,c5⟩,-⟩:=HA.out
       cases hN:Tk.kT t.nm.data.toList
       ·rw [HE.out,List.all_cons,show sW t=false by unfold sW; rw [hN]; rfl] at HS
        go_wp2_with fail
        go_ret
        exact ⟨dL (HS.out.trans (by simp)).symm,HA.out.1⟩
       ·have hrow:=Cr.out.same (HB2.out.trans (HB3.out.mono HB2.out.size))
        have wK:=Lib.hid (HB2.out.trans (HB3.out.mono HB2.out.size))
        clear HB2 HB3
        go_wp2_with fail
        obtain ⟨wo,rfl⟩: ∃wo:World,wo=wr:=⟨_,rfl⟩
        go_loopw [8,34] (fun _ s wr=> ∃(k:Nat) (R:List ByteArray),s= .int .i64 k∧k + R.length=t.cZ.length∧t.cZ.all (fun s=>Tk.kT s.data.toList)=R.all (fun s=>Tk.kT s.data.toList)∧gB wr wr.heap.size R fF k∧Below wo.heap.size wo wr∧Sit w wr ((n2,0,.string t.nm) ::(n2,1,.int .i64 t.line) ::(n2,2,.slice fF t.cZ.length dW) ::(n2,3,.slice bV t.body.len bC) ::[(w.heap.size,0,(.slice aK p.ds.length aG)),(w.heap.size,1,(.slice (some ⟨b,off,none⟩) p.ts.length aH))])) (fun _ s _=>t.cZ.length - (intOf s).toNat)
        case atStart=>exact ⟨0,t.cZ,rfl,by simp,rfl,hrow,wK.out,HA.out⟩
        case round=>
         obtain ⟨k',R',rfl,hlen',heq',hrow',YG,RA⟩:=hrel
         have HC:=Lib.hid RA
         have Oq:=Lib.hid YG
         have eF:=Lib.hid heq'
         clear RA HA c0 c1 c2 c3 c4 c5 hrow heq' YG wK
         cases R' with
         | cons s R'=>
           obtain ⟨⟨b',off',rfl,hB',y0,hs⟩,hrest'⟩:=hrow'
           simp only [List.length_cons] at hlen'
           have hkl':k' < t.cZ.length:=by omega
           go_wp2_with fail
           refine (vw _ _ (gU.out.same HC.out.1) hs).mono ?_
           rintro e' w3 ⟨rfl,hb3⟩
           have eX:=Lib.hid hb3
           clear hb3
           cases O6:Tk.kT s.data.toList
           ·rw [HE.out,List.all_cons,show sW t=false by unfold sW; rw [eF.out,List.all_cons,O6]; simp] at HS
            go_wp2_with fail
            go_ret
            exact ⟨dL (HS.out.trans (by simp)).symm,(HC.out.next eX.out).1⟩
           ·have HF:=Lib.hid (eF.out.trans (by rw [List.all_cons,O6]; rfl:_=R'.all (fun s=>Tk.kT s.data.toList)))
            go_wp2_with fail
            go_roundw
            case rel=>exact ⟨k' + 1,R',by go_num,by omega,HF.out,hrest'.same eX.out,Oq.out.trans (eX.out.mono Oq.out.size),HC.out.next eX.out⟩
            case measure=>simp [intOf]; omega
         | nil=>
           obtain rfl:k'=t.cZ.length:=by simpa using hlen'
           obtain ⟨-,⟨-,c0⟩,⟨-,c1⟩,⟨-,c2⟩,⟨-,c3⟩,⟨-,c4⟩,⟨-,c5⟩,-⟩:=HC.out
           go_wp2_with fail
           refine (EO t.body _ _ _ pJ.out.2.2.2 (HST.out.1.same Oq.out) (gU.out.same HC.out.1)).mono ?_
           rintro e' w3 ⟨rfl,hb3⟩
           have eX:=Lib.hid hb3
           clear hb3
           have HT:Hid (sW t=iy t.body):=Lib.hid (by unfold sW; rw [hN,eF.out]; rfl)
           cases O6:iy t.body
           ·rw [HE.out,List.all_cons,HT.out,O6] at HS
            go_wp2_with fail
            go_ret
            exact ⟨dL (HS.out.trans (by simp)).symm,(HC.out.next eX.out).1⟩
           ·have HF:=Lib.hid (HE.out.trans (by rw [List.all_cons,HT.out,O6]; rfl:_=R.all sW))
            have Yq:=Lib.hid (Oq.out.trans (eX.out.mono Oq.out.size))
            have HSQ:=Lib.hid (HU.out.next Yq.out)
            go_wp2_with fail
            go_roundw
            case rel=>exact ⟨k + 1,R,by go_num,by omega,HF.out,hrest.same Yq.out,HSQ.out⟩
            case measure=>simp [intOf]; omega
end Go.Proofs.YtdajkddgnfgijaaGreatDoor
end
