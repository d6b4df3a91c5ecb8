/-
  Contracts of parse.operands, nameOrEmpty, ShapedExpr.
  Contract of parse.ShapedExpr.
  Contracts of parse.fieldsOf, zeroExpr, shapedDecl.
  Contracts of parse.shapedStmt, shapedList, Shaped.
  Contract of parse.Shaped.
-/
import Derived.Test.YtnknfoibmgphnaaDoorGMA
import Derived.Test.YtnknfoibmgphnaaDoorGNA
section
namespace Go.Proofs.YtnknfoibmgphnaaDoor
open Go.RowKit
open Md
theorem qC (op:Int) (w:World):
 Calls Tryd.prog 73 #[.int .i64 op] w fun e w'=>e= .returned (.int .i64 (opsOf op))∧w=w':=by
 unfold opsOf
 go_enter Tryd.func73,Tryd.ntmps73
 go_wp2
 all_goals go_ret
 all_goals refine ⟨aS ?_,rfl⟩
 all_goals first | (simp [*]; done) | ((repeat' split) <;> simp_all <;> omega)
theorem nP (s:ByteArray) (b:Bool) (w:World) (dL:dZ w) (hm:s.size≤maxLen):
 Calls Tryd.prog 40 #[.string s,.bool b] w fun e w'=>e= .returned (.bool (ji s b))∧Below w.heap.size w w':=by
 cases b
 ·go_enter Tryd.func40,Tryd.ntmps40
  go_wp2
  go_ret
  exact ⟨by simp [ji,Lib.toList_data],Below.refl _ _⟩
 ·go_enter Tryd.func40,Tryd.ntmps40
  go_wp2_with (go_at_call 24; refine (sM _ _ dL hm).mono ?_; rintro e w' ⟨rfl,hb⟩)
  go_ret
  exact ⟨rfl,hb⟩
end Go.Proofs.YtnknfoibmgphnaaDoor
end
section
namespace Go.Proofs.YtnknfoibmgphnaaDoor
open Go.RowKit
open Md
def yJ (op n:Int) (nm:ByteArray) (kids:bJ):Prop:=
 ∀(w:World) (ao:Option Addr) (cap:Nat),lI op n nm kids→kids.At w w.heap.size ao 0→dZ w→
  Calls Tryd.prog 54 #[.agg #[.int .i64 op,.int .i64 n,.string nm,.slice ao kids.len cap]] w fun e w'=>e= .returned (.bool (jN op n nm kids))∧Below w.heap.size w w'
theorem Ky {op n:Int} {nm:ByteArray} {kids:bJ} (h:((kids.len:Int) == opsOf op)=false):jN op n nm kids=false:=by unfold jN zq; rw [h]; rfl
theorem IE {op n:Int} {nm:ByteArray} {kids:bJ} (h:n < 0∨((n == 0)=false∧(op == 1)=false)):jN op n nm kids=false:=by
 unfold jN zq
 rcases h with h | ⟨h,h'⟩
 ·rw [decide_eq_true h]; simp
 ·rw [h,h']; simp
theorem Mh {op n:Int} {nm:ByteArray} {kids:bJ} {b:Bool} (hb:named op=b) (h:ji nm b=false):jN op n nm kids=false:=by
 unfold jN zq; rw [hb,h]; simp
theorem Jl {op n:Int} {nm:ByteArray} {kids:bJ} {b:Bool} (h1:((kids.len:Int) == opsOf op)=true) (h2:0≤n) (h3:(n == 0)=true∨(op == 1)=true) (hb:named op=b) (h:ji nm b=true):jN op n nm kids=kD kids:=by
 unfold jN zq; rw [hb,h,h1,decide_eq_false (by omega)]
 rcases h3 with h3 | h3 <;> rw [h3] <;> simp
theorem MU (op n:Int):(n < 0)∨(0 < n∧op≠1)∨
 ∃b,named op=b∧0≤n∧((n == 0)=true∨(op == 1)=true)∧
  ((0 < n∧op=1∧b=false)∨(n=0∧op=2∧b=true)∨(n=0∧op=3∧b=true)∨(n=0∧(op == 2)=false∧(op == 3)=false∧b=false)):=by
 by_cases h:n < 0
 ·exact Or.inl h
 ·by_cases h0:n=0
  ·subst h0
   by_cases h2:op=2
   ·subst h2; exact Or.inr (Or.inr ⟨true,rfl,by omega,Or.inl rfl,by simp⟩)
   ·by_cases h3:op=3
    ·subst h3; exact Or.inr (Or.inr ⟨true,rfl,by omega,Or.inl rfl,by simp⟩)
    ·exact Or.inr (Or.inr ⟨false,by simp [named,h2,h3],by omega,Or.inl rfl,by simp [h2,h3]⟩)
  ·by_cases h1:op=1
   ·subst h1; exact Or.inr (Or.inr ⟨false,rfl,by omega,Or.inr rfl,by simp; omega⟩)
   ·exact Or.inr (Or.inl ⟨by omega,h1⟩)
theorem om (op n:Int) (nm:ByteArray) (kids rest:bJ):kD (.cons op n nm kids rest)=(jN op n nm kids && kD rest):=rfl
def FN (kids R:bJ) (k:Nat):Prop:=k + R.len=kids.len∧kD kids=kD R
set_option maxHeartbeats 2000000 in
theorem Ap (op n:Int) (nm:ByteArray) (kids:bJ) (ih:kids.All yJ):yJ op n nm kids:=by
 intro w ao cap hok hat dL
 obtain ⟨⟨o1,o2⟩,⟨n1,n2⟩,hm,hl⟩:=hok
 unfold maxLen at hl
 have hl':kids.len≤9223372036854775807:=hl
 rcases MU op n with hn | ⟨hn,q1⟩ | ⟨b,hb,hn,hor,hq⟩
 ·have HR:=Lib.hid (IE (nm:=nm) (kids:=kids) (op:=op) (Or.inl hn))
  go_enter Tryd.func54,Tryd.ntmps54
  go_wp2_with fail
  generalize hW:World.alloc w _=W
  have HX:=Lib.hid (oP.mk hW)
  clear hW
  obtain ⟨-,-,c0,c1,c2,c3⟩:=HX.out
  go_quiet (first | (go_at_call 73; refine mK (qC _ _)))
  go_wp2_with fail
  all_goals go_ret
  all_goals exact ⟨aW HR.out.symm,(HX.out.draws _).1⟩
 ·have HR:=Lib.hid (IE (nm:=nm) (kids:=kids) (Or.inr ⟨beq_eq_false_iff_ne.2 (show n≠0 by omega),beq_eq_false_iff_ne.2 q1⟩))
  have q1':(op != 1)=true:=bne_iff_ne.2 q1
  have Vr:(n != 0)=true:=bne_iff_ne.2 (by omega)
  go_enter Tryd.func54,Tryd.ntmps54
  go_wp2_with fail
  generalize hW:World.alloc w _=W
  have HX:=Lib.hid (oP.mk hW)
  clear hW
  obtain ⟨-,-,c0,c1,c2,c3⟩:=HX.out
  go_quiet (first | (go_at_call 73; refine mK (qC _ _)))
  go_wp2_with fail
  all_goals go_ret
  all_goals exact ⟨aW HR.out.symm,(HX.out.draws _).1⟩
 ·by_cases h1:((kids.len:Int) == opsOf op)=false
  ·have HR:=Lib.hid (Ky (n:=n) (nm:=nm) h1)
   have h1':((kids.len:Int) != opsOf op)=true:=by unfold bne; rw [h1]; rfl
   go_enter Tryd.func54,Tryd.ntmps54
   go_wp2_with fail
   generalize hW:World.alloc w _=W
   have HX:=Lib.hid (oP.mk hW)
   clear hW
   obtain ⟨-,-,c0,c1,c2,c3⟩:=HX.out
   go_quiet (first | (go_at_call 73; refine mK (qC _ _)))
   go_wp2_with fail
   go_ret
   exact ⟨aW HR.out.symm,(HX.out.draws _).1⟩
  ·have h1':((kids.len:Int) == opsOf op)=true:=by simpa using h1
   clear h1
   have HY:=Lib.hid (fun h:ji nm b=true=>Jl h1' hn hor hb h)
   have HN:=Lib.hid (fun h:ji nm b=false=>Mh (n:=n) (kids:=kids) hb h)
   clear hb hor
   have HAT:=Lib.hid hat
   have qJ:=Lib.hid ih
   clear hat ih
   have UU:((kids.len:Int) != opsOf op)=false:=by unfold bne; rw [h1']; rfl
   clear h1'
   rcases hq with ⟨q0,rfl,rfl⟩ | ⟨rfl,rfl,rfl⟩ | ⟨rfl,rfl,rfl⟩ | ⟨rfl,q2,q3,rfl⟩
   all_goals
    go_enter Tryd.func54,Tryd.ntmps54
    go_wp2_with fail
    generalize hW:World.alloc w _=W
    have HX:=Lib.hid (oP.mk hW)
    clear hW
    obtain ⟨-,-,c0,c1,c2,c3⟩:=HX.out
    go_quiet (first | (go_at_call 73; refine mK (qC _ _)))
    have E9:=Lib.hid (HX.out.draws nq)
    clear HX c0 c1 c2 c3
    generalize W.drewN nq=wq at *
    obtain ⟨-,-,c0,c1,c2,c3⟩:=E9.out
    go_wp2_with fail
    refine (nP _ _ _ (dL.same E9.out.1) hm).mono ?_
    rintro e w1 ⟨rfl,hb1⟩
    have HZ:=Lib.hid (E9.out.next hb1)
    clear hb1 E9 c0 c1 c2 c3
    obtain ⟨-,-,c0,c1,c2,c3⟩:=HZ.out
   all_goals
    cases hN:ji nm _
    ·have HR:=Lib.hid (HN.out hN)
     clear HN HY
     go_wp2_with fail
     go_ret
     exact ⟨aW HR.out.symm,HZ.out.1⟩
    ·have HR:=Lib.hid (HY.out hN)
     clear HN HY
     go_wp2_with fail
     go_loopw [40] (fun i wr=> ∃k R,i= .int .i64 (k:Nat)∧FN kids R k∧R.All yJ∧R.At wr wr.heap.size ao k∧oP w wr (Value.int IntKind.i64 _) (Value.int IntKind.i64 _) (Value.string nm) (Value.slice ao kids.len cap)) (fun i _=>kids.len - (intOf i).toNat)
     case atStart=>exact ⟨0,kids,rfl,⟨Nat.zero_add _,rfl⟩,qJ.out,HAT.out.same HZ.out.1,HZ.out⟩
     case round=>
      obtain ⟨k,R,rfl,⟨hlen,heq⟩,hall,hrow,rR⟩:=hrel
      have HT:=Lib.hid (HR.out.trans heq)
      cases R with
      | nil=>
        obtain rfl:k=kids.len:=by simpa [bJ.len] using hlen
        go_wp2_with fail
        go_ret
        exact ⟨aW HT.out.symm,rR.1⟩
      | cons op' n' nm' fq rest=>
        obtain ⟨⟨b,off,jO,cap',rfl,ni,x0,x1,x2,x3,hok',jy⟩,hrest⟩:=hrow
        obtain ⟨lT,kZ⟩:=hall
        have hlt:k < kids.len:=by simp only [bJ.len] at hlen; omega
        go_wp2_with fail
        have hba:=(Below.refl wr.heap.size wr).alloc (Nat.le_refl _) (.cells #[.int .i64 op',.int .i64 n',.string nm',.slice jO fq.len cap'] 40)
        refine (lT _ _ _ hok' (jy.same hba) ((dL.same rR.1).alloc _)).mono ?_
        rintro e w2 ⟨rfl,hb2⟩
        have hb3:=hba.trans (hb2.mono (by simp))
        have lY:=Lib.hid (rR.next hb3)
        have hrest':=hrest.same hb3
        clear hba hb2 hb3 rR hrest x0 x1 x2 x3 c0 c1 c2 c3 jy
        cases hS:jN op' n' nm' fq
        ·have HF:=Lib.hid (HT.out.trans (by rw [om,hS]; rfl:kD (.cons op' n' nm' fq rest)=false))
         go_wp2_with fail
         go_ret
         exact ⟨aW HF.out.symm,lY.out.1⟩
        ·have HF:=Lib.hid (heq.trans (by rw [om,hS]; rfl:kD (.cons op' n' nm' fq rest)=kD rest))
         go_wp2_with fail
         go_roundw
         case rel=>exact ⟨k + 1,rest,by go_num,⟨by simp only [bJ.len] at hlen; omega,HF.out⟩,kZ,hrest',lY.out⟩
         case measure=>simp [intOf]; omega
theorem qZ (op n:Int) (nm:ByteArray) (kids:bJ):yJ op n nm kids:=bJ.uy Ap op n nm kids
end Go.Proofs.YtnknfoibmgphnaaDoor
end
section
namespace Go.Proofs.YtnknfoibmgphnaaDoor
open Go.RowKit
open Md
set_option maxHeartbeats 1000000 in
theorem CG (op:Int) (w:World):
 Calls Tryd.prog 53 #[.int .i64 op] w fun e w'=>e= .returned (.tuple #[.agg #[.bool (fN op),.bool (fA op),.bool (fI op),.bool (fX op),.bool (fB op),.bool (fE op)],.bool (fO op)])∧Below w.heap.size w w':=by
 have hop:op=1∨op=2∨op=3∨op=4∨op=5∨op=6∨op=7∨op=8∨op=9∨op=10∨op=11∨op=12∨op=13∨op=14∨op=15∨(op < 1∨15 < op):=by omega
 rcases hop with rfl | rfl | rfl | rfl | rfl | rfl | rfl | rfl | rfl | rfl | rfl | rfl | rfl | rfl | rfl | hop
 case inr.inr.inr.inr.inr.inr.inr.inr.inr.inr.inr.inr.inr.inr.inr=>
  have e1:fN op=false:=by unfold fN; grind
  have e2:fA op=false:=by unfold fA; grind
  have e3:fI op=false:=by unfold fI; grind
  have e4:fX op=false:=by unfold fX; grind
  have e5:fB op=false:=by unfold fB; grind
  have e6:fE op=false:=by unfold fE; grind
  have e7:fO op=false:=by unfold fO; grind
  rw [e1,e2,e3,e4,e5,e6,e7]
  clear e1 e2 e3 e4 e5 e6 e7
  have g1:(op == 1)=false:=by rw [beq_eq_false_iff_ne]; omega
  have g2:(op == 2)=false:=by rw [beq_eq_false_iff_ne]; omega
  have g3:(op == 3)=false:=by rw [beq_eq_false_iff_ne]; omega
  have g4:(op == 4)=false:=by rw [beq_eq_false_iff_ne]; omega
  have g5:(op == 5)=false:=by rw [beq_eq_false_iff_ne]; omega
  have g6:(op == 6)=false:=by rw [beq_eq_false_iff_ne]; omega
  have g7:(op == 7)=false:=by rw [beq_eq_false_iff_ne]; omega
  have g8:(op == 8)=false:=by rw [beq_eq_false_iff_ne]; omega
  have g9:(op == 9)=false:=by rw [beq_eq_false_iff_ne]; omega
  have g10:(op == 10)=false:=by rw [beq_eq_false_iff_ne]; omega
  have g11:(op == 11)=false:=by rw [beq_eq_false_iff_ne]; omega
  have g12:(op == 12)=false:=by rw [beq_eq_false_iff_ne]; omega
  have g13:(op == 13)=false:=by rw [beq_eq_false_iff_ne]; omega
  have g14:(op == 14)=false:=by rw [beq_eq_false_iff_ne]; omega
  have g15:(op == 15)=false:=by rw [beq_eq_false_iff_ne]; omega
  clear hop
  go_enter Tryd.func53,Tryd.ntmps53
  go_wp2
  exact bodyPost_ret (v:= .tuple #[.agg #[.bool _,.bool _,.bool _,.bool _,.bool _,.bool _],.bool _]) (by simp [results,Tryd.results53,go_sem]) rfl ⟨rfl,ay _ _⟩
 all_goals
  go_enter Tryd.func53,Tryd.ntmps53
  go_wp2
  exact bodyPost_ret (v:= .tuple #[.agg #[.bool _,.bool _,.bool _,.bool _,.bool _,.bool _],.bool _]) (by simp [results,Tryd.results53,go_sem]; decide) rfl ⟨rfl,ay _ _⟩
theorem EA (op n:Int) (nm:ByteArray) (len cap:Nat) (ao:Option Addr) (w:World):
 Calls Tryd.prog 55 #[.agg #[.int .i64 op,.int .i64 n,.string nm,.slice ao len cap]] w fun e w'=>e= .returned (.bool (nR op n nm len))∧Below w.heap.size w w':=by
 have HE:Hid (nR op n nm len=(((decide (op=0) && decide (n=0)) && decide (nm.toList=[])) && decide (len=0))):=Lib.hid (by unfold nR; rw [Bool.eq_iff_iff]; simp)
 go_enter Tryd.func55,Tryd.ntmps55
 go_wp2
 all_goals go_ret
 all_goals refine ⟨aW ?_,ay _ _⟩
 all_goals rw [HE.out]
 all_goals (go_light; grind)
set_option maxHeartbeats 1000000 in
theorem Bj (d:De) (w:World) (dL:dZ w) (hok:d.Ok):
 Calls Tryd.prog 23 #[.agg #[.int .i64 d.kind,.int .i64 d.line,.string d.nm,.int .i64 d.size,.int .i64 d.init,.string d.on]] w fun e w'=>e= .returned (.bool (jw d))∧Below w.heap.size w w':=by
 obtain ⟨⟨k1,k2⟩,-,hm,-,-,ho⟩:=hok
 obtain ⟨kind,line,nm,size,init,on⟩:=d
 have HE:Hid (jw ⟨kind,line,nm,size,init,on⟩=((((decide (1≤kind) && decide (kind≤6)) && Tk.iM nm.data.toList) && (decide (0≤size) && (decide (size=0) || decide (kind=1)))) && ((!decide (init= -9223372036854775808) && (decide (init=0) || (decide (kind=1) || decide (kind=2)))) && ji on (kind == 5)))):=Lib.hid (by
  unfold jw; simp only [bne]; rw [Bool.eq_iff_iff]; simp)
 dsimp only at *
 generalize jw ⟨kind,line,nm,size,init,on⟩=res at *
 go_enter Tryd.func23,Tryd.ntmps23
 go_upto_region 1 with fail
 generalize hW:World.alloc w _=W
 generalize Value.agg #[_,_,_,_,_,_]=a0
 have HX:=Lib.hid ((Sit.start w).Et rfl (.int .i64 kind) (.int .i64 line) (.string nm) (.int .i64 size) (.int .i64 init) (.string on) 37)
 rw [hW] at HX
 clear hW
 obtain ⟨-,⟨-,c0⟩,⟨-,c1⟩,⟨-,c2⟩,⟨-,c3⟩,⟨-,c4⟩,⟨-,c5⟩,-⟩:=HX.out
 go_cut [16] (fun s W2=> ∃b,s= .bool b∧(!b)=((decide (1≤kind) && decide (kind≤6)) && Tk.iM nm.data.toList)∧Sit w W2 [(w.heap.size,0,.int .i64 kind),(w.heap.size,1,.int .i64 line),(w.heap.size,2,.string nm),(w.heap.size,3,.int .i64 size),(w.heap.size,4,.int .i64 init),(w.heap.size,5,.string on)])
 case first=>
  go_wp2_with (go_at_call 24; refine (sM _ _ (dL.same HX.out.1) hm).mono ?_; rintro e w' ⟨rfl,hb⟩)
  all_goals go_meet
  all_goals first | exact ⟨_,rfl,by go_light; grind,HX.out.next ‹_›⟩ | exact ⟨_,rfl,by go_light; grind,HX.out⟩
 obtain ⟨b1,rfl,hb1,hX⟩:=hcut
 have HY:=Lib.hid hX
 have HB1:=Lib.hid hb1
 clear hX HX hb1 c0 c1 c2 c3 c4 c5
 obtain ⟨-,⟨-,c0⟩,⟨-,c1⟩,⟨-,c2⟩,⟨-,c3⟩,⟨-,c4⟩,⟨-,c5⟩,-⟩:=HY.out
 cases b1
 ·cases h5:(kind == 5)
  all_goals
   rw [h5] at HE
   go_wp2_with (go_at_call 40; refine (nP _ _ _ (dL.same HY.out.1) ho).mono ?_; rintro e w' ⟨rfl,hb⟩)
  all_goals go_ret
  all_goals first | refine ⟨aW ?_,(HY.out.next ‹_›).1⟩ | refine ⟨aW ?_,HY.out.1⟩
  all_goals rw [HE.out,← HB1.out]
  all_goals (go_light; grind)
 ·go_wp2_with fail
  go_ret
  refine ⟨aW ?_,HY.out.1⟩
  rw [HE.out,← HB1.out]; rfl
end Go.Proofs.YtnknfoibmgphnaaDoor
end
section
namespace Go.Proofs.YtnknfoibmgphnaaDoor
open Go.RowKit
open Md
def vW (h:eH) (b e:aR):Prop:=
 ∀(w:World) (s:Sl),jE w h b e s→dZ w→
  Calls Tryd.prog 42 #[aY h b e s] w fun e' w'=>e'= .returned (.bool (uD h b e))∧Below w.heap.size w w'
set_option maxHeartbeats 2000000 in
set_option maxRecDepth 100000 in
theorem rQ (l:aR) (hall:l.All vW) (w:World) (ao:Option Addr) (cap:Nat) (hl:l.len≤maxLen) (hat:l.At w w.heap.size ao 0) (dL:dZ w):
 Calls Tryd.prog 25 #[.slice ao l.len cap] w fun e' w'=>e'= .returned (.bool (eP l))∧Below w.heap.size w w':=by
 unfold maxLen at hl
 go_enter Tryd.func25,Tryd.ntmps25
 go_wp2_with fail
 go_loopw [4,7] (fun _ s wr=> ∃(k:Nat) (R:aR),s= .int .i64 k∧k + R.len=l.len∧eP l=eP R∧R.All vW∧R.At wr wr.heap.size ao k∧Below w.heap.size w wr) (fun _ s _=>l.len - (intOf s).toNat)
 case atStart=>exact ⟨0,l,rfl,by simp,rfl,hall,hat,Below.refl _ _⟩
 case round=>
  obtain ⟨k,R,rfl,hlen,heq,kZ,hrow,hB⟩:=hrel
  have HE:=Lib.hid heq
  clear heq
  cases R with
  | nil=>
    obtain rfl:k=l.len:=by simpa [aR.len] using hlen
    go_wp2_with fail
    go_ret
    exact ⟨aW HE.out.symm,hB⟩
  | cons h b e R=>
    obtain ⟨bl,off,s,rfl,hbl,hin,x0,x1,x2,x3,x4,x5,x6,x7,x8,x9,x10,hrest⟩:=aR.At.head hrow
    obtain ⟨lT,tK⟩:=kZ
    have hkl:k < l.len:=by simp only [aR.len] at hlen; omega
    clear hrow
    go_wp2_with fail
    have hba:=ay wr (.cells #[.int .i64 h.op,.int .i64 h.line,.string h.nm,.string h.arg,.slice s.fU h.idx.len s.eG,.int .i64 h.dU,.int .i64 h.xn,.string h.dV,.slice s.dW h.bq.len s.cB,.slice s.bg b.len s.aT,.slice s.eY e.len s.dP] 42)
    refine (lT _ s (hin.same hba) (dL.same (hB.trans (hba.mono hB.size)))).mono ?_
    rintro e' w2 ⟨rfl,hb2⟩
    have HB3:=Lib.hid (hba.trans (hb2.mono (by simp)))
    clear hba hb2 x0 x1 x2 x3 x4 x5 x6 x7 x8 x9 x10 hin
    cases hS:uD h b e
    ·have HF:=Lib.hid (HE.out.trans (by rw [sI,hS]; rfl:eP (.cons h b e R)=false))
     go_wp2_with fail
     go_ret
     exact ⟨aW HF.out.symm,hB.trans (HB3.out.mono hB.size)⟩
    ·have HF:=Lib.hid (HE.out.trans (by rw [sI,hS]; rfl:eP (.cons h b e R)=eP R))
     go_wp2_with fail
     go_roundw
     case rel=>exact ⟨k + 1,R,by go_num,by simp only [aR.len] at hlen; omega,HF.out,tK,hrest.same HB3.out,hB.trans (HB3.out.mono hB.size)⟩
     case measure=>simp [intOf]; omega
set_option maxHeartbeats 4000000 in
set_option maxRecDepth 100000 in
theorem Aj (h:eH) (b e:aR) (ihb:b.All vW) (Iq:e.All vW):vW h b e:=by
 intro w s hin dL
 obtain ⟨fU,eG,dW,cB,bg,aT,eY,dP⟩:=s
 have HS:Hid (uD h b e=((((fO h.op && (ji h.nm (fN h.op) && ji h.arg (fA h.op))) && ((decide ((h.idx.len:Int)≤1) && (!decide ((h.idx.len:Int)=1) || fI h.op)) && kD h.idx)) &&
  ((if fX h.op then jN h.dU h.xn h.dV h.bq else nR h.dU h.xn h.dV h.bq.len) && ((fB h.op || decide ((b.len:Int)≤0)) && (fE h.op || decide ((e.len:Int)≤0))))) && (eP b && eP e))):=Lib.hid (by
  unfold uD ru; rw [EU,F5,yD,yD])
 generalize uD h b e=res at *
 have jV:=Lib.hid hin
 have iW:=Lib.hid dL
 have Ip:=Lib.hid ihb
 have Nq:=Lib.hid Iq
 obtain ⟨⟨⟨o1,o2⟩,-,hm,ha,hil,hxk,hbl,hel⟩,-⟩:=hin
 clear dL ihb Iq
 have Tj:=hil
 have Jd:=hbl
 have Km:=hel
 have hxl:=hxk.2.2.2
 unfold maxLen at hil hbl hel hxl
 unfold aY
 dsimp only
 go_enter Tryd.func42,Tryd.ntmps42
 go_upto_region 1 with fail
 generalize hW:World.alloc w _=W
 generalize Value.agg #[_,_,_,_,_,_,_,_,_,_,_]=a0
 have HX:Hid (Sit w W (iT w.heap.size h b e ⟨fU,eG,dW,cB,bg,aT,eY,dP⟩ [])):=Lib.hid (by rw [← hW]; exact (Sit.start w).gZ rfl _ _ _ _ _ _ _ _ _ _ _ _)
 clear hW
 obtain ⟨-,⟨-,c0⟩,⟨-,c1⟩,⟨-,c2⟩,⟨-,c3⟩,⟨-,c4⟩,⟨-,c5⟩,⟨-,c6⟩,⟨-,c7⟩,⟨-,c8⟩,⟨-,c9⟩,⟨-,c10⟩,-⟩:=HX.out
 go_upto_region 2 with (go_at_call 53; refine (CG _ _).mono ?_; rintro e' w1 ⟨rfl,hb1⟩)
 have HB1:=Lib.hid hb1
 clear hb1
 generalize fN h.op=bN at *
 generalize fA h.op=bA at *
 generalize fI h.op=bI at *
 generalize fX h.op=bX at *
 generalize fB h.op=bB at *
 generalize fE h.op=bE at *
 generalize fO h.op=bO at *
 obtain ⟨n2,hn2⟩: ∃n,w1.heap.size=n:=⟨_,rfl⟩
 generalize hW2:World.alloc w1 _=W2
 have HY:Hid (Sit w W2 ((n2,0,.bool bN) ::(n2,1,.bool bA) ::(n2,2,.bool bI) ::(n2,3,.bool bX) ::(n2,4,.bool bB) ::(n2,5,.bool bE) ::iT w.heap.size h b e ⟨fU,eG,dW,cB,bg,aT,eY,dP⟩ [])):=Lib.hid (by rw [← hW2]; exact (HX.out.next HB1.out).Et hn2 _ _ _ _ _ _ _)
 rw [hn2]
 clear hW2 hn2 HX HB1 c0 c1 c2 c3 c4 c5 c6 c7 c8 c9 c10
 obtain ⟨-,⟨-,c0⟩,⟨-,c1⟩,⟨-,c2⟩,⟨-,c3⟩,⟨-,c4⟩,⟨-,c5⟩,⟨-,c6⟩,⟨-,c7⟩,⟨-,c8⟩,⟨-,c9⟩,⟨-,c10⟩,⟨-,c11⟩,⟨-,c12⟩,⟨-,c13⟩,⟨-,c14⟩,⟨-,c15⟩,⟨-,c16⟩,-⟩:=HY.out
 go_cut [4,7,30] (fun _ _ s' W2=> ∃t,s'= .bool t∧(!t)=(bO && (ji h.nm bN && ji h.arg bA))∧Sit w W2 ((n2,0,.bool bN) ::(n2,1,.bool bA) ::(n2,2,.bool bI) ::(n2,3,.bool bX) ::(n2,4,.bool bB) ::(n2,5,.bool bE) ::iT w.heap.size h b e ⟨fU,eG,dW,cB,bg,aT,eY,dP⟩ []))
 case first=>
  cases bO
  ·go_wp2_with fail
   go_meet
   exact ⟨true,rfl,rfl,HY.out⟩
  ·go_wp2_with fail
   refine (nP _ _ _ (iW.out.same HY.out.1) hm).mono ?_
   rintro e' w3 ⟨rfl,hb3⟩
   have HZ:=Lib.hid (HY.out.next hb3)
   clear hb3 HY c0 c1 c2 c3 c4 c5 c6 c7 c8 c9 c10 c11 c12 c13 c14 c15 c16
   obtain ⟨-,⟨-,c0⟩,⟨-,c1⟩,⟨-,c2⟩,⟨-,c3⟩,⟨-,c4⟩,⟨-,c5⟩,⟨-,c6⟩,⟨-,c7⟩,⟨-,c8⟩,⟨-,c9⟩,⟨-,c10⟩,⟨-,c11⟩,⟨-,c12⟩,⟨-,c13⟩,⟨-,c14⟩,⟨-,c15⟩,⟨-,c16⟩,-⟩:=HZ.out
   cases hq:ji h.nm bN
   ·go_wp2_with fail
    go_meet
    exact ⟨true,rfl,by rw [hq]; rfl,HZ.out⟩
   ·go_wp2_with fail
    refine (nP _ _ _ (iW.out.same HZ.out.1) ha).mono ?_
    rintro e' w3 ⟨rfl,hb3⟩
    have HU:=Lib.hid (HZ.out.next hb3)
    clear hb3 HZ c0 c1 c2 c3 c4 c5 c6 c7 c8 c9 c10 c11 c12 c13 c14 c15 c16
    cases hq2:ji h.arg bA
    all_goals go_wp2_with fail
    all_goals go_meet
    all_goals exact ⟨_,rfl,by rw [hq,hq2]; rfl,HU.out⟩
 obtain ⟨t1,rfl,ht1,hX⟩:=hcut
 have HZ:=Lib.hid hX
 have HT1:=Lib.hid ht1
 clear hX ht1 HY c0 c1 c2 c3 c4 c5 c6 c7 c8 c9 c10 c11 c12 c13 c14 c15 c16
 rw [← HT1.out] at HS
 clear HT1
 cases t1
 case true=>
  go_wp2_with fail
  go_ret
  exact ⟨aW HS.out.symm,HZ.out.1⟩
 obtain ⟨-,⟨-,c0⟩,⟨-,c1⟩,⟨-,c2⟩,⟨-,c3⟩,⟨-,c4⟩,⟨-,c5⟩,⟨-,c6⟩,⟨-,c7⟩,⟨-,c8⟩,⟨-,c9⟩,⟨-,c10⟩,⟨-,c11⟩,⟨-,c12⟩,⟨-,c13⟩,⟨-,c14⟩,⟨-,c15⟩,⟨-,c16⟩,-⟩:=HZ.out
 go_upto_region 4 with fail
 go_cut [45] (fun s' W3=>wc=W3∧ ∃t,s'= .bool t∧(!t)=(decide ((h.idx.len:Int)≤1) && (!decide ((h.idx.len:Int)=1) || bI)))
 case first=>
  go_wp2_with fail
  all_goals go_meet
  all_goals exact ⟨rfl,_,rfl,by go_light; grind⟩
 obtain ⟨rfl,t2,rfl,ht2⟩:=hcut
 have HT2:=Lib.hid ht2
 rw [← HT2.out] at HS
 clear HT2 ht2
 cases t2
 case true=>
  go_wp2_with fail
  go_ret
  exact ⟨aW (HS.out.trans (by simp)).symm,HZ.out.1⟩
 have Fg:=Lib.hid (jV.out.same HZ.out.1)
 have hrow:=Fg.out.2.1
 have hall:=Fg.out.1
 clear hall
 go_wp2_with fail
 go_loopw [6,49] (fun _ s' wr=> ∃(k:Nat) (R:bJ),s'= .int .i64 k∧k + R.len=h.idx.len∧kD h.idx=kD R∧R.At wr wr.heap.size fU k∧Sit w wr ((n2,0,.bool bN) ::(n2,1,.bool bA) ::(n2,2,.bool bI) ::(n2,3,.bool bX) ::(n2,4,.bool bB) ::(n2,5,.bool bE) ::iT w.heap.size h b e ⟨fU,eG,dW,cB,bg,aT,eY,dP⟩ [])) (fun _ s' _=>h.idx.len - (intOf s').toNat)
 case atStart=>exact ⟨0,h.idx,rfl,by simp,rfl,hrow,HZ.out⟩
 case round=>
  obtain ⟨k,R,rfl,hlen,heq,hrow',hsit⟩:=hrel
  have HE:=Lib.hid heq
  have HU:=Lib.hid hsit
  clear heq hsit HZ hrow Fg c0 c1 c2 c3 c4 c5 c6 c7 c8 c9 c10 c11 c12 c13 c14 c15 c16
  cases R with
  | cons op' n' nm' fq rest=>
    obtain ⟨⟨b',off',jO,cap',rfl,ni,x0,x1,x2,x3,hok',jy⟩,hrest⟩:=hrow'
    have hlt:k < h.idx.len:=by simp only [bJ.len] at hlen; omega
    go_wp2_with fail
    have hba:=ay wr (.cells #[.int .i64 op',.int .i64 n',.string nm',.slice jO fq.len cap'] 40)
    refine (qZ op' n' nm' fq _ _ _ hok' (jy.same hba) ((iW.out.same HU.out.1).same hba)).mono ?_
    rintro e' w2 ⟨rfl,hb2⟩
    have HB3:=Lib.hid (hba.trans (hb2.mono (by simp)))
    clear hba hb2 x0 x1 x2 x3 jy
    cases hS:jN op' n' nm' fq
    ·rw [HE.out,om,hS] at HS
     go_wp2_with fail
     go_ret
     exact ⟨aW (HS.out.trans (by simp)).symm,(HU.out.next HB3.out).1⟩
    ·have HF:=Lib.hid (HE.out.trans (by rw [om,hS]; rfl:kD (.cons op' n' nm' fq rest)=kD rest))
     go_wp2_with fail
     go_roundw
     case rel=>exact ⟨k + 1,rest,by go_num,by simp only [bJ.len] at hlen; omega,HF.out,hrest.same HB3.out,HU.out.next HB3.out⟩
     case measure=>simp [intOf]; omega
  | nil=>
    obtain rfl:k=h.idx.len:=by simpa [bJ.len] using hlen
    rw [HE.out] at HS
    clear HE hrow' hlen
    obtain ⟨-,⟨-,c0⟩,⟨-,c1⟩,⟨-,c2⟩,⟨-,c3⟩,⟨-,c4⟩,⟨-,c5⟩,⟨-,c6⟩,⟨-,c7⟩,⟨-,c8⟩,⟨-,c9⟩,⟨-,c10⟩,⟨-,c11⟩,⟨-,c12⟩,⟨-,c13⟩,⟨-,c14⟩,⟨-,c15⟩,⟨-,c16⟩,-⟩:=HU.out
    have hba:=iW.out.same HU.out.1
    go_upto_region 12 with fail
    go_cut [75] (fun s' W3=> ∃t,s'= .bool t∧(!t)=(if bX then jN h.dU h.xn h.dV h.bq else nR h.dU h.xn h.dV h.bq.len)∧Sit w W3 ((n2,0,.bool bN) ::(n2,1,.bool bA) ::(n2,2,.bool bI) ::(n2,3,.bool bX) ::(n2,4,.bool bB) ::(n2,5,.bool bE) ::iT w.heap.size h b e ⟨fU,eG,dW,cB,bg,aT,eY,dP⟩ []))
    case first=>
     cases bX
     ·go_wp2_with fail
      refine (EA _ _ _ _ _ _ _).mono ?_
      rintro e' w3 ⟨rfl,hb3⟩
      have HV:=Lib.hid (HU.out.next hb3)
      clear hb3
      cases hq:nR h.dU h.xn h.dV h.bq.len
      all_goals go_wp2_with fail
      all_goals go_meet
      all_goals exact ⟨_,rfl,hq.symm,HV.out⟩
     ·go_wp2_with fail
      refine (qZ _ _ _ _ _ _ _ hxk (jV.out.same HU.out.1).2.2.1 hba).mono ?_
      rintro e' w3 ⟨rfl,hb3⟩
      have HV:=Lib.hid (HU.out.next hb3)
      clear hb3 HU c0 c1 c2 c3 c4 c5 c6 c7 c8 c9 c10 c11 c12 c13 c14 c15 c16
      obtain ⟨-,⟨-,c0⟩,⟨-,c1⟩,⟨-,c2⟩,⟨-,c3⟩,⟨-,c4⟩,⟨-,c5⟩,⟨-,c6⟩,⟨-,c7⟩,⟨-,c8⟩,⟨-,c9⟩,⟨-,c10⟩,⟨-,c11⟩,⟨-,c12⟩,⟨-,c13⟩,⟨-,c14⟩,⟨-,c15⟩,⟨-,c16⟩,-⟩:=HV.out
      cases hq:jN h.dU h.xn h.dV h.bq
      all_goals go_wp2_with fail
      all_goals go_meet
      all_goals exact ⟨_,rfl,hq.symm,HV.out⟩
    obtain ⟨t3,rfl,ht3,hX⟩:=hcut
    have HV:=Lib.hid hX
    have HT3:=Lib.hid ht3
    clear hX ht3 HU hba c0 c1 c2 c3 c4 c5 c6 c7 c8 c9 c10 c11 c12 c13 c14 c15 c16
    rw [← HT3.out] at HS
    clear HT3
    cases t3
    case true=>
     go_wp2_with fail
     go_ret
     exact ⟨aW (HS.out.trans (by simp)).symm,HV.out.1⟩
    obtain ⟨-,⟨-,c0⟩,⟨-,c1⟩,⟨-,c2⟩,⟨-,c3⟩,⟨-,c4⟩,⟨-,c5⟩,⟨-,c6⟩,⟨-,c7⟩,⟨-,c8⟩,⟨-,c9⟩,⟨-,c10⟩,⟨-,c11⟩,⟨-,c12⟩,⟨-,c13⟩,⟨-,c14⟩,⟨-,c15⟩,⟨-,c16⟩,-⟩:=HV.out
    go_upto_region 14 with fail
    go_cut [95] (fun s' W3=>wc=W3∧ ∃t,s'= .bool t∧(!t)=((bB || decide ((b.len:Int)≤0)) && (bE || decide ((e.len:Int)≤0))))
    case first=>
     cases bB
     all_goals cases bE
     all_goals go_wp2_with fail
     all_goals go_meet
     all_goals exact ⟨rfl,_,rfl,by go_light; grind⟩
    obtain ⟨rfl,t4,rfl,Ih⟩:=hcut
    have vN:=Lib.hid Ih
    rw [← vN.out] at HS
    clear vN Ih
    cases t4
    case true=>
     go_wp2_with fail
     go_ret
     exact ⟨aW (HS.out.trans (by simp)).symm,HV.out.1⟩
    go_wp2_with fail
    refine (rQ b Ip.out _ _ _ Jd (jV.out.same HV.out.1).2.2.2.1 (iW.out.same HV.out.1)).mono ?_
    rintro e' w4 ⟨rfl,hb4⟩
    have HA:=Lib.hid (HV.out.next hb4)
    clear hb4 HV c0 c1 c2 c3 c4 c5 c6 c7 c8 c9 c10 c11 c12 c13 c14 c15 c16
    obtain ⟨-,⟨-,c0⟩,⟨-,c1⟩,⟨-,c2⟩,⟨-,c3⟩,⟨-,c4⟩,⟨-,c5⟩,⟨-,c6⟩,⟨-,c7⟩,⟨-,c8⟩,⟨-,c9⟩,⟨-,c10⟩,⟨-,c11⟩,⟨-,c12⟩,⟨-,c13⟩,⟨-,c14⟩,⟨-,c15⟩,⟨-,c16⟩,-⟩:=HA.out
    cases hq:eP b
    ·rw [hq] at HS
     go_wp2_with fail
     go_ret
     exact ⟨aW (HS.out.trans (by simp)).symm,HA.out.1⟩
    ·rw [hq] at HS
     go_wp2_with fail
     refine (rQ e Nq.out _ _ _ Km (jV.out.same HA.out.1).2.2.2.2 (iW.out.same HA.out.1)).mono ?_
     rintro e' w5 ⟨rfl,hb5⟩
     go_wp2_with fail
     go_ret
     exact ⟨aW (HS.out.trans (by simp [kD])).symm,(HA.out.next hb5).1⟩
theorem AB (l:aR) (w:World) (ao:Option Addr) (cap:Nat) (hl:l.len≤maxLen) (hat:l.At w w.heap.size ao 0) (dL:dZ w):
 Calls Tryd.prog 25 #[.slice ao l.len cap] w fun e' w'=>e'= .returned (.bool (eP l))∧Below w.heap.size w w':=
 rQ l (aR.lM Aj l) w ao cap hl hat dL
end Go.Proofs.YtnknfoibmgphnaaDoor
end
section
namespace Go.Proofs.YtnknfoibmgphnaaDoor
open Go.RowKit
open Md
set_option maxHeartbeats 2000000 in
set_option maxRecDepth 100000 in
theorem Gv (p:Pr) (w:World) (aC aF:Option Addr) (aA av:Nat) (hp:p.At w aC aF) (dL:dZ w):
 Calls Tryd.prog 13 #[.agg #[.slice aC p.ds.length aA,.slice aF p.ts.length av]] w fun e w'=>e= .returned (.bool (lN p))∧Below w.heap.size w w':=by
 have HS:Hid (lN p=((p.ds.all jw && p.ts.all kV) && decide ((0:Int) < p.ts.length))):=Lib.hid rfl
 generalize lN p=res at *
 have hld:=hp.1
 have hlt:=hp.2.1
 unfold maxLen at hld hlt
 have HP:=Lib.hid hp
 have iW:=Lib.hid dL
 clear hp dL
 go_enter Tryd.func13,Tryd.ntmps13
 go_upto_region 1 with fail
 generalize hW:World.alloc w _=W
 generalize Value.agg #[_,_]=a0
 have HX:=Lib.hid ((Sit.start w).kC rfl (.slice aC p.ds.length aA) (.slice aF p.ts.length av) 26)
 rw [hW] at HX
 clear hW
 obtain ⟨-,⟨-,c0⟩,⟨-,c1⟩,-⟩:=HX.out
 have hde:=(HP.out.same HX.out.1).2.2.1
 go_wp2_with fail
 go_loopw [4,12] (fun _ s wr=> ∃(k:Nat) (R:List De),s= .int .i64 k∧k + R.length=p.ds.length∧p.ds.all jw=R.all jw∧iZ wr wr.heap.size R aC k∧Sit w wr [(w.heap.size,0,(.slice aC p.ds.length aA)),(w.heap.size,1,(.slice aF p.ts.length av))]) (fun _ s _=>p.ds.length - (intOf s).toNat)
 case atStart=>exact ⟨0,p.ds,rfl,by simp,rfl,hde,HX.out⟩
 case round=>
  obtain ⟨k,R,rfl,hlen,heq,hrow,hsit⟩:=hrel
  have HZ:=Lib.hid hsit
  have HE:=Lib.hid heq
  clear hsit HX c0 c1 hde heq
  cases R with
  | cons d R=>
    obtain ⟨⟨b,off,rfl,hB,x0,x1,x2,x3,x4,x5,hok⟩,hrest⟩:=hrow
    simp only [List.length_cons] at hlen
    have hkl:k < p.ds.length:=by omega
    have lX:=Lib.hid hok
    clear hok
    go_wp2_with fail
    have hba:=ay wr (.cells #[.int .i64 d.kind,.int .i64 d.line,.string d.nm,.int .i64 d.size,.int .i64 d.init,.string d.on] 37)
    refine (Bj d _ ((iW.out.same HZ.out.1).same hba) lX.out).mono ?_
    rintro e' w2 ⟨rfl,hb2⟩
    have HB3:=Lib.hid (hba.trans (hb2.mono (by simp)))
    clear hba hb2 x0 x1 x2 x3 x4 x5
    cases hS:jw d
    ·rw [HE.out,List.all_cons,hS] at HS
     go_wp2_with fail
     go_ret
     exact ⟨aW (HS.out.trans (by simp)).symm,(HZ.out.next HB3.out).1⟩
    ·have HF:=Lib.hid (HE.out.trans (by rw [List.all_cons,hS]; rfl:_=R.all jw))
     go_wp2_with fail
     go_roundw
     case rel=>exact ⟨k + 1,R,by go_num,by omega,HF.out,hrest.same HB3.out,HZ.out.next HB3.out⟩
     case measure=>simp [intOf]; omega
  | nil=>
    obtain rfl:k=p.ds.length:=by simpa using hlen
    rw [HE.out] at HS
    obtain ⟨-,⟨-,c0⟩,⟨-,c1⟩,-⟩:=HZ.out
    have hth:=(HP.out.same HZ.out.1).2.2.2
    clear HE hrow hlen
    go_wp2_with fail
    go_loopw [6,8,23,31,32,33,34,35] (fun _ _ s _ _ _ _ _ wr=> ∃(k:Nat) (R:List Th),s= .int .i64 k∧k + R.length=p.ts.length∧p.ts.all kV=R.all kV∧iy wr wr.heap.size R aF k∧Sit w wr [(w.heap.size,0,(.slice aC p.ds.length aA)),(w.heap.size,1,(.slice aF p.ts.length av))]) (fun _ _ s _ _ _ _ _ _=>p.ts.length - (intOf s).toNat)
    case atStart=>exact ⟨0,p.ts,rfl,by simp,rfl,hth,HZ.out⟩
    case round=>
     obtain ⟨k,R,rfl,hlen,heq,hrow,hsit⟩:=hrel
     have HU:=Lib.hid hsit
     have HE:=Lib.hid heq
     clear hsit HZ c0 c1 hth heq
     cases R with
     | nil=>
       obtain rfl:k=p.ts.length:=by simpa using hlen
       rw [HE.out] at HS
       obtain ⟨-,⟨-,c0⟩,⟨-,c1⟩,-⟩:=HU.out
       go_wp2_with fail
       go_ret
       exact ⟨aW (HS.out.trans (by simp)).symm,HU.out.1⟩
     | cons t R=>
       obtain ⟨⟨b,off,iQ,gy,bg,aT,rfl,hB,x0,x1,x2,x3,hok,htx,hst⟩,hrest⟩:=hrow
       simp only [List.length_cons] at hlen
       have hkl:k < p.ts.length:=by omega
       have hll:=hok.2.2.1
       have lX:=Lib.hid hok
       have Ah:=Lib.hid htx
       have HST:=Lib.hid hst
       unfold maxLen at hll
       clear hok htx hst
       go_upto_region 10 with fail
       obtain ⟨n2,hn2⟩: ∃n,wr.heap.size=n:=⟨_,rfl⟩
       generalize hW2:World.alloc wr _=W2
       have HB2:Hid (Below wr.heap.size wr W2):=Lib.hid (by rw [← hW2]; exact ay _ _)
       have HV:Hid (Sit w W2 ((n2,0,.string t.nm) ::(n2,1,.int .i64 t.line) ::(n2,2,.slice iQ t.bH.length gy) ::(n2,3,.slice bg t.body.len aT) ::[(w.heap.size,0,(.slice aC p.ds.length aA)),(w.heap.size,1,(.slice (some ⟨b,off,none⟩) p.ts.length av))])):=Lib.hid (by rw [← hW2]; exact HU.out.qX hn2 _ _ _ _ _)
       rw [hn2]
       clear hW2 hn2 x0 x1 x2 x3
       obtain ⟨-,⟨-,c0⟩,⟨-,c1⟩,⟨-,c2⟩,⟨-,c3⟩,⟨-,c4⟩,⟨-,c5⟩,-⟩:=HV.out
       go_wp2_with fail
       refine (sM _ _ (iW.out.same HV.out.1) lX.out.1).mono ?_
       rintro e' w3 ⟨rfl,hb3⟩
       have HB3:=Lib.hid hb3
       have HA:=Lib.hid (HV.out.next hb3)
       clear hb3 HV c0 c1 c2 c3 c4 c5
       obtain ⟨-,⟨-,c0⟩,⟨-,c1⟩,⟨-,c2⟩,⟨-,c3⟩,⟨-,c4⟩,⟨-,c5⟩,-⟩:=HA.out
       cases hN:Tk.iM t.nm.data.toList
       ·rw [HE.out,List.all_cons,show kV t=false by unfold kV; rw [hN]; rfl] at HS
        go_wp2_with fail
        go_ret
        exact ⟨aW (HS.out.trans (by simp)).symm,HA.out.1⟩
       ·have hrow:=Ah.out.same (HB2.out.trans (HB3.out.mono HB2.out.size))
        have QE:=Lib.hid (HB2.out.trans (HB3.out.mono HB2.out.size))
        clear HB2 HB3
        go_wp2_with fail
        obtain ⟨wo,rfl⟩: ∃wo:World,wo=wr:=⟨_,rfl⟩
        go_loopw [8,34] (fun _ s wr=> ∃(k:Nat) (R:List ByteArray),s= .int .i64 k∧k + R.length=t.bH.length∧t.bH.all (fun s=>Tk.iM s.data.toList)=R.all (fun s=>Tk.iM s.data.toList)∧iD wr wr.heap.size R iQ k∧Below wo.heap.size wo wr∧Sit w wr ((n2,0,.string t.nm) ::(n2,1,.int .i64 t.line) ::(n2,2,.slice iQ t.bH.length gy) ::(n2,3,.slice bg t.body.len aT) ::[(w.heap.size,0,(.slice aC p.ds.length aA)),(w.heap.size,1,(.slice (some ⟨b,off,none⟩) p.ts.length av))])) (fun _ s _=>t.bH.length - (intOf s).toNat)
        case atStart=>exact ⟨0,t.bH,rfl,by simp,rfl,hrow,QE.out,HA.out⟩
        case round=>
         obtain ⟨k',R',rfl,hlen',heq',hrow',J8,Au⟩:=hrel
         have HC:=Lib.hid Au
         have uJ:=Lib.hid J8
         have dA:=Lib.hid heq'
         clear Au HA c0 c1 c2 c3 c4 c5 hrow heq' J8 QE
         cases R' with
         | cons s R'=>
           obtain ⟨⟨b',off',rfl,hB',y0,hs⟩,hrest'⟩:=hrow'
           simp only [List.length_cons] at hlen'
           have hkl':k' < t.bH.length:=by omega
           go_wp2_with fail
           refine (sM _ _ (iW.out.same HC.out.1) hs).mono ?_
           rintro e' w3 ⟨rfl,hb3⟩
           have gV:=Lib.hid hb3
           clear hb3
           cases yc:Tk.iM s.data.toList
           ·rw [HE.out,List.all_cons,show kV t=false by unfold kV; rw [dA.out,List.all_cons,yc]; simp] at HS
            go_wp2_with fail
            go_ret
            exact ⟨aW (HS.out.trans (by simp)).symm,(HC.out.next gV.out).1⟩
           ·have HF:=Lib.hid (dA.out.trans (by rw [List.all_cons,yc]; rfl:_=R'.all (fun s=>Tk.iM s.data.toList)))
            go_wp2_with fail
            go_roundw
            case rel=>exact ⟨k' + 1,R',by go_num,by omega,HF.out,hrest'.same gV.out,uJ.out.trans (gV.out.mono uJ.out.size),HC.out.next gV.out⟩
            case measure=>simp [intOf]; omega
         | nil=>
           obtain rfl:k'=t.bH.length:=by simpa using hlen'
           obtain ⟨-,⟨-,c0⟩,⟨-,c1⟩,⟨-,c2⟩,⟨-,c3⟩,⟨-,c4⟩,⟨-,c5⟩,-⟩:=HC.out
           go_wp2_with fail
           refine (AB t.body _ _ _ lX.out.2.2.2 (HST.out.1.same uJ.out) (iW.out.same HC.out.1)).mono ?_
           rintro e' w3 ⟨rfl,hb3⟩
           have gV:=Lib.hid hb3
           clear hb3
           have HT:Hid (kV t=eP t.body):=Lib.hid (by unfold kV; rw [hN,dA.out]; rfl)
           cases yc:eP t.body
           ·rw [HE.out,List.all_cons,HT.out,yc] at HS
            go_wp2_with fail
            go_ret
            exact ⟨aW (HS.out.trans (by simp)).symm,(HC.out.next gV.out).1⟩
           ·have HF:=Lib.hid (HE.out.trans (by rw [List.all_cons,HT.out,yc]; rfl:_=R.all kV))
            have mO:=Lib.hid (uJ.out.trans (gV.out.mono uJ.out.size))
            have gW:=Lib.hid (HU.out.next mO.out)
            go_wp2_with fail
            go_roundw
            case rel=>exact ⟨k + 1,R,by go_num,by omega,HF.out,hrest.same mO.out,gW.out⟩
            case measure=>simp [intOf]; omega
end Go.Proofs.YtnknfoibmgphnaaDoor
end
