/- Contracts of parse.operands, nameOrEmpty, ShapedExpr. And what hangs on it. -/
import Derived.Test.YtgjmahnblcajbaaGreatDoorGMA
import Derived.Test.YtgjmahnblcajbaaGreatDoorGNA
set_option linter.unusedSimpArgs false
set_option linter.unusedVariables false
set_option maxHeartbeats 40000000
set_option maxRecDepth 1000000
namespace Go.Proofs.YtgjmahnblcajbaaGreatDoor
open Go.RowKit
open Md
theorem vI (op:Int) (w:World):
 Calls Tryz.prog 161 #[.int .i64 op] w fun e w'=>e= .returned (.int .i64 (opsOf op))∧w=w':=by
 unfold opsOf;go_enter Tryz.func161,Tryz.ntmps161;go_wp2
 all_goals go_ret
 all_goals refine ⟨dB ?_,rfl⟩
 all_goals first | (simp [*]; done) | ((repeat' split) <;> simp_all <;> omega)
theorem qy (s:ByteArray) (b:Bool) (w:World) (dH:cB w) (hm:s.size<=maxLen):
 Calls Tryz.prog 110 #[.string s,.bool b] w fun e w'=>e= .returned (.bool (qg s b))∧Below w.heap.size w w':=by
 cases b
 ·go_enter Tryz.func110,Tryz.ntmps110;go_wp2;go_ret;exact ⟨by simp [qg,Lib.toList_data],Below.refl _ _⟩
 ·go_enter Tryz.func110,Tryz.ntmps110;go_wp2_with (go_at_call 39; refine (uO _ _ dH hm).mono ?_; rintro e w' ⟨rfl,hb⟩);go_ret;exact ⟨rfl,hb⟩
theorem ND (op:Int) (w:World):
 Calls Tryz.prog 137 #[.int .i64 op] w fun e w'=>e= .returned (.tuple #[.agg #[.bool (fN op),.bool (fA op),.bool (fI op),.bool (fX op),.bool (fB op),.bool (fE op)],.bool (fO op)])∧Below w.heap.size w w':=by
 have hop:op=1∨op=2∨op=3∨op=4∨op=5∨op=6∨op=7∨op=8∨op=9∨op=10∨op=11∨op=12∨op=13∨op=14∨op=15∨(op < 1∨15 < op):=by omega
 rcases hop with rfl | rfl | rfl | rfl | rfl | rfl | rfl | rfl | rfl | rfl | rfl | rfl | rfl | rfl | rfl | hop
 case inr.inr.inr.inr.inr.inr.inr.inr.inr.inr.inr.inr.inr.inr.inr=>
  have e1:fN op=false:=by unfold fN; grind
  have e2:fA op=false:=by unfold fA; grind
  have e3:fI op=false:=by unfold fI; grind
  have e4:fX op=false:=by unfold fX; grind
  have e5:fB op=false:=by unfold fB; grind
  have e6:fE op=false:=by unfold fE; grind
  have e7:fO op=false:=by unfold fO; grind
  rw [e1,e2,e3,e4,e5,e6,e7];clear e1 e2 e3 e4 e5 e6 e7;have g1:(op == 1)=false:=by rw [beq_eq_false_iff_ne]; omega
  have g2:(op == 2)=false:=by rw [beq_eq_false_iff_ne]; omega
  have g3:(op == 3)=false:=by rw [beq_eq_false_iff_ne]; omega
  have g4:(op == 4)=false:=by rw [beq_eq_false_iff_ne]; omega
  have g5:(op == 5)=false:=by rw [beq_eq_false_iff_ne]; omega
  have g6:(op == 6)=false:=by rw [beq_eq_false_iff_ne]; omega
  have g7:(op == 7)=false:=by rw [beq_eq_false_iff_ne]; omega
  have g8:(op == 8)=false:=by rw [beq_eq_false_iff_ne]; omega
  have g9:(op == 9)=false:=by rw [beq_eq_false_iff_ne]; omega
  have g10:(op == 10)=false:=by rw [beq_eq_false_iff_ne]; omega
  have g11:(op == 11)=false:=by rw [beq_eq_false_iff_ne]; omega
  have g12:(op == 12)=false:=by rw [beq_eq_false_iff_ne]; omega
  have g13:(op == 13)=false:=by rw [beq_eq_false_iff_ne]; omega
  have g14:(op == 14)=false:=by rw [beq_eq_false_iff_ne]; omega
  have g15:(op == 15)=false:=by rw [beq_eq_false_iff_ne]; omega
  clear hop;go_enter Tryz.func137,Tryz.ntmps137;go_wp2;exact bodyPost_ret (v:= .tuple #[.agg #[.bool _,.bool _,.bool _,.bool _,.bool _,.bool _],.bool _]) (by simp [results,Tryz.results137,go_sem]) rfl ⟨rfl,au _ _⟩
 all_goals go_enter Tryz.func137,Tryz.ntmps137;go_wp2;exact bodyPost_ret (v:= .tuple #[.agg #[.bool _,.bool _,.bool _,.bool _,.bool _,.bool _],.bool _]) (by simp [results,Tryz.results137,go_sem]; decide) rfl ⟨rfl,au _ _⟩
theorem OL (op n:Int) (nm:ByteArray) (len cap:Nat) (ao:Option Addr) (w:World):
 Calls Tryz.prog 139 #[.agg #[.int .i64 op,.int .i64 n,.string nm,.slice ao len cap]] w fun e w'=>e= .returned (.bool (xk op n nm len))∧Below w.heap.size w w':=by
 have HE:aj (xk op n nm len=(((decide (op=0) && decide (n=0)) && decide (nm.toList=[])) && decide (len=0))):=ah (by unfold xk; rw [Bool.eq_iff_iff]; simp);go_enter Tryz.func139,Tryz.ntmps139;go_wp2
 all_goals go_ret
 all_goals refine ⟨bP ?_,au _ _⟩
 all_goals rw [HE.o]
 all_goals (go_light; grind)
theorem K7 (d:De) (w:World) (dH:cB w) (hok:d.Ok):
 Calls Tryz.prog 77 #[.agg #[.int .i64 d.kind,.int .i64 d.line,.string d.nm,.int .i64 d.size,.int .i64 d.init,.string d.on]] w fun e w'=>e= .returned (.bool (lM d))∧Below w.heap.size w w':=by
 obtain ⟨⟨k1,k2⟩,-,hm,-,-,ho⟩:=hok;obtain ⟨kind,line,nm,size,init,on⟩:=d;have HE:aj (lM ⟨kind,line,nm,size,init,on⟩=((((decide (1<=kind) && decide (kind<=6)) && Tk.iO nm.data.toList) && (decide (0<=size) && (decide (size=0) || decide (kind=1)))) && ((!decide (init= -9223372036854775808) && (decide (init=0) || (decide (kind=1) || decide (kind=2)))) && qg on (kind == 5)))):=ah (by unfold lM; simp only [bne]; rw [Bool.eq_iff_iff]; simp);dsimp only at *;generalize lM ⟨kind,line,nm,size,init,on⟩=res at *;go_enter Tryz.func77,Tryz.ntmps77;go_upto_region 1 with fail;generalize hW:World.alloc w _=W;generalize Value.agg #[_,_,_,_,_,_]=a0;have HX:=ah ((Sit.start w).VU rfl (.int .i64 kind) (.int .i64 line) (.string nm) (.int .i64 size) (.int .i64 init) (.string on) 86);rw [hW] at HX;clear hW;obtain ⟨-,⟨-,c0⟩,⟨-,c1⟩,⟨-,c2⟩,⟨-,c3⟩,⟨-,c4⟩,⟨-,c5⟩,-⟩:=HX.o;go_cut [16] (fun s W2=> ∃b,s= .bool b∧(!b)=((decide (1<=kind) && decide (kind<=6)) && Tk.iO nm.data.toList)∧Sit w W2 [(w.heap.size,0,.int .i64 kind),(w.heap.size,1,.int .i64 line),(w.heap.size,2,.string nm),(w.heap.size,3,.int .i64 size),(w.heap.size,4,.int .i64 init),(w.heap.size,5,.string on)])
 case first=>
  go_wp2_with (go_at_call 39; refine (uO _ _ (dH.same HX.o.1) hm).mono ?_; rintro e w' ⟨rfl,hb⟩)
  all_goals go_meet
  all_goals first | exact ⟨_,rfl,by go_light; grind,HX.o.next ‹_›⟩ | exact ⟨_,rfl,by go_light; grind,HX.o⟩
 obtain ⟨b1,rfl,hb1,hX⟩:=hcut;have HY:=ah hX;have HB1:=ah hb1;clear hX HX hb1 c0 c1 c2 c3 c4 c5;obtain ⟨-,⟨-,c0⟩,⟨-,c1⟩,⟨-,c2⟩,⟨-,c3⟩,⟨-,c4⟩,⟨-,c5⟩,-⟩:=HY.o;cases b1
 ·cases h5:(kind == 5)
  all_goals rw [h5] at HE;go_wp2_with (go_at_call 110; refine (qy _ _ _ (dH.same HY.o.1) ho).mono ?_; rintro e w' ⟨rfl,hb⟩)
  all_goals go_ret
  all_goals first | refine ⟨bP ?_,(HY.o.next ‹_›).1⟩ | refine ⟨bP ?_,HY.o.1⟩
  all_goals rw [HE.o,<- HB1.o]
  all_goals (go_light; grind)
 ·go_wp2_with fail;go_ret;refine ⟨bP ?_,HY.o.1⟩;rw [HE.o,<- HB1.o]; rfl
def Fe (op n:Int) (nm:ByteArray) (kids:bf):Prop:=
 ∀(w:World) (ao:Option Addr) (cap:Nat),xW op n nm kids->kids.At w w.heap.size ao 0->cB w->
  Calls Tryz.prog 138 #[.agg #[.int .i64 op,.int .i64 n,.string nm,.slice ao kids.len cap]] w fun e w'=>e= .returned (.bool (jP op n nm kids))∧Below w.heap.size w w'
theorem Xk {op n:Int} {nm:ByteArray} {kids:bf} (h:((kids.len:Int) == opsOf op)=false):jP op n nm kids=false:=by unfold jP GZ; rw [h]; rfl
theorem V4 {op n:Int} {nm:ByteArray} {kids:bf} (h:n < 0∨((n == 0)=false∧(op == 1)=false)):jP op n nm kids=false:=by
 unfold jP GZ;rcases h with h | ⟨h,h'⟩
 ·rw [decide_eq_true h]; simp
 ·rw [h,h']; simp
theorem ZJ {op n:Int} {nm:ByteArray} {kids:bf} {b:Bool} (hb:named op=b) (h:qg nm b=false):jP op n nm kids=false:=by
 unfold jP GZ; rw [hb,h]; simp
theorem Xl {op n:Int} {nm:ByteArray} {kids:bf} {b:Bool} (h1:((kids.len:Int) == opsOf op)=true) (h2:0<=n) (h3:(n == 0)=true∨(op == 1)=true) (hb:named op=b) (h:qg nm b=true):jP op n nm kids=oo kids:=by
 unfold jP GZ; rw [hb,h,h1,decide_eq_false (by omega)];rcases h3 with h3 | h3 <;> rw [h3] <;> simp
theorem Za (op n:Int):(n < 0)∨(0 < n∧op≠1)∨
 ∃b,named op=b∧0<=n∧((n == 0)=true∨(op == 1)=true)∧
  ((0 < n∧op=1∧b=false)∨(n=0∧op=2∧b=true)∨(n=0∧op=3∧b=true)∨(n=0∧(op == 2)=false∧(op == 3)=false∧b=false)):=by
 by_cases h:n < 0
 ·exact Or.inl h
 ·by_cases h0:n=0
  ·subst h0;by_cases h2:op=2
   ·subst h2; exact Or.inr (Or.inr ⟨true,rfl,by omega,Or.inl rfl,by simp⟩)
   ·by_cases h3:op=3
    ·subst h3; exact Or.inr (Or.inr ⟨true,rfl,by omega,Or.inl rfl,by simp⟩)
    ·exact Or.inr (Or.inr ⟨false,by simp [named,h2,h3],by omega,Or.inl rfl,by simp [h2,h3]⟩)
  ·by_cases h1:op=1
   ·subst h1; exact Or.inr (Or.inr ⟨false,rfl,by omega,Or.inr rfl,by simp; omega⟩)
   ·exact Or.inr (Or.inl ⟨by omega,h1⟩)
theorem ng (op n:Int) (nm:ByteArray) (kids rest:bf):oo (.cons op n nm kids rest)=(jP op n nm kids && oo rest):=rfl
def YN (kids R:bf) (k:Nat):Prop:=k + R.len=kids.len∧oo kids=oo R
theorem Im (op n:Int) (nm:ByteArray) (kids:bf) (ih:kids.All Fe):Fe op n nm kids:=by
 intro w ao cap hok hat dH;obtain ⟨⟨o1,o2⟩,⟨n1,n2⟩,hm,hl⟩:=hok;unfold maxLen at hl;have hl':kids.len<=9223372036854775807:=hl;rcases Za op n with hn | ⟨hn,q1⟩ | ⟨b,hb,hn,hor,hq⟩
 ·have HR:=ah (V4 (nm:=nm) (kids:=kids) (op:=op) (Or.inl hn));go_enter Tryz.func138,Tryz.ntmps138;go_wp2_with fail;generalize hW:World.alloc w _=W;have HX:=ah (wE.mk hW);clear hW;obtain ⟨-,-,c0,c1,c2,c3⟩:=HX.o;go_quiet (first | (go_at_call 161; refine nI (vI _ _)));go_wp2_with fail
  all_goals go_ret
  all_goals exact ⟨bP HR.o.symm,(HX.o.draws _).1⟩
 ·have HR:=ah (V4 (nm:=nm) (kids:=kids) (Or.inr ⟨beq_eq_false_iff_ne.2 (show n≠0 by omega),beq_eq_false_iff_ne.2 q1⟩));have q1':(op != 1)=true:=bne_iff_ne.2 q1;have q0':(n != 0)=true:=bne_iff_ne.2 (by omega);go_enter Tryz.func138,Tryz.ntmps138;go_wp2_with fail;generalize hW:World.alloc w _=W;have HX:=ah (wE.mk hW);clear hW;obtain ⟨-,-,c0,c1,c2,c3⟩:=HX.o;go_quiet (first | (go_at_call 161; refine nI (vI _ _)));go_wp2_with fail
  all_goals go_ret
  all_goals exact ⟨bP HR.o.symm,(HX.o.draws _).1⟩
 ·by_cases h1:((kids.len:Int) == opsOf op)=false
  ·have HR:=ah (Xk (n:=n) (nm:=nm) h1);have h1':((kids.len:Int) != opsOf op)=true:=by unfold bne; rw [h1]; rfl
   go_enter Tryz.func138,Tryz.ntmps138;go_wp2_with fail;generalize hW:World.alloc w _=W;have HX:=ah (wE.mk hW);clear hW;obtain ⟨-,-,c0,c1,c2,c3⟩:=HX.o;go_quiet (first | (go_at_call 161; refine nI (vI _ _)));go_wp2_with fail;go_ret;exact ⟨bP HR.o.symm,(HX.o.draws _).1⟩
  ·have h1':((kids.len:Int) == opsOf op)=true:=by simpa using h1
   clear h1;have HY:=ah (fun h:qg nm b=true=>Xl h1' hn hor hb h);have HN:=ah (fun h:qg nm b=false=>ZJ (n:=n) (kids:=kids) hb h);clear hb hor;have HAT:=ah hat;have lg:=ah ih;clear hat ih;have bb7:((kids.len:Int) != opsOf op)=false:=by unfold bne; rw [h1']; rfl
   clear h1';rcases hq with ⟨q0,rfl,rfl⟩ | ⟨rfl,rfl,rfl⟩ | ⟨rfl,rfl,rfl⟩ | ⟨rfl,q2,q3,rfl⟩
   all_goals go_enter Tryz.func138,Tryz.ntmps138;go_wp2_with fail;generalize hW:World.alloc w _=W;have HX:=ah (wE.mk hW);clear hW;obtain ⟨-,-,c0,c1,c2,c3⟩:=HX.o;go_quiet (first | (go_at_call 161; refine nI (vI _ _)));have Dv:=ah (HX.o.draws nq);clear HX c0 c1 c2 c3;generalize W.drewN nq=wq at *;obtain ⟨-,-,c0,c1,c2,c3⟩:=Dv.o;go_wp2_with fail;refine (qy _ _ _ (dH.same Dv.o.1) hm).mono ?_;rintro e w1 ⟨rfl,hb1⟩;have HZ:=ah (Dv.o.next hb1);clear hb1 Dv c0 c1 c2 c3;obtain ⟨-,-,c0,c1,c2,c3⟩:=HZ.o
   all_goals
    cases hN:qg nm _
    ·have HR:=ah (HN.o hN);clear HN HY;go_wp2_with fail;go_ret;exact ⟨bP HR.o.symm,HZ.o.1⟩
    ·have HR:=ah (HY.o hN);clear HN HY;go_wp2_with fail;go_loopw [40] (fun i wr=> ∃k R,i= .int .i64 (k:Nat)∧YN kids R k∧R.All Fe∧R.At wr wr.heap.size ao k∧wE w wr (Value.int IntKind.i64 _) (Value.int IntKind.i64 _) (Value.string nm) (Value.slice ao kids.len cap)) (fun i _=>kids.len - (intOf i).toNat)
     case atStart=>exact ⟨0,kids,rfl,⟨Nat.zero_add _,rfl⟩,lg.o,HAT.o.same HZ.o.1,HZ.o⟩
     case round=>
      obtain ⟨k,R,rfl,⟨hlen,heq⟩,hall,hrow,RH⟩:=hrel;have HT:=ah (HR.o.trans heq);cases R with
      | nil=>obtain rfl:k=kids.len:=(by simpa [bf.len] using hlen);go_wp2_with fail;go_ret;exact ⟨bP HT.o.symm,RH.1⟩
      | cons op' n' nm' jg rest=>
        obtain ⟨⟨b,off,mH,cap',rfl,nM,x0,x1,x2,x3,hok',qw⟩,hrest⟩:=hrow;obtain ⟨mh,yN⟩:=hall;have hlt:k < kids.len:=(by simp only [bf.len] at hlen; omega);go_wp2_with fail;have hba:=(Below.refl wr.heap.size wr).alloc (Nat.le_refl _) (.cells #[.int .i64 op',.int .i64 n',.string nm',.slice mH jg.len cap'] 105);refine (mh _ _ _ hok' (qw.same hba) ((dH.same RH.1).alloc _)).mono ?_;rintro e w2 ⟨rfl,hb2⟩;have hb3:=hba.trans (hb2.mono (by simp));have E9:=ah (RH.next hb3);have hrest':=hrest.same hb3;clear hba hb2 hb3 RH hrest x0 x1 x2 x3 c0 c1 c2 c3 qw;cases hS:jP op' n' nm' jg
        ·have HF:=ah (HT.o.trans (by rw [ng,hS]; rfl:oo (.cons op' n' nm' jg rest)=false));go_wp2_with fail;go_ret;exact ⟨bP HF.o.symm,E9.o.1⟩
        ·have HF:=ah (heq.trans (by rw [ng,hS]; rfl:oo (.cons op' n' nm' jg rest)=oo rest));go_wp2_with fail;go_roundw
         case rel=>exact ⟨k + 1,rest,by go_num,⟨by simp only [bf.len] at hlen; omega,HF.o⟩,yN,hrest',E9.o⟩
         case measure=>simp [intOf]; omega
theorem wL (op n:Int) (nm:ByteArray) (kids:bf):Fe op n nm kids:=bf.ER Im op n nm kids
def BX (h:aX) (b e:aJ):Prop:=
 ∀(w:World) (s:Sl),Em w h b e s->cB w->
  Calls Tryz.prog 111 #[fK h b e s] w fun e' w'=>e'= .returned (.bool (K9 h b e))∧Below w.heap.size w w'
theorem yj (l:aJ) (hall:l.All BX) (w:World) (ao:Option Addr) (cap:Nat) (hl:l.len<=maxLen) (hat:l.At w w.heap.size ao 0) (dH:cB w):
 Calls Tryz.prog 78 #[.slice ao l.len cap] w fun e' w'=>e'= .returned (.bool (iK l))∧Below w.heap.size w w':=by
 unfold maxLen at hl;go_enter Tryz.func78,Tryz.ntmps78;go_wp2_with fail;go_loopw [4,7] (fun _ s wr=> ∃(k:Nat) (R:aJ),s= .int .i64 k∧k + R.len=l.len∧iK l=iK R∧R.All BX∧R.At wr wr.heap.size ao k∧Below w.heap.size w wr) (fun _ s _=>l.len - (intOf s).toNat)
 case atStart=>exact ⟨0,l,rfl,by simp,rfl,hall,hat,Below.refl _ _⟩
 case round=>
  obtain ⟨k,R,rfl,hlen,heq,yN,hrow,hB⟩:=hrel;have HE:=ah heq;clear heq;cases R with
  | nil=>
    obtain rfl:k=l.len:=by simpa [aJ.len] using hlen
    go_wp2_with fail;go_ret;exact ⟨bP HE.o.symm,hB⟩
  | cons h b e R=>
    obtain ⟨bl,off,s,rfl,hbl,hin,x0,x1,x2,x3,x4,x5,x6,x7,x8,x9,x10,hrest⟩:=aJ.At.head hrow;obtain ⟨mh,NJ⟩:=yN;have hkl:k < l.len:=by simp only [aJ.len] at hlen; omega
    clear hrow;go_wp2_with fail;have hba:=au wr (.cells #[.int .i64 h.op,.int .i64 h.line,.string h.nm,.string h.arg,.slice s.dw h.idx.len s.bJ,.int .i64 h.dP,.int .i64 h.xn,.string h.dO,.slice s.dZ h.aO.len s.dI,.slice s.cK b.len s.aZ,.slice s.fF e.len s.dX] 107);refine (mh _ s (hin.same hba) (dH.same (hB.trans (hba.mono hB.size)))).mono ?_;rintro e' w2 ⟨rfl,hb2⟩;have HB3:=ah (hba.trans (hb2.mono (by simp)));clear hba hb2 x0 x1 x2 x3 x4 x5 x6 x7 x8 x9 x10 hin;cases hS:K9 h b e
    ·have HF:=ah (HE.o.trans (by rw [Jj,hS]; rfl:iK (.cons h b e R)=false));go_wp2_with fail;go_ret;exact ⟨bP HF.o.symm,hB.trans (HB3.o.mono hB.size)⟩
    ·have HF:=ah (HE.o.trans (by rw [Jj,hS]; rfl:iK (.cons h b e R)=iK R));go_wp2_with fail;go_roundw
     case rel=>exact ⟨k + 1,R,by go_num,by simp only [aJ.len] at hlen; omega,HF.o,NJ,hrest.same HB3.o,hB.trans (HB3.o.mono hB.size)⟩
     case measure=>simp [intOf]; omega
theorem Ji (h:aX) (b e:aJ) (ihb:b.All BX) (ihe:e.All BX):BX h b e:=by
 intro w s hin dH;obtain ⟨dw,bJ,dZ,dI,cK,aZ,fF,dX⟩:=s;have HS:aj (K9 h b e=((((fO h.op && (qg h.nm (fN h.op) && qg h.arg (fA h.op))) && ((decide ((h.idx.len:Int)<=1) && (!decide ((h.idx.len:Int)=1) || fI h.op)) && oo h.idx)) &&
  ((if fX h.op then jP h.dP h.xn h.dO h.aO else xk h.dP h.xn h.dO h.aO.len) && ((fB h.op || decide ((b.len:Int)<=0)) && (fE h.op || decide ((e.len:Int)<=0))))) && (iK b && iK e))):=ah (by
  unfold K9 qz; rw [Zn,Zm,Qr,Qr])
 generalize K9 h b e=res at *;have eX:=ah hin;have gV:=ah dH;have HIB:=ah ihb;have HIE:=ah ihe;obtain ⟨⟨⟨o1,o2⟩,-,hm,ha,hil,hxk,hbl,hel⟩,-⟩:=hin;clear dH ihb ihe;have bc5:=hil;have aL6:=hbl;have aL8:=hel;have hxl:=hxk.2.2.2;unfold maxLen at hil hbl hel hxl;unfold fK;dsimp only;go_enter Tryz.func111,Tryz.ntmps111;go_upto_region 1 with fail;generalize hW:World.alloc w _=W;generalize Value.agg #[_,_,_,_,_,_,_,_,_,_,_]=a0;have HX:aj (Sit w W (yH w.heap.size h b e ⟨dw,bJ,dZ,dI,cK,aZ,fF,dX⟩ [])):=ah (by rw [<- hW]; exact (Sit.start w).Aq rfl _ _ _ _ _ _ _ _ _ _ _ _);clear hW;obtain ⟨-,⟨-,c0⟩,⟨-,c1⟩,⟨-,c2⟩,⟨-,c3⟩,⟨-,c4⟩,⟨-,c5⟩,⟨-,c6⟩,⟨-,c7⟩,⟨-,c8⟩,⟨-,c9⟩,⟨-,c10⟩,-⟩:=HX.o;go_upto_region 2 with (go_at_call 137; refine (ND _ _).mono ?_; rintro e' w1 ⟨rfl,hb1⟩);have HB1:=ah hb1;clear hb1;generalize fN h.op=bN at *;generalize fA h.op=bA at *;generalize fI h.op=bI at *;generalize fX h.op=bX at *;generalize fB h.op=bB at *;generalize fE h.op=bE at *;generalize fO h.op=bO at *;obtain ⟨n2,hn2⟩: ∃n,w1.heap.size=n:=⟨_,rfl⟩;generalize hW2:World.alloc w1 _=W2;have HY:aj (Sit w W2 ((n2,0,.bool bN) ::(n2,1,.bool bA) ::(n2,2,.bool bI) ::(n2,3,.bool bX) ::(n2,4,.bool bB) ::(n2,5,.bool bE) ::yH w.heap.size h b e ⟨dw,bJ,dZ,dI,cK,aZ,fF,dX⟩ [])):=ah (by rw [<- hW2]; exact (HX.o.next HB1.o).VU hn2 _ _ _ _ _ _ _);rw [hn2];clear hW2 hn2 HX HB1 c0 c1 c2 c3 c4 c5 c6 c7 c8 c9 c10;obtain ⟨-,⟨-,c0⟩,⟨-,c1⟩,⟨-,c2⟩,⟨-,c3⟩,⟨-,c4⟩,⟨-,c5⟩,⟨-,c6⟩,⟨-,c7⟩,⟨-,c8⟩,⟨-,c9⟩,⟨-,c10⟩,⟨-,c11⟩,⟨-,c12⟩,⟨-,c13⟩,⟨-,c14⟩,⟨-,c15⟩,⟨-,c16⟩,-⟩:=HY.o;go_cut [4,7,30] (fun _ _ s' W2=> ∃t,s'= .bool t∧(!t)=(bO && (qg h.nm bN && qg h.arg bA))∧Sit w W2 ((n2,0,.bool bN) ::(n2,1,.bool bA) ::(n2,2,.bool bI) ::(n2,3,.bool bX) ::(n2,4,.bool bB) ::(n2,5,.bool bE) ::yH w.heap.size h b e ⟨dw,bJ,dZ,dI,cK,aZ,fF,dX⟩ []))
 case first=>
  cases bO
  ·go_wp2_with fail;go_meet;exact ⟨true,rfl,rfl,HY.o⟩
  ·go_wp2_with fail;refine (qy _ _ _ (gV.o.same HY.o.1) hm).mono ?_;rintro e' w3 ⟨rfl,hb3⟩;have HZ:=ah (HY.o.next hb3);clear hb3 HY c0 c1 c2 c3 c4 c5 c6 c7 c8 c9 c10 c11 c12 c13 c14 c15 c16;obtain ⟨-,⟨-,c0⟩,⟨-,c1⟩,⟨-,c2⟩,⟨-,c3⟩,⟨-,c4⟩,⟨-,c5⟩,⟨-,c6⟩,⟨-,c7⟩,⟨-,c8⟩,⟨-,c9⟩,⟨-,c10⟩,⟨-,c11⟩,⟨-,c12⟩,⟨-,c13⟩,⟨-,c14⟩,⟨-,c15⟩,⟨-,c16⟩,-⟩:=HZ.o;cases hq:qg h.nm bN
   ·go_wp2_with fail;go_meet;exact ⟨true,rfl,by rw [hq]; rfl,HZ.o⟩
   ·go_wp2_with fail;refine (qy _ _ _ (gV.o.same HZ.o.1) ha).mono ?_;rintro e' w3 ⟨rfl,hb3⟩;have HU:=ah (HZ.o.next hb3);clear hb3 HZ c0 c1 c2 c3 c4 c5 c6 c7 c8 c9 c10 c11 c12 c13 c14 c15 c16;cases hq2:qg h.arg bA
    all_goals go_wp2_with fail
    all_goals go_meet
    all_goals exact ⟨_,rfl,by rw [hq,hq2]; rfl,HU.o⟩
 obtain ⟨t1,rfl,ht1,hX⟩:=hcut;have HZ:=ah hX;have HT1:=ah ht1;clear hX ht1 HY c0 c1 c2 c3 c4 c5 c6 c7 c8 c9 c10 c11 c12 c13 c14 c15 c16;rw [<- HT1.o] at HS;clear HT1;cases t1
 case true=>go_wp2_with fail;go_ret;exact ⟨bP HS.o.symm,HZ.o.1⟩
 obtain ⟨-,⟨-,c0⟩,⟨-,c1⟩,⟨-,c2⟩,⟨-,c3⟩,⟨-,c4⟩,⟨-,c5⟩,⟨-,c6⟩,⟨-,c7⟩,⟨-,c8⟩,⟨-,c9⟩,⟨-,c10⟩,⟨-,c11⟩,⟨-,c12⟩,⟨-,c13⟩,⟨-,c14⟩,⟨-,c15⟩,⟨-,c16⟩,-⟩:=HZ.o;go_upto_region 4 with fail;go_cut [45] (fun s' W3=>wc=W3∧ ∃t,s'= .bool t∧(!t)=(decide ((h.idx.len:Int)<=1) && (!decide ((h.idx.len:Int)=1) || bI)))
 case first=>
  go_wp2_with fail
  all_goals go_meet
  all_goals exact ⟨rfl,_,rfl,by go_light; grind⟩
 obtain ⟨rfl,t2,rfl,ht2⟩:=hcut;have HT2:=ah ht2;rw [<- HT2.o] at HS;clear HT2 ht2;cases t2
 case true=>go_wp2_with fail;go_ret;exact ⟨bP (HS.o.trans (by simp)).symm,HZ.o.1⟩
 have HXI:=ah (eX.o.same HZ.o.1);have hrow:=HXI.o.2.1;have hall:=HXI.o.1;clear hall;go_wp2_with fail;go_loopw [6,49] (fun _ s' wr=> ∃(k:Nat) (R:bf),s'= .int .i64 k∧k + R.len=h.idx.len∧oo h.idx=oo R∧R.At wr wr.heap.size dw k∧Sit w wr ((n2,0,.bool bN) ::(n2,1,.bool bA) ::(n2,2,.bool bI) ::(n2,3,.bool bX) ::(n2,4,.bool bB) ::(n2,5,.bool bE) ::yH w.heap.size h b e ⟨dw,bJ,dZ,dI,cK,aZ,fF,dX⟩ [])) (fun _ s' _=>h.idx.len - (intOf s').toNat)
 case atStart=>exact ⟨0,h.idx,rfl,by simp,rfl,hrow,HZ.o⟩
 case round=>
  obtain ⟨k,R,rfl,hlen,heq,hrow',hsit⟩:=hrel;have HE:=ah heq;have HU:=ah hsit;clear heq hsit HZ hrow HXI c0 c1 c2 c3 c4 c5 c6 c7 c8 c9 c10 c11 c12 c13 c14 c15 c16;cases R with
  | cons op' n' nm' jg rest=>
    obtain ⟨⟨b',off',mH,cap',rfl,nM,x0,x1,x2,x3,hok',qw⟩,hrest⟩:=hrow';have hlt:k < h.idx.len:=by simp only [bf.len] at hlen; omega
    go_wp2_with fail;have hba:=au wr (.cells #[.int .i64 op',.int .i64 n',.string nm',.slice mH jg.len cap'] 105);refine (wL op' n' nm' jg _ _ _ hok' (qw.same hba) ((gV.o.same HU.o.1).same hba)).mono ?_;rintro e' w2 ⟨rfl,hb2⟩;have HB3:=ah (hba.trans (hb2.mono (by simp)));clear hba hb2 x0 x1 x2 x3 qw;cases hS:jP op' n' nm' jg
    ·rw [HE.o,ng,hS] at HS;go_wp2_with fail;go_ret;exact ⟨bP (HS.o.trans (by simp)).symm,(HU.o.next HB3.o).1⟩
    ·have HF:=ah (HE.o.trans (by rw [ng,hS]; rfl:oo (.cons op' n' nm' jg rest)=oo rest));go_wp2_with fail;go_roundw
     case rel=>exact ⟨k + 1,rest,by go_num,by simp only [bf.len] at hlen; omega,HF.o,hrest.same HB3.o,HU.o.next HB3.o⟩
     case measure=>simp [intOf]; omega
  | nil=>
    obtain rfl:k=h.idx.len:=by simpa [bf.len] using hlen
    rw [HE.o] at HS;clear HE hrow' hlen;obtain ⟨-,⟨-,c0⟩,⟨-,c1⟩,⟨-,c2⟩,⟨-,c3⟩,⟨-,c4⟩,⟨-,c5⟩,⟨-,c6⟩,⟨-,c7⟩,⟨-,c8⟩,⟨-,c9⟩,⟨-,c10⟩,⟨-,c11⟩,⟨-,c12⟩,⟨-,c13⟩,⟨-,c14⟩,⟨-,c15⟩,⟨-,c16⟩,-⟩:=HU.o;have hba:=gV.o.same HU.o.1;go_upto_region 12 with fail;go_cut [75] (fun s' W3=> ∃t,s'= .bool t∧(!t)=(if bX then jP h.dP h.xn h.dO h.aO else xk h.dP h.xn h.dO h.aO.len)∧Sit w W3 ((n2,0,.bool bN) ::(n2,1,.bool bA) ::(n2,2,.bool bI) ::(n2,3,.bool bX) ::(n2,4,.bool bB) ::(n2,5,.bool bE) ::yH w.heap.size h b e ⟨dw,bJ,dZ,dI,cK,aZ,fF,dX⟩ []))
    case first=>
     cases bX
     ·go_wp2_with fail;refine (OL _ _ _ _ _ _ _).mono ?_;rintro e' w3 ⟨rfl,hb3⟩;have HV:=ah (HU.o.next hb3);clear hb3;cases hq:xk h.dP h.xn h.dO h.aO.len
      all_goals go_wp2_with fail
      all_goals go_meet
      all_goals exact ⟨_,rfl,hq.symm,HV.o⟩
     ·go_wp2_with fail;refine (wL _ _ _ _ _ _ _ hxk (eX.o.same HU.o.1).2.2.1 hba).mono ?_;rintro e' w3 ⟨rfl,hb3⟩;have HV:=ah (HU.o.next hb3);clear hb3 HU c0 c1 c2 c3 c4 c5 c6 c7 c8 c9 c10 c11 c12 c13 c14 c15 c16;obtain ⟨-,⟨-,c0⟩,⟨-,c1⟩,⟨-,c2⟩,⟨-,c3⟩,⟨-,c4⟩,⟨-,c5⟩,⟨-,c6⟩,⟨-,c7⟩,⟨-,c8⟩,⟨-,c9⟩,⟨-,c10⟩,⟨-,c11⟩,⟨-,c12⟩,⟨-,c13⟩,⟨-,c14⟩,⟨-,c15⟩,⟨-,c16⟩,-⟩:=HV.o;cases hq:jP h.dP h.xn h.dO h.aO
      all_goals go_wp2_with fail
      all_goals go_meet
      all_goals exact ⟨_,rfl,hq.symm,HV.o⟩
    obtain ⟨t3,rfl,ht3,hX⟩:=hcut;have HV:=ah hX;have HT3:=ah ht3;clear hX ht3 HU hba c0 c1 c2 c3 c4 c5 c6 c7 c8 c9 c10 c11 c12 c13 c14 c15 c16;rw [<- HT3.o] at HS;clear HT3;cases t3
    case true=>go_wp2_with fail;go_ret;exact ⟨bP (HS.o.trans (by simp)).symm,HV.o.1⟩
    obtain ⟨-,⟨-,c0⟩,⟨-,c1⟩,⟨-,c2⟩,⟨-,c3⟩,⟨-,c4⟩,⟨-,c5⟩,⟨-,c6⟩,⟨-,c7⟩,⟨-,c8⟩,⟨-,c9⟩,⟨-,c10⟩,⟨-,c11⟩,⟨-,c12⟩,⟨-,c13⟩,⟨-,c14⟩,⟨-,c15⟩,⟨-,c16⟩,-⟩:=HV.o;go_upto_region 14 with fail;go_cut [95] (fun s' W3=>wc=W3∧ ∃t,s'= .bool t∧(!t)=((bB || decide ((b.len:Int)<=0)) && (bE || decide ((e.len:Int)<=0))))
    case first=>
     cases bB
     all_goals cases bE
     all_goals go_wp2_with fail
     all_goals go_meet
     all_goals exact ⟨rfl,_,rfl,by go_light; grind⟩
    obtain ⟨rfl,t4,rfl,ht4⟩:=hcut;have Tj:=ah ht4;rw [<- Tj.o] at HS;clear Tj ht4;cases t4
    case true=>go_wp2_with fail;go_ret;exact ⟨bP (HS.o.trans (by simp)).symm,HV.o.1⟩
    go_wp2_with fail;refine (yj b HIB.o _ _ _ aL6 (eX.o.same HV.o.1).2.2.2.1 (gV.o.same HV.o.1)).mono ?_;rintro e' w4 ⟨rfl,hb4⟩;have HA:=ah (HV.o.next hb4);clear hb4 HV c0 c1 c2 c3 c4 c5 c6 c7 c8 c9 c10 c11 c12 c13 c14 c15 c16;obtain ⟨-,⟨-,c0⟩,⟨-,c1⟩,⟨-,c2⟩,⟨-,c3⟩,⟨-,c4⟩,⟨-,c5⟩,⟨-,c6⟩,⟨-,c7⟩,⟨-,c8⟩,⟨-,c9⟩,⟨-,c10⟩,⟨-,c11⟩,⟨-,c12⟩,⟨-,c13⟩,⟨-,c14⟩,⟨-,c15⟩,⟨-,c16⟩,-⟩:=HA.o;cases hq:iK b
    ·rw [hq] at HS;go_wp2_with fail;go_ret;exact ⟨bP (HS.o.trans (by simp)).symm,HA.o.1⟩
    ·rw [hq] at HS;go_wp2_with fail;refine (yj e HIE.o _ _ _ aL8 (eX.o.same HA.o.1).2.2.2.2 (gV.o.same HA.o.1)).mono ?_;rintro e' w5 ⟨rfl,hb5⟩;go_wp2_with fail;go_ret;exact ⟨bP (HS.o.trans (by simp [oo])).symm,(HA.o.next hb5).1⟩
theorem K8 (l:aJ) (w:World) (ao:Option Addr) (cap:Nat) (hl:l.len<=maxLen) (hat:l.At w w.heap.size ao 0) (dH:cB w):
 Calls Tryz.prog 78 #[.slice ao l.len cap] w fun e' w'=>e'= .returned (.bool (iK l))∧Below w.heap.size w w':=
 yj l (aJ.mU Ji l) w ao cap hl hat dH
theorem R4 (p:Pr) (w:World) (aG aH:Option Addr) (aB aD:Nat) (hp:p.At w aG aH) (dH:cB w):
 Calls Tryz.prog 51 #[.agg #[.slice aG p.ds.length aB,.slice aH p.ts.length aD]] w fun e w'=>e= .returned (.bool (wU p))∧Below w.heap.size w w':=by
 have HS:aj (wU p=((p.ds.all lM && p.ts.all wV) && decide ((0:Int) < p.ts.length))):=ah rfl;generalize wU p=res at *;have hld:=hp.1;have hlt:=hp.2.1;unfold maxLen at hld hlt;have HP:=ah hp;have gV:=ah dH;clear hp dH;go_enter Tryz.func51,Tryz.ntmps51;go_upto_region 1 with fail;generalize hW:World.alloc w _=W;generalize Value.agg #[_,_]=a0;have HX:=ah ((Sit.start w).JI rfl (.slice aG p.ds.length aB) (.slice aH p.ts.length aD) 38);rw [hW] at HX;clear hW;obtain ⟨-,⟨-,c0⟩,⟨-,c1⟩,-⟩:=HX.o;have hde:=(HP.o.same HX.o.1).2.2.1;go_wp2_with fail;go_loopw [4,12] (fun _ s wr=> ∃(k:Nat) (R:List De),s= .int .i64 k∧k + R.length=p.ds.length∧p.ds.all lM=R.all lM∧gQ wr wr.heap.size R aG k∧Sit w wr [(w.heap.size,0,(.slice aG p.ds.length aB)),(w.heap.size,1,(.slice aH p.ts.length aD))]) (fun _ s _=>p.ds.length - (intOf s).toNat)
 case atStart=>exact ⟨0,p.ds,rfl,by simp,rfl,hde,HX.o⟩
 case round=>
  obtain ⟨k,R,rfl,hlen,heq,hrow,hsit⟩:=hrel;have HZ:=ah hsit;have HE:=ah heq;clear hsit HX c0 c1 hde heq;cases R with
  | cons d R=>
    obtain ⟨⟨b,off,rfl,hB,x0,x1,x2,x3,x4,x5,hok⟩,hrest⟩:=hrow;simp only [List.length_cons] at hlen;have hkl:k < p.ds.length:=by omega
    have qG:=ah hok;clear hok;go_wp2_with fail;have hba:=au wr (.cells #[.int .i64 d.kind,.int .i64 d.line,.string d.nm,.int .i64 d.size,.int .i64 d.init,.string d.on] 86);refine (K7 d _ ((gV.o.same HZ.o.1).same hba) qG.o).mono ?_;rintro e' w2 ⟨rfl,hb2⟩;have HB3:=ah (hba.trans (hb2.mono (by simp)));clear hba hb2 x0 x1 x2 x3 x4 x5;cases hS:lM d
    ·rw [HE.o,List.all_cons,hS] at HS;go_wp2_with fail;go_ret;exact ⟨bP (HS.o.trans (by simp)).symm,(HZ.o.next HB3.o).1⟩
    ·have HF:=ah (HE.o.trans (by rw [List.all_cons,hS]; rfl:_=R.all lM));go_wp2_with fail;go_roundw
     case rel=>exact ⟨k + 1,R,by go_num,by omega,HF.o,hrest.same HB3.o,HZ.o.next HB3.o⟩
     case measure=>simp [intOf]; omega
  | nil=>
    obtain rfl:k=p.ds.length:=by simpa using hlen
    rw [HE.o] at HS;obtain ⟨-,⟨-,c0⟩,⟨-,c1⟩,-⟩:=HZ.o;have hth:=(HP.o.same HZ.o.1).2.2.2;clear HE hrow hlen;go_wp2_with fail;go_loopw [6,8,23,31,32,33,34,35] (fun _ _ s _ _ _ _ _ wr=> ∃(k:Nat) (R:List Th),s= .int .i64 k∧k + R.length=p.ts.length∧p.ts.all wV=R.all wV∧gF wr wr.heap.size R aH k∧Sit w wr [(w.heap.size,0,(.slice aG p.ds.length aB)),(w.heap.size,1,(.slice aH p.ts.length aD))]) (fun _ _ s _ _ _ _ _ _=>p.ts.length - (intOf s).toNat)
    case atStart=>exact ⟨0,p.ts,rfl,by simp,rfl,hth,HZ.o⟩
    case round=>
     obtain ⟨k,R,rfl,hlen,heq,hrow,hsit⟩:=hrel;have HU:=ah hsit;have HE:=ah heq;clear hsit HZ c0 c1 hth heq;cases R with
     | nil=>obtain rfl:k=p.ts.length:=(by simpa using hlen);rw [HE.o] at HS;obtain ⟨-,⟨-,c0⟩,⟨-,c1⟩,-⟩:=HU.o;go_wp2_with fail;go_ret;exact ⟨bP (HS.o.trans (by simp)).symm,HU.o.1⟩
     | cons t R=>
       obtain ⟨⟨b,off,eZ,dM,cK,aZ,rfl,hB,x0,x1,x2,x3,hok,htx,hst⟩,hrest⟩:=hrow;simp only [List.length_cons] at hlen;have hkl:k < p.ts.length:=(by omega);have hll:=hok.2.2.1;have qG:=ah hok;have BR:=ah htx;have HST:=ah hst;unfold maxLen at hll;clear hok htx hst;go_upto_region 10 with fail;obtain ⟨n2,hn2⟩: ∃n,wr.heap.size=n:=⟨_,rfl⟩;generalize hW2:World.alloc wr _=W2;have HB2:aj (Below wr.heap.size wr W2):=ah (by rw [<- hW2]; exact au _ _);have HV:aj (Sit w W2 ((n2,0,.string t.nm) ::(n2,1,.int .i64 t.line) ::(n2,2,.slice eZ t.cu.length dM) ::(n2,3,.slice cK t.body.len aZ) ::[(w.heap.size,0,(.slice aG p.ds.length aB)),(w.heap.size,1,(.slice (some ⟨b,off,none⟩) p.ts.length aD))])):=ah (by rw [<- hW2]; exact HU.o.Gj hn2 _ _ _ _ _);rw [hn2];clear hW2 hn2 x0 x1 x2 x3;obtain ⟨-,⟨-,c0⟩,⟨-,c1⟩,⟨-,c2⟩,⟨-,c3⟩,⟨-,c4⟩,⟨-,c5⟩,-⟩:=HV.o;go_wp2_with fail;refine (uO _ _ (gV.o.same HV.o.1) qG.o.1).mono ?_;rintro e' w3 ⟨rfl,hb3⟩;have HB3:=ah hb3;have HA:=ah (HV.o.next hb3);clear hb3 HV c0 c1 c2 c3 c4 c5;obtain ⟨-,⟨-,c0⟩,⟨-,c1⟩,⟨-,c2⟩,⟨-,c3⟩,⟨-,c4⟩,⟨-,c5⟩,-⟩:=HA.o;cases hN:Tk.iO t.nm.data.toList
       ·rw [HE.o,List.all_cons,show wV t=false by unfold wV; rw [hN]; rfl] at HS;go_wp2_with fail;go_ret;exact ⟨bP (HS.o.trans (by simp)).symm,HA.o.1⟩
       ·have hrow:=BR.o.same (HB2.o.trans (HB3.o.mono HB2.o.size));have E5:=ah (HB2.o.trans (HB3.o.mono HB2.o.size));clear HB2 HB3;go_wp2_with fail;obtain ⟨wo,rfl⟩: ∃wo:World,wo=wr:=⟨_,rfl⟩;go_loopw [8,34] (fun _ s wr=> ∃(k:Nat) (R:List ByteArray),s= .int .i64 k∧k + R.length=t.cu.length∧t.cu.all (fun s=>Tk.iO s.data.toList)=R.all (fun s=>Tk.iO s.data.toList)∧dU wr wr.heap.size R eZ k∧Below wo.heap.size wo wr∧Sit w wr ((n2,0,.string t.nm) ::(n2,1,.int .i64 t.line) ::(n2,2,.slice eZ t.cu.length dM) ::(n2,3,.slice cK t.body.len aZ) ::[(w.heap.size,0,(.slice aG p.ds.length aB)),(w.heap.size,1,(.slice (some ⟨b,off,none⟩) p.ts.length aD))])) (fun _ s _=>t.cu.length - (intOf s).toNat)
        case atStart=>exact ⟨0,t.cu,rfl,by simp,rfl,hrow,E5.o,HA.o⟩
        case round=>
         obtain ⟨k',R',rfl,hlen',heq',hrow',hbo,YD⟩:=hrel;have HC:=ah YD;have SL:=ah hbo;have dV:=ah heq';clear YD HA c0 c1 c2 c3 c4 c5 hrow heq' hbo E5;cases R' with
         | cons s R'=>
           obtain ⟨⟨b',off',rfl,hB',y0,hs⟩,hrest'⟩:=hrow';simp only [List.length_cons] at hlen';have hkl':k' < t.cu.length:=(by omega);go_wp2_with fail;refine (uO _ _ (gV.o.same HC.o.1) hs).mono ?_;rintro e' w3 ⟨rfl,hb3⟩;have dG:=ah hb3;clear hb3;cases Ud:Tk.iO s.data.toList
           ·rw [HE.o,List.all_cons,show wV t=false by unfold wV; rw [dV.o,List.all_cons,Ud]; simp] at HS;go_wp2_with fail;go_ret;exact ⟨bP (HS.o.trans (by simp)).symm,(HC.o.next dG.o).1⟩
           ·have HF:=ah (dV.o.trans (by rw [List.all_cons,Ud]; rfl:_=R'.all (fun s=>Tk.iO s.data.toList)));go_wp2_with fail;go_roundw
            case rel=>exact ⟨k' + 1,R',by go_num,by omega,HF.o,hrest'.same dG.o,SL.o.trans (dG.o.mono SL.o.size),HC.o.next dG.o⟩
            case measure=>simp [intOf]; omega
         | nil=>
           obtain rfl:k'=t.cu.length:=(by simpa using hlen');obtain ⟨-,⟨-,c0⟩,⟨-,c1⟩,⟨-,c2⟩,⟨-,c3⟩,⟨-,c4⟩,⟨-,c5⟩,-⟩:=HC.o;go_wp2_with fail;refine (K8 t.body _ _ _ qG.o.2.2.2 (HST.o.1.same SL.o) (gV.o.same HC.o.1)).mono ?_;rintro e' w3 ⟨rfl,hb3⟩;have dG:=ah hb3;clear hb3;have HT:aj (wV t=iK t.body):=ah (by unfold wV; rw [hN,dV.o]; rfl);cases Ud:iK t.body
           ·rw [HE.o,List.all_cons,HT.o,Ud] at HS;go_wp2_with fail;go_ret;exact ⟨bP (HS.o.trans (by simp)).symm,(HC.o.next dG.o).1⟩
           ·have HF:=ah (HE.o.trans (by rw [List.all_cons,HT.o,Ud]; rfl:_=R.all wV));have HBQ:=ah (SL.o.trans (dG.o.mono SL.o.size));have HSQ:=ah (HU.o.next HBQ.o);go_wp2_with fail;go_roundw
            case rel=>exact ⟨k + 1,R,by go_num,by omega,HF.o,hrest.same HBQ.o,HSQ.o⟩
            case measure=>simp [intOf]; omega
end Go.Proofs.YtgjmahnblcajbaaGreatDoor
