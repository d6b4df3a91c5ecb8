/- Contracts of parse.operands, nameOrEmpty, ShapedExpr. And what hangs on it. -/
import Derived.Test.YtkajcclnlehkmaaGreatDoorGMA
import Derived.Test.YtkajcclnlehkmaaGreatDoorGNA
set_option linter.unusedSimpArgs false
set_option linter.unusedVariables false
set_option maxHeartbeats 40000000
set_option maxRecDepth 1000000
namespace Go.Proofs.YtkajcclnlehkmaaGreatDoor
open Go.RowKit
open Md
theorem mZ (op:Int) (w:World):
 Calls Tryz.prog 34 #[.int .i64 op] w fun e w'=>e= .returned (.int .i64 (opsOf op))∧w=w':=by
 unfold opsOf;go_enter Tryz.func34,Tryz.ntmps34;go_wp2
 all_goals go_ret
 all_goals refine ⟨zP ?_,rfl⟩
 all_goals first | (simp [*]; done) | ((repeat' split) <;> simp_all <;> omega)
theorem kP (s:ByteArray) (b:Bool) (w:World) (gK:dx w) (hm:s.size<=maxLen):
 Calls Tryz.prog 23 #[.string s,.bool b] w fun e w'=>e= .returned (.bool (dV s b))∧Below w.heap.size w w':=by
 cases b
 ·go_enter Tryz.func23,Tryz.ntmps23;go_wp2;go_ret;exact ⟨by simp [dV,Lib.toList_data],Below.refl _ _⟩
 ·go_enter Tryz.func23,Tryz.ntmps23;go_wp2_with (go_at_call 14; refine (oZ _ _ gK hm).mono ?_; rintro e w' ⟨rfl,hb⟩);go_ret;exact ⟨rfl,hb⟩
theorem Cv (op:Int) (w:World):
 Calls Tryz.prog 37 #[.int .i64 op] w fun e w'=>e= .returned (.tuple #[.agg #[.bool (fN op),.bool (fA op),.bool (fI op),.bool (fX op),.bool (fB op),.bool (fE op)],.bool (fO op)])∧Below w.heap.size w w':=by
 have hop:op=1∨op=2∨op=3∨op=4∨op=5∨op=6∨op=7∨op=8∨op=9∨op=10∨op=11∨op=12∨op=13∨op=14∨op=15∨(op < 1∨15 < op):=by omega
 rcases hop with rfl | rfl | rfl | rfl | rfl | rfl | rfl | rfl | rfl | rfl | rfl | rfl | rfl | rfl | rfl | hop
 case inr.inr.inr.inr.inr.inr.inr.inr.inr.inr.inr.inr.inr.inr.inr=>
  have e1:fN op=false:=by unfold fN; grind
  have e2:fA op=false:=by unfold fA; grind
  have e3:fI op=false:=by unfold fI; grind
  have e4:fX op=false:=by unfold fX; grind
  have e5:fB op=false:=by unfold fB; grind
  have e6:fE op=false:=by unfold fE; grind
  have e7:fO op=false:=by unfold fO; grind
  rw [e1,e2,e3,e4,e5,e6,e7];clear e1 e2 e3 e4 e5 e6 e7;have g1:(op == 1)=false:=by rw [beq_eq_false_iff_ne]; omega
  have g2:(op == 2)=false:=by rw [beq_eq_false_iff_ne]; omega
  have g3:(op == 3)=false:=by rw [beq_eq_false_iff_ne]; omega
  have g4:(op == 4)=false:=by rw [beq_eq_false_iff_ne]; omega
  have g5:(op == 5)=false:=by rw [beq_eq_false_iff_ne]; omega
  have g6:(op == 6)=false:=by rw [beq_eq_false_iff_ne]; omega
  have g7:(op == 7)=false:=by rw [beq_eq_false_iff_ne]; omega
  have g8:(op == 8)=false:=by rw [beq_eq_false_iff_ne]; omega
  have g9:(op == 9)=false:=by rw [beq_eq_false_iff_ne]; omega
  have g10:(op == 10)=false:=by rw [beq_eq_false_iff_ne]; omega
  have g11:(op == 11)=false:=by rw [beq_eq_false_iff_ne]; omega
  have g12:(op == 12)=false:=by rw [beq_eq_false_iff_ne]; omega
  have g13:(op == 13)=false:=by rw [beq_eq_false_iff_ne]; omega
  have g14:(op == 14)=false:=by rw [beq_eq_false_iff_ne]; omega
  have g15:(op == 15)=false:=by rw [beq_eq_false_iff_ne]; omega
  clear hop;go_enter Tryz.func37,Tryz.ntmps37;go_wp2;exact bodyPost_ret (v:= .tuple #[.agg #[.bool _,.bool _,.bool _,.bool _,.bool _,.bool _],.bool _]) (by simp [results,Tryz.results37,go_sem]) rfl ⟨rfl,ak _ _⟩
 all_goals go_enter Tryz.func37,Tryz.ntmps37;go_wp2;exact bodyPost_ret (v:= .tuple #[.agg #[.bool _,.bool _,.bool _,.bool _,.bool _,.bool _],.bool _]) (by simp [results,Tryz.results37,go_sem]; decide) rfl ⟨rfl,ak _ _⟩
theorem Dt (op n:Int) (nm:ByteArray) (len cap:Nat) (ao:Option Addr) (w:World):
 Calls Tryz.prog 38 #[.agg #[.int .i64 op,.int .i64 n,.string nm,.slice ao len cap]] w fun e w'=>e= .returned (.bool (jB op n nm len))∧Below w.heap.size w w':=by
 have HE:aj (jB op n nm len=(((decide (op=0) && decide (n=0)) && decide (nm.toList=[])) && decide (len=0))):=ah (by unfold jB; rw [Bool.eq_iff_iff]; simp);go_enter Tryz.func38,Tryz.ntmps38;go_wp2
 all_goals go_ret
 all_goals refine ⟨aI ?_,ak _ _⟩
 all_goals rw [HE.o]
 all_goals (go_light; grind)
theorem zR (d:De) (w:World) (gK:dx w) (hok:d.Ok):
 Calls Tryz.prog 13 #[.agg #[.int .i64 d.kind,.int .i64 d.line,.string d.nm,.int .i64 d.size,.int .i64 d.init,.string d.on]] w fun e w'=>e= .returned (.bool (gu d))∧Below w.heap.size w w':=by
 obtain ⟨⟨k1,k2⟩,-,hm,-,-,ho⟩:=hok;obtain ⟨kind,line,nm,size,init,on⟩:=d;have HE:aj (gu ⟨kind,line,nm,size,init,on⟩=((((decide (1<=kind) && decide (kind<=6)) && Tk.cO nm.data.toList) && (decide (0<=size) && (decide (size=0) || decide (kind=1)))) && ((!decide (init= -9223372036854775808) && (decide (init=0) || (decide (kind=1) || decide (kind=2)))) && dV on (kind == 5)))):=ah (by unfold gu; simp only [bne]; rw [Bool.eq_iff_iff]; simp);dsimp only at *;generalize gu ⟨kind,line,nm,size,init,on⟩=res at *;go_enter Tryz.func13,Tryz.ntmps13;go_upto_region 1 with fail;generalize hW:World.alloc w _=W;generalize Value.agg #[_,_,_,_,_,_]=a0;have HX:=ah ((Sit.start w).Ji rfl (.int .i64 kind) (.int .i64 line) (.string nm) (.int .i64 size) (.int .i64 init) (.string on) 42);rw [hW] at HX;clear hW;obtain ⟨-,⟨-,c0⟩,⟨-,c1⟩,⟨-,c2⟩,⟨-,c3⟩,⟨-,c4⟩,⟨-,c5⟩,-⟩:=HX.o;go_cut [16] (fun s W2=> ∃b,s= .bool b∧(!b)=((decide (1<=kind) && decide (kind<=6)) && Tk.cO nm.data.toList)∧Sit w W2 [(w.heap.size,0,.int .i64 kind),(w.heap.size,1,.int .i64 line),(w.heap.size,2,.string nm),(w.heap.size,3,.int .i64 size),(w.heap.size,4,.int .i64 init),(w.heap.size,5,.string on)])
 case first=>
  go_wp2_with (go_at_call 14; refine (oZ _ _ (gK.same HX.o.1) hm).mono ?_; rintro e w' ⟨rfl,hb⟩)
  all_goals go_meet
  all_goals first | exact ⟨_,rfl,by go_light; grind,HX.o.next ‹_›⟩ | exact ⟨_,rfl,by go_light; grind,HX.o⟩
 obtain ⟨b1,rfl,hb1,hX⟩:=hcut;have HY:=ah hX;have HB1:=ah hb1;clear hX HX hb1 c0 c1 c2 c3 c4 c5;obtain ⟨-,⟨-,c0⟩,⟨-,c1⟩,⟨-,c2⟩,⟨-,c3⟩,⟨-,c4⟩,⟨-,c5⟩,-⟩:=HY.o;cases b1
 ·cases h5:(kind == 5)
  all_goals rw [h5] at HE;go_wp2_with (go_at_call 23; refine (kP _ _ _ (gK.same HY.o.1) ho).mono ?_; rintro e w' ⟨rfl,hb⟩)
  all_goals go_ret
  all_goals first | refine ⟨aI ?_,(HY.o.next ‹_›).1⟩ | refine ⟨aI ?_,HY.o.1⟩
  all_goals rw [HE.o,<- HB1.o]
  all_goals (go_light; grind)
 ·go_wp2_with fail;go_ret;refine ⟨aI ?_,HY.o.1⟩;rw [HE.o,<- HB1.o]; rfl
def vY (op n:Int) (nm:ByteArray) (kids:aG):Prop:=
 ∀(w:World) (ao:Option Addr) (cap:Nat),lZ op n nm kids->kids.At w w.heap.size ao 0->dx w->
  Calls Tryz.prog 21 #[.agg #[.int .i64 op,.int .i64 n,.string nm,.slice ao kids.len cap]] w fun e w'=>e= .returned (.bool (fT op n nm kids))∧Below w.heap.size w w'
theorem K3 {op n:Int} {nm:ByteArray} {kids:aG} (h:((kids.len:Int) == opsOf op)=false):fT op n nm kids=false:=by unfold fT rR; rw [h]; rfl
theorem II {op n:Int} {nm:ByteArray} {kids:aG} (h:n < 0∨((n == 0)=false∧(op == 1)=false)):fT op n nm kids=false:=by
 unfold fT rR;rcases h with h | ⟨h,h'⟩
 ·rw [decide_eq_true h]; simp
 ·rw [h,h']; simp
theorem Mw {op n:Int} {nm:ByteArray} {kids:aG} {b:Bool} (hb:named op=b) (h:dV nm b=false):fT op n nm kids=false:=by
 unfold fT rR; rw [hb,h]; simp
theorem K4 {op n:Int} {nm:ByteArray} {kids:aG} {b:Bool} (h1:((kids.len:Int) == opsOf op)=true) (h2:0<=n) (h3:(n == 0)=true∨(op == 1)=true) (hb:named op=b) (h:dV nm b=true):fT op n nm kids=fD kids:=by
 unfold fT rR; rw [hb,h,h1,decide_eq_false (by omega)];rcases h3 with h3 | h3 <;> rw [h3] <;> simp
theorem LW (op n:Int):(n < 0)∨(0 < n∧op≠1)∨
 ∃b,named op=b∧0<=n∧((n == 0)=true∨(op == 1)=true)∧
  ((0 < n∧op=1∧b=false)∨(n=0∧op=2∧b=true)∨(n=0∧op=3∧b=true)∨(n=0∧(op == 2)=false∧(op == 3)=false∧b=false)):=by
 by_cases h:n < 0
 ·exact Or.inl h
 ·by_cases h0:n=0
  ·subst h0;by_cases h2:op=2
   ·subst h2; exact Or.inr (Or.inr ⟨true,rfl,by omega,Or.inl rfl,by simp⟩)
   ·by_cases h3:op=3
    ·subst h3; exact Or.inr (Or.inr ⟨true,rfl,by omega,Or.inl rfl,by simp⟩)
    ·exact Or.inr (Or.inr ⟨false,by simp [named,h2,h3],by omega,Or.inl rfl,by simp [h2,h3]⟩)
  ·by_cases h1:op=1
   ·subst h1; exact Or.inr (Or.inr ⟨false,rfl,by omega,Or.inr rfl,by simp; omega⟩)
   ·exact Or.inr (Or.inl ⟨by omega,h1⟩)
theorem lg (op n:Int) (nm:ByteArray) (kids rest:aG):fD (.cons op n nm kids rest)=(fT op n nm kids && fD rest):=rfl
def Ej (kids R:aG) (k:Nat):Prop:=k + R.len=kids.len∧fD kids=fD R
theorem yC (op n:Int) (nm:ByteArray) (kids:aG) (ih:kids.All vY):vY op n nm kids:=by
 intro w ao cap hok hat gK;obtain ⟨⟨o1,o2⟩,⟨n1,n2⟩,hm,hl⟩:=hok;unfold maxLen at hl;have hl':kids.len<=9223372036854775807:=hl;rcases LW op n with hn | ⟨hn,q1⟩ | ⟨b,hb,hn,hor,hq⟩
 ·have HR:=ah (II (nm:=nm) (kids:=kids) (op:=op) (Or.inl hn));go_enter Tryz.func21,Tryz.ntmps21;go_wp2_with fail;generalize hW:World.alloc w _=W;have HX:=ah (lN.mk hW);clear hW;obtain ⟨-,-,c0,c1,c2,c3⟩:=HX.o;go_quiet (first | (go_at_call 34; refine tO (mZ _ _)));go_wp2_with fail
  all_goals go_ret
  all_goals exact ⟨aI HR.o.symm,(HX.o.draws _).1⟩
 ·have HR:=ah (II (nm:=nm) (kids:=kids) (Or.inr ⟨beq_eq_false_iff_ne.2 (show n≠0 by omega),beq_eq_false_iff_ne.2 q1⟩));have q1':(op != 1)=true:=bne_iff_ne.2 q1;have UQ:(n != 0)=true:=bne_iff_ne.2 (by omega);go_enter Tryz.func21,Tryz.ntmps21;go_wp2_with fail;generalize hW:World.alloc w _=W;have HX:=ah (lN.mk hW);clear hW;obtain ⟨-,-,c0,c1,c2,c3⟩:=HX.o;go_quiet (first | (go_at_call 34; refine tO (mZ _ _)));go_wp2_with fail
  all_goals go_ret
  all_goals exact ⟨aI HR.o.symm,(HX.o.draws _).1⟩
 ·by_cases h1:((kids.len:Int) == opsOf op)=false
  ·have HR:=ah (K3 (n:=n) (nm:=nm) h1);have h1':((kids.len:Int) != opsOf op)=true:=by unfold bne; rw [h1]; rfl
   go_enter Tryz.func21,Tryz.ntmps21;go_wp2_with fail;generalize hW:World.alloc w _=W;have HX:=ah (lN.mk hW);clear hW;obtain ⟨-,-,c0,c1,c2,c3⟩:=HX.o;go_quiet (first | (go_at_call 34; refine tO (mZ _ _)));go_wp2_with fail;go_ret;exact ⟨aI HR.o.symm,(HX.o.draws _).1⟩
  ·have h1':((kids.len:Int) == opsOf op)=true:=by simpa using h1
   clear h1;have HY:=ah (fun h:dV nm b=true=>K4 h1' hn hor hb h);have HN:=ah (fun h:dV nm b=false=>Mw (n:=n) (kids:=kids) hb h);clear hb hor;have HAT:=ah hat;have jk:=ah ih;clear hat ih;have Ur:((kids.len:Int) != opsOf op)=false:=by unfold bne; rw [h1']; rfl
   clear h1';rcases hq with ⟨q0,rfl,rfl⟩ | ⟨rfl,rfl,rfl⟩ | ⟨rfl,rfl,rfl⟩ | ⟨rfl,q2,q3,rfl⟩
   all_goals go_enter Tryz.func21,Tryz.ntmps21;go_wp2_with fail;generalize hW:World.alloc w _=W;have HX:=ah (lN.mk hW);clear hW;obtain ⟨-,-,c0,c1,c2,c3⟩:=HX.o;go_quiet (first | (go_at_call 34; refine tO (mZ _ _)));have BZ:=ah (HX.o.draws nq);clear HX c0 c1 c2 c3;generalize W.drewN nq=wq at *;obtain ⟨-,-,c0,c1,c2,c3⟩:=BZ.o;go_wp2_with fail;refine (kP _ _ _ (gK.same BZ.o.1) hm).mono ?_;rintro e w1 ⟨rfl,hb1⟩;have HZ:=ah (BZ.o.next hb1);clear hb1 BZ c0 c1 c2 c3;obtain ⟨-,-,c0,c1,c2,c3⟩:=HZ.o
   all_goals
    cases hN:dV nm _
    ·have HR:=ah (HN.o hN);clear HN HY;go_wp2_with fail;go_ret;exact ⟨aI HR.o.symm,HZ.o.1⟩
    ·have HR:=ah (HY.o hN);clear HN HY;go_wp2_with fail;go_loopw [40] (fun i wr=> ∃k R,i= .int .i64 (k:Nat)∧Ej kids R k∧R.All vY∧R.At wr wr.heap.size ao k∧lN w wr (Value.int IntKind.i64 _) (Value.int IntKind.i64 _) (Value.string nm) (Value.slice ao kids.len cap)) (fun i _=>kids.len - (intOf i).toNat)
     case atStart=>exact ⟨0,kids,rfl,⟨Nat.zero_add _,rfl⟩,jk.o,HAT.o.same HZ.o.1,HZ.o⟩
     case round=>
      obtain ⟨k,R,rfl,⟨hlen,heq⟩,hall,hrow,oI⟩:=hrel;have HT:=ah (HR.o.trans heq);cases R with
      | nil=>obtain rfl:k=kids.len:=(by simpa [aG.len] using hlen);go_wp2_with fail;go_ret;exact ⟨aI HT.o.symm,oI.1⟩
      | cons op' n' nm' bM rest=>
        obtain ⟨⟨b,off,dY,cap',rfl,EA,x0,x1,x2,x3,hok',mX⟩,hrest⟩:=hrow;obtain ⟨xK,tC⟩:=hall;have hlt:k < kids.len:=(by simp only [aG.len] at hlen; omega);go_wp2_with fail;have hba:=(Below.refl wr.heap.size wr).alloc (Nat.le_refl _) (.cells #[.int .i64 op',.int .i64 n',.string nm',.slice dY bM.len cap'] 57);refine (xK _ _ _ hok' (mX.same hba) ((gK.same oI.1).alloc _)).mono ?_;rintro e w2 ⟨rfl,hb2⟩;have hb3:=hba.trans (hb2.mono (by simp));have iM:=ah (oI.next hb3);have hrest':=hrest.same hb3;clear hba hb2 hb3 oI hrest x0 x1 x2 x3 c0 c1 c2 c3 mX;cases hS:fT op' n' nm' bM
        ·have HF:=ah (HT.o.trans (by rw [lg,hS]; rfl:fD (.cons op' n' nm' bM rest)=false));go_wp2_with fail;go_ret;exact ⟨aI HF.o.symm,iM.o.1⟩
        ·have HF:=ah (heq.trans (by rw [lg,hS]; rfl:fD (.cons op' n' nm' bM rest)=fD rest));go_wp2_with fail;go_roundw
         case rel=>exact ⟨k + 1,rest,by go_num,⟨by simp only [aG.len] at hlen; omega,HF.o⟩,tC,hrest',iM.o⟩
         case measure=>simp [intOf]; omega
theorem nM (op n:Int) (nm:ByteArray) (kids:aG):vY op n nm kids:=aG.D5 yC op n nm kids
def sw (h:bD) (b e:aL):Prop:=
 ∀(w:World) (s:Sl),zy w h b e s->dx w->
  Calls Tryz.prog 25 #[eY h b e s] w fun e' w'=>e'= .returned (.bool (mE h b e))∧Below w.heap.size w w'
theorem oJ (l:aL) (hall:l.All sw) (w:World) (ao:Option Addr) (cap:Nat) (hl:l.len<=maxLen) (hat:l.At w w.heap.size ao 0) (gK:dx w):
 Calls Tryz.prog 15 #[.slice ao l.len cap] w fun e' w'=>e'= .returned (.bool (dX l))∧Below w.heap.size w w':=by
 unfold maxLen at hl;go_enter Tryz.func15,Tryz.ntmps15;go_wp2_with fail;go_loopw [4,7] (fun _ s wr=> ∃(k:Nat) (R:aL),s= .int .i64 k∧k + R.len=l.len∧dX l=dX R∧R.All sw∧R.At wr wr.heap.size ao k∧Below w.heap.size w wr) (fun _ s _=>l.len - (intOf s).toNat)
 case atStart=>exact ⟨0,l,rfl,by simp,rfl,hall,hat,Below.refl _ _⟩
 case round=>
  obtain ⟨k,R,rfl,hlen,heq,tC,hrow,hB⟩:=hrel;have HE:=ah heq;clear heq;cases R with
  | nil=>
    obtain rfl:k=l.len:=by simpa [aL.len] using hlen
    go_wp2_with fail;go_ret;exact ⟨aI HE.o.symm,hB⟩
  | cons h b e R=>
    obtain ⟨bl,off,s,rfl,hbl,hin,x0,x1,x2,x3,x4,x5,x6,x7,x8,x9,x10,hrest⟩:=aL.At.head hrow;obtain ⟨xK,Cz⟩:=tC;have hkl:k < l.len:=by simp only [aL.len] at hlen; omega
    clear hrow;go_wp2_with fail;have hba:=ak wr (.cells #[.int .i64 h.op,.int .i64 h.line,.string h.nm,.string h.arg,.slice s.eT h.idx.len s.dO,.int .i64 h.iJ,.int .i64 h.xn,.string h.iP,.slice s.eZ h.dn.len s.dS,.slice s.bg b.len s.aU,.slice s.fG e.len s.dZ] 59);refine (xK _ s (hin.same hba) (gK.same (hB.trans (hba.mono hB.size)))).mono ?_;rintro e' w2 ⟨rfl,hb2⟩;have HB3:=ah (hba.trans (hb2.mono (by simp)));clear hba hb2 x0 x1 x2 x3 x4 x5 x6 x7 x8 x9 x10 hin;cases hS:mE h b e
    ·have HF:=ah (HE.o.trans (by rw [pJ,hS]; rfl:dX (.cons h b e R)=false));go_wp2_with fail;go_ret;exact ⟨aI HF.o.symm,hB.trans (HB3.o.mono hB.size)⟩
    ·have HF:=ah (HE.o.trans (by rw [pJ,hS]; rfl:dX (.cons h b e R)=dX R));go_wp2_with fail;go_roundw
     case rel=>exact ⟨k + 1,R,by go_num,by simp only [aL.len] at hlen; omega,HF.o,Cz,hrest.same HB3.o,hB.trans (HB3.o.mono hB.size)⟩
     case measure=>simp [intOf]; omega
theorem zf (h:bD) (b e:aL) (ihb:b.All sw) (I7:e.All sw):sw h b e:=by
 intro w s hin gK;obtain ⟨eT,dO,eZ,dS,bg,aU,fG,dZ⟩:=s;have HS:aj (mE h b e=((((fO h.op && (dV h.nm (fN h.op) && dV h.arg (fA h.op))) && ((decide ((h.idx.len:Int)<=1) && (!decide ((h.idx.len:Int)=1) || fI h.op)) && fD h.idx)) &&
  ((if fX h.op then fT h.iJ h.xn h.iP h.dn else jB h.iJ h.xn h.iP h.dn.len) && ((fB h.op || decide ((b.len:Int)<=0)) && (fE h.op || decide ((e.len:Int)<=0))))) && (dX b && dX e))):=ah (by
  unfold mE kQ; rw [ED,EC,wh,wh])
 generalize mE h b e=res at *;have kM:=ah hin;have kF:=ah gK;have Nf:=ah ihb;have Ng:=ah I7;obtain ⟨⟨⟨o1,o2⟩,-,hm,ha,hil,hxk,hbl,hel⟩,-⟩:=hin;clear gK ihb I7;have SY:=hil;have Jq:=hbl;have Jr:=hel;have hxl:=hxk.2.2.2;unfold maxLen at hil hbl hel hxl;unfold eY;dsimp only;go_enter Tryz.func25,Tryz.ntmps25;go_upto_region 1 with fail;generalize hW:World.alloc w _=W;generalize Value.agg #[_,_,_,_,_,_,_,_,_,_,_]=a0;have HX:aj (Sit w W (wY w.heap.size h b e ⟨eT,dO,eZ,dS,bg,aU,fG,dZ⟩ [])):=ah (by rw [<- hW]; exact (Sit.start w).KT rfl _ _ _ _ _ _ _ _ _ _ _ _);clear hW;obtain ⟨-,⟨-,c0⟩,⟨-,c1⟩,⟨-,c2⟩,⟨-,c3⟩,⟨-,c4⟩,⟨-,c5⟩,⟨-,c6⟩,⟨-,c7⟩,⟨-,c8⟩,⟨-,c9⟩,⟨-,c10⟩,-⟩:=HX.o;go_upto_region 2 with (go_at_call 37; refine (Cv _ _).mono ?_; rintro e' w1 ⟨rfl,hb1⟩);have HB1:=ah hb1;clear hb1;generalize fN h.op=bN at *;generalize fA h.op=bA at *;generalize fI h.op=bI at *;generalize fX h.op=bX at *;generalize fB h.op=bB at *;generalize fE h.op=bE at *;generalize fO h.op=bO at *;obtain ⟨n2,hn2⟩: ∃n,w1.heap.size=n:=⟨_,rfl⟩;generalize hW2:World.alloc w1 _=W2;have HY:aj (Sit w W2 ((n2,0,.bool bN) ::(n2,1,.bool bA) ::(n2,2,.bool bI) ::(n2,3,.bool bX) ::(n2,4,.bool bB) ::(n2,5,.bool bE) ::wY w.heap.size h b e ⟨eT,dO,eZ,dS,bg,aU,fG,dZ⟩ [])):=ah (by rw [<- hW2]; exact (HX.o.next HB1.o).Ji hn2 _ _ _ _ _ _ _);rw [hn2];clear hW2 hn2 HX HB1 c0 c1 c2 c3 c4 c5 c6 c7 c8 c9 c10;obtain ⟨-,⟨-,c0⟩,⟨-,c1⟩,⟨-,c2⟩,⟨-,c3⟩,⟨-,c4⟩,⟨-,c5⟩,⟨-,c6⟩,⟨-,c7⟩,⟨-,c8⟩,⟨-,c9⟩,⟨-,c10⟩,⟨-,c11⟩,⟨-,c12⟩,⟨-,c13⟩,⟨-,c14⟩,⟨-,c15⟩,⟨-,c16⟩,-⟩:=HY.o;go_cut [4,7,30] (fun _ _ s' W2=> ∃t,s'= .bool t∧(!t)=(bO && (dV h.nm bN && dV h.arg bA))∧Sit w W2 ((n2,0,.bool bN) ::(n2,1,.bool bA) ::(n2,2,.bool bI) ::(n2,3,.bool bX) ::(n2,4,.bool bB) ::(n2,5,.bool bE) ::wY w.heap.size h b e ⟨eT,dO,eZ,dS,bg,aU,fG,dZ⟩ []))
 case first=>
  cases bO
  ·go_wp2_with fail;go_meet;exact ⟨true,rfl,rfl,HY.o⟩
  ·go_wp2_with fail;refine (kP _ _ _ (kF.o.same HY.o.1) hm).mono ?_;rintro e' w3 ⟨rfl,hb3⟩;have HZ:=ah (HY.o.next hb3);clear hb3 HY c0 c1 c2 c3 c4 c5 c6 c7 c8 c9 c10 c11 c12 c13 c14 c15 c16;obtain ⟨-,⟨-,c0⟩,⟨-,c1⟩,⟨-,c2⟩,⟨-,c3⟩,⟨-,c4⟩,⟨-,c5⟩,⟨-,c6⟩,⟨-,c7⟩,⟨-,c8⟩,⟨-,c9⟩,⟨-,c10⟩,⟨-,c11⟩,⟨-,c12⟩,⟨-,c13⟩,⟨-,c14⟩,⟨-,c15⟩,⟨-,c16⟩,-⟩:=HZ.o;cases hq:dV h.nm bN
   ·go_wp2_with fail;go_meet;exact ⟨true,rfl,by rw [hq]; rfl,HZ.o⟩
   ·go_wp2_with fail;refine (kP _ _ _ (kF.o.same HZ.o.1) ha).mono ?_;rintro e' w3 ⟨rfl,hb3⟩;have HU:=ah (HZ.o.next hb3);clear hb3 HZ c0 c1 c2 c3 c4 c5 c6 c7 c8 c9 c10 c11 c12 c13 c14 c15 c16;cases hq2:dV h.arg bA
    all_goals go_wp2_with fail
    all_goals go_meet
    all_goals exact ⟨_,rfl,by rw [hq,hq2]; rfl,HU.o⟩
 obtain ⟨t1,rfl,ht1,hX⟩:=hcut;have HZ:=ah hX;have HT1:=ah ht1;clear hX ht1 HY c0 c1 c2 c3 c4 c5 c6 c7 c8 c9 c10 c11 c12 c13 c14 c15 c16;rw [<- HT1.o] at HS;clear HT1;cases t1
 case true=>go_wp2_with fail;go_ret;exact ⟨aI HS.o.symm,HZ.o.1⟩
 obtain ⟨-,⟨-,c0⟩,⟨-,c1⟩,⟨-,c2⟩,⟨-,c3⟩,⟨-,c4⟩,⟨-,c5⟩,⟨-,c6⟩,⟨-,c7⟩,⟨-,c8⟩,⟨-,c9⟩,⟨-,c10⟩,⟨-,c11⟩,⟨-,c12⟩,⟨-,c13⟩,⟨-,c14⟩,⟨-,c15⟩,⟨-,c16⟩,-⟩:=HZ.o;go_upto_region 4 with fail;go_cut [45] (fun s' W3=>wc=W3∧ ∃t,s'= .bool t∧(!t)=(decide ((h.idx.len:Int)<=1) && (!decide ((h.idx.len:Int)=1) || bI)))
 case first=>
  go_wp2_with fail
  all_goals go_meet
  all_goals exact ⟨rfl,_,rfl,by go_light; grind⟩
 obtain ⟨rfl,t2,rfl,ht2⟩:=hcut;have HT2:=ah ht2;rw [<- HT2.o] at HS;clear HT2 ht2;cases t2
 case true=>go_wp2_with fail;go_ret;exact ⟨aI (HS.o.trans (by simp)).symm,HZ.o.1⟩
 have NG:=ah (kM.o.same HZ.o.1);have hrow:=NG.o.2.1;have hall:=NG.o.1;clear hall;go_wp2_with fail;go_loopw [6,49] (fun _ s' wr=> ∃(k:Nat) (R:aG),s'= .int .i64 k∧k + R.len=h.idx.len∧fD h.idx=fD R∧R.At wr wr.heap.size eT k∧Sit w wr ((n2,0,.bool bN) ::(n2,1,.bool bA) ::(n2,2,.bool bI) ::(n2,3,.bool bX) ::(n2,4,.bool bB) ::(n2,5,.bool bE) ::wY w.heap.size h b e ⟨eT,dO,eZ,dS,bg,aU,fG,dZ⟩ [])) (fun _ s' _=>h.idx.len - (intOf s').toNat)
 case atStart=>exact ⟨0,h.idx,rfl,by simp,rfl,hrow,HZ.o⟩
 case round=>
  obtain ⟨k,R,rfl,hlen,heq,hrow',hsit⟩:=hrel;have HE:=ah heq;have HU:=ah hsit;clear heq hsit HZ hrow NG c0 c1 c2 c3 c4 c5 c6 c7 c8 c9 c10 c11 c12 c13 c14 c15 c16;cases R with
  | cons op' n' nm' bM rest=>
    obtain ⟨⟨b',off',dY,cap',rfl,EA,x0,x1,x2,x3,hok',mX⟩,hrest⟩:=hrow';have hlt:k < h.idx.len:=by simp only [aG.len] at hlen; omega
    go_wp2_with fail;have hba:=ak wr (.cells #[.int .i64 op',.int .i64 n',.string nm',.slice dY bM.len cap'] 57);refine (nM op' n' nm' bM _ _ _ hok' (mX.same hba) ((kF.o.same HU.o.1).same hba)).mono ?_;rintro e' w2 ⟨rfl,hb2⟩;have HB3:=ah (hba.trans (hb2.mono (by simp)));clear hba hb2 x0 x1 x2 x3 mX;cases hS:fT op' n' nm' bM
    ·rw [HE.o,lg,hS] at HS;go_wp2_with fail;go_ret;exact ⟨aI (HS.o.trans (by simp)).symm,(HU.o.next HB3.o).1⟩
    ·have HF:=ah (HE.o.trans (by rw [lg,hS]; rfl:fD (.cons op' n' nm' bM rest)=fD rest));go_wp2_with fail;go_roundw
     case rel=>exact ⟨k + 1,rest,by go_num,by simp only [aG.len] at hlen; omega,HF.o,hrest.same HB3.o,HU.o.next HB3.o⟩
     case measure=>simp [intOf]; omega
  | nil=>
    obtain rfl:k=h.idx.len:=by simpa [aG.len] using hlen
    rw [HE.o] at HS;clear HE hrow' hlen;obtain ⟨-,⟨-,c0⟩,⟨-,c1⟩,⟨-,c2⟩,⟨-,c3⟩,⟨-,c4⟩,⟨-,c5⟩,⟨-,c6⟩,⟨-,c7⟩,⟨-,c8⟩,⟨-,c9⟩,⟨-,c10⟩,⟨-,c11⟩,⟨-,c12⟩,⟨-,c13⟩,⟨-,c14⟩,⟨-,c15⟩,⟨-,c16⟩,-⟩:=HU.o;have hba:=kF.o.same HU.o.1;go_upto_region 12 with fail;go_cut [75] (fun s' W3=> ∃t,s'= .bool t∧(!t)=(if bX then fT h.iJ h.xn h.iP h.dn else jB h.iJ h.xn h.iP h.dn.len)∧Sit w W3 ((n2,0,.bool bN) ::(n2,1,.bool bA) ::(n2,2,.bool bI) ::(n2,3,.bool bX) ::(n2,4,.bool bB) ::(n2,5,.bool bE) ::wY w.heap.size h b e ⟨eT,dO,eZ,dS,bg,aU,fG,dZ⟩ []))
    case first=>
     cases bX
     ·go_wp2_with fail;refine (Dt _ _ _ _ _ _ _).mono ?_;rintro e' w3 ⟨rfl,hb3⟩;have HV:=ah (HU.o.next hb3);clear hb3;cases hq:jB h.iJ h.xn h.iP h.dn.len
      all_goals go_wp2_with fail
      all_goals go_meet
      all_goals exact ⟨_,rfl,hq.symm,HV.o⟩
     ·go_wp2_with fail;refine (nM _ _ _ _ _ _ _ hxk (kM.o.same HU.o.1).2.2.1 hba).mono ?_;rintro e' w3 ⟨rfl,hb3⟩;have HV:=ah (HU.o.next hb3);clear hb3 HU c0 c1 c2 c3 c4 c5 c6 c7 c8 c9 c10 c11 c12 c13 c14 c15 c16;obtain ⟨-,⟨-,c0⟩,⟨-,c1⟩,⟨-,c2⟩,⟨-,c3⟩,⟨-,c4⟩,⟨-,c5⟩,⟨-,c6⟩,⟨-,c7⟩,⟨-,c8⟩,⟨-,c9⟩,⟨-,c10⟩,⟨-,c11⟩,⟨-,c12⟩,⟨-,c13⟩,⟨-,c14⟩,⟨-,c15⟩,⟨-,c16⟩,-⟩:=HV.o;cases hq:fT h.iJ h.xn h.iP h.dn
      all_goals go_wp2_with fail
      all_goals go_meet
      all_goals exact ⟨_,rfl,hq.symm,HV.o⟩
    obtain ⟨t3,rfl,ht3,hX⟩:=hcut;have HV:=ah hX;have HT3:=ah ht3;clear hX ht3 HU hba c0 c1 c2 c3 c4 c5 c6 c7 c8 c9 c10 c11 c12 c13 c14 c15 c16;rw [<- HT3.o] at HS;clear HT3;cases t3
    case true=>go_wp2_with fail;go_ret;exact ⟨aI (HS.o.trans (by simp)).symm,HV.o.1⟩
    obtain ⟨-,⟨-,c0⟩,⟨-,c1⟩,⟨-,c2⟩,⟨-,c3⟩,⟨-,c4⟩,⟨-,c5⟩,⟨-,c6⟩,⟨-,c7⟩,⟨-,c8⟩,⟨-,c9⟩,⟨-,c10⟩,⟨-,c11⟩,⟨-,c12⟩,⟨-,c13⟩,⟨-,c14⟩,⟨-,c15⟩,⟨-,c16⟩,-⟩:=HV.o;go_upto_region 14 with fail;go_cut [95] (fun s' W3=>wc=W3∧ ∃t,s'= .bool t∧(!t)=((bB || decide ((b.len:Int)<=0)) && (bE || decide ((e.len:Int)<=0))))
    case first=>
     cases bB
     all_goals cases bE
     all_goals go_wp2_with fail
     all_goals go_meet
     all_goals exact ⟨rfl,_,rfl,by go_light; grind⟩
    obtain ⟨rfl,t4,rfl,I5⟩:=hcut;have wN:=ah I5;rw [<- wN.o] at HS;clear wN I5;cases t4
    case true=>go_wp2_with fail;go_ret;exact ⟨aI (HS.o.trans (by simp)).symm,HV.o.1⟩
    go_wp2_with fail;refine (oJ b Nf.o _ _ _ Jq (kM.o.same HV.o.1).2.2.2.1 (kF.o.same HV.o.1)).mono ?_;rintro e' w4 ⟨rfl,hb4⟩;have HA:=ah (HV.o.next hb4);clear hb4 HV c0 c1 c2 c3 c4 c5 c6 c7 c8 c9 c10 c11 c12 c13 c14 c15 c16;obtain ⟨-,⟨-,c0⟩,⟨-,c1⟩,⟨-,c2⟩,⟨-,c3⟩,⟨-,c4⟩,⟨-,c5⟩,⟨-,c6⟩,⟨-,c7⟩,⟨-,c8⟩,⟨-,c9⟩,⟨-,c10⟩,⟨-,c11⟩,⟨-,c12⟩,⟨-,c13⟩,⟨-,c14⟩,⟨-,c15⟩,⟨-,c16⟩,-⟩:=HA.o;cases hq:dX b
    ·rw [hq] at HS;go_wp2_with fail;go_ret;exact ⟨aI (HS.o.trans (by simp)).symm,HA.o.1⟩
    ·rw [hq] at HS;go_wp2_with fail;refine (oJ e Ng.o _ _ _ Jr (kM.o.same HA.o.1).2.2.2.2 (kF.o.same HA.o.1)).mono ?_;rintro e' w5 ⟨rfl,hb5⟩;go_wp2_with fail;go_ret;exact ⟨aI (HS.o.trans (by simp [fD])).symm,(HA.o.next hb5).1⟩
theorem zT (l:aL) (w:World) (ao:Option Addr) (cap:Nat) (hl:l.len<=maxLen) (hat:l.At w w.heap.size ao 0) (gK:dx w):
 Calls Tryz.prog 15 #[.slice ao l.len cap] w fun e' w'=>e'= .returned (.bool (dX l))∧Below w.heap.size w w':=
 oJ l (aL.kU zf l) w ao cap hl hat gK
theorem pz (p:Pr) (w:World) (aT aZ:Option Addr) (aM aN:Nat) (hp:p.At w aT aZ) (gK:dx w):
 Calls Tryz.prog 5 #[.agg #[.slice aT p.ds.length aM,.slice aZ p.ts.length aN]] w fun e w'=>e= .returned (.bool (oK p))∧Below w.heap.size w w':=by
 have HS:aj (oK p=((p.ds.all gu && p.ts.all iX) && decide ((0:Int) < p.ts.length))):=ah rfl;generalize oK p=res at *;have hld:=hp.1;have hlt:=hp.2.1;unfold maxLen at hld hlt;have HP:=ah hp;have kF:=ah gK;clear hp gK;go_enter Tryz.func5,Tryz.ntmps5;go_upto_region 1 with fail;generalize hW:World.alloc w _=W;generalize Value.agg #[_,_]=a0;have HX:=ah ((Sit.start w).NS rfl (.slice aT p.ds.length aM) (.slice aZ p.ts.length aN) 26);rw [hW] at HX;clear hW;obtain ⟨-,⟨-,c0⟩,⟨-,c1⟩,-⟩:=HX.o;have hde:=(HP.o.same HX.o.1).2.2.1;go_wp2_with fail;go_loopw [4,12] (fun _ s wr=> ∃(k:Nat) (R:List De),s= .int .i64 k∧k + R.length=p.ds.length∧p.ds.all gu=R.all gu∧fZ wr wr.heap.size R aT k∧Sit w wr [(w.heap.size,0,(.slice aT p.ds.length aM)),(w.heap.size,1,(.slice aZ p.ts.length aN))]) (fun _ s _=>p.ds.length - (intOf s).toNat)
 case atStart=>exact ⟨0,p.ds,rfl,by simp,rfl,hde,HX.o⟩
 case round=>
  obtain ⟨k,R,rfl,hlen,heq,hrow,hsit⟩:=hrel;have HZ:=ah hsit;have HE:=ah heq;clear hsit HX c0 c1 hde heq;cases R with
  | cons d R=>
    obtain ⟨⟨b,off,rfl,hB,x0,x1,x2,x3,x4,x5,hok⟩,hrest⟩:=hrow;simp only [List.length_cons] at hlen;have hkl:k < p.ds.length:=by omega
    have eO:=ah hok;clear hok;go_wp2_with fail;have hba:=ak wr (.cells #[.int .i64 d.kind,.int .i64 d.line,.string d.nm,.int .i64 d.size,.int .i64 d.init,.string d.on] 42);refine (zR d _ ((kF.o.same HZ.o.1).same hba) eO.o).mono ?_;rintro e' w2 ⟨rfl,hb2⟩;have HB3:=ah (hba.trans (hb2.mono (by simp)));clear hba hb2 x0 x1 x2 x3 x4 x5;cases hS:gu d
    ·rw [HE.o,List.all_cons,hS] at HS;go_wp2_with fail;go_ret;exact ⟨aI (HS.o.trans (by simp)).symm,(HZ.o.next HB3.o).1⟩
    ·have HF:=ah (HE.o.trans (by rw [List.all_cons,hS]; rfl:_=R.all gu));go_wp2_with fail;go_roundw
     case rel=>exact ⟨k + 1,R,by go_num,by omega,HF.o,hrest.same HB3.o,HZ.o.next HB3.o⟩
     case measure=>simp [intOf]; omega
  | nil=>
    obtain rfl:k=p.ds.length:=by simpa using hlen
    rw [HE.o] at HS;obtain ⟨-,⟨-,c0⟩,⟨-,c1⟩,-⟩:=HZ.o;have hth:=(HP.o.same HZ.o.1).2.2.2;clear HE hrow hlen;go_wp2_with fail;go_loopw [6,8,23,31,32,33,34,35] (fun _ _ s _ _ _ _ _ wr=> ∃(k:Nat) (R:List Th),s= .int .i64 k∧k + R.length=p.ts.length∧p.ts.all iX=R.all iX∧gq wr wr.heap.size R aZ k∧Sit w wr [(w.heap.size,0,(.slice aT p.ds.length aM)),(w.heap.size,1,(.slice aZ p.ts.length aN))]) (fun _ _ s _ _ _ _ _ _=>p.ts.length - (intOf s).toNat)
    case atStart=>exact ⟨0,p.ts,rfl,by simp,rfl,hth,HZ.o⟩
    case round=>
     obtain ⟨k,R,rfl,hlen,heq,hrow,hsit⟩:=hrel;have HU:=ah hsit;have HE:=ah heq;clear hsit HZ c0 c1 hth heq;cases R with
     | nil=>obtain rfl:k=p.ts.length:=(by simpa using hlen);rw [HE.o] at HS;obtain ⟨-,⟨-,c0⟩,⟨-,c1⟩,-⟩:=HU.o;go_wp2_with fail;go_ret;exact ⟨aI (HS.o.trans (by simp)).symm,HU.o.1⟩
     | cons t R=>
       obtain ⟨⟨b,off,dw,bG,bg,aU,rfl,hB,x0,x1,x2,x3,hok,htx,hst⟩,hrest⟩:=hrow;simp only [List.length_cons] at hlen;have hkl:k < p.ts.length:=(by omega);have hll:=hok.2.2.1;have eO:=ah hok;have yA:=ah htx;have HST:=ah hst;unfold maxLen at hll;clear hok htx hst;go_upto_region 10 with fail;obtain ⟨n2,hn2⟩: ∃n,wr.heap.size=n:=⟨_,rfl⟩;generalize hW2:World.alloc wr _=W2;have HB2:aj (Below wr.heap.size wr W2):=ah (by rw [<- hW2]; exact ak _ _);have HV:aj (Sit w W2 ((n2,0,.string t.nm) ::(n2,1,.int .i64 t.line) ::(n2,2,.slice dw t.cu.length bG) ::(n2,3,.slice bg t.body.len aU) ::[(w.heap.size,0,(.slice aT p.ds.length aM)),(w.heap.size,1,(.slice (some ⟨b,off,none⟩) p.ts.length aN))])):=ah (by rw [<- hW2]; exact HU.o.NT hn2 _ _ _ _ _);rw [hn2];clear hW2 hn2 x0 x1 x2 x3;obtain ⟨-,⟨-,c0⟩,⟨-,c1⟩,⟨-,c2⟩,⟨-,c3⟩,⟨-,c4⟩,⟨-,c5⟩,-⟩:=HV.o;go_wp2_with fail;refine (oZ _ _ (kF.o.same HV.o.1) eO.o.1).mono ?_;rintro e' w3 ⟨rfl,hb3⟩;have HB3:=ah hb3;have HA:=ah (HV.o.next hb3);clear hb3 HV c0 c1 c2 c3 c4 c5;obtain ⟨-,⟨-,c0⟩,⟨-,c1⟩,⟨-,c2⟩,⟨-,c3⟩,⟨-,c4⟩,⟨-,c5⟩,-⟩:=HA.o;cases hN:Tk.cO t.nm.data.toList
       ·rw [HE.o,List.all_cons,show iX t=false by unfold iX; rw [hN]; rfl] at HS;go_wp2_with fail;go_ret;exact ⟨aI (HS.o.trans (by simp)).symm,HA.o.1⟩
       ·have hrow:=yA.o.same (HB2.o.trans (HB3.o.mono HB2.o.size));have iE:=ah (HB2.o.trans (HB3.o.mono HB2.o.size));clear HB2 HB3;go_wp2_with fail;obtain ⟨wo,rfl⟩: ∃wo:World,wo=wr:=⟨_,rfl⟩;go_loopw [8,34] (fun _ s wr=> ∃(k:Nat) (R:List ByteArray),s= .int .i64 k∧k + R.length=t.cu.length∧t.cu.all (fun s=>Tk.cO s.data.toList)=R.all (fun s=>Tk.cO s.data.toList)∧gX wr wr.heap.size R dw k∧Below wo.heap.size wo wr∧Sit w wr ((n2,0,.string t.nm) ::(n2,1,.int .i64 t.line) ::(n2,2,.slice dw t.cu.length bG) ::(n2,3,.slice bg t.body.len aU) ::[(w.heap.size,0,(.slice aT p.ds.length aM)),(w.heap.size,1,(.slice (some ⟨b,off,none⟩) p.ts.length aN))])) (fun _ s _=>t.cu.length - (intOf s).toNat)
        case atStart=>exact ⟨0,t.cu,rfl,by simp,rfl,hrow,iE.o,HA.o⟩
        case round=>
         obtain ⟨k',R',rfl,hlen',heq',hrow',Hz,yS⟩:=hrel;have HC:=ah yS;have uG:=ah Hz;have BH:=ah heq';clear yS HA c0 c1 c2 c3 c4 c5 hrow heq' Hz iE;cases R' with
         | cons s R'=>
           obtain ⟨⟨b',off',rfl,hB',y0,hs⟩,hrest'⟩:=hrow';simp only [List.length_cons] at hlen';have hkl':k' < t.cu.length:=(by omega);go_wp2_with fail;refine (oZ _ _ (kF.o.same HC.o.1) hs).mono ?_;rintro e' w3 ⟨rfl,hb3⟩;have bT:=ah hb3;clear hb3;cases vC:Tk.cO s.data.toList
           ·rw [HE.o,List.all_cons,show iX t=false by unfold iX; rw [BH.o,List.all_cons,vC]; simp] at HS;go_wp2_with fail;go_ret;exact ⟨aI (HS.o.trans (by simp)).symm,(HC.o.next bT.o).1⟩
           ·have HF:=ah (BH.o.trans (by rw [List.all_cons,vC]; rfl:_=R'.all (fun s=>Tk.cO s.data.toList)));go_wp2_with fail;go_roundw
            case rel=>exact ⟨k' + 1,R',by go_num,by omega,HF.o,hrest'.same bT.o,uG.o.trans (bT.o.mono uG.o.size),HC.o.next bT.o⟩
            case measure=>simp [intOf]; omega
         | nil=>
           obtain rfl:k'=t.cu.length:=(by simpa using hlen');obtain ⟨-,⟨-,c0⟩,⟨-,c1⟩,⟨-,c2⟩,⟨-,c3⟩,⟨-,c4⟩,⟨-,c5⟩,-⟩:=HC.o;go_wp2_with fail;refine (zT t.body _ _ _ eO.o.2.2.2 (HST.o.1.same uG.o) (kF.o.same HC.o.1)).mono ?_;rintro e' w3 ⟨rfl,hb3⟩;have bT:=ah hb3;clear hb3;have HT:aj (iX t=dX t.body):=ah (by unfold iX; rw [hN,BH.o]; rfl);cases vC:dX t.body
           ·rw [HE.o,List.all_cons,HT.o,vC] at HS;go_wp2_with fail;go_ret;exact ⟨aI (HS.o.trans (by simp)).symm,(HC.o.next bT.o).1⟩
           ·have HF:=ah (HE.o.trans (by rw [List.all_cons,HT.o,vC]; rfl:_=R.all iX));have QE:=ah (uG.o.trans (bT.o.mono uG.o.size));have TQ:=ah (HU.o.next QE.o);go_wp2_with fail;go_roundw
            case rel=>exact ⟨k + 1,R,by go_num,by omega,HF.o,hrest.same QE.o,TQ.o⟩
            case measure=>simp [intOf]; omega
end Go.Proofs.YtkajcclnlehkmaaGreatDoor
