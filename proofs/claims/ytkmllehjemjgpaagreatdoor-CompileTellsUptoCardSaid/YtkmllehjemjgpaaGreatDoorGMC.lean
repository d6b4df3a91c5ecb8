/- Contracts of parse.operands, nameOrEmpty, ShapedExpr. And what hangs on it. -/
import Derived.Test.YtkmllehjemjgpaaGreatDoorGMA
import Derived.Test.YtkmllehjemjgpaaGreatDoorGNA
set_option linter.unusedSimpArgs false
set_option linter.unusedVariables false
set_option maxHeartbeats 40000000
set_option maxRecDepth 1000000
namespace Go.Proofs.YtkmllehjemjgpaaGreatDoor
open Go.RowKit
open Md
theorem wZ (op:Int) (w:World):
 Calls Tryz.prog 146 #[.int .i64 op] w λe w'=>e= .returned (.int .i64 (opsOf op))∧w=w':=by
 unfold opsOf;go_enter Tryz.func146,Tryz.ntmps146;go_wp2
 all_goals go_ret
 all_goals refine⟨aV ?_,rfl⟩
 all_goals first|(simp[*];done)|((repeat' split) <;> simp_all <;> omega)
theorem rX (s:ByteArray) (b:Bool) (w:World) (dG:dD w) (hm:s.size<=maxLen):
 Calls Tryz.prog 78 #[.string s,.bool b] w λe w'=>e= .returned (.bool (jQ s b))∧Below w.heap.size w w':=by
 cases b
 ·go_enter Tryz.func78,Tryz.ntmps78;go_wp2;go_ret;exact⟨by simp[jQ,Lib.toList_data],Below.refl _ _⟩
 ·go_enter Tryz.func78,Tryz.ntmps78;go_wp2_with (go_at_call 46;refine(wP _ _ dG hm).mono ?_;rintro e w' ⟨rfl,hb⟩);go_ret;exact⟨rfl,hb⟩
theorem NS (op:Int) (w:World):
 Calls Tryz.prog 111 #[.int .i64 op] w λe w'=>e= .returned (.tuple #[.agg #[.bool (fN op),.bool (fA op),.bool (fI op),.bool (fX op),.bool (fB op),.bool (fE op)],.bool (fO op)])∧Below w.heap.size w w':=by
 have hop:op=1∨op=2∨op=3∨op=4∨op=5∨op=6∨op=7∨op=8∨op=9∨op=10∨op=11∨op=12∨op=13∨op=14∨op=15∨(op<1∨15<op):=by omega
 rcases hop with rfl|rfl|rfl|rfl|rfl|rfl|rfl|rfl|rfl|rfl|rfl|rfl|rfl|rfl|rfl|hop
 case inr.inr.inr.inr.inr.inr.inr.inr.inr.inr.inr.inr.inr.inr.inr=>
  have e1:fN op=false:=by unfold fN;grind
  have e2:fA op=false:=by unfold fA;grind
  have e3:fI op=false:=by unfold fI;grind
  have e4:fX op=false:=by unfold fX;grind
  have e5:fB op=false:=by unfold fB;grind
  have e6:fE op=false:=by unfold fE;grind
  have e7:fO op=false:=by unfold fO;grind
  rw[e1,e2,e3,e4,e5,e6,e7];clear e1 e2 e3 e4 e5 e6 e7;have g1:(op==1)=false:=by rw[beq_eq_false_iff_ne];omega
  have g2:(op==2)=false:=by rw[beq_eq_false_iff_ne];omega
  have g3:(op==3)=false:=by rw[beq_eq_false_iff_ne];omega
  have g4:(op==4)=false:=by rw[beq_eq_false_iff_ne];omega
  have g5:(op==5)=false:=by rw[beq_eq_false_iff_ne];omega
  have g6:(op==6)=false:=by rw[beq_eq_false_iff_ne];omega
  have g7:(op==7)=false:=by rw[beq_eq_false_iff_ne];omega
  have g8:(op==8)=false:=by rw[beq_eq_false_iff_ne];omega
  have g9:(op==9)=false:=by rw[beq_eq_false_iff_ne];omega
  have g10:(op==10)=false:=by rw[beq_eq_false_iff_ne];omega
  have g11:(op==11)=false:=by rw[beq_eq_false_iff_ne];omega
  have g12:(op==12)=false:=by rw[beq_eq_false_iff_ne];omega
  have g13:(op==13)=false:=by rw[beq_eq_false_iff_ne];omega
  have g14:(op==14)=false:=by rw[beq_eq_false_iff_ne];omega
  have g15:(op==15)=false:=by rw[beq_eq_false_iff_ne];omega
  clear hop;go_enter Tryz.func111,Tryz.ntmps111;go_wp2;exact bodyPost_ret (v:= .tuple #[.agg #[.bool _,.bool _,.bool _,.bool _,.bool _,.bool _],.bool _]) (by simp[results,Tryz.results111,go_sem]) rfl ⟨rfl,ak _ _⟩
 all_goals go_enter Tryz.func111,Tryz.ntmps111;go_wp2;exact bodyPost_ret (v:= .tuple #[.agg #[.bool _,.bool _,.bool _,.bool _,.bool _,.bool _],.bool _]) (by simp[results,Tryz.results111,go_sem];decide) rfl ⟨rfl,ak _ _⟩
theorem Po (op n:Int) (nm:ByteArray) (len cap:Nat) (ao:Option Addr) (w:World):
 Calls Tryz.prog 113 #[.agg #[.int .i64 op,.int .i64 n,.string nm,.slice ao len cap]] w λe w'=>e= .returned (.bool (pU op n nm len))∧Below w.heap.size w w':=by
 have HE:aj (pU op n nm len=(((decide (op=0)&&decide (n=0))&&decide (nm.toList=[]))&&decide (len=0))):=ah (by unfold pU;rw[Bool.eq_iff_iff];simp);go_enter Tryz.func113,Tryz.ntmps113;go_wp2
 all_goals go_ret
 all_goals refine⟨aZ ?_,ak _ _⟩
 all_goals rw[HE.o]
 all_goals (go_light;grind)
theorem Kq (d:De) (w:World) (dG:dD w) (hok:d.Ok):
 Calls Tryz.prog 45 #[.agg #[.int .i64 d.kind,.int .i64 d.line,.string d.nm,.int .i64 d.size,.int .i64 d.init,.string d.on]] w λe w'=>e= .returned (.bool (iw d))∧Below w.heap.size w w':=by
 obtain⟨⟨k1,k2⟩,-,hm,-,-,ho⟩:=hok;obtain⟨kind,line,nm,size,init,on⟩:=d;have HE:aj (iw ⟨kind,line,nm,size,init,on⟩=((((decide (1<=kind)&&decide (kind<=6))&&Tk.iC nm.data.toList)&&(decide (0<=size)&&(decide (size=0)||decide (kind=1))))&&((!decide (init= -9223372036854775808)&&(decide (init=0)||(decide (kind=1)||decide (kind=2))))&&jQ on (kind==5)))):=ah (by unfold iw;simp only[bne];rw[Bool.eq_iff_iff];simp);dsimp only at *;generalize iw ⟨kind,line,nm,size,init,on⟩=res at *;go_enter Tryz.func45,Tryz.ntmps45;go_upto_region 1 with fail;generalize hW:World.alloc w _=W;generalize Value.agg #[_,_,_,_,_,_]=a0;have HX:=ah ((Sit.start w).Ny rfl (.int .i64 kind) (.int .i64 line) (.string nm) (.int .i64 size) (.int .i64 init) (.string on) 75);rw[hW]at HX;clear hW;obtain⟨-,⟨-,c0⟩,⟨-,c1⟩,⟨-,c2⟩,⟨-,c3⟩,⟨-,c4⟩,⟨-,c5⟩,-⟩:=HX.o;go_cut [16] (λs W2=> ∃b,s= .bool b∧(!b)=((decide (1<=kind)&&decide (kind<=6))&&Tk.iC nm.data.toList)∧Sit w W2 [(w.heap.size,0,.int .i64 kind),(w.heap.size,1,.int .i64 line),(w.heap.size,2,.string nm),(w.heap.size,3,.int .i64 size),(w.heap.size,4,.int .i64 init),(w.heap.size,5,.string on)])
 case first=>
  go_wp2_with (go_at_call 46;refine(wP _ _ (dG.same HX.o.1) hm).mono ?_;rintro e w' ⟨rfl,hb⟩)
  all_goals go_meet
  all_goals first|exact⟨_,rfl,by go_light;grind,HX.o.next ‹_›⟩|exact⟨_,rfl,by go_light;grind,HX.o⟩
 obtain⟨b1,rfl,hb1,hX⟩:=hcut;have HY:=ah hX;have HB1:=ah hb1;clear hX HX hb1 c0 c1 c2 c3 c4 c5;obtain⟨-,⟨-,c0⟩,⟨-,c1⟩,⟨-,c2⟩,⟨-,c3⟩,⟨-,c4⟩,⟨-,c5⟩,-⟩:=HY.o;cases b1
 ·cases h5:(kind==5)
  all_goals rw[h5]at HE;go_wp2_with (go_at_call 78;refine(rX _ _ _ (dG.same HY.o.1) ho).mono ?_;rintro e w' ⟨rfl,hb⟩)
  all_goals go_ret
  all_goals first|refine⟨aZ ?_,(HY.o.next ‹_›).1⟩|refine⟨aZ ?_,HY.o.1⟩
  all_goals rw[HE.o,<- HB1.o]
  all_goals (go_light;grind)
 ·go_wp2_with fail;go_ret;refine⟨aZ ?_,HY.o.1⟩;rw[HE.o,<- HB1.o];rfl
def FT (op n:Int) (nm:ByteArray) (kids:bC):Prop:=
 ∀(w:World) (ao:Option Addr) (cap:Nat),sD op n nm kids->kids.At w w.heap.size ao 0->dD w->
  Calls Tryz.prog 112 #[.agg #[.int .i64 op,.int .i64 n,.string nm,.slice ao kids.len cap]] w λe w'=>e= .returned (.bool (iY op n nm kids))∧Below w.heap.size w w'
theorem YC {op n:Int} {nm:ByteArray} {kids:bC} (h:((kids.len:Int)==opsOf op)=false):iY op n nm kids=false:=by unfold iY FH;rw[h];rfl
theorem VP {op n:Int} {nm:ByteArray} {kids:bC} (h:n<0∨((n==0)=false∧(op==1)=false)):iY op n nm kids=false:=by
 unfold iY FH;rcases h with h|⟨h,h'⟩
 ·rw[decide_eq_true h];simp
 ·rw[h,h'];simp
theorem ae6 {op n:Int} {nm:ByteArray} {kids:bC} {b:Bool} (hb:named op=b) (h:jQ nm b=false):iY op n nm kids=false:=by
 unfold iY FH;rw[hb,h];simp
theorem YD {op n:Int} {nm:ByteArray} {kids:bC} {b:Bool} (h1:((kids.len:Int)==opsOf op)=true) (h2:0<=n) (h3:(n==0)=true∨(op==1)=true) (hb:named op=b) (h:jQ nm b=true):iY op n nm kids=kZ kids:=by
 unfold iY FH;rw[hb,h,h1,decide_eq_false (by omega)];rcases h3 with h3|h3 <;> rw[h3] <;> simp
theorem ac4 (op n:Int):(n<0)∨(0<n∧op≠1)∨
 ∃b,named op=b∧0<=n∧((n==0)=true∨(op==1)=true)∧
  ((0<n∧op=1∧b=false)∨(n=0∧op=2∧b=true)∨(n=0∧op=3∧b=true)∨(n=0∧(op==2)=false∧(op==3)=false∧b=false)):=by
 by_cases h:n<0
 ·exact Or.inl h
 ·by_cases h0:n=0
  ·subst h0;by_cases h2:op=2
   ·subst h2;exact Or.inr (Or.inr ⟨true,rfl,by omega,Or.inl rfl,by simp⟩)
   ·by_cases h3:op=3
    ·subst h3;exact Or.inr (Or.inr ⟨true,rfl,by omega,Or.inl rfl,by simp⟩)
    ·exact Or.inr (Or.inr ⟨false,by simp[named,h2,h3],by omega,Or.inl rfl,by simp[h2,h3]⟩)
  ·by_cases h1:op=1
   ·subst h1;exact Or.inr (Or.inr ⟨false,rfl,by omega,Or.inr rfl,by simp;omega⟩)
   ·exact Or.inr (Or.inl ⟨by omega,h1⟩)
theorem mG (op n:Int) (nm:ByteArray) (kids rest:bC):kZ (.cons op n nm kids rest)=(iY op n nm kids&&kZ rest):=rfl
def Qq (kids R:bC) (k:Nat):Prop:=k+R.len=kids.len∧kZ kids=kZ R
theorem J5 (op n:Int) (nm:ByteArray) (kids:bC) (ih:kids.All FT):FT op n nm kids:=by
 intro w ao cap hok hat dG;obtain⟨⟨o1,o2⟩,⟨n1,n2⟩,hm,hl⟩:=hok;unfold maxLen at hl;have hl':kids.len<=9223372036854775807:=hl;rcases ac4 op n with hn|⟨hn,q1⟩|⟨b,hb,hn,hor,hq⟩
 ·have HR:=ah (VP (nm:=nm) (kids:=kids) (op:=op) (Or.inl hn));go_enter Tryz.func112,Tryz.ntmps112;go_wp2_with fail;generalize hW:World.alloc w _=W;have HX:=ah (uw.mk hW);clear hW;obtain⟨-,-,c0,c1,c2,c3⟩:=HX.o;go_quiet (first|(go_at_call 146;refine lX (wZ _ _)));go_wp2_with fail
  all_goals go_ret
  all_goals exact⟨aZ HR.o.symm,(HX.o.draws _).1⟩
 ·have HR:=ah (VP (nm:=nm) (kids:=kids) (Or.inr ⟨beq_eq_false_iff_ne.2 (show n≠0 by omega),beq_eq_false_iff_ne.2 q1⟩));have q1':(op != 1)=true:=bne_iff_ne.2 q1;have q0':(n != 0)=true:=bne_iff_ne.2 (by omega);go_enter Tryz.func112,Tryz.ntmps112;go_wp2_with fail;generalize hW:World.alloc w _=W;have HX:=ah (uw.mk hW);clear hW;obtain⟨-,-,c0,c1,c2,c3⟩:=HX.o;go_quiet (first|(go_at_call 146;refine lX (wZ _ _)));go_wp2_with fail
  all_goals go_ret
  all_goals exact⟨aZ HR.o.symm,(HX.o.draws _).1⟩
 ·by_cases h1:((kids.len:Int)==opsOf op)=false
  ·have HR:=ah (YC (n:=n) (nm:=nm) h1);have h1':((kids.len:Int) != opsOf op)=true:=by unfold bne;rw[h1];rfl
   go_enter Tryz.func112,Tryz.ntmps112;go_wp2_with fail;generalize hW:World.alloc w _=W;have HX:=ah (uw.mk hW);clear hW;obtain⟨-,-,c0,c1,c2,c3⟩:=HX.o;go_quiet (first|(go_at_call 146;refine lX (wZ _ _)));go_wp2_with fail;go_ret;exact⟨aZ HR.o.symm,(HX.o.draws _).1⟩
  ·have h1':((kids.len:Int)==opsOf op)=true:=by simpa using h1
   clear h1;have HY:=ah (λh:jQ nm b=true=>YD h1' hn hor hb h);have HN:=ah (λh:jQ nm b=false=>ae6 (n:=n) (kids:=kids) hb h);clear hb hor;have HAT:=ah hat;have qp:=ah ih;clear hat ih;have ar3:((kids.len:Int) != opsOf op)=false:=by unfold bne;rw[h1'];rfl
   clear h1';rcases hq with⟨q0,rfl,rfl⟩|⟨rfl,rfl,rfl⟩|⟨rfl,rfl,rfl⟩|⟨rfl,q2,q3,rfl⟩
   all_goals go_enter Tryz.func112,Tryz.ntmps112;go_wp2_with fail;generalize hW:World.alloc w _=W;have HX:=ah (uw.mk hW);clear hW;obtain⟨-,-,c0,c1,c2,c3⟩:=HX.o;go_quiet (first|(go_at_call 146;refine lX (wZ _ _)));have sI:=ah (HX.o.draws nq);clear HX c0 c1 c2 c3;generalize W.drewN nq=wq at *;obtain⟨-,-,c0,c1,c2,c3⟩:=sI.o;go_wp2_with fail;refine(rX _ _ _ (dG.same sI.o.1) hm).mono ?_;rintro e w1 ⟨rfl,hb1⟩;have HZ:=ah (sI.o.next hb1);clear hb1 sI c0 c1 c2 c3;obtain⟨-,-,c0,c1,c2,c3⟩:=HZ.o
   all_goals
    cases hN:jQ nm _
    ·have HR:=ah (HN.o hN);clear HN HY;go_wp2_with fail;go_ret;exact⟨aZ HR.o.symm,HZ.o.1⟩
    ·have HR:=ah (HY.o hN);clear HN HY;go_wp2_with fail;go_loopw [40] (λi wr=> ∃k R,i= .int .i64 (k:Nat)∧Qq kids R k∧R.All FT∧R.At wr wr.heap.size ao k∧uw w wr (Value.int IntKind.i64 _) (Value.int IntKind.i64 _) (Value.string nm) (Value.slice ao kids.len cap)) (λi _=>kids.len -(intOf i).toNat)
     case atStart=>exact⟨0,kids,rfl,⟨Nat.zero_add _,rfl⟩,qp.o,HAT.o.same HZ.o.1,HZ.o⟩
     case round=>
      obtain⟨k,R,rfl,⟨hlen,heq⟩,hall,hrow,Ih⟩:=hrel;have HT:=ah (HR.o.trans heq);cases R with
      |nil=>obtain rfl:k=kids.len:=(by simpa[bC.len]using hlen);go_wp2_with fail;go_ret;exact⟨aZ HT.o.symm,Ih.1⟩
      |cons op' n' nm' iD rest=>
       obtain⟨⟨b,off,nR,cap',rfl,iL,x0,x1,x2,x3,hok',ko⟩,hrest⟩:=hrow;obtain⟨gP,nX⟩:=hall;have hlt:k<kids.len:=(by simp only[bC.len]at hlen;omega);go_wp2_with fail;have hba:=(Below.refl wr.heap.size wr).alloc (Nat.le_refl _) (.cells #[.int .i64 op',.int .i64 n',.string nm',.slice nR iD.len cap'] 88);refine(gP _ _ _ hok' (ko.same hba) ((dG.same Ih.1).alloc _)).mono ?_;rintro e w2 ⟨rfl,hb2⟩;have hb3:=hba.trans (hb2.mono (by simp));have uF:=ah (Ih.next hb3);have hrest':=hrest.same hb3;clear hba hb2 hb3 Ih hrest x0 x1 x2 x3 c0 c1 c2 c3 ko;cases hS:iY op' n' nm' iD
       ·have HF:=ah (HT.o.trans (by rw[mG,hS];rfl:kZ (.cons op' n' nm' iD rest)=false));go_wp2_with fail;go_ret;exact⟨aZ HF.o.symm,uF.o.1⟩
       ·have HF:=ah (heq.trans (by rw[mG,hS];rfl:kZ (.cons op' n' nm' iD rest)=kZ rest));go_wp2_with fail;go_roundw
        case rel=>exact⟨k+1,rest,by go_num,⟨by simp only[bC.len]at hlen;omega,HF.o⟩,nX,hrest',uF.o⟩
        case measure=>simp[intOf];omega
theorem xX (op n:Int) (nm:ByteArray) (kids:bC):FT op n nm kids:=bC.wY J5 op n nm kids
def Cn (h:cB) (b e:aH):Prop:=
 ∀(w:World) (s:Sl),BO w h b e s->dD w->
  Calls Tryz.prog 80 #[jD h b e s] w λe' w'=>e'= .returned (.bool (AY h b e))∧Below w.heap.size w w'
theorem za (l:aH) (hall:l.All Cn) (w:World) (ao:Option Addr) (cap:Nat) (hl:l.len<=maxLen) (hat:l.At w w.heap.size ao 0) (dG:dD w):
 Calls Tryz.prog 47 #[.slice ao l.len cap] w λe' w'=>e'= .returned (.bool (eG l))∧Below w.heap.size w w':=by
 unfold maxLen at hl;go_enter Tryz.func47,Tryz.ntmps47;go_wp2_with fail;go_loopw [4,7] (λ_ s wr=> ∃(k:Nat) (R:aH),s= .int .i64 k∧k+R.len=l.len∧eG l=eG R∧R.All Cn∧R.At wr wr.heap.size ao k∧Below w.heap.size w wr) (λ_ s _=>l.len -(intOf s).toNat)
 case atStart=>exact⟨0,l,rfl,by simp,rfl,hall,hat,Below.refl _ _⟩
 case round=>
  obtain⟨k,R,rfl,hlen,heq,nX,hrow,hB⟩:=hrel;have HE:=ah heq;clear heq;cases R with
  |nil=>
   obtain rfl:k=l.len:=by simpa[aH.len]using hlen
   go_wp2_with fail;go_ret;exact⟨aZ HE.o.symm,hB⟩
  |cons h b e R=>
   obtain⟨bl,off,s,rfl,hbl,hin,x0,x1,x2,x3,x4,x5,x6,x7,x8,x9,x10,hrest⟩:=aH.At.head hrow;obtain⟨gP,AB⟩:=nX;have hkl:k<l.len:=by simp only[aH.len]at hlen;omega
   clear hrow;go_wp2_with fail;have hba:=ak wr (.cells #[.int .i64 h.op,.int .i64 h.line,.string h.nm,.string h.arg,.slice s.eu h.idx.len s.dI,.int .i64 h.cu,.int .i64 h.xn,.string h.bZ,.slice s.dR h.aK.len s.cO,.slice s.bR b.len s.aY,.slice s.fH e.len s.dX] 90);refine(gP _ s (hin.same hba) (dG.same (hB.trans (hba.mono hB.size)))).mono ?_;rintro e' w2 ⟨rfl,hb2⟩;have HB3:=ah (hba.trans (hb2.mono (by simp)));clear hba hb2 x0 x1 x2 x3 x4 x5 x6 x7 x8 x9 x10 hin;cases hS:AY h b e
   ·have HF:=ah (HE.o.trans (by rw[zQ,hS];rfl:eG (.cons h b e R)=false));go_wp2_with fail;go_ret;exact⟨aZ HF.o.symm,hB.trans (HB3.o.mono hB.size)⟩
   ·have HF:=ah (HE.o.trans (by rw[zQ,hS];rfl:eG (.cons h b e R)=eG R));go_wp2_with fail;go_roundw
    case rel=>exact⟨k+1,R,by go_num,by simp only[aH.len]at hlen;omega,HF.o,AB,hrest.same HB3.o,hB.trans (HB3.o.mono hB.size)⟩
    case measure=>simp[intOf];omega
theorem JO (h:cB) (b e:aH) (ihb:b.All Cn) (Vi:e.All Cn):Cn h b e:=by
 intro w s hin dG;obtain⟨eu,dI,dR,cO,bR,aY,fH,dX⟩:=s;have HS:aj (AY h b e=((((fO h.op&&(jQ h.nm (fN h.op)&&jQ h.arg (fA h.op)))&&((decide ((h.idx.len:Int)<=1)&&(!decide ((h.idx.len:Int)=1)||fI h.op))&&kZ h.idx))&&
  ((if fX h.op then iY h.cu h.xn h.bZ h.aK else pU h.cu h.xn h.bZ h.aK.len)&&((fB h.op||decide ((b.len:Int)<=0))&&(fE h.op||decide ((e.len:Int)<=0)))))&&(eG b&&eG e))):=ah (by
  unfold AY mX;rw[QT,QS,Ga,Ga])
 generalize AY h b e=res at *;have dY:=ah hin;have iF:=ah dG;have MJ:=ah ihb;have HIE:=ah Vi;obtain⟨⟨⟨o1,o2⟩,-,hm,ha,hil,hxk,hbl,hel⟩,-⟩:=hin;clear dG ihb Vi;have aW2:=hil;have XO:=hbl;have XQ:=hel;have hxl:=hxk.2.2.2;unfold maxLen at hil hbl hel hxl;unfold jD;dsimp only;go_enter Tryz.func80,Tryz.ntmps80;go_upto_region 1 with fail;generalize hW:World.alloc w _=W;generalize Value.agg #[_,_,_,_,_,_,_,_,_,_,_]=a0;have HX:aj (Sit w W (ql w.heap.size h b e ⟨eu,dI,dR,cO,bR,aY,fH,dX⟩ [])):=ah (by rw[<- hW];exact(Sit.start w).tK rfl _ _ _ _ _ _ _ _ _ _ _ _);clear hW;obtain⟨-,⟨-,c0⟩,⟨-,c1⟩,⟨-,c2⟩,⟨-,c3⟩,⟨-,c4⟩,⟨-,c5⟩,⟨-,c6⟩,⟨-,c7⟩,⟨-,c8⟩,⟨-,c9⟩,⟨-,c10⟩,-⟩:=HX.o;go_upto_region 2 with(go_at_call 111;refine(NS _ _).mono ?_;rintro e' w1 ⟨rfl,hb1⟩);have HB1:=ah hb1;clear hb1;generalize fN h.op=bN at *;generalize fA h.op=bA at *;generalize fI h.op=bI at *;generalize fX h.op=bX at *;generalize fB h.op=bB at *;generalize fE h.op=bE at *;generalize fO h.op=bO at *;obtain⟨n2,hn2⟩: ∃n,w1.heap.size=n:=⟨_,rfl⟩;generalize hW2:World.alloc w1 _=W2;have HY:aj (Sit w W2 ((n2,0,.bool bN)::(n2,1,.bool bA)::(n2,2,.bool bI)::(n2,3,.bool bX)::(n2,4,.bool bB)::(n2,5,.bool bE)::ql w.heap.size h b e ⟨eu,dI,dR,cO,bR,aY,fH,dX⟩ [])):=ah (by rw[<- hW2];exact(HX.o.next HB1.o).Ny hn2 _ _ _ _ _ _ _);rw[hn2];clear hW2 hn2 HX HB1 c0 c1 c2 c3 c4 c5 c6 c7 c8 c9 c10;obtain⟨-,⟨-,c0⟩,⟨-,c1⟩,⟨-,c2⟩,⟨-,c3⟩,⟨-,c4⟩,⟨-,c5⟩,⟨-,c6⟩,⟨-,c7⟩,⟨-,c8⟩,⟨-,c9⟩,⟨-,c10⟩,⟨-,c11⟩,⟨-,c12⟩,⟨-,c13⟩,⟨-,c14⟩,⟨-,c15⟩,⟨-,c16⟩,-⟩:=HY.o;go_cut [4,7,30] (λ_ _ s' W2=> ∃t,s'= .bool t∧(!t)=(bO&&(jQ h.nm bN&&jQ h.arg bA))∧Sit w W2 ((n2,0,.bool bN)::(n2,1,.bool bA)::(n2,2,.bool bI)::(n2,3,.bool bX)::(n2,4,.bool bB)::(n2,5,.bool bE)::ql w.heap.size h b e ⟨eu,dI,dR,cO,bR,aY,fH,dX⟩ []))
 case first=>
  cases bO
  ·go_wp2_with fail;go_meet;exact⟨true,rfl,rfl,HY.o⟩
  ·go_wp2_with fail;refine(rX _ _ _ (iF.o.same HY.o.1) hm).mono ?_;rintro e' w3 ⟨rfl,hb3⟩;have HZ:=ah (HY.o.next hb3);clear hb3 HY c0 c1 c2 c3 c4 c5 c6 c7 c8 c9 c10 c11 c12 c13 c14 c15 c16;obtain⟨-,⟨-,c0⟩,⟨-,c1⟩,⟨-,c2⟩,⟨-,c3⟩,⟨-,c4⟩,⟨-,c5⟩,⟨-,c6⟩,⟨-,c7⟩,⟨-,c8⟩,⟨-,c9⟩,⟨-,c10⟩,⟨-,c11⟩,⟨-,c12⟩,⟨-,c13⟩,⟨-,c14⟩,⟨-,c15⟩,⟨-,c16⟩,-⟩:=HZ.o;cases hq:jQ h.nm bN
   ·go_wp2_with fail;go_meet;exact⟨true,rfl,by rw[hq];rfl,HZ.o⟩
   ·go_wp2_with fail;refine(rX _ _ _ (iF.o.same HZ.o.1) ha).mono ?_;rintro e' w3 ⟨rfl,hb3⟩;have HU:=ah (HZ.o.next hb3);clear hb3 HZ c0 c1 c2 c3 c4 c5 c6 c7 c8 c9 c10 c11 c12 c13 c14 c15 c16;cases hq2:jQ h.arg bA
    all_goals go_wp2_with fail
    all_goals go_meet
    all_goals exact⟨_,rfl,by rw[hq,hq2];rfl,HU.o⟩
 obtain⟨t1,rfl,ht1,hX⟩:=hcut;have HZ:=ah hX;have HT1:=ah ht1;clear hX ht1 HY c0 c1 c2 c3 c4 c5 c6 c7 c8 c9 c10 c11 c12 c13 c14 c15 c16;rw[<- HT1.o]at HS;clear HT1;cases t1
 case true=>go_wp2_with fail;go_ret;exact⟨aZ HS.o.symm,HZ.o.1⟩
 obtain⟨-,⟨-,c0⟩,⟨-,c1⟩,⟨-,c2⟩,⟨-,c3⟩,⟨-,c4⟩,⟨-,c5⟩,⟨-,c6⟩,⟨-,c7⟩,⟨-,c8⟩,⟨-,c9⟩,⟨-,c10⟩,⟨-,c11⟩,⟨-,c12⟩,⟨-,c13⟩,⟨-,c14⟩,⟨-,c15⟩,⟨-,c16⟩,-⟩:=HZ.o;go_upto_region 4 with fail;go_cut [45] (λs' W3=>wc=W3∧∃t,s'= .bool t∧(!t)=(decide ((h.idx.len:Int)<=1)&&(!decide ((h.idx.len:Int)=1)||bI)))
 case first=>
  go_wp2_with fail
  all_goals go_meet
  all_goals exact⟨rfl,_,rfl,by go_light;grind⟩
 obtain⟨rfl,t2,rfl,ht2⟩:=hcut;have HT2:=ah ht2;rw[<- HT2.o]at HS;clear HT2 ht2;cases t2
 case true=>go_wp2_with fail;go_ret;exact⟨aZ (HS.o.trans (by simp)).symm,HZ.o.1⟩
 have HXI:=ah (dY.o.same HZ.o.1);have hrow:=HXI.o.2.1;have hall:=HXI.o.1;clear hall;go_wp2_with fail;go_loopw [6,49] (λ_ s' wr=> ∃(k:Nat) (R:bC),s'= .int .i64 k∧k+R.len=h.idx.len∧kZ h.idx=kZ R∧R.At wr wr.heap.size eu k∧Sit w wr ((n2,0,.bool bN)::(n2,1,.bool bA)::(n2,2,.bool bI)::(n2,3,.bool bX)::(n2,4,.bool bB)::(n2,5,.bool bE)::ql w.heap.size h b e ⟨eu,dI,dR,cO,bR,aY,fH,dX⟩ [])) (λ_ s' _=>h.idx.len -(intOf s').toNat)
 case atStart=>exact⟨0,h.idx,rfl,by simp,rfl,hrow,HZ.o⟩
 case round=>
  obtain⟨k,R,rfl,hlen,heq,hrow',hsit⟩:=hrel;have HE:=ah heq;have HU:=ah hsit;clear heq hsit HZ hrow HXI c0 c1 c2 c3 c4 c5 c6 c7 c8 c9 c10 c11 c12 c13 c14 c15 c16;cases R with
  |cons op' n' nm' iD rest=>
   obtain⟨⟨b',off',nR,cap',rfl,iL,x0,x1,x2,x3,hok',ko⟩,hrest⟩:=hrow';have hlt:k<h.idx.len:=by simp only[bC.len]at hlen;omega
   go_wp2_with fail;have hba:=ak wr (.cells #[.int .i64 op',.int .i64 n',.string nm',.slice nR iD.len cap'] 88);refine(xX op' n' nm' iD _ _ _ hok' (ko.same hba) ((iF.o.same HU.o.1).same hba)).mono ?_;rintro e' w2 ⟨rfl,hb2⟩;have HB3:=ah (hba.trans (hb2.mono (by simp)));clear hba hb2 x0 x1 x2 x3 ko;cases hS:iY op' n' nm' iD
   ·rw[HE.o,mG,hS]at HS;go_wp2_with fail;go_ret;exact⟨aZ (HS.o.trans (by simp)).symm,(HU.o.next HB3.o).1⟩
   ·have HF:=ah (HE.o.trans (by rw[mG,hS];rfl:kZ (.cons op' n' nm' iD rest)=kZ rest));go_wp2_with fail;go_roundw
    case rel=>exact⟨k+1,rest,by go_num,by simp only[bC.len]at hlen;omega,HF.o,hrest.same HB3.o,HU.o.next HB3.o⟩
    case measure=>simp[intOf];omega
  |nil=>
   obtain rfl:k=h.idx.len:=by simpa[bC.len]using hlen
   rw[HE.o]at HS;clear HE hrow' hlen;obtain⟨-,⟨-,c0⟩,⟨-,c1⟩,⟨-,c2⟩,⟨-,c3⟩,⟨-,c4⟩,⟨-,c5⟩,⟨-,c6⟩,⟨-,c7⟩,⟨-,c8⟩,⟨-,c9⟩,⟨-,c10⟩,⟨-,c11⟩,⟨-,c12⟩,⟨-,c13⟩,⟨-,c14⟩,⟨-,c15⟩,⟨-,c16⟩,-⟩:=HU.o;have hba:=iF.o.same HU.o.1;go_upto_region 12 with fail;go_cut [75] (λs' W3=> ∃t,s'= .bool t∧(!t)=(if bX then iY h.cu h.xn h.bZ h.aK else pU h.cu h.xn h.bZ h.aK.len)∧Sit w W3 ((n2,0,.bool bN)::(n2,1,.bool bA)::(n2,2,.bool bI)::(n2,3,.bool bX)::(n2,4,.bool bB)::(n2,5,.bool bE)::ql w.heap.size h b e ⟨eu,dI,dR,cO,bR,aY,fH,dX⟩ []))
   case first=>
    cases bX
    ·go_wp2_with fail;refine(Po _ _ _ _ _ _ _).mono ?_;rintro e' w3 ⟨rfl,hb3⟩;have HV:=ah (HU.o.next hb3);clear hb3;cases hq:pU h.cu h.xn h.bZ h.aK.len
     all_goals go_wp2_with fail
     all_goals go_meet
     all_goals exact⟨_,rfl,hq.symm,HV.o⟩
    ·go_wp2_with fail;refine(xX _ _ _ _ _ _ _ hxk (dY.o.same HU.o.1).2.2.1 hba).mono ?_;rintro e' w3 ⟨rfl,hb3⟩;have HV:=ah (HU.o.next hb3);clear hb3 HU c0 c1 c2 c3 c4 c5 c6 c7 c8 c9 c10 c11 c12 c13 c14 c15 c16;obtain⟨-,⟨-,c0⟩,⟨-,c1⟩,⟨-,c2⟩,⟨-,c3⟩,⟨-,c4⟩,⟨-,c5⟩,⟨-,c6⟩,⟨-,c7⟩,⟨-,c8⟩,⟨-,c9⟩,⟨-,c10⟩,⟨-,c11⟩,⟨-,c12⟩,⟨-,c13⟩,⟨-,c14⟩,⟨-,c15⟩,⟨-,c16⟩,-⟩:=HV.o;cases hq:iY h.cu h.xn h.bZ h.aK
     all_goals go_wp2_with fail
     all_goals go_meet
     all_goals exact⟨_,rfl,hq.symm,HV.o⟩
   obtain⟨t3,rfl,ht3,hX⟩:=hcut;have HV:=ah hX;have HT3:=ah ht3;clear hX ht3 HU hba c0 c1 c2 c3 c4 c5 c6 c7 c8 c9 c10 c11 c12 c13 c14 c15 c16;rw[<- HT3.o]at HS;clear HT3;cases t3
   case true=>go_wp2_with fail;go_ret;exact⟨aZ (HS.o.trans (by simp)).symm,HV.o.1⟩
   obtain⟨-,⟨-,c0⟩,⟨-,c1⟩,⟨-,c2⟩,⟨-,c3⟩,⟨-,c4⟩,⟨-,c5⟩,⟨-,c6⟩,⟨-,c7⟩,⟨-,c8⟩,⟨-,c9⟩,⟨-,c10⟩,⟨-,c11⟩,⟨-,c12⟩,⟨-,c13⟩,⟨-,c14⟩,⟨-,c15⟩,⟨-,c16⟩,-⟩:=HV.o;go_upto_region 14 with fail;go_cut [95] (λs' W3=>wc=W3∧∃t,s'= .bool t∧(!t)=((bB||decide ((b.len:Int)<=0))&&(bE||decide ((e.len:Int)<=0))))
   case first=>
    cases bB
    all_goals cases bE
    all_goals go_wp2_with fail
    all_goals go_meet
    all_goals exact⟨rfl,_,rfl,by go_light;grind⟩
   obtain⟨rfl,t4,rfl,V8⟩:=hcut;have Gu:=ah V8;rw[<- Gu.o]at HS;clear Gu V8;cases t4
   case true=>go_wp2_with fail;go_ret;exact⟨aZ (HS.o.trans (by simp)).symm,HV.o.1⟩
   go_wp2_with fail;refine(za b MJ.o _ _ _ XO (dY.o.same HV.o.1).2.2.2.1 (iF.o.same HV.o.1)).mono ?_;rintro e' w4 ⟨rfl,hb4⟩;have HA:=ah (HV.o.next hb4);clear hb4 HV c0 c1 c2 c3 c4 c5 c6 c7 c8 c9 c10 c11 c12 c13 c14 c15 c16;obtain⟨-,⟨-,c0⟩,⟨-,c1⟩,⟨-,c2⟩,⟨-,c3⟩,⟨-,c4⟩,⟨-,c5⟩,⟨-,c6⟩,⟨-,c7⟩,⟨-,c8⟩,⟨-,c9⟩,⟨-,c10⟩,⟨-,c11⟩,⟨-,c12⟩,⟨-,c13⟩,⟨-,c14⟩,⟨-,c15⟩,⟨-,c16⟩,-⟩:=HA.o;cases hq:eG b
   ·rw[hq]at HS;go_wp2_with fail;go_ret;exact⟨aZ (HS.o.trans (by simp)).symm,HA.o.1⟩
   ·rw[hq]at HS;go_wp2_with fail;refine(za e HIE.o _ _ _ XQ (dY.o.same HA.o.1).2.2.2.2 (iF.o.same HA.o.1)).mono ?_;rintro e' w5 ⟨rfl,hb5⟩;go_wp2_with fail;go_ret;exact⟨aZ (HS.o.trans (by simp[kZ])).symm,(HA.o.next hb5).1⟩
theorem Kr (l:aH) (w:World) (ao:Option Addr) (cap:Nat) (hl:l.len<=maxLen) (hat:l.At w w.heap.size ao 0) (dG:dD w):
 Calls Tryz.prog 47 #[.slice ao l.len cap] w λe' w'=>e'= .returned (.bool (eG l))∧Below w.heap.size w w':=
 za l (aH.lM JO l) w ao cap hl hat dG
theorem RL (p:Pr) (w:World) (aB aD:Option Addr) (aA ay:Nat) (hp:p.At w aB aD) (dG:dD w):
 Calls Tryz.prog 26 #[.agg #[.slice aB p.ds.length aA,.slice aD p.ts.length ay]] w λe w'=>e= .returned (.bool (oZ p))∧Below w.heap.size w w':=by
 have HS:aj (oZ p=((p.ds.all iw&&p.ts.all nL)&&decide ((0:Int)<p.ts.length))):=ah rfl;generalize oZ p=res at *;have hld:=hp.1;have hlt:=hp.2.1;unfold maxLen at hld hlt;have HP:=ah hp;have iF:=ah dG;clear hp dG;go_enter Tryz.func26,Tryz.ntmps26;go_upto_region 1 with fail;generalize hW:World.alloc w _=W;generalize Value.agg #[_,_]=a0;have HX:=ah ((Sit.start w).vg rfl (.slice aB p.ds.length aA) (.slice aD p.ts.length ay) 25);rw[hW]at HX;clear hW;obtain⟨-,⟨-,c0⟩,⟨-,c1⟩,-⟩:=HX.o;have hde:=(HP.o.same HX.o.1).2.2.1;go_wp2_with fail;go_loopw [4,12] (λ_ s wr=> ∃(k:Nat) (R:List De),s= .int .i64 k∧k+R.length=p.ds.length∧p.ds.all iw=R.all iw∧gM wr wr.heap.size R aB k∧Sit w wr [(w.heap.size,0,(.slice aB p.ds.length aA)),(w.heap.size,1,(.slice aD p.ts.length ay))]) (λ_ s _=>p.ds.length -(intOf s).toNat)
 case atStart=>exact⟨0,p.ds,rfl,by simp,rfl,hde,HX.o⟩
 case round=>
  obtain⟨k,R,rfl,hlen,heq,hrow,hsit⟩:=hrel;have HZ:=ah hsit;have HE:=ah heq;clear hsit HX c0 c1 hde heq;cases R with
  |cons d R=>
   obtain⟨⟨b,off,rfl,hB,x0,x1,x2,x3,x4,x5,hok⟩,hrest⟩:=hrow;simp only[List.length_cons]at hlen;have hkl:k<p.ds.length:=by omega
   have mZ:=ah hok;clear hok;go_wp2_with fail;have hba:=ak wr (.cells #[.int .i64 d.kind,.int .i64 d.line,.string d.nm,.int .i64 d.size,.int .i64 d.init,.string d.on] 75);refine(Kq d _ ((iF.o.same HZ.o.1).same hba) mZ.o).mono ?_;rintro e' w2 ⟨rfl,hb2⟩;have HB3:=ah (hba.trans (hb2.mono (by simp)));clear hba hb2 x0 x1 x2 x3 x4 x5;cases hS:iw d
   ·rw[HE.o,List.all_cons,hS]at HS;go_wp2_with fail;go_ret;exact⟨aZ (HS.o.trans (by simp)).symm,(HZ.o.next HB3.o).1⟩
   ·have HF:=ah (HE.o.trans (by rw[List.all_cons,hS];rfl:_=R.all iw));go_wp2_with fail;go_roundw
    case rel=>exact⟨k+1,R,by go_num,by omega,HF.o,hrest.same HB3.o,HZ.o.next HB3.o⟩
    case measure=>simp[intOf];omega
  |nil=>
   obtain rfl:k=p.ds.length:=by simpa using hlen
   rw[HE.o]at HS;obtain⟨-,⟨-,c0⟩,⟨-,c1⟩,-⟩:=HZ.o;have hth:=(HP.o.same HZ.o.1).2.2.2;clear HE hrow hlen;go_wp2_with fail;go_loopw [6,8,23,31,32,33,34,35] (λ_ _ s _ _ _ _ _ wr=> ∃(k:Nat) (R:List Th),s= .int .i64 k∧k+R.length=p.ts.length∧p.ts.all nL=R.all nL∧fQ wr wr.heap.size R aD k∧Sit w wr [(w.heap.size,0,(.slice aB p.ds.length aA)),(w.heap.size,1,(.slice aD p.ts.length ay))]) (λ_ _ s _ _ _ _ _ _=>p.ts.length -(intOf s).toNat)
   case atStart=>exact⟨0,p.ts,rfl,by simp,rfl,hth,HZ.o⟩
   case round=>
    obtain⟨k,R,rfl,hlen,heq,hrow,hsit⟩:=hrel;have HU:=ah hsit;have HE:=ah heq;clear hsit HZ c0 c1 hth heq;cases R with
    |nil=>obtain rfl:k=p.ts.length:=(by simpa using hlen);rw[HE.o]at HS;obtain⟨-,⟨-,c0⟩,⟨-,c1⟩,-⟩:=HU.o;go_wp2_with fail;go_ret;exact⟨aZ (HS.o.trans (by simp)).symm,HU.o.1⟩
    |cons t R=>
     obtain⟨⟨b,off,fC,dw,bR,aY,rfl,hB,x0,x1,x2,x3,hok,htx,hst⟩,hrest⟩:=hrow;simp only[List.length_cons]at hlen;have hkl:k<p.ts.length:=(by omega);have hll:=hok.2.2.1;have mZ:=ah hok;have Ah:=ah htx;have HST:=ah hst;unfold maxLen at hll;clear hok htx hst;go_upto_region 10 with fail;obtain⟨n2,hn2⟩: ∃n,wr.heap.size=n:=⟨_,rfl⟩;generalize hW2:World.alloc wr _=W2;have HB2:aj (Below wr.heap.size wr W2):=ah (by rw[<- hW2];exact ak _ _);have HV:aj (Sit w W2 ((n2,0,.string t.nm)::(n2,1,.int .i64 t.line)::(n2,2,.slice fC t.bg.length dw)::(n2,3,.slice bR t.body.len aY)::[(w.heap.size,0,(.slice aB p.ds.length aA)),(w.heap.size,1,(.slice (some ⟨b,off,none⟩) p.ts.length ay))])):=ah (by rw[<- hW2];exact HU.o.yh hn2 _ _ _ _ _);rw[hn2];clear hW2 hn2 x0 x1 x2 x3;obtain⟨-,⟨-,c0⟩,⟨-,c1⟩,⟨-,c2⟩,⟨-,c3⟩,⟨-,c4⟩,⟨-,c5⟩,-⟩:=HV.o;go_wp2_with fail;refine(wP _ _ (iF.o.same HV.o.1) mZ.o.1).mono ?_;rintro e' w3 ⟨rfl,hb3⟩;have HB3:=ah hb3;have HA:=ah (HV.o.next hb3);clear hb3 HV c0 c1 c2 c3 c4 c5;obtain⟨-,⟨-,c0⟩,⟨-,c1⟩,⟨-,c2⟩,⟨-,c3⟩,⟨-,c4⟩,⟨-,c5⟩,-⟩:=HA.o;cases hN:Tk.iC t.nm.data.toList
     ·rw[HE.o,List.all_cons,show nL t=false by unfold nL;rw[hN];rfl]at HS;go_wp2_with fail;go_ret;exact⟨aZ (HS.o.trans (by simp)).symm,HA.o.1⟩
     ·have hrow:=Ah.o.same (HB2.o.trans (HB3.o.mono HB2.o.size));have uD:=ah (HB2.o.trans (HB3.o.mono HB2.o.size));clear HB2 HB3;go_wp2_with fail;obtain⟨wo,rfl⟩: ∃wo:World,wo=wr:=⟨_,rfl⟩;go_loopw [8,34] (λ_ s wr=> ∃(k:Nat) (R:List ByteArray),s= .int .i64 k∧k+R.length=t.bg.length∧t.bg.all (λs=>Tk.iC s.data.toList)=R.all (λs=>Tk.iC s.data.toList)∧eD wr wr.heap.size R fC k∧Below wo.heap.size wo wr∧Sit w wr ((n2,0,.string t.nm)::(n2,1,.int .i64 t.line)::(n2,2,.slice fC t.bg.length dw)::(n2,3,.slice bR t.body.len aY)::[(w.heap.size,0,(.slice aB p.ds.length aA)),(w.heap.size,1,(.slice (some ⟨b,off,none⟩) p.ts.length ay))])) (λ_ s _=>t.bg.length -(intOf s).toNat)
      case atStart=>exact⟨0,t.bg,rfl,by simp,rfl,hrow,uD.o,HA.o⟩
      case round=>
       obtain⟨k',R',rfl,hlen',heq',hrow',UY,Jv⟩:=hrel;have HC:=ah Jv;have Bc:=ah UY;have bV:=ah heq';clear Jv HA c0 c1 c2 c3 c4 c5 hrow heq' UY uD;cases R' with
       |cons s R'=>
        obtain⟨⟨b',off',rfl,hB',y0,hs⟩,hrest'⟩:=hrow';simp only[List.length_cons]at hlen';have hkl':k'<t.bg.length:=(by omega);go_wp2_with fail;refine(wP _ _ (iF.o.same HC.o.1) hs).mono ?_;rintro e' w3 ⟨rfl,hb3⟩;have dH:=ah hb3;clear hb3;cases F4:Tk.iC s.data.toList
        ·rw[HE.o,List.all_cons,show nL t=false by unfold nL;rw[bV.o,List.all_cons,F4];simp]at HS;go_wp2_with fail;go_ret;exact⟨aZ (HS.o.trans (by simp)).symm,(HC.o.next dH.o).1⟩
        ·have HF:=ah (bV.o.trans (by rw[List.all_cons,F4];rfl:_=R'.all (λs=>Tk.iC s.data.toList)));go_wp2_with fail;go_roundw
         case rel=>exact⟨k'+1,R',by go_num,by omega,HF.o,hrest'.same dH.o,Bc.o.trans (dH.o.mono Bc.o.size),HC.o.next dH.o⟩
         case measure=>simp[intOf];omega
       |nil=>
        obtain rfl:k'=t.bg.length:=(by simpa using hlen');obtain⟨-,⟨-,c0⟩,⟨-,c1⟩,⟨-,c2⟩,⟨-,c3⟩,⟨-,c4⟩,⟨-,c5⟩,-⟩:=HC.o;go_wp2_with fail;refine(Kr t.body _ _ _ mZ.o.2.2.2 (HST.o.1.same Bc.o) (iF.o.same HC.o.1)).mono ?_;rintro e' w3 ⟨rfl,hb3⟩;have dH:=ah hb3;clear hb3;have HT:aj (nL t=eG t.body):=ah (by unfold nL;rw[hN,bV.o];rfl);cases F4:eG t.body
        ·rw[HE.o,List.all_cons,HT.o,F4]at HS;go_wp2_with fail;go_ret;exact⟨aZ (HS.o.trans (by simp)).symm,(HC.o.next dH.o).1⟩
        ·have HF:=ah (HE.o.trans (by rw[List.all_cons,HT.o,F4];rfl:_=R.all nL));have IB:=ah (Bc.o.trans (dH.o.mono Bc.o.size));have HSQ:=ah (HU.o.next IB.o);go_wp2_with fail;go_roundw
         case rel=>exact⟨k+1,R,by go_num,by omega,HF.o,hrest.same IB.o,HSQ.o⟩
         case measure=>simp[intOf];omega
end Go.Proofs.YtkmllehjemjgpaaGreatDoor
