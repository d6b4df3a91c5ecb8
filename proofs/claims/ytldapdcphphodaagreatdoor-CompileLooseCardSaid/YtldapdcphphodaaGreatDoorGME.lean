/- Contracts of parse.operands, nameOrEmpty, ShapedExpr. And what hangs on it. -/
import Derived.Test.YtldapdcphphodaaGreatDoorGMB
import Derived.Test.YtldapdcphphodaaGreatDoorGNA
import Derived.Deep.CutBlock
set_option linter.unusedSimpArgs false
set_option linter.unusedVariables false
set_option maxHeartbeats 40000000
set_option maxRecDepth 1000000
namespace Go.Proofs.YtldapdcphphodaaGreatDoor
open Go.RowKit
open Md
theorem yC (op:Int) (w:World):
 Calls Tryz.prog 156 #[.int .i64 op] w λe w'=>e= .returned (.int .i64 (opsOf op))∧w=w':=by
 unfold opsOf;go_enter Tryz.func156,Tryz.ntmps156;go_wp2
 all_goals go_ret
 all_goals refine⟨bW ?_,rfl⟩
 all_goals first|(simp[*];done)|((repeat' split) <;> simp_all <;> omega)
theorem uf (s:ByteArray) (b:Bool) (w:World) (eD:dZ w) (hm:s.size<=maxLen):
 Calls Tryz.prog 88 #[.string s,.bool b] w λe w'=>e= .returned (.bool (kP s b))∧Below w.heap.size w w':=by
 cases b
 ·go_enter Tryz.func88,Tryz.ntmps88;go_wp2;go_ret;exact⟨by simp[kP,Lib.toList_data],ak _ _⟩
 ·go_enter Tryz.func88,Tryz.ntmps88;go_wp2_with (go_at_call 54;refine(xX _ _ eD hm).mono ?_;rintro e w' ⟨rfl,hb⟩);go_ret;exact⟨rfl,hb⟩
theorem Q9 (op:Int) (w:World):
 Calls Tryz.prog 121 #[.int .i64 op] w λe w'=>e= .returned (.tuple #[.agg #[.bool (fN op),.bool (fA op),.bool (fI op),.bool (fX op),.bool (fB op),.bool (fE op)],.bool (fO op)])∧Below w.heap.size w w':=by
 have hop:op=1∨op=2∨op=3∨op=4∨op=5∨op=6∨op=7∨op=8∨op=9∨op=10∨op=11∨op=12∨op=13∨op=14∨op=15∨(op<1∨15<op):=ahe
 rcases hop with rfl|rfl|rfl|rfl|rfl|rfl|rfl|rfl|rfl|rfl|rfl|rfl|rfl|rfl|rfl|hop
 case inr.inr.inr.inr.inr.inr.inr.inr.inr.inr.inr.inr.inr.inr.inr=>
  have e1:fN op=false:=by unfold fN;grind
  have e2:fA op=false:=by unfold fA;grind
  have e3:fI op=false:=by unfold fI;grind
  have e4:fX op=false:=by unfold fX;grind
  have e5:fB op=false:=by unfold fB;grind
  have e6:fE op=false:=by unfold fE;grind
  have e7:fO op=false:=by unfold fO;grind
  rw[e1,e2,e3,e4,e5,e6,e7];clear e1 e2 e3 e4 e5 e6 e7;have g1:(op==1)=false:=acN
  have g2:(op==2)=false:=acN
  have g3:(op==3)=false:=acN
  have g4:(op==4)=false:=acN
  have g5:(op==5)=false:=acN
  have g6:(op==6)=false:=acN
  have g7:(op==7)=false:=acN
  have g8:(op==8)=false:=acN
  have g9:(op==9)=false:=acN
  have g10:(op==10)=false:=acN
  have g11:(op==11)=false:=acN
  have g12:(op==12)=false:=acN
  have g13:(op==13)=false:=acN
  have g14:(op==14)=false:=acN
  have g15:(op==15)=false:=acN
  clear hop;go_enter Tryz.func121,Tryz.ntmps121;go_wp2;exact bodyPost_ret (v:= .tuple #[.agg #[.bool _,.bool _,.bool _,.bool _,.bool _,.bool _],.bool _]) (by simp[results,Tryz.results121,go_sem]) rfl ⟨rfl,aA _ _⟩
 all_goals go_enter Tryz.func121,Tryz.ntmps121;go_wp2;exact bodyPost_ret (v:= .tuple #[.agg #[.bool _,.bool _,.bool _,.bool _,.bool _,.bool _],.bool _]) (by simp[results,Tryz.results121,go_sem];decide) rfl ⟨rfl,aA _ _⟩
theorem RB (op n:Int) (nm:ByteArray) (len cap:Nat) (ao:Option Addr) (w:World):
 Calls Tryz.prog 123 #[.agg #[.int .i64 op,.int .i64 n,.string nm,.slice ao len cap]] w λe w'=>e= .returned (.bool (qN op n nm len))∧Below w.heap.size w w':=by
 have HE:aj (qN op n nm len=(((decide (op=0)&&decide (n=0))&&decide (nm.toList=[]))&&decide (len=0))):=ah aej;go_enter Tryz.func123,Tryz.ntmps123;go_wp2
 all_goals go_ret
 all_goals refine⟨bZ ?_,aA _ _⟩
 all_goals rw[HE.o]
 all_goals (go_light;grind)
theorem MF (d:De) (w:World) (eD:dZ w) (hok:d.Ok):
 Calls Tryz.prog 53 #[.agg #[.int .i64 d.kind,.int .i64 d.line,.string d.nm,.int .i64 d.size,.int .i64 d.init,.string d.on]] w λe w'=>e= .returned (.bool (iV d))∧Below w.heap.size w w':=by
 obtain⟨⟨k1,k2⟩,-,hm,-,-,ho⟩:=hok;obtain⟨kind,line,nm,size,init,on⟩:=d;have HE:aj (iV ⟨kind,line,nm,size,init,on⟩=((((decide (1<=kind)&&decide (kind<=6))&&Tk.iZ nm.data.toList)&&(decide (0<=size)&&(decide (size=0)||decide (kind=1))))&&((!decide (init= -9223372036854775808)&&(decide (init=0)||(decide (kind=1)||decide (kind=2))))&&kP on (kind==5)))):=ah abW;dsimp only at *;generalize iV ⟨kind,line,nm,size,init,on⟩=res at *;go_enter Tryz.func53,Tryz.ntmps53;go_upto_region 1 with fail;generalize hW:World.alloc w _=W;generalize Value.agg #[_,_,_,_,_,_]=a0;have HX:=ah ((Sit.start w).PO rfl (.int .i64 kind) (.int .i64 line) (.string nm) (.int .i64 size) (.int .i64 init) (.string on) 55);rw[hW]at HX;clear hW;obtain⟨-,⟨-,c0⟩,⟨-,c1⟩,⟨-,c2⟩,⟨-,c3⟩,⟨-,c4⟩,⟨-,c5⟩,-⟩:=HX.o;go_cut [16] (λs W2=> ∃b,s= .bool b∧(!b)=((decide (1<=kind)&&decide (kind<=6))&&Tk.iZ nm.data.toList)∧Sit w W2 [(w.heap.size,0,.int .i64 kind),(w.heap.size,1,.int .i64 line),(w.heap.size,2,.string nm),(w.heap.size,3,.int .i64 size),(w.heap.size,4,.int .i64 init),(w.heap.size,5,.string on)])
 case first=>
  go_wp2_with (go_at_call 54;refine(xX _ _ (eD.same HX.o.1) hm).mono ?_;rintro e w' ⟨rfl,hb⟩)
  all_goals go_meet
  all_goals first|exact⟨_,rfl,ahB,HX.o.next ‹_›⟩|exact⟨_,rfl,ahB,HX.o⟩
 obtain⟨b1,rfl,hb1,hX⟩:=hcut;have HY:=ah hX;have HB1:=ah hb1;clear hX HX hb1 c0 c1 c2 c3 c4 c5;obtain⟨-,⟨-,c0⟩,⟨-,c1⟩,⟨-,c2⟩,⟨-,c3⟩,⟨-,c4⟩,⟨-,c5⟩,-⟩:=HY.o;cases b1
 ·cases h5:(kind==5)
  all_goals rw[h5]at HE;go_wp2_with (go_at_call 88;refine(uf _ _ _ (eD.same HY.o.1) ho).mono ?_;rintro e w' ⟨rfl,hb⟩)
  all_goals go_ret
  all_goals first|refine⟨bZ ?_,(HY.o.next ‹_›).1⟩|refine⟨bZ ?_,HY.o.1⟩
  all_goals rw[HE.o,<- HB1.o]
  all_goals (go_light;grind)
 ·go_wp2_with fail;go_ret;refine⟨bZ ?_,HY.o.1⟩;rw[HE.o,<- HB1.o];rfl
def Ig (op n:Int) (nm:ByteArray) (kids:bY):Prop:=
 ∀(w:World) (ao:Option Addr) (cap:Nat),ru op n nm kids->kids.At w w.heap.size ao 0->dZ w->
  Calls Tryz.prog 122 #[.agg #[.int .i64 op,.int .i64 n,.string nm,.slice ao kids.len cap]] w λe w'=>e= .returned (.bool (jJ op n nm kids))∧Below w.heap.size w w'
theorem af8 {op n:Int} {nm:ByteArray} {kids:bY} (h:((kids.len:Int)==opsOf op)=false):jJ op n nm kids=false:=by unfold jJ I5;rw[h];rfl
theorem YA {op n:Int} {nm:ByteArray} {kids:bY} (h:n<0∨((n==0)=false∧(op==1)=false)):jJ op n nm kids=false:=by
 unfold jJ I5;rcases h with h|⟨h,h'⟩
 ·rw[decide_eq_true h];simp
 ·rw[h,h'];simp
theorem au5 {op n:Int} {nm:ByteArray} {kids:bY} {b:Bool} (hb:named op=b) (h:kP nm b=false):jJ op n nm kids=false:=by
 unfold jJ I5;rw[hb,h];simp
theorem af9 {op n:Int} {nm:ByteArray} {kids:bY} {b:Bool} (h1:((kids.len:Int)==opsOf op)=true) (h2:0<=n) (h3:(n==0)=true∨(op==1)=true) (hb:named op=b) (h:kP nm b=true):jJ op n nm kids=mJ kids:=by
 unfold jJ I5;rw[hb,h,h1,decide_eq_false ahe];rcases h3 with h3|h3 <;> rw[h3] <;> simp
theorem ar6 (op n:Int):(n<0)∨(0<n∧op≠1)∨
 ∃b,named op=b∧0<=n∧((n==0)=true∨(op==1)=true)∧
  ((0<n∧op=1∧b=false)∨(n=0∧op=2∧b=true)∨(n=0∧op=3∧b=true)∨(n=0∧(op==2)=false∧(op==3)=false∧b=false)):=by
 by_cases h:n<0
 ·exact Or.inl h
 ·by_cases h0:n=0
  ·subst h0;by_cases h2:op=2
   ·subst h2;exact Or.inr (Or.inr ⟨true,rfl,ahe,Or.inl rfl,ahg⟩)
   ·by_cases h3:op=3
    ·subst h3;exact Or.inr (Or.inr ⟨true,rfl,ahe,Or.inl rfl,ahg⟩)
    ·exact Or.inr (Or.inr ⟨false,by simp[named,h2,h3],ahe,Or.inl rfl,by simp[h2,h3]⟩)
  ·by_cases h1:op=1
   ·subst h1;exact Or.inr (Or.inr ⟨false,rfl,ahe,Or.inr rfl,ahh⟩)
   ·exact Or.inr (Or.inl ⟨ahe,h1⟩)
theorem nM (op n:Int) (nm:ByteArray) (kids rest:bY):mJ (.cons op n nm kids rest)=(jJ op n nm kids&&mJ rest):=rfl
def SV (kids R:bY) (k:Nat):Prop:=k+R.len=kids.len∧mJ kids=mJ R
theorem Kz (op n:Int) (nm:ByteArray) (kids:bY) (ih:kids.All Ig):Ig op n nm kids:=by
 intro w ao cap hok hat eD;obtain⟨⟨o1,o2⟩,⟨n1,n2⟩,hm,hl⟩:=hok;unfold maxLen at hl;have hl':kids.len<=9223372036854775807:=hl;rcases ar6 op n with hn|⟨hn,q1⟩|⟨b,hb,hn,hor,hq⟩
 ·have HR:=ah (YA (nm:=nm) (kids:=kids) (op:=op) (Or.inl hn));go_enter Tryz.func122,Tryz.ntmps122;go_wp2_with fail;generalize hW:World.alloc w _=W;have HX:=ah (vI.mk hW);clear hW;obtain⟨-,-,c0,c1,c2,c3⟩:=HX.o;go_quiet (first|(go_at_call 156;refine nu (yC _ _)));go_wp2_with fail
  all_goals go_ret
  all_goals exact⟨bZ HR.o.symm,(HX.o.draws _).1⟩
 ·have HR:=ah (YA (nm:=nm) (kids:=kids) (Or.inr ⟨beq_eq_false_iff_ne.2 (show n≠0 by omega),beq_eq_false_iff_ne.2 q1⟩));have q1':(op != 1)=true:=bne_iff_ne.2 q1;have q0':(n != 0)=true:=bne_iff_ne.2 ahe;go_enter Tryz.func122,Tryz.ntmps122;go_wp2_with fail;generalize hW:World.alloc w _=W;have HX:=ah (vI.mk hW);clear hW;obtain⟨-,-,c0,c1,c2,c3⟩:=HX.o;go_quiet (first|(go_at_call 156;refine nu (yC _ _)));go_wp2_with fail
  all_goals go_ret
  all_goals exact⟨bZ HR.o.symm,(HX.o.draws _).1⟩
 ·by_cases h1:((kids.len:Int)==opsOf op)=false
  ·have HR:=ah (af8 (n:=n) (nm:=nm) h1);have h1':((kids.len:Int) != opsOf op)=true:=by unfold bne;rw[h1];rfl
   go_enter Tryz.func122,Tryz.ntmps122;go_wp2_with fail;generalize hW:World.alloc w _=W;have HX:=ah (vI.mk hW);clear hW;obtain⟨-,-,c0,c1,c2,c3⟩:=HX.o;go_quiet (first|(go_at_call 156;refine nu (yC _ _)));go_wp2_with fail;go_ret;exact⟨bZ HR.o.symm,(HX.o.draws _).1⟩
  ·have h1':((kids.len:Int)==opsOf op)=true:=by simpa using h1
   clear h1;have HY:=ah (λh:kP nm b=true=>af9 h1' hn hor hb h);have HN:=ah (λh:kP nm b=false=>au5 (n:=n) (kids:=kids) hb h);clear hb hor;have HAT:=ah hat;have oL:=ah ih;clear hat ih;have bD3:((kids.len:Int) != opsOf op)=false:=by unfold bne;rw[h1'];rfl
   clear h1';rcases hq with⟨q0,rfl,rfl⟩|⟨rfl,rfl,rfl⟩|⟨rfl,rfl,rfl⟩|⟨rfl,q2,q3,rfl⟩
   all_goals go_enter Tryz.func122,Tryz.ntmps122;go_wp2_with fail;generalize hW:World.alloc w _=W;have HX:=ah (vI.mk hW);clear hW;obtain⟨-,-,c0,c1,c2,c3⟩:=HX.o;go_quiet (first|(go_at_call 156;refine nu (yC _ _)));have G5:=ah (HX.o.draws nq);clear HX c0 c1 c2 c3;generalize W.drewN nq=wq at *;obtain⟨-,-,c0,c1,c2,c3⟩:=G5.o;go_wp2_with fail;refine(uf _ _ _ (eD.same G5.o.1) hm).mono ?_;rintro e w1 ⟨rfl,hb1⟩;have HZ:=ah (G5.o.next hb1);clear hb1 G5 c0 c1 c2 c3;obtain⟨-,-,c0,c1,c2,c3⟩:=HZ.o
   all_goals
    cases hN:kP nm _
    ·have HR:=ah (HN.o hN);clear HN HY;go_wp2_with fail;go_ret;exact⟨bZ HR.o.symm,HZ.o.1⟩
    ·have HR:=ah (HY.o hN);clear HN HY;go_wp2_with fail;go_loopw [40] (λi wr=> ∃k R,i= .int .i64 (k:Nat)∧SV kids R k∧R.All Ig∧R.At wr wr.heap.size ao k∧vI w wr (Value.int IntKind.i64 _) (Value.int IntKind.i64 _) (Value.string nm) (Value.slice ao kids.len cap)) (λi _=>kids.len -(intOf i).toNat)
     case atStart=>exact⟨0,kids,rfl,⟨aV _,rfl⟩,oL.o,HAT.o.same HZ.o.1,HZ.o⟩
     case round=>
      obtain⟨k,R,rfl,⟨hlen,heq⟩,hall,hrow,JK⟩:=hrel;have HT:=ah (HR.o.trans heq);cases R with
      |nil=>obtain rfl:k=kids.len:=afF;go_wp2_with fail;go_ret;exact⟨bZ HT.o.symm,JK.1⟩
      |cons op' n' nm' gM rest=>
       obtain⟨⟨b,off,kR,cap',rfl,jq,x0,x1,x2,x3,hok',lg⟩,hrest⟩:=hrow;obtain⟨iI,pI⟩:=hall;have hlt:k<kids.len:=acS;go_wp2_with fail;have hba:=(ak wr.heap.size wr).alloc (aH _) (.cells #[.int .i64 op',.int .i64 n',.string nm',.slice kR gM.len cap'] 99);refine(iI _ _ _ hok' (lg.same hba) ((eD.same JK.1).alloc _)).mono ?_;rintro e w2 ⟨rfl,hb2⟩;have hb3:=hba.trans (hb2.mono ahg);have kX:=ah (JK.next hb3);have hrest':=hrest.same hb3;clear hba hb2 hb3 JK hrest x0 x1 x2 x3 c0 c1 c2 c3 lg;cases hS:jJ op' n' nm' gM
       ·have HF:=ah (HT.o.trans (by rw[nM,hS];rfl:mJ (.cons op' n' nm' gM rest)=false));go_wp2_with fail;go_ret;exact⟨bZ HF.o.symm,kX.o.1⟩
       ·have HF:=ah (heq.trans (by rw[nM,hS];rfl:mJ (.cons op' n' nm' gM rest)=mJ rest));go_wp2_with fail;go_roundw
        case rel=>exact⟨k+1,rest,ahi,⟨acS,HF.o⟩,pI,hrest',kX.o⟩
        case measure=>simp[intOf];omega
theorem zn (op n:Int) (nm:ByteArray) (kids:bY):Ig op n nm kids:=bY.yB Kz op n nm kids
def DY (h:dM) (b e:aY):Prop:=
 ∀(w:World) (s:Sl),Dm w h b e s->dZ w->
  Calls Tryz.prog 90 #[jH h b e s] w λe' w'=>e'= .returned (.bool (Cn h b e))∧Below w.heap.size w w'
theorem Ah (l:aY) (hall:l.All DY) (w:World) (ao:Option Addr) (cap:Nat) (hl:l.len<=maxLen) (hat:l.At w w.heap.size ao 0) (eD:dZ w):
 Calls Tryz.prog 55 #[.slice ao l.len cap] w λe' w'=>e'= .returned (.bool (fT l))∧Below w.heap.size w w':=by
 unfold maxLen at hl;go_enter Tryz.func55,Tryz.ntmps55;go_wp2_with fail;go_loopw [4,7] (λ_ s wr=> ∃(k:Nat) (R:aY),s= .int .i64 k∧k+R.len=l.len∧fT l=fT R∧R.All DY∧R.At wr wr.heap.size ao k∧Below w.heap.size w wr) (λ_ s _=>l.len -(intOf s).toNat)
 case atStart=>exact⟨0,l,rfl,ahg,rfl,hall,hat,ak _ _⟩
 case round=>
  obtain⟨k,R,rfl,hlen,heq,pI,hrow,hB⟩:=hrel;have HE:=ah heq;clear heq;cases R with
  |nil=>
   obtain rfl:k=l.len:=afs
   go_wp2_with fail;go_ret;exact⟨bZ HE.o.symm,hB⟩
  |cons h b e R=>
   obtain⟨bl,off,s,rfl,hbl,hin,x0,x1,x2,x3,x4,x5,x6,x7,x8,x9,x10,hrest⟩:=aY.At.head hrow;obtain⟨iI,Cb⟩:=pI;have hkl:k<l.len:=acO
   clear hrow;go_wp2_with fail;have hba:=aA wr (.cells #[.int .i64 h.op,.int .i64 h.line,.string h.nm,.string h.arg,.slice s.fM h.idx.len s.eU,.int .i64 h.dQ,.int .i64 h.xn,.string h.dP,.slice s.fD h.bG.len s.dS,.slice s.dL b.len s.cK,.slice s.gJ e.len s.fH] 101);refine(iI _ s (hin.same hba) (eD.same (hB.trans (hba.mono hB.size)))).mono ?_;rintro e' w2 ⟨rfl,hb2⟩;have HB3:=ah (hba.trans (hb2.mono ahg));clear hba hb2 x0 x1 x2 x3 x4 x5 x6 x7 x8 x9 x10 hin;cases hS:Cn h b e
   ·have HF:=ah (HE.o.trans (by rw[Bf,hS];rfl:fT (.cons h b e R)=false));go_wp2_with fail;go_ret;exact⟨bZ HF.o.symm,hB.trans (HB3.o.mono hB.size)⟩
   ·have HF:=ah (HE.o.trans (by rw[Bf,hS];rfl:fT (.cons h b e R)=fT R));go_wp2_with fail;go_roundw
    case rel=>exact⟨k+1,R,ahi,acO,HF.o,Cb,hrest.same HB3.o,hB.trans (HB3.o.mono hB.size)⟩
    case measure=>simp[intOf];omega
theorem LU (h:dM) (b e:aY) (ihb:b.All DY) (XK:e.All DY):DY h b e:=by
 intro w s hin eD;obtain⟨fM,eU,fD,dS,dL,cK,gJ,fH⟩:=s;have HS:aj (Cn h b e=((((fO h.op&&(kP h.nm (fN h.op)&&kP h.arg (fA h.op)))&&((decide ((h.idx.len:Int)<=1)&&(!decide ((h.idx.len:Int)=1)||fI h.op))&&mJ h.idx))&&
  ((if fX h.op then jJ h.dQ h.xn h.dP h.bG else qN h.dQ h.xn h.dP h.bG.len)&&((fB h.op||decide ((b.len:Int)<=0))&&(fE h.op||decide ((e.len:Int)<=0)))))&&(fT b&&fT e))):=ah (by
  unfold Cn ou;rw[TK,TJ,Iu,Iu])
 generalize Cn h b e=res at *;have fF:=ah hin;have jc:=ah eD;have OQ:=ah ihb;have HIE:=ah XK;obtain⟨⟨⟨o1,o2⟩,-,hm,ha,hil,hxk,hbl,hel⟩,-⟩:=hin;clear eD ihb XK;have bp7:=hil;have ab4:=hbl;have ab6:=hel;have hxl:=hxk.2.2.2;unfold maxLen at hil hbl hel hxl;unfold jH;dsimp only;go_enter Tryz.func90,Tryz.ntmps90;go_upto_region 1 with fail;generalize hW:World.alloc w _=W;generalize Value.agg #[_,_,_,_,_,_,_,_,_,_,_]=a0;have HX:aj (Sit w W (qY w.heap.size h b e ⟨fM,eU,fD,dS,dL,cK,gJ,fH⟩ [])):=ah abx;clear hW;obtain⟨-,⟨-,c0⟩,⟨-,c1⟩,⟨-,c2⟩,⟨-,c3⟩,⟨-,c4⟩,⟨-,c5⟩,⟨-,c6⟩,⟨-,c7⟩,⟨-,c8⟩,⟨-,c9⟩,⟨-,c10⟩,-⟩:=HX.o;go_upto_region 2 with(go_at_call 121;refine(Q9 _ _).mono ?_;rintro e' w1 ⟨rfl,hb1⟩);have HB1:=ah hb1;clear hb1;generalize fN h.op=bN at *;generalize fA h.op=bA at *;generalize fI h.op=bI at *;generalize fX h.op=bX at *;generalize fB h.op=bB at *;generalize fE h.op=bE at *;generalize fO h.op=bO at *;obtain⟨n2,hn2⟩: ∃n,w1.heap.size=n:=⟨_,rfl⟩;generalize hW2:World.alloc w1 _=W2;have HY:aj (Sit w W2 ((n2,0,.bool bN)::(n2,1,.bool bA)::(n2,2,.bool bI)::(n2,3,.bool bX)::(n2,4,.bool bB)::(n2,5,.bool bE)::qY w.heap.size h b e ⟨fM,eU,fD,dS,dL,cK,gJ,fH⟩ [])):=ah (by rw[<- hW2];exact(HX.o.next HB1.o).PO hn2 _ _ _ _ _ _ _);rw[hn2];clear hW2 hn2 HX HB1 c0 c1 c2 c3 c4 c5 c6 c7 c8 c9 c10;obtain⟨-,⟨-,c0⟩,⟨-,c1⟩,⟨-,c2⟩,⟨-,c3⟩,⟨-,c4⟩,⟨-,c5⟩,⟨-,c6⟩,⟨-,c7⟩,⟨-,c8⟩,⟨-,c9⟩,⟨-,c10⟩,⟨-,c11⟩,⟨-,c12⟩,⟨-,c13⟩,⟨-,c14⟩,⟨-,c15⟩,⟨-,c16⟩,-⟩:=HY.o;go_cut [4,7,30] (λ_ _ s' W2=> ∃t,s'= .bool t∧(!t)=(bO&&(kP h.nm bN&&kP h.arg bA))∧Sit w W2 ((n2,0,.bool bN)::(n2,1,.bool bA)::(n2,2,.bool bI)::(n2,3,.bool bX)::(n2,4,.bool bB)::(n2,5,.bool bE)::qY w.heap.size h b e ⟨fM,eU,fD,dS,dL,cK,gJ,fH⟩ []))
 case first=>
  cases bO
  ·go_wp2_with fail;go_meet;exact⟨true,rfl,rfl,HY.o⟩
  ·go_wp2_with fail;refine(uf _ _ _ (jc.o.same HY.o.1) hm).mono ?_;rintro e' w3 ⟨rfl,hb3⟩;have HZ:=ah (HY.o.next hb3);clear hb3 HY c0 c1 c2 c3 c4 c5 c6 c7 c8 c9 c10 c11 c12 c13 c14 c15 c16;obtain⟨-,⟨-,c0⟩,⟨-,c1⟩,⟨-,c2⟩,⟨-,c3⟩,⟨-,c4⟩,⟨-,c5⟩,⟨-,c6⟩,⟨-,c7⟩,⟨-,c8⟩,⟨-,c9⟩,⟨-,c10⟩,⟨-,c11⟩,⟨-,c12⟩,⟨-,c13⟩,⟨-,c14⟩,⟨-,c15⟩,⟨-,c16⟩,-⟩:=HZ.o;cases hq:kP h.nm bN
   ·go_wp2_with fail;go_meet;exact⟨true,rfl,by rw[hq];rfl,HZ.o⟩
   ·go_wp2_with fail;refine(uf _ _ _ (jc.o.same HZ.o.1) ha).mono ?_;rintro e' w3 ⟨rfl,hb3⟩;have HU:=ah (HZ.o.next hb3);clear hb3 HZ c0 c1 c2 c3 c4 c5 c6 c7 c8 c9 c10 c11 c12 c13 c14 c15 c16;cases hq2:kP h.arg bA
    all_goals go_wp2_with fail
    all_goals go_meet
    all_goals exact⟨_,rfl,by rw[hq,hq2];rfl,HU.o⟩
 obtain⟨t1,rfl,ht1,hX⟩:=hcut;have HZ:=ah hX;have HT1:=ah ht1;clear hX ht1 HY c0 c1 c2 c3 c4 c5 c6 c7 c8 c9 c10 c11 c12 c13 c14 c15 c16;rw[<- HT1.o]at HS;clear HT1;cases t1
 case true=>go_wp2_with fail;go_ret;exact⟨bZ HS.o.symm,HZ.o.1⟩
 obtain⟨-,⟨-,c0⟩,⟨-,c1⟩,⟨-,c2⟩,⟨-,c3⟩,⟨-,c4⟩,⟨-,c5⟩,⟨-,c6⟩,⟨-,c7⟩,⟨-,c8⟩,⟨-,c9⟩,⟨-,c10⟩,⟨-,c11⟩,⟨-,c12⟩,⟨-,c13⟩,⟨-,c14⟩,⟨-,c15⟩,⟨-,c16⟩,-⟩:=HZ.o;go_upto_region 4 with fail;go_cut [45] (λs' W3=>wc=W3∧∃t,s'= .bool t∧(!t)=(decide ((h.idx.len:Int)<=1)&&(!decide ((h.idx.len:Int)=1)||bI)))
 case first=>
  go_wp2_with fail
  all_goals go_meet
  all_goals exact⟨rfl,_,rfl,ahB⟩
 obtain⟨rfl,t2,rfl,ht2⟩:=hcut;have HT2:=ah ht2;rw[<- HT2.o]at HS;clear HT2 ht2;cases t2
 case true=>go_wp2_with fail;go_ret;exact⟨bZ (HS.o.trans ahg).symm,HZ.o.1⟩
 have HXI:=ah (fF.o.same HZ.o.1);have hrow:=HXI.o.2.1;have hall:=HXI.o.1;clear hall;go_wp2_with fail;go_loopw [6,49] (λ_ s' wr=> ∃(k:Nat) (R:bY),s'= .int .i64 k∧k+R.len=h.idx.len∧mJ h.idx=mJ R∧R.At wr wr.heap.size fM k∧Sit w wr ((n2,0,.bool bN)::(n2,1,.bool bA)::(n2,2,.bool bI)::(n2,3,.bool bX)::(n2,4,.bool bB)::(n2,5,.bool bE)::qY w.heap.size h b e ⟨fM,eU,fD,dS,dL,cK,gJ,fH⟩ [])) (λ_ s' _=>h.idx.len -(intOf s').toNat)
 case atStart=>exact⟨0,h.idx,rfl,ahg,rfl,hrow,HZ.o⟩
 case round=>
  obtain⟨k,R,rfl,hlen,heq,hrow',hsit⟩:=hrel;have HE:=ah heq;have HU:=ah hsit;clear heq hsit HZ hrow HXI c0 c1 c2 c3 c4 c5 c6 c7 c8 c9 c10 c11 c12 c13 c14 c15 c16;cases R with
  |cons op' n' nm' gM rest=>
   obtain⟨⟨b',off',kR,cap',rfl,jq,x0,x1,x2,x3,hok',lg⟩,hrest⟩:=hrow';have hlt:k<h.idx.len:=acS
   go_wp2_with fail;have hba:=aA wr (.cells #[.int .i64 op',.int .i64 n',.string nm',.slice kR gM.len cap'] 99);refine(zn op' n' nm' gM _ _ _ hok' (lg.same hba) ((jc.o.same HU.o.1).same hba)).mono ?_;rintro e' w2 ⟨rfl,hb2⟩;have HB3:=ah (hba.trans (hb2.mono ahg));clear hba hb2 x0 x1 x2 x3 lg;cases hS:jJ op' n' nm' gM
   ·rw[HE.o,nM,hS]at HS;go_wp2_with fail;go_ret;exact⟨bZ (HS.o.trans ahg).symm,(HU.o.next HB3.o).1⟩
   ·have HF:=ah (HE.o.trans (by rw[nM,hS];rfl:mJ (.cons op' n' nm' gM rest)=mJ rest));go_wp2_with fail;go_roundw
    case rel=>exact⟨k+1,rest,ahi,acS,HF.o,hrest.same HB3.o,HU.o.next HB3.o⟩
    case measure=>simp[intOf];omega
  |nil=>
   obtain rfl:k=h.idx.len:=afF
   rw[HE.o]at HS;clear HE hrow' hlen;obtain⟨-,⟨-,c0⟩,⟨-,c1⟩,⟨-,c2⟩,⟨-,c3⟩,⟨-,c4⟩,⟨-,c5⟩,⟨-,c6⟩,⟨-,c7⟩,⟨-,c8⟩,⟨-,c9⟩,⟨-,c10⟩,⟨-,c11⟩,⟨-,c12⟩,⟨-,c13⟩,⟨-,c14⟩,⟨-,c15⟩,⟨-,c16⟩,-⟩:=HU.o;have hba:=jc.o.same HU.o.1;go_upto_region 12 with fail;go_cut [75] (λs' W3=> ∃t,s'= .bool t∧(!t)=(if bX then jJ h.dQ h.xn h.dP h.bG else qN h.dQ h.xn h.dP h.bG.len)∧Sit w W3 ((n2,0,.bool bN)::(n2,1,.bool bA)::(n2,2,.bool bI)::(n2,3,.bool bX)::(n2,4,.bool bB)::(n2,5,.bool bE)::qY w.heap.size h b e ⟨fM,eU,fD,dS,dL,cK,gJ,fH⟩ []))
   case first=>
    cases bX
    ·go_wp2_with fail;refine(RB _ _ _ _ _ _ _).mono ?_;rintro e' w3 ⟨rfl,hb3⟩;have HV:=ah (HU.o.next hb3);clear hb3;cases hq:qN h.dQ h.xn h.dP h.bG.len
     all_goals go_wp2_with fail
     all_goals go_meet
     all_goals exact⟨_,rfl,hq.symm,HV.o⟩
    ·go_wp2_with fail;refine(zn _ _ _ _ _ _ _ hxk (fF.o.same HU.o.1).2.2.1 hba).mono ?_;rintro e' w3 ⟨rfl,hb3⟩;have HV:=ah (HU.o.next hb3);clear hb3 HU c0 c1 c2 c3 c4 c5 c6 c7 c8 c9 c10 c11 c12 c13 c14 c15 c16;obtain⟨-,⟨-,c0⟩,⟨-,c1⟩,⟨-,c2⟩,⟨-,c3⟩,⟨-,c4⟩,⟨-,c5⟩,⟨-,c6⟩,⟨-,c7⟩,⟨-,c8⟩,⟨-,c9⟩,⟨-,c10⟩,⟨-,c11⟩,⟨-,c12⟩,⟨-,c13⟩,⟨-,c14⟩,⟨-,c15⟩,⟨-,c16⟩,-⟩:=HV.o;cases hq:jJ h.dQ h.xn h.dP h.bG
     all_goals go_wp2_with fail
     all_goals go_meet
     all_goals exact⟨_,rfl,hq.symm,HV.o⟩
   obtain⟨t3,rfl,ht3,hX⟩:=hcut;have HV:=ah hX;have HT3:=ah ht3;clear hX ht3 HU hba c0 c1 c2 c3 c4 c5 c6 c7 c8 c9 c10 c11 c12 c13 c14 c15 c16;rw[<- HT3.o]at HS;clear HT3;cases t3
   case true=>go_wp2_with fail;go_ret;exact⟨bZ (HS.o.trans ahg).symm,HV.o.1⟩
   obtain⟨-,⟨-,c0⟩,⟨-,c1⟩,⟨-,c2⟩,⟨-,c3⟩,⟨-,c4⟩,⟨-,c5⟩,⟨-,c6⟩,⟨-,c7⟩,⟨-,c8⟩,⟨-,c9⟩,⟨-,c10⟩,⟨-,c11⟩,⟨-,c12⟩,⟨-,c13⟩,⟨-,c14⟩,⟨-,c15⟩,⟨-,c16⟩,-⟩:=HV.o;go_upto_region 14 with fail;go_cut [95] (λs' W3=>wc=W3∧∃t,s'= .bool t∧(!t)=((bB||decide ((b.len:Int)<=0))&&(bE||decide ((e.len:Int)<=0))))
   case first=>
    cases bB
    all_goals cases bE
    all_goals go_wp2_with fail
    all_goals go_meet
    all_goals exact⟨rfl,_,rfl,ahB⟩
   obtain⟨rfl,t4,rfl,XA⟩:=hcut;have J3:=ah XA;rw[<- J3.o]at HS;clear J3 XA;cases t4
   case true=>go_wp2_with fail;go_ret;exact⟨bZ (HS.o.trans ahg).symm,HV.o.1⟩
   go_wp2_with fail;refine(Ah b OQ.o _ _ _ ab4 (fF.o.same HV.o.1).2.2.2.1 (jc.o.same HV.o.1)).mono ?_;rintro e' w4 ⟨rfl,hb4⟩;have HA:=ah (HV.o.next hb4);clear hb4 HV c0 c1 c2 c3 c4 c5 c6 c7 c8 c9 c10 c11 c12 c13 c14 c15 c16;obtain⟨-,⟨-,c0⟩,⟨-,c1⟩,⟨-,c2⟩,⟨-,c3⟩,⟨-,c4⟩,⟨-,c5⟩,⟨-,c6⟩,⟨-,c7⟩,⟨-,c8⟩,⟨-,c9⟩,⟨-,c10⟩,⟨-,c11⟩,⟨-,c12⟩,⟨-,c13⟩,⟨-,c14⟩,⟨-,c15⟩,⟨-,c16⟩,-⟩:=HA.o;cases hq:fT b
   ·rw[hq]at HS;go_wp2_with fail;go_ret;exact⟨bZ (HS.o.trans ahg).symm,HA.o.1⟩
   ·rw[hq]at HS;go_wp2_with fail;refine(Ah e HIE.o _ _ _ ab6 (fF.o.same HA.o.1).2.2.2.2 (jc.o.same HA.o.1)).mono ?_;rintro e' w5 ⟨rfl,hb5⟩;go_wp2_with fail;go_ret;exact⟨bZ (HS.o.trans (by simp[mJ])).symm,(HA.o.next hb5).1⟩
theorem MG (l:aY) (w:World) (ao:Option Addr) (cap:Nat) (hl:l.len<=maxLen) (hat:l.At w w.heap.size ao 0) (eD:dZ w):
 Calls Tryz.prog 55 #[.slice ao l.len cap] w λe' w'=>e'= .returned (.bool (fT l))∧Below w.heap.size w w':=
 Ah l (aY.mW LU l) w ao cap hl hat eD
theorem Ed (d:De) (w:World):
 Calls Tryz.prog 56 #[.agg #[.int .i64 d.kind,.int .i64 d.line,.string d.nm,.int .i64 d.size,.int .i64 d.init,.string d.on]] w λe w'=>e= .returned (.int .i64 (fZ d))∧Below w.heap.size w w':=by
 unfold fZ;go_enter Tryz.func56,Tryz.ntmps56;go_wp2
 all_goals go_ret
 all_goals refine⟨bW ?_,aA _ _⟩
 all_goals first|(simp[*];done)|(go_light;grind)
theorem Vd (s:ByteArray) (r:List ByteArray) (nm:ByteArray):qZ (s::r) nm=((s.toList==nm.toList)||qZ r nm):=by simp[qZ]
theorem Vi (d:De) (r:List De) (nm:ByteArray):ql (d::r) nm=if d.nm.toList==nm.toList then some (fZ d)else ql r nm:=by
 unfold ql;rw[List.find?_cons];cases h:(d.nm.toList==nm.toList) <;> simp
theorem Vj (t:Th) (r:List Th) (nm:ByteArray):sO (t::r) nm=if t.nm.toList==nm.toList then 8 else sO r nm:=by
 unfold sO;rw[List.any_cons];cases h:(t.nm.toList==nm.toList) <;> simp
theorem Jd {ts:List Th} {i:Int} (h: ¬(0<=i∧i<ts.length)):qJ ts i=[]:=by
 unfold qJ;split
 ·rw[List.getElem?_eq_none ahe];rfl
 ·rfl
theorem Lv {ts:List Th} {i:Nat} {t:Th} {r:List Th} (h:ts.drop i=t::r):qJ ts (i:Int)=t.cu:=by
 have h2:ts[i]? =some t:=by have:=List.getElem?_drop (xs:=ts) (i:=i) (j:=0);rw[h]at this;simpa using this.symm
 unfold qJ;rw[if_pos ahe];simp[h2]
theorem RX (p:Pr) (i:Int) (nm:ByteArray) (w:World) (aK aM:Option Addr) (aG aD:Nat) (hi:dD i) (hp:p.At w aK aM):
 Calls Tryz.prog 166 #[.agg #[.slice aK p.ds.length aG,.slice aM p.ts.length aD],.int .i64 i,.string nm] w λe w'=>e= .returned (.int .i64 (mean p i nm))∧Below w.heap.size w w':=by
 obtain⟨i1,i2⟩:=hi;have hld:=hp.1;have hlt:=hp.2.1;unfold maxLen at hld hlt;have HP:=ah hp;clear hp;go_enter Tryz.func166,Tryz.ntmps166;go_upto_region 1 with fail;generalize hW:World.alloc w _=W;generalize Value.agg #[_,_]=a0;have HX:=ah ((Sit.start w).wL rfl (.slice aK p.ds.length aG) (.slice aM p.ts.length aD) 26);rw[hW]at HX;clear hW;obtain⟨-,⟨-,c0⟩,⟨-,c1⟩,-⟩:=HX.o;go_cut [21] (λs W2=>W=W2∧∃b,s= .bool b∧decide (0<=i∧i<p.ts.length)=b)
 case first=>
  go_wp2_with fail
  all_goals go_meet
  all_goals exact⟨rfl,_,rfl,ahB⟩
 obtain⟨rfl,bi,rfl,hbi⟩:=hcut;have HBI:=ah hbi;clear hbi
 go_upto_if 21 with fail
 go_cut [6,8] (λs6 s8 W2=>qZ (qJ p.ts i) nm=false∧Sit w W2 [(w.heap.size,0,(.slice aK p.ds.length aG)),(w.heap.size,1,(.slice aM p.ts.length aD))])
 case first=>
  cases bi
  ·go_wp2_with fail;go_meet;exact⟨by rw[Jd (by simpa using HBI.o)];rfl,HX.o⟩
  ·have hbi:0<=i∧i<p.ts.length:=by simpa using HBI.o
   obtain⟨j,rfl⟩:=Int.eq_ofNat_of_zero_le hbi.1;have hj:j<p.ts.length:=ahe
   have hth:=(HP.o.same HX.o.1).2.2.2.drop j;cases hd:p.ts.drop j with
   |nil=>exfalso;have:=congrArg List.length hd;simp at this;omega
   |cons t r=>
    rw[hd,aV]at hth;have HL:=ah (Lv hd);clear hd hbi HBI;obtain⟨⟨b,off,gK,dW,dL,cK,rfl,hB,x0,x1,x2,x3,hok,htx,hst⟩,-⟩:=hth;have hll:=hok.2.2.1;unfold maxLen at hll;clear hst hok;go_wp2_with fail;go_loop [8,29] (λ_ s=> ∃(k:Nat) (R:List ByteArray),s= .int .i64 k∧k+R.length=t.cu.length∧qZ t.cu nm=qZ R nm∧fU W W.heap.size R gK k) (λ_ s=>t.cu.length -(intOf s).toNat)
    case atStart=>exact⟨0,t.cu,rfl,ahg,rfl,htx⟩
    case round=>
     obtain⟨k,R,rfl,hlen,heq,hrow⟩:=hrel;cases R with
     |nil=>obtain rfl:k=t.cu.length:=afm;go_wp2_with fail;go_meet;exact⟨by rw[HL.o,heq];rfl,HX.o⟩
     |cons s R=>
      obtain⟨⟨b',off',rfl,hB',y0,hs⟩,hrest⟩:=hrow;simp only[ay]at hlen;have hkl:k<t.cu.length:=ahe;rw[Vd]at heq;have HE:=ah heq;clear heq;cases hc:(s.toList==nm.toList)
      ·have dJ:=ah (HE.o.trans (by rw[hc];rfl:_=qZ R nm));go_wp2_with fail;go_round
       case rel=>exact⟨k+1,R,ahi,ahe,dJ.o,hrest⟩
       case measure=>simp[intOf];omega
      ·have dJ:=ah (HE.o.trans (by rw[hc];rfl:_=true));go_wp2_with fail;go_ret;exact⟨bW (by unfold mean;rw[HL.o,dJ.o];rfl),HX.o.1⟩
 case rest=>
  obtain⟨hno,hX⟩:=hcut;have HY:=ah hX;have HM:aj (mean p i nm=(ql p.ds nm).getD (sO p.ts nm)):=ah (by unfold mean;rw[hno];rfl);clear hno hX HX c0 c1;obtain⟨-,⟨-,c0⟩,⟨-,c1⟩,-⟩:=HY.o;have hde:=(HP.o.same HY.o.1).2.2.1;go_wp2_with fail;go_loopw [10,40] (λ_ s wr=> ∃(k:Nat) (R:List De),s= .int .i64 k∧k+R.length=p.ds.length∧ql p.ds nm=ql R nm∧iT wr wr.heap.size R aK k∧Sit w wr [(w.heap.size,0,(.slice aK p.ds.length aG)),(w.heap.size,1,(.slice aM p.ts.length aD))]) (λ_ s _=>p.ds.length -(intOf s).toNat)
  case atStart=>exact⟨0,p.ds,rfl,ahg,rfl,hde,HY.o⟩
  case round=>
   obtain⟨k,R,rfl,hlen,heq,hrow,hsit⟩:=hrel;have HZ:=ah hsit;clear hsit HY c0 c1 hde;cases R with
   |nil=>
    obtain rfl:k=p.ds.length:=afm;obtain⟨-,⟨-,c0⟩,⟨-,c1⟩,-⟩:=HZ.o;have hth:=(HP.o.same HZ.o.1).2.2.2;have HM':=ah (HM.o.trans (by rw[heq];rfl:_=sO p.ts nm));clear heq HM;go_wp2_with fail;go_loopw [12,54] (λ_ s wr=> ∃(k:Nat) (R:List Th),s= .int .i64 k∧k+R.length=p.ts.length∧sO p.ts nm=sO R nm∧gY wr wr.heap.size R aM k∧Sit w wr [(w.heap.size,0,(.slice aK p.ds.length aG)),(w.heap.size,1,(.slice aM p.ts.length aD))]) (λ_ s _=>p.ts.length -(intOf s).toNat)
    case atStart=>exact⟨0,p.ts,rfl,ahg,rfl,hth,HZ.o⟩
    case round=>
     obtain⟨k,R,rfl,hlen,heq,hrow,hsit⟩:=hrel;have HU:=ah hsit;clear hsit HZ c0 c1 hth;cases R with
     |nil=>obtain rfl:k=p.ts.length:=afm;go_wp2_with fail;go_ret;exact⟨bW (HM'.o.trans heq).symm,HU.o.1⟩
     |cons t R=>
      obtain⟨⟨b,off,gK,dW,dL,cK,rfl,hB,x0,x1,x2,x3,hok,htx,hst⟩,hrest⟩:=hrow;simp only[ay]at hlen;have hkl:k<p.ts.length:=ahe;rw[Vj]at heq;have HE:=ah heq;clear heq hok htx hst;cases hc:(t.nm.toList==nm.toList)
      ·have dJ:=ah (HE.o.trans (by rw[hc];rfl:_=sO R nm));go_wp2_with fail;go_roundw
       case rel=>exact⟨k+1,R,ahi,ahe,dJ.o,hrest.same (aA _ _),HU.o.next (aA _ _)⟩
       case measure=>simp[intOf];omega
      ·have dJ:=ah (HE.o.trans (if_pos hc));go_wp2_with fail;go_ret;exact⟨bW (HM'.o.trans dJ.o).symm,(HU.o.next (aA _ _)).1⟩
   |cons d R=>
    obtain⟨⟨b,off,rfl,hB,x0,x1,x2,x3,x4,x5,hok⟩,hrest⟩:=hrow;simp only[ay]at hlen;have hkl:k<p.ds.length:=ahe;rw[Vi]at heq;have HE:=ah heq;clear heq hok;cases hc:(d.nm.toList==nm.toList)
    ·have dJ:=ah (HE.o.trans (by rw[hc];rfl:_=ql R nm));go_wp2_with fail;go_roundw
     case rel=>exact⟨k+1,R,ahi,ahe,dJ.o,hrest.same (aA _ _),HZ.o.next (aA _ _)⟩
     case measure=>simp[intOf];omega
    ·have dJ:=ah (HE.o.trans (if_pos hc));go_wp2_with fail;refine(Ed d _).mono ?_;rintro e w2 ⟨rfl,hb2⟩;go_wp2_with fail;go_ret;exact⟨bW (HM.o.trans ahk).symm,((HZ.o.next (aA _ _)).next hb2).1⟩
theorem tJ (d:De):2<=fZ d∧fZ d<=9∧fZ d≠8:=ahb
namespace Md
def fV (w:World) (B:Nat):List Int->Option Addr->Nat->Prop
 | [],_,_=>True
 |s::r,ao,k=>(∃b off,ao=some ⟨b,off,none⟩∧b<B∧w.cell? ⟨b,off+k,none⟩=some (.int .i64 s))∧fV w B r ao (k+1)
section
variable {w w':World} {B B':Nat}
theorem fV.below (hb:Below B w w'): ∀ {l:List Int} {ao:Option Addr} {k:Nat},fV w B l ao k->fV w' B l ao k
 | [],_,_,_=>trivial
 |_::_,_,_,⟨⟨b,off,e,hB,c⟩,hr⟩=>⟨⟨b,off,e,hB,(hb.cell hB).trans c⟩,fV.below hb hr⟩
theorem fV.mono (h:B<=B'): ∀ {l:List Int} {ao:Option Addr} {k:Nat},fV w B l ao k->fV w B' l ao k
 | [],_,_,_=>trivial
 |_::_,_,_,⟨⟨b,off,e,hB,c⟩,hr⟩=>⟨⟨b,off,e,aJ hB h,c⟩,fV.mono h hr⟩
theorem fV.same {l:List Int} {ao:Option Addr} {k:Nat} (h:fV w w.heap.size l ao k) (hb:Below w.heap.size w w'):fV w' w'.heap.size l ao k:=(h.below hb).mono hb.size
end
def dU (m:Int) (l:List Int):Int:=if m==0 then 5 else if l.any (λk=>m==k)then 0 else 6
def BX:bY->Int->Int->Int×Int
 | .nil,n,d=>(n,d)
 | .cons _ _ _ kids rest,n,d=>BX rest (wrap64 (n+(BX kids 1 0).1)) (max d (wrap64 ((BX kids 1 0).2+1)))
def ext (kids:bY):Int×Int:=((BX kids 1 0).1,wrap64 ((BX kids 1 0).2+1))
def qL (p:Pr) (i op:Int) (nm:ByteArray):Int:=if op==2 then dU (mean p i nm) [1,2]else if op==3 then dU (mean p i nm) [3]else 0
def uQ (p:Pr) (i:Int):bY->Int
 | .nil=>0
 | .cons op _ nm kids rest=>if qL p i op nm==0 then(if uQ p i kids==0 then uQ p i rest else uQ p i kids)else qL p i op nm
def wQ (p:Pr) (i op:Int) (nm:ByteArray) (kids:bY):Int:=if qL p i op nm==0 then uQ p i kids else qL p i op nm
theorem NZ (p:Pr) (i op n:Int) (nm:ByteArray) (kids rest:bY):uQ p i (.cons op n nm kids rest)=if wQ p i op nm kids==0 then uQ p i rest else wQ p i op nm kids:=by
 rw[uQ];unfold wQ;cases h:(qL p i op nm==0) <;> simp
 ·intro h';simp[h']at h
def kZ (p:Pr) (i op n:Int) (nm:ByteArray) (kids:bY):Int:=
 if jJ op n nm kids then(if decide (24<(ext kids).1)||decide (6<(ext kids).2)then 2 else wQ p i op nm kids)else 3
end Md
theorem PN (m k:Int) (l:List Int):(k::l).any (λk=>m==k)=((m==k)||l.any (λk=>m==k)):=ahg
theorem Ba (p:Pr) (i:Int) (nm:ByteArray) (l:List Int) (w:World) (aK aM ao:Option Addr) (aG aD cap:Nat) (hi:dD i) (hl:l.length<=maxLen) (hp:p.At w aK aM) (hw:fV w w.heap.size l ao 0):
 Calls Tryz.prog 158 #[.agg #[.slice aK p.ds.length aG,.slice aM p.ts.length aD],.int .i64 i,.string nm,.slice ao l.length cap] w λe w'=>e= .returned (.int .i64 (dU (mean p i nm) l))∧Below w.heap.size w w':=by
 unfold maxLen at hl;have HP:=ah hp;have HW:=ah hw;clear hp hw;go_enter Tryz.func158,Tryz.ntmps158;go_wp2_with fail;refine(RX p i nm _ aK aM aG aD hi (HP.o.same (aA _ _))).mono ?_;rintro e w2 ⟨rfl,hb2⟩;have HB:=ah ((aA w (.cells #[.slice aK p.ds.length aG,.slice aM p.ts.length aD] 26)).trans (hb2.mono ahg));clear hb2;have hrow:=HW.o.same HB.o;generalize hmm:mean p i nm=m at *;have HM:=ah hmm;clear hmm;cases h0:(m==0)
 ·go_wp2_with fail;go_loop [11,20] (λ_ s=> ∃(k:Nat) (R:List Int),s= .int .i64 k∧k+R.length=l.length∧l.any (λk=>m==k)=R.any (λk=>m==k)∧fV w2 w2.heap.size R ao k) (λ_ s=>l.length -(intOf s).toNat)
  case atStart=>exact⟨0,l,rfl,ahg,rfl,hrow⟩
  case round=>
   obtain⟨k,R,rfl,hlen,heq,hrow'⟩:=hrel;cases R with
   |nil=>obtain rfl:k=l.length:=afm;have HE:aj (dU m l=6):=ah (by unfold dU;rw[h0,heq];rfl);clear heq;go_wp2_with fail;go_ret;exact⟨bW (by rw[HM.o,HE.o]),HB.o⟩
   |cons a R=>
    obtain⟨⟨b,off,rfl,hB,y0⟩,hrest⟩:=hrow';simp only[ay]at hlen;have hkl:k<l.length:=ahe;rw[PN]at heq;have HE:=ah heq;clear heq;cases hc:(m==a)
    ·have dJ:=ah (HE.o.trans (by rw[hc];rfl:_=R.any (λk=>m==k)));go_wp2_with fail;go_round
     case rel=>exact⟨k+1,R,ahi,ahe,dJ.o,hrest⟩
     case measure=>simp[intOf];omega
    ·have dJ:aj (dU m l=0):=ah (by unfold dU;rw[h0,HE.o,hc];rfl);go_wp2_with fail;go_ret;exact⟨bW (by rw[HM.o,dJ.o]),HB.o⟩
 ·have HE:aj (dU m l=5):=ah (by unfold dU;rw[h0];rfl);go_wp2_with fail;go_ret;exact⟨bW (by rw[HM.o,HE.o]),HB.o⟩
theorem jD {a b c d:Int} (h1:c=a) (h2:d=b):Ending.returned (.tuple #[.int .i64 a,.int .i64 b])= .returned (.tuple #[.int .i64 c,.int .i64 d]):=by rw[h1,h2]
theorem ext_nil {kids:bY} {a d:Int} (h:BX kids 1 0=BX .nil a d):(ext kids).1=a∧(ext kids).2=wrap64 (d+1):=by unfold ext;rw[h];exact⟨rfl,rfl⟩
def I9 (op n:Int) (nm:ByteArray) (kids:bY):Prop:=
 ∀(w:World) (ao:Option Addr) (cap:Nat),ru op n nm kids->kids.At w w.heap.size ao 0->
  Calls Tryz.prog 164 #[.agg #[.int .i64 op,.int .i64 n,.string nm,.slice ao kids.len cap]] w λe w'=>e= .returned (.tuple #[.int .i64 (ext kids).1,.int .i64 (ext kids).2])∧Below w.heap.size w w'
theorem RN (op n:Int) (nm:ByteArray) (kids:bY) (ih:kids.All I9):I9 op n nm kids:=by
 intro w ao cap hok hat;obtain⟨-,-,-,hl⟩:=hok;unfold maxLen at hl;have oL:=ah ih;have HAT:=ah hat;clear ih hat;go_enter Tryz.func164,Tryz.ntmps164;go_upto_region 2 with fail;generalize hW:World.alloc w _=W;generalize Value.agg #[_,_,_,_]=a0;have HX:=ah ((Sit.start w).zx rfl (.int .i64 op) (.int .i64 n) (.string nm) (.slice ao kids.len cap) 99);rw[hW]at HX;clear hW;obtain⟨-,⟨-,c0⟩,⟨-,c1⟩,⟨-,c2⟩,⟨-,c3⟩,-⟩:=HX.o;go_wp2_with fail;go_loopw [4,5,7,8,9,13] (λs4 s5 _ _ _ s wr=> ∃(k:Nat) (R:bY) (a d:Int),s= .int .i64 k∧s4= .int .i64 a∧s5= .int .i64 d∧k+R.len=kids.len∧BX kids 1 0=BX R a d∧R.All I9∧R.At wr wr.heap.size ao k∧Below w.heap.size w wr) (λ_ _ _ _ _ s _=>kids.len -(intOf s).toNat)
 case atStart=>exact⟨0,kids,1,0,rfl,rfl,rfl,ahg,rfl,oL.o,HAT.o.same HX.o.1,HX.o.1⟩
 case round=>
  obtain⟨k,R,a,d,rfl,rfl,rfl,hlen,heq,hall,hrow,hB⟩:=hrel;have HE:=ah heq;clear heq c0 c1 c2 c3;cases R with
  |nil=>
   obtain rfl:k=kids.len:=afF
   go_wp2_with fail
   go_ret2
   exact⟨jD (ext_nil HE.o).1 (ext_nil HE.o).2,hB⟩
  |cons op' n' nm' gM rest=>
   obtain⟨⟨b,off,kR,cap',rfl,jq,x0,x1,x2,x3,hok',lg⟩,hrest⟩:=hrow;obtain⟨iI,pI⟩:=hall;have hlt:k<kids.len:=acS
   go_wp2_with fail;have hba:=aA wr (.cells #[.int .i64 op',.int .i64 n',.string nm',.slice kR gM.len cap'] 99);refine(iI _ _ _ hok' (lg.same hba)).mono ?_;rintro e w2 ⟨rfl,hb2⟩;have HB3:=ah (hba.trans (hb2.mono ahg));clear hba hb2 x0 x1 x2 x3 lg;go_wp2_with fail;go_roundw
   case rel=>exact⟨k+1,rest,_,_,ahi,rfl,rfl,acS,HE.o,pI,hrest.same HB3.o,hB.trans (HB3.o.mono hB.size)⟩
   case measure=>simp[intOf];omega
theorem UR (op n:Int) (nm:ByteArray) (kids:bY):I9 op n nm kids:=bY.yB RN op n nm kids
def Ib (p:Pr) (i:Int) (op n:Int) (nm:ByteArray) (kids:bY):Prop:=
 ∀(w:World) (aK aM ao:Option Addr) (aG aD cap:Nat),dD i->p.At w aK aM->ru op n nm kids->kids.At w w.heap.size ao 0->
  Calls Tryz.prog 165 #[.agg #[.slice aK p.ds.length aG,.slice aM p.ts.length aD],.int .i64 i,.agg #[.int .i64 op,.int .i64 n,.string nm,.slice ao kids.len cap]] w λe w'=>e= .returned (.int .i64 (wQ p i op nm kids))∧Below w.heap.size w w'
theorem lW (w:World) (a b:Int) (t:TypeId):fV (w.alloc (.cells #[.int .i64 a,.int .i64 b] t)) (w.alloc (.cells #[.int .i64 a,.int .i64 b] t)).heap.size [a,b] (some ⟨w.heap.size,0,none⟩) 0:=
 ⟨⟨_,_,rfl,ahg,dY w [.int .i64 a,.int .i64 b] t 0⟩,⟨_,_,rfl,ahg,dY w [.int .i64 a,.int .i64 b] t 1⟩,trivial⟩
theorem iU (w:World) (a:Int) (t:TypeId):fV (w.alloc (.cells #[.int .i64 a] t)) (w.alloc (.cells #[.int .i64 a] t)).heap.size [a] (some ⟨w.heap.size,0,none⟩) 0:=
 ⟨⟨_,_,rfl,ahg,dY w [.int .i64 a] t 0⟩,trivial⟩
theorem Vm (p:Pr) (i:Int) (op n:Int) (nm:ByteArray) (kids:bY) (ih:kids.All (Ib p i)):Ib p i op n nm kids:=by
 intro w aK aM ao aG aD cap hi hp hok hat;obtain⟨-,-,-,hl⟩:=hok;unfold maxLen at hl;have oL:=ah ih;have HAT:=ah hat;have HP:=ah hp;clear ih hat hp;go_enter Tryz.func165,Tryz.ntmps165;go_upto_region 1 with fail;generalize hW:World.alloc (World.alloc w _) _=W;generalize Value.agg #[_,_]=a0;generalize Value.agg #[_,_,_,_]=a1;have HX:=ah (((Sit.start w).wL rfl (.slice aK p.ds.length aG) (.slice aM p.ts.length aD) 26).zx (n:=w.heap.size+1) ahg (.int .i64 op) (.int .i64 n) (.string nm) (.slice ao kids.len cap) 99);rw[hW]at HX;clear hW;obtain⟨-,⟨-,c0⟩,⟨-,c1⟩,⟨-,c2⟩,⟨-,c3⟩,⟨-,c4⟩,⟨-,c5⟩,-⟩:=HX.o;go_upto_block 0 with(fail);go_cut [7,10] (λs7 _ W2=>s7= .int .i64 (qL p i op nm)∧Sit w W2 [(w.heap.size+1,0,.int .i64 op),(w.heap.size+1,1,.int .i64 n),(w.heap.size+1,2,.string nm),(w.heap.size+1,3,.slice ao kids.len cap),(w.heap.size,0,.slice aK p.ds.length aG),(w.heap.size,1,.slice aM p.ts.length aD)])
 case first=>
  cases h2:(op==2)
  ·cases h3:(op==3)
   ·have HE:aj (qL p i op nm=0):=ah agG;go_wp2_with fail;go_meet;exact⟨air,HX.o⟩
   ·have HE:aj (qL p i op nm=dU (mean p i nm) [3]):=ah agG;go_wp2_with fail;refine(Ba p i nm [3] _ aK aM _ aG aD _ hi ahf ((HP.o.same HX.o.1).same (aA _ _)) (iU W 3 _)).mono ?_;rintro e w2 ⟨rfl,hb2⟩;go_wp2_with fail;go_meet;exact⟨air,(HX.o.next (aA _ _)).next hb2⟩
  ·have HE:aj (qL p i op nm=dU (mean p i nm) [1,2]):=ah (by unfold qL;rw[h2];rfl);go_wp2_with fail;refine(Ba p i nm [1,2] _ aK aM _ aG aD _ hi ahf ((HP.o.same HX.o.1).same (aA _ _)) (lW W 1 2 _)).mono ?_;rintro e w2 ⟨rfl,hb2⟩;go_wp2_with fail;go_meet;exact⟨air,(HX.o.next (aA _ _)).next hb2⟩
 case rest=>
  obtain⟨rfl,hX⟩:=hcut;have HY:=ah hX;clear hX HX c0 c1 c2 c3 c4 c5;have HR:aj (wQ p i op nm kids=if qL p i op nm==0 then uQ p i kids else qL p i op nm):=ah rfl;generalize qL p i op nm=r0 at *;go_wp2_with fail;go_loopw [7,8] (λs7 s8 wr=> ∃(k:Nat) (R:bY) (r:Int),s8= .int .i64 k∧s7= .int .i64 r∧k+R.len=kids.len∧wQ p i op nm kids=(if r==0 then uQ p i R else r)∧R.All (Ib p i)∧R.At wr wr.heap.size ao k∧Sit w wr [(w.heap.size+1,0,.int .i64 op),(w.heap.size+1,1,.int .i64 n),(w.heap.size+1,2,.string nm),(w.heap.size+1,3,.slice ao kids.len cap),(w.heap.size,0,.slice aK p.ds.length aG),(w.heap.size,1,.slice aM p.ts.length aD)]) (λ_ s _=>kids.len -(intOf s).toNat)
  case atStart=>exact⟨0,kids,r0,rfl,rfl,ahg,HR.o,oL.o,HAT.o.same HY.o.1,HY.o⟩
  case round=>
   obtain⟨k,R,r,rfl,rfl,hlen,heq,hall,hrow,hsit⟩:=hrel;have HE:=ah heq;have HZ:=ah hsit;clear heq hsit;obtain⟨-,⟨-,c0⟩,⟨-,c1⟩,⟨-,c2⟩,⟨-,c3⟩,⟨-,c4⟩,⟨-,c5⟩,-⟩:=HZ.o;cases R with
   |nil=>obtain rfl:k=kids.len:=afF;go_wp2_with fail;go_ret;exact⟨bW (HE.o.trans aeD).symm,HZ.o.1⟩
   |cons op' n' nm' gM rest=>
    obtain⟨⟨b,off,kR,cap',rfl,jq,x0,x1,x2,x3,hok',lg⟩,hrest⟩:=hrow;obtain⟨iI,pI⟩:=hall;have hlt:k<kids.len:=acS;cases hr:(r==0)
    ·have dJ:=ah (HE.o.trans (by rw[hr];rfl:_=r));go_wp2_with fail;go_ret;exact⟨bW dJ.o.symm,HZ.o.1⟩
    ·have dJ:=ah (HE.o.trans (by rw[hr];rfl:_=uQ p i (.cons op' n' nm' gM rest)));go_wp2_with fail;obtain⟨T,F,Ad,hst,hF,hnext⟩:=calm wr;have HF:=ah hF;have eH:=ah hnext;clear hnext hF;have d0:=λx=>(HZ.o.next (HF.o x)).2.1.2;have d1:=λx=>(HZ.o.next (HF.o x)).2.2.1.2;have d2:=λx=>(HZ.o.next (HF.o x)).2.2.2.1.2;have d3:=λx=>(HZ.o.next (HF.o x)).2.2.2.2.1.2;have d4:=λx=>(HZ.o.next (HF.o x)).2.2.2.2.2.1.2;have d5:=λx=>(HZ.o.next (HF.o x)).2.2.2.2.2.2.1.2;have y0:=λx=>((HF.o x).cell (p:=⟨b,off+k*4,none⟩) jq).trans x0;have y1:=λx=>((HF.o x).cell (p:=⟨b,off+k*4+1,none⟩) jq).trans x1;have y2:=λx=>((HF.o x).cell (p:=⟨b,off+k*4+2,none⟩) jq).trans x2;have y3:=λx=>((HF.o x).cell (p:=⟨b,off+k*4+3,none⟩) jq).trans x3;clear c0 c1 c2 c3 c4 c5 x0 x1 x2 x3;have hk0:(0:Int)<=k:=ahe;have hk1:(k:Int)<kids.len:=ahe;refine iR F ahd ahd hst ?_
     repeat (any_goals (first|go_big_quiet_step ((go_at_call 165;refine(iI _ aK aM kR aG aD cap' hi ((HP.o.same HZ.o.1).same (HF.o _)) hok' (lg.same (HF.o _))).mono ?_;rintro e w' ⟨rfl,hb⟩;exact⟨rfl,eH.o _ _ hb⟩))|(refine wpQuiet_step (λK hK=> ?_);go_simp;first|(refine hK _ ?_;clear hK K)|(split <;> first|(refine hK _ ?_;clear hK K)|(apply Exists.intro;refine⟨λ_=> ?_,hK _ ?_⟩;((go_at_call 165;refine(iI _ aK aM kR aG aD cap' hi ((HP.o.same HZ.o.1).same (HF.o _)) hok' (lg.same (HF.o _))).mono ?_;rintro e w' ⟨rfl,hb⟩;exact⟨rfl,eH.o _ _ hb⟩));clear hK K)))))
     all_goals (refine wpQuiet_nil ?_;rintro _ ⟨x,rfl⟩)
     have HB2:=ah (HF.o x);clear d0 d1 d2 d3 d4 d5 y0 y1 y2 y3 HF eH hst;generalize F x=W2 at *;go_wp2_with fail;go_roundw
     case rel=>exact⟨k+1,rest,_,ahi,rfl,acS,dJ.o.trans (NZ p i op' n' nm' gM rest),pI,hrest.same HB2.o,HZ.o.next HB2.o⟩
     case measure=>simp[intOf];omega
theorem XZ (p:Pr) (i:Int) (op n:Int) (nm:ByteArray) (kids:bY):Ib p i op n nm kids:=bY.yB (Vm p i) op n nm kids
theorem Fe (p:Pr) (i:Int) (op n:Int) (nm:ByteArray) (kids:bY) (w:World) (aK aM ao:Option Addr) (aG aD cap:Nat) (hi:dD i) (hp:p.At w aK aM) (hok:ru op n nm kids) (hat:kids.At w w.heap.size ao 0) (eD:dZ w):
 Calls Tryz.prog 157 #[.agg #[.slice aK p.ds.length aG,.slice aM p.ts.length aD],.int .i64 i,.agg #[.int .i64 op,.int .i64 n,.string nm,.slice ao kids.len cap]] w λe w'=>e= .returned (.int .i64 (kZ p i op n nm kids))∧Below w.heap.size w w':=by
 have HAT:=ah hat;have HP:=ah hp;clear hat hp;go_enter Tryz.func157,Tryz.ntmps157;go_upto_region 1 with fail;generalize hW:World.alloc (World.alloc w _) _=W;generalize Value.agg #[_,_]=a0;generalize Value.agg #[_,_,_,_]=a1;have HX:=ah (((Sit.start w).wL rfl (.slice aK p.ds.length aG) (.slice aM p.ts.length aD) 26).zx (n:=w.heap.size+1) ahg (.int .i64 op) (.int .i64 n) (.string nm) (.slice ao kids.len cap) 99);rw[hW]at HX;clear hW;obtain⟨-,⟨-,c0⟩,⟨-,c1⟩,⟨-,c2⟩,⟨-,c3⟩,⟨-,c4⟩,⟨-,c5⟩,-⟩:=HX.o;go_wp2_with fail;refine(zn op n nm kids _ ao cap hok (HAT.o.same HX.o.1) (eD.same HX.o.1)).mono ?_;rintro e w1 ⟨rfl,hb1⟩;have HY:=ah (HX.o.next hb1);clear HX hb1 c0 c1 c2 c3 c4 c5;obtain⟨-,⟨-,c0⟩,⟨-,c1⟩,⟨-,c2⟩,⟨-,c3⟩,⟨-,c4⟩,⟨-,c5⟩,-⟩:=HY.o;cases hS:jJ op n nm kids
 ·have HE:aj (kZ p i op n nm kids=3):=ah agq;go_wp2_with fail;go_ret;exact⟨bW HE.o.symm,HY.o.1⟩
 ·have HE:aj (kZ p i op n nm kids=if decide (24<(ext kids).1)||decide (6<(ext kids).2)then 2 else wQ p i op nm kids):=ah agq;go_wp2_with fail;refine(UR op n nm kids _ ao cap hok (HAT.o.same HY.o.1)).mono ?_;rintro e w2 ⟨rfl,hb2⟩;have HZ:=ah (HY.o.next hb2);clear HY hb2 c0 c1 c2 c3 c4 c5;obtain⟨-,⟨-,c0⟩,⟨-,c1⟩,⟨-,c2⟩,⟨-,c3⟩,⟨-,c4⟩,⟨-,c5⟩,-⟩:=HZ.o;generalize (ext kids).1=a at *;generalize (ext kids).2=d at *;cases h1:decide (24<a)
  ·cases h2:decide (6<d)
   ·have dJ:=ah (HE.o.trans (by rw[h1,h2];rfl:_=wQ p i op nm kids));have q1:a<=24:=ahl;have q2:d<=6:=aho;go_wp2_with fail;refine(XZ p i op n nm kids _ aK aM ao aG aD cap hi (HP.o.same HZ.o.1) hok (HAT.o.same HZ.o.1)).mono ?_;rintro e w3 ⟨rfl,hb3⟩;go_wp2_with fail;go_ret;exact⟨bW dJ.o.symm,(HZ.o.next hb3).1⟩
   ·have dJ:=ah (HE.o.trans (if_pos (by rw[h1,h2];rfl)));have q1:a<=24:=ahl;have q2:6<d:=aho;go_wp2_with fail;go_ret;exact⟨bW dJ.o.symm,HZ.o.1⟩
  ·have dJ:=ah (HE.o.trans (if_pos ah9));have q1:24<a:=by simpa using h1
   go_wp2_with fail;go_ret;exact⟨bW dJ.o.symm,HZ.o.1⟩
namespace Md
def fQ:List Int->Int
 | []=>0
 |a::r=>if a != 0 then a else fQ r
def nest (b:Bool):Int:=if b then 7 else 0
def pE (ds:List De) (nm:ByteArray):ByteArray:=((ds.find? λd=>d.kind==5&&d.nm.toList==nm.toList).map (·.on)).getD ⟨#[]⟩
theorem RY (d:De) (r:List De) (nm:ByteArray):pE (d::r) nm=if d.kind==5&&d.nm.toList==nm.toList then d.on else pE r nm:=by
 unfold pE;rw[List.find?_cons];cases h:(d.kind==5&&d.nm.toList==nm.toList) <;> simp
end Md
def uG (bc:Nat) (p:Pr) (aK aM:Option Addr) (aG aD:Nat) (i:Int) (dx:Option Addr) (wP bV bs bt:Nat):List (Nat×Nat×Value):=
 [(bc,0,.slice aK p.ds.length aG),(bc,1,.slice aM p.ts.length aD),(bc,2,.int .i64 i),(bc,3,.slice dx wP bV),(bc,4,.map (some bs)),(bc,5,.map (some bt))]
theorem mO (b:Bool) (w:World):
 Calls Tryz.prog 128 #[.bool b] w λe w'=>e= .returned (.int .i64 (nest b))∧w=w':=by
 cases b
 all_goals go_enter Tryz.func128,Tryz.ntmps128;go_wp2;go_ret;exact⟨rfl,rfl⟩
theorem kI (l:List Int) (w:World) (ao:Option Addr) (cap:Nat) (hl:l.length<=maxLen) (hat:fV w w.heap.size l ao 0):
 Calls Tryz.prog 126 #[.slice ao l.length cap] w λe w'=>e= .returned (.int .i64 (fQ l))∧w=w':=by
 unfold maxLen at hl;generalize hres:fQ l=res;have HR:=ah hres;clear hres;go_enter Tryz.func126,Tryz.ntmps126;go_wp2_with fail;go_loop [4,7] (λ_ s=> ∃(k:Nat) (R:List Int),s= .int .i64 k∧k+R.length=l.length∧res=fQ R∧fV w w.heap.size R ao k) (λ_ s=>l.length -(intOf s).toNat)
 case atStart=>exact⟨0,l,rfl,ahg,HR.o.symm,hat⟩
 case round=>
  obtain⟨k,R,rfl,hlen,heq,hrow⟩:=hrel;have HE:=ah heq;clear heq;cases R with
  |nil=>
   obtain rfl:k=l.length:=afm
   go_wp2_with fail;go_ret;exact⟨bW HE.o.symm,rfl⟩
  |cons a R=>
   obtain⟨⟨b,off,rfl,hB,y0⟩,hrest⟩:=hrow;simp only[ay]at hlen;have hkl:k<l.length:=ahe
   cases hc:(a != 0)
   ·have dJ:=ah (HE.o.trans (if_neg (by rw[hc];decide)));go_wp2_with fail;go_round
    case rel=>exact⟨k+1,R,ahi,ahe,dJ.o,hrest⟩
    case measure=>simp[intOf];omega
   ·have dJ:=ah (HE.o.trans (if_pos hc));go_wp2_with fail;go_ret;exact⟨bW dJ.o.symm,rfl⟩
section
variable (p:Pr) (w:World) (aK aM:Option Addr) (aG aD:Nat) (i:Int) (dx:Option Addr) (wP bV bs bt bc:Nat)
theorem kM (nm:ByteArray) (l:List Int) (ao:Option Addr) (cap:Nat) (hi:dD i) (hl:l.length<=maxLen) (hp:p.At w aK aM) (hw:fV w w.heap.size l ao 0) (hh:Holds w (uG bc p aK aM aG aD i dx wP bV bs bt)):
 Calls Tryz.prog 127 #[.pointer (some ⟨bc,0,none⟩),.string nm,.slice ao l.length cap] w λe w'=>e= .returned (.int .i64 (dU (mean p i nm) l))∧Below w.heap.size w w':=by
 have HH:=ah (show Sit w w _ from⟨ak _ _,hh⟩);have HP:=ah hp;have HW:=ah hw;clear hp hw hh;go_enter Tryz.func127,Tryz.ntmps127;go_wp2_with fail;obtain⟨T,F,Ad,hst,hF,hnext⟩:=calm w;have HF:=ah hF;have eH:=ah hnext;clear hnext hF;have d0:=λx=>(HH.o.next (HF.o x)).2.1.2;have d1:=λx=>(HH.o.next (HF.o x)).2.2.1.2;have d2:=λx=>(HH.o.next (HF.o x)).2.2.2.1.2;have d3:=λx=>(HH.o.next (HF.o x)).2.2.2.2.1.2;have d4:=λx=>(HH.o.next (HF.o x)).2.2.2.2.2.1.2;have d5:=λx=>(HH.o.next (HF.o x)).2.2.2.2.2.2.1.2;refine iR F ahd ahd hst ?_
 repeat (any_goals (first|go_big_quiet_step ((go_at_call 158;refine(Ba p i nm l _ aK aM ao aG aD cap hi hl (HP.o.same (HF.o _)) (HW.o.same (HF.o _))).mono ?_;rintro e w' ⟨rfl,hb⟩;exact⟨rfl,eH.o _ _ hb⟩))|(refine wpQuiet_step (λK hK=> ?_);go_simp;first|(refine hK _ ?_;clear hK K)|(split <;> first|(refine hK _ ?_;clear hK K)|(apply Exists.intro;refine⟨λ_=> ?_,hK _ ?_⟩;((go_at_call 158;refine(Ba p i nm l _ aK aM ao aG aD cap hi hl (HP.o.same (HF.o _)) (HW.o.same (HF.o _))).mono ?_;rintro e w' ⟨rfl,hb⟩;exact⟨rfl,eH.o _ _ hb⟩));clear hK K)))))
 all_goals (refine wpQuiet_nil ?_;rintro _ ⟨x,rfl⟩)
 go_wp2_with fail;go_ret;exact⟨rfl,HF.o x⟩
theorem xY (op n:Int) (nm:ByteArray) (kids:bY) (ao:Option Addr) (cap:Nat) (hi:dD i) (hp:p.At w aK aM) (hok:ru op n nm kids) (hat:kids.At w w.heap.size ao 0) (eD:dZ w) (hh:Holds w (uG bc p aK aM aG aD i dx wP bV bs bt)):
 Calls Tryz.prog 125 #[.pointer (some ⟨bc,0,none⟩),.agg #[.int .i64 op,.int .i64 n,.string nm,.slice ao kids.len cap]] w λe w'=>e= .returned (.int .i64 (kZ p i op n nm kids))∧Below w.heap.size w w':=by
 have HH:=ah (show Sit w w _ from⟨ak _ _,hh⟩);have HP:=ah hp;have HAT:=ah hat;have jc:=ah eD;clear hp hat hh eD;go_enter Tryz.func125,Tryz.ntmps125;go_upto_region 1 with fail;generalize hW:World.alloc w _=W;generalize Value.agg #[_,_,_,_]=a0;have HX:=ah (HH.o.zx rfl (.int .i64 op) (.int .i64 n) (.string nm) (.slice ao kids.len cap) 99);rw[hW]at HX;clear hW;obtain⟨T,F,Ad,hst,hF,hnext⟩:=calm W;have HF:=ah hF;have eH:=ah hnext;clear hnext hF;have d0:=λx=>(HX.o.next (HF.o x)).2.1.2;have d1:=λx=>(HX.o.next (HF.o x)).2.2.1.2;have d2:=λx=>(HX.o.next (HF.o x)).2.2.2.1.2;have d3:=λx=>(HX.o.next (HF.o x)).2.2.2.2.1.2;have d4:=λx=>(HX.o.next (HF.o x)).2.2.2.2.2.1.2;have d5:=λx=>(HX.o.next (HF.o x)).2.2.2.2.2.2.1.2;have d6:=λx=>(HX.o.next (HF.o x)).2.2.2.2.2.2.2.1.2;have d7:=λx=>(HX.o.next (HF.o x)).2.2.2.2.2.2.2.2.1.2;have d8:=λx=>(HX.o.next (HF.o x)).2.2.2.2.2.2.2.2.2.1.2;have d9:=λx=>(HX.o.next (HF.o x)).2.2.2.2.2.2.2.2.2.2.1.2;refine iR F ahd ahd hst ?_
 repeat (any_goals (first|go_big_quiet_step ((go_at_call 157;refine(Fe p i op n nm kids _ aK aM ao aG aD cap hi ((HP.o.same HX.o.1).same (HF.o _)) hok ((HAT.o.same HX.o.1).same (HF.o _)) ((jc.o.same HX.o.1).same (HF.o _))).mono ?_;rintro e w' ⟨rfl,hb⟩;exact⟨rfl,eH.o _ _ hb⟩))|(refine wpQuiet_step (λK hK=> ?_);go_simp;first|(refine hK _ ?_;clear hK K)|(split <;> first|(refine hK _ ?_;clear hK K)|(apply Exists.intro;refine⟨λ_=> ?_,hK _ ?_⟩;((go_at_call 157;refine(Fe p i op n nm kids _ aK aM ao aG aD cap hi ((HP.o.same HX.o.1).same (HF.o _)) hok ((HAT.o.same HX.o.1).same (HF.o _)) ((jc.o.same HX.o.1).same (HF.o _))).mono ?_;rintro e w' ⟨rfl,hb⟩;exact⟨rfl,eH.o _ _ hb⟩));clear hK K)))))
 all_goals (refine wpQuiet_nil ?_;rintro _ ⟨x,rfl⟩)
 go_wp2_with fail;go_ret;exact⟨rfl,(HX.o.next (HF.o x)).1⟩
theorem Nw (j:Nat) (t:Th) (r:List Th) (hd:p.ts.drop j=t::r) (hp:p.At w aK aM) (hh:Holds w (uG bc p aK aM aG aD (j:Int) dx wP bV bs bt)):
 Calls Tryz.prog 132 #[.pointer (some ⟨bc,0,none⟩)] w λe w'=>e= .returned (.string t.nm)∧Below w.heap.size w w':=by
 have HH:=ah (show Sit w w _ from⟨ak _ _,hh⟩);have hj:j<p.ts.length:=acr
 have hth:=hp.2.2.2.drop j;rw[hd,aV]at hth;obtain⟨⟨b,off,gK,dW,dL,cK,rfl,hB,x0,-⟩,-⟩:=hth;clear hp hd hh;obtain⟨-,⟨-,c0⟩,⟨-,c1⟩,⟨-,c2⟩,⟨-,c3⟩,⟨-,c4⟩,⟨-,c5⟩,-⟩:=HH.o;have hj0:(0:Int)<=j:=ahe
 have hj1:(j:Int)<p.ts.length:=ahe
 go_enter Tryz.func132,Tryz.ntmps132;go_wp2_with fail;go_quiet (fail);go_wp2_with fail;go_ret;exact⟨rfl,below_drewN (ak _ _) _⟩
theorem tC (nm:ByteArray) (hp:p.At w aK aM) (hh:Holds w (uG bc p aK aM aG aD i dx wP bV bs bt)):
 Calls Tryz.prog 131 #[.pointer (some ⟨bc,0,none⟩),.string nm] w λe w'=>e= .returned (.string (pE p.ds nm))∧Below w.heap.size w w':=by
 have HH:=ah (show Sit w w _ from⟨ak _ _,hh⟩);have HP:=ah hp;have hld:=hp.1;unfold maxLen at hld;generalize hres:pE p.ds nm=res;have HR:=ah hres;clear hp hh hres;obtain⟨-,⟨-,c0⟩,⟨-,c1⟩,⟨-,c2⟩,⟨-,c3⟩,⟨-,c4⟩,⟨-,c5⟩,-⟩:=HH.o;go_enter Tryz.func131,Tryz.ntmps131;go_wp2_with fail;go_loopw [6,13] (λ_ s wr=> ∃(k:Nat) (R:List De),s= .int .i64 k∧k+R.length=p.ds.length∧res=pE R nm∧iT wr wr.heap.size R aK k∧Below w.heap.size w wr) (λ_ s _=>p.ds.length -(intOf s).toNat)
 case atStart=>exact⟨0,p.ds,rfl,ahg,HR.o.symm,HP.o.2.2.1,ak _ _⟩
 case round=>
  obtain⟨k,R,rfl,hlen,heq,hrow,hB⟩:=hrel;have HE:=ah heq;have HB:=ah hB;clear heq hB c0 c1 c2 c3 c4 c5;cases R with
  |nil=>
   obtain rfl:k=p.ds.length:=afm
   go_wp2_with fail;go_ret;exact⟨ahJ,HB.o⟩
  |cons d R=>
   obtain⟨⟨b,off,rfl,hB,x0,x1,x2,x3,x4,x5,hok⟩,hrest⟩:=hrow;simp only[ay]at hlen;have hkl:k<p.ds.length:=ahe
   rw[RY]at HE;have HB2:=ah (HB.o.trans ((aA wr (.cells #[.int .i64 d.kind,.int .i64 d.line,.string d.nm,.int .i64 d.size,.int .i64 d.init,.string d.on] 55)).mono HB.o.size));clear hok;cases h5:(d.kind==5)
   ·have dJ:=ah (HE.o.trans (if_neg ahT));go_wp2_with fail;go_roundw
    case rel=>exact⟨k+1,R,ahi,ahe,dJ.o,hrest.same (aA _ _),HB2.o⟩
    case measure=>simp[intOf];omega
   ·cases hc:(d.nm.toList==nm.toList)
    ·have dJ:=ah (HE.o.trans (if_neg (by rw[h5,hc];decide)));go_wp2_with fail;go_roundw
     case rel=>exact⟨k+1,R,ahi,ahe,dJ.o,hrest.same (aA _ _),HB2.o⟩
     case measure=>simp[intOf];omega
    ·have dJ:=ah (HE.o.trans (if_pos (by rw[h5,hc];rfl)));go_wp2_with fail;go_ret;exact⟨ahk,HB2.o⟩
end
namespace Md
def fG:aY->List Int->Bool
 | .nil,_=>false
 | .cons h _ _ r,l=>(l.any λk=>h.op==k)||fG r l
def qR:aY->ByteArray->List Int->Bool
 | .nil,_,_=>false
 | .cons h _ _ r,nm,l=>(l.any λk=>h.op==k&&h.nm.toList==nm.toList)||qR r nm l
end Md
section
variable (p:Pr) (w:World) (aK aM:Option Addr) (aG aD:Nat) (i:Int) (dx:Option Addr) (bV bs bt bc:Nat)
theorem lN (ar:aY) (l:List Int) (ao:Option Addr) (cap:Nat) (hl:l.length<=maxLen) (hw:fV w w.heap.size l ao 0) (har:ar.len<=maxLen) (hat:ar.At w w.heap.size dx 0) (hh:Holds w (uG bc p aK aM aG aD i dx ar.len bV bs bt)):
 Calls Tryz.prog 129 #[.pointer (some ⟨bc,0,none⟩),.slice ao l.length cap] w λe w'=>e= .returned (.bool (fG ar l))∧Below w.heap.size w w':=by
 have HH:=ah (show Sit w w _ from⟨ak _ _,hh⟩);have HW:=ah hw;have HAT:=ah hat;generalize hres:fG ar l=res;have HR:=ah hres;unfold maxLen at hl har;clear hh hw hat hres;obtain⟨-,⟨-,c0⟩,⟨-,c1⟩,⟨-,c2⟩,⟨-,c3⟩,⟨-,c4⟩,⟨-,c5⟩,-⟩:=HH.o;go_enter Tryz.func129,Tryz.ntmps129;go_wp2_with fail;go_loopw [6,8,14,18,19,20] (λ_ _ s _ _ _ wr=> ∃(k:Nat) (R:aY),s= .int .i64 k∧k+R.len=ar.len∧res=fG R l∧R.At wr wr.heap.size dx k∧Below w.heap.size w wr) (λ_ _ s _ _ _ _=>ar.len -(intOf s).toNat)
 case atStart=>exact⟨0,ar,rfl,ahg,HR.o.symm,HAT.o,ak _ _⟩
 case round=>
  obtain⟨k,R,rfl,hlen,heq,hrow,hB⟩:=hrel;have HE:=ah heq;have HB:=ah hB;clear heq hB c0 c1 c2 c3 c4 c5;cases R with
  |nil=>
   obtain rfl:k=ar.len:=afs
   go_wp2_with fail;go_ret;exact⟨bZ HE.o.symm,HB.o⟩
  |cons h b e R=>
   obtain⟨bl,off,s,rfl,hbl,hin,x0,x1,x2,x3,x4,x5,x6,x7,x8,x9,x10,hrest⟩:=aY.At.head hrow;have hkl:k<ar.len:=acO
   clear hrow hin;go_upto_region 4 with fail;obtain⟨nb,hnb⟩: ∃n,wr.heap.size=n:=⟨_,rfl⟩;generalize hW2:World.alloc wr _=W2;have HY:aj (Sit wr W2 (qY nb h b e s [])):=ah aay;have HB2:=ah (HB.o.trans (HY.o.1.mono HB.o.size));have kr:=ah (hrest.same HY.o.1);have Lf:=HW.o.same HB2.o;rw[hnb];clear hW2 hnb x0 x1 x2 x3 x4 x5 x6 x7 x8 x9 x10 hrest;obtain⟨-,⟨-,c0⟩,⟨-,c1⟩,⟨-,c2⟩,⟨-,c3⟩,⟨-,c4⟩,⟨-,c5⟩,⟨-,c6⟩,⟨-,c7⟩,⟨-,c8⟩,⟨-,c9⟩,⟨-,c10⟩,-⟩:=HY.o;clear c1 c2 c3 c4 c5 c6 c7 c8 c9 c10;go_wp2_with fail;go_loop [8,20] (λ_ s'=> ∃(k':Nat) (Q:List Int),s'= .int .i64 k'∧k'+Q.length=l.length∧(l.any λk=>h.op==k)=(Q.any λk=>h.op==k)∧fV W2 W2.heap.size Q ao k') (λ_ s'=>l.length -(intOf s').toNat)
   case atStart=>exact⟨0,l,rfl,ahg,rfl,Lf⟩
   case round=>
    obtain⟨k',Q,rfl,hlen',heq',hrow'⟩:=hrel;have HQ:=ah heq';clear heq' Lf;cases Q with
    |nil=>
     obtain rfl:k'=l.length:=afR;have HF:aj (res=fG R l):=ah (HE.o.trans (by rw[fG,HQ.o];rfl));go_wp2_with fail;go_roundw
     case rel=>exact⟨k+1,R,ahi,acO,HF.o,kr.o,HB2.o⟩
     case measure=>simp[intOf];omega
    |cons q Q=>
     obtain⟨⟨b2,off2,rfl,hB2,z0⟩,hrest'⟩:=hrow';simp only[ay]at hlen';have hkl':k'<l.length:=ahe;have DL:aj ((l.any λk=>h.op==k)=((h.op==q)||(Q.any λk=>h.op==k))):=ah (HQ.o.trans ahg);cases hc:(h.op==q)
     ·have HF:=ah (DL.o.trans (by rw[hc];rfl:_=(Q.any λk=>h.op==k)));go_wp2_with fail;go_round
      case rel=>exact⟨k'+1,Q,ahi,ahe,HF.o,hrest'⟩
      case measure=>simp[intOf];omega
     ·have HF:aj (res=true):=ah (HE.o.trans (by rw[fG,DL.o,hc];rfl));go_wp2_with fail;go_ret;exact⟨bZ HF.o.symm,HB2.o⟩
theorem pz (ar:aY) (nm:ByteArray) (l:List Int) (ao:Option Addr) (cap:Nat) (hl:l.length<=maxLen) (hw:fV w w.heap.size l ao 0) (har:ar.len<=maxLen) (hat:ar.At w w.heap.size dx 0) (hh:Holds w (uG bc p aK aM aG aD i dx ar.len bV bs bt)):
 Calls Tryz.prog 130 #[.pointer (some ⟨bc,0,none⟩),.string nm,.slice ao l.length cap] w λe w'=>e= .returned (.bool (qR ar nm l))∧Below w.heap.size w w':=by
 have HH:=ah (show Sit w w _ from⟨ak _ _,hh⟩);have HW:=ah hw;have HAT:=ah hat;generalize hres:qR ar nm l=res;have HR:=ah hres;unfold maxLen at hl har;clear hh hw hat hres;obtain⟨-,⟨-,c0⟩,⟨-,c1⟩,⟨-,c2⟩,⟨-,c3⟩,⟨-,c4⟩,⟨-,c5⟩,-⟩:=HH.o;go_enter Tryz.func130,Tryz.ntmps130;go_wp2_with fail;go_loopw [8,10,16,20,21,22] (λ_ _ s _ _ _ wr=> ∃(k:Nat) (R:aY),s= .int .i64 k∧k+R.len=ar.len∧res=qR R nm l∧R.At wr wr.heap.size dx k∧Below w.heap.size w wr) (λ_ _ s _ _ _ _=>ar.len -(intOf s).toNat)
 case atStart=>exact⟨0,ar,rfl,ahg,HR.o.symm,HAT.o,ak _ _⟩
 case round=>
  obtain⟨k,R,rfl,hlen,heq,hrow,hB⟩:=hrel;have HE:=ah heq;have HB:=ah hB;clear heq hB c0 c1 c2 c3 c4 c5;cases R with
  |nil=>
   obtain rfl:k=ar.len:=afs
   go_wp2_with fail;go_ret;exact⟨bZ HE.o.symm,HB.o⟩
  |cons h b e R=>
   obtain⟨bl,off,s,rfl,hbl,hin,x0,x1,x2,x3,x4,x5,x6,x7,x8,x9,x10,hrest⟩:=aY.At.head hrow;have hkl:k<ar.len:=acO
   clear hrow hin;go_upto_region 4 with fail;obtain⟨nb,hnb⟩: ∃n,wr.heap.size=n:=⟨_,rfl⟩;generalize hW2:World.alloc wr _=W2;have HY:aj (Sit wr W2 (qY nb h b e s [])):=ah aay;have HB2:=ah (HB.o.trans (HY.o.1.mono HB.o.size));have kr:=ah (hrest.same HY.o.1);have Lf:=HW.o.same HB2.o;rw[hnb];clear hW2 hnb x0 x1 x2 x3 x4 x5 x6 x7 x8 x9 x10 hrest;obtain⟨-,⟨-,c0⟩,⟨-,c1⟩,⟨-,c2⟩,⟨-,c3⟩,⟨-,c4⟩,⟨-,c5⟩,⟨-,c6⟩,⟨-,c7⟩,⟨-,c8⟩,⟨-,c9⟩,⟨-,c10⟩,-⟩:=HY.o;clear c1 c3 c4 c5 c6 c7 c8 c9 c10;go_wp2_with fail;go_loop [10,22] (λ_ s'=> ∃(k':Nat) (Q:List Int),s'= .int .i64 k'∧k'+Q.length=l.length∧(l.any λk=>h.op==k&&h.nm.toList==nm.toList)=(Q.any λk=>h.op==k&&h.nm.toList==nm.toList)∧fV W2 W2.heap.size Q ao k') (λ_ s'=>l.length -(intOf s').toNat)
   case atStart=>exact⟨0,l,rfl,ahg,rfl,Lf⟩
   case round=>
    obtain⟨k',Q,rfl,hlen',heq',hrow'⟩:=hrel;have HQ:=ah heq';clear heq' Lf;cases Q with
    |nil=>
     obtain rfl:k'=l.length:=afR;have HF:aj (res=qR R nm l):=ah (HE.o.trans (by rw[qR,HQ.o];rfl));go_wp2_with fail;go_roundw
     case rel=>exact⟨k+1,R,ahi,acO,HF.o,kr.o,HB2.o⟩
     case measure=>simp[intOf];omega
    |cons q Q=>
     obtain⟨⟨b2,off2,rfl,hB2,z0⟩,hrest'⟩:=hrow';simp only[ay]at hlen';have hkl':k'<l.length:=ahe;have DL:aj ((l.any λk=>h.op==k&&h.nm.toList==nm.toList)=((h.op==q&&h.nm.toList==nm.toList)||(Q.any λk=>h.op==k&&h.nm.toList==nm.toList))):=ah (HQ.o.trans ahg);cases hc:(h.op==q)
     ·have HF:=ah (DL.o.trans (by rw[hc];rfl:_=(Q.any λk=>h.op==k&&h.nm.toList==nm.toList)));go_wp2_with fail;go_round
      case rel=>exact⟨k'+1,Q,ahi,ahe,HF.o,hrest'⟩
      case measure=>simp[intOf];omega
     ·cases hn:(h.nm.toList==nm.toList)
      ·have HF:=ah (DL.o.trans (by rw[hc,hn];rfl:_=(Q.any λk=>h.op==k&&h.nm.toList==nm.toList)));rw[hn]at HF;go_wp2_with fail;go_round
       case rel=>exact⟨k'+1,Q,ahi,ahe,HF.o,hrest'⟩
       case measure=>simp[intOf];omega
      ·have HF:aj (res=true):=ah (HE.o.trans (by rw[qR,DL.o,hc,hn];rfl));go_wp2_with fail;go_ret;exact⟨bZ HF.o.symm,HB2.o⟩
end
namespace Md
def ex1 (p:Pr) (i:Int):bY->Int
 | .nil=>0
 | .cons op n nm kids _=>kZ p i op n nm kids
def Gi (p:Pr) (i:Int) (h:dM):Int:=
 if decide ((h.idx.len:Int)=0)then fQ [dU (mean p i h.nm) [1,2],kZ p i h.dQ h.xn h.dP h.bG]else fQ [dU (mean p i h.nm) [3],ex1 p i h.idx,kZ p i h.dQ h.xn h.dP h.bG]
end Md
theorem AY (w:World) (a b c:Int) (t:TypeId):fV (w.alloc (.cells #[.int .i64 a,.int .i64 b,.int .i64 c] t)) (w.alloc (.cells #[.int .i64 a,.int .i64 b,.int .i64 c] t)).heap.size [a,b,c] (some ⟨w.heap.size,0,none⟩) 0:=
 ⟨⟨_,_,rfl,ahg,dY w [.int .i64 a,.int .i64 b,.int .i64 c] t 0⟩,⟨_,_,rfl,ahg,dY w [.int .i64 a,.int .i64 b,.int .i64 c] t 1⟩,⟨_,_,rfl,ahg,dY w [.int .i64 a,.int .i64 b,.int .i64 c] t 2⟩,trivial⟩
theorem dH.nil {w:World} {K:Act->Prop} {a:Act} (h:K a):dH w K [] a:=h
section
variable (p:Pr) (w:World) (aK aM:Option Addr) (aG aD:Nat) (i:Int) (dx:Option Addr) (wP bV bs bt bc:Nat)
theorem PW (h:dM) (b e:aY) (s:Sl) (hi:dD i) (hp:p.At w aK aM) (hin:Dm w h b e s) (eD:dZ w) (hh:Holds w (uG bc p aK aM aG aD i dx wP bV bs bt)):
 Calls Tryz.prog 124 #[.pointer (some ⟨bc,0,none⟩),jH h b e s] w λe' w'=>e'= .returned (.int .i64 (Gi p i h))∧Below w.heap.size w w':=by
 have HH:=ah (show Sit w w _ from⟨ak _ _,hh⟩);obtain⟨fM,eU,fD,dS,dL,cK,gJ,fH⟩:=s;have hil:=hin.1.2.2.2.2.1;have hxk:=hin.1.2.2.2.2.2.1;unfold maxLen at hil;have HE:aj (Gi p i h=if decide ((h.idx.len:Int)=0)then fQ [dU (mean p i h.nm) [1,2],kZ p i h.dQ h.xn h.dP h.bG]else fQ [dU (mean p i h.nm) [3],ex1 p i h.idx,kZ p i h.dQ h.xn h.dP h.bG]):=ah rfl;generalize Gi p i h=res at *;unfold jH;dsimp only;go_enter Tryz.func124,Tryz.ntmps124;go_upto_region 1 with fail;generalize hW:World.alloc w _=W;generalize Value.agg #[_,_,_,_,_,_,_,_,_,_,_]=a0;have HX:aj (Sit w W (qY w.heap.size h b e ⟨fM,eU,fD,dS,dL,cK,gJ,fH⟩ (uG bc p aK aM aG aD i dx wP bV bs bt))):=ah aaV;clear hW HH;have HP:=ah (hp.same HX.o.1);have jc:=ah (eD.same HX.o.1);have OA:=ah (hin.2.2.1.same HX.o.1);have HAI:=ah (hin.2.1.same HX.o.1);have HK:aj (∀w',Below W.heap.size W w'->Holds w' (uG bc p aK aM aG aD i dx wP bV bs bt)):=ah (λw' hb=>(HX.o.next hb).2.2.2.2.2.2.2.2.2.2.2.2);clear hp eD hh hin;have L0: ∀w',Below W.heap.size W w'->w'.cell? ⟨w.heap.size,0,none⟩=some (.int .i64 h.op):=λw' hb=>(HX.o.next hb).2.1.2;have L2: ∀w',Below W.heap.size W w'->w'.cell? ⟨w.heap.size,2,none⟩=some (.string h.nm):=λw' hb=>(HX.o.next hb).2.2.2.1.2;have L3: ∀w',Below W.heap.size W w'->w'.cell? ⟨w.heap.size,3,none⟩=some (.string h.arg):=λw' hb=>(HX.o.next hb).2.2.2.2.1.2;have L4: ∀w',Below W.heap.size W w'->w'.cell? ⟨w.heap.size,4,none⟩=some (.slice fM h.idx.len eU):=λw' hb=>(HX.o.next hb).2.2.2.2.2.1.2;have L5: ∀w',Below W.heap.size W w'->w'.cell? ⟨w.heap.size,5,none⟩=some (.int .i64 h.dQ):=λw' hb=>(HX.o.next hb).2.2.2.2.2.2.1.2;have L6: ∀w',Below W.heap.size W w'->w'.cell? ⟨w.heap.size,6,none⟩=some (.int .i64 h.xn):=λw' hb=>(HX.o.next hb).2.2.2.2.2.2.2.1.2;have L7: ∀w',Below W.heap.size W w'->w'.cell? ⟨w.heap.size,7,none⟩=some (.string h.dP):=λw' hb=>(HX.o.next hb).2.2.2.2.2.2.2.2.1.2;have L8: ∀w',Below W.heap.size W w'->w'.cell? ⟨w.heap.size,8,none⟩=some (.slice fD h.bG.len dS):=λw' hb=>(HX.o.next hb).2.2.2.2.2.2.2.2.2.1.2;have l4:=L4 W (ak _ _);cases hix:h.idx with
 |nil=>
  have h0:h.idx.len=0:=by rw[hix];rfl
  have HF:=ah (HE.o.trans (if_pos (by rw[h0];rfl)));rw[h0]at l4;clear HE hix L4 h0;go_upto_region 2 with fail;refine rX (λw'=>Below W.heap.size W w') (λw w'=>Below w.heap.size w w') [9,10,11,12,13,14,15,16,17,18,19,4] ahd ahd (λ_=>ak _ _) aip (below_drewN (ak _ _) 1) ?_
  iterate 3
   apply eZ.step
   case aZ=>intro β A w' hβ hC hO hD;have e0:=hO 0 aip;have e3:=hO 3 aip;simp[Act.eval]at e0 e3;simp[Act.eval]at hD;simp[go_sem,gd,Oper.wp,e0,e3,hD,L2,hC];exact aO.mk (ak _ _) hC (bT.mk _ _)
  refine eZ.some (λv w'=> ∃b,v= .slice (some ⟨b,0,none⟩) 2 2∧fV w' w'.heap.size [1,2] (some ⟨b,0,none⟩) 0) ?_ ?_ ?_
  ·rintro v w w' hle ⟨b,rfl,hin⟩;exact⟨b,rfl,hin.same hle⟩
  ·intro β A w' hβ hC hO hD;simp[go_sem,gd,Oper.wp];exact aO.mk (d:=_) (v:= .slice (some ⟨_,0,none⟩) 2 2) (aA _ _) (hC.trans ((aA _ _).mono hC.size)) ⟨_,rfl,lW _ 1 2 _⟩
  apply eZ.step
  case aZ=>intro β A w' hβ hC hO hD;simp[Act.eval]at hD;obtain⟨d9,tX,b12,Av,aR9⟩:=hD;simp[go_sem,gd,Oper.wp,d9,tX,Av];refine(kM p w' aK aM aG aD _ dx _ bV bs bt bc h.nm [1,2] _ 2 hi ahf (HP.o.same hC) aR9 (HK.o _ hC)).mono ?_;rintro e' w2 ⟨rfl,hb⟩;exact aO.mk hb (hC.trans (hb.mono hC.size)) (bT.mk _ _)
  iterate 3
   apply eZ.step
   case aZ=>intro β A w' hβ hC hO hD;have e0:=hO 0 aip;have e3:=hO 3 aip;simp[Act.eval]at e0 e3;simp[Act.eval]at hD;simp[go_sem,gd,Oper.wp,e0,e3,hD,L5,L6,L7,L8,hC];exact aO.mk (ak _ _) hC (bT.mk _ _)
  apply eZ.step
  case aZ=>intro β A w' hβ hC hO hD;simp[Act.eval]at hD;obtain⟨vZ,Aw,-⟩:=hD;simp[go_sem,gd,Oper.wp,vZ,Aw];refine(xY p w' aK aM aG aD _ dx _ bV bs bt bc h.dQ h.xn h.dP h.bG fD dS hi (HP.o.same hC) hxk (OA.o.same hC) (jc.o.same hC) (HK.o _ hC)).mono ?_;rintro e' w2 ⟨rfl,hb⟩;exact aO.mk hb (hC.trans (hb.mono hC.size)) (bT.mk _ _)
  refine eZ.some (λv w'=> ∃b,v= .slice (some ⟨b,0,none⟩) 2 2∧fV w' w'.heap.size [dU (mean p i h.nm) [1,2],kZ p i h.dQ h.xn h.dP h.bG] (some ⟨b,0,none⟩) 0) ?_ ?_ ?_
  ·rintro v w w' hle ⟨b,rfl,hin⟩;exact⟨b,rfl,hin.same hle⟩
  ·intro β A w' hβ hC hO hD;simp[Act.eval]at hD;simp[go_sem,gd,Oper.wp,hD];exact aO.mk (d:=_) (v:= .slice (some ⟨_,0,none⟩) 2 2) (aA _ _) (hC.trans ((aA _ _).mono hC.size)) ⟨_,rfl,lW _ _ _ _⟩
  apply eZ.step
  case aZ=>intro β A w' hβ hC hO hD;simp[Act.eval]at hD;obtain⟨⟨b18,Ay,aS0⟩,-⟩:=hD;simp[go_sem,gd,Oper.wp,Ay];refine(kI [dU (mean p i h.nm) [1,2],kZ p i h.dQ h.xn h.dP h.bG] w' _ _ ahq aS0).mono ?_;rintro e' w2 ⟨rfl,rfl⟩;exact aO.mk (ak _ _) hC (bT.mk _ _)
  apply eZ.step
  case aZ=>intro β A w' hβ hC hO hD;have e0:=hO 0 aip;have e3:=hO 3 aip;simp[Act.eval]at e0 e3;simp[Act.eval]at hD;simp[go_sem,gd,Oper.wp,e0,e3,hD];exact aO.mk (ak _ _) hC (bT.mk _ _)
  intro wz bR;intro v0 h0 v1 h1 v2 h2 v3 h3 v4 h4 v5 h5 v6 h6 v7 h7 v8 h8 v9 h9 v10 h10 v11 h11;have JH:v11=_:=h11;subst JH;clear h0 h1 h2 h3 h4 h5 h6 h7 h8 h9 h10 h11;refine dH.nil ?_;go_wp2_with fail;go_ret;exact⟨bW HF.o.symm,(HX.o.next bR).1⟩
 |cons op' n' nm' gM rest=>
  have hrow:=HAI.o;rw[hix]at hrow;have HF:aj (res=fQ [dU (mean p i h.nm) [3],kZ p i op' n' nm' gM,kZ p i h.dQ h.xn h.dP h.bG]):=ah (HE.o.trans ((if_neg (by rw[hix,decide_eq_true_iff];simp only[bY.len];omega)).trans (by rw[hix];rfl)));have hpos:0<h.idx.len:=by rw[hix];simp[bY.len]
  have hpos':(0:Int)<h.idx.len:=ahe
  have hne0:((h.idx.len:Int)==0)=false:=acN
  obtain⟨⟨b',off',kR,cap',rfl,jq,x0,x1,x2,x3,hok',lg⟩,-⟩:=hrow;simp only[Nat.zero_mul,Nat.add_zero]at x0 x1 x2 x3;have M0:=gQ jq x0;have M1:=gQ jq x1;have M2:=gQ jq x2;have M3:=gQ jq x3;have HAK:=ah lg;clear HE hix x0 x1 x2 x3 lg;go_upto_region 3 with fail;refine rX (λw'=>Below W.heap.size W w') (λw w'=>Below w.heap.size w w') [20,21,22,23,24,25,26,27,28,29,30,31,32,33,34,35,36,4] ahd ahd (λ_=>ak _ _) aip (below_drewN (ak _ _) 1) ?_
  iterate 3
   apply eZ.step
   case aZ=>intro β A w' hβ hC hO hD;have e0:=hO 0 aip;have e3:=hO 3 aip;simp[Act.eval]at e0 e3;simp[Act.eval]at hD;simp[go_sem,gd,Oper.wp,e0,e3,hD,L2,hC];exact aO.mk (ak _ _) hC (bT.mk _ _)
  refine eZ.some (λv w'=> ∃b,v= .slice (some ⟨b,0,none⟩) 1 1∧fV w' w'.heap.size [3] (some ⟨b,0,none⟩) 0) ?_ ?_ ?_
  ·rintro v w w' hle ⟨b,rfl,hin⟩;exact⟨b,rfl,hin.same hle⟩
  ·intro β A w' hβ hC hO hD;simp[go_sem,gd,Oper.wp];exact aO.mk (d:=_) (v:= .slice (some ⟨_,0,none⟩) 1 1) (aA _ _) (hC.trans ((aA _ _).mono hC.size)) ⟨_,rfl,iU _ 3 _⟩
  apply eZ.step
  case aZ=>intro β A w' hβ hC hO hD;simp[Act.eval]at hD;obtain⟨d20,d22,b23,d23,aS1⟩:=hD;simp[go_sem,gd,Oper.wp,d20,d22,d23];refine(kM p w' aK aM aG aD _ dx _ bV bs bt bc h.nm [3] _ 1 hi ahf (HP.o.same hC) aS1 (HK.o _ hC)).mono ?_;rintro e' w2 ⟨rfl,hb⟩;exact aO.mk hb (hC.trans (hb.mono hC.size)) (bT.mk _ _)
  iterate 5
   apply eZ.step
   case aZ=>intro β A w' hβ hC hO hD;have e0:=hO 0 aip;have e3:=hO 3 aip;simp[Act.eval]at e0 e3;simp[Act.eval]at hD;simp[go_sem,gd,Oper.wp,e0,e3,hD,L4,hC,hpos,hpos',M0,M1,M2,M3];exact aO.mk (ak _ _) hC (bT.mk _ _)
  apply eZ.step
  case aZ=>intro β A w' hβ hC hO hD;simp[Act.eval]at hD;obtain⟨d25,d29,-⟩:=hD;simp[go_sem,gd,Oper.wp,d25,d29];refine(xY p w' aK aM aG aD _ dx _ bV bs bt bc op' n' nm' gM kR cap' hi (HP.o.same hC) hok' (HAK.o.same hC) (jc.o.same hC) (HK.o _ hC)).mono ?_;rintro e' w2 ⟨rfl,hb⟩;exact aO.mk hb (hC.trans (hb.mono hC.size)) (bT.mk _ _)
  iterate 3
   apply eZ.step
   case aZ=>intro β A w' hβ hC hO hD;have e0:=hO 0 aip;have e3:=hO 3 aip;simp[Act.eval]at e0 e3;simp[Act.eval]at hD;simp[go_sem,gd,Oper.wp,e0,e3,hD,L5,L6,L7,L8,hC];exact aO.mk (ak _ _) hC (bT.mk _ _)
  apply eZ.step
  case aZ=>intro β A w' hβ hC hO hD;simp[Act.eval]at hD;obtain⟨d31,d33,-⟩:=hD;simp[go_sem,gd,Oper.wp,d31,d33];refine(xY p w' aK aM aG aD _ dx _ bV bs bt bc h.dQ h.xn h.dP h.bG fD dS hi (HP.o.same hC) hxk (OA.o.same hC) (jc.o.same hC) (HK.o _ hC)).mono ?_;rintro e' w2 ⟨rfl,hb⟩;exact aO.mk hb (hC.trans (hb.mono hC.size)) (bT.mk _ _)
  refine eZ.some (λv w'=> ∃b,v= .slice (some ⟨b,0,none⟩) 3 3∧fV w' w'.heap.size [dU (mean p i h.nm) [3],kZ p i op' n' nm' gM,kZ p i h.dQ h.xn h.dP h.bG] (some ⟨b,0,none⟩) 0) ?_ ?_ ?_
  ·rintro v w w' hle ⟨b,rfl,hin⟩;exact⟨b,rfl,hin.same hle⟩
  ·intro β A w' hβ hC hO hD;simp[Act.eval]at hD;simp[go_sem,gd,Oper.wp,hD];exact aO.mk (d:=_) (v:= .slice (some ⟨_,0,none⟩) 3 3) (aA _ _) (hC.trans ((aA _ _).mono hC.size)) ⟨_,rfl,AY _ _ _ _ _⟩
  apply eZ.step
  case aZ=>intro β A w' hβ hC hO hD;simp[Act.eval]at hD;obtain⟨⟨b35,d35,aS2⟩,-⟩:=hD;simp[go_sem,gd,Oper.wp,d35];refine(kI [dU (mean p i h.nm) [3],kZ p i op' n' nm' gM,kZ p i h.dQ h.xn h.dP h.bG] w' _ _ ahq aS2).mono ?_;rintro e' w2 ⟨rfl,rfl⟩;exact aO.mk (ak _ _) hC (bT.mk _ _)
  apply eZ.step
  case aZ=>intro β A w' hβ hC hO hD;have e0:=hO 0 aip;have e3:=hO 3 aip;simp[Act.eval]at e0 e3;simp[Act.eval]at hD;simp[go_sem,gd,Oper.wp,e0,e3,hD];exact aO.mk (ak _ _) hC (bT.mk _ _)
  intro wz bR;intro v0 h0 v1 h1 v2 h2 v3 h3 v4 h4 v5 h5 v6 h6 v7 h7 v8 h8 v9 h9 v10 h10 v11 h11 v12 h12 v13 tY v14 qD v15 uL v16 h16 v17 AA;have bp1:v17=_:=AA;subst bp1;clear h0 h1 h2 h3 h4 h5 h6 h7 h8 h9 h10 h11 h12 tY qD uL h16 AA;refine dH.nil ?_;go_wp2_with fail;go_ret;exact⟨bW HF.o.symm,(HX.o.next bR).1⟩
end
namespace Md
def mD (pre:List De) (l:List UInt8):Int:=((pre.find? λd=>d.nm.toList==l).map fZ).getD 0
def dc (d:De) (c:Int):Int:=if d.kind==1||d.kind==2 then c+max d.size 1 else c
def dl (d:De) (l:Int):Int:=if d.kind==3||d.kind==4 then l+1 else l
def dn (d:De) (n:Int):Int:=if d.kind==5 then n+1 else n
def df (d:De) (f:Int):Int:=if d.kind==6 then f+1 else f
def lim (c l n f:Int):Bool:=((decide (12<c)||decide (4<l))||decide (2<n))||decide (2<f)
def lV:List De->List De->Int->Int->Int->Int->Int×Int
 | [],_,_,_,_,_=>(0,0)
 |d::r,pre,c,l,n,f=>
  if mD pre d.nm.toList != 0 then(4,d.line)
  else if decide (4<d.size)then(2,d.line)
  else if lim (dc d c) (dl d l) (dn d n) (df d f)then(2,d.line)
  else if d.kind==5&&mD pre d.on.toList==0 then(5,d.line)
  else if d.kind==5&&mD pre d.on.toList != 4 then(6,d.line)
  else lV r (pre++[d]) (dc d c) (dl d l) (dn d n) (df d f)
theorem TU {pre:List De} {l:List UInt8} (h:(mD pre l != 0)=false):pre.find? (λd=>d.nm.toList==l)=none:=by
 unfold mD at h;cases hf:pre.find? (λd=>d.nm.toList==l)with
 |none=>rfl
 |some d=>rw[hf]at h;have:=tJ d;simp at h;omega
theorem TV {pre:List De} {d:De} (h:(mD pre d.nm.toList != 0)=false) (l:List UInt8):(if l=d.nm.toList then fZ d else mD pre l)=mD (pre++[d]) l:=by
 unfold mD;rw[List.find?_append];by_cases hl:l=d.nm.toList
 ·subst hl;rw[if_pos rfl,TU h];simp
 ·rw[if_neg hl];have:(d.nm.toList==l)=false:=by rw[beq_eq_false_iff_ne];exact λe=>hl e.symm
  simp[this]
theorem UO (d:De):(fZ d==6)=(d.kind==5):=ahb
theorem vw {d:De} (h:iV d=true):1<=d.kind∧d.kind<=6∧0<=d.size∧(d.size=0∨d.kind=1):=by
 unfold iV at h;simp at h;omega
theorem Gs (d:De) (r pre:List De) (c l n f:Int):lV (d::r) pre c l n f=(if mD pre d.nm.toList != 0 then(4,d.line)
 else if decide (4<d.size)then(2,d.line)
 else if lim (dc d c) (dl d l) (dn d n) (df d f)then(2,d.line)
 else if d.kind==5&&mD pre d.on.toList==0 then(5,d.line)
 else if d.kind==5&&mD pre d.on.toList != 4 then(6,d.line)
 else lV r (pre++[d]) (dc d c) (dl d l) (dn d n) (df d f)):=rfl
end Md
theorem mI.congr {w:World} {b n:Nat} {f g:List UInt8->Int} (h:mI w b n f) (hfg: ∀l,f l=g l):mI w b n g:=by
 obtain⟨D,h1,h2⟩:=h;exact⟨D,h1,λl=>by rw[h2,hfg]⟩
theorem jr.congr {w:World} {b n:Nat} {f g:List UInt8->Bool} (h:jr w b n f) (hfg: ∀l,f l=g l):jr w b n g:=by
 obtain⟨D,h1,h2⟩:=h;exact⟨D,h1,λl=>by rw[h2,hfg]⟩
def aw8 (ds:List De) (w:World) (res:Int×Int) (g:Nat) (s5 s6 s7 s8 s15:Value) (wr:World):Prop:=
 ∃(k:Nat) (pre R:List De) (c l n f:Int),g=R.length∧s15= .int .i64 k∧pre++R=ds∧pre.length=k∧s5= .int .i64 c∧s6= .int .i64 l∧s7= .int .i64 n∧s8= .int .i64 f∧
  (0<=c∧c<=12∧0<=l∧l<=4∧0<=n∧n<=2∧0<=f∧f<=2)∧res=lV R pre c l n f∧mI wr w.heap.size k (mD pre)∧Below w.heap.size w wr
theorem JB (ds:List De) (w:World) (ao:Option Addr) (cap:Nat) (hl:ds.length<=maxLen) (hat:iT w w.heap.size ds ao 0) (hsh: ∀d∈ds,iV d=true):
 Calls Tryz.prog 33 #[.slice ao ds.length cap] w λe w'=>e= .returned (.tuple #[.int .i64 (lV ds [] 0 0 0 0).1,.int .i64 (lV ds [] 0 0 0 0).2])∧Below w.heap.size w w':=by
 generalize hres:lV ds [] 0 0 0 0=res;have HR:=ah hres;have HAT:=ah hat;have xU:=ah hsh;have hl':=hl;unfold maxLen at hl;clear hres hat hsh;have hmm:= @run_makeMap Tryz.prog;go_enter Tryz.func33,Tryz.ntmps33;go_wp2_with fail;go_loopg [5,6,7,8,10,11,15] ds.length (λg s5 s6 s7 s8 _ _ s15 wr=>aw8 ds w res g s5 s6 s7 s8 s15 wr)
 case atStart=>exact⟨0,[],ds,0,0,0,0,rfl,rfl,rfl,rfl,rfl,rfl,rfl,rfl,ahf,HR.o.symm,(mI.made w).congr (λ_=>rfl),aA _ _⟩
 case round=>
  obtain⟨k,pre,R,c,l,n,f,rfl,rfl,hds,hk,rfl,rfl,rfl,rfl,⟨q1,q2,l1,l2,n1,n2,f1,f2⟩,hr,hmap,hB⟩:=hrel;have HE:=ah hr;have HM:=ah hmap;have HB:=ah hB;clear hr hmap hB HR;have hlen:k+R.length=ds.length:=afY
  have hrow:=(HAT.o.below HB.o).drop k;rw[aV,<- hds,<- hk,List.drop_left]at hrow;rw[hk]at hrow;cases R with
  |nil=>
   obtain rfl:k=ds.length:=afm
   have HF:=ah (HE.o.trans (rfl:_=((0:Int),(0:Int))));clear HE hds hk hrow;go_wp2_with fail
   go_ret2
   exact⟨jD (congrArg Prod.fst HF.o) (congrArg Prod.snd HF.o),HB.o⟩
  |cons d R=>
   have hsd:=vw (xU.o d (by rw[<- hds];simp));have rY:=ah hds;have HK:=ah hk;clear hds hk;obtain⟨⟨b,off,rfl,jq,x0,x1,x2,x3,x4,x5,hok⟩,-⟩:=hrow;simp only[ay]at hlen;have hkl:k<ds.length:=ahe
   obtain⟨g1,g2,g3,g4⟩:=hsd;rw[Gs]at HE;go_upto_region 6 with fail;obtain⟨nb,hnb⟩: ∃n,wr.heap.size=n:=⟨_,rfl⟩;generalize hW2:World.alloc wr _=W2;have HB2:aj (Below w.heap.size w W2):=ah adW;have HY:aj (Sit wr W2 [(nb,0,.int .i64 d.kind),(nb,1,.int .i64 d.line),(nb,2,.string d.nm),(nb,3,.int .i64 d.size),(nb,4,.int .i64 d.init),(nb,5,.string d.on)]):=ah abR;have FQ:=ah (HM.o.next HY.o.1);rw[hnb];clear hW2 hnb x0 x1 x2 x3 x4 x5 HM HB;obtain⟨-,⟨-,c0⟩,⟨-,c1⟩,⟨-,c2⟩,⟨-,c3⟩,⟨-,c4⟩,⟨-,c5⟩,-⟩:=HY.o;have hk1:=FQ.o.look d.nm hok.2.2.1;cases h0:(mD pre d.nm.toList != 0)
   case true=>
    as_aux_lemma=>
     have HF:=ah (HE.o.trans (if_pos h0));go_wp2_with fail;go_quiet (fail);go_wp2_with fail
     go_ret2
     exact⟨jD (congrArg Prod.fst HF.o) (congrArg Prod.snd HF.o),below_drewN HB2.o _⟩
   have HE2:=ah (HE.o.trans (if_neg (by rw[h0];decide)));clear HE;go_upto_region 8 with fail;cases h1:decide (4<d.size)
   case true=>
    as_aux_lemma=>
     have HF:=ah (HE2.o.trans (if_pos h1));have h1':4<d.size:=ahl;go_wp2_with fail;go_quiet (fail);go_wp2_with fail
     go_ret2
     exact⟨jD (congrArg Prod.fst HF.o) (congrArg Prod.snd HF.o),below_drewN HB2.o _⟩
   have pO:=ah (HE2.o.trans (if_neg ahu));have h1':d.size<=4:=ahl
   clear HE2 h1;go_upto_region 10 with fail;go_wp2_with fail;refine(Ed d _).mono ?_;rintro e w3 ⟨rfl,hb3⟩;have HZ:=ah (HY.o.next hb3);have HB3:=ah (HB2.o.trans (hb3.mono HB2.o.size));have IY:=ah (FQ.o.next hb3);clear hb3 HY HB2 FQ c0 c1 c2 c3 c4 c5 hk1;have HFV:=ah (UO d);have HDM:aj (∃m,fZ d=m):=ah ⟨_,rfl⟩;obtain⟨-,⟨-,c0⟩,⟨-,c1⟩,⟨-,c2⟩,⟨-,c3⟩,⟨-,c4⟩,⟨-,c5⟩,-⟩:=HZ.o;go_upto_block 2 with(fail);go_cut [5,6,7,8,11,33] (λs5 s6 s7 s8 s11 _ W3=>w3=W3∧s11= .int .i64 (fZ d)∧s5= .int .i64 (dc d c)∧s6= .int .i64 (dl d l)∧s7= .int .i64 (dn d n)∧s8= .int .i64 (df d f))
   case first=>
    as_aux_lemma=>
     have hkd:d.kind=1∨d.kind=2∨d.kind=3∨d.kind=4∨d.kind=5∨d.kind=6:=ahe;rcases hkd with hkd|hkd|hkd|hkd|hkd|hkd
     ·by_cases hs0:d.size=0
      ·have hm:fZ d=2:=(by simp[fZ,hkd,hs0]);have HA:aj (dc d c=c+1∧dl d l=l∧dn d n=n∧df d f=f):=ah acp;have DK:=ah hm;rw[hm];clear hm hkd hs0;go_wp2_with fail;go_meet;exact⟨rfl,ahU,ahx,ahv,ahs,ahr⟩
      ·have hm:fZ d=3:=(by simp[fZ,hkd,hs0]);have HA:aj (dc d c=c+d.size∧dl d l=l∧dn d n=n∧df d f=f):=ah aaY;have DK:=ah hm;rw[hm];clear hm hkd hs0;go_wp2_with fail;go_meet;exact⟨rfl,ahU,ahx,ahv,ahs,ahr⟩
     ·have hs0:d.size=0:=ahe;have hm:fZ d=2:=ahR;have HA:aj (dc d c=c+1∧dl d l=l∧dn d n=n∧df d f=f):=ah acp;have DK:=ah hm;rw[hm];clear hm hkd hs0;go_wp2_with fail;go_meet;exact⟨rfl,ahU,ahx,ahv,ahs,ahr⟩
     ·have hm:fZ d=4:=ahR;have HA:aj (dc d c=c∧dl d l=l+1∧dn d n=n∧df d f=f):=ah agl;have DK:=ah hm;rw[hm];clear hm hkd;go_wp2_with fail;go_meet;exact⟨rfl,ahU,ahx,ahv,ahs,ahr⟩
     ·have hm:fZ d=5:=ahR;have HA:aj (dc d c=c∧dl d l=l+1∧dn d n=n∧df d f=f):=ah agl;have DK:=ah hm;rw[hm];clear hm hkd;go_wp2_with fail;go_meet;exact⟨rfl,ahU,ahx,ahv,ahs,ahr⟩
     ·have hm:fZ d=6:=ahR;have HA:aj (dc d c=c∧dl d l=l∧dn d n=n+1∧df d f=f):=ah agl;have DK:=ah hm;rw[hm];clear hm hkd;go_wp2_with fail;go_meet;exact⟨rfl,ahU,ahx,ahv,ahs,ahr⟩
     ·have hm:fZ d=7:=ahR;have HA:aj (dc d c=c∧dl d l=l∧dn d n=n∧df d f=f+1):=ah agl;have DK:=ah hm;rw[hm];clear hm hkd;go_wp2_with fail;go_meet;exact⟨rfl,ahU,ahx,ahv,ahs,ahr⟩
   obtain⟨rfl,rfl,rfl,rfl,rfl,rfl⟩:=hcut;have hc':0<=dc d c∧dc d c<=16:=by unfold dc;split <;> omega
   have hl'':0<=dl d l∧dl d l<=5:=by unfold dl;split <;> omega
   have hn':0<=dn d n∧dn d n<=3:=by unfold dn;split <;> omega
   have hf':0<=df d f∧df d f<=3:=by unfold df;split <;> omega
   generalize hcc:dc d c=c' at *;generalize hll:dl d l=l' at *;generalize hnn:dn d n=n' at *;generalize TF:df d f=f' at *;clear hcc hll hnn TF;go_upto_region 23 with fail;go_cut [70] (λs' W3=>w3=W3∧s'= .bool (lim c' l' n' f'))
   case first=>
    as_aux_lemma=>
     have HF:aj (lim c' l' n' f'=(((decide (12<c')||decide (4<l'))||decide (2<n'))||decide (2<f'))):=ah rfl;go_wp2_with fail
     all_goals go_meet
     all_goals exact⟨rfl,abU⟩
   obtain⟨rfl,rfl⟩:=hcut;cases h2:lim c' l' n' f'
   case true=>
    as_aux_lemma=>
     have HF:=ah (pO.o.trans (if_pos h2));go_wp2_with fail;go_quiet (fail);go_wp2_with fail
     go_ret2
     exact⟨jD (congrArg Prod.fst HF.o) (congrArg Prod.snd HF.o),below_drewN HB3.o _⟩
   have Al:=ah (pO.o.trans (if_neg ahL));have hlim:c'<=12∧l'<=4∧n'<=2∧f'<=2:=aeR
   clear pO h2;have hkm:k<maxLen:=ahe
   cases h5:(d.kind==5)
   ·have h6:(fZ d==6)=false:=HFV.o.trans h5;have HF:=ah (Al.o.trans ((if_neg ahT).trans (if_neg ahT)));clear Al;obtain⟨w4,hup,xw,hg4⟩:=IY.o.put ahe d.nm hok.2.2.1 (fZ d) afl;have Bz:=ah ((xw.congr (TV h0)));have eF:=ah (HB3.o.trans (cZ hg4 (aH _) HB3.o.size));clear xw hg4;go_wp2_with fail;go_roundg R.length
    case measure=>simp
    case rel=>exact⟨k+1,pre++[d],R,c',l',n',f',rfl,ahi,acT,afK,rfl,rfl,rfl,rfl,ahe,HF.o,Bz.o,eF.o⟩
   ·have h6:(fZ d==6)=true:=HFV.o.trans h5;have hk2:=IY.o.look d.on hok.2.2.2.2.2;generalize hmo:mD pre d.on.toList=mo at *;clear hmo;cases h7:(mo==0)
    case true=>
     as_aux_lemma=>
      have HF:=ah (Al.o.trans (if_pos (by rw[h5,h7];rfl)));go_wp2_with fail;go_quiet (fail);go_wp2_with fail
      go_ret2
      exact⟨jD (congrArg Prod.fst HF.o) (congrArg Prod.snd HF.o),below_drewN HB3.o _⟩
    have MW:=ah (Al.o.trans (if_neg (by rw[h5,h7];decide)));clear Al;cases h8:(mo != 4)
    case true=>
     as_aux_lemma=>
      have HF:=ah (MW.o.trans (if_pos (by rw[h5,h8];rfl)));go_wp2_with fail;go_quiet (fail);go_wp2_with fail
      go_ret2
      exact⟨jD (congrArg Prod.fst HF.o) (congrArg Prod.snd HF.o),below_drewN HB3.o _⟩
    have HF:=ah (MW.o.trans (if_neg (by rw[h5,h8];decide)));clear MW;obtain⟨w4,hup,xw,hg4⟩:=IY.o.put ahe d.nm hok.2.2.1 (fZ d) afl;have Bz:=ah ((xw.congr (TV h0)));have eF:=ah (HB3.o.trans (cZ hg4 (aH _) HB3.o.size));clear xw hg4;go_wp2_with fail;go_roundg R.length
    case measure=>simp
    case rel=>exact⟨k+1,pre++[d],R,c',l',n',f',rfl,ahi,acT,afK,rfl,rfl,rfl,rfl,ahe,HF.o,Bz.o,eF.o⟩
namespace Md
def ow (ds:List De) (l:List UInt8):Bool:=ds.any λd=>d.nm.toList==l
def nQ (ts:List Th) (l:List UInt8):Bool:=ts.any λt=>t.nm.toList==l
def nO (tx:List ByteArray) (l:List UInt8):Bool:=tx.any λs=>s.toList==l
def uV (ds:List De):List Th->List Th->Option Int
 | [],_=>none
 |t::r,pre=>if ow ds t.nm.toList||nQ pre t.nm.toList then some t.line else uV ds r (pre++[t])
def tQ (ds:List De) (ts:List Th):List ByteArray->List ByteArray->Bool
 | [],_=>false
 |s::r,pre=>((ow ds s.toList||nQ ts s.toList)||nO pre s.toList)||tQ ds ts r (pre++[s])
def Ai (ds:List De) (ts:List Th):List Th->Int×Int
 | []=>(0,0)
 |t::r=>if decide ((4:Int)<t.cu.length)then(2,t.line)else if tQ ds ts t.cu []then(4,t.line)else Ai ds ts r
def kW (p:Pr):Int×Int:=match uV p.ds p.ts []with
 |some l=>(4,l)
 |none=>Ai p.ds p.ts p.ts
theorem Vw (pre:List De) (d:De) (l:List UInt8):(if l=d.nm.toList then true else ow pre l)=ow (pre++[d]) l:=by
 unfold ow;rw[List.any_append];by_cases h:l=d.nm.toList
 ·subst h;simp
 ·rw[if_neg h];have:(d.nm.toList==l)=false:=by rw[beq_eq_false_iff_ne];exact λe=>h e.symm
  simp[this]
theorem Vx (ds:List De) (pre:List Th) (t:Th) (l:List UInt8):(if l=t.nm.toList then true else(ow ds l||nQ pre l))=(ow ds l||nQ (pre++[t]) l):=by
 unfold nQ;rw[List.any_append];by_cases h:l=t.nm.toList
 ·subst h;simp
 ·rw[if_neg h];have:(t.nm.toList==l)=false:=by rw[beq_eq_false_iff_ne];exact λe=>h e.symm
  simp[this]
end Md
theorem Holds.grown {W W':World} {bm:Nat} (hg:W.grownBy W' (some bm)): ∀ {l:List (Nat×Nat×Value)},(∀f∈l,f.1≠bm)->Holds W l->Holds W' l
 | [],_,_=>trivial
 |f::_,hne,⟨⟨h1,h2⟩,h3⟩=>⟨⟨aJ h1 hg.size,(World.cell?_of_block (a:=⟨f.1,f.2.1,none⟩) (hg.block f.1 h1 (by have:=hne f ahg;simp;exact this))).trans h2⟩,Holds.grown hg (λx hx=>hne x (by simp[hx])) h3⟩
theorem Sit.grown {w W W':World} {fs:List (Nat×Nat×Value)} {bm:Nat} (h:Sit w W fs) (hg:W.grownBy W' (some bm)) (hb:w.heap.size<=bm) (hne: ∀f∈fs,f.1≠bm):Sit w W' fs:=
 ⟨h.1.trans (cZ hg hb h.1.size),h.2.grown hg hne⟩
theorem Sj (p:Pr) (w:World) (aK aM:Option Addr) (aG aD:Nat) (hp:p.At w aK aM) (hsum:p.ds.length+p.ts.length<maxLen):
 Calls Tryz.prog 34 #[.agg #[.slice aK p.ds.length aG,.slice aM p.ts.length aD]] w λe w'=>e= .returned (.tuple #[.int .i64 (kW p).1,.int .i64 (kW p).2])∧Below w.heap.size w w':=by
 have HR:aj (kW p=match uV p.ds p.ts []with|some l=>(4,l)|none=>Ai p.ds p.ts p.ts):=ah rfl;generalize kW p=res at *;have hld:=hp.1;have hlt:=hp.2.1;unfold maxLen at hld hlt;have HP:=ah hp;clear hp;have hmm:= @run_makeMap Tryz.prog;go_enter Tryz.func34,Tryz.ntmps34;go_upto_region 1 with fail;generalize hW:World.alloc w _=W;generalize Value.agg #[_,_]=a0;have HX:=ah ((Sit.start w).wL rfl (.slice aK p.ds.length aG) (.slice aM p.ts.length aD) 26);rw[hW]at HX;have hsz:W.heap.size=w.heap.size+1:=by rw[<- hW];simp
 clear hW;go_upto_region 2 with fail;have HM:=ah (jr.made W);have HY:=ah (HX.o.next (aA W (.map #[] 0)));rw[hsz]at HM;generalize World.alloc W _=W1 at *;clear HX hsz;obtain⟨-,⟨-,c0⟩,⟨-,c1⟩,-⟩:=HY.o;go_wp2_with fail;go_loopw [6,19] (λ_ s wr=> ∃(k:Nat) (pre R:List De),s= .int .i64 k∧pre++R=p.ds∧pre.length=k∧jr wr (w.heap.size+1) k (ow pre)∧Sit w wr [(w.heap.size,0,(.slice aK p.ds.length aG)),(w.heap.size,1,(.slice aM p.ts.length aD))]) (λ_ s _=>p.ds.length -(intOf s).toNat)
 case atStart=>exact⟨0,[],p.ds,rfl,rfl,rfl,HM.o.congr (λ_=>rfl),HY.o⟩
 case round=>
  obtain⟨k,pre,R,rfl,hds,hk,hmap,hsit⟩:=hrel;have HZ:=ah hsit;have FQ:=ah hmap;clear hsit hmap HY HM c0 c1;have hlen:k+R.length=p.ds.length:=afY
  have hrow:=(HP.o.2.2.1.below HZ.o.1).drop k;rw[aV,<- hds,<- hk,List.drop_left]at hrow;rw[hk]at hrow;have rY:=ah hds;have HK:=ah hk;clear hds hk;cases R with
  |cons d R=>
   obtain⟨⟨b,off,rfl,jq,x0,x1,x2,x3,x4,x5,hok⟩,-⟩:=hrow;simp only[ay]at hlen;have hkl:k<p.ds.length:=ahe
   have hba:=aA wr (.cells #[.int .i64 d.kind,.int .i64 d.line,.string d.nm,.int .i64 d.size,.int .i64 d.init,.string d.on] 55);obtain⟨w4,hup,xw,hg4⟩:=(FQ.o.next hba).put ahe d.nm hok.2.2.1 true;have Bz:=ah (xw.congr (Vw pre d));have BN:=ah ((HZ.o.next hba).grown hg4 ahe ahg);clear xw hg4 hba hok;go_wp2_with fail;go_roundw
   case rel=>exact⟨k+1,pre++[d],R,ahi,acT,afK,Bz.o,BN.o⟩
   case measure=>simp[intOf];omega
  |nil=>
   obtain rfl:k=p.ds.length:=afm
   have hpre:pre=p.ds:=by rw[<- rY.o,List.append_nil]
   subst hpre;obtain⟨-,⟨-,c0⟩,⟨-,c1⟩,-⟩:=HZ.o;clear hrow hlen rY HK;go_wp2_with fail;go_loopw [8,30] (λ_ s wr=> ∃(k:Nat) (pre R:List Th),s= .int .i64 k∧pre++R=p.ts∧pre.length=k∧uV p.ds p.ts []=uV p.ds R pre∧jr wr (w.heap.size+1) (p.ds.length+k) (λl=>ow p.ds l||nQ pre l)∧Sit w wr [(w.heap.size,0,(.slice aK p.ds.length aG)),(w.heap.size,1,(.slice aM p.ts.length aD))]) (λ_ s _=>p.ts.length -(intOf s).toNat)
   case atStart=>exact⟨0,[],p.ts,rfl,rfl,rfl,rfl,FQ.o.congr (λl=>by simp[nQ]),HZ.o⟩
   case round=>
    obtain⟨k,pre,R,rfl,hds,hk,heq,hmap,hsit⟩:=hrel;have HU:=ah hsit;have IY:=ah hmap;have HE:=ah heq;clear hsit hmap HZ FQ c0 c1 heq;have hlen:k+R.length=p.ts.length:=afY;have hrow:=(HP.o.2.2.2.below HU.o.1).drop k;rw[aV,<- hds,<- hk,List.drop_left]at hrow;rw[hk]at hrow;have rY:=ah hds;have HK:=ah hk;clear hds hk;cases R with
    |cons t R=>
     obtain⟨⟨b,off,gK,dW,dL,cK,rfl,hB,x0,x1,x2,x3,hok,htx,hst⟩,-⟩:=hrow;simp only[ay]at hlen;have hkl:k<p.ts.length:=ahe;have hba:=aA wr (.cells #[.string t.nm,.int .i64 t.line,.slice gK t.cu.length dW,.slice dL t.body.len cK] 59);have Bz:=ah (IY.o.next hba);have hlk:=Bz.o.look t.nm hok.1;have HB3:=ah (HU.o.next hba).1;cases uM:(ow p.ds t.nm.toList||nQ pre t.nm.toList)
     ·obtain⟨w4,hup,xw,hg4⟩:=Bz.o.put ahe t.nm hok.1 true;have HM5:=ah (xw.congr (Vx p.ds pre t));have HU4:=ah ((HU.o.next hba).grown hg4 ahe ahg);have dJ:=ah (HE.o.trans (if_neg (by rw[uM];decide)));clear xw hg4 hba hok htx hst;go_wp2_with fail;go_roundw
      case rel=>exact⟨k+1,pre++[t],R,ahi,acT,afK,dJ.o,HM5.o,HU4.o⟩
      case measure=>simp[intOf];omega
     ·have HF:aj (res=(4,t.line)):=ah (HR.o.trans afk);clear hba hok htx hst;go_wp2_with fail;go_quiet (fail);go_wp2_with fail
      go_ret2
      exact⟨jD (congrArg Prod.fst HF.o) (congrArg Prod.snd HF.o),below_drewN HB3.o _⟩
    |nil=>
     obtain rfl:k=p.ts.length:=afm;have hpre:pre=p.ts:=(by rw[<- rY.o,List.append_nil]);subst hpre;have HR2:aj (res=Ai p.ds p.ts p.ts):=ah (HR.o.trans ahJ);obtain⟨-,⟨-,c0⟩,⟨-,c1⟩,-⟩:=HU.o;clear hrow hlen rY HK HE HR;generalize TF:(λl=>ow p.ds l||nQ p.ts l)=ff at *;have HFF:=ah TF;clear TF;have hth:=HP.o.2.2.2.below HU.o.1;go_wp2_with fail;go_loopw [10,11,12,14,47,60,75] (λ_ _ _ _ s _ _ wr=> ∃(k:Nat) (R:List Th),s= .int .i64 k∧k+R.length=p.ts.length∧Ai p.ds p.ts p.ts=Ai p.ds p.ts R∧gY wr w.heap.size R aM k∧jr wr (w.heap.size+1) (p.ds.length+p.ts.length) ff∧Sit w wr [(w.heap.size,0,(.slice aK p.ds.length aG)),(w.heap.size,1,(.slice aM p.ts.length aD))]) (λ_ _ _ _ s _ _ _=>p.ts.length -(intOf s).toNat)
     case atStart=>exact⟨0,p.ts,rfl,ahg,rfl,hth,IY.o,HU.o⟩
     case round=>
      obtain⟨k,R,rfl,hlen,heq,hrow,hmap,hsit⟩:=hrel;have HV:=ah hsit;have Bz:=ah hmap;have HE:=ah (HR2.o.trans heq);have FM:=ah heq;clear hsit hmap HU IY c0 c1 heq hth;cases R with
      |nil=>
       obtain rfl:k=p.ts.length:=afm;have HF:=ah (HE.o.trans (rfl:_=((0:Int),(0:Int))));go_wp2_with fail
       go_ret2
       exact⟨jD (congrArg Prod.fst HF.o) (congrArg Prod.snd HF.o),HV.o.1⟩
      |cons t R=>
       obtain⟨⟨b,off,gK,dW,dL,cK,rfl,hB,x0,x1,x2,x3,hok,htx,hst⟩,hrest⟩:=hrow;simp only[ay]at hlen;have hkl:k<p.ts.length:=ahe;have hll:=hok.2.2.1;have hcl:=hst.2;unfold maxLen at hll;clear hst hok;go_upto_region 17 with fail;obtain⟨nb,hnb⟩: ∃n,wr.heap.size=n:=⟨_,rfl⟩;generalize hW2:World.alloc wr _=W2;have lX:aj (Below wr.heap.size wr W2):=ah afQ;have HY:aj (Sit wr W2 [(nb,0,.string t.nm),(nb,1,.int .i64 t.line),(nb,2,.slice gK t.cu.length dW),(nb,3,.slice dL t.body.len cK)]):=ah (by rw[<- hW2];exact(Sit.start wr).zx hnb _ _ _ _ _);have yS:=ah (HV.o.next lX.o);have HM5:=ah (Bz.o.next lX.o);have HB3:=ah yS.o.1;have BF:=ah (htx.below (lX.o.mono HV.o.1.size));have kr:=ah (hrest.below (lX.o.mono HV.o.1.size));rw[hnb];clear hW2 hnb x0 x1 x2 x3 Bz HV htx hrest lX;obtain⟨-,⟨-,c0⟩,⟨-,c1⟩,⟨-,c2⟩,⟨-,c3⟩,-⟩:=HY.o;cases h1:decide ((4:Int)<t.cu.length)
       case true=>
        as_aux_lemma=>
         have HF:=ah (HE.o.trans (if_pos h1));have h1':4<t.cu.length:=agx;clear h1;go_wp2_with fail;go_quiet (fail);go_wp2_with fail
         go_ret2
         exact⟨jD (congrArg Prod.fst HF.o) (congrArg Prod.snd HF.o),below_drewN HB3.o _⟩
       have HE2:=ah (HE.o.trans (if_neg ahu));have pO:=ah (FM.o.trans (if_neg ahu));have h1':t.cu.length<=4:=agx;clear HE FM h1;go_wp2_with fail;go_loop [11,12,14,60,75] (λ_ _ _ s _=> ∃(k':Nat) (pre R':List ByteArray),s= .int .i64 k'∧pre++R'=t.cu∧pre.length=k'∧tQ p.ds p.ts t.cu []=tQ p.ds p.ts R' pre) (λ_ _ _ s _=>t.cu.length -(intOf s).toNat)
       case atStart=>exact⟨0,[],t.cu,rfl,rfl,rfl,rfl⟩
       case round=>
        obtain⟨k',pre,R',rfl,hds,hk',heq'⟩:=hrel;have dJ:=ah heq';have hlen':k'+R'.length=t.cu.length:=(by rw[<- hds,au,hk']);have hrow:=BF.o.drop k';rw[aV,<- hds,<- hk',List.drop_left]at hrow;rw[hk']at hrow;have wX:=ah ((hds ▸ BF.o:fU W2 w.heap.size (pre++R') gK 0).take);have rY:=ah hds;have HK:=ah hk';clear hds hk' heq';cases R' with
        |nil=>
         obtain rfl:k'=t.cu.length:=afR;have HF:=ah (pO.o.trans (if_neg (by rw[dJ.o];simp[tQ])));go_wp2_with fail;go_roundw
         case rel=>exact⟨k+1,R,ahi,ahe,HF.o,kr.o,HM5.o,yS.o⟩
         case measure=>simp[intOf];omega
        |cons s R'=>
         obtain⟨⟨b',off',rfl,hB',y0,hs⟩,-⟩:=hrow;simp only[ay]at hlen';have hkl':k'<t.cu.length:=ahe;have hlk:=HM5.o.look s hs;have hfs:ff s.toList=(ow p.ds s.toList||nQ p.ts s.toList):=(by rw[<- HFF.o]);cases uM:ff s.toList
         case true=>
          as_aux_lemma=>
           have HF:=ah (HE2.o.trans (if_pos (by rw[dJ.o];unfold tQ;rw[<- hfs,uM];rfl)));clear hfs;go_wp2_with fail;go_quiet (fail);go_wp2_with fail
           go_ret2
           exact⟨jD (congrArg Prod.fst HF.o) (congrArg Prod.snd HF.o),below_drewN HB3.o _⟩
         have Al:aj (tQ p.ds p.ts t.cu []=(nO pre s.toList||tQ p.ds p.ts R' (pre++[s]))):=ah (dJ.o.trans (by rw[tQ,<- hfs,uM];rfl));clear hfs dJ;have hk0:(0:Int)<=k':=ahe;have hk2:k'<=dW:=ahe;go_wp2_with fail;go_loop [14,75] (λ_ s'=> ∃(k'':Nat) (Q:List ByteArray),s'= .int .i64 k''∧k''+Q.length=k'∧nO pre s.toList=nO Q s.toList∧fU W2 w.heap.size Q (some ⟨b',off',none⟩) k'') (λ_ s'=>k' -(intOf s').toNat)
         case atStart=>exact⟨0,pre,rfl,by rw[aV];exact HK.o,rfl,wX.o⟩
         case round=>
          obtain⟨k'',Q,rfl,Xx,heq'',aK9⟩:=hrel;have HQ:=ah heq'';clear heq'';cases Q with
          |nil=>
           obtain rfl:k''=k':=(by simpa using Xx);have HF:=ah (Al.o.trans (by rw[HQ.o];rfl:_=tQ p.ds p.ts R' (pre++[s])));go_wp2_with fail;go_round
           case rel=>exact⟨k''+1,pre++[s],R',ahi,acT,afK,HF.o⟩
           case measure=>simp[intOf];omega
          |cons q Q=>
           obtain⟨⟨b2,off2,hbe,hB2,z0,hq⟩,hrest''⟩:=aK9;obtain⟨rfl,rfl⟩:b'=b2∧off'=off2:=abt;simp only[ay]at Xx;have bB1:k''<k':=ahe;clear hbe;have DL:aj (nO pre s.toList=((q.toList==s.toList)||nO Q s.toList)):=ah (HQ.o.trans (by simp[nO]));cases hc:(q.toList==s.toList)
           ·have hc':(s.toList==q.toList)=false:=(by rw[beq_eq_false_iff_ne]at hc⊢;exact λe=>hc e.symm);have HF:=ah (DL.o.trans (by rw[hc];rfl:_=nO Q s.toList));go_wp2_with fail;go_round
            case rel=>exact⟨k''+1,Q,ahi,ahe,HF.o,hrest''⟩
            case measure=>simp[intOf];omega
           ·have hc':(s.toList==q.toList)=true:=(by rw[beq_iff_eq]at hc⊢;exact hc.symm);have HF:=ah (HE2.o.trans (if_pos (by rw[Al.o,DL.o,hc];rfl)));go_wp2_with fail;go_quiet (fail);go_wp2_with fail
            go_ret2
            exact⟨jD (congrArg Prod.fst HF.o) (congrArg Prod.snd HF.o),below_drewN HB3.o _⟩
def zG (f:List UInt8->Bool) (l:List UInt8):List UInt8->Bool:=λx=>if x=l then true else f x
def kQ (b:Bool):Int:=if b then 8 else 0
def ZH (nm:ByteArray) (w:World) (bs n:Nat) (f:List UInt8->Bool) (e:Ending) (w':World):Prop:=
 e= .returned (.int .i64 (kQ (f nm.toList)))∧jr w' bs (n+1) (zG f nm.toList)∧w.grownBy w' (some bs)
theorem QL (nm:ByteArray) (w:World) (bs n:Nat) (f:List UInt8->Bool) (hn:n<maxLen) (hs:nm.size<=maxLen) (hm:jr w bs n f):
 Calls Tryz.prog 133 #[.map (some bs),.string nm] w (ZH nm w bs n f):=by
 have HM:=ah hm;have hlk:=hm.look nm hs;clear hm;cases hf:f nm.toList
 ·obtain⟨w4,hup,xw,hg4⟩:=HM.o.put hn nm hs true;have Bz:=ah xw;have HG:=ah hg4;clear xw hg4 hn hs;go_enter Tryz.func133,Tryz.ntmps133;go_wp2_with fail;go_ret;exact⟨by rw[hf];rfl,Bz.o,HG.o⟩
 ·have Bz:aj (jr w bs (n+1) (zG f nm.toList)):=ah (by
   obtain⟨D,h1,h2⟩:=HM.o;refine⟨D,h1.mono ahe,λl=> ?_⟩;rw[h2];unfold zG;by_cases h:l=nm.toList
   ·rw[if_pos h,h,hf]
   ·rw[if_neg h])
  clear hn hs;go_enter Tryz.func133,Tryz.ntmps133;go_wp2_with fail;go_ret;exact⟨by rw[hf];rfl,Bz.o,⟨rfl,rfl,rfl,aH _,λ_ _ _=>rfl⟩⟩
theorem UD (p:Pr) (w:World) (aK aM:Option Addr) (aG aD:Nat) (hp:p.At w aK aM) (eD:dZ w):
 Calls Tryz.prog 32 #[.agg #[.slice aK p.ds.length aG,.slice aM p.ts.length aD]] w λe w'=>e= .returned (.bool (qz p))∧Below w.heap.size w w':=by
 have HS:aj (qz p=((p.ds.all iV&&p.ts.all oU)&&decide ((0:Int)<p.ts.length))):=ah rfl;generalize qz p=res at *;have hld:=hp.1;have hlt:=hp.2.1;unfold maxLen at hld hlt;have HP:=ah hp;have jc:=ah eD;clear hp eD;go_enter Tryz.func32,Tryz.ntmps32;go_upto_region 1 with fail;generalize hW:World.alloc w _=W;generalize Value.agg #[_,_]=a0;have HX:=ah ((Sit.start w).wL rfl (.slice aK p.ds.length aG) (.slice aM p.ts.length aD) 26);rw[hW]at HX;clear hW;obtain⟨-,⟨-,c0⟩,⟨-,c1⟩,-⟩:=HX.o;have hde:=(HP.o.same HX.o.1).2.2.1;go_wp2_with fail;go_loopw [4,12] (λ_ s wr=> ∃(k:Nat) (R:List De),s= .int .i64 k∧k+R.length=p.ds.length∧p.ds.all iV=R.all iV∧iT wr wr.heap.size R aK k∧Sit w wr [(w.heap.size,0,(.slice aK p.ds.length aG)),(w.heap.size,1,(.slice aM p.ts.length aD))]) (λ_ s _=>p.ds.length -(intOf s).toNat)
 case atStart=>exact⟨0,p.ds,rfl,ahg,rfl,hde,HX.o⟩
 case round=>
  obtain⟨k,R,rfl,hlen,heq,hrow,hsit⟩:=hrel;have HZ:=ah hsit;have HE:=ah heq;clear hsit HX c0 c1 hde heq;cases R with
  |cons d R=>
   obtain⟨⟨b,off,rfl,hB,x0,x1,x2,x3,x4,x5,hok⟩,hrest⟩:=hrow;simp only[ay]at hlen;have hkl:k<p.ds.length:=ahe
   have je:=ah hok;clear hok;go_wp2_with fail;have hba:=aA wr (.cells #[.int .i64 d.kind,.int .i64 d.line,.string d.nm,.int .i64 d.size,.int .i64 d.init,.string d.on] 55);refine(MF d _ ((jc.o.same HZ.o.1).same hba) je.o).mono ?_;rintro e' w2 ⟨rfl,hb2⟩;have HB3:=ah (hba.trans (hb2.mono ahg));clear hba hb2 x0 x1 x2 x3 x4 x5;cases hS:iV d
   ·rw[HE.o,List.all_cons,hS]at HS;go_wp2_with fail;go_ret;exact⟨bZ (HS.o.trans ahg).symm,(HZ.o.next HB3.o).1⟩
   ·have HF:=ah (HE.o.trans (by rw[List.all_cons,hS];rfl:_=R.all iV));go_wp2_with fail;go_roundw
    case rel=>exact⟨k+1,R,ahi,ahe,HF.o,hrest.same HB3.o,HZ.o.next HB3.o⟩
    case measure=>simp[intOf];omega
  |nil=>
   obtain rfl:k=p.ds.length:=afm
   rw[HE.o]at HS;obtain⟨-,⟨-,c0⟩,⟨-,c1⟩,-⟩:=HZ.o;have hth:=(HP.o.same HZ.o.1).2.2.2;clear HE hrow hlen;go_wp2_with fail;go_loopw [6,8,23,31,32,33,34,35] (λ_ _ s _ _ _ _ _ wr=> ∃(k:Nat) (R:List Th),s= .int .i64 k∧k+R.length=p.ts.length∧p.ts.all oU=R.all oU∧gY wr wr.heap.size R aM k∧Sit w wr [(w.heap.size,0,(.slice aK p.ds.length aG)),(w.heap.size,1,(.slice aM p.ts.length aD))]) (λ_ _ s _ _ _ _ _ _=>p.ts.length -(intOf s).toNat)
   case atStart=>exact⟨0,p.ts,rfl,ahg,rfl,hth,HZ.o⟩
   case round=>
    obtain⟨k,R,rfl,hlen,heq,hrow,hsit⟩:=hrel;have HU:=ah hsit;have HE:=ah heq;clear hsit HZ c0 c1 hth heq;cases R with
    |nil=>obtain rfl:k=p.ts.length:=afm;rw[HE.o]at HS;obtain⟨-,⟨-,c0⟩,⟨-,c1⟩,-⟩:=HU.o;go_wp2_with fail;go_ret;exact⟨bZ (HS.o.trans ahg).symm,HU.o.1⟩
    |cons t R=>
     obtain⟨⟨b,off,gK,dW,dL,cK,rfl,hB,x0,x1,x2,x3,hok,htx,hst⟩,hrest⟩:=hrow;simp only[ay]at hlen;have hkl:k<p.ts.length:=ahe;have hll:=hok.2.2.1;have je:=ah hok;have BF:=ah htx;have HST:=ah hst;unfold maxLen at hll;clear hok htx hst;go_upto_region 10 with fail;obtain⟨n2,hn2⟩: ∃n,wr.heap.size=n:=⟨_,rfl⟩;generalize hW2:World.alloc wr _=W2;have HB2:aj (Below wr.heap.size wr W2):=ah afQ;have HV:aj (Sit w W2 ((n2,0,.string t.nm)::(n2,1,.int .i64 t.line)::(n2,2,.slice gK t.cu.length dW)::(n2,3,.slice dL t.body.len cK)::[(w.heap.size,0,(.slice aK p.ds.length aG)),(w.heap.size,1,(.slice (some ⟨b,off,none⟩) p.ts.length aD))])):=ah ads;rw[hn2];clear hW2 hn2 x0 x1 x2 x3;obtain⟨-,⟨-,c0⟩,⟨-,c1⟩,⟨-,c2⟩,⟨-,c3⟩,⟨-,c4⟩,⟨-,c5⟩,-⟩:=HV.o;go_wp2_with fail;refine(xX _ _ (jc.o.same HV.o.1) je.o.1).mono ?_;rintro e' w3 ⟨rfl,hb3⟩;have HB3:=ah hb3;have HA:=ah (HV.o.next hb3);clear hb3 HV c0 c1 c2 c3 c4 c5;obtain⟨-,⟨-,c0⟩,⟨-,c1⟩,⟨-,c2⟩,⟨-,c3⟩,⟨-,c4⟩,⟨-,c5⟩,-⟩:=HA.o;cases hN:Tk.iZ t.nm.data.toList
     ·rw[HE.o,List.all_cons,show oU t=false by unfold oU;rw[hN];rfl]at HS;go_wp2_with fail;go_ret;exact⟨bZ (HS.o.trans ahg).symm,HA.o.1⟩
     ·have hrow:=BF.o.same (HB2.o.trans (HB3.o.mono HB2.o.size));have vO:=ah (HB2.o.trans (HB3.o.mono HB2.o.size));clear HB2 HB3;go_wp2_with fail;obtain⟨wo,rfl⟩: ∃wo:World,wo=wr:=⟨_,rfl⟩;go_loopw [8,34] (λ_ s wr=> ∃(k:Nat) (R:List ByteArray),s= .int .i64 k∧k+R.length=t.cu.length∧t.cu.all (λs=>Tk.iZ s.data.toList)=R.all (λs=>Tk.iZ s.data.toList)∧fU wr wr.heap.size R gK k∧Below wo.heap.size wo wr∧Sit w wr ((n2,0,.string t.nm)::(n2,1,.int .i64 t.line)::(n2,2,.slice gK t.cu.length dW)::(n2,3,.slice dL t.body.len cK)::[(w.heap.size,0,(.slice aK p.ds.length aG)),(w.heap.size,1,(.slice (some ⟨b,off,none⟩) p.ts.length aD))])) (λ_ s _=>t.cu.length -(intOf s).toNat)
      case atStart=>exact⟨0,t.cu,rfl,ahg,rfl,hrow,vO.o,HA.o⟩
      case round=>
       obtain⟨k',R',rfl,hlen',heq',hrow',Xw,Li⟩:=hrel;have HC:=ah Li;have Ct:=ah Xw;have dJ:=ah heq';clear Li HA c0 c1 c2 c3 c4 c5 hrow heq' Xw vO;cases R' with
       |cons s R'=>
        obtain⟨⟨b',off',rfl,hB',y0,hs⟩,hrest'⟩:=hrow';simp only[ay]at hlen';have hkl':k'<t.cu.length:=ahe;go_wp2_with fail;refine(xX _ _ (jc.o.same HC.o.1) hs).mono ?_;rintro e' w3 ⟨rfl,hb3⟩;have eF:=ah hb3;clear hb3;cases GA:Tk.iZ s.data.toList
        ·rw[HE.o,List.all_cons,show oU t=false by unfold oU;rw[dJ.o,List.all_cons,GA];simp]at HS;go_wp2_with fail;go_ret;exact⟨bZ (HS.o.trans ahg).symm,(HC.o.next eF.o).1⟩
        ·have HF:=ah (dJ.o.trans (by rw[List.all_cons,GA];rfl:_=R'.all (λs=>Tk.iZ s.data.toList)));go_wp2_with fail;go_roundw
         case rel=>exact⟨k'+1,R',ahi,ahe,HF.o,hrest'.same eF.o,Ct.o.trans (eF.o.mono Ct.o.size),HC.o.next eF.o⟩
         case measure=>simp[intOf];omega
       |nil=>
        obtain rfl:k'=t.cu.length:=afR;obtain⟨-,⟨-,c0⟩,⟨-,c1⟩,⟨-,c2⟩,⟨-,c3⟩,⟨-,c4⟩,⟨-,c5⟩,-⟩:=HC.o;go_wp2_with fail;refine(MG t.body _ _ _ je.o.2.2.2 (HST.o.1.same Ct.o) (jc.o.same HC.o.1)).mono ?_;rintro e' w3 ⟨rfl,hb3⟩;have eF:=ah hb3;clear hb3;have HT:aj (oU t=fT t.body):=ah (by unfold oU;rw[hN,dJ.o];rfl);cases GA:fT t.body
        ·rw[HE.o,List.all_cons,HT.o,GA]at HS;go_wp2_with fail;go_ret;exact⟨bZ (HS.o.trans ahg).symm,(HC.o.next eF.o).1⟩
        ·have HF:=ah (HE.o.trans (by rw[List.all_cons,HT.o,GA];rfl:_=R.all oU));have K7:=ah (Ct.o.trans (eF.o.mono Ct.o.size));have HSQ:=ah (HU.o.next K7.o);go_wp2_with fail;go_roundw
         case rel=>exact⟨k+1,R,ahi,ahe,HF.o,hrest.same K7.o,HSQ.o⟩
         case measure=>simp[intOf];omega
end Go.Proofs.YtldapdcphphodaaGreatDoor
