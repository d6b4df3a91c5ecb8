/- Contracts of parse.operands, nameOrEmpty, ShapedExpr. And what hangs on it. -/
import Derived.Test.YtdoplekppjkkpaaGreatDoorGMB
import Derived.Test.YtdoplekppjkkpaaGreatDoorGNA
set_option linter.unusedSimpArgs false
set_option linter.unusedVariables false
set_option maxHeartbeats 40000000
set_option maxRecDepth 1000000
namespace Go.Proofs.YtdoplekppjkkpaaGreatDoor
open Go.RowKit
open Md
theorem zH (op:Int) (w:World):
 Calls Tryz.prog 152 #[.int .i64 op] w λe w'=>e= .returned (.int .i64 (opsOf op))∧w=w':=by
 unfold opsOf;go_enter Tryz.func152,Tryz.ntmps152;go_wp2
 all_goals go_ret
 all_goals refine⟨bV ?_,rfl⟩
 all_goals first|(simp[*];done)|((repeat' split) <;> simp_all <;> omega)
theorem uP (s:ByteArray) (b:Bool) (w:World) (eG:dW w) (hm:s.size<=maxLen):
 Calls Tryz.prog 111 #[.string s,.bool b] w λe w'=>e= .returned (.bool (kZ s b))∧Below w.heap.size w w':=by
 cases b
 ·go_enter Tryz.func111,Tryz.ntmps111;go_wp2;go_ret;exact⟨by simp[kZ,Lib.toList_data],au _ _⟩
 ·go_enter Tryz.func111,Tryz.ntmps111;go_wp2_with (go_at_call 33;refine(zf _ _ eG hm).mono ?_;rintro e w' ⟨rfl,hb⟩);go_ret;exact⟨rfl,hb⟩
theorem QF (op:Int) (w:World):
 Calls Tryz.prog 133 #[.int .i64 op] w λe w'=>e= .returned (.tuple #[.agg #[.bool (fN op),.bool (fA op),.bool (fI op),.bool (fX op),.bool (fB op),.bool (fE op)],.bool (fO op)])∧Below w.heap.size w w':=by
 have hop:op=1∨op=2∨op=3∨op=4∨op=5∨op=6∨op=7∨op=8∨op=9∨op=10∨op=11∨op=12∨op=13∨op=14∨op=15∨(op<1∨15<op):=agH
 rcases hop with rfl|rfl|rfl|rfl|rfl|rfl|rfl|rfl|rfl|rfl|rfl|rfl|rfl|rfl|rfl|hop
 case inr.inr.inr.inr.inr.inr.inr.inr.inr.inr.inr.inr.inr.inr.inr=>
  have e1:fN op=false:=by unfold fN;grind
  have e2:fA op=false:=by unfold fA;grind
  have e3:fI op=false:=by unfold fI;grind
  have e4:fX op=false:=by unfold fX;grind
  have e5:fB op=false:=by unfold fB;grind
  have e6:fE op=false:=by unfold fE;grind
  have e7:fO op=false:=by unfold fO;grind
  rw[e1,e2,e3,e4,e5,e6,e7];clear e1 e2 e3 e4 e5 e6 e7;have g1:(op==1)=false:=acy
  have g2:(op==2)=false:=acy
  have g3:(op==3)=false:=acy
  have g4:(op==4)=false:=acy
  have g5:(op==5)=false:=acy
  have g6:(op==6)=false:=acy
  have g7:(op==7)=false:=acy
  have g8:(op==8)=false:=acy
  have g9:(op==9)=false:=acy
  have g10:(op==10)=false:=acy
  have g11:(op==11)=false:=acy
  have g12:(op==12)=false:=acy
  have g13:(op==13)=false:=acy
  have g14:(op==14)=false:=acy
  have g15:(op==15)=false:=acy
  clear hop;go_enter Tryz.func133,Tryz.ntmps133;go_wp2;exact bodyPost_ret (v:= .tuple #[.agg #[.bool _,.bool _,.bool _,.bool _,.bool _,.bool _],.bool _]) (by simp[results,Tryz.results133,go_sem]) rfl ⟨rfl,ak _ _⟩
 all_goals go_enter Tryz.func133,Tryz.ntmps133;go_wp2;exact bodyPost_ret (v:= .tuple #[.agg #[.bool _,.bool _,.bool _,.bool _,.bool _,.bool _],.bool _]) (by simp[results,Tryz.results133,go_sem];decide) rfl ⟨rfl,ak _ _⟩
theorem Sk (op n:Int) (nm:ByteArray) (len cap:Nat) (ao:Option Addr) (w:World):
 Calls Tryz.prog 135 #[.agg #[.int .i64 op,.int .i64 n,.string nm,.slice ao len cap]] w λe w'=>e= .returned (.bool (qV op n nm len))∧Below w.heap.size w w':=by
 have HE:aj (qV op n nm len=(((decide (op=0)&&decide (n=0))&&decide (nm.toList=[]))&&decide (len=0))):=ah adO;go_enter Tryz.func135,Tryz.ntmps135;go_wp2
 all_goals go_ret
 all_goals refine⟨bW ?_,ak _ _⟩
 all_goals rw[HE.o]
 all_goals (go_light;grind)
theorem Nc (d:De) (w:World) (eG:dW w) (hok:d.Ok):
 Calls Tryz.prog 78 #[.agg #[.int .i64 d.kind,.int .i64 d.line,.string d.nm,.int .i64 d.size,.int .i64 d.init,.string d.on]] w λe w'=>e= .returned (.bool (jw d))∧Below w.heap.size w w':=by
 obtain⟨⟨k1,k2⟩,-,hm,-,-,ho⟩:=hok;obtain⟨kind,line,nm,size,init,on⟩:=d;have HE:aj (jw ⟨kind,line,nm,size,init,on⟩=((((decide (1<=kind)&&decide (kind<=6))&&Tk.jf nm.data.toList)&&(decide (0<=size)&&(decide (size=0)||decide (kind=1))))&&((!decide (init= -9223372036854775808)&&(decide (init=0)||(decide (kind=1)||decide (kind=2))))&&kZ on (kind==5)))):=ah abL;dsimp only at *;generalize jw ⟨kind,line,nm,size,init,on⟩=res at *;go_enter Tryz.func78,Tryz.ntmps78;go_upto_region 1 with fail;generalize hW:World.alloc w _=W;generalize Value.agg #[_,_,_,_,_,_]=a0;have HX:=ah ((Sit.start w).Qt rfl (.int .i64 kind) (.int .i64 line) (.string nm) (.int .i64 size) (.int .i64 init) (.string on) 55);rw[hW]at HX;clear hW;obtain⟨-,⟨-,c0⟩,⟨-,c1⟩,⟨-,c2⟩,⟨-,c3⟩,⟨-,c4⟩,⟨-,c5⟩,-⟩:=HX.o;go_cut [16] (λs W2=> ∃b,s= .bool b∧(!b)=((decide (1<=kind)&&decide (kind<=6))&&Tk.jf nm.data.toList)∧Sit w W2 [(w.heap.size,0,.int .i64 kind),(w.heap.size,1,.int .i64 line),(w.heap.size,2,.string nm),(w.heap.size,3,.int .i64 size),(w.heap.size,4,.int .i64 init),(w.heap.size,5,.string on)])
 case first=>
  go_wp2_with (go_at_call 33;refine(zf _ _ (eG.same HX.o.1) hm).mono ?_;rintro e w' ⟨rfl,hb⟩)
  all_goals go_meet
  all_goals first|exact⟨_,rfl,ahg,HX.o.next ‹_›⟩|exact⟨_,rfl,ahg,HX.o⟩
 obtain⟨b1,rfl,hb1,hX⟩:=hcut;have HY:=ah hX;have HB1:=ah hb1;clear hX HX hb1 c0 c1 c2 c3 c4 c5;obtain⟨-,⟨-,c0⟩,⟨-,c1⟩,⟨-,c2⟩,⟨-,c3⟩,⟨-,c4⟩,⟨-,c5⟩,-⟩:=HY.o;cases b1
 ·cases h5:(kind==5)
  all_goals rw[h5]at HE;go_wp2_with (go_at_call 111;refine(uP _ _ _ (eG.same HY.o.1) ho).mono ?_;rintro e w' ⟨rfl,hb⟩)
  all_goals go_ret
  all_goals first|refine⟨bW ?_,(HY.o.next ‹_›).1⟩|refine⟨bW ?_,HY.o.1⟩
  all_goals rw[HE.o,<- HB1.o]
  all_goals (go_light;grind)
 ·go_wp2_with fail;go_ret;refine⟨bW ?_,HY.o.1⟩;rw[HE.o,<- HB1.o];rfl
def J4 (op n:Int) (nm:ByteArray) (kids:bT):Prop:=
 ∀(w:World) (ao:Option Addr) (cap:Nat),qW op n nm kids->kids.At w w.heap.size ao 0->dW w->
  Calls Tryz.prog 134 #[.agg #[.int .i64 op,.int .i64 n,.string nm,.slice ao kids.len cap]] w λe w'=>e= .returned (.bool (jW op n nm kids))∧Below w.heap.size w w'
theorem ah1 {op n:Int} {nm:ByteArray} {kids:bT} (h:((kids.len:Int)==opsOf op)=false):jW op n nm kids=false:=by unfold jW IG;rw[h];rfl
theorem YM {op n:Int} {nm:ByteArray} {kids:bT} (h:n<0∨((n==0)=false∧(op==1)=false)):jW op n nm kids=false:=by
 unfold jW IG;rcases h with h|⟨h,h'⟩
 ·rw[decide_eq_true h];simp
 ·rw[h,h'];simp
theorem ay6 {op n:Int} {nm:ByteArray} {kids:bT} {b:Bool} (hb:named op=b) (h:kZ nm b=false):jW op n nm kids=false:=by
 unfold jW IG;rw[hb,h];simp
theorem ah2 {op n:Int} {nm:ByteArray} {kids:bT} {b:Bool} (h1:((kids.len:Int)==opsOf op)=true) (h2:0<=n) (h3:(n==0)=true∨(op==1)=true) (hb:named op=b) (h:kZ nm b=true):jW op n nm kids=mZ kids:=by
 unfold jW IG;rw[hb,h,h1,decide_eq_false agH];rcases h3 with h3|h3 <;> rw[h3] <;> simp
theorem av6 (op n:Int):(n<0)∨(0<n∧op≠1)∨
 ∃b,named op=b∧0<=n∧((n==0)=true∨(op==1)=true)∧
  ((0<n∧op=1∧b=false)∨(n=0∧op=2∧b=true)∨(n=0∧op=3∧b=true)∨(n=0∧(op==2)=false∧(op==3)=false∧b=false)):=by
 by_cases h:n<0
 ·exact Or.inl h
 ·by_cases h0:n=0
  ·subst h0;by_cases h2:op=2
   ·subst h2;exact Or.inr (Or.inr ⟨true,rfl,agH,Or.inl rfl,agJ⟩)
   ·by_cases h3:op=3
    ·subst h3;exact Or.inr (Or.inr ⟨true,rfl,agH,Or.inl rfl,agJ⟩)
    ·exact Or.inr (Or.inr ⟨false,by simp[named,h2,h3],agH,Or.inl rfl,by simp[h2,h3]⟩)
  ·by_cases h1:op=1
   ·subst h1;exact Or.inr (Or.inr ⟨false,rfl,agH,Or.inr rfl,agK⟩)
   ·exact Or.inr (Or.inl ⟨agH,h1⟩)
theorem nL (op n:Int) (nm:ByteArray) (kids rest:bT):mZ (.cons op n nm kids rest)=(jW op n nm kids&&mZ rest):=rfl
def TN (kids R:bT) (k:Nat):Prop:=k+R.len=kids.len∧mZ kids=mZ R
theorem Lh (op n:Int) (nm:ByteArray) (kids:bT) (ih:kids.All J4):J4 op n nm kids:=by
 intro w ao cap hok hat eG;obtain⟨⟨o1,o2⟩,⟨n1,n2⟩,hm,hl⟩:=hok;unfold maxLen at hl;have hl':kids.len<=9223372036854775807:=hl;rcases av6 op n with hn|⟨hn,q1⟩|⟨b,hb,hn,hor,hq⟩
 ·have HR:=ah (YM (nm:=nm) (kids:=kids) (op:=op) (Or.inl hn));go_enter Tryz.func134,Tryz.ntmps134;go_wp2_with fail;generalize hW:World.alloc w _=W;have HX:=ah (wX.mk hW);clear hW;obtain⟨-,-,c0,c1,c2,c3⟩:=HX.o;go_quiet (first|(go_at_call 152;refine oQ (zH _ _)));go_wp2_with fail
  all_goals go_ret
  all_goals exact⟨bW HR.o.symm,(HX.o.draws _).1⟩
 ·have HR:=ah (YM (nm:=nm) (kids:=kids) (Or.inr ⟨beq_eq_false_iff_ne.2 (show n≠0 by omega),beq_eq_false_iff_ne.2 q1⟩));have q1':(op != 1)=true:=bne_iff_ne.2 q1;have q0':(n != 0)=true:=bne_iff_ne.2 agH;go_enter Tryz.func134,Tryz.ntmps134;go_wp2_with fail;generalize hW:World.alloc w _=W;have HX:=ah (wX.mk hW);clear hW;obtain⟨-,-,c0,c1,c2,c3⟩:=HX.o;go_quiet (first|(go_at_call 152;refine oQ (zH _ _)));go_wp2_with fail
  all_goals go_ret
  all_goals exact⟨bW HR.o.symm,(HX.o.draws _).1⟩
 ·by_cases h1:((kids.len:Int)==opsOf op)=false
  ·have HR:=ah (ah1 (n:=n) (nm:=nm) h1);have h1':((kids.len:Int) != opsOf op)=true:=by unfold bne;rw[h1];rfl
   go_enter Tryz.func134,Tryz.ntmps134;go_wp2_with fail;generalize hW:World.alloc w _=W;have HX:=ah (wX.mk hW);clear hW;obtain⟨-,-,c0,c1,c2,c3⟩:=HX.o;go_quiet (first|(go_at_call 152;refine oQ (zH _ _)));go_wp2_with fail;go_ret;exact⟨bW HR.o.symm,(HX.o.draws _).1⟩
  ·have h1':((kids.len:Int)==opsOf op)=true:=by simpa using h1
   clear h1;have HY:=ah (λh:kZ nm b=true=>ah2 h1' hn hor hb h);have HN:=ah (λh:kZ nm b=false=>ay6 (n:=n) (kids:=kids) hb h);clear hb hor;have HAT:=ah hat;have rG:=ah ih;clear hat ih;have bN8:((kids.len:Int) != opsOf op)=false:=by unfold bne;rw[h1'];rfl
   clear h1';rcases hq with⟨q0,rfl,rfl⟩|⟨rfl,rfl,rfl⟩|⟨rfl,rfl,rfl⟩|⟨rfl,q2,q3,rfl⟩
   all_goals go_enter Tryz.func134,Tryz.ntmps134;go_wp2_with fail;generalize hW:World.alloc w _=W;have HX:=ah (wX.mk hW);clear hW;obtain⟨-,-,c0,c1,c2,c3⟩:=HX.o;go_quiet (first|(go_at_call 152;refine oQ (zH _ _)));have Ld:=ah (HX.o.draws nq);clear HX c0 c1 c2 c3;generalize W.drewN nq=wq at *;obtain⟨-,-,c0,c1,c2,c3⟩:=Ld.o;go_wp2_with fail;refine(uP _ _ _ (eG.same Ld.o.1) hm).mono ?_;rintro e w1 ⟨rfl,hb1⟩;have HZ:=ah (Ld.o.next hb1);clear hb1 Ld c0 c1 c2 c3;obtain⟨-,-,c0,c1,c2,c3⟩:=HZ.o
   all_goals
    cases hN:kZ nm _
    ·have HR:=ah (HN.o hN);clear HN HY;go_wp2_with fail;go_ret;exact⟨bW HR.o.symm,HZ.o.1⟩
    ·have HR:=ah (HY.o hN);clear HN HY;go_wp2_with fail;go_loopw [40] (λi wr=> ∃k R,i= .int .i64 (k:Nat)∧TN kids R k∧R.All J4∧R.At wr wr.heap.size ao k∧wX w wr (Value.int IntKind.i64 _) (Value.int IntKind.i64 _) (Value.string nm) (Value.slice ao kids.len cap)) (λi _=>kids.len -(intOf i).toNat)
     case atStart=>exact⟨0,kids,rfl,⟨aU _,rfl⟩,rG.o,HAT.o.same HZ.o.1,HZ.o⟩
     case round=>
      obtain⟨k,R,rfl,⟨hlen,heq⟩,hall,hrow,D6⟩:=hrel;have HT:=ah (HR.o.trans heq);cases R with
      |nil=>obtain rfl:k=kids.len:=afk;go_wp2_with fail;go_ret;exact⟨bW HT.o.symm,D6.1⟩
      |cons op' n' nm' iw rest=>
       obtain⟨⟨b,off,mh,cap',rfl,lV,x0,x1,x2,x3,hok',lW⟩,hrest⟩:=hrow;obtain⟨kN,pG⟩:=hall;have hlt:k<kids.len:=acB;go_wp2_with fail;have hba:=(au wr.heap.size wr).alloc (aB _) (.cells #[.int .i64 op',.int .i64 n',.string nm',.slice mh iw.len cap'] 72);refine(kN _ _ _ hok' (lW.same hba) ((eG.same D6.1).alloc _)).mono ?_;rintro e w2 ⟨rfl,hb2⟩;have hb3:=hba.trans (hb2.mono agJ);have xB:=ah (D6.next hb3);have hrest':=hrest.same hb3;clear hba hb2 hb3 D6 hrest x0 x1 x2 x3 c0 c1 c2 c3 lW;cases hS:jW op' n' nm' iw
       ·have HF:=ah (HT.o.trans (by rw[nL,hS];rfl:mZ (.cons op' n' nm' iw rest)=false));go_wp2_with fail;go_ret;exact⟨bW HF.o.symm,xB.o.1⟩
       ·have HF:=ah (heq.trans (by rw[nL,hS];rfl:mZ (.cons op' n' nm' iw rest)=mZ rest));go_wp2_with fail;go_roundw
        case rel=>exact⟨k+1,rest,agL,⟨acB,HF.o⟩,pG,hrest',xB.o⟩
        case measure=>simp[intOf];omega
theorem A9 (op n:Int) (nm:ByteArray) (kids:bT):J4 op n nm kids:=bT.AX Lh op n nm kids
def EL (h:dF) (b e:aZ):Prop:=
 ∀(w:World) (s:Sl),Eh w h b e s->dW w->
  Calls Tryz.prog 112 #[iE h b e s] w λe' w'=>e'= .returned (.bool (Dh h b e))∧Below w.heap.size w w'
theorem Bh (l:aZ) (hall:l.All EL) (w:World) (ao:Option Addr) (cap:Nat) (hl:l.len<=maxLen) (hat:l.At w w.heap.size ao 0) (eG:dW w):
 Calls Tryz.prog 79 #[.slice ao l.len cap] w λe' w'=>e'= .returned (.bool (gQ l))∧Below w.heap.size w w':=by
 unfold maxLen at hl;go_enter Tryz.func79,Tryz.ntmps79;go_wp2_with fail;go_loopw [4,7] (λ_ s wr=> ∃(k:Nat) (R:aZ),s= .int .i64 k∧k+R.len=l.len∧gQ l=gQ R∧R.All EL∧R.At wr wr.heap.size ao k∧Below w.heap.size w wr) (λ_ s _=>l.len -(intOf s).toNat)
 case atStart=>exact⟨0,l,rfl,agJ,rfl,hall,hat,au _ _⟩
 case round=>
  obtain⟨k,R,rfl,hlen,heq,pG,hrow,hB⟩:=hrel;have HE:=ah heq;clear heq;cases R with
  |nil=>
   obtain rfl:k=l.len:=aeY
   go_wp2_with fail;go_ret;exact⟨bW HE.o.symm,hB⟩
  |cons h b e R=>
   obtain⟨bl,off,s,rfl,hbl,hin,x0,x1,x2,x3,x4,x5,x6,x7,x8,x9,x10,hrest⟩:=aZ.At.head hrow;obtain⟨kN,D5⟩:=pG;have hkl:k<l.len:=acz
   clear hrow;go_wp2_with fail;have hba:=ak wr (.cells #[.int .i64 h.op,.int .i64 h.line,.string h.nm,.string h.arg,.slice s.gU h.idx.len s.gy,.int .i64 h.dP,.int .i64 h.xn,.string h.dO,.slice s.fT h.bJ.len s.eB,.slice s.dB b.len s.cu,.slice s.iD e.len s.gu] 74);refine(kN _ s (hin.same hba) (eG.same (hB.trans (hba.mono hB.size)))).mono ?_;rintro e' w2 ⟨rfl,hb2⟩;have HB3:=ah (hba.trans (hb2.mono agJ));clear hba hb2 x0 x1 x2 x3 x4 x5 x6 x7 x8 x9 x10 hin;cases hS:Dh h b e
   ·have HF:=ah (HE.o.trans (by rw[BZ,hS];rfl:gQ (.cons h b e R)=false));go_wp2_with fail;go_ret;exact⟨bW HF.o.symm,hB.trans (HB3.o.mono hB.size)⟩
   ·have HF:=ah (HE.o.trans (by rw[BZ,hS];rfl:gQ (.cons h b e R)=gQ R));go_wp2_with fail;go_roundw
    case rel=>exact⟨k+1,R,agL,acz,HF.o,D5,hrest.same HB3.o,hB.trans (HB3.o.mono hB.size)⟩
    case measure=>simp[intOf];omega
theorem Mj (h:dF) (b e:aZ) (ihb:b.All EL) (Yh:e.All EL):EL h b e:=by
 intro w s hin eG;obtain⟨gU,gy,fT,eB,dB,cu,iD,gu⟩:=s;have HS:aj (Dh h b e=((((fO h.op&&(kZ h.nm (fN h.op)&&kZ h.arg (fA h.op)))&&((decide ((h.idx.len:Int)<=1)&&(!decide ((h.idx.len:Int)=1)||fI h.op))&&mZ h.idx))&&
  ((if fX h.op then jW h.dP h.xn h.dO h.bJ else qV h.dP h.xn h.dO h.bJ.len)&&((fB h.op||decide ((b.len:Int)<=0))&&(fE h.op||decide ((e.len:Int)<=0)))))&&(gQ b&&gQ e))):=ah (by
  unfold Dh om;rw[Uh,Ug,Jb,Jb])
 generalize Dh h b e=res at *;have iA:=ah hin;have jX:=ah eG;have PD:=ah ihb;have HIE:=ah Yh;obtain⟨⟨⟨o1,o2⟩,-,hm,ha,hil,hxk,hbl,hel⟩,-⟩:=hin;clear eG ihb Yh;have by2:=hil;have ab6:=hbl;have ab8:=hel;have hxl:=hxk.2.2.2;unfold maxLen at hil hbl hel hxl;unfold iE;dsimp only;go_enter Tryz.func112,Tryz.ntmps112;go_upto_region 1 with fail;generalize hW:World.alloc w _=W;generalize Value.agg #[_,_,_,_,_,_,_,_,_,_,_]=a0;have HX:aj (Sit w W (rM w.heap.size h b e ⟨gU,gy,fT,eB,dB,cu,iD,gu⟩ [])):=ah abn;clear hW;obtain⟨-,⟨-,c0⟩,⟨-,c1⟩,⟨-,c2⟩,⟨-,c3⟩,⟨-,c4⟩,⟨-,c5⟩,⟨-,c6⟩,⟨-,c7⟩,⟨-,c8⟩,⟨-,c9⟩,⟨-,c10⟩,-⟩:=HX.o;go_upto_region 2 with(go_at_call 133;refine(QF _ _).mono ?_;rintro e' w1 ⟨rfl,hb1⟩);have HB1:=ah hb1;clear hb1;generalize fN h.op=bN at *;generalize fA h.op=bA at *;generalize fI h.op=bI at *;generalize fX h.op=bX at *;generalize fB h.op=bB at *;generalize fE h.op=bE at *;generalize fO h.op=bO at *;obtain⟨n2,hn2⟩: ∃n,w1.heap.size=n:=⟨_,rfl⟩;generalize hW2:World.alloc w1 _=W2;have HY:aj (Sit w W2 ((n2,0,.bool bN)::(n2,1,.bool bA)::(n2,2,.bool bI)::(n2,3,.bool bX)::(n2,4,.bool bB)::(n2,5,.bool bE)::rM w.heap.size h b e ⟨gU,gy,fT,eB,dB,cu,iD,gu⟩ [])):=ah (by rw[<- hW2];exact(HX.o.next HB1.o).Qt hn2 _ _ _ _ _ _ _);rw[hn2];clear hW2 hn2 HX HB1 c0 c1 c2 c3 c4 c5 c6 c7 c8 c9 c10;obtain⟨-,⟨-,c0⟩,⟨-,c1⟩,⟨-,c2⟩,⟨-,c3⟩,⟨-,c4⟩,⟨-,c5⟩,⟨-,c6⟩,⟨-,c7⟩,⟨-,c8⟩,⟨-,c9⟩,⟨-,c10⟩,⟨-,c11⟩,⟨-,c12⟩,⟨-,c13⟩,⟨-,c14⟩,⟨-,c15⟩,⟨-,c16⟩,-⟩:=HY.o;go_cut [4,7,30] (λ_ _ s' W2=> ∃t,s'= .bool t∧(!t)=(bO&&(kZ h.nm bN&&kZ h.arg bA))∧Sit w W2 ((n2,0,.bool bN)::(n2,1,.bool bA)::(n2,2,.bool bI)::(n2,3,.bool bX)::(n2,4,.bool bB)::(n2,5,.bool bE)::rM w.heap.size h b e ⟨gU,gy,fT,eB,dB,cu,iD,gu⟩ []))
 case first=>
  cases bO
  ·go_wp2_with fail;go_meet;exact⟨true,rfl,rfl,HY.o⟩
  ·go_wp2_with fail;refine(uP _ _ _ (jX.o.same HY.o.1) hm).mono ?_;rintro e' w3 ⟨rfl,hb3⟩;have HZ:=ah (HY.o.next hb3);clear hb3 HY c0 c1 c2 c3 c4 c5 c6 c7 c8 c9 c10 c11 c12 c13 c14 c15 c16;obtain⟨-,⟨-,c0⟩,⟨-,c1⟩,⟨-,c2⟩,⟨-,c3⟩,⟨-,c4⟩,⟨-,c5⟩,⟨-,c6⟩,⟨-,c7⟩,⟨-,c8⟩,⟨-,c9⟩,⟨-,c10⟩,⟨-,c11⟩,⟨-,c12⟩,⟨-,c13⟩,⟨-,c14⟩,⟨-,c15⟩,⟨-,c16⟩,-⟩:=HZ.o;cases hq:kZ h.nm bN
   ·go_wp2_with fail;go_meet;exact⟨true,rfl,by rw[hq];rfl,HZ.o⟩
   ·go_wp2_with fail;refine(uP _ _ _ (jX.o.same HZ.o.1) ha).mono ?_;rintro e' w3 ⟨rfl,hb3⟩;have HU:=ah (HZ.o.next hb3);clear hb3 HZ c0 c1 c2 c3 c4 c5 c6 c7 c8 c9 c10 c11 c12 c13 c14 c15 c16;cases hq2:kZ h.arg bA
    all_goals go_wp2_with fail
    all_goals go_meet
    all_goals exact⟨_,rfl,by rw[hq,hq2];rfl,HU.o⟩
 obtain⟨t1,rfl,ht1,hX⟩:=hcut;have HZ:=ah hX;have HT1:=ah ht1;clear hX ht1 HY c0 c1 c2 c3 c4 c5 c6 c7 c8 c9 c10 c11 c12 c13 c14 c15 c16;rw[<- HT1.o]at HS;clear HT1;cases t1
 case true=>go_wp2_with fail;go_ret;exact⟨bW HS.o.symm,HZ.o.1⟩
 obtain⟨-,⟨-,c0⟩,⟨-,c1⟩,⟨-,c2⟩,⟨-,c3⟩,⟨-,c4⟩,⟨-,c5⟩,⟨-,c6⟩,⟨-,c7⟩,⟨-,c8⟩,⟨-,c9⟩,⟨-,c10⟩,⟨-,c11⟩,⟨-,c12⟩,⟨-,c13⟩,⟨-,c14⟩,⟨-,c15⟩,⟨-,c16⟩,-⟩:=HZ.o;go_upto_region 4 with fail;go_cut [45] (λs' W3=>wc=W3∧∃t,s'= .bool t∧(!t)=(decide ((h.idx.len:Int)<=1)&&(!decide ((h.idx.len:Int)=1)||bI)))
 case first=>
  go_wp2_with fail
  all_goals go_meet
  all_goals exact⟨rfl,_,rfl,ahg⟩
 obtain⟨rfl,t2,rfl,ht2⟩:=hcut;have HT2:=ah ht2;rw[<- HT2.o]at HS;clear HT2 ht2;cases t2
 case true=>go_wp2_with fail;go_ret;exact⟨bW (HS.o.trans agJ).symm,HZ.o.1⟩
 have HXI:=ah (iA.o.same HZ.o.1);have hrow:=HXI.o.2.1;have hall:=HXI.o.1;clear hall;go_wp2_with fail;go_loopw [6,49] (λ_ s' wr=> ∃(k:Nat) (R:bT),s'= .int .i64 k∧k+R.len=h.idx.len∧mZ h.idx=mZ R∧R.At wr wr.heap.size gU k∧Sit w wr ((n2,0,.bool bN)::(n2,1,.bool bA)::(n2,2,.bool bI)::(n2,3,.bool bX)::(n2,4,.bool bB)::(n2,5,.bool bE)::rM w.heap.size h b e ⟨gU,gy,fT,eB,dB,cu,iD,gu⟩ [])) (λ_ s' _=>h.idx.len -(intOf s').toNat)
 case atStart=>exact⟨0,h.idx,rfl,agJ,rfl,hrow,HZ.o⟩
 case round=>
  obtain⟨k,R,rfl,hlen,heq,hrow',hsit⟩:=hrel;have HE:=ah heq;have HU:=ah hsit;clear heq hsit HZ hrow HXI c0 c1 c2 c3 c4 c5 c6 c7 c8 c9 c10 c11 c12 c13 c14 c15 c16;cases R with
  |cons op' n' nm' iw rest=>
   obtain⟨⟨b',off',mh,cap',rfl,lV,x0,x1,x2,x3,hok',lW⟩,hrest⟩:=hrow';have hlt:k<h.idx.len:=acB
   go_wp2_with fail;have hba:=ak wr (.cells #[.int .i64 op',.int .i64 n',.string nm',.slice mh iw.len cap'] 72);refine(A9 op' n' nm' iw _ _ _ hok' (lW.same hba) ((jX.o.same HU.o.1).same hba)).mono ?_;rintro e' w2 ⟨rfl,hb2⟩;have HB3:=ah (hba.trans (hb2.mono agJ));clear hba hb2 x0 x1 x2 x3 lW;cases hS:jW op' n' nm' iw
   ·rw[HE.o,nL,hS]at HS;go_wp2_with fail;go_ret;exact⟨bW (HS.o.trans agJ).symm,(HU.o.next HB3.o).1⟩
   ·have HF:=ah (HE.o.trans (by rw[nL,hS];rfl:mZ (.cons op' n' nm' iw rest)=mZ rest));go_wp2_with fail;go_roundw
    case rel=>exact⟨k+1,rest,agL,acB,HF.o,hrest.same HB3.o,HU.o.next HB3.o⟩
    case measure=>simp[intOf];omega
  |nil=>
   obtain rfl:k=h.idx.len:=afk
   rw[HE.o]at HS;clear HE hrow' hlen;obtain⟨-,⟨-,c0⟩,⟨-,c1⟩,⟨-,c2⟩,⟨-,c3⟩,⟨-,c4⟩,⟨-,c5⟩,⟨-,c6⟩,⟨-,c7⟩,⟨-,c8⟩,⟨-,c9⟩,⟨-,c10⟩,⟨-,c11⟩,⟨-,c12⟩,⟨-,c13⟩,⟨-,c14⟩,⟨-,c15⟩,⟨-,c16⟩,-⟩:=HU.o;have hba:=jX.o.same HU.o.1;go_upto_region 12 with fail;go_cut [75] (λs' W3=> ∃t,s'= .bool t∧(!t)=(if bX then jW h.dP h.xn h.dO h.bJ else qV h.dP h.xn h.dO h.bJ.len)∧Sit w W3 ((n2,0,.bool bN)::(n2,1,.bool bA)::(n2,2,.bool bI)::(n2,3,.bool bX)::(n2,4,.bool bB)::(n2,5,.bool bE)::rM w.heap.size h b e ⟨gU,gy,fT,eB,dB,cu,iD,gu⟩ []))
   case first=>
    cases bX
    ·go_wp2_with fail;refine(Sk _ _ _ _ _ _ _).mono ?_;rintro e' w3 ⟨rfl,hb3⟩;have HV:=ah (HU.o.next hb3);clear hb3;cases hq:qV h.dP h.xn h.dO h.bJ.len
     all_goals go_wp2_with fail
     all_goals go_meet
     all_goals exact⟨_,rfl,hq.symm,HV.o⟩
    ·go_wp2_with fail;refine(A9 _ _ _ _ _ _ _ hxk (iA.o.same HU.o.1).2.2.1 hba).mono ?_;rintro e' w3 ⟨rfl,hb3⟩;have HV:=ah (HU.o.next hb3);clear hb3 HU c0 c1 c2 c3 c4 c5 c6 c7 c8 c9 c10 c11 c12 c13 c14 c15 c16;obtain⟨-,⟨-,c0⟩,⟨-,c1⟩,⟨-,c2⟩,⟨-,c3⟩,⟨-,c4⟩,⟨-,c5⟩,⟨-,c6⟩,⟨-,c7⟩,⟨-,c8⟩,⟨-,c9⟩,⟨-,c10⟩,⟨-,c11⟩,⟨-,c12⟩,⟨-,c13⟩,⟨-,c14⟩,⟨-,c15⟩,⟨-,c16⟩,-⟩:=HV.o;cases hq:jW h.dP h.xn h.dO h.bJ
     all_goals go_wp2_with fail
     all_goals go_meet
     all_goals exact⟨_,rfl,hq.symm,HV.o⟩
   obtain⟨t3,rfl,ht3,hX⟩:=hcut;have HV:=ah hX;have HT3:=ah ht3;clear hX ht3 HU hba c0 c1 c2 c3 c4 c5 c6 c7 c8 c9 c10 c11 c12 c13 c14 c15 c16;rw[<- HT3.o]at HS;clear HT3;cases t3
   case true=>go_wp2_with fail;go_ret;exact⟨bW (HS.o.trans agJ).symm,HV.o.1⟩
   obtain⟨-,⟨-,c0⟩,⟨-,c1⟩,⟨-,c2⟩,⟨-,c3⟩,⟨-,c4⟩,⟨-,c5⟩,⟨-,c6⟩,⟨-,c7⟩,⟨-,c8⟩,⟨-,c9⟩,⟨-,c10⟩,⟨-,c11⟩,⟨-,c12⟩,⟨-,c13⟩,⟨-,c14⟩,⟨-,c15⟩,⟨-,c16⟩,-⟩:=HV.o;go_upto_region 14 with fail;go_cut [95] (λs' W3=>wc=W3∧∃t,s'= .bool t∧(!t)=((bB||decide ((b.len:Int)<=0))&&(bE||decide ((e.len:Int)<=0))))
   case first=>
    cases bB
    all_goals cases bE
    all_goals go_wp2_with fail
    all_goals go_meet
    all_goals exact⟨rfl,_,rfl,ahg⟩
   obtain⟨rfl,t4,rfl,XZ⟩:=hcut;have EC:=ah XZ;rw[<- EC.o]at HS;clear EC XZ;cases t4
   case true=>go_wp2_with fail;go_ret;exact⟨bW (HS.o.trans agJ).symm,HV.o.1⟩
   go_wp2_with fail;refine(Bh b PD.o _ _ _ ab6 (iA.o.same HV.o.1).2.2.2.1 (jX.o.same HV.o.1)).mono ?_;rintro e' w4 ⟨rfl,hb4⟩;have HA:=ah (HV.o.next hb4);clear hb4 HV c0 c1 c2 c3 c4 c5 c6 c7 c8 c9 c10 c11 c12 c13 c14 c15 c16;obtain⟨-,⟨-,c0⟩,⟨-,c1⟩,⟨-,c2⟩,⟨-,c3⟩,⟨-,c4⟩,⟨-,c5⟩,⟨-,c6⟩,⟨-,c7⟩,⟨-,c8⟩,⟨-,c9⟩,⟨-,c10⟩,⟨-,c11⟩,⟨-,c12⟩,⟨-,c13⟩,⟨-,c14⟩,⟨-,c15⟩,⟨-,c16⟩,-⟩:=HA.o;cases hq:gQ b
   ·rw[hq]at HS;go_wp2_with fail;go_ret;exact⟨bW (HS.o.trans agJ).symm,HA.o.1⟩
   ·rw[hq]at HS;go_wp2_with fail;refine(Bh e HIE.o _ _ _ ab8 (iA.o.same HA.o.1).2.2.2.2 (jX.o.same HA.o.1)).mono ?_;rintro e' w5 ⟨rfl,hb5⟩;go_wp2_with fail;go_ret;exact⟨bW (HS.o.trans (by simp[mZ])).symm,(HA.o.next hb5).1⟩
theorem Nf (l:aZ) (w:World) (ao:Option Addr) (cap:Nat) (hl:l.len<=maxLen) (hat:l.At w w.heap.size ao 0) (eG:dW w):
 Calls Tryz.prog 79 #[.slice ao l.len cap] w λe' w'=>e'= .returned (.bool (gQ l))∧Below w.heap.size w w':=
 Bh l (aZ.nQ Mj l) w ao cap hl hat eG
theorem ES (d:De) (w:World):
 Calls Tryz.prog 80 #[.agg #[.int .i64 d.kind,.int .i64 d.line,.string d.nm,.int .i64 d.size,.int .i64 d.init,.string d.on]] w λe w'=>e= .returned (.int .i64 (gK d))∧Below w.heap.size w w':=by
 unfold gK;go_enter Tryz.func80,Tryz.ntmps80;go_wp2
 all_goals go_ret
 all_goals refine⟨bV ?_,ak _ _⟩
 all_goals first|(simp[*];done)|(go_light;grind)
theorem VF (s:ByteArray) (r:List ByteArray) (nm:ByteArray):rO (s::r) nm=((s.toList==nm.toList)||rO r nm):=by simp[rO]
theorem VL (d:De) (r:List De) (nm:ByteArray):qA (d::r) nm=if d.nm.toList==nm.toList then some (gK d)else qA r nm:=by
 unfold qA;rw[List.find?_cons];cases h:(d.nm.toList==nm.toList) <;> simp
theorem VN (t:Th) (r:List Th) (nm:ByteArray):tQ (t::r) nm=if t.nm.toList==nm.toList then 8 else tQ r nm:=by
 unfold tQ;rw[List.any_cons];cases h:(t.nm.toList==nm.toList) <;> simp
theorem JR {ts:List Th} {i:Int} (h: ¬(0<=i∧i<ts.length)):qN ts i=[]:=by
 unfold qN;split
 ·rw[List.getElem?_eq_none agH];rfl
 ·rfl
theorem M6 {ts:List Th} {i:Nat} {t:Th} {r:List Th} (h:ts.drop i=t::r):qN ts (i:Int)=t.cZ:=by
 have h2:ts[i]? =some t:=by have:=List.getElem?_drop (xs:=ts) (i:=i) (j:=0);rw[h]at this;simpa using this.symm
 unfold qN;rw[if_pos agH];simp[h2]
theorem SN (p:Pr) (i:Int) (nm:ByteArray) (w:World) (aK aM:Option Addr) (aH aG:Nat) (hi:bY i) (hp:p.At w aK aM):
 Calls Tryz.prog 165 #[.agg #[.slice aK p.ds.length aH,.slice aM p.ts.length aG],.int .i64 i,.string nm] w λe w'=>e= .returned (.int .i64 (mean p i nm))∧Below w.heap.size w w':=by
 obtain⟨i1,i2⟩:=hi;have hld:=hp.1;have hlt:=hp.2.1;unfold maxLen at hld hlt;have HP:=ah hp;clear hp;go_enter Tryz.func165,Tryz.ntmps165;go_upto_region 1 with fail;generalize hW:World.alloc w _=W;generalize Value.agg #[_,_]=a0;have HX:=ah ((Sit.start w).xV rfl (.slice aK p.ds.length aH) (.slice aM p.ts.length aG) 35);rw[hW]at HX;clear hW;obtain⟨-,⟨-,c0⟩,⟨-,c1⟩,-⟩:=HX.o;go_cut [21] (λs W2=>W=W2∧∃b,s= .bool b∧decide (0<=i∧i<p.ts.length)=b)
 case first=>
  go_wp2_with fail
  all_goals go_meet
  all_goals exact⟨rfl,_,rfl,ahg⟩
 obtain⟨rfl,bi,rfl,hbi⟩:=hcut;have HBI:=ah hbi;clear hbi
 go_upto_if 21 with fail
 go_cut [6,8] (λs6 s8 W2=>rO (qN p.ts i) nm=false∧Sit w W2 [(w.heap.size,0,(.slice aK p.ds.length aH)),(w.heap.size,1,(.slice aM p.ts.length aG))])
 case first=>
  cases bi
  ·go_wp2_with fail;go_meet;exact⟨by rw[JR (by simpa using HBI.o)];rfl,HX.o⟩
  ·have hbi:0<=i∧i<p.ts.length:=by simpa using HBI.o
   obtain⟨j,rfl⟩:=Int.eq_ofNat_of_zero_le hbi.1;have hj:j<p.ts.length:=agH
   have hth:=(HP.o.same HX.o.1).2.2.2.drop j;cases hd:p.ts.drop j with
   |nil=>exfalso;have:=congrArg List.length hd;simp at this;omega
   |cons t r=>
    rw[hd,aU]at hth;have HL:=ah (M6 hd);clear hd hbi HBI;obtain⟨⟨b,off,iU,eU,dB,cu,rfl,hB,x0,x1,x2,x3,hok,htx,hst⟩,-⟩:=hth;have hll:=hok.2.2.1;unfold maxLen at hll;clear hst hok;go_wp2_with fail;go_loop [8,29] (λ_ s=> ∃(k:Nat) (R:List ByteArray),s= .int .i64 k∧k+R.length=t.cZ.length∧rO t.cZ nm=rO R nm∧fP W W.heap.size R iU k) (λ_ s=>t.cZ.length -(intOf s).toNat)
    case atStart=>exact⟨0,t.cZ,rfl,agJ,rfl,htx⟩
    case round=>
     obtain⟨k,R,rfl,hlen,heq,hrow⟩:=hrel;cases R with
     |nil=>obtain rfl:k=t.cZ.length:=aeQ;go_wp2_with fail;go_meet;exact⟨by rw[HL.o,heq];rfl,HX.o⟩
     |cons s R=>
      obtain⟨⟨b',off',rfl,hB',y0,hs⟩,hrest⟩:=hrow;simp only[aD]at hlen;have hkl:k<t.cZ.length:=agH;rw[VF]at heq;have HE:=ah heq;clear heq;cases hc:(s.toList==nm.toList)
      ·have dG:=ah (HE.o.trans (by rw[hc];rfl:_=rO R nm));exact AaC
      ·have dG:=ah (HE.o.trans (by rw[hc];rfl:_=true));go_wp2_with fail;go_ret;exact⟨bV (by unfold mean;rw[HL.o,dG.o];rfl),HX.o.1⟩
 case rest=>
  obtain⟨hno,hX⟩:=hcut;have HY:=ah hX;have HM:aj (mean p i nm=(qA p.ds nm).getD (tQ p.ts nm)):=ah (by unfold mean;rw[hno];rfl);clear hno hX HX c0 c1;obtain⟨-,⟨-,c0⟩,⟨-,c1⟩,-⟩:=HY.o;have hde:=(HP.o.same HY.o.1).2.2.1;go_wp2_with fail;go_loopw [10,40] (λ_ s wr=> ∃(k:Nat) (R:List De),s= .int .i64 k∧k+R.length=p.ds.length∧qA p.ds nm=qA R nm∧jv wr wr.heap.size R aK k∧Sit w wr [(w.heap.size,0,(.slice aK p.ds.length aH)),(w.heap.size,1,(.slice aM p.ts.length aG))]) (λ_ s _=>p.ds.length -(intOf s).toNat)
  case atStart=>exact⟨0,p.ds,rfl,agJ,rfl,hde,HY.o⟩
  case round=>
   obtain⟨k,R,rfl,hlen,heq,hrow,hsit⟩:=hrel;have HZ:=ah hsit;clear hsit HY c0 c1 hde;cases R with
   |nil=>
    obtain rfl:k=p.ds.length:=aeQ;obtain⟨-,⟨-,c0⟩,⟨-,c1⟩,-⟩:=HZ.o;have hth:=(HP.o.same HZ.o.1).2.2.2;have HM':=ah (HM.o.trans (by rw[heq];rfl:_=tQ p.ts nm));clear heq HM;go_wp2_with fail;go_loopw [12,54] (λ_ s wr=> ∃(k:Nat) (R:List Th),s= .int .i64 k∧k+R.length=p.ts.length∧tQ p.ts nm=tQ R nm∧iG wr wr.heap.size R aM k∧Sit w wr [(w.heap.size,0,(.slice aK p.ds.length aH)),(w.heap.size,1,(.slice aM p.ts.length aG))]) (λ_ s _=>p.ts.length -(intOf s).toNat)
    case atStart=>exact⟨0,p.ts,rfl,agJ,rfl,hth,HZ.o⟩
    case round=>
     obtain⟨k,R,rfl,hlen,heq,hrow,hsit⟩:=hrel;have HU:=ah hsit;clear hsit HZ c0 c1 hth;cases R with
     |nil=>obtain rfl:k=p.ts.length:=aeQ;go_wp2_with fail;go_ret;exact⟨bV (HM'.o.trans heq).symm,HU.o.1⟩
     |cons t R=>
      obtain⟨⟨b,off,iU,eU,dB,cu,rfl,hB,x0,x1,x2,x3,hok,htx,hst⟩,hrest⟩:=hrow;simp only[aD]at hlen;have hkl:k<p.ts.length:=agH;rw[VN]at heq;have HE:=ah heq;clear heq hok htx hst;cases hc:(t.nm.toList==nm.toList)
      ·have dG:=ah (HE.o.trans (by rw[hc];rfl:_=tQ R nm));go_wp2_with fail;go_roundw
       case rel=>exact⟨k+1,R,agL,agH,dG.o,hrest.same (ak _ _),HU.o.next (ak _ _)⟩
       case measure=>simp[intOf];omega
      ·have dG:=ah (HE.o.trans (if_pos hc));go_wp2_with fail;go_ret;exact⟨bV (HM'.o.trans dG.o).symm,(HU.o.next (ak _ _)).1⟩
   |cons d R=>
    obtain⟨⟨b,off,rfl,hB,x0,x1,x2,x3,x4,x5,hok⟩,hrest⟩:=hrow;simp only[aD]at hlen;have hkl:k<p.ds.length:=agH;rw[VL]at heq;have HE:=ah heq;clear heq hok;cases hc:(d.nm.toList==nm.toList)
    ·have dG:=ah (HE.o.trans (by rw[hc];rfl:_=qA R nm));go_wp2_with fail;go_roundw
     case rel=>exact⟨k+1,R,agL,agH,dG.o,hrest.same (ak _ _),HZ.o.next (ak _ _)⟩
     case measure=>simp[intOf];omega
    ·have dG:=ah (HE.o.trans (if_pos hc));go_wp2_with fail;refine(ES d _).mono ?_;rintro e w2 ⟨rfl,hb2⟩;go_wp2_with fail;go_ret;exact⟨bV (HM.o.trans agN).symm,((HZ.o.next (ak _ _)).next hb2).1⟩
theorem uq (d:De):2<=gK d∧gK d<=9∧gK d≠8:=agE
namespace Md
def iq (w:World) (B:Nat):List Int->Option Addr->Nat->Prop
 | [],_,_=>True
 |s::r,ao,k=>(∃b off,ao=some ⟨b,off,none⟩∧b<B∧w.cell? ⟨b,off+k,none⟩=some (.int .i64 s))∧iq w B r ao (k+1)
section
variable {w w':World} {B B':Nat}
theorem iq.below (hb:Below B w w'): ∀ {l:List Int} {ao:Option Addr} {k:Nat},iq w B l ao k->iq w' B l ao k
 | [],_,_,_=>trivial
 |_::_,_,_,⟨⟨b,off,e,hB,c⟩,hr⟩=>⟨⟨b,off,e,hB,(hb.cell hB).trans c⟩,iq.below hb hr⟩
theorem iq.mono (h:B<=B'): ∀ {l:List Int} {ao:Option Addr} {k:Nat},iq w B l ao k->iq w B' l ao k
 | [],_,_,_=>trivial
 |_::_,_,_,⟨⟨b,off,e,hB,c⟩,hr⟩=>⟨⟨b,off,e,aR hB h,c⟩,iq.mono h hr⟩
theorem iq.same {l:List Int} {ao:Option Addr} {k:Nat} (h:iq w w.heap.size l ao k) (hb:Below w.heap.size w w'):iq w' w'.heap.size l ao k:=(h.below hb).mono hb.size
end
def dQ (m:Int) (l:List Int):Int:=if m==0 then 5 else if l.any (λk=>m==k)then 0 else 6
def CS:bT->Int->Int->Int×Int
 | .nil,n,d=>(n,d)
 | .cons _ _ _ kids rest,n,d=>CS rest (wrap64 (n+(CS kids 1 0).1)) (max d (wrap64 ((CS kids 1 0).2+1)))
def ext (kids:bT):Int×Int:=((CS kids 1 0).1,wrap64 ((CS kids 1 0).2+1))
def qO (p:Pr) (i op:Int) (nm:ByteArray):Int:=if op==2 then dQ (mean p i nm) [1,2]else if op==3 then dQ (mean p i nm) [3]else 0
def vS (p:Pr) (i:Int):bT->Int
 | .nil=>0
 | .cons op _ nm kids rest=>if qO p i op nm==0 then(if vS p i kids==0 then vS p i rest else vS p i kids)else qO p i op nm
def yc (p:Pr) (i op:Int) (nm:ByteArray) (kids:bT):Int:=if qO p i op nm==0 then vS p i kids else qO p i op nm
theorem Ox (p:Pr) (i op n:Int) (nm:ByteArray) (kids rest:bT):vS p i (.cons op n nm kids rest)=if yc p i op nm kids==0 then vS p i rest else yc p i op nm kids:=by
 rw[vS];unfold yc;cases h:(qO p i op nm==0) <;> simp
 ·intro h';simp[h']at h
def lU (p:Pr) (i op n:Int) (nm:ByteArray) (kids:bT):Int:=
 if jW op n nm kids then(if decide (24<(ext kids).1)||decide (6<(ext kids).2)then 2 else yc p i op nm kids)else 3
end Md
theorem Qp (m k:Int) (l:List Int):(k::l).any (λk=>m==k)=((m==k)||l.any (λk=>m==k)):=agJ
theorem BU (p:Pr) (i:Int) (nm:ByteArray) (l:List Int) (w:World) (aK aM ao:Option Addr) (aH aG cap:Nat) (hi:bY i) (hl:l.length<=maxLen) (hp:p.At w aK aM) (hw:iq w w.heap.size l ao 0):
 Calls Tryz.prog 154 #[.agg #[.slice aK p.ds.length aH,.slice aM p.ts.length aG],.int .i64 i,.string nm,.slice ao l.length cap] w λe w'=>e= .returned (.int .i64 (dQ (mean p i nm) l))∧Below w.heap.size w w':=by
 unfold maxLen at hl;have HP:=ah hp;have HW:=ah hw;clear hp hw;go_enter Tryz.func154,Tryz.ntmps154;go_wp2_with fail;refine(SN p i nm _ aK aM aH aG hi (HP.o.same (ak _ _))).mono ?_;rintro e w2 ⟨rfl,hb2⟩;have HB:=ah ((ak w (.cells #[.slice aK p.ds.length aH,.slice aM p.ts.length aG] 35)).trans (hb2.mono agJ));clear hb2;have hrow:=HW.o.same HB.o;generalize hmm:mean p i nm=m at *;have HM:=ah hmm;clear hmm;cases h0:(m==0)
 ·go_wp2_with fail;go_loop [11,20] (λ_ s=> ∃(k:Nat) (R:List Int),s= .int .i64 k∧k+R.length=l.length∧l.any (λk=>m==k)=R.any (λk=>m==k)∧iq w2 w2.heap.size R ao k) (λ_ s=>l.length -(intOf s).toNat)
  case atStart=>exact⟨0,l,rfl,agJ,rfl,hrow⟩
  case round=>
   obtain⟨k,R,rfl,hlen,heq,hrow'⟩:=hrel;cases R with
   |nil=>obtain rfl:k=l.length:=aeQ;have HE:aj (dQ m l=6):=ah (by unfold dQ;rw[h0,heq];rfl);clear heq;go_wp2_with fail;go_ret;exact⟨bV (by rw[HM.o,HE.o]),HB.o⟩
   |cons a R=>
    obtain⟨⟨b,off,rfl,hB,y0⟩,hrest⟩:=hrow';simp only[aD]at hlen;have hkl:k<l.length:=agH;rw[Qp]at heq;have HE:=ah heq;clear heq;cases hc:(m==a)
    ·have dG:=ah (HE.o.trans (by rw[hc];rfl:_=R.any (λk=>m==k)));exact AaC
    ·have dG:aj (dQ m l=0):=ah (by unfold dQ;rw[h0,HE.o,hc];rfl);go_wp2_with fail;go_ret;exact⟨bV (by rw[HM.o,dG.o]),HB.o⟩
 ·have HE:aj (dQ m l=5):=ah (by unfold dQ;rw[h0];rfl);go_wp2_with fail;go_ret;exact⟨bV (by rw[HM.o,HE.o]),HB.o⟩
theorem jN {a b c d:Int} (h1:c=a) (h2:d=b):Ending.returned (.tuple #[.int .i64 a,.int .i64 b])= .returned (.tuple #[.int .i64 c,.int .i64 d]):=by rw[h1,h2]
theorem ext_nil {kids:bT} {a d:Int} (h:CS kids 1 0=CS .nil a d):(ext kids).1=a∧(ext kids).2=wrap64 (d+1):=by unfold ext;rw[h];exact⟨rfl,rfl⟩
def IX (op n:Int) (nm:ByteArray) (kids:bT):Prop:=
 ∀(w:World) (ao:Option Addr) (cap:Nat),qW op n nm kids->kids.At w w.heap.size ao 0->
  Calls Tryz.prog 163 #[.agg #[.int .i64 op,.int .i64 n,.string nm,.slice ao kids.len cap]] w λe w'=>e= .returned (.tuple #[.int .i64 (ext kids).1,.int .i64 (ext kids).2])∧Below w.heap.size w w'
theorem Sz (op n:Int) (nm:ByteArray) (kids:bT) (ih:kids.All IX):IX op n nm kids:=by
 intro w ao cap hok hat;obtain⟨-,-,-,hl⟩:=hok;unfold maxLen at hl;have rG:=ah ih;have HAT:=ah hat;clear ih hat;go_enter Tryz.func163,Tryz.ntmps163;go_upto_region 2 with fail;generalize hW:World.alloc w _=W;generalize Value.agg #[_,_,_,_]=a0;have HX:=ah ((Sit.start w).Ac rfl (.int .i64 op) (.int .i64 n) (.string nm) (.slice ao kids.len cap) 72);rw[hW]at HX;clear hW;obtain⟨-,⟨-,c0⟩,⟨-,c1⟩,⟨-,c2⟩,⟨-,c3⟩,-⟩:=HX.o;go_wp2_with fail;go_loopw [4,5,7,8,9,13] (λs4 s5 _ _ _ s wr=> ∃(k:Nat) (R:bT) (a d:Int),s= .int .i64 k∧s4= .int .i64 a∧s5= .int .i64 d∧k+R.len=kids.len∧CS kids 1 0=CS R a d∧R.All IX∧R.At wr wr.heap.size ao k∧Below w.heap.size w wr) (λ_ _ _ _ _ s _=>kids.len -(intOf s).toNat)
 case atStart=>exact⟨0,kids,1,0,rfl,rfl,rfl,agJ,rfl,rG.o,HAT.o.same HX.o.1,HX.o.1⟩
 case round=>
  obtain⟨k,R,a,d,rfl,rfl,rfl,hlen,heq,hall,hrow,hB⟩:=hrel;have HE:=ah heq;clear heq c0 c1 c2 c3;cases R with
  |nil=>
   obtain rfl:k=kids.len:=afk
   go_wp2_with fail
   go_ret2
   exact⟨jN (ext_nil HE.o).1 (ext_nil HE.o).2,hB⟩
  |cons op' n' nm' iw rest=>
   obtain⟨⟨b,off,mh,cap',rfl,lV,x0,x1,x2,x3,hok',lW⟩,hrest⟩:=hrow;obtain⟨kN,pG⟩:=hall;have hlt:k<kids.len:=acB
   go_wp2_with fail;have hba:=ak wr (.cells #[.int .i64 op',.int .i64 n',.string nm',.slice mh iw.len cap'] 72);refine(kN _ _ _ hok' (lW.same hba)).mono ?_;rintro e w2 ⟨rfl,hb2⟩;have HB3:=ah (hba.trans (hb2.mono agJ));clear hba hb2 x0 x1 x2 x3 lW;go_wp2_with fail;go_roundw
   case rel=>exact⟨k+1,rest,_,_,agL,rfl,rfl,acB,HE.o,pG,hrest.same HB3.o,hB.trans (HB3.o.mono hB.size)⟩
   case measure=>simp[intOf];omega
theorem Vo (op n:Int) (nm:ByteArray) (kids:bT):IX op n nm kids:=bT.AX Sz op n nm kids
def IZ (p:Pr) (i:Int) (op n:Int) (nm:ByteArray) (kids:bT):Prop:=
 ∀(w:World) (aK aM ao:Option Addr) (aH aG cap:Nat),bY i->p.At w aK aM->qW op n nm kids->kids.At w w.heap.size ao 0->
  Calls Tryz.prog 164 #[.agg #[.slice aK p.ds.length aH,.slice aM p.ts.length aG],.int .i64 i,.agg #[.int .i64 op,.int .i64 n,.string nm,.slice ao kids.len cap]] w λe w'=>e= .returned (.int .i64 (yc p i op nm kids))∧Below w.heap.size w w'
theorem mO (w:World) (a b:Int) (t:TypeId):iq (w.alloc (.cells #[.int .i64 a,.int .i64 b] t)) (w.alloc (.cells #[.int .i64 a,.int .i64 b] t)).heap.size [a,b] (some ⟨w.heap.size,0,none⟩) 0:=
 ⟨⟨_,_,rfl,agJ,dX w [.int .i64 a,.int .i64 b] t 0⟩,⟨_,_,rfl,agJ,dX w [.int .i64 a,.int .i64 b] t 1⟩,trivial⟩
theorem jy (w:World) (a:Int) (t:TypeId):iq (w.alloc (.cells #[.int .i64 a] t)) (w.alloc (.cells #[.int .i64 a] t)).heap.size [a] (some ⟨w.heap.size,0,none⟩) 0:=
 ⟨⟨_,_,rfl,agJ,dX w [.int .i64 a] t 0⟩,trivial⟩
theorem VR (p:Pr) (i:Int) (op n:Int) (nm:ByteArray) (kids:bT) (ih:kids.All (IZ p i)):IZ p i op n nm kids:=by
 intro w aK aM ao aH aG cap hi hp hok hat;obtain⟨-,-,-,hl⟩:=hok;unfold maxLen at hl;have rG:=ah ih;have HAT:=ah hat;have HP:=ah hp;clear ih hat hp;go_enter Tryz.func164,Tryz.ntmps164;go_upto_region 1 with fail;generalize hW:World.alloc (World.alloc w _) _=W;generalize Value.agg #[_,_]=a0;generalize Value.agg #[_,_,_,_]=a1;have HX:=ah (((Sit.start w).xV rfl (.slice aK p.ds.length aH) (.slice aM p.ts.length aG) 35).Ac (n:=w.heap.size+1) agJ (.int .i64 op) (.int .i64 n) (.string nm) (.slice ao kids.len cap) 72);rw[hW]at HX;clear hW;obtain⟨-,⟨-,c0⟩,⟨-,c1⟩,⟨-,c2⟩,⟨-,c3⟩,⟨-,c4⟩,⟨-,c5⟩,-⟩:=HX.o;go_upto_block 0 with(fail);go_cut [7,10] (λs7 _ W2=>s7= .int .i64 (qO p i op nm)∧Sit w W2 [(w.heap.size+1,0,.int .i64 op),(w.heap.size+1,1,.int .i64 n),(w.heap.size+1,2,.string nm),(w.heap.size+1,3,.slice ao kids.len cap),(w.heap.size,0,.slice aK p.ds.length aH),(w.heap.size,1,.slice aM p.ts.length aG)])
 case first=>
  cases h2:(op==2)
  ·cases h3:(op==3)
   ·have HE:aj (qO p i op nm=0):=ah afZ;go_wp2_with fail;go_meet;exact⟨ahU,HX.o⟩
   ·have HE:aj (qO p i op nm=dQ (mean p i nm) [3]):=ah afZ;go_wp2_with fail;refine(BU p i nm [3] _ aK aM _ aH aG _ hi agI ((HP.o.same HX.o.1).same (ak _ _)) (jy W 3 _)).mono ?_;rintro e w2 ⟨rfl,hb2⟩;go_wp2_with fail;go_meet;exact⟨ahU,(HX.o.next (ak _ _)).next hb2⟩
  ·have HE:aj (qO p i op nm=dQ (mean p i nm) [1,2]):=ah (by unfold qO;rw[h2];rfl);go_wp2_with fail;refine(BU p i nm [1,2] _ aK aM _ aH aG _ hi agI ((HP.o.same HX.o.1).same (ak _ _)) (mO W 1 2 _)).mono ?_;rintro e w2 ⟨rfl,hb2⟩;go_wp2_with fail;go_meet;exact⟨ahU,(HX.o.next (ak _ _)).next hb2⟩
 case rest=>
  obtain⟨rfl,hX⟩:=hcut;have HY:=ah hX;clear hX HX c0 c1 c2 c3 c4 c5;have HR:aj (yc p i op nm kids=if qO p i op nm==0 then vS p i kids else qO p i op nm):=ah rfl;generalize qO p i op nm=r0 at *;go_wp2_with fail;go_loopw [7,8] (λs7 s8 wr=> ∃(k:Nat) (R:bT) (r:Int),s8= .int .i64 k∧s7= .int .i64 r∧k+R.len=kids.len∧yc p i op nm kids=(if r==0 then vS p i R else r)∧R.All (IZ p i)∧R.At wr wr.heap.size ao k∧Sit w wr [(w.heap.size+1,0,.int .i64 op),(w.heap.size+1,1,.int .i64 n),(w.heap.size+1,2,.string nm),(w.heap.size+1,3,.slice ao kids.len cap),(w.heap.size,0,.slice aK p.ds.length aH),(w.heap.size,1,.slice aM p.ts.length aG)]) (λ_ s _=>kids.len -(intOf s).toNat)
  case atStart=>exact⟨0,kids,r0,rfl,rfl,agJ,HR.o,rG.o,HAT.o.same HY.o.1,HY.o⟩
  case round=>
   obtain⟨k,R,r,rfl,rfl,hlen,heq,hall,hrow,hsit⟩:=hrel;have HE:=ah heq;have HZ:=ah hsit;clear heq hsit;obtain⟨-,⟨-,c0⟩,⟨-,c1⟩,⟨-,c2⟩,⟨-,c3⟩,⟨-,c4⟩,⟨-,c5⟩,-⟩:=HZ.o;cases R with
   |nil=>obtain rfl:k=kids.len:=afk;go_wp2_with fail;go_ret;exact⟨bV (HE.o.trans aef).symm,HZ.o.1⟩
   |cons op' n' nm' iw rest=>
    obtain⟨⟨b,off,mh,cap',rfl,lV,x0,x1,x2,x3,hok',lW⟩,hrest⟩:=hrow;obtain⟨kN,pG⟩:=hall;have hlt:k<kids.len:=acB;cases hr:(r==0)
    ·have dG:=ah (HE.o.trans (by rw[hr];rfl:_=r));go_wp2_with fail;go_ret;exact⟨bV dG.o.symm,HZ.o.1⟩
    ·have dG:=ah (HE.o.trans (by rw[hr];rfl:_=vS p i (.cons op' n' nm' iw rest)));go_wp2_with fail;obtain⟨T,F,Ah,hst,hF,hnext⟩:=calm wr;have HF:=ah hF;have dh:=ah hnext;clear hnext hF;have d0:=λx=>(HZ.o.next (HF.o x)).2.1.2;have d1:=λx=>(HZ.o.next (HF.o x)).2.2.1.2;have d2:=λx=>(HZ.o.next (HF.o x)).2.2.2.1.2;have d3:=λx=>(HZ.o.next (HF.o x)).2.2.2.2.1.2;have d4:=λx=>(HZ.o.next (HF.o x)).2.2.2.2.2.1.2;have d5:=λx=>(HZ.o.next (HF.o x)).2.2.2.2.2.2.1.2;have y0:=λx=>((HF.o x).cell (p:=⟨b,off+k*4,none⟩) lV).trans x0;have y1:=λx=>((HF.o x).cell (p:=⟨b,off+k*4+1,none⟩) lV).trans x1;have y2:=λx=>((HF.o x).cell (p:=⟨b,off+k*4+2,none⟩) lV).trans x2;have y3:=λx=>((HF.o x).cell (p:=⟨b,off+k*4+3,none⟩) lV).trans x3;clear c0 c1 c2 c3 c4 c5 x0 x1 x2 x3;have hk0:(0:Int)<=k:=agH;have hk1:(k:Int)<kids.len:=agH;refine iI F agG agG hst ?_
     repeat (any_goals (first|go_big_quiet_step ((go_at_call 164;refine(kN _ aK aM mh aH aG cap' hi ((HP.o.same HZ.o.1).same (HF.o _)) hok' (lW.same (HF.o _))).mono ?_;rintro e w' ⟨rfl,hb⟩;exact⟨rfl,dh.o _ _ hb⟩))|(refine wpQuiet_step (λK hK=> ?_);go_simp;first|(refine hK _ ?_;clear hK K)|(split <;> first|(refine hK _ ?_;clear hK K)|(apply Exists.intro;refine⟨λ_=> ?_,hK _ ?_⟩;((go_at_call 164;refine(kN _ aK aM mh aH aG cap' hi ((HP.o.same HZ.o.1).same (HF.o _)) hok' (lW.same (HF.o _))).mono ?_;rintro e w' ⟨rfl,hb⟩;exact⟨rfl,dh.o _ _ hb⟩));clear hK K)))))
     all_goals (refine wpQuiet_nil ?_;rintro _ ⟨x,rfl⟩)
     have HB2:=ah (HF.o x);clear d0 d1 d2 d3 d4 d5 y0 y1 y2 y3 HF dh hst;generalize F x=W2 at *;go_wp2_with fail;go_roundw
     case rel=>exact⟨k+1,rest,_,agL,rfl,acB,dG.o.trans (Ox p i op' n' nm' iw rest),pG,hrest.same HB2.o,HZ.o.next HB2.o⟩
     case measure=>simp[intOf];omega
theorem Yu (p:Pr) (i:Int) (op n:Int) (nm:ByteArray) (kids:bT):IZ p i op n nm kids:=bT.AX (VR p i) op n nm kids
theorem FY (p:Pr) (i:Int) (op n:Int) (nm:ByteArray) (kids:bT) (w:World) (aK aM ao:Option Addr) (aH aG cap:Nat) (hi:bY i) (hp:p.At w aK aM) (hok:qW op n nm kids) (hat:kids.At w w.heap.size ao 0) (eG:dW w):
 Calls Tryz.prog 153 #[.agg #[.slice aK p.ds.length aH,.slice aM p.ts.length aG],.int .i64 i,.agg #[.int .i64 op,.int .i64 n,.string nm,.slice ao kids.len cap]] w λe w'=>e= .returned (.int .i64 (lU p i op n nm kids))∧Below w.heap.size w w':=by
 have HAT:=ah hat;have HP:=ah hp;clear hat hp;go_enter Tryz.func153,Tryz.ntmps153;go_upto_region 1 with fail;generalize hW:World.alloc (World.alloc w _) _=W;generalize Value.agg #[_,_]=a0;generalize Value.agg #[_,_,_,_]=a1;have HX:=ah (((Sit.start w).xV rfl (.slice aK p.ds.length aH) (.slice aM p.ts.length aG) 35).Ac (n:=w.heap.size+1) agJ (.int .i64 op) (.int .i64 n) (.string nm) (.slice ao kids.len cap) 72);rw[hW]at HX;clear hW;obtain⟨-,⟨-,c0⟩,⟨-,c1⟩,⟨-,c2⟩,⟨-,c3⟩,⟨-,c4⟩,⟨-,c5⟩,-⟩:=HX.o;go_wp2_with fail;refine(A9 op n nm kids _ ao cap hok (HAT.o.same HX.o.1) (eG.same HX.o.1)).mono ?_;rintro e w1 ⟨rfl,hb1⟩;have HY:=ah (HX.o.next hb1);clear HX hb1 c0 c1 c2 c3 c4 c5;obtain⟨-,⟨-,c0⟩,⟨-,c1⟩,⟨-,c2⟩,⟨-,c3⟩,⟨-,c4⟩,⟨-,c5⟩,-⟩:=HY.o;cases hS:jW op n nm kids
 ·have HE:aj (lU p i op n nm kids=3):=ah afM;go_wp2_with fail;go_ret;exact⟨bV HE.o.symm,HY.o.1⟩
 ·have HE:aj (lU p i op n nm kids=if decide (24<(ext kids).1)||decide (6<(ext kids).2)then 2 else yc p i op nm kids):=ah afM;go_wp2_with fail;refine(Vo op n nm kids _ ao cap hok (HAT.o.same HY.o.1)).mono ?_;rintro e w2 ⟨rfl,hb2⟩;have HZ:=ah (HY.o.next hb2);clear HY hb2 c0 c1 c2 c3 c4 c5;obtain⟨-,⟨-,c0⟩,⟨-,c1⟩,⟨-,c2⟩,⟨-,c3⟩,⟨-,c4⟩,⟨-,c5⟩,-⟩:=HZ.o;generalize (ext kids).1=a at *;generalize (ext kids).2=d at *;cases h1:decide (24<a)
  ·cases h2:decide (6<d)
   ·have dG:=ah (HE.o.trans (by rw[h1,h2];rfl:_=yc p i op nm kids));have q1:a<=24:=agO;have q2:d<=6:=agQ;go_wp2_with fail;refine(Yu p i op n nm kids _ aK aM ao aH aG cap hi (HP.o.same HZ.o.1) hok (HAT.o.same HZ.o.1)).mono ?_;rintro e w3 ⟨rfl,hb3⟩;go_wp2_with fail;go_ret;exact⟨bV dG.o.symm,(HZ.o.next hb3).1⟩
   ·have dG:=ah (HE.o.trans (if_pos (by rw[h1,h2];rfl)));have q1:a<=24:=agO;have q2:6<d:=agQ;go_wp2_with fail;go_ret;exact⟨bV dG.o.symm,HZ.o.1⟩
  ·have dG:=ah (HE.o.trans (if_pos ahs));have q1:24<a:=by simpa using h1
   go_wp2_with fail;go_ret;exact⟨bV dG.o.symm,HZ.o.1⟩
namespace Md
def gF:List Int->Int
 | []=>0
 |a::r=>if a != 0 then a else gF r
def nest (b:Bool):Int:=if b then 7 else 0
def pE (ds:List De) (nm:ByteArray):ByteArray:=((ds.find? λd=>d.kind==5&&d.nm.toList==nm.toList).map (·.on)).getD ⟨#[]⟩
theorem SV (d:De) (r:List De) (nm:ByteArray):pE (d::r) nm=if d.kind==5&&d.nm.toList==nm.toList then d.on else pE r nm:=by
 unfold pE;rw[List.find?_cons];cases h:(d.kind==5&&d.nm.toList==nm.toList) <;> simp
end Md
def vC (bc:Nat) (p:Pr) (aK aM:Option Addr) (aH aG:Nat) (i:Int) (cO:Option Addr) (xZ bR bs bt:Nat):List (Nat×Nat×Value):=
 [(bc,0,.slice aK p.ds.length aH),(bc,1,.slice aM p.ts.length aG),(bc,2,.int .i64 i),(bc,3,.slice cO xZ bR),(bc,4,.map (some bs)),(bc,5,.map (some bt))]
theorem nk (b:Bool) (w:World):
 Calls Tryz.prog 140 #[.bool b] w λe w'=>e= .returned (.int .i64 (nest b))∧w=w':=by
 cases b
 all_goals go_enter Tryz.func140,Tryz.ntmps140;go_wp2;go_ret;exact⟨rfl,rfl⟩
theorem kT (l:List Int) (w:World) (ao:Option Addr) (cap:Nat) (hl:l.length<=maxLen) (hat:iq w w.heap.size l ao 0):
 Calls Tryz.prog 138 #[.slice ao l.length cap] w λe w'=>e= .returned (.int .i64 (gF l))∧w=w':=by
 unfold maxLen at hl;generalize hres:gF l=res;have HR:=ah hres;clear hres;go_enter Tryz.func138,Tryz.ntmps138;go_wp2_with fail;go_loop [4,7] (λ_ s=> ∃(k:Nat) (R:List Int),s= .int .i64 k∧k+R.length=l.length∧res=gF R∧iq w w.heap.size R ao k) (λ_ s=>l.length -(intOf s).toNat)
 case atStart=>exact⟨0,l,rfl,agJ,HR.o.symm,hat⟩
 case round=>
  obtain⟨k,R,rfl,hlen,heq,hrow⟩:=hrel;have HE:=ah heq;clear heq;cases R with
  |nil=>
   obtain rfl:k=l.length:=aeQ
   go_wp2_with fail;go_ret;exact⟨bV HE.o.symm,rfl⟩
  |cons a R=>
   obtain⟨⟨b,off,rfl,hB,y0⟩,hrest⟩:=hrow;simp only[aD]at hlen;have hkl:k<l.length:=agH
   cases hc:(a != 0)
   ·have dG:=ah (HE.o.trans (if_neg (by rw[hc];decide)));exact AaC
   ·have dG:=ah (HE.o.trans (if_pos hc));go_wp2_with fail;go_ret;exact⟨bV dG.o.symm,rfl⟩
section
variable (p:Pr) (w:World) (aK aM:Option Addr) (aH aG:Nat) (i:Int) (cO:Option Addr) (xZ bR bs bt bc:Nat)
theorem kY (nm:ByteArray) (l:List Int) (ao:Option Addr) (cap:Nat) (hi:bY i) (hl:l.length<=maxLen) (hp:p.At w aK aM) (hw:iq w w.heap.size l ao 0) (hh:Holds w (vC bc p aK aM aH aG i cO xZ bR bs bt)):
 Calls Tryz.prog 139 #[.pointer (some ⟨bc,0,none⟩),.string nm,.slice ao l.length cap] w λe w'=>e= .returned (.int .i64 (dQ (mean p i nm) l))∧Below w.heap.size w w':=by
 have HH:=ah (show Sit w w _ from⟨au _ _,hh⟩);have HP:=ah hp;have HW:=ah hw;clear hp hw hh;go_enter Tryz.func139,Tryz.ntmps139;go_wp2_with fail;obtain⟨T,F,Ah,hst,hF,hnext⟩:=calm w;have HF:=ah hF;have dh:=ah hnext;clear hnext hF;have d0:=λx=>(HH.o.next (HF.o x)).2.1.2;have d1:=λx=>(HH.o.next (HF.o x)).2.2.1.2;have d2:=λx=>(HH.o.next (HF.o x)).2.2.2.1.2;have d3:=λx=>(HH.o.next (HF.o x)).2.2.2.2.1.2;have d4:=λx=>(HH.o.next (HF.o x)).2.2.2.2.2.1.2;have d5:=λx=>(HH.o.next (HF.o x)).2.2.2.2.2.2.1.2;refine iI F agG agG hst ?_
 repeat (any_goals (first|go_big_quiet_step ((go_at_call 154;refine(BU p i nm l _ aK aM ao aH aG cap hi hl (HP.o.same (HF.o _)) (HW.o.same (HF.o _))).mono ?_;rintro e w' ⟨rfl,hb⟩;exact⟨rfl,dh.o _ _ hb⟩))|(refine wpQuiet_step (λK hK=> ?_);go_simp;first|(refine hK _ ?_;clear hK K)|(split <;> first|(refine hK _ ?_;clear hK K)|(apply Exists.intro;refine⟨λ_=> ?_,hK _ ?_⟩;((go_at_call 154;refine(BU p i nm l _ aK aM ao aH aG cap hi hl (HP.o.same (HF.o _)) (HW.o.same (HF.o _))).mono ?_;rintro e w' ⟨rfl,hb⟩;exact⟨rfl,dh.o _ _ hb⟩));clear hK K)))))
 all_goals (refine wpQuiet_nil ?_;rintro _ ⟨x,rfl⟩)
 go_wp2_with fail;go_ret;exact⟨rfl,HF.o x⟩
theorem zl (op n:Int) (nm:ByteArray) (kids:bT) (ao:Option Addr) (cap:Nat) (hi:bY i) (hp:p.At w aK aM) (hok:qW op n nm kids) (hat:kids.At w w.heap.size ao 0) (eG:dW w) (hh:Holds w (vC bc p aK aM aH aG i cO xZ bR bs bt)):
 Calls Tryz.prog 137 #[.pointer (some ⟨bc,0,none⟩),.agg #[.int .i64 op,.int .i64 n,.string nm,.slice ao kids.len cap]] w λe w'=>e= .returned (.int .i64 (lU p i op n nm kids))∧Below w.heap.size w w':=by
 have HH:=ah (show Sit w w _ from⟨au _ _,hh⟩);have HP:=ah hp;have HAT:=ah hat;have jX:=ah eG;clear hp hat hh eG;go_enter Tryz.func137,Tryz.ntmps137;go_upto_region 1 with fail;generalize hW:World.alloc w _=W;generalize Value.agg #[_,_,_,_]=a0;have HX:=ah (HH.o.Ac rfl (.int .i64 op) (.int .i64 n) (.string nm) (.slice ao kids.len cap) 72);rw[hW]at HX;clear hW;obtain⟨T,F,Ah,hst,hF,hnext⟩:=calm W;have HF:=ah hF;have dh:=ah hnext;clear hnext hF;have d0:=λx=>(HX.o.next (HF.o x)).2.1.2;have d1:=λx=>(HX.o.next (HF.o x)).2.2.1.2;have d2:=λx=>(HX.o.next (HF.o x)).2.2.2.1.2;have d3:=λx=>(HX.o.next (HF.o x)).2.2.2.2.1.2;have d4:=λx=>(HX.o.next (HF.o x)).2.2.2.2.2.1.2;have d5:=λx=>(HX.o.next (HF.o x)).2.2.2.2.2.2.1.2;have d6:=λx=>(HX.o.next (HF.o x)).2.2.2.2.2.2.2.1.2;have d7:=λx=>(HX.o.next (HF.o x)).2.2.2.2.2.2.2.2.1.2;have d8:=λx=>(HX.o.next (HF.o x)).2.2.2.2.2.2.2.2.2.1.2;have d9:=λx=>(HX.o.next (HF.o x)).2.2.2.2.2.2.2.2.2.2.1.2;refine iI F agG agG hst ?_
 repeat (any_goals (first|go_big_quiet_step ((go_at_call 153;refine(FY p i op n nm kids _ aK aM ao aH aG cap hi ((HP.o.same HX.o.1).same (HF.o _)) hok ((HAT.o.same HX.o.1).same (HF.o _)) ((jX.o.same HX.o.1).same (HF.o _))).mono ?_;rintro e w' ⟨rfl,hb⟩;exact⟨rfl,dh.o _ _ hb⟩))|(refine wpQuiet_step (λK hK=> ?_);go_simp;first|(refine hK _ ?_;clear hK K)|(split <;> first|(refine hK _ ?_;clear hK K)|(apply Exists.intro;refine⟨λ_=> ?_,hK _ ?_⟩;((go_at_call 153;refine(FY p i op n nm kids _ aK aM ao aH aG cap hi ((HP.o.same HX.o.1).same (HF.o _)) hok ((HAT.o.same HX.o.1).same (HF.o _)) ((jX.o.same HX.o.1).same (HF.o _))).mono ?_;rintro e w' ⟨rfl,hb⟩;exact⟨rfl,dh.o _ _ hb⟩));clear hK K)))))
 all_goals (refine wpQuiet_nil ?_;rintro _ ⟨x,rfl⟩)
 go_wp2_with fail;go_ret;exact⟨rfl,(HX.o.next (HF.o x)).1⟩
theorem Oa (j:Nat) (t:Th) (r:List Th) (hd:p.ts.drop j=t::r) (hp:p.At w aK aM) (hh:Holds w (vC bc p aK aM aH aG (j:Int) cO xZ bR bs bt)):
 Calls Tryz.prog 144 #[.pointer (some ⟨bc,0,none⟩)] w λe w'=>e= .returned (.string t.nm)∧Below w.heap.size w w':=by
 have HH:=ah (show Sit w w _ from⟨au _ _,hh⟩);have hj:j<p.ts.length:=abX
 have hth:=hp.2.2.2.drop j;rw[hd,aU]at hth;obtain⟨⟨b,off,iU,eU,dB,cu,rfl,hB,x0,-⟩,-⟩:=hth;clear hp hd hh;obtain⟨-,⟨-,c0⟩,⟨-,c1⟩,⟨-,c2⟩,⟨-,c3⟩,⟨-,c4⟩,⟨-,c5⟩,-⟩:=HH.o;have hj0:(0:Int)<=j:=agH
 have hj1:(j:Int)<p.ts.length:=agH
 go_enter Tryz.func144,Tryz.ntmps144;go_wp2_with fail;go_quiet (fail);go_wp2_with fail;go_ret;exact⟨rfl,below_drewN (au _ _) _⟩
theorem uh (nm:ByteArray) (hp:p.At w aK aM) (hh:Holds w (vC bc p aK aM aH aG i cO xZ bR bs bt)):
 Calls Tryz.prog 143 #[.pointer (some ⟨bc,0,none⟩),.string nm] w λe w'=>e= .returned (.string (pE p.ds nm))∧Below w.heap.size w w':=by
 have HH:=ah (show Sit w w _ from⟨au _ _,hh⟩);have HP:=ah hp;have hld:=hp.1;unfold maxLen at hld;generalize hres:pE p.ds nm=res;have HR:=ah hres;clear hp hh hres;obtain⟨-,⟨-,c0⟩,⟨-,c1⟩,⟨-,c2⟩,⟨-,c3⟩,⟨-,c4⟩,⟨-,c5⟩,-⟩:=HH.o;go_enter Tryz.func143,Tryz.ntmps143;go_wp2_with fail;go_loopw [6,13] (λ_ s wr=> ∃(k:Nat) (R:List De),s= .int .i64 k∧k+R.length=p.ds.length∧res=pE R nm∧jv wr wr.heap.size R aK k∧Below w.heap.size w wr) (λ_ s _=>p.ds.length -(intOf s).toNat)
 case atStart=>exact⟨0,p.ds,rfl,agJ,HR.o.symm,HP.o.2.2.1,au _ _⟩
 case round=>
  obtain⟨k,R,rfl,hlen,heq,hrow,hB⟩:=hrel;have HE:=ah heq;have HB:=ah hB;clear heq hB c0 c1 c2 c3 c4 c5;cases R with
  |nil=>
   obtain rfl:k=p.ds.length:=aeQ
   go_wp2_with fail;go_ret;exact⟨ahb,HB.o⟩
  |cons d R=>
   obtain⟨⟨b,off,rfl,hB,x0,x1,x2,x3,x4,x5,hok⟩,hrest⟩:=hrow;simp only[aD]at hlen;have hkl:k<p.ds.length:=agH
   rw[SV]at HE;have HB2:=ah (HB.o.trans ((ak wr (.cells #[.int .i64 d.kind,.int .i64 d.line,.string d.nm,.int .i64 d.size,.int .i64 d.init,.string d.on] 55)).mono HB.o.size));clear hok;cases h5:(d.kind==5)
   ·have dG:=ah (HE.o.trans (if_neg ahA));go_wp2_with fail;go_roundw
    case rel=>exact⟨k+1,R,agL,agH,dG.o,hrest.same (ak _ _),HB2.o⟩
    case measure=>simp[intOf];omega
   ·cases hc:(d.nm.toList==nm.toList)
    ·have dG:=ah (HE.o.trans (if_neg (by rw[h5,hc];decide)));go_wp2_with fail;go_roundw
     case rel=>exact⟨k+1,R,agL,agH,dG.o,hrest.same (ak _ _),HB2.o⟩
     case measure=>simp[intOf];omega
    ·have dG:=ah (HE.o.trans (if_pos (by rw[h5,hc];rfl)));go_wp2_with fail;go_ret;exact⟨agN,HB2.o⟩
end
namespace Md
def fG:aZ->List Int->Bool
 | .nil,_=>false
 | .cons h _ _ r,l=>(l.any λk=>h.op==k)||fG r l
def rA:aZ->ByteArray->List Int->Bool
 | .nil,_,_=>false
 | .cons h _ _ r,nm,l=>(l.any λk=>h.op==k&&h.nm.toList==nm.toList)||rA r nm l
end Md
section
variable (p:Pr) (w:World) (aK aM:Option Addr) (aH aG:Nat) (i:Int) (cO:Option Addr) (bR bs bt bc:Nat)
theorem mG (ar:aZ) (l:List Int) (ao:Option Addr) (cap:Nat) (hl:l.length<=maxLen) (hw:iq w w.heap.size l ao 0) (har:ar.len<=maxLen) (hat:ar.At w w.heap.size cO 0) (hh:Holds w (vC bc p aK aM aH aG i cO ar.len bR bs bt)):
 Calls Tryz.prog 141 #[.pointer (some ⟨bc,0,none⟩),.slice ao l.length cap] w λe w'=>e= .returned (.bool (fG ar l))∧Below w.heap.size w w':=by
 have HH:=ah (show Sit w w _ from⟨au _ _,hh⟩);have HW:=ah hw;have HAT:=ah hat;generalize hres:fG ar l=res;have HR:=ah hres;unfold maxLen at hl har;clear hh hw hat hres;obtain⟨-,⟨-,c0⟩,⟨-,c1⟩,⟨-,c2⟩,⟨-,c3⟩,⟨-,c4⟩,⟨-,c5⟩,-⟩:=HH.o;go_enter Tryz.func141,Tryz.ntmps141;go_wp2_with fail;go_loopw [6,8,14,18,19,20] (λ_ _ s _ _ _ wr=> ∃(k:Nat) (R:aZ),s= .int .i64 k∧k+R.len=ar.len∧res=fG R l∧R.At wr wr.heap.size cO k∧Below w.heap.size w wr) (λ_ _ s _ _ _ _=>ar.len -(intOf s).toNat)
 case atStart=>exact⟨0,ar,rfl,agJ,HR.o.symm,HAT.o,au _ _⟩
 case round=>
  obtain⟨k,R,rfl,hlen,heq,hrow,hB⟩:=hrel;have HE:=ah heq;have HB:=ah hB;clear heq hB c0 c1 c2 c3 c4 c5;cases R with
  |nil=>
   obtain rfl:k=ar.len:=aeY
   go_wp2_with fail;go_ret;exact⟨bW HE.o.symm,HB.o⟩
  |cons h b e R=>
   obtain⟨bl,off,s,rfl,hbl,hin,x0,x1,x2,x3,x4,x5,x6,x7,x8,x9,x10,hrest⟩:=aZ.At.head hrow;have hkl:k<ar.len:=acz
   clear hrow hin;go_upto_region 4 with fail;obtain⟨nb,hnb⟩: ∃n,wr.heap.size=n:=⟨_,rfl⟩;generalize hW2:World.alloc wr _=W2;have HY:aj (Sit wr W2 (rM nb h b e s [])):=ah aao;have HB2:=ah (HB.o.trans (HY.o.1.mono HB.o.size));have kL:=ah (hrest.same HY.o.1);have LK:=HW.o.same HB2.o;rw[hnb];clear hW2 hnb x0 x1 x2 x3 x4 x5 x6 x7 x8 x9 x10 hrest;obtain⟨-,⟨-,c0⟩,⟨-,c1⟩,⟨-,c2⟩,⟨-,c3⟩,⟨-,c4⟩,⟨-,c5⟩,⟨-,c6⟩,⟨-,c7⟩,⟨-,c8⟩,⟨-,c9⟩,⟨-,c10⟩,-⟩:=HY.o;clear c1 c2 c3 c4 c5 c6 c7 c8 c9 c10;go_wp2_with fail;go_loop [8,20] (λ_ s'=> ∃(k':Nat) (Q:List Int),s'= .int .i64 k'∧k'+Q.length=l.length∧(l.any λk=>h.op==k)=(Q.any λk=>h.op==k)∧iq W2 W2.heap.size Q ao k') (λ_ s'=>l.length -(intOf s').toNat)
   case atStart=>exact⟨0,l,rfl,agJ,rfl,LK⟩
   case round=>
    obtain⟨k',Q,rfl,hlen',heq',hrow'⟩:=hrel;have HQ:=ah heq';clear heq' LK;cases Q with
    |nil=>
     obtain rfl:k'=l.length:=afs;have HF:aj (res=fG R l):=ah (HE.o.trans (by rw[fG,HQ.o];rfl));go_wp2_with fail;go_roundw
     case rel=>exact⟨k+1,R,agL,acz,HF.o,kL.o,HB2.o⟩
     case measure=>simp[intOf];omega
    |cons q Q=>
     obtain⟨⟨b2,off2,rfl,hB2,z0⟩,hrest'⟩:=hrow';simp only[aD]at hlen';have hkl':k'<l.length:=agH;have Ct:aj ((l.any λk=>h.op==k)=((h.op==q)||(Q.any λk=>h.op==k))):=ah (HQ.o.trans agJ);cases hc:(h.op==q)
     ·have HF:=ah (Ct.o.trans (by rw[hc];rfl:_=(Q.any λk=>h.op==k)));go_wp2_with fail;go_round
      case rel=>exact⟨k'+1,Q,agL,agH,HF.o,hrest'⟩
      case measure=>simp[intOf];omega
     ·have HF:aj (res=true):=ah (HE.o.trans (by rw[fG,Ct.o,hc];rfl));go_wp2_with fail;go_ret;exact⟨bW HF.o.symm,HB2.o⟩
theorem oZ (ar:aZ) (nm:ByteArray) (l:List Int) (ao:Option Addr) (cap:Nat) (hl:l.length<=maxLen) (hw:iq w w.heap.size l ao 0) (har:ar.len<=maxLen) (hat:ar.At w w.heap.size cO 0) (hh:Holds w (vC bc p aK aM aH aG i cO ar.len bR bs bt)):
 Calls Tryz.prog 142 #[.pointer (some ⟨bc,0,none⟩),.string nm,.slice ao l.length cap] w λe w'=>e= .returned (.bool (rA ar nm l))∧Below w.heap.size w w':=by
 have HH:=ah (show Sit w w _ from⟨au _ _,hh⟩);have HW:=ah hw;have HAT:=ah hat;generalize hres:rA ar nm l=res;have HR:=ah hres;unfold maxLen at hl har;clear hh hw hat hres;obtain⟨-,⟨-,c0⟩,⟨-,c1⟩,⟨-,c2⟩,⟨-,c3⟩,⟨-,c4⟩,⟨-,c5⟩,-⟩:=HH.o;go_enter Tryz.func142,Tryz.ntmps142;go_wp2_with fail;go_loopw [8,10,16,20,21,22] (λ_ _ s _ _ _ wr=> ∃(k:Nat) (R:aZ),s= .int .i64 k∧k+R.len=ar.len∧res=rA R nm l∧R.At wr wr.heap.size cO k∧Below w.heap.size w wr) (λ_ _ s _ _ _ _=>ar.len -(intOf s).toNat)
 case atStart=>exact⟨0,ar,rfl,agJ,HR.o.symm,HAT.o,au _ _⟩
 case round=>
  obtain⟨k,R,rfl,hlen,heq,hrow,hB⟩:=hrel;have HE:=ah heq;have HB:=ah hB;clear heq hB c0 c1 c2 c3 c4 c5;cases R with
  |nil=>
   obtain rfl:k=ar.len:=aeY
   go_wp2_with fail;go_ret;exact⟨bW HE.o.symm,HB.o⟩
  |cons h b e R=>
   obtain⟨bl,off,s,rfl,hbl,hin,x0,x1,x2,x3,x4,x5,x6,x7,x8,x9,x10,hrest⟩:=aZ.At.head hrow;have hkl:k<ar.len:=acz
   clear hrow hin;go_upto_region 4 with fail;obtain⟨nb,hnb⟩: ∃n,wr.heap.size=n:=⟨_,rfl⟩;generalize hW2:World.alloc wr _=W2;have HY:aj (Sit wr W2 (rM nb h b e s [])):=ah aao;have HB2:=ah (HB.o.trans (HY.o.1.mono HB.o.size));have kL:=ah (hrest.same HY.o.1);have LK:=HW.o.same HB2.o;rw[hnb];clear hW2 hnb x0 x1 x2 x3 x4 x5 x6 x7 x8 x9 x10 hrest;obtain⟨-,⟨-,c0⟩,⟨-,c1⟩,⟨-,c2⟩,⟨-,c3⟩,⟨-,c4⟩,⟨-,c5⟩,⟨-,c6⟩,⟨-,c7⟩,⟨-,c8⟩,⟨-,c9⟩,⟨-,c10⟩,-⟩:=HY.o;clear c1 c3 c4 c5 c6 c7 c8 c9 c10;go_wp2_with fail;go_loop [10,22] (λ_ s'=> ∃(k':Nat) (Q:List Int),s'= .int .i64 k'∧k'+Q.length=l.length∧(l.any λk=>h.op==k&&h.nm.toList==nm.toList)=(Q.any λk=>h.op==k&&h.nm.toList==nm.toList)∧iq W2 W2.heap.size Q ao k') (λ_ s'=>l.length -(intOf s').toNat)
   case atStart=>exact⟨0,l,rfl,agJ,rfl,LK⟩
   case round=>
    obtain⟨k',Q,rfl,hlen',heq',hrow'⟩:=hrel;have HQ:=ah heq';clear heq' LK;cases Q with
    |nil=>
     obtain rfl:k'=l.length:=afs;have HF:aj (res=rA R nm l):=ah (HE.o.trans (by rw[rA,HQ.o];rfl));go_wp2_with fail;go_roundw
     case rel=>exact⟨k+1,R,agL,acz,HF.o,kL.o,HB2.o⟩
     case measure=>simp[intOf];omega
    |cons q Q=>
     obtain⟨⟨b2,off2,rfl,hB2,z0⟩,hrest'⟩:=hrow';simp only[aD]at hlen';have hkl':k'<l.length:=agH;have Ct:aj ((l.any λk=>h.op==k&&h.nm.toList==nm.toList)=((h.op==q&&h.nm.toList==nm.toList)||(Q.any λk=>h.op==k&&h.nm.toList==nm.toList))):=ah (HQ.o.trans agJ);cases hc:(h.op==q)
     ·have HF:=ah (Ct.o.trans (by rw[hc];rfl:_=(Q.any λk=>h.op==k&&h.nm.toList==nm.toList)));go_wp2_with fail;go_round
      case rel=>exact⟨k'+1,Q,agL,agH,HF.o,hrest'⟩
      case measure=>simp[intOf];omega
     ·cases hn:(h.nm.toList==nm.toList)
      ·have HF:=ah (Ct.o.trans (by rw[hc,hn];rfl:_=(Q.any λk=>h.op==k&&h.nm.toList==nm.toList)));rw[hn]at HF;go_wp2_with fail;go_round
       case rel=>exact⟨k'+1,Q,agL,agH,HF.o,hrest'⟩
       case measure=>simp[intOf];omega
      ·have HF:aj (res=true):=ah (HE.o.trans (by rw[rA,Ct.o,hc,hn];rfl));go_wp2_with fail;go_ret;exact⟨bW HF.o.symm,HB2.o⟩
end
namespace Md
def ex1 (p:Pr) (i:Int):bT->Int
 | .nil=>0
 | .cons op n nm kids _=>lU p i op n nm kids
def Ho (p:Pr) (i:Int) (h:dF):Int:=
 if decide ((h.idx.len:Int)=0)then gF [dQ (mean p i h.nm) [1,2],lU p i h.dP h.xn h.dO h.bJ]else gF [dQ (mean p i h.nm) [3],ex1 p i h.idx,lU p i h.dP h.xn h.dO h.bJ]
end Md
theorem BQ (w:World) (a b c:Int) (t:TypeId):iq (w.alloc (.cells #[.int .i64 a,.int .i64 b,.int .i64 c] t)) (w.alloc (.cells #[.int .i64 a,.int .i64 b,.int .i64 c] t)).heap.size [a,b,c] (some ⟨w.heap.size,0,none⟩) 0:=
 ⟨⟨_,_,rfl,agJ,dX w [.int .i64 a,.int .i64 b,.int .i64 c] t 0⟩,⟨_,_,rfl,agJ,dX w [.int .i64 a,.int .i64 b,.int .i64 c] t 1⟩,⟨_,_,rfl,agJ,dX w [.int .i64 a,.int .i64 b,.int .i64 c] t 2⟩,trivial⟩
theorem eO.nil {w:World} {K:Act->Prop} {a:Act} (h:K a):eO w K [] a:=h
section
variable (p:Pr) (w:World) (aK aM:Option Addr) (aH aG:Nat) (i:Int) (cO:Option Addr) (xZ bR bs bt bc:Nat)
theorem Qy (h:dF) (b e:aZ) (s:Sl) (hi:bY i) (hp:p.At w aK aM) (hin:Eh w h b e s) (eG:dW w) (hh:Holds w (vC bc p aK aM aH aG i cO xZ bR bs bt)):
 Calls Tryz.prog 136 #[.pointer (some ⟨bc,0,none⟩),iE h b e s] w λe' w'=>e'= .returned (.int .i64 (Ho p i h))∧Below w.heap.size w w':=by
 have HH:=ah (show Sit w w _ from⟨au _ _,hh⟩);obtain⟨gU,gy,fT,eB,dB,cu,iD,gu⟩:=s;have hil:=hin.1.2.2.2.2.1;have hxk:=hin.1.2.2.2.2.2.1;unfold maxLen at hil;have HE:aj (Ho p i h=if decide ((h.idx.len:Int)=0)then gF [dQ (mean p i h.nm) [1,2],lU p i h.dP h.xn h.dO h.bJ]else gF [dQ (mean p i h.nm) [3],ex1 p i h.idx,lU p i h.dP h.xn h.dO h.bJ]):=ah rfl;generalize Ho p i h=res at *;unfold iE;dsimp only;go_enter Tryz.func136,Tryz.ntmps136;go_upto_region 1 with fail;generalize hW:World.alloc w _=W;generalize Value.agg #[_,_,_,_,_,_,_,_,_,_,_]=a0;have HX:aj (Sit w W (rM w.heap.size h b e ⟨gU,gy,fT,eB,dB,cu,iD,gu⟩ (vC bc p aK aM aH aG i cO xZ bR bs bt))):=ah aaK;clear hW HH;have HP:=ah (hp.same HX.o.1);have jX:=ah (eG.same HX.o.1);have Pj:=ah (hin.2.2.1.same HX.o.1);have HAI:=ah (hin.2.1.same HX.o.1);have HK:aj (∀w',Below W.heap.size W w'->Holds w' (vC bc p aK aM aH aG i cO xZ bR bs bt)):=ah (λw' hb=>(HX.o.next hb).2.2.2.2.2.2.2.2.2.2.2.2);clear hp eG hh hin;have L0: ∀w',Below W.heap.size W w'->w'.cell? ⟨w.heap.size,0,none⟩=some (.int .i64 h.op):=λw' hb=>(HX.o.next hb).2.1.2;have L2: ∀w',Below W.heap.size W w'->w'.cell? ⟨w.heap.size,2,none⟩=some (.string h.nm):=λw' hb=>(HX.o.next hb).2.2.2.1.2;have L3: ∀w',Below W.heap.size W w'->w'.cell? ⟨w.heap.size,3,none⟩=some (.string h.arg):=λw' hb=>(HX.o.next hb).2.2.2.2.1.2;have L4: ∀w',Below W.heap.size W w'->w'.cell? ⟨w.heap.size,4,none⟩=some (.slice gU h.idx.len gy):=λw' hb=>(HX.o.next hb).2.2.2.2.2.1.2;have L5: ∀w',Below W.heap.size W w'->w'.cell? ⟨w.heap.size,5,none⟩=some (.int .i64 h.dP):=λw' hb=>(HX.o.next hb).2.2.2.2.2.2.1.2;have L6: ∀w',Below W.heap.size W w'->w'.cell? ⟨w.heap.size,6,none⟩=some (.int .i64 h.xn):=λw' hb=>(HX.o.next hb).2.2.2.2.2.2.2.1.2;have L7: ∀w',Below W.heap.size W w'->w'.cell? ⟨w.heap.size,7,none⟩=some (.string h.dO):=λw' hb=>(HX.o.next hb).2.2.2.2.2.2.2.2.1.2;have L8: ∀w',Below W.heap.size W w'->w'.cell? ⟨w.heap.size,8,none⟩=some (.slice fT h.bJ.len eB):=λw' hb=>(HX.o.next hb).2.2.2.2.2.2.2.2.2.1.2;have l4:=L4 W (au _ _);cases hix:h.idx with
 |nil=>
  have h0:h.idx.len=0:=by rw[hix];rfl
  have HF:=ah (HE.o.trans (if_pos (by rw[h0];rfl)));rw[h0]at l4;clear HE hix L4 h0;go_upto_region 2 with fail;refine sF (λw'=>Below W.heap.size W w') (λw w'=>Below w.heap.size w w') [9,10,11,12,13,14,15,16,17,18,19,4] agG agG (λ_=>au _ _) ahS (below_drewN (au _ _) 1) ?_
  iterate 3
   apply fu.step
   case bL=>exact Aau
  refine fu.some (λv w'=> ∃b,v= .slice (some ⟨b,0,none⟩) 2 2∧iq w' w'.heap.size [1,2] (some ⟨b,0,none⟩) 0) ?_ ?_ ?_
  ·exact AaE
  ·intro β A w' hβ hC hO hD;simp[go_sem,gd,Oper.wp];exact aV.mk (d:=_) (v:= .slice (some ⟨_,0,none⟩) 2 2) (ak _ _) (hC.trans ((ak _ _).mono hC.size)) ⟨_,rfl,mO _ 1 2 _⟩
  apply fu.step
  case bL=>intro β A w' hβ hC hO hD;simp[Act.eval]at hD;obtain⟨d9,vF,b12,Bz,aX2⟩:=hD;simp[go_sem,gd,Oper.wp,d9,vF,Bz];refine(kY p w' aK aM aH aG _ cO _ bR bs bt bc h.nm [1,2] _ 2 hi agI (HP.o.same hC) aX2 (HK.o _ hC)).mono ?_;exact AaD
  iterate 3
   apply fu.step
   case bL=>intro β A w' hβ hC hO hD;have e0:=hO 0 ahS;have e3:=hO 3 ahS;simp[Act.eval]at e0 e3;simp[Act.eval]at hD;simp[go_sem,gd,Oper.wp,e0,e3,hD,L5,L6,L7,L8,hC];exact AaH
  apply fu.step
  case bL=>intro β A w' hβ hC hO hD;simp[Act.eval]at hD;obtain⟨xE,BA,-⟩:=hD;simp[go_sem,gd,Oper.wp,xE,BA];refine(zl p w' aK aM aH aG _ cO _ bR bs bt bc h.dP h.xn h.dO h.bJ fT eB hi (HP.o.same hC) hxk (Pj.o.same hC) (jX.o.same hC) (HK.o _ hC)).mono ?_;exact AaD
  refine fu.some (λv w'=> ∃b,v= .slice (some ⟨b,0,none⟩) 2 2∧iq w' w'.heap.size [dQ (mean p i h.nm) [1,2],lU p i h.dP h.xn h.dO h.bJ] (some ⟨b,0,none⟩) 0) ?_ ?_ ?_
  ·exact AaE
  ·intro β A w' hβ hC hO hD;simp[Act.eval]at hD;simp[go_sem,gd,Oper.wp,hD];exact aV.mk (d:=_) (v:= .slice (some ⟨_,0,none⟩) 2 2) (ak _ _) (hC.trans ((ak _ _).mono hC.size)) ⟨_,rfl,mO _ _ _ _⟩
  apply fu.step
  case bL=>intro β A w' hβ hC hO hD;simp[Act.eval]at hD;obtain⟨⟨b18,BD,aX3⟩,-⟩:=hD;simp[go_sem,gd,Oper.wp,BD];refine(kT [dQ (mean p i h.nm) [1,2],lU p i h.dP h.xn h.dO h.bJ] w' _ _ agU aX3).mono ?_;rintro e' w2 ⟨rfl,rfl⟩;exact AaH
  apply fu.step
  case bL=>exact Aav
  intro wz dL;intro v0 h0 v1 h1 v2 h2 v3 h3 v4 h4 v5 h5 v6 h6 v7 h7 v8 h8 v9 h9 v10 h10 v11 h11;have QI:v11=_:=h11;subst QI;clear h0 h1 h2 h3 h4 h5 h6 h7 h8 h9 h10 h11;refine eO.nil ?_;go_wp2_with fail;go_ret;exact⟨bV HF.o.symm,(HX.o.next dL).1⟩
 |cons op' n' nm' iw rest=>
  have hrow:=HAI.o;rw[hix]at hrow;have HF:aj (res=gF [dQ (mean p i h.nm) [3],lU p i op' n' nm' iw,lU p i h.dP h.xn h.dO h.bJ]):=ah (HE.o.trans ((if_neg (by rw[hix,decide_eq_true_iff];simp only[bT.len];omega)).trans (by rw[hix];rfl)));have hpos:0<h.idx.len:=by rw[hix];simp[bT.len]
  have hpos':(0:Int)<h.idx.len:=agH
  have hne0:((h.idx.len:Int)==0)=false:=acy
  obtain⟨⟨b',off',mh,cap',rfl,lV,x0,x1,x2,x3,hok',lW⟩,-⟩:=hrow;simp only[Nat.zero_mul,Nat.add_zero]at x0 x1 x2 x3;have M0:=lG lV x0;have M1:=lG lV x1;have M2:=lG lV x2;have M3:=lG lV x3;have HAK:=ah lW;clear HE hix x0 x1 x2 x3 lW;go_upto_region 3 with fail;refine sF (λw'=>Below W.heap.size W w') (λw w'=>Below w.heap.size w w') [20,21,22,23,24,25,26,27,28,29,30,31,32,33,34,35,36,4] agG agG (λ_=>au _ _) ahS (below_drewN (au _ _) 1) ?_
  iterate 3
   apply fu.step
   case bL=>exact Aau
  refine fu.some (λv w'=> ∃b,v= .slice (some ⟨b,0,none⟩) 1 1∧iq w' w'.heap.size [3] (some ⟨b,0,none⟩) 0) ?_ ?_ ?_
  ·exact AaE
  ·intro β A w' hβ hC hO hD;simp[go_sem,gd,Oper.wp];exact aV.mk (d:=_) (v:= .slice (some ⟨_,0,none⟩) 1 1) (ak _ _) (hC.trans ((ak _ _).mono hC.size)) ⟨_,rfl,jy _ 3 _⟩
  apply fu.step
  case bL=>intro β A w' hβ hC hO hD;simp[Act.eval]at hD;obtain⟨d20,d22,b23,d23,aX4⟩:=hD;simp[go_sem,gd,Oper.wp,d20,d22,d23];refine(kY p w' aK aM aH aG _ cO _ bR bs bt bc h.nm [3] _ 1 hi agI (HP.o.same hC) aX4 (HK.o _ hC)).mono ?_;exact AaD
  iterate 5
   apply fu.step
   case bL=>intro β A w' hβ hC hO hD;have e0:=hO 0 ahS;have e3:=hO 3 ahS;simp[Act.eval]at e0 e3;simp[Act.eval]at hD;simp[go_sem,gd,Oper.wp,e0,e3,hD,L4,hC,hpos,hpos',M0,M1,M2,M3];exact AaH
  apply fu.step
  case bL=>intro β A w' hβ hC hO hD;simp[Act.eval]at hD;obtain⟨d25,d29,-⟩:=hD;simp[go_sem,gd,Oper.wp,d25,d29];refine(zl p w' aK aM aH aG _ cO _ bR bs bt bc op' n' nm' iw mh cap' hi (HP.o.same hC) hok' (HAK.o.same hC) (jX.o.same hC) (HK.o _ hC)).mono ?_;exact AaD
  iterate 3
   apply fu.step
   case bL=>intro β A w' hβ hC hO hD;have e0:=hO 0 ahS;have e3:=hO 3 ahS;simp[Act.eval]at e0 e3;simp[Act.eval]at hD;simp[go_sem,gd,Oper.wp,e0,e3,hD,L5,L6,L7,L8,hC];exact AaH
  apply fu.step
  case bL=>intro β A w' hβ hC hO hD;simp[Act.eval]at hD;obtain⟨d31,d33,-⟩:=hD;simp[go_sem,gd,Oper.wp,d31,d33];refine(zl p w' aK aM aH aG _ cO _ bR bs bt bc h.dP h.xn h.dO h.bJ fT eB hi (HP.o.same hC) hxk (Pj.o.same hC) (jX.o.same hC) (HK.o _ hC)).mono ?_;exact AaD
  refine fu.some (λv w'=> ∃b,v= .slice (some ⟨b,0,none⟩) 3 3∧iq w' w'.heap.size [dQ (mean p i h.nm) [3],lU p i op' n' nm' iw,lU p i h.dP h.xn h.dO h.bJ] (some ⟨b,0,none⟩) 0) ?_ ?_ ?_
  ·exact AaE
  ·intro β A w' hβ hC hO hD;simp[Act.eval]at hD;simp[go_sem,gd,Oper.wp,hD];exact aV.mk (d:=_) (v:= .slice (some ⟨_,0,none⟩) 3 3) (ak _ _) (hC.trans ((ak _ _).mono hC.size)) ⟨_,rfl,BQ _ _ _ _ _⟩
  apply fu.step
  case bL=>intro β A w' hβ hC hO hD;simp[Act.eval]at hD;obtain⟨⟨b35,d35,aX5⟩,-⟩:=hD;simp[go_sem,gd,Oper.wp,d35];refine(kT [dQ (mean p i h.nm) [3],lU p i op' n' nm' iw,lU p i h.dP h.xn h.dO h.bJ] w' _ _ agU aX5).mono ?_;rintro e' w2 ⟨rfl,rfl⟩;exact AaH
  apply fu.step
  case bL=>exact Aav
  intro wz dL;intro v0 h0 v1 h1 v2 h2 v3 h3 v4 h4 v5 h5 v6 h6 v7 h7 v8 h8 v9 h9 v10 h10 v11 h11 v12 h12 v13 AO v14 uM v15 BG v16 h16 v17 JJ;have bx4:v17=_:=JJ;subst bx4;clear h0 h1 h2 h3 h4 h5 h6 h7 h8 h9 h10 h11 h12 AO uM BG h16 JJ;refine eO.nil ?_;go_wp2_with fail;go_ret;exact⟨bV HF.o.symm,(HX.o.next dL).1⟩
end
namespace Md
def mD (pre:List De) (l:List UInt8):Int:=((pre.find? λd=>d.nm.toList==l).map gK).getD 0
def dc (d:De) (c:Int):Int:=if d.kind==1||d.kind==2 then c+max d.size 1 else c
def dl (d:De) (l:Int):Int:=if d.kind==3||d.kind==4 then l+1 else l
def dn (d:De) (n:Int):Int:=if d.kind==5 then n+1 else n
def df (d:De) (f:Int):Int:=if d.kind==6 then f+1 else f
def lim (c l n f:Int):Bool:=((decide (12<c)||decide (4<l))||decide (2<n))||decide (2<f)
def mK:List De->List De->Int->Int->Int->Int->Int×Int
 | [],_,_,_,_,_=>(0,0)
 |d::r,pre,c,l,n,f=>
  if mD pre d.nm.toList != 0 then(4,d.line)
  else if decide (4<d.size)then(2,d.line)
  else if lim (dc d c) (dl d l) (dn d n) (df d f)then(2,d.line)
  else if d.kind==5&&mD pre d.on.toList==0 then(5,d.line)
  else if d.kind==5&&mD pre d.on.toList != 4 then(6,d.line)
  else mK r (pre++[d]) (dc d c) (dl d l) (dn d n) (df d f)
theorem Uq {pre:List De} {l:List UInt8} (h:(mD pre l != 0)=false):pre.find? (λd=>d.nm.toList==l)=none:=by
 unfold mD at h;cases hf:pre.find? (λd=>d.nm.toList==l)with
 |none=>rfl
 |some d=>rw[hf]at h;have:=uq d;simp at h;omega
theorem Ur {pre:List De} {d:De} (h:(mD pre d.nm.toList != 0)=false) (l:List UInt8):(if l=d.nm.toList then gK d else mD pre l)=mD (pre++[d]) l:=by
 unfold mD;rw[List.find?_append];by_cases hl:l=d.nm.toList
 ·subst hl;rw[if_pos rfl,Uq h];simp
 ·rw[if_neg hl];have:(d.nm.toList==l)=false:=by rw[beq_eq_false_iff_ne];exact λe=>hl e.symm
  simp[this]
theorem Vl (d:De):(gK d==6)=(d.kind==5):=agE
theorem wO {d:De} (h:jw d=true):1<=d.kind∧d.kind<=6∧0<=d.size∧(d.size=0∨d.kind=1):=by
 unfold jw at h;simp at h;omega
theorem I6 (d:De) (r pre:List De) (c l n f:Int):mK (d::r) pre c l n f=(if mD pre d.nm.toList != 0 then(4,d.line)
 else if decide (4<d.size)then(2,d.line)
 else if lim (dc d c) (dl d l) (dn d n) (df d f)then(2,d.line)
 else if d.kind==5&&mD pre d.on.toList==0 then(5,d.line)
 else if d.kind==5&&mD pre d.on.toList != 4 then(6,d.line)
 else mK r (pre++[d]) (dc d c) (dl d l) (dn d n) (df d f)):=rfl
end Md
theorem mY.congr {w:World} {b n:Nat} {f g:List UInt8->Int} (h:mY w b n f) (hfg: ∀l,f l=g l):mY w b n g:=by
 obtain⟨D,h1,h2⟩:=h;exact⟨D,h1,λl=>by rw[h2,hfg]⟩
theorem jI.congr {w:World} {b n:Nat} {f g:List UInt8->Bool} (h:jI w b n f) (hfg: ∀l,f l=g l):jI w b n g:=by
 obtain⟨D,h1,h2⟩:=h;exact⟨D,h1,λl=>by rw[h2,hfg]⟩
def aA7 (ds:List De) (w:World) (res:Int×Int) (g:Nat) (s5 s6 s7 s8 s15:Value) (wr:World):Prop:=
 ∃(k:Nat) (pre R:List De) (c l n f:Int),g=R.length∧s15= .int .i64 k∧pre++R=ds∧pre.length=k∧s5= .int .i64 c∧s6= .int .i64 l∧s7= .int .i64 n∧s8= .int .i64 f∧
  (0<=c∧c<=12∧0<=l∧l<=4∧0<=n∧n<=2∧0<=f∧f<=2)∧res=mK R pre c l n f∧mY wr w.heap.size k (mD pre)∧Below w.heap.size w wr
theorem Ke (ds:List De) (w:World) (ao:Option Addr) (cap:Nat) (hl:ds.length<=maxLen) (hat:jv w w.heap.size ds ao 0) (hsh: ∀d∈ds,jw d=true):
 Calls Tryz.prog 59 #[.slice ao ds.length cap] w λe w'=>e= .returned (.tuple #[.int .i64 (mK ds [] 0 0 0 0).1,.int .i64 (mK ds [] 0 0 0 0).2])∧Below w.heap.size w w':=by
 generalize hres:mK ds [] 0 0 0 0=res;have HR:=ah hres;have HAT:=ah hat;have Cv:=ah hsh;have hl':=hl;unfold maxLen at hl;clear hres hat hsh;have hmm:= @run_makeMap Tryz.prog;go_enter Tryz.func59,Tryz.ntmps59;go_wp2_with fail;go_loopg [5,6,7,8,10,11,15] ds.length (λg s5 s6 s7 s8 _ _ s15 wr=>aA7 ds w res g s5 s6 s7 s8 s15 wr)
 case atStart=>exact⟨0,[],ds,0,0,0,0,rfl,rfl,rfl,rfl,rfl,rfl,rfl,rfl,agI,HR.o.symm,(mY.made w).congr (λ_=>rfl),ak _ _⟩
 case round=>
  obtain⟨k,pre,R,c,l,n,f,rfl,rfl,hds,hk,rfl,rfl,rfl,rfl,⟨q1,q2,l1,l2,n1,n2,f1,f2⟩,hr,hmap,hB⟩:=hrel;have HE:=ah hr;have HM:=ah hmap;have HB:=ah hB;clear hr hmap hB HR;have hlen:k+R.length=ds.length:=afx
  have hrow:=(HAT.o.below HB.o).drop k;rw[aU,<- hds,<- hk,List.drop_left]at hrow;rw[hk]at hrow;cases R with
  |nil=>
   obtain rfl:k=ds.length:=aeQ
   have HF:=ah (HE.o.trans (rfl:_=((0:Int),(0:Int))));clear HE hds hk hrow;go_wp2_with fail
   go_ret2
   exact⟨jN (congrArg Prod.fst HF.o) (congrArg Prod.snd HF.o),HB.o⟩
  |cons d R=>
   have hsd:=wO (Cv.o d (by rw[<- hds];simp));have rP:=ah hds;have HK:=ah hk;clear hds hk;obtain⟨⟨b,off,rfl,lV,x0,x1,x2,x3,x4,x5,hok⟩,-⟩:=hrow;simp only[aD]at hlen;have hkl:k<ds.length:=agH
   obtain⟨g1,g2,g3,g4⟩:=hsd;rw[I6]at HE;go_upto_region 6 with fail;obtain⟨nb,hnb⟩: ∃n,wr.heap.size=n:=⟨_,rfl⟩;generalize hW2:World.alloc wr _=W2;have HB2:aj (Below w.heap.size w W2):=ah adA;have HY:aj (Sit wr W2 [(nb,0,.int .i64 d.kind),(nb,1,.int .i64 d.line),(nb,2,.string d.nm),(nb,3,.int .i64 d.size),(nb,4,.int .i64 d.init),(nb,5,.string d.on)]):=ah abH;have PG:=ah (HM.o.next HY.o.1);rw[hnb];clear hW2 hnb x0 x1 x2 x3 x4 x5 HM HB;obtain⟨-,⟨-,c0⟩,⟨-,c1⟩,⟨-,c2⟩,⟨-,c3⟩,⟨-,c4⟩,⟨-,c5⟩,-⟩:=HY.o;have hk1:=PG.o.look d.nm hok.2.2.1;cases h0:(mD pre d.nm.toList != 0)
   case true=>
    as_aux_lemma=>
     have HF:=ah (HE.o.trans (if_pos h0));go_wp2_with fail;go_quiet (fail);go_wp2_with fail
     go_ret2
     exact⟨jN (congrArg Prod.fst HF.o) (congrArg Prod.snd HF.o),below_drewN HB2.o _⟩
   have HE2:=ah (HE.o.trans (if_neg (by rw[h0];decide)));clear HE;go_upto_region 8 with fail;cases h1:decide (4<d.size)
   case true=>
    as_aux_lemma=>
     have HF:=ah (HE2.o.trans (if_pos h1));have h1':4<d.size:=agO;go_wp2_with fail;go_quiet (fail);go_wp2_with fail
     go_ret2
     exact⟨jN (congrArg Prod.fst HF.o) (congrArg Prod.snd HF.o),below_drewN HB2.o _⟩
   have kU:=ah (HE2.o.trans (if_neg agW));have h1':d.size<=4:=agO
   clear HE2 h1;go_upto_region 10 with fail;go_wp2_with fail;refine(ES d _).mono ?_;rintro e w3 ⟨rfl,hb3⟩;have HZ:=ah (HY.o.next hb3);have HB3:=ah (HB2.o.trans (hb3.mono HB2.o.size));have uW:=ah (PG.o.next hb3);clear hb3 HY HB2 PG c0 c1 c2 c3 c4 c5 hk1;have HFV:=ah (Vl d);have HDM:aj (∃m,gK d=m):=ah ⟨_,rfl⟩;obtain⟨-,⟨-,c0⟩,⟨-,c1⟩,⟨-,c2⟩,⟨-,c3⟩,⟨-,c4⟩,⟨-,c5⟩,-⟩:=HZ.o;go_upto_block 2 with(fail);go_cut [5,6,7,8,11,33] (λs5 s6 s7 s8 s11 _ W3=>w3=W3∧s11= .int .i64 (gK d)∧s5= .int .i64 (dc d c)∧s6= .int .i64 (dl d l)∧s7= .int .i64 (dn d n)∧s8= .int .i64 (df d f))
   case first=>
    as_aux_lemma=>
     have hkd:d.kind=1∨d.kind=2∨d.kind=3∨d.kind=4∨d.kind=5∨d.kind=6:=agH;rcases hkd with hkd|hkd|hkd|hkd|hkd|hkd
     ·by_cases hs0:d.size=0
      ·have hm:gK d=2:=(by simp[gK,hkd,hs0]);have HA:aj (dc d c=c+1∧dl d l=l∧dn d n=n∧df d f=f):=ah abU;have Ew:=ah hm;rw[hm];clear hm hkd hs0;exact AaB
      ·have hm:gK d=3:=(by simp[gK,hkd,hs0]);have HA:aj (dc d c=c+d.size∧dl d l=l∧dn d n=n∧df d f=f):=ah aaL;have Ew:=ah hm;rw[hm];clear hm hkd hs0;exact AaB
     ·have hs0:d.size=0:=agH;have hm:gK d=2:=ahv;have HA:aj (dc d c=c+1∧dl d l=l∧dn d n=n∧df d f=f):=ah abU;have Ew:=ah hm;rw[hm];clear hm hkd hs0;exact AaB
     ·have hm:gK d=4:=ahv;have HA:aj (dc d c=c∧dl d l=l+1∧dn d n=n∧df d f=f):=ah afL;have Ew:=ah hm;rw[hm];clear hm hkd;exact AaB
     ·have hm:gK d=5:=ahv;have HA:aj (dc d c=c∧dl d l=l+1∧dn d n=n∧df d f=f):=ah afL;have Ew:=ah hm;rw[hm];clear hm hkd;exact AaB
     ·have hm:gK d=6:=ahv;have HA:aj (dc d c=c∧dl d l=l∧dn d n=n+1∧df d f=f):=ah afL;have Ew:=ah hm;rw[hm];clear hm hkd;exact AaB
     ·have hm:gK d=7:=ahv;have HA:aj (dc d c=c∧dl d l=l∧dn d n=n∧df d f=f+1):=ah afL;have Ew:=ah hm;rw[hm];clear hm hkd;exact AaB
   obtain⟨rfl,rfl,rfl,rfl,rfl,rfl⟩:=hcut;have hc':0<=dc d c∧dc d c<=16:=by unfold dc;split <;> omega
   have hl'':0<=dl d l∧dl d l<=5:=by unfold dl;split <;> omega
   have hn':0<=dn d n∧dn d n<=3:=by unfold dn;split <;> omega
   have hf':0<=df d f∧df d f<=3:=by unfold df;split <;> omega
   generalize hcc:dc d c=c' at *;generalize hll:dl d l=l' at *;generalize hnn:dn d n=n' at *;generalize Uc:df d f=f' at *;clear hcc hll hnn Uc;go_upto_region 23 with fail;go_cut [70] (λs' W3=>w3=W3∧s'= .bool (lim c' l' n' f'))
   case first=>
    as_aux_lemma=>
     have HF:aj (lim c' l' n' f'=(((decide (12<c')||decide (4<l'))||decide (2<n'))||decide (2<f'))):=ah rfl;go_wp2_with fail
     all_goals go_meet
     all_goals exact⟨rfl,abJ⟩
   obtain⟨rfl,rfl⟩:=hcut;cases h2:lim c' l' n' f'
   case true=>
    as_aux_lemma=>
     have HF:=ah (kU.o.trans (if_pos h2));go_wp2_with fail;go_quiet (fail);go_wp2_with fail
     go_ret2
     exact⟨jN (congrArg Prod.fst HF.o) (congrArg Prod.snd HF.o),below_drewN HB3.o _⟩
   have uT:=ah (kU.o.trans (if_neg ahl));have hlim:c'<=12∧l'<=4∧n'<=2∧f'<=2:=aep
   clear kU h2;have hkm:k<maxLen:=agH
   cases h5:(d.kind==5)
   ·have h6:(gK d==6)=false:=HFV.o.trans h5;have HF:=ah (uT.o.trans ((if_neg ahA).trans (if_neg ahA)));clear uT;obtain⟨w4,hup,yE,hg4⟩:=uW.o.put agH d.nm hok.2.2.1 (gK d) aeM;have qB:=ah ((yE.congr (Ur h0)));have dR:=ah (HB3.o.trans (cK hg4 (aB _) HB3.o.size));clear yE hg4;go_wp2_with fail;go_roundg R.length
    case measure=>simp
    case rel=>exact⟨k+1,pre++[d],R,c',l',n',f',rfl,agL,acC,afn,rfl,rfl,rfl,rfl,agH,HF.o,qB.o,dR.o⟩
   ·have h6:(gK d==6)=true:=HFV.o.trans h5;have hk2:=uW.o.look d.on hok.2.2.2.2.2;generalize hmo:mD pre d.on.toList=mo at *;clear hmo;cases h7:(mo==0)
    case true=>
     as_aux_lemma=>
      have HF:=ah (uT.o.trans (if_pos (by rw[h5,h7];rfl)));go_wp2_with fail;go_quiet (fail);go_wp2_with fail
      go_ret2
      exact⟨jN (congrArg Prod.fst HF.o) (congrArg Prod.snd HF.o),below_drewN HB3.o _⟩
    have G6:=ah (uT.o.trans (if_neg (by rw[h5,h7];decide)));clear uT;cases h8:(mo != 4)
    case true=>
     as_aux_lemma=>
      have HF:=ah (G6.o.trans (if_pos (by rw[h5,h8];rfl)));go_wp2_with fail;go_quiet (fail);go_wp2_with fail
      go_ret2
      exact⟨jN (congrArg Prod.fst HF.o) (congrArg Prod.snd HF.o),below_drewN HB3.o _⟩
    have HF:=ah (G6.o.trans (if_neg (by rw[h5,h8];decide)));clear G6;obtain⟨w4,hup,yE,hg4⟩:=uW.o.put agH d.nm hok.2.2.1 (gK d) aeM;have qB:=ah ((yE.congr (Ur h0)));have dR:=ah (HB3.o.trans (cK hg4 (aB _) HB3.o.size));clear yE hg4;go_wp2_with fail;go_roundg R.length
    case measure=>simp
    case rel=>exact⟨k+1,pre++[d],R,c',l',n',f',rfl,agL,acC,afn,rfl,rfl,rfl,rfl,agH,HF.o,qB.o,dR.o⟩
namespace Md
def oo (ds:List De) (l:List UInt8):Bool:=ds.any λd=>d.nm.toList==l
def nP (ts:List Th) (l:List UInt8):Bool:=ts.any λt=>t.nm.toList==l
def nN (tx:List ByteArray) (l:List UInt8):Bool:=tx.any λs=>s.toList==l
def wC (ds:List De):List Th->List Th->Option Int
 | [],_=>none
 |t::r,pre=>if oo ds t.nm.toList||nP pre t.nm.toList then some t.line else wC ds r (pre++[t])
def uD (ds:List De) (ts:List Th):List ByteArray->List ByteArray->Bool
 | [],_=>false
 |s::r,pre=>((oo ds s.toList||nP ts s.toList)||nN pre s.toList)||uD ds ts r (pre++[s])
def Bj (ds:List De) (ts:List Th):List Th->Int×Int
 | []=>(0,0)
 |t::r=>if decide ((4:Int)<t.cZ.length)then(2,t.line)else if uD ds ts t.cZ []then(4,t.line)else Bj ds ts r
def lM (p:Pr):Int×Int:=match wC p.ds p.ts []with
 |some l=>(4,l)
 |none=>Bj p.ds p.ts p.ts
theorem Wu (pre:List De) (d:De) (l:List UInt8):(if l=d.nm.toList then true else oo pre l)=oo (pre++[d]) l:=by
 unfold oo;rw[List.any_append];by_cases h:l=d.nm.toList
 ·subst h;simp
 ·rw[if_neg h];have:(d.nm.toList==l)=false:=by rw[beq_eq_false_iff_ne];exact λe=>h e.symm
  simp[this]
theorem Wv (ds:List De) (pre:List Th) (t:Th) (l:List UInt8):(if l=t.nm.toList then true else(oo ds l||nP pre l))=(oo ds l||nP (pre++[t]) l):=by
 unfold nP;rw[List.any_append];by_cases h:l=t.nm.toList
 ·subst h;simp
 ·rw[if_neg h];have:(t.nm.toList==l)=false:=by rw[beq_eq_false_iff_ne];exact λe=>h e.symm
  simp[this]
end Md
theorem Holds.grown {W W':World} {bm:Nat} (hg:W.grownBy W' (some bm)): ∀ {l:List (Nat×Nat×Value)},(∀f∈l,f.1≠bm)->Holds W l->Holds W' l
 | [],_,_=>trivial
 |f::_,hne,⟨⟨h1,h2⟩,h3⟩=>⟨⟨aR h1 hg.size,(World.cell?_of_block (a:=⟨f.1,f.2.1,none⟩) (hg.block f.1 h1 (by have:=hne f agJ;simp;exact this))).trans h2⟩,Holds.grown hg (λx hx=>hne x (by simp[hx])) h3⟩
theorem Sit.grown {w W W':World} {fs:List (Nat×Nat×Value)} {bm:Nat} (h:Sit w W fs) (hg:W.grownBy W' (some bm)) (hb:w.heap.size<=bm) (hne: ∀f∈fs,f.1≠bm):Sit w W' fs:=
 ⟨h.1.trans (cK hg hb h.1.size),h.2.grown hg hne⟩
theorem Ta (p:Pr) (w:World) (aK aM:Option Addr) (aH aG:Nat) (hp:p.At w aK aM) (hsum:p.ds.length+p.ts.length<maxLen):
 Calls Tryz.prog 60 #[.agg #[.slice aK p.ds.length aH,.slice aM p.ts.length aG]] w λe w'=>e= .returned (.tuple #[.int .i64 (lM p).1,.int .i64 (lM p).2])∧Below w.heap.size w w':=by
 have HR:aj (lM p=match wC p.ds p.ts []with|some l=>(4,l)|none=>Bj p.ds p.ts p.ts):=ah rfl;generalize lM p=res at *;have hld:=hp.1;have hlt:=hp.2.1;unfold maxLen at hld hlt;have HP:=ah hp;clear hp;have hmm:= @run_makeMap Tryz.prog;go_enter Tryz.func60,Tryz.ntmps60;go_upto_region 1 with fail;generalize hW:World.alloc w _=W;generalize Value.agg #[_,_]=a0;have HX:=ah ((Sit.start w).xV rfl (.slice aK p.ds.length aH) (.slice aM p.ts.length aG) 35);rw[hW]at HX;have hsz:W.heap.size=w.heap.size+1:=by rw[<- hW];simp
 clear hW;go_upto_region 2 with fail;have HM:=ah (jI.made W);have HY:=ah (HX.o.next (ak W (.map #[] 0)));rw[hsz]at HM;generalize World.alloc W _=W1 at *;clear HX hsz;obtain⟨-,⟨-,c0⟩,⟨-,c1⟩,-⟩:=HY.o;go_wp2_with fail;go_loopw [6,19] (λ_ s wr=> ∃(k:Nat) (pre R:List De),s= .int .i64 k∧pre++R=p.ds∧pre.length=k∧jI wr (w.heap.size+1) k (oo pre)∧Sit w wr [(w.heap.size,0,(.slice aK p.ds.length aH)),(w.heap.size,1,(.slice aM p.ts.length aG))]) (λ_ s _=>p.ds.length -(intOf s).toNat)
 case atStart=>exact⟨0,[],p.ds,rfl,rfl,rfl,HM.o.congr (λ_=>rfl),HY.o⟩
 case round=>
  obtain⟨k,pre,R,rfl,hds,hk,hmap,hsit⟩:=hrel;have HZ:=ah hsit;have PG:=ah hmap;clear hsit hmap HY HM c0 c1;have hlen:k+R.length=p.ds.length:=afx
  have hrow:=(HP.o.2.2.1.below HZ.o.1).drop k;rw[aU,<- hds,<- hk,List.drop_left]at hrow;rw[hk]at hrow;have rP:=ah hds;have HK:=ah hk;clear hds hk;cases R with
  |cons d R=>
   obtain⟨⟨b,off,rfl,lV,x0,x1,x2,x3,x4,x5,hok⟩,-⟩:=hrow;simp only[aD]at hlen;have hkl:k<p.ds.length:=agH
   have hba:=ak wr (.cells #[.int .i64 d.kind,.int .i64 d.line,.string d.nm,.int .i64 d.size,.int .i64 d.init,.string d.on] 55);obtain⟨w4,hup,yE,hg4⟩:=(PG.o.next hba).put agH d.nm hok.2.2.1 true;have qB:=ah (yE.congr (Wu pre d));have za:=ah ((HZ.o.next hba).grown hg4 agH agJ);clear yE hg4 hba hok;go_wp2_with fail;go_roundw
   case rel=>exact⟨k+1,pre++[d],R,agL,acC,afn,qB.o,za.o⟩
   case measure=>simp[intOf];omega
  |nil=>
   obtain rfl:k=p.ds.length:=aeQ
   have hpre:pre=p.ds:=by rw[<- rP.o,List.append_nil]
   subst hpre;obtain⟨-,⟨-,c0⟩,⟨-,c1⟩,-⟩:=HZ.o;clear hrow hlen rP HK;go_wp2_with fail;go_loopw [8,30] (λ_ s wr=> ∃(k:Nat) (pre R:List Th),s= .int .i64 k∧pre++R=p.ts∧pre.length=k∧wC p.ds p.ts []=wC p.ds R pre∧jI wr (w.heap.size+1) (p.ds.length+k) (λl=>oo p.ds l||nP pre l)∧Sit w wr [(w.heap.size,0,(.slice aK p.ds.length aH)),(w.heap.size,1,(.slice aM p.ts.length aG))]) (λ_ s _=>p.ts.length -(intOf s).toNat)
   case atStart=>exact⟨0,[],p.ts,rfl,rfl,rfl,rfl,PG.o.congr (λl=>by simp[nP]),HZ.o⟩
   case round=>
    obtain⟨k,pre,R,rfl,hds,hk,heq,hmap,hsit⟩:=hrel;have HU:=ah hsit;have uW:=ah hmap;have HE:=ah heq;clear hsit hmap HZ PG c0 c1 heq;have hlen:k+R.length=p.ts.length:=afx;have hrow:=(HP.o.2.2.2.below HU.o.1).drop k;rw[aU,<- hds,<- hk,List.drop_left]at hrow;rw[hk]at hrow;have rP:=ah hds;have HK:=ah hk;clear hds hk;cases R with
    |cons t R=>
     obtain⟨⟨b,off,iU,eU,dB,cu,rfl,hB,x0,x1,x2,x3,hok,htx,hst⟩,-⟩:=hrow;simp only[aD]at hlen;have hkl:k<p.ts.length:=agH;have hba:=ak wr (.cells #[.string t.nm,.int .i64 t.line,.slice iU t.cZ.length eU,.slice dB t.body.len cu] 59);have qB:=ah (uW.o.next hba);have hlk:=qB.o.look t.nm hok.1;have HB3:=ah (HU.o.next hba).1;cases vN:(oo p.ds t.nm.toList||nP pre t.nm.toList)
     ·obtain⟨w4,hup,yE,hg4⟩:=qB.o.put agH t.nm hok.1 true;have fZ:=ah (yE.congr (Wv p.ds pre t));have HU4:=ah ((HU.o.next hba).grown hg4 agH agJ);have dG:=ah (HE.o.trans (if_neg (by rw[vN];decide)));clear yE hg4 hba hok htx hst;go_wp2_with fail;go_roundw
      case rel=>exact⟨k+1,pre++[t],R,agL,acC,afn,dG.o,fZ.o,HU4.o⟩
      case measure=>simp[intOf];omega
     ·have HF:aj (res=(4,t.line)):=ah (HR.o.trans aeL);clear hba hok htx hst;exact Aaw
    |nil=>
     obtain rfl:k=p.ts.length:=aeQ;have hpre:pre=p.ts:=(by rw[<- rP.o,List.append_nil]);subst hpre;have HR2:aj (res=Bj p.ds p.ts p.ts):=ah (HR.o.trans ahb);obtain⟨-,⟨-,c0⟩,⟨-,c1⟩,-⟩:=HU.o;clear hrow hlen rP HK HE HR;generalize Uc:(λl=>oo p.ds l||nP p.ts l)=ff at *;have HFF:=ah Uc;clear Uc;have hth:=HP.o.2.2.2.below HU.o.1;go_wp2_with fail;go_loopw [10,11,12,14,47,60,75] (λ_ _ _ _ s _ _ wr=> ∃(k:Nat) (R:List Th),s= .int .i64 k∧k+R.length=p.ts.length∧Bj p.ds p.ts p.ts=Bj p.ds p.ts R∧iG wr w.heap.size R aM k∧jI wr (w.heap.size+1) (p.ds.length+p.ts.length) ff∧Sit w wr [(w.heap.size,0,(.slice aK p.ds.length aH)),(w.heap.size,1,(.slice aM p.ts.length aG))]) (λ_ _ _ _ s _ _ _=>p.ts.length -(intOf s).toNat)
     case atStart=>exact⟨0,p.ts,rfl,agJ,rfl,hth,uW.o,HU.o⟩
     case round=>
      obtain⟨k,R,rfl,hlen,heq,hrow,hmap,hsit⟩:=hrel;have HV:=ah hsit;have qB:=ah hmap;have HE:=ah (HR2.o.trans heq);have GA:=ah heq;clear hsit hmap HU uW c0 c1 heq hth;cases R with
      |nil=>
       obtain rfl:k=p.ts.length:=aeQ;have HF:=ah (HE.o.trans (rfl:_=((0:Int),(0:Int))));go_wp2_with fail
       go_ret2
       exact⟨jN (congrArg Prod.fst HF.o) (congrArg Prod.snd HF.o),HV.o.1⟩
      |cons t R=>
       obtain⟨⟨b,off,iU,eU,dB,cu,rfl,hB,x0,x1,x2,x3,hok,htx,hst⟩,hrest⟩:=hrow;simp only[aD]at hlen;have hkl:k<p.ts.length:=agH;have hll:=hok.2.2.1;have hcl:=hst.2;unfold maxLen at hll;clear hst hok;go_upto_region 17 with fail;obtain⟨nb,hnb⟩: ∃n,wr.heap.size=n:=⟨_,rfl⟩;generalize hW2:World.alloc wr _=W2;have yt:aj (Below wr.heap.size wr W2):=ah afb;have HY:aj (Sit wr W2 [(nb,0,.string t.nm),(nb,1,.int .i64 t.line),(nb,2,.slice iU t.cZ.length eU),(nb,3,.slice dB t.body.len cu)]):=ah (by rw[<- hW2];exact(Sit.start wr).Ac hnb _ _ _ _ _);have Jz:=ah (HV.o.next yt.o);have fZ:=ah (qB.o.next yt.o);have HB3:=ah Jz.o.1;have zW:=ah (htx.below (yt.o.mono HV.o.1.size));have kL:=ah (hrest.below (yt.o.mono HV.o.1.size));rw[hnb];clear hW2 hnb x0 x1 x2 x3 qB HV htx hrest yt;obtain⟨-,⟨-,c0⟩,⟨-,c1⟩,⟨-,c2⟩,⟨-,c3⟩,-⟩:=HY.o;cases h1:decide ((4:Int)<t.cZ.length)
       case true=>
        as_aux_lemma=>
         have HF:=ah (HE.o.trans (if_pos h1));have h1':4<t.cZ.length:=afQ;clear h1;go_wp2_with fail;go_quiet (fail);go_wp2_with fail
         go_ret2
         exact⟨jN (congrArg Prod.fst HF.o) (congrArg Prod.snd HF.o),below_drewN HB3.o _⟩
       have HE2:=ah (HE.o.trans (if_neg agW));have kU:=ah (GA.o.trans (if_neg agW));have h1':t.cZ.length<=4:=afQ;clear HE GA h1;go_wp2_with fail;go_loop [11,12,14,60,75] (λ_ _ _ s _=> ∃(k':Nat) (pre R':List ByteArray),s= .int .i64 k'∧pre++R'=t.cZ∧pre.length=k'∧uD p.ds p.ts t.cZ []=uD p.ds p.ts R' pre) (λ_ _ _ s _=>t.cZ.length -(intOf s).toNat)
       case atStart=>exact⟨0,[],t.cZ,rfl,rfl,rfl,rfl⟩
       case round=>
        obtain⟨k',pre,R',rfl,hds,hk',heq'⟩:=hrel;have dG:=ah heq';have hlen':k'+R'.length=t.cZ.length:=(by rw[<- hds,aA,hk']);have hrow:=zW.o.drop k';rw[aU,<- hds,<- hk',List.drop_left]at hrow;rw[hk']at hrow;have yA:=ah ((hds ▸ zW.o:fP W2 w.heap.size (pre++R') iU 0).take);have rP:=ah hds;have HK:=ah hk';clear hds hk' heq';cases R' with
        |nil=>
         obtain rfl:k'=t.cZ.length:=afs;have HF:=ah (kU.o.trans (if_neg (by rw[dG.o];simp[uD])));go_wp2_with fail;go_roundw
         case rel=>exact⟨k+1,R,agL,agH,HF.o,kL.o,fZ.o,Jz.o⟩
         case measure=>simp[intOf];omega
        |cons s R'=>
         obtain⟨⟨b',off',rfl,hB',y0,hs⟩,-⟩:=hrow;simp only[aD]at hlen';have hkl':k'<t.cZ.length:=agH;have hlk:=fZ.o.look s hs;have hfs:ff s.toList=(oo p.ds s.toList||nP p.ts s.toList):=(by rw[<- HFF.o]);cases vN:ff s.toList
         case true=>
          as_aux_lemma=>
           have HF:=ah (HE2.o.trans (if_pos (by rw[dG.o];unfold uD;rw[<- hfs,vN];rfl)));clear hfs;go_wp2_with fail;go_quiet (fail);go_wp2_with fail
           go_ret2
           exact⟨jN (congrArg Prod.fst HF.o) (congrArg Prod.snd HF.o),below_drewN HB3.o _⟩
         have uT:aj (uD p.ds p.ts t.cZ []=(nN pre s.toList||uD p.ds p.ts R' (pre++[s]))):=ah (dG.o.trans (by rw[uD,<- hfs,vN];rfl));clear hfs dG;have hk0:(0:Int)<=k':=agH;have hk2:k'<=eU:=agH;go_wp2_with fail;go_loop [14,75] (λ_ s'=> ∃(k'':Nat) (Q:List ByteArray),s'= .int .i64 k''∧k''+Q.length=k'∧nN pre s.toList=nN Q s.toList∧fP W2 w.heap.size Q (some ⟨b',off',none⟩) k'') (λ_ s'=>k' -(intOf s').toNat)
         case atStart=>exact⟨0,pre,rfl,by rw[aU];exact HK.o,rfl,yA.o⟩
         case round=>
          obtain⟨k'',Q,rfl,XV,heq'',aP5⟩:=hrel;have HQ:=ah heq'';clear heq'';cases Q with
          |nil=>
           obtain rfl:k''=k':=(by simpa using XV);have HF:=ah (uT.o.trans (by rw[HQ.o];rfl:_=uD p.ds p.ts R' (pre++[s])));go_wp2_with fail;go_round
           case rel=>exact⟨k''+1,pre++[s],R',agL,acC,afn,HF.o⟩
           case measure=>simp[intOf];omega
          |cons q Q=>
           obtain⟨⟨b2,off2,hbe,hB2,z0,hq⟩,hrest''⟩:=aP5;obtain⟨rfl,rfl⟩:b'=b2∧off'=off2:=abm;simp only[aD]at XV;have bL6:k''<k':=agH;clear hbe;have Ct:aj (nN pre s.toList=((q.toList==s.toList)||nN Q s.toList)):=ah (HQ.o.trans (by simp[nN]));cases hc:(q.toList==s.toList)
           ·have hc':(s.toList==q.toList)=false:=(by rw[beq_eq_false_iff_ne]at hc⊢;exact λe=>hc e.symm);have HF:=ah (Ct.o.trans (by rw[hc];rfl:_=nN Q s.toList));go_wp2_with fail;go_round
            case rel=>exact⟨k''+1,Q,agL,agH,HF.o,hrest''⟩
            case measure=>simp[intOf];omega
           ·have hc':(s.toList==q.toList)=true:=(by rw[beq_iff_eq]at hc⊢;exact hc.symm);have HF:=ah (HE2.o.trans (if_pos (by rw[uT.o,Ct.o,hc];rfl)));exact Aaw
def Ak (f:List UInt8->Bool) (l:List UInt8):List UInt8->Bool:=λx=>if x=l then true else f x
def lg (b:Bool):Int:=if b then 8 else 0
def ZP (nm:ByteArray) (w:World) (bs n:Nat) (f:List UInt8->Bool) (e:Ending) (w':World):Prop:=
 e= .returned (.int .i64 (lg (f nm.toList)))∧jI w' bs (n+1) (Ak f nm.toList)∧w.grownBy w' (some bs)
theorem Ro (nm:ByteArray) (w:World) (bs n:Nat) (f:List UInt8->Bool) (hn:n<maxLen) (hs:nm.size<=maxLen) (hm:jI w bs n f):
 Calls Tryz.prog 145 #[.map (some bs),.string nm] w (ZP nm w bs n f):=by
 have HM:=ah hm;have hlk:=hm.look nm hs;clear hm;cases hf:f nm.toList
 ·obtain⟨w4,hup,yE,hg4⟩:=HM.o.put hn nm hs true;have qB:=ah yE;have HG:=ah hg4;clear yE hg4 hn hs;go_enter Tryz.func145,Tryz.ntmps145;go_wp2_with fail;go_ret;exact⟨by rw[hf];rfl,qB.o,HG.o⟩
 ·have qB:aj (jI w bs (n+1) (Ak f nm.toList)):=ah (by
   obtain⟨D,h1,h2⟩:=HM.o;refine⟨D,h1.mono agH,λl=> ?_⟩;rw[h2];unfold Ak;by_cases h:l=nm.toList
   ·rw[if_pos h,h,hf]
   ·rw[if_neg h])
  clear hn hs;go_enter Tryz.func145,Tryz.ntmps145;go_wp2_with fail;go_ret;exact⟨by rw[hf];rfl,qB.o,⟨rfl,rfl,rfl,aB _,λ_ _ _=>rfl⟩⟩
theorem Va (p:Pr) (w:World) (aK aM:Option Addr) (aH aG:Nat) (hp:p.At w aK aM) (eG:dW w):
 Calls Tryz.prog 58 #[.agg #[.slice aK p.ds.length aH,.slice aM p.ts.length aG]] w λe w'=>e= .returned (.bool (rE p))∧Below w.heap.size w w':=by
 have HS:aj (rE p=((p.ds.all jw&&p.ts.all pO)&&decide ((0:Int)<p.ts.length))):=ah rfl;generalize rE p=res at *;have hld:=hp.1;have hlt:=hp.2.1;unfold maxLen at hld hlt;have HP:=ah hp;have jX:=ah eG;clear hp eG;go_enter Tryz.func58,Tryz.ntmps58;go_upto_region 1 with fail;generalize hW:World.alloc w _=W;generalize Value.agg #[_,_]=a0;have HX:=ah ((Sit.start w).xV rfl (.slice aK p.ds.length aH) (.slice aM p.ts.length aG) 35);rw[hW]at HX;clear hW;obtain⟨-,⟨-,c0⟩,⟨-,c1⟩,-⟩:=HX.o;have hde:=(HP.o.same HX.o.1).2.2.1;go_wp2_with fail;go_loopw [4,12] (λ_ s wr=> ∃(k:Nat) (R:List De),s= .int .i64 k∧k+R.length=p.ds.length∧p.ds.all jw=R.all jw∧jv wr wr.heap.size R aK k∧Sit w wr [(w.heap.size,0,(.slice aK p.ds.length aH)),(w.heap.size,1,(.slice aM p.ts.length aG))]) (λ_ s _=>p.ds.length -(intOf s).toNat)
 case atStart=>exact⟨0,p.ds,rfl,agJ,rfl,hde,HX.o⟩
 case round=>
  obtain⟨k,R,rfl,hlen,heq,hrow,hsit⟩:=hrel;have HZ:=ah hsit;have HE:=ah heq;clear hsit HX c0 c1 hde heq;cases R with
  |cons d R=>
   obtain⟨⟨b,off,rfl,hB,x0,x1,x2,x3,x4,x5,hok⟩,hrest⟩:=hrow;simp only[aD]at hlen;have hkl:k<p.ds.length:=agH
   have kK:=ah hok;clear hok;go_wp2_with fail;have hba:=ak wr (.cells #[.int .i64 d.kind,.int .i64 d.line,.string d.nm,.int .i64 d.size,.int .i64 d.init,.string d.on] 55);refine(Nc d _ ((jX.o.same HZ.o.1).same hba) kK.o).mono ?_;rintro e' w2 ⟨rfl,hb2⟩;have HB3:=ah (hba.trans (hb2.mono agJ));clear hba hb2 x0 x1 x2 x3 x4 x5;cases hS:jw d
   ·rw[HE.o,List.all_cons,hS]at HS;go_wp2_with fail;go_ret;exact⟨bW (HS.o.trans agJ).symm,(HZ.o.next HB3.o).1⟩
   ·have HF:=ah (HE.o.trans (by rw[List.all_cons,hS];rfl:_=R.all jw));go_wp2_with fail;go_roundw
    case rel=>exact⟨k+1,R,agL,agH,HF.o,hrest.same HB3.o,HZ.o.next HB3.o⟩
    case measure=>simp[intOf];omega
  |nil=>
   obtain rfl:k=p.ds.length:=aeQ
   rw[HE.o]at HS;obtain⟨-,⟨-,c0⟩,⟨-,c1⟩,-⟩:=HZ.o;have hth:=(HP.o.same HZ.o.1).2.2.2;clear HE hrow hlen;go_wp2_with fail;go_loopw [6,8,23,31,32,33,34,35] (λ_ _ s _ _ _ _ _ wr=> ∃(k:Nat) (R:List Th),s= .int .i64 k∧k+R.length=p.ts.length∧p.ts.all pO=R.all pO∧iG wr wr.heap.size R aM k∧Sit w wr [(w.heap.size,0,(.slice aK p.ds.length aH)),(w.heap.size,1,(.slice aM p.ts.length aG))]) (λ_ _ s _ _ _ _ _ _=>p.ts.length -(intOf s).toNat)
   case atStart=>exact⟨0,p.ts,rfl,agJ,rfl,hth,HZ.o⟩
   case round=>
    obtain⟨k,R,rfl,hlen,heq,hrow,hsit⟩:=hrel;have HU:=ah hsit;have HE:=ah heq;clear hsit HZ c0 c1 hth heq;cases R with
    |nil=>obtain rfl:k=p.ts.length:=aeQ;rw[HE.o]at HS;obtain⟨-,⟨-,c0⟩,⟨-,c1⟩,-⟩:=HU.o;go_wp2_with fail;go_ret;exact⟨bW (HS.o.trans agJ).symm,HU.o.1⟩
    |cons t R=>
     obtain⟨⟨b,off,iU,eU,dB,cu,rfl,hB,x0,x1,x2,x3,hok,htx,hst⟩,hrest⟩:=hrow;simp only[aD]at hlen;have hkl:k<p.ts.length:=agH;have hll:=hok.2.2.1;have kK:=ah hok;have zW:=ah htx;have HST:=ah hst;unfold maxLen at hll;clear hok htx hst;go_upto_region 10 with fail;obtain⟨n2,hn2⟩: ∃n,wr.heap.size=n:=⟨_,rfl⟩;generalize hW2:World.alloc wr _=W2;have HB2:aj (Below wr.heap.size wr W2):=ah afb;have HV:aj (Sit w W2 ((n2,0,.string t.nm)::(n2,1,.int .i64 t.line)::(n2,2,.slice iU t.cZ.length eU)::(n2,3,.slice dB t.body.len cu)::[(w.heap.size,0,(.slice aK p.ds.length aH)),(w.heap.size,1,(.slice (some ⟨b,off,none⟩) p.ts.length aG))])):=ah acU;rw[hn2];clear hW2 hn2 x0 x1 x2 x3;obtain⟨-,⟨-,c0⟩,⟨-,c1⟩,⟨-,c2⟩,⟨-,c3⟩,⟨-,c4⟩,⟨-,c5⟩,-⟩:=HV.o;go_wp2_with fail;refine(zf _ _ (jX.o.same HV.o.1) kK.o.1).mono ?_;rintro e' w3 ⟨rfl,hb3⟩;have HB3:=ah hb3;have HA:=ah (HV.o.next hb3);clear hb3 HV c0 c1 c2 c3 c4 c5;obtain⟨-,⟨-,c0⟩,⟨-,c1⟩,⟨-,c2⟩,⟨-,c3⟩,⟨-,c4⟩,⟨-,c5⟩,-⟩:=HA.o;cases hN:Tk.jf t.nm.data.toList
     ·rw[HE.o,List.all_cons,show pO t=false by unfold pO;rw[hN];rfl]at HS;go_wp2_with fail;go_ret;exact⟨bW (HS.o.trans agJ).symm,HA.o.1⟩
     ·have hrow:=zW.o.same (HB2.o.trans (HB3.o.mono HB2.o.size));have Dl:=ah (HB2.o.trans (HB3.o.mono HB2.o.size));clear HB2 HB3;go_wp2_with fail;obtain⟨wo,rfl⟩: ∃wo:World,wo=wr:=⟨_,rfl⟩;go_loopw [8,34] (λ_ s wr=> ∃(k:Nat) (R:List ByteArray),s= .int .i64 k∧k+R.length=t.cZ.length∧t.cZ.all (λs=>Tk.jf s.data.toList)=R.all (λs=>Tk.jf s.data.toList)∧fP wr wr.heap.size R iU k∧Below wo.heap.size wo wr∧Sit w wr ((n2,0,.string t.nm)::(n2,1,.int .i64 t.line)::(n2,2,.slice iU t.cZ.length eU)::(n2,3,.slice dB t.body.len cu)::[(w.heap.size,0,(.slice aK p.ds.length aH)),(w.heap.size,1,(.slice (some ⟨b,off,none⟩) p.ts.length aG))])) (λ_ s _=>t.cZ.length -(intOf s).toNat)
      case atStart=>exact⟨0,t.cZ,rfl,agJ,rfl,hrow,Dl.o,HA.o⟩
      case round=>
       obtain⟨k',R',rfl,hlen',heq',hrow',XR,LQ⟩:=hrel;have HC:=ah LQ;have Dm:=ah XR;have dG:=ah heq';clear LQ HA c0 c1 c2 c3 c4 c5 hrow heq' XR Dl;cases R' with
       |cons s R'=>
        obtain⟨⟨b',off',rfl,hB',y0,hs⟩,hrest'⟩:=hrow';simp only[aD]at hlen';have hkl':k'<t.cZ.length:=agH;go_wp2_with fail;refine(zf _ _ (jX.o.same HC.o.1) hs).mono ?_;rintro e' w3 ⟨rfl,hb3⟩;have dR:=ah hb3;clear hb3;exact Aam
       |nil=>
        obtain rfl:k'=t.cZ.length:=afs;obtain⟨-,⟨-,c0⟩,⟨-,c1⟩,⟨-,c2⟩,⟨-,c3⟩,⟨-,c4⟩,⟨-,c5⟩,-⟩:=HC.o;go_wp2_with fail;refine(Nf t.body _ _ _ kK.o.2.2.2 (HST.o.1.same Dm.o) (jX.o.same HC.o.1)).mono ?_;rintro e' w3 ⟨rfl,hb3⟩;have dR:=ah hb3;clear hb3;have HT:aj (pO t=gQ t.body):=ah (by unfold pO;rw[hN,dG.o];rfl);cases Ij:gQ t.body
        ·rw[HE.o,List.all_cons,HT.o,Ij]at HS;go_wp2_with fail;go_ret;exact⟨bW (HS.o.trans agJ).symm,(HC.o.next dR.o).1⟩
        ·have HF:=ah (HE.o.trans (by rw[List.all_cons,HT.o,Ij];rfl:_=R.all pO));have HBQ:=ah (Dm.o.trans (dR.o.mono Dm.o.size));have HSQ:=ah (HU.o.next HBQ.o);go_wp2_with fail;go_roundw
         case rel=>exact⟨k+1,R,agL,agH,HF.o,hrest.same HBQ.o,HSQ.o⟩
         case measure=>simp[intOf];omega
end Go.Proofs.YtdoplekppjkkpaaGreatDoor
