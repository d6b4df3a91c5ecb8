/- Contracts of the reference's shapedDecl, blank, ShapedStmt, ShapedStmts. And what hangs on it. -/
import Derived.Test.YtkmllehjemjgpaaGreatDoorGMC
import Derived.Test.YtkmllehjemjgpaaGreatDoorGR7
set_option linter.unusedSimpArgs false
set_option linter.unusedVariables false
set_option maxHeartbeats 40000000
set_option maxRecDepth 1000000
namespace Go.Proofs.YtkmllehjemjgpaaGreatDoor
open Go.RowKit
open Md
theorem OC (s:ByteArray):jQ s true=Tk.iC s.data.toList:=rfl
theorem OB (s:ByteArray):jQ s false=decide (s.toList=[]):=by unfold jQ;rw[Lib.toList_data,Bool.eq_iff_iff];simp
theorem Gm (d:De) (w:World) (hok:d.Ok):
 Calls Tryz.prog 60 #[.agg #[.int .i64 d.kind,.int .i64 d.line,.string d.nm,.int .i64 d.size,.int .i64 d.init,.string d.on]] w λe w'=>e= .returned (.bool (iw d))∧Below w.heap.size w w':=by
 obtain⟨⟨k1,k2⟩,-,hm,-,⟨i1,i2⟩,ho⟩:=hok;obtain⟨kind,line,nm,size,init,on⟩:=d;have HE:aj (iw ⟨kind,line,nm,size,init,on⟩=((((decide (1<=kind)&&decide (kind<=6))&&Tk.iC nm.data.toList)&&(decide (0<=size)&&(decide (size=0)||decide (kind=1))))&&((!decide (init= -9223372036854775808)&&(decide (init=0)||(decide (kind=1)||decide (kind=2))))&&jQ on (kind==5)))):=ah (by unfold iw;simp only[bne];rw[Bool.eq_iff_iff];simp);dsimp only at *;generalize iw ⟨kind,line,nm,size,init,on⟩=res at *;go_enter Tryz.func60,Tryz.ntmps60;go_upto_region 1 with fail;generalize hW:World.alloc w _=W;generalize Value.agg #[_,_,_,_,_,_]=a0;have HX:=ah ((Sit.start w).Ny rfl (.int .i64 kind) (.int .i64 line) (.string nm) (.int .i64 size) (.int .i64 init) (.string on) 75);rw[hW]at HX;clear hW;obtain⟨-,⟨-,c0⟩,⟨-,c1⟩,⟨-,c2⟩,⟨-,c3⟩,⟨-,c4⟩,⟨-,c5⟩,-⟩:=HX.o;go_cut [31] (λs W2=> ∃b,s= .bool b∧(!b)=(((decide (1<=kind)&&decide (kind<=6))&&Tk.iC nm.data.toList)&&(decide (0<=size)&&(decide (size=0)||decide (kind=1))))∧Sit w W2 [(w.heap.size,0,.int .i64 kind),(w.heap.size,1,.int .i64 line),(w.heap.size,2,.string nm),(w.heap.size,3,.int .i64 size),(w.heap.size,4,.int .i64 init),(w.heap.size,5,.string on)])
 case first=>
  cases hr:decide (1<=kind∧kind<=6)
  ·have hr':kind<1∨(1<=kind∧6<kind):=by simp at hr;omega
   clear hr;rcases hr' with hr|⟨hr,hr'⟩
   all_goals go_wp2_with fail
   all_goals go_meet
   all_goals exact⟨_,rfl,by go_light;grind,HX.o⟩
  ·have hr':1<=kind∧kind<=6:=by simpa using hr
   obtain⟨g1,g2⟩:=hr';clear hr;go_wp2_with fail;refine(mq _ _ hm).mono ?_;rintro e w3 ⟨rfl,hb3⟩;have HZ:=ah (HX.o.next hb3);clear hb3 HX c0 c1 c2 c3 c4 c5;obtain⟨-,⟨-,c0⟩,⟨-,c1⟩,⟨-,c2⟩,⟨-,c3⟩,⟨-,c4⟩,⟨-,c5⟩,-⟩:=HZ.o;cases hq:Tk.iC nm.data.toList
   all_goals go_wp2_with fail
   all_goals go_meet
   all_goals exact⟨_,rfl,by rw[hq];go_light;grind,HZ.o⟩
 obtain⟨b1,rfl,hb1,hX⟩:=hcut;have HY:=ah hX;have HB1:=ah hb1;clear hX HX hb1 c0 c1 c2 c3 c4 c5;rw[<- HB1.o]at HE;clear HB1;cases b1
 case true=>go_wp2_with fail;go_ret;exact⟨aZ (HE.o.trans (by simp)).symm,HY.o.1⟩
 obtain⟨-,⟨-,c0⟩,⟨-,c1⟩,⟨-,c2⟩,⟨-,c3⟩,⟨-,c4⟩,⟨-,c5⟩,-⟩:=HY.o;go_upto_region 3 with fail;go_cut [50] (λs W2=> ∃b,s= .bool b∧(!b)=jQ on (kind==5)∧Sit w W2 [(w.heap.size,0,.int .i64 kind),(w.heap.size,1,.int .i64 line),(w.heap.size,2,.string nm),(w.heap.size,3,.int .i64 size),(w.heap.size,4,.int .i64 init),(w.heap.size,5,.string on)])
 case first=>
  cases h5:(kind==5)
  ·have h5':(kind != 5)=true:=by unfold bne;rw[h5];rfl
   have HN:=ah (OB on);go_wp2_with fail
   all_goals go_meet
   all_goals exact⟨_,rfl,by rw[h5,HN.o];first|(simp;done)|(go_light;grind),HY.o⟩
  ·have h5':(kind != 5)=false:=by unfold bne;rw[h5];rfl
   have HN:=ah (OC on);go_wp2_with fail;refine(mq _ _ ho).mono ?_;rintro e w3 ⟨rfl,hb3⟩;have HZ:=ah (HY.o.next hb3);clear hb3 HY c0 c1 c2 c3 c4 c5;obtain⟨-,⟨-,c0⟩,⟨-,c1⟩,⟨-,c2⟩,⟨-,c3⟩,⟨-,c4⟩,⟨-,c5⟩,-⟩:=HZ.o;cases hq:Tk.iC on.data.toList
   all_goals go_wp2_with fail
   all_goals go_meet
   all_goals exact⟨_,rfl,by rw[h5,HN.o,hq];rfl,HZ.o⟩
 obtain⟨b2,rfl,hb2,hX⟩:=hcut;have HZ:=ah hX;have HB2:=ah hb2;clear hX HY hb2 c0 c1 c2 c3 c4 c5;rw[<- HB2.o]at HE;clear HB2;cases b2
 case true=>go_wp2_with fail;go_ret;exact⟨aZ (HE.o.trans (by simp)).symm,HZ.o.1⟩
 obtain⟨-,⟨-,c0⟩,⟨-,c1⟩,⟨-,c2⟩,⟨-,c3⟩,⟨-,c4⟩,⟨-,c5⟩,-⟩:=HZ.o;go_wp2_with fail
 all_goals go_ret
 all_goals refine⟨aZ (HE.o.trans ?_).symm,HZ.o.1⟩
 all_goals (go_light;grind)
theorem Uk (op n:Int) (nm:ByteArray) (len cap:Nat) (ao:Option Addr) (w:World):
 Calls Tryz.prog 129 #[.agg #[.int .i64 op,.int .i64 n,.string nm,.slice ao len cap]] w λe w'=>e= .returned (.bool (pU op n nm len))∧Below w.heap.size w w':=by
 have HE:aj (pU op n nm len=(((decide (op=0)&&decide (n=0))&&decide (nm.toList=[]))&&decide (len=0))):=ah (by unfold pU;rw[Bool.eq_iff_iff];simp);generalize pU op n nm len=res at *;go_enter Tryz.func129,Tryz.ntmps129;go_wp2
 all_goals go_ret
 all_goals refine⟨aZ ?_,ak _ _⟩
 all_goals rw[HE.o]
 all_goals (go_light;grind)
def Am (h:cB) (b e:aH):Prop:=
 ∀(w:World) (s:Sl),BO w h b e s->
  Calls Tryz.prog 90 #[jD h b e s] w λe' w'=>e'= .returned (.bool (AY h b e))∧Below w.heap.size w w'
theorem xY (l:aH) (hall:l.All Am) (w:World) (ao:Option Addr) (cap:Nat) (hl:l.len<=maxLen) (hat:l.At w w.heap.size ao 0):
 Calls Tryz.prog 62 #[.slice ao l.len cap] w λe' w'=>e'= .returned (.bool (eG l))∧Below w.heap.size w w':=by
 unfold maxLen at hl;go_enter Tryz.func62,Tryz.ntmps62;go_wp2_with fail;go_loopw [3] (λs wr=> ∃(k:Nat) (R:aH),s= .int .i64 k∧k+R.len=l.len∧eG l=eG R∧R.All Am∧R.At wr wr.heap.size ao k∧Below w.heap.size w wr) (λs _=>l.len -(intOf s).toNat)
 case atStart=>exact⟨0,l,rfl,by simp,rfl,hall,hat,Below.refl _ _⟩
 case round=>
  obtain⟨k,R,rfl,hlen,heq,nX,hrow,hB⟩:=hrel;have HE:=ah heq;clear heq;cases R with
  |nil=>
   obtain rfl:k=l.len:=by simpa[aH.len]using hlen
   go_wp2_with fail;go_ret;exact⟨aZ HE.o.symm,hB⟩
  |cons h b e R=>
   obtain⟨bl,off,s,rfl,hbl,hin,x0,x1,x2,x3,x4,x5,x6,x7,x8,x9,x10,hrest⟩:=aH.At.head hrow;obtain⟨gP,AB⟩:=nX;have hkl:k<l.len:=by simp only[aH.len]at hlen;omega
   clear hrow;go_wp2_with fail;refine(gP _ s hin).mono ?_;rintro e' w2 ⟨rfl,hb2⟩;have HB3:=ah hb2;clear hb2 x0 x1 x2 x3 x4 x5 x6 x7 x8 x9 x10 hin;cases hS:AY h b e
   ·have HF:=ah (HE.o.trans (by rw[zQ,hS];rfl:eG (.cons h b e R)=false));go_wp2_with fail;go_ret;exact⟨aZ HF.o.symm,hB.trans (HB3.o.mono hB.size)⟩
   ·have HF:=ah (HE.o.trans (by rw[zQ,hS];rfl:eG (.cons h b e R)=eG R));go_wp2_with fail;go_roundw
    case rel=>exact⟨k+1,R,by go_num,by simp only[aH.len]at hlen;omega,HF.o,AB,hrest.same HB3.o,hB.trans (HB3.o.mono hB.size)⟩
    case measure=>simp[intOf];omega
theorem aB5 {op:Int} (h1:1<=op) (h2:op<=15):fN op= !((op==2||op==3)||(op==7||op==8)):=by
 rw[Bool.eq_iff_iff];unfold fN;simp;omega
theorem ED (h:cB) (b e:aH) (ihb:b.All Am) (Vi:e.All Am):Am h b e:=by
 intro w s hin;obtain⟨eu,dI,dR,cO,bR,aY,fH,dX⟩:=s;have HS:aj (AY h b e=((((fO h.op&&(jQ h.nm (fN h.op)&&jQ h.arg (fA h.op)))&&((decide ((h.idx.len:Int)<=1)&&(!decide ((h.idx.len:Int)=1)||fI h.op))&&kZ h.idx))&&
  ((if fX h.op then iY h.cu h.xn h.bZ h.aK else pU h.cu h.xn h.bZ h.aK.len)&&((fB h.op||decide ((b.len:Int)<=0))&&(fE h.op||decide ((e.len:Int)<=0)))))&&(eG b&&eG e))):=ah (by
  unfold AY mX;rw[QT,QS,Ga,Ga])
 generalize AY h b e=res at *;have dY:=ah hin;have MJ:=ah ihb;have HIE:=ah Vi;obtain⟨⟨⟨o1,o2⟩,-,hm,ha,hil,hxk,hbl,hel⟩,-⟩:=hin;clear ihb Vi;have aW2:=hil;have XO:=hbl;have XQ:=hel;have hxl:=hxk.2.2.2;unfold maxLen at hil hbl hel hxl;unfold jD;dsimp only;go_enter Tryz.func90,Tryz.ntmps90;go_upto_region 1 with fail;generalize hW:World.alloc w _=W;generalize Value.agg #[_,_,_,_,_,_,_,_,_,_,_]=a0;have HX:aj (Sit w W (ql w.heap.size h b e ⟨eu,dI,dR,cO,bR,aY,fH,dX⟩ [])):=ah (by rw[<- hW];exact(Sit.start w).tK rfl _ _ _ _ _ _ _ _ _ _ _ _);clear hW;obtain⟨-,⟨-,c0⟩,⟨-,c1⟩,⟨-,c2⟩,⟨-,c3⟩,⟨-,c4⟩,⟨-,c5⟩,⟨-,c6⟩,⟨-,c7⟩,⟨-,c8⟩,⟨-,c9⟩,⟨-,c10⟩,-⟩:=HX.o;go_cut [13] (λs' W3=>W=W3∧∃t,s'= .bool t∧(!t)=(decide (1<=h.op)&&decide (h.op<=15)))
 case first=>
  as_aux_lemma=>
   go_wp2_with fail
   all_goals go_meet
   all_goals exact⟨rfl,_,rfl,by go_light;grind⟩
 obtain⟨rfl,t1,rfl,ht1⟩:=hcut;cases t1
 case true=>
  as_aux_lemma=>have HT:aj (fO h.op=false):=ah ht1.symm;rw[HT.o]at HS;go_wp2_with fail;go_ret;exact⟨aZ (HS.o.trans (by simp)).symm,HX.o.1⟩
 have hr:1<=h.op∧h.op<=15:=by simpa using ht1.symm
 obtain⟨g1,g2⟩:=hr;rw[show fO h.op=true from ht1.symm,aB5 g1 g2]at HS;clear ht1;go_upto_region 3 with fail;go_cut [3] (λs' W3=>W=W3∧s'= .bool ((h.op==2||h.op==3)||(h.op==7||h.op==8)))
 case first=>
  as_aux_lemma=>
   go_wp2_with fail
   all_goals go_meet
   all_goals exact⟨rfl,by congr 1;go_light;grind⟩
 obtain⟨rfl,rfl⟩:=hcut;generalize ((h.op==2||h.op==3)||(h.op==7||h.op==8))=bn at *;go_upto_region 4 with fail;go_cut [3,47] (λ_ s' W2=> ∃t,s'= .bool t∧(!t)=jQ h.nm (!bn)∧Sit w W2 (ql w.heap.size h b e ⟨eu,dI,dR,cO,bR,aY,fH,dX⟩ []))
 case first=>
  as_aux_lemma=>
   cases bn
   ·have HN:=ah (OC h.nm);go_wp2_with fail;refine(mq _ _ hm).mono ?_;rintro e' w3 ⟨rfl,hb3⟩;have HZ:=ah (HX.o.next hb3);clear hb3 HX c0 c1 c2 c3 c4 c5 c6 c7 c8 c9 c10;obtain⟨-,⟨-,c0⟩,⟨-,c1⟩,⟨-,c2⟩,⟨-,c3⟩,⟨-,c4⟩,⟨-,c5⟩,⟨-,c6⟩,⟨-,c7⟩,⟨-,c8⟩,⟨-,c9⟩,⟨-,c10⟩,-⟩:=HZ.o;cases hq:Tk.iC h.nm.data.toList
    all_goals go_wp2_with fail
    all_goals go_meet
    all_goals exact⟨_,rfl,(HN.o.trans hq).symm,HZ.o⟩
   ·have HN:=ah (OB h.nm);go_wp2_with fail
    all_goals go_meet
    all_goals exact⟨_,rfl,(show _=jQ h.nm false by rw[HN.o];first|(simp;done)|(go_light;grind)),HX.o⟩
 obtain⟨t2,rfl,ht2,hX⟩:=hcut;have HY:=ah hX;have HT2:=ah ht2;clear hX ht2 HX c0 c1 c2 c3 c4 c5 c6 c7 c8 c9 c10;rw[<- HT2.o]at HS;clear HT2;cases t2
 case true=>
  as_aux_lemma=>go_wp2_with fail;go_ret;exact⟨aZ (HS.o.trans (by simp)).symm,HY.o.1⟩
 obtain⟨-,⟨-,c0⟩,⟨-,c1⟩,⟨-,c2⟩,⟨-,c3⟩,⟨-,c4⟩,⟨-,c5⟩,⟨-,c6⟩,⟨-,c7⟩,⟨-,c8⟩,⟨-,c9⟩,⟨-,c10⟩,-⟩:=HY.o;go_upto_region 6 with fail;go_cut [66] (λs' W2=> ∃t,s'= .bool t∧(!t)=jQ h.arg (fA h.op)∧Sit w W2 (ql w.heap.size h b e ⟨eu,dI,dR,cO,bR,aY,fH,dX⟩ []))
 case first=>
  as_aux_lemma=>
   cases zA:(h.op==15)
   ·have aV2:(h.op != 15)=true:=(by unfold bne;rw[zA];rfl);have HN:aj (jQ h.arg (fA h.op)=decide (h.arg.toList=[])):=ah (by unfold fA;rw[zA];exact OB h.arg);go_wp2_with fail
    all_goals go_meet
    all_goals exact⟨_,rfl,(by rw[HN.o];first|(simp;done)|(go_light;grind)),HY.o⟩
   ·have aV2:(h.op != 15)=false:=(by unfold bne;rw[zA];rfl);have HN:aj (jQ h.arg (fA h.op)=Tk.iC h.arg.data.toList):=ah (by unfold fA;rw[zA];exact OC h.arg);go_wp2_with fail;refine(mq _ _ ha).mono ?_;rintro e' w3 ⟨rfl,hb3⟩;have HZ:=ah (HY.o.next hb3);clear hb3 HY c0 c1 c2 c3 c4 c5 c6 c7 c8 c9 c10;obtain⟨-,⟨-,c0⟩,⟨-,c1⟩,⟨-,c2⟩,⟨-,c3⟩,⟨-,c4⟩,⟨-,c5⟩,⟨-,c6⟩,⟨-,c7⟩,⟨-,c8⟩,⟨-,c9⟩,⟨-,c10⟩,-⟩:=HZ.o;cases hq:Tk.iC h.arg.data.toList
    all_goals go_wp2_with fail
    all_goals go_meet
    all_goals exact⟨_,rfl,(HN.o.trans hq).symm,HZ.o⟩
 obtain⟨t3,rfl,ht3,hX⟩:=hcut;have HZ:=ah hX;have HT3:=ah ht3;clear hX ht3 HY c0 c1 c2 c3 c4 c5 c6 c7 c8 c9 c10;rw[<- HT3.o]at HS;clear HT3;cases t3
 case true=>
  as_aux_lemma=>go_wp2_with fail;go_ret;exact⟨aZ (HS.o.trans (by simp)).symm,HZ.o.1⟩
 obtain⟨-,⟨-,c0⟩,⟨-,c1⟩,⟨-,c2⟩,⟨-,c3⟩,⟨-,c4⟩,⟨-,c5⟩,⟨-,c6⟩,⟨-,c7⟩,⟨-,c8⟩,⟨-,c9⟩,⟨-,c10⟩,-⟩:=HZ.o;go_upto_region 8 with fail;go_cut [95] (λs' W2=> ∃t,s'= .bool t∧(!t)=((decide ((h.idx.len:Int)<=1)&&(!decide ((h.idx.len:Int)=1)||fI h.op))&&kZ h.idx)∧Sit w W2 (ql w.heap.size h b e ⟨eu,dI,dR,cO,bR,aY,fH,dX⟩ []))
 case first=>
  as_aux_lemma=>
   have hrow:=(dY.o.same HZ.o.1).2.1;generalize hix:h.idx=ix at hrow c4 hil;have KL:=ah hix;clear hix;cases ix with
   |nil=>
    simp only[bC.len]at c4;clear hrow;cases hI:(h.op==1)
    ·have hI':(h.op != 1)=true:=(by unfold bne;rw[hI];rfl);go_wp2_with fail;go_meet;exact⟨_,rfl,by rw[KL.o];rfl,HZ.o⟩
    ·have hI':(h.op != 1)=false:=(by unfold bne;rw[hI];rfl);go_wp2_with fail;go_meet;exact⟨_,rfl,by rw[KL.o];rfl,HZ.o⟩
   |cons op' n' nm' iD rest=>
    obtain⟨⟨b',off',nR,cap',rfl,iL,x0,x1,x2,x3,hok',ko⟩,hrest⟩:=hrow;cases rest with
    |nil=>
     simp only[bC.len,Nat.zero_add]at c4;simp only[Nat.zero_mul,Nat.add_zero]at x0 x1 x2 x3;cases hI:(h.op==1)
     ·have hI':(h.op != 1)=true:=(by unfold bne;rw[hI];rfl);have HL:aj (fI h.op=false):=ah hI;go_wp2_with fail;go_meet;exact⟨_,rfl,by rw[KL.o,HL.o];rfl,HZ.o⟩
     ·have hI':(h.op != 1)=false:=(by unfold bne;rw[hI];rfl);have HL:aj (fI h.op=true):=ah hI;go_wp2_with fail;refine(uz op' n' nm' iD _ _ _ hok' ko).mono ?_;rintro e' w3 ⟨rfl,hb3⟩;have HV:=ah (HZ.o.next hb3);clear hb3;cases hq:iY op' n' nm' iD
      all_goals go_wp2_with fail
      all_goals go_meet
      all_goals exact⟨_,rfl,by rw[KL.o,HL.o,mG,hq];rfl,HV.o⟩
    |cons op2 n2 Vt JB JK=>have hl2:2<=(bC.cons op' n' nm' iD (bC.cons op2 n2 Vt JB JK)).len:=(by simp only[bC.len];omega);have HL:aj (((decide (((bC.cons op' n' nm' iD (bC.cons op2 n2 Vt JB JK)).len:Int)<=1)&&(!decide (((bC.cons op' n' nm' iD (bC.cons op2 n2 Vt JB JK)).len:Int)=1)||fI h.op))&&kZ (bC.cons op' n' nm' iD (bC.cons op2 n2 Vt JB JK)))=false):=ah (by rw[decide_eq_false (by omega)];rfl);clear x0 x1 x2 x3 hrest ko hok';generalize (bC.cons op' n' nm' iD (bC.cons op2 n2 Vt JB JK))=ix at *;have hl3:1<ix.len:=(by omega);go_wp2_with fail;go_meet;exact⟨_,rfl,by rw[KL.o,HL.o];rfl,HZ.o⟩
 obtain⟨t4,rfl,V8,hX⟩:=hcut;have HU:=ah hX;have Gu:=ah V8;clear hX V8 HZ c0 c1 c2 c3 c4 c5 c6 c7 c8 c9 c10;rw[<- Gu.o]at HS;clear Gu;cases t4
 case true=>
  as_aux_lemma=>go_wp2_with fail;go_ret;exact⟨aZ (HS.o.trans (by simp)).symm,HU.o.1⟩
 obtain⟨-,⟨-,c0⟩,⟨-,c1⟩,⟨-,c2⟩,⟨-,c3⟩,⟨-,c4⟩,⟨-,c5⟩,⟨-,c6⟩,⟨-,c7⟩,⟨-,c8⟩,⟨-,c9⟩,⟨-,c10⟩,-⟩:=HU.o;go_upto_region 10 with fail;go_cut [4] (λs' W3=>wc=W3∧s'= .bool (fX h.op))
 case first=>
  as_aux_lemma=>
   have HF:aj (fX h.op=((h.op==1||h.op==2)||(h.op==3||h.op==14))):=ah rfl;go_wp2_with fail
   all_goals go_meet
   all_goals exact⟨rfl,by rw[HF.o];congr 1;go_light;grind⟩
 obtain⟨rfl,rfl⟩:=hcut;generalize fX h.op=bX at *;go_upto_region 11 with fail;go_cut [4,130] (λ_ s' W3=> ∃t,s'= .bool t∧(!t)=(if bX then iY h.cu h.xn h.bZ h.aK else pU h.cu h.xn h.bZ h.aK.len)∧Sit w W3 (ql w.heap.size h b e ⟨eu,dI,dR,cO,bR,aY,fH,dX⟩ []))
 case first=>
  as_aux_lemma=>
   cases bX
   ·go_wp2_with fail;refine(Uk _ _ _ _ _ _ _).mono ?_;rintro e' w3 ⟨rfl,hb3⟩;have HV:=ah (HU.o.next hb3);clear hb3;cases hq:pU h.cu h.xn h.bZ h.aK.len
    all_goals go_wp2_with fail
    all_goals go_meet
    all_goals exact⟨_,rfl,hq.symm,HV.o⟩
   ·go_wp2_with fail;refine(uz _ _ _ _ _ _ _ hxk (dY.o.same HU.o.1).2.2.1).mono ?_;rintro e' w3 ⟨rfl,hb3⟩;have HV:=ah (HU.o.next hb3);clear hb3 HU c0 c1 c2 c3 c4 c5 c6 c7 c8 c9 c10;obtain⟨-,⟨-,c0⟩,⟨-,c1⟩,⟨-,c2⟩,⟨-,c3⟩,⟨-,c4⟩,⟨-,c5⟩,⟨-,c6⟩,⟨-,c7⟩,⟨-,c8⟩,⟨-,c9⟩,⟨-,c10⟩,-⟩:=HV.o;cases hq:iY h.cu h.xn h.bZ h.aK
    all_goals go_wp2_with fail
    all_goals go_meet
    all_goals exact⟨_,rfl,hq.symm,HV.o⟩
 obtain⟨t5,rfl,ht5,hX⟩:=hcut;have HV:=ah hX;have HT5:=ah ht5;clear hX ht5 HU c0 c1 c2 c3 c4 c5 c6 c7 c8 c9 c10;rw[<- HT5.o]at HS;clear HT5;cases t5
 case true=>
  as_aux_lemma=>go_wp2_with fail;go_ret;exact⟨aZ (HS.o.trans (by simp)).symm,HV.o.1⟩
 obtain⟨-,⟨-,c0⟩,⟨-,c1⟩,⟨-,c2⟩,⟨-,c3⟩,⟨-,c4⟩,⟨-,c5⟩,⟨-,c6⟩,⟨-,c7⟩,⟨-,c8⟩,⟨-,c9⟩,⟨-,c10⟩,-⟩:=HV.o;go_upto_region 13 with fail;go_cut [5] (λs' W3=>wc=W3∧s'= .bool (fB h.op))
 case first=>
  as_aux_lemma=>
   have HF:aj (fB h.op=(decide (2<=h.op)&&decide (h.op<=8))):=ah rfl;go_wp2_with fail
   all_goals go_meet
   all_goals exact⟨rfl,by rw[HF.o];congr 1;go_light;grind⟩
 obtain⟨rfl,rfl⟩:=hcut;generalize fB h.op=bB at *;go_upto_region 14 with fail;go_cut [5,157] (λ_ s' W3=>wc=W3∧∃t,s'= .bool t∧(!t)=((bB||decide ((b.len:Int)<=0))&&(fE h.op||decide ((e.len:Int)<=0))))
 case first=>
  as_aux_lemma=>
   have HF:aj (fE h.op=(h.op==2)):=ah rfl;cases bB
   all_goals cases h2:(h.op==2)
   all_goals try have h2':(h.op != 2)=true:=by unfold bne;rw[h2];rfl
   all_goals try have h2':(h.op != 2)=false:=by unfold bne;rw[h2];rfl
   all_goals go_wp2_with fail
   all_goals go_meet
   all_goals exact⟨rfl,_,rfl,by rw[HF.o,h2];go_light;grind⟩
 obtain⟨rfl,t6,rfl,ht6⟩:=hcut;have IV:=ah ht6;rw[<- IV.o]at HS;clear IV ht6;cases t6
 case true=>
  as_aux_lemma=>go_wp2_with fail;go_ret;exact⟨aZ (HS.o.trans (by simp)).symm,HV.o.1⟩
 go_wp2_with fail;refine(xY b MJ.o _ _ _ XO (dY.o.same HV.o.1).2.2.2.1).mono ?_;rintro e' w4 ⟨rfl,hb4⟩;have HA:=ah (HV.o.next hb4);clear hb4 HV c0 c1 c2 c3 c4 c5 c6 c7 c8 c9 c10;obtain⟨-,⟨-,c0⟩,⟨-,c1⟩,⟨-,c2⟩,⟨-,c3⟩,⟨-,c4⟩,⟨-,c5⟩,⟨-,c6⟩,⟨-,c7⟩,⟨-,c8⟩,⟨-,c9⟩,⟨-,c10⟩,-⟩:=HA.o;cases hq:eG b
 ·rw[hq]at HS;go_wp2_with fail;go_ret;exact⟨aZ (HS.o.trans (by simp)).symm,HA.o.1⟩
 ·rw[hq]at HS;go_wp2_with fail;refine(xY e HIE.o _ _ _ XQ (dY.o.same HA.o.1).2.2.2.2).mono ?_;rintro e' w5 ⟨rfl,hb5⟩;go_wp2_with fail;go_ret;exact⟨aZ (HS.o.trans (by simp)).symm,(HA.o.next hb5).1⟩
theorem EF (l:aH) (w:World) (ao:Option Addr) (cap:Nat) (hl:l.len<=maxLen) (hat:l.At w w.heap.size ao 0):
 Calls Tryz.prog 62 #[.slice ao l.len cap] w λe' w'=>e'= .returned (.bool (eG l))∧Below w.heap.size w w':=
 xY l (aH.lM ED l) w ao cap hl hat
theorem M5 (p:Pr) (w:World) (aB aD:Option Addr) (aA ay:Nat) (hp:p.At w aB aD):
 Calls Tryz.prog 33 #[.agg #[.slice aB p.ds.length aA,.slice aD p.ts.length ay]] w λe w'=>e= .returned (.bool (oZ p))∧Below w.heap.size w w':=by
 have HS:aj (oZ p=((p.ds.all iw&&p.ts.all nL)&&decide ((0:Int)<p.ts.length))):=ah rfl;generalize oZ p=res at *;have hld:=hp.1;have hlt:=hp.2.1;unfold maxLen at hld hlt;have HP:=ah hp;clear hp;go_enter Tryz.func33,Tryz.ntmps33;go_upto_region 1 with fail;generalize hW:World.alloc w _=W;generalize Value.agg #[_,_]=a0;have HX:=ah ((Sit.start w).vg rfl (.slice aB p.ds.length aA) (.slice aD p.ts.length ay) 25);rw[hW]at HX;clear hW;have hde:=(HP.o.same HX.o.1).2.2.1;go_wp2_with fail;go_loopw [3] (λs wr=> ∃(k:Nat) (R:List De),s= .int .i64 k∧k+R.length=p.ds.length∧p.ds.all iw=R.all iw∧gM wr wr.heap.size R aB k∧Sit w wr [(w.heap.size,0,(.slice aB p.ds.length aA)),(w.heap.size,1,(.slice aD p.ts.length ay))]) (λs _=>p.ds.length -(intOf s).toNat)
 case atStart=>exact⟨0,p.ds,rfl,by simp,rfl,hde,HX.o⟩
 case round=>
  obtain⟨k,R,rfl,hlen,heq,hrow,hsit⟩:=hrel;have HZ:=ah hsit;have HE:=ah heq;clear hsit HX hde heq;obtain⟨-,⟨-,c0⟩,⟨-,c1⟩,-⟩:=HZ.o;cases R with
  |cons d R=>
   obtain⟨⟨b,off,rfl,hB,x0,x1,x2,x3,x4,x5,hok⟩,hrest⟩:=hrow;simp only[List.length_cons]at hlen;have hkl:k<p.ds.length:=by omega
   have mZ:=ah hok;clear hok;go_wp2_with fail;refine(Gm d _ mZ.o).mono ?_;rintro e' w2 ⟨rfl,hb2⟩;have HB3:=ah hb2;clear hb2 x0 x1 x2 x3 x4 x5 c0 c1;cases hS:iw d
   ·rw[HE.o,List.all_cons,hS]at HS;go_wp2_with fail;go_ret;exact⟨aZ (HS.o.trans (by simp)).symm,(HZ.o.next HB3.o).1⟩
   ·have HF:=ah (HE.o.trans (by rw[List.all_cons,hS];rfl:_=R.all iw));go_wp2_with fail;go_roundw
    case rel=>exact⟨k+1,R,by go_num,by omega,HF.o,hrest.same HB3.o,HZ.o.next HB3.o⟩
    case measure=>simp[intOf];omega
  |nil=>
   obtain rfl:k=p.ds.length:=by simpa using hlen
   rw[HE.o]at HS;have hth:=(HP.o.same HZ.o.1).2.2.2;clear HE hrow hlen;go_wp2_with fail;go_loopg [4,5,6] p.ts.length (λg s _ _ wr=> ∃(k:Nat) (R:List Th),g=R.length∧s= .int .i64 k∧k+R.length=p.ts.length∧p.ts.all nL=R.all nL∧fQ wr wr.heap.size R aD k∧Sit w wr [(w.heap.size,0,(.slice aB p.ds.length aA)),(w.heap.size,1,(.slice aD p.ts.length ay))])
   case atStart=>exact⟨0,p.ts,rfl,rfl,by simp,rfl,hth,HZ.o⟩
   case round=>
    obtain⟨k,R,rfl,rfl,hlen,heq,hrow,hsit⟩:=hrel;have HU:=ah hsit;have HE:=ah heq;clear hsit HZ c0 c1 hth heq;obtain⟨-,⟨-,c0⟩,⟨-,c1⟩,-⟩:=HU.o;cases R with
    |nil=>obtain rfl:k=p.ts.length:=(by simpa using hlen);rw[HE.o]at HS;go_wp2_with fail;go_ret;exact⟨aZ (HS.o.trans (by simp)).symm,HU.o.1⟩
    |cons t R=>
     obtain⟨⟨b,off,fC,dw,bR,aY,rfl,hB,x0,x1,x2,x3,hok,htx,hst⟩,hrest⟩:=hrow;simp only[List.length_cons]at hlen;have hkl:k<p.ts.length:=(by omega);have hll:=hok.2.2.1;have mZ:=ah hok;have Ah:=ah htx;have HST:=ah hst;unfold maxLen at hll;clear hok htx hst;go_upto_region 10 with fail;clear c0 c1;obtain⟨n2,hn2⟩: ∃n,wr.heap.size=n:=⟨_,rfl⟩;generalize hW2:World.alloc wr _=W2;have HB2:aj (Below wr.heap.size wr W2):=ah (by rw[<- hW2];exact ak _ _);have HV:aj (Sit w W2 ((n2,0,.string t.nm)::(n2,1,.int .i64 t.line)::(n2,2,.slice fC t.bg.length dw)::(n2,3,.slice bR t.body.len aY)::[(w.heap.size,0,(.slice aB p.ds.length aA)),(w.heap.size,1,(.slice (some ⟨b,off,none⟩) p.ts.length ay))])):=ah (by rw[<- hW2];exact HU.o.yh hn2 _ _ _ _ _);rw[hn2];clear hW2 hn2 x0 x1 x2 x3;have hrow:=Ah.o.same HB2.o;go_wp2_with fail;obtain⟨wo,rfl⟩: ∃wo:World,wo=wr:=⟨_,rfl⟩;go_loopw [6] (λs wr=> ∃(k:Nat) (R:List ByteArray),s= .int .i64 k∧k+R.length=t.bg.length∧t.bg.all (λs=>Tk.iC s.data.toList)=R.all (λs=>Tk.iC s.data.toList)∧eD wr wr.heap.size R fC k∧Below wo.heap.size wo wr∧Sit w wr ((n2,0,.string t.nm)::(n2,1,.int .i64 t.line)::(n2,2,.slice fC t.bg.length dw)::(n2,3,.slice bR t.body.len aY)::[(w.heap.size,0,(.slice aB p.ds.length aA)),(w.heap.size,1,(.slice (some ⟨b,off,none⟩) p.ts.length ay))])) (λs _=>t.bg.length -(intOf s).toNat)
     case atStart=>exact⟨0,t.bg,rfl,by simp,rfl,hrow,HB2.o,HV.o⟩
     case round=>
      obtain⟨k',R',rfl,hlen',heq',hrow',UY,Jv⟩:=hrel;have HC:=ah Jv;have Bc:=ah UY;have bV:=ah heq';clear Jv HV hrow heq' UY HB2;obtain⟨-,⟨-,c0⟩,⟨-,c1⟩,⟨-,c2⟩,⟨-,c3⟩,⟨-,c4⟩,⟨-,c5⟩,-⟩:=HC.o;cases R' with
      |cons s R'=>
       obtain⟨⟨b',off',rfl,hB',y0,hs⟩,hrest'⟩:=hrow';simp only[List.length_cons]at hlen';have hkl':k'<t.bg.length:=(by omega);go_wp2_with fail;refine(mq _ _ hs).mono ?_;rintro e' w3 ⟨rfl,hb3⟩;have dH:=ah hb3;clear hb3 c0 c1 c2 c3 c4 c5 y0;cases F4:Tk.iC s.data.toList
       ·rw[HE.o,List.all_cons,show nL t=false by unfold nL;rw[bV.o,List.all_cons,F4];simp]at HS;go_wp2_with fail;go_ret;exact⟨aZ (HS.o.trans (by simp)).symm,(HC.o.next dH.o).1⟩
       ·have HF:=ah (bV.o.trans (by rw[List.all_cons,F4];rfl:_=R'.all (λs=>Tk.iC s.data.toList)));go_wp2_with fail;go_roundw
        case rel=>exact⟨k'+1,R',by go_num,by omega,HF.o,hrest'.same dH.o,Bc.o.trans (dH.o.mono Bc.o.size),HC.o.next dH.o⟩
        case measure=>simp[intOf];omega
      |nil=>
       obtain rfl:k'=t.bg.length:=(by simpa using hlen');go_wp2_with fail;refine(mq _ _ mZ.o.1).mono ?_;rintro e' w3 ⟨rfl,hb3⟩;have dH:=ah (Bc.o.trans (hb3.mono Bc.o.size));have HD:=ah (HC.o.next hb3);clear hb3 c0 c1 c2 c3 c4 c5 HC Bc;cases hN:Tk.iC t.nm.data.toList
       ·rw[HE.o,List.all_cons,show nL t=false by unfold nL;rw[hN];rfl]at HS;go_wp2_with fail;go_ret;exact⟨aZ (HS.o.trans (by simp)).symm,HD.o.1⟩
       ·obtain⟨-,⟨-,c0⟩,⟨-,c1⟩,⟨-,c2⟩,⟨-,c3⟩,⟨-,c4⟩,⟨-,c5⟩,-⟩:=HD.o;go_wp2_with fail;refine(EF t.body _ _ _ mZ.o.2.2.2 (HST.o.1.same dH.o)).mono ?_;rintro e' w4 ⟨rfl,hb4⟩;have jS:=ah (dH.o.trans (hb4.mono dH.o.size));have Qb:=ah (HD.o.next hb4);clear hb4 c0 c1 c2 c3 c4 c5;have HT:aj (nL t=eG t.body):=ah (by unfold nL;rw[hN,bV.o];rfl);cases F4:eG t.body
        ·rw[HE.o,List.all_cons,HT.o,F4]at HS;go_wp2_with fail;go_ret;exact⟨aZ (HS.o.trans (by simp)).symm,Qb.o.1⟩
        ·have HF:=ah (HE.o.trans (by rw[List.all_cons,HT.o,F4];rfl:_=R.all nL));go_wp2_with fail;go_roundg R.length
         case measure=>simp
         case rel=>exact⟨k+1,R,rfl,by go_num,by omega,HF.o,hrest.same jS.o,HU.o.next jS.o⟩
end Go.Proofs.YtkmllehjemjgpaaGreatDoor
