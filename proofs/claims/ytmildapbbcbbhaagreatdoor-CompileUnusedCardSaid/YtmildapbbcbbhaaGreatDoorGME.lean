/- Contracts of parse.operands, nameOrEmpty, ShapedExpr. And what hangs on it. -/
import Derived.Test.YtmildapbbcbbhaaGreatDoorGMB
import Derived.Test.YtmildapbbcbbhaaGreatDoorGNA
import Derived.Deep.CutBlock
set_option linter.unusedSimpArgs false
set_option linter.unusedVariables false
set_option maxHeartbeats 40000000
set_option maxRecDepth 1000000
namespace Go.Proofs.YtmildapbbcbbhaaGreatDoor
open Go.RowKit
open Md
theorem yB (op:Int) (w:World):
 Calls Tryz.prog 145 #[.int .i64 op] w λe w'=>e= .returned (.int .i64 (opsOf op))∧w=w':=by
 unfold opsOf;go_enter Tryz.func145,Tryz.ntmps145;go_wp2
 all_goals go_ret
 all_goals refine⟨bV ?_,rfl⟩
 all_goals first|(simp[*];done)|((repeat' split) <;> simp_all <;> omega)
theorem tQ (s:ByteArray) (b:Bool) (w:World) (eH:eG w) (hm:s.size<=maxLen):
 Calls Tryz.prog 86 #[.string s,.bool b] w λe w'=>e= .returned (.bool (kE s b))∧Below w.heap.size w w':=by
 cases b
 ·go_enter Tryz.func86,Tryz.ntmps86;go_wp2;go_ret;exact⟨by simp[kE,Lib.toList_data],ak _ _⟩
 ·go_enter Tryz.func86,Tryz.ntmps86;go_wp2_with (go_at_call 57;refine(xR _ _ eH hm).mono ?_;rintro e w' ⟨rfl,hb⟩);go_ret;exact⟨rfl,hb⟩
theorem Qb (op:Int) (w:World):
 Calls Tryz.prog 116 #[.int .i64 op] w λe w'=>e= .returned (.tuple #[.agg #[.bool (fN op),.bool (fA op),.bool (fI op),.bool (fX op),.bool (fB op),.bool (fE op)],.bool (fO op)])∧Below w.heap.size w w':=by
 have hop:op=1∨op=2∨op=3∨op=4∨op=5∨op=6∨op=7∨op=8∨op=9∨op=10∨op=11∨op=12∨op=13∨op=14∨op=15∨(op<1∨15<op):=by omega
 rcases hop with rfl|rfl|rfl|rfl|rfl|rfl|rfl|rfl|rfl|rfl|rfl|rfl|rfl|rfl|rfl|hop
 case inr.inr.inr.inr.inr.inr.inr.inr.inr.inr.inr.inr.inr.inr.inr=>
  have e1:fN op=false:=by unfold fN;grind
  have e2:fA op=false:=by unfold fA;grind
  have e3:fI op=false:=by unfold fI;grind
  have e4:fX op=false:=by unfold fX;grind
  have e5:fB op=false:=by unfold fB;grind
  have e6:fE op=false:=by unfold fE;grind
  have e7:fO op=false:=by unfold fO;grind
  rw[e1,e2,e3,e4,e5,e6,e7];clear e1 e2 e3 e4 e5 e6 e7;have g1:(op==1)=false:=by rw[beq_eq_false_iff_ne];omega
  have g2:(op==2)=false:=by rw[beq_eq_false_iff_ne];omega
  have g3:(op==3)=false:=by rw[beq_eq_false_iff_ne];omega
  have g4:(op==4)=false:=by rw[beq_eq_false_iff_ne];omega
  have g5:(op==5)=false:=by rw[beq_eq_false_iff_ne];omega
  have g6:(op==6)=false:=by rw[beq_eq_false_iff_ne];omega
  have g7:(op==7)=false:=by rw[beq_eq_false_iff_ne];omega
  have g8:(op==8)=false:=by rw[beq_eq_false_iff_ne];omega
  have g9:(op==9)=false:=by rw[beq_eq_false_iff_ne];omega
  have g10:(op==10)=false:=by rw[beq_eq_false_iff_ne];omega
  have g11:(op==11)=false:=by rw[beq_eq_false_iff_ne];omega
  have g12:(op==12)=false:=by rw[beq_eq_false_iff_ne];omega
  have g13:(op==13)=false:=by rw[beq_eq_false_iff_ne];omega
  have g14:(op==14)=false:=by rw[beq_eq_false_iff_ne];omega
  have g15:(op==15)=false:=by rw[beq_eq_false_iff_ne];omega
  clear hop;go_enter Tryz.func116,Tryz.ntmps116;go_wp2;exact bodyPost_ret (v:= .tuple #[.agg #[.bool _,.bool _,.bool _,.bool _,.bool _,.bool _],.bool _]) (by simp[results,Tryz.results116,go_sem]) rfl ⟨rfl,au _ _⟩
 all_goals go_enter Tryz.func116,Tryz.ntmps116;go_wp2;exact bodyPost_ret (v:= .tuple #[.agg #[.bool _,.bool _,.bool _,.bool _,.bool _,.bool _],.bool _]) (by simp[results,Tryz.results116,go_sem];decide) rfl ⟨rfl,au _ _⟩
theorem Rm (op n:Int) (nm:ByteArray) (len cap:Nat) (ao:Option Addr) (w:World):
 Calls Tryz.prog 118 #[.agg #[.int .i64 op,.int .i64 n,.string nm,.slice ao len cap]] w λe w'=>e= .returned (.bool (qo op n nm len))∧Below w.heap.size w w':=by
 have HE:aj (qo op n nm len=(((decide (op=0)&&decide (n=0))&&decide (nm.toList=[]))&&decide (len=0))):=ah (by unfold qo;rw[Bool.eq_iff_iff];simp);go_enter Tryz.func118,Tryz.ntmps118;go_wp2
 all_goals go_ret
 all_goals refine⟨bR ?_,au _ _⟩
 all_goals rw[HE.o]
 all_goals (go_light;grind)
theorem Mk (d:De) (w:World) (eH:eG w) (hok:d.Ok):
 Calls Tryz.prog 56 #[.agg #[.int .i64 d.kind,.int .i64 d.line,.string d.nm,.int .i64 d.size,.int .i64 d.init,.string d.on]] w λe w'=>e= .returned (.bool (jG d))∧Below w.heap.size w w':=by
 obtain⟨⟨k1,k2⟩,-,hm,-,-,ho⟩:=hok;obtain⟨kind,line,nm,size,init,on⟩:=d;have HE:aj (jG ⟨kind,line,nm,size,init,on⟩=((((decide (1<=kind)&&decide (kind<=6))&&Tk.jv nm.data.toList)&&(decide (0<=size)&&(decide (size=0)||decide (kind=1))))&&((!decide (init= -9223372036854775808)&&(decide (init=0)||(decide (kind=1)||decide (kind=2))))&&kE on (kind==5)))):=ah (by unfold jG;simp only[bne];rw[Bool.eq_iff_iff];simp);dsimp only at *;generalize jG ⟨kind,line,nm,size,init,on⟩=res at *;go_enter Tryz.func56,Tryz.ntmps56;go_upto_region 1 with fail;generalize hW:World.alloc w _=W;generalize Value.agg #[_,_,_,_,_,_]=a0;have HX:=ah ((Sit.start w).PV rfl (.int .i64 kind) (.int .i64 line) (.string nm) (.int .i64 size) (.int .i64 init) (.string on) 43);rw[hW]at HX;clear hW;obtain⟨-,⟨-,c0⟩,⟨-,c1⟩,⟨-,c2⟩,⟨-,c3⟩,⟨-,c4⟩,⟨-,c5⟩,-⟩:=HX.o;go_cut [16] (λs W2=> ∃b,s= .bool b∧(!b)=((decide (1<=kind)&&decide (kind<=6))&&Tk.jv nm.data.toList)∧Sit w W2 [(w.heap.size,0,.int .i64 kind),(w.heap.size,1,.int .i64 line),(w.heap.size,2,.string nm),(w.heap.size,3,.int .i64 size),(w.heap.size,4,.int .i64 init),(w.heap.size,5,.string on)])
 case first=>
  go_wp2_with (go_at_call 57;refine(xR _ _ (eH.same HX.o.1) hm).mono ?_;rintro e w' ⟨rfl,hb⟩)
  all_goals go_meet
  all_goals first|exact⟨_,rfl,by go_light;grind,HX.o.next ‹_›⟩|exact⟨_,rfl,by go_light;grind,HX.o⟩
 obtain⟨b1,rfl,hb1,hX⟩:=hcut;have HY:=ah hX;have HB1:=ah hb1;clear hX HX hb1 c0 c1 c2 c3 c4 c5;obtain⟨-,⟨-,c0⟩,⟨-,c1⟩,⟨-,c2⟩,⟨-,c3⟩,⟨-,c4⟩,⟨-,c5⟩,-⟩:=HY.o;cases b1
 ·cases h5:(kind==5)
  all_goals rw[h5]at HE;go_wp2_with (go_at_call 86;refine(tQ _ _ _ (eH.same HY.o.1) ho).mono ?_;rintro e w' ⟨rfl,hb⟩)
  all_goals go_ret
  all_goals first|refine⟨bR ?_,(HY.o.next ‹_›).1⟩|refine⟨bR ?_,HY.o.1⟩
  all_goals rw[HE.o,<- HB1.o]
  all_goals (go_light;grind)
 ·go_wp2_with fail;go_ret;refine⟨bR ?_,HY.o.1⟩;rw[HE.o,<- HB1.o];rfl
def Hz (op n:Int) (nm:ByteArray) (kids:bJ):Prop:=
 ∀(w:World) (ao:Option Addr) (cap:Nat),qP op n nm kids->kids.At w w.heap.size ao 0->eG w->
  Calls Tryz.prog 117 #[.agg #[.int .i64 op,.int .i64 n,.string nm,.slice ao kids.len cap]] w λe w'=>e= .returned (.bool (jQ op n nm kids))∧Below w.heap.size w w'
theorem ae5 {op n:Int} {nm:ByteArray} {kids:bJ} (h:((kids.len:Int)==opsOf op)=false):jQ op n nm kids=false:=by unfold jQ DN;rw[h];rfl
theorem Ym {op n:Int} {nm:ByteArray} {kids:bJ} (h:n<0∨((n==0)=false∧(op==1)=false)):jQ op n nm kids=false:=by
 unfold jQ DN;rcases h with h|⟨h,h'⟩
 ·rw[decide_eq_true h];simp
 ·rw[h,h'];simp
theorem av4 {op n:Int} {nm:ByteArray} {kids:bJ} {b:Bool} (hb:named op=b) (h:kE nm b=false):jQ op n nm kids=false:=by
 unfold jQ DN;rw[hb,h];simp
theorem ae6 {op n:Int} {nm:ByteArray} {kids:bJ} {b:Bool} (h1:((kids.len:Int)==opsOf op)=true) (h2:0<=n) (h3:(n==0)=true∨(op==1)=true) (hb:named op=b) (h:kE nm b=true):jQ op n nm kids=mh kids:=by
 unfold jQ DN;rw[hb,h,h1,decide_eq_false (by omega)];rcases h3 with h3|h3 <;> rw[h3] <;> simp
theorem ar7 (op n:Int):(n<0)∨(0<n∧op≠1)∨
 ∃b,named op=b∧0<=n∧((n==0)=true∨(op==1)=true)∧
  ((0<n∧op=1∧b=false)∨(n=0∧op=2∧b=true)∨(n=0∧op=3∧b=true)∨(n=0∧(op==2)=false∧(op==3)=false∧b=false)):=by
 by_cases h:n<0
 ·exact Or.inl h
 ·by_cases h0:n=0
  ·subst h0;by_cases h2:op=2
   ·subst h2;exact Or.inr (Or.inr ⟨true,rfl,by omega,Or.inl rfl,by simp⟩)
   ·by_cases h3:op=3
    ·subst h3;exact Or.inr (Or.inr ⟨true,rfl,by omega,Or.inl rfl,by simp⟩)
    ·exact Or.inr (Or.inr ⟨false,by simp[named,h2,h3],by omega,Or.inl rfl,by simp[h2,h3]⟩)
  ·by_cases h1:op=1
   ·subst h1;exact Or.inr (Or.inr ⟨false,rfl,by omega,Or.inr rfl,by simp;omega⟩)
   ·exact Or.inr (Or.inl ⟨by omega,h1⟩)
theorem nE (op n:Int) (nm:ByteArray) (kids rest:bJ):mh (.cons op n nm kids rest)=(jQ op n nm kids&&mh rest):=rfl
def SG (kids R:bJ) (k:Nat):Prop:=k+R.len=kids.len∧mh kids=mh R
theorem Kl (op n:Int) (nm:ByteArray) (kids:bJ) (ih:kids.All Hz):Hz op n nm kids:=by
 intro w ao cap hok hat eH;obtain⟨⟨o1,o2⟩,⟨n1,n2⟩,hm,hl⟩:=hok;unfold maxLen at hl;have hl':kids.len<=9223372036854775807:=hl;rcases ar7 op n with hn|⟨hn,q1⟩|⟨b,hb,hn,hor,hq⟩
 ·have HR:=ah (Ym (nm:=nm) (kids:=kids) (op:=op) (Or.inl hn));go_enter Tryz.func117,Tryz.ntmps117;go_wp2_with fail;generalize hW:World.alloc w _=W;have HX:=ah (vG.mk hW);clear hW;obtain⟨-,-,c0,c1,c2,c3⟩:=HX.o;go_quiet (first|(go_at_call 145;refine oK (yB _ _)));go_wp2_with fail
  all_goals go_ret
  all_goals exact⟨bR HR.o.symm,(HX.o.draws _).1⟩
 ·have HR:=ah (Ym (nm:=nm) (kids:=kids) (Or.inr ⟨beq_eq_false_iff_ne.2 (show n≠0 by omega),beq_eq_false_iff_ne.2 q1⟩));have q1':(op != 1)=true:=bne_iff_ne.2 q1;have q0':(n != 0)=true:=bne_iff_ne.2 (by omega);go_enter Tryz.func117,Tryz.ntmps117;go_wp2_with fail;generalize hW:World.alloc w _=W;have HX:=ah (vG.mk hW);clear hW;obtain⟨-,-,c0,c1,c2,c3⟩:=HX.o;go_quiet (first|(go_at_call 145;refine oK (yB _ _)));go_wp2_with fail
  all_goals go_ret
  all_goals exact⟨bR HR.o.symm,(HX.o.draws _).1⟩
 ·by_cases h1:((kids.len:Int)==opsOf op)=false
  ·have HR:=ah (ae5 (n:=n) (nm:=nm) h1);have h1':((kids.len:Int) != opsOf op)=true:=by unfold bne;rw[h1];rfl
   go_enter Tryz.func117,Tryz.ntmps117;go_wp2_with fail;generalize hW:World.alloc w _=W;have HX:=ah (vG.mk hW);clear hW;obtain⟨-,-,c0,c1,c2,c3⟩:=HX.o;go_quiet (first|(go_at_call 145;refine oK (yB _ _)));go_wp2_with fail;go_ret;exact⟨bR HR.o.symm,(HX.o.draws _).1⟩
  ·have h1':((kids.len:Int)==opsOf op)=true:=by simpa using h1
   clear h1;have HY:=ah (λh:kE nm b=true=>ae6 h1' hn hor hb h);have HN:=ah (λh:kE nm b=false=>av4 (n:=n) (kids:=kids) hb h);clear hb hor;have HAT:=ah hat;have ru:=ah ih;clear hat ih;have bL8:((kids.len:Int) != opsOf op)=false:=by unfold bne;rw[h1'];rfl
   clear h1';rcases hq with⟨q0,rfl,rfl⟩|⟨rfl,rfl,rfl⟩|⟨rfl,rfl,rfl⟩|⟨rfl,q2,q3,rfl⟩
   all_goals go_enter Tryz.func117,Tryz.ntmps117;go_wp2_with fail;generalize hW:World.alloc w _=W;have HX:=ah (vG.mk hW);clear hW;obtain⟨-,-,c0,c1,c2,c3⟩:=HX.o;go_quiet (first|(go_at_call 145;refine oK (yB _ _)));have Ke:=ah (HX.o.draws nq);clear HX c0 c1 c2 c3;generalize W.drewN nq=wq at *;obtain⟨-,-,c0,c1,c2,c3⟩:=Ke.o;go_wp2_with fail;refine(tQ _ _ _ (eH.same Ke.o.1) hm).mono ?_;rintro e w1 ⟨rfl,hb1⟩;have HZ:=ah (Ke.o.next hb1);clear hb1 Ke c0 c1 c2 c3;obtain⟨-,-,c0,c1,c2,c3⟩:=HZ.o
   all_goals
    cases hN:kE nm _
    ·have HR:=ah (HN.o hN);clear HN HY;go_wp2_with fail;go_ret;exact⟨bR HR.o.symm,HZ.o.1⟩
    ·have HR:=ah (HY.o hN);clear HN HY;go_wp2_with fail;go_loopw [40] (λi wr=> ∃k R,i= .int .i64 (k:Nat)∧SG kids R k∧R.All Hz∧R.At wr wr.heap.size ao k∧vG w wr (Value.int IntKind.i64 _) (Value.int IntKind.i64 _) (Value.string nm) (Value.slice ao kids.len cap)) (λi _=>kids.len -(intOf i).toNat)
     case atStart=>exact⟨0,kids,rfl,⟨aU _,rfl⟩,ru.o,HAT.o.same HZ.o.1,HZ.o⟩
     case round=>
      obtain⟨k,R,rfl,⟨hlen,heq⟩,hall,hrow,Cr⟩:=hrel;have HT:=ah (HR.o.trans heq);cases R with
      |nil=>obtain rfl:k=kids.len:=(by simpa[bJ.len]using hlen);go_wp2_with fail;go_ret;exact⟨bR HT.o.symm,Cr.1⟩
      |cons op' n' nm' gZ rest=>
       obtain⟨⟨b,off,mF,cap',rfl,mV,x0,x1,x2,x3,hok',lK⟩,hrest⟩:=hrow;obtain⟨kN,oZ⟩:=hall;have hlt:k<kids.len:=(by simp only[bJ.len]at hlen;omega);go_wp2_with fail;have hba:=(ak wr.heap.size wr).alloc (aB _) (.cells #[.int .i64 op',.int .i64 n',.string nm',.slice mF gZ.len cap'] 60);refine(kN _ _ _ hok' (lK.same hba) ((eH.same Cr.1).alloc _)).mono ?_;rintro e w2 ⟨rfl,hb2⟩;have hb3:=hba.trans (hb2.mono (by simp));have vQ:=ah (Cr.next hb3);have hrest':=hrest.same hb3;clear hba hb2 hb3 Cr hrest x0 x1 x2 x3 c0 c1 c2 c3 lK;cases hS:jQ op' n' nm' gZ
       ·have HF:=ah (HT.o.trans (by rw[nE,hS];rfl:mh (.cons op' n' nm' gZ rest)=false));go_wp2_with fail;go_ret;exact⟨bR HF.o.symm,vQ.o.1⟩
       ·have HF:=ah (heq.trans (by rw[nE,hS];rfl:mh (.cons op' n' nm' gZ rest)=mh rest));go_wp2_with fail;go_roundw
        case rel=>exact⟨k+1,rest,by go_num,⟨by simp only[bJ.len]at hlen;omega,HF.o⟩,oZ,hrest',vQ.o⟩
        case measure=>simp[intOf];omega
theorem ze (op n:Int) (nm:ByteArray) (kids:bJ):Hz op n nm kids:=bJ.zZ Kl op n nm kids
def Ee (h:dD) (b e:aY):Prop:=
 ∀(w:World) (s:Sl),DF w h b e s->eG w->
  Calls Tryz.prog 88 #[iy h b e s] w λe' w'=>e'= .returned (.bool (CG h b e))∧Below w.heap.size w w'
theorem Aj (l:aY) (hall:l.All Ee) (w:World) (ao:Option Addr) (cap:Nat) (hl:l.len<=maxLen) (hat:l.At w w.heap.size ao 0) (eH:eG w):
 Calls Tryz.prog 58 #[.slice ao l.len cap] w λe' w'=>e'= .returned (.bool (gN l))∧Below w.heap.size w w':=by
 unfold maxLen at hl;go_enter Tryz.func58,Tryz.ntmps58;go_wp2_with fail;go_loopw [4,7] (λ_ s wr=> ∃(k:Nat) (R:aY),s= .int .i64 k∧k+R.len=l.len∧gN l=gN R∧R.All Ee∧R.At wr wr.heap.size ao k∧Below w.heap.size w wr) (λ_ s _=>l.len -(intOf s).toNat)
 case atStart=>exact⟨0,l,rfl,by simp,rfl,hall,hat,ak _ _⟩
 case round=>
  obtain⟨k,R,rfl,hlen,heq,oZ,hrow,hB⟩:=hrel;have HE:=ah heq;clear heq;cases R with
  |nil=>
   obtain rfl:k=l.len:=by simpa[aY.len]using hlen
   go_wp2_with fail;go_ret;exact⟨bR HE.o.symm,hB⟩
  |cons h b e R=>
   obtain⟨bl,off,s,rfl,hbl,hin,x0,x1,x2,x3,x4,x5,x6,x7,x8,x9,x10,hrest⟩:=aY.At.head hrow;obtain⟨kN,Cq⟩:=oZ;have hkl:k<l.len:=by simp only[aY.len]at hlen;omega
   clear hrow;go_wp2_with fail;have hba:=au wr (.cells #[.int .i64 h.op,.int .i64 h.line,.string h.nm,.string h.arg,.slice s.fQ h.idx.len s.eU,.int .i64 h.dN,.int .i64 h.xn,.string h.dJ,.slice s.fT h.bG.len s.eu,.slice s.dH b.len s.cu,.slice s.iC e.len s.gy] 62);refine(kN _ s (hin.same hba) (eH.same (hB.trans (hba.mono hB.size)))).mono ?_;rintro e' w2 ⟨rfl,hb2⟩;have HB3:=ah (hba.trans (hb2.mono (by simp)));clear hba hb2 x0 x1 x2 x3 x4 x5 x6 x7 x8 x9 x10 hin;cases hS:CG h b e
   ·have HF:=ah (HE.o.trans (by rw[Bp,hS];rfl:gN (.cons h b e R)=false));go_wp2_with fail;go_ret;exact⟨bR HF.o.symm,hB.trans (HB3.o.mono hB.size)⟩
   ·have HF:=ah (HE.o.trans (by rw[Bp,hS];rfl:gN (.cons h b e R)=gN R));go_wp2_with fail;go_roundw
    case rel=>exact⟨k+1,R,by go_num,by simp only[aY.len]at hlen;omega,HF.o,Cq,hrest.same HB3.o,hB.trans (HB3.o.mono hB.size)⟩
    case measure=>simp[intOf];omega
theorem Lj (h:dD) (b e:aY) (ihb:b.All Ee) (XB:e.All Ee):Ee h b e:=by
 intro w s hin eH;obtain⟨fQ,eU,fT,eu,dH,cu,iC,gy⟩:=s;have HS:aj (CG h b e=((((fO h.op&&(kE h.nm (fN h.op)&&kE h.arg (fA h.op)))&&((decide ((h.idx.len:Int)<=1)&&(!decide ((h.idx.len:Int)=1)||fI h.op))&&mh h.idx))&&
  ((if fX h.op then jQ h.dN h.xn h.dJ h.bG else qo h.dN h.xn h.dJ h.bG.len)&&((fB h.op||decide ((b.len:Int)<=0))&&(fE h.op||decide ((e.len:Int)<=0)))))&&(gN b&&gN e))):=ah (by
  unfold CG ni;rw[TJ,TI,Ib,Ib])
 generalize CG h b e=res at *;have iq:=ah hin;have jK:=ah eH;have OW:=ah ihb;have HIE:=ah XB;obtain⟨⟨⟨o1,o2⟩,-,hm,ha,hil,hxk,hbl,hel⟩,-⟩:=hin;clear eH ihb XB;have bu1:=hil;have ZR:=hbl;have ZU:=hel;have hxl:=hxk.2.2.2;unfold maxLen at hil hbl hel hxl;unfold iy;dsimp only;go_enter Tryz.func88,Tryz.ntmps88;go_upto_region 1 with fail;generalize hW:World.alloc w _=W;generalize Value.agg #[_,_,_,_,_,_,_,_,_,_,_]=a0;have HX:aj (Sit w W (rA w.heap.size h b e ⟨fQ,eU,fT,eu,dH,cu,iC,gy⟩ [])):=ah (by rw[<- hW];exact(Sit.start w).uW rfl _ _ _ _ _ _ _ _ _ _ _ _);clear hW;obtain⟨-,⟨-,c0⟩,⟨-,c1⟩,⟨-,c2⟩,⟨-,c3⟩,⟨-,c4⟩,⟨-,c5⟩,⟨-,c6⟩,⟨-,c7⟩,⟨-,c8⟩,⟨-,c9⟩,⟨-,c10⟩,-⟩:=HX.o;go_upto_region 2 with(go_at_call 116;refine(Qb _ _).mono ?_;rintro e' w1 ⟨rfl,hb1⟩);have HB1:=ah hb1;clear hb1;generalize fN h.op=bN at *;generalize fA h.op=bA at *;generalize fI h.op=bI at *;generalize fX h.op=bX at *;generalize fB h.op=bB at *;generalize fE h.op=bE at *;generalize fO h.op=bO at *;obtain⟨n2,hn2⟩: ∃n,w1.heap.size=n:=⟨_,rfl⟩;generalize hW2:World.alloc w1 _=W2;have HY:aj (Sit w W2 ((n2,0,.bool bN)::(n2,1,.bool bA)::(n2,2,.bool bI)::(n2,3,.bool bX)::(n2,4,.bool bB)::(n2,5,.bool bE)::rA w.heap.size h b e ⟨fQ,eU,fT,eu,dH,cu,iC,gy⟩ [])):=ah (by rw[<- hW2];exact(HX.o.next HB1.o).PV hn2 _ _ _ _ _ _ _);rw[hn2];clear hW2 hn2 HX HB1 c0 c1 c2 c3 c4 c5 c6 c7 c8 c9 c10;obtain⟨-,⟨-,c0⟩,⟨-,c1⟩,⟨-,c2⟩,⟨-,c3⟩,⟨-,c4⟩,⟨-,c5⟩,⟨-,c6⟩,⟨-,c7⟩,⟨-,c8⟩,⟨-,c9⟩,⟨-,c10⟩,⟨-,c11⟩,⟨-,c12⟩,⟨-,c13⟩,⟨-,c14⟩,⟨-,c15⟩,⟨-,c16⟩,-⟩:=HY.o;go_cut [4,7,30] (λ_ _ s' W2=> ∃t,s'= .bool t∧(!t)=(bO&&(kE h.nm bN&&kE h.arg bA))∧Sit w W2 ((n2,0,.bool bN)::(n2,1,.bool bA)::(n2,2,.bool bI)::(n2,3,.bool bX)::(n2,4,.bool bB)::(n2,5,.bool bE)::rA w.heap.size h b e ⟨fQ,eU,fT,eu,dH,cu,iC,gy⟩ []))
 case first=>
  cases bO
  ·go_wp2_with fail;go_meet;exact⟨true,rfl,rfl,HY.o⟩
  ·go_wp2_with fail;refine(tQ _ _ _ (jK.o.same HY.o.1) hm).mono ?_;rintro e' w3 ⟨rfl,hb3⟩;have HZ:=ah (HY.o.next hb3);clear hb3 HY c0 c1 c2 c3 c4 c5 c6 c7 c8 c9 c10 c11 c12 c13 c14 c15 c16;obtain⟨-,⟨-,c0⟩,⟨-,c1⟩,⟨-,c2⟩,⟨-,c3⟩,⟨-,c4⟩,⟨-,c5⟩,⟨-,c6⟩,⟨-,c7⟩,⟨-,c8⟩,⟨-,c9⟩,⟨-,c10⟩,⟨-,c11⟩,⟨-,c12⟩,⟨-,c13⟩,⟨-,c14⟩,⟨-,c15⟩,⟨-,c16⟩,-⟩:=HZ.o;cases hq:kE h.nm bN
   ·go_wp2_with fail;go_meet;exact⟨true,rfl,by rw[hq];rfl,HZ.o⟩
   ·go_wp2_with fail;refine(tQ _ _ _ (jK.o.same HZ.o.1) ha).mono ?_;rintro e' w3 ⟨rfl,hb3⟩;have HU:=ah (HZ.o.next hb3);clear hb3 HZ c0 c1 c2 c3 c4 c5 c6 c7 c8 c9 c10 c11 c12 c13 c14 c15 c16;cases hq2:kE h.arg bA
    all_goals go_wp2_with fail
    all_goals go_meet
    all_goals exact⟨_,rfl,by rw[hq,hq2];rfl,HU.o⟩
 obtain⟨t1,rfl,ht1,hX⟩:=hcut;have HZ:=ah hX;have HT1:=ah ht1;clear hX ht1 HY c0 c1 c2 c3 c4 c5 c6 c7 c8 c9 c10 c11 c12 c13 c14 c15 c16;rw[<- HT1.o]at HS;clear HT1;cases t1
 case true=>go_wp2_with fail;go_ret;exact⟨bR HS.o.symm,HZ.o.1⟩
 obtain⟨-,⟨-,c0⟩,⟨-,c1⟩,⟨-,c2⟩,⟨-,c3⟩,⟨-,c4⟩,⟨-,c5⟩,⟨-,c6⟩,⟨-,c7⟩,⟨-,c8⟩,⟨-,c9⟩,⟨-,c10⟩,⟨-,c11⟩,⟨-,c12⟩,⟨-,c13⟩,⟨-,c14⟩,⟨-,c15⟩,⟨-,c16⟩,-⟩:=HZ.o;go_upto_region 4 with fail;go_cut [45] (λs' W3=>wc=W3∧∃t,s'= .bool t∧(!t)=(decide ((h.idx.len:Int)<=1)&&(!decide ((h.idx.len:Int)=1)||bI)))
 case first=>
  go_wp2_with fail
  all_goals go_meet
  all_goals exact⟨rfl,_,rfl,by go_light;grind⟩
 obtain⟨rfl,t2,rfl,ht2⟩:=hcut;have HT2:=ah ht2;rw[<- HT2.o]at HS;clear HT2 ht2;cases t2
 case true=>go_wp2_with fail;go_ret;exact⟨bR (HS.o.trans (by simp)).symm,HZ.o.1⟩
 have HXI:=ah (iq.o.same HZ.o.1);have hrow:=HXI.o.2.1;have hall:=HXI.o.1;clear hall;go_wp2_with fail;go_loopw [6,49] (λ_ s' wr=> ∃(k:Nat) (R:bJ),s'= .int .i64 k∧k+R.len=h.idx.len∧mh h.idx=mh R∧R.At wr wr.heap.size fQ k∧Sit w wr ((n2,0,.bool bN)::(n2,1,.bool bA)::(n2,2,.bool bI)::(n2,3,.bool bX)::(n2,4,.bool bB)::(n2,5,.bool bE)::rA w.heap.size h b e ⟨fQ,eU,fT,eu,dH,cu,iC,gy⟩ [])) (λ_ s' _=>h.idx.len -(intOf s').toNat)
 case atStart=>exact⟨0,h.idx,rfl,by simp,rfl,hrow,HZ.o⟩
 case round=>
  obtain⟨k,R,rfl,hlen,heq,hrow',hsit⟩:=hrel;have HE:=ah heq;have HU:=ah hsit;clear heq hsit HZ hrow HXI c0 c1 c2 c3 c4 c5 c6 c7 c8 c9 c10 c11 c12 c13 c14 c15 c16;cases R with
  |cons op' n' nm' gZ rest=>
   obtain⟨⟨b',off',mF,cap',rfl,mV,x0,x1,x2,x3,hok',lK⟩,hrest⟩:=hrow';have hlt:k<h.idx.len:=by simp only[bJ.len]at hlen;omega
   go_wp2_with fail;have hba:=au wr (.cells #[.int .i64 op',.int .i64 n',.string nm',.slice mF gZ.len cap'] 60);refine(ze op' n' nm' gZ _ _ _ hok' (lK.same hba) ((jK.o.same HU.o.1).same hba)).mono ?_;rintro e' w2 ⟨rfl,hb2⟩;have HB3:=ah (hba.trans (hb2.mono (by simp)));clear hba hb2 x0 x1 x2 x3 lK;cases hS:jQ op' n' nm' gZ
   ·rw[HE.o,nE,hS]at HS;go_wp2_with fail;go_ret;exact⟨bR (HS.o.trans (by simp)).symm,(HU.o.next HB3.o).1⟩
   ·have HF:=ah (HE.o.trans (by rw[nE,hS];rfl:mh (.cons op' n' nm' gZ rest)=mh rest));go_wp2_with fail;go_roundw
    case rel=>exact⟨k+1,rest,by go_num,by simp only[bJ.len]at hlen;omega,HF.o,hrest.same HB3.o,HU.o.next HB3.o⟩
    case measure=>simp[intOf];omega
  |nil=>
   obtain rfl:k=h.idx.len:=by simpa[bJ.len]using hlen
   rw[HE.o]at HS;clear HE hrow' hlen;obtain⟨-,⟨-,c0⟩,⟨-,c1⟩,⟨-,c2⟩,⟨-,c3⟩,⟨-,c4⟩,⟨-,c5⟩,⟨-,c6⟩,⟨-,c7⟩,⟨-,c8⟩,⟨-,c9⟩,⟨-,c10⟩,⟨-,c11⟩,⟨-,c12⟩,⟨-,c13⟩,⟨-,c14⟩,⟨-,c15⟩,⟨-,c16⟩,-⟩:=HU.o;have hba:=jK.o.same HU.o.1;go_upto_region 12 with fail;go_cut [75] (λs' W3=> ∃t,s'= .bool t∧(!t)=(if bX then jQ h.dN h.xn h.dJ h.bG else qo h.dN h.xn h.dJ h.bG.len)∧Sit w W3 ((n2,0,.bool bN)::(n2,1,.bool bA)::(n2,2,.bool bI)::(n2,3,.bool bX)::(n2,4,.bool bB)::(n2,5,.bool bE)::rA w.heap.size h b e ⟨fQ,eU,fT,eu,dH,cu,iC,gy⟩ []))
   case first=>
    cases bX
    ·go_wp2_with fail;refine(Rm _ _ _ _ _ _ _).mono ?_;rintro e' w3 ⟨rfl,hb3⟩;have HV:=ah (HU.o.next hb3);clear hb3;cases hq:qo h.dN h.xn h.dJ h.bG.len
     all_goals go_wp2_with fail
     all_goals go_meet
     all_goals exact⟨_,rfl,hq.symm,HV.o⟩
    ·go_wp2_with fail;refine(ze _ _ _ _ _ _ _ hxk (iq.o.same HU.o.1).2.2.1 hba).mono ?_;rintro e' w3 ⟨rfl,hb3⟩;have HV:=ah (HU.o.next hb3);clear hb3 HU c0 c1 c2 c3 c4 c5 c6 c7 c8 c9 c10 c11 c12 c13 c14 c15 c16;obtain⟨-,⟨-,c0⟩,⟨-,c1⟩,⟨-,c2⟩,⟨-,c3⟩,⟨-,c4⟩,⟨-,c5⟩,⟨-,c6⟩,⟨-,c7⟩,⟨-,c8⟩,⟨-,c9⟩,⟨-,c10⟩,⟨-,c11⟩,⟨-,c12⟩,⟨-,c13⟩,⟨-,c14⟩,⟨-,c15⟩,⟨-,c16⟩,-⟩:=HV.o;cases hq:jQ h.dN h.xn h.dJ h.bG
     all_goals go_wp2_with fail
     all_goals go_meet
     all_goals exact⟨_,rfl,hq.symm,HV.o⟩
   obtain⟨t3,rfl,ht3,hX⟩:=hcut;have HV:=ah hX;have HT3:=ah ht3;clear hX ht3 HU hba c0 c1 c2 c3 c4 c5 c6 c7 c8 c9 c10 c11 c12 c13 c14 c15 c16;rw[<- HT3.o]at HS;clear HT3;cases t3
   case true=>go_wp2_with fail;go_ret;exact⟨bR (HS.o.trans (by simp)).symm,HV.o.1⟩
   obtain⟨-,⟨-,c0⟩,⟨-,c1⟩,⟨-,c2⟩,⟨-,c3⟩,⟨-,c4⟩,⟨-,c5⟩,⟨-,c6⟩,⟨-,c7⟩,⟨-,c8⟩,⟨-,c9⟩,⟨-,c10⟩,⟨-,c11⟩,⟨-,c12⟩,⟨-,c13⟩,⟨-,c14⟩,⟨-,c15⟩,⟨-,c16⟩,-⟩:=HV.o;go_upto_region 14 with fail;go_cut [95] (λs' W3=>wc=W3∧∃t,s'= .bool t∧(!t)=((bB||decide ((b.len:Int)<=0))&&(bE||decide ((e.len:Int)<=0))))
   case first=>
    cases bB
    all_goals cases bE
    all_goals go_wp2_with fail
    all_goals go_meet
    all_goals exact⟨rfl,_,rfl,by go_light;grind⟩
   obtain⟨rfl,t4,rfl,Xw⟩:=hcut;have E9:=ah Xw;rw[<- E9.o]at HS;clear E9 Xw;cases t4
   case true=>go_wp2_with fail;go_ret;exact⟨bR (HS.o.trans (by simp)).symm,HV.o.1⟩
   go_wp2_with fail;refine(Aj b OW.o _ _ _ ZR (iq.o.same HV.o.1).2.2.2.1 (jK.o.same HV.o.1)).mono ?_;rintro e' w4 ⟨rfl,hb4⟩;have HA:=ah (HV.o.next hb4);clear hb4 HV c0 c1 c2 c3 c4 c5 c6 c7 c8 c9 c10 c11 c12 c13 c14 c15 c16;obtain⟨-,⟨-,c0⟩,⟨-,c1⟩,⟨-,c2⟩,⟨-,c3⟩,⟨-,c4⟩,⟨-,c5⟩,⟨-,c6⟩,⟨-,c7⟩,⟨-,c8⟩,⟨-,c9⟩,⟨-,c10⟩,⟨-,c11⟩,⟨-,c12⟩,⟨-,c13⟩,⟨-,c14⟩,⟨-,c15⟩,⟨-,c16⟩,-⟩:=HA.o;cases hq:gN b
   ·rw[hq]at HS;go_wp2_with fail;go_ret;exact⟨bR (HS.o.trans (by simp)).symm,HA.o.1⟩
   ·rw[hq]at HS;go_wp2_with fail;refine(Aj e HIE.o _ _ _ ZU (iq.o.same HA.o.1).2.2.2.2 (jK.o.same HA.o.1)).mono ?_;rintro e' w5 ⟨rfl,hb5⟩;go_wp2_with fail;go_ret;exact⟨bR (HS.o.trans (by simp[mh])).symm,(HA.o.next hb5).1⟩
theorem Ml (l:aY) (w:World) (ao:Option Addr) (cap:Nat) (hl:l.len<=maxLen) (hat:l.At w w.heap.size ao 0) (eH:eG w):
 Calls Tryz.prog 58 #[.slice ao l.len cap] w λe' w'=>e'= .returned (.bool (gN l))∧Below w.heap.size w w':=
 Aj l (aY.nW Lj l) w ao cap hl hat eH
theorem En (d:De) (w:World):
 Calls Tryz.prog 59 #[.agg #[.int .i64 d.kind,.int .i64 d.line,.string d.nm,.int .i64 d.size,.int .i64 d.init,.string d.on]] w λe w'=>e= .returned (.int .i64 (gI d))∧Below w.heap.size w w':=by
 unfold gI;go_enter Tryz.func59,Tryz.ntmps59;go_wp2
 all_goals go_ret
 all_goals refine⟨bV ?_,au _ _⟩
 all_goals first|(simp[*];done)|(go_light;grind)
theorem Vj (s:ByteArray) (r:List ByteArray) (nm:ByteArray):qm (s::r) nm=((s.toList==nm.toList)||qm r nm):=by simp[qm]
theorem Vo (d:De) (r:List De) (nm:ByteArray):nT (d::r) nm=if d.nm.toList==nm.toList then some (gI d)else nT r nm:=by
 unfold nT;rw[List.find?_cons];cases h:(d.nm.toList==nm.toList) <;> simp
theorem Vp (t:Th) (r:List Th) (nm:ByteArray):qL (t::r) nm=if t.nm.toList==nm.toList then 8 else qL r nm:=by
 unfold qL;rw[List.any_cons];cases h:(t.nm.toList==nm.toList) <;> simp
theorem J5 {ts:List Th} {i:Int} (h: ¬(0<=i∧i<ts.length)):oU ts i=[]:=by
 unfold oU;split
 ·rw[List.getElem?_eq_none (by omega)];rfl
 ·rfl
theorem KZ {ts:List Th} {i:Nat} {t:Th} {r:List Th} (h:ts.drop i=t::r):oU ts (i:Int)=t.cO:=by
 have h2:ts[i]? =some t:=by have:=List.getElem?_drop (xs:=ts) (i:=i) (j:=0);rw[h]at this;simpa using this.symm
 unfold oU;rw[if_pos (by omega)];simp[h2]
theorem RF (p:Pr) (i:Int) (nm:ByteArray) (w:World) (aK aM:Option Addr) (aH aD:Nat) (hi:bW i) (hp:p.At w aK aM):
 Calls Tryz.prog 154 #[.agg #[.slice aK p.ds.length aH,.slice aM p.ts.length aD],.int .i64 i,.string nm] w λe w'=>e= .returned (.int .i64 (mean p i nm))∧Below w.heap.size w w':=by
 obtain⟨i1,i2⟩:=hi;have hld:=hp.1;have hlt:=hp.2.1;unfold maxLen at hld hlt;have HP:=ah hp;clear hp;go_enter Tryz.func154,Tryz.ntmps154;go_upto_region 1 with fail;generalize hW:World.alloc w _=W;generalize Value.agg #[_,_]=a0;have HX:=ah ((Sit.start w).wG rfl (.slice aK p.ds.length aH) (.slice aM p.ts.length aD) 26);rw[hW]at HX;clear hW;obtain⟨-,⟨-,c0⟩,⟨-,c1⟩,-⟩:=HX.o;go_cut [21] (λs W2=>W=W2∧∃b,s= .bool b∧decide (0<=i∧i<p.ts.length)=b)
 case first=>
  go_wp2_with fail
  all_goals go_meet
  all_goals exact⟨rfl,_,rfl,by go_light;grind⟩
 obtain⟨rfl,bi,rfl,hbi⟩:=hcut;have HBI:=ah hbi;clear hbi
 go_upto_if 21 with fail
 go_cut [6,8] (λs6 s8 W2=>qm (oU p.ts i) nm=false∧Sit w W2 [(w.heap.size,0,(.slice aK p.ds.length aH)),(w.heap.size,1,(.slice aM p.ts.length aD))])
 case first=>
  cases bi
  ·go_wp2_with fail;go_meet;exact⟨by rw[J5 (by simpa using HBI.o)];rfl,HX.o⟩
  ·have hbi:0<=i∧i<p.ts.length:=by simpa using HBI.o
   obtain⟨j,rfl⟩:=Int.eq_ofNat_of_zero_le hbi.1;have hj:j<p.ts.length:=by omega
   have hth:=(HP.o.same HX.o.1).2.2.2.drop j;cases hd:p.ts.drop j with
   |nil=>exfalso;have:=congrArg List.length hd;simp at this;omega
   |cons t r=>
    rw[hd,aU]at hth;have HL:=ah (KZ hd);clear hd hbi HBI;obtain⟨⟨b,off,iR,eX,dH,cu,rfl,hB,x0,x1,x2,x3,hok,htx,hst⟩,-⟩:=hth;have hll:=hok.2.2.1;unfold maxLen at hll;clear hst hok;go_wp2_with fail;go_loop [8,29] (λ_ s=> ∃(k:Nat) (R:List ByteArray),s= .int .i64 k∧k+R.length=t.cO.length∧qm t.cO nm=qm R nm∧fJ W W.heap.size R iR k) (λ_ s=>t.cO.length -(intOf s).toNat)
    case atStart=>exact⟨0,t.cO,rfl,by simp,rfl,htx⟩
    case round=>
     obtain⟨k,R,rfl,hlen,heq,hrow⟩:=hrel;cases R with
     |nil=>obtain rfl:k=t.cO.length:=(by simpa using hlen);go_wp2_with fail;go_meet;exact⟨by rw[HL.o,heq];rfl,HX.o⟩
     |cons s R=>
      obtain⟨⟨b',off',rfl,hB',y0,hs⟩,hrest⟩:=hrow;simp only[aA]at hlen;have hkl:k<t.cO.length:=(by omega);rw[Vj]at heq;have HE:=ah heq;clear heq;cases hc:(s.toList==nm.toList)
      ·have dL:=ah (HE.o.trans (by rw[hc];rfl:_=qm R nm));go_wp2_with fail;go_round
       case rel=>exact⟨k+1,R,by go_num,by omega,dL.o,hrest⟩
       case measure=>simp[intOf];omega
      ·have dL:=ah (HE.o.trans (by rw[hc];rfl:_=true));go_wp2_with fail;go_ret;exact⟨bV (by unfold mean;rw[HL.o,dL.o];rfl),HX.o.1⟩
 case rest=>
  obtain⟨hno,hX⟩:=hcut;have HY:=ah hX;have HM:aj (mean p i nm=(nT p.ds nm).getD (qL p.ts nm)):=ah (by unfold mean;rw[hno];rfl);clear hno hX HX c0 c1;obtain⟨-,⟨-,c0⟩,⟨-,c1⟩,-⟩:=HY.o;have hde:=(HP.o.same HY.o.1).2.2.1;go_wp2_with fail;go_loopw [10,40] (λ_ s wr=> ∃(k:Nat) (R:List De),s= .int .i64 k∧k+R.length=p.ds.length∧nT p.ds nm=nT R nm∧jo wr wr.heap.size R aK k∧Sit w wr [(w.heap.size,0,(.slice aK p.ds.length aH)),(w.heap.size,1,(.slice aM p.ts.length aD))]) (λ_ s _=>p.ds.length -(intOf s).toNat)
  case atStart=>exact⟨0,p.ds,rfl,by simp,rfl,hde,HY.o⟩
  case round=>
   obtain⟨k,R,rfl,hlen,heq,hrow,hsit⟩:=hrel;have HZ:=ah hsit;clear hsit HY c0 c1 hde;cases R with
   |nil=>
    obtain rfl:k=p.ds.length:=(by simpa using hlen);obtain⟨-,⟨-,c0⟩,⟨-,c1⟩,-⟩:=HZ.o;have hth:=(HP.o.same HZ.o.1).2.2.2;have HM':=ah (HM.o.trans (by rw[heq];rfl:_=qL p.ts nm));clear heq HM;go_wp2_with fail;go_loopw [12,54] (λ_ s wr=> ∃(k:Nat) (R:List Th),s= .int .i64 k∧k+R.length=p.ts.length∧qL p.ts nm=qL R nm∧iJ wr wr.heap.size R aM k∧Sit w wr [(w.heap.size,0,(.slice aK p.ds.length aH)),(w.heap.size,1,(.slice aM p.ts.length aD))]) (λ_ s _=>p.ts.length -(intOf s).toNat)
    case atStart=>exact⟨0,p.ts,rfl,by simp,rfl,hth,HZ.o⟩
    case round=>
     obtain⟨k,R,rfl,hlen,heq,hrow,hsit⟩:=hrel;have HU:=ah hsit;clear hsit HZ c0 c1 hth;cases R with
     |nil=>obtain rfl:k=p.ts.length:=(by simpa using hlen);go_wp2_with fail;go_ret;exact⟨bV (HM'.o.trans heq).symm,HU.o.1⟩
     |cons t R=>
      obtain⟨⟨b,off,iR,eX,dH,cu,rfl,hB,x0,x1,x2,x3,hok,htx,hst⟩,hrest⟩:=hrow;simp only[aA]at hlen;have hkl:k<p.ts.length:=(by omega);rw[Vp]at heq;have HE:=ah heq;clear heq hok htx hst;cases hc:(t.nm.toList==nm.toList)
      ·have dL:=ah (HE.o.trans (by rw[hc];rfl:_=qL R nm));go_wp2_with fail;go_roundw
       case rel=>exact⟨k+1,R,by go_num,by omega,dL.o,hrest.same (au _ _),HU.o.next (au _ _)⟩
       case measure=>simp[intOf];omega
      ·have dL:=ah (HE.o.trans (if_pos hc));go_wp2_with fail;go_ret;exact⟨bV (HM'.o.trans dL.o).symm,(HU.o.next (au _ _)).1⟩
   |cons d R=>
    obtain⟨⟨b,off,rfl,hB,x0,x1,x2,x3,x4,x5,hok⟩,hrest⟩:=hrow;simp only[aA]at hlen;have hkl:k<p.ds.length:=(by omega);rw[Vo]at heq;have HE:=ah heq;clear heq hok;cases hc:(d.nm.toList==nm.toList)
    ·have dL:=ah (HE.o.trans (by rw[hc];rfl:_=nT R nm));go_wp2_with fail;go_roundw
     case rel=>exact⟨k+1,R,by go_num,by omega,dL.o,hrest.same (au _ _),HZ.o.next (au _ _)⟩
     case measure=>simp[intOf];omega
    ·have dL:=ah (HE.o.trans (if_pos hc));go_wp2_with fail;refine(En d _).mono ?_;rintro e w2 ⟨rfl,hb2⟩;go_wp2_with fail;go_ret;exact⟨bV (HM.o.trans (by rw[dL.o];rfl)).symm,((HZ.o.next (au _ _)).next hb2).1⟩
theorem sU (d:De):2<=gI d∧gI d<=9∧gI d≠8:=by unfold gI;grind
namespace Md
def gV (w:World) (B:Nat):List Int->Option Addr->Nat->Prop
 | [],_,_=>True
 |s::r,ao,k=>(∃b off,ao=some ⟨b,off,none⟩∧b<B∧w.cell? ⟨b,off+k,none⟩=some (.int .i64 s))∧gV w B r ao (k+1)
section
variable {w w':World} {B B':Nat}
theorem gV.below (hb:Below B w w'): ∀ {l:List Int} {ao:Option Addr} {k:Nat},gV w B l ao k->gV w' B l ao k
 | [],_,_,_=>trivial
 |_::_,_,_,⟨⟨b,off,e,hB,c⟩,hr⟩=>⟨⟨b,off,e,hB,(hb.cell hB).trans c⟩,gV.below hb hr⟩
theorem gV.mono (h:B<=B'): ∀ {l:List Int} {ao:Option Addr} {k:Nat},gV w B l ao k->gV w B' l ao k
 | [],_,_,_=>trivial
 |_::_,_,_,⟨⟨b,off,e,hB,c⟩,hr⟩=>⟨⟨b,off,e,aG hB h,c⟩,gV.mono h hr⟩
theorem gV.same {l:List Int} {ao:Option Addr} {k:Nat} (h:gV w w.heap.size l ao k) (hb:Below w.heap.size w w'):gV w' w'.heap.size l ao k:=(h.below hb).mono hb.size
end
def dQ (m:Int) (l:List Int):Int:=if m==0 then 5 else if l.any (λk=>m==k)then 0 else 6
def Ci:bJ->Int->Int->Int×Int
 | .nil,n,d=>(n,d)
 | .cons _ _ _ kids rest,n,d=>Ci rest (wrap64 (n+(Ci kids 1 0).1)) (max d (wrap64 ((Ci kids 1 0).2+1)))
def ext (kids:bJ):Int×Int:=((Ci kids 1 0).1,wrap64 ((Ci kids 1 0).2+1))
def oI (p:Pr) (i op:Int) (nm:ByteArray):Int:=if op==2 then dQ (mean p i nm) [1,2]else if op==3 then dQ (mean p i nm) [3]else 0
def qj (p:Pr) (i:Int):bJ->Int
 | .nil=>0
 | .cons op _ nm kids rest=>if oI p i op nm==0 then(if qj p i kids==0 then qj p i rest else qj p i kids)else oI p i op nm
def uK (p:Pr) (i op:Int) (nm:ByteArray) (kids:bJ):Int:=if oI p i op nm==0 then qj p i kids else oI p i op nm
theorem NP (p:Pr) (i op n:Int) (nm:ByteArray) (kids rest:bJ):qj p i (.cons op n nm kids rest)=if uK p i op nm kids==0 then qj p i rest else uK p i op nm kids:=by
 rw[qj];unfold uK;cases h:(oI p i op nm==0) <;> simp
 ·intro h';simp[h']at h
def jW (p:Pr) (i op n:Int) (nm:ByteArray) (kids:bJ):Int:=
 if jQ op n nm kids then(if decide (24<(ext kids).1)||decide (6<(ext kids).2)then 2 else uK p i op nm kids)else 3
end Md
theorem PO (m k:Int) (l:List Int):(k::l).any (λk=>m==k)=((m==k)||l.any (λk=>m==k)):=by simp
theorem Bl (p:Pr) (i:Int) (nm:ByteArray) (l:List Int) (w:World) (aK aM ao:Option Addr) (aH aD cap:Nat) (hi:bW i) (hl:l.length<=maxLen) (hp:p.At w aK aM) (hw:gV w w.heap.size l ao 0):
 Calls Tryz.prog 147 #[.agg #[.slice aK p.ds.length aH,.slice aM p.ts.length aD],.int .i64 i,.string nm,.slice ao l.length cap] w λe w'=>e= .returned (.int .i64 (dQ (mean p i nm) l))∧Below w.heap.size w w':=by
 unfold maxLen at hl;have HP:=ah hp;have HW:=ah hw;clear hp hw;go_enter Tryz.func147,Tryz.ntmps147;go_wp2_with fail;refine(RF p i nm _ aK aM aH aD hi (HP.o.same (au _ _))).mono ?_;rintro e w2 ⟨rfl,hb2⟩;have HB:=ah ((au w (.cells #[.slice aK p.ds.length aH,.slice aM p.ts.length aD] 26)).trans (hb2.mono (by simp)));clear hb2;have hrow:=HW.o.same HB.o;generalize hmm:mean p i nm=m at *;have HM:=ah hmm;clear hmm;cases h0:(m==0)
 ·go_wp2_with fail;go_loop [11,20] (λ_ s=> ∃(k:Nat) (R:List Int),s= .int .i64 k∧k+R.length=l.length∧l.any (λk=>m==k)=R.any (λk=>m==k)∧gV w2 w2.heap.size R ao k) (λ_ s=>l.length -(intOf s).toNat)
  case atStart=>exact⟨0,l,rfl,by simp,rfl,hrow⟩
  case round=>
   obtain⟨k,R,rfl,hlen,heq,hrow'⟩:=hrel;cases R with
   |nil=>obtain rfl:k=l.length:=(by simpa using hlen);have HE:aj (dQ m l=6):=ah (by unfold dQ;rw[h0,heq];rfl);clear heq;go_wp2_with fail;go_ret;exact⟨bV (by rw[HM.o,HE.o]),HB.o⟩
   |cons a R=>
    obtain⟨⟨b,off,rfl,hB,y0⟩,hrest⟩:=hrow';simp only[aA]at hlen;have hkl:k<l.length:=(by omega);rw[PO]at heq;have HE:=ah heq;clear heq;cases hc:(m==a)
    ·have dL:=ah (HE.o.trans (by rw[hc];rfl:_=R.any (λk=>m==k)));go_wp2_with fail;go_round
     case rel=>exact⟨k+1,R,by go_num,by omega,dL.o,hrest⟩
     case measure=>simp[intOf];omega
    ·have dL:aj (dQ m l=0):=ah (by unfold dQ;rw[h0,HE.o,hc];rfl);go_wp2_with fail;go_ret;exact⟨bV (by rw[HM.o,dL.o]),HB.o⟩
 ·have HE:aj (dQ m l=5):=ah (by unfold dQ;rw[h0];rfl);go_wp2_with fail;go_ret;exact⟨bV (by rw[HM.o,HE.o]),HB.o⟩
theorem jN {a b c d:Int} (h1:c=a) (h2:d=b):Ending.returned (.tuple #[.int .i64 a,.int .i64 b])= .returned (.tuple #[.int .i64 c,.int .i64 d]):=by rw[h1,h2]
theorem ext_nil {kids:bJ} {a d:Int} (h:Ci kids 1 0=Ci .nil a d):(ext kids).1=a∧(ext kids).2=wrap64 (d+1):=by unfold ext;rw[h];exact⟨rfl,rfl⟩
def Hq (op n:Int) (nm:ByteArray) (kids:bJ):Prop:=
 ∀(w:World) (ao:Option Addr) (cap:Nat),qP op n nm kids->kids.At w w.heap.size ao 0->
  Calls Tryz.prog 152 #[.agg #[.int .i64 op,.int .i64 n,.string nm,.slice ao kids.len cap]] w λe w'=>e= .returned (.tuple #[.int .i64 (ext kids).1,.int .i64 (ext kids).2])∧Below w.heap.size w w'
theorem Rv (op n:Int) (nm:ByteArray) (kids:bJ) (ih:kids.All Hq):Hq op n nm kids:=by
 intro w ao cap hok hat;obtain⟨-,-,-,hl⟩:=hok;unfold maxLen at hl;have ru:=ah ih;have HAT:=ah hat;clear ih hat;go_enter Tryz.func152,Tryz.ntmps152;go_upto_region 2 with fail;generalize hW:World.alloc w _=W;generalize Value.agg #[_,_,_,_]=a0;have HX:=ah ((Sit.start w).zi rfl (.int .i64 op) (.int .i64 n) (.string nm) (.slice ao kids.len cap) 60);rw[hW]at HX;clear hW;obtain⟨-,⟨-,c0⟩,⟨-,c1⟩,⟨-,c2⟩,⟨-,c3⟩,-⟩:=HX.o;go_wp2_with fail;go_loopw [4,5,7,8,9,13] (λs4 s5 _ _ _ s wr=> ∃(k:Nat) (R:bJ) (a d:Int),s= .int .i64 k∧s4= .int .i64 a∧s5= .int .i64 d∧k+R.len=kids.len∧Ci kids 1 0=Ci R a d∧R.All Hq∧R.At wr wr.heap.size ao k∧Below w.heap.size w wr) (λ_ _ _ _ _ s _=>kids.len -(intOf s).toNat)
 case atStart=>exact⟨0,kids,1,0,rfl,rfl,rfl,by simp,rfl,ru.o,HAT.o.same HX.o.1,HX.o.1⟩
 case round=>
  obtain⟨k,R,a,d,rfl,rfl,rfl,hlen,heq,hall,hrow,hB⟩:=hrel;have HE:=ah heq;clear heq c0 c1 c2 c3;cases R with
  |nil=>
   obtain rfl:k=kids.len:=by simpa[bJ.len]using hlen
   go_wp2_with fail
   go_ret2
   exact⟨jN (ext_nil HE.o).1 (ext_nil HE.o).2,hB⟩
  |cons op' n' nm' gZ rest=>
   obtain⟨⟨b,off,mF,cap',rfl,mV,x0,x1,x2,x3,hok',lK⟩,hrest⟩:=hrow;obtain⟨kN,oZ⟩:=hall;have hlt:k<kids.len:=by simp only[bJ.len]at hlen;omega
   go_wp2_with fail;have hba:=au wr (.cells #[.int .i64 op',.int .i64 n',.string nm',.slice mF gZ.len cap'] 60);refine(kN _ _ _ hok' (lK.same hba)).mono ?_;rintro e w2 ⟨rfl,hb2⟩;have HB3:=ah (hba.trans (hb2.mono (by simp)));clear hba hb2 x0 x1 x2 x3 lK;go_wp2_with fail;go_roundw
   case rel=>exact⟨k+1,rest,_,_,by go_num,rfl,rfl,by simp only[bJ.len]at hlen;omega,HE.o,oZ,hrest.same HB3.o,hB.trans (HB3.o.mono hB.size)⟩
   case measure=>simp[intOf];omega
theorem V5 (op n:Int) (nm:ByteArray) (kids:bJ):Hq op n nm kids:=bJ.zZ Rv op n nm kids
def Hu (p:Pr) (i:Int) (op n:Int) (nm:ByteArray) (kids:bJ):Prop:=
 ∀(w:World) (aK aM ao:Option Addr) (aH aD cap:Nat),bW i->p.At w aK aM->qP op n nm kids->kids.At w w.heap.size ao 0->
  Calls Tryz.prog 153 #[.agg #[.slice aK p.ds.length aH,.slice aM p.ts.length aD],.int .i64 i,.agg #[.int .i64 op,.int .i64 n,.string nm,.slice ao kids.len cap]] w λe w'=>e= .returned (.int .i64 (uK p i op nm kids))∧Below w.heap.size w w'
theorem mI (w:World) (a b:Int) (t:TypeId):gV (w.alloc (.cells #[.int .i64 a,.int .i64 b] t)) (w.alloc (.cells #[.int .i64 a,.int .i64 b] t)).heap.size [a,b] (some ⟨w.heap.size,0,none⟩) 0:=
 ⟨⟨_,_,rfl,by simp,dZ w [.int .i64 a,.int .i64 b] t 0⟩,⟨_,_,rfl,by simp,dZ w [.int .i64 a,.int .i64 b] t 1⟩,trivial⟩
theorem jq (w:World) (a:Int) (t:TypeId):gV (w.alloc (.cells #[.int .i64 a] t)) (w.alloc (.cells #[.int .i64 a] t)).heap.size [a] (some ⟨w.heap.size,0,none⟩) 0:=
 ⟨⟨_,_,rfl,by simp,dZ w [.int .i64 a] t 0⟩,trivial⟩
theorem Vu (p:Pr) (i:Int) (op n:Int) (nm:ByteArray) (kids:bJ) (ih:kids.All (Hu p i)):Hu p i op n nm kids:=by
 intro w aK aM ao aH aD cap hi hp hok hat;obtain⟨-,-,-,hl⟩:=hok;unfold maxLen at hl;have ru:=ah ih;have HAT:=ah hat;have HP:=ah hp;clear ih hat hp;go_enter Tryz.func153,Tryz.ntmps153;go_upto_region 1 with fail;generalize hW:World.alloc (World.alloc w _) _=W;generalize Value.agg #[_,_]=a0;generalize Value.agg #[_,_,_,_]=a1;have HX:=ah (((Sit.start w).wG rfl (.slice aK p.ds.length aH) (.slice aM p.ts.length aD) 26).zi (n:=w.heap.size+1) (by simp) (.int .i64 op) (.int .i64 n) (.string nm) (.slice ao kids.len cap) 60);rw[hW]at HX;clear hW;obtain⟨-,⟨-,c0⟩,⟨-,c1⟩,⟨-,c2⟩,⟨-,c3⟩,⟨-,c4⟩,⟨-,c5⟩,-⟩:=HX.o;go_upto_block 0 with(fail);go_cut [7,10] (λs7 _ W2=>s7= .int .i64 (oI p i op nm)∧Sit w W2 [(w.heap.size+1,0,.int .i64 op),(w.heap.size+1,1,.int .i64 n),(w.heap.size+1,2,.string nm),(w.heap.size+1,3,.slice ao kids.len cap),(w.heap.size,0,.slice aK p.ds.length aH),(w.heap.size,1,.slice aM p.ts.length aD)])
 case first=>
  cases h2:(op==2)
  ·cases h3:(op==3)
   ·have HE:aj (oI p i op nm=0):=ah (by unfold oI;rw[h2,h3];rfl);go_wp2_with fail;go_meet;exact⟨by rw[HE.o],HX.o⟩
   ·have HE:aj (oI p i op nm=dQ (mean p i nm) [3]):=ah (by unfold oI;rw[h2,h3];rfl);go_wp2_with fail;refine(Bl p i nm [3] _ aK aM _ aH aD _ hi (by decide) ((HP.o.same HX.o.1).same (au _ _)) (jq W 3 _)).mono ?_;rintro e w2 ⟨rfl,hb2⟩;go_wp2_with fail;go_meet;exact⟨by rw[HE.o],(HX.o.next (au _ _)).next hb2⟩
  ·have HE:aj (oI p i op nm=dQ (mean p i nm) [1,2]):=ah (by unfold oI;rw[h2];rfl);go_wp2_with fail;refine(Bl p i nm [1,2] _ aK aM _ aH aD _ hi (by decide) ((HP.o.same HX.o.1).same (au _ _)) (mI W 1 2 _)).mono ?_;rintro e w2 ⟨rfl,hb2⟩;go_wp2_with fail;go_meet;exact⟨by rw[HE.o],(HX.o.next (au _ _)).next hb2⟩
 case rest=>
  obtain⟨rfl,hX⟩:=hcut;have HY:=ah hX;clear hX HX c0 c1 c2 c3 c4 c5;have HR:aj (uK p i op nm kids=if oI p i op nm==0 then qj p i kids else oI p i op nm):=ah rfl;generalize oI p i op nm=r0 at *;go_wp2_with fail;go_loopw [7,8] (λs7 s8 wr=> ∃(k:Nat) (R:bJ) (r:Int),s8= .int .i64 k∧s7= .int .i64 r∧k+R.len=kids.len∧uK p i op nm kids=(if r==0 then qj p i R else r)∧R.All (Hu p i)∧R.At wr wr.heap.size ao k∧Sit w wr [(w.heap.size+1,0,.int .i64 op),(w.heap.size+1,1,.int .i64 n),(w.heap.size+1,2,.string nm),(w.heap.size+1,3,.slice ao kids.len cap),(w.heap.size,0,.slice aK p.ds.length aH),(w.heap.size,1,.slice aM p.ts.length aD)]) (λ_ s _=>kids.len -(intOf s).toNat)
  case atStart=>exact⟨0,kids,r0,rfl,rfl,by simp,HR.o,ru.o,HAT.o.same HY.o.1,HY.o⟩
  case round=>
   obtain⟨k,R,r,rfl,rfl,hlen,heq,hall,hrow,hsit⟩:=hrel;have HE:=ah heq;have HZ:=ah hsit;clear heq hsit;obtain⟨-,⟨-,c0⟩,⟨-,c1⟩,⟨-,c2⟩,⟨-,c3⟩,⟨-,c4⟩,⟨-,c5⟩,-⟩:=HZ.o;cases R with
   |nil=>obtain rfl:k=kids.len:=(by simpa[bJ.len]using hlen);go_wp2_with fail;go_ret;exact⟨bV (HE.o.trans (by cases h:(r==0) <;> simp_all[qj])).symm,HZ.o.1⟩
   |cons op' n' nm' gZ rest=>
    obtain⟨⟨b,off,mF,cap',rfl,mV,x0,x1,x2,x3,hok',lK⟩,hrest⟩:=hrow;obtain⟨kN,oZ⟩:=hall;have hlt:k<kids.len:=(by simp only[bJ.len]at hlen;omega);cases hr:(r==0)
    ·have dL:=ah (HE.o.trans (by rw[hr];rfl:_=r));go_wp2_with fail;go_ret;exact⟨bV dL.o.symm,HZ.o.1⟩
    ·have dL:=ah (HE.o.trans (by rw[hr];rfl:_=qj p i (.cons op' n' nm' gZ rest)));go_wp2_with fail;obtain⟨T,F,Af,hst,hF,hnext⟩:=calm wr;have HF:=ah hF;have dB:=ah hnext;clear hnext hF;have d0:=λx=>(HZ.o.next (HF.o x)).2.1.2;have d1:=λx=>(HZ.o.next (HF.o x)).2.2.1.2;have d2:=λx=>(HZ.o.next (HF.o x)).2.2.2.1.2;have d3:=λx=>(HZ.o.next (HF.o x)).2.2.2.2.1.2;have d4:=λx=>(HZ.o.next (HF.o x)).2.2.2.2.2.1.2;have d5:=λx=>(HZ.o.next (HF.o x)).2.2.2.2.2.2.1.2;have y0:=λx=>((HF.o x).cell (p:=⟨b,off+k*4,none⟩) mV).trans x0;have y1:=λx=>((HF.o x).cell (p:=⟨b,off+k*4+1,none⟩) mV).trans x1;have y2:=λx=>((HF.o x).cell (p:=⟨b,off+k*4+2,none⟩) mV).trans x2;have y3:=λx=>((HF.o x).cell (p:=⟨b,off+k*4+3,none⟩) mV).trans x3;clear c0 c1 c2 c3 c4 c5 x0 x1 x2 x3;have hk0:(0:Int)<=k:=(by omega);have hk1:(k:Int)<kids.len:=(by omega);refine jh F (by kernel_rfl) (by kernel_rfl) hst ?_
     repeat (any_goals (first|go_big_quiet_step ((go_at_call 153;refine(kN _ aK aM mF aH aD cap' hi ((HP.o.same HZ.o.1).same (HF.o _)) hok' (lK.same (HF.o _))).mono ?_;rintro e w' ⟨rfl,hb⟩;exact⟨rfl,dB.o _ _ hb⟩))|(refine wpQuiet_step (λK hK=> ?_);go_simp;first|(refine hK _ ?_;clear hK K)|(split <;> first|(refine hK _ ?_;clear hK K)|(apply Exists.intro;refine⟨λ_=> ?_,hK _ ?_⟩;((go_at_call 153;refine(kN _ aK aM mF aH aD cap' hi ((HP.o.same HZ.o.1).same (HF.o _)) hok' (lK.same (HF.o _))).mono ?_;rintro e w' ⟨rfl,hb⟩;exact⟨rfl,dB.o _ _ hb⟩));clear hK K)))))
     all_goals (refine wpQuiet_nil ?_;rintro _ ⟨x,rfl⟩)
     have HB2:=ah (HF.o x);clear d0 d1 d2 d3 d4 d5 y0 y1 y2 y3 HF dB hst;generalize F x=W2 at *;go_wp2_with fail;go_roundw
     case rel=>exact⟨k+1,rest,_,by go_num,rfl,by simp only[bJ.len]at hlen;omega,dL.o.trans (NP p i op' n' nm' gZ rest),oZ,hrest.same HB2.o,HZ.o.next HB2.o⟩
     case measure=>simp[intOf];omega
theorem XT (p:Pr) (i:Int) (op n:Int) (nm:ByteArray) (kids:bJ):Hu p i op n nm kids:=bJ.zZ (Vu p i) op n nm kids
theorem Fp (p:Pr) (i:Int) (op n:Int) (nm:ByteArray) (kids:bJ) (w:World) (aK aM ao:Option Addr) (aH aD cap:Nat) (hi:bW i) (hp:p.At w aK aM) (hok:qP op n nm kids) (hat:kids.At w w.heap.size ao 0) (eH:eG w):
 Calls Tryz.prog 146 #[.agg #[.slice aK p.ds.length aH,.slice aM p.ts.length aD],.int .i64 i,.agg #[.int .i64 op,.int .i64 n,.string nm,.slice ao kids.len cap]] w λe w'=>e= .returned (.int .i64 (jW p i op n nm kids))∧Below w.heap.size w w':=by
 have HAT:=ah hat;have HP:=ah hp;clear hat hp;go_enter Tryz.func146,Tryz.ntmps146;go_upto_region 1 with fail;generalize hW:World.alloc (World.alloc w _) _=W;generalize Value.agg #[_,_]=a0;generalize Value.agg #[_,_,_,_]=a1;have HX:=ah (((Sit.start w).wG rfl (.slice aK p.ds.length aH) (.slice aM p.ts.length aD) 26).zi (n:=w.heap.size+1) (by simp) (.int .i64 op) (.int .i64 n) (.string nm) (.slice ao kids.len cap) 60);rw[hW]at HX;clear hW;obtain⟨-,⟨-,c0⟩,⟨-,c1⟩,⟨-,c2⟩,⟨-,c3⟩,⟨-,c4⟩,⟨-,c5⟩,-⟩:=HX.o;go_wp2_with fail;refine(ze op n nm kids _ ao cap hok (HAT.o.same HX.o.1) (eH.same HX.o.1)).mono ?_;rintro e w1 ⟨rfl,hb1⟩;have HY:=ah (HX.o.next hb1);clear HX hb1 c0 c1 c2 c3 c4 c5;obtain⟨-,⟨-,c0⟩,⟨-,c1⟩,⟨-,c2⟩,⟨-,c3⟩,⟨-,c4⟩,⟨-,c5⟩,-⟩:=HY.o;cases hS:jQ op n nm kids
 ·have HE:aj (jW p i op n nm kids=3):=ah (by unfold jW;rw[hS];rfl);go_wp2_with fail;go_ret;exact⟨bV HE.o.symm,HY.o.1⟩
 ·have HE:aj (jW p i op n nm kids=if decide (24<(ext kids).1)||decide (6<(ext kids).2)then 2 else uK p i op nm kids):=ah (by unfold jW;rw[hS];rfl);go_wp2_with fail;refine(V5 op n nm kids _ ao cap hok (HAT.o.same HY.o.1)).mono ?_;rintro e w2 ⟨rfl,hb2⟩;have HZ:=ah (HY.o.next hb2);clear HY hb2 c0 c1 c2 c3 c4 c5;obtain⟨-,⟨-,c0⟩,⟨-,c1⟩,⟨-,c2⟩,⟨-,c3⟩,⟨-,c4⟩,⟨-,c5⟩,-⟩:=HZ.o;generalize (ext kids).1=a at *;generalize (ext kids).2=d at *;cases h1:decide (24<a)
  ·cases h2:decide (6<d)
   ·have dL:=ah (HE.o.trans (by rw[h1,h2];rfl:_=uK p i op nm kids));have q1:a<=24:=(by simpa using h1);have q2:d<=6:=(by simpa using h2);go_wp2_with fail;refine(XT p i op n nm kids _ aK aM ao aH aD cap hi (HP.o.same HZ.o.1) hok (HAT.o.same HZ.o.1)).mono ?_;rintro e w3 ⟨rfl,hb3⟩;go_wp2_with fail;go_ret;exact⟨bV dL.o.symm,(HZ.o.next hb3).1⟩
   ·have dL:=ah (HE.o.trans (if_pos (by rw[h1,h2];rfl)));have q1:a<=24:=(by simpa using h1);have q2:6<d:=(by simpa using h2);go_wp2_with fail;go_ret;exact⟨bV dL.o.symm,HZ.o.1⟩
  ·have dL:=ah (HE.o.trans (if_pos (by rw[h1];rfl)));have q1:24<a:=by simpa using h1
   go_wp2_with fail;go_ret;exact⟨bV dL.o.symm,HZ.o.1⟩
namespace Md
def gu:List Int->Int
 | []=>0
 |a::r=>if a != 0 then a else gu r
def nest (b:Bool):Int:=if b then 7 else 0
def jY (ds:List De) (nm:ByteArray):ByteArray:=((ds.find? λd=>d.kind==5&&d.nm.toList==nm.toList).map (·.on)).getD ⟨#[]⟩
theorem RI (d:De) (r:List De) (nm:ByteArray):jY (d::r) nm=if d.kind==5&&d.nm.toList==nm.toList then d.on else jY r nm:=by
 unfold jY;rw[List.find?_cons];cases h:(d.kind==5&&d.nm.toList==nm.toList) <;> simp
end Md
def um (bc:Nat) (p:Pr) (aK aM:Option Addr) (aH aD:Nat) (i:Int) (cK:Option Addr) (wJ bQ bs bt:Nat):List (Nat×Nat×Value):=
 [(bc,0,.slice aK p.ds.length aH),(bc,1,.slice aM p.ts.length aD),(bc,2,.int .i64 i),(bc,3,.slice cK wJ bQ),(bc,4,.map (some bs)),(bc,5,.map (some bt))]
theorem mW (b:Bool) (w:World):
 Calls Tryz.prog 123 #[.bool b] w λe w'=>e= .returned (.int .i64 (nest b))∧w=w':=by
 cases b
 all_goals go_enter Tryz.func123,Tryz.ntmps123;go_wp2;go_ret;exact⟨rfl,rfl⟩
theorem kT (l:List Int) (w:World) (ao:Option Addr) (cap:Nat) (hl:l.length<=maxLen) (hat:gV w w.heap.size l ao 0):
 Calls Tryz.prog 121 #[.slice ao l.length cap] w λe w'=>e= .returned (.int .i64 (gu l))∧w=w':=by
 unfold maxLen at hl;generalize hres:gu l=res;have HR:=ah hres;clear hres;go_enter Tryz.func121,Tryz.ntmps121;go_wp2_with fail;go_loop [4,7] (λ_ s=> ∃(k:Nat) (R:List Int),s= .int .i64 k∧k+R.length=l.length∧res=gu R∧gV w w.heap.size R ao k) (λ_ s=>l.length -(intOf s).toNat)
 case atStart=>exact⟨0,l,rfl,by simp,HR.o.symm,hat⟩
 case round=>
  obtain⟨k,R,rfl,hlen,heq,hrow⟩:=hrel;have HE:=ah heq;clear heq;cases R with
  |nil=>
   obtain rfl:k=l.length:=by simpa using hlen
   go_wp2_with fail;go_ret;exact⟨bV HE.o.symm,rfl⟩
  |cons a R=>
   obtain⟨⟨b,off,rfl,hB,y0⟩,hrest⟩:=hrow;simp only[aA]at hlen;have hkl:k<l.length:=by omega
   cases hc:(a != 0)
   ·have dL:=ah (HE.o.trans (if_neg (by rw[hc];decide)));go_wp2_with fail;go_round
    case rel=>exact⟨k+1,R,by go_num,by omega,dL.o,hrest⟩
    case measure=>simp[intOf];omega
   ·have dL:=ah (HE.o.trans (if_pos hc));go_wp2_with fail;go_ret;exact⟨bV dL.o.symm,rfl⟩
section
variable (p:Pr) (w:World) (aK aM:Option Addr) (aH aD:Nat) (i:Int) (cK:Option Addr) (wJ bQ bs bt bc:Nat)
theorem kX (nm:ByteArray) (l:List Int) (ao:Option Addr) (cap:Nat) (hi:bW i) (hl:l.length<=maxLen) (hp:p.At w aK aM) (hw:gV w w.heap.size l ao 0) (hh:Holds w (um bc p aK aM aH aD i cK wJ bQ bs bt)):
 Calls Tryz.prog 122 #[.pointer (some ⟨bc,0,none⟩),.string nm,.slice ao l.length cap] w λe w'=>e= .returned (.int .i64 (dQ (mean p i nm) l))∧Below w.heap.size w w':=by
 have HH:=ah (show Sit w w _ from⟨ak _ _,hh⟩);have HP:=ah hp;have HW:=ah hw;clear hp hw hh;go_enter Tryz.func122,Tryz.ntmps122;go_wp2_with fail;obtain⟨T,F,Af,hst,hF,hnext⟩:=calm w;have HF:=ah hF;have dB:=ah hnext;clear hnext hF;have d0:=λx=>(HH.o.next (HF.o x)).2.1.2;have d1:=λx=>(HH.o.next (HF.o x)).2.2.1.2;have d2:=λx=>(HH.o.next (HF.o x)).2.2.2.1.2;have d3:=λx=>(HH.o.next (HF.o x)).2.2.2.2.1.2;have d4:=λx=>(HH.o.next (HF.o x)).2.2.2.2.2.1.2;have d5:=λx=>(HH.o.next (HF.o x)).2.2.2.2.2.2.1.2;refine jh F (by kernel_rfl) (by kernel_rfl) hst ?_
 repeat (any_goals (first|go_big_quiet_step ((go_at_call 147;refine(Bl p i nm l _ aK aM ao aH aD cap hi hl (HP.o.same (HF.o _)) (HW.o.same (HF.o _))).mono ?_;rintro e w' ⟨rfl,hb⟩;exact⟨rfl,dB.o _ _ hb⟩))|(refine wpQuiet_step (λK hK=> ?_);go_simp;first|(refine hK _ ?_;clear hK K)|(split <;> first|(refine hK _ ?_;clear hK K)|(apply Exists.intro;refine⟨λ_=> ?_,hK _ ?_⟩;((go_at_call 147;refine(Bl p i nm l _ aK aM ao aH aD cap hi hl (HP.o.same (HF.o _)) (HW.o.same (HF.o _))).mono ?_;rintro e w' ⟨rfl,hb⟩;exact⟨rfl,dB.o _ _ hb⟩));clear hK K)))))
 all_goals (refine wpQuiet_nil ?_;rintro _ ⟨x,rfl⟩)
 go_wp2_with fail;go_ret;exact⟨rfl,HF.o x⟩
theorem xV (op n:Int) (nm:ByteArray) (kids:bJ) (ao:Option Addr) (cap:Nat) (hi:bW i) (hp:p.At w aK aM) (hok:qP op n nm kids) (hat:kids.At w w.heap.size ao 0) (eH:eG w) (hh:Holds w (um bc p aK aM aH aD i cK wJ bQ bs bt)):
 Calls Tryz.prog 120 #[.pointer (some ⟨bc,0,none⟩),.agg #[.int .i64 op,.int .i64 n,.string nm,.slice ao kids.len cap]] w λe w'=>e= .returned (.int .i64 (jW p i op n nm kids))∧Below w.heap.size w w':=by
 have HH:=ah (show Sit w w _ from⟨ak _ _,hh⟩);have HP:=ah hp;have HAT:=ah hat;have jK:=ah eH;clear hp hat hh eH;go_enter Tryz.func120,Tryz.ntmps120;go_upto_region 1 with fail;generalize hW:World.alloc w _=W;generalize Value.agg #[_,_,_,_]=a0;have HX:=ah (HH.o.zi rfl (.int .i64 op) (.int .i64 n) (.string nm) (.slice ao kids.len cap) 60);rw[hW]at HX;clear hW;obtain⟨T,F,Af,hst,hF,hnext⟩:=calm W;have HF:=ah hF;have dB:=ah hnext;clear hnext hF;have d0:=λx=>(HX.o.next (HF.o x)).2.1.2;have d1:=λx=>(HX.o.next (HF.o x)).2.2.1.2;have d2:=λx=>(HX.o.next (HF.o x)).2.2.2.1.2;have d3:=λx=>(HX.o.next (HF.o x)).2.2.2.2.1.2;have d4:=λx=>(HX.o.next (HF.o x)).2.2.2.2.2.1.2;have d5:=λx=>(HX.o.next (HF.o x)).2.2.2.2.2.2.1.2;have d6:=λx=>(HX.o.next (HF.o x)).2.2.2.2.2.2.2.1.2;have d7:=λx=>(HX.o.next (HF.o x)).2.2.2.2.2.2.2.2.1.2;have d8:=λx=>(HX.o.next (HF.o x)).2.2.2.2.2.2.2.2.2.1.2;have d9:=λx=>(HX.o.next (HF.o x)).2.2.2.2.2.2.2.2.2.2.1.2;refine jh F (by kernel_rfl) (by kernel_rfl) hst ?_
 repeat (any_goals (first|go_big_quiet_step ((go_at_call 146;refine(Fp p i op n nm kids _ aK aM ao aH aD cap hi ((HP.o.same HX.o.1).same (HF.o _)) hok ((HAT.o.same HX.o.1).same (HF.o _)) ((jK.o.same HX.o.1).same (HF.o _))).mono ?_;rintro e w' ⟨rfl,hb⟩;exact⟨rfl,dB.o _ _ hb⟩))|(refine wpQuiet_step (λK hK=> ?_);go_simp;first|(refine hK _ ?_;clear hK K)|(split <;> first|(refine hK _ ?_;clear hK K)|(apply Exists.intro;refine⟨λ_=> ?_,hK _ ?_⟩;((go_at_call 146;refine(Fp p i op n nm kids _ aK aM ao aH aD cap hi ((HP.o.same HX.o.1).same (HF.o _)) hok ((HAT.o.same HX.o.1).same (HF.o _)) ((jK.o.same HX.o.1).same (HF.o _))).mono ?_;rintro e w' ⟨rfl,hb⟩;exact⟨rfl,dB.o _ _ hb⟩));clear hK K)))))
 all_goals (refine wpQuiet_nil ?_;rintro _ ⟨x,rfl⟩)
 go_wp2_with fail;go_ret;exact⟨rfl,(HX.o.next (HF.o x)).1⟩
theorem Nl (j:Nat) (t:Th) (r:List Th) (hd:p.ts.drop j=t::r) (hp:p.At w aK aM) (hh:Holds w (um bc p aK aM aH aD (j:Int) cK wJ bQ bs bt)):
 Calls Tryz.prog 127 #[.pointer (some ⟨bc,0,none⟩)] w λe w'=>e= .returned (.string t.nm)∧Below w.heap.size w w':=by
 have HH:=ah (show Sit w w _ from⟨ak _ _,hh⟩);have hj:j<p.ts.length:=by have:=congrArg List.length hd;simp at this;omega
 have hth:=hp.2.2.2.drop j;rw[hd,aU]at hth;obtain⟨⟨b,off,iR,eX,dH,cu,rfl,hB,x0,-⟩,-⟩:=hth;clear hp hd hh;obtain⟨-,⟨-,c0⟩,⟨-,c1⟩,⟨-,c2⟩,⟨-,c3⟩,⟨-,c4⟩,⟨-,c5⟩,-⟩:=HH.o;have hj0:(0:Int)<=j:=by omega
 have hj1:(j:Int)<p.ts.length:=by omega
 go_enter Tryz.func127,Tryz.ntmps127;go_wp2_with fail;go_quiet (fail);go_wp2_with fail;go_ret;exact⟨rfl,below_drewN (ak _ _) _⟩
theorem sP (nm:ByteArray) (hp:p.At w aK aM) (hh:Holds w (um bc p aK aM aH aD i cK wJ bQ bs bt)):
 Calls Tryz.prog 126 #[.pointer (some ⟨bc,0,none⟩),.string nm] w λe w'=>e= .returned (.string (jY p.ds nm))∧Below w.heap.size w w':=by
 have HH:=ah (show Sit w w _ from⟨ak _ _,hh⟩);have HP:=ah hp;have hld:=hp.1;unfold maxLen at hld;generalize hres:jY p.ds nm=res;have HR:=ah hres;clear hp hh hres;obtain⟨-,⟨-,c0⟩,⟨-,c1⟩,⟨-,c2⟩,⟨-,c3⟩,⟨-,c4⟩,⟨-,c5⟩,-⟩:=HH.o;go_enter Tryz.func126,Tryz.ntmps126;go_wp2_with fail;go_loopw [6,13] (λ_ s wr=> ∃(k:Nat) (R:List De),s= .int .i64 k∧k+R.length=p.ds.length∧res=jY R nm∧jo wr wr.heap.size R aK k∧Below w.heap.size w wr) (λ_ s _=>p.ds.length -(intOf s).toNat)
 case atStart=>exact⟨0,p.ds,rfl,by simp,HR.o.symm,HP.o.2.2.1,ak _ _⟩
 case round=>
  obtain⟨k,R,rfl,hlen,heq,hrow,hB⟩:=hrel;have HE:=ah heq;have HB:=ah hB;clear heq hB c0 c1 c2 c3 c4 c5;cases R with
  |nil=>
   obtain rfl:k=p.ds.length:=by simpa using hlen
   go_wp2_with fail;go_ret;exact⟨by rw[HE.o];rfl,HB.o⟩
  |cons d R=>
   obtain⟨⟨b,off,rfl,hB,x0,x1,x2,x3,x4,x5,hok⟩,hrest⟩:=hrow;simp only[aA]at hlen;have hkl:k<p.ds.length:=by omega
   rw[RI]at HE;have HB2:=ah (HB.o.trans ((au wr (.cells #[.int .i64 d.kind,.int .i64 d.line,.string d.nm,.int .i64 d.size,.int .i64 d.init,.string d.on] 43)).mono HB.o.size));clear hok;cases h5:(d.kind==5)
   ·have dL:=ah (HE.o.trans (if_neg (by rw[h5];simp)));go_wp2_with fail;go_roundw
    case rel=>exact⟨k+1,R,by go_num,by omega,dL.o,hrest.same (au _ _),HB2.o⟩
    case measure=>simp[intOf];omega
   ·cases hc:(d.nm.toList==nm.toList)
    ·have dL:=ah (HE.o.trans (if_neg (by rw[h5,hc];decide)));go_wp2_with fail;go_roundw
     case rel=>exact⟨k+1,R,by go_num,by omega,dL.o,hrest.same (au _ _),HB2.o⟩
     case measure=>simp[intOf];omega
    ·have dL:=ah (HE.o.trans (if_pos (by rw[h5,hc];rfl)));go_wp2_with fail;go_ret;exact⟨by rw[dL.o];rfl,HB2.o⟩
end
namespace Md
def fF:aY->List Int->Bool
 | .nil,_=>false
 | .cons h _ _ r,l=>(l.any λk=>h.op==k)||fF r l
def qV:aY->ByteArray->List Int->Bool
 | .nil,_,_=>false
 | .cons h _ _ r,nm,l=>(l.any λk=>h.op==k&&h.nm.toList==nm.toList)||qV r nm l
end Md
section
variable (p:Pr) (w:World) (aK aM:Option Addr) (aH aD:Nat) (i:Int) (cK:Option Addr) (bQ bs bt bc:Nat)
theorem lZ (ar:aY) (l:List Int) (ao:Option Addr) (cap:Nat) (hl:l.length<=maxLen) (hw:gV w w.heap.size l ao 0) (har:ar.len<=maxLen) (hat:ar.At w w.heap.size cK 0) (hh:Holds w (um bc p aK aM aH aD i cK ar.len bQ bs bt)):
 Calls Tryz.prog 124 #[.pointer (some ⟨bc,0,none⟩),.slice ao l.length cap] w λe w'=>e= .returned (.bool (fF ar l))∧Below w.heap.size w w':=by
 have HH:=ah (show Sit w w _ from⟨ak _ _,hh⟩);have HW:=ah hw;have HAT:=ah hat;generalize hres:fF ar l=res;have HR:=ah hres;unfold maxLen at hl har;clear hh hw hat hres;obtain⟨-,⟨-,c0⟩,⟨-,c1⟩,⟨-,c2⟩,⟨-,c3⟩,⟨-,c4⟩,⟨-,c5⟩,-⟩:=HH.o;go_enter Tryz.func124,Tryz.ntmps124;go_wp2_with fail;go_loopw [6,8,14,18,19,20] (λ_ _ s _ _ _ wr=> ∃(k:Nat) (R:aY),s= .int .i64 k∧k+R.len=ar.len∧res=fF R l∧R.At wr wr.heap.size cK k∧Below w.heap.size w wr) (λ_ _ s _ _ _ _=>ar.len -(intOf s).toNat)
 case atStart=>exact⟨0,ar,rfl,by simp,HR.o.symm,HAT.o,ak _ _⟩
 case round=>
  obtain⟨k,R,rfl,hlen,heq,hrow,hB⟩:=hrel;have HE:=ah heq;have HB:=ah hB;clear heq hB c0 c1 c2 c3 c4 c5;cases R with
  |nil=>
   obtain rfl:k=ar.len:=by simpa[aY.len]using hlen
   go_wp2_with fail;go_ret;exact⟨bR HE.o.symm,HB.o⟩
  |cons h b e R=>
   obtain⟨bl,off,s,rfl,hbl,hin,x0,x1,x2,x3,x4,x5,x6,x7,x8,x9,x10,hrest⟩:=aY.At.head hrow;have hkl:k<ar.len:=by simp only[aY.len]at hlen;omega
   clear hrow hin;go_upto_region 4 with fail;obtain⟨nb,hnb⟩: ∃n,wr.heap.size=n:=⟨_,rfl⟩;generalize hW2:World.alloc wr _=W2;have HY:aj (Sit wr W2 (rA nb h b e s [])):=ah (by rw[<- hW2];exact(Sit.start wr).uW hnb _ _ _ _ _ _ _ _ _ _ _ _);have HB2:=ah (HB.o.trans (HY.o.1.mono HB.o.size));have mQ:=ah (hrest.same HY.o.1);have KL:=HW.o.same HB2.o;rw[hnb];clear hW2 hnb x0 x1 x2 x3 x4 x5 x6 x7 x8 x9 x10 hrest;obtain⟨-,⟨-,c0⟩,⟨-,c1⟩,⟨-,c2⟩,⟨-,c3⟩,⟨-,c4⟩,⟨-,c5⟩,⟨-,c6⟩,⟨-,c7⟩,⟨-,c8⟩,⟨-,c9⟩,⟨-,c10⟩,-⟩:=HY.o;clear c1 c2 c3 c4 c5 c6 c7 c8 c9 c10;go_wp2_with fail;go_loop [8,20] (λ_ s'=> ∃(k':Nat) (Q:List Int),s'= .int .i64 k'∧k'+Q.length=l.length∧(l.any λk=>h.op==k)=(Q.any λk=>h.op==k)∧gV W2 W2.heap.size Q ao k') (λ_ s'=>l.length -(intOf s').toNat)
   case atStart=>exact⟨0,l,rfl,by simp,rfl,KL⟩
   case round=>
    obtain⟨k',Q,rfl,hlen',heq',hrow'⟩:=hrel;have HQ:=ah heq';clear heq' KL;cases Q with
    |nil=>
     obtain rfl:k'=l.length:=(by simpa using hlen');have HF:aj (res=fF R l):=ah (HE.o.trans (by rw[fF,HQ.o];rfl));go_wp2_with fail;go_roundw
     case rel=>exact⟨k+1,R,by go_num,by simp only[aY.len]at hlen;omega,HF.o,mQ.o,HB2.o⟩
     case measure=>simp[intOf];omega
    |cons q Q=>
     obtain⟨⟨b2,off2,rfl,hB2,z0⟩,hrest'⟩:=hrow';simp only[aA]at hlen';have hkl':k'<l.length:=(by omega);have G6:aj ((l.any λk=>h.op==k)=((h.op==q)||(Q.any λk=>h.op==k))):=ah (HQ.o.trans (by simp));cases hc:(h.op==q)
     ·have HF:=ah (G6.o.trans (by rw[hc];rfl:_=(Q.any λk=>h.op==k)));go_wp2_with fail;go_round
      case rel=>exact⟨k'+1,Q,by go_num,by omega,HF.o,hrest'⟩
      case measure=>simp[intOf];omega
     ·have HF:aj (res=true):=ah (HE.o.trans (by rw[fF,G6.o,hc];rfl));go_wp2_with fail;go_ret;exact⟨bR HF.o.symm,HB2.o⟩
theorem oP (ar:aY) (nm:ByteArray) (l:List Int) (ao:Option Addr) (cap:Nat) (hl:l.length<=maxLen) (hw:gV w w.heap.size l ao 0) (har:ar.len<=maxLen) (hat:ar.At w w.heap.size cK 0) (hh:Holds w (um bc p aK aM aH aD i cK ar.len bQ bs bt)):
 Calls Tryz.prog 125 #[.pointer (some ⟨bc,0,none⟩),.string nm,.slice ao l.length cap] w λe w'=>e= .returned (.bool (qV ar nm l))∧Below w.heap.size w w':=by
 have HH:=ah (show Sit w w _ from⟨ak _ _,hh⟩);have HW:=ah hw;have HAT:=ah hat;generalize hres:qV ar nm l=res;have HR:=ah hres;unfold maxLen at hl har;clear hh hw hat hres;obtain⟨-,⟨-,c0⟩,⟨-,c1⟩,⟨-,c2⟩,⟨-,c3⟩,⟨-,c4⟩,⟨-,c5⟩,-⟩:=HH.o;go_enter Tryz.func125,Tryz.ntmps125;go_wp2_with fail;go_loopw [8,10,16,20,21,22] (λ_ _ s _ _ _ wr=> ∃(k:Nat) (R:aY),s= .int .i64 k∧k+R.len=ar.len∧res=qV R nm l∧R.At wr wr.heap.size cK k∧Below w.heap.size w wr) (λ_ _ s _ _ _ _=>ar.len -(intOf s).toNat)
 case atStart=>exact⟨0,ar,rfl,by simp,HR.o.symm,HAT.o,ak _ _⟩
 case round=>
  obtain⟨k,R,rfl,hlen,heq,hrow,hB⟩:=hrel;have HE:=ah heq;have HB:=ah hB;clear heq hB c0 c1 c2 c3 c4 c5;cases R with
  |nil=>
   obtain rfl:k=ar.len:=by simpa[aY.len]using hlen
   go_wp2_with fail;go_ret;exact⟨bR HE.o.symm,HB.o⟩
  |cons h b e R=>
   obtain⟨bl,off,s,rfl,hbl,hin,x0,x1,x2,x3,x4,x5,x6,x7,x8,x9,x10,hrest⟩:=aY.At.head hrow;have hkl:k<ar.len:=by simp only[aY.len]at hlen;omega
   clear hrow hin;go_upto_region 4 with fail;obtain⟨nb,hnb⟩: ∃n,wr.heap.size=n:=⟨_,rfl⟩;generalize hW2:World.alloc wr _=W2;have HY:aj (Sit wr W2 (rA nb h b e s [])):=ah (by rw[<- hW2];exact(Sit.start wr).uW hnb _ _ _ _ _ _ _ _ _ _ _ _);have HB2:=ah (HB.o.trans (HY.o.1.mono HB.o.size));have mQ:=ah (hrest.same HY.o.1);have KL:=HW.o.same HB2.o;rw[hnb];clear hW2 hnb x0 x1 x2 x3 x4 x5 x6 x7 x8 x9 x10 hrest;obtain⟨-,⟨-,c0⟩,⟨-,c1⟩,⟨-,c2⟩,⟨-,c3⟩,⟨-,c4⟩,⟨-,c5⟩,⟨-,c6⟩,⟨-,c7⟩,⟨-,c8⟩,⟨-,c9⟩,⟨-,c10⟩,-⟩:=HY.o;clear c1 c3 c4 c5 c6 c7 c8 c9 c10;go_wp2_with fail;go_loop [10,22] (λ_ s'=> ∃(k':Nat) (Q:List Int),s'= .int .i64 k'∧k'+Q.length=l.length∧(l.any λk=>h.op==k&&h.nm.toList==nm.toList)=(Q.any λk=>h.op==k&&h.nm.toList==nm.toList)∧gV W2 W2.heap.size Q ao k') (λ_ s'=>l.length -(intOf s').toNat)
   case atStart=>exact⟨0,l,rfl,by simp,rfl,KL⟩
   case round=>
    obtain⟨k',Q,rfl,hlen',heq',hrow'⟩:=hrel;have HQ:=ah heq';clear heq' KL;cases Q with
    |nil=>
     obtain rfl:k'=l.length:=(by simpa using hlen');have HF:aj (res=qV R nm l):=ah (HE.o.trans (by rw[qV,HQ.o];rfl));go_wp2_with fail;go_roundw
     case rel=>exact⟨k+1,R,by go_num,by simp only[aY.len]at hlen;omega,HF.o,mQ.o,HB2.o⟩
     case measure=>simp[intOf];omega
    |cons q Q=>
     obtain⟨⟨b2,off2,rfl,hB2,z0⟩,hrest'⟩:=hrow';simp only[aA]at hlen';have hkl':k'<l.length:=(by omega);have G6:aj ((l.any λk=>h.op==k&&h.nm.toList==nm.toList)=((h.op==q&&h.nm.toList==nm.toList)||(Q.any λk=>h.op==k&&h.nm.toList==nm.toList))):=ah (HQ.o.trans (by simp));cases hc:(h.op==q)
     ·have HF:=ah (G6.o.trans (by rw[hc];rfl:_=(Q.any λk=>h.op==k&&h.nm.toList==nm.toList)));go_wp2_with fail;go_round
      case rel=>exact⟨k'+1,Q,by go_num,by omega,HF.o,hrest'⟩
      case measure=>simp[intOf];omega
     ·cases hn:(h.nm.toList==nm.toList)
      ·have HF:=ah (G6.o.trans (by rw[hc,hn];rfl:_=(Q.any λk=>h.op==k&&h.nm.toList==nm.toList)));rw[hn]at HF;go_wp2_with fail;go_round
       case rel=>exact⟨k'+1,Q,by go_num,by omega,HF.o,hrest'⟩
       case measure=>simp[intOf];omega
      ·have HF:aj (res=true):=ah (HE.o.trans (by rw[qV,G6.o,hc,hn];rfl));go_wp2_with fail;go_ret;exact⟨bR HF.o.symm,HB2.o⟩
end
namespace Md
def Te (p:Pr) (i:Int):bJ->Int
 | .nil=>0
 | .cons op n nm kids _=>jW p i op n nm kids
def Cg (p:Pr) (i:Int) (h:dD):Int:=
 if decide ((h.idx.len:Int)=0)then gu [dQ (mean p i h.nm) [1,2],jW p i h.dN h.xn h.dJ h.bG]else gu [dQ (mean p i h.nm) [3],Te p i h.idx,jW p i h.dN h.xn h.dJ h.bG]
end Md
theorem Bg (w:World) (a b c:Int) (t:TypeId):gV (w.alloc (.cells #[.int .i64 a,.int .i64 b,.int .i64 c] t)) (w.alloc (.cells #[.int .i64 a,.int .i64 b,.int .i64 c] t)).heap.size [a,b,c] (some ⟨w.heap.size,0,none⟩) 0:=
 ⟨⟨_,_,rfl,by simp,dZ w [.int .i64 a,.int .i64 b,.int .i64 c] t 0⟩,⟨_,_,rfl,by simp,dZ w [.int .i64 a,.int .i64 b,.int .i64 c] t 1⟩,⟨_,_,rfl,by simp,dZ w [.int .i64 a,.int .i64 b,.int .i64 c] t 2⟩,trivial⟩
theorem dP.nil {w:World} {K:Act->Prop} {a:Act} (h:K a):dP w K [] a:=h
section
variable (p:Pr) (w:World) (aK aM:Option Addr) (aH aD:Nat) (i:Int) (cK:Option Addr) (wJ bQ bs bt bc:Nat)
theorem Q0 (h:dD) (b e:aY) (s:Sl) (hi:bW i) (hp:p.At w aK aM) (hin:DF w h b e s) (eH:eG w) (hh:Holds w (um bc p aK aM aH aD i cK wJ bQ bs bt)):
 Calls Tryz.prog 119 #[.pointer (some ⟨bc,0,none⟩),iy h b e s] w λe' w'=>e'= .returned (.int .i64 (Cg p i h))∧Below w.heap.size w w':=by
 have HH:=ah (show Sit w w _ from⟨ak _ _,hh⟩);obtain⟨fQ,eU,fT,eu,dH,cu,iC,gy⟩:=s;have hil:=hin.1.2.2.2.2.1;have hxk:=hin.1.2.2.2.2.2.1;unfold maxLen at hil;have HE:aj (Cg p i h=if decide ((h.idx.len:Int)=0)then gu [dQ (mean p i h.nm) [1,2],jW p i h.dN h.xn h.dJ h.bG]else gu [dQ (mean p i h.nm) [3],Te p i h.idx,jW p i h.dN h.xn h.dJ h.bG]):=ah rfl;generalize Cg p i h=res at *;unfold iy;dsimp only;go_enter Tryz.func119,Tryz.ntmps119;go_upto_region 1 with fail;generalize hW:World.alloc w _=W;generalize Value.agg #[_,_,_,_,_,_,_,_,_,_,_]=a0;have HX:aj (Sit w W (rA w.heap.size h b e ⟨fQ,eU,fT,eu,dH,cu,iC,gy⟩ (um bc p aK aM aH aD i cK wJ bQ bs bt))):=ah (by rw[<- hW];exact HH.o.uW rfl _ _ _ _ _ _ _ _ _ _ _ _);clear hW HH;have HP:=ah (hp.same HX.o.1);have jK:=ah (eH.same HX.o.1);have OC:=ah (hin.2.2.1.same HX.o.1);have HAI:=ah (hin.2.1.same HX.o.1);have HK:aj (∀w',Below W.heap.size W w'->Holds w' (um bc p aK aM aH aD i cK wJ bQ bs bt)):=ah (λw' hb=>(HX.o.next hb).2.2.2.2.2.2.2.2.2.2.2.2);clear hp eH hh hin;have L0: ∀w',Below W.heap.size W w'->w'.cell? ⟨w.heap.size,0,none⟩=some (.int .i64 h.op):=λw' hb=>(HX.o.next hb).2.1.2;have L2: ∀w',Below W.heap.size W w'->w'.cell? ⟨w.heap.size,2,none⟩=some (.string h.nm):=λw' hb=>(HX.o.next hb).2.2.2.1.2;have L3: ∀w',Below W.heap.size W w'->w'.cell? ⟨w.heap.size,3,none⟩=some (.string h.arg):=λw' hb=>(HX.o.next hb).2.2.2.2.1.2;have L4: ∀w',Below W.heap.size W w'->w'.cell? ⟨w.heap.size,4,none⟩=some (.slice fQ h.idx.len eU):=λw' hb=>(HX.o.next hb).2.2.2.2.2.1.2;have L5: ∀w',Below W.heap.size W w'->w'.cell? ⟨w.heap.size,5,none⟩=some (.int .i64 h.dN):=λw' hb=>(HX.o.next hb).2.2.2.2.2.2.1.2;have L6: ∀w',Below W.heap.size W w'->w'.cell? ⟨w.heap.size,6,none⟩=some (.int .i64 h.xn):=λw' hb=>(HX.o.next hb).2.2.2.2.2.2.2.1.2;have L7: ∀w',Below W.heap.size W w'->w'.cell? ⟨w.heap.size,7,none⟩=some (.string h.dJ):=λw' hb=>(HX.o.next hb).2.2.2.2.2.2.2.2.1.2;have L8: ∀w',Below W.heap.size W w'->w'.cell? ⟨w.heap.size,8,none⟩=some (.slice fT h.bG.len eu):=λw' hb=>(HX.o.next hb).2.2.2.2.2.2.2.2.2.1.2;have l4:=L4 W (ak _ _);cases hix:h.idx with
 |nil=>
  have h0:h.idx.len=0:=by rw[hix];rfl
  have HF:=ah (HE.o.trans (if_pos (by rw[h0];rfl)));rw[h0]at l4;clear HE hix L4 h0;go_upto_region 2 with fail;refine rR (λw'=>Below W.heap.size W w') (λw w'=>Below w.heap.size w w') [9,10,11,12,13,14,15,16,17,18,19,4] (by kernel_rfl) (by kernel_rfl) (λ_=>ak _ _) (by rfl) (below_drewN (ak _ _) 1) ?_
  iterate 3
   apply fu.step
   case bg=>intro β A w' hβ hC hO hD;have e0:=hO 0 (by rfl);have e3:=hO 3 (by rfl);simp[Act.eval]at e0 e3;simp[Act.eval]at hD;simp[go_sem,gd,Oper.wp,e0,e3,hD,L2,hC];exact aR.mk (ak _ _) hC (bZ.mk _ _)
  refine fu.some (λv w'=> ∃b,v= .slice (some ⟨b,0,none⟩) 2 2∧gV w' w'.heap.size [1,2] (some ⟨b,0,none⟩) 0) ?_ ?_ ?_
  ·rintro v w w' hle ⟨b,rfl,hin⟩;exact⟨b,rfl,hin.same hle⟩
  ·intro β A w' hβ hC hO hD;simp[go_sem,gd,Oper.wp];exact aR.mk (d:=_) (v:= .slice (some ⟨_,0,none⟩) 2 2) (au _ _) (hC.trans ((au _ _).mono hC.size)) ⟨_,rfl,mI _ 1 2 _⟩
  apply fu.step
  case bg=>intro β A w' hβ hC hO hD;simp[Act.eval]at hD;obtain⟨d9,uo,b12,AL,aU2⟩:=hD;simp[go_sem,gd,Oper.wp,d9,uo,AL];refine(kX p w' aK aM aH aD _ cK _ bQ bs bt bc h.nm [1,2] _ 2 hi (by decide) (HP.o.same hC) aU2 (HK.o _ hC)).mono ?_;rintro e' w2 ⟨rfl,hb⟩;exact aR.mk hb (hC.trans (hb.mono hC.size)) (bZ.mk _ _)
  iterate 3
   apply fu.step
   case bg=>intro β A w' hβ hC hO hD;have e0:=hO 0 (by rfl);have e3:=hO 3 (by rfl);simp[Act.eval]at e0 e3;simp[Act.eval]at hD;simp[go_sem,gd,Oper.wp,e0,e3,hD,L5,L6,L7,L8,hC];exact aR.mk (ak _ _) hC (bZ.mk _ _)
  apply fu.step
  case bg=>intro β A w' hβ hC hO hD;simp[Act.eval]at hD;obtain⟨vV,AO,-⟩:=hD;simp[go_sem,gd,Oper.wp,vV,AO];refine(xV p w' aK aM aH aD _ cK _ bQ bs bt bc h.dN h.xn h.dJ h.bG fT eu hi (HP.o.same hC) hxk (OC.o.same hC) (jK.o.same hC) (HK.o _ hC)).mono ?_;rintro e' w2 ⟨rfl,hb⟩;exact aR.mk hb (hC.trans (hb.mono hC.size)) (bZ.mk _ _)
  refine fu.some (λv w'=> ∃b,v= .slice (some ⟨b,0,none⟩) 2 2∧gV w' w'.heap.size [dQ (mean p i h.nm) [1,2],jW p i h.dN h.xn h.dJ h.bG] (some ⟨b,0,none⟩) 0) ?_ ?_ ?_
  ·rintro v w w' hle ⟨b,rfl,hin⟩;exact⟨b,rfl,hin.same hle⟩
  ·intro β A w' hβ hC hO hD;simp[Act.eval]at hD;simp[go_sem,gd,Oper.wp,hD];exact aR.mk (d:=_) (v:= .slice (some ⟨_,0,none⟩) 2 2) (au _ _) (hC.trans ((au _ _).mono hC.size)) ⟨_,rfl,mI _ _ _ _⟩
  apply fu.step
  case bg=>intro β A w' hβ hC hO hD;simp[Act.eval]at hD;obtain⟨⟨b18,AP,aU3⟩,-⟩:=hD;simp[go_sem,gd,Oper.wp,AP];refine(kT [dQ (mean p i h.nm) [1,2],jW p i h.dN h.xn h.dJ h.bG] w' _ _ (by simp[maxLen]) aU3).mono ?_;rintro e' w2 ⟨rfl,rfl⟩;exact aR.mk (ak _ _) hC (bZ.mk _ _)
  apply fu.step
  case bg=>intro β A w' hβ hC hO hD;have e0:=hO 0 (by rfl);have e3:=hO 3 (by rfl);simp[Act.eval]at e0 e3;simp[Act.eval]at hD;simp[go_sem,gd,Oper.wp,e0,e3,hD];exact aR.mk (ak _ _) hC (bZ.mk _ _)
  intro wz dF;intro v0 h0 v1 h1 v2 h2 v3 h3 v4 h4 v5 h5 v6 h6 v7 h7 v8 h8 v9 h9 v10 h10 v11 h11;have Ju:v11=_:=h11;subst Ju;clear h0 h1 h2 h3 h4 h5 h6 h7 h8 h9 h10 h11;refine dP.nil ?_;go_wp2_with fail;go_ret;exact⟨bV HF.o.symm,(HX.o.next dF).1⟩
 |cons op' n' nm' gZ rest=>
  have hrow:=HAI.o;rw[hix]at hrow;have HF:aj (res=gu [dQ (mean p i h.nm) [3],jW p i op' n' nm' gZ,jW p i h.dN h.xn h.dJ h.bG]):=ah (HE.o.trans ((if_neg (by rw[hix,decide_eq_true_iff];simp only[bJ.len];omega)).trans (by rw[hix];rfl)));have hpos:0<h.idx.len:=by rw[hix];simp[bJ.len]
  have hpos':(0:Int)<h.idx.len:=by omega
  have hne0:((h.idx.len:Int)==0)=false:=by rw[beq_eq_false_iff_ne];omega
  obtain⟨⟨b',off',mF,cap',rfl,mV,x0,x1,x2,x3,hok',lK⟩,-⟩:=hrow;simp only[Nat.zero_mul,Nat.add_zero]at x0 x1 x2 x3;have M0:=ko mV x0;have M1:=ko mV x1;have M2:=ko mV x2;have M3:=ko mV x3;have HAK:=ah lK;clear HE hix x0 x1 x2 x3 lK;go_upto_region 3 with fail;refine rR (λw'=>Below W.heap.size W w') (λw w'=>Below w.heap.size w w') [20,21,22,23,24,25,26,27,28,29,30,31,32,33,34,35,36,4] (by kernel_rfl) (by kernel_rfl) (λ_=>ak _ _) (by rfl) (below_drewN (ak _ _) 1) ?_
  iterate 3
   apply fu.step
   case bg=>intro β A w' hβ hC hO hD;have e0:=hO 0 (by rfl);have e3:=hO 3 (by rfl);simp[Act.eval]at e0 e3;simp[Act.eval]at hD;simp[go_sem,gd,Oper.wp,e0,e3,hD,L2,hC];exact aR.mk (ak _ _) hC (bZ.mk _ _)
  refine fu.some (λv w'=> ∃b,v= .slice (some ⟨b,0,none⟩) 1 1∧gV w' w'.heap.size [3] (some ⟨b,0,none⟩) 0) ?_ ?_ ?_
  ·rintro v w w' hle ⟨b,rfl,hin⟩;exact⟨b,rfl,hin.same hle⟩
  ·intro β A w' hβ hC hO hD;simp[go_sem,gd,Oper.wp];exact aR.mk (d:=_) (v:= .slice (some ⟨_,0,none⟩) 1 1) (au _ _) (hC.trans ((au _ _).mono hC.size)) ⟨_,rfl,jq _ 3 _⟩
  apply fu.step
  case bg=>intro β A w' hβ hC hO hD;simp[Act.eval]at hD;obtain⟨d20,d22,b23,d23,aU4⟩:=hD;simp[go_sem,gd,Oper.wp,d20,d22,d23];refine(kX p w' aK aM aH aD _ cK _ bQ bs bt bc h.nm [3] _ 1 hi (by decide) (HP.o.same hC) aU4 (HK.o _ hC)).mono ?_;rintro e' w2 ⟨rfl,hb⟩;exact aR.mk hb (hC.trans (hb.mono hC.size)) (bZ.mk _ _)
  iterate 5
   apply fu.step
   case bg=>intro β A w' hβ hC hO hD;have e0:=hO 0 (by rfl);have e3:=hO 3 (by rfl);simp[Act.eval]at e0 e3;simp[Act.eval]at hD;simp[go_sem,gd,Oper.wp,e0,e3,hD,L4,hC,hpos,hpos',M0,M1,M2,M3];exact aR.mk (ak _ _) hC (bZ.mk _ _)
  apply fu.step
  case bg=>intro β A w' hβ hC hO hD;simp[Act.eval]at hD;obtain⟨d25,d29,-⟩:=hD;simp[go_sem,gd,Oper.wp,d25,d29];refine(xV p w' aK aM aH aD _ cK _ bQ bs bt bc op' n' nm' gZ mF cap' hi (HP.o.same hC) hok' (HAK.o.same hC) (jK.o.same hC) (HK.o _ hC)).mono ?_;rintro e' w2 ⟨rfl,hb⟩;exact aR.mk hb (hC.trans (hb.mono hC.size)) (bZ.mk _ _)
  iterate 3
   apply fu.step
   case bg=>intro β A w' hβ hC hO hD;have e0:=hO 0 (by rfl);have e3:=hO 3 (by rfl);simp[Act.eval]at e0 e3;simp[Act.eval]at hD;simp[go_sem,gd,Oper.wp,e0,e3,hD,L5,L6,L7,L8,hC];exact aR.mk (ak _ _) hC (bZ.mk _ _)
  apply fu.step
  case bg=>intro β A w' hβ hC hO hD;simp[Act.eval]at hD;obtain⟨d31,d33,-⟩:=hD;simp[go_sem,gd,Oper.wp,d31,d33];refine(xV p w' aK aM aH aD _ cK _ bQ bs bt bc h.dN h.xn h.dJ h.bG fT eu hi (HP.o.same hC) hxk (OC.o.same hC) (jK.o.same hC) (HK.o _ hC)).mono ?_;rintro e' w2 ⟨rfl,hb⟩;exact aR.mk hb (hC.trans (hb.mono hC.size)) (bZ.mk _ _)
  refine fu.some (λv w'=> ∃b,v= .slice (some ⟨b,0,none⟩) 3 3∧gV w' w'.heap.size [dQ (mean p i h.nm) [3],jW p i op' n' nm' gZ,jW p i h.dN h.xn h.dJ h.bG] (some ⟨b,0,none⟩) 0) ?_ ?_ ?_
  ·rintro v w w' hle ⟨b,rfl,hin⟩;exact⟨b,rfl,hin.same hle⟩
  ·intro β A w' hβ hC hO hD;simp[Act.eval]at hD;simp[go_sem,gd,Oper.wp,hD];exact aR.mk (d:=_) (v:= .slice (some ⟨_,0,none⟩) 3 3) (au _ _) (hC.trans ((au _ _).mono hC.size)) ⟨_,rfl,Bg _ _ _ _ _⟩
  apply fu.step
  case bg=>intro β A w' hβ hC hO hD;simp[Act.eval]at hD;obtain⟨⟨b35,d35,aU5⟩,-⟩:=hD;simp[go_sem,gd,Oper.wp,d35];refine(kT [dQ (mean p i h.nm) [3],jW p i op' n' nm' gZ,jW p i h.dN h.xn h.dJ h.bG] w' _ _ (by simp[maxLen]) aU5).mono ?_;rintro e' w2 ⟨rfl,rfl⟩;exact aR.mk (ak _ _) hC (bZ.mk _ _)
  apply fu.step
  case bg=>intro β A w' hβ hC hO hD;have e0:=hO 0 (by rfl);have e3:=hO 3 (by rfl);simp[Act.eval]at e0 e3;simp[Act.eval]at hD;simp[go_sem,gd,Oper.wp,e0,e3,hD];exact aR.mk (ak _ _) hC (bZ.mk _ _)
  intro wz dF;intro v0 h0 v1 h1 v2 h2 v3 h3 v4 h4 v5 h5 v6 h6 v7 h7 v8 h8 v9 h9 v10 h10 v11 h11 v12 h12 v13 zT v14 tN v15 AU v16 h16 v17 IZ;have bt1:v17=_:=IZ;subst bt1;clear h0 h1 h2 h3 h4 h5 h6 h7 h8 h9 h10 h11 h12 zT tN AU h16 IZ;refine dP.nil ?_;go_wp2_with fail;go_ret;exact⟨bV HF.o.symm,(HX.o.next dF).1⟩
end
namespace Md
def mD (pre:List De) (l:List UInt8):Int:=((pre.find? λd=>d.nm.toList==l).map gI).getD 0
def dc (d:De) (c:Int):Int:=if d.kind==1||d.kind==2 then c+max d.size 1 else c
def dl (d:De) (l:Int):Int:=if d.kind==3||d.kind==4 then l+1 else l
def dn (d:De) (n:Int):Int:=if d.kind==5 then n+1 else n
def df (d:De) (f:Int):Int:=if d.kind==6 then f+1 else f
def lim (c l n f:Int):Bool:=((decide (12<c)||decide (4<l))||decide (2<n))||decide (2<f)
def mg:List De->List De->Int->Int->Int->Int->Int×Int
 | [],_,_,_,_,_=>(0,0)
 |d::r,pre,c,l,n,f=>
  if mD pre d.nm.toList != 0 then(4,d.line)
  else if decide (4<d.size)then(2,d.line)
  else if lim (dc d c) (dl d l) (dn d n) (df d f)then(2,d.line)
  else if d.kind==5&&mD pre d.on.toList==0 then(5,d.line)
  else if d.kind==5&&mD pre d.on.toList != 4 then(6,d.line)
  else mg r (pre++[d]) (dc d c) (dl d l) (dn d n) (df d f)
theorem TV {pre:List De} {l:List UInt8} (h:(mD pre l != 0)=false):pre.find? (λd=>d.nm.toList==l)=none:=by
 unfold mD at h;cases hf:pre.find? (λd=>d.nm.toList==l)with
 |none=>rfl
 |some d=>rw[hf]at h;have:=sU d;simp at h;omega
theorem TW {pre:List De} {d:De} (h:(mD pre d.nm.toList != 0)=false) (l:List UInt8):(if l=d.nm.toList then gI d else mD pre l)=mD (pre++[d]) l:=by
 unfold mD;rw[List.find?_append];by_cases hl:l=d.nm.toList
 ·subst hl;rw[if_pos rfl,TV h];simp
 ·rw[if_neg hl];have:(d.nm.toList==l)=false:=by rw[beq_eq_false_iff_ne];exact λe=>hl e.symm
  simp[this]
theorem V3 (d:De):(gI d==6)=(d.kind==5):=by unfold gI;grind
theorem yE {d:De} (h:jG d=true):1<=d.kind∧d.kind<=6∧0<=d.size∧(d.size=0∨d.kind=1):=by
 unfold jG at h;simp at h;omega
theorem Gv (d:De) (r pre:List De) (c l n f:Int):mg (d::r) pre c l n f=(if mD pre d.nm.toList != 0 then(4,d.line)
 else if decide (4<d.size)then(2,d.line)
 else if lim (dc d c) (dl d l) (dn d n) (df d f)then(2,d.line)
 else if d.kind==5&&mD pre d.on.toList==0 then(5,d.line)
 else if d.kind==5&&mD pre d.on.toList != 4 then(6,d.line)
 else mg r (pre++[d]) (dc d c) (dl d l) (dn d n) (df d f)):=rfl
end Md
theorem mP.congr {w:World} {b n:Nat} {f g:List UInt8->Int} (h:mP w b n f) (hfg: ∀l,f l=g l):mP w b n g:=by
 obtain⟨D,h1,h2⟩:=h;exact⟨D,h1,λl=>by rw[h2,hfg]⟩
theorem jF.congr {w:World} {b n:Nat} {f g:List UInt8->Bool} (h:jF w b n f) (hfg: ∀l,f l=g l):jF w b n g:=by
 obtain⟨D,h1,h2⟩:=h;exact⟨D,h1,λl=>by rw[h2,hfg]⟩
def ax2 (ds:List De) (w:World) (res:Int×Int) (g:Nat) (s5 s6 s7 s8 s15:Value) (wr:World):Prop:=
 ∃(k:Nat) (pre R:List De) (c l n f:Int),g=R.length∧s15= .int .i64 k∧pre++R=ds∧pre.length=k∧s5= .int .i64 c∧s6= .int .i64 l∧s7= .int .i64 n∧s8= .int .i64 f∧
  (0<=c∧c<=12∧0<=l∧l<=4∧0<=n∧n<=2∧0<=f∧f<=2)∧res=mg R pre c l n f∧mP wr w.heap.size k (mD pre)∧Below w.heap.size w wr
theorem Jq (ds:List De) (w:World) (ao:Option Addr) (cap:Nat) (hl:ds.length<=maxLen) (hat:jo w w.heap.size ds ao 0) (hsh: ∀d∈ds,jG d=true):
 Calls Tryz.prog 30 #[.slice ao ds.length cap] w λe w'=>e= .returned (.tuple #[.int .i64 (mg ds [] 0 0 0 0).1,.int .i64 (mg ds [] 0 0 0 0).2])∧Below w.heap.size w w':=by
 generalize hres:mg ds [] 0 0 0 0=res;have HR:=ah hres;have HAT:=ah hat;have BR:=ah hsh;have hl':=hl;unfold maxLen at hl;clear hres hat hsh;have hmm:= @run_makeMap Tryz.prog;go_enter Tryz.func30,Tryz.ntmps30;go_wp2_with fail;go_loopg [5,6,7,8,10,11,15] ds.length (λg s5 s6 s7 s8 _ _ s15 wr=>ax2 ds w res g s5 s6 s7 s8 s15 wr)
 case atStart=>exact⟨0,[],ds,0,0,0,0,rfl,rfl,rfl,rfl,rfl,rfl,rfl,rfl,by decide,HR.o.symm,(mP.made w).congr (λ_=>rfl),au _ _⟩
 case round=>
  obtain⟨k,pre,R,c,l,n,f,rfl,rfl,hds,hk,rfl,rfl,rfl,rfl,⟨q1,q2,l1,l2,n1,n2,f1,f2⟩,hr,hmap,hB⟩:=hrel;have HE:=ah hr;have HM:=ah hmap;have HB:=ah hB;clear hr hmap hB HR;have hlen:k+R.length=ds.length:=by rw[<- hds,ay,hk]
  have hrow:=(HAT.o.below HB.o).drop k;rw[aU,<- hds,<- hk,List.drop_left]at hrow;rw[hk]at hrow;cases R with
  |nil=>
   obtain rfl:k=ds.length:=by simpa using hlen
   have HF:=ah (HE.o.trans (rfl:_=((0:Int),(0:Int))));clear HE hds hk hrow;go_wp2_with fail
   go_ret2
   exact⟨jN (congrArg Prod.fst HF.o) (congrArg Prod.snd HF.o),HB.o⟩
  |cons d R=>
   have hsd:=yE (BR.o d (by rw[<- hds];simp));have vg:=ah hds;have HK:=ah hk;clear hds hk;obtain⟨⟨b,off,rfl,mV,x0,x1,x2,x3,x4,x5,hok⟩,-⟩:=hrow;simp only[aA]at hlen;have hkl:k<ds.length:=by omega
   obtain⟨g1,g2,g3,g4⟩:=hsd;rw[Gv]at HE;go_upto_region 6 with fail;obtain⟨nb,hnb⟩: ∃n,wr.heap.size=n:=⟨_,rfl⟩;generalize hW2:World.alloc wr _=W2;have HB2:aj (Below w.heap.size w W2):=ah (by rw[<- hW2];exact HB.o.alloc HB.o.size _);have HY:aj (Sit wr W2 [(nb,0,.int .i64 d.kind),(nb,1,.int .i64 d.line),(nb,2,.string d.nm),(nb,3,.int .i64 d.size),(nb,4,.int .i64 d.init),(nb,5,.string d.on)]):=ah (by rw[<- hW2];exact(Sit.start wr).PV hnb _ _ _ _ _ _ _);have OY:=ah (HM.o.next HY.o.1);rw[hnb];clear hW2 hnb x0 x1 x2 x3 x4 x5 HM HB;obtain⟨-,⟨-,c0⟩,⟨-,c1⟩,⟨-,c2⟩,⟨-,c3⟩,⟨-,c4⟩,⟨-,c5⟩,-⟩:=HY.o;have hk1:=OY.o.look d.nm hok.2.2.1;cases h0:(mD pre d.nm.toList != 0)
   case true=>
    as_aux_lemma=>
     have HF:=ah (HE.o.trans (if_pos h0));go_wp2_with fail;go_quiet (fail);go_wp2_with fail
     go_ret2
     exact⟨jN (congrArg Prod.fst HF.o) (congrArg Prod.snd HF.o),below_drewN HB2.o _⟩
   have HE2:=ah (HE.o.trans (if_neg (by rw[h0];decide)));clear HE;go_upto_region 8 with fail;cases h1:decide (4<d.size)
   case true=>
    as_aux_lemma=>
     have HF:=ah (HE2.o.trans (if_pos h1));have h1':4<d.size:=(by simpa using h1);go_wp2_with fail;go_quiet (fail);go_wp2_with fail
     go_ret2
     exact⟨jN (congrArg Prod.fst HF.o) (congrArg Prod.snd HF.o),below_drewN HB2.o _⟩
   have pG:=ah (HE2.o.trans (if_neg (by rw[h1];decide)));have h1':d.size<=4:=by simpa using h1
   clear HE2 h1;go_upto_region 10 with fail;go_wp2_with fail;refine(En d _).mono ?_;rintro e w3 ⟨rfl,hb3⟩;have HZ:=ah (HY.o.next hb3);have HB3:=ah (HB2.o.trans (hb3.mono HB2.o.size));have tZ:=ah (OY.o.next hb3);clear hb3 HY HB2 OY c0 c1 c2 c3 c4 c5 hk1;have HFV:=ah (V3 d);have HDM:aj (∃m,gI d=m):=ah ⟨_,rfl⟩;obtain⟨-,⟨-,c0⟩,⟨-,c1⟩,⟨-,c2⟩,⟨-,c3⟩,⟨-,c4⟩,⟨-,c5⟩,-⟩:=HZ.o;go_upto_block 2 with(fail);go_cut [5,6,7,8,11,33] (λs5 s6 s7 s8 s11 _ W3=>w3=W3∧s11= .int .i64 (gI d)∧s5= .int .i64 (dc d c)∧s6= .int .i64 (dl d l)∧s7= .int .i64 (dn d n)∧s8= .int .i64 (df d f))
   case first=>
    as_aux_lemma=>
     have hkd:d.kind=1∨d.kind=2∨d.kind=3∨d.kind=4∨d.kind=5∨d.kind=6:=(by omega);rcases hkd with hkd|hkd|hkd|hkd|hkd|hkd
     ·by_cases hs0:d.size=0
      ·have hm:gI d=2:=(by simp[gI,hkd,hs0]);have HA:aj (dc d c=c+1∧dl d l=l∧dn d n=n∧df d f=f):=ah (by simp[dc,dl,dn,df,hkd,hs0] <;> first|rfl|omega);have DZ:=ah hm;rw[hm];clear hm hkd hs0;go_wp2_with fail;go_meet;exact⟨rfl,by rw[DZ.o],by rw[HA.o.1],by rw[HA.o.2.1],by rw[HA.o.2.2.1],by rw[HA.o.2.2.2]⟩
      ·have hm:gI d=3:=(by simp[gI,hkd,hs0]);have HA:aj (dc d c=c+d.size∧dl d l=l∧dn d n=n∧df d f=f):=ah (by simp[dc,dl,dn,df,hkd] <;> first|rfl|omega);have DZ:=ah hm;rw[hm];clear hm hkd hs0;go_wp2_with fail;go_meet;exact⟨rfl,by rw[DZ.o],by rw[HA.o.1],by rw[HA.o.2.1],by rw[HA.o.2.2.1],by rw[HA.o.2.2.2]⟩
     ·have hs0:d.size=0:=(by omega);have hm:gI d=2:=(by simp[gI,hkd]);have HA:aj (dc d c=c+1∧dl d l=l∧dn d n=n∧df d f=f):=ah (by simp[dc,dl,dn,df,hkd,hs0] <;> first|rfl|omega);have DZ:=ah hm;rw[hm];clear hm hkd hs0;go_wp2_with fail;go_meet;exact⟨rfl,by rw[DZ.o],by rw[HA.o.1],by rw[HA.o.2.1],by rw[HA.o.2.2.1],by rw[HA.o.2.2.2]⟩
     ·have hm:gI d=4:=(by simp[gI,hkd]);have HA:aj (dc d c=c∧dl d l=l+1∧dn d n=n∧df d f=f):=ah (by simp[dc,dl,dn,df,hkd]);have DZ:=ah hm;rw[hm];clear hm hkd;go_wp2_with fail;go_meet;exact⟨rfl,by rw[DZ.o],by rw[HA.o.1],by rw[HA.o.2.1],by rw[HA.o.2.2.1],by rw[HA.o.2.2.2]⟩
     ·have hm:gI d=5:=(by simp[gI,hkd]);have HA:aj (dc d c=c∧dl d l=l+1∧dn d n=n∧df d f=f):=ah (by simp[dc,dl,dn,df,hkd]);have DZ:=ah hm;rw[hm];clear hm hkd;go_wp2_with fail;go_meet;exact⟨rfl,by rw[DZ.o],by rw[HA.o.1],by rw[HA.o.2.1],by rw[HA.o.2.2.1],by rw[HA.o.2.2.2]⟩
     ·have hm:gI d=6:=(by simp[gI,hkd]);have HA:aj (dc d c=c∧dl d l=l∧dn d n=n+1∧df d f=f):=ah (by simp[dc,dl,dn,df,hkd]);have DZ:=ah hm;rw[hm];clear hm hkd;go_wp2_with fail;go_meet;exact⟨rfl,by rw[DZ.o],by rw[HA.o.1],by rw[HA.o.2.1],by rw[HA.o.2.2.1],by rw[HA.o.2.2.2]⟩
     ·have hm:gI d=7:=(by simp[gI,hkd]);have HA:aj (dc d c=c∧dl d l=l∧dn d n=n∧df d f=f+1):=ah (by simp[dc,dl,dn,df,hkd]);have DZ:=ah hm;rw[hm];clear hm hkd;go_wp2_with fail;go_meet;exact⟨rfl,by rw[DZ.o],by rw[HA.o.1],by rw[HA.o.2.1],by rw[HA.o.2.2.1],by rw[HA.o.2.2.2]⟩
   obtain⟨rfl,rfl,rfl,rfl,rfl,rfl⟩:=hcut;have hc':0<=dc d c∧dc d c<=16:=by unfold dc;split <;> omega
   have hl'':0<=dl d l∧dl d l<=5:=by unfold dl;split <;> omega
   have hn':0<=dn d n∧dn d n<=3:=by unfold dn;split <;> omega
   have hf':0<=df d f∧df d f<=3:=by unfold df;split <;> omega
   generalize hcc:dc d c=c' at *;generalize hll:dl d l=l' at *;generalize hnn:dn d n=n' at *;generalize TA:df d f=f' at *;clear hcc hll hnn TA;go_upto_region 23 with fail;go_cut [70] (λs' W3=>w3=W3∧s'= .bool (lim c' l' n' f'))
   case first=>
    as_aux_lemma=>
     have HF:aj (lim c' l' n' f'=(((decide (12<c')||decide (4<l'))||decide (2<n'))||decide (2<f'))):=ah rfl;go_wp2_with fail
     all_goals go_meet
     all_goals exact⟨rfl,by first|(rw[HF.o];done)|(rw[HF.o];congr 1;go_light;grind)⟩
   obtain⟨rfl,rfl⟩:=hcut;cases h2:lim c' l' n' f'
   case true=>
    as_aux_lemma=>
     have HF:=ah (pG.o.trans (if_pos h2));go_wp2_with fail;go_quiet (fail);go_wp2_with fail
     go_ret2
     exact⟨jN (congrArg Prod.fst HF.o) (congrArg Prod.snd HF.o),below_drewN HB3.o _⟩
   have Ap:=ah (pG.o.trans (if_neg (by rw[h2];decide)));have hlim:c'<=12∧l'<=4∧n'<=2∧f'<=2:=by unfold lim at h2;simp at h2;omega
   clear pG h2;have hkm:k<maxLen:=by omega
   cases h5:(d.kind==5)
   ·have h6:(gI d==6)=false:=HFV.o.trans h5;have HF:=ah (Ap.o.trans ((if_neg (by rw[h5];simp)).trans (if_neg (by rw[h5];simp))));clear Ap;obtain⟨w4,hup,wU,hg4⟩:=tZ.o.put (by omega) d.nm hok.2.2.1 (gI d) (by have:=sU d;unfold bW;omega);have qp:=ah ((wU.congr (TW h0)));have eF:=ah (HB3.o.trans (cZ hg4 (aB _) HB3.o.size));clear wU hg4;go_wp2_with fail;go_roundg R.length
    case measure=>simp
    case rel=>exact⟨k+1,pre++[d],R,c',l',n',f',rfl,by go_num,by rw[List.append_assoc];exact vg.o,by rw[ay,HK.o];rfl,rfl,rfl,rfl,rfl,by omega,HF.o,qp.o,eF.o⟩
   ·have h6:(gI d==6)=true:=HFV.o.trans h5;have hk2:=tZ.o.look d.on hok.2.2.2.2.2;generalize hmo:mD pre d.on.toList=mo at *;clear hmo;cases h7:(mo==0)
    case true=>
     as_aux_lemma=>
      have HF:=ah (Ap.o.trans (if_pos (by rw[h5,h7];rfl)));go_wp2_with fail;go_quiet (fail);go_wp2_with fail
      go_ret2
      exact⟨jN (congrArg Prod.fst HF.o) (congrArg Prod.snd HF.o),below_drewN HB3.o _⟩
    have MK:=ah (Ap.o.trans (if_neg (by rw[h5,h7];decide)));clear Ap;cases h8:(mo != 4)
    case true=>
     as_aux_lemma=>
      have HF:=ah (MK.o.trans (if_pos (by rw[h5,h8];rfl)));go_wp2_with fail;go_quiet (fail);go_wp2_with fail
      go_ret2
      exact⟨jN (congrArg Prod.fst HF.o) (congrArg Prod.snd HF.o),below_drewN HB3.o _⟩
    have HF:=ah (MK.o.trans (if_neg (by rw[h5,h8];decide)));clear MK;obtain⟨w4,hup,wU,hg4⟩:=tZ.o.put (by omega) d.nm hok.2.2.1 (gI d) (by have:=sU d;unfold bW;omega);have qp:=ah ((wU.congr (TW h0)));have eF:=ah (HB3.o.trans (cZ hg4 (aB _) HB3.o.size));clear wU hg4;go_wp2_with fail;go_roundg R.length
    case measure=>simp
    case rel=>exact⟨k+1,pre++[d],R,c',l',n',f',rfl,by go_num,by rw[List.append_assoc];exact vg.o,by rw[ay,HK.o];rfl,rfl,rfl,rfl,rfl,by omega,HF.o,qp.o,eF.o⟩
namespace Md
def nu (ds:List De) (l:List UInt8):Bool:=ds.any λd=>d.nm.toList==l
def nH (ts:List Th) (l:List UInt8):Bool:=ts.any λt=>t.nm.toList==l
def nG (tx:List ByteArray) (l:List UInt8):Bool:=tx.any λs=>s.toList==l
def qZ (ds:List De):List Th->List Th->Option Int
 | [],_=>none
 |t::r,pre=>if nu ds t.nm.toList||nH pre t.nm.toList then some t.line else qZ ds r (pre++[t])
def qB (ds:List De) (ts:List Th):List ByteArray->List ByteArray->Bool
 | [],_=>false
 |s::r,pre=>((nu ds s.toList||nH ts s.toList)||nG pre s.toList)||qB ds ts r (pre++[s])
def vN (ds:List De) (ts:List Th):List Th->Int×Int
 | []=>(0,0)
 |t::r=>if decide ((4:Int)<t.cO.length)then(2,t.line)else if qB ds ts t.cO []then(4,t.line)else vN ds ts r
def kF (p:Pr):Int×Int:=match qZ p.ds p.ts []with
 |some l=>(4,l)
 |none=>vN p.ds p.ts p.ts
theorem Lm (pre:List De) (d:De) (l:List UInt8):(if l=d.nm.toList then true else nu pre l)=nu (pre++[d]) l:=by
 unfold nu;rw[List.any_append];by_cases h:l=d.nm.toList
 ·subst h;simp
 ·rw[if_neg h];have:(d.nm.toList==l)=false:=by rw[beq_eq_false_iff_ne];exact λe=>h e.symm
  simp[this]
theorem VO (ds:List De) (pre:List Th) (t:Th) (l:List UInt8):(if l=t.nm.toList then true else(nu ds l||nH pre l))=(nu ds l||nH (pre++[t]) l):=by
 unfold nH;rw[List.any_append];by_cases h:l=t.nm.toList
 ·subst h;simp
 ·rw[if_neg h];have:(t.nm.toList==l)=false:=by rw[beq_eq_false_iff_ne];exact λe=>h e.symm
  simp[this]
end Md
theorem Holds.grown {W W':World} {bm:Nat} (hg:W.grownBy W' (some bm)): ∀ {l:List (Nat×Nat×Value)},(∀f∈l,f.1≠bm)->Holds W l->Holds W' l
 | [],_,_=>trivial
 |f::_,hne,⟨⟨h1,h2⟩,h3⟩=>⟨⟨aG h1 hg.size,(World.cell?_of_block (a:=⟨f.1,f.2.1,none⟩) (hg.block f.1 h1 (by have:=hne f (by simp);simp;exact this))).trans h2⟩,Holds.grown hg (λx hx=>hne x (by simp[hx])) h3⟩
theorem Sit.grown {w W W':World} {fs:List (Nat×Nat×Value)} {bm:Nat} (h:Sit w W fs) (hg:W.grownBy W' (some bm)) (hb:w.heap.size<=bm) (hne: ∀f∈fs,f.1≠bm):Sit w W' fs:=
 ⟨h.1.trans (cZ hg hb h.1.size),h.2.grown hg hne⟩
theorem RO (p:Pr) (w:World) (aK aM:Option Addr) (aH aD:Nat) (hp:p.At w aK aM) (hsum:p.ds.length+p.ts.length<maxLen):
 Calls Tryz.prog 31 #[.agg #[.slice aK p.ds.length aH,.slice aM p.ts.length aD]] w λe w'=>e= .returned (.tuple #[.int .i64 (kF p).1,.int .i64 (kF p).2])∧Below w.heap.size w w':=by
 have HR:aj (kF p=match qZ p.ds p.ts []with|some l=>(4,l)|none=>vN p.ds p.ts p.ts):=ah rfl;generalize kF p=res at *;have hld:=hp.1;have hlt:=hp.2.1;unfold maxLen at hld hlt;have HP:=ah hp;clear hp;have hmm:= @run_makeMap Tryz.prog;go_enter Tryz.func31,Tryz.ntmps31;go_upto_region 1 with fail;generalize hW:World.alloc w _=W;generalize Value.agg #[_,_]=a0;have HX:=ah ((Sit.start w).wG rfl (.slice aK p.ds.length aH) (.slice aM p.ts.length aD) 26);rw[hW]at HX;have hsz:W.heap.size=w.heap.size+1:=by rw[<- hW];simp
 clear hW;go_upto_region 2 with fail;have HM:=ah (jF.made W);have HY:=ah (HX.o.next (au W (.map #[] 0)));rw[hsz]at HM;generalize World.alloc W _=W1 at *;clear HX hsz;obtain⟨-,⟨-,c0⟩,⟨-,c1⟩,-⟩:=HY.o;go_wp2_with fail;go_loopw [6,19] (λ_ s wr=> ∃(k:Nat) (pre R:List De),s= .int .i64 k∧pre++R=p.ds∧pre.length=k∧jF wr (w.heap.size+1) k (nu pre)∧Sit w wr [(w.heap.size,0,(.slice aK p.ds.length aH)),(w.heap.size,1,(.slice aM p.ts.length aD))]) (λ_ s _=>p.ds.length -(intOf s).toNat)
 case atStart=>exact⟨0,[],p.ds,rfl,rfl,rfl,HM.o.congr (λ_=>rfl),HY.o⟩
 case round=>
  obtain⟨k,pre,R,rfl,hds,hk,hmap,hsit⟩:=hrel;have HZ:=ah hsit;have OY:=ah hmap;clear hsit hmap HY HM c0 c1;have hlen:k+R.length=p.ds.length:=by rw[<- hds,ay,hk]
  have hrow:=(HP.o.2.2.1.below HZ.o.1).drop k;rw[aU,<- hds,<- hk,List.drop_left]at hrow;rw[hk]at hrow;have vg:=ah hds;have HK:=ah hk;clear hds hk;cases R with
  |cons d R=>
   obtain⟨⟨b,off,rfl,mV,x0,x1,x2,x3,x4,x5,hok⟩,-⟩:=hrow;simp only[aA]at hlen;have hkl:k<p.ds.length:=by omega
   have hba:=au wr (.cells #[.int .i64 d.kind,.int .i64 d.line,.string d.nm,.int .i64 d.size,.int .i64 d.init,.string d.on] 43);obtain⟨w4,hup,wU,hg4⟩:=(OY.o.next hba).put (by omega) d.nm hok.2.2.1 true;have qp:=ah (wU.congr (Lm pre d));have xP:=ah ((HZ.o.next hba).grown hg4 (by omega) (by simp));clear wU hg4 hba hok;go_wp2_with fail;go_roundw
   case rel=>exact⟨k+1,pre++[d],R,by go_num,by rw[List.append_assoc];exact vg.o,by rw[ay,HK.o];rfl,qp.o,xP.o⟩
   case measure=>simp[intOf];omega
  |nil=>
   obtain rfl:k=p.ds.length:=by simpa using hlen
   have hpre:pre=p.ds:=by rw[<- vg.o,List.append_nil]
   subst hpre;obtain⟨-,⟨-,c0⟩,⟨-,c1⟩,-⟩:=HZ.o;clear hrow hlen vg HK;go_wp2_with fail;go_loopw [8,30] (λ_ s wr=> ∃(k:Nat) (pre R:List Th),s= .int .i64 k∧pre++R=p.ts∧pre.length=k∧qZ p.ds p.ts []=qZ p.ds R pre∧jF wr (w.heap.size+1) (p.ds.length+k) (λl=>nu p.ds l||nH pre l)∧Sit w wr [(w.heap.size,0,(.slice aK p.ds.length aH)),(w.heap.size,1,(.slice aM p.ts.length aD))]) (λ_ s _=>p.ts.length -(intOf s).toNat)
   case atStart=>exact⟨0,[],p.ts,rfl,rfl,rfl,rfl,OY.o.congr (λl=>by simp[nH]),HZ.o⟩
   case round=>
    obtain⟨k,pre,R,rfl,hds,hk,heq,hmap,hsit⟩:=hrel;have HU:=ah hsit;have tZ:=ah hmap;have HE:=ah heq;clear hsit hmap HZ OY c0 c1 heq;have hlen:k+R.length=p.ts.length:=(by rw[<- hds,ay,hk]);have hrow:=(HP.o.2.2.2.below HU.o.1).drop k;rw[aU,<- hds,<- hk,List.drop_left]at hrow;rw[hk]at hrow;have vg:=ah hds;have HK:=ah hk;clear hds hk;cases R with
    |cons t R=>
     obtain⟨⟨b,off,iR,eX,dH,cu,rfl,hB,x0,x1,x2,x3,hok,htx,hst⟩,-⟩:=hrow;simp only[aA]at hlen;have hkl:k<p.ts.length:=(by omega);have hba:=au wr (.cells #[.string t.nm,.int .i64 t.line,.slice iR t.cO.length eX,.slice dH t.body.len cu] 57);have qp:=ah (tZ.o.next hba);have hlk:=qp.o.look t.nm hok.1;have HB3:=ah (HU.o.next hba).1;cases uF:(nu p.ds t.nm.toList||nH pre t.nm.toList)
     ·obtain⟨w4,hup,wU,hg4⟩:=qp.o.put (by omega) t.nm hok.1 true;have fZ:=ah (wU.congr (VO p.ds pre t));have HU4:=ah ((HU.o.next hba).grown hg4 (by omega) (by simp));have dL:=ah (HE.o.trans (if_neg (by rw[uF];decide)));clear wU hg4 hba hok htx hst;go_wp2_with fail;go_roundw
      case rel=>exact⟨k+1,pre++[t],R,by go_num,by rw[List.append_assoc];exact vg.o,by rw[ay,HK.o];rfl,dL.o,fZ.o,HU4.o⟩
      case measure=>simp[intOf];omega
     ·have HF:aj (res=(4,t.line)):=ah (HR.o.trans (by rw[HE.o.trans (if_pos uF)]));clear hba hok htx hst;go_wp2_with fail;go_quiet (fail);go_wp2_with fail
      go_ret2
      exact⟨jN (congrArg Prod.fst HF.o) (congrArg Prod.snd HF.o),below_drewN HB3.o _⟩
    |nil=>
     obtain rfl:k=p.ts.length:=(by simpa using hlen);have hpre:pre=p.ts:=(by rw[<- vg.o,List.append_nil]);subst hpre;have HR2:aj (res=vN p.ds p.ts p.ts):=ah (HR.o.trans (by rw[HE.o];rfl));obtain⟨-,⟨-,c0⟩,⟨-,c1⟩,-⟩:=HU.o;clear hrow hlen vg HK HE HR;generalize TA:(λl=>nu p.ds l||nH p.ts l)=ff at *;have HFF:=ah TA;clear TA;have hth:=HP.o.2.2.2.below HU.o.1;go_wp2_with fail;go_loopw [10,11,12,14,47,60,75] (λ_ _ _ _ s _ _ wr=> ∃(k:Nat) (R:List Th),s= .int .i64 k∧k+R.length=p.ts.length∧vN p.ds p.ts p.ts=vN p.ds p.ts R∧iJ wr w.heap.size R aM k∧jF wr (w.heap.size+1) (p.ds.length+p.ts.length) ff∧Sit w wr [(w.heap.size,0,(.slice aK p.ds.length aH)),(w.heap.size,1,(.slice aM p.ts.length aD))]) (λ_ _ _ _ s _ _ _=>p.ts.length -(intOf s).toNat)
     case atStart=>exact⟨0,p.ts,rfl,by simp,rfl,hth,tZ.o,HU.o⟩
     case round=>
      obtain⟨k,R,rfl,hlen,heq,hrow,hmap,hsit⟩:=hrel;have HV:=ah hsit;have qp:=ah hmap;have HE:=ah (HR2.o.trans heq);have MJ:=ah heq;clear hsit hmap HU tZ c0 c1 heq hth;cases R with
      |nil=>
       obtain rfl:k=p.ts.length:=(by simpa using hlen);have HF:=ah (HE.o.trans (rfl:_=((0:Int),(0:Int))));go_wp2_with fail
       go_ret2
       exact⟨jN (congrArg Prod.fst HF.o) (congrArg Prod.snd HF.o),HV.o.1⟩
      |cons t R=>
       obtain⟨⟨b,off,iR,eX,dH,cu,rfl,hB,x0,x1,x2,x3,hok,htx,hst⟩,hrest⟩:=hrow;simp only[aA]at hlen;have hkl:k<p.ts.length:=(by omega);have hll:=hok.2.2.1;have hcl:=hst.2;unfold maxLen at hll;clear hst hok;go_upto_region 17 with fail;obtain⟨nb,hnb⟩: ∃n,wr.heap.size=n:=⟨_,rfl⟩;generalize hW2:World.alloc wr _=W2;have BG:aj (Below wr.heap.size wr W2):=ah (by rw[<- hW2];exact au _ _);have HY:aj (Sit wr W2 [(nb,0,.string t.nm),(nb,1,.int .i64 t.line),(nb,2,.slice iR t.cO.length eX),(nb,3,.slice dH t.body.len cu)]):=ah (by rw[<- hW2];exact(Sit.start wr).zi hnb _ _ _ _ _);have IE:=ah (HV.o.next BG.o);have fZ:=ah (qp.o.next BG.o);have HB3:=ah IE.o.1;have BU:=ah (htx.below (BG.o.mono HV.o.1.size));have mQ:=ah (hrest.below (BG.o.mono HV.o.1.size));rw[hnb];clear hW2 hnb x0 x1 x2 x3 qp HV htx hrest BG;obtain⟨-,⟨-,c0⟩,⟨-,c1⟩,⟨-,c2⟩,⟨-,c3⟩,-⟩:=HY.o;cases h1:decide ((4:Int)<t.cO.length)
       case true=>
        as_aux_lemma=>
         have HF:=ah (HE.o.trans (if_pos h1));have h1':4<t.cO.length:=(by simp at h1;omega);clear h1;go_wp2_with fail;go_quiet (fail);go_wp2_with fail
         go_ret2
         exact⟨jN (congrArg Prod.fst HF.o) (congrArg Prod.snd HF.o),below_drewN HB3.o _⟩
       have HE2:=ah (HE.o.trans (if_neg (by rw[h1];decide)));have pG:=ah (MJ.o.trans (if_neg (by rw[h1];decide)));have h1':t.cO.length<=4:=(by simp at h1;omega);clear HE MJ h1;go_wp2_with fail;go_loop [11,12,14,60,75] (λ_ _ _ s _=> ∃(k':Nat) (pre R':List ByteArray),s= .int .i64 k'∧pre++R'=t.cO∧pre.length=k'∧qB p.ds p.ts t.cO []=qB p.ds p.ts R' pre) (λ_ _ _ s _=>t.cO.length -(intOf s).toNat)
       case atStart=>exact⟨0,[],t.cO,rfl,rfl,rfl,rfl⟩
       case round=>
        obtain⟨k',pre,R',rfl,hds,hk',heq'⟩:=hrel;have dL:=ah heq';have hlen':k'+R'.length=t.cO.length:=(by rw[<- hds,ay,hk']);have hrow:=BU.o.drop k';rw[aU,<- hds,<- hk',List.drop_left]at hrow;rw[hk']at hrow;have BP:=ah ((hds ▸ BU.o:fJ W2 w.heap.size (pre++R') iR 0).take);have vg:=ah hds;have HK:=ah hk';clear hds hk' heq';cases R' with
        |nil=>
         obtain rfl:k'=t.cO.length:=(by simpa using hlen');have HF:=ah (pG.o.trans (if_neg (by rw[dL.o];simp[qB])));go_wp2_with fail;go_roundw
         case rel=>exact⟨k+1,R,by go_num,by omega,HF.o,mQ.o,fZ.o,IE.o⟩
         case measure=>simp[intOf];omega
        |cons s R'=>
         obtain⟨⟨b',off',rfl,hB',y0,hs⟩,-⟩:=hrow;simp only[aA]at hlen';have hkl':k'<t.cO.length:=(by omega);have hlk:=fZ.o.look s hs;have hfs:ff s.toList=(nu p.ds s.toList||nH p.ts s.toList):=(by rw[<- HFF.o]);cases uF:ff s.toList
         case true=>
          as_aux_lemma=>
           have HF:=ah (HE2.o.trans (if_pos (by rw[dL.o];unfold qB;rw[<- hfs,uF];rfl)));clear hfs;go_wp2_with fail;go_quiet (fail);go_wp2_with fail
           go_ret2
           exact⟨jN (congrArg Prod.fst HF.o) (congrArg Prod.snd HF.o),below_drewN HB3.o _⟩
         have Ap:aj (qB p.ds p.ts t.cO []=(nG pre s.toList||qB p.ds p.ts R' (pre++[s]))):=ah (dL.o.trans (by rw[qB,<- hfs,uF];rfl));clear hfs dL;have hk0:(0:Int)<=k':=(by omega);have hk2:k'<=eX:=(by omega);go_wp2_with fail;go_loop [14,75] (λ_ s'=> ∃(k'':Nat) (Q:List ByteArray),s'= .int .i64 k''∧k''+Q.length=k'∧nG pre s.toList=nG Q s.toList∧fJ W2 w.heap.size Q (some ⟨b',off',none⟩) k'') (λ_ s'=>k' -(intOf s').toNat)
         case atStart=>exact⟨0,pre,rfl,by rw[aU];exact HK.o,rfl,BP.o⟩
         case round=>
          obtain⟨k'',Q,rfl,Xu,heq'',aL9⟩:=hrel;have HQ:=ah heq'';clear heq'';cases Q with
          |nil=>
           obtain rfl:k''=k':=(by simpa using Xu);have HF:=ah (Ap.o.trans (by rw[HQ.o];rfl:_=qB p.ds p.ts R' (pre++[s])));go_wp2_with fail;go_round
           case rel=>exact⟨k''+1,pre++[s],R',by go_num,by rw[List.append_assoc];exact vg.o,by rw[ay,HK.o];rfl,HF.o⟩
           case measure=>simp[intOf];omega
          |cons q Q=>
           obtain⟨⟨b2,off2,hbe,hB2,z0,hq⟩,hrest''⟩:=aL9;obtain⟨rfl,rfl⟩:b'=b2∧off'=off2:=(by injection hbe with h;injection h with h1 h2;exact⟨h1,h2⟩);simp only[aA]at Xu;have bJ5:k''<k':=(by omega);clear hbe;have G6:aj (nG pre s.toList=((q.toList==s.toList)||nG Q s.toList)):=ah (HQ.o.trans (by simp[nG]));cases hc:(q.toList==s.toList)
           ·have hc':(s.toList==q.toList)=false:=(by rw[beq_eq_false_iff_ne]at hc⊢;exact λe=>hc e.symm);have HF:=ah (G6.o.trans (by rw[hc];rfl:_=nG Q s.toList));go_wp2_with fail;go_round
            case rel=>exact⟨k''+1,Q,by go_num,by omega,HF.o,hrest''⟩
            case measure=>simp[intOf];omega
           ·have hc':(s.toList==q.toList)=true:=(by rw[beq_iff_eq]at hc⊢;exact hc.symm);have HF:=ah (HE2.o.trans (if_pos (by rw[Ap.o,G6.o,hc];rfl)));go_wp2_with fail;go_quiet (fail);go_wp2_with fail
            go_ret2
            exact⟨jN (congrArg Prod.fst HF.o) (congrArg Prod.snd HF.o),below_drewN HB3.o _⟩
def zu (f:List UInt8->Bool) (l:List UInt8):List UInt8->Bool:=λx=>if x=l then true else f x
def kY (b:Bool):Int:=if b then 8 else 0
def Zo (nm:ByteArray) (w:World) (bs n:Nat) (f:List UInt8->Bool) (e:Ending) (w':World):Prop:=
 e= .returned (.int .i64 (kY (f nm.toList)))∧jF w' bs (n+1) (zu f nm.toList)∧w.grownBy w' (some bs)
theorem QL (nm:ByteArray) (w:World) (bs n:Nat) (f:List UInt8->Bool) (hn:n<maxLen) (hs:nm.size<=maxLen) (hm:jF w bs n f):
 Calls Tryz.prog 128 #[.map (some bs),.string nm] w (Zo nm w bs n f):=by
 have HM:=ah hm;have hlk:=hm.look nm hs;clear hm;cases hf:f nm.toList
 ·obtain⟨w4,hup,wU,hg4⟩:=HM.o.put hn nm hs true;have qp:=ah wU;have HG:=ah hg4;clear wU hg4 hn hs;go_enter Tryz.func128,Tryz.ntmps128;go_wp2_with fail;go_ret;exact⟨by rw[hf];rfl,qp.o,HG.o⟩
 ·have qp:aj (jF w bs (n+1) (zu f nm.toList)):=ah (by
   obtain⟨D,h1,h2⟩:=HM.o;refine⟨D,h1.mono (by omega),λl=> ?_⟩;rw[h2];unfold zu;by_cases h:l=nm.toList
   ·rw[if_pos h,h,hf]
   ·rw[if_neg h])
  clear hn hs;go_enter Tryz.func128,Tryz.ntmps128;go_wp2_with fail;go_ret;exact⟨by rw[hf];rfl,qp.o,⟨rfl,rfl,rfl,aB _,λ_ _ _=>rfl⟩⟩
theorem UH (p:Pr) (w:World) (aK aM:Option Addr) (aH aD:Nat) (hp:p.At w aK aM) (eH:eG w):
 Calls Tryz.prog 29 #[.agg #[.slice aK p.ds.length aH,.slice aM p.ts.length aD]] w λe w'=>e= .returned (.bool (pE p))∧Below w.heap.size w w':=by
 have HS:aj (pE p=((p.ds.all jG&&p.ts.all oL)&&decide ((0:Int)<p.ts.length))):=ah rfl;generalize pE p=res at *;have hld:=hp.1;have hlt:=hp.2.1;unfold maxLen at hld hlt;have HP:=ah hp;have jK:=ah eH;clear hp eH;go_enter Tryz.func29,Tryz.ntmps29;go_upto_region 1 with fail;generalize hW:World.alloc w _=W;generalize Value.agg #[_,_]=a0;have HX:=ah ((Sit.start w).wG rfl (.slice aK p.ds.length aH) (.slice aM p.ts.length aD) 26);rw[hW]at HX;clear hW;obtain⟨-,⟨-,c0⟩,⟨-,c1⟩,-⟩:=HX.o;have hde:=(HP.o.same HX.o.1).2.2.1;go_wp2_with fail;go_loopw [4,12] (λ_ s wr=> ∃(k:Nat) (R:List De),s= .int .i64 k∧k+R.length=p.ds.length∧p.ds.all jG=R.all jG∧jo wr wr.heap.size R aK k∧Sit w wr [(w.heap.size,0,(.slice aK p.ds.length aH)),(w.heap.size,1,(.slice aM p.ts.length aD))]) (λ_ s _=>p.ds.length -(intOf s).toNat)
 case atStart=>exact⟨0,p.ds,rfl,by simp,rfl,hde,HX.o⟩
 case round=>
  obtain⟨k,R,rfl,hlen,heq,hrow,hsit⟩:=hrel;have HZ:=ah hsit;have HE:=ah heq;clear hsit HX c0 c1 hde heq;cases R with
  |cons d R=>
   obtain⟨⟨b,off,rfl,hB,x0,x1,x2,x3,x4,x5,hok⟩,hrest⟩:=hrow;simp only[aA]at hlen;have hkl:k<p.ds.length:=by omega
   have kU:=ah hok;clear hok;go_wp2_with fail;have hba:=au wr (.cells #[.int .i64 d.kind,.int .i64 d.line,.string d.nm,.int .i64 d.size,.int .i64 d.init,.string d.on] 43);refine(Mk d _ ((jK.o.same HZ.o.1).same hba) kU.o).mono ?_;rintro e' w2 ⟨rfl,hb2⟩;have HB3:=ah (hba.trans (hb2.mono (by simp)));clear hba hb2 x0 x1 x2 x3 x4 x5;cases hS:jG d
   ·rw[HE.o,List.all_cons,hS]at HS;go_wp2_with fail;go_ret;exact⟨bR (HS.o.trans (by simp)).symm,(HZ.o.next HB3.o).1⟩
   ·have HF:=ah (HE.o.trans (by rw[List.all_cons,hS];rfl:_=R.all jG));go_wp2_with fail;go_roundw
    case rel=>exact⟨k+1,R,by go_num,by omega,HF.o,hrest.same HB3.o,HZ.o.next HB3.o⟩
    case measure=>simp[intOf];omega
  |nil=>
   obtain rfl:k=p.ds.length:=by simpa using hlen
   rw[HE.o]at HS;obtain⟨-,⟨-,c0⟩,⟨-,c1⟩,-⟩:=HZ.o;have hth:=(HP.o.same HZ.o.1).2.2.2;clear HE hrow hlen;go_wp2_with fail;go_loopw [6,8,23,31,32,33,34,35] (λ_ _ s _ _ _ _ _ wr=> ∃(k:Nat) (R:List Th),s= .int .i64 k∧k+R.length=p.ts.length∧p.ts.all oL=R.all oL∧iJ wr wr.heap.size R aM k∧Sit w wr [(w.heap.size,0,(.slice aK p.ds.length aH)),(w.heap.size,1,(.slice aM p.ts.length aD))]) (λ_ _ s _ _ _ _ _ _=>p.ts.length -(intOf s).toNat)
   case atStart=>exact⟨0,p.ts,rfl,by simp,rfl,hth,HZ.o⟩
   case round=>
    obtain⟨k,R,rfl,hlen,heq,hrow,hsit⟩:=hrel;have HU:=ah hsit;have HE:=ah heq;clear hsit HZ c0 c1 hth heq;cases R with
    |nil=>obtain rfl:k=p.ts.length:=(by simpa using hlen);rw[HE.o]at HS;obtain⟨-,⟨-,c0⟩,⟨-,c1⟩,-⟩:=HU.o;go_wp2_with fail;go_ret;exact⟨bR (HS.o.trans (by simp)).symm,HU.o.1⟩
    |cons t R=>
     obtain⟨⟨b,off,iR,eX,dH,cu,rfl,hB,x0,x1,x2,x3,hok,htx,hst⟩,hrest⟩:=hrow;simp only[aA]at hlen;have hkl:k<p.ts.length:=(by omega);have hll:=hok.2.2.1;have kU:=ah hok;have BU:=ah htx;have HST:=ah hst;unfold maxLen at hll;clear hok htx hst;go_upto_region 10 with fail;obtain⟨n2,hn2⟩: ∃n,wr.heap.size=n:=⟨_,rfl⟩;generalize hW2:World.alloc wr _=W2;have HB2:aj (Below wr.heap.size wr W2):=ah (by rw[<- hW2];exact au _ _);have HV:aj (Sit w W2 ((n2,0,.string t.nm)::(n2,1,.int .i64 t.line)::(n2,2,.slice iR t.cO.length eX)::(n2,3,.slice dH t.body.len cu)::[(w.heap.size,0,(.slice aK p.ds.length aH)),(w.heap.size,1,(.slice (some ⟨b,off,none⟩) p.ts.length aD))])):=ah (by rw[<- hW2];exact HU.o.zi hn2 _ _ _ _ _);rw[hn2];clear hW2 hn2 x0 x1 x2 x3;obtain⟨-,⟨-,c0⟩,⟨-,c1⟩,⟨-,c2⟩,⟨-,c3⟩,⟨-,c4⟩,⟨-,c5⟩,-⟩:=HV.o;go_wp2_with fail;refine(xR _ _ (jK.o.same HV.o.1) kU.o.1).mono ?_;rintro e' w3 ⟨rfl,hb3⟩;have HB3:=ah hb3;have HA:=ah (HV.o.next hb3);clear hb3 HV c0 c1 c2 c3 c4 c5;obtain⟨-,⟨-,c0⟩,⟨-,c1⟩,⟨-,c2⟩,⟨-,c3⟩,⟨-,c4⟩,⟨-,c5⟩,-⟩:=HA.o;cases hN:Tk.jv t.nm.data.toList
     ·rw[HE.o,List.all_cons,show oL t=false by unfold oL;rw[hN];rfl]at HS;go_wp2_with fail;go_ret;exact⟨bR (HS.o.trans (by simp)).symm,HA.o.1⟩
     ·have hrow:=BU.o.same (HB2.o.trans (HB3.o.mono HB2.o.size));have FT:=ah (HB2.o.trans (HB3.o.mono HB2.o.size));clear HB2 HB3;go_wp2_with fail;obtain⟨wo,rfl⟩: ∃wo:World,wo=wr:=⟨_,rfl⟩;go_loopw [8,34] (λ_ s wr=> ∃(k:Nat) (R:List ByteArray),s= .int .i64 k∧k+R.length=t.cO.length∧t.cO.all (λs=>Tk.jv s.data.toList)=R.all (λs=>Tk.jv s.data.toList)∧fJ wr wr.heap.size R iR k∧Below wo.heap.size wo wr∧Sit w wr ((n2,0,.string t.nm)::(n2,1,.int .i64 t.line)::(n2,2,.slice iR t.cO.length eX)::(n2,3,.slice dH t.body.len cu)::[(w.heap.size,0,(.slice aK p.ds.length aH)),(w.heap.size,1,(.slice (some ⟨b,off,none⟩) p.ts.length aD))])) (λ_ s _=>t.cO.length -(intOf s).toNat)
      case atStart=>exact⟨0,t.cO,rfl,by simp,rfl,hrow,FT.o,HA.o⟩
      case round=>
       obtain⟨k',R',rfl,hlen',heq',hrow',Xr,KN⟩:=hrel;have HC:=ah KN;have CP:=ah Xr;have dL:=ah heq';clear KN HA c0 c1 c2 c3 c4 c5 hrow heq' Xr FT;cases R' with
       |cons s R'=>
        obtain⟨⟨b',off',rfl,hB',y0,hs⟩,hrest'⟩:=hrow';simp only[aA]at hlen';have hkl':k'<t.cO.length:=(by omega);go_wp2_with fail;refine(xR _ _ (jK.o.same HC.o.1) hs).mono ?_;rintro e' w3 ⟨rfl,hb3⟩;have eF:=ah hb3;clear hb3;cases GJ:Tk.jv s.data.toList
        ·rw[HE.o,List.all_cons,show oL t=false by unfold oL;rw[dL.o,List.all_cons,GJ];simp]at HS;go_wp2_with fail;go_ret;exact⟨bR (HS.o.trans (by simp)).symm,(HC.o.next eF.o).1⟩
        ·have HF:=ah (dL.o.trans (by rw[List.all_cons,GJ];rfl:_=R'.all (λs=>Tk.jv s.data.toList)));go_wp2_with fail;go_roundw
         case rel=>exact⟨k'+1,R',by go_num,by omega,HF.o,hrest'.same eF.o,CP.o.trans (eF.o.mono CP.o.size),HC.o.next eF.o⟩
         case measure=>simp[intOf];omega
       |nil=>
        obtain rfl:k'=t.cO.length:=(by simpa using hlen');obtain⟨-,⟨-,c0⟩,⟨-,c1⟩,⟨-,c2⟩,⟨-,c3⟩,⟨-,c4⟩,⟨-,c5⟩,-⟩:=HC.o;go_wp2_with fail;refine(Ml t.body _ _ _ kU.o.2.2.2 (HST.o.1.same CP.o) (jK.o.same HC.o.1)).mono ?_;rintro e' w3 ⟨rfl,hb3⟩;have eF:=ah hb3;clear hb3;have HT:aj (oL t=gN t.body):=ah (by unfold oL;rw[hN,dL.o];rfl);cases GJ:gN t.body
        ·rw[HE.o,List.all_cons,HT.o,GJ]at HS;go_wp2_with fail;go_ret;exact⟨bR (HS.o.trans (by simp)).symm,(HC.o.next eF.o).1⟩
        ·have HF:=ah (HE.o.trans (by rw[List.all_cons,HT.o,GJ];rfl:_=R.all oL));have JV:=ah (CP.o.trans (eF.o.mono CP.o.size));have HSQ:=ah (HU.o.next JV.o);go_wp2_with fail;go_roundw
         case rel=>exact⟨k+1,R,by go_num,by omega,HF.o,hrest.same JV.o,HSQ.o⟩
         case measure=>simp[intOf];omega
end Go.Proofs.YtmildapbbcbbhaaGreatDoor
