/- Contracts of the reference's shapedDecl, blank, ShapedStmt, ShapedStmts. And what hangs on it. -/
import Derived.Test.YtfbbaiejbjdfbaaGreatDoorGMC
import Derived.Test.YtfbbaiejbjdfbaaGreatDoorGRF
set_option linter.unusedSimpArgs false
set_option linter.unusedVariables false
set_option maxHeartbeats 40000000
set_option maxRecDepth 1000000
namespace Go.Proofs.YtfbbaiejbjdfbaaGreatDoor
open Go.RowKit
open Md
theorem Ri (s:ByteArray):lH s true=Tk.gZ s.data.toList:=rfl
theorem Rh (s:ByteArray):lH s false=decide (s.toList=[]):=by unfold lH; rw [Lib.toList_data,Bool.eq_iff_iff]; simp
theorem IU (d:De) (w:World) (hok:d.Ok):
 Calls Tryz.prog 58 #[.agg #[.int .i64 d.kind,.int .i64 d.line,.string d.nm,.int .i64 d.size,.int .i64 d.init,.string d.on]] w fun e w'=>e= .returned (.bool (jd d))∧Below w.heap.size w w':=by
 obtain ⟨⟨k1,k2⟩,-,hm,-,⟨i1,i2⟩,ho⟩:=hok;obtain ⟨kind,line,nm,size,init,on⟩:=d;have HE:aj (jd ⟨kind,line,nm,size,init,on⟩=((((decide (1<=kind) && decide (kind<=6)) && Tk.gZ nm.data.toList) && (decide (0<=size) && (decide (size=0) || decide (kind=1)))) && ((!decide (init= -9223372036854775808) && (decide (init=0) || (decide (kind=1) || decide (kind=2)))) && lH on (kind == 5)))):=ah (by unfold jd; simp only [bne]; rw [Bool.eq_iff_iff]; simp);dsimp only at *;generalize jd ⟨kind,line,nm,size,init,on⟩=res at *;go_enter Tryz.func58,Tryz.ntmps58;go_upto_region 1 with fail;generalize hW:World.alloc w _=W;generalize Value.agg #[_,_,_,_,_,_]=a0;have HX:=ah ((Sit.start w).Qc rfl (.int .i64 kind) (.int .i64 line) (.string nm) (.int .i64 size) (.int .i64 init) (.string on) 93);rw [hW] at HX;clear hW;obtain ⟨-,⟨-,c0⟩,⟨-,c1⟩,⟨-,c2⟩,⟨-,c3⟩,⟨-,c4⟩,⟨-,c5⟩,-⟩:=HX.o;go_cut [31] (fun s W2=> ∃b,s= .bool b∧(!b)=(((decide (1<=kind) && decide (kind<=6)) && Tk.gZ nm.data.toList) && (decide (0<=size) && (decide (size=0) || decide (kind=1))))∧Sit w W2 [(w.heap.size,0,.int .i64 kind),(w.heap.size,1,.int .i64 line),(w.heap.size,2,.string nm),(w.heap.size,3,.int .i64 size),(w.heap.size,4,.int .i64 init),(w.heap.size,5,.string on)])
 case first=>
  cases hr:decide (1<=kind∧kind<=6)
  ·have hr':kind < 1∨(1<=kind∧6 < kind):=by simp at hr; omega
   clear hr;rcases hr' with hr | ⟨hr,hr'⟩
   all_goals go_wp2_with fail
   all_goals go_meet
   all_goals exact ⟨_,rfl,by go_light; grind,HX.o⟩
  ·have hr':1<=kind∧kind<=6:=by simpa using hr
   obtain ⟨g1,g2⟩:=hr';clear hr;go_wp2_with fail;refine (oC _ _ hm).mono ?_;rintro e w3 ⟨rfl,hb3⟩;have HZ:=ah (HX.o.next hb3);clear hb3 HX c0 c1 c2 c3 c4 c5;obtain ⟨-,⟨-,c0⟩,⟨-,c1⟩,⟨-,c2⟩,⟨-,c3⟩,⟨-,c4⟩,⟨-,c5⟩,-⟩:=HZ.o;cases hq:Tk.gZ nm.data.toList
   all_goals go_wp2_with fail
   all_goals go_meet
   all_goals exact ⟨_,rfl,by rw [hq]; go_light; grind,HZ.o⟩
 obtain ⟨b1,rfl,hb1,hX⟩:=hcut;have HY:=ah hX;have HB1:=ah hb1;clear hX HX hb1 c0 c1 c2 c3 c4 c5;rw [<- HB1.o] at HE;clear HB1;cases b1
 case true=>go_wp2_with fail;go_ret;exact ⟨bK (HE.o.trans (by simp)).symm,HY.o.1⟩
 obtain ⟨-,⟨-,c0⟩,⟨-,c1⟩,⟨-,c2⟩,⟨-,c3⟩,⟨-,c4⟩,⟨-,c5⟩,-⟩:=HY.o;go_upto_region 3 with fail;go_cut [50] (fun s W2=> ∃b,s= .bool b∧(!b)=lH on (kind == 5)∧Sit w W2 [(w.heap.size,0,.int .i64 kind),(w.heap.size,1,.int .i64 line),(w.heap.size,2,.string nm),(w.heap.size,3,.int .i64 size),(w.heap.size,4,.int .i64 init),(w.heap.size,5,.string on)])
 case first=>
  cases h5:(kind == 5)
  ·have h5':(kind != 5)=true:=by unfold bne; rw [h5]; rfl
   have HN:=ah (Rh on);go_wp2_with fail
   all_goals go_meet
   all_goals exact ⟨_,rfl,by rw [h5,HN.o]; first | (simp; done) | (go_light; grind),HY.o⟩
  ·have h5':(kind != 5)=false:=by unfold bne; rw [h5]; rfl
   have HN:=ah (Ri on);go_wp2_with fail;refine (oC _ _ ho).mono ?_;rintro e w3 ⟨rfl,hb3⟩;have HZ:=ah (HY.o.next hb3);clear hb3 HY c0 c1 c2 c3 c4 c5;obtain ⟨-,⟨-,c0⟩,⟨-,c1⟩,⟨-,c2⟩,⟨-,c3⟩,⟨-,c4⟩,⟨-,c5⟩,-⟩:=HZ.o;cases hq:Tk.gZ on.data.toList
   all_goals go_wp2_with fail
   all_goals go_meet
   all_goals exact ⟨_,rfl,by rw [h5,HN.o,hq]; rfl,HZ.o⟩
 obtain ⟨b2,rfl,hb2,hX⟩:=hcut;have HZ:=ah hX;have HB2:=ah hb2;clear hX HY hb2 c0 c1 c2 c3 c4 c5;rw [<- HB2.o] at HE;clear HB2;cases b2
 case true=>go_wp2_with fail;go_ret;exact ⟨bK (HE.o.trans (by simp)).symm,HZ.o.1⟩
 obtain ⟨-,⟨-,c0⟩,⟨-,c1⟩,⟨-,c2⟩,⟨-,c3⟩,⟨-,c4⟩,⟨-,c5⟩,-⟩:=HZ.o;go_wp2_with fail
 all_goals go_ret
 all_goals refine ⟨bK (HE.o.trans ?_).symm,HZ.o.1⟩
 all_goals (go_light; grind)
theorem WQ (op n:Int) (nm:ByteArray) (len cap:Nat) (ao:Option Addr) (w:World):
 Calls Tryz.prog 114 #[.agg #[.int .i64 op,.int .i64 n,.string nm,.slice ao len cap]] w fun e w'=>e= .returned (.bool (sF op n nm len))∧Below w.heap.size w w':=by
 have HE:aj (sF op n nm len=(((decide (op=0) && decide (n=0)) && decide (nm.toList=[])) && decide (len=0))):=ah (by unfold sF; rw [Bool.eq_iff_iff]; simp);generalize sF op n nm len=res at *;go_enter Tryz.func114,Tryz.ntmps114;go_wp2
 all_goals go_ret
 all_goals refine ⟨bK ?_,ak _ _⟩
 all_goals rw [HE.o]
 all_goals (go_light; grind)
def Cv (h:dL) (b e:aH):Prop:=
 ∀(w:World) (s:Sl),DL w h b e s->
  Calls Tryz.prog 94 #[dS h b e s] w fun e' w'=>e'= .returned (.bool (D5 h b e))∧Below w.heap.size w w'
theorem Ab (l:aH) (hall:l.All Cv) (w:World) (ao:Option Addr) (cap:Nat) (hl:l.len<=maxLen) (hat:l.At w w.heap.size ao 0):
 Calls Tryz.prog 60 #[.slice ao l.len cap] w fun e' w'=>e'= .returned (.bool (dW l))∧Below w.heap.size w w':=by
 unfold maxLen at hl;go_enter Tryz.func60,Tryz.ntmps60;go_wp2_with fail;go_loopw [3] (fun s wr=> ∃(k:Nat) (R:aH),s= .int .i64 k∧k + R.len=l.len∧dW l=dW R∧R.All Cv∧R.At wr wr.heap.size ao k∧Below w.heap.size w wr) (fun s _=>l.len - (intOf s).toNat)
 case atStart=>exact ⟨0,l,rfl,by simp,rfl,hall,hat,Below.refl _ _⟩
 case round=>
  obtain ⟨k,R,rfl,hlen,heq,qp,hrow,hB⟩:=hrel;have HE:=ah heq;clear heq;cases R with
  | nil=>
    obtain rfl:k=l.len:=by simpa [aH.len] using hlen
    go_wp2_with fail;go_ret;exact ⟨bK HE.o.symm,hB⟩
  | cons h b e R=>
    obtain ⟨bl,off,s,rfl,hbl,hin,x0,x1,x2,x3,x4,x5,x6,x7,x8,x9,x10,hrest⟩:=aH.At.head hrow;obtain ⟨iW,CP⟩:=qp;have hkl:k < l.len:=by simp only [aH.len] at hlen; omega
    clear hrow;go_wp2_with fail;refine (iW _ s hin).mono ?_;rintro e' w2 ⟨rfl,hb2⟩;have HB3:=ah hb2;clear hb2 x0 x1 x2 x3 x4 x5 x6 x7 x8 x9 x10 hin;cases hS:D5 h b e
    ·have HF:=ah (HE.o.trans (by rw [BX,hS]; rfl:dW (.cons h b e R)=false));go_wp2_with fail;go_ret;exact ⟨bK HF.o.symm,hB.trans (HB3.o.mono hB.size)⟩
    ·have HF:=ah (HE.o.trans (by rw [BX,hS]; rfl:dW (.cons h b e R)=dW R));go_wp2_with fail;go_roundw
     case rel=>exact ⟨k + 1,R,by go_num,by simp only [aH.len] at hlen; omega,HF.o,CP,hrest.same HB3.o,hB.trans (HB3.o.mono hB.size)⟩
     case measure=>simp [intOf]; omega
theorem aJ0 {op:Int} (h1:1<=op) (h2:op<=15):fN op= !((op == 2 || op == 3) || (op == 7 || op == 8)):=by
 rw [Bool.eq_iff_iff]; unfold fN; simp; omega
theorem Gf (h:dL) (b e:aH) (ihb:b.All Cv) (Xy:e.All Cv):Cv h b e:=by
 intro w s hin;obtain ⟨dU,dG,dX,dA,cu,bJ,gH,eB⟩:=s;have HS:aj (D5 h b e=((((fO h.op && (lH h.nm (fN h.op) && lH h.arg (fA h.op))) && ((decide ((h.idx.len:Int)<=1) && (!decide ((h.idx.len:Int)=1) || fI h.op)) && lI h.idx)) &&
  ((if fX h.op then jH h.bY h.xn h.bW h.aI else sF h.bY h.xn h.bW h.aI.len) && ((fB h.op || decide ((b.len:Int)<=0)) && (fE h.op || decide ((e.len:Int)<=0))))) && (dW b && dW e))):=ah (by
  unfold D5 mQ; rw [TT,TS,Iq,Iq])
 generalize D5 h b e=res at *;have fu:=ah hin;have SG:=ah ihb;have HIE:=ah Xy;obtain ⟨⟨⟨o1,o2⟩,-,hm,ha,hil,hxk,hbl,hel⟩,-⟩:=hin;clear ihb Xy;have bf6:=hil;have Zx:=hbl;have ZA:=hel;have hxl:=hxk.2.2.2;unfold maxLen at hil hbl hel hxl;unfold dS;dsimp only;go_enter Tryz.func94,Tryz.ntmps94;go_upto_region 1 with fail;generalize hW:World.alloc w _=W;generalize Value.agg #[_,_,_,_,_,_,_,_,_,_,_]=a0;have HX:aj (Sit w W (sQ w.heap.size h b e ⟨dU,dG,dX,dA,cu,bJ,gH,eB⟩ [])):=ah (by rw [<- hW]; exact (Sit.start w).wK rfl _ _ _ _ _ _ _ _ _ _ _ _);clear hW;obtain ⟨-,⟨-,c0⟩,⟨-,c1⟩,⟨-,c2⟩,⟨-,c3⟩,⟨-,c4⟩,⟨-,c5⟩,⟨-,c6⟩,⟨-,c7⟩,⟨-,c8⟩,⟨-,c9⟩,⟨-,c10⟩,-⟩:=HX.o;go_cut [13] (fun s' W3=>W=W3∧ ∃t,s'= .bool t∧(!t)=(decide (1<=h.op) && decide (h.op<=15)))
 case first=>
  as_aux_lemma=>
   go_wp2_with fail
   all_goals go_meet
   all_goals exact ⟨rfl,_,rfl,by go_light; grind⟩
 obtain ⟨rfl,t1,rfl,ht1⟩:=hcut;cases t1
 case true=>
  as_aux_lemma=>have HT:aj (fO h.op=false):=ah ht1.symm;rw [HT.o] at HS;go_wp2_with fail;go_ret;exact ⟨bK (HS.o.trans (by simp)).symm,HX.o.1⟩
 have hr:1<=h.op∧h.op<=15:=by simpa using ht1.symm
 obtain ⟨g1,g2⟩:=hr;rw [show fO h.op=true from ht1.symm,aJ0 g1 g2] at HS;clear ht1;go_upto_region 3 with fail;go_cut [3] (fun s' W3=>W=W3∧s'= .bool ((h.op == 2 || h.op == 3) || (h.op == 7 || h.op == 8)))
 case first=>
  as_aux_lemma=>
   go_wp2_with fail
   all_goals go_meet
   all_goals exact ⟨rfl,by congr 1; go_light; grind⟩
 obtain ⟨rfl,rfl⟩:=hcut;generalize ((h.op == 2 || h.op == 3) || (h.op == 7 || h.op == 8))=bn at *;go_upto_region 4 with fail;go_cut [3,47] (fun _ s' W2=> ∃t,s'= .bool t∧(!t)=lH h.nm (!bn)∧Sit w W2 (sQ w.heap.size h b e ⟨dU,dG,dX,dA,cu,bJ,gH,eB⟩ []))
 case first=>
  as_aux_lemma=>
   cases bn
   ·have HN:=ah (Ri h.nm);go_wp2_with fail;refine (oC _ _ hm).mono ?_;rintro e' w3 ⟨rfl,hb3⟩;have HZ:=ah (HX.o.next hb3);clear hb3 HX c0 c1 c2 c3 c4 c5 c6 c7 c8 c9 c10;obtain ⟨-,⟨-,c0⟩,⟨-,c1⟩,⟨-,c2⟩,⟨-,c3⟩,⟨-,c4⟩,⟨-,c5⟩,⟨-,c6⟩,⟨-,c7⟩,⟨-,c8⟩,⟨-,c9⟩,⟨-,c10⟩,-⟩:=HZ.o;cases hq:Tk.gZ h.nm.data.toList
    all_goals go_wp2_with fail
    all_goals go_meet
    all_goals exact ⟨_,rfl,(HN.o.trans hq).symm,HZ.o⟩
   ·have HN:=ah (Rh h.nm);go_wp2_with fail
    all_goals go_meet
    all_goals exact ⟨_,rfl,(show _=lH h.nm false by rw [HN.o]; first | (simp; done) | (go_light; grind)),HX.o⟩
 obtain ⟨t2,rfl,ht2,hX⟩:=hcut;have HY:=ah hX;have HT2:=ah ht2;clear hX ht2 HX c0 c1 c2 c3 c4 c5 c6 c7 c8 c9 c10;rw [<- HT2.o] at HS;clear HT2;cases t2
 case true=>
  as_aux_lemma=>go_wp2_with fail;go_ret;exact ⟨bK (HS.o.trans (by simp)).symm,HY.o.1⟩
 obtain ⟨-,⟨-,c0⟩,⟨-,c1⟩,⟨-,c2⟩,⟨-,c3⟩,⟨-,c4⟩,⟨-,c5⟩,⟨-,c6⟩,⟨-,c7⟩,⟨-,c8⟩,⟨-,c9⟩,⟨-,c10⟩,-⟩:=HY.o;go_upto_region 6 with fail;go_cut [66] (fun s' W2=> ∃t,s'= .bool t∧(!t)=lH h.arg (fA h.op)∧Sit w W2 (sQ w.heap.size h b e ⟨dU,dG,dX,dA,cu,bJ,gH,eB⟩ []))
 case first=>
  as_aux_lemma=>
   cases zO:(h.op == 15)
   ·have be6:(h.op != 15)=true:=(by unfold bne; rw [zO]; rfl);have HN:aj (lH h.arg (fA h.op)=decide (h.arg.toList=[])):=ah (by unfold fA; rw [zO]; exact Rh h.arg);go_wp2_with fail
    all_goals go_meet
    all_goals exact ⟨_,rfl,(by rw [HN.o]; first | (simp; done) | (go_light; grind)),HY.o⟩
   ·have be6:(h.op != 15)=false:=(by unfold bne; rw [zO]; rfl);have HN:aj (lH h.arg (fA h.op)=Tk.gZ h.arg.data.toList):=ah (by unfold fA; rw [zO]; exact Ri h.arg);go_wp2_with fail;refine (oC _ _ ha).mono ?_;rintro e' w3 ⟨rfl,hb3⟩;have HZ:=ah (HY.o.next hb3);clear hb3 HY c0 c1 c2 c3 c4 c5 c6 c7 c8 c9 c10;obtain ⟨-,⟨-,c0⟩,⟨-,c1⟩,⟨-,c2⟩,⟨-,c3⟩,⟨-,c4⟩,⟨-,c5⟩,⟨-,c6⟩,⟨-,c7⟩,⟨-,c8⟩,⟨-,c9⟩,⟨-,c10⟩,-⟩:=HZ.o;cases hq:Tk.gZ h.arg.data.toList
    all_goals go_wp2_with fail
    all_goals go_meet
    all_goals exact ⟨_,rfl,(HN.o.trans hq).symm,HZ.o⟩
 obtain ⟨t3,rfl,ht3,hX⟩:=hcut;have HZ:=ah hX;have HT3:=ah ht3;clear hX ht3 HY c0 c1 c2 c3 c4 c5 c6 c7 c8 c9 c10;rw [<- HT3.o] at HS;clear HT3;cases t3
 case true=>
  as_aux_lemma=>go_wp2_with fail;go_ret;exact ⟨bK (HS.o.trans (by simp)).symm,HZ.o.1⟩
 obtain ⟨-,⟨-,c0⟩,⟨-,c1⟩,⟨-,c2⟩,⟨-,c3⟩,⟨-,c4⟩,⟨-,c5⟩,⟨-,c6⟩,⟨-,c7⟩,⟨-,c8⟩,⟨-,c9⟩,⟨-,c10⟩,-⟩:=HZ.o;go_upto_region 8 with fail;go_cut [95] (fun s' W2=> ∃t,s'= .bool t∧(!t)=((decide ((h.idx.len:Int)<=1) && (!decide ((h.idx.len:Int)=1) || fI h.op)) && lI h.idx)∧Sit w W2 (sQ w.heap.size h b e ⟨dU,dG,dX,dA,cu,bJ,gH,eB⟩ []))
 case first=>
  as_aux_lemma=>
   have hrow:=(fu.o.same HZ.o.1).2.1;generalize hix:h.idx=ix at hrow c4 hil;have NA:=ah hix;clear hix;cases ix with
   | nil=>
     simp only [aZ.len] at c4;clear hrow;cases hI:(h.op == 1)
     ·have hI':(h.op != 1)=true:=(by unfold bne; rw [hI]; rfl);go_wp2_with fail;go_meet;exact ⟨_,rfl,by rw [NA.o]; rfl,HZ.o⟩
     ·have hI':(h.op != 1)=false:=(by unfold bne; rw [hI]; rfl);go_wp2_with fail;go_meet;exact ⟨_,rfl,by rw [NA.o]; rfl,HZ.o⟩
   | cons op' n' nm' gL rest=>
     obtain ⟨⟨b',off',nk,cap',rfl,jD,x0,x1,x2,x3,hok',lY⟩,hrest⟩:=hrow;cases rest with
     | nil=>
       simp only [aZ.len,Nat.zero_add] at c4;simp only [Nat.zero_mul,Nat.add_zero] at x0 x1 x2 x3;cases hI:(h.op == 1)
       ·have hI':(h.op != 1)=true:=(by unfold bne; rw [hI]; rfl);have HL:aj (fI h.op=false):=ah hI;go_wp2_with fail;go_meet;exact ⟨_,rfl,by rw [NA.o,HL.o]; rfl,HZ.o⟩
       ·have hI':(h.op != 1)=false:=(by unfold bne; rw [hI]; rfl);have HL:aj (fI h.op=true):=ah hI;go_wp2_with fail;refine (xG op' n' nm' gL _ _ _ hok' lY).mono ?_;rintro e' w3 ⟨rfl,hb3⟩;have HV:=ah (HZ.o.next hb3);clear hb3;cases hq:jH op' n' nm' gL
        all_goals go_wp2_with fail
        all_goals go_meet
        all_goals exact ⟨_,rfl,by rw [NA.o,HL.o,oF,hq]; rfl,HV.o⟩
     | cons op2 n2 XW LJ M5=>have hl2:2<=(aZ.cons op' n' nm' gL (aZ.cons op2 n2 XW LJ M5)).len:=(by simp only [aZ.len]; omega);have HL:aj (((decide (((aZ.cons op' n' nm' gL (aZ.cons op2 n2 XW LJ M5)).len:Int)<=1) && (!decide (((aZ.cons op' n' nm' gL (aZ.cons op2 n2 XW LJ M5)).len:Int)=1) || fI h.op)) && lI (aZ.cons op' n' nm' gL (aZ.cons op2 n2 XW LJ M5)))=false):=ah (by rw [decide_eq_false (by omega)]; rfl);clear x0 x1 x2 x3 hrest lY hok';generalize (aZ.cons op' n' nm' gL (aZ.cons op2 n2 XW LJ M5))=ix at *;have hl3:1 < ix.len:=(by omega);go_wp2_with fail;go_meet;exact ⟨_,rfl,by rw [NA.o,HL.o]; rfl,HZ.o⟩
 obtain ⟨t4,rfl,Xp,hX⟩:=hcut;have HU:=ah hX;have za:=ah Xp;clear hX Xp HZ c0 c1 c2 c3 c4 c5 c6 c7 c8 c9 c10;rw [<- za.o] at HS;clear za;cases t4
 case true=>
  as_aux_lemma=>go_wp2_with fail;go_ret;exact ⟨bK (HS.o.trans (by simp)).symm,HU.o.1⟩
 obtain ⟨-,⟨-,c0⟩,⟨-,c1⟩,⟨-,c2⟩,⟨-,c3⟩,⟨-,c4⟩,⟨-,c5⟩,⟨-,c6⟩,⟨-,c7⟩,⟨-,c8⟩,⟨-,c9⟩,⟨-,c10⟩,-⟩:=HU.o;go_upto_region 10 with fail;go_cut [4] (fun s' W3=>wc=W3∧s'= .bool (fX h.op))
 case first=>
  as_aux_lemma=>
   have HF:aj (fX h.op=((h.op == 1 || h.op == 2) || (h.op == 3 || h.op == 14))):=ah rfl;go_wp2_with fail
   all_goals go_meet
   all_goals exact ⟨rfl,by rw [HF.o]; congr 1; go_light; grind⟩
 obtain ⟨rfl,rfl⟩:=hcut;generalize fX h.op=bX at *;go_upto_region 11 with fail;go_cut [4,130] (fun _ s' W3=> ∃t,s'= .bool t∧(!t)=(if bX then jH h.bY h.xn h.bW h.aI else sF h.bY h.xn h.bW h.aI.len)∧Sit w W3 (sQ w.heap.size h b e ⟨dU,dG,dX,dA,cu,bJ,gH,eB⟩ []))
 case first=>
  as_aux_lemma=>
   cases bX
   ·go_wp2_with fail;refine (WQ _ _ _ _ _ _ _).mono ?_;rintro e' w3 ⟨rfl,hb3⟩;have HV:=ah (HU.o.next hb3);clear hb3;cases hq:sF h.bY h.xn h.bW h.aI.len
    all_goals go_wp2_with fail
    all_goals go_meet
    all_goals exact ⟨_,rfl,hq.symm,HV.o⟩
   ·go_wp2_with fail;refine (xG _ _ _ _ _ _ _ hxk (fu.o.same HU.o.1).2.2.1).mono ?_;rintro e' w3 ⟨rfl,hb3⟩;have HV:=ah (HU.o.next hb3);clear hb3 HU c0 c1 c2 c3 c4 c5 c6 c7 c8 c9 c10;obtain ⟨-,⟨-,c0⟩,⟨-,c1⟩,⟨-,c2⟩,⟨-,c3⟩,⟨-,c4⟩,⟨-,c5⟩,⟨-,c6⟩,⟨-,c7⟩,⟨-,c8⟩,⟨-,c9⟩,⟨-,c10⟩,-⟩:=HV.o;cases hq:jH h.bY h.xn h.bW h.aI
    all_goals go_wp2_with fail
    all_goals go_meet
    all_goals exact ⟨_,rfl,hq.symm,HV.o⟩
 obtain ⟨t5,rfl,ht5,hX⟩:=hcut;have HV:=ah hX;have HT5:=ah ht5;clear hX ht5 HU c0 c1 c2 c3 c4 c5 c6 c7 c8 c9 c10;rw [<- HT5.o] at HS;clear HT5;cases t5
 case true=>
  as_aux_lemma=>go_wp2_with fail;go_ret;exact ⟨bK (HS.o.trans (by simp)).symm,HV.o.1⟩
 obtain ⟨-,⟨-,c0⟩,⟨-,c1⟩,⟨-,c2⟩,⟨-,c3⟩,⟨-,c4⟩,⟨-,c5⟩,⟨-,c6⟩,⟨-,c7⟩,⟨-,c8⟩,⟨-,c9⟩,⟨-,c10⟩,-⟩:=HV.o;go_upto_region 13 with fail;go_cut [5] (fun s' W3=>wc=W3∧s'= .bool (fB h.op))
 case first=>
  as_aux_lemma=>
   have HF:aj (fB h.op=(decide (2<=h.op) && decide (h.op<=8))):=ah rfl;go_wp2_with fail
   all_goals go_meet
   all_goals exact ⟨rfl,by rw [HF.o]; congr 1; go_light; grind⟩
 obtain ⟨rfl,rfl⟩:=hcut;generalize fB h.op=bB at *;go_upto_region 14 with fail;go_cut [5,157] (fun _ s' W3=>wc=W3∧ ∃t,s'= .bool t∧(!t)=((bB || decide ((b.len:Int)<=0)) && (fE h.op || decide ((e.len:Int)<=0))))
 case first=>
  as_aux_lemma=>
   have HF:aj (fE h.op=(h.op == 2)):=ah rfl;cases bB
   all_goals cases h2:(h.op == 2)
   all_goals try have h2':(h.op != 2)=true:=by unfold bne; rw [h2]; rfl
   all_goals try have h2':(h.op != 2)=false:=by unfold bne; rw [h2]; rfl
   all_goals go_wp2_with fail
   all_goals go_meet
   all_goals exact ⟨rfl,_,rfl,by rw [HF.o,h2]; go_light; grind⟩
 obtain ⟨rfl,t6,rfl,ht6⟩:=hcut;have Br:=ah ht6;rw [<- Br.o] at HS;clear Br ht6;cases t6
 case true=>
  as_aux_lemma=>go_wp2_with fail;go_ret;exact ⟨bK (HS.o.trans (by simp)).symm,HV.o.1⟩
 go_wp2_with fail;refine (Ab b SG.o _ _ _ Zx (fu.o.same HV.o.1).2.2.2.1).mono ?_;rintro e' w4 ⟨rfl,hb4⟩;have HA:=ah (HV.o.next hb4);clear hb4 HV c0 c1 c2 c3 c4 c5 c6 c7 c8 c9 c10;obtain ⟨-,⟨-,c0⟩,⟨-,c1⟩,⟨-,c2⟩,⟨-,c3⟩,⟨-,c4⟩,⟨-,c5⟩,⟨-,c6⟩,⟨-,c7⟩,⟨-,c8⟩,⟨-,c9⟩,⟨-,c10⟩,-⟩:=HA.o;cases hq:dW b
 ·rw [hq] at HS;go_wp2_with fail;go_ret;exact ⟨bK (HS.o.trans (by simp)).symm,HA.o.1⟩
 ·rw [hq] at HS;go_wp2_with fail;refine (Ab e HIE.o _ _ _ ZA (fu.o.same HA.o.1).2.2.2.2).mono ?_;rintro e' w5 ⟨rfl,hb5⟩;go_wp2_with fail;go_ret;exact ⟨bK (HS.o.trans (by simp)).symm,(HA.o.next hb5).1⟩
theorem Gg (l:aH) (w:World) (ao:Option Addr) (cap:Nat) (hl:l.len<=maxLen) (hat:l.At w w.heap.size ao 0):
 Calls Tryz.prog 60 #[.slice ao l.len cap] w fun e' w'=>e'= .returned (.bool (dW l))∧Below w.heap.size w w':=
 Ab l (aH.nV Gf l) w ao cap hl hat
theorem OA (p:Pr) (w:World) (aB aD:Option Addr) (aA ay:Nat) (hp:p.At w aB aD):
 Calls Tryz.prog 31 #[.agg #[.slice aB p.ds.length aA,.slice aD p.ts.length ay]] w fun e w'=>e= .returned (.bool (qz p))∧Below w.heap.size w w':=by
 have HS:aj (qz p=((p.ds.all jd && p.ts.all pI) && decide ((0:Int) < p.ts.length))):=ah rfl;generalize qz p=res at *;have hld:=hp.1;have hlt:=hp.2.1;unfold maxLen at hld hlt;have HP:=ah hp;clear hp;go_enter Tryz.func31,Tryz.ntmps31;go_upto_region 1 with fail;generalize hW:World.alloc w _=W;generalize Value.agg #[_,_]=a0;have HX:=ah ((Sit.start w).yg rfl (.slice aB p.ds.length aA) (.slice aD p.ts.length ay) 26);rw [hW] at HX;clear hW;have hde:=(HP.o.same HX.o.1).2.2.1;go_wp2_with fail;go_loopw [3] (fun s wr=> ∃(k:Nat) (R:List De),s= .int .i64 k∧k + R.length=p.ds.length∧p.ds.all jd=R.all jd∧jW wr wr.heap.size R aB k∧Sit w wr [(w.heap.size,0,(.slice aB p.ds.length aA)),(w.heap.size,1,(.slice aD p.ts.length ay))]) (fun s _=>p.ds.length - (intOf s).toNat)
 case atStart=>exact ⟨0,p.ds,rfl,by simp,rfl,hde,HX.o⟩
 case round=>
  obtain ⟨k,R,rfl,hlen,heq,hrow,hsit⟩:=hrel;have HZ:=ah hsit;have HE:=ah heq;clear hsit HX hde heq;obtain ⟨-,⟨-,c0⟩,⟨-,c1⟩,-⟩:=HZ.o;cases R with
  | cons d R=>
    obtain ⟨⟨b,off,rfl,hB,x0,x1,x2,x3,x4,x5,hok⟩,hrest⟩:=hrow;simp only [List.length_cons] at hlen;have hkl:k < p.ds.length:=by omega
    have nK:=ah hok;clear hok;go_wp2_with fail;refine (IU d _ nK.o).mono ?_;rintro e' w2 ⟨rfl,hb2⟩;have HB3:=ah hb2;clear hb2 x0 x1 x2 x3 x4 x5 c0 c1;cases hS:jd d
    ·rw [HE.o,List.all_cons,hS] at HS;go_wp2_with fail;go_ret;exact ⟨bK (HS.o.trans (by simp)).symm,(HZ.o.next HB3.o).1⟩
    ·have HF:=ah (HE.o.trans (by rw [List.all_cons,hS]; rfl:_=R.all jd));go_wp2_with fail;go_roundw
     case rel=>exact ⟨k + 1,R,by go_num,by omega,HF.o,hrest.same HB3.o,HZ.o.next HB3.o⟩
     case measure=>simp [intOf]; omega
  | nil=>
    obtain rfl:k=p.ds.length:=by simpa using hlen
    rw [HE.o] at HS;have hth:=(HP.o.same HZ.o.1).2.2.2;clear HE hrow hlen;go_wp2_with fail;go_loopg [4,5,6] p.ts.length (fun g s _ _ wr=> ∃(k:Nat) (R:List Th),g=R.length∧s= .int .i64 k∧k + R.length=p.ts.length∧p.ts.all pI=R.all pI∧iN wr wr.heap.size R aD k∧Sit w wr [(w.heap.size,0,(.slice aB p.ds.length aA)),(w.heap.size,1,(.slice aD p.ts.length ay))])
    case atStart=>exact ⟨0,p.ts,rfl,rfl,by simp,rfl,hth,HZ.o⟩
    case round=>
     obtain ⟨k,R,rfl,rfl,hlen,heq,hrow,hsit⟩:=hrel;have HU:=ah hsit;have HE:=ah heq;clear hsit HZ c0 c1 hth heq;obtain ⟨-,⟨-,c0⟩,⟨-,c1⟩,-⟩:=HU.o;cases R with
     | nil=>obtain rfl:k=p.ts.length:=(by simpa using hlen);rw [HE.o] at HS;go_wp2_with fail;go_ret;exact ⟨bK (HS.o.trans (by simp)).symm,HU.o.1⟩
     | cons t R=>
       obtain ⟨⟨b,off,iK,fq,cu,bJ,rfl,hB,x0,x1,x2,x3,hok,htx,hst⟩,hrest⟩:=hrow;simp only [List.length_cons] at hlen;have hkl:k < p.ts.length:=(by omega);have hll:=hok.2.2.1;have nK:=ah hok;have KI:=ah htx;have HST:=ah hst;unfold maxLen at hll;clear hok htx hst;go_upto_region 10 with fail;clear c0 c1;obtain ⟨n2,hn2⟩: ∃n,wr.heap.size=n:=⟨_,rfl⟩;generalize hW2:World.alloc wr _=W2;have HB2:aj (Below wr.heap.size wr W2):=ah (by rw [<- hW2]; exact ak _ _);have HV:aj (Sit w W2 ((n2,0,.string t.nm) ::(n2,1,.int .i64 t.line) ::(n2,2,.slice iK t.bM.length fq) ::(n2,3,.slice cu t.body.len bJ) ::[(w.heap.size,0,(.slice aB p.ds.length aA)),(w.heap.size,1,(.slice (some ⟨b,off,none⟩) p.ts.length ay))])):=ah (by rw [<- hW2]; exact HU.o.Ae hn2 _ _ _ _ _);rw [hn2];clear hW2 hn2 x0 x1 x2 x3;have hrow:=KI.o.same HB2.o;go_wp2_with fail;obtain ⟨wo,rfl⟩: ∃wo:World,wo=wr:=⟨_,rfl⟩;go_loopw [6] (fun s wr=> ∃(k:Nat) (R:List ByteArray),s= .int .i64 k∧k + R.length=t.bM.length∧t.bM.all (fun s=>Tk.gZ s.data.toList)=R.all (fun s=>Tk.gZ s.data.toList)∧fP wr wr.heap.size R iK k∧Below wo.heap.size wo wr∧Sit w wr ((n2,0,.string t.nm) ::(n2,1,.int .i64 t.line) ::(n2,2,.slice iK t.bM.length fq) ::(n2,3,.slice cu t.body.len bJ) ::[(w.heap.size,0,(.slice aB p.ds.length aA)),(w.heap.size,1,(.slice (some ⟨b,off,none⟩) p.ts.length ay))])) (fun s _=>t.bM.length - (intOf s).toNat)
       case atStart=>exact ⟨0,t.bM,rfl,by simp,rfl,hrow,HB2.o,HV.o⟩
       case round=>
        obtain ⟨k',R',rfl,hlen',heq',hrow',Xk,Lv⟩:=hrel;have HC:=ah Lv;have D9:=ah Xk;have cZ:=ah heq';clear Lv HV hrow heq' Xk HB2;obtain ⟨-,⟨-,c0⟩,⟨-,c1⟩,⟨-,c2⟩,⟨-,c3⟩,⟨-,c4⟩,⟨-,c5⟩,-⟩:=HC.o;cases R' with
        | cons s R'=>
          obtain ⟨⟨b',off',rfl,hB',y0,hs⟩,hrest'⟩:=hrow';simp only [List.length_cons] at hlen';have hkl':k' < t.bM.length:=(by omega);go_wp2_with fail;refine (oC _ _ hs).mono ?_;rintro e' w3 ⟨rfl,hb3⟩;have dO:=ah hb3;clear hb3 c0 c1 c2 c3 c4 c5 y0;cases GH:Tk.gZ s.data.toList
          ·rw [HE.o,List.all_cons,show pI t=false by unfold pI; rw [cZ.o,List.all_cons,GH]; simp] at HS;go_wp2_with fail;go_ret;exact ⟨bK (HS.o.trans (by simp)).symm,(HC.o.next dO.o).1⟩
          ·have HF:=ah (cZ.o.trans (by rw [List.all_cons,GH]; rfl:_=R'.all (fun s=>Tk.gZ s.data.toList)));go_wp2_with fail;go_roundw
           case rel=>exact ⟨k' + 1,R',by go_num,by omega,HF.o,hrest'.same dO.o,D9.o.trans (dO.o.mono D9.o.size),HC.o.next dO.o⟩
           case measure=>simp [intOf]; omega
        | nil=>
          obtain rfl:k'=t.bM.length:=(by simpa using hlen');go_wp2_with fail;refine (oC _ _ nK.o.1).mono ?_;rintro e' w3 ⟨rfl,hb3⟩;have dO:=ah (D9.o.trans (hb3.mono D9.o.size));have HD:=ah (HC.o.next hb3);clear hb3 c0 c1 c2 c3 c4 c5 HC D9;cases hN:Tk.gZ t.nm.data.toList
          ·rw [HE.o,List.all_cons,show pI t=false by unfold pI; rw [hN]; rfl] at HS;go_wp2_with fail;go_ret;exact ⟨bK (HS.o.trans (by simp)).symm,HD.o.1⟩
          ·obtain ⟨-,⟨-,c0⟩,⟨-,c1⟩,⟨-,c2⟩,⟨-,c3⟩,⟨-,c4⟩,⟨-,c5⟩,-⟩:=HD.o;go_wp2_with fail;refine (Gg t.body _ _ _ nK.o.2.2.2 (HST.o.1.same dO.o)).mono ?_;rintro e' w4 ⟨rfl,hb4⟩;have kS:=ah (dO.o.trans (hb4.mono dO.o.size));have HDD:=ah (HD.o.next hb4);clear hb4 c0 c1 c2 c3 c4 c5;have HT:aj (pI t=dW t.body):=ah (by unfold pI; rw [hN,cZ.o]; rfl);cases GH:dW t.body
           ·rw [HE.o,List.all_cons,HT.o,GH] at HS;go_wp2_with fail;go_ret;exact ⟨bK (HS.o.trans (by simp)).symm,HDD.o.1⟩
           ·have HF:=ah (HE.o.trans (by rw [List.all_cons,HT.o,GH]; rfl:_=R.all pI));go_wp2_with fail;go_roundg R.length
            case measure=>simp
            case rel=>exact ⟨k + 1,R,rfl,by go_num,by omega,HF.o,hrest.same kS.o,HU.o.next kS.o⟩
end Go.Proofs.YtfbbaiejbjdfbaaGreatDoor
