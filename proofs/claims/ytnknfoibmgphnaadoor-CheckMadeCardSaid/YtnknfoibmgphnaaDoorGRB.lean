/-
  Contracts of the reference's shapedDecl, blank, ShapedStmt, ShapedStmts.
  Contract of the reference's ShapedStmt, ShapedStmts.
  Contract of the reference's Shaped.
-/
import Derived.Test.YtnknfoibmgphnaaDoorGMC
import Derived.Test.YtnknfoibmgphnaaDoorGRF
section
namespace Go.Proofs.YtnknfoibmgphnaaDoor
open Go.RowKit
open Md
theorem DR (s:ByteArray):ji s true=Tk.iM s.data.toList:=rfl
theorem DF (s:ByteArray):ji s false=decide (s.toList=[]):=by unfold ji; rw [Lib.toList_data,Bool.eq_iff_iff]; simp
set_option maxHeartbeats 2000000 in
theorem yR (d:De) (w:World) (hok:d.Ok):
 Calls Tryd.prog 33 #[.agg #[.int .i64 d.kind,.int .i64 d.line,.string d.nm,.int .i64 d.size,.int .i64 d.init,.string d.on]] w fun e w'=>e= .returned (.bool (jw d))∧Below w.heap.size w w':=by
 obtain ⟨⟨k1,k2⟩,-,hm,-,⟨i1,i2⟩,ho⟩:=hok
 obtain ⟨kind,line,nm,size,init,on⟩:=d
 have HE:Hid (jw ⟨kind,line,nm,size,init,on⟩=((((decide (1≤kind) && decide (kind≤6)) && Tk.iM nm.data.toList) && (decide (0≤size) && (decide (size=0) || decide (kind=1)))) && ((!decide (init= -9223372036854775808) && (decide (init=0) || (decide (kind=1) || decide (kind=2)))) && ji on (kind == 5)))):=Lib.hid (by
  unfold jw; simp only [bne]; rw [Bool.eq_iff_iff]; simp)
 dsimp only at *
 generalize jw ⟨kind,line,nm,size,init,on⟩=res at *
 go_enter Tryd.func33,Tryd.ntmps33
 go_upto_region 1 with fail
 generalize hW:World.alloc w _=W
 generalize Value.agg #[_,_,_,_,_,_]=a0
 have HX:=Lib.hid ((Sit.start w).Et rfl (.int .i64 kind) (.int .i64 line) (.string nm) (.int .i64 size) (.int .i64 init) (.string on) 37)
 rw [hW] at HX
 clear hW
 obtain ⟨-,⟨-,c0⟩,⟨-,c1⟩,⟨-,c2⟩,⟨-,c3⟩,⟨-,c4⟩,⟨-,c5⟩,-⟩:=HX.out
 go_cut [31] (fun s W2=> ∃b,s= .bool b∧(!b)=(((decide (1≤kind) && decide (kind≤6)) && Tk.iM nm.data.toList) && (decide (0≤size) && (decide (size=0) || decide (kind=1))))∧Sit w W2 [(w.heap.size,0,.int .i64 kind),(w.heap.size,1,.int .i64 line),(w.heap.size,2,.string nm),(w.heap.size,3,.int .i64 size),(w.heap.size,4,.int .i64 init),(w.heap.size,5,.string on)])
 case first=>
  cases hr:decide (1≤kind∧kind≤6)
  ·have hr':kind < 1∨(1≤kind∧6 < kind):=by simp at hr; omega
   clear hr
   rcases hr' with hr | ⟨hr,hr'⟩
   all_goals go_wp2_with fail
   all_goals go_meet
   all_goals exact ⟨_,rfl,by go_light; grind,HX.out⟩
  ·have hr':1≤kind∧kind≤6:=by simpa using hr
   obtain ⟨g1,g2⟩:=hr'
   clear hr
   go_wp2_with fail
   refine (jZ _ _ hm).mono ?_
   rintro e w3 ⟨rfl,hb3⟩
   have HZ:=Lib.hid (HX.out.next hb3)
   clear hb3 HX c0 c1 c2 c3 c4 c5
   obtain ⟨-,⟨-,c0⟩,⟨-,c1⟩,⟨-,c2⟩,⟨-,c3⟩,⟨-,c4⟩,⟨-,c5⟩,-⟩:=HZ.out
   cases hq:Tk.iM nm.data.toList
   all_goals go_wp2_with fail
   all_goals go_meet
   all_goals exact ⟨_,rfl,by rw [hq]; go_light; grind,HZ.out⟩
 obtain ⟨b1,rfl,hb1,hX⟩:=hcut
 have HY:=Lib.hid hX
 have HB1:=Lib.hid hb1
 clear hX HX hb1 c0 c1 c2 c3 c4 c5
 rw [← HB1.out] at HE
 clear HB1
 cases b1
 case true=>
  go_wp2_with fail
  go_ret
  exact ⟨aW (HE.out.trans (by simp)).symm,HY.out.1⟩
 obtain ⟨-,⟨-,c0⟩,⟨-,c1⟩,⟨-,c2⟩,⟨-,c3⟩,⟨-,c4⟩,⟨-,c5⟩,-⟩:=HY.out
 go_upto_region 3 with fail
 go_cut [50] (fun s W2=> ∃b,s= .bool b∧(!b)=ji on (kind == 5)∧Sit w W2 [(w.heap.size,0,.int .i64 kind),(w.heap.size,1,.int .i64 line),(w.heap.size,2,.string nm),(w.heap.size,3,.int .i64 size),(w.heap.size,4,.int .i64 init),(w.heap.size,5,.string on)])
 case first=>
  cases h5:(kind == 5)
  ·have h5':(kind != 5)=true:=by unfold bne; rw [h5]; rfl
   have HN:=Lib.hid (DF on)
   go_wp2_with fail
   all_goals go_meet
   all_goals exact ⟨_,rfl,by rw [h5,HN.out]; first | (simp; done) | (go_light; grind),HY.out⟩
  ·have h5':(kind != 5)=false:=by unfold bne; rw [h5]; rfl
   have HN:=Lib.hid (DR on)
   go_wp2_with fail
   refine (jZ _ _ ho).mono ?_
   rintro e w3 ⟨rfl,hb3⟩
   have HZ:=Lib.hid (HY.out.next hb3)
   clear hb3 HY c0 c1 c2 c3 c4 c5
   obtain ⟨-,⟨-,c0⟩,⟨-,c1⟩,⟨-,c2⟩,⟨-,c3⟩,⟨-,c4⟩,⟨-,c5⟩,-⟩:=HZ.out
   cases hq:Tk.iM on.data.toList
   all_goals go_wp2_with fail
   all_goals go_meet
   all_goals exact ⟨_,rfl,by rw [h5,HN.out,hq]; rfl,HZ.out⟩
 obtain ⟨b2,rfl,hb2,hX⟩:=hcut
 have HZ:=Lib.hid hX
 have HB2:=Lib.hid hb2
 clear hX HY hb2 c0 c1 c2 c3 c4 c5
 rw [← HB2.out] at HE
 clear HB2
 cases b2
 case true=>
  go_wp2_with fail
  go_ret
  exact ⟨aW (HE.out.trans (by simp)).symm,HZ.out.1⟩
 obtain ⟨-,⟨-,c0⟩,⟨-,c1⟩,⟨-,c2⟩,⟨-,c3⟩,⟨-,c4⟩,⟨-,c5⟩,-⟩:=HZ.out
 go_wp2_with fail
 all_goals go_ret
 all_goals refine ⟨aW (HE.out.trans ?_).symm,HZ.out.1⟩
 all_goals (go_light; grind)
theorem GI (op n:Int) (nm:ByteArray) (len cap:Nat) (ao:Option Addr) (w:World):
 Calls Tryd.prog 69 #[.agg #[.int .i64 op,.int .i64 n,.string nm,.slice ao len cap]] w fun e w'=>e= .returned (.bool (nR op n nm len))∧Below w.heap.size w w':=by
 have HE:Hid (nR op n nm len=(((decide (op=0) && decide (n=0)) && decide (nm.toList=[])) && decide (len=0))):=Lib.hid (by unfold nR; rw [Bool.eq_iff_iff]; simp)
 generalize nR op n nm len=res at *
 go_enter Tryd.func69,Tryd.ntmps69
 go_wp2
 all_goals go_ret
 all_goals refine ⟨aW ?_,ay _ _⟩
 all_goals rw [HE.out]
 all_goals (go_light; grind)
def sW (h:eH) (b e:aR):Prop:=
 ∀(w:World) (s:Sl),jE w h b e s→
  Calls Tryd.prog 47 #[aY h b e s] w fun e' w'=>e'= .returned (.bool (uD h b e))∧Below w.heap.size w w'
set_option maxHeartbeats 2000000 in
set_option maxRecDepth 100000 in
theorem qW (l:aR) (hall:l.All sW) (w:World) (ao:Option Addr) (cap:Nat) (hl:l.len≤maxLen) (hat:l.At w w.heap.size ao 0):
 Calls Tryd.prog 35 #[.slice ao l.len cap] w fun e' w'=>e'= .returned (.bool (eP l))∧Below w.heap.size w w':=by
 unfold maxLen at hl
 go_enter Tryd.func35,Tryd.ntmps35
 go_wp2_with fail
 go_loopw [3] (fun s wr=> ∃(k:Nat) (R:aR),s= .int .i64 k∧k + R.len=l.len∧eP l=eP R∧R.All sW∧R.At wr wr.heap.size ao k∧Below w.heap.size w wr) (fun s _=>l.len - (intOf s).toNat)
 case atStart=>exact ⟨0,l,rfl,by simp,rfl,hall,hat,Below.refl _ _⟩
 case round=>
  obtain ⟨k,R,rfl,hlen,heq,kZ,hrow,hB⟩:=hrel
  have HE:=Lib.hid heq
  clear heq
  cases R with
  | nil=>
    obtain rfl:k=l.len:=by simpa [aR.len] using hlen
    go_wp2_with fail
    go_ret
    exact ⟨aW HE.out.symm,hB⟩
  | cons h b e R=>
    obtain ⟨bl,off,s,rfl,hbl,hin,x0,x1,x2,x3,x4,x5,x6,x7,x8,x9,x10,hrest⟩:=aR.At.head hrow
    obtain ⟨lT,tK⟩:=kZ
    have hkl:k < l.len:=by simp only [aR.len] at hlen; omega
    clear hrow
    go_wp2_with fail
    refine (lT _ s hin).mono ?_
    rintro e' w2 ⟨rfl,hb2⟩
    have HB3:=Lib.hid hb2
    clear hb2 x0 x1 x2 x3 x4 x5 x6 x7 x8 x9 x10 hin
    cases hS:uD h b e
    ·have HF:=Lib.hid (HE.out.trans (by rw [sI,hS]; rfl:eP (.cons h b e R)=false))
     go_wp2_with fail
     go_ret
     exact ⟨aW HF.out.symm,hB.trans (HB3.out.mono hB.size)⟩
    ·have HF:=Lib.hid (HE.out.trans (by rw [sI,hS]; rfl:eP (.cons h b e R)=eP R))
     go_wp2_with fail
     go_roundw
     case rel=>exact ⟨k + 1,R,by go_num,by simp only [aR.len] at hlen; omega,HF.out,tK,hrest.same HB3.out,hB.trans (HB3.out.mono hB.size)⟩
     case measure=>simp [intOf]; omega
end Go.Proofs.YtnknfoibmgphnaaDoor
end
section
namespace Go.Proofs.YtnknfoibmgphnaaDoor
open Go.RowKit
open Md
theorem Qm {op:Int} (h1:1≤op) (h2:op≤15):fN op= !((op == 2 || op == 3) || (op == 7 || op == 8)):=by
 rw [Bool.eq_iff_iff]; unfold fN; simp; omega
set_option maxHeartbeats 4000000 in
set_option maxRecDepth 100000 in
theorem xS (h:eH) (b e:aR) (ihb:b.All sW) (Iq:e.All sW):sW h b e:=by
 intro w s hin
 obtain ⟨fU,eG,dW,cB,bg,aT,eY,dP⟩:=s
 have HS:Hid (uD h b e=((((fO h.op && (ji h.nm (fN h.op) && ji h.arg (fA h.op))) && ((decide ((h.idx.len:Int)≤1) && (!decide ((h.idx.len:Int)=1) || fI h.op)) && kD h.idx)) &&
  ((if fX h.op then jN h.dU h.xn h.dV h.bq else nR h.dU h.xn h.dV h.bq.len) && ((fB h.op || decide ((b.len:Int)≤0)) && (fE h.op || decide ((e.len:Int)≤0))))) && (eP b && eP e))):=Lib.hid (by
  unfold uD ru; rw [EU,F5,yD,yD])
 generalize uD h b e=res at *
 have jV:=Lib.hid hin
 have Ip:=Lib.hid ihb
 have Nq:=Lib.hid Iq
 obtain ⟨⟨⟨o1,o2⟩,-,hm,ha,hil,hxk,hbl,hel⟩,-⟩:=hin
 clear ihb Iq
 have Tj:=hil
 have Jd:=hbl
 have Km:=hel
 have hxl:=hxk.2.2.2
 unfold maxLen at hil hbl hel hxl
 unfold aY
 dsimp only
 go_enter Tryd.func47,Tryd.ntmps47
 go_upto_region 1 with fail
 generalize hW:World.alloc w _=W
 generalize Value.agg #[_,_,_,_,_,_,_,_,_,_,_]=a0
 have HX:Hid (Sit w W (iT w.heap.size h b e ⟨fU,eG,dW,cB,bg,aT,eY,dP⟩ [])):=Lib.hid (by rw [← hW]; exact (Sit.start w).gZ rfl _ _ _ _ _ _ _ _ _ _ _ _)
 clear hW
 obtain ⟨-,⟨-,c0⟩,⟨-,c1⟩,⟨-,c2⟩,⟨-,c3⟩,⟨-,c4⟩,⟨-,c5⟩,⟨-,c6⟩,⟨-,c7⟩,⟨-,c8⟩,⟨-,c9⟩,⟨-,c10⟩,-⟩:=HX.out
 go_cut [13] (fun s' W3=>W=W3∧ ∃t,s'= .bool t∧(!t)=(decide (1≤h.op) && decide (h.op≤15)))
 case first=>
  as_aux_lemma=>
   go_wp2_with fail
   all_goals go_meet
   all_goals exact ⟨rfl,_,rfl,by go_light; grind⟩
 obtain ⟨rfl,t1,rfl,ht1⟩:=hcut
 cases t1
 case true=>
  as_aux_lemma=>
   have HT:Hid (fO h.op=false):=Lib.hid ht1.symm
   rw [HT.out] at HS
   go_wp2_with fail
   go_ret
   exact ⟨aW (HS.out.trans (by simp)).symm,HX.out.1⟩
 have hr:1≤h.op∧h.op≤15:=by simpa using ht1.symm
 obtain ⟨g1,g2⟩:=hr
 rw [show fO h.op=true from ht1.symm,Qm g1 g2] at HS
 clear ht1
 go_upto_region 3 with fail
 go_cut [3] (fun s' W3=>W=W3∧s'= .bool ((h.op == 2 || h.op == 3) || (h.op == 7 || h.op == 8)))
 case first=>
  as_aux_lemma=>
   go_wp2_with fail
   all_goals go_meet
   all_goals exact ⟨rfl,by congr 1; go_light; grind⟩
 obtain ⟨rfl,rfl⟩:=hcut
 generalize ((h.op == 2 || h.op == 3) || (h.op == 7 || h.op == 8))=bn at *
 go_upto_region 4 with fail
 go_cut [3,47] (fun _ s' W2=> ∃t,s'= .bool t∧(!t)=ji h.nm (!bn)∧Sit w W2 (iT w.heap.size h b e ⟨fU,eG,dW,cB,bg,aT,eY,dP⟩ []))
 case first=>
  as_aux_lemma=>
   cases bn
   ·have HN:=Lib.hid (DR h.nm)
    go_wp2_with fail
    refine (jZ _ _ hm).mono ?_
    rintro e' w3 ⟨rfl,hb3⟩
    have HZ:=Lib.hid (HX.out.next hb3)
    clear hb3 HX c0 c1 c2 c3 c4 c5 c6 c7 c8 c9 c10
    obtain ⟨-,⟨-,c0⟩,⟨-,c1⟩,⟨-,c2⟩,⟨-,c3⟩,⟨-,c4⟩,⟨-,c5⟩,⟨-,c6⟩,⟨-,c7⟩,⟨-,c8⟩,⟨-,c9⟩,⟨-,c10⟩,-⟩:=HZ.out
    cases hq:Tk.iM h.nm.data.toList
    all_goals go_wp2_with fail
    all_goals go_meet
    all_goals exact ⟨_,rfl,(HN.out.trans hq).symm,HZ.out⟩
   ·have HN:=Lib.hid (DF h.nm)
    go_wp2_with fail
    all_goals go_meet
    all_goals exact ⟨_,rfl,(show _=ji h.nm false by rw [HN.out]; first | (simp; done) | (go_light; grind)),HX.out⟩
 obtain ⟨t2,rfl,ht2,hX⟩:=hcut
 have HY:=Lib.hid hX
 have HT2:=Lib.hid ht2
 clear hX ht2 HX c0 c1 c2 c3 c4 c5 c6 c7 c8 c9 c10
 rw [← HT2.out] at HS
 clear HT2
 cases t2
 case true=>
  as_aux_lemma=>
   go_wp2_with fail
   go_ret
   exact ⟨aW (HS.out.trans (by simp)).symm,HY.out.1⟩
 obtain ⟨-,⟨-,c0⟩,⟨-,c1⟩,⟨-,c2⟩,⟨-,c3⟩,⟨-,c4⟩,⟨-,c5⟩,⟨-,c6⟩,⟨-,c7⟩,⟨-,c8⟩,⟨-,c9⟩,⟨-,c10⟩,-⟩:=HY.out
 go_upto_region 6 with fail
 go_cut [66] (fun s' W2=> ∃t,s'= .bool t∧(!t)=ji h.arg (fA h.op)∧Sit w W2 (iT w.heap.size h b e ⟨fU,eG,dW,cB,bg,aT,eY,dP⟩ []))
 case first=>
  as_aux_lemma=>
   cases oJ:(h.op == 15)
   ·have SG:(h.op != 15)=true:=by unfold bne; rw [oJ]; rfl
    have HN:Hid (ji h.arg (fA h.op)=decide (h.arg.toList=[])):=Lib.hid (by unfold fA; rw [oJ]; exact DF h.arg)
    go_wp2_with fail
    all_goals go_meet
    all_goals exact ⟨_,rfl,(by rw [HN.out]; first | (simp; done) | (go_light; grind)),HY.out⟩
   ·have SG:(h.op != 15)=false:=by unfold bne; rw [oJ]; rfl
    have HN:Hid (ji h.arg (fA h.op)=Tk.iM h.arg.data.toList):=Lib.hid (by unfold fA; rw [oJ]; exact DR h.arg)
    go_wp2_with fail
    refine (jZ _ _ ha).mono ?_
    rintro e' w3 ⟨rfl,hb3⟩
    have HZ:=Lib.hid (HY.out.next hb3)
    clear hb3 HY c0 c1 c2 c3 c4 c5 c6 c7 c8 c9 c10
    obtain ⟨-,⟨-,c0⟩,⟨-,c1⟩,⟨-,c2⟩,⟨-,c3⟩,⟨-,c4⟩,⟨-,c5⟩,⟨-,c6⟩,⟨-,c7⟩,⟨-,c8⟩,⟨-,c9⟩,⟨-,c10⟩,-⟩:=HZ.out
    cases hq:Tk.iM h.arg.data.toList
    all_goals go_wp2_with fail
    all_goals go_meet
    all_goals exact ⟨_,rfl,(HN.out.trans hq).symm,HZ.out⟩
 obtain ⟨t3,rfl,ht3,hX⟩:=hcut
 have HZ:=Lib.hid hX
 have HT3:=Lib.hid ht3
 clear hX ht3 HY c0 c1 c2 c3 c4 c5 c6 c7 c8 c9 c10
 rw [← HT3.out] at HS
 clear HT3
 cases t3
 case true=>
  as_aux_lemma=>
   go_wp2_with fail
   go_ret
   exact ⟨aW (HS.out.trans (by simp)).symm,HZ.out.1⟩
 obtain ⟨-,⟨-,c0⟩,⟨-,c1⟩,⟨-,c2⟩,⟨-,c3⟩,⟨-,c4⟩,⟨-,c5⟩,⟨-,c6⟩,⟨-,c7⟩,⟨-,c8⟩,⟨-,c9⟩,⟨-,c10⟩,-⟩:=HZ.out
 go_upto_region 8 with fail
 go_cut [95] (fun s' W2=> ∃t,s'= .bool t∧(!t)=((decide ((h.idx.len:Int)≤1) && (!decide ((h.idx.len:Int)=1) || fI h.op)) && kD h.idx)∧Sit w W2 (iT w.heap.size h b e ⟨fU,eG,dW,cB,bg,aT,eY,dP⟩ []))
 case first=>
  as_aux_lemma=>
   have hrow:=(jV.out.same HZ.out.1).2.1
   generalize hix:h.idx=ix at hrow c4 hil
   have BS:=Lib.hid hix
   clear hix
   cases ix with
   | nil=>
     simp only [bJ.len] at c4
     clear hrow
     cases hI:(h.op == 1)
     ·have hI':(h.op != 1)=true:=by unfold bne; rw [hI]; rfl
      go_wp2_with fail
      go_meet
      exact ⟨_,rfl,by rw [BS.out]; rfl,HZ.out⟩
     ·have hI':(h.op != 1)=false:=by unfold bne; rw [hI]; rfl
      go_wp2_with fail
      go_meet
      exact ⟨_,rfl,by rw [BS.out]; rfl,HZ.out⟩
   | cons op' n' nm' fq rest=>
     obtain ⟨⟨b',off',jO,cap',rfl,ni,x0,x1,x2,x3,hok',jy⟩,hrest⟩:=hrow
     cases rest with
     | nil=>
       simp only [bJ.len,Nat.zero_add] at c4
       simp only [Nat.zero_mul,Nat.add_zero] at x0 x1 x2 x3
       cases hI:(h.op == 1)
       ·have hI':(h.op != 1)=true:=by unfold bne; rw [hI]; rfl
        have HL:Hid (fI h.op=false):=Lib.hid hI
        go_wp2_with fail
        go_meet
        exact ⟨_,rfl,by rw [BS.out,HL.out]; rfl,HZ.out⟩
       ·have hI':(h.op != 1)=false:=by unfold bne; rw [hI]; rfl
        have HL:Hid (fI h.op=true):=Lib.hid hI
        go_wp2_with fail
        refine (oQ op' n' nm' fq _ _ _ hok' jy).mono ?_
        rintro e' w3 ⟨rfl,hb3⟩
        have HV:=Lib.hid (HZ.out.next hb3)
        clear hb3
        cases hq:jN op' n' nm' fq
        all_goals go_wp2_with fail
        all_goals go_meet
        all_goals exact ⟨_,rfl,by rw [BS.out,HL.out,om,hq]; rfl,HV.out⟩
     | cons op2 n2 Iy zV Aq=>
       have hl2:2≤(bJ.cons op' n' nm' fq (bJ.cons op2 n2 Iy zV Aq)).len:=by simp only [bJ.len]; omega
       have HL:Hid (((decide (((bJ.cons op' n' nm' fq (bJ.cons op2 n2 Iy zV Aq)).len:Int)≤1) && (!decide (((bJ.cons op' n' nm' fq (bJ.cons op2 n2 Iy zV Aq)).len:Int)=1) || fI h.op)) && kD (bJ.cons op' n' nm' fq (bJ.cons op2 n2 Iy zV Aq)))=false):=Lib.hid (by rw [decide_eq_false (by omega)]; rfl)
       clear x0 x1 x2 x3 hrest jy hok'
       generalize (bJ.cons op' n' nm' fq (bJ.cons op2 n2 Iy zV Aq))=ix at *
       have hl3:1 < ix.len:=by omega
       go_wp2_with fail
       go_meet
       exact ⟨_,rfl,by rw [BS.out,HL.out]; rfl,HZ.out⟩
 obtain ⟨t4,rfl,Ih,hX⟩:=hcut
 have HU:=Lib.hid hX
 have vN:=Lib.hid Ih
 clear hX Ih HZ c0 c1 c2 c3 c4 c5 c6 c7 c8 c9 c10
 rw [← vN.out] at HS
 clear vN
 cases t4
 case true=>
  as_aux_lemma=>
   go_wp2_with fail
   go_ret
   exact ⟨aW (HS.out.trans (by simp)).symm,HU.out.1⟩
 obtain ⟨-,⟨-,c0⟩,⟨-,c1⟩,⟨-,c2⟩,⟨-,c3⟩,⟨-,c4⟩,⟨-,c5⟩,⟨-,c6⟩,⟨-,c7⟩,⟨-,c8⟩,⟨-,c9⟩,⟨-,c10⟩,-⟩:=HU.out
 go_upto_region 10 with fail
 go_cut [4] (fun s' W3=>wc=W3∧s'= .bool (fX h.op))
 case first=>
  as_aux_lemma=>
   have HF:Hid (fX h.op=((h.op == 1 || h.op == 2) || (h.op == 3 || h.op == 14))):=Lib.hid rfl
   go_wp2_with fail
   all_goals go_meet
   all_goals exact ⟨rfl,by rw [HF.out]; congr 1; go_light; grind⟩
 obtain ⟨rfl,rfl⟩:=hcut
 generalize fX h.op=bX at *
 go_upto_region 11 with fail
 go_cut [4,130] (fun _ s' W3=> ∃t,s'= .bool t∧(!t)=(if bX then jN h.dU h.xn h.dV h.bq else nR h.dU h.xn h.dV h.bq.len)∧Sit w W3 (iT w.heap.size h b e ⟨fU,eG,dW,cB,bg,aT,eY,dP⟩ []))
 case first=>
  as_aux_lemma=>
   cases bX
   ·go_wp2_with fail
    refine (GI _ _ _ _ _ _ _).mono ?_
    rintro e' w3 ⟨rfl,hb3⟩
    have HV:=Lib.hid (HU.out.next hb3)
    clear hb3
    cases hq:nR h.dU h.xn h.dV h.bq.len
    all_goals go_wp2_with fail
    all_goals go_meet
    all_goals exact ⟨_,rfl,hq.symm,HV.out⟩
   ·go_wp2_with fail
    refine (oQ _ _ _ _ _ _ _ hxk (jV.out.same HU.out.1).2.2.1).mono ?_
    rintro e' w3 ⟨rfl,hb3⟩
    have HV:=Lib.hid (HU.out.next hb3)
    clear hb3 HU c0 c1 c2 c3 c4 c5 c6 c7 c8 c9 c10
    obtain ⟨-,⟨-,c0⟩,⟨-,c1⟩,⟨-,c2⟩,⟨-,c3⟩,⟨-,c4⟩,⟨-,c5⟩,⟨-,c6⟩,⟨-,c7⟩,⟨-,c8⟩,⟨-,c9⟩,⟨-,c10⟩,-⟩:=HV.out
    cases hq:jN h.dU h.xn h.dV h.bq
    all_goals go_wp2_with fail
    all_goals go_meet
    all_goals exact ⟨_,rfl,hq.symm,HV.out⟩
 obtain ⟨t5,rfl,QG,hX⟩:=hcut
 have HV:=Lib.hid hX
 have LY:=Lib.hid QG
 clear hX QG HU c0 c1 c2 c3 c4 c5 c6 c7 c8 c9 c10
 rw [← LY.out] at HS
 clear LY
 cases t5
 case true=>
  as_aux_lemma=>
   go_wp2_with fail
   go_ret
   exact ⟨aW (HS.out.trans (by simp)).symm,HV.out.1⟩
 obtain ⟨-,⟨-,c0⟩,⟨-,c1⟩,⟨-,c2⟩,⟨-,c3⟩,⟨-,c4⟩,⟨-,c5⟩,⟨-,c6⟩,⟨-,c7⟩,⟨-,c8⟩,⟨-,c9⟩,⟨-,c10⟩,-⟩:=HV.out
 go_upto_region 13 with fail
 go_cut [5] (fun s' W3=>wc=W3∧s'= .bool (fB h.op))
 case first=>
  as_aux_lemma=>
   have HF:Hid (fB h.op=(decide (2≤h.op) && decide (h.op≤8))):=Lib.hid rfl
   go_wp2_with fail
   all_goals go_meet
   all_goals exact ⟨rfl,by rw [HF.out]; congr 1; go_light; grind⟩
 obtain ⟨rfl,rfl⟩:=hcut
 generalize fB h.op=bB at *
 go_upto_region 14 with fail
 go_cut [5,157] (fun _ s' W3=>wc=W3∧ ∃t,s'= .bool t∧(!t)=((bB || decide ((b.len:Int)≤0)) && (fE h.op || decide ((e.len:Int)≤0))))
 case first=>
  as_aux_lemma=>
   have HF:Hid (fE h.op=(h.op == 2)):=Lib.hid rfl
   cases bB
   all_goals cases h2:(h.op == 2)
   all_goals try have h2':(h.op != 2)=true:=by unfold bne; rw [h2]; rfl
   all_goals try have h2':(h.op != 2)=false:=by unfold bne; rw [h2]; rfl
   all_goals go_wp2_with fail
   all_goals go_meet
   all_goals exact ⟨rfl,_,rfl,by rw [HF.out,h2]; go_light; grind⟩
 obtain ⟨rfl,t6,rfl,RA⟩:=hcut
 have sw:=Lib.hid RA
 rw [← sw.out] at HS
 clear sw RA
 cases t6
 case true=>
  as_aux_lemma=>
   go_wp2_with fail
   go_ret
   exact ⟨aW (HS.out.trans (by simp)).symm,HV.out.1⟩
 go_wp2_with fail
 refine (qW b Ip.out _ _ _ Jd (jV.out.same HV.out.1).2.2.2.1).mono ?_
 rintro e' w4 ⟨rfl,hb4⟩
 have HA:=Lib.hid (HV.out.next hb4)
 clear hb4 HV c0 c1 c2 c3 c4 c5 c6 c7 c8 c9 c10
 obtain ⟨-,⟨-,c0⟩,⟨-,c1⟩,⟨-,c2⟩,⟨-,c3⟩,⟨-,c4⟩,⟨-,c5⟩,⟨-,c6⟩,⟨-,c7⟩,⟨-,c8⟩,⟨-,c9⟩,⟨-,c10⟩,-⟩:=HA.out
 cases hq:eP b
 ·rw [hq] at HS
  go_wp2_with fail
  go_ret
  exact ⟨aW (HS.out.trans (by simp)).symm,HA.out.1⟩
 ·rw [hq] at HS
  go_wp2_with fail
  refine (qW e Nq.out _ _ _ Km (jV.out.same HA.out.1).2.2.2.2).mono ?_
  rintro e' w5 ⟨rfl,hb5⟩
  go_wp2_with fail
  go_ret
  exact ⟨aW (HS.out.trans (by simp)).symm,(HA.out.next hb5).1⟩
theorem xC (l:aR) (w:World) (ao:Option Addr) (cap:Nat) (hl:l.len≤maxLen) (hat:l.At w w.heap.size ao 0):
 Calls Tryd.prog 35 #[.slice ao l.len cap] w fun e' w'=>e'= .returned (.bool (eP l))∧Below w.heap.size w w':=
 qW l (aR.lM xS l) w ao cap hl hat
end Go.Proofs.YtnknfoibmgphnaaDoor
end
section
namespace Go.Proofs.YtnknfoibmgphnaaDoor
open Go.RowKit
open Md
set_option maxHeartbeats 2000000 in
set_option maxRecDepth 100000 in
theorem Cr (p:Pr) (w:World) (aC aF:Option Addr) (aA av:Nat) (hp:p.At w aC aF):
 Calls Tryd.prog 19 #[.agg #[.slice aC p.ds.length aA,.slice aF p.ts.length av]] w fun e w'=>e= .returned (.bool (lN p))∧Below w.heap.size w w':=by
 have HS:Hid (lN p=((p.ds.all jw && p.ts.all kV) && decide ((0:Int) < p.ts.length))):=Lib.hid rfl
 generalize lN p=res at *
 have hld:=hp.1
 have hlt:=hp.2.1
 unfold maxLen at hld hlt
 have HP:=Lib.hid hp
 clear hp
 go_enter Tryd.func19,Tryd.ntmps19
 go_upto_region 1 with fail
 generalize hW:World.alloc w _=W
 generalize Value.agg #[_,_]=a0
 have HX:=Lib.hid ((Sit.start w).kC rfl (.slice aC p.ds.length aA) (.slice aF p.ts.length av) 26)
 rw [hW] at HX
 clear hW
 have hde:=(HP.out.same HX.out.1).2.2.1
 go_wp2_with fail
 go_loopw [3] (fun s wr=> ∃(k:Nat) (R:List De),s= .int .i64 k∧k + R.length=p.ds.length∧p.ds.all jw=R.all jw∧iZ wr wr.heap.size R aC k∧Sit w wr [(w.heap.size,0,(.slice aC p.ds.length aA)),(w.heap.size,1,(.slice aF p.ts.length av))]) (fun s _=>p.ds.length - (intOf s).toNat)
 case atStart=>exact ⟨0,p.ds,rfl,by simp,rfl,hde,HX.out⟩
 case round=>
  obtain ⟨k,R,rfl,hlen,heq,hrow,hsit⟩:=hrel
  have HZ:=Lib.hid hsit
  have HE:=Lib.hid heq
  clear hsit HX hde heq
  obtain ⟨-,⟨-,c0⟩,⟨-,c1⟩,-⟩:=HZ.out
  cases R with
  | cons d R=>
    obtain ⟨⟨b,off,rfl,hB,x0,x1,x2,x3,x4,x5,hok⟩,hrest⟩:=hrow
    simp only [List.length_cons] at hlen
    have hkl:k < p.ds.length:=by omega
    have lX:=Lib.hid hok
    clear hok
    go_wp2_with fail
    refine (yR d _ lX.out).mono ?_
    rintro e' w2 ⟨rfl,hb2⟩
    have HB3:=Lib.hid hb2
    clear hb2 x0 x1 x2 x3 x4 x5 c0 c1
    cases hS:jw d
    ·rw [HE.out,List.all_cons,hS] at HS
     go_wp2_with fail
     go_ret
     exact ⟨aW (HS.out.trans (by simp)).symm,(HZ.out.next HB3.out).1⟩
    ·have HF:=Lib.hid (HE.out.trans (by rw [List.all_cons,hS]; rfl:_=R.all jw))
     go_wp2_with fail
     go_roundw
     case rel=>exact ⟨k + 1,R,by go_num,by omega,HF.out,hrest.same HB3.out,HZ.out.next HB3.out⟩
     case measure=>simp [intOf]; omega
  | nil=>
    obtain rfl:k=p.ds.length:=by simpa using hlen
    rw [HE.out] at HS
    have hth:=(HP.out.same HZ.out.1).2.2.2
    clear HE hrow hlen
    go_wp2_with fail
    go_loopg [4,5,6] p.ts.length (fun g s _ _ wr=> ∃(k:Nat) (R:List Th),g=R.length∧s= .int .i64 k∧k + R.length=p.ts.length∧p.ts.all kV=R.all kV∧iy wr wr.heap.size R aF k∧Sit w wr [(w.heap.size,0,(.slice aC p.ds.length aA)),(w.heap.size,1,(.slice aF p.ts.length av))])
    case atStart=>exact ⟨0,p.ts,rfl,rfl,by simp,rfl,hth,HZ.out⟩
    case round=>
     obtain ⟨k,R,rfl,rfl,hlen,heq,hrow,hsit⟩:=hrel
     have HU:=Lib.hid hsit
     have HE:=Lib.hid heq
     clear hsit HZ c0 c1 hth heq
     obtain ⟨-,⟨-,c0⟩,⟨-,c1⟩,-⟩:=HU.out
     cases R with
     | nil=>
       obtain rfl:k=p.ts.length:=by simpa using hlen
       rw [HE.out] at HS
       go_wp2_with fail
       go_ret
       exact ⟨aW (HS.out.trans (by simp)).symm,HU.out.1⟩
     | cons t R=>
       obtain ⟨⟨b,off,iQ,gy,bg,aT,rfl,hB,x0,x1,x2,x3,hok,htx,hst⟩,hrest⟩:=hrow
       simp only [List.length_cons] at hlen
       have hkl:k < p.ts.length:=by omega
       have hll:=hok.2.2.1
       have lX:=Lib.hid hok
       have Ah:=Lib.hid htx
       have HST:=Lib.hid hst
       unfold maxLen at hll
       clear hok htx hst
       go_upto_region 10 with fail
       clear c0 c1
       obtain ⟨n2,hn2⟩: ∃n,wr.heap.size=n:=⟨_,rfl⟩
       generalize hW2:World.alloc wr _=W2
       have HB2:Hid (Below wr.heap.size wr W2):=Lib.hid (by rw [← hW2]; exact ay _ _)
       have HV:Hid (Sit w W2 ((n2,0,.string t.nm) ::(n2,1,.int .i64 t.line) ::(n2,2,.slice iQ t.bH.length gy) ::(n2,3,.slice bg t.body.len aT) ::[(w.heap.size,0,(.slice aC p.ds.length aA)),(w.heap.size,1,(.slice (some ⟨b,off,none⟩) p.ts.length av))])):=Lib.hid (by rw [← hW2]; exact HU.out.qX hn2 _ _ _ _ _)
       rw [hn2]
       clear hW2 hn2 x0 x1 x2 x3
       have hrow:=Ah.out.same HB2.out
       go_wp2_with fail
       obtain ⟨wo,rfl⟩: ∃wo:World,wo=wr:=⟨_,rfl⟩
       go_loopw [6] (fun s wr=> ∃(k:Nat) (R:List ByteArray),s= .int .i64 k∧k + R.length=t.bH.length∧t.bH.all (fun s=>Tk.iM s.data.toList)=R.all (fun s=>Tk.iM s.data.toList)∧iD wr wr.heap.size R iQ k∧Below wo.heap.size wo wr∧Sit w wr ((n2,0,.string t.nm) ::(n2,1,.int .i64 t.line) ::(n2,2,.slice iQ t.bH.length gy) ::(n2,3,.slice bg t.body.len aT) ::[(w.heap.size,0,(.slice aC p.ds.length aA)),(w.heap.size,1,(.slice (some ⟨b,off,none⟩) p.ts.length av))])) (fun s _=>t.bH.length - (intOf s).toNat)
       case atStart=>exact ⟨0,t.bH,rfl,by simp,rfl,hrow,HB2.out,HV.out⟩
       case round=>
        obtain ⟨k',R',rfl,hlen',heq',hrow',J8,Au⟩:=hrel
        have HC:=Lib.hid Au
        have uJ:=Lib.hid J8
        have dA:=Lib.hid heq'
        clear Au HV hrow heq' J8 HB2
        obtain ⟨-,⟨-,c0⟩,⟨-,c1⟩,⟨-,c2⟩,⟨-,c3⟩,⟨-,c4⟩,⟨-,c5⟩,-⟩:=HC.out
        cases R' with
        | cons s R'=>
          obtain ⟨⟨b',off',rfl,hB',y0,hs⟩,hrest'⟩:=hrow'
          simp only [List.length_cons] at hlen'
          have hkl':k' < t.bH.length:=by omega
          go_wp2_with fail
          refine (jZ _ _ hs).mono ?_
          rintro e' w3 ⟨rfl,hb3⟩
          have gV:=Lib.hid hb3
          clear hb3 c0 c1 c2 c3 c4 c5 y0
          cases yc:Tk.iM s.data.toList
          ·rw [HE.out,List.all_cons,show kV t=false by unfold kV; rw [dA.out,List.all_cons,yc]; simp] at HS
           go_wp2_with fail
           go_ret
           exact ⟨aW (HS.out.trans (by simp)).symm,(HC.out.next gV.out).1⟩
          ·have HF:=Lib.hid (dA.out.trans (by rw [List.all_cons,yc]; rfl:_=R'.all (fun s=>Tk.iM s.data.toList)))
           go_wp2_with fail
           go_roundw
           case rel=>exact ⟨k' + 1,R',by go_num,by omega,HF.out,hrest'.same gV.out,uJ.out.trans (gV.out.mono uJ.out.size),HC.out.next gV.out⟩
           case measure=>simp [intOf]; omega
        | nil=>
          obtain rfl:k'=t.bH.length:=by simpa using hlen'
          go_wp2_with fail
          refine (jZ _ _ lX.out.1).mono ?_
          rintro e' w3 ⟨rfl,hb3⟩
          have gV:=Lib.hid (uJ.out.trans (hb3.mono uJ.out.size))
          have HD:=Lib.hid (HC.out.next hb3)
          clear hb3 c0 c1 c2 c3 c4 c5 HC uJ
          cases hN:Tk.iM t.nm.data.toList
          ·rw [HE.out,List.all_cons,show kV t=false by unfold kV; rw [hN]; rfl] at HS
           go_wp2_with fail
           go_ret
           exact ⟨aW (HS.out.trans (by simp)).symm,HD.out.1⟩
          ·obtain ⟨-,⟨-,c0⟩,⟨-,c1⟩,⟨-,c2⟩,⟨-,c3⟩,⟨-,c4⟩,⟨-,c5⟩,-⟩:=HD.out
           go_wp2_with fail
           refine (xC t.body _ _ _ lX.out.2.2.2 (HST.out.1.same gV.out)).mono ?_
           rintro e' w4 ⟨rfl,hb4⟩
           have oZ:=Lib.hid (gV.out.trans (hb4.mono gV.out.size))
           have Pg:=Lib.hid (HD.out.next hb4)
           clear hb4 c0 c1 c2 c3 c4 c5
           have HT:Hid (kV t=eP t.body):=Lib.hid (by unfold kV; rw [hN,dA.out]; rfl)
           cases yc:eP t.body
           ·rw [HE.out,List.all_cons,HT.out,yc] at HS
            go_wp2_with fail
            go_ret
            exact ⟨aW (HS.out.trans (by simp)).symm,Pg.out.1⟩
           ·have HF:=Lib.hid (HE.out.trans (by rw [List.all_cons,HT.out,yc]; rfl:_=R.all kV))
            go_wp2_with fail
            go_roundg R.length
            case measure=>simp
            case rel=>exact ⟨k + 1,R,rfl,by go_num,by omega,HF.out,hrest.same oZ.out,HU.out.next oZ.out⟩
end Go.Proofs.YtnknfoibmgphnaaDoor
end
