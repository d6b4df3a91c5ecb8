/- Contracts of check.first, nesting, and of the checker's kind, expr, own, mutexOf. And what hangs on it. -/
import Derived.Test.YtfbbaiejbjdfbaaGreatDoorGMC
import Derived.Test.YtfbbaiejbjdfbaaGreatDoorGME
import Derived.Test.YtfbbaiejbjdfbaaGreatDoorGMB
set_option linter.unusedSimpArgs false
set_option linter.unusedVariables false
set_option maxHeartbeats 40000000
set_option maxRecDepth 1000000
namespace Go.Proofs.YtfbbaiejbjdfbaaGreatDoor
open Go.RowKit
namespace Md
def dN:List Int->Int
 | []=>0
 | a ::r=>if a != 0 then a else dN r
def nest (b:Bool):Int:=if b then 7 else 0
def qm (ds:List De) (nm:ByteArray):ByteArray:=((ds.find? fun d=>d.kind == 5 && d.nm.toList == nm.toList).map (·.on)).getD ⟨#[]⟩
theorem Sq (d:De) (r:List De) (nm:ByteArray):qm (d ::r) nm=if d.kind == 5 && d.nm.toList == nm.toList then d.on else qm r nm:=by
 unfold qm; rw [List.find?_cons]; cases h:(d.kind == 5 && d.nm.toList == nm.toList) <;> simp
end Md
open Md
def vQ (bc:Nat) (p:Pr) (aB aD:Option Addr) (aA ay:Nat) (i:Int) (bR:Option Addr) (yx bf bs bt:Nat):List (Nat × Nat × Value):=
 [(bc,0,.slice aB p.ds.length aA),(bc,1,.slice aD p.ts.length ay),(bc,2,.int .i64 i),(bc,3,.slice bR yx bf),(bc,4,.map (some bs)),(bc,5,.map (some bt))]
theorem nO (b:Bool) (w:World):
 Calls Tryz.prog 125 #[.bool b] w fun e w'=>e= .returned (.int .i64 (nest b))∧w=w':=by
 cases b
 all_goals go_enter Tryz.func125,Tryz.ntmps125;go_wp2;go_ret;exact ⟨rfl,rfl⟩
theorem lg (l:List Int) (w:World) (ao:Option Addr) (cap:Nat) (hl:l.length<=maxLen) (hat:fM w w.heap.size l ao 0):
 Calls Tryz.prog 123 #[.slice ao l.length cap] w fun e w'=>e= .returned (.int .i64 (dN l))∧w=w':=by
 unfold maxLen at hl;generalize hres:dN l=res;have HR:=ah hres;clear hres;go_enter Tryz.func123,Tryz.ntmps123;go_wp2_with fail;go_loop [4,7] (fun _ s=> ∃(k:Nat) (R:List Int),s= .int .i64 k∧k + R.length=l.length∧res=dN R∧fM w w.heap.size R ao k) (fun _ s=>l.length - (intOf s).toNat)
 case atStart=>exact ⟨0,l,rfl,by simp,HR.o.symm,hat⟩
 case round=>
  obtain ⟨k,R,rfl,hlen,heq,hrow⟩:=hrel;have HE:=ah heq;clear heq;cases R with
  | nil=>
    obtain rfl:k=l.length:=by simpa using hlen
    go_wp2_with fail;go_ret;exact ⟨bF HE.o.symm,rfl⟩
  | cons a R=>
    obtain ⟨⟨b,off,rfl,hB,y0⟩,hrest⟩:=hrow;simp only [List.length_cons] at hlen;have hkl:k < l.length:=by omega
    cases hc:(a != 0)
    ·have cZ:=ah (HE.o.trans (if_neg (by rw [hc]; decide)));go_wp2_with fail;go_round
     case rel=>exact ⟨k + 1,R,by go_num,by omega,cZ.o,hrest⟩
     case measure=>simp [intOf]; omega
    ·have cZ:=ah (HE.o.trans (if_pos hc));go_wp2_with fail;go_ret;exact ⟨bF cZ.o.symm,rfl⟩
section
variable (p:Pr) (w:World) (aB aD:Option Addr) (aA ay:Nat) (i:Int) (bR:Option Addr) (yx bf bs bt bc:Nat)
theorem lG (nm:ByteArray) (l:List Int) (ao:Option Addr) (cap:Nat) (hi:bS i) (hl:l.length<=maxLen) (hp:p.At w aB aD) (hw:fM w w.heap.size l ao 0) (hh:Holds w (vQ bc p aB aD aA ay i bR yx bf bs bt)):
 Calls Tryz.prog 124 #[.pointer (some ⟨bc,0,none⟩),.string nm,.slice ao l.length cap] w fun e w'=>e= .returned (.int .i64 (cB (mean p i nm) l))∧Below w.heap.size w w':=by
 have HH:=ah (show Sit w w _ from ⟨Below.refl _ _,hh⟩);have HP:=ah hp;have HW:=ah hw;clear hp hw hh;go_enter Tryz.func124,Tryz.ntmps124;go_wp2_with fail;obtain ⟨T,F,Bc,hst,hF,hnext⟩:=calm w;have HF:=ah hF;have cO:=ah hnext;clear hnext hF;have d0:=fun x=>(HH.o.next (HF.o x)).2.1.2;have d1:=fun x=>(HH.o.next (HF.o x)).2.2.1.2;have d2:=fun x=>(HH.o.next (HF.o x)).2.2.2.1.2;have d3:=fun x=>(HH.o.next (HF.o x)).2.2.2.2.1.2;have d4:=fun x=>(HH.o.next (HF.o x)).2.2.2.2.2.1.2;have d5:=fun x=>(HH.o.next (HF.o x)).2.2.2.2.2.2.1.2;refine je F (by kernel_rfl) (by kernel_rfl) hst ?_
 repeat (any_goals (first | go_big_quiet_step ((go_at_call 136; refine (BR p i nm l _ aB aD ao aA ay cap hi hl (HP.o.same (HF.o _)) (HW.o.same (HF.o _))).mono ?_; rintro e w' ⟨rfl,hb⟩; exact ⟨rfl,cO.o _ _ hb⟩)) | (refine wpQuiet_step (fun K hK=> ?_); go_simp; first | (refine hK _ ?_; clear hK K) | (split <;> first | (refine hK _ ?_; clear hK K) | (apply Exists.intro; refine ⟨fun _=> ?_,hK _ ?_⟩; ((go_at_call 136; refine (BR p i nm l _ aB aD ao aA ay cap hi hl (HP.o.same (HF.o _)) (HW.o.same (HF.o _))).mono ?_; rintro e w' ⟨rfl,hb⟩; exact ⟨rfl,cO.o _ _ hb⟩)); clear hK K)))))
 all_goals (refine wpQuiet_nil ?_; rintro _ ⟨x,rfl⟩)
 go_wp2_with fail;go_ret;exact ⟨rfl,HF.o x⟩
theorem zh (op n:Int) (nm:ByteArray) (kids:aZ) (ao:Option Addr) (cap:Nat) (hi:bS i) (hp:p.At w aB aD) (hok:sG op n nm kids) (hat:kids.At w w.heap.size ao 0) (fK:fC w) (hh:Holds w (vQ bc p aB aD aA ay i bR yx bf bs bt)):
 Calls Tryz.prog 122 #[.pointer (some ⟨bc,0,none⟩),.agg #[.int .i64 op,.int .i64 n,.string nm,.slice ao kids.len cap]] w fun e w'=>e= .returned (.int .i64 (jT p i op n nm kids))∧Below w.heap.size w w':=by
 have HH:=ah (show Sit w w _ from ⟨Below.refl _ _,hh⟩);have HP:=ah hp;have HAT:=ah hat;have kD:=ah fK;clear hp hat hh fK;go_enter Tryz.func122,Tryz.ntmps122;go_upto_region 1 with fail;generalize hW:World.alloc w _=W;generalize Value.agg #[_,_,_,_]=a0;have HX:=ah (HH.o.Ae rfl (.int .i64 op) (.int .i64 n) (.string nm) (.slice ao kids.len cap) 66);rw [hW] at HX;clear hW;obtain ⟨T,F,Bc,hst,hF,hnext⟩:=calm W;have HF:=ah hF;have cO:=ah hnext;clear hnext hF;have d0:=fun x=>(HX.o.next (HF.o x)).2.1.2;have d1:=fun x=>(HX.o.next (HF.o x)).2.2.1.2;have d2:=fun x=>(HX.o.next (HF.o x)).2.2.2.1.2;have d3:=fun x=>(HX.o.next (HF.o x)).2.2.2.2.1.2;have d4:=fun x=>(HX.o.next (HF.o x)).2.2.2.2.2.1.2;have d5:=fun x=>(HX.o.next (HF.o x)).2.2.2.2.2.2.1.2;have d6:=fun x=>(HX.o.next (HF.o x)).2.2.2.2.2.2.2.1.2;have d7:=fun x=>(HX.o.next (HF.o x)).2.2.2.2.2.2.2.2.1.2;have d8:=fun x=>(HX.o.next (HF.o x)).2.2.2.2.2.2.2.2.2.1.2;have d9:=fun x=>(HX.o.next (HF.o x)).2.2.2.2.2.2.2.2.2.2.1.2;refine je F (by kernel_rfl) (by kernel_rfl) hst ?_
 repeat (any_goals (first | go_big_quiet_step ((go_at_call 135; refine (Fq p i op n nm kids _ aB aD ao aA ay cap hi ((HP.o.same HX.o.1).same (HF.o _)) hok ((HAT.o.same HX.o.1).same (HF.o _)) ((kD.o.same HX.o.1).same (HF.o _))).mono ?_; rintro e w' ⟨rfl,hb⟩; exact ⟨rfl,cO.o _ _ hb⟩)) | (refine wpQuiet_step (fun K hK=> ?_); go_simp; first | (refine hK _ ?_; clear hK K) | (split <;> first | (refine hK _ ?_; clear hK K) | (apply Exists.intro; refine ⟨fun _=> ?_,hK _ ?_⟩; ((go_at_call 135; refine (Fq p i op n nm kids _ aB aD ao aA ay cap hi ((HP.o.same HX.o.1).same (HF.o _)) hok ((HAT.o.same HX.o.1).same (HF.o _)) ((kD.o.same HX.o.1).same (HF.o _))).mono ?_; rintro e w' ⟨rfl,hb⟩; exact ⟨rfl,cO.o _ _ hb⟩)); clear hK K)))))
 all_goals (refine wpQuiet_nil ?_; rintro _ ⟨x,rfl⟩)
 go_wp2_with fail;go_ret;exact ⟨rfl,(HX.o.next (HF.o x)).1⟩
theorem O4 (j:Nat) (t:Th) (r:List Th) (hd:p.ts.drop j=t ::r) (hp:p.At w aB aD) (hh:Holds w (vQ bc p aB aD aA ay (j:Int) bR yx bf bs bt)):
 Calls Tryz.prog 129 #[.pointer (some ⟨bc,0,none⟩)] w fun e w'=>e= .returned (.string t.nm)∧Below w.heap.size w w':=by
 have HH:=ah (show Sit w w _ from ⟨Below.refl _ _,hh⟩);have hj:j < p.ts.length:=by have:=congrArg List.length hd; simp at this; omega
 have hth:=hp.2.2.2.drop j;rw [hd,Nat.zero_add] at hth;obtain ⟨⟨b,off,iK,fq,cu,bJ,rfl,hB,x0,-⟩,-⟩:=hth;clear hp hd hh;obtain ⟨-,⟨-,c0⟩,⟨-,c1⟩,⟨-,c2⟩,⟨-,c3⟩,⟨-,c4⟩,⟨-,c5⟩,-⟩:=HH.o;have hj0:(0:Int)<=j:=by omega
 have hj1:(j:Int) < p.ts.length:=by omega
 go_enter Tryz.func129,Tryz.ntmps129;go_wp2_with fail;go_quiet (fail);go_wp2_with fail;go_ret;exact ⟨rfl,below_drewN (Below.refl _ _) _⟩
theorem uJ (nm:ByteArray) (hp:p.At w aB aD) (hh:Holds w (vQ bc p aB aD aA ay i bR yx bf bs bt)):
 Calls Tryz.prog 128 #[.pointer (some ⟨bc,0,none⟩),.string nm] w fun e w'=>e= .returned (.string (qm p.ds nm))∧Below w.heap.size w w':=by
 have HH:=ah (show Sit w w _ from ⟨Below.refl _ _,hh⟩);have HP:=ah hp;have hld:=hp.1;unfold maxLen at hld;generalize hres:qm p.ds nm=res;have HR:=ah hres;clear hp hh hres;obtain ⟨-,⟨-,c0⟩,⟨-,c1⟩,⟨-,c2⟩,⟨-,c3⟩,⟨-,c4⟩,⟨-,c5⟩,-⟩:=HH.o;go_enter Tryz.func128,Tryz.ntmps128;go_wp2_with fail;go_loopw [6,13] (fun _ s wr=> ∃(k:Nat) (R:List De),s= .int .i64 k∧k + R.length=p.ds.length∧res=qm R nm∧jW wr wr.heap.size R aB k∧Below w.heap.size w wr) (fun _ s _=>p.ds.length - (intOf s).toNat)
 case atStart=>exact ⟨0,p.ds,rfl,by simp,HR.o.symm,HP.o.2.2.1,Below.refl _ _⟩
 case round=>
  obtain ⟨k,R,rfl,hlen,heq,hrow,hB⟩:=hrel;have HE:=ah heq;have HB:=ah hB;clear heq hB c0 c1 c2 c3 c4 c5;cases R with
  | nil=>
    obtain rfl:k=p.ds.length:=by simpa using hlen
    go_wp2_with fail;go_ret;exact ⟨by rw [HE.o]; rfl,HB.o⟩
  | cons d R=>
    obtain ⟨⟨b,off,rfl,hB,x0,x1,x2,x3,x4,x5,hok⟩,hrest⟩:=hrow;simp only [List.length_cons] at hlen;have hkl:k < p.ds.length:=by omega
    rw [Sq] at HE;have HB2:=ah (HB.o.trans ((ak wr (.cells #[.int .i64 d.kind,.int .i64 d.line,.string d.nm,.int .i64 d.size,.int .i64 d.init,.string d.on] 93)).mono HB.o.size));clear hok;cases h5:(d.kind == 5)
    ·have cZ:=ah (HE.o.trans (if_neg (by rw [h5]; simp)));go_wp2_with fail;go_roundw
     case rel=>exact ⟨k + 1,R,by go_num,by omega,cZ.o,hrest.same (ak _ _),HB2.o⟩
     case measure=>simp [intOf]; omega
    ·cases hc:(d.nm.toList == nm.toList)
     ·have cZ:=ah (HE.o.trans (if_neg (by rw [h5,hc]; decide)));go_wp2_with fail;go_roundw
      case rel=>exact ⟨k + 1,R,by go_num,by omega,cZ.o,hrest.same (ak _ _),HB2.o⟩
      case measure=>simp [intOf]; omega
     ·have cZ:=ah (HE.o.trans (if_pos (by rw [h5,hc]; rfl)));go_wp2_with fail;go_ret;exact ⟨by rw [cZ.o]; rfl,HB2.o⟩
end
namespace Md
def eY:aH->List Int->Bool
 | .nil,_=>false
 | .cons h _ _ r,l=>(l.any fun k=>h.op == k) || eY r l
def sK:aH->ByteArray->List Int->Bool
 | .nil,_,_=>false
 | .cons h _ _ r,nm,l=>(l.any fun k=>h.op == k && h.nm.toList == nm.toList) || sK r nm l
end Md
section
variable (p:Pr) (w:World) (aB aD:Option Addr) (aA ay:Nat) (i:Int) (bR:Option Addr) (bf bs bt bc:Nat)
theorem mI (ar:aH) (l:List Int) (ao:Option Addr) (cap:Nat) (hl:l.length<=maxLen) (hw:fM w w.heap.size l ao 0) (har:ar.len<=maxLen) (hat:ar.At w w.heap.size bR 0) (hh:Holds w (vQ bc p aB aD aA ay i bR ar.len bf bs bt)):
 Calls Tryz.prog 126 #[.pointer (some ⟨bc,0,none⟩),.slice ao l.length cap] w fun e w'=>e= .returned (.bool (eY ar l))∧Below w.heap.size w w':=by
 have HH:=ah (show Sit w w _ from ⟨Below.refl _ _,hh⟩);have HW:=ah hw;have HAT:=ah hat;generalize hres:eY ar l=res;have HR:=ah hres;unfold maxLen at hl har;clear hh hw hat hres;obtain ⟨-,⟨-,c0⟩,⟨-,c1⟩,⟨-,c2⟩,⟨-,c3⟩,⟨-,c4⟩,⟨-,c5⟩,-⟩:=HH.o;go_enter Tryz.func126,Tryz.ntmps126;go_wp2_with fail;go_loopw [6,8,14,18,19,20] (fun _ _ s _ _ _ wr=> ∃(k:Nat) (R:aH),s= .int .i64 k∧k + R.len=ar.len∧res=eY R l∧R.At wr wr.heap.size bR k∧Below w.heap.size w wr) (fun _ _ s _ _ _ _=>ar.len - (intOf s).toNat)
 case atStart=>exact ⟨0,ar,rfl,by simp,HR.o.symm,HAT.o,Below.refl _ _⟩
 case round=>
  obtain ⟨k,R,rfl,hlen,heq,hrow,hB⟩:=hrel;have HE:=ah heq;have HB:=ah hB;clear heq hB c0 c1 c2 c3 c4 c5;cases R with
  | nil=>
    obtain rfl:k=ar.len:=by simpa [aH.len] using hlen
    go_wp2_with fail;go_ret;exact ⟨bK HE.o.symm,HB.o⟩
  | cons h b e R=>
    obtain ⟨bl,off,s,rfl,hbl,hin,x0,x1,x2,x3,x4,x5,x6,x7,x8,x9,x10,hrest⟩:=aH.At.head hrow;have hkl:k < ar.len:=by simp only [aH.len] at hlen; omega
    clear hrow hin;go_upto_region 4 with fail;obtain ⟨nb,hnb⟩: ∃n,wr.heap.size=n:=⟨_,rfl⟩;generalize hW2:World.alloc wr _=W2;have HY:aj (Sit wr W2 (sQ nb h b e s [])):=ah (by rw [<- hW2]; exact (Sit.start wr).wK hnb _ _ _ _ _ _ _ _ _ _ _ _);have HB2:=ah (HB.o.trans (HY.o.1.mono HB.o.size));have ko:=ah (hrest.same HY.o.1);have Lp:=HW.o.same HB2.o;rw [hnb];clear hW2 hnb x0 x1 x2 x3 x4 x5 x6 x7 x8 x9 x10 hrest;obtain ⟨-,⟨-,c0⟩,⟨-,c1⟩,⟨-,c2⟩,⟨-,c3⟩,⟨-,c4⟩,⟨-,c5⟩,⟨-,c6⟩,⟨-,c7⟩,⟨-,c8⟩,⟨-,c9⟩,⟨-,c10⟩,-⟩:=HY.o;clear c1 c2 c3 c4 c5 c6 c7 c8 c9 c10;go_wp2_with fail;go_loop [8,20] (fun _ s'=> ∃(k':Nat) (Q:List Int),s'= .int .i64 k'∧k' + Q.length=l.length∧(l.any fun k=>h.op == k)=(Q.any fun k=>h.op == k)∧fM W2 W2.heap.size Q ao k') (fun _ s'=>l.length - (intOf s').toNat)
    case atStart=>exact ⟨0,l,rfl,by simp,rfl,Lp⟩
    case round=>
     obtain ⟨k',Q,rfl,hlen',heq',hrow'⟩:=hrel;have HQ:=ah heq';clear heq' Lp;cases Q with
     | nil=>
       obtain rfl:k'=l.length:=(by simpa using hlen');have HF:aj (res=eY R l):=ah (HE.o.trans (by rw [eY,HQ.o]; rfl));go_wp2_with fail;go_roundw
       case rel=>exact ⟨k + 1,R,by go_num,by simp only [aH.len] at hlen; omega,HF.o,ko.o,HB2.o⟩
       case measure=>simp [intOf]; omega
     | cons q Q=>
       obtain ⟨⟨b2,off2,rfl,hB2,z0⟩,hrest'⟩:=hrow';simp only [List.length_cons] at hlen';have hkl':k' < l.length:=(by omega);have yZ:aj ((l.any fun k=>h.op == k)=((h.op == q) || (Q.any fun k=>h.op == k))):=ah (HQ.o.trans (by simp));cases hc:(h.op == q)
       ·have HF:=ah (yZ.o.trans (by rw [hc]; rfl:_=(Q.any fun k=>h.op == k)));go_wp2_with fail;go_round
        case rel=>exact ⟨k' + 1,Q,by go_num,by omega,HF.o,hrest'⟩
        case measure=>simp [intOf]; omega
       ·have HF:aj (res=true):=ah (HE.o.trans (by rw [eY,yZ.o,hc]; rfl));go_wp2_with fail;go_ret;exact ⟨bK HF.o.symm,HB2.o⟩
theorem ql (ar:aH) (nm:ByteArray) (l:List Int) (ao:Option Addr) (cap:Nat) (hl:l.length<=maxLen) (hw:fM w w.heap.size l ao 0) (har:ar.len<=maxLen) (hat:ar.At w w.heap.size bR 0) (hh:Holds w (vQ bc p aB aD aA ay i bR ar.len bf bs bt)):
 Calls Tryz.prog 127 #[.pointer (some ⟨bc,0,none⟩),.string nm,.slice ao l.length cap] w fun e w'=>e= .returned (.bool (sK ar nm l))∧Below w.heap.size w w':=by
 have HH:=ah (show Sit w w _ from ⟨Below.refl _ _,hh⟩);have HW:=ah hw;have HAT:=ah hat;generalize hres:sK ar nm l=res;have HR:=ah hres;unfold maxLen at hl har;clear hh hw hat hres;obtain ⟨-,⟨-,c0⟩,⟨-,c1⟩,⟨-,c2⟩,⟨-,c3⟩,⟨-,c4⟩,⟨-,c5⟩,-⟩:=HH.o;go_enter Tryz.func127,Tryz.ntmps127;go_wp2_with fail;go_loopw [8,10,16,20,21,22] (fun _ _ s _ _ _ wr=> ∃(k:Nat) (R:aH),s= .int .i64 k∧k + R.len=ar.len∧res=sK R nm l∧R.At wr wr.heap.size bR k∧Below w.heap.size w wr) (fun _ _ s _ _ _ _=>ar.len - (intOf s).toNat)
 case atStart=>exact ⟨0,ar,rfl,by simp,HR.o.symm,HAT.o,Below.refl _ _⟩
 case round=>
  obtain ⟨k,R,rfl,hlen,heq,hrow,hB⟩:=hrel;have HE:=ah heq;have HB:=ah hB;clear heq hB c0 c1 c2 c3 c4 c5;cases R with
  | nil=>
    obtain rfl:k=ar.len:=by simpa [aH.len] using hlen
    go_wp2_with fail;go_ret;exact ⟨bK HE.o.symm,HB.o⟩
  | cons h b e R=>
    obtain ⟨bl,off,s,rfl,hbl,hin,x0,x1,x2,x3,x4,x5,x6,x7,x8,x9,x10,hrest⟩:=aH.At.head hrow;have hkl:k < ar.len:=by simp only [aH.len] at hlen; omega
    clear hrow hin;go_upto_region 4 with fail;obtain ⟨nb,hnb⟩: ∃n,wr.heap.size=n:=⟨_,rfl⟩;generalize hW2:World.alloc wr _=W2;have HY:aj (Sit wr W2 (sQ nb h b e s [])):=ah (by rw [<- hW2]; exact (Sit.start wr).wK hnb _ _ _ _ _ _ _ _ _ _ _ _);have HB2:=ah (HB.o.trans (HY.o.1.mono HB.o.size));have ko:=ah (hrest.same HY.o.1);have Lp:=HW.o.same HB2.o;rw [hnb];clear hW2 hnb x0 x1 x2 x3 x4 x5 x6 x7 x8 x9 x10 hrest;obtain ⟨-,⟨-,c0⟩,⟨-,c1⟩,⟨-,c2⟩,⟨-,c3⟩,⟨-,c4⟩,⟨-,c5⟩,⟨-,c6⟩,⟨-,c7⟩,⟨-,c8⟩,⟨-,c9⟩,⟨-,c10⟩,-⟩:=HY.o;clear c1 c3 c4 c5 c6 c7 c8 c9 c10;go_wp2_with fail;go_loop [10,22] (fun _ s'=> ∃(k':Nat) (Q:List Int),s'= .int .i64 k'∧k' + Q.length=l.length∧(l.any fun k=>h.op == k && h.nm.toList == nm.toList)=(Q.any fun k=>h.op == k && h.nm.toList == nm.toList)∧fM W2 W2.heap.size Q ao k') (fun _ s'=>l.length - (intOf s').toNat)
    case atStart=>exact ⟨0,l,rfl,by simp,rfl,Lp⟩
    case round=>
     obtain ⟨k',Q,rfl,hlen',heq',hrow'⟩:=hrel;have HQ:=ah heq';clear heq' Lp;cases Q with
     | nil=>
       obtain rfl:k'=l.length:=(by simpa using hlen');have HF:aj (res=sK R nm l):=ah (HE.o.trans (by rw [sK,HQ.o]; rfl));go_wp2_with fail;go_roundw
       case rel=>exact ⟨k + 1,R,by go_num,by simp only [aH.len] at hlen; omega,HF.o,ko.o,HB2.o⟩
       case measure=>simp [intOf]; omega
     | cons q Q=>
       obtain ⟨⟨b2,off2,rfl,hB2,z0⟩,hrest'⟩:=hrow';simp only [List.length_cons] at hlen';have hkl':k' < l.length:=(by omega);have yZ:aj ((l.any fun k=>h.op == k && h.nm.toList == nm.toList)=((h.op == q && h.nm.toList == nm.toList) || (Q.any fun k=>h.op == k && h.nm.toList == nm.toList))):=ah (HQ.o.trans (by simp));cases hc:(h.op == q)
       ·have HF:=ah (yZ.o.trans (by rw [hc]; rfl:_=(Q.any fun k=>h.op == k && h.nm.toList == nm.toList)));go_wp2_with fail;go_round
        case rel=>exact ⟨k' + 1,Q,by go_num,by omega,HF.o,hrest'⟩
        case measure=>simp [intOf]; omega
       ·cases hn:(h.nm.toList == nm.toList)
        ·have HF:=ah (yZ.o.trans (by rw [hc,hn]; rfl:_=(Q.any fun k=>h.op == k && h.nm.toList == nm.toList)));rw [hn] at HF;go_wp2_with fail;go_round
         case rel=>exact ⟨k' + 1,Q,by go_num,by omega,HF.o,hrest'⟩
         case measure=>simp [intOf]; omega
        ·have HF:aj (res=true):=ah (HE.o.trans (by rw [sK,yZ.o,hc,hn]; rfl));go_wp2_with fail;go_ret;exact ⟨bK HF.o.symm,HB2.o⟩
end
namespace Md
def X8 (p:Pr) (i:Int):aZ->Int
 | .nil=>0
 | .cons op n nm kids _=>jT p i op n nm kids
def CB (p:Pr) (i:Int) (h:dL):Int:=
 if decide ((h.idx.len:Int)=0) then dN [cB (mean p i h.nm) [1,2],jT p i h.bY h.xn h.bW h.aI] else dN [cB (mean p i h.nm) [3],X8 p i h.idx,jT p i h.bY h.xn h.bW h.aI]
end Md
theorem BP (w:World) (a b c:Int) (t:TypeId):fM (w.alloc (.cells #[.int .i64 a,.int .i64 b,.int .i64 c] t)) (w.alloc (.cells #[.int .i64 a,.int .i64 b,.int .i64 c] t)).heap.size [a,b,c] (some ⟨w.heap.size,0,none⟩) 0:=
 ⟨⟨_,_,rfl,by simp,dR w [.int .i64 a,.int .i64 b,.int .i64 c] t 0⟩,⟨_,_,rfl,by simp,dR w [.int .i64 a,.int .i64 b,.int .i64 c] t 1⟩,⟨_,_,rfl,by simp,dR w [.int .i64 a,.int .i64 b,.int .i64 c] t 2⟩,trivial⟩
theorem dJ.nil {w:World} {K:Act->Prop} {a:Act} (h:K a):dJ w K [] a:=h
section
variable (p:Pr) (w:World) (aB aD:Option Addr) (aA ay:Nat) (i:Int) (bR:Option Addr) (yx bf bs bt bc:Nat)
theorem Qf (h:dL) (b e:aH) (s:Sl) (hi:bS i) (hp:p.At w aB aD) (hin:DL w h b e s) (fK:fC w) (hh:Holds w (vQ bc p aB aD aA ay i bR yx bf bs bt)):
 Calls Tryz.prog 121 #[.pointer (some ⟨bc,0,none⟩),dS h b e s] w fun e' w'=>e'= .returned (.int .i64 (CB p i h))∧Below w.heap.size w w':=by
 have HH:=ah (show Sit w w _ from ⟨Below.refl _ _,hh⟩);obtain ⟨dU,dG,dX,dA,cu,bJ,gH,eB⟩:=s;have hil:=hin.1.2.2.2.2.1;have hxk:=hin.1.2.2.2.2.2.1;unfold maxLen at hil;have HE:aj (CB p i h=if decide ((h.idx.len:Int)=0) then dN [cB (mean p i h.nm) [1,2],jT p i h.bY h.xn h.bW h.aI] else dN [cB (mean p i h.nm) [3],X8 p i h.idx,jT p i h.bY h.xn h.bW h.aI]):=ah rfl;generalize CB p i h=res at *;unfold dS;dsimp only;go_enter Tryz.func121,Tryz.ntmps121;go_upto_region 1 with fail;generalize hW:World.alloc w _=W;generalize Value.agg #[_,_,_,_,_,_,_,_,_,_,_]=a0;have HX:aj (Sit w W (sQ w.heap.size h b e ⟨dU,dG,dX,dA,cu,bJ,gH,eB⟩ (vQ bc p aB aD aA ay i bR yx bf bs bt))):=ah (by rw [<- hW]; exact HH.o.wK rfl _ _ _ _ _ _ _ _ _ _ _ _);clear hW HH;have HP:=ah (hp.same HX.o.1);have kD:=ah (fK.same HX.o.1);have OW:=ah (hin.2.2.1.same HX.o.1);have HAI:=ah (hin.2.1.same HX.o.1);have HK:aj (∀w',Below W.heap.size W w'->Holds w' (vQ bc p aB aD aA ay i bR yx bf bs bt)):=ah (fun w' hb=>(HX.o.next hb).2.2.2.2.2.2.2.2.2.2.2.2);clear hp fK hh hin;have L0: ∀w',Below W.heap.size W w'->w'.cell? ⟨w.heap.size,0,none⟩=some (.int .i64 h.op):=fun w' hb=>(HX.o.next hb).2.1.2;have L2: ∀w',Below W.heap.size W w'->w'.cell? ⟨w.heap.size,2,none⟩=some (.string h.nm):=fun w' hb=>(HX.o.next hb).2.2.2.1.2;have L3: ∀w',Below W.heap.size W w'->w'.cell? ⟨w.heap.size,3,none⟩=some (.string h.arg):=fun w' hb=>(HX.o.next hb).2.2.2.2.1.2;have L4: ∀w',Below W.heap.size W w'->w'.cell? ⟨w.heap.size,4,none⟩=some (.slice dU h.idx.len dG):=fun w' hb=>(HX.o.next hb).2.2.2.2.2.1.2;have L5: ∀w',Below W.heap.size W w'->w'.cell? ⟨w.heap.size,5,none⟩=some (.int .i64 h.bY):=fun w' hb=>(HX.o.next hb).2.2.2.2.2.2.1.2;have L6: ∀w',Below W.heap.size W w'->w'.cell? ⟨w.heap.size,6,none⟩=some (.int .i64 h.xn):=fun w' hb=>(HX.o.next hb).2.2.2.2.2.2.2.1.2;have L7: ∀w',Below W.heap.size W w'->w'.cell? ⟨w.heap.size,7,none⟩=some (.string h.bW):=fun w' hb=>(HX.o.next hb).2.2.2.2.2.2.2.2.1.2;have L8: ∀w',Below W.heap.size W w'->w'.cell? ⟨w.heap.size,8,none⟩=some (.slice dX h.aI.len dA):=fun w' hb=>(HX.o.next hb).2.2.2.2.2.2.2.2.2.1.2;have l4:=L4 W (Below.refl _ _);cases hix:h.idx with
 | nil=>
   have h0:h.idx.len=0:=by rw [hix]; rfl
   have HF:=ah (HE.o.trans (if_pos (by rw [h0]; rfl)));rw [h0] at l4;clear HE hix L4 h0;go_upto_region 2 with fail;refine tJ (fun w'=>Below W.heap.size W w') (fun w w'=>Below w.heap.size w w') [9,10,11,12,13,14,15,16,17,18,19,4] (by kernel_rfl) (by kernel_rfl) (fun _=>Below.refl _ _) (by rfl) (below_drewN (Below.refl _ _) 1) ?_
   iterate 3
    apply eO.step
    case aM=>intro β A w' hβ hC hO hD;have e0:=hO 0 (by rfl);have e3:=hO 3 (by rfl);simp [Act.eval] at e0 e3;simp [Act.eval] at hD;simp [go_sem,gd,Oper.wp,e0,e3,hD,L2,hC];exact aG.mk (Below.refl _ _) hC (bH.mk _ _)
   refine eO.some (fun v w'=> ∃b,v= .slice (some ⟨b,0,none⟩) 2 2∧fM w' w'.heap.size [1,2] (some ⟨b,0,none⟩) 0) ?_ ?_ ?_
   ·rintro v w w' hle ⟨b,rfl,hin⟩;exact ⟨b,rfl,hin.same hle⟩
   ·intro β A w' hβ hC hO hD;simp [go_sem,gd,Oper.wp];exact aG.mk (d:=_) (v:= .slice (some ⟨_,0,none⟩) 2 2) (ak _ _) (hC.trans ((ak _ _).mono hC.size)) ⟨_,rfl,mX _ 1 2 _⟩
   apply eO.step
   case aM=>intro β A w' hβ hC hO hD;simp [Act.eval] at hD;obtain ⟨d9,uX,b12,BD,aJ4⟩:=hD;simp [go_sem,gd,Oper.wp,d9,uX,BD];refine (lG p w' aB aD aA ay _ bR _ bf bs bt bc h.nm [1,2] _ 2 hi (by decide) (HP.o.same hC) aJ4 (HK.o _ hC)).mono ?_;rintro e' w2 ⟨rfl,hb⟩;exact aG.mk hb (hC.trans (hb.mono hC.size)) (bH.mk _ _)
   iterate 3
    apply eO.step
    case aM=>intro β A w' hβ hC hO hD;have e0:=hO 0 (by rfl);have e3:=hO 3 (by rfl);simp [Act.eval] at e0 e3;simp [Act.eval] at hD;simp [go_sem,gd,Oper.wp,e0,e3,hD,L5,L6,L7,L8,hC];exact aG.mk (Below.refl _ _) hC (bH.mk _ _)
   apply eO.step
   case aM=>intro β A w' hβ hC hO hD;simp [Act.eval] at hD;obtain ⟨xP,BF,-⟩:=hD;simp [go_sem,gd,Oper.wp,xP,BF];refine (zh p w' aB aD aA ay _ bR _ bf bs bt bc h.bY h.xn h.bW h.aI dX dA hi (HP.o.same hC) hxk (OW.o.same hC) (kD.o.same hC) (HK.o _ hC)).mono ?_;rintro e' w2 ⟨rfl,hb⟩;exact aG.mk hb (hC.trans (hb.mono hC.size)) (bH.mk _ _)
   refine eO.some (fun v w'=> ∃b,v= .slice (some ⟨b,0,none⟩) 2 2∧fM w' w'.heap.size [cB (mean p i h.nm) [1,2],jT p i h.bY h.xn h.bW h.aI] (some ⟨b,0,none⟩) 0) ?_ ?_ ?_
   ·rintro v w w' hle ⟨b,rfl,hin⟩;exact ⟨b,rfl,hin.same hle⟩
   ·intro β A w' hβ hC hO hD;simp [Act.eval] at hD;simp [go_sem,gd,Oper.wp,hD];exact aG.mk (d:=_) (v:= .slice (some ⟨_,0,none⟩) 2 2) (ak _ _) (hC.trans ((ak _ _).mono hC.size)) ⟨_,rfl,mX _ _ _ _⟩
   apply eO.step
   case aM=>intro β A w' hβ hC hO hD;simp [Act.eval] at hD;obtain ⟨⟨b18,BG,aJ5⟩,-⟩:=hD;simp [go_sem,gd,Oper.wp,BG];refine (lg [cB (mean p i h.nm) [1,2],jT p i h.bY h.xn h.bW h.aI] w' _ _ (by simp [maxLen]) aJ5).mono ?_;rintro e' w2 ⟨rfl,rfl⟩;exact aG.mk (Below.refl _ _) hC (bH.mk _ _)
   apply eO.step
   case aM=>intro β A w' hβ hC hO hD;have e0:=hO 0 (by rfl);have e3:=hO 3 (by rfl);simp [Act.eval] at e0 e3;simp [Act.eval] at hD;simp [go_sem,gd,Oper.wp,e0,e3,hD];exact aG.mk (Below.refl _ _) hC (bH.mk _ _)
   intro wz bC;intro v0 h0 v1 h1 v2 h2 v3 h3 v4 h4 v5 h5 v6 h6 v7 h7 v8 h8 v9 h9 v10 h10 v11 h11;have JY:v11=_:=h11;subst JY;clear h0 h1 h2 h3 h4 h5 h6 h7 h8 h9 h10 h11;refine dJ.nil ?_;go_wp2_with fail;go_ret;exact ⟨bF HF.o.symm,(HX.o.next bC).1⟩
 | cons op' n' nm' gL rest=>
   have hrow:=HAI.o;rw [hix] at hrow;have HF:aj (res=dN [cB (mean p i h.nm) [3],jT p i op' n' nm' gL,jT p i h.bY h.xn h.bW h.aI]):=ah (HE.o.trans ((if_neg (by rw [hix,decide_eq_true_iff]; simp only [aZ.len]; omega)).trans (by rw [hix]; rfl)));have hpos:0 < h.idx.len:=by rw [hix]; simp [aZ.len]
   have hpos':(0:Int) < h.idx.len:=by omega
   have hne0:((h.idx.len:Int) == 0)=false:=by rw [beq_eq_false_iff_ne]; omega
   obtain ⟨⟨b',off',nk,cap',rfl,jD,x0,x1,x2,x3,hok',lY⟩,-⟩:=hrow;simp only [Nat.zero_mul,Nat.add_zero] at x0 x1 x2 x3;have M0: ∀w',Below W.heap.size W w'->w'.cell? ⟨b',off',none⟩=some (.int .i64 op'):=fun w' hb=>(hb.cell (p:=⟨b',off',none⟩) jD).trans x0;have M1: ∀w',Below W.heap.size W w'->w'.cell? ⟨b',off' + 1,none⟩=some (.int .i64 n'):=fun w' hb=>(hb.cell (p:=⟨b',off' + 1,none⟩) jD).trans x1;have M2: ∀w',Below W.heap.size W w'->w'.cell? ⟨b',off' + 2,none⟩=some (.string nm'):=fun w' hb=>(hb.cell (p:=⟨b',off' + 2,none⟩) jD).trans x2;have M3: ∀w',Below W.heap.size W w'->w'.cell? ⟨b',off' + 3,none⟩=some (.slice nk gL.len cap'):=fun w' hb=>(hb.cell (p:=⟨b',off' + 3,none⟩) jD).trans x3;have HAK:=ah lY;clear HE hix x0 x1 x2 x3 lY;go_upto_region 3 with fail;refine tJ (fun w'=>Below W.heap.size W w') (fun w w'=>Below w.heap.size w w') [20,21,22,23,24,25,26,27,28,29,30,31,32,33,34,35,36,4] (by kernel_rfl) (by kernel_rfl) (fun _=>Below.refl _ _) (by rfl) (below_drewN (Below.refl _ _) 1) ?_
   iterate 3
    apply eO.step
    case aM=>intro β A w' hβ hC hO hD;have e0:=hO 0 (by rfl);have e3:=hO 3 (by rfl);simp [Act.eval] at e0 e3;simp [Act.eval] at hD;simp [go_sem,gd,Oper.wp,e0,e3,hD,L2,hC];exact aG.mk (Below.refl _ _) hC (bH.mk _ _)
   refine eO.some (fun v w'=> ∃b,v= .slice (some ⟨b,0,none⟩) 1 1∧fM w' w'.heap.size [3] (some ⟨b,0,none⟩) 0) ?_ ?_ ?_
   ·rintro v w w' hle ⟨b,rfl,hin⟩;exact ⟨b,rfl,hin.same hle⟩
   ·intro β A w' hβ hC hO hD;simp [go_sem,gd,Oper.wp];exact aG.mk (d:=_) (v:= .slice (some ⟨_,0,none⟩) 1 1) (ak _ _) (hC.trans ((ak _ _).mono hC.size)) ⟨_,rfl,jh _ 3 _⟩
   apply eO.step
   case aM=>intro β A w' hβ hC hO hD;simp [Act.eval] at hD;obtain ⟨d20,d22,b23,d23,aJ6⟩:=hD;simp [go_sem,gd,Oper.wp,d20,d22,d23];refine (lG p w' aB aD aA ay _ bR _ bf bs bt bc h.nm [3] _ 1 hi (by decide) (HP.o.same hC) aJ6 (HK.o _ hC)).mono ?_;rintro e' w2 ⟨rfl,hb⟩;exact aG.mk hb (hC.trans (hb.mono hC.size)) (bH.mk _ _)
   iterate 5
    apply eO.step
    case aM=>intro β A w' hβ hC hO hD;have e0:=hO 0 (by rfl);have e3:=hO 3 (by rfl);simp [Act.eval] at e0 e3;simp [Act.eval] at hD;simp [go_sem,gd,Oper.wp,e0,e3,hD,L4,hC,hpos,hpos',M0,M1,M2,M3];exact aG.mk (Below.refl _ _) hC (bH.mk _ _)
   apply eO.step
   case aM=>intro β A w' hβ hC hO hD;simp [Act.eval] at hD;obtain ⟨d25,d29,-⟩:=hD;simp [go_sem,gd,Oper.wp,d25,d29];refine (zh p w' aB aD aA ay _ bR _ bf bs bt bc op' n' nm' gL nk cap' hi (HP.o.same hC) hok' (HAK.o.same hC) (kD.o.same hC) (HK.o _ hC)).mono ?_;rintro e' w2 ⟨rfl,hb⟩;exact aG.mk hb (hC.trans (hb.mono hC.size)) (bH.mk _ _)
   iterate 3
    apply eO.step
    case aM=>intro β A w' hβ hC hO hD;have e0:=hO 0 (by rfl);have e3:=hO 3 (by rfl);simp [Act.eval] at e0 e3;simp [Act.eval] at hD;simp [go_sem,gd,Oper.wp,e0,e3,hD,L5,L6,L7,L8,hC];exact aG.mk (Below.refl _ _) hC (bH.mk _ _)
   apply eO.step
   case aM=>intro β A w' hβ hC hO hD;simp [Act.eval] at hD;obtain ⟨d31,d33,-⟩:=hD;simp [go_sem,gd,Oper.wp,d31,d33];refine (zh p w' aB aD aA ay _ bR _ bf bs bt bc h.bY h.xn h.bW h.aI dX dA hi (HP.o.same hC) hxk (OW.o.same hC) (kD.o.same hC) (HK.o _ hC)).mono ?_;rintro e' w2 ⟨rfl,hb⟩;exact aG.mk hb (hC.trans (hb.mono hC.size)) (bH.mk _ _)
   refine eO.some (fun v w'=> ∃b,v= .slice (some ⟨b,0,none⟩) 3 3∧fM w' w'.heap.size [cB (mean p i h.nm) [3],jT p i op' n' nm' gL,jT p i h.bY h.xn h.bW h.aI] (some ⟨b,0,none⟩) 0) ?_ ?_ ?_
   ·rintro v w w' hle ⟨b,rfl,hin⟩;exact ⟨b,rfl,hin.same hle⟩
   ·intro β A w' hβ hC hO hD;simp [Act.eval] at hD;simp [go_sem,gd,Oper.wp,hD];exact aG.mk (d:=_) (v:= .slice (some ⟨_,0,none⟩) 3 3) (ak _ _) (hC.trans ((ak _ _).mono hC.size)) ⟨_,rfl,BP _ _ _ _ _⟩
   apply eO.step
   case aM=>intro β A w' hβ hC hO hD;simp [Act.eval] at hD;obtain ⟨⟨b35,d35,aJ7⟩,-⟩:=hD;simp [go_sem,gd,Oper.wp,d35];refine (lg [cB (mean p i h.nm) [3],jT p i op' n' nm' gL,jT p i h.bY h.xn h.bW h.aI] w' _ _ (by simp [maxLen]) aJ7).mono ?_;rintro e' w2 ⟨rfl,rfl⟩;exact aG.mk (Below.refl _ _) hC (bH.mk _ _)
   apply eO.step
   case aM=>intro β A w' hβ hC hO hD;have e0:=hO 0 (by rfl);have e3:=hO 3 (by rfl);simp [Act.eval] at e0 e3;simp [Act.eval] at hD;simp [go_sem,gd,Oper.wp,e0,e3,hD];exact aG.mk (Below.refl _ _) hC (bH.mk _ _)
   intro wz bC;intro v0 h0 v1 h1 v2 h2 v3 h3 v4 h4 v5 h5 v6 h6 v7 h7 v8 h8 v9 h9 v10 h10 v11 h11 v12 h12 v13 zl v14 uY v15 zO v16 h16 v17 Jk;have be7:v17=_:=Jk;subst be7;clear h0 h1 h2 h3 h4 h5 h6 h7 h8 h9 h10 h11 h12 zl uY zO h16 Jk;refine dJ.nil ?_;go_wp2_with fail;go_ret;exact ⟨bF HF.o.symm,(HX.o.next bC).1⟩
end
def Am (f:List UInt8->Bool) (l:List UInt8):List UInt8->Bool:=fun x=>if x=l then true else f x
def kR (b:Bool):Int:=if b then 8 else 0
def Z7 (nm:ByteArray) (w:World) (bs n:Nat) (f:List UInt8->Bool) (e:Ending) (w':World):Prop:=
 e= .returned (.int .i64 (kR (f nm.toList)))∧jF w' bs (n + 1) (Am f nm.toList)∧w.grownBy w' (some bs)
theorem Rm (nm:ByteArray) (w:World) (bs n:Nat) (f:List UInt8->Bool) (hn:n < maxLen) (hs:nm.size<=maxLen) (hm:jF w bs n f):
 Calls Tryz.prog 130 #[.map (some bs),.string nm] w (Z7 nm w bs n f):=by
 have HM:=ah hm;have hlk:=hm.look nm hs;clear hm;cases hf:f nm.toList
 ·obtain ⟨w4,hup,yG,hg4⟩:=HM.o.put hn nm hs true;have qZ:=ah yG;have HG:=ah hg4;clear yG hg4 hn hs;go_enter Tryz.func130,Tryz.ntmps130;go_wp2_with fail;go_ret;exact ⟨by rw [hf]; rfl,qZ.o,HG.o⟩
 ·have qZ:aj (jF w bs (n + 1) (Am f nm.toList)):=ah (by
   obtain ⟨D,h1,h2⟩:=HM.o;refine ⟨D,h1.mono (by omega),fun l=> ?_⟩;rw [h2]; unfold Am; by_cases h:l=nm.toList
   ·rw [if_pos h,h,hf]
   ·rw [if_neg h])
  clear hn hs;go_enter Tryz.func130,Tryz.ntmps130;go_wp2_with fail;go_ret;exact ⟨by rw [hf]; rfl,qZ.o,⟨rfl,rfl,rfl,Nat.le_refl _,fun _ _ _=>rfl⟩⟩
end Go.Proofs.YtfbbaiejbjdfbaaGreatDoor
