/- Contracts of check.first, nesting, and of the checker's kind, expr, own, mutexOf. And what hangs on it. -/
import Derived.Test.YtgjmahnblcajbaaGreatDoorGMC
import Derived.Test.YtgjmahnblcajbaaGreatDoorGME
import Derived.Test.YtgjmahnblcajbaaGreatDoorGMB
set_option linter.unusedSimpArgs false
set_option linter.unusedVariables false
set_option maxHeartbeats 40000000
set_option maxRecDepth 1000000
namespace Go.Proofs.YtgjmahnblcajbaaGreatDoor
open Go.RowKit
namespace Md
def gu:List Int->Int
 | []=>0
 | a ::r=>if a != 0 then a else gu r
def nest (b:Bool):Int:=if b then 7 else 0
def vF (ds:List De) (nm:ByteArray):ByteArray:=((ds.find? fun d=>d.kind == 5 && d.nm.toList == nm.toList).map (·.on)).getD ⟨#[]⟩
theorem Ph (d:De) (r:List De) (nm:ByteArray):vF (d ::r) nm=if d.kind == 5 && d.nm.toList == nm.toList then d.on else vF r nm:=by
 unfold vF; rw [List.find?_cons]; cases h:(d.kind == 5 && d.nm.toList == nm.toList) <;> simp
end Md
open Md
def qM (bc:Nat) (p:Pr) (aG aH:Option Addr) (aB aD:Nat) (i:Int) (cO:Option Addr) (Bq bC bs bt:Nat):List (Nat × Nat × Value):=
 [(bc,0,.slice aG p.ds.length aB),(bc,1,.slice aH p.ts.length aD),(bc,2,.int .i64 i),(bc,3,.slice cO Bq bC),(bc,4,.map (some bs)),(bc,5,.map (some bt))]
theorem jH (b:Bool) (w:World):
 Calls Tryz.prog 144 #[.bool b] w fun e w'=>e= .returned (.int .i64 (nest b))∧w=w':=by
 cases b
 all_goals go_enter Tryz.func144,Tryz.ntmps144;go_wp2;go_ret;exact ⟨rfl,rfl⟩
theorem iV (l:List Int) (w:World) (ao:Option Addr) (cap:Nat) (hl:l.length<=maxLen) (hat:dS w w.heap.size l ao 0):
 Calls Tryz.prog 142 #[.slice ao l.length cap] w fun e w'=>e= .returned (.int .i64 (gu l))∧w=w':=by
 unfold maxLen at hl;generalize hres:gu l=res;have HR:=ah hres;clear hres;go_enter Tryz.func142,Tryz.ntmps142;go_wp2_with fail;go_loop [4,7] (fun _ s=> ∃(k:Nat) (R:List Int),s= .int .i64 k∧k + R.length=l.length∧res=gu R∧dS w w.heap.size R ao k) (fun _ s=>l.length - (intOf s).toNat)
 case atStart=>exact ⟨0,l,rfl,by simp,HR.o.symm,hat⟩
 case round=>
  obtain ⟨k,R,rfl,hlen,heq,hrow⟩:=hrel;have HE:=ah heq;clear heq;cases R with
  | nil=>
    obtain rfl:k=l.length:=by simpa using hlen
    go_wp2_with fail;go_ret;exact ⟨dB HE.o.symm,rfl⟩
  | cons a R=>
    obtain ⟨⟨b,off,rfl,hB,y0⟩,hrest⟩:=hrow;simp only [List.length_cons] at hlen;have hkl:k < l.length:=by omega
    cases hc:(a != 0)
    ·have dV:=ah (HE.o.trans (if_neg (by rw [hc]; decide)));go_wp2_with fail;go_round
     case rel=>exact ⟨k + 1,R,by go_num,by omega,dV.o,hrest⟩
     case measure=>simp [intOf]; omega
    ·have dV:=ah (HE.o.trans (if_pos hc));go_wp2_with fail;go_ret;exact ⟨dB dV.o.symm,rfl⟩
section
variable (p:Pr) (w:World) (aG aH:Option Addr) (aB aD:Nat) (i:Int) (cO:Option Addr) (Bq bC bs bt bc:Nat)
theorem iY (nm:ByteArray) (l:List Int) (ao:Option Addr) (cap:Nat) (hi:bV i) (hl:l.length<=maxLen) (hp:p.At w aG aH) (hw:dS w w.heap.size l ao 0) (hh:Holds w (qM bc p aG aH aB aD i cO Bq bC bs bt)):
 Calls Tryz.prog 143 #[.pointer (some ⟨bc,0,none⟩),.string nm,.slice ao l.length cap] w fun e w'=>e= .returned (.int .i64 (dF (mean p i nm) l))∧Below w.heap.size w w':=by
 have HH:=ah (show Sit w w _ from ⟨Below.refl _ _,hh⟩);have HP:=ah hp;have HW:=ah hw;clear hp hw hh;go_enter Tryz.func143,Tryz.ntmps143;go_wp2_with fail;obtain ⟨T,F,GA,hst,hF,hnext⟩:=calm w;have HF:=ah hF;have eY:=ah hnext;clear hnext hF;have d0:=fun x=>(HH.o.next (HF.o x)).2.1.2;have d1:=fun x=>(HH.o.next (HF.o x)).2.2.1.2;have d2:=fun x=>(HH.o.next (HF.o x)).2.2.2.1.2;have d3:=fun x=>(HH.o.next (HF.o x)).2.2.2.2.1.2;have d4:=fun x=>(HH.o.next (HF.o x)).2.2.2.2.2.1.2;have d5:=fun x=>(HH.o.next (HF.o x)).2.2.2.2.2.2.1.2;refine jo F (by kernel_rfl) (by kernel_rfl) hst ?_
 repeat (any_goals (first | go_big_quiet_step ((go_at_call 163; refine (yQ p i nm l _ aG aH ao aB aD cap hi hl (HP.o.same (HF.o _)) (HW.o.same (HF.o _))).mono ?_; rintro e w' ⟨rfl,hb⟩; exact ⟨rfl,eY.o _ _ hb⟩)) | (refine wpQuiet_step (fun K hK=> ?_); go_simp; first | (refine hK _ ?_; clear hK K) | (split <;> first | (refine hK _ ?_; clear hK K) | (apply Exists.intro; refine ⟨fun _=> ?_,hK _ ?_⟩; ((go_at_call 163; refine (yQ p i nm l _ aG aH ao aB aD cap hi hl (HP.o.same (HF.o _)) (HW.o.same (HF.o _))).mono ?_; rintro e w' ⟨rfl,hb⟩; exact ⟨rfl,eY.o _ _ hb⟩)); clear hK K)))))
 all_goals (refine wpQuiet_nil ?_; rintro _ ⟨x,rfl⟩)
 go_wp2_with fail;go_ret;exact ⟨rfl,HF.o x⟩
theorem uS (op n:Int) (nm:ByteArray) (kids:bf) (ao:Option Addr) (cap:Nat) (hi:bV i) (hp:p.At w aG aH) (hok:xW op n nm kids) (hat:kids.At w w.heap.size ao 0) (dH:cB w) (hh:Holds w (qM bc p aG aH aB aD i cO Bq bC bs bt)):
 Calls Tryz.prog 141 #[.pointer (some ⟨bc,0,none⟩),.agg #[.int .i64 op,.int .i64 n,.string nm,.slice ao kids.len cap]] w fun e w'=>e= .returned (.int .i64 (mI p i op n nm kids))∧Below w.heap.size w w':=by
 have HH:=ah (show Sit w w _ from ⟨Below.refl _ _,hh⟩);have HP:=ah hp;have HAT:=ah hat;have gV:=ah dH;clear hp hat hh dH;go_enter Tryz.func141,Tryz.ntmps141;go_upto_region 1 with fail;generalize hW:World.alloc w _=W;generalize Value.agg #[_,_,_,_]=a0;have HX:=ah (HH.o.Gj rfl (.int .i64 op) (.int .i64 n) (.string nm) (.slice ao kids.len cap) 105);rw [hW] at HX;clear hW;obtain ⟨T,F,GA,hst,hF,hnext⟩:=calm W;have HF:=ah hF;have eY:=ah hnext;clear hnext hF;have d0:=fun x=>(HX.o.next (HF.o x)).2.1.2;have d1:=fun x=>(HX.o.next (HF.o x)).2.2.1.2;have d2:=fun x=>(HX.o.next (HF.o x)).2.2.2.1.2;have d3:=fun x=>(HX.o.next (HF.o x)).2.2.2.2.1.2;have d4:=fun x=>(HX.o.next (HF.o x)).2.2.2.2.2.1.2;have d5:=fun x=>(HX.o.next (HF.o x)).2.2.2.2.2.2.1.2;have d6:=fun x=>(HX.o.next (HF.o x)).2.2.2.2.2.2.2.1.2;have d7:=fun x=>(HX.o.next (HF.o x)).2.2.2.2.2.2.2.2.1.2;have d8:=fun x=>(HX.o.next (HF.o x)).2.2.2.2.2.2.2.2.2.1.2;have d9:=fun x=>(HX.o.next (HF.o x)).2.2.2.2.2.2.2.2.2.2.1.2;refine jo F (by kernel_rfl) (by kernel_rfl) hst ?_
 repeat (any_goals (first | go_big_quiet_step ((go_at_call 162; refine (Dm p i op n nm kids _ aG aH ao aB aD cap hi ((HP.o.same HX.o.1).same (HF.o _)) hok ((HAT.o.same HX.o.1).same (HF.o _)) ((gV.o.same HX.o.1).same (HF.o _))).mono ?_; rintro e w' ⟨rfl,hb⟩; exact ⟨rfl,eY.o _ _ hb⟩)) | (refine wpQuiet_step (fun K hK=> ?_); go_simp; first | (refine hK _ ?_; clear hK K) | (split <;> first | (refine hK _ ?_; clear hK K) | (apply Exists.intro; refine ⟨fun _=> ?_,hK _ ?_⟩; ((go_at_call 162; refine (Dm p i op n nm kids _ aG aH ao aB aD cap hi ((HP.o.same HX.o.1).same (HF.o _)) hok ((HAT.o.same HX.o.1).same (HF.o _)) ((gV.o.same HX.o.1).same (HF.o _))).mono ?_; rintro e w' ⟨rfl,hb⟩; exact ⟨rfl,eY.o _ _ hb⟩)); clear hK K)))))
 all_goals (refine wpQuiet_nil ?_; rintro _ ⟨x,rfl⟩)
 go_wp2_with fail;go_ret;exact ⟨rfl,(HX.o.next (HF.o x)).1⟩
theorem KZ (j:Nat) (t:Th) (r:List Th) (hd:p.ts.drop j=t ::r) (hp:p.At w aG aH) (hh:Holds w (qM bc p aG aH aB aD (j:Int) cO Bq bC bs bt)):
 Calls Tryz.prog 148 #[.pointer (some ⟨bc,0,none⟩)] w fun e w'=>e= .returned (.string t.nm)∧Below w.heap.size w w':=by
 have HH:=ah (show Sit w w _ from ⟨Below.refl _ _,hh⟩);have hj:j < p.ts.length:=by have:=congrArg List.length hd; simp at this; omega
 have hth:=hp.2.2.2.drop j;rw [hd,Nat.zero_add] at hth;obtain ⟨⟨b,off,eZ,dM,cK,aZ,rfl,hB,x0,-⟩,-⟩:=hth;clear hp hd hh;obtain ⟨-,⟨-,c0⟩,⟨-,c1⟩,⟨-,c2⟩,⟨-,c3⟩,⟨-,c4⟩,⟨-,c5⟩,-⟩:=HH.o;have hj0:(0:Int)<=j:=by omega
 have hj1:(j:Int) < p.ts.length:=by omega
 go_enter Tryz.func148,Tryz.ntmps148;go_wp2_with fail;go_quiet (fail);go_wp2_with fail;go_ret;exact ⟨rfl,below_drewN (Below.refl _ _) _⟩
theorem pU (nm:ByteArray) (hp:p.At w aG aH) (hh:Holds w (qM bc p aG aH aB aD i cO Bq bC bs bt)):
 Calls Tryz.prog 147 #[.pointer (some ⟨bc,0,none⟩),.string nm] w fun e w'=>e= .returned (.string (vF p.ds nm))∧Below w.heap.size w w':=by
 have HH:=ah (show Sit w w _ from ⟨Below.refl _ _,hh⟩);have HP:=ah hp;have hld:=hp.1;unfold maxLen at hld;generalize hres:vF p.ds nm=res;have HR:=ah hres;clear hp hh hres;obtain ⟨-,⟨-,c0⟩,⟨-,c1⟩,⟨-,c2⟩,⟨-,c3⟩,⟨-,c4⟩,⟨-,c5⟩,-⟩:=HH.o;go_enter Tryz.func147,Tryz.ntmps147;go_wp2_with fail;go_loopw [6,13] (fun _ s wr=> ∃(k:Nat) (R:List De),s= .int .i64 k∧k + R.length=p.ds.length∧res=vF R nm∧gQ wr wr.heap.size R aG k∧Below w.heap.size w wr) (fun _ s _=>p.ds.length - (intOf s).toNat)
 case atStart=>exact ⟨0,p.ds,rfl,by simp,HR.o.symm,HP.o.2.2.1,Below.refl _ _⟩
 case round=>
  obtain ⟨k,R,rfl,hlen,heq,hrow,hB⟩:=hrel;have HE:=ah heq;have HB:=ah hB;clear heq hB c0 c1 c2 c3 c4 c5;cases R with
  | nil=>
    obtain rfl:k=p.ds.length:=by simpa using hlen
    go_wp2_with fail;go_ret;exact ⟨by rw [HE.o]; rfl,HB.o⟩
  | cons d R=>
    obtain ⟨⟨b,off,rfl,hB,x0,x1,x2,x3,x4,x5,hok⟩,hrest⟩:=hrow;simp only [List.length_cons] at hlen;have hkl:k < p.ds.length:=by omega
    rw [Ph] at HE;have HB2:=ah (HB.o.trans ((au wr (.cells #[.int .i64 d.kind,.int .i64 d.line,.string d.nm,.int .i64 d.size,.int .i64 d.init,.string d.on] 86)).mono HB.o.size));clear hok;cases h5:(d.kind == 5)
    ·have dV:=ah (HE.o.trans (if_neg (by rw [h5]; simp)));go_wp2_with fail;go_roundw
     case rel=>exact ⟨k + 1,R,by go_num,by omega,dV.o,hrest.same (au _ _),HB2.o⟩
     case measure=>simp [intOf]; omega
    ·cases hc:(d.nm.toList == nm.toList)
     ·have dV:=ah (HE.o.trans (if_neg (by rw [h5,hc]; decide)));go_wp2_with fail;go_roundw
      case rel=>exact ⟨k + 1,R,by go_num,by omega,dV.o,hrest.same (au _ _),HB2.o⟩
      case measure=>simp [intOf]; omega
     ·have dV:=ah (HE.o.trans (if_pos (by rw [h5,hc]; rfl)));go_wp2_with fail;go_ret;exact ⟨by rw [dV.o]; rfl,HB2.o⟩
end
namespace Md
def gH:aJ->List Int->Bool
 | .nil,_=>false
 | .cons h _ _ r,l=>(l.any fun k=>h.op == k) || gH r l
def rY:aJ->ByteArray->List Int->Bool
 | .nil,_,_=>false
 | .cons h _ _ r,nm,l=>(l.any fun k=>h.op == k && h.nm.toList == nm.toList) || rY r nm l
end Md
section
variable (p:Pr) (w:World) (aG aH:Option Addr) (aB aD:Nat) (i:Int) (cO:Option Addr) (bC bs bt bc:Nat)
theorem jk (ar:aJ) (l:List Int) (ao:Option Addr) (cap:Nat) (hl:l.length<=maxLen) (hw:dS w w.heap.size l ao 0) (har:ar.len<=maxLen) (hat:ar.At w w.heap.size cO 0) (hh:Holds w (qM bc p aG aH aB aD i cO ar.len bC bs bt)):
 Calls Tryz.prog 145 #[.pointer (some ⟨bc,0,none⟩),.slice ao l.length cap] w fun e w'=>e= .returned (.bool (gH ar l))∧Below w.heap.size w w':=by
 have HH:=ah (show Sit w w _ from ⟨Below.refl _ _,hh⟩);have HW:=ah hw;have HAT:=ah hat;generalize hres:gH ar l=res;have HR:=ah hres;unfold maxLen at hl har;clear hh hw hat hres;obtain ⟨-,⟨-,c0⟩,⟨-,c1⟩,⟨-,c2⟩,⟨-,c3⟩,⟨-,c4⟩,⟨-,c5⟩,-⟩:=HH.o;go_enter Tryz.func145,Tryz.ntmps145;go_wp2_with fail;go_loopw [6,8,14,18,19,20] (fun _ _ s _ _ _ wr=> ∃(k:Nat) (R:aJ),s= .int .i64 k∧k + R.len=ar.len∧res=gH R l∧R.At wr wr.heap.size cO k∧Below w.heap.size w wr) (fun _ _ s _ _ _ _=>ar.len - (intOf s).toNat)
 case atStart=>exact ⟨0,ar,rfl,by simp,HR.o.symm,HAT.o,Below.refl _ _⟩
 case round=>
  obtain ⟨k,R,rfl,hlen,heq,hrow,hB⟩:=hrel;have HE:=ah heq;have HB:=ah hB;clear heq hB c0 c1 c2 c3 c4 c5;cases R with
  | nil=>
    obtain rfl:k=ar.len:=by simpa [aJ.len] using hlen
    go_wp2_with fail;go_ret;exact ⟨bP HE.o.symm,HB.o⟩
  | cons h b e R=>
    obtain ⟨bl,off,s,rfl,hbl,hin,x0,x1,x2,x3,x4,x5,x6,x7,x8,x9,x10,hrest⟩:=aJ.At.head hrow;have hkl:k < ar.len:=by simp only [aJ.len] at hlen; omega
    clear hrow hin;go_upto_region 4 with fail;obtain ⟨nb,hnb⟩: ∃n,wr.heap.size=n:=⟨_,rfl⟩;generalize hW2:World.alloc wr _=W2;have HY:aj (Sit wr W2 (yH nb h b e s [])):=ah (by rw [<- hW2]; exact (Sit.start wr).Aq hnb _ _ _ _ _ _ _ _ _ _ _ _);have HB2:=ah (HB.o.trans (HY.o.1.mono HB.o.size));have gU:=ah (hrest.same HY.o.1);have IX:=HW.o.same HB2.o;rw [hnb];clear hW2 hnb x0 x1 x2 x3 x4 x5 x6 x7 x8 x9 x10 hrest;obtain ⟨-,⟨-,c0⟩,⟨-,c1⟩,⟨-,c2⟩,⟨-,c3⟩,⟨-,c4⟩,⟨-,c5⟩,⟨-,c6⟩,⟨-,c7⟩,⟨-,c8⟩,⟨-,c9⟩,⟨-,c10⟩,-⟩:=HY.o;clear c1 c2 c3 c4 c5 c6 c7 c8 c9 c10;go_wp2_with fail;go_loop [8,20] (fun _ s'=> ∃(k':Nat) (Q:List Int),s'= .int .i64 k'∧k' + Q.length=l.length∧(l.any fun k=>h.op == k)=(Q.any fun k=>h.op == k)∧dS W2 W2.heap.size Q ao k') (fun _ s'=>l.length - (intOf s').toNat)
    case atStart=>exact ⟨0,l,rfl,by simp,rfl,IX⟩
    case round=>
     obtain ⟨k',Q,rfl,hlen',heq',hrow'⟩:=hrel;have HQ:=ah heq';clear heq' IX;cases Q with
     | nil=>
       obtain rfl:k'=l.length:=(by simpa using hlen');have HF:aj (res=gH R l):=ah (HE.o.trans (by rw [gH,HQ.o]; rfl));go_wp2_with fail;go_roundw
       case rel=>exact ⟨k + 1,R,by go_num,by simp only [aJ.len] at hlen; omega,HF.o,gU.o,HB2.o⟩
       case measure=>simp [intOf]; omega
     | cons q Q=>
       obtain ⟨⟨b2,off2,rfl,hB2,z0⟩,hrest'⟩:=hrow';simp only [List.length_cons] at hlen';have hkl':k' < l.length:=(by omega);have mF:aj ((l.any fun k=>h.op == k)=((h.op == q) || (Q.any fun k=>h.op == k))):=ah (HQ.o.trans (by simp));cases hc:(h.op == q)
       ·have HF:=ah (mF.o.trans (by rw [hc]; rfl:_=(Q.any fun k=>h.op == k)));go_wp2_with fail;go_round
        case rel=>exact ⟨k' + 1,Q,by go_num,by omega,HF.o,hrest'⟩
        case measure=>simp [intOf]; omega
       ·have HF:aj (res=true):=ah (HE.o.trans (by rw [gH,mF.o,hc]; rfl));go_wp2_with fail;go_ret;exact ⟨bP HF.o.symm,HB2.o⟩
theorem lu (ar:aJ) (nm:ByteArray) (l:List Int) (ao:Option Addr) (cap:Nat) (hl:l.length<=maxLen) (hw:dS w w.heap.size l ao 0) (har:ar.len<=maxLen) (hat:ar.At w w.heap.size cO 0) (hh:Holds w (qM bc p aG aH aB aD i cO ar.len bC bs bt)):
 Calls Tryz.prog 146 #[.pointer (some ⟨bc,0,none⟩),.string nm,.slice ao l.length cap] w fun e w'=>e= .returned (.bool (rY ar nm l))∧Below w.heap.size w w':=by
 have HH:=ah (show Sit w w _ from ⟨Below.refl _ _,hh⟩);have HW:=ah hw;have HAT:=ah hat;generalize hres:rY ar nm l=res;have HR:=ah hres;unfold maxLen at hl har;clear hh hw hat hres;obtain ⟨-,⟨-,c0⟩,⟨-,c1⟩,⟨-,c2⟩,⟨-,c3⟩,⟨-,c4⟩,⟨-,c5⟩,-⟩:=HH.o;go_enter Tryz.func146,Tryz.ntmps146;go_wp2_with fail;go_loopw [8,10,16,20,21,22] (fun _ _ s _ _ _ wr=> ∃(k:Nat) (R:aJ),s= .int .i64 k∧k + R.len=ar.len∧res=rY R nm l∧R.At wr wr.heap.size cO k∧Below w.heap.size w wr) (fun _ _ s _ _ _ _=>ar.len - (intOf s).toNat)
 case atStart=>exact ⟨0,ar,rfl,by simp,HR.o.symm,HAT.o,Below.refl _ _⟩
 case round=>
  obtain ⟨k,R,rfl,hlen,heq,hrow,hB⟩:=hrel;have HE:=ah heq;have HB:=ah hB;clear heq hB c0 c1 c2 c3 c4 c5;cases R with
  | nil=>
    obtain rfl:k=ar.len:=by simpa [aJ.len] using hlen
    go_wp2_with fail;go_ret;exact ⟨bP HE.o.symm,HB.o⟩
  | cons h b e R=>
    obtain ⟨bl,off,s,rfl,hbl,hin,x0,x1,x2,x3,x4,x5,x6,x7,x8,x9,x10,hrest⟩:=aJ.At.head hrow;have hkl:k < ar.len:=by simp only [aJ.len] at hlen; omega
    clear hrow hin;go_upto_region 4 with fail;obtain ⟨nb,hnb⟩: ∃n,wr.heap.size=n:=⟨_,rfl⟩;generalize hW2:World.alloc wr _=W2;have HY:aj (Sit wr W2 (yH nb h b e s [])):=ah (by rw [<- hW2]; exact (Sit.start wr).Aq hnb _ _ _ _ _ _ _ _ _ _ _ _);have HB2:=ah (HB.o.trans (HY.o.1.mono HB.o.size));have gU:=ah (hrest.same HY.o.1);have IX:=HW.o.same HB2.o;rw [hnb];clear hW2 hnb x0 x1 x2 x3 x4 x5 x6 x7 x8 x9 x10 hrest;obtain ⟨-,⟨-,c0⟩,⟨-,c1⟩,⟨-,c2⟩,⟨-,c3⟩,⟨-,c4⟩,⟨-,c5⟩,⟨-,c6⟩,⟨-,c7⟩,⟨-,c8⟩,⟨-,c9⟩,⟨-,c10⟩,-⟩:=HY.o;clear c1 c3 c4 c5 c6 c7 c8 c9 c10;go_wp2_with fail;go_loop [10,22] (fun _ s'=> ∃(k':Nat) (Q:List Int),s'= .int .i64 k'∧k' + Q.length=l.length∧(l.any fun k=>h.op == k && h.nm.toList == nm.toList)=(Q.any fun k=>h.op == k && h.nm.toList == nm.toList)∧dS W2 W2.heap.size Q ao k') (fun _ s'=>l.length - (intOf s').toNat)
    case atStart=>exact ⟨0,l,rfl,by simp,rfl,IX⟩
    case round=>
     obtain ⟨k',Q,rfl,hlen',heq',hrow'⟩:=hrel;have HQ:=ah heq';clear heq' IX;cases Q with
     | nil=>
       obtain rfl:k'=l.length:=(by simpa using hlen');have HF:aj (res=rY R nm l):=ah (HE.o.trans (by rw [rY,HQ.o]; rfl));go_wp2_with fail;go_roundw
       case rel=>exact ⟨k + 1,R,by go_num,by simp only [aJ.len] at hlen; omega,HF.o,gU.o,HB2.o⟩
       case measure=>simp [intOf]; omega
     | cons q Q=>
       obtain ⟨⟨b2,off2,rfl,hB2,z0⟩,hrest'⟩:=hrow';simp only [List.length_cons] at hlen';have hkl':k' < l.length:=(by omega);have mF:aj ((l.any fun k=>h.op == k && h.nm.toList == nm.toList)=((h.op == q && h.nm.toList == nm.toList) || (Q.any fun k=>h.op == k && h.nm.toList == nm.toList))):=ah (HQ.o.trans (by simp));cases hc:(h.op == q)
       ·have HF:=ah (mF.o.trans (by rw [hc]; rfl:_=(Q.any fun k=>h.op == k && h.nm.toList == nm.toList)));go_wp2_with fail;go_round
        case rel=>exact ⟨k' + 1,Q,by go_num,by omega,HF.o,hrest'⟩
        case measure=>simp [intOf]; omega
       ·cases hn:(h.nm.toList == nm.toList)
        ·have HF:=ah (mF.o.trans (by rw [hc,hn]; rfl:_=(Q.any fun k=>h.op == k && h.nm.toList == nm.toList)));rw [hn] at HF;go_wp2_with fail;go_round
         case rel=>exact ⟨k' + 1,Q,by go_num,by omega,HF.o,hrest'⟩
         case measure=>simp [intOf]; omega
        ·have HF:aj (res=true):=ah (HE.o.trans (by rw [rY,mF.o,hc,hn]; rfl));go_wp2_with fail;go_ret;exact ⟨bP HF.o.symm,HB2.o⟩
end
namespace Md
def ex1 (p:Pr) (i:Int):bf->Int
 | .nil=>0
 | .cons op n nm kids _=>mI p i op n nm kids
def JG (p:Pr) (i:Int) (h:aX):Int:=
 if decide ((h.idx.len:Int)=0) then gu [dF (mean p i h.nm) [1,2],mI p i h.dP h.xn h.dO h.aO] else gu [dF (mean p i h.nm) [3],ex1 p i h.idx,mI p i h.dP h.xn h.dO h.aO]
end Md
theorem yO (w:World) (a b c:Int) (t:TypeId):dS (w.alloc (.cells #[.int .i64 a,.int .i64 b,.int .i64 c] t)) (w.alloc (.cells #[.int .i64 a,.int .i64 b,.int .i64 c] t)).heap.size [a,b,c] (some ⟨w.heap.size,0,none⟩) 0:=
 ⟨⟨_,_,rfl,by simp,bS w [.int .i64 a,.int .i64 b,.int .i64 c] t 0⟩,⟨_,_,rfl,by simp,bS w [.int .i64 a,.int .i64 b,.int .i64 c] t 1⟩,⟨_,_,rfl,by simp,bS w [.int .i64 a,.int .i64 b,.int .i64 c] t 2⟩,trivial⟩
theorem eu.nil {w:World} {K:Act->Prop} {a:Act} (h:K a):eu w K [] a:=h
section
variable (p:Pr) (w:World) (aG aH:Option Addr) (aB aD:Nat) (i:Int) (cO:Option Addr) (Bq bC bs bt bc:Nat)
theorem Nr (h:aX) (b e:aJ) (s:Sl) (hi:bV i) (hp:p.At w aG aH) (hin:Em w h b e s) (dH:cB w) (hh:Holds w (qM bc p aG aH aB aD i cO Bq bC bs bt)):
 Calls Tryz.prog 140 #[.pointer (some ⟨bc,0,none⟩),fK h b e s] w fun e' w'=>e'= .returned (.int .i64 (JG p i h))∧Below w.heap.size w w':=by
 have HH:=ah (show Sit w w _ from ⟨Below.refl _ _,hh⟩);obtain ⟨dw,bJ,dZ,dI,cK,aZ,fF,dX⟩:=s;have hil:=hin.1.2.2.2.2.1;have hxk:=hin.1.2.2.2.2.2.1;unfold maxLen at hil;have HE:aj (JG p i h=if decide ((h.idx.len:Int)=0) then gu [dF (mean p i h.nm) [1,2],mI p i h.dP h.xn h.dO h.aO] else gu [dF (mean p i h.nm) [3],ex1 p i h.idx,mI p i h.dP h.xn h.dO h.aO]):=ah rfl;generalize JG p i h=res at *;unfold fK;dsimp only;go_enter Tryz.func140,Tryz.ntmps140;go_upto_region 1 with fail;generalize hW:World.alloc w _=W;generalize Value.agg #[_,_,_,_,_,_,_,_,_,_,_]=a0;have HX:aj (Sit w W (yH w.heap.size h b e ⟨dw,bJ,dZ,dI,cK,aZ,fF,dX⟩ (qM bc p aG aH aB aD i cO Bq bC bs bt))):=ah (by rw [<- hW]; exact HH.o.Aq rfl _ _ _ _ _ _ _ _ _ _ _ _);clear hW HH;have HP:=ah (hp.same HX.o.1);have gV:=ah (dH.same HX.o.1);have Mc:=ah (hin.2.2.1.same HX.o.1);have HAI:=ah (hin.2.1.same HX.o.1);have HK:aj (∀w',Below W.heap.size W w'->Holds w' (qM bc p aG aH aB aD i cO Bq bC bs bt)):=ah (fun w' hb=>(HX.o.next hb).2.2.2.2.2.2.2.2.2.2.2.2);clear hp dH hh hin;have L0: ∀w',Below W.heap.size W w'->w'.cell? ⟨w.heap.size,0,none⟩=some (.int .i64 h.op):=fun w' hb=>(HX.o.next hb).2.1.2;have L2: ∀w',Below W.heap.size W w'->w'.cell? ⟨w.heap.size,2,none⟩=some (.string h.nm):=fun w' hb=>(HX.o.next hb).2.2.2.1.2;have L3: ∀w',Below W.heap.size W w'->w'.cell? ⟨w.heap.size,3,none⟩=some (.string h.arg):=fun w' hb=>(HX.o.next hb).2.2.2.2.1.2;have L4: ∀w',Below W.heap.size W w'->w'.cell? ⟨w.heap.size,4,none⟩=some (.slice dw h.idx.len bJ):=fun w' hb=>(HX.o.next hb).2.2.2.2.2.1.2;have L5: ∀w',Below W.heap.size W w'->w'.cell? ⟨w.heap.size,5,none⟩=some (.int .i64 h.dP):=fun w' hb=>(HX.o.next hb).2.2.2.2.2.2.1.2;have L6: ∀w',Below W.heap.size W w'->w'.cell? ⟨w.heap.size,6,none⟩=some (.int .i64 h.xn):=fun w' hb=>(HX.o.next hb).2.2.2.2.2.2.2.1.2;have L7: ∀w',Below W.heap.size W w'->w'.cell? ⟨w.heap.size,7,none⟩=some (.string h.dO):=fun w' hb=>(HX.o.next hb).2.2.2.2.2.2.2.2.1.2;have L8: ∀w',Below W.heap.size W w'->w'.cell? ⟨w.heap.size,8,none⟩=some (.slice dZ h.aO.len dI):=fun w' hb=>(HX.o.next hb).2.2.2.2.2.2.2.2.2.1.2;have l4:=L4 W (Below.refl _ _);cases hix:h.idx with
 | nil=>
   have h0:h.idx.len=0:=by rw [hix]; rfl
   have HF:=ah (HE.o.trans (if_pos (by rw [h0]; rfl)));rw [h0] at l4;clear HE hix L4 h0;go_upto_region 2 with fail;refine ow (fun w'=>Below W.heap.size W w') (fun w w'=>Below w.heap.size w w') [9,10,11,12,13,14,15,16,17,18,19,4] (by kernel_rfl) (by kernel_rfl) (fun _=>Below.refl _ _) (by rfl) (below_drewN (Below.refl _ _) 1) ?_
   iterate 3
    apply dA.step
    case aP=>intro β A w' hβ hC hO hD;have e0:=hO 0 (by rfl);have e3:=hO 3 (by rfl);simp [Act.eval] at e0 e3;simp [Act.eval] at hD;simp [go_sem,gd,Oper.wp,e0,e3,hD,L2,hC];exact aI.mk (Below.refl _ _) hC (bG.mk _ _)
   refine dA.some (fun v w'=> ∃b,v= .slice (some ⟨b,0,none⟩) 2 2∧dS w' w'.heap.size [1,2] (some ⟨b,0,none⟩) 0) ?_ ?_ ?_
   ·rintro v w w' hle ⟨b,rfl,hin⟩;exact ⟨b,rfl,hin.same hle⟩
   ·intro β A w' hβ hC hO hD;simp [go_sem,gd,Oper.wp];exact aI.mk (d:=_) (v:= .slice (some ⟨_,0,none⟩) 2 2) (au _ _) (hC.trans ((au _ _).mono hC.size)) ⟨_,rfl,jw _ 1 2 _⟩
   apply dA.step
   case aP=>intro β A w' hβ hC hO hD;simp [Act.eval] at hD;obtain ⟨d9,Lb,b12,d12,at7⟩:=hD;simp [go_sem,gd,Oper.wp,d9,Lb,d12];refine (iY p w' aG aH aB aD _ cO _ bC bs bt bc h.nm [1,2] _ 2 hi (by decide) (HP.o.same hC) at7 (HK.o _ hC)).mono ?_;rintro e' w2 ⟨rfl,hb⟩;exact aI.mk hb (hC.trans (hb.mono hC.size)) (bG.mk _ _)
   iterate 3
    apply dA.step
    case aP=>intro β A w' hβ hC hO hD;have e0:=hO 0 (by rfl);have e3:=hO 3 (by rfl);simp [Act.eval] at e0 e3;simp [Act.eval] at hD;simp [go_sem,gd,Oper.wp,e0,e3,hD,L5,L6,L7,L8,hC];exact aI.mk (Below.refl _ _) hC (bG.mk _ _)
   apply dA.step
   case aP=>intro β A w' hβ hC hO hD;simp [Act.eval] at hD;obtain ⟨Qe,d16,-⟩:=hD;simp [go_sem,gd,Oper.wp,Qe,d16];refine (uS p w' aG aH aB aD _ cO _ bC bs bt bc h.dP h.xn h.dO h.aO dZ dI hi (HP.o.same hC) hxk (Mc.o.same hC) (gV.o.same hC) (HK.o _ hC)).mono ?_;rintro e' w2 ⟨rfl,hb⟩;exact aI.mk hb (hC.trans (hb.mono hC.size)) (bG.mk _ _)
   refine dA.some (fun v w'=> ∃b,v= .slice (some ⟨b,0,none⟩) 2 2∧dS w' w'.heap.size [dF (mean p i h.nm) [1,2],mI p i h.dP h.xn h.dO h.aO] (some ⟨b,0,none⟩) 0) ?_ ?_ ?_
   ·rintro v w w' hle ⟨b,rfl,hin⟩;exact ⟨b,rfl,hin.same hle⟩
   ·intro β A w' hβ hC hO hD;simp [Act.eval] at hD;simp [go_sem,gd,Oper.wp,hD];exact aI.mk (d:=_) (v:= .slice (some ⟨_,0,none⟩) 2 2) (au _ _) (hC.trans ((au _ _).mono hC.size)) ⟨_,rfl,jw _ _ _ _⟩
   apply dA.step
   case aP=>intro β A w' hβ hC hO hD;simp [Act.eval] at hD;obtain ⟨⟨b18,d18,au0⟩,-⟩:=hD;simp [go_sem,gd,Oper.wp,d18];refine (iV [dF (mean p i h.nm) [1,2],mI p i h.dP h.xn h.dO h.aO] w' _ _ (by simp [maxLen]) au0).mono ?_;rintro e' w2 ⟨rfl,rfl⟩;exact aI.mk (Below.refl _ _) hC (bG.mk _ _)
   apply dA.step
   case aP=>intro β A w' hβ hC hO hD;have e0:=hO 0 (by rfl);have e3:=hO 3 (by rfl);simp [Act.eval] at e0 e3;simp [Act.eval] at hD;simp [go_sem,gd,Oper.wp,e0,e3,hD];exact aI.mk (Below.refl _ _) hC (bG.mk _ _)
   intro wz gy;intro v0 h0 v1 h1 v2 h2 v3 h3 v4 h4 v5 h5 v6 h6 v7 h7 v8 h8 v9 h9 v10 h10 v11 h11;have WG:v11=_:=h11;subst WG;clear h0 h1 h2 h3 h4 h5 h6 h7 h8 h9 h10 h11;refine eu.nil ?_;go_wp2_with fail;go_ret;exact ⟨dB HF.o.symm,(HX.o.next gy).1⟩
 | cons op' n' nm' jg rest=>
   have hrow:=HAI.o;rw [hix] at hrow;have HF:aj (res=gu [dF (mean p i h.nm) [3],mI p i op' n' nm' jg,mI p i h.dP h.xn h.dO h.aO]):=ah (HE.o.trans ((if_neg (by rw [hix,decide_eq_true_iff]; simp only [bf.len]; omega)).trans (by rw [hix]; rfl)));have hpos:0 < h.idx.len:=by rw [hix]; simp [bf.len]
   have hpos':(0:Int) < h.idx.len:=by omega
   have hne0:((h.idx.len:Int) == 0)=false:=by rw [beq_eq_false_iff_ne]; omega
   obtain ⟨⟨b',off',mH,cap',rfl,nM,x0,x1,x2,x3,hok',qw⟩,-⟩:=hrow;simp only [Nat.zero_mul,Nat.add_zero] at x0 x1 x2 x3;have M0: ∀w',Below W.heap.size W w'->w'.cell? ⟨b',off',none⟩=some (.int .i64 op'):=fun w' hb=>(hb.cell (p:=⟨b',off',none⟩) nM).trans x0;have M1: ∀w',Below W.heap.size W w'->w'.cell? ⟨b',off' + 1,none⟩=some (.int .i64 n'):=fun w' hb=>(hb.cell (p:=⟨b',off' + 1,none⟩) nM).trans x1;have M2: ∀w',Below W.heap.size W w'->w'.cell? ⟨b',off' + 2,none⟩=some (.string nm'):=fun w' hb=>(hb.cell (p:=⟨b',off' + 2,none⟩) nM).trans x2;have M3: ∀w',Below W.heap.size W w'->w'.cell? ⟨b',off' + 3,none⟩=some (.slice mH jg.len cap'):=fun w' hb=>(hb.cell (p:=⟨b',off' + 3,none⟩) nM).trans x3;have HAK:=ah qw;clear HE hix x0 x1 x2 x3 qw;go_upto_region 3 with fail;refine ow (fun w'=>Below W.heap.size W w') (fun w w'=>Below w.heap.size w w') [20,21,22,23,24,25,26,27,28,29,30,31,32,33,34,35,36,4] (by kernel_rfl) (by kernel_rfl) (fun _=>Below.refl _ _) (by rfl) (below_drewN (Below.refl _ _) 1) ?_
   iterate 3
    apply dA.step
    case aP=>intro β A w' hβ hC hO hD;have e0:=hO 0 (by rfl);have e3:=hO 3 (by rfl);simp [Act.eval] at e0 e3;simp [Act.eval] at hD;simp [go_sem,gd,Oper.wp,e0,e3,hD,L2,hC];exact aI.mk (Below.refl _ _) hC (bG.mk _ _)
   refine dA.some (fun v w'=> ∃b,v= .slice (some ⟨b,0,none⟩) 1 1∧dS w' w'.heap.size [3] (some ⟨b,0,none⟩) 0) ?_ ?_ ?_
   ·rintro v w w' hle ⟨b,rfl,hin⟩;exact ⟨b,rfl,hin.same hle⟩
   ·intro β A w' hβ hC hO hD;simp [go_sem,gd,Oper.wp];exact aI.mk (d:=_) (v:= .slice (some ⟨_,0,none⟩) 1 1) (au _ _) (hC.trans ((au _ _).mono hC.size)) ⟨_,rfl,gG _ 3 _⟩
   apply dA.step
   case aP=>intro β A w' hβ hC hO hD;simp [Act.eval] at hD;obtain ⟨d20,d22,b23,d23,au1⟩:=hD;simp [go_sem,gd,Oper.wp,d20,d22,d23];refine (iY p w' aG aH aB aD _ cO _ bC bs bt bc h.nm [3] _ 1 hi (by decide) (HP.o.same hC) au1 (HK.o _ hC)).mono ?_;rintro e' w2 ⟨rfl,hb⟩;exact aI.mk hb (hC.trans (hb.mono hC.size)) (bG.mk _ _)
   iterate 5
    apply dA.step
    case aP=>intro β A w' hβ hC hO hD;have e0:=hO 0 (by rfl);have e3:=hO 3 (by rfl);simp [Act.eval] at e0 e3;simp [Act.eval] at hD;simp [go_sem,gd,Oper.wp,e0,e3,hD,L4,hC,hpos,hpos',M0,M1,M2,M3];exact aI.mk (Below.refl _ _) hC (bG.mk _ _)
   apply dA.step
   case aP=>intro β A w' hβ hC hO hD;simp [Act.eval] at hD;obtain ⟨d25,d29,-⟩:=hD;simp [go_sem,gd,Oper.wp,d25,d29];refine (uS p w' aG aH aB aD _ cO _ bC bs bt bc op' n' nm' jg mH cap' hi (HP.o.same hC) hok' (HAK.o.same hC) (gV.o.same hC) (HK.o _ hC)).mono ?_;rintro e' w2 ⟨rfl,hb⟩;exact aI.mk hb (hC.trans (hb.mono hC.size)) (bG.mk _ _)
   iterate 3
    apply dA.step
    case aP=>intro β A w' hβ hC hO hD;have e0:=hO 0 (by rfl);have e3:=hO 3 (by rfl);simp [Act.eval] at e0 e3;simp [Act.eval] at hD;simp [go_sem,gd,Oper.wp,e0,e3,hD,L5,L6,L7,L8,hC];exact aI.mk (Below.refl _ _) hC (bG.mk _ _)
   apply dA.step
   case aP=>intro β A w' hβ hC hO hD;simp [Act.eval] at hD;obtain ⟨d31,d33,-⟩:=hD;simp [go_sem,gd,Oper.wp,d31,d33];refine (uS p w' aG aH aB aD _ cO _ bC bs bt bc h.dP h.xn h.dO h.aO dZ dI hi (HP.o.same hC) hxk (Mc.o.same hC) (gV.o.same hC) (HK.o _ hC)).mono ?_;rintro e' w2 ⟨rfl,hb⟩;exact aI.mk hb (hC.trans (hb.mono hC.size)) (bG.mk _ _)
   refine dA.some (fun v w'=> ∃b,v= .slice (some ⟨b,0,none⟩) 3 3∧dS w' w'.heap.size [dF (mean p i h.nm) [3],mI p i op' n' nm' jg,mI p i h.dP h.xn h.dO h.aO] (some ⟨b,0,none⟩) 0) ?_ ?_ ?_
   ·rintro v w w' hle ⟨b,rfl,hin⟩;exact ⟨b,rfl,hin.same hle⟩
   ·intro β A w' hβ hC hO hD;simp [Act.eval] at hD;simp [go_sem,gd,Oper.wp,hD];exact aI.mk (d:=_) (v:= .slice (some ⟨_,0,none⟩) 3 3) (au _ _) (hC.trans ((au _ _).mono hC.size)) ⟨_,rfl,yO _ _ _ _ _⟩
   apply dA.step
   case aP=>intro β A w' hβ hC hO hD;simp [Act.eval] at hD;obtain ⟨⟨b35,d35,au2⟩,-⟩:=hD;simp [go_sem,gd,Oper.wp,d35];refine (iV [dF (mean p i h.nm) [3],mI p i op' n' nm' jg,mI p i h.dP h.xn h.dO h.aO] w' _ _ (by simp [maxLen]) au2).mono ?_;rintro e' w2 ⟨rfl,rfl⟩;exact aI.mk (Below.refl _ _) hC (bG.mk _ _)
   apply dA.step
   case aP=>intro β A w' hβ hC hO hD;have e0:=hO 0 (by rfl);have e3:=hO 3 (by rfl);simp [Act.eval] at e0 e3;simp [Act.eval] at hD;simp [go_sem,gd,Oper.wp,e0,e3,hD];exact aI.mk (Below.refl _ _) hC (bG.mk _ _)
   intro wz gy;intro v0 h0 v1 h1 v2 h2 v3 h3 v4 h4 v5 h5 v6 h6 v7 h7 v8 h8 v9 h9 v10 h10 v11 h11 v12 h12 v13 DF v14 uf v15 IQ v16 h16 v17 Ll;have aL1:v17=_:=Ll;subst aL1;clear h0 h1 h2 h3 h4 h5 h6 h7 h8 h9 h10 h11 h12 DF uf IQ h16 Ll;refine eu.nil ?_;go_wp2_with fail;go_ret;exact ⟨dB HF.o.symm,(HX.o.next gy).1⟩
end
def wT (f:List UInt8->Bool) (l:List UInt8):List UInt8->Bool:=fun x=>if x=l then true else f x
def mX (b:Bool):Int:=if b then 8 else 0
def VJ (nm:ByteArray) (w:World) (bs n:Nat) (f:List UInt8->Bool) (e:Ending) (w':World):Prop:=
 e= .returned (.int .i64 (mX (f nm.toList)))∧gT w' bs (n + 1) (wT f nm.toList)∧w.grownBy w' (some bs)
theorem Om (nm:ByteArray) (w:World) (bs n:Nat) (f:List UInt8->Bool) (hn:n < maxLen) (hs:nm.size<=maxLen) (hm:gT w bs n f):
 Calls Tryz.prog 149 #[.map (some bs),.string nm] w (VJ nm w bs n f):=by
 have HM:=ah hm;have hlk:=hm.look nm hs;clear hm;cases hf:f nm.toList
 ·obtain ⟨w4,hup,ug,hg4⟩:=HM.o.put hn nm hs true;have zq:=ah ug;have HG:=ah hg4;clear ug hg4 hn hs;go_enter Tryz.func149,Tryz.ntmps149;go_wp2_with fail;go_ret;exact ⟨by rw [hf]; rfl,zq.o,HG.o⟩
 ·have zq:aj (gT w bs (n + 1) (wT f nm.toList)):=ah (by
   obtain ⟨D,h1,h2⟩:=HM.o;refine ⟨D,h1.mono (by omega),fun l=> ?_⟩;rw [h2]; unfold wT; by_cases h:l=nm.toList
   ·rw [if_pos h,h,hf]
   ·rw [if_neg h])
  clear hn hs;go_enter Tryz.func149,Tryz.ntmps149;go_wp2_with fail;go_ret;exact ⟨by rw [hf]; rfl,zq.o,⟨rfl,rfl,rfl,Nat.le_refl _,fun _ _ _=>rfl⟩⟩
end Go.Proofs.YtgjmahnblcajbaaGreatDoor
