/-
  Contracts of check.first, nesting, and of the checker's kind, expr, own, mutexOf.
  Contracts of the checker's inside, insideNamed.
  Contract of the checker's assignment.
  Contract of check.once.
-/
import Derived.Test.YtehnipchbmjlhaaGreatDoorGMC
import Derived.Test.YtehnipchbmjlhaaGreatDoorGME
import Derived.Test.YtehnipchbmjlhaaGreatDoorGMB
set_option linter.unusedSimpArgs false
set_option linter.unusedVariables false
set_option maxHeartbeats 40000000
set_option maxRecDepth 1000000
section
namespace Go.Proofs.YtehnipchbmjlhaaGreatDoor
open Go.RowKit
namespace Md
def eP:List Int→Int
 | []=>0
 | a ::r=>if a != 0 then a else eP r
def nest (b:Bool):Int:=if b then 7 else 0
def jw (ds:List De) (nm:ByteArray):ByteArray:=((ds.find? fun d=>d.kind == 5 && d.nm.toList == nm.toList).map (·.on)).getD ⟨#[]⟩
theorem JE (d:De) (r:List De) (nm:ByteArray):jw (d ::r) nm=if d.kind == 5 && d.nm.toList == nm.toList then d.on else jw r nm:=by
 unfold jw; rw [List.find?_cons]; cases h:(d.kind == 5 && d.nm.toList == nm.toList) <;> simp
end Md
open Md
def gT (bc:Nat) (p:Pr) (aH aI:Option Addr) (aC aD:Nat) (i:Int) (aX:Option Addr) (wQ aQ bs bt:Nat):List (Nat × Nat × Value):=
 [(bc,0,.slice aH p.ds.length aC),(bc,1,.slice aI p.ts.length aD),(bc,2,.int .i64 i),(bc,3,.slice aX wQ aQ),(bc,4,.map (some bs)),(bc,5,.map (some bt))]
theorem cK (b:Bool) (w:World):
 Calls Tryz.prog 145 #[.bool b] w fun e w'=>e= .returned (.int .i64 (nest b))∧w=w':=by
 cases b
 all_goals
  go_enter Tryz.func145,Tryz.ntmps145
  go_wp2
  go_ret
  exact ⟨rfl,rfl⟩
theorem cB (l:List Int) (w:World) (ao:Option Addr) (cap:Nat) (hl:l.length≤maxLen) (hat:dI w w.heap.size l ao 0):
 Calls Tryz.prog 143 #[.slice ao l.length cap] w fun e w'=>e= .returned (.int .i64 (eP l))∧w=w':=by
 unfold maxLen at hl
 generalize hres:eP l=res
 have HR:=Lib.hid hres
 clear hres
 go_enter Tryz.func143,Tryz.ntmps143
 go_wp2_with fail
 go_loop [4,7] (fun _ s=> ∃(k:Nat) (R:List Int),s= .int .i64 k∧k + R.length=l.length∧res=eP R∧dI w w.heap.size R ao k) (fun _ s=>l.length - (intOf s).toNat)
 case atStart=>exact ⟨0,l,rfl,by simp,HR.out.symm,hat⟩
 case round=>
  obtain ⟨k,R,rfl,hlen,heq,hrow⟩:=hrel
  have HE:=Lib.hid heq
  clear heq
  cases R with
  | nil=>
    obtain rfl:k=l.length:=by simpa using hlen
    go_wp2_with fail
    go_ret
    exact ⟨bU HE.out.symm,rfl⟩
  | cons a R=>
    obtain ⟨⟨b,off,rfl,hB,y0⟩,hrest⟩:=hrow
    simp only [List.length_cons] at hlen
    have hkl:k < l.length:=by omega
    cases hc:(a != 0)
    ·have fQ:=Lib.hid (HE.out.trans (if_neg (by rw [hc]; decide)))
     go_wp2_with fail
     go_round
     case rel=>exact ⟨k + 1,R,by go_num,by omega,fQ.out,hrest⟩
     case measure=>simp [intOf]; omega
    ·have fQ:=Lib.hid (HE.out.trans (if_pos hc))
     go_wp2_with fail
     go_ret
     exact ⟨bU fQ.out.symm,rfl⟩
section
variable (p:Pr) (w:World) (aH aI:Option Addr) (aC aD:Nat) (i:Int) (aX:Option Addr) (wQ aQ bs bt bc:Nat)
theorem gH (nm:ByteArray) (l:List Int) (ao:Option Addr) (cap:Nat) (hi:aU i) (hl:l.length≤maxLen) (hp:p.At w aH aI) (hw:dI w w.heap.size l ao 0) (hh:Holds w (gT bc p aH aI aC aD i aX wQ aQ bs bt)):
 Calls Tryz.prog 144 #[.pointer (some ⟨bc,0,none⟩),.string nm,.slice ao l.length cap] w fun e w'=>e= .returned (.int .i64 (bg (mean p i nm) l))∧Below w.heap.size w w':=by
 have HH:=Lib.hid (show Sit w w _ from ⟨Below.refl _ _,hh⟩)
 have HP:=Lib.hid hp
 have HW:=Lib.hid hw
 clear hp hw hh
 go_enter Tryz.func144,Tryz.ntmps144
 go_wp2_with fail
 obtain ⟨T,F,yO,hst,hF,hnext⟩:=calm w
 have HF:=Lib.hid hF
 have fZ:=Lib.hid hnext
 clear hnext hF
 have d0:=fun x=>(HH.out.next (HF.out x)).2.1.2
 have d1:=fun x=>(HH.out.next (HF.out x)).2.2.1.2
 have d2:=fun x=>(HH.out.next (HF.out x)).2.2.2.1.2
 have d3:=fun x=>(HH.out.next (HF.out x)).2.2.2.2.1.2
 have d4:=fun x=>(HH.out.next (HF.out x)).2.2.2.2.2.1.2
 have d5:=fun x=>(HH.out.next (HF.out x)).2.2.2.2.2.2.1.2
 refine iZ F (by kernel_rfl) (by kernel_rfl) hst ?_
 repeat (any_goals (first | go_big_quiet_step ((go_at_call 162; refine (uj p i nm l _ aH aI ao aC aD cap hi hl (HP.out.same (HF.out _)) (HW.out.same (HF.out _))).mono ?_; rintro e w' ⟨rfl,hb⟩; exact ⟨rfl,fZ.out _ _ hb⟩)) | (refine wpQuiet_step (fun K hK=> ?_); go_simp; first | (refine hK _ ?_; clear hK K) | (split <;> first | (refine hK _ ?_; clear hK K) | (apply Exists.intro; refine ⟨fun _=> ?_,hK _ ?_⟩; ((go_at_call 162; refine (uj p i nm l _ aH aI ao aC aD cap hi hl (HP.out.same (HF.out _)) (HW.out.same (HF.out _))).mono ?_; rintro e w' ⟨rfl,hb⟩; exact ⟨rfl,fZ.out _ _ hb⟩)); clear hK K)))))
 all_goals (refine wpQuiet_nil ?_; rintro _ ⟨x,rfl⟩)
 go_wp2_with fail
 go_ret
 exact ⟨rfl,HF.out x⟩
theorem oJ (op n:Int) (nm:ByteArray) (kids:aP) (ao:Option Addr) (cap:Nat) (hi:aU i) (hp:p.At w aH aI) (hok:oz op n nm kids) (hat:kids.At w w.heap.size ao 0) (cZ:cO w) (hh:Holds w (gT bc p aH aI aC aD i aX wQ aQ bs bt)):
 Calls Tryz.prog 142 #[.pointer (some ⟨bc,0,none⟩),.agg #[.int .i64 op,.int .i64 n,.string nm,.slice ao kids.len cap]] w fun e w'=>e= .returned (.int .i64 (kP p i op n nm kids))∧Below w.heap.size w w':=by
 have HH:=Lib.hid (show Sit w w _ from ⟨Below.refl _ _,hh⟩)
 have HP:=Lib.hid hp
 have HAT:=Lib.hid hat
 have ig:=Lib.hid cZ
 clear hp hat hh cZ
 go_enter Tryz.func142,Tryz.ntmps142
 go_upto_region 1 with fail
 generalize hW:World.alloc w _=W
 generalize Value.agg #[_,_,_,_]=a0
 have HX:=Lib.hid (HH.out.qU rfl (.int .i64 op) (.int .i64 n) (.string nm) (.slice ao kids.len cap) 45)
 rw [hW] at HX
 clear hW
 obtain ⟨T,F,yO,hst,hF,hnext⟩:=calm W
 have HF:=Lib.hid hF
 have fZ:=Lib.hid hnext
 clear hnext hF
 have d0:=fun x=>(HX.out.next (HF.out x)).2.1.2
 have d1:=fun x=>(HX.out.next (HF.out x)).2.2.1.2
 have d2:=fun x=>(HX.out.next (HF.out x)).2.2.2.1.2
 have d3:=fun x=>(HX.out.next (HF.out x)).2.2.2.2.1.2
 have d4:=fun x=>(HX.out.next (HF.out x)).2.2.2.2.2.1.2
 have d5:=fun x=>(HX.out.next (HF.out x)).2.2.2.2.2.2.1.2
 have d6:=fun x=>(HX.out.next (HF.out x)).2.2.2.2.2.2.2.1.2
 have d7:=fun x=>(HX.out.next (HF.out x)).2.2.2.2.2.2.2.2.1.2
 have d8:=fun x=>(HX.out.next (HF.out x)).2.2.2.2.2.2.2.2.2.1.2
 have d9:=fun x=>(HX.out.next (HF.out x)).2.2.2.2.2.2.2.2.2.2.1.2
 refine iZ F (by kernel_rfl) (by kernel_rfl) hst ?_
 repeat (any_goals (first | go_big_quiet_step ((go_at_call 161; refine (zw p i op n nm kids _ aH aI ao aC aD cap hi ((HP.out.same HX.out.1).same (HF.out _)) hok ((HAT.out.same HX.out.1).same (HF.out _)) ((ig.out.same HX.out.1).same (HF.out _))).mono ?_; rintro e w' ⟨rfl,hb⟩; exact ⟨rfl,fZ.out _ _ hb⟩)) | (refine wpQuiet_step (fun K hK=> ?_); go_simp; first | (refine hK _ ?_; clear hK K) | (split <;> first | (refine hK _ ?_; clear hK K) | (apply Exists.intro; refine ⟨fun _=> ?_,hK _ ?_⟩; ((go_at_call 161; refine (zw p i op n nm kids _ aH aI ao aC aD cap hi ((HP.out.same HX.out.1).same (HF.out _)) hok ((HAT.out.same HX.out.1).same (HF.out _)) ((ig.out.same HX.out.1).same (HF.out _))).mono ?_; rintro e w' ⟨rfl,hb⟩; exact ⟨rfl,fZ.out _ _ hb⟩)); clear hK K)))))
 all_goals (refine wpQuiet_nil ?_; rintro _ ⟨x,rfl⟩)
 go_wp2_with fail
 go_ret
 exact ⟨rfl,(HX.out.next (HF.out x)).1⟩
theorem A9 (j:Nat) (t:Th) (r:List Th) (hd:p.ts.drop j=t ::r) (hp:p.At w aH aI) (hh:Holds w (gT bc p aH aI aC aD (j:Int) aX wQ aQ bs bt)):
 Calls Tryz.prog 149 #[.pointer (some ⟨bc,0,none⟩)] w fun e w'=>e= .returned (.string t.nm)∧Below w.heap.size w w':=by
 have HH:=Lib.hid (show Sit w w _ from ⟨Below.refl _ _,hh⟩)
 have hj:j < p.ts.length:=by
  have:=congrArg List.length hd; simp at this; omega
 have hth:=hp.2.2.2.drop j
 rw [hd,Nat.zero_add] at hth
 obtain ⟨⟨b,off,fC,dN,bG,aS,rfl,hB,x0,-⟩,-⟩:=hth
 clear hp hd hh
 obtain ⟨-,⟨-,c0⟩,⟨-,c1⟩,⟨-,c2⟩,⟨-,c3⟩,⟨-,c4⟩,⟨-,c5⟩,-⟩:=HH.out
 have hj0:(0:Int)≤j:=by omega
 have hj1:(j:Int) < p.ts.length:=by omega
 go_enter Tryz.func149,Tryz.ntmps149
 go_wp2_with fail
 go_quiet (fail)
 go_wp2_with fail
 go_ret
 exact ⟨rfl,below_drewN (Below.refl _ _) _⟩
theorem tu (nm:ByteArray) (hp:p.At w aH aI) (hh:Holds w (gT bc p aH aI aC aD i aX wQ aQ bs bt)):
 Calls Tryz.prog 148 #[.pointer (some ⟨bc,0,none⟩),.string nm] w fun e w'=>e= .returned (.string (jw p.ds nm))∧Below w.heap.size w w':=by
 have HH:=Lib.hid (show Sit w w _ from ⟨Below.refl _ _,hh⟩)
 have HP:=Lib.hid hp
 have hld:=hp.1
 unfold maxLen at hld
 generalize hres:jw p.ds nm=res
 have HR:=Lib.hid hres
 clear hp hh hres
 obtain ⟨-,⟨-,c0⟩,⟨-,c1⟩,⟨-,c2⟩,⟨-,c3⟩,⟨-,c4⟩,⟨-,c5⟩,-⟩:=HH.out
 go_enter Tryz.func148,Tryz.ntmps148
 go_wp2_with fail
 go_loopw [6,13] (fun _ s wr=> ∃(k:Nat) (R:List De),s= .int .i64 k∧k + R.length=p.ds.length∧res=jw R nm∧iL wr wr.heap.size R aH k∧Below w.heap.size w wr) (fun _ s _=>p.ds.length - (intOf s).toNat)
 case atStart=>exact ⟨0,p.ds,rfl,by simp,HR.out.symm,HP.out.2.2.1,Below.refl _ _⟩
 case round=>
  obtain ⟨k,R,rfl,hlen,heq,hrow,hB⟩:=hrel
  have HE:=Lib.hid heq
  have HB:=Lib.hid hB
  clear heq hB c0 c1 c2 c3 c4 c5
  cases R with
  | nil=>
    obtain rfl:k=p.ds.length:=by simpa using hlen
    go_wp2_with fail
    go_ret
    exact ⟨by rw [HE.out]; rfl,HB.out⟩
  | cons d R=>
    obtain ⟨⟨b,off,rfl,hB,x0,x1,x2,x3,x4,x5,hok⟩,hrest⟩:=hrow
    simp only [List.length_cons] at hlen
    have hkl:k < p.ds.length:=by omega
    rw [JE] at HE
    have HB2:=Lib.hid (HB.out.trans ((ah wr (.cells #[.int .i64 d.kind,.int .i64 d.line,.string d.nm,.int .i64 d.size,.int .i64 d.init,.string d.on] 62)).mono HB.out.size))
    clear hok
    cases h5:(d.kind == 5)
    ·have fQ:=Lib.hid (HE.out.trans (if_neg (by rw [h5]; simp)))
     go_wp2_with fail
     go_roundw
     case rel=>exact ⟨k + 1,R,by go_num,by omega,fQ.out,hrest.same (ah _ _),HB2.out⟩
     case measure=>simp [intOf]; omega
    ·cases hc:(d.nm.toList == nm.toList)
     ·have fQ:=Lib.hid (HE.out.trans (if_neg (by rw [h5,hc]; decide)))
      go_wp2_with fail
      go_roundw
      case rel=>exact ⟨k + 1,R,by go_num,by omega,fQ.out,hrest.same (ah _ _),HB2.out⟩
      case measure=>simp [intOf]; omega
     ·have fQ:=Lib.hid (HE.out.trans (if_pos (by rw [h5,hc]; rfl)))
      go_wp2_with fail
      go_ret
      exact ⟨by rw [fQ.out]; rfl,HB2.out⟩
end
end Go.Proofs.YtehnipchbmjlhaaGreatDoor
end
section
namespace Go.Proofs.YtehnipchbmjlhaaGreatDoor
open Go.RowKit
namespace Md
def dY:aN→List Int→Bool
 | .nil,_=>false
 | .cons h _ _ r,l=>(l.any fun k=>h.op == k) || dY r l
def jR:aN→ByteArray→List Int→Bool
 | .nil,_,_=>false
 | .cons h _ _ r,nm,l=>(l.any fun k=>h.op == k && h.nm.toList == nm.toList) || jR r nm l
end Md
open Md
section
variable (p:Pr) (w:World) (aH aI:Option Addr) (aC aD:Nat) (i:Int) (aX:Option Addr) (aQ bs bt bc:Nat)
theorem eX (ar:aN) (l:List Int) (ao:Option Addr) (cap:Nat) (hl:l.length≤maxLen) (hw:dI w w.heap.size l ao 0) (har:ar.len≤maxLen) (hat:ar.At w w.heap.size aX 0) (hh:Holds w (gT bc p aH aI aC aD i aX ar.len aQ bs bt)):
 Calls Tryz.prog 146 #[.pointer (some ⟨bc,0,none⟩),.slice ao l.length cap] w fun e w'=>e= .returned (.bool (dY ar l))∧Below w.heap.size w w':=by
 have HH:=Lib.hid (show Sit w w _ from ⟨Below.refl _ _,hh⟩)
 have HW:=Lib.hid hw
 have HAT:=Lib.hid hat
 generalize hres:dY ar l=res
 have HR:=Lib.hid hres
 unfold maxLen at hl har
 clear hh hw hat hres
 obtain ⟨-,⟨-,c0⟩,⟨-,c1⟩,⟨-,c2⟩,⟨-,c3⟩,⟨-,c4⟩,⟨-,c5⟩,-⟩:=HH.out
 go_enter Tryz.func146,Tryz.ntmps146
 go_wp2_with fail
 go_loopw [6,8,14,18,19,20] (fun _ _ s _ _ _ wr=> ∃(k:Nat) (R:aN),s= .int .i64 k∧k + R.len=ar.len∧res=dY R l∧R.At wr wr.heap.size aX k∧Below w.heap.size w wr) (fun _ _ s _ _ _ _=>ar.len - (intOf s).toNat)
 case atStart=>exact ⟨0,ar,rfl,by simp,HR.out.symm,HAT.out,Below.refl _ _⟩
 case round=>
  obtain ⟨k,R,rfl,hlen,heq,hrow,hB⟩:=hrel
  have HE:=Lib.hid heq
  have HB:=Lib.hid hB
  clear heq hB c0 c1 c2 c3 c4 c5
  cases R with
  | nil=>
    obtain rfl:k=ar.len:=by simpa [aN.len] using hlen
    go_wp2_with fail
    go_ret
    exact ⟨dh HE.out.symm,HB.out⟩
  | cons h b e R=>
    obtain ⟨bl,off,s,rfl,hbl,hin,x0,x1,x2,x3,x4,x5,x6,x7,x8,x9,x10,hrest⟩:=aN.At.head hrow
    have hkl:k < ar.len:=by simp only [aN.len] at hlen; omega
    clear hrow hin
    go_upto_region 4 with fail
    obtain ⟨nb,hnb⟩: ∃n,wr.heap.size=n:=⟨_,rfl⟩
    generalize hW2:World.alloc wr _=W2
    have HY:Hid (Sit wr W2 (nN nb h b e s [])):=Lib.hid (by rw [← hW2]; exact (Sit.start wr).gF hnb _ _ _ _ _ _ _ _ _ _ _ _)
    have HB2:=Lib.hid (HB.out.trans (HY.out.1.mono HB.out.size))
    have nU:=Lib.hid (hrest.same HY.out.1)
    have Dz:=HW.out.same HB2.out
    rw [hnb]
    clear hW2 hnb x0 x1 x2 x3 x4 x5 x6 x7 x8 x9 x10 hrest
    obtain ⟨-,⟨-,c0⟩,⟨-,c1⟩,⟨-,c2⟩,⟨-,c3⟩,⟨-,c4⟩,⟨-,c5⟩,⟨-,c6⟩,⟨-,c7⟩,⟨-,c8⟩,⟨-,c9⟩,⟨-,c10⟩,-⟩:=HY.out
    clear c1 c2 c3 c4 c5 c6 c7 c8 c9 c10
    go_wp2_with fail
    go_loop [8,20] (fun _ s'=> ∃(k':Nat) (Q:List Int),s'= .int .i64 k'∧k' + Q.length=l.length∧(l.any fun k=>h.op == k)=(Q.any fun k=>h.op == k)∧dI W2 W2.heap.size Q ao k') (fun _ s'=>l.length - (intOf s').toNat)
    case atStart=>exact ⟨0,l,rfl,by simp,rfl,Dz⟩
    case round=>
     obtain ⟨k',Q,rfl,hlen',heq',hrow'⟩:=hrel
     have HQ:=Lib.hid heq'
     clear heq' Dz
     cases Q with
     | nil=>
       obtain rfl:k'=l.length:=by simpa using hlen'
       have HF:Hid (res=dY R l):=Lib.hid (HE.out.trans (by rw [dY,HQ.out]; rfl))
       go_wp2_with fail
       go_roundw
       case rel=>exact ⟨k + 1,R,by go_num,by simp only [aN.len] at hlen; omega,HF.out,nU.out,HB2.out⟩
       case measure=>simp [intOf]; omega
     | cons q Q=>
       obtain ⟨⟨b2,off2,rfl,hB2,z0⟩,hrest'⟩:=hrow'
       simp only [List.length_cons] at hlen'
       have hkl':k' < l.length:=by omega
       have qp:Hid ((l.any fun k=>h.op == k)=((h.op == q) || (Q.any fun k=>h.op == k))):=Lib.hid (HQ.out.trans (by simp))
       cases hc:(h.op == q)
       ·have HF:=Lib.hid (qp.out.trans (by rw [hc]; rfl:_=(Q.any fun k=>h.op == k)))
        go_wp2_with fail
        go_round
        case rel=>exact ⟨k' + 1,Q,by go_num,by omega,HF.out,hrest'⟩
        case measure=>simp [intOf]; omega
       ·have HF:Hid (res=true):=Lib.hid (HE.out.trans (by rw [dY,qp.out,hc]; rfl))
        go_wp2_with fail
        go_ret
        exact ⟨dh HF.out.symm,HB2.out⟩
theorem ji (ar:aN) (nm:ByteArray) (l:List Int) (ao:Option Addr) (cap:Nat) (hl:l.length≤maxLen) (hw:dI w w.heap.size l ao 0) (har:ar.len≤maxLen) (hat:ar.At w w.heap.size aX 0) (hh:Holds w (gT bc p aH aI aC aD i aX ar.len aQ bs bt)):
 Calls Tryz.prog 147 #[.pointer (some ⟨bc,0,none⟩),.string nm,.slice ao l.length cap] w fun e w'=>e= .returned (.bool (jR ar nm l))∧Below w.heap.size w w':=by
 have HH:=Lib.hid (show Sit w w _ from ⟨Below.refl _ _,hh⟩)
 have HW:=Lib.hid hw
 have HAT:=Lib.hid hat
 generalize hres:jR ar nm l=res
 have HR:=Lib.hid hres
 unfold maxLen at hl har
 clear hh hw hat hres
 obtain ⟨-,⟨-,c0⟩,⟨-,c1⟩,⟨-,c2⟩,⟨-,c3⟩,⟨-,c4⟩,⟨-,c5⟩,-⟩:=HH.out
 go_enter Tryz.func147,Tryz.ntmps147
 go_wp2_with fail
 go_loopw [8,10,16,20,21,22] (fun _ _ s _ _ _ wr=> ∃(k:Nat) (R:aN),s= .int .i64 k∧k + R.len=ar.len∧res=jR R nm l∧R.At wr wr.heap.size aX k∧Below w.heap.size w wr) (fun _ _ s _ _ _ _=>ar.len - (intOf s).toNat)
 case atStart=>exact ⟨0,ar,rfl,by simp,HR.out.symm,HAT.out,Below.refl _ _⟩
 case round=>
  obtain ⟨k,R,rfl,hlen,heq,hrow,hB⟩:=hrel
  have HE:=Lib.hid heq
  have HB:=Lib.hid hB
  clear heq hB c0 c1 c2 c3 c4 c5
  cases R with
  | nil=>
    obtain rfl:k=ar.len:=by simpa [aN.len] using hlen
    go_wp2_with fail
    go_ret
    exact ⟨dh HE.out.symm,HB.out⟩
  | cons h b e R=>
    obtain ⟨bl,off,s,rfl,hbl,hin,x0,x1,x2,x3,x4,x5,x6,x7,x8,x9,x10,hrest⟩:=aN.At.head hrow
    have hkl:k < ar.len:=by simp only [aN.len] at hlen; omega
    clear hrow hin
    go_upto_region 4 with fail
    obtain ⟨nb,hnb⟩: ∃n,wr.heap.size=n:=⟨_,rfl⟩
    generalize hW2:World.alloc wr _=W2
    have HY:Hid (Sit wr W2 (nN nb h b e s [])):=Lib.hid (by rw [← hW2]; exact (Sit.start wr).gF hnb _ _ _ _ _ _ _ _ _ _ _ _)
    have HB2:=Lib.hid (HB.out.trans (HY.out.1.mono HB.out.size))
    have nU:=Lib.hid (hrest.same HY.out.1)
    have Dz:=HW.out.same HB2.out
    rw [hnb]
    clear hW2 hnb x0 x1 x2 x3 x4 x5 x6 x7 x8 x9 x10 hrest
    obtain ⟨-,⟨-,c0⟩,⟨-,c1⟩,⟨-,c2⟩,⟨-,c3⟩,⟨-,c4⟩,⟨-,c5⟩,⟨-,c6⟩,⟨-,c7⟩,⟨-,c8⟩,⟨-,c9⟩,⟨-,c10⟩,-⟩:=HY.out
    clear c1 c3 c4 c5 c6 c7 c8 c9 c10
    go_wp2_with fail
    go_loop [10,22] (fun _ s'=> ∃(k':Nat) (Q:List Int),s'= .int .i64 k'∧k' + Q.length=l.length∧(l.any fun k=>h.op == k && h.nm.toList == nm.toList)=(Q.any fun k=>h.op == k && h.nm.toList == nm.toList)∧dI W2 W2.heap.size Q ao k') (fun _ s'=>l.length - (intOf s').toNat)
    case atStart=>exact ⟨0,l,rfl,by simp,rfl,Dz⟩
    case round=>
     obtain ⟨k',Q,rfl,hlen',heq',hrow'⟩:=hrel
     have HQ:=Lib.hid heq'
     clear heq' Dz
     cases Q with
     | nil=>
       obtain rfl:k'=l.length:=by simpa using hlen'
       have HF:Hid (res=jR R nm l):=Lib.hid (HE.out.trans (by rw [jR,HQ.out]; rfl))
       go_wp2_with fail
       go_roundw
       case rel=>exact ⟨k + 1,R,by go_num,by simp only [aN.len] at hlen; omega,HF.out,nU.out,HB2.out⟩
       case measure=>simp [intOf]; omega
     | cons q Q=>
       obtain ⟨⟨b2,off2,rfl,hB2,z0⟩,hrest'⟩:=hrow'
       simp only [List.length_cons] at hlen'
       have hkl':k' < l.length:=by omega
       have qp:Hid ((l.any fun k=>h.op == k && h.nm.toList == nm.toList)=((h.op == q && h.nm.toList == nm.toList) || (Q.any fun k=>h.op == k && h.nm.toList == nm.toList))):=Lib.hid (HQ.out.trans (by simp))
       cases hc:(h.op == q)
       ·have HF:=Lib.hid (qp.out.trans (by rw [hc]; rfl:_=(Q.any fun k=>h.op == k && h.nm.toList == nm.toList)))
        go_wp2_with fail
        go_round
        case rel=>exact ⟨k' + 1,Q,by go_num,by omega,HF.out,hrest'⟩
        case measure=>simp [intOf]; omega
       ·cases hn:(h.nm.toList == nm.toList)
        ·have HF:=Lib.hid (qp.out.trans (by rw [hc,hn]; rfl:_=(Q.any fun k=>h.op == k && h.nm.toList == nm.toList)))
         rw [hn] at HF
         go_wp2_with fail
         go_round
         case rel=>exact ⟨k' + 1,Q,by go_num,by omega,HF.out,hrest'⟩
         case measure=>simp [intOf]; omega
        ·have HF:Hid (res=true):=Lib.hid (HE.out.trans (by rw [jR,qp.out,hc,hn]; rfl))
         go_wp2_with fail
         go_ret
         exact ⟨dh HF.out.symm,HB2.out⟩
end
end Go.Proofs.YtehnipchbmjlhaaGreatDoor
end
section
namespace Go.Proofs.YtehnipchbmjlhaaGreatDoor
open Go.RowKit
namespace Md
def Tw (p:Pr) (i:Int):aP→Int
 | .nil=>0
 | .cons op n nm kids _=>kP p i op n nm kids
def yY (p:Pr) (i:Int) (h:aV):Int:=
 if decide ((h.idx.len:Int)=0) then eP [bg (mean p i h.nm) [1,2],kP p i h.bD h.xn h.bC h.aL] else eP [bg (mean p i h.nm) [3],Tw p i h.idx,kP p i h.bD h.xn h.bC h.aL]
end Md
open Md
theorem lS (w:World) (a b c:Int) (t:TypeId):dI (w.alloc (.cells #[.int .i64 a,.int .i64 b,.int .i64 c] t)) (w.alloc (.cells #[.int .i64 a,.int .i64 b,.int .i64 c] t)).heap.size [a,b,c] (some ⟨w.heap.size,0,none⟩) 0:=
 ⟨⟨_,_,rfl,by simp,bV w [.int .i64 a,.int .i64 b,.int .i64 c] t 0⟩,⟨_,_,rfl,by simp,bV w [.int .i64 a,.int .i64 b,.int .i64 c] t 1⟩,⟨_,_,rfl,by simp,bV w [.int .i64 a,.int .i64 b,.int .i64 c] t 2⟩,trivial⟩
theorem dG.nil {w:World} {K:Act→Prop} {a:Act} (h:K a):dG w K [] a:=h
section
variable (p:Pr) (w:World) (aH aI:Option Addr) (aC aD:Nat) (i:Int) (aX:Option Addr) (wQ aQ bs bt bc:Nat)
theorem J5 (h:aV) (b e:aN) (s:Sl) (hi:aU i) (hp:p.At w aH aI) (hin:nG w h b e s) (cZ:cO w) (hh:Holds w (gT bc p aH aI aC aD i aX wQ aQ bs bt)):
 Calls Tryz.prog 141 #[.pointer (some ⟨bc,0,none⟩),dx h b e s] w fun e' w'=>e'= .returned (.int .i64 (yY p i h))∧Below w.heap.size w w':=by
 have HH:=Lib.hid (show Sit w w _ from ⟨Below.refl _ _,hh⟩)
 obtain ⟨dF,bT,bS,bf,bG,aS,dw,bR⟩:=s
 have hil:=hin.1.2.2.2.2.1
 have hxk:=hin.1.2.2.2.2.2.1
 unfold maxLen at hil
 have HE:Hid (yY p i h=if decide ((h.idx.len:Int)=0) then eP [bg (mean p i h.nm) [1,2],kP p i h.bD h.xn h.bC h.aL] else eP [bg (mean p i h.nm) [3],Tw p i h.idx,kP p i h.bD h.xn h.bC h.aL]):=Lib.hid rfl
 generalize yY p i h=res at *
 unfold dx
 dsimp only
 go_enter Tryz.func141,Tryz.ntmps141
 go_upto_region 1 with fail
 generalize hW:World.alloc w _=W
 generalize Value.agg #[_,_,_,_,_,_,_,_,_,_,_]=a0
 have HX:Hid (Sit w W (nN w.heap.size h b e ⟨dF,bT,bS,bf,bG,aS,dw,bR⟩ (gT bc p aH aI aC aD i aX wQ aQ bs bt))):=Lib.hid (by rw [← hW]; exact HH.out.gF rfl _ _ _ _ _ _ _ _ _ _ _ _)
 clear hW HH
 have HP:=Lib.hid (hp.same HX.out.1)
 have ig:=Lib.hid (cZ.same HX.out.1)
 have sP:=Lib.hid (hin.2.2.1.same HX.out.1)
 have HAI:=Lib.hid (hin.2.1.same HX.out.1)
 have HK:Hid (∀w',Below W.heap.size W w'→Holds w' (gT bc p aH aI aC aD i aX wQ aQ bs bt)):=Lib.hid (fun w' hb=>(HX.out.next hb).2.2.2.2.2.2.2.2.2.2.2.2)
 clear hp cZ hh hin
 have L0: ∀w',Below W.heap.size W w'→w'.cell? ⟨w.heap.size,0,none⟩=some (.int .i64 h.op):=fun w' hb=>(HX.out.next hb).2.1.2
 have L2: ∀w',Below W.heap.size W w'→w'.cell? ⟨w.heap.size,2,none⟩=some (.string h.nm):=fun w' hb=>(HX.out.next hb).2.2.2.1.2
 have L3: ∀w',Below W.heap.size W w'→w'.cell? ⟨w.heap.size,3,none⟩=some (.string h.arg):=fun w' hb=>(HX.out.next hb).2.2.2.2.1.2
 have L4: ∀w',Below W.heap.size W w'→w'.cell? ⟨w.heap.size,4,none⟩=some (.slice dF h.idx.len bT):=fun w' hb=>(HX.out.next hb).2.2.2.2.2.1.2
 have L5: ∀w',Below W.heap.size W w'→w'.cell? ⟨w.heap.size,5,none⟩=some (.int .i64 h.bD):=fun w' hb=>(HX.out.next hb).2.2.2.2.2.2.1.2
 have L6: ∀w',Below W.heap.size W w'→w'.cell? ⟨w.heap.size,6,none⟩=some (.int .i64 h.xn):=fun w' hb=>(HX.out.next hb).2.2.2.2.2.2.2.1.2
 have L7: ∀w',Below W.heap.size W w'→w'.cell? ⟨w.heap.size,7,none⟩=some (.string h.bC):=fun w' hb=>(HX.out.next hb).2.2.2.2.2.2.2.2.1.2
 have L8: ∀w',Below W.heap.size W w'→w'.cell? ⟨w.heap.size,8,none⟩=some (.slice bS h.aL.len bf):=fun w' hb=>(HX.out.next hb).2.2.2.2.2.2.2.2.2.1.2
 have l4:=L4 W (Below.refl _ _)
 cases hix:h.idx with
 | nil=>
   have h0:h.idx.len=0:=by rw [hix]; rfl
   have HF:=Lib.hid (HE.out.trans (if_pos (by rw [h0]; rfl)))
   rw [h0] at l4
   clear HE hix L4 h0
   go_upto_region 2 with fail
   refine mF (fun w'=>Below W.heap.size W w') (fun w w'=>Below w.heap.size w w') [9,10,11,12,13,14,15,16,17,18,19,4] (by kernel_rfl) (by kernel_rfl) (fun _=>Below.refl _ _) (by rfl) (below_drewN (Below.refl _ _) 1) ?_
   apply aM.step
   case aB=>
    intro β A w' hβ hC hO hD
    have e0:=hO 0 (by rfl)
    have e3:=hO 3 (by rfl)
    simp [Act.eval] at e0 e3
    simp [au,aj,ak,Act.eval,Region.binds] at hD
    simp [go_sem,gd,Oper.wp,e0,e3,hD]
    exact ay.mk (Below.refl _ _) hC (aj.mk _ _)
   apply aM.step
   case aB=>
    intro β A w' hβ hC hO hD
    have e0:=hO 0 (by rfl)
    have e3:=hO 3 (by rfl)
    simp [Act.eval] at e0 e3
    simp [au,aj,ak,Act.eval,Region.binds] at hD
    simp [go_sem,gd,Oper.wp,e0,e3,hD]
    exact ay.mk (Below.refl _ _) hC (aj.mk _ _)
   apply aM.step
   case aB=>
    intro β A w' hβ hC hO hD
    have e0:=hO 0 (by rfl)
    have e3:=hO 3 (by rfl)
    simp [Act.eval] at e0 e3
    simp [au,aj,ak,Act.eval,Region.binds] at hD
    simp [go_sem,gd,Oper.wp,e0,e3,hD,L2,hC]
    exact ay.mk (Below.refl _ _) hC (aj.mk _ _)
   refine aM.some (fun v w'=> ∃b,v= .slice (some ⟨b,0,none⟩) 2 2∧dI w' w'.heap.size [1,2] (some ⟨b,0,none⟩) 0) ?_ ?_ ?_
   ·rintro v w w' hle ⟨b,rfl,hin⟩
    exact ⟨b,rfl,hin.same hle⟩
   ·intro β A w' hβ hC hO hD
    simp [go_sem,gd,Oper.wp]
    exact ay.mk (d:=_) (v:= .slice (some ⟨_,0,none⟩) 2 2) (ah _ _) (hC.trans ((ah _ _).mono hC.size)) ⟨_,rfl,dU _ 1 2 _⟩
   apply aM.step
   case aB=>
    intro β A w' hβ hC hO hD
    simp [au,aj,ak,Act.eval,Region.binds] at hD
    obtain ⟨d9,d11,b12,d12,Zc⟩:=hD
    simp [go_sem,gd,Oper.wp,d9,d11,d12]
    refine (gH p w' aH aI aC aD _ aX _ aQ bs bt bc h.nm [1,2] _ 2 hi (by decide) (HP.out.same hC) Zc (HK.out _ hC)).mono ?_
    rintro e' w2 ⟨rfl,hb⟩
    exact ay.mk hb (hC.trans (hb.mono hC.size)) (aj.mk _ _)
   apply aM.step
   case aB=>
    intro β A w' hβ hC hO hD
    have e0:=hO 0 (by rfl)
    have e3:=hO 3 (by rfl)
    simp [Act.eval] at e0 e3
    simp [au,aj,ak,Act.eval,Region.binds] at hD
    simp [go_sem,gd,Oper.wp,e0,e3,hD]
    exact ay.mk (Below.refl _ _) hC (aj.mk _ _)
   apply aM.step
   case aB=>
    intro β A w' hβ hC hO hD
    have e0:=hO 0 (by rfl)
    have e3:=hO 3 (by rfl)
    simp [Act.eval] at e0 e3
    simp [au,aj,ak,Act.eval,Region.binds] at hD
    simp [go_sem,gd,Oper.wp,e0,e3,hD]
    exact ay.mk (Below.refl _ _) hC (aj.mk _ _)
   apply aM.step
   case aB=>
    intro β A w' hβ hC hO hD
    have e0:=hO 0 (by rfl)
    have e3:=hO 3 (by rfl)
    simp [Act.eval] at e0 e3
    simp [au,aj,ak,Act.eval,Region.binds] at hD
    simp [go_sem,gd,Oper.wp,e0,e3,hD,L5,L6,L7,L8,hC]
    exact ay.mk (Below.refl _ _) hC (aj.mk _ _)
   apply aM.step
   case aB=>
    intro β A w' hβ hC hO hD
    simp [au,aj,ak,Act.eval,Region.binds] at hD
    obtain ⟨d14,d16,-⟩:=hD
    simp [go_sem,gd,Oper.wp,d14,d16]
    refine (oJ p w' aH aI aC aD _ aX _ aQ bs bt bc h.bD h.xn h.bC h.aL bS bf hi (HP.out.same hC) hxk (sP.out.same hC) (ig.out.same hC) (HK.out _ hC)).mono ?_
    rintro e' w2 ⟨rfl,hb⟩
    exact ay.mk hb (hC.trans (hb.mono hC.size)) (aj.mk _ _)
   refine aM.some (fun v w'=> ∃b,v= .slice (some ⟨b,0,none⟩) 2 2∧dI w' w'.heap.size [bg (mean p i h.nm) [1,2],kP p i h.bD h.xn h.bC h.aL] (some ⟨b,0,none⟩) 0) ?_ ?_ ?_
   ·rintro v w w' hle ⟨b,rfl,hin⟩
    exact ⟨b,rfl,hin.same hle⟩
   ·intro β A w' hβ hC hO hD
    simp [au,aj,ak,Act.eval,Region.binds] at hD
    simp [go_sem,gd,Oper.wp,hD]
    exact ay.mk (d:=_) (v:= .slice (some ⟨_,0,none⟩) 2 2) (ah _ _) (hC.trans ((ah _ _).mono hC.size)) ⟨_,rfl,dU _ _ _ _⟩
   apply aM.step
   case aB=>
    intro β A w' hβ hC hO hD
    simp [au,aj,ak,Act.eval,Region.binds] at hD
    obtain ⟨⟨b18,d18,YR⟩,-⟩:=hD
    simp [go_sem,gd,Oper.wp,d18]
    refine (cB [bg (mean p i h.nm) [1,2],kP p i h.bD h.xn h.bC h.aL] w' _ _ (by simp [maxLen]) YR).mono ?_
    rintro e' w2 ⟨rfl,rfl⟩
    exact ay.mk (Below.refl _ _) hC (aj.mk _ _)
   apply aM.step
   case aB=>
    intro β A w' hβ hC hO hD
    have e0:=hO 0 (by rfl)
    have e3:=hO 3 (by rfl)
    simp [Act.eval] at e0 e3
    simp [au,aj,ak,Act.eval,Region.binds] at hD
    simp [go_sem,gd,Oper.wp,e0,e3,hD]
    exact ay.mk (Below.refl _ _) hC (aj.mk _ _)
   intro wz dP
   intro v0 h0 v1 h1 v2 h2 v3 h3 v4 h4 v5 h5 v6 h6 v7 h7 v8 h8 v9 h9 v10 h10 v11 h11
   have Ql:v11=_:=h11
   subst Ql
   clear h0 h1 h2 h3 h4 h5 h6 h7 h8 h9 h10 h11
   refine dG.nil ?_
   go_wp2_with fail
   go_ret
   exact ⟨bU HF.out.symm,(HX.out.next dP).1⟩
 | cons op' n' nm' eD rest=>
   have hrow:=HAI.out
   rw [hix] at hrow
   have HF:Hid (res=eP [bg (mean p i h.nm) [3],kP p i op' n' nm' eD,kP p i h.bD h.xn h.bC h.aL]):=Lib.hid (HE.out.trans ((if_neg (by rw [hix,decide_eq_true_iff]; simp only [aP.len]; omega)).trans (by rw [hix]; rfl)))
   have hpos:0 < h.idx.len:=by rw [hix]; simp [aP.len]
   have hpos':(0:Int) < h.idx.len:=by omega
   have hne0:((h.idx.len:Int) == 0)=false:=by rw [beq_eq_false_iff_ne]; omega
   obtain ⟨⟨b',off',gQ,cap',rfl,vN,x0,x1,x2,x3,hok',og⟩,-⟩:=hrow
   simp only [Nat.zero_mul,Nat.add_zero] at x0 x1 x2 x3
   have M0: ∀w',Below W.heap.size W w'→w'.cell? ⟨b',off',none⟩=some (.int .i64 op'):=fun w' hb=>(hb.cell (p:=⟨b',off',none⟩) vN).trans x0
   have M1: ∀w',Below W.heap.size W w'→w'.cell? ⟨b',off' + 1,none⟩=some (.int .i64 n'):=fun w' hb=>(hb.cell (p:=⟨b',off' + 1,none⟩) vN).trans x1
   have M2: ∀w',Below W.heap.size W w'→w'.cell? ⟨b',off' + 2,none⟩=some (.string nm'):=fun w' hb=>(hb.cell (p:=⟨b',off' + 2,none⟩) vN).trans x2
   have M3: ∀w',Below W.heap.size W w'→w'.cell? ⟨b',off' + 3,none⟩=some (.slice gQ eD.len cap'):=fun w' hb=>(hb.cell (p:=⟨b',off' + 3,none⟩) vN).trans x3
   have HAK:=Lib.hid og
   clear HE hix x0 x1 x2 x3 og
   go_upto_region 3 with fail
   refine mF (fun w'=>Below W.heap.size W w') (fun w w'=>Below w.heap.size w w') [20,21,22,23,24,25,26,27,28,29,30,31,32,33,34,35,36,4] (by kernel_rfl) (by kernel_rfl) (fun _=>Below.refl _ _) (by rfl) (below_drewN (Below.refl _ _) 1) ?_
   apply aM.step
   case aB=>
    intro β A w' hβ hC hO hD
    have e0:=hO 0 (by rfl)
    have e3:=hO 3 (by rfl)
    simp [Act.eval] at e0 e3
    simp [au,aj,ak,Act.eval,Region.binds] at hD
    simp [go_sem,gd,Oper.wp,e0,e3,hD]
    exact ay.mk (Below.refl _ _) hC (aj.mk _ _)
   apply aM.step
   case aB=>
    intro β A w' hβ hC hO hD
    have e0:=hO 0 (by rfl)
    have e3:=hO 3 (by rfl)
    simp [Act.eval] at e0 e3
    simp [au,aj,ak,Act.eval,Region.binds] at hD
    simp [go_sem,gd,Oper.wp,e0,e3,hD]
    exact ay.mk (Below.refl _ _) hC (aj.mk _ _)
   apply aM.step
   case aB=>
    intro β A w' hβ hC hO hD
    have e0:=hO 0 (by rfl)
    have e3:=hO 3 (by rfl)
    simp [Act.eval] at e0 e3
    simp [au,aj,ak,Act.eval,Region.binds] at hD
    simp [go_sem,gd,Oper.wp,e0,e3,hD,L2,hC]
    exact ay.mk (Below.refl _ _) hC (aj.mk _ _)
   refine aM.some (fun v w'=> ∃b,v= .slice (some ⟨b,0,none⟩) 1 1∧dI w' w'.heap.size [3] (some ⟨b,0,none⟩) 0) ?_ ?_ ?_
   ·rintro v w w' hle ⟨b,rfl,hin⟩
    exact ⟨b,rfl,hin.same hle⟩
   ·intro β A w' hβ hC hO hD
    simp [go_sem,gd,Oper.wp]
    exact ay.mk (d:=_) (v:= .slice (some ⟨_,0,none⟩) 1 1) (ah _ _) (hC.trans ((ah _ _).mono hC.size)) ⟨_,rfl,dX _ 3 _⟩
   apply aM.step
   case aB=>
    intro β A w' hβ hC hO hD
    simp [au,aj,ak,Act.eval,Region.binds] at hD
    obtain ⟨d20,d22,b23,d23,YS⟩:=hD
    simp [go_sem,gd,Oper.wp,d20,d22,d23]
    refine (gH p w' aH aI aC aD _ aX _ aQ bs bt bc h.nm [3] _ 1 hi (by decide) (HP.out.same hC) YS (HK.out _ hC)).mono ?_
    rintro e' w2 ⟨rfl,hb⟩
    exact ay.mk hb (hC.trans (hb.mono hC.size)) (aj.mk _ _)
   apply aM.step
   case aB=>
    intro β A w' hβ hC hO hD
    have e0:=hO 0 (by rfl)
    have e3:=hO 3 (by rfl)
    simp [Act.eval] at e0 e3
    simp [au,aj,ak,Act.eval,Region.binds] at hD
    simp [go_sem,gd,Oper.wp,e0,e3,hD]
    exact ay.mk (Below.refl _ _) hC (aj.mk _ _)
   apply aM.step
   case aB=>
    intro β A w' hβ hC hO hD
    have e0:=hO 0 (by rfl)
    have e3:=hO 3 (by rfl)
    simp [Act.eval] at e0 e3
    simp [au,aj,ak,Act.eval,Region.binds] at hD
    simp [go_sem,gd,Oper.wp,e0,e3,hD]
    exact ay.mk (Below.refl _ _) hC (aj.mk _ _)
   apply aM.step
   case aB=>
    intro β A w' hβ hC hO hD
    have e0:=hO 0 (by rfl)
    have e3:=hO 3 (by rfl)
    simp [Act.eval] at e0 e3
    simp [au,aj,ak,Act.eval,Region.binds] at hD
    simp [go_sem,gd,Oper.wp,e0,e3,hD,L4,hC]
    exact ay.mk (Below.refl _ _) hC (aj.mk _ _)
   apply aM.step
   case aB=>
    intro β A w' hβ hC hO hD
    have e0:=hO 0 (by rfl)
    have e3:=hO 3 (by rfl)
    simp [Act.eval] at e0 e3
    simp [au,aj,ak,Act.eval,Region.binds] at hD
    simp [go_sem,gd,Oper.wp,e0,e3,hD,hpos,hpos']
    exact ay.mk (Below.refl _ _) hC (aj.mk _ _)
   apply aM.step
   case aB=>
    intro β A w' hβ hC hO hD
    have e0:=hO 0 (by rfl)
    have e3:=hO 3 (by rfl)
    simp [Act.eval] at e0 e3
    simp [au,aj,ak,Act.eval,Region.binds] at hD
    simp [go_sem,gd,Oper.wp,e0,e3,hD,M0,M1,M2,M3,hC]
    exact ay.mk (Below.refl _ _) hC (aj.mk _ _)
   apply aM.step
   case aB=>
    intro β A w' hβ hC hO hD
    simp [au,aj,ak,Act.eval,Region.binds] at hD
    obtain ⟨d25,d29,-⟩:=hD
    simp [go_sem,gd,Oper.wp,d25,d29]
    refine (oJ p w' aH aI aC aD _ aX _ aQ bs bt bc op' n' nm' eD gQ cap' hi (HP.out.same hC) hok' (HAK.out.same hC) (ig.out.same hC) (HK.out _ hC)).mono ?_
    rintro e' w2 ⟨rfl,hb⟩
    exact ay.mk hb (hC.trans (hb.mono hC.size)) (aj.mk _ _)
   apply aM.step
   case aB=>
    intro β A w' hβ hC hO hD
    have e0:=hO 0 (by rfl)
    have e3:=hO 3 (by rfl)
    simp [Act.eval] at e0 e3
    simp [au,aj,ak,Act.eval,Region.binds] at hD
    simp [go_sem,gd,Oper.wp,e0,e3,hD]
    exact ay.mk (Below.refl _ _) hC (aj.mk _ _)
   apply aM.step
   case aB=>
    intro β A w' hβ hC hO hD
    have e0:=hO 0 (by rfl)
    have e3:=hO 3 (by rfl)
    simp [Act.eval] at e0 e3
    simp [au,aj,ak,Act.eval,Region.binds] at hD
    simp [go_sem,gd,Oper.wp,e0,e3,hD]
    exact ay.mk (Below.refl _ _) hC (aj.mk _ _)
   apply aM.step
   case aB=>
    intro β A w' hβ hC hO hD
    have e0:=hO 0 (by rfl)
    have e3:=hO 3 (by rfl)
    simp [Act.eval] at e0 e3
    simp [au,aj,ak,Act.eval,Region.binds] at hD
    simp [go_sem,gd,Oper.wp,e0,e3,hD,L5,L6,L7,L8,hC]
    exact ay.mk (Below.refl _ _) hC (aj.mk _ _)
   apply aM.step
   case aB=>
    intro β A w' hβ hC hO hD
    simp [au,aj,ak,Act.eval,Region.binds] at hD
    obtain ⟨d31,d33,-⟩:=hD
    simp [go_sem,gd,Oper.wp,d31,d33]
    refine (oJ p w' aH aI aC aD _ aX _ aQ bs bt bc h.bD h.xn h.bC h.aL bS bf hi (HP.out.same hC) hxk (sP.out.same hC) (ig.out.same hC) (HK.out _ hC)).mono ?_
    rintro e' w2 ⟨rfl,hb⟩
    exact ay.mk hb (hC.trans (hb.mono hC.size)) (aj.mk _ _)
   refine aM.some (fun v w'=> ∃b,v= .slice (some ⟨b,0,none⟩) 3 3∧dI w' w'.heap.size [bg (mean p i h.nm) [3],kP p i op' n' nm' eD,kP p i h.bD h.xn h.bC h.aL] (some ⟨b,0,none⟩) 0) ?_ ?_ ?_
   ·rintro v w w' hle ⟨b,rfl,hin⟩
    exact ⟨b,rfl,hin.same hle⟩
   ·intro β A w' hβ hC hO hD
    simp [au,aj,ak,Act.eval,Region.binds] at hD
    simp [go_sem,gd,Oper.wp,hD]
    exact ay.mk (d:=_) (v:= .slice (some ⟨_,0,none⟩) 3 3) (ah _ _) (hC.trans ((ah _ _).mono hC.size)) ⟨_,rfl,lS _ _ _ _ _⟩
   apply aM.step
   case aB=>
    intro β A w' hβ hC hO hD
    simp [au,aj,ak,Act.eval,Region.binds] at hD
    obtain ⟨⟨b35,d35,YO⟩,-⟩:=hD
    simp [go_sem,gd,Oper.wp,d35]
    refine (cB [bg (mean p i h.nm) [3],kP p i op' n' nm' eD,kP p i h.bD h.xn h.bC h.aL] w' _ _ (by simp [maxLen]) YO).mono ?_
    rintro e' w2 ⟨rfl,rfl⟩
    exact ay.mk (Below.refl _ _) hC (aj.mk _ _)
   apply aM.step
   case aB=>
    intro β A w' hβ hC hO hD
    have e0:=hO 0 (by rfl)
    have e3:=hO 3 (by rfl)
    simp [Act.eval] at e0 e3
    simp [au,aj,ak,Act.eval,Region.binds] at hD
    simp [go_sem,gd,Oper.wp,e0,e3,hD]
    exact ay.mk (Below.refl _ _) hC (aj.mk _ _)
   intro wz dP
   intro v0 h0 v1 h1 v2 h2 v3 h3 v4 h4 v5 h5 v6 h6 v7 h7 v8 h8 v9 h9 v10 h10 v11 h11 v12 h12 v13 mM v14 nW v15 oO v16 h16 v17 qx
   have ae0:v17=_:=qx
   subst ae0
   clear h0 h1 h2 h3 h4 h5 h6 h7 h8 h9 h10 h11 h12 mM nW oO h16 qx
   refine dG.nil ?_
   go_wp2_with fail
   go_ret
   exact ⟨bU HF.out.symm,(HX.out.next dP).1⟩
end
end Go.Proofs.YtehnipchbmjlhaaGreatDoor
end
section
namespace Go.Proofs.YtehnipchbmjlhaaGreatDoor
open Go.RowKit
open Md
def ow (f:List UInt8→Bool) (l:List UInt8):List UInt8→Bool:=fun x=>if x=l then true else f x
def jJ (b:Bool):Int:=if b then 8 else 0
def Qi (nm:ByteArray) (w:World) (bs n:Nat) (f:List UInt8→Bool) (e:Ending) (w':World):Prop:=
 e= .returned (.int .i64 (jJ (f nm.toList)))∧gP w' bs (n + 1) (ow f nm.toList)∧w.grownBy w' (some bs)
theorem yH (nm:ByteArray) (w:World) (bs n:Nat) (f:List UInt8→Bool) (hn:n < maxLen) (hs:nm.size≤maxLen) (hm:gP w bs n f):
 Calls Tryz.prog 150 #[.map (some bs),.string nm] w (Qi nm w bs n f):=by
 have HM:=Lib.hid hm
 have hlk:=hm.look nm hs
 clear hm
 cases hf:f nm.toList
 ·obtain ⟨w4,hup,wF,hg4⟩:=HM.out.put hn nm hs true
  have oN:=Lib.hid wF
  have HG:=Lib.hid hg4
  clear wF hg4 hn hs
  go_enter Tryz.func150,Tryz.ntmps150
  go_wp2_with fail
  go_ret
  exact ⟨by rw [hf]; rfl,oN.out,HG.out⟩
 ·have oN:Hid (gP w bs (n + 1) (ow f nm.toList)):=Lib.hid (by
   obtain ⟨D,h1,h2⟩:=HM.out
   refine ⟨D,h1.mono (by omega),fun l=> ?_⟩
   rw [h2]; unfold ow; by_cases h:l=nm.toList
   ·rw [if_pos h,h,hf]
   ·rw [if_neg h])
  clear hn hs
  go_enter Tryz.func150,Tryz.ntmps150
  go_wp2_with fail
  go_ret
  exact ⟨by rw [hf]; rfl,oN.out,⟨rfl,rfl,rfl,Nat.le_refl _,fun _ _ _=>rfl⟩⟩
end Go.Proofs.YtehnipchbmjlhaaGreatDoor
end
