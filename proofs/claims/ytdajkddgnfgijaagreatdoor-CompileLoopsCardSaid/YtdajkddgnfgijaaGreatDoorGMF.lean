/-
  Contracts of check.first, nesting, and of the checker's kind, expr, own, mutexOf.
  Contracts of the checker's inside, insideNamed.
  Contract of the checker's assignment.
  Contract of check.once.
-/
import Derived.Test.YtdajkddgnfgijaaGreatDoorGMC
import Derived.Test.YtdajkddgnfgijaaGreatDoorGME
import Derived.Test.YtdajkddgnfgijaaGreatDoorGMB
section
namespace Go.Proofs.YtdajkddgnfgijaaGreatDoor
open Go.RowKit
namespace Md
def eP:List Int→Int
 | []=>0
 | a ::r=>if a != 0 then a else eP r
def nest (b:Bool):Int:=if b then 7 else 0
def kS (ds:List De) (nm:ByteArray):ByteArray:=((ds.find? fun d=>d.kind == 5 && d.nm.toList == nm.toList).map (·.on)).getD ⟨#[]⟩
theorem Jy (d:De) (r:List De) (nm:ByteArray):kS (d ::r) nm=if d.kind == 5 && d.nm.toList == nm.toList then d.on else kS r nm:=by
 unfold kS; rw [List.find?_cons]; cases h:(d.kind == 5 && d.nm.toList == nm.toList) <;> simp
end Md
open Md
def gW (bc:Nat) (p:Pr) (aK aM:Option Addr) (aG aH:Nat) (i:Int) (bn:Option Addr) (xX aV bs bt:Nat):List (Nat × Nat × Value):=
 [(bc,0,.slice aK p.ds.length aG),(bc,1,.slice aM p.ts.length aH),(bc,2,.int .i64 i),(bc,3,.slice bn xX aV),(bc,4,.map (some bs)),(bc,5,.map (some bt))]
theorem dD (b:Bool) (w:World):
 Calls Tryz.prog 180 #[.bool b] w fun e w'=>e= .returned (.int .i64 (nest b))∧w=w':=by
 cases b
 all_goals
  go_enter Tryz.func180,Tryz.ntmps180
  go_wp2
  go_ret
  exact ⟨rfl,rfl⟩
theorem dF (l:List Int) (w:World) (ao:Option Addr) (cap:Nat) (hl:l.length≤maxLen) (hat:dP w w.heap.size l ao 0):
 Calls Tryz.prog 178 #[.slice ao l.length cap] w fun e w'=>e= .returned (.int .i64 (eP l))∧w=w':=by
 unfold maxLen at hl
 generalize hres:eP l=res
 have HR:=Lib.hid hres
 clear hres
 go_enter Tryz.func178,Tryz.ntmps178
 go_wp2_with fail
 go_loop [4,7] (fun _ s=> ∃(k:Nat) (R:List Int),s= .int .i64 k∧k + R.length=l.length∧res=eP R∧dP w w.heap.size R ao k) (fun _ s=>l.length - (intOf s).toNat)
 case atStart=>exact ⟨0,l,rfl,by simp,HR.out.symm,hat⟩
 case round=>
  obtain ⟨k,R,rfl,hlen,heq,hrow⟩:=hrel
  have HE:=Lib.hid heq
  clear heq
  cases R with
  | nil=>
    obtain rfl:k=l.length:=by simpa using hlen
    go_wp2_with fail
    go_ret
    exact ⟨bG HE.out.symm,rfl⟩
  | cons a R=>
    obtain ⟨⟨b,off,rfl,hB,y0⟩,hrest⟩:=hrow
    simp only [List.length_cons] at hlen
    have hkl:k < l.length:=by omega
    cases hc:(a != 0)
    ·have eF:=Lib.hid (HE.out.trans (if_neg (by rw [hc]; decide)))
     go_wp2_with fail
     go_round
     case rel=>exact ⟨k + 1,R,by go_num,by omega,eF.out,hrest⟩
     case measure=>simp [intOf]; omega
    ·have eF:=Lib.hid (HE.out.trans (if_pos hc))
     go_wp2_with fail
     go_ret
     exact ⟨bG eF.out.symm,rfl⟩
section
variable (p:Pr) (w:World) (aK aM:Option Addr) (aG aH:Nat) (i:Int) (bn:Option Addr) (xX aV bs bt bc:Nat)
set_option maxHeartbeats 1000000 in
theorem gI (nm:ByteArray) (l:List Int) (ao:Option Addr) (cap:Nat) (hi:dR i) (hl:l.length≤maxLen) (hp:p.At w aK aM) (hw:dP w w.heap.size l ao 0) (hh:Holds w (gW bc p aK aM aG aH i bn xX aV bs bt)):
 Calls Tryz.prog 179 #[.pointer (some ⟨bc,0,none⟩),.string nm,.slice ao l.length cap] w fun e w'=>e= .returned (.int .i64 (bD (mean p i nm) l))∧Below w.heap.size w w':=by
 have HH:=Lib.hid (show Sit w w _ from ⟨Below.refl _ _,hh⟩)
 have HP:=Lib.hid hp
 have HW:=Lib.hid hw
 clear hp hw hh
 go_enter Tryz.func179,Tryz.ntmps179
 go_wp2_with fail
 obtain ⟨T,F,PD,hst,hF,hnext⟩:=calm w
 have HF:=Lib.hid hF
 have jo:=Lib.hid hnext
 clear hnext hF
 have d0:=fun x=>(HH.out.next (HF.out x)).2.1.2
 have d1:=fun x=>(HH.out.next (HF.out x)).2.2.1.2
 have d2:=fun x=>(HH.out.next (HF.out x)).2.2.2.1.2
 have d3:=fun x=>(HH.out.next (HF.out x)).2.2.2.2.1.2
 have d4:=fun x=>(HH.out.next (HF.out x)).2.2.2.2.2.1.2
 have d5:=fun x=>(HH.out.next (HF.out x)).2.2.2.2.2.2.1.2
 refine tO F (by kernel_rfl) (by kernel_rfl) hst ?_
 repeat (any_goals (first | go_big_quiet_step ((go_at_call 208; refine (vF p i nm l _ aK aM ao aG aH cap hi hl (HP.out.same (HF.out _)) (HW.out.same (HF.out _))).mono ?_; rintro e w' ⟨rfl,hb⟩; exact ⟨rfl,jo.out _ _ hb⟩)) | (refine wpQuiet_step (fun K hK=> ?_); go_simp; first | (refine hK _ ?_; clear hK K) | (split <;> first | (refine hK _ ?_; clear hK K) | (apply Exists.intro; refine ⟨fun _=> ?_,hK _ ?_⟩; ((go_at_call 208; refine (vF p i nm l _ aK aM ao aG aH cap hi hl (HP.out.same (HF.out _)) (HW.out.same (HF.out _))).mono ?_; rintro e w' ⟨rfl,hb⟩; exact ⟨rfl,jo.out _ _ hb⟩)); clear hK K)))))
 all_goals (refine wpQuiet_nil ?_; rintro _ ⟨x,rfl⟩)
 go_wp2_with fail
 go_ret
 exact ⟨rfl,HF.out x⟩
set_option maxHeartbeats 1000000 in
theorem pY (op n:Int) (nm:ByteArray) (kids:bL) (ao:Option Addr) (cap:Nat) (hi:dR i) (hp:p.At w aK aM) (hok:uK op n nm kids) (hat:kids.At w w.heap.size ao 0) (dI:dw w) (hh:Holds w (gW bc p aK aM aG aH i bn xX aV bs bt)):
 Calls Tryz.prog 177 #[.pointer (some ⟨bc,0,none⟩),.agg #[.int .i64 op,.int .i64 n,.string nm,.slice ao kids.len cap]] w fun e w'=>e= .returned (.int .i64 (kU p i op n nm kids))∧Below w.heap.size w w':=by
 have HH:=Lib.hid (show Sit w w _ from ⟨Below.refl _ _,hh⟩)
 have HP:=Lib.hid hp
 have HAT:=Lib.hid hat
 have gU:=Lib.hid dI
 clear hp hat hh dI
 go_enter Tryz.func177,Tryz.ntmps177
 go_upto_region 1 with fail
 generalize hW:World.alloc w _=W
 generalize Value.agg #[_,_,_,_]=a0
 have HX:=Lib.hid (HH.out.CK rfl (.int .i64 op) (.int .i64 n) (.string nm) (.slice ao kids.len cap) 129)
 rw [hW] at HX
 clear hW
 obtain ⟨T,F,PD,hst,hF,hnext⟩:=calm W
 have HF:=Lib.hid hF
 have jo:=Lib.hid hnext
 clear hnext hF
 have d0:=fun x=>(HX.out.next (HF.out x)).2.1.2
 have d1:=fun x=>(HX.out.next (HF.out x)).2.2.1.2
 have d2:=fun x=>(HX.out.next (HF.out x)).2.2.2.1.2
 have d3:=fun x=>(HX.out.next (HF.out x)).2.2.2.2.1.2
 have d4:=fun x=>(HX.out.next (HF.out x)).2.2.2.2.2.1.2
 have d5:=fun x=>(HX.out.next (HF.out x)).2.2.2.2.2.2.1.2
 have d6:=fun x=>(HX.out.next (HF.out x)).2.2.2.2.2.2.2.1.2
 have d7:=fun x=>(HX.out.next (HF.out x)).2.2.2.2.2.2.2.2.1.2
 have d8:=fun x=>(HX.out.next (HF.out x)).2.2.2.2.2.2.2.2.2.1.2
 have d9:=fun x=>(HX.out.next (HF.out x)).2.2.2.2.2.2.2.2.2.2.1.2
 refine tO F (by kernel_rfl) (by kernel_rfl) hst ?_
 repeat (any_goals (first | go_big_quiet_step ((go_at_call 207; refine (zR p i op n nm kids _ aK aM ao aG aH cap hi ((HP.out.same HX.out.1).same (HF.out _)) hok ((HAT.out.same HX.out.1).same (HF.out _)) ((gU.out.same HX.out.1).same (HF.out _))).mono ?_; rintro e w' ⟨rfl,hb⟩; exact ⟨rfl,jo.out _ _ hb⟩)) | (refine wpQuiet_step (fun K hK=> ?_); go_simp; first | (refine hK _ ?_; clear hK K) | (split <;> first | (refine hK _ ?_; clear hK K) | (apply Exists.intro; refine ⟨fun _=> ?_,hK _ ?_⟩; ((go_at_call 207; refine (zR p i op n nm kids _ aK aM ao aG aH cap hi ((HP.out.same HX.out.1).same (HF.out _)) hok ((HAT.out.same HX.out.1).same (HF.out _)) ((gU.out.same HX.out.1).same (HF.out _))).mono ?_; rintro e w' ⟨rfl,hb⟩; exact ⟨rfl,jo.out _ _ hb⟩)); clear hK K)))))
 all_goals (refine wpQuiet_nil ?_; rintro _ ⟨x,rfl⟩)
 go_wp2_with fail
 go_ret
 exact ⟨rfl,(HX.out.next (HF.out x)).1⟩
set_option maxHeartbeats 1000000 in
theorem Ad (j:Nat) (t:Th) (r:List Th) (hd:p.ts.drop j=t ::r) (hp:p.At w aK aM) (hh:Holds w (gW bc p aK aM aG aH (j:Int) bn xX aV bs bt)):
 Calls Tryz.prog 184 #[.pointer (some ⟨bc,0,none⟩)] w fun e w'=>e= .returned (.string t.nm)∧Below w.heap.size w w':=by
 have HH:=Lib.hid (show Sit w w _ from ⟨Below.refl _ _,hh⟩)
 have hj:j < p.ts.length:=by
  have:=congrArg List.length hd; simp at this; omega
 have hth:=hp.2.2.2.drop j
 rw [hd,Nat.zero_add] at hth
 obtain ⟨⟨b,off,fF,dW,bV,bC,rfl,hB,x0,-⟩,-⟩:=hth
 clear hp hd hh
 obtain ⟨-,⟨-,c0⟩,⟨-,c1⟩,⟨-,c2⟩,⟨-,c3⟩,⟨-,c4⟩,⟨-,c5⟩,-⟩:=HH.out
 have hj0:(0:Int)≤j:=by omega
 have hj1:(j:Int) < p.ts.length:=by omega
 go_enter Tryz.func184,Tryz.ntmps184
 go_wp2_with fail
 go_quiet (fail)
 go_wp2_with fail
 go_ret
 exact ⟨rfl,below_drewN (Below.refl _ _) _⟩
set_option maxHeartbeats 1000000 in
theorem uR (nm:ByteArray) (hp:p.At w aK aM) (hh:Holds w (gW bc p aK aM aG aH i bn xX aV bs bt)):
 Calls Tryz.prog 183 #[.pointer (some ⟨bc,0,none⟩),.string nm] w fun e w'=>e= .returned (.string (kS p.ds nm))∧Below w.heap.size w w':=by
 have HH:=Lib.hid (show Sit w w _ from ⟨Below.refl _ _,hh⟩)
 have HP:=Lib.hid hp
 have hld:=hp.1
 unfold maxLen at hld
 generalize hres:kS p.ds nm=res
 have HR:=Lib.hid hres
 clear hp hh hres
 obtain ⟨-,⟨-,c0⟩,⟨-,c1⟩,⟨-,c2⟩,⟨-,c3⟩,⟨-,c4⟩,⟨-,c5⟩,-⟩:=HH.out
 go_enter Tryz.func183,Tryz.ntmps183
 go_wp2_with fail
 go_loopw [6,13] (fun _ s wr=> ∃(k:Nat) (R:List De),s= .int .i64 k∧k + R.length=p.ds.length∧res=kS R nm∧ig wr wr.heap.size R aK k∧Below w.heap.size w wr) (fun _ s _=>p.ds.length - (intOf s).toNat)
 case atStart=>exact ⟨0,p.ds,rfl,by simp,HR.out.symm,HP.out.2.2.1,Below.refl _ _⟩
 case round=>
  obtain ⟨k,R,rfl,hlen,heq,hrow,hB⟩:=hrel
  have HE:=Lib.hid heq
  have HB:=Lib.hid hB
  clear heq hB c0 c1 c2 c3 c4 c5
  cases R with
  | nil=>
    obtain rfl:k=p.ds.length:=by simpa using hlen
    go_wp2_with fail
    go_ret
    exact ⟨by rw [HE.out]; rfl,HB.out⟩
  | cons d R=>
    obtain ⟨⟨b,off,rfl,hB,x0,x1,x2,x3,x4,x5,hok⟩,hrest⟩:=hrow
    simp only [List.length_cons] at hlen
    have hkl:k < p.ds.length:=by omega
    rw [Jy] at HE
    have HB2:=Lib.hid (HB.out.trans ((aj wr (.cells #[.int .i64 d.kind,.int .i64 d.line,.string d.nm,.int .i64 d.size,.int .i64 d.init,.string d.on] 75)).mono HB.out.size))
    clear hok
    cases h5:(d.kind == 5)
    ·have eF:=Lib.hid (HE.out.trans (if_neg (by rw [h5]; simp)))
     go_wp2_with fail
     go_roundw
     case rel=>exact ⟨k + 1,R,by go_num,by omega,eF.out,hrest.same (aj _ _),HB2.out⟩
     case measure=>simp [intOf]; omega
    ·cases hc:(d.nm.toList == nm.toList)
     ·have eF:=Lib.hid (HE.out.trans (if_neg (by rw [h5,hc]; decide)))
      go_wp2_with fail
      go_roundw
      case rel=>exact ⟨k + 1,R,by go_num,by omega,eF.out,hrest.same (aj _ _),HB2.out⟩
      case measure=>simp [intOf]; omega
     ·have eF:=Lib.hid (HE.out.trans (if_pos (by rw [h5,hc]; rfl)))
      go_wp2_with fail
      go_ret
      exact ⟨by rw [eF.out]; rfl,HB2.out⟩
end
end Go.Proofs.YtdajkddgnfgijaaGreatDoor
end
section
namespace Go.Proofs.YtdajkddgnfgijaaGreatDoor
open Go.RowKit
namespace Md
def eO:aP→List Int→Bool
 | .nil,_=>false
 | .cons h _ _ r,l=>(l.any fun k=>h.op == k) || eO r l
def lu:aP→ByteArray→List Int→Bool
 | .nil,_,_=>false
 | .cons h _ _ r,nm,l=>(l.any fun k=>h.op == k && h.nm.toList == nm.toList) || lu r nm l
end Md
open Md
section
variable (p:Pr) (w:World) (aK aM:Option Addr) (aG aH:Nat) (i:Int) (bn:Option Addr) (aV bs bt bc:Nat)
set_option maxHeartbeats 2000000 in
set_option maxRecDepth 100000 in
theorem eZ (ar:aP) (l:List Int) (ao:Option Addr) (cap:Nat) (hl:l.length≤maxLen) (hw:dP w w.heap.size l ao 0) (har:ar.len≤maxLen) (hat:ar.At w w.heap.size bn 0) (hh:Holds w (gW bc p aK aM aG aH i bn ar.len aV bs bt)):
 Calls Tryz.prog 181 #[.pointer (some ⟨bc,0,none⟩),.slice ao l.length cap] w fun e w'=>e= .returned (.bool (eO ar l))∧Below w.heap.size w w':=by
 have HH:=Lib.hid (show Sit w w _ from ⟨Below.refl _ _,hh⟩)
 have HW:=Lib.hid hw
 have HAT:=Lib.hid hat
 generalize hres:eO ar l=res
 have HR:=Lib.hid hres
 unfold maxLen at hl har
 clear hh hw hat hres
 obtain ⟨-,⟨-,c0⟩,⟨-,c1⟩,⟨-,c2⟩,⟨-,c3⟩,⟨-,c4⟩,⟨-,c5⟩,-⟩:=HH.out
 go_enter Tryz.func181,Tryz.ntmps181
 go_wp2_with fail
 go_loopw [6,8,14,18,19,20] (fun _ _ s _ _ _ wr=> ∃(k:Nat) (R:aP),s= .int .i64 k∧k + R.len=ar.len∧res=eO R l∧R.At wr wr.heap.size bn k∧Below w.heap.size w wr) (fun _ _ s _ _ _ _=>ar.len - (intOf s).toNat)
 case atStart=>exact ⟨0,ar,rfl,by simp,HR.out.symm,HAT.out,Below.refl _ _⟩
 case round=>
  obtain ⟨k,R,rfl,hlen,heq,hrow,hB⟩:=hrel
  have HE:=Lib.hid heq
  have HB:=Lib.hid hB
  clear heq hB c0 c1 c2 c3 c4 c5
  cases R with
  | nil=>
    obtain rfl:k=ar.len:=by simpa [aP.len] using hlen
    go_wp2_with fail
    go_ret
    exact ⟨dL HE.out.symm,HB.out⟩
  | cons h b e R=>
    obtain ⟨bl,off,s,rfl,hbl,hin,x0,x1,x2,x3,x4,x5,x6,x7,x8,x9,x10,hrest⟩:=aP.At.head hrow
    have hkl:k < ar.len:=by simp only [aP.len] at hlen; omega
    clear hrow hin
    go_upto_region 4 with fail
    obtain ⟨nb,hnb⟩: ∃n,wr.heap.size=n:=⟨_,rfl⟩
    generalize hW2:World.alloc wr _=W2
    have HY:Hid (Sit wr W2 (ow nb h b e s [])):=Lib.hid (by rw [← hW2]; exact (Sit.start wr).lU hnb _ _ _ _ _ _ _ _ _ _ _ _)
    have HB2:=Lib.hid (HB.out.trans (HY.out.1.mono HB.out.size))
    have jc:=Lib.hid (hrest.same HY.out.1)
    have Dv:=HW.out.same HB2.out
    rw [hnb]
    clear hW2 hnb x0 x1 x2 x3 x4 x5 x6 x7 x8 x9 x10 hrest
    obtain ⟨-,⟨-,c0⟩,⟨-,c1⟩,⟨-,c2⟩,⟨-,c3⟩,⟨-,c4⟩,⟨-,c5⟩,⟨-,c6⟩,⟨-,c7⟩,⟨-,c8⟩,⟨-,c9⟩,⟨-,c10⟩,-⟩:=HY.out
    clear c1 c2 c3 c4 c5 c6 c7 c8 c9 c10
    go_wp2_with fail
    go_loop [8,20] (fun _ s'=> ∃(k':Nat) (Q:List Int),s'= .int .i64 k'∧k' + Q.length=l.length∧(l.any fun k=>h.op == k)=(Q.any fun k=>h.op == k)∧dP W2 W2.heap.size Q ao k') (fun _ s'=>l.length - (intOf s').toNat)
    case atStart=>exact ⟨0,l,rfl,by simp,rfl,Dv⟩
    case round=>
     obtain ⟨k',Q,rfl,hlen',heq',hrow'⟩:=hrel
     have HQ:=Lib.hid heq'
     clear heq' Dv
     cases Q with
     | nil=>
       obtain rfl:k'=l.length:=by simpa using hlen'
       have HF:Hid (res=eO R l):=Lib.hid (HE.out.trans (by rw [eO,HQ.out]; rfl))
       go_wp2_with fail
       go_roundw
       case rel=>exact ⟨k + 1,R,by go_num,by simp only [aP.len] at hlen; omega,HF.out,jc.out,HB2.out⟩
       case measure=>simp [intOf]; omega
     | cons q Q=>
       obtain ⟨⟨b2,off2,rfl,hB2,z0⟩,hrest'⟩:=hrow'
       simp only [List.length_cons] at hlen'
       have hkl':k' < l.length:=by omega
       have xK:Hid ((l.any fun k=>h.op == k)=((h.op == q) || (Q.any fun k=>h.op == k))):=Lib.hid (HQ.out.trans (by simp))
       cases hc:(h.op == q)
       ·have HF:=Lib.hid (xK.out.trans (by rw [hc]; rfl:_=(Q.any fun k=>h.op == k)))
        go_wp2_with fail
        go_round
        case rel=>exact ⟨k' + 1,Q,by go_num,by omega,HF.out,hrest'⟩
        case measure=>simp [intOf]; omega
       ·have HF:Hid (res=true):=Lib.hid (HE.out.trans (by rw [eO,xK.out,hc]; rfl))
        go_wp2_with fail
        go_ret
        exact ⟨dL HF.out.symm,HB2.out⟩
set_option maxHeartbeats 2000000 in
set_option maxRecDepth 100000 in
theorem jv (ar:aP) (nm:ByteArray) (l:List Int) (ao:Option Addr) (cap:Nat) (hl:l.length≤maxLen) (hw:dP w w.heap.size l ao 0) (har:ar.len≤maxLen) (hat:ar.At w w.heap.size bn 0) (hh:Holds w (gW bc p aK aM aG aH i bn ar.len aV bs bt)):
 Calls Tryz.prog 182 #[.pointer (some ⟨bc,0,none⟩),.string nm,.slice ao l.length cap] w fun e w'=>e= .returned (.bool (lu ar nm l))∧Below w.heap.size w w':=by
 have HH:=Lib.hid (show Sit w w _ from ⟨Below.refl _ _,hh⟩)
 have HW:=Lib.hid hw
 have HAT:=Lib.hid hat
 generalize hres:lu ar nm l=res
 have HR:=Lib.hid hres
 unfold maxLen at hl har
 clear hh hw hat hres
 obtain ⟨-,⟨-,c0⟩,⟨-,c1⟩,⟨-,c2⟩,⟨-,c3⟩,⟨-,c4⟩,⟨-,c5⟩,-⟩:=HH.out
 go_enter Tryz.func182,Tryz.ntmps182
 go_wp2_with fail
 go_loopw [8,10,16,20,21,22] (fun _ _ s _ _ _ wr=> ∃(k:Nat) (R:aP),s= .int .i64 k∧k + R.len=ar.len∧res=lu R nm l∧R.At wr wr.heap.size bn k∧Below w.heap.size w wr) (fun _ _ s _ _ _ _=>ar.len - (intOf s).toNat)
 case atStart=>exact ⟨0,ar,rfl,by simp,HR.out.symm,HAT.out,Below.refl _ _⟩
 case round=>
  obtain ⟨k,R,rfl,hlen,heq,hrow,hB⟩:=hrel
  have HE:=Lib.hid heq
  have HB:=Lib.hid hB
  clear heq hB c0 c1 c2 c3 c4 c5
  cases R with
  | nil=>
    obtain rfl:k=ar.len:=by simpa [aP.len] using hlen
    go_wp2_with fail
    go_ret
    exact ⟨dL HE.out.symm,HB.out⟩
  | cons h b e R=>
    obtain ⟨bl,off,s,rfl,hbl,hin,x0,x1,x2,x3,x4,x5,x6,x7,x8,x9,x10,hrest⟩:=aP.At.head hrow
    have hkl:k < ar.len:=by simp only [aP.len] at hlen; omega
    clear hrow hin
    go_upto_region 4 with fail
    obtain ⟨nb,hnb⟩: ∃n,wr.heap.size=n:=⟨_,rfl⟩
    generalize hW2:World.alloc wr _=W2
    have HY:Hid (Sit wr W2 (ow nb h b e s [])):=Lib.hid (by rw [← hW2]; exact (Sit.start wr).lU hnb _ _ _ _ _ _ _ _ _ _ _ _)
    have HB2:=Lib.hid (HB.out.trans (HY.out.1.mono HB.out.size))
    have jc:=Lib.hid (hrest.same HY.out.1)
    have Dv:=HW.out.same HB2.out
    rw [hnb]
    clear hW2 hnb x0 x1 x2 x3 x4 x5 x6 x7 x8 x9 x10 hrest
    obtain ⟨-,⟨-,c0⟩,⟨-,c1⟩,⟨-,c2⟩,⟨-,c3⟩,⟨-,c4⟩,⟨-,c5⟩,⟨-,c6⟩,⟨-,c7⟩,⟨-,c8⟩,⟨-,c9⟩,⟨-,c10⟩,-⟩:=HY.out
    clear c1 c3 c4 c5 c6 c7 c8 c9 c10
    go_wp2_with fail
    go_loop [10,22] (fun _ s'=> ∃(k':Nat) (Q:List Int),s'= .int .i64 k'∧k' + Q.length=l.length∧(l.any fun k=>h.op == k && h.nm.toList == nm.toList)=(Q.any fun k=>h.op == k && h.nm.toList == nm.toList)∧dP W2 W2.heap.size Q ao k') (fun _ s'=>l.length - (intOf s').toNat)
    case atStart=>exact ⟨0,l,rfl,by simp,rfl,Dv⟩
    case round=>
     obtain ⟨k',Q,rfl,hlen',heq',hrow'⟩:=hrel
     have HQ:=Lib.hid heq'
     clear heq' Dv
     cases Q with
     | nil=>
       obtain rfl:k'=l.length:=by simpa using hlen'
       have HF:Hid (res=lu R nm l):=Lib.hid (HE.out.trans (by rw [lu,HQ.out]; rfl))
       go_wp2_with fail
       go_roundw
       case rel=>exact ⟨k + 1,R,by go_num,by simp only [aP.len] at hlen; omega,HF.out,jc.out,HB2.out⟩
       case measure=>simp [intOf]; omega
     | cons q Q=>
       obtain ⟨⟨b2,off2,rfl,hB2,z0⟩,hrest'⟩:=hrow'
       simp only [List.length_cons] at hlen'
       have hkl':k' < l.length:=by omega
       have xK:Hid ((l.any fun k=>h.op == k && h.nm.toList == nm.toList)=((h.op == q && h.nm.toList == nm.toList) || (Q.any fun k=>h.op == k && h.nm.toList == nm.toList))):=Lib.hid (HQ.out.trans (by simp))
       cases hc:(h.op == q)
       ·have HF:=Lib.hid (xK.out.trans (by rw [hc]; rfl:_=(Q.any fun k=>h.op == k && h.nm.toList == nm.toList)))
        go_wp2_with fail
        go_round
        case rel=>exact ⟨k' + 1,Q,by go_num,by omega,HF.out,hrest'⟩
        case measure=>simp [intOf]; omega
       ·cases hn:(h.nm.toList == nm.toList)
        ·have HF:=Lib.hid (xK.out.trans (by rw [hc,hn]; rfl:_=(Q.any fun k=>h.op == k && h.nm.toList == nm.toList)))
         rw [hn] at HF
         go_wp2_with fail
         go_round
         case rel=>exact ⟨k' + 1,Q,by go_num,by omega,HF.out,hrest'⟩
         case measure=>simp [intOf]; omega
        ·have HF:Hid (res=true):=Lib.hid (HE.out.trans (by rw [lu,xK.out,hc,hn]; rfl))
         go_wp2_with fail
         go_ret
         exact ⟨dL HF.out.symm,HB2.out⟩
end
end Go.Proofs.YtdajkddgnfgijaaGreatDoor
end
section
set_option linter.unusedSimpArgs false
set_option linter.unusedVariables false
namespace Go.Proofs.YtdajkddgnfgijaaGreatDoor
open Go.RowKit
namespace Md
def Ze (p:Pr) (i:Int):bL→Int
 | .nil=>0
 | .cons op n nm kids _=>kU p i op n nm kids
def CO (p:Pr) (i:Int) (h:aX):Int:=
 if decide ((h.idx.len:Int)=0) then eP [bD (mean p i h.nm) [1,2],kU p i h.dN h.xn h.dM h.aR] else eP [bD (mean p i h.nm) [3],Ze p i h.idx,kU p i h.dN h.xn h.dM h.aR]
end Md
open Md
theorem lX (w:World) (a b c:Int) (t:TypeId):dP (w.alloc (.cells #[.int .i64 a,.int .i64 b,.int .i64 c] t)) (w.alloc (.cells #[.int .i64 a,.int .i64 b,.int .i64 c] t)).heap.size [a,b,c] (some ⟨w.heap.size,0,none⟩) 0:=
 ⟨⟨_,_,rfl,by simp,bZ w [.int .i64 a,.int .i64 b,.int .i64 c] t 0⟩,⟨_,_,rfl,by simp,bZ w [.int .i64 a,.int .i64 b,.int .i64 c] t 1⟩,⟨_,_,rfl,by simp,bZ w [.int .i64 a,.int .i64 b,.int .i64 c] t 2⟩,trivial⟩
theorem eG.nil {w:World} {K:Act→Prop} {a:Act} (h:K a):eG w K [] a:=h
section
variable (p:Pr) (w:World) (aK aM:Option Addr) (aG aH:Nat) (i:Int) (bn:Option Addr) (xX aV bs bt bc:Nat)
set_option maxHeartbeats 4000000 in
set_option maxRecDepth 100000 in
theorem Hw (h:aX) (b e:aP) (s:Sl) (hi:dR i) (hp:p.At w aK aM) (hin:pK w h b e s) (dI:dw w) (hh:Holds w (gW bc p aK aM aG aH i bn xX aV bs bt)):
 Calls Tryz.prog 176 #[.pointer (some ⟨bc,0,none⟩),cO h b e s] w fun e' w'=>e'= .returned (.int .i64 (CO p i h))∧Below w.heap.size w w':=by
 have HH:=Lib.hid (show Sit w w _ from ⟨Below.refl _ _,hh⟩)
 obtain ⟨dZ,dG,dH,bR,bV,bC,eB,dK⟩:=s
 have hil:=hin.1.2.2.2.2.1
 have hxk:=hin.1.2.2.2.2.2.1
 unfold maxLen at hil
 have HE:Hid (CO p i h=if decide ((h.idx.len:Int)=0) then eP [bD (mean p i h.nm) [1,2],kU p i h.dN h.xn h.dM h.aR] else eP [bD (mean p i h.nm) [3],Ze p i h.idx,kU p i h.dN h.xn h.dM h.aR]):=Lib.hid rfl
 generalize CO p i h=res at *
 unfold cO
 dsimp only
 go_enter Tryz.func176,Tryz.ntmps176
 go_upto_region 1 with fail
 generalize hW:World.alloc w _=W
 generalize Value.agg #[_,_,_,_,_,_,_,_,_,_,_]=a0
 have HX:Hid (Sit w W (ow w.heap.size h b e ⟨dZ,dG,dH,bR,bV,bC,eB,dK⟩ (gW bc p aK aM aG aH i bn xX aV bs bt))):=Lib.hid (by rw [← hW]; exact HH.out.lU rfl _ _ _ _ _ _ _ _ _ _ _ _)
 clear hW HH
 have HP:=Lib.hid (hp.same HX.out.1)
 have gU:=Lib.hid (dI.same HX.out.1)
 have uJ:=Lib.hid (hin.2.2.1.same HX.out.1)
 have HAI:=Lib.hid (hin.2.1.same HX.out.1)
 have HK:Hid (∀w',Below W.heap.size W w'→Holds w' (gW bc p aK aM aG aH i bn xX aV bs bt)):=Lib.hid (fun w' hb=>(HX.out.next hb).2.2.2.2.2.2.2.2.2.2.2.2)
 clear hp dI hh hin
 have L0: ∀w',Below W.heap.size W w'→w'.cell? ⟨w.heap.size,0,none⟩=some (.int .i64 h.op):=fun w' hb=>(HX.out.next hb).2.1.2
 have L2: ∀w',Below W.heap.size W w'→w'.cell? ⟨w.heap.size,2,none⟩=some (.string h.nm):=fun w' hb=>(HX.out.next hb).2.2.2.1.2
 have L3: ∀w',Below W.heap.size W w'→w'.cell? ⟨w.heap.size,3,none⟩=some (.string h.arg):=fun w' hb=>(HX.out.next hb).2.2.2.2.1.2
 have L4: ∀w',Below W.heap.size W w'→w'.cell? ⟨w.heap.size,4,none⟩=some (.slice dZ h.idx.len dG):=fun w' hb=>(HX.out.next hb).2.2.2.2.2.1.2
 have L5: ∀w',Below W.heap.size W w'→w'.cell? ⟨w.heap.size,5,none⟩=some (.int .i64 h.dN):=fun w' hb=>(HX.out.next hb).2.2.2.2.2.2.1.2
 have L6: ∀w',Below W.heap.size W w'→w'.cell? ⟨w.heap.size,6,none⟩=some (.int .i64 h.xn):=fun w' hb=>(HX.out.next hb).2.2.2.2.2.2.2.1.2
 have L7: ∀w',Below W.heap.size W w'→w'.cell? ⟨w.heap.size,7,none⟩=some (.string h.dM):=fun w' hb=>(HX.out.next hb).2.2.2.2.2.2.2.2.1.2
 have L8: ∀w',Below W.heap.size W w'→w'.cell? ⟨w.heap.size,8,none⟩=some (.slice dH h.aR.len bR):=fun w' hb=>(HX.out.next hb).2.2.2.2.2.2.2.2.2.1.2
 have l4:=L4 W (Below.refl _ _)
 cases hix:h.idx with
 | nil=>
   have h0:h.idx.len=0:=by rw [hix]; rfl
   have HF:=Lib.hid (HE.out.trans (if_pos (by rw [h0]; rfl)))
   rw [h0] at l4
   clear HE hix L4 h0
   go_upto_region 2 with fail
   refine mV (fun w'=>Below W.heap.size W w') (fun w w'=>Below w.heap.size w w') [9,10,11,12,13,14,15,16,17,18,19,4] (by kernel_rfl) (by kernel_rfl) (fun _=>Below.refl _ _) (by rfl) (below_drewN (Below.refl _ _) 1) ?_
   apply aQ.step
   case aD=>
    intro β A w' hβ hC hO hD
    have e0:=hO 0 (by rfl)
    have e3:=hO 3 (by rfl)
    simp [Act.eval] at e0 e3
    simp [ay,ak,au,Act.eval,Region.binds] at hD
    simp [go_sem,gd,Oper.wp,e0,e3,hD]
    exact aA.mk (Below.refl _ _) hC (ak.mk _ _)
   apply aQ.step
   case aD=>
    intro β A w' hβ hC hO hD
    have e0:=hO 0 (by rfl)
    have e3:=hO 3 (by rfl)
    simp [Act.eval] at e0 e3
    simp [ay,ak,au,Act.eval,Region.binds] at hD
    simp [go_sem,gd,Oper.wp,e0,e3,hD]
    exact aA.mk (Below.refl _ _) hC (ak.mk _ _)
   apply aQ.step
   case aD=>
    intro β A w' hβ hC hO hD
    have e0:=hO 0 (by rfl)
    have e3:=hO 3 (by rfl)
    simp [Act.eval] at e0 e3
    simp [ay,ak,au,Act.eval,Region.binds] at hD
    simp [go_sem,gd,Oper.wp,e0,e3,hD,L2,hC]
    exact aA.mk (Below.refl _ _) hC (ak.mk _ _)
   refine aQ.some (fun v w'=> ∃b,v= .slice (some ⟨b,0,none⟩) 2 2∧dP w' w'.heap.size [1,2] (some ⟨b,0,none⟩) 0) ?_ ?_ ?_
   ·rintro v w w' hle ⟨b,rfl,hin⟩
    exact ⟨b,rfl,hin.same hle⟩
   ·intro β A w' hβ hC hO hD
    simp [go_sem,gd,Oper.wp]
    exact aA.mk (d:=_) (v:= .slice (some ⟨_,0,none⟩) 2 2) (aj _ _) (hC.trans ((aj _ _).mono hC.size)) ⟨_,rfl,eu _ 1 2 _⟩
   apply aQ.step
   case aD=>
    intro β A w' hβ hC hO hD
    simp [ay,ak,au,Act.eval,Region.binds] at hD
    obtain ⟨d9,FJ,b12,d12,XK⟩:=hD
    simp [go_sem,gd,Oper.wp,d9,FJ,d12]
    refine (gI p w' aK aM aG aH _ bn _ aV bs bt bc h.nm [1,2] _ 2 hi (by decide) (HP.out.same hC) XK (HK.out _ hC)).mono ?_
    rintro e' w2 ⟨rfl,hb⟩
    exact aA.mk hb (hC.trans (hb.mono hC.size)) (ak.mk _ _)
   apply aQ.step
   case aD=>
    intro β A w' hβ hC hO hD
    have e0:=hO 0 (by rfl)
    have e3:=hO 3 (by rfl)
    simp [Act.eval] at e0 e3
    simp [ay,ak,au,Act.eval,Region.binds] at hD
    simp [go_sem,gd,Oper.wp,e0,e3,hD]
    exact aA.mk (Below.refl _ _) hC (ak.mk _ _)
   apply aQ.step
   case aD=>
    intro β A w' hβ hC hO hD
    have e0:=hO 0 (by rfl)
    have e3:=hO 3 (by rfl)
    simp [Act.eval] at e0 e3
    simp [ay,ak,au,Act.eval,Region.binds] at hD
    simp [go_sem,gd,Oper.wp,e0,e3,hD]
    exact aA.mk (Below.refl _ _) hC (ak.mk _ _)
   apply aQ.step
   case aD=>
    intro β A w' hβ hC hO hD
    have e0:=hO 0 (by rfl)
    have e3:=hO 3 (by rfl)
    simp [Act.eval] at e0 e3
    simp [ay,ak,au,Act.eval,Region.binds] at hD
    simp [go_sem,gd,Oper.wp,e0,e3,hD,L5,L6,L7,L8,hC]
    exact aA.mk (Below.refl _ _) hC (ak.mk _ _)
   apply aQ.step
   case aD=>
    intro β A w' hβ hC hO hD
    simp [ay,ak,au,Act.eval,Region.binds] at hD
    obtain ⟨JV,d16,-⟩:=hD
    simp [go_sem,gd,Oper.wp,JV,d16]
    refine (pY p w' aK aM aG aH _ bn _ aV bs bt bc h.dN h.xn h.dM h.aR dH bR hi (HP.out.same hC) hxk (uJ.out.same hC) (gU.out.same hC) (HK.out _ hC)).mono ?_
    rintro e' w2 ⟨rfl,hb⟩
    exact aA.mk hb (hC.trans (hb.mono hC.size)) (ak.mk _ _)
   refine aQ.some (fun v w'=> ∃b,v= .slice (some ⟨b,0,none⟩) 2 2∧dP w' w'.heap.size [bD (mean p i h.nm) [1,2],kU p i h.dN h.xn h.dM h.aR] (some ⟨b,0,none⟩) 0) ?_ ?_ ?_
   ·rintro v w w' hle ⟨b,rfl,hin⟩
    exact ⟨b,rfl,hin.same hle⟩
   ·intro β A w' hβ hC hO hD
    simp [ay,ak,au,Act.eval,Region.binds] at hD
    simp [go_sem,gd,Oper.wp,hD]
    exact aA.mk (d:=_) (v:= .slice (some ⟨_,0,none⟩) 2 2) (aj _ _) (hC.trans ((aj _ _).mono hC.size)) ⟨_,rfl,eu _ _ _ _⟩
   apply aQ.step
   case aD=>
    intro β A w' hβ hC hO hD
    simp [ay,ak,au,Act.eval,Region.binds] at hD
    obtain ⟨⟨b18,d18,XW⟩,-⟩:=hD
    simp [go_sem,gd,Oper.wp,d18]
    refine (dF [bD (mean p i h.nm) [1,2],kU p i h.dN h.xn h.dM h.aR] w' _ _ (by simp [maxLen]) XW).mono ?_
    rintro e' w2 ⟨rfl,rfl⟩
    exact aA.mk (Below.refl _ _) hC (ak.mk _ _)
   apply aQ.step
   case aD=>
    intro β A w' hβ hC hO hD
    have e0:=hO 0 (by rfl)
    have e3:=hO 3 (by rfl)
    simp [Act.eval] at e0 e3
    simp [ay,ak,au,Act.eval,Region.binds] at hD
    simp [go_sem,gd,Oper.wp,e0,e3,hD]
    exact aA.mk (Below.refl _ _) hC (ak.mk _ _)
   intro wz fH
   intro v0 h0 v1 h1 v2 h2 v3 h3 v4 h4 v5 h5 v6 h6 v7 h7 v8 h8 v9 h9 v10 h10 v11 h11
   have CU:v11=_:=h11
   subst CU
   clear h0 h1 h2 h3 h4 h5 h6 h7 h8 h9 h10 h11
   refine eG.nil ?_
   go_wp2_with fail
   go_ret
   exact ⟨bG HF.out.symm,(HX.out.next fH).1⟩
 | cons op' n' nm' iO rest=>
   have hrow:=HAI.out
   rw [hix] at hrow
   have HF:Hid (res=eP [bD (mean p i h.nm) [3],kU p i op' n' nm' iO,kU p i h.dN h.xn h.dM h.aR]):=Lib.hid (HE.out.trans ((if_neg (by rw [hix,decide_eq_true_iff]; simp only [bL.len]; omega)).trans (by rw [hix]; rfl)))
   have hpos:0 < h.idx.len:=by rw [hix]; simp [bL.len]
   have hpos':(0:Int) < h.idx.len:=by omega
   have hne0:((h.idx.len:Int) == 0)=false:=by rw [beq_eq_false_iff_ne]; omega
   obtain ⟨⟨b',off',mH,cap',rfl,mF,x0,x1,x2,x3,hok',oM⟩,-⟩:=hrow
   simp only [Nat.zero_mul,Nat.add_zero] at x0 x1 x2 x3
   have M0: ∀w',Below W.heap.size W w'→w'.cell? ⟨b',off',none⟩=some (.int .i64 op'):=fun w' hb=>(hb.cell (p:=⟨b',off',none⟩) mF).trans x0
   have M1: ∀w',Below W.heap.size W w'→w'.cell? ⟨b',off' + 1,none⟩=some (.int .i64 n'):=fun w' hb=>(hb.cell (p:=⟨b',off' + 1,none⟩) mF).trans x1
   have M2: ∀w',Below W.heap.size W w'→w'.cell? ⟨b',off' + 2,none⟩=some (.string nm'):=fun w' hb=>(hb.cell (p:=⟨b',off' + 2,none⟩) mF).trans x2
   have M3: ∀w',Below W.heap.size W w'→w'.cell? ⟨b',off' + 3,none⟩=some (.slice mH iO.len cap'):=fun w' hb=>(hb.cell (p:=⟨b',off' + 3,none⟩) mF).trans x3
   have HAK:=Lib.hid oM
   clear HE hix x0 x1 x2 x3 oM
   go_upto_region 3 with fail
   refine mV (fun w'=>Below W.heap.size W w') (fun w w'=>Below w.heap.size w w') [20,21,22,23,24,25,26,27,28,29,30,31,32,33,34,35,36,4] (by kernel_rfl) (by kernel_rfl) (fun _=>Below.refl _ _) (by rfl) (below_drewN (Below.refl _ _) 1) ?_
   apply aQ.step
   case aD=>
    intro β A w' hβ hC hO hD
    have e0:=hO 0 (by rfl)
    have e3:=hO 3 (by rfl)
    simp [Act.eval] at e0 e3
    simp [ay,ak,au,Act.eval,Region.binds] at hD
    simp [go_sem,gd,Oper.wp,e0,e3,hD]
    exact aA.mk (Below.refl _ _) hC (ak.mk _ _)
   apply aQ.step
   case aD=>
    intro β A w' hβ hC hO hD
    have e0:=hO 0 (by rfl)
    have e3:=hO 3 (by rfl)
    simp [Act.eval] at e0 e3
    simp [ay,ak,au,Act.eval,Region.binds] at hD
    simp [go_sem,gd,Oper.wp,e0,e3,hD]
    exact aA.mk (Below.refl _ _) hC (ak.mk _ _)
   apply aQ.step
   case aD=>
    intro β A w' hβ hC hO hD
    have e0:=hO 0 (by rfl)
    have e3:=hO 3 (by rfl)
    simp [Act.eval] at e0 e3
    simp [ay,ak,au,Act.eval,Region.binds] at hD
    simp [go_sem,gd,Oper.wp,e0,e3,hD,L2,hC]
    exact aA.mk (Below.refl _ _) hC (ak.mk _ _)
   refine aQ.some (fun v w'=> ∃b,v= .slice (some ⟨b,0,none⟩) 1 1∧dP w' w'.heap.size [3] (some ⟨b,0,none⟩) 0) ?_ ?_ ?_
   ·rintro v w w' hle ⟨b,rfl,hin⟩
    exact ⟨b,rfl,hin.same hle⟩
   ·intro β A w' hβ hC hO hD
    simp [go_sem,gd,Oper.wp]
    exact aA.mk (d:=_) (v:= .slice (some ⟨_,0,none⟩) 1 1) (aj _ _) (hC.trans ((aj _ _).mono hC.size)) ⟨_,rfl,eD _ 3 _⟩
   apply aQ.step
   case aD=>
    intro β A w' hβ hC hO hD
    simp [ay,ak,au,Act.eval,Region.binds] at hD
    obtain ⟨d20,d22,b23,d23,XQ⟩:=hD
    simp [go_sem,gd,Oper.wp,d20,d22,d23]
    refine (gI p w' aK aM aG aH _ bn _ aV bs bt bc h.nm [3] _ 1 hi (by decide) (HP.out.same hC) XQ (HK.out _ hC)).mono ?_
    rintro e' w2 ⟨rfl,hb⟩
    exact aA.mk hb (hC.trans (hb.mono hC.size)) (ak.mk _ _)
   apply aQ.step
   case aD=>
    intro β A w' hβ hC hO hD
    have e0:=hO 0 (by rfl)
    have e3:=hO 3 (by rfl)
    simp [Act.eval] at e0 e3
    simp [ay,ak,au,Act.eval,Region.binds] at hD
    simp [go_sem,gd,Oper.wp,e0,e3,hD]
    exact aA.mk (Below.refl _ _) hC (ak.mk _ _)
   apply aQ.step
   case aD=>
    intro β A w' hβ hC hO hD
    have e0:=hO 0 (by rfl)
    have e3:=hO 3 (by rfl)
    simp [Act.eval] at e0 e3
    simp [ay,ak,au,Act.eval,Region.binds] at hD
    simp [go_sem,gd,Oper.wp,e0,e3,hD]
    exact aA.mk (Below.refl _ _) hC (ak.mk _ _)
   apply aQ.step
   case aD=>
    intro β A w' hβ hC hO hD
    have e0:=hO 0 (by rfl)
    have e3:=hO 3 (by rfl)
    simp [Act.eval] at e0 e3
    simp [ay,ak,au,Act.eval,Region.binds] at hD
    simp [go_sem,gd,Oper.wp,e0,e3,hD,L4,hC]
    exact aA.mk (Below.refl _ _) hC (ak.mk _ _)
   apply aQ.step
   case aD=>
    intro β A w' hβ hC hO hD
    have e0:=hO 0 (by rfl)
    have e3:=hO 3 (by rfl)
    simp [Act.eval] at e0 e3
    simp [ay,ak,au,Act.eval,Region.binds] at hD
    simp [go_sem,gd,Oper.wp,e0,e3,hD,hpos,hpos']
    exact aA.mk (Below.refl _ _) hC (ak.mk _ _)
   apply aQ.step
   case aD=>
    intro β A w' hβ hC hO hD
    have e0:=hO 0 (by rfl)
    have e3:=hO 3 (by rfl)
    simp [Act.eval] at e0 e3
    simp [ay,ak,au,Act.eval,Region.binds] at hD
    simp [go_sem,gd,Oper.wp,e0,e3,hD,M0,M1,M2,M3,hC]
    exact aA.mk (Below.refl _ _) hC (ak.mk _ _)
   apply aQ.step
   case aD=>
    intro β A w' hβ hC hO hD
    simp [ay,ak,au,Act.eval,Region.binds] at hD
    obtain ⟨d25,d29,-⟩:=hD
    simp [go_sem,gd,Oper.wp,d25,d29]
    refine (pY p w' aK aM aG aH _ bn _ aV bs bt bc op' n' nm' iO mH cap' hi (HP.out.same hC) hok' (HAK.out.same hC) (gU.out.same hC) (HK.out _ hC)).mono ?_
    rintro e' w2 ⟨rfl,hb⟩
    exact aA.mk hb (hC.trans (hb.mono hC.size)) (ak.mk _ _)
   apply aQ.step
   case aD=>
    intro β A w' hβ hC hO hD
    have e0:=hO 0 (by rfl)
    have e3:=hO 3 (by rfl)
    simp [Act.eval] at e0 e3
    simp [ay,ak,au,Act.eval,Region.binds] at hD
    simp [go_sem,gd,Oper.wp,e0,e3,hD]
    exact aA.mk (Below.refl _ _) hC (ak.mk _ _)
   apply aQ.step
   case aD=>
    intro β A w' hβ hC hO hD
    have e0:=hO 0 (by rfl)
    have e3:=hO 3 (by rfl)
    simp [Act.eval] at e0 e3
    simp [ay,ak,au,Act.eval,Region.binds] at hD
    simp [go_sem,gd,Oper.wp,e0,e3,hD]
    exact aA.mk (Below.refl _ _) hC (ak.mk _ _)
   apply aQ.step
   case aD=>
    intro β A w' hβ hC hO hD
    have e0:=hO 0 (by rfl)
    have e3:=hO 3 (by rfl)
    simp [Act.eval] at e0 e3
    simp [ay,ak,au,Act.eval,Region.binds] at hD
    simp [go_sem,gd,Oper.wp,e0,e3,hD,L5,L6,L7,L8,hC]
    exact aA.mk (Below.refl _ _) hC (ak.mk _ _)
   apply aQ.step
   case aD=>
    intro β A w' hβ hC hO hD
    simp [ay,ak,au,Act.eval,Region.binds] at hD
    obtain ⟨d31,d33,-⟩:=hD
    simp [go_sem,gd,Oper.wp,d31,d33]
    refine (pY p w' aK aM aG aH _ bn _ aV bs bt bc h.dN h.xn h.dM h.aR dH bR hi (HP.out.same hC) hxk (uJ.out.same hC) (gU.out.same hC) (HK.out _ hC)).mono ?_
    rintro e' w2 ⟨rfl,hb⟩
    exact aA.mk hb (hC.trans (hb.mono hC.size)) (ak.mk _ _)
   refine aQ.some (fun v w'=> ∃b,v= .slice (some ⟨b,0,none⟩) 3 3∧dP w' w'.heap.size [bD (mean p i h.nm) [3],kU p i op' n' nm' iO,kU p i h.dN h.xn h.dM h.aR] (some ⟨b,0,none⟩) 0) ?_ ?_ ?_
   ·rintro v w w' hle ⟨b,rfl,hin⟩
    exact ⟨b,rfl,hin.same hle⟩
   ·intro β A w' hβ hC hO hD
    simp [ay,ak,au,Act.eval,Region.binds] at hD
    simp [go_sem,gd,Oper.wp,hD]
    exact aA.mk (d:=_) (v:= .slice (some ⟨_,0,none⟩) 3 3) (aj _ _) (hC.trans ((aj _ _).mono hC.size)) ⟨_,rfl,lX _ _ _ _ _⟩
   apply aQ.step
   case aD=>
    intro β A w' hβ hC hO hD
    simp [ay,ak,au,Act.eval,Region.binds] at hD
    obtain ⟨⟨b35,d35,Xx⟩,-⟩:=hD
    simp [go_sem,gd,Oper.wp,d35]
    refine (dF [bD (mean p i h.nm) [3],kU p i op' n' nm' iO,kU p i h.dN h.xn h.dM h.aR] w' _ _ (by simp [maxLen]) Xx).mono ?_
    rintro e' w2 ⟨rfl,rfl⟩
    exact aA.mk (Below.refl _ _) hC (ak.mk _ _)
   apply aQ.step
   case aD=>
    intro β A w' hβ hC hO hD
    have e0:=hO 0 (by rfl)
    have e3:=hO 3 (by rfl)
    simp [Act.eval] at e0 e3
    simp [ay,ak,au,Act.eval,Region.binds] at hD
    simp [go_sem,gd,Oper.wp,e0,e3,hD]
    exact aA.mk (Below.refl _ _) hC (ak.mk _ _)
   intro wz fH
   intro v0 h0 v1 h1 v2 h2 v3 h3 v4 h4 v5 h5 v6 h6 v7 h7 v8 h8 v9 h9 v10 h10 v11 h11 v12 h12 v13 sJ v14 nD v15 wF v16 h16 v17 xB
   have Zz:v17=_:=xB
   subst Zz
   clear h0 h1 h2 h3 h4 h5 h6 h7 h8 h9 h10 h11 h12 sJ nD wF h16 xB
   refine eG.nil ?_
   go_wp2_with fail
   go_ret
   exact ⟨bG HF.out.symm,(HX.out.next fH).1⟩
end
end Go.Proofs.YtdajkddgnfgijaaGreatDoor
end
section
namespace Go.Proofs.YtdajkddgnfgijaaGreatDoor
open Go.RowKit
open Md
def pI (f:List UInt8→Bool) (l:List UInt8):List UInt8→Bool:=fun x=>if x=l then true else f x
def jL (b:Bool):Int:=if b then 8 else 0
def QK (nm:ByteArray) (w:World) (bs n:Nat) (f:List UInt8→Bool) (e:Ending) (w':World):Prop:=
 e= .returned (.int .i64 (jL (f nm.toList)))∧gQ w' bs (n + 1) (pI f nm.toList)∧w.grownBy w' (some bs)
set_option maxRecDepth 100000 in
theorem zJ (nm:ByteArray) (w:World) (bs n:Nat) (f:List UInt8→Bool) (hn:n < maxLen) (hs:nm.size≤maxLen) (hm:gQ w bs n f):
 Calls Tryz.prog 185 #[.map (some bs),.string nm] w (QK nm w bs n f):=by
 have HM:=Lib.hid hm
 have hlk:=hm.look nm hs
 clear hm
 cases hf:f nm.toList
 ·obtain ⟨w4,hup,qM,hg4⟩:=HM.out.put hn nm hs true
  have vQ:=Lib.hid qM
  have HG:=Lib.hid hg4
  clear qM hg4 hn hs
  go_enter Tryz.func185,Tryz.ntmps185
  go_wp2_with fail
  go_ret
  exact ⟨by rw [hf]; rfl,vQ.out,HG.out⟩
 ·have vQ:Hid (gQ w bs (n + 1) (pI f nm.toList)):=Lib.hid (by
   obtain ⟨D,h1,h2⟩:=HM.out
   refine ⟨D,h1.mono (by omega),fun l=> ?_⟩
   rw [h2]; unfold pI; by_cases h:l=nm.toList
   ·rw [if_pos h,h,hf]
   ·rw [if_neg h])
  clear hn hs
  go_enter Tryz.func185,Tryz.ntmps185
  go_wp2_with fail
  go_ret
  exact ⟨by rw [hf]; rfl,vQ.out,⟨rfl,rfl,rfl,Nat.le_refl _,fun _ _ _=>rfl⟩⟩
end Go.Proofs.YtdajkddgnfgijaaGreatDoor
end
