/-
  Contracts of check.first, nesting, and of the checker's kind, expr, own, mutexOf.
  Contracts of the checker's inside, insideNamed.
  Contract of the checker's assignment.
  Contract of check.once.
-/
import Derived.Test.YtnknfoibmgphnaaDoorGMC
import Derived.Test.YtnknfoibmgphnaaDoorGME
import Derived.Test.YtnknfoibmgphnaaDoorGMB
section
namespace Go.Proofs.YtnknfoibmgphnaaDoor
open Go.RowKit
namespace Md
def dR:List Int→Int
 | []=>0
 | a ::r=>if a != 0 then a else dR r
def nest (b:Bool):Int:=if b then 7 else 0
def ig (ds:List De) (nm:ByteArray):ByteArray:=((ds.find? fun d=>d.kind == 5 && d.nm.toList == nm.toList).map (·.on)).getD ⟨#[]⟩
theorem EG (d:De) (r:List De) (nm:ByteArray):ig (d ::r) nm=if d.kind == 5 && d.nm.toList == nm.toList then d.on else ig r nm:=by
 unfold ig; rw [List.find?_cons]; cases h:(d.kind == 5 && d.nm.toList == nm.toList) <;> simp
end Md
open Md
def iU (bc:Nat) (p:Pr) (aC aF:Option Addr) (aA av:Nat) (i:Int) (aJ:Option Addr) (pG aI bs bt:Nat):List (Nat × Nat × Value):=
 [(bc,0,.slice aC p.ds.length aA),(bc,1,.slice aF p.ts.length av),(bc,2,.int .i64 i),(bc,3,.slice aJ pG aI),(bc,4,.map (some bs)),(bc,5,.map (some bt))]
theorem dK (b:Bool) (w:World):
 Calls Tryd.prog 60 #[.bool b] w fun e w'=>e= .returned (.int .i64 (nest b))∧w=w':=by
 cases b
 all_goals
  go_enter Tryd.func60,Tryd.ntmps60
  go_wp2
  go_ret
  exact ⟨rfl,rfl⟩
theorem dJ (l:List Int) (w:World) (ao:Option Addr) (cap:Nat) (hl:l.length≤maxLen) (hat:eD w w.heap.size l ao 0):
 Calls Tryd.prog 58 #[.slice ao l.length cap] w fun e w'=>e= .returned (.int .i64 (dR l))∧w=w':=by
 unfold maxLen at hl
 generalize hres:dR l=res
 have HR:=Lib.hid hres
 clear hres
 go_enter Tryd.func58,Tryd.ntmps58
 go_wp2_with fail
 go_loop [4,7] (fun _ s=> ∃(k:Nat) (R:List Int),s= .int .i64 k∧k + R.length=l.length∧res=dR R∧eD w w.heap.size R ao k) (fun _ s=>l.length - (intOf s).toNat)
 case atStart=>exact ⟨0,l,rfl,by simp,HR.out.symm,hat⟩
 case round=>
  obtain ⟨k,R,rfl,hlen,heq,hrow⟩:=hrel
  have HE:=Lib.hid heq
  clear heq
  cases R with
  | nil=>
    obtain rfl:k=l.length:=by simpa using hlen
    go_wp2_with fail
    go_ret
    exact ⟨aS HE.out.symm,rfl⟩
  | cons a R=>
    obtain ⟨⟨b,off,rfl,hB,y0⟩,hrest⟩:=hrow
    simp only [List.length_cons] at hlen
    have hkl:k < l.length:=by omega
    cases hc:(a != 0)
    ·have dA:=Lib.hid (HE.out.trans (if_neg (by rw [hc]; decide)))
     go_wp2_with fail
     go_round
     case rel=>exact ⟨k + 1,R,by go_num,by omega,dA.out,hrest⟩
     case measure=>simp [intOf]; omega
    ·have dA:=Lib.hid (HE.out.trans (if_pos hc))
     go_wp2_with fail
     go_ret
     exact ⟨aS dA.out.symm,rfl⟩
section
variable (p:Pr) (w:World) (aC aF:Option Addr) (aA av:Nat) (i:Int) (aJ:Option Addr) (pG aI bs bt bc:Nat)
set_option maxHeartbeats 1000000 in
theorem iC (nm:ByteArray) (l:List Int) (ao:Option Addr) (cap:Nat) (hi:aX i) (hl:l.length≤maxLen) (hp:p.At w aC aF) (hw:eD w w.heap.size l ao 0) (hh:Holds w (iU bc p aC aF aA av i aJ pG aI bs bt)):
 Calls Tryd.prog 59 #[.pointer (some ⟨bc,0,none⟩),.string nm,.slice ao l.length cap] w fun e w'=>e= .returned (.int .i64 (bC (mean p i nm) l))∧Below w.heap.size w w':=by
 have HH:=Lib.hid (show Sit w w _ from ⟨Below.refl _ _,hh⟩)
 have HP:=Lib.hid hp
 have HW:=Lib.hid hw
 clear hp hw hh
 go_enter Tryd.func59,Tryd.ntmps59
 go_wp2_with fail
 obtain ⟨T,F,qz,hst,hF,hnext⟩:=calm w
 have HF:=Lib.hid hF
 have bS:=Lib.hid hnext
 clear hnext hF
 have d0:=fun x=>(HH.out.next (HF.out x)).2.1.2
 have d1:=fun x=>(HH.out.next (HF.out x)).2.2.1.2
 have d2:=fun x=>(HH.out.next (HF.out x)).2.2.2.1.2
 have d3:=fun x=>(HH.out.next (HF.out x)).2.2.2.2.1.2
 have d4:=fun x=>(HH.out.next (HF.out x)).2.2.2.2.2.1.2
 have d5:=fun x=>(HH.out.next (HF.out x)).2.2.2.2.2.2.1.2
 refine gF F (by kernel_rfl) (by kernel_rfl) hst ?_
 repeat (any_goals (first | go_big_quiet_step ((go_at_call 75; refine (sO p i nm l _ aC aF ao aA av cap hi hl (HP.out.same (HF.out _)) (HW.out.same (HF.out _))).mono ?_; rintro e w' ⟨rfl,hb⟩; exact ⟨rfl,bS.out _ _ hb⟩)) | (refine wpQuiet_step (fun K hK=> ?_); go_simp; first | (refine hK _ ?_; clear hK K) | (split <;> first | (refine hK _ ?_; clear hK K) | (apply Exists.intro; refine ⟨fun _=> ?_,hK _ ?_⟩; ((go_at_call 75; refine (sO p i nm l _ aC aF ao aA av cap hi hl (HP.out.same (HF.out _)) (HW.out.same (HF.out _))).mono ?_; rintro e w' ⟨rfl,hb⟩; exact ⟨rfl,bS.out _ _ hb⟩)); clear hK K)))))
 all_goals (refine wpQuiet_nil ?_; rintro _ ⟨x,rfl⟩)
 go_wp2_with fail
 go_ret
 exact ⟨rfl,HF.out x⟩
set_option maxHeartbeats 1000000 in
theorem oF (op n:Int) (nm:ByteArray) (kids:bJ) (ao:Option Addr) (cap:Nat) (hi:aX i) (hp:p.At w aC aF) (hok:lI op n nm kids) (hat:kids.At w w.heap.size ao 0) (dL:dZ w) (hh:Holds w (iU bc p aC aF aA av i aJ pG aI bs bt)):
 Calls Tryd.prog 57 #[.pointer (some ⟨bc,0,none⟩),.agg #[.int .i64 op,.int .i64 n,.string nm,.slice ao kids.len cap]] w fun e w'=>e= .returned (.int .i64 (iE p i op n nm kids))∧Below w.heap.size w w':=by
 have HH:=Lib.hid (show Sit w w _ from ⟨Below.refl _ _,hh⟩)
 have HP:=Lib.hid hp
 have HAT:=Lib.hid hat
 have iW:=Lib.hid dL
 clear hp hat hh dL
 go_enter Tryd.func57,Tryd.ntmps57
 go_upto_region 1 with fail
 generalize hW:World.alloc w _=W
 generalize Value.agg #[_,_,_,_]=a0
 have HX:=Lib.hid (HH.out.qX rfl (.int .i64 op) (.int .i64 n) (.string nm) (.slice ao kids.len cap) 40)
 rw [hW] at HX
 clear hW
 obtain ⟨T,F,qz,hst,hF,hnext⟩:=calm W
 have HF:=Lib.hid hF
 have bS:=Lib.hid hnext
 clear hnext hF
 have d0:=fun x=>(HX.out.next (HF.out x)).2.1.2
 have d1:=fun x=>(HX.out.next (HF.out x)).2.2.1.2
 have d2:=fun x=>(HX.out.next (HF.out x)).2.2.2.1.2
 have d3:=fun x=>(HX.out.next (HF.out x)).2.2.2.2.1.2
 have d4:=fun x=>(HX.out.next (HF.out x)).2.2.2.2.2.1.2
 have d5:=fun x=>(HX.out.next (HF.out x)).2.2.2.2.2.2.1.2
 have d6:=fun x=>(HX.out.next (HF.out x)).2.2.2.2.2.2.2.1.2
 have d7:=fun x=>(HX.out.next (HF.out x)).2.2.2.2.2.2.2.2.1.2
 have d8:=fun x=>(HX.out.next (HF.out x)).2.2.2.2.2.2.2.2.2.1.2
 have d9:=fun x=>(HX.out.next (HF.out x)).2.2.2.2.2.2.2.2.2.2.1.2
 refine gF F (by kernel_rfl) (by kernel_rfl) hst ?_
 repeat (any_goals (first | go_big_quiet_step ((go_at_call 74; refine (wU p i op n nm kids _ aC aF ao aA av cap hi ((HP.out.same HX.out.1).same (HF.out _)) hok ((HAT.out.same HX.out.1).same (HF.out _)) ((iW.out.same HX.out.1).same (HF.out _))).mono ?_; rintro e w' ⟨rfl,hb⟩; exact ⟨rfl,bS.out _ _ hb⟩)) | (refine wpQuiet_step (fun K hK=> ?_); go_simp; first | (refine hK _ ?_; clear hK K) | (split <;> first | (refine hK _ ?_; clear hK K) | (apply Exists.intro; refine ⟨fun _=> ?_,hK _ ?_⟩; ((go_at_call 74; refine (wU p i op n nm kids _ aC aF ao aA av cap hi ((HP.out.same HX.out.1).same (HF.out _)) hok ((HAT.out.same HX.out.1).same (HF.out _)) ((iW.out.same HX.out.1).same (HF.out _))).mono ?_; rintro e w' ⟨rfl,hb⟩; exact ⟨rfl,bS.out _ _ hb⟩)); clear hK K)))))
 all_goals (refine wpQuiet_nil ?_; rintro _ ⟨x,rfl⟩)
 go_wp2_with fail
 go_ret
 exact ⟨rfl,(HX.out.next (HF.out x)).1⟩
set_option maxHeartbeats 1000000 in
theorem yw (j:Nat) (t:Th) (r:List Th) (hd:p.ts.drop j=t ::r) (hp:p.At w aC aF) (hh:Holds w (iU bc p aC aF aA av (j:Int) aJ pG aI bs bt)):
 Calls Tryd.prog 64 #[.pointer (some ⟨bc,0,none⟩)] w fun e w'=>e= .returned (.string t.nm)∧Below w.heap.size w w':=by
 have HH:=Lib.hid (show Sit w w _ from ⟨Below.refl _ _,hh⟩)
 have hj:j < p.ts.length:=by
  have:=congrArg List.length hd; simp at this; omega
 have hth:=hp.2.2.2.drop j
 rw [hd,Nat.zero_add] at hth
 obtain ⟨⟨b,off,iQ,gy,bg,aT,rfl,hB,x0,-⟩,-⟩:=hth
 clear hp hd hh
 obtain ⟨-,⟨-,c0⟩,⟨-,c1⟩,⟨-,c2⟩,⟨-,c3⟩,⟨-,c4⟩,⟨-,c5⟩,-⟩:=HH.out
 have hj0:(0:Int)≤j:=by omega
 have hj1:(j:Int) < p.ts.length:=by omega
 go_enter Tryd.func64,Tryd.ntmps64
 go_wp2_with fail
 go_quiet (fail)
 go_wp2_with fail
 go_ret
 exact ⟨rfl,below_drewN (Below.refl _ _) _⟩
set_option maxHeartbeats 1000000 in
theorem rT (nm:ByteArray) (hp:p.At w aC aF) (hh:Holds w (iU bc p aC aF aA av i aJ pG aI bs bt)):
 Calls Tryd.prog 63 #[.pointer (some ⟨bc,0,none⟩),.string nm] w fun e w'=>e= .returned (.string (ig p.ds nm))∧Below w.heap.size w w':=by
 have HH:=Lib.hid (show Sit w w _ from ⟨Below.refl _ _,hh⟩)
 have HP:=Lib.hid hp
 have hld:=hp.1
 unfold maxLen at hld
 generalize hres:ig p.ds nm=res
 have HR:=Lib.hid hres
 clear hp hh hres
 obtain ⟨-,⟨-,c0⟩,⟨-,c1⟩,⟨-,c2⟩,⟨-,c3⟩,⟨-,c4⟩,⟨-,c5⟩,-⟩:=HH.out
 go_enter Tryd.func63,Tryd.ntmps63
 go_wp2_with fail
 go_loopw [6,13] (fun _ s wr=> ∃(k:Nat) (R:List De),s= .int .i64 k∧k + R.length=p.ds.length∧res=ig R nm∧iZ wr wr.heap.size R aC k∧Below w.heap.size w wr) (fun _ s _=>p.ds.length - (intOf s).toNat)
 case atStart=>exact ⟨0,p.ds,rfl,by simp,HR.out.symm,HP.out.2.2.1,Below.refl _ _⟩
 case round=>
  obtain ⟨k,R,rfl,hlen,heq,hrow,hB⟩:=hrel
  have HE:=Lib.hid heq
  have HB:=Lib.hid hB
  clear heq hB c0 c1 c2 c3 c4 c5
  cases R with
  | nil=>
    obtain rfl:k=p.ds.length:=by simpa using hlen
    go_wp2_with fail
    go_ret
    exact ⟨by rw [HE.out]; rfl,HB.out⟩
  | cons d R=>
    obtain ⟨⟨b,off,rfl,hB,x0,x1,x2,x3,x4,x5,hok⟩,hrest⟩:=hrow
    simp only [List.length_cons] at hlen
    have hkl:k < p.ds.length:=by omega
    rw [EG] at HE
    have HB2:=Lib.hid (HB.out.trans ((ay wr (.cells #[.int .i64 d.kind,.int .i64 d.line,.string d.nm,.int .i64 d.size,.int .i64 d.init,.string d.on] 37)).mono HB.out.size))
    clear hok
    cases h5:(d.kind == 5)
    ·have dA:=Lib.hid (HE.out.trans (if_neg (by rw [h5]; simp)))
     go_wp2_with fail
     go_roundw
     case rel=>exact ⟨k + 1,R,by go_num,by omega,dA.out,hrest.same (ay _ _),HB2.out⟩
     case measure=>simp [intOf]; omega
    ·cases hc:(d.nm.toList == nm.toList)
     ·have dA:=Lib.hid (HE.out.trans (if_neg (by rw [h5,hc]; decide)))
      go_wp2_with fail
      go_roundw
      case rel=>exact ⟨k + 1,R,by go_num,by omega,dA.out,hrest.same (ay _ _),HB2.out⟩
      case measure=>simp [intOf]; omega
     ·have dA:=Lib.hid (HE.out.trans (if_pos (by rw [h5,hc]; rfl)))
      go_wp2_with fail
      go_ret
      exact ⟨by rw [dA.out]; rfl,HB2.out⟩
end
end Go.Proofs.YtnknfoibmgphnaaDoor
end
section
namespace Go.Proofs.YtnknfoibmgphnaaDoor
open Go.RowKit
namespace Md
def dB:aR→List Int→Bool
 | .nil,_=>false
 | .cons h _ _ r,l=>(l.any fun k=>h.op == k) || dB r l
def kI:aR→ByteArray→List Int→Bool
 | .nil,_,_=>false
 | .cons h _ _ r,nm,l=>(l.any fun k=>h.op == k && h.nm.toList == nm.toList) || kI r nm l
end Md
open Md
section
variable (p:Pr) (w:World) (aC aF:Option Addr) (aA av:Nat) (i:Int) (aJ:Option Addr) (aI bs bt bc:Nat)
set_option maxHeartbeats 2000000 in
set_option maxRecDepth 100000 in
theorem gI (ar:aR) (l:List Int) (ao:Option Addr) (cap:Nat) (hl:l.length≤maxLen) (hw:eD w w.heap.size l ao 0) (har:ar.len≤maxLen) (hat:ar.At w w.heap.size aJ 0) (hh:Holds w (iU bc p aC aF aA av i aJ ar.len aI bs bt)):
 Calls Tryd.prog 61 #[.pointer (some ⟨bc,0,none⟩),.slice ao l.length cap] w fun e w'=>e= .returned (.bool (dB ar l))∧Below w.heap.size w w':=by
 have HH:=Lib.hid (show Sit w w _ from ⟨Below.refl _ _,hh⟩)
 have HW:=Lib.hid hw
 have HAT:=Lib.hid hat
 generalize hres:dB ar l=res
 have HR:=Lib.hid hres
 unfold maxLen at hl har
 clear hh hw hat hres
 obtain ⟨-,⟨-,c0⟩,⟨-,c1⟩,⟨-,c2⟩,⟨-,c3⟩,⟨-,c4⟩,⟨-,c5⟩,-⟩:=HH.out
 go_enter Tryd.func61,Tryd.ntmps61
 go_wp2_with fail
 go_loopw [6,8,14,18,19,20] (fun _ _ s _ _ _ wr=> ∃(k:Nat) (R:aR),s= .int .i64 k∧k + R.len=ar.len∧res=dB R l∧R.At wr wr.heap.size aJ k∧Below w.heap.size w wr) (fun _ _ s _ _ _ _=>ar.len - (intOf s).toNat)
 case atStart=>exact ⟨0,ar,rfl,by simp,HR.out.symm,HAT.out,Below.refl _ _⟩
 case round=>
  obtain ⟨k,R,rfl,hlen,heq,hrow,hB⟩:=hrel
  have HE:=Lib.hid heq
  have HB:=Lib.hid hB
  clear heq hB c0 c1 c2 c3 c4 c5
  cases R with
  | nil=>
    obtain rfl:k=ar.len:=by simpa [aR.len] using hlen
    go_wp2_with fail
    go_ret
    exact ⟨aW HE.out.symm,HB.out⟩
  | cons h b e R=>
    obtain ⟨bl,off,s,rfl,hbl,hin,x0,x1,x2,x3,x4,x5,x6,x7,x8,x9,x10,hrest⟩:=aR.At.head hrow
    have hkl:k < ar.len:=by simp only [aR.len] at hlen; omega
    clear hrow hin
    go_upto_region 4 with fail
    obtain ⟨nb,hnb⟩: ∃n,wr.heap.size=n:=⟨_,rfl⟩
    generalize hW2:World.alloc wr _=W2
    have HY:Hid (Sit wr W2 (iT nb h b e s [])):=Lib.hid (by rw [← hW2]; exact (Sit.start wr).gZ hnb _ _ _ _ _ _ _ _ _ _ _ _)
    have HB2:=Lib.hid (HB.out.trans (HY.out.1.mono HB.out.size))
    have uj:=Lib.hid (hrest.same HY.out.1)
    have Ay:=HW.out.same HB2.out
    rw [hnb]
    clear hW2 hnb x0 x1 x2 x3 x4 x5 x6 x7 x8 x9 x10 hrest
    obtain ⟨-,⟨-,c0⟩,⟨-,c1⟩,⟨-,c2⟩,⟨-,c3⟩,⟨-,c4⟩,⟨-,c5⟩,⟨-,c6⟩,⟨-,c7⟩,⟨-,c8⟩,⟨-,c9⟩,⟨-,c10⟩,-⟩:=HY.out
    clear c1 c2 c3 c4 c5 c6 c7 c8 c9 c10
    go_wp2_with fail
    go_loop [8,20] (fun _ s'=> ∃(k':Nat) (Q:List Int),s'= .int .i64 k'∧k' + Q.length=l.length∧(l.any fun k=>h.op == k)=(Q.any fun k=>h.op == k)∧eD W2 W2.heap.size Q ao k') (fun _ s'=>l.length - (intOf s').toNat)
    case atStart=>exact ⟨0,l,rfl,by simp,rfl,Ay⟩
    case round=>
     obtain ⟨k',Q,rfl,hlen',heq',hrow'⟩:=hrel
     have HQ:=Lib.hid heq'
     clear heq' Ay
     cases Q with
     | nil=>
       obtain rfl:k'=l.length:=by simpa using hlen'
       have HF:Hid (res=dB R l):=Lib.hid (HE.out.trans (by rw [dB,HQ.out]; rfl))
       go_wp2_with fail
       go_roundw
       case rel=>exact ⟨k + 1,R,by go_num,by simp only [aR.len] at hlen; omega,HF.out,uj.out,HB2.out⟩
       case measure=>simp [intOf]; omega
     | cons q Q=>
       obtain ⟨⟨b2,off2,rfl,hB2,z0⟩,hrest'⟩:=hrow'
       simp only [List.length_cons] at hlen'
       have hkl':k' < l.length:=by omega
       have Af:Hid ((l.any fun k=>h.op == k)=((h.op == q) || (Q.any fun k=>h.op == k))):=Lib.hid (HQ.out.trans (by simp))
       cases hc:(h.op == q)
       ·have HF:=Lib.hid (Af.out.trans (by rw [hc]; rfl:_=(Q.any fun k=>h.op == k)))
        go_wp2_with fail
        go_round
        case rel=>exact ⟨k' + 1,Q,by go_num,by omega,HF.out,hrest'⟩
        case measure=>simp [intOf]; omega
       ·have HF:Hid (res=true):=Lib.hid (HE.out.trans (by rw [dB,Af.out,hc]; rfl))
        go_wp2_with fail
        go_ret
        exact ⟨aW HF.out.symm,HB2.out⟩
set_option maxHeartbeats 2000000 in
set_option maxRecDepth 100000 in
theorem jW (ar:aR) (nm:ByteArray) (l:List Int) (ao:Option Addr) (cap:Nat) (hl:l.length≤maxLen) (hw:eD w w.heap.size l ao 0) (har:ar.len≤maxLen) (hat:ar.At w w.heap.size aJ 0) (hh:Holds w (iU bc p aC aF aA av i aJ ar.len aI bs bt)):
 Calls Tryd.prog 62 #[.pointer (some ⟨bc,0,none⟩),.string nm,.slice ao l.length cap] w fun e w'=>e= .returned (.bool (kI ar nm l))∧Below w.heap.size w w':=by
 have HH:=Lib.hid (show Sit w w _ from ⟨Below.refl _ _,hh⟩)
 have HW:=Lib.hid hw
 have HAT:=Lib.hid hat
 generalize hres:kI ar nm l=res
 have HR:=Lib.hid hres
 unfold maxLen at hl har
 clear hh hw hat hres
 obtain ⟨-,⟨-,c0⟩,⟨-,c1⟩,⟨-,c2⟩,⟨-,c3⟩,⟨-,c4⟩,⟨-,c5⟩,-⟩:=HH.out
 go_enter Tryd.func62,Tryd.ntmps62
 go_wp2_with fail
 go_loopw [8,10,16,20,21,22] (fun _ _ s _ _ _ wr=> ∃(k:Nat) (R:aR),s= .int .i64 k∧k + R.len=ar.len∧res=kI R nm l∧R.At wr wr.heap.size aJ k∧Below w.heap.size w wr) (fun _ _ s _ _ _ _=>ar.len - (intOf s).toNat)
 case atStart=>exact ⟨0,ar,rfl,by simp,HR.out.symm,HAT.out,Below.refl _ _⟩
 case round=>
  obtain ⟨k,R,rfl,hlen,heq,hrow,hB⟩:=hrel
  have HE:=Lib.hid heq
  have HB:=Lib.hid hB
  clear heq hB c0 c1 c2 c3 c4 c5
  cases R with
  | nil=>
    obtain rfl:k=ar.len:=by simpa [aR.len] using hlen
    go_wp2_with fail
    go_ret
    exact ⟨aW HE.out.symm,HB.out⟩
  | cons h b e R=>
    obtain ⟨bl,off,s,rfl,hbl,hin,x0,x1,x2,x3,x4,x5,x6,x7,x8,x9,x10,hrest⟩:=aR.At.head hrow
    have hkl:k < ar.len:=by simp only [aR.len] at hlen; omega
    clear hrow hin
    go_upto_region 4 with fail
    obtain ⟨nb,hnb⟩: ∃n,wr.heap.size=n:=⟨_,rfl⟩
    generalize hW2:World.alloc wr _=W2
    have HY:Hid (Sit wr W2 (iT nb h b e s [])):=Lib.hid (by rw [← hW2]; exact (Sit.start wr).gZ hnb _ _ _ _ _ _ _ _ _ _ _ _)
    have HB2:=Lib.hid (HB.out.trans (HY.out.1.mono HB.out.size))
    have uj:=Lib.hid (hrest.same HY.out.1)
    have Ay:=HW.out.same HB2.out
    rw [hnb]
    clear hW2 hnb x0 x1 x2 x3 x4 x5 x6 x7 x8 x9 x10 hrest
    obtain ⟨-,⟨-,c0⟩,⟨-,c1⟩,⟨-,c2⟩,⟨-,c3⟩,⟨-,c4⟩,⟨-,c5⟩,⟨-,c6⟩,⟨-,c7⟩,⟨-,c8⟩,⟨-,c9⟩,⟨-,c10⟩,-⟩:=HY.out
    clear c1 c3 c4 c5 c6 c7 c8 c9 c10
    go_wp2_with fail
    go_loop [10,22] (fun _ s'=> ∃(k':Nat) (Q:List Int),s'= .int .i64 k'∧k' + Q.length=l.length∧(l.any fun k=>h.op == k && h.nm.toList == nm.toList)=(Q.any fun k=>h.op == k && h.nm.toList == nm.toList)∧eD W2 W2.heap.size Q ao k') (fun _ s'=>l.length - (intOf s').toNat)
    case atStart=>exact ⟨0,l,rfl,by simp,rfl,Ay⟩
    case round=>
     obtain ⟨k',Q,rfl,hlen',heq',hrow'⟩:=hrel
     have HQ:=Lib.hid heq'
     clear heq' Ay
     cases Q with
     | nil=>
       obtain rfl:k'=l.length:=by simpa using hlen'
       have HF:Hid (res=kI R nm l):=Lib.hid (HE.out.trans (by rw [kI,HQ.out]; rfl))
       go_wp2_with fail
       go_roundw
       case rel=>exact ⟨k + 1,R,by go_num,by simp only [aR.len] at hlen; omega,HF.out,uj.out,HB2.out⟩
       case measure=>simp [intOf]; omega
     | cons q Q=>
       obtain ⟨⟨b2,off2,rfl,hB2,z0⟩,hrest'⟩:=hrow'
       simp only [List.length_cons] at hlen'
       have hkl':k' < l.length:=by omega
       have Af:Hid ((l.any fun k=>h.op == k && h.nm.toList == nm.toList)=((h.op == q && h.nm.toList == nm.toList) || (Q.any fun k=>h.op == k && h.nm.toList == nm.toList))):=Lib.hid (HQ.out.trans (by simp))
       cases hc:(h.op == q)
       ·have HF:=Lib.hid (Af.out.trans (by rw [hc]; rfl:_=(Q.any fun k=>h.op == k && h.nm.toList == nm.toList)))
        go_wp2_with fail
        go_round
        case rel=>exact ⟨k' + 1,Q,by go_num,by omega,HF.out,hrest'⟩
        case measure=>simp [intOf]; omega
       ·cases hn:(h.nm.toList == nm.toList)
        ·have HF:=Lib.hid (Af.out.trans (by rw [hc,hn]; rfl:_=(Q.any fun k=>h.op == k && h.nm.toList == nm.toList)))
         rw [hn] at HF
         go_wp2_with fail
         go_round
         case rel=>exact ⟨k' + 1,Q,by go_num,by omega,HF.out,hrest'⟩
         case measure=>simp [intOf]; omega
        ·have HF:Hid (res=true):=Lib.hid (HE.out.trans (by rw [kI,Af.out,hc,hn]; rfl))
         go_wp2_with fail
         go_ret
         exact ⟨aW HF.out.symm,HB2.out⟩
end
end Go.Proofs.YtnknfoibmgphnaaDoor
end
section
set_option linter.unusedSimpArgs false
set_option linter.unusedVariables false
namespace Go.Proofs.YtnknfoibmgphnaaDoor
open Go.RowKit
namespace Md
def GY (p:Pr) (i:Int):bJ→Int
 | .nil=>0
 | .cons op n nm kids _=>iE p i op n nm kids
def tO (p:Pr) (i:Int) (h:eH):Int:=
 if decide ((h.idx.len:Int)=0) then dR [bC (mean p i h.nm) [1,2],iE p i h.dU h.xn h.dV h.bq] else dR [bC (mean p i h.nm) [3],GY p i h.idx,iE p i h.dU h.xn h.dV h.bq]
end Md
open Md
theorem mH (w:World) (a b c:Int) (t:TypeId):eD (w.alloc (.cells #[.int .i64 a,.int .i64 b,.int .i64 c] t)) (w.alloc (.cells #[.int .i64 a,.int .i64 b,.int .i64 c] t)).heap.size [a,b,c] (some ⟨w.heap.size,0,none⟩) 0:=
 ⟨⟨_,_,rfl,by simp,dz w [.int .i64 a,.int .i64 b,.int .i64 c] t 0⟩,⟨_,_,rfl,by simp,dz w [.int .i64 a,.int .i64 b,.int .i64 c] t 1⟩,⟨_,_,rfl,by simp,dz w [.int .i64 a,.int .i64 b,.int .i64 c] t 2⟩,trivial⟩
theorem bM.nil {w:World} {K:Act→Prop} {a:Act} (h:K a):bM w K [] a:=h
section
variable (p:Pr) (w:World) (aC aF:Option Addr) (aA av:Nat) (i:Int) (aJ:Option Addr) (pG aI bs bt bc:Nat)
set_option maxHeartbeats 4000000 in
set_option maxRecDepth 100000 in
theorem CX (h:eH) (b e:aR) (s:Sl) (hi:aX i) (hp:p.At w aC aF) (hin:jE w h b e s) (dL:dZ w) (hh:Holds w (iU bc p aC aF aA av i aJ pG aI bs bt)):
 Calls Tryd.prog 56 #[.pointer (some ⟨bc,0,none⟩),aY h b e s] w fun e' w'=>e'= .returned (.int .i64 (tO p i h))∧Below w.heap.size w w':=by
 have HH:=Lib.hid (show Sit w w _ from ⟨Below.refl _ _,hh⟩)
 obtain ⟨fU,eG,dW,cB,bg,aT,eY,dP⟩:=s
 have hil:=hin.1.2.2.2.2.1
 have hxk:=hin.1.2.2.2.2.2.1
 unfold maxLen at hil
 have HE:Hid (tO p i h=if decide ((h.idx.len:Int)=0) then dR [bC (mean p i h.nm) [1,2],iE p i h.dU h.xn h.dV h.bq] else dR [bC (mean p i h.nm) [3],GY p i h.idx,iE p i h.dU h.xn h.dV h.bq]):=Lib.hid rfl
 generalize tO p i h=res at *
 unfold aY
 dsimp only
 go_enter Tryd.func56,Tryd.ntmps56
 go_upto_region 1 with fail
 generalize hW:World.alloc w _=W
 generalize Value.agg #[_,_,_,_,_,_,_,_,_,_,_]=a0
 have HX:Hid (Sit w W (iT w.heap.size h b e ⟨fU,eG,dW,cB,bg,aT,eY,dP⟩ (iU bc p aC aF aA av i aJ pG aI bs bt))):=Lib.hid (by rw [← hW]; exact HH.out.gZ rfl _ _ _ _ _ _ _ _ _ _ _ _)
 clear hW HH
 have HP:=Lib.hid (hp.same HX.out.1)
 have iW:=Lib.hid (dL.same HX.out.1)
 have rG:=Lib.hid (hin.2.2.1.same HX.out.1)
 have UF:=Lib.hid (hin.2.1.same HX.out.1)
 have HK:Hid (∀w',Below W.heap.size W w'→Holds w' (iU bc p aC aF aA av i aJ pG aI bs bt)):=Lib.hid (fun w' hb=>(HX.out.next hb).2.2.2.2.2.2.2.2.2.2.2.2)
 clear hp dL hh hin
 have L0: ∀w',Below W.heap.size W w'→w'.cell? ⟨w.heap.size,0,none⟩=some (.int .i64 h.op):=fun w' hb=>(HX.out.next hb).2.1.2
 have L2: ∀w',Below W.heap.size W w'→w'.cell? ⟨w.heap.size,2,none⟩=some (.string h.nm):=fun w' hb=>(HX.out.next hb).2.2.2.1.2
 have L3: ∀w',Below W.heap.size W w'→w'.cell? ⟨w.heap.size,3,none⟩=some (.string h.arg):=fun w' hb=>(HX.out.next hb).2.2.2.2.1.2
 have L4: ∀w',Below W.heap.size W w'→w'.cell? ⟨w.heap.size,4,none⟩=some (.slice fU h.idx.len eG):=fun w' hb=>(HX.out.next hb).2.2.2.2.2.1.2
 have L5: ∀w',Below W.heap.size W w'→w'.cell? ⟨w.heap.size,5,none⟩=some (.int .i64 h.dU):=fun w' hb=>(HX.out.next hb).2.2.2.2.2.2.1.2
 have L6: ∀w',Below W.heap.size W w'→w'.cell? ⟨w.heap.size,6,none⟩=some (.int .i64 h.xn):=fun w' hb=>(HX.out.next hb).2.2.2.2.2.2.2.1.2
 have L7: ∀w',Below W.heap.size W w'→w'.cell? ⟨w.heap.size,7,none⟩=some (.string h.dV):=fun w' hb=>(HX.out.next hb).2.2.2.2.2.2.2.2.1.2
 have L8: ∀w',Below W.heap.size W w'→w'.cell? ⟨w.heap.size,8,none⟩=some (.slice dW h.bq.len cB):=fun w' hb=>(HX.out.next hb).2.2.2.2.2.2.2.2.2.1.2
 have l4:=L4 W (Below.refl _ _)
 cases hix:h.idx with
 | nil=>
   have h0:h.idx.len=0:=by rw [hix]; rfl
   have HF:=Lib.hid (HE.out.trans (if_pos (by rw [h0]; rfl)))
   rw [h0] at l4
   clear HE hix L4 h0
   go_upto_region 2 with fail
   refine mY (fun w'=>Below W.heap.size W w') (fun w w'=>Below w.heap.size w w') [9,10,11,12,13,14,15,16,17,18,19,4] (by kernel_rfl) (by kernel_rfl) (fun _=>Below.refl _ _) (by rfl) (below_drewN (Below.refl _ _) 1) ?_
   apply aP.step
   case aB=>
    intro β A w' hβ hC hO hD
    have e0:=hO 0 (by rfl)
    have e3:=hO 3 (by rfl)
    simp [Act.eval] at e0 e3
    simp [au,ah,aj,Act.eval,Region.binds] at hD
    simp [go_sem,gd,Oper.wp,e0,e3,hD]
    exact ak.mk (Below.refl _ _) hC (ah.mk _ _)
   apply aP.step
   case aB=>
    intro β A w' hβ hC hO hD
    have e0:=hO 0 (by rfl)
    have e3:=hO 3 (by rfl)
    simp [Act.eval] at e0 e3
    simp [au,ah,aj,Act.eval,Region.binds] at hD
    simp [go_sem,gd,Oper.wp,e0,e3,hD]
    exact ak.mk (Below.refl _ _) hC (ah.mk _ _)
   apply aP.step
   case aB=>
    intro β A w' hβ hC hO hD
    have e0:=hO 0 (by rfl)
    have e3:=hO 3 (by rfl)
    simp [Act.eval] at e0 e3
    simp [au,ah,aj,Act.eval,Region.binds] at hD
    simp [go_sem,gd,Oper.wp,e0,e3,hD,L2,hC]
    exact ak.mk (Below.refl _ _) hC (ah.mk _ _)
   refine aP.some (fun v w'=> ∃b,v= .slice (some ⟨b,0,none⟩) 2 2∧eD w' w'.heap.size [1,2] (some ⟨b,0,none⟩) 0) ?_ ?_ ?_
   ·rintro v w w' hle ⟨b,rfl,hin⟩
    exact ⟨b,rfl,hin.same hle⟩
   ·intro β A w' hβ hC hO hD
    simp [go_sem,gd,Oper.wp]
    exact ak.mk (d:=_) (v:= .slice (some ⟨_,0,none⟩) 2 2) (ay _ _) (hC.trans ((ay _ _).mono hC.size)) ⟨_,rfl,eU _ 1 2 _⟩
   apply aP.step
   case aB=>
    intro β A w' hβ hC hO hD
    simp [au,ah,aj,Act.eval,Region.binds] at hD
    obtain ⟨d9,mQ,b12,qj,Qb⟩:=hD
    simp [go_sem,gd,Oper.wp,d9,mQ,qj]
    refine (iC p w' aC aF aA av _ aJ _ aI bs bt bc h.nm [1,2] _ 2 hi (by decide) (HP.out.same hC) Qb (HK.out _ hC)).mono ?_
    rintro e' w2 ⟨rfl,hb⟩
    exact ak.mk hb (hC.trans (hb.mono hC.size)) (ah.mk _ _)
   apply aP.step
   case aB=>
    intro β A w' hβ hC hO hD
    have e0:=hO 0 (by rfl)
    have e3:=hO 3 (by rfl)
    simp [Act.eval] at e0 e3
    simp [au,ah,aj,Act.eval,Region.binds] at hD
    simp [go_sem,gd,Oper.wp,e0,e3,hD]
    exact ak.mk (Below.refl _ _) hC (ah.mk _ _)
   apply aP.step
   case aB=>
    intro β A w' hβ hC hO hD
    have e0:=hO 0 (by rfl)
    have e3:=hO 3 (by rfl)
    simp [Act.eval] at e0 e3
    simp [au,ah,aj,Act.eval,Region.binds] at hD
    simp [go_sem,gd,Oper.wp,e0,e3,hD]
    exact ak.mk (Below.refl _ _) hC (ah.mk _ _)
   apply aP.step
   case aB=>
    intro β A w' hβ hC hO hD
    have e0:=hO 0 (by rfl)
    have e3:=hO 3 (by rfl)
    simp [Act.eval] at e0 e3
    simp [au,ah,aj,Act.eval,Region.binds] at hD
    simp [go_sem,gd,Oper.wp,e0,e3,hD,L5,L6,L7,L8,hC]
    exact ak.mk (Below.refl _ _) hC (ah.mk _ _)
   apply aP.step
   case aB=>
    intro β A w' hβ hC hO hD
    simp [au,ah,aj,Act.eval,Region.binds] at hD
    obtain ⟨nL,qg,-⟩:=hD
    simp [go_sem,gd,Oper.wp,nL,qg]
    refine (oF p w' aC aF aA av _ aJ _ aI bs bt bc h.dU h.xn h.dV h.bq dW cB hi (HP.out.same hC) hxk (rG.out.same hC) (iW.out.same hC) (HK.out _ hC)).mono ?_
    rintro e' w2 ⟨rfl,hb⟩
    exact ak.mk hb (hC.trans (hb.mono hC.size)) (ah.mk _ _)
   refine aP.some (fun v w'=> ∃b,v= .slice (some ⟨b,0,none⟩) 2 2∧eD w' w'.heap.size [bC (mean p i h.nm) [1,2],iE p i h.dU h.xn h.dV h.bq] (some ⟨b,0,none⟩) 0) ?_ ?_ ?_
   ·rintro v w w' hle ⟨b,rfl,hin⟩
    exact ⟨b,rfl,hin.same hle⟩
   ·intro β A w' hβ hC hO hD
    simp [au,ah,aj,Act.eval,Region.binds] at hD
    simp [go_sem,gd,Oper.wp,hD]
    exact ak.mk (d:=_) (v:= .slice (some ⟨_,0,none⟩) 2 2) (ay _ _) (hC.trans ((ay _ _).mono hC.size)) ⟨_,rfl,eU _ _ _ _⟩
   apply aP.step
   case aB=>
    intro β A w' hβ hC hO hD
    simp [au,ah,aj,Act.eval,Region.binds] at hD
    obtain ⟨⟨b18,pJ,Qp⟩,-⟩:=hD
    simp [go_sem,gd,Oper.wp,pJ]
    refine (dJ [bC (mean p i h.nm) [1,2],iE p i h.dU h.xn h.dV h.bq] w' _ _ (by simp [maxLen]) Qp).mono ?_
    rintro e' w2 ⟨rfl,rfl⟩
    exact ak.mk (Below.refl _ _) hC (ah.mk _ _)
   apply aP.step
   case aB=>
    intro β A w' hβ hC hO hD
    have e0:=hO 0 (by rfl)
    have e3:=hO 3 (by rfl)
    simp [Act.eval] at e0 e3
    simp [au,ah,aj,Act.eval,Region.binds] at hD
    simp [go_sem,gd,Oper.wp,e0,e3,hD]
    exact ak.mk (Below.refl _ _) hC (ah.mk _ _)
   intro wz bK
   intro v0 h0 v1 h1 v2 h2 v3 h3 v4 h4 v5 h5 v6 h6 v7 h7 v8 h8 v9 h9 v10 h10 v11 h11
   have zi:v11=_:=h11
   subst zi
   clear h0 h1 h2 h3 h4 h5 h6 h7 h8 h9 h10 h11
   refine bM.nil ?_
   go_wp2_with fail
   go_ret
   exact ⟨aS HF.out.symm,(HX.out.next bK).1⟩
 | cons op' n' nm' fq rest=>
   have hrow:=UF.out
   rw [hix] at hrow
   have HF:Hid (res=dR [bC (mean p i h.nm) [3],iE p i op' n' nm' fq,iE p i h.dU h.xn h.dV h.bq]):=Lib.hid (HE.out.trans ((if_neg (by rw [hix,decide_eq_true_iff]; simp only [bJ.len]; omega)).trans (by rw [hix]; rfl)))
   have hpos:0 < h.idx.len:=by rw [hix]; simp [bJ.len]
   have hpos':(0:Int) < h.idx.len:=by omega
   have hne0:((h.idx.len:Int) == 0)=false:=by rw [beq_eq_false_iff_ne]; omega
   obtain ⟨⟨b',off',jO,cap',rfl,ni,x0,x1,x2,x3,hok',jy⟩,-⟩:=hrow
   simp only [Nat.zero_mul,Nat.add_zero] at x0 x1 x2 x3
   have M0: ∀w',Below W.heap.size W w'→w'.cell? ⟨b',off',none⟩=some (.int .i64 op'):=fun w' hb=>(hb.cell (p:=⟨b',off',none⟩) ni).trans x0
   have M1: ∀w',Below W.heap.size W w'→w'.cell? ⟨b',off' + 1,none⟩=some (.int .i64 n'):=fun w' hb=>(hb.cell (p:=⟨b',off' + 1,none⟩) ni).trans x1
   have M2: ∀w',Below W.heap.size W w'→w'.cell? ⟨b',off' + 2,none⟩=some (.string nm'):=fun w' hb=>(hb.cell (p:=⟨b',off' + 2,none⟩) ni).trans x2
   have M3: ∀w',Below W.heap.size W w'→w'.cell? ⟨b',off' + 3,none⟩=some (.slice jO fq.len cap'):=fun w' hb=>(hb.cell (p:=⟨b',off' + 3,none⟩) ni).trans x3
   have Uq:=Lib.hid jy
   clear HE hix x0 x1 x2 x3 jy
   go_upto_region 3 with fail
   refine mY (fun w'=>Below W.heap.size W w') (fun w w'=>Below w.heap.size w w') [20,21,22,23,24,25,26,27,28,29,30,31,32,33,34,35,36,4] (by kernel_rfl) (by kernel_rfl) (fun _=>Below.refl _ _) (by rfl) (below_drewN (Below.refl _ _) 1) ?_
   apply aP.step
   case aB=>
    intro β A w' hβ hC hO hD
    have e0:=hO 0 (by rfl)
    have e3:=hO 3 (by rfl)
    simp [Act.eval] at e0 e3
    simp [au,ah,aj,Act.eval,Region.binds] at hD
    simp [go_sem,gd,Oper.wp,e0,e3,hD]
    exact ak.mk (Below.refl _ _) hC (ah.mk _ _)
   apply aP.step
   case aB=>
    intro β A w' hβ hC hO hD
    have e0:=hO 0 (by rfl)
    have e3:=hO 3 (by rfl)
    simp [Act.eval] at e0 e3
    simp [au,ah,aj,Act.eval,Region.binds] at hD
    simp [go_sem,gd,Oper.wp,e0,e3,hD]
    exact ak.mk (Below.refl _ _) hC (ah.mk _ _)
   apply aP.step
   case aB=>
    intro β A w' hβ hC hO hD
    have e0:=hO 0 (by rfl)
    have e3:=hO 3 (by rfl)
    simp [Act.eval] at e0 e3
    simp [au,ah,aj,Act.eval,Region.binds] at hD
    simp [go_sem,gd,Oper.wp,e0,e3,hD,L2,hC]
    exact ak.mk (Below.refl _ _) hC (ah.mk _ _)
   refine aP.some (fun v w'=> ∃b,v= .slice (some ⟨b,0,none⟩) 1 1∧eD w' w'.heap.size [3] (some ⟨b,0,none⟩) 0) ?_ ?_ ?_
   ·rintro v w w' hle ⟨b,rfl,hin⟩
    exact ⟨b,rfl,hin.same hle⟩
   ·intro β A w' hβ hC hO hD
    simp [go_sem,gd,Oper.wp]
    exact ak.mk (d:=_) (v:= .slice (some ⟨_,0,none⟩) 1 1) (ay _ _) (hC.trans ((ay _ _).mono hC.size)) ⟨_,rfl,fH _ 3 _⟩
   apply aP.step
   case aB=>
    intro β A w' hβ hC hO hD
    simp [au,ah,aj,Act.eval,Region.binds] at hD
    obtain ⟨TG,Uk,Vb,UK,Qc⟩:=hD
    simp [go_sem,gd,Oper.wp,TG,Uk,UK]
    refine (iC p w' aC aF aA av _ aJ _ aI bs bt bc h.nm [3] _ 1 hi (by decide) (HP.out.same hC) Qc (HK.out _ hC)).mono ?_
    rintro e' w2 ⟨rfl,hb⟩
    exact ak.mk hb (hC.trans (hb.mono hC.size)) (ah.mk _ _)
   apply aP.step
   case aB=>
    intro β A w' hβ hC hO hD
    have e0:=hO 0 (by rfl)
    have e3:=hO 3 (by rfl)
    simp [Act.eval] at e0 e3
    simp [au,ah,aj,Act.eval,Region.binds] at hD
    simp [go_sem,gd,Oper.wp,e0,e3,hD]
    exact ak.mk (Below.refl _ _) hC (ah.mk _ _)
   apply aP.step
   case aB=>
    intro β A w' hβ hC hO hD
    have e0:=hO 0 (by rfl)
    have e3:=hO 3 (by rfl)
    simp [Act.eval] at e0 e3
    simp [au,ah,aj,Act.eval,Region.binds] at hD
    simp [go_sem,gd,Oper.wp,e0,e3,hD]
    exact ak.mk (Below.refl _ _) hC (ah.mk _ _)
   apply aP.step
   case aB=>
    intro β A w' hβ hC hO hD
    have e0:=hO 0 (by rfl)
    have e3:=hO 3 (by rfl)
    simp [Act.eval] at e0 e3
    simp [au,ah,aj,Act.eval,Region.binds] at hD
    simp [go_sem,gd,Oper.wp,e0,e3,hD,L4,hC]
    exact ak.mk (Below.refl _ _) hC (ah.mk _ _)
   apply aP.step
   case aB=>
    intro β A w' hβ hC hO hD
    have e0:=hO 0 (by rfl)
    have e3:=hO 3 (by rfl)
    simp [Act.eval] at e0 e3
    simp [au,ah,aj,Act.eval,Region.binds] at hD
    simp [go_sem,gd,Oper.wp,e0,e3,hD,hpos,hpos']
    exact ak.mk (Below.refl _ _) hC (ah.mk _ _)
   apply aP.step
   case aB=>
    intro β A w' hβ hC hO hD
    have e0:=hO 0 (by rfl)
    have e3:=hO 3 (by rfl)
    simp [Act.eval] at e0 e3
    simp [au,ah,aj,Act.eval,Region.binds] at hD
    simp [go_sem,gd,Oper.wp,e0,e3,hD,M0,M1,M2,M3,hC]
    exact ak.mk (Below.refl _ _) hC (ah.mk _ _)
   apply aP.step
   case aB=>
    intro β A w' hβ hC hO hD
    simp [au,ah,aj,Act.eval,Region.binds] at hD
    obtain ⟨UJ,Uj,-⟩:=hD
    simp [go_sem,gd,Oper.wp,UJ,Uj]
    refine (oF p w' aC aF aA av _ aJ _ aI bs bt bc op' n' nm' fq jO cap' hi (HP.out.same hC) hok' (Uq.out.same hC) (iW.out.same hC) (HK.out _ hC)).mono ?_
    rintro e' w2 ⟨rfl,hb⟩
    exact ak.mk hb (hC.trans (hb.mono hC.size)) (ah.mk _ _)
   apply aP.step
   case aB=>
    intro β A w' hβ hC hO hD
    have e0:=hO 0 (by rfl)
    have e3:=hO 3 (by rfl)
    simp [Act.eval] at e0 e3
    simp [au,ah,aj,Act.eval,Region.binds] at hD
    simp [go_sem,gd,Oper.wp,e0,e3,hD]
    exact ak.mk (Below.refl _ _) hC (ah.mk _ _)
   apply aP.step
   case aB=>
    intro β A w' hβ hC hO hD
    have e0:=hO 0 (by rfl)
    have e3:=hO 3 (by rfl)
    simp [Act.eval] at e0 e3
    simp [au,ah,aj,Act.eval,Region.binds] at hD
    simp [go_sem,gd,Oper.wp,e0,e3,hD]
    exact ak.mk (Below.refl _ _) hC (ah.mk _ _)
   apply aP.step
   case aB=>
    intro β A w' hβ hC hO hD
    have e0:=hO 0 (by rfl)
    have e3:=hO 3 (by rfl)
    simp [Act.eval] at e0 e3
    simp [au,ah,aj,Act.eval,Region.binds] at hD
    simp [go_sem,gd,Oper.wp,e0,e3,hD,L5,L6,L7,L8,hC]
    exact ak.mk (Below.refl _ _) hC (ah.mk _ _)
   apply aP.step
   case aB=>
    intro β A w' hβ hC hO hD
    simp [au,ah,aj,Act.eval,Region.binds] at hD
    obtain ⟨Uw,UG,-⟩:=hD
    simp [go_sem,gd,Oper.wp,Uw,UG]
    refine (oF p w' aC aF aA av _ aJ _ aI bs bt bc h.dU h.xn h.dV h.bq dW cB hi (HP.out.same hC) hxk (rG.out.same hC) (iW.out.same hC) (HK.out _ hC)).mono ?_
    rintro e' w2 ⟨rfl,hb⟩
    exact ak.mk hb (hC.trans (hb.mono hC.size)) (ah.mk _ _)
   refine aP.some (fun v w'=> ∃b,v= .slice (some ⟨b,0,none⟩) 3 3∧eD w' w'.heap.size [bC (mean p i h.nm) [3],iE p i op' n' nm' fq,iE p i h.dU h.xn h.dV h.bq] (some ⟨b,0,none⟩) 0) ?_ ?_ ?_
   ·rintro v w w' hle ⟨b,rfl,hin⟩
    exact ⟨b,rfl,hin.same hle⟩
   ·intro β A w' hβ hC hO hD
    simp [au,ah,aj,Act.eval,Region.binds] at hD
    simp [go_sem,gd,Oper.wp,hD]
    exact ak.mk (d:=_) (v:= .slice (some ⟨_,0,none⟩) 3 3) (ay _ _) (hC.trans ((ay _ _).mono hC.size)) ⟨_,rfl,mH _ _ _ _ _⟩
   apply aP.step
   case aB=>
    intro β A w' hβ hC hO hD
    simp [au,ah,aj,Act.eval,Region.binds] at hD
    obtain ⟨⟨Vm,Uu,Q9⟩,-⟩:=hD
    simp [go_sem,gd,Oper.wp,Uu]
    refine (dJ [bC (mean p i h.nm) [3],iE p i op' n' nm' fq,iE p i h.dU h.xn h.dV h.bq] w' _ _ (by simp [maxLen]) Q9).mono ?_
    rintro e' w2 ⟨rfl,rfl⟩
    exact ak.mk (Below.refl _ _) hC (ah.mk _ _)
   apply aP.step
   case aB=>
    intro β A w' hβ hC hO hD
    have e0:=hO 0 (by rfl)
    have e3:=hO 3 (by rfl)
    simp [Act.eval] at e0 e3
    simp [au,ah,aj,Act.eval,Region.binds] at hD
    simp [go_sem,gd,Oper.wp,e0,e3,hD]
    exact ak.mk (Below.refl _ _) hC (ah.mk _ _)
   intro wz bK
   intro v0 h0 v1 h1 v2 h2 v3 h3 v4 h4 v5 h5 v6 h6 v7 h7 v8 h8 v9 h9 v10 h10 v11 h11 v12 h12 v13 mP v14 lG v15 oJ v16 h16 v17 sj
   have Sz:v17=_:=sj
   subst Sz
   clear h0 h1 h2 h3 h4 h5 h6 h7 h8 h9 h10 h11 h12 mP lG oJ h16 sj
   refine bM.nil ?_
   go_wp2_with fail
   go_ret
   exact ⟨aS HF.out.symm,(HX.out.next bK).1⟩
end
end Go.Proofs.YtnknfoibmgphnaaDoor
end
section
namespace Go.Proofs.YtnknfoibmgphnaaDoor
open Go.RowKit
open Md
def ow (f:List UInt8→Bool) (l:List UInt8):List UInt8→Bool:=fun x=>if x=l then true else f x
def iN (b:Bool):Int:=if b then 8 else 0
def JX (nm:ByteArray) (w:World) (bs n:Nat) (f:List UInt8→Bool) (e:Ending) (w':World):Prop:=
 e= .returned (.int .i64 (iN (f nm.toList)))∧iL w' bs (n + 1) (ow f nm.toList)∧w.grownBy w' (some bs)
set_option maxRecDepth 100000 in
theorem wm (nm:ByteArray) (w:World) (bs n:Nat) (f:List UInt8→Bool) (hn:n < maxLen) (hs:nm.size≤maxLen) (hm:iL w bs n f):
 Calls Tryd.prog 65 #[.map (some bs),.string nm] w (JX nm w bs n f):=by
 have HM:=Lib.hid hm
 have hlk:=hm.look nm hs
 clear hm
 cases hf:f nm.toList
 ·obtain ⟨w4,hup,uF,hg4⟩:=HM.out.put hn nm hs true
  have lZ:=Lib.hid uF
  have HG:=Lib.hid hg4
  clear uF hg4 hn hs
  go_enter Tryd.func65,Tryd.ntmps65
  go_wp2_with fail
  go_ret
  exact ⟨by rw [hf]; rfl,lZ.out,HG.out⟩
 ·have lZ:Hid (iL w bs (n + 1) (ow f nm.toList)):=Lib.hid (by
   obtain ⟨D,h1,h2⟩:=HM.out
   refine ⟨D,h1.mono (by omega),fun l=> ?_⟩
   rw [h2]; unfold ow; by_cases h:l=nm.toList
   ·rw [if_pos h,h,hf]
   ·rw [if_neg h])
  clear hn hs
  go_enter Tryd.func65,Tryd.ntmps65
  go_wp2_with fail
  go_ret
  exact ⟨by rw [hf]; rfl,lZ.out,⟨rfl,rfl,rfl,Nat.le_refl _,fun _ _ _=>rfl⟩⟩
end Go.Proofs.YtnknfoibmgphnaaDoor
end
