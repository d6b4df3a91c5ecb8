/-
  Contracts of the reference's At, DeclAt, ThreadAt, KindOf, want, Nodes, names, Expr.
-/
import Derived.Test.YtnknfoibmgphnaaDoorGME
namespace Go.Proofs.YtnknfoibmgphnaaDoor
open Go.RowKit
namespace Md
def fidx {α:Type} (f:α→Bool):List α→Nat→Int
 | [],_=> -1
 | x ::r,k=>if f x then (k:Int) else fidx f r (k + 1)
theorem lH {α:Type} (f:α→Bool): ∀(l:List α) (k:Nat),(fidx f l k= -1∧l.find? f=none∧l.any f=false)∨ ∃(j:Nat) (d:α) (r:List α),j < l.length∧fidx f l k=((k + j:Nat):Int)∧l.drop j=d ::r∧l.find? f=some d∧l.any f=true
 | [],_=>Or.inl ⟨rfl,rfl,rfl⟩
 | x ::r,k=>by
   cases h:f x
   ·rcases lH f r (k + 1) with ⟨h1,h2,h3⟩ | ⟨j,d,r',h0,h1,h2,h3,h4⟩
    ·exact Or.inl ⟨by simp [fidx,h,h1],by simp [h,h2],by simp [h,h3]⟩
    ·exact Or.inr ⟨j + 1,d,r',by simp; omega,by simp only [fidx,h]; rw [if_neg (by decide),h1]; omega,by simpa using h2,by simp [h,h3],by simp [h,h4]⟩
   ·exact Or.inr ⟨0,x,r,by simp,by simp [fidx,h],rfl,by simp [h],by simp [h]⟩
def AP (l:List ByteArray) (nm:ByteArray):Int:=fidx (fun s=>s.toList == nm.toList) l 0
def pF (l:List De) (nm:ByteArray):Int:=fidx (fun d=>d.nm.toList == nm.toList) l 0
def kY (l:List Th) (nm:ByteArray):Int:=fidx (fun t=>t.nm.toList == nm.toList) l 0
def conv (m:Int):Int:=if m == 0 then 0 else if m == 1 then 8 else if m == 9 then 9 else m - 1
def bR (k a b:Int):Int:=if k == 0 then 5 else if (k != a) && (k != b) then 6 else 0
theorem sN (p:Pr) (i:Int) (nm:ByteArray):0≤mean p i nm∧mean p i nm≤9:=by
 unfold mean lg lV
 split
 ·decide
 ·cases p.ds.find? (fun d=>d.nm.toList == nm.toList) with
  | none=>simp; split <;> decide
  | some d=>have:=nM d; simp; omega
theorem ten {m:Int} (h:0≤m∧m≤9):m=0∨m=1∨m=2∨m=3∨m=4∨m=5∨m=6∨m=7∨m=8∨m=9:=by omega
theorem wB {m a:Int} (hm:0≤m∧m≤9) (ha:0≤a∧a≤9):(conv m == conv a)=(m == a):=by
 rcases ten hm with rfl | rfl | rfl | rfl | rfl | rfl | rfl | rfl | rfl | rfl <;> rcases ten ha with rfl | rfl | rfl | rfl | rfl | rfl | rfl | rfl | rfl | rfl <;> rfl
theorem Ck {m:Int} (hm:0≤m∧m≤9):(conv m == 0)=(m == 0):=wB hm (a:=0) (by decide)
theorem Er (m a:Int) (hm:0≤m∧m≤9) (ha:0≤a∧a≤9):bR (conv m) (conv a) (conv a)=bC m [a]:=by
 unfold bR bC bne; rw [Ck hm,wB hm ha]
 simp only [List.any_cons,List.any_nil,Bool.or_false]; cases h:(m == a) <;> rfl
theorem Dr (m a b:Int) (hm:0≤m∧m≤9) (ha:0≤a∧a≤9) (hb:0≤b∧b≤9):bR (conv m) (conv a) (conv b)=bC m [a,b]:=by
 unfold bR bC bne; rw [Ck hm,wB hm ha,wB hm hb]
 simp only [List.any_cons,List.any_nil,Bool.or_false]; cases h:(m == a) <;> cases h':(m == b) <;> rfl
end Md
open Md
set_option maxHeartbeats 1000000 in
theorem kN (l:List ByteArray) (nm:ByteArray) (w:World) (ao:Option Addr) (cap:Nat) (hl:l.length≤maxLen) (hw:iD w w.heap.size l ao 0):
 Calls Tryd.prog 38 #[.slice ao l.length cap,.string nm] w fun e w'=>e= .returned (.int .i64 (AP l nm))∧w=w':=by
 unfold maxLen at hl
 go_enter Tryd.func38,Tryd.ntmps38
 go_wp2_with fail
 go_loop [5] (fun s=> ∃(k:Nat) (R:List ByteArray),s= .int .i64 k∧k + R.length=l.length∧AP l nm=fidx (fun s=>s.toList == nm.toList) R k∧iD w w.heap.size R ao k) (fun s=>l.length - (intOf s).toNat)
 case atStart=>exact ⟨0,l,rfl,by simp,rfl,hw⟩
 case round=>
  obtain ⟨k,R,rfl,hlen,heq,hrow⟩:=hrel
  have HE:=Lib.hid heq
  clear heq
  cases R with
  | nil=>
    obtain rfl:k=l.length:=by simpa using hlen
    go_wp2_with fail
    go_ret
    exact ⟨aS HE.out.symm,rfl⟩
  | cons s R=>
    obtain ⟨⟨b,off,rfl,hB,y0,hs⟩,hrest⟩:=hrow
    simp only [List.length_cons] at hlen
    have hkl:k < l.length:=by omega
    cases hc:(s.toList == nm.toList)
    ·have dA:=Lib.hid (HE.out.trans (if_neg (show ¬ (s.toList == nm.toList)=true by rw [hc]; decide)))
     go_wp2_with fail
     go_round
     case rel=>exact ⟨k + 1,R,by go_num,by omega,dA.out,hrest⟩
     case measure=>simp [intOf]; omega
    ·have dA:=Lib.hid (HE.out.trans (if_pos hc))
     go_wp2_with fail
     go_ret
     exact ⟨aS dA.out.symm,rfl⟩
set_option maxHeartbeats 1000000 in
theorem iP (l:List De) (nm:ByteArray) (w:World) (ao:Option Addr) (cap:Nat) (hl:l.length≤maxLen) (hw:iZ w w.heap.size l ao 0):
 Calls Tryd.prog 36 #[.slice ao l.length cap,.string nm] w fun e w'=>e= .returned (.int .i64 (pF l nm))∧w=w':=by
 unfold maxLen at hl
 go_enter Tryd.func36,Tryd.ntmps36
 go_wp2_with fail
 go_loop [5] (fun s=> ∃(k:Nat) (R:List De),s= .int .i64 k∧k + R.length=l.length∧pF l nm=fidx (fun d=>d.nm.toList == nm.toList) R k∧iZ w w.heap.size R ao k) (fun s=>l.length - (intOf s).toNat)
 case atStart=>exact ⟨0,l,rfl,by simp,rfl,hw⟩
 case round=>
  obtain ⟨k,R,rfl,hlen,heq,hrow⟩:=hrel
  have HE:=Lib.hid heq
  clear heq
  cases R with
  | nil=>
    obtain rfl:k=l.length:=by simpa using hlen
    go_wp2_with fail
    go_ret
    exact ⟨aS HE.out.symm,rfl⟩
  | cons s R=>
    obtain ⟨⟨b,off,rfl,hB,y0,y1,y2,y3,y4,y5,hs⟩,hrest⟩:=hrow
    simp only [List.length_cons] at hlen
    have hkl:k < l.length:=by omega
    cases hc:(s.nm.toList == nm.toList)
    ·have dA:=Lib.hid (HE.out.trans (if_neg (show ¬ (s.nm.toList == nm.toList)=true by rw [hc]; decide)))
     go_wp2_with fail
     go_round
     case rel=>exact ⟨k + 1,R,by go_num,by omega,dA.out,hrest⟩
     case measure=>simp [intOf]; omega
    ·have dA:=Lib.hid (HE.out.trans (if_pos hc))
     go_wp2_with fail
     go_ret
     exact ⟨aS dA.out.symm,rfl⟩
set_option maxHeartbeats 1000000 in
theorem kR (l:List Th) (nm:ByteArray) (w:World) (ao:Option Addr) (cap:Nat) (hl:l.length≤maxLen) (hw:iy w w.heap.size l ao 0):
 Calls Tryd.prog 37 #[.slice ao l.length cap,.string nm] w fun e w'=>e= .returned (.int .i64 (kY l nm))∧w=w':=by
 unfold maxLen at hl
 go_enter Tryd.func37,Tryd.ntmps37
 go_wp2_with fail
 go_loop [5] (fun s=> ∃(k:Nat) (R:List Th),s= .int .i64 k∧k + R.length=l.length∧kY l nm=fidx (fun d=>d.nm.toList == nm.toList) R k∧iy w w.heap.size R ao k) (fun s=>l.length - (intOf s).toNat)
 case atStart=>exact ⟨0,l,rfl,by simp,rfl,hw⟩
 case round=>
  obtain ⟨k,R,rfl,hlen,heq,hrow⟩:=hrel
  have HE:=Lib.hid heq
  clear heq
  cases R with
  | nil=>
    obtain rfl:k=l.length:=by simpa using hlen
    go_wp2_with fail
    go_ret
    exact ⟨aS HE.out.symm,rfl⟩
  | cons s R=>
    obtain ⟨⟨b,off,iQ,gy,bg,aT,rfl,hB,y0,y1,y2,y3,hs,ht,hst⟩,hrest⟩:=hrow
    simp only [List.length_cons] at hlen
    have hkl:k < l.length:=by omega
    clear hs ht hst
    cases hc:(s.nm.toList == nm.toList)
    ·have dA:=Lib.hid (HE.out.trans (if_neg (show ¬ (s.nm.toList == nm.toList)=true by rw [hc]; decide)))
     go_wp2_with fail
     go_round
     case rel=>exact ⟨k + 1,R,by go_num,by omega,dA.out,hrest⟩
     case measure=>simp [intOf]; omega
    ·have dA:=Lib.hid (HE.out.trans (if_pos hc))
     go_wp2_with fail
     go_ret
     exact ⟨aS dA.out.symm,rfl⟩
theorem Je {p:Pr} {i:Int} {nm:ByteArray} (h:lW (jQ p.ts i) nm=true):conv (mean p i nm)=8:=by unfold mean; rw [h]; rfl
theorem JL {p:Pr} {i:Int} {nm:ByteArray} {d:De} (h:lW (jQ p.ts i) nm=false) (hd:p.ds.find? (fun d=>d.nm.toList == nm.toList)=some d):conv (mean p i nm)=conv (fu d):=by
 unfold mean lg; rw [h,hd]; rfl
theorem Kk {p:Pr} {i:Int} {nm:ByteArray} {b:Bool} (h:lW (jQ p.ts i) nm=false) (hd:p.ds.find? (fun d=>d.nm.toList == nm.toList)=none) (ht:p.ts.any (fun t=>t.nm.toList == nm.toList)=b):conv (mean p i nm)=if b then 7 else 0:=by
 unfold mean lg lV; rw [h,hd,ht]; cases b <;> rfl
theorem J4 (d:De):conv (fu d)=if d.kind == 1 then (if d.size != 0 then 2 else 1) else if d.kind == 2 then 1 else if (d.kind == 3 || d.kind == 4) || (d.kind == 5 || d.kind == 6) then d.kind else 9:=by
 by_cases h1:d.kind=1
 ·by_cases h0:d.size=0 <;> simp [fu,conv,h1,h0]
 by_cases h2:d.kind=2
 ·simp [fu,conv,h2]
 by_cases h3:d.kind=3
 ·simp [fu,conv,h3]
 by_cases h4:d.kind=4
 ·simp [fu,conv,h4]
 by_cases h5:d.kind=5
 ·simp [fu,conv,h5]
 by_cases h6:d.kind=6
 ·simp [fu,conv,h6]
 simp [fu,conv,h1,h2,h3,h4,h5,h6]
set_option maxHeartbeats 2000000 in
theorem Gc (p:Pr) (i:Int) (nm:ByteArray) (w:World) (aC aF:Option Addr) (aA av:Nat) (hi:aX i) (hp:p.At w aC aF):
 Calls Tryd.prog 70 #[.agg #[.slice aC p.ds.length aA,.slice aF p.ts.length av],.int .i64 i,.string nm] w fun e w'=>e= .returned (.int .i64 (conv (mean p i nm)))∧Below w.heap.size w w':=by
 obtain ⟨i1,i2⟩:=hi
 have hld:=hp.1
 have hlt:=hp.2.1
 have Gl:=hp.1
 have hlt':=hp.2.1
 unfold maxLen at hld hlt
 have HP:=Lib.hid hp
 clear hp
 go_enter Tryd.func70,Tryd.ntmps70
 go_upto_region 1 with fail
 generalize hW:World.alloc w _=W
 generalize Value.agg #[_,_]=a0
 have HX:=Lib.hid ((Sit.start w).kC rfl (.slice aC p.ds.length aA) (.slice aF p.ts.length av) 26)
 rw [hW] at HX
 clear hW
 obtain ⟨-,⟨-,c0⟩,⟨-,c1⟩,-⟩:=HX.out
 go_cut [27] (fun s W2=>W=W2∧s= .bool (lW (jQ p.ts i) nm))
 case first=>
  cases hbi:decide (0≤i∧i < p.ts.length)
  ·have HN:Hid (lW (jQ p.ts i) nm=false):=Lib.hid (by rw [yX (by simpa using hbi)]; rfl)
   rcases (show i < 0∨(0≤i∧(p.ts.length:Int)≤i) by simp at hbi; omega) with h | ⟨h,h'⟩
   all_goals clear hbi
   all_goals go_wp2_with fail
   all_goals go_meet
   all_goals exact ⟨rfl,by rw [HN.out]⟩
  ·have Ob:0≤i∧i < p.ts.length:=by simpa using hbi
   clear hbi
   obtain ⟨j,rfl⟩:=Int.eq_ofNat_of_zero_le Ob.1
   have hj:j < p.ts.length:=by omega
   have hth:=(HP.out.same HX.out.1).2.2.2.drop j
   cases hd:p.ts.drop j with
   | nil=>exfalso; have:=congrArg List.length hd; simp at this; omega
   | cons t r=>
     rw [hd,Nat.zero_add] at hth
     have HL:=Lib.hid (Ao hd)
     clear hd Ob
     obtain ⟨⟨b,off,iQ,gy,bg,aT,rfl,hB,x0,x1,x2,x3,hok,htx,hst⟩,-⟩:=hth
     have hll:=hok.2.2.1
     clear hst hok
     go_wp2_with fail
     refine (kN t.bH nm _ iQ gy hll htx).mono ?_
     rintro e w2 ⟨rfl,rfl⟩
     rcases lH (fun s:ByteArray=>s.toList == nm.toList) t.bH 0 with ⟨h1,h2,h3⟩ | ⟨j',d,r',h0,h1,h2,h3,h4⟩
     ·have HT:Hid (lW (jQ p.ts j) nm=false):=Lib.hid (by rw [HL.out]; exact h3)
      have h1':AP t.bH nm= -1:=h1
      rw [h1']
      clear h1 h2 h3 h1'
      go_wp2_with fail
      go_meet
      exact ⟨rfl,by rw [HT.out]⟩
     ·have HT:Hid (lW (jQ p.ts j) nm=true):=Lib.hid (by rw [HL.out]; exact h4)
      have h1':AP t.bH nm=(j':Int):=by rw [← Nat.zero_add j']; exact h1
      rw [h1']
      clear h1 h2 h3 h1' h4
      go_wp2_with fail
      go_meet
      exact ⟨rfl,by rw [HT.out]⟩
 case rest=>
  obtain ⟨rfl,rfl⟩:=hcut
  cases hloc:lW (jQ p.ts i) nm
  ·go_wp2_with fail
   refine (iP p.ds nm _ aC aA Gl (HP.out.same HX.out.1).2.2.1).mono ?_
   rintro e w2 ⟨rfl,rfl⟩
   rcases lH (fun d:De=>d.nm.toList == nm.toList) p.ds 0 with ⟨h1,h2,h3⟩ | ⟨j',d,r',h0,h1,h2,h3,h4⟩
   ·have h1':pF p.ds nm= -1:=h1
    rw [h1']
    have HK:=Lib.hid (fun b ht=>Kk (b:=b) hloc h2 ht)
    clear h1 h2 h3 h1' hloc
    go_wp2_with fail
    refine (kR p.ts nm _ aF av hlt' (HP.out.same HX.out.1).2.2.2).mono ?_
    rintro e w2 ⟨rfl,rfl⟩
    rcases lH (fun d:Th=>d.nm.toList == nm.toList) p.ts 0 with ⟨h1,h2,h3⟩ | ⟨j',d,r',h0,h1,h2,h3,h4⟩
    ·have h1':kY p.ts nm= -1:=h1
     rw [h1']
     have NJ:=Lib.hid (HK.out _ h3)
     clear h1 h2 h3 h1' HK
     go_wp2_with fail
     go_ret
     exact ⟨aS NJ.out.symm,HX.out.1⟩
    ·have h1':kY p.ts nm=(j':Int):=by rw [← Nat.zero_add j']; exact h1
     rw [h1']
     have NJ:=Lib.hid (HK.out _ h4)
     clear h1 h2 h3 h1' h4 HK
     go_wp2_with fail
     go_ret
     exact ⟨aS NJ.out.symm,HX.out.1⟩
   ·have h1':pF p.ds nm=(j':Int):=by rw [← Nat.zero_add j']; exact h1
    rw [h1']
    have HK:=Lib.hid ((JL hloc h3).trans (J4 d))
    have hth:=(HP.out.same HX.out.1).2.2.1.drop j'
    rw [h2,Nat.zero_add] at hth
    obtain ⟨⟨b,off,rfl,hB,x0,x1,x2,x3,x4,x5,hok⟩,-⟩:=hth
    clear h1 h2 h3 h4 h1' hloc hok
    go_wp2_with fail
    all_goals go_ret
    all_goals refine ⟨aS (HK.out.trans ?_).symm,HX.out.1⟩
    all_goals (go_light; grind)
  ·have HK:=Lib.hid (Je hloc)
   go_wp2_with fail
   go_ret
   exact ⟨aS HK.out.symm,HX.out.1⟩
end Go.Proofs.YtnknfoibmgphnaaDoor
