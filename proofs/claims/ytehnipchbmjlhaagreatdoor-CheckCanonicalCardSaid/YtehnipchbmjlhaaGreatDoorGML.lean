/-
  Contract of check.count.
  Contract of check.Program.
-/
import Derived.Test.YtehnipchbmjlhaaGreatDoorGMC
import Derived.IntWalk
import Derived.Deep.RegionWith
import Derived.Test.YtehnipchbmjlhaaGreatDoorGMK
import Derived.Test.YtehnipchbmjlhaaGreatDoorGME
set_option linter.unusedSimpArgs false
set_option linter.unusedVariables false
set_option maxHeartbeats 40000000
set_option maxRecDepth 1000000
section
namespace Go.Proofs.YtehnipchbmjlhaaGreatDoor
open Go.RowKit
namespace Md
def wZ:aN→Int→Int
 | .nil,n=>n
 | .cons _ b e r,n=>wZ r (wrap64 (n + (wZ b b.len + wZ e e.len)))
def EM (l:aN):Int:=wZ l l.len
end Md
open Md
theorem U1 (n x:Int):wrap64 (n + wrap64 x)=wrap64 (n + x):=by
 unfold wrap64; omega
def uz (l:aN):Prop:= ∀(w:World) (ao:Option Addr) (cap:Nat),l.len≤maxLen→l.At w w.heap.size ao 0→
 Calls Tryz.prog 57 #[.slice ao l.len cap] w fun e w'=>e= .returned (.int .i64 (EM l))∧Below w.heap.size w w'
theorem Cy (l:aN) (hall:l.All fun _ b e=>uz b∧uz e):uz l:=by
 intro w ao cap hl hat
 generalize hres:EM l=res
 have HR:=Lib.hid hres
 have HAT:=Lib.hid hat
 have jv:=Lib.hid hall
 unfold maxLen at hl
 clear hres hat hall
 go_enter Tryz.func57,Tryz.ntmps57
 go_wp2_with fail
 go_loopw [3,5,10] (fun s3 _ s wr=> ∃(k:Nat) (R:aN) (n:Int),s= .int .i64 k∧s3= .int .i64 n∧k + R.len=l.len∧res=wZ R n∧(R.All fun _ b e=>uz b∧uz e)∧R.At wr wr.heap.size ao k∧Below w.heap.size w wr) (fun _ _ s _=>l.len - (intOf s).toNat)
 case atStart=>exact ⟨0,l,l.len,rfl,rfl,by simp,HR.out.symm,jv.out,HAT.out,Below.refl _ _⟩
 case round=>
  obtain ⟨k,R,n,rfl,rfl,hlen,heq,pK,hrow,hB⟩:=hrel
  have HE:=Lib.hid heq
  have HB:=Lib.hid hB
  clear heq hB
  cases R with
  | nil=>
    obtain rfl:k=l.len:=by simpa [aN.len] using hlen
    go_wp2_with fail
    go_ret
    exact ⟨bU HE.out.symm,HB.out⟩
  | cons h b e R=>
    obtain ⟨bl,off,s,rfl,hbl,hin,x0,x1,x2,x3,x4,x5,x6,x7,x8,x9,x10,hrest⟩:=aN.At.head hrow
    obtain ⟨⟨hsb,hse⟩,GL⟩:=pK
    have Ai:=Lib.hid hsb
    have DY:=Lib.hid hse
    have jD:=Lib.hid hin
    have hkl:k < l.len:=by simp only [aN.len] at hlen; omega
    clear hrow hin hsb hse
    go_upto_region 5 with fail
    obtain ⟨nb,hnb⟩: ∃n,wr.heap.size=n:=⟨_,rfl⟩
    generalize hW2:World.alloc wr _=W2
    have HY:Hid (Sit wr W2 (nN nb h b e s [])):=Lib.hid (by rw [← hW2]; exact (Sit.start wr).gF hnb _ _ _ _ _ _ _ _ _ _ _ _)
    rw [hnb]
    clear hW2 hnb x0 x1 x2 x3 x4 x5 x6 x7 x8 x9 x10
    obtain ⟨T,F,yO,hst,hF,hnext⟩:=calm W2
    have HF:=Lib.hid hF
    have fZ:=Lib.hid hnext
    clear hnext hF
    have d0:=fun x=>(HY.out.next (HF.out x)).2.1.2
    have d1:=fun x=>(HY.out.next (HF.out x)).2.2.1.2
    have d2:=fun x=>(HY.out.next (HF.out x)).2.2.2.1.2
    have d3:=fun x=>(HY.out.next (HF.out x)).2.2.2.2.1.2
    have d4:=fun x=>(HY.out.next (HF.out x)).2.2.2.2.2.1.2
    have d5:=fun x=>(HY.out.next (HF.out x)).2.2.2.2.2.2.1.2
    have d6:=fun x=>(HY.out.next (HF.out x)).2.2.2.2.2.2.2.1.2
    have d7:=fun x=>(HY.out.next (HF.out x)).2.2.2.2.2.2.2.2.1.2
    have d8:=fun x=>(HY.out.next (HF.out x)).2.2.2.2.2.2.2.2.2.1.2
    have d9:=fun x=>(HY.out.next (HF.out x)).2.2.2.2.2.2.2.2.2.2.1.2
    have mh:=fun x=>(HY.out.next (HF.out x)).2.2.2.2.2.2.2.2.2.2.2.1.2
    clear d0 d1 d2 d3 d4 d5 d6 d7 d8
    refine iZ F (by kernel_rfl) (by kernel_rfl) hst ?_
    repeat (any_goals (first | go_big_quiet_step ((first | (go_at_call_of 57 (Value.slice s.bG b.len s.aS); refine (Ai.out _ s.bG s.aS jD.out.1.2.2.2.2.2.2.1 ((jD.out.same HY.out.1).same (HF.out _)).2.2.2.1).mono ?_; rintro e w' ⟨rfl,hb⟩; exact ⟨rfl,fZ.out _ _ hb⟩) | (go_at_call_of 57 (Value.slice s.dw e.len s.bR); refine (DY.out _ s.dw s.bR jD.out.1.2.2.2.2.2.2.2 ((jD.out.same HY.out.1).same (HF.out _)).2.2.2.2).mono ?_; rintro e w' ⟨rfl,hb⟩; exact ⟨rfl,fZ.out _ _ hb⟩))) | (refine wpQuiet_step (fun K hK=> ?_); go_simp; first | (refine hK _ ?_; clear hK K) | (split <;> first | (refine hK _ ?_; clear hK K) | (apply Exists.intro; refine ⟨fun _=> ?_,hK _ ?_⟩; ((first | (go_at_call_of 57 (Value.slice s.bG b.len s.aS); refine (Ai.out _ s.bG s.aS jD.out.1.2.2.2.2.2.2.1 ((jD.out.same HY.out.1).same (HF.out _)).2.2.2.1).mono ?_; rintro e w' ⟨rfl,hb⟩; exact ⟨rfl,fZ.out _ _ hb⟩) | (go_at_call_of 57 (Value.slice s.dw e.len s.bR); refine (DY.out _ s.dw s.bR jD.out.1.2.2.2.2.2.2.2 ((jD.out.same HY.out.1).same (HF.out _)).2.2.2.2).mono ?_; rintro e w' ⟨rfl,hb⟩; exact ⟨rfl,fZ.out _ _ hb⟩))); clear hK K)))))
    all_goals (refine wpQuiet_nil ?_; rintro _ ⟨x,rfl⟩)
    have HB2:=Lib.hid (HY.out.1.trans ((HF.out x).mono HY.out.1.size))
    clear d9 mh HF fZ hst
    generalize F x=W3 at *
    go_wp2_with fail
    go_roundw
    case rel=>exact ⟨k + 1,R,_,by go_num,rfl,by simp only [aN.len] at hlen; omega,HE.out.trans (show wZ R (wrap64 (n + (EM b + EM e)))=_ by rw [← U1]),GL,hrest.same HB2.out,HB.out.trans (HB2.out.mono HB.out.size)⟩
    case measure=>simp [intOf]; omega
theorem NG (l:aN):uz l:=Cy l (aN.oo (fun _ b e hb he=>⟨Cy b hb,Cy e he⟩) l)
end Go.Proofs.YtehnipchbmjlhaaGreatDoor
end
section
namespace Go.Proofs.YtehnipchbmjlhaaGreatDoor
open Go.RowKit
namespace Md
def iC:List Th→Int→Int
 | [],n=>n
 | t ::r,n=>iC r (wrap64 (n + EM t.body))
theorem Gx: ∀(ds pre:List De) (c l n f:Int),(∀d ∈ ds,fG d=true)→(mG ds pre c l n f).1=0→c + l + n + f≤20→(ds.length:Int) + (c + l + n + f)≤20
 | [],_,_,_,_,_,_,_,h=>by simpa using h
 | d ::r,pre,c,l,n,f,hs,h0,h=>by
   have hd:=CP (hs d (by simp))
   rw [G5] at h0
   split at h0
   ·simp at h0
   split at h0
   ·simp at h0
   split at h0
   ·simp at h0
   rename_i hlim
   split at h0
   ·simp at h0
   split at h0
   ·simp at h0
   have hl:dc d c≤12∧dl d l≤4∧dn d n≤2∧df d f≤2:=by
    unfold lim at hlim
    simp only [Bool.or_eq_true,decide_eq_true_eq,not_or] at hlim
    omega
   have ih:=Gx r (pre++[d]) _ _ _ _ (fun x hx=>hs x (by simp [hx])) h0 (by omega)
   have hsum:c + l + n + f + 1≤dc d c + dl d l + dn d n + df d f:=by
    unfold dc dl dn df
    have hk:d.kind=1∨d.kind=2∨d.kind=3∨d.kind=4∨d.kind=5∨d.kind=6:=by omega
    rcases hk with hk | hk | hk | hk | hk | hk <;> simp [hk] <;> omega
   simp only [List.length_cons]
   omega
def kY (p:Pr):ByteArray:=(p.ts.head?.map (·.nm)).getD ⟨#[]⟩
def rU (p:Pr):Int × Int:=
 if !nQ p then (3,0) else if (mG p.ds [] 0 0 0 0).1 != 0 then mG p.ds [] 0 0 0 0 else
 if decide ((4:Int) < p.ts.length) then (2,0) else if (nP p).1 != 0 then nP p else
 if decide (60 < iC p.ts 0) then (2,0) else ((ko p (kY p) p.ts 0 [] []).err,(ko p (kY p) p.ts 0 [] []).line)
end Md
open Md
theorem xg (p:Pr) (w:World) (aH aI:Option Addr) (aC aD:Nat) (hp:p.At w aH aI) (cZ:cO w):
 Calls Tryz.prog 25 #[.agg #[.slice aH p.ds.length aC,.slice aI p.ts.length aD]] w fun e w'=>e= .returned (.tuple #[.int .i64 (rU p).1,.int .i64 (rU p).2])∧Below w.heap.size w w':=by
 have HS:Hid (rU p=if !nQ p then (3,0) else if (mG p.ds [] 0 0 0 0).1 != 0 then mG p.ds [] 0 0 0 0 else
  if decide ((4:Int) < p.ts.length) then (2,0) else if (nP p).1 != 0 then nP p else
  if decide (60 < iC p.ts 0) then (2,0) else ((ko p (kY p) p.ts 0 [] []).err,(ko p (kY p) p.ts 0 [] []).line)):=Lib.hid rfl
 generalize rU p=res at *
 have hld:=hp.1
 have hlt:=hp.2.1
 unfold maxLen at hld hlt
 have HP:=Lib.hid hp
 have ig:=Lib.hid cZ
 clear hp cZ
 go_enter Tryz.func25,Tryz.ntmps25
 go_upto_region 1 with fail
 generalize hW:World.alloc w _=W
 generalize Value.agg #[_,_]=a0
 have HX:=Lib.hid ((Sit.start w).zf rfl (.slice aH p.ds.length aC) (.slice aI p.ts.length aD) 26)
 rw [hW] at HX
 clear hW
 obtain ⟨-,⟨-,c0⟩,⟨-,c1⟩,-⟩:=HX.out
 go_wp2_with fail
 refine (Mw p _ aH aI aC aD (HP.out.same HX.out.1) (ig.out.same HX.out.1)).mono ?_
 rintro e w1 ⟨rfl,hb1⟩
 have HY:=Lib.hid (HX.out.next hb1)
 clear HX hb1 c0 c1
 obtain ⟨-,⟨-,c0⟩,⟨-,c1⟩,-⟩:=HY.out
 have uR:Hid (nQ p=true→(∀d ∈ p.ds,fG d=true)∧ ∃t0 r0,p.ts=t0 ::r0):=Lib.hid (fun h=>by
  unfold nQ at h
  simp only [Bool.and_eq_true,List.all_eq_true,decide_eq_true_eq] at h
  refine ⟨h.1.1,?_⟩
  cases hts:p.ts with
  | nil=>rw [hts] at h; simp at h
  | cons a b=>exact ⟨a,b,rfl⟩)
 cases hS:nQ p
 ·have HE:Hid (res=(3,0)):=Lib.hid (HS.out.trans (by rw [hS]; rfl))
  clear uR
  go_wp2_with fail
  go_ret2
  exact ⟨tq (by rw [HE.out]; rfl) (by rw [HE.out]; rfl),HY.out.1⟩
 ·have HE:Hid (res=if (mG p.ds [] 0 0 0 0).1 != 0 then mG p.ds [] 0 0 0 0 else
   if decide ((4:Int) < p.ts.length) then (2,0) else if (nP p).1 != 0 then nP p else
   if decide (60 < iC p.ts 0) then (2,0) else ((ko p (kY p) p.ts 0 [] []).err,(ko p (kY p) p.ts 0 [] []).line)):=Lib.hid (HS.out.trans (by rw [hS]; rfl))
  have Fz:=Lib.hid (uR.out hS)
  have Fb:Hid ((mG p.ds [] 0 0 0 0).1=0→p.ds.length≤20):=Lib.hid (fun h0=>by
   have:=Gx p.ds [] 0 0 0 0 Fz.out.1 h0 (by omega); omega)
  clear HS uR
  go_wp2_with fail
  refine (C9 p.ds _ aH aC HP.out.1 ((HP.out.same HY.out.1).2.2.1) Fz.out.1).mono ?_
  rintro e w2 ⟨rfl,hb2⟩
  have HZ:=Lib.hid (HY.out.next hb2)
  clear HY hb2 c0 c1
  obtain ⟨-,⟨-,c0⟩,⟨-,c1⟩,-⟩:=HZ.out
  generalize mG p.ds [] 0 0 0 0=dd at *
  cases h1:(dd.1 != 0)
  case true=>
   have fQ:Hid (res=dd):=Lib.hid (HE.out.trans (if_pos h1))
   clear HE Fz Fb
   go_wp2_with fail
   go_ret2
   exact ⟨tq (by rw [fQ.out]; rfl) (by rw [fQ.out]; rfl),HZ.out.1⟩
  have ZQ:=Lib.hid (Fb.out (by simpa using h1))
  clear Fb
  have uN:Hid (res=if decide ((4:Int) < p.ts.length) then (2,0) else if (nP p).1 != 0 then nP p else
   if decide (60 < iC p.ts 0) then (2,0) else ((ko p (kY p) p.ts 0 [] []).err,(ko p (kY p) p.ts 0 [] []).line)):=Lib.hid (HE.out.trans (if_neg (by rw [h1]; decide)))
  clear HE
  by_cases h4:(4:Int) < (p.ts.length:Int)
  ·have fQ:Hid (res=(2,0)):=Lib.hid (uN.out.trans (if_pos (by simpa using h4)))
   clear uN Fz
   go_wp2_with fail
   go_ret2
   exact ⟨tq (by rw [fQ.out]; rfl) (by rw [fQ.out]; rfl),HZ.out.1⟩
  have HE2:Hid (res=if (nP p).1 != 0 then nP p else
   if decide (60 < iC p.ts 0) then (2,0) else ((ko p (kY p) p.ts 0 [] []).err,(ko p (kY p) p.ts 0 [] []).line)):=Lib.hid (uN.out.trans (if_neg (by simpa using h4)))
  have h4':(p.ts.length:Int)≤4:=by omega
  have OM:Hid (p.ts.length≤4):=Lib.hid (by omega)
  clear uN
  go_wp2_with fail
  refine (JC p _ aH aI aC aD (HP.out.same HZ.out.1) (by have:=ZQ.out; have:=OM.out; unfold maxLen; omega)).mono ?_
  rintro e w3 ⟨rfl,hb3⟩
  have HV:=Lib.hid (HZ.out.next hb3)
  clear HZ hb3 c0 c1 h1
  obtain ⟨-,⟨-,c0⟩,⟨-,c1⟩,-⟩:=HV.out
  generalize nP p=tt at *
  cases h2:(tt.1 != 0)
  case true=>
   have fQ:Hid (res=tt):=Lib.hid (HE2.out.trans (if_pos h2))
   clear HE2 Fz
   go_wp2_with fail
   go_ret2
   exact ⟨tq (by rw [fQ.out]; rfl) (by rw [fQ.out]; rfl),HV.out.1⟩
  have kH:Hid (res=if decide (60 < iC p.ts 0) then (2,0) else ((ko p (kY p) p.ts 0 [] []).err,(ko p (kY p) p.ts 0 [] []).line)):=Lib.hid (HE2.out.trans (if_neg (by rw [h2]; decide)))
  clear HE2
  have Xy:=(HP.out.same HV.out.1).2.2.2
  go_wp2_with fail
  go_loopw [8,10,40] (fun s8 _ s wr=> ∃(k:Nat) (R:List Th) (n:Int),s= .int .i64 k∧s8= .int .i64 n∧k + R.length=p.ts.length∧iC p.ts 0=iC R n∧iI wr wr.heap.size R aI k∧Sit w wr [(w.heap.size,0,(.slice aH p.ds.length aC)),(w.heap.size,1,(.slice aI p.ts.length aD))]) (fun _ _ s _=>p.ts.length - (intOf s).toNat)
  case atStart=>exact ⟨0,p.ts,0,rfl,rfl,by simp,rfl,Xy,HV.out⟩
  case round=>
   obtain ⟨k,R,n,rfl,rfl,hlen,heq,hrow,hsit⟩:=hrel
   have HU:=Lib.hid hsit
   have HQ:=Lib.hid heq
   clear hsit HV c0 c1 Xy heq h2
   obtain ⟨-,⟨-,c0⟩,⟨-,c1⟩,-⟩:=HU.out
   cases R with
   | nil=>
     obtain rfl:k=p.ts.length:=by simpa using hlen
     have HN:Hid (iC p.ts 0=n):=HQ
     by_cases h6:60 < n
     ·have fQ:Hid (res=(2,0)):=Lib.hid (kH.out.trans (if_pos (by rw [HN.out]; simpa using h6)))
      clear kH Fz
      go_wp2_with fail
      go_ret2
      exact ⟨tq (by rw [fQ.out]; rfl) (by rw [fQ.out]; rfl),HU.out.1⟩
     ·have h6':n≤60:=by omega
      obtain ⟨-,t0,r0,hts⟩:=Fz.out
      have XJ:=Lib.hid hts
      have HHN:Hid (kY p=t0.nm):=Lib.hid (by unfold kY; rw [hts]; rfl)
      have fQ:Hid (res=((ko p t0.nm p.ts 0 [] []).err,(ko p t0.nm p.ts 0 [] []).line)):=Lib.hid (kH.out.trans ((if_neg (by rw [HN.out]; simpa using h6)).trans (by rw [HHN.out])))
      clear kH Fz hts
      go_wp2_with fail
      refine (Jt p _ aH aI aC aD t0 r0 XJ.out (by have:=OM.out; unfold maxLen; omega) (by have:=ZQ.out; unfold maxLen; omega) (HP.out.same HU.out.1) (ig.out.same HU.out.1)).mono ?_
      rintro e w4 ⟨rfl,hb4⟩
      go_wp2_with fail
      go_ret2
      exact ⟨tq (by rw [fQ.out]; rfl) (by rw [fQ.out]; rfl),(HU.out.next hb4).1⟩
   | cons t R=>
     obtain ⟨⟨b,off,fC,dN,bG,aS,rfl,hB,x0,x1,x2,x3,hok,htx,hst,hcl⟩,hrest⟩:=hrow
     simp only [List.length_cons] at hlen
     have hkl:k < p.ts.length:=by omega
     have gV:=Lib.hid hok
     have HST:=Lib.hid hst
     clear hok htx hst hcl
     go_upto_region 15 with fail
     clear c0 c1
     obtain ⟨n2,hn2⟩: ∃n,wr.heap.size=n:=⟨_,rfl⟩
     generalize hW2:World.alloc wr _=W2
     have HB2:Hid (Below wr.heap.size wr W2):=Lib.hid (by rw [← hW2]; exact ah _ _)
     have HV:Hid (Sit w W2 ((n2,0,.string t.nm) ::(n2,1,.int .i64 t.line) ::(n2,2,.slice fC t.bH.length dN) ::(n2,3,.slice bG t.body.len aS) ::[(w.heap.size,0,(.slice aH p.ds.length aC)),(w.heap.size,1,(.slice (some ⟨b,off,none⟩) p.ts.length aD))])):=Lib.hid (by rw [← hW2]; exact HU.out.qU hn2 _ _ _ _ _)
     rw [hn2]
     clear hW2 hn2 x0 x1 x2 x3
     obtain ⟨-,⟨-,c0⟩,⟨-,c1⟩,⟨-,c2⟩,⟨-,c3⟩,⟨-,c4⟩,⟨-,c5⟩,-⟩:=HV.out
     go_wp2_with fail
     refine (NG t.body _ bG aS gV.out.2.2.2 (HST.out.same HB2.out)).mono ?_
     rintro e' w4 ⟨rfl,hb4⟩
     have jE:=Lib.hid (HB2.out.trans (hb4.mono HB2.out.size))
     clear hb4 c0 c1 c2 c3 c4 c5
     go_wp2_with fail
     go_roundw
     case rel=>exact ⟨k + 1,R,_,by go_num,rfl,by omega,HQ.out.trans rfl,hrest.same jE.out,HU.out.next jE.out⟩
     case measure=>simp [intOf]; omega
end Go.Proofs.YtehnipchbmjlhaaGreatDoor
end
