/-
  Contract of check.count.
  Contract of check.Program.
-/
import Derived.Test.YtdajkddgnfgijaaGreatDoorGMC
import Derived.IntWalk
import Derived.Deep.RegionWith
import Derived.Test.YtdajkddgnfgijaaGreatDoorGMK
import Derived.Test.YtdajkddgnfgijaaGreatDoorGME
section
namespace Go.Proofs.YtdajkddgnfgijaaGreatDoor
open Go.RowKit
namespace Md
def EL:aP→Int→Int
 | .nil,n=>n
 | .cons _ b e r,n=>EL r (wrap64 (n + (EL b b.len + EL e e.len)))
def IJ (l:aP):Int:=EL l l.len
end Md
open Md
theorem TI (n x:Int):wrap64 (n + wrap64 x)=wrap64 (n + x):=by
 unfold wrap64; omega
def vI (l:aP):Prop:= ∀(w:World) (ao:Option Addr) (cap:Nat),l.len≤maxLen→l.At w w.heap.size ao 0→
 Calls Tryz.prog 69 #[.slice ao l.len cap] w fun e w'=>e= .returned (.int .i64 (IJ l))∧Below w.heap.size w w'
set_option maxHeartbeats 2000000 in
set_option maxRecDepth 100000 in
theorem Da (l:aP) (hall:l.All fun _ b e=>vI b∧vI e):vI l:=by
 intro w ao cap hl hat
 generalize hres:IJ l=res
 have HR:=Lib.hid hres
 have HAT:=Lib.hid hat
 have iZ:=Lib.hid hall
 unfold maxLen at hl
 clear hres hat hall
 go_enter Tryz.func69,Tryz.ntmps69
 go_wp2_with fail
 go_loopw [3,5,10] (fun s3 _ s wr=> ∃(k:Nat) (R:aP) (n:Int),s= .int .i64 k∧s3= .int .i64 n∧k + R.len=l.len∧res=EL R n∧(R.All fun _ b e=>vI b∧vI e)∧R.At wr wr.heap.size ao k∧Below w.heap.size w wr) (fun _ _ s _=>l.len - (intOf s).toNat)
 case atStart=>exact ⟨0,l,l.len,rfl,rfl,by simp,HR.out.symm,iZ.out,HAT.out,Below.refl _ _⟩
 case round=>
  obtain ⟨k,R,n,rfl,rfl,hlen,heq,vB,hrow,hB⟩:=hrel
  have HE:=Lib.hid heq
  have HB:=Lib.hid hB
  clear heq hB
  cases R with
  | nil=>
    obtain rfl:k=l.len:=by simpa [aP.len] using hlen
    go_wp2_with fail
    go_ret
    exact ⟨bG HE.out.symm,HB.out⟩
  | cons h b e R=>
    obtain ⟨bl,off,s,rfl,hbl,hin,x0,x1,x2,x3,x4,x5,x6,x7,x8,x9,x10,hrest⟩:=aP.At.head hrow
    obtain ⟨⟨hsb,hse⟩,GH⟩:=vB
    have Yc:=Lib.hid hsb
    have KO:=Lib.hid hse
    have jT:=Lib.hid hin
    have hkl:k < l.len:=by simp only [aP.len] at hlen; omega
    clear hrow hin hsb hse
    go_upto_region 5 with fail
    obtain ⟨nb,hnb⟩: ∃n,wr.heap.size=n:=⟨_,rfl⟩
    generalize hW2:World.alloc wr _=W2
    have HY:Hid (Sit wr W2 (ow nb h b e s [])):=Lib.hid (by rw [← hW2]; exact (Sit.start wr).lU hnb _ _ _ _ _ _ _ _ _ _ _ _)
    rw [hnb]
    clear hW2 hnb x0 x1 x2 x3 x4 x5 x6 x7 x8 x9 x10
    obtain ⟨T,F,PD,hst,hF,hnext⟩:=calm W2
    have HF:=Lib.hid hF
    have jo:=Lib.hid hnext
    clear hnext hF
    have d0:=fun x=>(HY.out.next (HF.out x)).2.1.2
    have d1:=fun x=>(HY.out.next (HF.out x)).2.2.1.2
    have d2:=fun x=>(HY.out.next (HF.out x)).2.2.2.1.2
    have d3:=fun x=>(HY.out.next (HF.out x)).2.2.2.2.1.2
    have d4:=fun x=>(HY.out.next (HF.out x)).2.2.2.2.2.1.2
    have d5:=fun x=>(HY.out.next (HF.out x)).2.2.2.2.2.2.1.2
    have d6:=fun x=>(HY.out.next (HF.out x)).2.2.2.2.2.2.2.1.2
    have d7:=fun x=>(HY.out.next (HF.out x)).2.2.2.2.2.2.2.2.1.2
    have d8:=fun x=>(HY.out.next (HF.out x)).2.2.2.2.2.2.2.2.2.1.2
    have d9:=fun x=>(HY.out.next (HF.out x)).2.2.2.2.2.2.2.2.2.2.1.2
    have mK:=fun x=>(HY.out.next (HF.out x)).2.2.2.2.2.2.2.2.2.2.2.1.2
    clear d0 d1 d2 d3 d4 d5 d6 d7 d8
    refine tO F (by kernel_rfl) (by kernel_rfl) hst ?_
    repeat (any_goals (first | go_big_quiet_step ((first | (go_at_call_of 69 (Value.slice s.bV b.len s.bC); refine (Yc.out _ s.bV s.bC jT.out.1.2.2.2.2.2.2.1 ((jT.out.same HY.out.1).same (HF.out _)).2.2.2.1).mono ?_; rintro e w' ⟨rfl,hb⟩; exact ⟨rfl,jo.out _ _ hb⟩) | (go_at_call_of 69 (Value.slice s.eB e.len s.dK); refine (KO.out _ s.eB s.dK jT.out.1.2.2.2.2.2.2.2 ((jT.out.same HY.out.1).same (HF.out _)).2.2.2.2).mono ?_; rintro e w' ⟨rfl,hb⟩; exact ⟨rfl,jo.out _ _ hb⟩))) | (refine wpQuiet_step (fun K hK=> ?_); go_simp; first | (refine hK _ ?_; clear hK K) | (split <;> first | (refine hK _ ?_; clear hK K) | (apply Exists.intro; refine ⟨fun _=> ?_,hK _ ?_⟩; ((first | (go_at_call_of 69 (Value.slice s.bV b.len s.bC); refine (Yc.out _ s.bV s.bC jT.out.1.2.2.2.2.2.2.1 ((jT.out.same HY.out.1).same (HF.out _)).2.2.2.1).mono ?_; rintro e w' ⟨rfl,hb⟩; exact ⟨rfl,jo.out _ _ hb⟩) | (go_at_call_of 69 (Value.slice s.eB e.len s.dK); refine (KO.out _ s.eB s.dK jT.out.1.2.2.2.2.2.2.2 ((jT.out.same HY.out.1).same (HF.out _)).2.2.2.2).mono ?_; rintro e w' ⟨rfl,hb⟩; exact ⟨rfl,jo.out _ _ hb⟩))); clear hK K)))))
    all_goals (refine wpQuiet_nil ?_; rintro _ ⟨x,rfl⟩)
    have HB2:=Lib.hid (HY.out.1.trans ((HF.out x).mono HY.out.1.size))
    clear d9 mK HF jo hst
    generalize F x=W3 at *
    go_wp2_with fail
    go_roundw
    case rel=>exact ⟨k + 1,R,_,by go_num,rfl,by simp only [aP.len] at hlen; omega,HE.out.trans (show EL R (wrap64 (n + (IJ b + IJ e)))=_ by rw [← TI]),GH,hrest.same HB2.out,HB.out.trans (HB2.out.mono HB.out.size)⟩
    case measure=>simp [intOf]; omega
theorem Np (l:aP):vI l:=Da l (aP.lG (fun _ b e hb he=>⟨Da b hb,Da e he⟩) l)
end Go.Proofs.YtdajkddgnfgijaaGreatDoor
end
section
set_option linter.unusedSimpArgs false
set_option linter.unusedVariables false
namespace Go.Proofs.YtdajkddgnfgijaaGreatDoor
open Go.RowKit
namespace Md
def wP:List Th→Int→Int
 | [],n=>n
 | t ::r,n=>wP r (wrap64 (n + IJ t.body))
theorem Cv: ∀(ds pre:List De) (c l n f:Int),(∀d ∈ ds,kF d=true)→(mq ds pre c l n f).1=0→c + l + n + f≤20→(ds.length:Int) + (c + l + n + f)≤20
 | [],_,_,_,_,_,_,_,h=>by simpa using h
 | d ::r,pre,c,l,n,f,hs,h0,h=>by
   have hd:=vG (hs d (by simp))
   rw [Gd] at h0
   split at h0
   ·simp at h0
   split at h0
   ·simp at h0
   split at h0
   ·simp at h0
   rename_i hlim
   split at h0
   ·simp at h0
   split at h0
   ·simp at h0
   have hl:dc d c≤12∧dl d l≤4∧dn d n≤2∧df d f≤2:=by
    unfold lim at hlim
    simp only [Bool.or_eq_true,decide_eq_true_eq,not_or] at hlim
    omega
   have ih:=Cv r (pre++[d]) _ _ _ _ (fun x hx=>hs x (by simp [hx])) h0 (by omega)
   have hsum:c + l + n + f + 1≤dc d c + dl d l + dn d n + df d f:=by
    unfold dc dl dn df
    have hk:d.kind=1∨d.kind=2∨d.kind=3∨d.kind=4∨d.kind=5∨d.kind=6:=by omega
    rcases hk with hk | hk | hk | hk | hk | hk <;> simp [hk] <;> omega
   simp only [List.length_cons]
   omega
def nQ (p:Pr):ByteArray:=(p.ts.head?.map (·.nm)).getD ⟨#[]⟩
def nT (p:Pr):Int × Int:=
 if !tq p then (3,0) else if (mq p.ds [] 0 0 0 0).1 != 0 then mq p.ds [] 0 0 0 0 else
 if decide ((4:Int) < p.ts.length) then (2,0) else if (oH p).1 != 0 then oH p else
 if decide (60 < wP p.ts 0) then (2,0) else ((kK p (nQ p) p.ts 0 [] []).err,(kK p (nQ p) p.ts 0 [] []).line)
end Md
open Md
set_option maxHeartbeats 4000000 in
set_option maxRecDepth 100000 in
theorem Ck (p:Pr) (w:World) (aK aM:Option Addr) (aG aH:Nat) (hp:p.At w aK aM) (dI:dw w):
 Calls Tryz.prog 29 #[.agg #[.slice aK p.ds.length aG,.slice aM p.ts.length aH]] w fun e w'=>e= .returned (.tuple #[.int .i64 (nT p).1,.int .i64 (nT p).2])∧Below w.heap.size w w':=by
 have HS:Hid (nT p=if !tq p then (3,0) else if (mq p.ds [] 0 0 0 0).1 != 0 then mq p.ds [] 0 0 0 0 else
  if decide ((4:Int) < p.ts.length) then (2,0) else if (oH p).1 != 0 then oH p else
  if decide (60 < wP p.ts 0) then (2,0) else ((kK p (nQ p) p.ts 0 [] []).err,(kK p (nQ p) p.ts 0 [] []).line)):=Lib.hid rfl
 generalize nT p=res at *
 have hld:=hp.1
 have hlt:=hp.2.1
 unfold maxLen at hld hlt
 have HP:=Lib.hid hp
 have gU:=Lib.hid dI
 clear hp dI
 go_enter Tryz.func29,Tryz.ntmps29
 go_upto_region 1 with fail
 generalize hW:World.alloc w _=W
 generalize Value.agg #[_,_]=a0
 have HX:=Lib.hid ((Sit.start w).EA rfl (.slice aK p.ds.length aG) (.slice aM p.ts.length aH) 25)
 rw [hW] at HX
 clear hW
 obtain ⟨-,⟨-,c0⟩,⟨-,c1⟩,-⟩:=HX.out
 go_wp2_with fail
 refine (M5 p _ aK aM aG aH (HP.out.same HX.out.1) (gU.out.same HX.out.1)).mono ?_
 rintro e w1 ⟨rfl,hb1⟩
 have HY:=Lib.hid (HX.out.next hb1)
 clear HX hb1 c0 c1
 obtain ⟨-,⟨-,c0⟩,⟨-,c1⟩,-⟩:=HY.out
 have Gw:Hid (tq p=true→(∀d ∈ p.ds,kF d=true)∧ ∃t0 r0,p.ts=t0 ::r0):=Lib.hid (fun h=>by
  unfold tq at h
  simp only [Bool.and_eq_true,List.all_eq_true,decide_eq_true_eq] at h
  refine ⟨h.1.1,?_⟩
  cases hts:p.ts with
  | nil=>rw [hts] at h; simp at h
  | cons a b=>exact ⟨a,b,rfl⟩)
 cases hS:tq p
 ·have HE:Hid (res=(3,0)):=Lib.hid (HS.out.trans (by rw [hS]; rfl))
  clear Gw
  go_wp2_with fail
  go_ret2
  exact ⟨uO (by rw [HE.out]; rfl) (by rw [HE.out]; rfl),HY.out.1⟩
 ·have HE:Hid (res=if (mq p.ds [] 0 0 0 0).1 != 0 then mq p.ds [] 0 0 0 0 else
   if decide ((4:Int) < p.ts.length) then (2,0) else if (oH p).1 != 0 then oH p else
   if decide (60 < wP p.ts 0) then (2,0) else ((kK p (nQ p) p.ts 0 [] []).err,(kK p (nQ p) p.ts 0 [] []).line)):=Lib.hid (HS.out.trans (by rw [hS]; rfl))
  have FK:=Lib.hid (Gw.out hS)
  have IV:Hid ((mq p.ds [] 0 0 0 0).1=0→p.ds.length≤20):=Lib.hid (fun h0=>by
   have:=Cv p.ds [] 0 0 0 0 FK.out.1 h0 (by omega); omega)
  clear HS Gw
  go_wp2_with fail
  refine (CQ p.ds _ aK aG HP.out.1 ((HP.out.same HY.out.1).2.2.1) FK.out.1).mono ?_
  rintro e w2 ⟨rfl,hb2⟩
  have HZ:=Lib.hid (HY.out.next hb2)
  clear HY hb2 c0 c1
  obtain ⟨-,⟨-,c0⟩,⟨-,c1⟩,-⟩:=HZ.out
  generalize mq p.ds [] 0 0 0 0=dd at *
  cases h1:(dd.1 != 0)
  case true=>
   have eF:Hid (res=dd):=Lib.hid (HE.out.trans (if_pos h1))
   clear HE FK IV
   go_wp2_with fail
   go_ret2
   exact ⟨uO (by rw [eF.out]; rfl) (by rw [eF.out]; rfl),HZ.out.1⟩
  have Yu:=Lib.hid (IV.out (by simpa using h1))
  clear IV
  have vY:Hid (res=if decide ((4:Int) < p.ts.length) then (2,0) else if (oH p).1 != 0 then oH p else
   if decide (60 < wP p.ts 0) then (2,0) else ((kK p (nQ p) p.ts 0 [] []).err,(kK p (nQ p) p.ts 0 [] []).line)):=Lib.hid (HE.out.trans (if_neg (by rw [h1]; decide)))
  clear HE
  by_cases h4:(4:Int) < (p.ts.length:Int)
  ·have eF:Hid (res=(2,0)):=Lib.hid (vY.out.trans (if_pos (by simpa using h4)))
   clear vY FK
   go_wp2_with fail
   go_ret2
   exact ⟨uO (by rw [eF.out]; rfl) (by rw [eF.out]; rfl),HZ.out.1⟩
  have HE2:Hid (res=if (oH p).1 != 0 then oH p else
   if decide (60 < wP p.ts 0) then (2,0) else ((kK p (nQ p) p.ts 0 [] []).err,(kK p (nQ p) p.ts 0 [] []).line)):=Lib.hid (vY.out.trans (if_neg (by simpa using h4)))
  have h4':(p.ts.length:Int)≤4:=by omega
  have O1:Hid (p.ts.length≤4):=Lib.hid (by omega)
  clear vY
  go_wp2_with fail
  refine (Js p _ aK aM aG aH (HP.out.same HZ.out.1) (by have:=Yu.out; have:=O1.out; unfold maxLen; omega)).mono ?_
  rintro e w3 ⟨rfl,hb3⟩
  have HV:=Lib.hid (HZ.out.next hb3)
  clear HZ hb3 c0 c1 h1
  obtain ⟨-,⟨-,c0⟩,⟨-,c1⟩,-⟩:=HV.out
  generalize oH p=tt at *
  cases h2:(tt.1 != 0)
  case true=>
   have eF:Hid (res=tt):=Lib.hid (HE2.out.trans (if_pos h2))
   clear HE2 FK
   go_wp2_with fail
   go_ret2
   exact ⟨uO (by rw [eF.out]; rfl) (by rw [eF.out]; rfl),HV.out.1⟩
  have jQ:Hid (res=if decide (60 < wP p.ts 0) then (2,0) else ((kK p (nQ p) p.ts 0 [] []).err,(kK p (nQ p) p.ts 0 [] []).line)):=Lib.hid (HE2.out.trans (if_neg (by rw [h2]; decide)))
  clear HE2
  have Xi:=(HP.out.same HV.out.1).2.2.2
  go_wp2_with fail
  go_loopw [8,10,40] (fun s8 _ s wr=> ∃(k:Nat) (R:List Th) (n:Int),s= .int .i64 k∧s8= .int .i64 n∧k + R.length=p.ts.length∧wP p.ts 0=wP R n∧gJ wr wr.heap.size R aM k∧Sit w wr [(w.heap.size,0,(.slice aK p.ds.length aG)),(w.heap.size,1,(.slice aM p.ts.length aH))]) (fun _ _ s _=>p.ts.length - (intOf s).toNat)
  case atStart=>exact ⟨0,p.ts,0,rfl,rfl,by simp,rfl,Xi,HV.out⟩
  case round=>
   obtain ⟨k,R,n,rfl,rfl,hlen,heq,hrow,hsit⟩:=hrel
   have HU:=Lib.hid hsit
   have HQ:=Lib.hid heq
   clear hsit HV c0 c1 Xi heq h2
   obtain ⟨-,⟨-,c0⟩,⟨-,c1⟩,-⟩:=HU.out
   cases R with
   | nil=>
     obtain rfl:k=p.ts.length:=by simpa using hlen
     have HN:Hid (wP p.ts 0=n):=HQ
     by_cases h6:60 < n
     ·have eF:Hid (res=(2,0)):=Lib.hid (jQ.out.trans (if_pos (by rw [HN.out]; simpa using h6)))
      clear jQ FK
      go_wp2_with fail
      go_ret2
      exact ⟨uO (by rw [eF.out]; rfl) (by rw [eF.out]; rfl),HU.out.1⟩
     ·have h6':n≤60:=by omega
      obtain ⟨-,t0,r0,hts⟩:=FK.out
      have qU:=Lib.hid hts
      have HHN:Hid (nQ p=t0.nm):=Lib.hid (by unfold nQ; rw [hts]; rfl)
      have eF:Hid (res=((kK p t0.nm p.ts 0 [] []).err,(kK p t0.nm p.ts 0 [] []).line)):=Lib.hid (jQ.out.trans ((if_neg (by rw [HN.out]; simpa using h6)).trans (by rw [HHN.out])))
      clear jQ FK hts
      go_wp2_with fail
      refine (JG p _ aK aM aG aH t0 r0 qU.out (by have:=O1.out; unfold maxLen; omega) (by have:=Yu.out; unfold maxLen; omega) (HP.out.same HU.out.1) (gU.out.same HU.out.1)).mono ?_
      rintro e w4 ⟨rfl,hb4⟩
      go_wp2_with fail
      go_ret2
      exact ⟨uO (by rw [eF.out]; rfl) (by rw [eF.out]; rfl),(HU.out.next hb4).1⟩
   | cons t R=>
     obtain ⟨⟨b,off,fF,dW,bV,bC,rfl,hB,x0,x1,x2,x3,hok,htx,hst,hcl⟩,hrest⟩:=hrow
     simp only [List.length_cons] at hlen
     have hkl:k < p.ts.length:=by omega
     have pJ:=Lib.hid hok
     have HST:=Lib.hid hst
     clear hok htx hst hcl
     go_upto_region 15 with fail
     clear c0 c1
     obtain ⟨n2,hn2⟩: ∃n,wr.heap.size=n:=⟨_,rfl⟩
     generalize hW2:World.alloc wr _=W2
     have HB2:Hid (Below wr.heap.size wr W2):=Lib.hid (by rw [← hW2]; exact aj _ _)
     have HV:Hid (Sit w W2 ((n2,0,.string t.nm) ::(n2,1,.int .i64 t.line) ::(n2,2,.slice fF t.cZ.length dW) ::(n2,3,.slice bV t.body.len bC) ::[(w.heap.size,0,(.slice aK p.ds.length aG)),(w.heap.size,1,(.slice (some ⟨b,off,none⟩) p.ts.length aH))])):=Lib.hid (by rw [← hW2]; exact HU.out.CK hn2 _ _ _ _ _)
     rw [hn2]
     clear hW2 hn2 x0 x1 x2 x3
     obtain ⟨-,⟨-,c0⟩,⟨-,c1⟩,⟨-,c2⟩,⟨-,c3⟩,⟨-,c4⟩,⟨-,c5⟩,-⟩:=HV.out
     go_wp2_with fail
     refine (Np t.body _ bV bC pJ.out.2.2.2 (HST.out.same HB2.out)).mono ?_
     rintro e' w4 ⟨rfl,hb4⟩
     have mR:=Lib.hid (HB2.out.trans (hb4.mono HB2.out.size))
     clear hb4 c0 c1 c2 c3 c4 c5
     go_wp2_with fail
     go_roundw
     case rel=>exact ⟨k + 1,R,_,by go_num,rfl,by omega,HQ.out.trans rfl,hrest.same mR.out,HU.out.next mR.out⟩
     case measure=>simp [intOf]; omega
end Go.Proofs.YtdajkddgnfgijaaGreatDoor
end
