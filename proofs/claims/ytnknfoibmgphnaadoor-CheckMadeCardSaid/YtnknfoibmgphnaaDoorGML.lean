/-
  Contract of check.count.
  Contract of check.Program.
-/
import Derived.Test.YtnknfoibmgphnaaDoorGMC
import Derived.IntWalk
import Derived.Deep.RegionWith
import Derived.Test.YtnknfoibmgphnaaDoorGMK
import Derived.Test.YtnknfoibmgphnaaDoorGME
section
namespace Go.Proofs.YtnknfoibmgphnaaDoor
open Go.RowKit
namespace Md
def lq:aR→Int→Int
 | .nil,n=>n
 | .cons _ b e r,n=>lq r (wrap64 (n + (lq b b.len + lq e e.len)))
def nO (l:aR):Int:=lq l l.len
end Md
open Md
theorem N9 (n x:Int):wrap64 (n + wrap64 x)=wrap64 (n + x):=by
 unfold wrap64; omega
theorem wrap_in' (n x y:Int):wrap64 (wrap64 (n + x) + y)=wrap64 (n + (x + y)):=by
 unfold wrap64; omega
def sU (l:aR):Prop:= ∀(w:World) (ao:Option Addr) (cap:Nat),l.len≤maxLen→l.At w w.heap.size ao 0→
 Calls Tryd.prog 16 #[.slice ao l.len cap] w fun e w'=>e= .returned (.int .i64 (nO l))∧Below w.heap.size w w'
set_option maxHeartbeats 2000000 in
set_option maxRecDepth 100000 in
theorem zl (l:aR) (hall:l.All fun _ b e=>sU b∧sU e):sU l:=by
 intro w ao cap hl hat
 generalize hres:nO l=res
 have HR:=Lib.hid hres
 have HAT:=Lib.hid hat
 have dw:=Lib.hid hall
 unfold maxLen at hl
 clear hres hat hall
 go_enter Tryd.func16,Tryd.ntmps16
 go_wp2_with fail
 go_loopw [3,5,10] (fun s3 _ s wr=> ∃(k:Nat) (R:aR) (n:Int),s= .int .i64 k∧s3= .int .i64 n∧k + R.len=l.len∧res=lq R n∧(R.All fun _ b e=>sU b∧sU e)∧R.At wr wr.heap.size ao k∧Below w.heap.size w wr) (fun _ _ s _=>l.len - (intOf s).toNat)
 case atStart=>exact ⟨0,l,l.len,rfl,rfl,by simp,HR.out.symm,dw.out,HAT.out,Below.refl _ _⟩
 case round=>
  obtain ⟨k,R,n,rfl,rfl,hlen,heq,kZ,hrow,hB⟩:=hrel
  have HE:=Lib.hid heq
  have HB:=Lib.hid hB
  clear heq hB
  cases R with
  | nil=>
    obtain rfl:k=l.len:=by simpa [aR.len] using hlen
    go_wp2_with fail
    go_ret
    exact ⟨aS HE.out.symm,HB.out⟩
  | cons h b e R=>
    obtain ⟨bl,off,s,rfl,hbl,hin,x0,x1,x2,x3,x4,x5,x6,x7,x8,x9,x10,hrest⟩:=aR.At.head hrow
    obtain ⟨⟨hsb,hse⟩,tK⟩:=kZ
    have bP:=Lib.hid hsb
    have vM:=Lib.hid hse
    have jV:=Lib.hid hin
    have hkl:k < l.len:=by simp only [aR.len] at hlen; omega
    clear hrow hin hsb hse
    go_upto_region 5 with fail
    obtain ⟨nb,hnb⟩: ∃n,wr.heap.size=n:=⟨_,rfl⟩
    generalize hW2:World.alloc wr _=W2
    have HY:Hid (Sit wr W2 (iT nb h b e s [])):=Lib.hid (by rw [← hW2]; exact (Sit.start wr).gZ hnb _ _ _ _ _ _ _ _ _ _ _ _)
    rw [hnb]
    clear hW2 hnb x0 x1 x2 x3 x4 x5 x6 x7 x8 x9 x10
    obtain ⟨T,F,qz,hst,hF,hnext⟩:=calm W2
    have HF:=Lib.hid hF
    have bS:=Lib.hid hnext
    clear hnext hF
    have d0:=fun x=>(HY.out.next (HF.out x)).2.1.2
    have d1:=fun x=>(HY.out.next (HF.out x)).2.2.1.2
    have d2:=fun x=>(HY.out.next (HF.out x)).2.2.2.1.2
    have d3:=fun x=>(HY.out.next (HF.out x)).2.2.2.2.1.2
    have d4:=fun x=>(HY.out.next (HF.out x)).2.2.2.2.2.1.2
    have d5:=fun x=>(HY.out.next (HF.out x)).2.2.2.2.2.2.1.2
    have d6:=fun x=>(HY.out.next (HF.out x)).2.2.2.2.2.2.2.1.2
    have d7:=fun x=>(HY.out.next (HF.out x)).2.2.2.2.2.2.2.2.1.2
    have d8:=fun x=>(HY.out.next (HF.out x)).2.2.2.2.2.2.2.2.2.1.2
    have d9:=fun x=>(HY.out.next (HF.out x)).2.2.2.2.2.2.2.2.2.2.1.2
    have nk:=fun x=>(HY.out.next (HF.out x)).2.2.2.2.2.2.2.2.2.2.2.1.2
    clear d0 d1 d2 d3 d4 d5 d6 d7 d8
    refine gF F (by kernel_rfl) (by kernel_rfl) hst ?_
    repeat (any_goals (first | go_big_quiet_step ((first | (go_at_call_of 16 (Value.slice s.bg b.len s.aT); refine (bP.out _ s.bg s.aT jV.out.1.2.2.2.2.2.2.1 ((jV.out.same HY.out.1).same (HF.out _)).2.2.2.1).mono ?_; rintro e w' ⟨rfl,hb⟩; exact ⟨rfl,bS.out _ _ hb⟩) | (go_at_call_of 16 (Value.slice s.eY e.len s.dP); refine (vM.out _ s.eY s.dP jV.out.1.2.2.2.2.2.2.2 ((jV.out.same HY.out.1).same (HF.out _)).2.2.2.2).mono ?_; rintro e w' ⟨rfl,hb⟩; exact ⟨rfl,bS.out _ _ hb⟩))) | (refine wpQuiet_step (fun K hK=> ?_); go_simp; first | (refine hK _ ?_; clear hK K) | (split <;> first | (refine hK _ ?_; clear hK K) | (apply Exists.intro; refine ⟨fun _=> ?_,hK _ ?_⟩; ((first | (go_at_call_of 16 (Value.slice s.bg b.len s.aT); refine (bP.out _ s.bg s.aT jV.out.1.2.2.2.2.2.2.1 ((jV.out.same HY.out.1).same (HF.out _)).2.2.2.1).mono ?_; rintro e w' ⟨rfl,hb⟩; exact ⟨rfl,bS.out _ _ hb⟩) | (go_at_call_of 16 (Value.slice s.eY e.len s.dP); refine (vM.out _ s.eY s.dP jV.out.1.2.2.2.2.2.2.2 ((jV.out.same HY.out.1).same (HF.out _)).2.2.2.2).mono ?_; rintro e w' ⟨rfl,hb⟩; exact ⟨rfl,bS.out _ _ hb⟩))); clear hK K)))))
    all_goals (refine wpQuiet_nil ?_; rintro _ ⟨x,rfl⟩)
    have HB2:=Lib.hid (HY.out.1.trans ((HF.out x).mono HY.out.1.size))
    clear d9 nk HF bS hst
    generalize F x=W3 at *
    go_wp2_with fail
    go_roundw
    case rel=>exact ⟨k + 1,R,_,by go_num,rfl,by simp only [aR.len] at hlen; omega,HE.out.trans (show lq R (wrap64 (n + (nO b + nO e)))=_ by rw [← N9]),tK,hrest.same HB2.out,HB.out.trans (HB2.out.mono HB.out.size)⟩
    case measure=>simp [intOf]; omega
theorem Ig (l:aR):sU l:=zl l (aR.lM (fun _ b e hb he=>⟨zl b hb,zl e he⟩) l)
end Go.Proofs.YtnknfoibmgphnaaDoor
end
section
set_option linter.unusedSimpArgs false
set_option linter.unusedVariables false
namespace Go.Proofs.YtnknfoibmgphnaaDoor
open Go.RowKit
namespace Md
def iw:List Th→Int→Int
 | [],n=>n
 | t ::r,n=>iw r (wrap64 (n + nO t.body))
theorem zn: ∀(ds pre:List De) (c l n f:Int),(∀d ∈ ds,jw d=true)→(jH ds pre c l n f).1=0→c + l + n + f≤20→(ds.length:Int) + (c + l + n + f)≤20
 | [],_,_,_,_,_,_,_,h=>by simpa using h
 | d ::r,pre,c,l,n,f,hs,h0,h=>by
   have hd:=wK (hs d (by simp))
   rw [xL] at h0
   split at h0
   ·simp at h0
   split at h0
   ·simp at h0
   split at h0
   ·simp at h0
   rename_i hlim
   split at h0
   ·simp at h0
   split at h0
   ·simp at h0
   have hl:dc d c≤12∧dl d l≤4∧dn d n≤2∧df d f≤2:=by
    unfold lim at hlim
    simp only [Bool.or_eq_true,decide_eq_true_eq,not_or] at hlim
    omega
   have ih:=zn r (pre++[d]) _ _ _ _ (fun x hx=>hs x (by simp [hx])) h0 (by omega)
   have hsum:c + l + n + f + 1≤dc d c + dl d l + dn d n + df d f:=by
    unfold dc dl dn df
    have hk:d.kind=1∨d.kind=2∨d.kind=3∨d.kind=4∨d.kind=5∨d.kind=6:=by omega
    rcases hk with hk | hk | hk | hk | hk | hk <;> simp [hk] <;> omega
   simp only [List.length_cons]
   omega
def gM (p:Pr):ByteArray:=(p.ts.head?.map (·.nm)).getD ⟨#[]⟩
def iV (p:Pr):Int × Int:=
 if !lN p then (3,0) else if (jH p.ds [] 0 0 0 0).1 != 0 then jH p.ds [] 0 0 0 0 else
 if decide ((4:Int) < p.ts.length) then (2,0) else if (iJ p).1 != 0 then iJ p else
 if decide (60 < iw p.ts 0) then (2,0) else ((gG p (gM p) p.ts 0 [] []).err,(gG p (gM p) p.ts 0 [] []).line)
end Md
open Md
set_option maxHeartbeats 4000000 in
set_option maxRecDepth 100000 in
theorem ED (p:Pr) (w:World) (aC aF:Option Addr) (aA av:Nat) (hp:p.At w aC aF) (dL:dZ w):
 Calls Tryd.prog 5 #[.agg #[.slice aC p.ds.length aA,.slice aF p.ts.length av]] w fun e w'=>e= .returned (.tuple #[.int .i64 (iV p).1,.int .i64 (iV p).2])∧Below w.heap.size w w':=by
 have HS:Hid (iV p=if !lN p then (3,0) else if (jH p.ds [] 0 0 0 0).1 != 0 then jH p.ds [] 0 0 0 0 else
  if decide ((4:Int) < p.ts.length) then (2,0) else if (iJ p).1 != 0 then iJ p else
  if decide (60 < iw p.ts 0) then (2,0) else ((gG p (gM p) p.ts 0 [] []).err,(gG p (gM p) p.ts 0 [] []).line)):=Lib.hid rfl
 generalize iV p=res at *
 have hld:=hp.1
 have hlt:=hp.2.1
 unfold maxLen at hld hlt
 have HP:=Lib.hid hp
 have iW:=Lib.hid dL
 clear hp dL
 go_enter Tryd.func5,Tryd.ntmps5
 go_upto_region 1 with fail
 generalize hW:World.alloc w _=W
 generalize Value.agg #[_,_]=a0
 have HX:=Lib.hid ((Sit.start w).kC rfl (.slice aC p.ds.length aA) (.slice aF p.ts.length av) 26)
 rw [hW] at HX
 clear hW
 obtain ⟨-,⟨-,c0⟩,⟨-,c1⟩,-⟩:=HX.out
 go_wp2_with fail
 refine (Gv p _ aC aF aA av (HP.out.same HX.out.1) (iW.out.same HX.out.1)).mono ?_
 rintro e w1 ⟨rfl,hb1⟩
 have HY:=Lib.hid (HX.out.next hb1)
 clear HX hb1 c0 c1
 obtain ⟨-,⟨-,c0⟩,⟨-,c1⟩,-⟩:=HY.out
 have vL:Hid (lN p=true→(∀d ∈ p.ds,jw d=true)∧ ∃t0 r0,p.ts=t0 ::r0):=Lib.hid (fun h=>by
  unfold lN at h
  simp only [Bool.and_eq_true,List.all_eq_true,decide_eq_true_eq] at h
  refine ⟨h.1.1,?_⟩
  cases hts:p.ts with
  | nil=>rw [hts] at h; simp at h
  | cons a b=>exact ⟨a,b,rfl⟩)
 cases hS:lN p
 ·have HE:Hid (res=(3,0)):=Lib.hid (HS.out.trans (by rw [hS]; rfl))
  clear vL
  go_wp2_with fail
  go_ret2
  exact ⟨mq (by rw [HE.out]; rfl) (by rw [HE.out]; rfl),HY.out.1⟩
 ·have HE:Hid (res=if (jH p.ds [] 0 0 0 0).1 != 0 then jH p.ds [] 0 0 0 0 else
   if decide ((4:Int) < p.ts.length) then (2,0) else if (iJ p).1 != 0 then iJ p else
   if decide (60 < iw p.ts 0) then (2,0) else ((gG p (gM p) p.ts 0 [] []).err,(gG p (gM p) p.ts 0 [] []).line)):=Lib.hid (HS.out.trans (by rw [hS]; rfl))
  have pR:=Lib.hid (vL.out hS)
  have Es:Hid ((jH p.ds [] 0 0 0 0).1=0→p.ds.length≤20):=Lib.hid (fun h0=>by
   have:=zn p.ds [] 0 0 0 0 pR.out.1 h0 (by omega); omega)
  clear HS vL
  go_wp2_with fail
  refine (zH p.ds _ aC aA HP.out.1 ((HP.out.same HY.out.1).2.2.1) pR.out.1).mono ?_
  rintro e w2 ⟨rfl,hb2⟩
  have HZ:=Lib.hid (HY.out.next hb2)
  clear HY hb2 c0 c1
  obtain ⟨-,⟨-,c0⟩,⟨-,c1⟩,-⟩:=HZ.out
  generalize jH p.ds [] 0 0 0 0=dd at *
  cases h1:(dd.1 != 0)
  case true=>
   have dA:Hid (res=dd):=Lib.hid (HE.out.trans (if_pos h1))
   clear HE pR Es
   go_wp2_with fail
   go_ret2
   exact ⟨mq (by rw [dA.out]; rfl) (by rw [dA.out]; rfl),HZ.out.1⟩
  have QV:=Lib.hid (Es.out (by simpa using h1))
  clear Es
  have zU:Hid (res=if decide ((4:Int) < p.ts.length) then (2,0) else if (iJ p).1 != 0 then iJ p else
   if decide (60 < iw p.ts 0) then (2,0) else ((gG p (gM p) p.ts 0 [] []).err,(gG p (gM p) p.ts 0 [] []).line)):=Lib.hid (HE.out.trans (if_neg (by rw [h1]; decide)))
  clear HE
  by_cases h4:(4:Int) < (p.ts.length:Int)
  ·have dA:Hid (res=(2,0)):=Lib.hid (zU.out.trans (if_pos (by simpa using h4)))
   clear zU pR
   go_wp2_with fail
   go_ret2
   exact ⟨mq (by rw [dA.out]; rfl) (by rw [dA.out]; rfl),HZ.out.1⟩
  have HE2:Hid (res=if (iJ p).1 != 0 then iJ p else
   if decide (60 < iw p.ts 0) then (2,0) else ((gG p (gM p) p.ts 0 [] []).err,(gG p (gM p) p.ts 0 [] []).line)):=Lib.hid (zU.out.trans (if_neg (by simpa using h4)))
  have h4':(p.ts.length:Int)≤4:=by omega
  have vN:Hid (p.ts.length≤4):=Lib.hid (by omega)
  clear zU
  go_wp2_with fail
  refine (EI p _ aC aF aA av (HP.out.same HZ.out.1) (by have:=QV.out; have:=vN.out; unfold maxLen; omega)).mono ?_
  rintro e w3 ⟨rfl,hb3⟩
  have HV:=Lib.hid (HZ.out.next hb3)
  clear HZ hb3 c0 c1 h1
  obtain ⟨-,⟨-,c0⟩,⟨-,c1⟩,-⟩:=HV.out
  generalize iJ p=tt at *
  cases h2:(tt.1 != 0)
  case true=>
   have dA:Hid (res=tt):=Lib.hid (HE2.out.trans (if_pos h2))
   clear HE2 pR
   go_wp2_with fail
   go_ret2
   exact ⟨mq (by rw [dA.out]; rfl) (by rw [dA.out]; rfl),HV.out.1⟩
  have oW:Hid (res=if decide (60 < iw p.ts 0) then (2,0) else ((gG p (gM p) p.ts 0 [] []).err,(gG p (gM p) p.ts 0 [] []).line)):=Lib.hid (HE2.out.trans (if_neg (by rw [h2]; decide)))
  clear HE2
  have mh:=(HP.out.same HV.out.1).2.2.2
  go_wp2_with fail
  go_loopw [8,10,40] (fun s8 _ s wr=> ∃(k:Nat) (R:List Th) (n:Int),s= .int .i64 k∧s8= .int .i64 n∧k + R.length=p.ts.length∧iw p.ts 0=iw R n∧iy wr wr.heap.size R aF k∧Sit w wr [(w.heap.size,0,(.slice aC p.ds.length aA)),(w.heap.size,1,(.slice aF p.ts.length av))]) (fun _ _ s _=>p.ts.length - (intOf s).toNat)
  case atStart=>exact ⟨0,p.ts,0,rfl,rfl,by simp,rfl,mh,HV.out⟩
  case round=>
   obtain ⟨k,R,n,rfl,rfl,hlen,heq,hrow,hsit⟩:=hrel
   have HU:=Lib.hid hsit
   have HQ:=Lib.hid heq
   clear hsit HV c0 c1 mh heq h2
   obtain ⟨-,⟨-,c0⟩,⟨-,c1⟩,-⟩:=HU.out
   cases R with
   | nil=>
     obtain rfl:k=p.ts.length:=by simpa using hlen
     have HN:Hid (iw p.ts 0=n):=HQ
     by_cases h6:60 < n
     ·have dA:Hid (res=(2,0)):=Lib.hid (oW.out.trans (if_pos (by rw [HN.out]; simpa using h6)))
      clear oW pR
      go_wp2_with fail
      go_ret2
      exact ⟨mq (by rw [dA.out]; rfl) (by rw [dA.out]; rfl),HU.out.1⟩
     ·have h6':n≤60:=by omega
      obtain ⟨-,t0,r0,hts⟩:=pR.out
      have vO:=Lib.hid hts
      have NZ:Hid (gM p=t0.nm):=Lib.hid (by unfold gM; rw [hts]; rfl)
      have dA:Hid (res=((gG p t0.nm p.ts 0 [] []).err,(gG p t0.nm p.ts 0 [] []).line)):=Lib.hid (oW.out.trans ((if_neg (by rw [HN.out]; simpa using h6)).trans (by rw [NZ.out])))
      clear oW pR hts
      go_wp2_with fail
      refine (EO p _ aC aF aA av t0 r0 vO.out (by have:=vN.out; unfold maxLen; omega) (by have:=QV.out; unfold maxLen; omega) (HP.out.same HU.out.1) (iW.out.same HU.out.1)).mono ?_
      rintro e w4 ⟨rfl,hb4⟩
      go_wp2_with fail
      go_ret2
      exact ⟨mq (by rw [dA.out]; rfl) (by rw [dA.out]; rfl),(HU.out.next hb4).1⟩
   | cons t R=>
     obtain ⟨⟨b,off,iQ,gy,bg,aT,rfl,hB,x0,x1,x2,x3,hok,htx,hst,hcl⟩,hrest⟩:=hrow
     simp only [List.length_cons] at hlen
     have hkl:k < p.ts.length:=by omega
     have lX:=Lib.hid hok
     have HST:=Lib.hid hst
     clear hok htx hst hcl
     go_upto_region 15 with fail
     clear c0 c1
     obtain ⟨n2,hn2⟩: ∃n,wr.heap.size=n:=⟨_,rfl⟩
     generalize hW2:World.alloc wr _=W2
     have HB2:Hid (Below wr.heap.size wr W2):=Lib.hid (by rw [← hW2]; exact ay _ _)
     have HV:Hid (Sit w W2 ((n2,0,.string t.nm) ::(n2,1,.int .i64 t.line) ::(n2,2,.slice iQ t.bH.length gy) ::(n2,3,.slice bg t.body.len aT) ::[(w.heap.size,0,(.slice aC p.ds.length aA)),(w.heap.size,1,(.slice (some ⟨b,off,none⟩) p.ts.length av))])):=Lib.hid (by rw [← hW2]; exact HU.out.qX hn2 _ _ _ _ _)
     rw [hn2]
     clear hW2 hn2 x0 x1 x2 x3
     obtain ⟨-,⟨-,c0⟩,⟨-,c1⟩,⟨-,c2⟩,⟨-,c3⟩,⟨-,c4⟩,⟨-,c5⟩,-⟩:=HV.out
     go_wp2_with fail
     refine (Ig t.body _ bg aT lX.out.2.2.2 (HST.out.same HB2.out)).mono ?_
     rintro e' w4 ⟨rfl,hb4⟩
     have oZ:=Lib.hid (HB2.out.trans (hb4.mono HB2.out.size))
     clear hb4 c0 c1 c2 c3 c4 c5
     go_wp2_with fail
     go_roundw
     case rel=>exact ⟨k + 1,R,_,by go_num,rfl,by omega,HQ.out.trans rfl,hrest.same oZ.out,HU.out.next oZ.out⟩
     case measure=>simp [intOf]; omega
end Go.Proofs.YtnknfoibmgphnaaDoor
end
