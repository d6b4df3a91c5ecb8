/-
  Parts of the maker's stmt.
  Parts of the maker's stmt.
-/
import Derived.Test.YtnknfoibmgphnaaDoorGPC
section
set_option linter.unusedSimpArgs false
set_option linter.unusedVariables false
namespace Go.Proofs.YtnknfoibmgphnaaDoor
open Go.RowKit
open Md
set_option maxHeartbeats 4000000 in
set_option maxRecDepth 100000 in
theorem Qd:lJ (fun k=>k=8):=by
 intro T d k hk hms w H hs hI jh hnx
 have hd:=hms.pI
 have nY:=Lib.hid hms
 have bS:=Lib.hid hnx
 have HI0:=Lib.hid hI
 have aM:Hid (Old T H w.heap.size):=Lib.hid hI.old
 have HE:Hid (∀d:Nat,d≤100→jJ T (d:Int)):=Lib.hid (jf T)
 obtain ⟨th,left,qa,qb,qc,qd,vH,iY,c0,c1,c2,c3,c4,c5,c6,c7,cf,hv,hrow⟩:=hI.reads
 have f2:=cf 2
 have ug:T.bm < w.heap.size:=hI.lt
 clear hI hrow c1 c3 c4 c5 c6 c7 iY hv cf c0 hms hnx
 go_enter Tryd.func18,Tryd.ntmps18
 go_upto_region 2 with fail
 generalize hW:World.alloc _ _=W
 have HI:Hid (cZ W T H hs):=Lib.hid (by rw [← hW]; exact (HI0.out.left (nG _)).below (ay _ _))
 have HM:Hid (Mm T H w W):=Lib.hid (by rw [← hW]; exact ((Mm.refl T H w).mJ (Hx.refl w H) _ _).then_ ((ay _ _).mono (by simp [World.setCell])) (ay _ _).size)
 have HZ:Hid (W.heap[w.heap.size]? =some (.cells jv 42 (0,0))):=Lib.hid (by
  rw [← hW]
  have e:(World.setCell w ⟨T.bm,2,none⟩ (.int .i64 (wrap64 (left - 1)))).heap.size=w.heap.size:=by simp [World.setCell]
  rw [← e]; exact heap_alloc_new _ _)
 have iR:Hid (W.heap[T.bt]? =w.heap[T.bt]?):=Lib.hid (by
  rw [← hW,heap_alloc_old _ _ (by simp [World.setCell]; exact aM.out.t)]
  exact aO w _ _ rfl T.tm.symm)
 clear hW c2 f2
 have c0:=HI.out.ptr
 go_wp2_with fail
 refine (bS.out W HI.out iR.out).mono ?_
 rintro e w2 ⟨rfl,hM2,hI2⟩
 have iK:=Lib.hid (HM.out.trans (Hx.refl _ _) (hM2.mm (H:=H)))
 have eX:=Lib.hid hI2
 have fT:Hid (w2.heap[w.heap.size]? =some (.cells jv 42 (0,0))):=Lib.hid (hM2.keep HZ.out (by have:=aM.out.t; omega))
 have bP:Hid (w.heap.size < w2.heap.size):=Lib.hid (Array.getElem?_eq_some_iff.1 fT.out).1
 clear hM2 hI2 c0 HI HM HZ iR bS
 go_upto_region 3 with fail
 go_cut [6] (fun s6 W'=>(∃q:Bool,s6= .bool q∧(q=true→0 < d))∧W'=w2)
 case first=>
  obtain ⟨oI,left',oM,oz,oq,oN,oV,fQ,c0',c1',c2',c3',mR,jB,jC,jq,cf',hv',hrow'⟩:=eX.out.reads
  clear c0' c1' c3' jB jC jq cf' hv' hrow' fQ
  by_cases h1:(0:Int) < (d:Int)
  ·by_cases h2:0 < left'
   ·go_wp2_with fail
    go_meet
    exact ⟨⟨_,rfl,fun _=>by omega⟩,rfl⟩
   ·go_wp2_with fail
    go_meet
    exact ⟨⟨_,rfl,fun _=>by omega⟩,rfl⟩
  ·go_wp2_with fail
   go_meet
   exact ⟨⟨false,rfl,fun h=>(by cases h)⟩,rfl⟩
 obtain ⟨⟨nest,rfl,kT⟩,rfl⟩:=hcut
 obtain ⟨wb,rfl⟩: ∃W:World,W=wc:=⟨_,rfl⟩
 have mg:Hid (Sg T H hs w.heap.size wb H wb):=Lib.hid ⟨Mm.refl _ _ _,Hx.refl _ _,eX.out,fT.out,aM.out,bP.out⟩
 subst hk
 cases nest
 ·have jl:=eX
  have eB:=Lib.hid (show Mm T H wb _ from Mm.refl _ _ _)
  have jr:=Lib.hid (eB.out.keep fT.out (by have:=aM.out.t; omega) (by have:=aM.out.m; omega) (fun e=>by have:=aM.out.h _ e; omega))
  go_wp2_with fail
  refine (HE.out 1 (by decide) _ H hs jl.out).mono ?_
  rintro e w5 ⟨v,rfl,⟨xo,xn,xm,xk,xa,xc,rfl,hok,hst⟩,hM,hI⟩
  have HX:=Lib.hid (And.intro hok (hst.mono eB.out.size))
  have eu:=Lib.hid (eB.out.trans (Hx.refl _ _) (hM.mm (H:=H)))
  have gK:=Lib.hid hI
  have eO:=Lib.hid (hM.keep jr.out (by have:=aM.out.t; omega))
  clear hok hst hM hI
  go_wp2_with fail
  refine (dX ⟨#[120]⟩ xo xn xm xk xa xc w5).mono ?_
  rintro e w6 ⟨rfl,hb⟩
  have bY:=Lib.hid hb
  have gu:=Lib.hid ((hb.block _ (Array.getElem?_eq_some_iff.1 eO.out).1).trans eO.out)
  obtain ⟨⟨y0,y1,y2,y3,y4,y5,y6,y7,y8,y9,iF⟩,fz⟩:=eF gu.out
  have f0:=fz 0
  have f1:=fz 1
  have f2:=fz 2
  have f3:=fz 3
  have f4:=fz 4
  have f5:=fz 5
  have f6:=fz 6
  have f7:=fz 7
  have f8:=fz 8
  have f9:=fz 9
  have f10:=fz 10
  clear fz
  clear hb
  unfold aY aG aK
  go_wp2_with fail
  have HF:=Lib.hid (fG (h:=((⟨aG 1 ⟨#[120]⟩ .nil xo xn xm xk,.nil,.nil,aK xa xc⟩:aD)).h) (b:=((⟨aG 1 ⟨#[120]⟩ .nil xo xn xm xk,.nil,.nil,aK xa xc⟩:aD)).b) (e:=((⟨aG 1 ⟨#[120]⟩ .nil xo xn xm xk,.nil,.nil,aK xa xc⟩:aD)).e) (s:=((⟨aG 1 ⟨#[120]⟩ .nil xo xn xm xk,.nil,.nil,aK xa xc⟩:aD)).s) iK.out aM.out bP.out (eu.out.then_ (bY.out.mono eu.out.size) bY.out.size) (Hx.refl _ _) (gK.out.below bY.out) (mG (by unfold aX; decide) (by unfold maxLen; decide) HX.out.1) (gH eZ (.fV (HX.out.2.next (bT bY.out)) (Nat.le_refl _) (fun k h1 _ e=>absurd (aM.out.h _ e) (by have:=bP.out; omega))) dx dx) gu.out rfl)
  show bodyPost _ _ _ _ _ (World.setCells _ w.heap.size 0 (aD.f (⟨aG 1 ⟨#[120]⟩ .nil xo xn xm xk,.nil,.nil,aK xa xc⟩:aD)))
  generalize fD:World.setCells _ _ _ _=W7 at *
  obtain ⟨⟨z0,z1,z2,z3,z4,z5,z6,z7,z8,z9,fF⟩,HP⟩:=dD HF.out
  clear HF fD
  exact bodyPost_ret (v:=aY ((⟨aG 1 ⟨#[120]⟩ .nil xo xn xm xk,.nil,.nil,aK xa xc⟩:aD)).h ((⟨aG 1 ⟨#[120]⟩ .nil xo xn xm xk,.nil,.nil,aK xa xc⟩:aD)).b ((⟨aG 1 ⟨#[120]⟩ .nil xo xn xm xk,.nil,.nil,aK xa xc⟩:aD)).e ((⟨aG 1 ⟨#[120]⟩ .nil xo xn xm xk,.nil,.nil,aK xa xc⟩:aD)).s) (by simp [results,Tryd.results18,go_sem,aY,z0,z1,z2,z3,z4,z5,z6,z7,z8,z9,fF]) rfl HP.out
 ·have hd0:=kT rfl
  have hd1:(0:Int) < (d:Int):=by omega
  have hwd:IntKind.i64.wrap ((d:Int) - 1)=(d:Int) - 1:=IntWalk.i64_in _ (by omega)
  go_wp2_with fail
  refine (pY T _ H hs _ (eX.out.below (ay _ _))).mono ?_
  rintro e w3 ⟨⟨q,rfl⟩,hw⟩
  have S3:Hid (Sg T H hs w.heap.size wb H w3):=Lib.hid (by rw [← hw]; exact mg.out.below (ay _ _))
  clear hw
  cases q
  ·go_upto_region 23 with fail
   generalize hW:World.alloc w3 _=w4
   have S4:Hid (Sg T H hs w.heap.size wb H w4):=Lib.hid (by rw [← hW]; exact S3.out.below (ay _ _))
   clear hW
   go_wp2_with fail
   refine (nY.out.bl hd0 w4 H hs ⟨#[109]⟩ S4.out.i (by omega) (by unfold maxLen; decide)).mono ?_
   rintro e w5 ⟨v,l,H5,rfl,hg,hok,hl1,hl2,hx,hM,hI⟩
   obtain ⟨ab,cb,rfl,hst⟩:=hg.says hok
   have rP:=Lib.hid (And.intro (rO hl2) hst)
   have Il:=Lib.hid hx
   have eu:=Lib.hid hM
   have S5:=Lib.hid (S4.out.mm hM hx hI)
   clear hg hok hl1 hl2 hx hM hI hst
   have eO:=Lib.hid S5.out.z
   obtain ⟨⟨y0,y1,y2,y3,y4,y5,y6,y7,y8,y9,iF⟩,fz⟩:=eF eO.out
   have f0:=fz 0
   have f1:=fz 1
   have f2:=fz 2
   have f3:=fz 3
   have f4:=fz 4
   have f5:=fz 5
   have f6:=fz 6
   have f7:=fz 7
   have f8:=fz 8
   have f9:=fz 9
   have f10:=fz 10
   clear fz
   go_wp2_with fail
   have HF:=Lib.hid (fG (h:=((⟨aG 4 ⟨#[109]⟩ .nil 0 0 ⟨#[]⟩ .nil,aN l,.nil,fK ab cb⟩:aD)).h) (b:=((⟨aG 4 ⟨#[109]⟩ .nil 0 0 ⟨#[]⟩ .nil,aN l,.nil,fK ab cb⟩:aD)).b) (e:=((⟨aG 4 ⟨#[109]⟩ .nil 0 0 ⟨#[]⟩ .nil,aN l,.nil,fK ab cb⟩:aD)).e) (s:=((⟨aG 4 ⟨#[109]⟩ .nil 0 0 ⟨#[]⟩ .nil,aN l,.nil,fK ab cb⟩:aD)).s) iK.out aM.out bP.out S5.out.m S5.out.x S5.out.i (rD (by unfold aX; decide) (by unfold maxLen; decide) nE nil_le rP.out.1 (Nat.zero_le _)) (gH eZ eZ (rP.out.2.weak S4.out.m.size (fun _ _ _ e=>e)) dx) S5.out.z rfl)
   show bodyPost _ _ _ _ _ (World.setCells _ w.heap.size 0 (aD.f (⟨aG 4 ⟨#[109]⟩ .nil 0 0 ⟨#[]⟩ .nil,aN l,.nil,fK ab cb⟩:aD)))
   generalize fD:World.setCells _ _ _ _=W7 at *
   obtain ⟨⟨z0,z1,z2,z3,z4,z5,z6,z7,z8,z9,fF⟩,HP⟩:=dD HF.out
   clear HF fD
   exact bodyPost_ret (v:=aY ((⟨aG 4 ⟨#[109]⟩ .nil 0 0 ⟨#[]⟩ .nil,aN l,.nil,fK ab cb⟩:aD)).h ((⟨aG 4 ⟨#[109]⟩ .nil 0 0 ⟨#[]⟩ .nil,aN l,.nil,fK ab cb⟩:aD)).b ((⟨aG 4 ⟨#[109]⟩ .nil 0 0 ⟨#[]⟩ .nil,aN l,.nil,fK ab cb⟩:aD)).e ((⟨aG 4 ⟨#[109]⟩ .nil 0 0 ⟨#[]⟩ .nil,aN l,.nil,fK ab cb⟩:aD)).s) (by simp [results,Tryd.results18,go_sem,aY,z0,z1,z2,z3,z4,z5,z6,z7,z8,z9,fF]) rfl HP.out
  ·have HI3:=Lib.hid S3.out.i
   have jl:=HI3
   have eB:=Lib.hid (show Mm T H wb _ from S3.out.m)
   have jr:=Lib.hid (eB.out.keep fT.out (by have:=aM.out.t; omega) (by have:=aM.out.m; omega) (fun e=>by have:=aM.out.h _ e; omega))
   go_wp2_with fail
   refine (HE.out 1 (by decide) _ H hs jl.out).mono ?_
   rintro e w5 ⟨v,rfl,⟨xo,xn,xm,xk,xa,xc,rfl,hok,hst⟩,hM,hI⟩
   have HX:=Lib.hid (And.intro hok (hst.mono eB.out.size))
   have eu:=Lib.hid (eB.out.trans (Hx.refl _ _) (hM.mm (H:=H)))
   have gK:=Lib.hid hI
   have eO:=Lib.hid (hM.keep jr.out (by have:=aM.out.t; omega))
   clear hok hst hM hI
   go_wp2_with fail
   refine (dX ⟨#[120]⟩ xo xn xm xk xa xc w5).mono ?_
   rintro e w6 ⟨rfl,hb⟩
   have bY:=Lib.hid hb
   have gu:=Lib.hid ((hb.block _ (Array.getElem?_eq_some_iff.1 eO.out).1).trans eO.out)
   obtain ⟨⟨y0,y1,y2,y3,y4,y5,y6,y7,y8,y9,iF⟩,fz⟩:=eF gu.out
   have f0:=fz 0
   have f1:=fz 1
   have f2:=fz 2
   have f3:=fz 3
   have f4:=fz 4
   have f5:=fz 5
   have f6:=fz 6
   have f7:=fz 7
   have f8:=fz 8
   have f9:=fz 9
   have f10:=fz 10
   clear fz
   clear hb
   unfold aY aG aK
   go_wp2_with fail
   have HF:=Lib.hid (fG (h:=((⟨aG 1 ⟨#[120]⟩ .nil xo xn xm xk,.nil,.nil,aK xa xc⟩:aD)).h) (b:=((⟨aG 1 ⟨#[120]⟩ .nil xo xn xm xk,.nil,.nil,aK xa xc⟩:aD)).b) (e:=((⟨aG 1 ⟨#[120]⟩ .nil xo xn xm xk,.nil,.nil,aK xa xc⟩:aD)).e) (s:=((⟨aG 1 ⟨#[120]⟩ .nil xo xn xm xk,.nil,.nil,aK xa xc⟩:aD)).s) iK.out aM.out bP.out (eu.out.then_ (bY.out.mono eu.out.size) bY.out.size) (Hx.refl _ _) (gK.out.below bY.out) (mG (by unfold aX; decide) (by unfold maxLen; decide) HX.out.1) (gH eZ (.fV (HX.out.2.next (bT bY.out)) (Nat.le_refl _) (fun k h1 _ e=>absurd (aM.out.h _ e) (by have:=bP.out; omega))) dx dx) gu.out rfl)
   show bodyPost _ _ _ _ _ (World.setCells _ w.heap.size 0 (aD.f (⟨aG 1 ⟨#[120]⟩ .nil xo xn xm xk,.nil,.nil,aK xa xc⟩:aD)))
   generalize fD:World.setCells _ _ _ _=W7 at *
   obtain ⟨⟨z0,z1,z2,z3,z4,z5,z6,z7,z8,z9,fF⟩,HP⟩:=dD HF.out
   clear HF fD
   exact bodyPost_ret (v:=aY ((⟨aG 1 ⟨#[120]⟩ .nil xo xn xm xk,.nil,.nil,aK xa xc⟩:aD)).h ((⟨aG 1 ⟨#[120]⟩ .nil xo xn xm xk,.nil,.nil,aK xa xc⟩:aD)).b ((⟨aG 1 ⟨#[120]⟩ .nil xo xn xm xk,.nil,.nil,aK xa xc⟩:aD)).e ((⟨aG 1 ⟨#[120]⟩ .nil xo xn xm xk,.nil,.nil,aK xa xc⟩:aD)).s) (by simp [results,Tryd.results18,go_sem,aY,z0,z1,z2,z3,z4,z5,z6,z7,z8,z9,fF]) rfl HP.out
set_option maxHeartbeats 4000000 in
set_option maxRecDepth 100000 in
theorem Qr:lJ (fun k=>k=9):=by
 intro T d k hk hms w H hs hI jh hnx
 have hd:=hms.pI
 have nY:=Lib.hid hms
 have bS:=Lib.hid hnx
 have HI0:=Lib.hid hI
 have aM:Hid (Old T H w.heap.size):=Lib.hid hI.old
 have HE:Hid (∀d:Nat,d≤100→jJ T (d:Int)):=Lib.hid (jf T)
 obtain ⟨th,left,qa,qb,qc,qd,vH,iY,c0,c1,c2,c3,c4,c5,c6,c7,cf,hv,hrow⟩:=hI.reads
 have f2:=cf 2
 have ug:T.bm < w.heap.size:=hI.lt
 clear hI hrow c1 c3 c4 c5 c6 c7 iY hv cf c0 hms hnx
 go_enter Tryd.func18,Tryd.ntmps18
 go_upto_region 2 with fail
 generalize hW:World.alloc _ _=W
 have HI:Hid (cZ W T H hs):=Lib.hid (by rw [← hW]; exact (HI0.out.left (nG _)).below (ay _ _))
 have HM:Hid (Mm T H w W):=Lib.hid (by rw [← hW]; exact ((Mm.refl T H w).mJ (Hx.refl w H) _ _).then_ ((ay _ _).mono (by simp [World.setCell])) (ay _ _).size)
 have HZ:Hid (W.heap[w.heap.size]? =some (.cells jv 42 (0,0))):=Lib.hid (by
  rw [← hW]
  have e:(World.setCell w ⟨T.bm,2,none⟩ (.int .i64 (wrap64 (left - 1)))).heap.size=w.heap.size:=by simp [World.setCell]
  rw [← e]; exact heap_alloc_new _ _)
 have iR:Hid (W.heap[T.bt]? =w.heap[T.bt]?):=Lib.hid (by
  rw [← hW,heap_alloc_old _ _ (by simp [World.setCell]; exact aM.out.t)]
  exact aO w _ _ rfl T.tm.symm)
 clear hW c2 f2
 have c0:=HI.out.ptr
 go_wp2_with fail
 refine (bS.out W HI.out iR.out).mono ?_
 rintro e w2 ⟨rfl,hM2,hI2⟩
 have iK:=Lib.hid (HM.out.trans (Hx.refl _ _) (hM2.mm (H:=H)))
 have eX:=Lib.hid hI2
 have fT:Hid (w2.heap[w.heap.size]? =some (.cells jv 42 (0,0))):=Lib.hid (hM2.keep HZ.out (by have:=aM.out.t; omega))
 have bP:Hid (w.heap.size < w2.heap.size):=Lib.hid (Array.getElem?_eq_some_iff.1 fT.out).1
 clear hM2 hI2 c0 HI HM HZ iR bS
 go_upto_region 3 with fail
 go_cut [6] (fun s6 W'=>(∃q:Bool,s6= .bool q∧(q=true→0 < d))∧W'=w2)
 case first=>
  obtain ⟨oI,left',oM,oz,oq,oN,oV,fQ,c0',c1',c2',c3',mR,jB,jC,jq,cf',hv',hrow'⟩:=eX.out.reads
  clear c0' c1' c3' jB jC jq cf' hv' hrow' fQ
  by_cases h1:(0:Int) < (d:Int)
  ·by_cases h2:0 < left'
   ·go_wp2_with fail
    go_meet
    exact ⟨⟨_,rfl,fun _=>by omega⟩,rfl⟩
   ·go_wp2_with fail
    go_meet
    exact ⟨⟨_,rfl,fun _=>by omega⟩,rfl⟩
  ·go_wp2_with fail
   go_meet
   exact ⟨⟨false,rfl,fun h=>(by cases h)⟩,rfl⟩
 obtain ⟨⟨nest,rfl,kT⟩,rfl⟩:=hcut
 obtain ⟨wb,rfl⟩: ∃W:World,W=wc:=⟨_,rfl⟩
 have mg:Hid (Sg T H hs w.heap.size wb H wb):=Lib.hid ⟨Mm.refl _ _ _,Hx.refl _ _,eX.out,fT.out,aM.out,bP.out⟩
 subst hk
 cases nest
 ·have jl:=eX
  have eB:=Lib.hid (show Mm T H wb _ from Mm.refl _ _ _)
  have jr:=Lib.hid (eB.out.keep fT.out (by have:=aM.out.t; omega) (by have:=aM.out.m; omega) (fun e=>by have:=aM.out.h _ e; omega))
  go_wp2_with fail
  refine (HE.out 1 (by decide) _ H hs jl.out).mono ?_
  rintro e w5 ⟨v,rfl,⟨xo,xn,xm,xk,xa,xc,rfl,hok,hst⟩,hM,hI⟩
  have HX:=Lib.hid (And.intro hok (hst.mono eB.out.size))
  have eu:=Lib.hid (eB.out.trans (Hx.refl _ _) (hM.mm (H:=H)))
  have gK:=Lib.hid hI
  have eO:=Lib.hid (hM.keep jr.out (by have:=aM.out.t; omega))
  clear hok hst hM hI
  go_wp2_with fail
  refine (dX ⟨#[120]⟩ xo xn xm xk xa xc w5).mono ?_
  rintro e w6 ⟨rfl,hb⟩
  have bY:=Lib.hid hb
  have gu:=Lib.hid ((hb.block _ (Array.getElem?_eq_some_iff.1 eO.out).1).trans eO.out)
  obtain ⟨⟨y0,y1,y2,y3,y4,y5,y6,y7,y8,y9,iF⟩,fz⟩:=eF gu.out
  have f0:=fz 0
  have f1:=fz 1
  have f2:=fz 2
  have f3:=fz 3
  have f4:=fz 4
  have f5:=fz 5
  have f6:=fz 6
  have f7:=fz 7
  have f8:=fz 8
  have f9:=fz 9
  have f10:=fz 10
  clear fz
  clear hb
  unfold aY aG aK
  go_wp2_with fail
  have HF:=Lib.hid (fG (h:=((⟨aG 1 ⟨#[120]⟩ .nil xo xn xm xk,.nil,.nil,aK xa xc⟩:aD)).h) (b:=((⟨aG 1 ⟨#[120]⟩ .nil xo xn xm xk,.nil,.nil,aK xa xc⟩:aD)).b) (e:=((⟨aG 1 ⟨#[120]⟩ .nil xo xn xm xk,.nil,.nil,aK xa xc⟩:aD)).e) (s:=((⟨aG 1 ⟨#[120]⟩ .nil xo xn xm xk,.nil,.nil,aK xa xc⟩:aD)).s) iK.out aM.out bP.out (eu.out.then_ (bY.out.mono eu.out.size) bY.out.size) (Hx.refl _ _) (gK.out.below bY.out) (mG (by unfold aX; decide) (by unfold maxLen; decide) HX.out.1) (gH eZ (.fV (HX.out.2.next (bT bY.out)) (Nat.le_refl _) (fun k h1 _ e=>absurd (aM.out.h _ e) (by have:=bP.out; omega))) dx dx) gu.out rfl)
  show bodyPost _ _ _ _ _ (World.setCells _ w.heap.size 0 (aD.f (⟨aG 1 ⟨#[120]⟩ .nil xo xn xm xk,.nil,.nil,aK xa xc⟩:aD)))
  generalize fD:World.setCells _ _ _ _=W7 at *
  obtain ⟨⟨z0,z1,z2,z3,z4,z5,z6,z7,z8,z9,fF⟩,HP⟩:=dD HF.out
  clear HF fD
  exact bodyPost_ret (v:=aY ((⟨aG 1 ⟨#[120]⟩ .nil xo xn xm xk,.nil,.nil,aK xa xc⟩:aD)).h ((⟨aG 1 ⟨#[120]⟩ .nil xo xn xm xk,.nil,.nil,aK xa xc⟩:aD)).b ((⟨aG 1 ⟨#[120]⟩ .nil xo xn xm xk,.nil,.nil,aK xa xc⟩:aD)).e ((⟨aG 1 ⟨#[120]⟩ .nil xo xn xm xk,.nil,.nil,aK xa xc⟩:aD)).s) (by simp [results,Tryd.results18,go_sem,aY,z0,z1,z2,z3,z4,z5,z6,z7,z8,z9,fF]) rfl HP.out
 ·have hd0:=kT rfl
  have hd1:(0:Int) < (d:Int):=by omega
  have hwd:IntKind.i64.wrap ((d:Int) - 1)=(d:Int) - 1:=IntWalk.i64_in _ (by omega)
  go_wp2_with fail
  refine (pY T _ H hs _ (eX.out.below (ay _ _))).mono ?_
  rintro e w3 ⟨⟨q,rfl⟩,hw⟩
  have S3:Hid (Sg T H hs w.heap.size wb H w3):=Lib.hid (by rw [← hw]; exact mg.out.below (ay _ _))
  clear hw
  cases q
  ·go_upto_region 23 with fail
   generalize hW:World.alloc w3 _=w4
   have S4:Hid (Sg T H hs w.heap.size wb H w4):=Lib.hid (by rw [← hW]; exact S3.out.below (ay _ _))
   clear hW
   go_wp2_with fail
   refine (nY.out.bl hd0 w4 H hs ⟨#[110]⟩ S4.out.i (by omega) (by unfold maxLen; decide)).mono ?_
   rintro e w5 ⟨v,l,H5,rfl,hg,hok,hl1,hl2,hx,hM,hI⟩
   obtain ⟨ab,cb,rfl,hst⟩:=hg.says hok
   have rP:=Lib.hid (And.intro (rO hl2) hst)
   have Il:=Lib.hid hx
   have eu:=Lib.hid hM
   have S5:=Lib.hid (S4.out.mm hM hx hI)
   clear hg hok hl1 hl2 hx hM hI hst
   have eO:=Lib.hid S5.out.z
   obtain ⟨⟨y0,y1,y2,y3,y4,y5,y6,y7,y8,y9,iF⟩,fz⟩:=eF eO.out
   have f0:=fz 0
   have f1:=fz 1
   have f2:=fz 2
   have f3:=fz 3
   have f4:=fz 4
   have f5:=fz 5
   have f6:=fz 6
   have f7:=fz 7
   have f8:=fz 8
   have f9:=fz 9
   have f10:=fz 10
   clear fz
   go_wp2_with fail
   have HF:=Lib.hid (fG (h:=((⟨aG 4 ⟨#[110]⟩ .nil 0 0 ⟨#[]⟩ .nil,aN l,.nil,fK ab cb⟩:aD)).h) (b:=((⟨aG 4 ⟨#[110]⟩ .nil 0 0 ⟨#[]⟩ .nil,aN l,.nil,fK ab cb⟩:aD)).b) (e:=((⟨aG 4 ⟨#[110]⟩ .nil 0 0 ⟨#[]⟩ .nil,aN l,.nil,fK ab cb⟩:aD)).e) (s:=((⟨aG 4 ⟨#[110]⟩ .nil 0 0 ⟨#[]⟩ .nil,aN l,.nil,fK ab cb⟩:aD)).s) iK.out aM.out bP.out S5.out.m S5.out.x S5.out.i (rD (by unfold aX; decide) (by unfold maxLen; decide) nE nil_le rP.out.1 (Nat.zero_le _)) (gH eZ eZ (rP.out.2.weak S4.out.m.size (fun _ _ _ e=>e)) dx) S5.out.z rfl)
   show bodyPost _ _ _ _ _ (World.setCells _ w.heap.size 0 (aD.f (⟨aG 4 ⟨#[110]⟩ .nil 0 0 ⟨#[]⟩ .nil,aN l,.nil,fK ab cb⟩:aD)))
   generalize fD:World.setCells _ _ _ _=W7 at *
   obtain ⟨⟨z0,z1,z2,z3,z4,z5,z6,z7,z8,z9,fF⟩,HP⟩:=dD HF.out
   clear HF fD
   exact bodyPost_ret (v:=aY ((⟨aG 4 ⟨#[110]⟩ .nil 0 0 ⟨#[]⟩ .nil,aN l,.nil,fK ab cb⟩:aD)).h ((⟨aG 4 ⟨#[110]⟩ .nil 0 0 ⟨#[]⟩ .nil,aN l,.nil,fK ab cb⟩:aD)).b ((⟨aG 4 ⟨#[110]⟩ .nil 0 0 ⟨#[]⟩ .nil,aN l,.nil,fK ab cb⟩:aD)).e ((⟨aG 4 ⟨#[110]⟩ .nil 0 0 ⟨#[]⟩ .nil,aN l,.nil,fK ab cb⟩:aD)).s) (by simp [results,Tryd.results18,go_sem,aY,z0,z1,z2,z3,z4,z5,z6,z7,z8,z9,fF]) rfl HP.out
  ·have HI3:=Lib.hid S3.out.i
   have jl:=HI3
   have eB:=Lib.hid (show Mm T H wb _ from S3.out.m)
   have jr:=Lib.hid (eB.out.keep fT.out (by have:=aM.out.t; omega) (by have:=aM.out.m; omega) (fun e=>by have:=aM.out.h _ e; omega))
   go_wp2_with fail
   refine (HE.out 1 (by decide) _ H hs jl.out).mono ?_
   rintro e w5 ⟨v,rfl,⟨xo,xn,xm,xk,xa,xc,rfl,hok,hst⟩,hM,hI⟩
   have HX:=Lib.hid (And.intro hok (hst.mono eB.out.size))
   have eu:=Lib.hid (eB.out.trans (Hx.refl _ _) (hM.mm (H:=H)))
   have gK:=Lib.hid hI
   have eO:=Lib.hid (hM.keep jr.out (by have:=aM.out.t; omega))
   clear hok hst hM hI
   go_wp2_with fail
   refine (dX ⟨#[120]⟩ xo xn xm xk xa xc w5).mono ?_
   rintro e w6 ⟨rfl,hb⟩
   have bY:=Lib.hid hb
   have gu:=Lib.hid ((hb.block _ (Array.getElem?_eq_some_iff.1 eO.out).1).trans eO.out)
   obtain ⟨⟨y0,y1,y2,y3,y4,y5,y6,y7,y8,y9,iF⟩,fz⟩:=eF gu.out
   have f0:=fz 0
   have f1:=fz 1
   have f2:=fz 2
   have f3:=fz 3
   have f4:=fz 4
   have f5:=fz 5
   have f6:=fz 6
   have f7:=fz 7
   have f8:=fz 8
   have f9:=fz 9
   have f10:=fz 10
   clear fz
   clear hb
   unfold aY aG aK
   go_wp2_with fail
   have HF:=Lib.hid (fG (h:=((⟨aG 1 ⟨#[120]⟩ .nil xo xn xm xk,.nil,.nil,aK xa xc⟩:aD)).h) (b:=((⟨aG 1 ⟨#[120]⟩ .nil xo xn xm xk,.nil,.nil,aK xa xc⟩:aD)).b) (e:=((⟨aG 1 ⟨#[120]⟩ .nil xo xn xm xk,.nil,.nil,aK xa xc⟩:aD)).e) (s:=((⟨aG 1 ⟨#[120]⟩ .nil xo xn xm xk,.nil,.nil,aK xa xc⟩:aD)).s) iK.out aM.out bP.out (eu.out.then_ (bY.out.mono eu.out.size) bY.out.size) (Hx.refl _ _) (gK.out.below bY.out) (mG (by unfold aX; decide) (by unfold maxLen; decide) HX.out.1) (gH eZ (.fV (HX.out.2.next (bT bY.out)) (Nat.le_refl _) (fun k h1 _ e=>absurd (aM.out.h _ e) (by have:=bP.out; omega))) dx dx) gu.out rfl)
   show bodyPost _ _ _ _ _ (World.setCells _ w.heap.size 0 (aD.f (⟨aG 1 ⟨#[120]⟩ .nil xo xn xm xk,.nil,.nil,aK xa xc⟩:aD)))
   generalize fD:World.setCells _ _ _ _=W7 at *
   obtain ⟨⟨z0,z1,z2,z3,z4,z5,z6,z7,z8,z9,fF⟩,HP⟩:=dD HF.out
   clear HF fD
   exact bodyPost_ret (v:=aY ((⟨aG 1 ⟨#[120]⟩ .nil xo xn xm xk,.nil,.nil,aK xa xc⟩:aD)).h ((⟨aG 1 ⟨#[120]⟩ .nil xo xn xm xk,.nil,.nil,aK xa xc⟩:aD)).b ((⟨aG 1 ⟨#[120]⟩ .nil xo xn xm xk,.nil,.nil,aK xa xc⟩:aD)).e ((⟨aG 1 ⟨#[120]⟩ .nil xo xn xm xk,.nil,.nil,aK xa xc⟩:aD)).s) (by simp [results,Tryd.results18,go_sem,aY,z0,z1,z2,z3,z4,z5,z6,z7,z8,z9,fF]) rfl HP.out
end Go.Proofs.YtnknfoibmgphnaaDoor
end
section
set_option linter.unusedSimpArgs false
set_option linter.unusedVariables false
namespace Go.Proofs.YtnknfoibmgphnaaDoor
open Go.RowKit
open Md
set_option maxHeartbeats 4000000 in
set_option maxRecDepth 100000 in
theorem Ph:lJ (fun k=>k=10):=by
 intro T d k hk hms w H hs hI jh hnx
 have hd:=hms.pI
 have nY:=Lib.hid hms
 have bS:=Lib.hid hnx
 have HI0:=Lib.hid hI
 have aM:Hid (Old T H w.heap.size):=Lib.hid hI.old
 have HE:Hid (∀d:Nat,d≤100→jJ T (d:Int)):=Lib.hid (jf T)
 obtain ⟨th,left,qa,qb,qc,qd,vH,iY,c0,c1,c2,c3,c4,c5,c6,c7,cf,hv,hrow⟩:=hI.reads
 have f2:=cf 2
 have ug:T.bm < w.heap.size:=hI.lt
 clear hI hrow c1 c3 c4 c5 c6 c7 iY hv cf c0 hms hnx
 go_enter Tryd.func18,Tryd.ntmps18
 go_upto_region 2 with fail
 generalize hW:World.alloc _ _=W
 have HI:Hid (cZ W T H hs):=Lib.hid (by rw [← hW]; exact (HI0.out.left (nG _)).below (ay _ _))
 have HM:Hid (Mm T H w W):=Lib.hid (by rw [← hW]; exact ((Mm.refl T H w).mJ (Hx.refl w H) _ _).then_ ((ay _ _).mono (by simp [World.setCell])) (ay _ _).size)
 have HZ:Hid (W.heap[w.heap.size]? =some (.cells jv 42 (0,0))):=Lib.hid (by
  rw [← hW]
  have e:(World.setCell w ⟨T.bm,2,none⟩ (.int .i64 (wrap64 (left - 1)))).heap.size=w.heap.size:=by simp [World.setCell]
  rw [← e]; exact heap_alloc_new _ _)
 have iR:Hid (W.heap[T.bt]? =w.heap[T.bt]?):=Lib.hid (by
  rw [← hW,heap_alloc_old _ _ (by simp [World.setCell]; exact aM.out.t)]
  exact aO w _ _ rfl T.tm.symm)
 clear hW c2 f2
 have c0:=HI.out.ptr
 go_wp2_with fail
 refine (bS.out W HI.out iR.out).mono ?_
 rintro e w2 ⟨rfl,hM2,hI2⟩
 have iK:=Lib.hid (HM.out.trans (Hx.refl _ _) (hM2.mm (H:=H)))
 have eX:=Lib.hid hI2
 have fT:Hid (w2.heap[w.heap.size]? =some (.cells jv 42 (0,0))):=Lib.hid (hM2.keep HZ.out (by have:=aM.out.t; omega))
 have bP:Hid (w.heap.size < w2.heap.size):=Lib.hid (Array.getElem?_eq_some_iff.1 fT.out).1
 clear hM2 hI2 c0 HI HM HZ iR bS
 go_upto_region 3 with fail
 go_cut [6] (fun s6 W'=>(∃q:Bool,s6= .bool q∧(q=true→0 < d))∧W'=w2)
 case first=>
  obtain ⟨oI,left',oM,oz,oq,oN,oV,fQ,c0',c1',c2',c3',mR,jB,jC,jq,cf',hv',hrow'⟩:=eX.out.reads
  clear c0' c1' c3' jB jC jq cf' hv' hrow' fQ
  by_cases h1:(0:Int) < (d:Int)
  ·by_cases h2:0 < left'
   ·go_wp2_with fail
    go_meet
    exact ⟨⟨_,rfl,fun _=>by omega⟩,rfl⟩
   ·go_wp2_with fail
    go_meet
    exact ⟨⟨_,rfl,fun _=>by omega⟩,rfl⟩
  ·go_wp2_with fail
   go_meet
   exact ⟨⟨false,rfl,fun h=>(by cases h)⟩,rfl⟩
 obtain ⟨⟨nest,rfl,kT⟩,rfl⟩:=hcut
 obtain ⟨wb,rfl⟩: ∃W:World,W=wc:=⟨_,rfl⟩
 have mg:Hid (Sg T H hs w.heap.size wb H wb):=Lib.hid ⟨Mm.refl _ _ _,Hx.refl _ _,eX.out,fT.out,aM.out,bP.out⟩
 subst hk
 cases nest
 ·have jl:=eX
  have eB:=Lib.hid (show Mm T H wb _ from Mm.refl _ _ _)
  have jr:=Lib.hid (eB.out.keep fT.out (by have:=aM.out.t; omega) (by have:=aM.out.m; omega) (fun e=>by have:=aM.out.h _ e; omega))
  go_wp2_with fail
  refine (HE.out 1 (by decide) _ H hs jl.out).mono ?_
  rintro e w5 ⟨v,rfl,⟨xo,xn,xm,xk,xa,xc,rfl,hok,hst⟩,hM,hI⟩
  have HX:=Lib.hid (And.intro hok (hst.mono eB.out.size))
  have eu:=Lib.hid (eB.out.trans (Hx.refl _ _) (hM.mm (H:=H)))
  have gK:=Lib.hid hI
  have eO:=Lib.hid (hM.keep jr.out (by have:=aM.out.t; omega))
  clear hok hst hM hI
  go_wp2_with fail
  refine (dX ⟨#[120]⟩ xo xn xm xk xa xc w5).mono ?_
  rintro e w6 ⟨rfl,hb⟩
  have bY:=Lib.hid hb
  have gu:=Lib.hid ((hb.block _ (Array.getElem?_eq_some_iff.1 eO.out).1).trans eO.out)
  obtain ⟨⟨y0,y1,y2,y3,y4,y5,y6,y7,y8,y9,iF⟩,fz⟩:=eF gu.out
  have f0:=fz 0
  have f1:=fz 1
  have f2:=fz 2
  have f3:=fz 3
  have f4:=fz 4
  have f5:=fz 5
  have f6:=fz 6
  have f7:=fz 7
  have f8:=fz 8
  have f9:=fz 9
  have f10:=fz 10
  clear fz
  clear hb
  unfold aY aG aK
  go_wp2_with fail
  have HF:=Lib.hid (fG (h:=((⟨aG 1 ⟨#[120]⟩ .nil xo xn xm xk,.nil,.nil,aK xa xc⟩:aD)).h) (b:=((⟨aG 1 ⟨#[120]⟩ .nil xo xn xm xk,.nil,.nil,aK xa xc⟩:aD)).b) (e:=((⟨aG 1 ⟨#[120]⟩ .nil xo xn xm xk,.nil,.nil,aK xa xc⟩:aD)).e) (s:=((⟨aG 1 ⟨#[120]⟩ .nil xo xn xm xk,.nil,.nil,aK xa xc⟩:aD)).s) iK.out aM.out bP.out (eu.out.then_ (bY.out.mono eu.out.size) bY.out.size) (Hx.refl _ _) (gK.out.below bY.out) (mG (by unfold aX; decide) (by unfold maxLen; decide) HX.out.1) (gH eZ (.fV (HX.out.2.next (bT bY.out)) (Nat.le_refl _) (fun k h1 _ e=>absurd (aM.out.h _ e) (by have:=bP.out; omega))) dx dx) gu.out rfl)
  show bodyPost _ _ _ _ _ (World.setCells _ w.heap.size 0 (aD.f (⟨aG 1 ⟨#[120]⟩ .nil xo xn xm xk,.nil,.nil,aK xa xc⟩:aD)))
  generalize fD:World.setCells _ _ _ _=W7 at *
  obtain ⟨⟨z0,z1,z2,z3,z4,z5,z6,z7,z8,z9,fF⟩,HP⟩:=dD HF.out
  clear HF fD
  exact bodyPost_ret (v:=aY ((⟨aG 1 ⟨#[120]⟩ .nil xo xn xm xk,.nil,.nil,aK xa xc⟩:aD)).h ((⟨aG 1 ⟨#[120]⟩ .nil xo xn xm xk,.nil,.nil,aK xa xc⟩:aD)).b ((⟨aG 1 ⟨#[120]⟩ .nil xo xn xm xk,.nil,.nil,aK xa xc⟩:aD)).e ((⟨aG 1 ⟨#[120]⟩ .nil xo xn xm xk,.nil,.nil,aK xa xc⟩:aD)).s) (by simp [results,Tryd.results18,go_sem,aY,z0,z1,z2,z3,z4,z5,z6,z7,z8,z9,fF]) rfl HP.out
 ·have hd0:=kT rfl
  have hd1:(0:Int) < (d:Int):=by omega
  have hwd:IntKind.i64.wrap ((d:Int) - 1)=(d:Int) - 1:=IntWalk.i64_in _ (by omega)
  go_wp2_with fail
  refine (pY T _ H hs _ eX.out).mono ?_
  rintro e w3 ⟨⟨q,rfl⟩,rfl⟩
  cases q
  ·go_wp2_with fail
   refine (nY.out.bl hd0 wb H hs ⟨#[114]⟩ eX.out (by omega) (by unfold maxLen; decide)).mono ?_
   rintro e w5 ⟨v,l,H5,rfl,hg,hok,hl1,hl2,hx,hM,hI⟩
   obtain ⟨ab,cb,rfl,hst⟩:=hg.says hok
   have rP:=Lib.hid (And.intro (rO hl2) hst)
   have Il:=Lib.hid hx
   have eu:=Lib.hid hM
   have S5:=Lib.hid (mg.out.mm hM hx hI)
   clear hg hok hl1 hl2 hx hM hI hst
   have eO:=Lib.hid S5.out.z
   obtain ⟨⟨y0,y1,y2,y3,y4,y5,y6,y7,y8,y9,iF⟩,fz⟩:=eF eO.out
   have f0:=fz 0
   have f1:=fz 1
   have f2:=fz 2
   have f3:=fz 3
   have f4:=fz 4
   have f5:=fz 5
   have f6:=fz 6
   have f7:=fz 7
   have f8:=fz 8
   have f9:=fz 9
   have f10:=fz 10
   clear fz
   go_wp2_with fail
   have HF:=Lib.hid (fG (h:=((⟨aG 5 ⟨#[114]⟩ .nil 0 0 ⟨#[]⟩ .nil,aN l,.nil,fK ab cb⟩:aD)).h) (b:=((⟨aG 5 ⟨#[114]⟩ .nil 0 0 ⟨#[]⟩ .nil,aN l,.nil,fK ab cb⟩:aD)).b) (e:=((⟨aG 5 ⟨#[114]⟩ .nil 0 0 ⟨#[]⟩ .nil,aN l,.nil,fK ab cb⟩:aD)).e) (s:=((⟨aG 5 ⟨#[114]⟩ .nil 0 0 ⟨#[]⟩ .nil,aN l,.nil,fK ab cb⟩:aD)).s) iK.out aM.out bP.out S5.out.m S5.out.x S5.out.i (rD (by unfold aX; decide) (by unfold maxLen; decide) nE nil_le rP.out.1 (Nat.zero_le _)) (gH eZ eZ rP.out.2 dx) S5.out.z rfl)
   show bodyPost _ _ _ _ _ (World.setCells _ w.heap.size 0 (aD.f (⟨aG 5 ⟨#[114]⟩ .nil 0 0 ⟨#[]⟩ .nil,aN l,.nil,fK ab cb⟩:aD)))
   generalize fD:World.setCells _ _ _ _=W7 at *
   obtain ⟨⟨z0,z1,z2,z3,z4,z5,z6,z7,z8,z9,fF⟩,HP⟩:=dD HF.out
   clear HF fD
   exact bodyPost_ret (v:=aY ((⟨aG 5 ⟨#[114]⟩ .nil 0 0 ⟨#[]⟩ .nil,aN l,.nil,fK ab cb⟩:aD)).h ((⟨aG 5 ⟨#[114]⟩ .nil 0 0 ⟨#[]⟩ .nil,aN l,.nil,fK ab cb⟩:aD)).b ((⟨aG 5 ⟨#[114]⟩ .nil 0 0 ⟨#[]⟩ .nil,aN l,.nil,fK ab cb⟩:aD)).e ((⟨aG 5 ⟨#[114]⟩ .nil 0 0 ⟨#[]⟩ .nil,aN l,.nil,fK ab cb⟩:aD)).s) (by simp [results,Tryd.results18,go_sem,aY,z0,z1,z2,z3,z4,z5,z6,z7,z8,z9,fF]) rfl HP.out
  ·have jl:=eX
   have eB:=Lib.hid (show Mm T H wb _ from Mm.refl _ _ _)
   have jr:=Lib.hid (eB.out.keep fT.out (by have:=aM.out.t; omega) (by have:=aM.out.m; omega) (fun e=>by have:=aM.out.h _ e; omega))
   go_wp2_with fail
   refine (HE.out 1 (by decide) _ H hs jl.out).mono ?_
   rintro e w5 ⟨v,rfl,⟨xo,xn,xm,xk,xa,xc,rfl,hok,hst⟩,hM,hI⟩
   have HX:=Lib.hid (And.intro hok (hst.mono eB.out.size))
   have eu:=Lib.hid (eB.out.trans (Hx.refl _ _) (hM.mm (H:=H)))
   have gK:=Lib.hid hI
   have eO:=Lib.hid (hM.keep jr.out (by have:=aM.out.t; omega))
   clear hok hst hM hI
   go_wp2_with fail
   refine (dX ⟨#[120]⟩ xo xn xm xk xa xc w5).mono ?_
   rintro e w6 ⟨rfl,hb⟩
   have bY:=Lib.hid hb
   have gu:=Lib.hid ((hb.block _ (Array.getElem?_eq_some_iff.1 eO.out).1).trans eO.out)
   obtain ⟨⟨y0,y1,y2,y3,y4,y5,y6,y7,y8,y9,iF⟩,fz⟩:=eF gu.out
   have f0:=fz 0
   have f1:=fz 1
   have f2:=fz 2
   have f3:=fz 3
   have f4:=fz 4
   have f5:=fz 5
   have f6:=fz 6
   have f7:=fz 7
   have f8:=fz 8
   have f9:=fz 9
   have f10:=fz 10
   clear fz
   clear hb
   unfold aY aG aK
   go_wp2_with fail
   have HF:=Lib.hid (fG (h:=((⟨aG 1 ⟨#[120]⟩ .nil xo xn xm xk,.nil,.nil,aK xa xc⟩:aD)).h) (b:=((⟨aG 1 ⟨#[120]⟩ .nil xo xn xm xk,.nil,.nil,aK xa xc⟩:aD)).b) (e:=((⟨aG 1 ⟨#[120]⟩ .nil xo xn xm xk,.nil,.nil,aK xa xc⟩:aD)).e) (s:=((⟨aG 1 ⟨#[120]⟩ .nil xo xn xm xk,.nil,.nil,aK xa xc⟩:aD)).s) iK.out aM.out bP.out (eu.out.then_ (bY.out.mono eu.out.size) bY.out.size) (Hx.refl _ _) (gK.out.below bY.out) (mG (by unfold aX; decide) (by unfold maxLen; decide) HX.out.1) (gH eZ (.fV (HX.out.2.next (bT bY.out)) (Nat.le_refl _) (fun k h1 _ e=>absurd (aM.out.h _ e) (by have:=bP.out; omega))) dx dx) gu.out rfl)
   show bodyPost _ _ _ _ _ (World.setCells _ w.heap.size 0 (aD.f (⟨aG 1 ⟨#[120]⟩ .nil xo xn xm xk,.nil,.nil,aK xa xc⟩:aD)))
   generalize fD:World.setCells _ _ _ _=W7 at *
   obtain ⟨⟨z0,z1,z2,z3,z4,z5,z6,z7,z8,z9,fF⟩,HP⟩:=dD HF.out
   clear HF fD
   exact bodyPost_ret (v:=aY ((⟨aG 1 ⟨#[120]⟩ .nil xo xn xm xk,.nil,.nil,aK xa xc⟩:aD)).h ((⟨aG 1 ⟨#[120]⟩ .nil xo xn xm xk,.nil,.nil,aK xa xc⟩:aD)).b ((⟨aG 1 ⟨#[120]⟩ .nil xo xn xm xk,.nil,.nil,aK xa xc⟩:aD)).e ((⟨aG 1 ⟨#[120]⟩ .nil xo xn xm xk,.nil,.nil,aK xa xc⟩:aD)).s) (by simp [results,Tryd.results18,go_sem,aY,z0,z1,z2,z3,z4,z5,z6,z7,z8,z9,fF]) rfl HP.out
set_option maxHeartbeats 4000000 in
set_option maxRecDepth 100000 in
theorem Po:lJ (fun k=>k=11):=by
 intro T d k hk hms w H hs hI jh hnx
 have hd:=hms.pI
 have nY:=Lib.hid hms
 have bS:=Lib.hid hnx
 have HI0:=Lib.hid hI
 have aM:Hid (Old T H w.heap.size):=Lib.hid hI.old
 have HE:Hid (∀d:Nat,d≤100→jJ T (d:Int)):=Lib.hid (jf T)
 obtain ⟨th,left,qa,qb,qc,qd,vH,iY,c0,c1,c2,c3,c4,c5,c6,c7,cf,hv,hrow⟩:=hI.reads
 have f2:=cf 2
 have ug:T.bm < w.heap.size:=hI.lt
 clear hI hrow c1 c3 c4 c5 c6 c7 iY hv cf c0 hms hnx
 go_enter Tryd.func18,Tryd.ntmps18
 go_upto_region 2 with fail
 generalize hW:World.alloc _ _=W
 have HI:Hid (cZ W T H hs):=Lib.hid (by rw [← hW]; exact (HI0.out.left (nG _)).below (ay _ _))
 have HM:Hid (Mm T H w W):=Lib.hid (by rw [← hW]; exact ((Mm.refl T H w).mJ (Hx.refl w H) _ _).then_ ((ay _ _).mono (by simp [World.setCell])) (ay _ _).size)
 have HZ:Hid (W.heap[w.heap.size]? =some (.cells jv 42 (0,0))):=Lib.hid (by
  rw [← hW]
  have e:(World.setCell w ⟨T.bm,2,none⟩ (.int .i64 (wrap64 (left - 1)))).heap.size=w.heap.size:=by simp [World.setCell]
  rw [← e]; exact heap_alloc_new _ _)
 have iR:Hid (W.heap[T.bt]? =w.heap[T.bt]?):=Lib.hid (by
  rw [← hW,heap_alloc_old _ _ (by simp [World.setCell]; exact aM.out.t)]
  exact aO w _ _ rfl T.tm.symm)
 clear hW c2 f2
 have c0:=HI.out.ptr
 go_wp2_with fail
 refine (bS.out W HI.out iR.out).mono ?_
 rintro e w2 ⟨rfl,hM2,hI2⟩
 have iK:=Lib.hid (HM.out.trans (Hx.refl _ _) (hM2.mm (H:=H)))
 have eX:=Lib.hid hI2
 have fT:Hid (w2.heap[w.heap.size]? =some (.cells jv 42 (0,0))):=Lib.hid (hM2.keep HZ.out (by have:=aM.out.t; omega))
 have bP:Hid (w.heap.size < w2.heap.size):=Lib.hid (Array.getElem?_eq_some_iff.1 fT.out).1
 clear hM2 hI2 c0 HI HM HZ iR bS
 go_upto_region 3 with fail
 go_cut [6] (fun s6 W'=>(∃q:Bool,s6= .bool q∧(q=true→0 < d))∧W'=w2)
 case first=>
  obtain ⟨oI,left',oM,oz,oq,oN,oV,fQ,c0',c1',c2',c3',mR,jB,jC,jq,cf',hv',hrow'⟩:=eX.out.reads
  clear c0' c1' c3' jB jC jq cf' hv' hrow' fQ
  by_cases h1:(0:Int) < (d:Int)
  ·by_cases h2:0 < left'
   ·go_wp2_with fail
    go_meet
    exact ⟨⟨_,rfl,fun _=>by omega⟩,rfl⟩
   ·go_wp2_with fail
    go_meet
    exact ⟨⟨_,rfl,fun _=>by omega⟩,rfl⟩
  ·go_wp2_with fail
   go_meet
   exact ⟨⟨false,rfl,fun h=>(by cases h)⟩,rfl⟩
 obtain ⟨⟨nest,rfl,kT⟩,rfl⟩:=hcut
 obtain ⟨wb,rfl⟩: ∃W:World,W=wc:=⟨_,rfl⟩
 have mg:Hid (Sg T H hs w.heap.size wb H wb):=Lib.hid ⟨Mm.refl _ _ _,Hx.refl _ _,eX.out,fT.out,aM.out,bP.out⟩
 subst hk
 cases nest
 ·have jl:=eX
  have eB:=Lib.hid (show Mm T H wb _ from Mm.refl _ _ _)
  have jr:=Lib.hid (eB.out.keep fT.out (by have:=aM.out.t; omega) (by have:=aM.out.m; omega) (fun e=>by have:=aM.out.h _ e; omega))
  go_wp2_with fail
  refine (HE.out 1 (by decide) _ H hs jl.out).mono ?_
  rintro e w5 ⟨v,rfl,⟨xo,xn,xm,xk,xa,xc,rfl,hok,hst⟩,hM,hI⟩
  have HX:=Lib.hid (And.intro hok (hst.mono eB.out.size))
  have eu:=Lib.hid (eB.out.trans (Hx.refl _ _) (hM.mm (H:=H)))
  have gK:=Lib.hid hI
  have eO:=Lib.hid (hM.keep jr.out (by have:=aM.out.t; omega))
  clear hok hst hM hI
  go_wp2_with fail
  refine (dX ⟨#[120]⟩ xo xn xm xk xa xc w5).mono ?_
  rintro e w6 ⟨rfl,hb⟩
  have bY:=Lib.hid hb
  have gu:=Lib.hid ((hb.block _ (Array.getElem?_eq_some_iff.1 eO.out).1).trans eO.out)
  obtain ⟨⟨y0,y1,y2,y3,y4,y5,y6,y7,y8,y9,iF⟩,fz⟩:=eF gu.out
  have f0:=fz 0
  have f1:=fz 1
  have f2:=fz 2
  have f3:=fz 3
  have f4:=fz 4
  have f5:=fz 5
  have f6:=fz 6
  have f7:=fz 7
  have f8:=fz 8
  have f9:=fz 9
  have f10:=fz 10
  clear fz
  clear hb
  unfold aY aG aK
  go_wp2_with fail
  have HF:=Lib.hid (fG (h:=((⟨aG 1 ⟨#[120]⟩ .nil xo xn xm xk,.nil,.nil,aK xa xc⟩:aD)).h) (b:=((⟨aG 1 ⟨#[120]⟩ .nil xo xn xm xk,.nil,.nil,aK xa xc⟩:aD)).b) (e:=((⟨aG 1 ⟨#[120]⟩ .nil xo xn xm xk,.nil,.nil,aK xa xc⟩:aD)).e) (s:=((⟨aG 1 ⟨#[120]⟩ .nil xo xn xm xk,.nil,.nil,aK xa xc⟩:aD)).s) iK.out aM.out bP.out (eu.out.then_ (bY.out.mono eu.out.size) bY.out.size) (Hx.refl _ _) (gK.out.below bY.out) (mG (by unfold aX; decide) (by unfold maxLen; decide) HX.out.1) (gH eZ (.fV (HX.out.2.next (bT bY.out)) (Nat.le_refl _) (fun k h1 _ e=>absurd (aM.out.h _ e) (by have:=bP.out; omega))) dx dx) gu.out rfl)
  show bodyPost _ _ _ _ _ (World.setCells _ w.heap.size 0 (aD.f (⟨aG 1 ⟨#[120]⟩ .nil xo xn xm xk,.nil,.nil,aK xa xc⟩:aD)))
  generalize fD:World.setCells _ _ _ _=W7 at *
  obtain ⟨⟨z0,z1,z2,z3,z4,z5,z6,z7,z8,z9,fF⟩,HP⟩:=dD HF.out
  clear HF fD
  exact bodyPost_ret (v:=aY ((⟨aG 1 ⟨#[120]⟩ .nil xo xn xm xk,.nil,.nil,aK xa xc⟩:aD)).h ((⟨aG 1 ⟨#[120]⟩ .nil xo xn xm xk,.nil,.nil,aK xa xc⟩:aD)).b ((⟨aG 1 ⟨#[120]⟩ .nil xo xn xm xk,.nil,.nil,aK xa xc⟩:aD)).e ((⟨aG 1 ⟨#[120]⟩ .nil xo xn xm xk,.nil,.nil,aK xa xc⟩:aD)).s) (by simp [results,Tryd.results18,go_sem,aY,z0,z1,z2,z3,z4,z5,z6,z7,z8,z9,fF]) rfl HP.out
 ·have hd0:=kT rfl
  have hd1:(0:Int) < (d:Int):=by omega
  have hwd:IntKind.i64.wrap ((d:Int) - 1)=(d:Int) - 1:=IntWalk.i64_in _ (by omega)
  go_wp2_with fail
  refine (pY T _ H hs _ eX.out).mono ?_
  rintro e w3 ⟨⟨q,rfl⟩,rfl⟩
  cases q
  ·go_wp2_with fail
   refine (nY.out.bl hd0 wb H hs ⟨#[114]⟩ eX.out (by omega) (by unfold maxLen; decide)).mono ?_
   rintro e w5 ⟨v,l,H5,rfl,hg,hok,hl1,hl2,hx,hM,hI⟩
   obtain ⟨ab,cb,rfl,hst⟩:=hg.says hok
   have rP:=Lib.hid (And.intro (rO hl2) hst)
   have Il:=Lib.hid hx
   have eu:=Lib.hid hM
   have S5:=Lib.hid (mg.out.mm hM hx hI)
   clear hg hok hl1 hl2 hx hM hI hst
   have eO:=Lib.hid S5.out.z
   obtain ⟨⟨y0,y1,y2,y3,y4,y5,y6,y7,y8,y9,iF⟩,fz⟩:=eF eO.out
   have f0:=fz 0
   have f1:=fz 1
   have f2:=fz 2
   have f3:=fz 3
   have f4:=fz 4
   have f5:=fz 5
   have f6:=fz 6
   have f7:=fz 7
   have f8:=fz 8
   have f9:=fz 9
   have f10:=fz 10
   clear fz
   go_wp2_with fail
   have HF:=Lib.hid (fG (h:=((⟨aG 6 ⟨#[114]⟩ .nil 0 0 ⟨#[]⟩ .nil,aN l,.nil,fK ab cb⟩:aD)).h) (b:=((⟨aG 6 ⟨#[114]⟩ .nil 0 0 ⟨#[]⟩ .nil,aN l,.nil,fK ab cb⟩:aD)).b) (e:=((⟨aG 6 ⟨#[114]⟩ .nil 0 0 ⟨#[]⟩ .nil,aN l,.nil,fK ab cb⟩:aD)).e) (s:=((⟨aG 6 ⟨#[114]⟩ .nil 0 0 ⟨#[]⟩ .nil,aN l,.nil,fK ab cb⟩:aD)).s) iK.out aM.out bP.out S5.out.m S5.out.x S5.out.i (rD (by unfold aX; decide) (by unfold maxLen; decide) nE nil_le rP.out.1 (Nat.zero_le _)) (gH eZ eZ rP.out.2 dx) S5.out.z rfl)
   show bodyPost _ _ _ _ _ (World.setCells _ w.heap.size 0 (aD.f (⟨aG 6 ⟨#[114]⟩ .nil 0 0 ⟨#[]⟩ .nil,aN l,.nil,fK ab cb⟩:aD)))
   generalize fD:World.setCells _ _ _ _=W7 at *
   obtain ⟨⟨z0,z1,z2,z3,z4,z5,z6,z7,z8,z9,fF⟩,HP⟩:=dD HF.out
   clear HF fD
   exact bodyPost_ret (v:=aY ((⟨aG 6 ⟨#[114]⟩ .nil 0 0 ⟨#[]⟩ .nil,aN l,.nil,fK ab cb⟩:aD)).h ((⟨aG 6 ⟨#[114]⟩ .nil 0 0 ⟨#[]⟩ .nil,aN l,.nil,fK ab cb⟩:aD)).b ((⟨aG 6 ⟨#[114]⟩ .nil 0 0 ⟨#[]⟩ .nil,aN l,.nil,fK ab cb⟩:aD)).e ((⟨aG 6 ⟨#[114]⟩ .nil 0 0 ⟨#[]⟩ .nil,aN l,.nil,fK ab cb⟩:aD)).s) (by simp [results,Tryd.results18,go_sem,aY,z0,z1,z2,z3,z4,z5,z6,z7,z8,z9,fF]) rfl HP.out
  ·have jl:=eX
   have eB:=Lib.hid (show Mm T H wb _ from Mm.refl _ _ _)
   have jr:=Lib.hid (eB.out.keep fT.out (by have:=aM.out.t; omega) (by have:=aM.out.m; omega) (fun e=>by have:=aM.out.h _ e; omega))
   go_wp2_with fail
   refine (HE.out 1 (by decide) _ H hs jl.out).mono ?_
   rintro e w5 ⟨v,rfl,⟨xo,xn,xm,xk,xa,xc,rfl,hok,hst⟩,hM,hI⟩
   have HX:=Lib.hid (And.intro hok (hst.mono eB.out.size))
   have eu:=Lib.hid (eB.out.trans (Hx.refl _ _) (hM.mm (H:=H)))
   have gK:=Lib.hid hI
   have eO:=Lib.hid (hM.keep jr.out (by have:=aM.out.t; omega))
   clear hok hst hM hI
   go_wp2_with fail
   refine (dX ⟨#[120]⟩ xo xn xm xk xa xc w5).mono ?_
   rintro e w6 ⟨rfl,hb⟩
   have bY:=Lib.hid hb
   have gu:=Lib.hid ((hb.block _ (Array.getElem?_eq_some_iff.1 eO.out).1).trans eO.out)
   obtain ⟨⟨y0,y1,y2,y3,y4,y5,y6,y7,y8,y9,iF⟩,fz⟩:=eF gu.out
   have f0:=fz 0
   have f1:=fz 1
   have f2:=fz 2
   have f3:=fz 3
   have f4:=fz 4
   have f5:=fz 5
   have f6:=fz 6
   have f7:=fz 7
   have f8:=fz 8
   have f9:=fz 9
   have f10:=fz 10
   clear fz
   clear hb
   unfold aY aG aK
   go_wp2_with fail
   have HF:=Lib.hid (fG (h:=((⟨aG 1 ⟨#[120]⟩ .nil xo xn xm xk,.nil,.nil,aK xa xc⟩:aD)).h) (b:=((⟨aG 1 ⟨#[120]⟩ .nil xo xn xm xk,.nil,.nil,aK xa xc⟩:aD)).b) (e:=((⟨aG 1 ⟨#[120]⟩ .nil xo xn xm xk,.nil,.nil,aK xa xc⟩:aD)).e) (s:=((⟨aG 1 ⟨#[120]⟩ .nil xo xn xm xk,.nil,.nil,aK xa xc⟩:aD)).s) iK.out aM.out bP.out (eu.out.then_ (bY.out.mono eu.out.size) bY.out.size) (Hx.refl _ _) (gK.out.below bY.out) (mG (by unfold aX; decide) (by unfold maxLen; decide) HX.out.1) (gH eZ (.fV (HX.out.2.next (bT bY.out)) (Nat.le_refl _) (fun k h1 _ e=>absurd (aM.out.h _ e) (by have:=bP.out; omega))) dx dx) gu.out rfl)
   show bodyPost _ _ _ _ _ (World.setCells _ w.heap.size 0 (aD.f (⟨aG 1 ⟨#[120]⟩ .nil xo xn xm xk,.nil,.nil,aK xa xc⟩:aD)))
   generalize fD:World.setCells _ _ _ _=W7 at *
   obtain ⟨⟨z0,z1,z2,z3,z4,z5,z6,z7,z8,z9,fF⟩,HP⟩:=dD HF.out
   clear HF fD
   exact bodyPost_ret (v:=aY ((⟨aG 1 ⟨#[120]⟩ .nil xo xn xm xk,.nil,.nil,aK xa xc⟩:aD)).h ((⟨aG 1 ⟨#[120]⟩ .nil xo xn xm xk,.nil,.nil,aK xa xc⟩:aD)).b ((⟨aG 1 ⟨#[120]⟩ .nil xo xn xm xk,.nil,.nil,aK xa xc⟩:aD)).e ((⟨aG 1 ⟨#[120]⟩ .nil xo xn xm xk,.nil,.nil,aK xa xc⟩:aD)).s) (by simp [results,Tryd.results18,go_sem,aY,z0,z1,z2,z3,z4,z5,z6,z7,z8,z9,fF]) rfl HP.out
end Go.Proofs.YtnknfoibmgphnaaDoor
end
