/-
  Parts of the maker's stmt.
  Parts of the maker's stmt.
-/
import Derived.Test.YtnknfoibmgphnaaDoorGPC
section
set_option linter.unusedSimpArgs false
set_option linter.unusedVariables false
namespace Go.Proofs.YtnknfoibmgphnaaDoor
open Go.RowKit
open Md
set_option maxHeartbeats 4000000 in
set_option maxRecDepth 100000 in
theorem OC:lJ (fun k=>k=12):=by
 intro T d k hk hms w H hs hI jh hnx
 have hd:=hms.pI
 have nY:=Lib.hid hms
 have bS:=Lib.hid hnx
 have HI0:=Lib.hid hI
 have aM:Hid (Old T H w.heap.size):=Lib.hid hI.old
 have HE:Hid (∀d:Nat,d≤100→jJ T (d:Int)):=Lib.hid (jf T)
 obtain ⟨th,left,qa,qb,qc,qd,vH,iY,c0,c1,c2,c3,c4,c5,c6,c7,cf,hv,hrow⟩:=hI.reads
 have f2:=cf 2
 have ug:T.bm < w.heap.size:=hI.lt
 clear hI hrow c1 c3 c4 c5 c6 c7 iY hv cf c0 hms hnx
 go_enter Tryd.func18,Tryd.ntmps18
 go_upto_region 2 with fail
 generalize hW:World.alloc _ _=W
 have HI:Hid (cZ W T H hs):=Lib.hid (by rw [← hW]; exact (HI0.out.left (nG _)).below (ay _ _))
 have HM:Hid (Mm T H w W):=Lib.hid (by rw [← hW]; exact ((Mm.refl T H w).mJ (Hx.refl w H) _ _).then_ ((ay _ _).mono (by simp [World.setCell])) (ay _ _).size)
 have HZ:Hid (W.heap[w.heap.size]? =some (.cells jv 42 (0,0))):=Lib.hid (by
  rw [← hW]
  have e:(World.setCell w ⟨T.bm,2,none⟩ (.int .i64 (wrap64 (left - 1)))).heap.size=w.heap.size:=by simp [World.setCell]
  rw [← e]; exact heap_alloc_new _ _)
 have iR:Hid (W.heap[T.bt]? =w.heap[T.bt]?):=Lib.hid (by
  rw [← hW,heap_alloc_old _ _ (by simp [World.setCell]; exact aM.out.t)]
  exact aO w _ _ rfl T.tm.symm)
 clear hW c2 f2
 have c0:=HI.out.ptr
 go_wp2_with fail
 refine (bS.out W HI.out iR.out).mono ?_
 rintro e w2 ⟨rfl,hM2,hI2⟩
 have iK:=Lib.hid (HM.out.trans (Hx.refl _ _) (hM2.mm (H:=H)))
 have eX:=Lib.hid hI2
 have fT:Hid (w2.heap[w.heap.size]? =some (.cells jv 42 (0,0))):=Lib.hid (hM2.keep HZ.out (by have:=aM.out.t; omega))
 have bP:Hid (w.heap.size < w2.heap.size):=Lib.hid (Array.getElem?_eq_some_iff.1 fT.out).1
 clear hM2 hI2 c0 HI HM HZ iR bS
 go_upto_region 3 with fail
 go_cut [6] (fun s6 W'=>(∃q:Bool,s6= .bool q∧(q=true→0 < d))∧W'=w2)
 case first=>
  obtain ⟨oI,left',oM,oz,oq,oN,oV,fQ,c0',c1',c2',c3',mR,jB,jC,jq,cf',hv',hrow'⟩:=eX.out.reads
  clear c0' c1' c3' jB jC jq cf' hv' hrow' fQ
  by_cases h1:(0:Int) < (d:Int)
  ·by_cases h2:0 < left'
   ·go_wp2_with fail
    go_meet
    exact ⟨⟨_,rfl,fun _=>by omega⟩,rfl⟩
   ·go_wp2_with fail
    go_meet
    exact ⟨⟨_,rfl,fun _=>by omega⟩,rfl⟩
  ·go_wp2_with fail
   go_meet
   exact ⟨⟨false,rfl,fun h=>(by cases h)⟩,rfl⟩
 obtain ⟨⟨nest,rfl,kT⟩,rfl⟩:=hcut
 obtain ⟨wb,rfl⟩: ∃W:World,W=wc:=⟨_,rfl⟩
 have mg:Hid (Sg T H hs w.heap.size wb H wb):=Lib.hid ⟨Mm.refl _ _ _,Hx.refl _ _,eX.out,fT.out,aM.out,bP.out⟩
 subst hk
 cases nest
 ·have jl:=eX
  have eB:=Lib.hid (show Mm T H wb _ from Mm.refl _ _ _)
  have jr:=Lib.hid (eB.out.keep fT.out (by have:=aM.out.t; omega) (by have:=aM.out.m; omega) (fun e=>by have:=aM.out.h _ e; omega))
  go_wp2_with fail
  refine (HE.out 1 (by decide) _ H hs jl.out).mono ?_
  rintro e w5 ⟨v,rfl,⟨xo,xn,xm,xk,xa,xc,rfl,hok,hst⟩,hM,hI⟩
  have HX:=Lib.hid (And.intro hok (hst.mono eB.out.size))
  have eu:=Lib.hid (eB.out.trans (Hx.refl _ _) (hM.mm (H:=H)))
  have gK:=Lib.hid hI
  have eO:=Lib.hid (hM.keep jr.out (by have:=aM.out.t; omega))
  clear hok hst hM hI
  go_wp2_with fail
  refine (dX ⟨#[120]⟩ xo xn xm xk xa xc w5).mono ?_
  rintro e w6 ⟨rfl,hb⟩
  have bY:=Lib.hid hb
  have gu:=Lib.hid ((hb.block _ (Array.getElem?_eq_some_iff.1 eO.out).1).trans eO.out)
  obtain ⟨⟨y0,y1,y2,y3,y4,y5,y6,y7,y8,y9,iF⟩,fz⟩:=eF gu.out
  have f0:=fz 0
  have f1:=fz 1
  have f2:=fz 2
  have f3:=fz 3
  have f4:=fz 4
  have f5:=fz 5
  have f6:=fz 6
  have f7:=fz 7
  have f8:=fz 8
  have f9:=fz 9
  have f10:=fz 10
  clear fz
  clear hb
  unfold aY aG aK
  go_wp2_with fail
  have HF:=Lib.hid (fG (h:=((⟨aG 1 ⟨#[120]⟩ .nil xo xn xm xk,.nil,.nil,aK xa xc⟩:aD)).h) (b:=((⟨aG 1 ⟨#[120]⟩ .nil xo xn xm xk,.nil,.nil,aK xa xc⟩:aD)).b) (e:=((⟨aG 1 ⟨#[120]⟩ .nil xo xn xm xk,.nil,.nil,aK xa xc⟩:aD)).e) (s:=((⟨aG 1 ⟨#[120]⟩ .nil xo xn xm xk,.nil,.nil,aK xa xc⟩:aD)).s) iK.out aM.out bP.out (eu.out.then_ (bY.out.mono eu.out.size) bY.out.size) (Hx.refl _ _) (gK.out.below bY.out) (mG (by unfold aX; decide) (by unfold maxLen; decide) HX.out.1) (gH eZ (.fV (HX.out.2.next (bT bY.out)) (Nat.le_refl _) (fun k h1 _ e=>absurd (aM.out.h _ e) (by have:=bP.out; omega))) dx dx) gu.out rfl)
  show bodyPost _ _ _ _ _ (World.setCells _ w.heap.size 0 (aD.f (⟨aG 1 ⟨#[120]⟩ .nil xo xn xm xk,.nil,.nil,aK xa xc⟩:aD)))
  generalize fD:World.setCells _ _ _ _=W7 at *
  obtain ⟨⟨z0,z1,z2,z3,z4,z5,z6,z7,z8,z9,fF⟩,HP⟩:=dD HF.out
  clear HF fD
  exact bodyPost_ret (v:=aY ((⟨aG 1 ⟨#[120]⟩ .nil xo xn xm xk,.nil,.nil,aK xa xc⟩:aD)).h ((⟨aG 1 ⟨#[120]⟩ .nil xo xn xm xk,.nil,.nil,aK xa xc⟩:aD)).b ((⟨aG 1 ⟨#[120]⟩ .nil xo xn xm xk,.nil,.nil,aK xa xc⟩:aD)).e ((⟨aG 1 ⟨#[120]⟩ .nil xo xn xm xk,.nil,.nil,aK xa xc⟩:aD)).s) (by simp [results,Tryd.results18,go_sem,aY,z0,z1,z2,z3,z4,z5,z6,z7,z8,z9,fF]) rfl HP.out
 ·have hd0:=kT rfl
  obtain ⟨oI,left',oM,oz,oq,oN,oV,fQ,c0',c1',c2',c3',mR,jB,jC,jq,cf',hv',hrow'⟩:=mg.out.i.reads
  have f4:=cf' 4
  clear c0' c1' c2' c3' jB jC jq cf' hv' hrow' fQ
  go_upto_region 28 with fail
  generalize hW3:World.setCell _ _ _=w3
  have S3:Hid (Sg T H hs w.heap.size wb H w3):=Lib.hid (by rw [← hW3]; exact mg.out.flag 4 (.inr (.inl rfl)) true)
  clear hW3 mR f4
  have c0:=S3.out.i.ptr
  go_wp2_with fail
  refine (jk T H hs 2 _ (by unfold aX; decide) S3.out.i).mono ?_
  rintro e w4 ⟨r,rfl,hr,-,hM,hI⟩
  have hr2:r < 2:=by have:=hr (by decide); omega
  have hwr:IntKind.i64.wrap (1 + (r:Int))=1 + (r:Int):=IntWalk.i64_in _ (by omega)
  have S4:=Lib.hid (S3.out.tf hM hI)
  clear hM hI c0 hr
  go_wp2_with fail
  refine (nY.out.s0 hd0 w4 H hs (1 + (r:Int)) S4.out.i (by omega) (by omega) (by omega)).mono ?_
  rintro e w5 ⟨v,l,H5,rfl,hg,hok,hl1,hl2,hx,hM,hI⟩
  obtain ⟨ab,cb,rfl,hst⟩:=hg.says hok
  have rP:=Lib.hid (And.intro (rO hl2) hst)
  have Il:=Lib.hid hx
  have eu:=Lib.hid hM
  have S5:=Lib.hid (S4.out.mm hM hx hI)
  clear hg hok hl1 hl2 hx hM hI hst
  go_upto_region 29 with fail
  obtain ⟨g,hg⟩: ∃g,w5.heap.size=g:=⟨_,rfl⟩
  generalize hW:World.alloc w5 _=w6
  have bY:Hid (Below w5.heap.size w5 w6):=Lib.hid (by rw [← hW]; exact ay _ _)
  have HR:Hid (w6.heap[g]? =some (.cells (aD.f (⟨aG 7 ⟨#[]⟩ .nil 0 0 ⟨#[]⟩ .nil,aN l,.nil,fK ab cb⟩:aD)).toArray 42 (0,0))):=Lib.hid (by rw [← hW,← hg]; exact heap_alloc_new _ _)
  have HG:=Lib.hid hg
  have S6:=Lib.hid (S5.out.below bY.out)
  rw [hg]
  clear hW hg
  obtain ⟨QW,KF,pa,pb,pc,pd,R9,EB,d0,d1,d2,d3,d4,d5,d6,d7,df,hv2,hrow2⟩:=S6.out.i.reads
  have TU:=df 4
  clear d0 d1 d2 d3 d5 d6 d7 df hv2 hrow2 EB
  go_upto_region 30 with fail
  generalize hWf:World.setCell w6 _ _=w7
  have S7:Hid (Sg T H hs w.heap.size wb H5 w7):=Lib.hid (by rw [← hWf]; exact S6.out.flag 4 (.inr (.inl rfl)) _)
  have Bt:Hid (Mm T H5 w5 w7):=Lib.hid (by rw [← hWf]; exact (Mm.of_below bY.out).mJ (Hx.refl _ _) _ _)
  have gX:=Lib.hid ((show w7.heap[g]? =w6.heap[g]? by rw [← hWf]; exact aO _ _ _ rfl (by show T.bm≠g; have:=HG.out; have:=aM.out.m; have:=bP.out; have:=S5.out.m.size; omega)).trans HR.out)
  clear hWf d4 TU
  have x0:=(aV gX.out (j:=0) (u:= .int .i64 7) rfl).2
  have x1:=(aV gX.out (j:=1) (u:= .int .i64 0) rfl).2
  have x2:=(aV gX.out (j:=2) (u:= .string ⟨#[]⟩) rfl).2
  have x3:=(aV gX.out (j:=3) (u:= .string ⟨#[]⟩) rfl).2
  have x4:=(aV gX.out (j:=4) (u:= .slice none 0 0) rfl).2
  have x5:=(aV gX.out (j:=5) (u:= .int .i64 0) rfl).2
  have x6:=(aV gX.out (j:=6) (u:= .int .i64 0) rfl).2
  have x7:=(aV gX.out (j:=7) (u:= .string ⟨#[]⟩) rfl).2
  have x8:=(aV gX.out (j:=8) (u:= .slice none 0 0) rfl).2
  have x9:=(aV gX.out (j:=9) (u:= .slice ab (aN l).len cb) rfl).2
  have x10:=(aV gX.out (j:=10) (u:= .slice none 0 0) rfl).2
  have xf:=fun j=>dH (o:=j) gX.out
  have OH:=Lib.hid S7.out.z
  obtain ⟨⟨y0,y1,y2,y3,y4,y5,y6,y7,y8,y9,iF⟩,fz⟩:=eF OH.out
  have f0:=fz 0
  have f1:=fz 1
  have f2:=fz 2
  have f3:=fz 3
  have f4:=fz 4
  have f5:=fz 5
  have f6:=fz 6
  have f7:=fz 7
  have f8:=fz 8
  have f9:=fz 9
  have f10:=fz 10
  clear fz
  go_wp2_with fail
  have HF:=Lib.hid (fG (h:=((⟨aG 7 ⟨#[]⟩ .nil 0 0 ⟨#[]⟩ .nil,aN l,.nil,fK ab cb⟩:aD)).h) (b:=((⟨aG 7 ⟨#[]⟩ .nil 0 0 ⟨#[]⟩ .nil,aN l,.nil,fK ab cb⟩:aD)).b) (e:=((⟨aG 7 ⟨#[]⟩ .nil 0 0 ⟨#[]⟩ .nil,aN l,.nil,fK ab cb⟩:aD)).e) (s:=((⟨aG 7 ⟨#[]⟩ .nil 0 0 ⟨#[]⟩ .nil,aN l,.nil,fK ab cb⟩:aD)).s) iK.out aM.out bP.out S7.out.m S7.out.x S7.out.i (rD (by unfold aX; decide) jD nE nil_le rP.out.1 (Nat.zero_le _)) (gH eZ eZ (S5.out.zT rP.out.2 S4.out.m.size Bt.out (Hx.refl _ _)) dx) S7.out.z rfl)
  show bodyPost _ _ _ _ _ (World.setCells _ w.heap.size 0 (aD.f (⟨aG 7 ⟨#[]⟩ .nil 0 0 ⟨#[]⟩ .nil,aN l,.nil,fK ab cb⟩:aD)))
  generalize fD:World.setCells _ _ _ _=W7 at *
  obtain ⟨⟨z0,z1,z2,z3,z4,z5,z6,z7,z8,z9,fF⟩,HP⟩:=dD HF.out
  clear HF fD
  exact bodyPost_ret (v:=aY ((⟨aG 7 ⟨#[]⟩ .nil 0 0 ⟨#[]⟩ .nil,aN l,.nil,fK ab cb⟩:aD)).h ((⟨aG 7 ⟨#[]⟩ .nil 0 0 ⟨#[]⟩ .nil,aN l,.nil,fK ab cb⟩:aD)).b ((⟨aG 7 ⟨#[]⟩ .nil 0 0 ⟨#[]⟩ .nil,aN l,.nil,fK ab cb⟩:aD)).e ((⟨aG 7 ⟨#[]⟩ .nil 0 0 ⟨#[]⟩ .nil,aN l,.nil,fK ab cb⟩:aD)).s) (by simp [results,Tryd.results18,go_sem,aY,z0,z1,z2,z3,z4,z5,z6,z7,z8,z9,fF]) rfl HP.out
set_option maxHeartbeats 4000000 in
set_option maxRecDepth 100000 in
theorem Om:lJ (fun k=>k=13):=by
 intro T d k hk hms w H hs hI jh hnx
 have hd:=hms.pI
 have nY:=Lib.hid hms
 have bS:=Lib.hid hnx
 have HI0:=Lib.hid hI
 have aM:Hid (Old T H w.heap.size):=Lib.hid hI.old
 have HE:Hid (∀d:Nat,d≤100→jJ T (d:Int)):=Lib.hid (jf T)
 obtain ⟨th,left,qa,qb,qc,qd,vH,iY,c0,c1,c2,c3,c4,c5,c6,c7,cf,hv,hrow⟩:=hI.reads
 have f2:=cf 2
 have ug:T.bm < w.heap.size:=hI.lt
 clear hI hrow c1 c3 c4 c5 c6 c7 iY hv cf c0 hms hnx
 go_enter Tryd.func18,Tryd.ntmps18
 go_upto_region 2 with fail
 generalize hW:World.alloc _ _=W
 have HI:Hid (cZ W T H hs):=Lib.hid (by rw [← hW]; exact (HI0.out.left (nG _)).below (ay _ _))
 have HM:Hid (Mm T H w W):=Lib.hid (by rw [← hW]; exact ((Mm.refl T H w).mJ (Hx.refl w H) _ _).then_ ((ay _ _).mono (by simp [World.setCell])) (ay _ _).size)
 have HZ:Hid (W.heap[w.heap.size]? =some (.cells jv 42 (0,0))):=Lib.hid (by
  rw [← hW]
  have e:(World.setCell w ⟨T.bm,2,none⟩ (.int .i64 (wrap64 (left - 1)))).heap.size=w.heap.size:=by simp [World.setCell]
  rw [← e]; exact heap_alloc_new _ _)
 have iR:Hid (W.heap[T.bt]? =w.heap[T.bt]?):=Lib.hid (by
  rw [← hW,heap_alloc_old _ _ (by simp [World.setCell]; exact aM.out.t)]
  exact aO w _ _ rfl T.tm.symm)
 clear hW c2 f2
 have c0:=HI.out.ptr
 go_wp2_with fail
 refine (bS.out W HI.out iR.out).mono ?_
 rintro e w2 ⟨rfl,hM2,hI2⟩
 have iK:=Lib.hid (HM.out.trans (Hx.refl _ _) (hM2.mm (H:=H)))
 have eX:=Lib.hid hI2
 have fT:Hid (w2.heap[w.heap.size]? =some (.cells jv 42 (0,0))):=Lib.hid (hM2.keep HZ.out (by have:=aM.out.t; omega))
 have bP:Hid (w.heap.size < w2.heap.size):=Lib.hid (Array.getElem?_eq_some_iff.1 fT.out).1
 clear hM2 hI2 c0 HI HM HZ iR bS
 go_upto_region 3 with fail
 go_cut [6] (fun s6 W'=>(∃q:Bool,s6= .bool q∧(q=true→0 < d))∧W'=w2)
 case first=>
  obtain ⟨oI,left',oM,oz,oq,oN,oV,fQ,c0',c1',c2',c3',mR,jB,jC,jq,cf',hv',hrow'⟩:=eX.out.reads
  clear c0' c1' c3' jB jC jq cf' hv' hrow' fQ
  by_cases h1:(0:Int) < (d:Int)
  ·by_cases h2:0 < left'
   ·go_wp2_with fail
    go_meet
    exact ⟨⟨_,rfl,fun _=>by omega⟩,rfl⟩
   ·go_wp2_with fail
    go_meet
    exact ⟨⟨_,rfl,fun _=>by omega⟩,rfl⟩
  ·go_wp2_with fail
   go_meet
   exact ⟨⟨false,rfl,fun h=>(by cases h)⟩,rfl⟩
 obtain ⟨⟨nest,rfl,kT⟩,rfl⟩:=hcut
 obtain ⟨wb,rfl⟩: ∃W:World,W=wc:=⟨_,rfl⟩
 have mg:Hid (Sg T H hs w.heap.size wb H wb):=Lib.hid ⟨Mm.refl _ _ _,Hx.refl _ _,eX.out,fT.out,aM.out,bP.out⟩
 subst hk
 cases nest
 ·have jl:=eX
  have eB:=Lib.hid (show Mm T H wb _ from Mm.refl _ _ _)
  have jr:=Lib.hid (eB.out.keep fT.out (by have:=aM.out.t; omega) (by have:=aM.out.m; omega) (fun e=>by have:=aM.out.h _ e; omega))
  go_wp2_with fail
  refine (HE.out 1 (by decide) _ H hs jl.out).mono ?_
  rintro e w5 ⟨v,rfl,⟨xo,xn,xm,xk,xa,xc,rfl,hok,hst⟩,hM,hI⟩
  have HX:=Lib.hid (And.intro hok (hst.mono eB.out.size))
  have eu:=Lib.hid (eB.out.trans (Hx.refl _ _) (hM.mm (H:=H)))
  have gK:=Lib.hid hI
  have eO:=Lib.hid (hM.keep jr.out (by have:=aM.out.t; omega))
  clear hok hst hM hI
  go_wp2_with fail
  refine (dX ⟨#[120]⟩ xo xn xm xk xa xc w5).mono ?_
  rintro e w6 ⟨rfl,hb⟩
  have bY:=Lib.hid hb
  have gu:=Lib.hid ((hb.block _ (Array.getElem?_eq_some_iff.1 eO.out).1).trans eO.out)
  obtain ⟨⟨y0,y1,y2,y3,y4,y5,y6,y7,y8,y9,iF⟩,fz⟩:=eF gu.out
  have f0:=fz 0
  have f1:=fz 1
  have f2:=fz 2
  have f3:=fz 3
  have f4:=fz 4
  have f5:=fz 5
  have f6:=fz 6
  have f7:=fz 7
  have f8:=fz 8
  have f9:=fz 9
  have f10:=fz 10
  clear fz
  clear hb
  unfold aY aG aK
  go_wp2_with fail
  have HF:=Lib.hid (fG (h:=((⟨aG 1 ⟨#[120]⟩ .nil xo xn xm xk,.nil,.nil,aK xa xc⟩:aD)).h) (b:=((⟨aG 1 ⟨#[120]⟩ .nil xo xn xm xk,.nil,.nil,aK xa xc⟩:aD)).b) (e:=((⟨aG 1 ⟨#[120]⟩ .nil xo xn xm xk,.nil,.nil,aK xa xc⟩:aD)).e) (s:=((⟨aG 1 ⟨#[120]⟩ .nil xo xn xm xk,.nil,.nil,aK xa xc⟩:aD)).s) iK.out aM.out bP.out (eu.out.then_ (bY.out.mono eu.out.size) bY.out.size) (Hx.refl _ _) (gK.out.below bY.out) (mG (by unfold aX; decide) (by unfold maxLen; decide) HX.out.1) (gH eZ (.fV (HX.out.2.next (bT bY.out)) (Nat.le_refl _) (fun k h1 _ e=>absurd (aM.out.h _ e) (by have:=bP.out; omega))) dx dx) gu.out rfl)
  show bodyPost _ _ _ _ _ (World.setCells _ w.heap.size 0 (aD.f (⟨aG 1 ⟨#[120]⟩ .nil xo xn xm xk,.nil,.nil,aK xa xc⟩:aD)))
  generalize fD:World.setCells _ _ _ _=W7 at *
  obtain ⟨⟨z0,z1,z2,z3,z4,z5,z6,z7,z8,z9,fF⟩,HP⟩:=dD HF.out
  clear HF fD
  exact bodyPost_ret (v:=aY ((⟨aG 1 ⟨#[120]⟩ .nil xo xn xm xk,.nil,.nil,aK xa xc⟩:aD)).h ((⟨aG 1 ⟨#[120]⟩ .nil xo xn xm xk,.nil,.nil,aK xa xc⟩:aD)).b ((⟨aG 1 ⟨#[120]⟩ .nil xo xn xm xk,.nil,.nil,aK xa xc⟩:aD)).e ((⟨aG 1 ⟨#[120]⟩ .nil xo xn xm xk,.nil,.nil,aK xa xc⟩:aD)).s) (by simp [results,Tryd.results18,go_sem,aY,z0,z1,z2,z3,z4,z5,z6,z7,z8,z9,fF]) rfl HP.out
 ·have hd0:=kT rfl
  have hd1:(0:Int) < (d:Int):=by omega
  have hwd:IntKind.i64.wrap ((d:Int) - 1)=(d:Int) - 1:=IntWalk.i64_in _ (by omega)
  obtain ⟨oI,left',oM,oz,oq,oN,oV,fQ,c0',c1',c2',c3',mR,jB,jC,jq,cf',hv',hrow'⟩:=mg.out.i.reads
  have f5:=cf' 5
  clear c0' c1' c2' c3' mR jC jq cf' hv' hrow' fQ
  cases oq
  ·go_upto_region 33 with fail
   generalize hW3:World.setCell _ _ _=w3
   have S3:Hid (Sg T H hs w.heap.size wb H w3):=Lib.hid (by rw [← hW3]; exact mg.out.flag 5 (.inr (.inr (.inl rfl))) true)
   clear hW3 jB f5
   obtain ⟨w4,hw4⟩: ∃W:World,W=w3:=⟨_,rfl⟩
   subst hw4
   go_wp2_with fail
   refine (nY.out.st hd0 w4 H hs 2 S3.out.i (by omega) (by decide) (by decide)).mono ?_
   rintro e w5 ⟨v,l,H5,rfl,hg,hok,hl1,hl2,hx,hM,hI⟩
   obtain ⟨ab,cb,rfl,hst⟩:=hg.says hok
   have rP:=Lib.hid (And.intro (rO hl2) hst)
   have Il:=Lib.hid hx
   have eu:=Lib.hid hM
   have S5:=Lib.hid (S3.out.mm hM hx hI)
   clear hg hok hl1 hl2 hx hM hI hst
   go_upto_region 34 with fail
   obtain ⟨g,hg⟩: ∃g,w5.heap.size=g:=⟨_,rfl⟩
   generalize hW:World.alloc w5 _=w6
   have bY:Hid (Below w5.heap.size w5 w6):=Lib.hid (by rw [← hW]; exact ay _ _)
   have HR:Hid (w6.heap[g]? =some (.cells (aD.f (⟨aG 8 ⟨#[]⟩ .nil 0 0 ⟨#[]⟩ .nil,aN l,.nil,fK ab cb⟩:aD)).toArray 42 (0,0))):=Lib.hid (by rw [← hW,← hg]; exact heap_alloc_new _ _)
   have HG:=Lib.hid hg
   have S6:=Lib.hid (S5.out.below bY.out)
   rw [hg]
   clear hW hg
   obtain ⟨QW,KF,pa,pb,pc,pd,R9,EB,d0,d1,d2,d3,d4,d5,d6,d7,df,hv2,hrow2⟩:=S6.out.i.reads
   have TN:=df 5
   clear d0 d1 d2 d3 d4 d6 d7 df hv2 hrow2 EB
   go_upto_region 35 with fail
   generalize hWf:World.setCell w6 _ _=w7
   have S7:Hid (Sg T H hs w.heap.size wb H5 w7):=Lib.hid (by rw [← hWf]; exact S6.out.flag 5 (.inr (.inr (.inl rfl))) _)
   have Bt:Hid (Mm T H5 w5 w7):=Lib.hid (by rw [← hWf]; exact (Mm.of_below bY.out).mJ (Hx.refl _ _) _ _)
   have gX:=Lib.hid ((show w7.heap[g]? =w6.heap[g]? by rw [← hWf]; exact aO _ _ _ rfl (by show T.bm≠g; have:=HG.out; have:=aM.out.m; have:=bP.out; have:=S5.out.m.size; omega)).trans HR.out)
   clear hWf d5 TN
   have x0:=(aV gX.out (j:=0) (u:= .int .i64 8) rfl).2
   have x1:=(aV gX.out (j:=1) (u:= .int .i64 0) rfl).2
   have x2:=(aV gX.out (j:=2) (u:= .string ⟨#[]⟩) rfl).2
   have x3:=(aV gX.out (j:=3) (u:= .string ⟨#[]⟩) rfl).2
   have x4:=(aV gX.out (j:=4) (u:= .slice none 0 0) rfl).2
   have x5:=(aV gX.out (j:=5) (u:= .int .i64 0) rfl).2
   have x6:=(aV gX.out (j:=6) (u:= .int .i64 0) rfl).2
   have x7:=(aV gX.out (j:=7) (u:= .string ⟨#[]⟩) rfl).2
   have x8:=(aV gX.out (j:=8) (u:= .slice none 0 0) rfl).2
   have x9:=(aV gX.out (j:=9) (u:= .slice ab (aN l).len cb) rfl).2
   have x10:=(aV gX.out (j:=10) (u:= .slice none 0 0) rfl).2
   have xf:=fun j=>dH (o:=j) gX.out
   have OH:=Lib.hid S7.out.z
   obtain ⟨⟨y0,y1,y2,y3,y4,y5,y6,y7,y8,y9,iF⟩,fz⟩:=eF OH.out
   have f0:=fz 0
   have f1:=fz 1
   have f2:=fz 2
   have f3:=fz 3
   have f4:=fz 4
   have f5:=fz 5
   have f6:=fz 6
   have f7:=fz 7
   have f8:=fz 8
   have f9:=fz 9
   have f10:=fz 10
   clear fz
   go_wp2_with fail
   have HF:=Lib.hid (fG (h:=((⟨aG 8 ⟨#[]⟩ .nil 0 0 ⟨#[]⟩ .nil,aN l,.nil,fK ab cb⟩:aD)).h) (b:=((⟨aG 8 ⟨#[]⟩ .nil 0 0 ⟨#[]⟩ .nil,aN l,.nil,fK ab cb⟩:aD)).b) (e:=((⟨aG 8 ⟨#[]⟩ .nil 0 0 ⟨#[]⟩ .nil,aN l,.nil,fK ab cb⟩:aD)).e) (s:=((⟨aG 8 ⟨#[]⟩ .nil 0 0 ⟨#[]⟩ .nil,aN l,.nil,fK ab cb⟩:aD)).s) iK.out aM.out bP.out S7.out.m S7.out.x S7.out.i (rD (by unfold aX; decide) jD nE nil_le rP.out.1 (Nat.zero_le _)) (gH eZ eZ (S5.out.zT rP.out.2 S3.out.m.size Bt.out (Hx.refl _ _)) dx) S7.out.z rfl)
   show bodyPost _ _ _ _ _ (World.setCells _ w.heap.size 0 (aD.f (⟨aG 8 ⟨#[]⟩ .nil 0 0 ⟨#[]⟩ .nil,aN l,.nil,fK ab cb⟩:aD)))
   generalize fD:World.setCells _ _ _ _=W7 at *
   obtain ⟨⟨z0,z1,z2,z3,z4,z5,z6,z7,z8,z9,fF⟩,HP⟩:=dD HF.out
   clear HF fD
   exact bodyPost_ret (v:=aY ((⟨aG 8 ⟨#[]⟩ .nil 0 0 ⟨#[]⟩ .nil,aN l,.nil,fK ab cb⟩:aD)).h ((⟨aG 8 ⟨#[]⟩ .nil 0 0 ⟨#[]⟩ .nil,aN l,.nil,fK ab cb⟩:aD)).b ((⟨aG 8 ⟨#[]⟩ .nil 0 0 ⟨#[]⟩ .nil,aN l,.nil,fK ab cb⟩:aD)).e ((⟨aG 8 ⟨#[]⟩ .nil 0 0 ⟨#[]⟩ .nil,aN l,.nil,fK ab cb⟩:aD)).s) (by simp [results,Tryd.results18,go_sem,aY,z0,z1,z2,z3,z4,z5,z6,z7,z8,z9,fF]) rfl HP.out
  ·have jl:=eX
   have eB:=Lib.hid (show Mm T H wb _ from Mm.refl _ _ _)
   have jr:=Lib.hid (eB.out.keep fT.out (by have:=aM.out.t; omega) (by have:=aM.out.m; omega) (fun e=>by have:=aM.out.h _ e; omega))
   go_wp2_with fail
   refine (HE.out 1 (by decide) _ H hs jl.out).mono ?_
   rintro e w5 ⟨v,rfl,⟨xo,xn,xm,xk,xa,xc,rfl,hok,hst⟩,hM,hI⟩
   have HX:=Lib.hid (And.intro hok (hst.mono eB.out.size))
   have eu:=Lib.hid (eB.out.trans (Hx.refl _ _) (hM.mm (H:=H)))
   have gK:=Lib.hid hI
   have eO:=Lib.hid (hM.keep jr.out (by have:=aM.out.t; omega))
   clear hok hst hM hI
   go_wp2_with fail
   refine (dX ⟨#[120]⟩ xo xn xm xk xa xc w5).mono ?_
   rintro e w6 ⟨rfl,hb⟩
   have bY:=Lib.hid hb
   have gu:=Lib.hid ((hb.block _ (Array.getElem?_eq_some_iff.1 eO.out).1).trans eO.out)
   obtain ⟨⟨y0,y1,y2,y3,y4,y5,y6,y7,y8,y9,iF⟩,fz⟩:=eF gu.out
   have f0:=fz 0
   have f1:=fz 1
   have f2:=fz 2
   have f3:=fz 3
   have f4:=fz 4
   have f5:=fz 5
   have f6:=fz 6
   have f7:=fz 7
   have f8:=fz 8
   have f9:=fz 9
   have f10:=fz 10
   clear fz
   clear hb
   unfold aY aG aK
   go_wp2_with fail
   have HF:=Lib.hid (fG (h:=((⟨aG 1 ⟨#[120]⟩ .nil xo xn xm xk,.nil,.nil,aK xa xc⟩:aD)).h) (b:=((⟨aG 1 ⟨#[120]⟩ .nil xo xn xm xk,.nil,.nil,aK xa xc⟩:aD)).b) (e:=((⟨aG 1 ⟨#[120]⟩ .nil xo xn xm xk,.nil,.nil,aK xa xc⟩:aD)).e) (s:=((⟨aG 1 ⟨#[120]⟩ .nil xo xn xm xk,.nil,.nil,aK xa xc⟩:aD)).s) iK.out aM.out bP.out (eu.out.then_ (bY.out.mono eu.out.size) bY.out.size) (Hx.refl _ _) (gK.out.below bY.out) (mG (by unfold aX; decide) (by unfold maxLen; decide) HX.out.1) (gH eZ (.fV (HX.out.2.next (bT bY.out)) (Nat.le_refl _) (fun k h1 _ e=>absurd (aM.out.h _ e) (by have:=bP.out; omega))) dx dx) gu.out rfl)
   show bodyPost _ _ _ _ _ (World.setCells _ w.heap.size 0 (aD.f (⟨aG 1 ⟨#[120]⟩ .nil xo xn xm xk,.nil,.nil,aK xa xc⟩:aD)))
   generalize fD:World.setCells _ _ _ _=W7 at *
   obtain ⟨⟨z0,z1,z2,z3,z4,z5,z6,z7,z8,z9,fF⟩,HP⟩:=dD HF.out
   clear HF fD
   exact bodyPost_ret (v:=aY ((⟨aG 1 ⟨#[120]⟩ .nil xo xn xm xk,.nil,.nil,aK xa xc⟩:aD)).h ((⟨aG 1 ⟨#[120]⟩ .nil xo xn xm xk,.nil,.nil,aK xa xc⟩:aD)).b ((⟨aG 1 ⟨#[120]⟩ .nil xo xn xm xk,.nil,.nil,aK xa xc⟩:aD)).e ((⟨aG 1 ⟨#[120]⟩ .nil xo xn xm xk,.nil,.nil,aK xa xc⟩:aD)).s) (by simp [results,Tryd.results18,go_sem,aY,z0,z1,z2,z3,z4,z5,z6,z7,z8,z9,fF]) rfl HP.out
end Go.Proofs.YtnknfoibmgphnaaDoor
end
section
set_option linter.unusedSimpArgs false
set_option linter.unusedVariables false
namespace Go.Proofs.YtnknfoibmgphnaaDoor
open Go.RowKit
open Md
set_option maxHeartbeats 4000000 in
set_option maxRecDepth 100000 in
theorem NS:lJ (fun k=>k=14):=by
 intro T d k hk hms w H hs hI jh hnx
 have hd:=hms.pI
 have nY:=Lib.hid hms
 have bS:=Lib.hid hnx
 have HI0:=Lib.hid hI
 have aM:Hid (Old T H w.heap.size):=Lib.hid hI.old
 have HE:Hid (∀d:Nat,d≤100→jJ T (d:Int)):=Lib.hid (jf T)
 obtain ⟨th,left,qa,qb,qc,qd,vH,iY,c0,c1,c2,c3,c4,c5,c6,c7,cf,hv,hrow⟩:=hI.reads
 have f2:=cf 2
 have ug:T.bm < w.heap.size:=hI.lt
 clear hI hrow c1 c3 c4 c5 c6 c7 iY hv cf c0 hms hnx
 go_enter Tryd.func18,Tryd.ntmps18
 go_upto_region 2 with fail
 generalize hW:World.alloc _ _=W
 have HI:Hid (cZ W T H hs):=Lib.hid (by rw [← hW]; exact (HI0.out.left (nG _)).below (ay _ _))
 have HM:Hid (Mm T H w W):=Lib.hid (by rw [← hW]; exact ((Mm.refl T H w).mJ (Hx.refl w H) _ _).then_ ((ay _ _).mono (by simp [World.setCell])) (ay _ _).size)
 have HZ:Hid (W.heap[w.heap.size]? =some (.cells jv 42 (0,0))):=Lib.hid (by
  rw [← hW]
  have e:(World.setCell w ⟨T.bm,2,none⟩ (.int .i64 (wrap64 (left - 1)))).heap.size=w.heap.size:=by simp [World.setCell]
  rw [← e]; exact heap_alloc_new _ _)
 have iR:Hid (W.heap[T.bt]? =w.heap[T.bt]?):=Lib.hid (by
  rw [← hW,heap_alloc_old _ _ (by simp [World.setCell]; exact aM.out.t)]
  exact aO w _ _ rfl T.tm.symm)
 clear hW c2 f2
 have c0:=HI.out.ptr
 go_wp2_with fail
 refine (bS.out W HI.out iR.out).mono ?_
 rintro e w2 ⟨rfl,hM2,hI2⟩
 have iK:=Lib.hid (HM.out.trans (Hx.refl _ _) (hM2.mm (H:=H)))
 have eX:=Lib.hid hI2
 have fT:Hid (w2.heap[w.heap.size]? =some (.cells jv 42 (0,0))):=Lib.hid (hM2.keep HZ.out (by have:=aM.out.t; omega))
 have bP:Hid (w.heap.size < w2.heap.size):=Lib.hid (Array.getElem?_eq_some_iff.1 fT.out).1
 clear hM2 hI2 c0 HI HM HZ iR bS
 go_upto_region 3 with fail
 go_cut [6] (fun s6 W'=>(∃q:Bool,s6= .bool q∧(q=true→0 < d))∧W'=w2)
 case first=>
  obtain ⟨oI,left',oM,oz,oq,oN,oV,fQ,c0',c1',c2',c3',mR,jB,jC,jq,cf',hv',hrow'⟩:=eX.out.reads
  clear c0' c1' c3' jB jC jq cf' hv' hrow' fQ
  by_cases h1:(0:Int) < (d:Int)
  ·by_cases h2:0 < left'
   ·go_wp2_with fail
    go_meet
    exact ⟨⟨_,rfl,fun _=>by omega⟩,rfl⟩
   ·go_wp2_with fail
    go_meet
    exact ⟨⟨_,rfl,fun _=>by omega⟩,rfl⟩
  ·go_wp2_with fail
   go_meet
   exact ⟨⟨false,rfl,fun h=>(by cases h)⟩,rfl⟩
 obtain ⟨⟨nest,rfl,kT⟩,rfl⟩:=hcut
 obtain ⟨wb,rfl⟩: ∃W:World,W=wc:=⟨_,rfl⟩
 have mg:Hid (Sg T H hs w.heap.size wb H wb):=Lib.hid ⟨Mm.refl _ _ _,Hx.refl _ _,eX.out,fT.out,aM.out,bP.out⟩
 subst hk
 cases nest
 ·have jl:=eX
  have eB:=Lib.hid (show Mm T H wb _ from Mm.refl _ _ _)
  have jr:=Lib.hid (eB.out.keep fT.out (by have:=aM.out.t; omega) (by have:=aM.out.m; omega) (fun e=>by have:=aM.out.h _ e; omega))
  go_wp2_with fail
  refine (HE.out 1 (by decide) _ H hs jl.out).mono ?_
  rintro e w5 ⟨v,rfl,⟨xo,xn,xm,xk,xa,xc,rfl,hok,hst⟩,hM,hI⟩
  have HX:=Lib.hid (And.intro hok (hst.mono eB.out.size))
  have eu:=Lib.hid (eB.out.trans (Hx.refl _ _) (hM.mm (H:=H)))
  have gK:=Lib.hid hI
  have eO:=Lib.hid (hM.keep jr.out (by have:=aM.out.t; omega))
  clear hok hst hM hI
  go_wp2_with fail
  refine (dX ⟨#[120]⟩ xo xn xm xk xa xc w5).mono ?_
  rintro e w6 ⟨rfl,hb⟩
  have bY:=Lib.hid hb
  have gu:=Lib.hid ((hb.block _ (Array.getElem?_eq_some_iff.1 eO.out).1).trans eO.out)
  obtain ⟨⟨y0,y1,y2,y3,y4,y5,y6,y7,y8,y9,iF⟩,fz⟩:=eF gu.out
  have f0:=fz 0
  have f1:=fz 1
  have f2:=fz 2
  have f3:=fz 3
  have f4:=fz 4
  have f5:=fz 5
  have f6:=fz 6
  have f7:=fz 7
  have f8:=fz 8
  have f9:=fz 9
  have f10:=fz 10
  clear fz
  clear hb
  unfold aY aG aK
  go_wp2_with fail
  have HF:=Lib.hid (fG (h:=((⟨aG 1 ⟨#[120]⟩ .nil xo xn xm xk,.nil,.nil,aK xa xc⟩:aD)).h) (b:=((⟨aG 1 ⟨#[120]⟩ .nil xo xn xm xk,.nil,.nil,aK xa xc⟩:aD)).b) (e:=((⟨aG 1 ⟨#[120]⟩ .nil xo xn xm xk,.nil,.nil,aK xa xc⟩:aD)).e) (s:=((⟨aG 1 ⟨#[120]⟩ .nil xo xn xm xk,.nil,.nil,aK xa xc⟩:aD)).s) iK.out aM.out bP.out (eu.out.then_ (bY.out.mono eu.out.size) bY.out.size) (Hx.refl _ _) (gK.out.below bY.out) (mG (by unfold aX; decide) (by unfold maxLen; decide) HX.out.1) (gH eZ (.fV (HX.out.2.next (bT bY.out)) (Nat.le_refl _) (fun k h1 _ e=>absurd (aM.out.h _ e) (by have:=bP.out; omega))) dx dx) gu.out rfl)
  show bodyPost _ _ _ _ _ (World.setCells _ w.heap.size 0 (aD.f (⟨aG 1 ⟨#[120]⟩ .nil xo xn xm xk,.nil,.nil,aK xa xc⟩:aD)))
  generalize fD:World.setCells _ _ _ _=W7 at *
  obtain ⟨⟨z0,z1,z2,z3,z4,z5,z6,z7,z8,z9,fF⟩,HP⟩:=dD HF.out
  clear HF fD
  exact bodyPost_ret (v:=aY ((⟨aG 1 ⟨#[120]⟩ .nil xo xn xm xk,.nil,.nil,aK xa xc⟩:aD)).h ((⟨aG 1 ⟨#[120]⟩ .nil xo xn xm xk,.nil,.nil,aK xa xc⟩:aD)).b ((⟨aG 1 ⟨#[120]⟩ .nil xo xn xm xk,.nil,.nil,aK xa xc⟩:aD)).e ((⟨aG 1 ⟨#[120]⟩ .nil xo xn xm xk,.nil,.nil,aK xa xc⟩:aD)).s) (by simp [results,Tryd.results18,go_sem,aY,z0,z1,z2,z3,z4,z5,z6,z7,z8,z9,fF]) rfl HP.out
 ·obtain ⟨oI,left',oM,oz,oq,oN,oV,fQ,c0',c1',c2',c3',mR,jB,jC,jq,cf',hv',hrow'⟩:=mg.out.i.reads
  clear c0' c1' c2' c3' mR jC jq cf' hv' hrow' fQ
  cases oq
  ·go_wp2_with fail
   refine (pY T _ H hs _ eX.out).mono ?_
   rintro e w3 ⟨⟨q,rfl⟩,rfl⟩
   cases q
   ·clear jB
    go_wp2_with fail
    refine (wI ⟨#[120]⟩ wb).mono ?_
    rintro e w3 ⟨rfl,hb⟩
    have S3:=Lib.hid (mg.out.below hb)
    clear hb
    go_wp2_with fail
    refine (dX ⟨#[97]⟩ 2 0 ⟨#[120]⟩ .nil none 0 w3).mono ?_
    rintro e w4 ⟨rfl,hb⟩
    have S4:=Lib.hid (S3.out.below hb)
    clear hb
    unfold aY aG aK
    have vU:Hid (KG [(⟨aG 9 ⟨#[99]⟩ .nil 0 0 ⟨#[]⟩ .nil,.nil,.nil,gq⟩:aD),⟨aG 1 ⟨#[97]⟩ .nil 2 0 ⟨#[120]⟩ .nil,.nil,.nil,aK none 0⟩]):=Lib.hid (fun x hx=>by
     rcases List.mem_cons.1 hx with rfl | hx
     ·exact ⟨rD (by unfold aX; decide) (by unfold maxLen; decide) nE nil_le (Nat.zero_le _) (Nat.zero_le _),fun _ _ _ _=>⟨trivial,trivial,trivial,trivial⟩⟩
     ·rw [List.mem_singleton.1 hx]
      exact ⟨mG (by unfold aX; decide) (by unfold maxLen; decide) ⟨by unfold aX; decide,ny,by unfold maxLen; decide,nil_le⟩,fun _ _ _ _=>⟨trivial,trivial,trivial,trivial⟩⟩)
    have OL:=Lib.hid S4.out.z
    obtain ⟨⟨y0,y1,y2,y3,y4,y5,y6,y7,y8,y9,iF⟩,fz⟩:=eF OL.out
    have f0:=fz 0
    have f1:=fz 1
    have f2:=fz 2
    have f3:=fz 3
    have f4:=fz 4
    have f5:=fz 5
    have f6:=fz 6
    have f7:=fz 7
    have f8:=fz 8
    have f9:=fz 9
    have f10:=fz 10
    clear fz
    have JE:w.heap.size < w4.heap.size:=Nat.lt_of_lt_of_le bP.out S4.out.m.size
    have SL:=Lib.hid (S4.out.below (ay w4 (.cells (([(⟨aG 9 ⟨#[99]⟩ .nil 0 0 ⟨#[]⟩ .nil,.nil,.nil,gq⟩:aD),⟨aG 1 ⟨#[97]⟩ .nil 2 0 ⟨#[120]⟩ .nil,.nil,.nil,aK none 0⟩]:List aD).flatMap aD.f).toArray 42)))
    go_wp2_with fail
    have HST:=Lib.hid (zu (l:=[(⟨aG 9 ⟨#[99]⟩ .nil 0 0 ⟨#[]⟩ .nil,.nil,.nil,gq⟩:aD),⟨aG 1 ⟨#[97]⟩ .nil 2 0 ⟨#[120]⟩ .nil,.nil,.nil,aK none 0⟩]) (heap_alloc_new w4 (.cells (([(⟨aG 9 ⟨#[99]⟩ .nil 0 0 ⟨#[]⟩ .nil,.nil,.nil,gq⟩:aD),⟨aG 1 ⟨#[97]⟩ .nil 2 0 ⟨#[120]⟩ .nil,.nil,.nil,aK none 0⟩]:List aD).flatMap aD.f).toArray 42)) S4.out.m.size (fun x hx=>⟨(vU.out x hx).1,(vU.out x hx).2 _ _⟩))
    show bodyPost _ _ _ _ _ (World.alloc (World.setCells w4 w.heap.size 0 (aD.f (⟨aG 4 ⟨#[109]⟩ .nil 0 0 ⟨#[]⟩ .nil,aN [(⟨aG 9 ⟨#[99]⟩ .nil 0 0 ⟨#[]⟩ .nil,.nil,.nil,gq⟩:aD),⟨aG 1 ⟨#[97]⟩ .nil 2 0 ⟨#[120]⟩ .nil,.nil,.nil,aK none 0⟩],.nil,fK (some ⟨w4.heap.size,0,none⟩) 2⟩:aD))) (.cells (([(⟨aG 9 ⟨#[99]⟩ .nil 0 0 ⟨#[]⟩ .nil,.nil,.nil,gq⟩:aD),⟨aG 1 ⟨#[97]⟩ .nil 2 0 ⟨#[120]⟩ .nil,.nil,.nil,aK none 0⟩]:List aD).flatMap aD.f).toArray 42))
    rw [oG _ _ _ _ _ JE]
    have HF:=Lib.hid (fG (h:=((⟨aG 4 ⟨#[109]⟩ .nil 0 0 ⟨#[]⟩ .nil,aN [(⟨aG 9 ⟨#[99]⟩ .nil 0 0 ⟨#[]⟩ .nil,.nil,.nil,gq⟩:aD),⟨aG 1 ⟨#[97]⟩ .nil 2 0 ⟨#[120]⟩ .nil,.nil,.nil,aK none 0⟩],.nil,fK (some ⟨w4.heap.size,0,none⟩) 2⟩:aD)).h) (b:=((⟨aG 4 ⟨#[109]⟩ .nil 0 0 ⟨#[]⟩ .nil,aN [(⟨aG 9 ⟨#[99]⟩ .nil 0 0 ⟨#[]⟩ .nil,.nil,.nil,gq⟩:aD),⟨aG 1 ⟨#[97]⟩ .nil 2 0 ⟨#[120]⟩ .nil,.nil,.nil,aK none 0⟩],.nil,fK (some ⟨w4.heap.size,0,none⟩) 2⟩:aD)).b) (e:=((⟨aG 4 ⟨#[109]⟩ .nil 0 0 ⟨#[]⟩ .nil,aN [(⟨aG 9 ⟨#[99]⟩ .nil 0 0 ⟨#[]⟩ .nil,.nil,.nil,gq⟩:aD),⟨aG 1 ⟨#[97]⟩ .nil 2 0 ⟨#[120]⟩ .nil,.nil,.nil,aK none 0⟩],.nil,fK (some ⟨w4.heap.size,0,none⟩) 2⟩:aD)).e) (s:=((⟨aG 4 ⟨#[109]⟩ .nil 0 0 ⟨#[]⟩ .nil,aN [(⟨aG 9 ⟨#[99]⟩ .nil 0 0 ⟨#[]⟩ .nil,.nil,.nil,gq⟩:aD),⟨aG 1 ⟨#[97]⟩ .nil 2 0 ⟨#[120]⟩ .nil,.nil,.nil,aK none 0⟩],.nil,fK (some ⟨w4.heap.size,0,none⟩) 2⟩:aD)).s) iK.out aM.out bP.out SL.out.m SL.out.x SL.out.i (rD (by unfold aX; decide) (by unfold maxLen; decide) nE nil_le (by simp [aN,aR.len,maxLen]) (Nat.zero_le _)) (gH eZ eZ (SL.out.stay HST.out (fun k e h1=>absurd (aM.out.h _ e) (by have:=bP.out; omega)) (Mm.refl _ _ _) (Hx.refl _ _)) dx) SL.out.z rfl)
    show bodyPost _ _ _ _ _ (World.setCells _ w.heap.size 0 (aD.f (⟨aG 4 ⟨#[109]⟩ .nil 0 0 ⟨#[]⟩ .nil,aN [(⟨aG 9 ⟨#[99]⟩ .nil 0 0 ⟨#[]⟩ .nil,.nil,.nil,gq⟩:aD),⟨aG 1 ⟨#[97]⟩ .nil 2 0 ⟨#[120]⟩ .nil,.nil,.nil,aK none 0⟩],.nil,fK (some ⟨w4.heap.size,0,none⟩) 2⟩:aD)))
    generalize fD:World.setCells _ _ _ _=W7 at *
    obtain ⟨⟨z0,z1,z2,z3,z4,z5,z6,z7,z8,z9,fF⟩,HP⟩:=dD HF.out
    clear HF fD
    exact bodyPost_ret (v:=aY ((⟨aG 4 ⟨#[109]⟩ .nil 0 0 ⟨#[]⟩ .nil,aN [(⟨aG 9 ⟨#[99]⟩ .nil 0 0 ⟨#[]⟩ .nil,.nil,.nil,gq⟩:aD),⟨aG 1 ⟨#[97]⟩ .nil 2 0 ⟨#[120]⟩ .nil,.nil,.nil,aK none 0⟩],.nil,fK (some ⟨w4.heap.size,0,none⟩) 2⟩:aD)).h ((⟨aG 4 ⟨#[109]⟩ .nil 0 0 ⟨#[]⟩ .nil,aN [(⟨aG 9 ⟨#[99]⟩ .nil 0 0 ⟨#[]⟩ .nil,.nil,.nil,gq⟩:aD),⟨aG 1 ⟨#[97]⟩ .nil 2 0 ⟨#[120]⟩ .nil,.nil,.nil,aK none 0⟩],.nil,fK (some ⟨w4.heap.size,0,none⟩) 2⟩:aD)).b ((⟨aG 4 ⟨#[109]⟩ .nil 0 0 ⟨#[]⟩ .nil,aN [(⟨aG 9 ⟨#[99]⟩ .nil 0 0 ⟨#[]⟩ .nil,.nil,.nil,gq⟩:aD),⟨aG 1 ⟨#[97]⟩ .nil 2 0 ⟨#[120]⟩ .nil,.nil,.nil,aK none 0⟩],.nil,fK (some ⟨w4.heap.size,0,none⟩) 2⟩:aD)).e ((⟨aG 4 ⟨#[109]⟩ .nil 0 0 ⟨#[]⟩ .nil,aN [(⟨aG 9 ⟨#[99]⟩ .nil 0 0 ⟨#[]⟩ .nil,.nil,.nil,gq⟩:aD),⟨aG 1 ⟨#[97]⟩ .nil 2 0 ⟨#[120]⟩ .nil,.nil,.nil,aK none 0⟩],.nil,fK (some ⟨w4.heap.size,0,none⟩) 2⟩:aD)).s) (by simp [results,Tryd.results18,go_sem,aY,z0,z1,z2,z3,z4,z5,z6,z7,z8,z9,fF]) rfl HP.out
   ·have jl:=eX
    have eB:=Lib.hid (show Mm T H wb _ from Mm.refl _ _ _)
    have jr:=Lib.hid (eB.out.keep fT.out (by have:=aM.out.t; omega) (by have:=aM.out.m; omega) (fun e=>by have:=aM.out.h _ e; omega))
    go_wp2_with fail
    refine (HE.out 1 (by decide) _ H hs jl.out).mono ?_
    rintro e w5 ⟨v,rfl,⟨xo,xn,xm,xk,xa,xc,rfl,hok,hst⟩,hM,hI⟩
    have HX:=Lib.hid (And.intro hok (hst.mono eB.out.size))
    have eu:=Lib.hid (eB.out.trans (Hx.refl _ _) (hM.mm (H:=H)))
    have gK:=Lib.hid hI
    have eO:=Lib.hid (hM.keep jr.out (by have:=aM.out.t; omega))
    clear hok hst hM hI
    go_wp2_with fail
    refine (dX ⟨#[120]⟩ xo xn xm xk xa xc w5).mono ?_
    rintro e w6 ⟨rfl,hb⟩
    have bY:=Lib.hid hb
    have gu:=Lib.hid ((hb.block _ (Array.getElem?_eq_some_iff.1 eO.out).1).trans eO.out)
    obtain ⟨⟨y0,y1,y2,y3,y4,y5,y6,y7,y8,y9,iF⟩,fz⟩:=eF gu.out
    have f0:=fz 0
    have f1:=fz 1
    have f2:=fz 2
    have f3:=fz 3
    have f4:=fz 4
    have f5:=fz 5
    have f6:=fz 6
    have f7:=fz 7
    have f8:=fz 8
    have f9:=fz 9
    have f10:=fz 10
    clear fz
    clear hb
    unfold aY aG aK
    go_wp2_with fail
    have HF:=Lib.hid (fG (h:=((⟨aG 1 ⟨#[120]⟩ .nil xo xn xm xk,.nil,.nil,aK xa xc⟩:aD)).h) (b:=((⟨aG 1 ⟨#[120]⟩ .nil xo xn xm xk,.nil,.nil,aK xa xc⟩:aD)).b) (e:=((⟨aG 1 ⟨#[120]⟩ .nil xo xn xm xk,.nil,.nil,aK xa xc⟩:aD)).e) (s:=((⟨aG 1 ⟨#[120]⟩ .nil xo xn xm xk,.nil,.nil,aK xa xc⟩:aD)).s) iK.out aM.out bP.out (eu.out.then_ (bY.out.mono eu.out.size) bY.out.size) (Hx.refl _ _) (gK.out.below bY.out) (mG (by unfold aX; decide) (by unfold maxLen; decide) HX.out.1) (gH eZ (.fV (HX.out.2.next (bT bY.out)) (Nat.le_refl _) (fun k h1 _ e=>absurd (aM.out.h _ e) (by have:=bP.out; omega))) dx dx) gu.out rfl)
    show bodyPost _ _ _ _ _ (World.setCells _ w.heap.size 0 (aD.f (⟨aG 1 ⟨#[120]⟩ .nil xo xn xm xk,.nil,.nil,aK xa xc⟩:aD)))
    generalize fD:World.setCells _ _ _ _=W7 at *
    obtain ⟨⟨z0,z1,z2,z3,z4,z5,z6,z7,z8,z9,fF⟩,HP⟩:=dD HF.out
    clear HF fD
    exact bodyPost_ret (v:=aY ((⟨aG 1 ⟨#[120]⟩ .nil xo xn xm xk,.nil,.nil,aK xa xc⟩:aD)).h ((⟨aG 1 ⟨#[120]⟩ .nil xo xn xm xk,.nil,.nil,aK xa xc⟩:aD)).b ((⟨aG 1 ⟨#[120]⟩ .nil xo xn xm xk,.nil,.nil,aK xa xc⟩:aD)).e ((⟨aG 1 ⟨#[120]⟩ .nil xo xn xm xk,.nil,.nil,aK xa xc⟩:aD)).s) (by simp [results,Tryd.results18,go_sem,aY,z0,z1,z2,z3,z4,z5,z6,z7,z8,z9,fF]) rfl HP.out
  ·have jl:=eX
   have eB:=Lib.hid (show Mm T H wb _ from Mm.refl _ _ _)
   have jr:=Lib.hid (eB.out.keep fT.out (by have:=aM.out.t; omega) (by have:=aM.out.m; omega) (fun e=>by have:=aM.out.h _ e; omega))
   go_wp2_with fail
   refine (HE.out 1 (by decide) _ H hs jl.out).mono ?_
   rintro e w5 ⟨v,rfl,⟨xo,xn,xm,xk,xa,xc,rfl,hok,hst⟩,hM,hI⟩
   have HX:=Lib.hid (And.intro hok (hst.mono eB.out.size))
   have eu:=Lib.hid (eB.out.trans (Hx.refl _ _) (hM.mm (H:=H)))
   have gK:=Lib.hid hI
   have eO:=Lib.hid (hM.keep jr.out (by have:=aM.out.t; omega))
   clear hok hst hM hI
   go_wp2_with fail
   refine (dX ⟨#[120]⟩ xo xn xm xk xa xc w5).mono ?_
   rintro e w6 ⟨rfl,hb⟩
   have bY:=Lib.hid hb
   have gu:=Lib.hid ((hb.block _ (Array.getElem?_eq_some_iff.1 eO.out).1).trans eO.out)
   obtain ⟨⟨y0,y1,y2,y3,y4,y5,y6,y7,y8,y9,iF⟩,fz⟩:=eF gu.out
   have f0:=fz 0
   have f1:=fz 1
   have f2:=fz 2
   have f3:=fz 3
   have f4:=fz 4
   have f5:=fz 5
   have f6:=fz 6
   have f7:=fz 7
   have f8:=fz 8
   have f9:=fz 9
   have f10:=fz 10
   clear fz
   clear hb
   unfold aY aG aK
   go_wp2_with fail
   have HF:=Lib.hid (fG (h:=((⟨aG 1 ⟨#[120]⟩ .nil xo xn xm xk,.nil,.nil,aK xa xc⟩:aD)).h) (b:=((⟨aG 1 ⟨#[120]⟩ .nil xo xn xm xk,.nil,.nil,aK xa xc⟩:aD)).b) (e:=((⟨aG 1 ⟨#[120]⟩ .nil xo xn xm xk,.nil,.nil,aK xa xc⟩:aD)).e) (s:=((⟨aG 1 ⟨#[120]⟩ .nil xo xn xm xk,.nil,.nil,aK xa xc⟩:aD)).s) iK.out aM.out bP.out (eu.out.then_ (bY.out.mono eu.out.size) bY.out.size) (Hx.refl _ _) (gK.out.below bY.out) (mG (by unfold aX; decide) (by unfold maxLen; decide) HX.out.1) (gH eZ (.fV (HX.out.2.next (bT bY.out)) (Nat.le_refl _) (fun k h1 _ e=>absurd (aM.out.h _ e) (by have:=bP.out; omega))) dx dx) gu.out rfl)
   show bodyPost _ _ _ _ _ (World.setCells _ w.heap.size 0 (aD.f (⟨aG 1 ⟨#[120]⟩ .nil xo xn xm xk,.nil,.nil,aK xa xc⟩:aD)))
   generalize fD:World.setCells _ _ _ _=W7 at *
   obtain ⟨⟨z0,z1,z2,z3,z4,z5,z6,z7,z8,z9,fF⟩,HP⟩:=dD HF.out
   clear HF fD
   exact bodyPost_ret (v:=aY ((⟨aG 1 ⟨#[120]⟩ .nil xo xn xm xk,.nil,.nil,aK xa xc⟩:aD)).h ((⟨aG 1 ⟨#[120]⟩ .nil xo xn xm xk,.nil,.nil,aK xa xc⟩:aD)).b ((⟨aG 1 ⟨#[120]⟩ .nil xo xn xm xk,.nil,.nil,aK xa xc⟩:aD)).e ((⟨aG 1 ⟨#[120]⟩ .nil xo xn xm xk,.nil,.nil,aK xa xc⟩:aD)).s) (by simp [results,Tryd.results18,go_sem,aY,z0,z1,z2,z3,z4,z5,z6,z7,z8,z9,fF]) rfl HP.out
set_option maxHeartbeats 4000000 in
set_option maxRecDepth 100000 in
theorem PD:lJ (fun k=>k=15):=by
 intro T d k hk hms w H hs hI jh hnx
 have hd:=hms.pI
 have nY:=Lib.hid hms
 have bS:=Lib.hid hnx
 have HI0:=Lib.hid hI
 have aM:Hid (Old T H w.heap.size):=Lib.hid hI.old
 have HE:Hid (∀d:Nat,d≤100→jJ T (d:Int)):=Lib.hid (jf T)
 obtain ⟨th,left,qa,qb,qc,qd,vH,iY,c0,c1,c2,c3,c4,c5,c6,c7,cf,hv,hrow⟩:=hI.reads
 have f2:=cf 2
 have ug:T.bm < w.heap.size:=hI.lt
 clear hI hrow c1 c3 c4 c5 c6 c7 iY hv cf c0 hms hnx
 go_enter Tryd.func18,Tryd.ntmps18
 go_upto_region 2 with fail
 generalize hW:World.alloc _ _=W
 have HI:Hid (cZ W T H hs):=Lib.hid (by rw [← hW]; exact (HI0.out.left (nG _)).below (ay _ _))
 have HM:Hid (Mm T H w W):=Lib.hid (by rw [← hW]; exact ((Mm.refl T H w).mJ (Hx.refl w H) _ _).then_ ((ay _ _).mono (by simp [World.setCell])) (ay _ _).size)
 have HZ:Hid (W.heap[w.heap.size]? =some (.cells jv 42 (0,0))):=Lib.hid (by
  rw [← hW]
  have e:(World.setCell w ⟨T.bm,2,none⟩ (.int .i64 (wrap64 (left - 1)))).heap.size=w.heap.size:=by simp [World.setCell]
  rw [← e]; exact heap_alloc_new _ _)
 have iR:Hid (W.heap[T.bt]? =w.heap[T.bt]?):=Lib.hid (by
  rw [← hW,heap_alloc_old _ _ (by simp [World.setCell]; exact aM.out.t)]
  exact aO w _ _ rfl T.tm.symm)
 clear hW c2 f2
 have c0:=HI.out.ptr
 go_wp2_with fail
 refine (bS.out W HI.out iR.out).mono ?_
 rintro e w2 ⟨rfl,hM2,hI2⟩
 have iK:=Lib.hid (HM.out.trans (Hx.refl _ _) (hM2.mm (H:=H)))
 have eX:=Lib.hid hI2
 have fT:Hid (w2.heap[w.heap.size]? =some (.cells jv 42 (0,0))):=Lib.hid (hM2.keep HZ.out (by have:=aM.out.t; omega))
 have bP:Hid (w.heap.size < w2.heap.size):=Lib.hid (Array.getElem?_eq_some_iff.1 fT.out).1
 clear hM2 hI2 c0 HI HM HZ iR bS
 go_upto_region 3 with fail
 go_cut [6] (fun s6 W'=>(∃q:Bool,s6= .bool q∧(q=true→0 < d))∧W'=w2)
 case first=>
  obtain ⟨oI,left',oM,oz,oq,oN,oV,fQ,c0',c1',c2',c3',mR,jB,jC,jq,cf',hv',hrow'⟩:=eX.out.reads
  clear c0' c1' c3' jB jC jq cf' hv' hrow' fQ
  by_cases h1:(0:Int) < (d:Int)
  ·by_cases h2:0 < left'
   ·go_wp2_with fail
    go_meet
    exact ⟨⟨_,rfl,fun _=>by omega⟩,rfl⟩
   ·go_wp2_with fail
    go_meet
    exact ⟨⟨_,rfl,fun _=>by omega⟩,rfl⟩
  ·go_wp2_with fail
   go_meet
   exact ⟨⟨false,rfl,fun h=>(by cases h)⟩,rfl⟩
 obtain ⟨⟨nest,rfl,kT⟩,rfl⟩:=hcut
 obtain ⟨wb,rfl⟩: ∃W:World,W=wc:=⟨_,rfl⟩
 have mg:Hid (Sg T H hs w.heap.size wb H wb):=Lib.hid ⟨Mm.refl _ _ _,Hx.refl _ _,eX.out,fT.out,aM.out,bP.out⟩
 subst hk
 cases nest
 ·have jl:=eX
  have eB:=Lib.hid (show Mm T H wb _ from Mm.refl _ _ _)
  have jr:=Lib.hid (eB.out.keep fT.out (by have:=aM.out.t; omega) (by have:=aM.out.m; omega) (fun e=>by have:=aM.out.h _ e; omega))
  go_wp2_with fail
  refine (HE.out 1 (by decide) _ H hs jl.out).mono ?_
  rintro e w5 ⟨v,rfl,⟨xo,xn,xm,xk,xa,xc,rfl,hok,hst⟩,hM,hI⟩
  have HX:=Lib.hid (And.intro hok (hst.mono eB.out.size))
  have eu:=Lib.hid (eB.out.trans (Hx.refl _ _) (hM.mm (H:=H)))
  have gK:=Lib.hid hI
  have eO:=Lib.hid (hM.keep jr.out (by have:=aM.out.t; omega))
  clear hok hst hM hI
  go_wp2_with fail
  refine (dX ⟨#[120]⟩ xo xn xm xk xa xc w5).mono ?_
  rintro e w6 ⟨rfl,hb⟩
  have bY:=Lib.hid hb
  have gu:=Lib.hid ((hb.block _ (Array.getElem?_eq_some_iff.1 eO.out).1).trans eO.out)
  obtain ⟨⟨y0,y1,y2,y3,y4,y5,y6,y7,y8,y9,iF⟩,fz⟩:=eF gu.out
  have f0:=fz 0
  have f1:=fz 1
  have f2:=fz 2
  have f3:=fz 3
  have f4:=fz 4
  have f5:=fz 5
  have f6:=fz 6
  have f7:=fz 7
  have f8:=fz 8
  have f9:=fz 9
  have f10:=fz 10
  clear fz
  clear hb
  unfold aY aG aK
  go_wp2_with fail
  have HF:=Lib.hid (fG (h:=((⟨aG 1 ⟨#[120]⟩ .nil xo xn xm xk,.nil,.nil,aK xa xc⟩:aD)).h) (b:=((⟨aG 1 ⟨#[120]⟩ .nil xo xn xm xk,.nil,.nil,aK xa xc⟩:aD)).b) (e:=((⟨aG 1 ⟨#[120]⟩ .nil xo xn xm xk,.nil,.nil,aK xa xc⟩:aD)).e) (s:=((⟨aG 1 ⟨#[120]⟩ .nil xo xn xm xk,.nil,.nil,aK xa xc⟩:aD)).s) iK.out aM.out bP.out (eu.out.then_ (bY.out.mono eu.out.size) bY.out.size) (Hx.refl _ _) (gK.out.below bY.out) (mG (by unfold aX; decide) (by unfold maxLen; decide) HX.out.1) (gH eZ (.fV (HX.out.2.next (bT bY.out)) (Nat.le_refl _) (fun k h1 _ e=>absurd (aM.out.h _ e) (by have:=bP.out; omega))) dx dx) gu.out rfl)
  show bodyPost _ _ _ _ _ (World.setCells _ w.heap.size 0 (aD.f (⟨aG 1 ⟨#[120]⟩ .nil xo xn xm xk,.nil,.nil,aK xa xc⟩:aD)))
  generalize fD:World.setCells _ _ _ _=W7 at *
  obtain ⟨⟨z0,z1,z2,z3,z4,z5,z6,z7,z8,z9,fF⟩,HP⟩:=dD HF.out
  clear HF fD
  exact bodyPost_ret (v:=aY ((⟨aG 1 ⟨#[120]⟩ .nil xo xn xm xk,.nil,.nil,aK xa xc⟩:aD)).h ((⟨aG 1 ⟨#[120]⟩ .nil xo xn xm xk,.nil,.nil,aK xa xc⟩:aD)).b ((⟨aG 1 ⟨#[120]⟩ .nil xo xn xm xk,.nil,.nil,aK xa xc⟩:aD)).e ((⟨aG 1 ⟨#[120]⟩ .nil xo xn xm xk,.nil,.nil,aK xa xc⟩:aD)).s) (by simp [results,Tryd.results18,go_sem,aY,z0,z1,z2,z3,z4,z5,z6,z7,z8,z9,fF]) rfl HP.out
 ·go_wp2_with fail
  refine (pY T _ H hs _ eX.out).mono ?_
  rintro e w3 ⟨⟨q,rfl⟩,rfl⟩
  cases q
  ·have c0:=eX.out.ptr
   go_wp2_with fail
   refine (jk T H hs 2 _ (by unfold aX; decide) eX.out).mono ?_
   rintro e w4 ⟨r,rfl,hr,-,hM,hI⟩
   have hr2:r < 2:=by have:=hr (by decide); omega
   have hwr:IntKind.i64.wrap (10 + (r:Int))=10 + (r:Int):=IntWalk.i64_in _ (by omega)
   have S4:=Lib.hid (mg.out.tf hM hI)
   clear hM hI c0 hr
   have vU:Hid (KG [(⟨aG (10 + (r:Int)) ⟨#[99]⟩ .nil 0 0 ⟨#[]⟩ .nil,.nil,.nil,gq⟩:aD)]):=Lib.hid (fun x hx=>by
    rw [List.mem_singleton.1 hx]
    exact ⟨rD (by unfold aX; omega) (by unfold maxLen; decide) nE nil_le (Nat.zero_le _) (Nat.zero_le _),fun _ _ _ _=>⟨trivial,trivial,trivial,trivial⟩⟩)
   have OL:=Lib.hid S4.out.z
   obtain ⟨⟨y0,y1,y2,y3,y4,y5,y6,y7,y8,y9,iF⟩,fz⟩:=eF OL.out
   have f0:=fz 0
   have f1:=fz 1
   have f2:=fz 2
   have f3:=fz 3
   have f4:=fz 4
   have f5:=fz 5
   have f6:=fz 6
   have f7:=fz 7
   have f8:=fz 8
   have f9:=fz 9
   have f10:=fz 10
   clear fz
   have JE:w.heap.size < w4.heap.size:=Nat.lt_of_lt_of_le bP.out S4.out.m.size
   have SL:=Lib.hid (S4.out.below (ay w4 (.cells (([(⟨aG (10 + (r:Int)) ⟨#[99]⟩ .nil 0 0 ⟨#[]⟩ .nil,.nil,.nil,gq⟩:aD)]:List aD).flatMap aD.f).toArray 42)))
   go_wp2_with fail
   have HST:=Lib.hid (zu (l:=[(⟨aG (10 + (r:Int)) ⟨#[99]⟩ .nil 0 0 ⟨#[]⟩ .nil,.nil,.nil,gq⟩:aD)]) (heap_alloc_new w4 (.cells (([(⟨aG (10 + (r:Int)) ⟨#[99]⟩ .nil 0 0 ⟨#[]⟩ .nil,.nil,.nil,gq⟩:aD)]:List aD).flatMap aD.f).toArray 42)) S4.out.m.size (fun x hx=>⟨(vU.out x hx).1,(vU.out x hx).2 _ _⟩))
   show bodyPost _ _ _ _ _ (World.alloc (World.setCells w4 w.heap.size 0 (aD.f (⟨aG 4 ⟨#[109]⟩ .nil 0 0 ⟨#[]⟩ .nil,aN [(⟨aG (10 + (r:Int)) ⟨#[99]⟩ .nil 0 0 ⟨#[]⟩ .nil,.nil,.nil,gq⟩:aD)],.nil,fK (some ⟨w4.heap.size,0,none⟩) 1⟩:aD))) (.cells (([(⟨aG (10 + (r:Int)) ⟨#[99]⟩ .nil 0 0 ⟨#[]⟩ .nil,.nil,.nil,gq⟩:aD)]:List aD).flatMap aD.f).toArray 42))
   rw [oG _ _ _ _ _ JE]
   have HF:=Lib.hid (fG (h:=((⟨aG 4 ⟨#[109]⟩ .nil 0 0 ⟨#[]⟩ .nil,aN [(⟨aG (10 + (r:Int)) ⟨#[99]⟩ .nil 0 0 ⟨#[]⟩ .nil,.nil,.nil,gq⟩:aD)],.nil,fK (some ⟨w4.heap.size,0,none⟩) 1⟩:aD)).h) (b:=((⟨aG 4 ⟨#[109]⟩ .nil 0 0 ⟨#[]⟩ .nil,aN [(⟨aG (10 + (r:Int)) ⟨#[99]⟩ .nil 0 0 ⟨#[]⟩ .nil,.nil,.nil,gq⟩:aD)],.nil,fK (some ⟨w4.heap.size,0,none⟩) 1⟩:aD)).b) (e:=((⟨aG 4 ⟨#[109]⟩ .nil 0 0 ⟨#[]⟩ .nil,aN [(⟨aG (10 + (r:Int)) ⟨#[99]⟩ .nil 0 0 ⟨#[]⟩ .nil,.nil,.nil,gq⟩:aD)],.nil,fK (some ⟨w4.heap.size,0,none⟩) 1⟩:aD)).e) (s:=((⟨aG 4 ⟨#[109]⟩ .nil 0 0 ⟨#[]⟩ .nil,aN [(⟨aG (10 + (r:Int)) ⟨#[99]⟩ .nil 0 0 ⟨#[]⟩ .nil,.nil,.nil,gq⟩:aD)],.nil,fK (some ⟨w4.heap.size,0,none⟩) 1⟩:aD)).s) iK.out aM.out bP.out SL.out.m SL.out.x SL.out.i (rD (by unfold aX; decide) (by unfold maxLen; decide) nE nil_le (by simp [aN,aR.len,maxLen]) (Nat.zero_le _)) (gH eZ eZ (SL.out.stay HST.out (fun k e h1=>absurd (aM.out.h _ e) (by have:=bP.out; omega)) (Mm.refl _ _ _) (Hx.refl _ _)) dx) SL.out.z rfl)
   show bodyPost _ _ _ _ _ (World.setCells _ w.heap.size 0 (aD.f (⟨aG 4 ⟨#[109]⟩ .nil 0 0 ⟨#[]⟩ .nil,aN [(⟨aG (10 + (r:Int)) ⟨#[99]⟩ .nil 0 0 ⟨#[]⟩ .nil,.nil,.nil,gq⟩:aD)],.nil,fK (some ⟨w4.heap.size,0,none⟩) 1⟩:aD)))
   generalize fD:World.setCells _ _ _ _=W7 at *
   obtain ⟨⟨z0,z1,z2,z3,z4,z5,z6,z7,z8,z9,fF⟩,HP⟩:=dD HF.out
   clear HF fD
   exact bodyPost_ret (v:=aY ((⟨aG 4 ⟨#[109]⟩ .nil 0 0 ⟨#[]⟩ .nil,aN [(⟨aG (10 + (r:Int)) ⟨#[99]⟩ .nil 0 0 ⟨#[]⟩ .nil,.nil,.nil,gq⟩:aD)],.nil,fK (some ⟨w4.heap.size,0,none⟩) 1⟩:aD)).h ((⟨aG 4 ⟨#[109]⟩ .nil 0 0 ⟨#[]⟩ .nil,aN [(⟨aG (10 + (r:Int)) ⟨#[99]⟩ .nil 0 0 ⟨#[]⟩ .nil,.nil,.nil,gq⟩:aD)],.nil,fK (some ⟨w4.heap.size,0,none⟩) 1⟩:aD)).b ((⟨aG 4 ⟨#[109]⟩ .nil 0 0 ⟨#[]⟩ .nil,aN [(⟨aG (10 + (r:Int)) ⟨#[99]⟩ .nil 0 0 ⟨#[]⟩ .nil,.nil,.nil,gq⟩:aD)],.nil,fK (some ⟨w4.heap.size,0,none⟩) 1⟩:aD)).e ((⟨aG 4 ⟨#[109]⟩ .nil 0 0 ⟨#[]⟩ .nil,aN [(⟨aG (10 + (r:Int)) ⟨#[99]⟩ .nil 0 0 ⟨#[]⟩ .nil,.nil,.nil,gq⟩:aD)],.nil,fK (some ⟨w4.heap.size,0,none⟩) 1⟩:aD)).s) (by simp [results,Tryd.results18,go_sem,aY,z0,z1,z2,z3,z4,z5,z6,z7,z8,z9,fF]) rfl HP.out
  ·have jl:=eX
   have eB:=Lib.hid (show Mm T H wb _ from Mm.refl _ _ _)
   have jr:=Lib.hid (eB.out.keep fT.out (by have:=aM.out.t; omega) (by have:=aM.out.m; omega) (fun e=>by have:=aM.out.h _ e; omega))
   go_wp2_with fail
   refine (HE.out 1 (by decide) _ H hs jl.out).mono ?_
   rintro e w5 ⟨v,rfl,⟨xo,xn,xm,xk,xa,xc,rfl,hok,hst⟩,hM,hI⟩
   have HX:=Lib.hid (And.intro hok (hst.mono eB.out.size))
   have eu:=Lib.hid (eB.out.trans (Hx.refl _ _) (hM.mm (H:=H)))
   have gK:=Lib.hid hI
   have eO:=Lib.hid (hM.keep jr.out (by have:=aM.out.t; omega))
   clear hok hst hM hI
   go_wp2_with fail
   refine (dX ⟨#[120]⟩ xo xn xm xk xa xc w5).mono ?_
   rintro e w6 ⟨rfl,hb⟩
   have bY:=Lib.hid hb
   have gu:=Lib.hid ((hb.block _ (Array.getElem?_eq_some_iff.1 eO.out).1).trans eO.out)
   obtain ⟨⟨y0,y1,y2,y3,y4,y5,y6,y7,y8,y9,iF⟩,fz⟩:=eF gu.out
   have f0:=fz 0
   have f1:=fz 1
   have f2:=fz 2
   have f3:=fz 3
   have f4:=fz 4
   have f5:=fz 5
   have f6:=fz 6
   have f7:=fz 7
   have f8:=fz 8
   have f9:=fz 9
   have f10:=fz 10
   clear fz
   clear hb
   unfold aY aG aK
   go_wp2_with fail
   have HF:=Lib.hid (fG (h:=((⟨aG 1 ⟨#[120]⟩ .nil xo xn xm xk,.nil,.nil,aK xa xc⟩:aD)).h) (b:=((⟨aG 1 ⟨#[120]⟩ .nil xo xn xm xk,.nil,.nil,aK xa xc⟩:aD)).b) (e:=((⟨aG 1 ⟨#[120]⟩ .nil xo xn xm xk,.nil,.nil,aK xa xc⟩:aD)).e) (s:=((⟨aG 1 ⟨#[120]⟩ .nil xo xn xm xk,.nil,.nil,aK xa xc⟩:aD)).s) iK.out aM.out bP.out (eu.out.then_ (bY.out.mono eu.out.size) bY.out.size) (Hx.refl _ _) (gK.out.below bY.out) (mG (by unfold aX; decide) (by unfold maxLen; decide) HX.out.1) (gH eZ (.fV (HX.out.2.next (bT bY.out)) (Nat.le_refl _) (fun k h1 _ e=>absurd (aM.out.h _ e) (by have:=bP.out; omega))) dx dx) gu.out rfl)
   show bodyPost _ _ _ _ _ (World.setCells _ w.heap.size 0 (aD.f (⟨aG 1 ⟨#[120]⟩ .nil xo xn xm xk,.nil,.nil,aK xa xc⟩:aD)))
   generalize fD:World.setCells _ _ _ _=W7 at *
   obtain ⟨⟨z0,z1,z2,z3,z4,z5,z6,z7,z8,z9,fF⟩,HP⟩:=dD HF.out
   clear HF fD
   exact bodyPost_ret (v:=aY ((⟨aG 1 ⟨#[120]⟩ .nil xo xn xm xk,.nil,.nil,aK xa xc⟩:aD)).h ((⟨aG 1 ⟨#[120]⟩ .nil xo xn xm xk,.nil,.nil,aK xa xc⟩:aD)).b ((⟨aG 1 ⟨#[120]⟩ .nil xo xn xm xk,.nil,.nil,aK xa xc⟩:aD)).e ((⟨aG 1 ⟨#[120]⟩ .nil xo xn xm xk,.nil,.nil,aK xa xc⟩:aD)).s) (by simp [results,Tryd.results18,go_sem,aY,z0,z1,z2,z3,z4,z5,z6,z7,z8,z9,fF]) rfl HP.out
end Go.Proofs.YtnknfoibmgphnaaDoor
end
