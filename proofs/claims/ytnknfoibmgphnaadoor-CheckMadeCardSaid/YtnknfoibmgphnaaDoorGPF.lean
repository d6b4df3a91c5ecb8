/-
  Parts of the maker's stmt.
  Parts of the maker's stmt.
-/
import Derived.Test.YtnknfoibmgphnaaDoorGPC
section
set_option linter.unusedSimpArgs false
set_option linter.unusedVariables false
namespace Go.Proofs.YtnknfoibmgphnaaDoor
open Go.RowKit
open Md
set_option maxHeartbeats 4000000 in
set_option maxRecDepth 100000 in
theorem Qe:lJ (fun k=>k=6):=by
 intro T d k hk hms w H hs hI jh hnx
 have hd:=hms.pI
 have nY:=Lib.hid hms
 have bS:=Lib.hid hnx
 have HI0:=Lib.hid hI
 have aM:Hid (Old T H w.heap.size):=Lib.hid hI.old
 have HE:Hid (∀d:Nat,d≤100→jJ T (d:Int)):=Lib.hid (jf T)
 obtain ⟨th,left,qa,qb,qc,qd,vH,iY,c0,c1,c2,c3,c4,c5,c6,c7,cf,hv,hrow⟩:=hI.reads
 have f2:=cf 2
 have ug:T.bm < w.heap.size:=hI.lt
 clear hI hrow c1 c3 c4 c5 c6 c7 iY hv cf c0 hms hnx
 go_enter Tryd.func18,Tryd.ntmps18
 go_upto_region 2 with fail
 generalize hW:World.alloc _ _=W
 have HI:Hid (cZ W T H hs):=Lib.hid (by rw [← hW]; exact (HI0.out.left (nG _)).below (ay _ _))
 have HM:Hid (Mm T H w W):=Lib.hid (by rw [← hW]; exact ((Mm.refl T H w).mJ (Hx.refl w H) _ _).then_ ((ay _ _).mono (by simp [World.setCell])) (ay _ _).size)
 have HZ:Hid (W.heap[w.heap.size]? =some (.cells jv 42 (0,0))):=Lib.hid (by
  rw [← hW]
  have e:(World.setCell w ⟨T.bm,2,none⟩ (.int .i64 (wrap64 (left - 1)))).heap.size=w.heap.size:=by simp [World.setCell]
  rw [← e]; exact heap_alloc_new _ _)
 have iR:Hid (W.heap[T.bt]? =w.heap[T.bt]?):=Lib.hid (by
  rw [← hW,heap_alloc_old _ _ (by simp [World.setCell]; exact aM.out.t)]
  exact aO w _ _ rfl T.tm.symm)
 clear hW c2 f2
 have c0:=HI.out.ptr
 go_wp2_with fail
 refine (bS.out W HI.out iR.out).mono ?_
 rintro e w2 ⟨rfl,hM2,hI2⟩
 have iK:=Lib.hid (HM.out.trans (Hx.refl _ _) (hM2.mm (H:=H)))
 have eX:=Lib.hid hI2
 have fT:Hid (w2.heap[w.heap.size]? =some (.cells jv 42 (0,0))):=Lib.hid (hM2.keep HZ.out (by have:=aM.out.t; omega))
 have bP:Hid (w.heap.size < w2.heap.size):=Lib.hid (Array.getElem?_eq_some_iff.1 fT.out).1
 clear hM2 hI2 c0 HI HM HZ iR bS
 go_upto_region 3 with fail
 go_cut [6] (fun s6 W'=>(∃q:Bool,s6= .bool q∧(q=true→0 < d))∧W'=w2)
 case first=>
  obtain ⟨oI,left',oM,oz,oq,oN,oV,fQ,c0',c1',c2',c3',mR,jB,jC,jq,cf',hv',hrow'⟩:=eX.out.reads
  clear c0' c1' c3' jB jC jq cf' hv' hrow' fQ
  by_cases h1:(0:Int) < (d:Int)
  ·by_cases h2:0 < left'
   ·go_wp2_with fail
    go_meet
    exact ⟨⟨_,rfl,fun _=>by omega⟩,rfl⟩
   ·go_wp2_with fail
    go_meet
    exact ⟨⟨_,rfl,fun _=>by omega⟩,rfl⟩
  ·go_wp2_with fail
   go_meet
   exact ⟨⟨false,rfl,fun h=>(by cases h)⟩,rfl⟩
 obtain ⟨⟨nest,rfl,kT⟩,rfl⟩:=hcut
 obtain ⟨wb,rfl⟩: ∃W:World,W=wc:=⟨_,rfl⟩
 have mg:Hid (Sg T H hs w.heap.size wb H wb):=Lib.hid ⟨Mm.refl _ _ _,Hx.refl _ _,eX.out,fT.out,aM.out,bP.out⟩
 subst hk
 rcases Nat.eq_zero_or_pos d with rfl | hd0
 ·have jl:=eX
  have eB:=Lib.hid (show Mm T H wb _ from Mm.refl _ _ _)
  have jr:=Lib.hid (eB.out.keep fT.out (by have:=aM.out.t; omega) (by have:=aM.out.m; omega) (fun e=>by have:=aM.out.h _ e; omega))
  go_wp2_with fail
  refine (HE.out 1 (by decide) _ H hs jl.out).mono ?_
  rintro e w5 ⟨v,rfl,⟨xo,xn,xm,xk,xa,xc,rfl,hok,hst⟩,hM,hI⟩
  have HX:=Lib.hid (And.intro hok (hst.mono eB.out.size))
  have eu:=Lib.hid (eB.out.trans (Hx.refl _ _) (hM.mm (H:=H)))
  have gK:=Lib.hid hI
  have eO:=Lib.hid (hM.keep jr.out (by have:=aM.out.t; omega))
  clear hok hst hM hI
  go_wp2_with fail
  refine (dX ⟨#[120]⟩ xo xn xm xk xa xc w5).mono ?_
  rintro e w6 ⟨rfl,hb⟩
  have bY:=Lib.hid hb
  have gu:=Lib.hid ((hb.block _ (Array.getElem?_eq_some_iff.1 eO.out).1).trans eO.out)
  obtain ⟨⟨y0,y1,y2,y3,y4,y5,y6,y7,y8,y9,iF⟩,fz⟩:=eF gu.out
  have f0:=fz 0
  have f1:=fz 1
  have f2:=fz 2
  have f3:=fz 3
  have f4:=fz 4
  have f5:=fz 5
  have f6:=fz 6
  have f7:=fz 7
  have f8:=fz 8
  have f9:=fz 9
  have f10:=fz 10
  clear fz
  clear hb
  unfold aY aG aK
  go_wp2_with fail
  have HF:=Lib.hid (fG (h:=((⟨aG 1 ⟨#[120]⟩ .nil xo xn xm xk,.nil,.nil,aK xa xc⟩:aD)).h) (b:=((⟨aG 1 ⟨#[120]⟩ .nil xo xn xm xk,.nil,.nil,aK xa xc⟩:aD)).b) (e:=((⟨aG 1 ⟨#[120]⟩ .nil xo xn xm xk,.nil,.nil,aK xa xc⟩:aD)).e) (s:=((⟨aG 1 ⟨#[120]⟩ .nil xo xn xm xk,.nil,.nil,aK xa xc⟩:aD)).s) iK.out aM.out bP.out (eu.out.then_ (bY.out.mono eu.out.size) bY.out.size) (Hx.refl _ _) (gK.out.below bY.out) (mG (by unfold aX; decide) (by unfold maxLen; decide) HX.out.1) (gH eZ (.fV (HX.out.2.next (bT bY.out)) (Nat.le_refl _) (fun k h1 _ e=>absurd (aM.out.h _ e) (by have:=bP.out; omega))) dx dx) gu.out rfl)
  show bodyPost _ _ _ _ _ (World.setCells _ w.heap.size 0 (aD.f (⟨aG 1 ⟨#[120]⟩ .nil xo xn xm xk,.nil,.nil,aK xa xc⟩:aD)))
  generalize fD:World.setCells _ _ _ _=W7 at *
  obtain ⟨⟨z0,z1,z2,z3,z4,z5,z6,z7,z8,z9,fF⟩,HP⟩:=dD HF.out
  clear HF fD
  exact bodyPost_ret (v:=aY ((⟨aG 1 ⟨#[120]⟩ .nil xo xn xm xk,.nil,.nil,aK xa xc⟩:aD)).h ((⟨aG 1 ⟨#[120]⟩ .nil xo xn xm xk,.nil,.nil,aK xa xc⟩:aD)).b ((⟨aG 1 ⟨#[120]⟩ .nil xo xn xm xk,.nil,.nil,aK xa xc⟩:aD)).e ((⟨aG 1 ⟨#[120]⟩ .nil xo xn xm xk,.nil,.nil,aK xa xc⟩:aD)).s) (by simp [results,Tryd.results18,go_sem,aY,z0,z1,z2,z3,z4,z5,z6,z7,z8,z9,fF]) rfl HP.out
 ·have hd1:(0:Int) < (d:Int):=by omega
  have hwd:IntKind.i64.wrap ((d:Int) - 1)=(d:Int) - 1:=IntWalk.i64_in _ (by omega)
  go_wp2_with fail
  refine (HE.out 1 (by decide) _ H hs mg.out.i).mono ?_
  rintro e w3 ⟨v,rfl,⟨xo,xn,xm,xk,xa,xc,rfl,hok,hst⟩,hM,hI⟩
  have HX:=Lib.hid (And.intro hok (hst.mono mg.out.m.size))
  have S3:=Lib.hid (mg.out.tf hM hI)
  clear hok hst hM hI
  unfold exV
  go_wp2_with fail
  refine (nY.out.st hd0 w3 H hs 1 S3.out.i (by omega) (by decide) (by decide)).mono ?_
  rintro e w4 ⟨v,l,H4,rfl,hg,hok,hl1,hl2,hx,hM,hI⟩
  obtain ⟨ab,cb,rfl,hst⟩:=hg.says hok
  have LX:=Lib.hid (And.intro (rO hl2) hst)
  have LJ:=Lib.hid hx
  have lZ:=Lib.hid hM
  have S4:=Lib.hid (S3.out.mm hM hx hI)
  clear hg hok hl1 hl2 hx hM hI hst
  go_upto_region 12 with fail
  obtain ⟨g,hg⟩: ∃g,w4.heap.size=g:=⟨_,rfl⟩
  generalize hW:World.alloc w4 _=w5
  have oZ:Hid (Below w4.heap.size w4 w5):=Lib.hid (by rw [← hW]; exact ay _ _)
  have HR:Hid (w5.heap[g]? =some (.cells (aD.f (⟨aG 2 ⟨#[]⟩ .nil xo xn xm xk,aN l,.nil,⟨none,0,xa,xc,ab,cb,none,0⟩⟩:aD)).toArray 42 (0,0))):=Lib.hid (by rw [← hW,← hg]; exact heap_alloc_new _ _)
  have HG:=Lib.hid hg
  have S5:=Lib.hid (S4.out.below oZ.out)
  rw [hg]
  clear hW hg
  have c0:=S5.out.i.ptr
  have HN:Hid (H4≠some g):=Lib.hid (fun e=>by have:=S4.out.i.hlt' _ e; have:=HG.out; omega)
  have KU:Hid (T.bt < g∧T.bm < g∧wb.heap.size≤g):=Lib.hid (by have:=aM.out.t; have:=aM.out.m; have:=bP.out; have:=S4.out.m.size; have:=HG.out; omega)
  go_wp2_with fail
  refine (jk T H4 hs 2 _ (by unfold aX; decide) S5.out.i).mono ?_
  rintro e w6 ⟨r,rfl,-,-,KQ,Ai⟩
  have S6:=Lib.hid (S5.out.tf KQ Ai)
  have KR:Hid (Mm T H4 w4 w6):=Lib.hid ((Mm.of_below oZ.out).trans (Hx.refl _ _) (KQ.mm (H:=H4)))
  have oK:=Lib.hid (KQ.keep HR.out (by have:=KU.out.1; omega))
  clear KQ Ai c0 HR
  cases hr:((r:Int) == 1)
  ·have x0:=(aV oK.out (j:=0) (u:= .int .i64 2) rfl).2
   have x1:=(aV oK.out (j:=1) (u:= .int .i64 0) rfl).2
   have x2:=(aV oK.out (j:=2) (u:= .string ⟨#[]⟩) rfl).2
   have x3:=(aV oK.out (j:=3) (u:= .string ⟨#[]⟩) rfl).2
   have x4:=(aV oK.out (j:=4) (u:= .slice none 0 0) rfl).2
   have x5:=(aV oK.out (j:=5) (u:= .int .i64 xo) rfl).2
   have x6:=(aV oK.out (j:=6) (u:= .int .i64 xn) rfl).2
   have x7:=(aV oK.out (j:=7) (u:= .string xm) rfl).2
   have x8:=(aV oK.out (j:=8) (u:= .slice xa xk.len xc) rfl).2
   have x9:=(aV oK.out (j:=9) (u:= .slice ab (aN l).len cb) rfl).2
   have x10:=(aV oK.out (j:=10) (u:= .slice none 0 0) rfl).2
   have xf:=fun j=>dH (o:=j) oK.out
   have gu:=Lib.hid S6.out.z
   obtain ⟨⟨y0,y1,y2,y3,y4,y5,y6,y7,y8,y9,iF⟩,fz⟩:=eF gu.out
   have f0:=fz 0
   have f1:=fz 1
   have f2:=fz 2
   have f3:=fz 3
   have f4:=fz 4
   have f5:=fz 5
   have f6:=fz 6
   have f7:=fz 7
   have f8:=fz 8
   have f9:=fz 9
   have f10:=fz 10
   clear fz
   go_wp2_with fail
   have HF:=Lib.hid (fG (h:=((⟨aG 2 ⟨#[]⟩ .nil xo xn xm xk,aN l,.nil,⟨none,0,xa,xc,ab,cb,none,0⟩⟩:aD)).h) (b:=((⟨aG 2 ⟨#[]⟩ .nil xo xn xm xk,aN l,.nil,⟨none,0,xa,xc,ab,cb,none,0⟩⟩:aD)).b) (e:=((⟨aG 2 ⟨#[]⟩ .nil xo xn xm xk,aN l,.nil,⟨none,0,xa,xc,ab,cb,none,0⟩⟩:aD)).e) (s:=((⟨aG 2 ⟨#[]⟩ .nil xo xn xm xk,aN l,.nil,⟨none,0,xa,xc,ab,cb,none,0⟩⟩:aD)).s) iK.out aM.out bP.out S6.out.m S6.out.x S6.out.i (rD (by unfold aX; decide) jD HX.out.1 nil_le LX.out.1 (Nat.zero_le _)) (gH eZ (S3.out.stay HX.out.2 S3.out.old (lZ.out.trans LJ.out KR.out) LJ.out) (S4.out.zT LX.out.2 S3.out.m.size KR.out (Hx.refl _ _)) dx) S6.out.z rfl)
   show bodyPost _ _ _ _ _ (World.setCells _ w.heap.size 0 (aD.f (⟨aG 2 ⟨#[]⟩ .nil xo xn xm xk,aN l,.nil,⟨none,0,xa,xc,ab,cb,none,0⟩⟩:aD)))
   generalize fD:World.setCells _ _ _ _=W7 at *
   obtain ⟨⟨z0,z1,z2,z3,z4,z5,z6,z7,z8,z9,fF⟩,HP⟩:=dD HF.out
   clear HF fD
   exact bodyPost_ret (v:=aY ((⟨aG 2 ⟨#[]⟩ .nil xo xn xm xk,aN l,.nil,⟨none,0,xa,xc,ab,cb,none,0⟩⟩:aD)).h ((⟨aG 2 ⟨#[]⟩ .nil xo xn xm xk,aN l,.nil,⟨none,0,xa,xc,ab,cb,none,0⟩⟩:aD)).b ((⟨aG 2 ⟨#[]⟩ .nil xo xn xm xk,aN l,.nil,⟨none,0,xa,xc,ab,cb,none,0⟩⟩:aD)).e ((⟨aG 2 ⟨#[]⟩ .nil xo xn xm xk,aN l,.nil,⟨none,0,xa,xc,ab,cb,none,0⟩⟩:aD)).s) (by simp [results,Tryd.results18,go_sem,aY,z0,z1,z2,z3,z4,z5,z6,z7,z8,z9,fF]) rfl HP.out
  ·go_wp2_with fail
   refine (nY.out.st hd0 w6 H4 hs 1 S6.out.i (by omega) (by decide) (by decide)).mono ?_
   rintro e w7 ⟨v,l2,H7,rfl,hg,hok,hl1,hl2,hx,hM,hI⟩
   obtain ⟨ae,ce,rfl,hst⟩:=hg.says hok
   have QK:=Lib.hid (And.intro (rO hl2) hst)
   have nV:=Lib.hid hx
   have Ci:=Lib.hid hM
   have S7:=Lib.hid (S6.out.mm hM hx hI)
   clear hg hok hl1 hl2 hx hM hI hst
   have gX:=Lib.hid (Ci.out.keep oK.out (by have:=KU.out.1; omega) (by have:=KU.out.2.1; omega) HN.out)
   have Ry:=Lib.hid (Array.getElem?_eq_some_iff.1 oK.out).1
   have RD:=Lib.hid (KR.out.trans (Hx.refl _ _) Ci.out)
   have Np:=Lib.hid ((Hx.refl w4 H4).trans nV.out KR.out.size)
   have U5:=Lib.hid (nV.out.ne Ry.out HN.out)
   have x0:=(aV gX.out (j:=0) (u:= .int .i64 2) rfl).2
   have x1:=(aV gX.out (j:=1) (u:= .int .i64 0) rfl).2
   have x2:=(aV gX.out (j:=2) (u:= .string ⟨#[]⟩) rfl).2
   have x3:=(aV gX.out (j:=3) (u:= .string ⟨#[]⟩) rfl).2
   have x4:=(aV gX.out (j:=4) (u:= .slice none 0 0) rfl).2
   have x5:=(aV gX.out (j:=5) (u:= .int .i64 xo) rfl).2
   have x6:=(aV gX.out (j:=6) (u:= .int .i64 xn) rfl).2
   have x7:=(aV gX.out (j:=7) (u:= .string xm) rfl).2
   have x8:=(aV gX.out (j:=8) (u:= .slice xa xk.len xc) rfl).2
   have x9:=(aV gX.out (j:=9) (u:= .slice ab (aN l).len cb) rfl).2
   have x10:=(aV gX.out (j:=10) (u:= .slice none 0 0) rfl).2
   have xf:=fun j=>dH (o:=j) gX.out
   have xf10:=xf 10
   clear x0 x1 x2 x3 x4 x5 x6 x7 x8 x9 xf
   go_upto_region 14 with fail
   generalize ou:World.setCell w7 _ _=w8
   have S8:Hid (Sg T H hs w.heap.size wb H7 w8):=Lib.hid (by rw [← ou]; exact S7.out.set _ _ KU.out.2.2 U5.out)
   have OM:Hid (Mm T H4 w4 w8):=Lib.hid (by rw [← ou]; exact RD.out.set _ _ (by have:=HG.out; show w4.heap.size≤g; omega))
   have oO:Hid (w8.heap[g]? =some (.cells (aD.f (⟨aG 2 ⟨#[]⟩ .nil xo xn xm xk,aN l,aN l2,⟨none,0,xa,xc,ab,cb,ae,ce⟩⟩:aD)).toArray 42 (0,0))):=Lib.hid (by rw [← ou,dN gX.out]; rfl)
   have TT:Hid (fJ w6.heap.size (tL H7) w8 (fun w2=>(aN l2).At w2 w2.heap.size ae 0)):=Lib.hid (by rw [← ou]; exact QK.out.2.go (.rE (oD _ _ _ Ry.out)) (fun _ _ _ e=>e))
   clear ou x10 xf10
   have x0:=(aV oO.out (j:=0) (u:= .int .i64 2) rfl).2
   have x1:=(aV oO.out (j:=1) (u:= .int .i64 0) rfl).2
   have x2:=(aV oO.out (j:=2) (u:= .string ⟨#[]⟩) rfl).2
   have x3:=(aV oO.out (j:=3) (u:= .string ⟨#[]⟩) rfl).2
   have x4:=(aV oO.out (j:=4) (u:= .slice none 0 0) rfl).2
   have x5:=(aV oO.out (j:=5) (u:= .int .i64 xo) rfl).2
   have x6:=(aV oO.out (j:=6) (u:= .int .i64 xn) rfl).2
   have x7:=(aV oO.out (j:=7) (u:= .string xm) rfl).2
   have x8:=(aV oO.out (j:=8) (u:= .slice xa xk.len xc) rfl).2
   have x9:=(aV oO.out (j:=9) (u:= .slice ab (aN l).len cb) rfl).2
   have x10:=(aV oO.out (j:=10) (u:= .slice ae (aN l2).len ce) rfl).2
   have xf:=fun j=>dH (o:=j) oO.out
   have Uf:=Lib.hid S8.out.z
   obtain ⟨⟨y0,y1,y2,y3,y4,y5,y6,y7,y8,y9,iF⟩,fz⟩:=eF Uf.out
   have f0:=fz 0
   have f1:=fz 1
   have f2:=fz 2
   have f3:=fz 3
   have f4:=fz 4
   have f5:=fz 5
   have f6:=fz 6
   have f7:=fz 7
   have f8:=fz 8
   have f9:=fz 9
   have f10:=fz 10
   clear fz
   go_wp2_with fail
   have HF:=Lib.hid (fG (h:=((⟨aG 2 ⟨#[]⟩ .nil xo xn xm xk,aN l,aN l2,⟨none,0,xa,xc,ab,cb,ae,ce⟩⟩:aD)).h) (b:=((⟨aG 2 ⟨#[]⟩ .nil xo xn xm xk,aN l,aN l2,⟨none,0,xa,xc,ab,cb,ae,ce⟩⟩:aD)).b) (e:=((⟨aG 2 ⟨#[]⟩ .nil xo xn xm xk,aN l,aN l2,⟨none,0,xa,xc,ab,cb,ae,ce⟩⟩:aD)).e) (s:=((⟨aG 2 ⟨#[]⟩ .nil xo xn xm xk,aN l,aN l2,⟨none,0,xa,xc,ab,cb,ae,ce⟩⟩:aD)).s) iK.out aM.out bP.out S8.out.m S8.out.x S8.out.i (rD (by unfold aX; decide) jD HX.out.1 nil_le LX.out.1 QK.out.1) (gH eZ (S3.out.stay HX.out.2 S3.out.old (lZ.out.trans LJ.out OM.out) (LJ.out.trans Np.out lZ.out.size)) (S4.out.zT LX.out.2 S3.out.m.size OM.out Np.out) (TT.out.weak S6.out.m.size (fun _ _ _ e=>e))) S8.out.z rfl)
   show bodyPost _ _ _ _ _ (World.setCells _ w.heap.size 0 (aD.f (⟨aG 2 ⟨#[]⟩ .nil xo xn xm xk,aN l,aN l2,⟨none,0,xa,xc,ab,cb,ae,ce⟩⟩:aD)))
   generalize fD:World.setCells _ _ _ _=W7 at *
   obtain ⟨⟨z0,z1,z2,z3,z4,z5,z6,z7,z8,z9,fF⟩,HP⟩:=dD HF.out
   clear HF fD
   exact bodyPost_ret (v:=aY ((⟨aG 2 ⟨#[]⟩ .nil xo xn xm xk,aN l,aN l2,⟨none,0,xa,xc,ab,cb,ae,ce⟩⟩:aD)).h ((⟨aG 2 ⟨#[]⟩ .nil xo xn xm xk,aN l,aN l2,⟨none,0,xa,xc,ab,cb,ae,ce⟩⟩:aD)).b ((⟨aG 2 ⟨#[]⟩ .nil xo xn xm xk,aN l,aN l2,⟨none,0,xa,xc,ab,cb,ae,ce⟩⟩:aD)).e ((⟨aG 2 ⟨#[]⟩ .nil xo xn xm xk,aN l,aN l2,⟨none,0,xa,xc,ab,cb,ae,ce⟩⟩:aD)).s) (by simp [results,Tryd.results18,go_sem,aY,z0,z1,z2,z3,z4,z5,z6,z7,z8,z9,fF]) rfl HP.out
end Go.Proofs.YtnknfoibmgphnaaDoor
end
section
set_option linter.unusedSimpArgs false
set_option linter.unusedVariables false
namespace Go.Proofs.YtnknfoibmgphnaaDoor
open Go.RowKit
open Md
set_option maxHeartbeats 4000000 in
set_option maxRecDepth 100000 in
theorem Qo:lJ (fun k=>k=7):=by
 intro T d k hk hms w H hs hI jh hnx
 have hd:=hms.pI
 have nY:=Lib.hid hms
 have bS:=Lib.hid hnx
 have HI0:=Lib.hid hI
 have aM:Hid (Old T H w.heap.size):=Lib.hid hI.old
 have HE:Hid (∀d:Nat,d≤100→jJ T (d:Int)):=Lib.hid (jf T)
 obtain ⟨th,left,qa,qb,qc,qd,vH,iY,c0,c1,c2,c3,c4,c5,c6,c7,cf,hv,hrow⟩:=hI.reads
 have f2:=cf 2
 have ug:T.bm < w.heap.size:=hI.lt
 clear hI hrow c1 c3 c4 c5 c6 c7 iY hv cf c0 hms hnx
 go_enter Tryd.func18,Tryd.ntmps18
 go_upto_region 2 with fail
 generalize hW:World.alloc _ _=W
 have HI:Hid (cZ W T H hs):=Lib.hid (by rw [← hW]; exact (HI0.out.left (nG _)).below (ay _ _))
 have HM:Hid (Mm T H w W):=Lib.hid (by rw [← hW]; exact ((Mm.refl T H w).mJ (Hx.refl w H) _ _).then_ ((ay _ _).mono (by simp [World.setCell])) (ay _ _).size)
 have HZ:Hid (W.heap[w.heap.size]? =some (.cells jv 42 (0,0))):=Lib.hid (by
  rw [← hW]
  have e:(World.setCell w ⟨T.bm,2,none⟩ (.int .i64 (wrap64 (left - 1)))).heap.size=w.heap.size:=by simp [World.setCell]
  rw [← e]; exact heap_alloc_new _ _)
 have iR:Hid (W.heap[T.bt]? =w.heap[T.bt]?):=Lib.hid (by
  rw [← hW,heap_alloc_old _ _ (by simp [World.setCell]; exact aM.out.t)]
  exact aO w _ _ rfl T.tm.symm)
 clear hW c2 f2
 have c0:=HI.out.ptr
 go_wp2_with fail
 refine (bS.out W HI.out iR.out).mono ?_
 rintro e w2 ⟨rfl,hM2,hI2⟩
 have iK:=Lib.hid (HM.out.trans (Hx.refl _ _) (hM2.mm (H:=H)))
 have eX:=Lib.hid hI2
 have fT:Hid (w2.heap[w.heap.size]? =some (.cells jv 42 (0,0))):=Lib.hid (hM2.keep HZ.out (by have:=aM.out.t; omega))
 have bP:Hid (w.heap.size < w2.heap.size):=Lib.hid (Array.getElem?_eq_some_iff.1 fT.out).1
 clear hM2 hI2 c0 HI HM HZ iR bS
 go_upto_region 3 with fail
 go_cut [6] (fun s6 W'=>(∃q:Bool,s6= .bool q∧(q=true→0 < d))∧W'=w2)
 case first=>
  obtain ⟨oI,left',oM,oz,oq,oN,oV,fQ,c0',c1',c2',c3',mR,jB,jC,jq,cf',hv',hrow'⟩:=eX.out.reads
  clear c0' c1' c3' jB jC jq cf' hv' hrow' fQ
  by_cases h1:(0:Int) < (d:Int)
  ·by_cases h2:0 < left'
   ·go_wp2_with fail
    go_meet
    exact ⟨⟨_,rfl,fun _=>by omega⟩,rfl⟩
   ·go_wp2_with fail
    go_meet
    exact ⟨⟨_,rfl,fun _=>by omega⟩,rfl⟩
  ·go_wp2_with fail
   go_meet
   exact ⟨⟨false,rfl,fun h=>(by cases h)⟩,rfl⟩
 obtain ⟨⟨nest,rfl,kT⟩,rfl⟩:=hcut
 obtain ⟨wb,rfl⟩: ∃W:World,W=wc:=⟨_,rfl⟩
 have mg:Hid (Sg T H hs w.heap.size wb H wb):=Lib.hid ⟨Mm.refl _ _ _,Hx.refl _ _,eX.out,fT.out,aM.out,bP.out⟩
 subst hk
 rcases Nat.eq_zero_or_pos d with rfl | hd0
 ·have jl:=eX
  have eB:=Lib.hid (show Mm T H wb _ from Mm.refl _ _ _)
  have jr:=Lib.hid (eB.out.keep fT.out (by have:=aM.out.t; omega) (by have:=aM.out.m; omega) (fun e=>by have:=aM.out.h _ e; omega))
  go_wp2_with fail
  refine (HE.out 1 (by decide) _ H hs jl.out).mono ?_
  rintro e w5 ⟨v,rfl,⟨xo,xn,xm,xk,xa,xc,rfl,hok,hst⟩,hM,hI⟩
  have HX:=Lib.hid (And.intro hok (hst.mono eB.out.size))
  have eu:=Lib.hid (eB.out.trans (Hx.refl _ _) (hM.mm (H:=H)))
  have gK:=Lib.hid hI
  have eO:=Lib.hid (hM.keep jr.out (by have:=aM.out.t; omega))
  clear hok hst hM hI
  go_wp2_with fail
  refine (dX ⟨#[120]⟩ xo xn xm xk xa xc w5).mono ?_
  rintro e w6 ⟨rfl,hb⟩
  have bY:=Lib.hid hb
  have gu:=Lib.hid ((hb.block _ (Array.getElem?_eq_some_iff.1 eO.out).1).trans eO.out)
  obtain ⟨⟨y0,y1,y2,y3,y4,y5,y6,y7,y8,y9,iF⟩,fz⟩:=eF gu.out
  have f0:=fz 0
  have f1:=fz 1
  have f2:=fz 2
  have f3:=fz 3
  have f4:=fz 4
  have f5:=fz 5
  have f6:=fz 6
  have f7:=fz 7
  have f8:=fz 8
  have f9:=fz 9
  have f10:=fz 10
  clear fz
  clear hb
  unfold aY aG aK
  go_wp2_with fail
  have HF:=Lib.hid (fG (h:=((⟨aG 1 ⟨#[120]⟩ .nil xo xn xm xk,.nil,.nil,aK xa xc⟩:aD)).h) (b:=((⟨aG 1 ⟨#[120]⟩ .nil xo xn xm xk,.nil,.nil,aK xa xc⟩:aD)).b) (e:=((⟨aG 1 ⟨#[120]⟩ .nil xo xn xm xk,.nil,.nil,aK xa xc⟩:aD)).e) (s:=((⟨aG 1 ⟨#[120]⟩ .nil xo xn xm xk,.nil,.nil,aK xa xc⟩:aD)).s) iK.out aM.out bP.out (eu.out.then_ (bY.out.mono eu.out.size) bY.out.size) (Hx.refl _ _) (gK.out.below bY.out) (mG (by unfold aX; decide) (by unfold maxLen; decide) HX.out.1) (gH eZ (.fV (HX.out.2.next (bT bY.out)) (Nat.le_refl _) (fun k h1 _ e=>absurd (aM.out.h _ e) (by have:=bP.out; omega))) dx dx) gu.out rfl)
  show bodyPost _ _ _ _ _ (World.setCells _ w.heap.size 0 (aD.f (⟨aG 1 ⟨#[120]⟩ .nil xo xn xm xk,.nil,.nil,aK xa xc⟩:aD)))
  generalize fD:World.setCells _ _ _ _=W7 at *
  obtain ⟨⟨z0,z1,z2,z3,z4,z5,z6,z7,z8,z9,fF⟩,HP⟩:=dD HF.out
  clear HF fD
  exact bodyPost_ret (v:=aY ((⟨aG 1 ⟨#[120]⟩ .nil xo xn xm xk,.nil,.nil,aK xa xc⟩:aD)).h ((⟨aG 1 ⟨#[120]⟩ .nil xo xn xm xk,.nil,.nil,aK xa xc⟩:aD)).b ((⟨aG 1 ⟨#[120]⟩ .nil xo xn xm xk,.nil,.nil,aK xa xc⟩:aD)).e ((⟨aG 1 ⟨#[120]⟩ .nil xo xn xm xk,.nil,.nil,aK xa xc⟩:aD)).s) (by simp [results,Tryd.results18,go_sem,aY,z0,z1,z2,z3,z4,z5,z6,z7,z8,z9,fF]) rfl HP.out
 ·have hd1:(0:Int) < (d:Int):=by omega
  have hwd:IntKind.i64.wrap ((d:Int) - 1)=(d:Int) - 1:=IntWalk.i64_in _ (by omega)
  obtain ⟨oI,left',oM,oz,oq,oN,oV,fQ,c0',c1',c2',c3',mR,jB,jC,jq,cf',hv',hrow'⟩:=mg.out.i.reads
  have f6:=cf' 6
  clear c0' c1' c2' c3' mR jB jq cf' hv' hrow' fQ
  go_upto_region 18 with fail
  generalize hW3:World.setCell _ _ _=w3
  have S3:Hid (Sg T H hs w.heap.size wb H w3):=Lib.hid (by rw [← hW3]; exact mg.out.flag 6 (.inr (.inr (.inr rfl))) true)
  clear hW3 jC f6
  go_wp2_with fail
  refine (wI ⟨#[98]⟩ w3).mono ?_
  rintro e w4 ⟨rfl,hb⟩
  have S4:=Lib.hid (S3.out.below hb)
  clear hb
  go_wp2_with fail
  refine (yI 2 w4).mono ?_
  rintro e w5 ⟨rfl,hb⟩
  have S5:=Lib.hid (S4.out.below hb)
  clear hb
  go_wp2_with fail
  refine (wu 13 2 0 ⟨#[98]⟩ .nil none 0 1 2 ⟨#[]⟩ .nil none 0 w5).mono ?_
  rintro e w6 ⟨g6,rfl,hg,hcell,hb⟩
  have S6:=Lib.hid (S5.out.below hb)
  have HX:Hid (iX wb.heap.size w6 (fun w2=>(bJ.cons 2 0 ⟨#[98]⟩ .nil (.cons 1 2 ⟨#[]⟩ .nil .nil)).At w2 w2.heap.size (some ⟨g6,0,none⟩) 0)):=Lib.hid (zm hcell (Nat.le_trans S5.out.m.size hg) Ou (fun _ _=>trivial) RQ (fun _ _=>trivial))
  clear hb hg hcell
  go_wp2_with fail
  refine (nY.out.st hd0 w6 H hs 1 S6.out.i (by omega) (by decide) (by decide)).mono ?_
  rintro e w7 ⟨v,l,H7,rfl,hg,hok,hl1,hl2,hx,hM,hI⟩
  have R6:=Lib.hid hg
  have JF:=Lib.hid (And.intro hok hl2)
  have nV:=Lib.hid hx
  have Ci:=Lib.hid hM
  have S7:=Lib.hid (S6.out.mm hM hx hI)
  clear hg hok hl1 hl2 hx hM hI
  go_wp2_with fail
  refine (wI ⟨#[98]⟩ w7).mono ?_
  rintro e w8 ⟨rfl,hb⟩
  have BN:=Lib.hid hb
  have S8:=Lib.hid (S7.out.below hb)
  clear hb
  go_wp2_with fail
  refine (yI 1 w8).mono ?_
  rintro e w9 ⟨rfl,hb⟩
  have oL:=Lib.hid (BN.out.trans (hb.mono BN.out.size))
  have S9:=Lib.hid (S8.out.below hb)
  clear hb
  go_wp2_with fail
  refine (wu 6 2 0 ⟨#[98]⟩ .nil none 0 1 1 ⟨#[]⟩ .nil none 0 w9).mono ?_
  rintro e FC ⟨g10,rfl,hg,hcell,hb⟩
  have Ko:=Lib.hid (oL.out.trans (hb.mono oL.out.size))
  have UC:=Lib.hid (S9.out.below hb)
  have HY:Hid (iX w7.heap.size FC (fun w2=>(bJ.cons 2 0 ⟨#[98]⟩ .nil (.cons 1 1 ⟨#[]⟩ .nil .nil)).At w2 w2.heap.size (some ⟨g10,0,none⟩) 0)):=Lib.hid (zm hcell (Nat.le_trans oL.out.size hg) Ou (fun _ _=>trivial) Sy (fun _ _=>trivial))
  clear hb hg hcell
  go_wp2_with fail
  refine (dX ⟨#[98]⟩ 6 0 ⟨#[]⟩ (.cons 2 0 ⟨#[98]⟩ .nil (.cons 1 1 ⟨#[]⟩ .nil .nil)) (some ⟨g10,0,none⟩) 2 FC).mono ?_
  rintro e DX ⟨rfl,hb⟩
  have AX:=Lib.hid (Ko.out.trans (hb.mono Ko.out.size))
  have Ux:=Lib.hid (UC.out.below hb)
  have NR:=Lib.hid (HY.out.next (bT hb))
  clear hb HY
  obtain ⟨i0,hi,hz0,hz1,hz2⟩:=jI (α:=Nat) (β:=Nat) sH
  obtain ⟨X1,hX1⟩: ∃x:aD,x=(⟨aG 1 ⟨#[98]⟩ .nil 6 0 ⟨#[]⟩ (.cons 2 0 ⟨#[98]⟩ .nil (.cons 1 1 ⟨#[]⟩ .nil .nil)),.nil,.nil,aK (some ⟨g10,0,none⟩) 2⟩:aD):=⟨_,rfl⟩
  have Fx:=Lib.hid hX1
  clear hX1
  have kX:Hid (Below DX.heap.size DX (DX.alloc (.cells (aD.f (⟨aG 1 ⟨#[98]⟩ .nil 6 0 ⟨#[]⟩ (.cons 2 0 ⟨#[98]⟩ .nil (.cons 1 1 ⟨#[]⟩ .nil .nil)),.nil,.nil,aK (some ⟨g10,0,none⟩) 2⟩:aD)).toArray 42))):=Lib.hid (ay _ _)
  have SA:=Lib.hid (Ux.out.below kX.out)
  have vS:=Lib.hid ((R6.out.next (jT.of_below AX.out) (Hx.refl _ _)).next (jT.of_below kX.out) (Hx.refl _ _))
  have vU:=Lib.hid R6.out.lt
  have rz:=Lib.hid (jM (heap_alloc_new DX (.cells (aD.f (⟨aG 1 ⟨#[98]⟩ .nil 6 0 ⟨#[]⟩ (.cons 2 0 ⟨#[98]⟩ .nil (.cons 1 1 ⟨#[]⟩ .nil .nil)),.nil,.nil,aK (some ⟨g10,0,none⟩) 2⟩:aD)).toArray 42)))
  have hbs:w6.heap.size≤DX.heap.size + 1:=by have:=Ci.out.size; have:=AX.out.size; omega
  have hkl:l.length + 1≤maxLen:=by have:=JF.out.2; unfold maxLen; omega
  have Al:(l.length + 1) * 176≤140737488355328:=by have:=JF.out.2; omega
  unfold aY aG aK
  go_wp2_with (at_builtin; refine wpList_append_lies _ rfl _ _ 33 rfl w6.heap.size 42 i0 _ 11 176 Tryd.underlying33 hi hz0 hz1 hz2 rfl (by decide) _ _ _ rfl vS.out.own ⟨DX.heap.size,0,none⟩ 1 1 (aD.f (⟨aG 1 ⟨#[98]⟩ .nil 6 0 ⟨#[]⟩ (.cons 2 0 ⟨#[98]⟩ .nil (.cons 1 1 ⟨#[]⟩ .nil .nil)),.nil,.nil,aK (some ⟨g10,0,none⟩) 2⟩:aD)) rfl rfl rz.out (qO _) (by decide) hkl Al (by simpa using hbs) _ rfl ?_)
  clear hi hz0 hz1 hz2
  intro gr cap FQ hown hgr hmv hlt2
  have vE:Hid (fJ w6.heap.size (qo v.ownBlock H7) (DX.alloc (.cells (aD.f (⟨aG 1 ⟨#[98]⟩ .nil 6 0 ⟨#[]⟩ (.cons 2 0 ⟨#[98]⟩ .nil (.cons 1 1 ⟨#[]⟩ .nil .nil)),.nil,.nil,aK (some ⟨g10,0,none⟩) 2⟩:aD)).toArray 42)) (aD.I (⟨aG 1 ⟨#[98]⟩ .nil 6 0 ⟨#[]⟩ (.cons 2 0 ⟨#[98]⟩ .nil (.cons 1 1 ⟨#[]⟩ .nil .nil)),.nil,.nil,aK (some ⟨g10,0,none⟩) 2⟩:aD))):=Lib.hid (gH eZ (.fV (NR.out.next (bT kX.out)) Ci.out.size (fun k h1 _ e=>by
   rcases e with e | e
   ·have:=(vU.out k e).2; omega
   ·have:=S7.out.i.hlt' k e; omega)) dx dx)
  have OX:=Lib.hid (vS.out.push vE.out rfl hown hgr (by simpa using hmv) SA.out.i.hlt')
  have Fz:Hid (∀k,v.ownBlock=some k→w6.heap.size≤k∧H7≠some k):=Lib.hid (fun k e=>⟨(vU.out k e).1,vS.out.ne k e⟩)
  have O9:=Lib.hid (SA.out.grown hgr (fun k e=>⟨Nat.le_trans S6.out.m.size (Fz.out k e).1,(Fz.out k e).2⟩))
  have Tz:Hid (Mm T H w6 FQ):=Lib.hid (((Ci.out.then_ (AX.out.mono Ci.out.size) AX.out.size).then_ (kX.out.mono (Nat.le_trans Ci.out.size AX.out.size)) kX.out.size).then_ (uh hgr (fun k e=>(Fz.out k e).1) (by simpa using hbs)) hgr.size)
  obtain ⟨ab,cb,hv,hst⟩:=qy.says OX.out (fun y hy=>by
   rcases List.mem_append.1 hy with hy | hy
   ·exact JF.out.1 y hy
   ·rw [List.mem_singleton.1 hy]; exact mG (by unfold aX; decide) (by unfold maxLen; decide) (Rl 6 0 1 (by unfold aX; decide)))
  rw [hv]
  have hlen:(aN (l++[(⟨aG 1 ⟨#[98]⟩ .nil 6 0 ⟨#[]⟩ (.cons 2 0 ⟨#[98]⟩ .nil (.cons 1 1 ⟨#[]⟩ .nil .nil)),.nil,.nil,aK (some ⟨g10,0,none⟩) 2⟩:aD)])).len≤maxLen:=by rw [jK,List.length_append]; exact hkl
  generalize aN (l++[(⟨aG 1 ⟨#[98]⟩ .nil 6 0 ⟨#[]⟩ (.cons 2 0 ⟨#[98]⟩ .nil (.cons 1 1 ⟨#[]⟩ .nil .nil)),.nil,.nil,aK (some ⟨g10,0,none⟩) 2⟩:aD)])=L at *
  have HL:=Lib.hid (And.intro hlen hst)
  clear hown hgr hmv hlt2 hbs hkl Al vE rz vS kX SA OX hlen hst hv Fx BN oL Ko AX NR
  go_upto_region 19 with fail
  obtain ⟨g,hg⟩: ∃g,FQ.heap.size=g:=⟨_,rfl⟩
  generalize hW:World.alloc FQ _=LG
  have Nj:Hid (Below FQ.heap.size FQ LG):=Lib.hid (by rw [← hW]; exact ay _ _)
  have HR:Hid (LG.heap[g]? =some (.cells (aD.f (⟨aG 3 ⟨#[]⟩ .nil 13 0 ⟨#[]⟩ (.cons 2 0 ⟨#[98]⟩ .nil (.cons 1 2 ⟨#[]⟩ .nil .nil)),L,.nil,⟨none,0,some ⟨g6,0,none⟩,2,ab,cb,none,0⟩⟩:aD)).toArray 42 (0,0))):=Lib.hid (by rw [← hW,← hg]; exact heap_alloc_new _ _)
  have HG:=Lib.hid hg
  have Rt:=Lib.hid (O9.out.below Nj.out)
  rw [hg]
  clear hW hg
  obtain ⟨QW,KF,pa,pb,pc,pd,R9,EB,d0,d1,d2,d3,d4,d5,d6,d7,df,hv2,hrow2⟩:=Rt.out.i.reads
  have TJ:=df 6
  clear d0 d1 d2 d3 d4 d5 d7 df hv2 hrow2 EB
  go_upto_region 20 with fail
  generalize Gs:World.setCell LG _ _=KT
  have J2:Hid (Sg T H hs w.heap.size wb H7 KT):=Lib.hid (by rw [← Gs]; exact Rt.out.flag 6 (.inr (.inr (.inr rfl))) _)
  have Ic:Hid (Mm T H7 FQ KT):=Lib.hid (by rw [← Gs]; exact (Mm.of_below Nj.out).mJ (Hx.refl _ _) _ _)
  have SF:Hid (Mm T H w6 KT):=Lib.hid (Tz.out.trans nV.out Ic.out)
  have Si:Hid (KT.heap[g]? =LG.heap[g]?):=Lib.hid (by rw [← Gs]; exact aO _ _ _ rfl (by show T.bm≠g; have:=HG.out; have:=aM.out.m; have:=bP.out; have:=O9.out.m.size; omega))
  clear Gs d6 TJ
  have su:=Lib.hid (Si.out.trans HR.out)
  have x0:=(aV su.out (j:=0) (u:= .int .i64 3) rfl).2
  have x1:=(aV su.out (j:=1) (u:= .int .i64 0) rfl).2
  have x2:=(aV su.out (j:=2) (u:= .string ⟨#[]⟩) rfl).2
  have x3:=(aV su.out (j:=3) (u:= .string ⟨#[]⟩) rfl).2
  have x4:=(aV su.out (j:=4) (u:= .slice none 0 0) rfl).2
  have x5:=(aV su.out (j:=5) (u:= .int .i64 13) rfl).2
  have x6:=(aV su.out (j:=6) (u:= .int .i64 0) rfl).2
  have x7:=(aV su.out (j:=7) (u:= .string ⟨#[]⟩) rfl).2
  have x8:=(aV su.out (j:=8) (u:= .slice (some ⟨g6,0,none⟩) 2 2) rfl).2
  have x9:=(aV su.out (j:=9) (u:= .slice ab L.len cb) rfl).2
  have x10:=(aV su.out (j:=10) (u:= .slice none 0 0) rfl).2
  have xf:=fun j=>dH (o:=j) su.out
  have SQ:=Lib.hid J2.out.z
  obtain ⟨⟨y0,y1,y2,y3,y4,y5,y6,y7,y8,y9,iF⟩,fz⟩:=eF SQ.out
  have f0:=fz 0
  have f1:=fz 1
  have f2:=fz 2
  have f3:=fz 3
  have f4:=fz 4
  have f5:=fz 5
  have f6:=fz 6
  have f7:=fz 7
  have f8:=fz 8
  have f9:=fz 9
  have f10:=fz 10
  clear fz
  go_wp2_with fail
  have HF:=Lib.hid (fG (h:=((⟨aG 3 ⟨#[]⟩ .nil 13 0 ⟨#[]⟩ (.cons 2 0 ⟨#[98]⟩ .nil (.cons 1 2 ⟨#[]⟩ .nil .nil)),L,.nil,⟨none,0,some ⟨g6,0,none⟩,2,ab,cb,none,0⟩⟩:aD)).h) (b:=((⟨aG 3 ⟨#[]⟩ .nil 13 0 ⟨#[]⟩ (.cons 2 0 ⟨#[98]⟩ .nil (.cons 1 2 ⟨#[]⟩ .nil .nil)),L,.nil,⟨none,0,some ⟨g6,0,none⟩,2,ab,cb,none,0⟩⟩:aD)).b) (e:=((⟨aG 3 ⟨#[]⟩ .nil 13 0 ⟨#[]⟩ (.cons 2 0 ⟨#[98]⟩ .nil (.cons 1 2 ⟨#[]⟩ .nil .nil)),L,.nil,⟨none,0,some ⟨g6,0,none⟩,2,ab,cb,none,0⟩⟩:aD)).e) (s:=((⟨aG 3 ⟨#[]⟩ .nil 13 0 ⟨#[]⟩ (.cons 2 0 ⟨#[98]⟩ .nil (.cons 1 2 ⟨#[]⟩ .nil .nil)),L,.nil,⟨none,0,some ⟨g6,0,none⟩,2,ab,cb,none,0⟩⟩:aD)).s) iK.out aM.out bP.out J2.out.m J2.out.x J2.out.i (rD (by unfold aX; decide) jD (Rl 13 0 2 (by unfold aX; decide)) nil_le HL.out.1 (Nat.zero_le _)) (gH eZ (S6.out.stay HX.out S6.out.old SF.out nV.out) (O9.out.zT HL.out.2 S6.out.m.size Ic.out (Hx.refl _ _)) dx) J2.out.z rfl)
  show bodyPost _ _ _ _ _ (World.setCells _ w.heap.size 0 (aD.f (⟨aG 3 ⟨#[]⟩ .nil 13 0 ⟨#[]⟩ (.cons 2 0 ⟨#[98]⟩ .nil (.cons 1 2 ⟨#[]⟩ .nil .nil)),L,.nil,⟨none,0,some ⟨g6,0,none⟩,2,ab,cb,none,0⟩⟩:aD)))
  generalize fD:World.setCells _ _ _ _=W7 at *
  obtain ⟨⟨z0,z1,z2,z3,z4,z5,z6,z7,z8,z9,fF⟩,HP⟩:=dD HF.out
  clear HF fD
  exact bodyPost_ret (v:=aY ((⟨aG 3 ⟨#[]⟩ .nil 13 0 ⟨#[]⟩ (.cons 2 0 ⟨#[98]⟩ .nil (.cons 1 2 ⟨#[]⟩ .nil .nil)),L,.nil,⟨none,0,some ⟨g6,0,none⟩,2,ab,cb,none,0⟩⟩:aD)).h ((⟨aG 3 ⟨#[]⟩ .nil 13 0 ⟨#[]⟩ (.cons 2 0 ⟨#[98]⟩ .nil (.cons 1 2 ⟨#[]⟩ .nil .nil)),L,.nil,⟨none,0,some ⟨g6,0,none⟩,2,ab,cb,none,0⟩⟩:aD)).b ((⟨aG 3 ⟨#[]⟩ .nil 13 0 ⟨#[]⟩ (.cons 2 0 ⟨#[98]⟩ .nil (.cons 1 2 ⟨#[]⟩ .nil .nil)),L,.nil,⟨none,0,some ⟨g6,0,none⟩,2,ab,cb,none,0⟩⟩:aD)).e ((⟨aG 3 ⟨#[]⟩ .nil 13 0 ⟨#[]⟩ (.cons 2 0 ⟨#[98]⟩ .nil (.cons 1 2 ⟨#[]⟩ .nil .nil)),L,.nil,⟨none,0,some ⟨g6,0,none⟩,2,ab,cb,none,0⟩⟩:aD)).s) (by simp [results,Tryd.results18,go_sem,aY,z0,z1,z2,z3,z4,z5,z6,z7,z8,z9,fF]) rfl HP.out
end Go.Proofs.YtnknfoibmgphnaaDoor
end
