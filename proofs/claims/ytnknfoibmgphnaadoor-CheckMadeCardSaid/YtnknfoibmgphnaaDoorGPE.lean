/-
  Parts of the maker's stmt.
  Parts of the maker's stmt.
-/
import Derived.Test.YtnknfoibmgphnaaDoorGPC
section
set_option linter.unusedSimpArgs false
set_option linter.unusedVariables false
namespace Go.Proofs.YtnknfoibmgphnaaDoor
open Go.RowKit
open Md
set_option maxHeartbeats 4000000 in
set_option maxRecDepth 100000 in
theorem Qh:lJ (fun k=>k < 4):=by
 intro T d k hk hms w H hs hI jh hnx
 have hd:=hms.pI
 have nY:=Lib.hid hms
 have bS:=Lib.hid hnx
 have HI0:=Lib.hid hI
 have aM:Hid (Old T H w.heap.size):=Lib.hid hI.old
 have HE:Hid (∀d:Nat,d≤100→jJ T (d:Int)):=Lib.hid (jf T)
 obtain ⟨th,left,qa,qb,qc,qd,vH,iY,c0,c1,c2,c3,c4,c5,c6,c7,cf,hv,hrow⟩:=hI.reads
 have f2:=cf 2
 have ug:T.bm < w.heap.size:=hI.lt
 clear hI hrow c1 c3 c4 c5 c6 c7 iY hv cf c0 hms hnx
 go_enter Tryd.func18,Tryd.ntmps18
 go_upto_region 2 with fail
 generalize hW:World.alloc _ _=W
 have HI:Hid (cZ W T H hs):=Lib.hid (by rw [← hW]; exact (HI0.out.left (nG _)).below (ay _ _))
 have HM:Hid (Mm T H w W):=Lib.hid (by rw [← hW]; exact ((Mm.refl T H w).mJ (Hx.refl w H) _ _).then_ ((ay _ _).mono (by simp [World.setCell])) (ay _ _).size)
 have HZ:Hid (W.heap[w.heap.size]? =some (.cells jv 42 (0,0))):=Lib.hid (by
  rw [← hW]
  have e:(World.setCell w ⟨T.bm,2,none⟩ (.int .i64 (wrap64 (left - 1)))).heap.size=w.heap.size:=by simp [World.setCell]
  rw [← e]; exact heap_alloc_new _ _)
 have iR:Hid (W.heap[T.bt]? =w.heap[T.bt]?):=Lib.hid (by
  rw [← hW,heap_alloc_old _ _ (by simp [World.setCell]; exact aM.out.t)]
  exact aO w _ _ rfl T.tm.symm)
 clear hW c2 f2
 have c0:=HI.out.ptr
 go_wp2_with fail
 refine (bS.out W HI.out iR.out).mono ?_
 rintro e w2 ⟨rfl,hM2,hI2⟩
 have iK:=Lib.hid (HM.out.trans (Hx.refl _ _) (hM2.mm (H:=H)))
 have eX:=Lib.hid hI2
 have fT:Hid (w2.heap[w.heap.size]? =some (.cells jv 42 (0,0))):=Lib.hid (hM2.keep HZ.out (by have:=aM.out.t; omega))
 have bP:Hid (w.heap.size < w2.heap.size):=Lib.hid (Array.getElem?_eq_some_iff.1 fT.out).1
 clear hM2 hI2 c0 HI HM HZ iR bS
 go_upto_region 3 with fail
 go_cut [6] (fun s6 W'=>(∃q:Bool,s6= .bool q∧(q=true→0 < d))∧W'=w2)
 case first=>
  obtain ⟨oI,left',oM,oz,oq,oN,oV,fQ,c0',c1',c2',c3',mR,jB,jC,jq,cf',hv',hrow'⟩:=eX.out.reads
  clear c0' c1' c3' jB jC jq cf' hv' hrow' fQ
  by_cases h1:(0:Int) < (d:Int)
  ·by_cases h2:0 < left'
   ·go_wp2_with fail
    go_meet
    exact ⟨⟨_,rfl,fun _=>by omega⟩,rfl⟩
   ·go_wp2_with fail
    go_meet
    exact ⟨⟨_,rfl,fun _=>by omega⟩,rfl⟩
  ·go_wp2_with fail
   go_meet
   exact ⟨⟨false,rfl,fun h=>(by cases h)⟩,rfl⟩
 obtain ⟨⟨nest,rfl,kT⟩,rfl⟩:=hcut
 obtain ⟨wb,rfl⟩: ∃W:World,W=wc:=⟨_,rfl⟩
 have mg:Hid (Sg T H hs w.heap.size wb H wb):=Lib.hid ⟨Mm.refl _ _ _,Hx.refl _ _,eX.out,fT.out,aM.out,bP.out⟩
 have hk4:(k:Int) < 4:=by omega
 go_upto_region 5 with fail
 have hd1:TF T wb (wb.drewN 1)∧cZ (wb.drewN 1) T H hs:=⟨TF.of_below (below_drewN (Below.refl _ _) 1),eX.out.below (below_drewN (Below.refl _ _) 1)⟩
 refine cu (by kernel_rfl) rfl ?_
 refine bG 0 7 [] [[],[],[0,1],[0,1,2],[],[4],[0,1,2,3,4,5],[0,1,2,3,4,5,6]] [[],[],[],[],[],[],[]] (fun _ w'=>TF T wb w'∧cZ w' T H hs) (fun w w'=>TF T w w') [44,45,46,47,48,49,50] rfl rfl (by rfl) (by kernel_rfl) (by kernel_rfl) (by kernel_rfl) (by kernel_rfl) (by kernel_rfl) (by rfl) (fun _=>TF.refl _ _) (by rfl) hd1 ?_
 simp only [List.take_succ_cons,List.take_zero,List.drop_zero,List.drop_succ_cons,gP,List.map_cons,List.map_nil]
 refine aH.some (fun v w'=> ∃g,v= .slice (some ⟨g,0,none⟩) 4 4∧wb.heap.size≤g∧w'.heap[g]? =some (.cells KA 9 (0,0))) ?_ ?_ ?_
 ·rintro v w1 w' hle ⟨g,h1,h2,h3⟩
  exact ⟨g,h1,h2,TF.keep hle h3 (by have:=aM.out.t; have:=bP.out; omega)⟩
 ·intro c A w' hok hC hO hD
  simp [go_sem,gd,Oper.wp]
  exact ak.mk (d:=_) (v:= .slice (some ⟨_,0,none⟩) 4 4) (TF.of_below (ay _ _)) ⟨hC.1.trans (TF.of_below (ay _ _)),hC.2.below (ay _ _)⟩ ⟨_,rfl,hC.1.size,heap_alloc_new _ _⟩
 simp only [List.nil_append,List.cons_append]
 apply aH.step
 case aB=>
  intro c A w' hok hC hO hD
  have e5:=hO 5 (by rfl)
  simp [Act.eval] at e5
  simp [au,ah,aj,Act.eval,Region.binds] at hD
  simp [go_sem,gd,Oper.wp,hD,e5]
  exact ak.mk (TF.refl _ _) hC (ah.mk _ _)
 refine aH.some (fun v w'=> ∃g,v= .pointer (some ⟨g,k,none⟩)∧wb.heap.size≤g∧w'.heap[g]? =some (.cells KA 9 (0,0))) (fun v w1 w' hle ⟨g,h1,h2,h3⟩=>⟨g,h1,h2,TF.keep hle h3 (by have:=aM.out.t; have:=bP.out; omega)⟩) ?_ ?_
 ·intro c A w' hok hC hO hD
  simp [au,ah,aj,Act.eval,Region.binds] at hD
  obtain ⟨⟨g,hg,hg1,hg2⟩,h45⟩:=hD
  have hb0:(0:Int)≤(k:Int):=by omega
  simp [go_sem,gd,Oper.wp,hg,h45,hb0,hk4]
  exact ak.mk (TF.refl _ _) hC (⟨g,rfl,hg1,hg2⟩)
 simp only [List.nil_append,List.cons_append]
 refine aH.some (fun v w'=> ∃s:ByteArray,v= .string s∧s.size≤maxLen) (fun _ _ _ _ h=>h) ?_ ?_
 ·intro c A w' hok hC hO hD
  simp [au,ah,aj,Act.eval,Region.binds] at hD
  obtain ⟨g,hg,hg1,hg2⟩:=hD
  obtain ⟨s,hs,hsz⟩:=MX k (by omega)
  simp [go_sem,gd,Oper.wp,hg,(aV hg2 hs).2]
  exact ak.mk (TF.refl _ _) hC (⟨s,rfl,hsz⟩)
 apply aH.step
 case aB=>
  intro c A w' hok hC hO hD
  have e0:=hO 0 (by rfl)
  simp [Act.eval] at e0
  simp [au,ah,aj,Act.eval,Region.binds] at hD
  simp [go_sem,gd,Oper.wp,hD,e0]
  exact ak.mk (TF.refl _ _) hC (ah.mk _ _)
 refine aH.some (fun v w'=>XE wb.heap.size v w') (fun v w1 w' hle h=>h.next (TF.Cm hle (by have:=aM.out.t; have:=bP.out; omega))) ?_ ?_
 ·intro c A w' hok hC hO hD
  simp [au,ah,aj,Act.eval,Region.binds] at hD
  simp [go_sem,gd,Oper.wp,hD]
  refine (HE.out 1 (by decide) w' H hs hC.2).mono ?_
  rintro e w3 ⟨v,rfl,h1,h2,h3⟩
  exact ak.mk h2 ⟨hC.1.trans h2,h3⟩ (h1.mono hC.1.size)
 simp only [List.nil_append,List.cons_append]
 refine aH.some (fun v w'=>Rx wb.heap.size v w') ?_ ?_ ?_
 ·rintro v w1 w' hle ⟨s,xo,xn,xm,xk,xa,xc,h1,h2,h3,h4⟩
  exact ⟨s,xo,xn,xm,xk,xa,xc,h1,h2,h3,h4.next (TF.Cm hle (by have:=aM.out.t; have:=bP.out; omega))⟩
 ·intro c A w' hok hC hO hD
  simp [au,ah,aj,Act.eval,Region.binds] at hD
  obtain ⟨⟨s,hs,hsz⟩,xo,xn,xm,xk,xa,xc,hv,hok1,Eu⟩:=hD
  simp [go_sem,gd,Oper.wp,hs,hv]
  refine (dX s xo xn xm xk xa xc w').mono ?_
  rintro e w6 ⟨rfl,hb⟩
  exact ak.mk (TF.of_below hb) ⟨hC.1.trans (TF.of_below hb),hC.2.below hb⟩ ⟨s,xo,xn,xm,xk,xa,xc,rfl,hsz,hok1,Eu.next (bT hb)⟩
 try simp only [List.nil_append,List.cons_append]
 refine aH.done ?_
 intro wz bK
 try simp only [List.drop_zero,List.drop_succ_cons]
 intro v0 h0 v1 h1 v2 h2 v3 h3 v4 h4 v5 h5 v6 h6
 clear h0 h1 h2 h3 h4 h5
 obtain ⟨s,xo,xn,xm,xk,xa,xc,rfl,hsz,hok,hst⟩:=h6
 refine rV ?_
 go_simp
 have Dg:=Lib.hid (bK.1.keep fT.out (by have:=aM.out.t; omega))
 have HX:=Lib.hid (And.intro hsz (And.intro hok hst))
 have H6:=Lib.hid bK
 clear hsz hok hst bK hd1
 refine gY 7 [[],[],[0,1],[0,1,2],[],[4],[0,1,2,3,4,5],[0,1,2,3,4,5,6]] rfl rfl rfl rfl rfl (by kernel_rfl) (by kernel_rfl) (by kernel_rfl) ?_
 refine wp_store_mid _ _ _ (by rfl) w.heap.size 0 (aD.f (⟨aG 1 s .nil xo xn xm xk,.nil,.nil,aK xa xc⟩:aD)).toArray (by rfl) (by rfl) (Hf Dg.out (Nat.le_refl 11)) Cw (all_oneCell_toArray (qO _)) ?_
 refine dQ rfl ?_
 go_simp
 go_wp2_with fail
 have HF:=Lib.hid (fG (h:=((⟨aG 1 s .nil xo xn xm xk,.nil,.nil,aK xa xc⟩:aD)).h) (b:=((⟨aG 1 s .nil xo xn xm xk,.nil,.nil,aK xa xc⟩:aD)).b) (e:=((⟨aG 1 s .nil xo xn xm xk,.nil,.nil,aK xa xc⟩:aD)).e) (s:=((⟨aG 1 s .nil xo xn xm xk,.nil,.nil,aK xa xc⟩:aD)).s) iK.out aM.out bP.out (H6.out.1.mm (H:=H)) (Hx.refl _ _) H6.out.2 (mG (by unfold aX; decide) HX.out.1 HX.out.2.1) (gH eZ (.fV HX.out.2.2 (Nat.le_refl _) (fun k h1 _ e=>absurd (aM.out.h _ e) (by have:=bP.out; omega))) dx dx) Dg.out rfl)
 show bodyPost _ _ _ _ _ (World.setCells _ w.heap.size 0 (aD.f (⟨aG 1 s .nil xo xn xm xk,.nil,.nil,aK xa xc⟩:aD)))
 generalize fD:World.setCells _ _ _ _=W7 at *
 obtain ⟨⟨z0,z1,z2,z3,z4,z5,z6,z7,z8,z9,fF⟩,HP⟩:=dD HF.out
 clear HF fD
 exact bodyPost_ret (v:=aY ((⟨aG 1 s .nil xo xn xm xk,.nil,.nil,aK xa xc⟩:aD)).h ((⟨aG 1 s .nil xo xn xm xk,.nil,.nil,aK xa xc⟩:aD)).b ((⟨aG 1 s .nil xo xn xm xk,.nil,.nil,aK xa xc⟩:aD)).e ((⟨aG 1 s .nil xo xn xm xk,.nil,.nil,aK xa xc⟩:aD)).s) (by simp [results,Tryd.results18,go_sem,aY,z0,z1,z2,z3,z4,z5,z6,z7,z8,z9,fF]) rfl HP.out
set_option maxHeartbeats 4000000 in
set_option maxRecDepth 100000 in
theorem Qu:lJ (fun k=>k=4):=by
 intro T d k hk hms w H hs hI jh hnx
 have hd:=hms.pI
 have nY:=Lib.hid hms
 have bS:=Lib.hid hnx
 have HI0:=Lib.hid hI
 have aM:Hid (Old T H w.heap.size):=Lib.hid hI.old
 have HE:Hid (∀d:Nat,d≤100→jJ T (d:Int)):=Lib.hid (jf T)
 obtain ⟨th,left,qa,qb,qc,qd,vH,iY,c0,c1,c2,c3,c4,c5,c6,c7,cf,hv,hrow⟩:=hI.reads
 have f2:=cf 2
 have ug:T.bm < w.heap.size:=hI.lt
 clear hI hrow c1 c3 c4 c5 c6 c7 iY hv cf c0 hms hnx
 go_enter Tryd.func18,Tryd.ntmps18
 go_upto_region 2 with fail
 generalize hW:World.alloc _ _=W
 have HI:Hid (cZ W T H hs):=Lib.hid (by rw [← hW]; exact (HI0.out.left (nG _)).below (ay _ _))
 have HM:Hid (Mm T H w W):=Lib.hid (by rw [← hW]; exact ((Mm.refl T H w).mJ (Hx.refl w H) _ _).then_ ((ay _ _).mono (by simp [World.setCell])) (ay _ _).size)
 have HZ:Hid (W.heap[w.heap.size]? =some (.cells jv 42 (0,0))):=Lib.hid (by
  rw [← hW]
  have e:(World.setCell w ⟨T.bm,2,none⟩ (.int .i64 (wrap64 (left - 1)))).heap.size=w.heap.size:=by simp [World.setCell]
  rw [← e]; exact heap_alloc_new _ _)
 have iR:Hid (W.heap[T.bt]? =w.heap[T.bt]?):=Lib.hid (by
  rw [← hW,heap_alloc_old _ _ (by simp [World.setCell]; exact aM.out.t)]
  exact aO w _ _ rfl T.tm.symm)
 clear hW c2 f2
 have c0:=HI.out.ptr
 go_wp2_with fail
 refine (bS.out W HI.out iR.out).mono ?_
 rintro e w2 ⟨rfl,hM2,hI2⟩
 have iK:=Lib.hid (HM.out.trans (Hx.refl _ _) (hM2.mm (H:=H)))
 have eX:=Lib.hid hI2
 have fT:Hid (w2.heap[w.heap.size]? =some (.cells jv 42 (0,0))):=Lib.hid (hM2.keep HZ.out (by have:=aM.out.t; omega))
 have bP:Hid (w.heap.size < w2.heap.size):=Lib.hid (Array.getElem?_eq_some_iff.1 fT.out).1
 clear hM2 hI2 c0 HI HM HZ iR bS
 go_upto_region 3 with fail
 go_cut [6] (fun s6 W'=>(∃q:Bool,s6= .bool q∧(q=true→0 < d))∧W'=w2)
 case first=>
  obtain ⟨oI,left',oM,oz,oq,oN,oV,fQ,c0',c1',c2',c3',mR,jB,jC,jq,cf',hv',hrow'⟩:=eX.out.reads
  clear c0' c1' c3' jB jC jq cf' hv' hrow' fQ
  by_cases h1:(0:Int) < (d:Int)
  ·by_cases h2:0 < left'
   ·go_wp2_with fail
    go_meet
    exact ⟨⟨_,rfl,fun _=>by omega⟩,rfl⟩
   ·go_wp2_with fail
    go_meet
    exact ⟨⟨_,rfl,fun _=>by omega⟩,rfl⟩
  ·go_wp2_with fail
   go_meet
   exact ⟨⟨false,rfl,fun h=>(by cases h)⟩,rfl⟩
 obtain ⟨⟨nest,rfl,kT⟩,rfl⟩:=hcut
 obtain ⟨wb,rfl⟩: ∃W:World,W=wc:=⟨_,rfl⟩
 have mg:Hid (Sg T H hs w.heap.size wb H wb):=Lib.hid ⟨Mm.refl _ _ _,Hx.refl _ _,eX.out,fT.out,aM.out,bP.out⟩
 subst hk
 go_upto_region 7 with fail
 have hd1:TF T wb (wb.drewN 1)∧cZ (wb.drewN 1) T H hs:=⟨TF.of_below (below_drewN (Below.refl _ _) 1),eX.out.below (below_drewN (Below.refl _ _) 1)⟩
 have K0: ∀w',cZ w' T H hs→w'.cell? ⟨T.bm,0,none⟩=some (.pointer (some ⟨T.bt,0,none⟩)):=fun w' h=>h.ptr
 refine cu (by kernel_rfl) rfl ?_
 refine bG 0 11 [] [[],[],[1],[1,2],[1,2,3],[1,2,3,4],[0,1,2,3,4,5],[0,1,2,3,4,5,6],[],[1,2,3,4,5,8],[0,1,2,3,4,5,6,7,8,9],[0,1,2,3,4,5,6,7,8,9,10]] [[],[],[],[],[],[],[],[],[],[],[]] (fun _ w'=>TF T wb w'∧cZ w' T H hs) (fun w w'=>TF T w w') [54,55,56,57,58,59,60,61,62,63,64] rfl rfl (by rfl) (by kernel_rfl) (by kernel_rfl) (by kernel_rfl) (by kernel_rfl) (by kernel_rfl) (by rfl) (fun _=>TF.refl _ _) (by rfl) hd1 ?_
 simp only [List.take_succ_cons,List.take_zero,List.drop_zero,List.drop_succ_cons,gP,List.map_cons,List.map_nil]
 refine aH.some (fun v w'=> ∃g,v= .slice (some ⟨g,0,none⟩) 2 2∧wb.heap.size≤g∧w'.heap[g]? =some (.cells K3 9 (0,0))) ?_ ?_ ?_
 ·rintro v w1 w' hle ⟨g,h1,h2,h3⟩
  exact ⟨g,h1,h2,TF.keep hle h3 (by have:=aM.out.t; have:=bP.out; omega)⟩
 ·intro c A w' hok hC hO hD
  simp [go_sem,gd,Oper.wp]
  exact ak.mk (d:=_) (v:= .slice (some ⟨_,0,none⟩) 2 2) (TF.of_below (ay _ _)) ⟨hC.1.trans (TF.of_below (ay _ _)),hC.2.below (ay _ _)⟩ ⟨_,rfl,hC.1.size,heap_alloc_new _ _⟩
 simp only [List.nil_append,List.cons_append]
 apply aH.step
 case aB=>
  intro c A w' hok hC hO hD
  have e0:=hO 0 (by rfl)
  simp [Act.eval] at e0
  simp [au,ah,aj,Act.eval,Region.binds] at hD
  simp [go_sem,gd,Oper.wp,hD,e0]
  exact ak.mk (TF.refl _ _) hC (ah.mk _ _)
 apply aH.step
 case aB=>
  intro c A w' hok hC hO hD
  simp [au,ah,aj,Act.eval,Region.binds] at hD
  simp [go_sem,gd,Oper.wp,hD]
  exact ak.mk (TF.refl _ _) hC (ah.mk _ _)
 apply aH.step
 case aB=>
  intro c A w' hok hC hO hD
  simp [au,ah,aj,Act.eval,Region.binds] at hD
  simp [go_sem,gd,Oper.wp,hD]
  exact ak.mk (TF.refl _ _) hC (ah.mk _ _)
 simp only [List.nil_append,List.cons_append]
 apply aH.step
 case aB=>
  intro c A w' hok hC hO hD
  simp [au,ah,aj,Act.eval,Region.binds] at hD
  simp [go_sem,gd,Oper.wp,hD,K0,hC.2]
  exact ak.mk (TF.refl _ _) hC (ah.mk _ _)
 refine aH.some (fun v _=> ∃r:Nat,v= .int .i64 (r:Int)∧r < 2) (fun _ _ _ _ h=>h) ?_ ?_
 ·intro c A w' hok hC hO hD
  simp [au,ah,aj,Act.eval,Region.binds] at hD
  simp [go_sem,gd,Oper.wp,hD]
  refine (jk T H hs 2 w' (by unfold aX; decide) hC.2).mono ?_
  rintro e w2 ⟨r,rfl,h1,-,hM,hI⟩
  exact ak.mk hM ⟨hC.1.trans hM,hI⟩ ⟨r,rfl,by have:=h1 (by decide); omega⟩
 simp only [List.nil_append,List.cons_append]
 refine aH.some (fun v w'=> ∃(g r:Nat),v= .pointer (some ⟨g,r,none⟩)∧r < 2∧wb.heap.size≤g∧w'.heap[g]? =some (.cells K3 9 (0,0))) (fun v w1 w' hle ⟨g,r,h1,h1',h2,h3⟩=>⟨g,r,h1,h1',h2,TF.keep hle h3 (by have:=aM.out.t; have:=bP.out; omega)⟩) ?_ ?_
 ·intro c A w' hok hC hO hD
  simp [au,ah,aj,Act.eval,Region.binds] at hD
  obtain ⟨⟨g,hg,hg1,hg2⟩,r,hr,h1⟩:=hD
  have hb0:(0:Int)≤(r:Int):=by omega
  have hb1:(r:Int) < 2:=by omega
  simp [go_sem,gd,Oper.wp,hg,hr,hb0,hb1]
  exact ak.mk (TF.refl _ _) hC (⟨g,r,rfl,h1,hg1,hg2⟩)
 simp only [List.nil_append,List.cons_append]
 refine aH.some (fun v w'=> ∃s:ByteArray,v= .string s∧s.size≤maxLen) (fun _ _ _ _ h=>h) ?_ ?_
 ·intro c A w' hok hC hO hD
  simp [au,ah,aj,Act.eval,Region.binds] at hD
  obtain ⟨g,r,hg,h1,hg1,hg2⟩:=hD
  obtain ⟨s,hs,hsz⟩:=MF r h1
  simp [go_sem,gd,Oper.wp,hg,(aV hg2 hs).2]
  exact ak.mk (TF.refl _ _) hC (⟨s,rfl,hsz⟩)
 apply aH.step
 case aB=>
  intro c A w' hok hC hO hD
  have e0:=hO 0 (by rfl)
  simp [Act.eval] at e0
  simp [au,ah,aj,Act.eval,Region.binds] at hD
  simp [go_sem,gd,Oper.wp,hD,e0]
  exact ak.mk (TF.refl _ _) hC (ah.mk _ _)
 refine aH.some (fun v w'=>XE wb.heap.size v w') (fun v w1 w' hle h=>h.next (TF.Cm hle (by have:=aM.out.t; have:=bP.out; omega))) ?_ ?_
 ·intro c A w' hok hC hO hD
  simp [au,ah,aj,Act.eval,Region.binds] at hD
  simp [go_sem,gd,Oper.wp,hD]
  refine (HE.out 1 (by decide) w' H hs hC.2).mono ?_
  rintro e w3 ⟨v,rfl,h1,h2,h3⟩
  exact ak.mk h2 ⟨hC.1.trans h2,h3⟩ (h1.mono hC.1.size)
 simp only [List.nil_append,List.cons_append]
 refine aH.some (fun v w'=>Rx wb.heap.size v w') ?_ ?_ ?_
 ·rintro v w1 w' hle ⟨s,xo,xn,xm,xk,xa,xc,h1,h2,h3,h4⟩
  exact ⟨s,xo,xn,xm,xk,xa,xc,h1,h2,h3,h4.next (TF.Cm hle (by have:=aM.out.t; have:=bP.out; omega))⟩
 ·intro c A w' hok hC hO hD
  simp [au,ah,aj,Act.eval,Region.binds] at hD
  obtain ⟨⟨s,hs,hsz⟩,xo,xn,xm,xk,xa,xc,hv,hok1,Eu⟩:=hD
  simp [go_sem,gd,Oper.wp,hs,hv]
  refine (dX s xo xn xm xk xa xc w').mono ?_
  rintro e w6 ⟨rfl,hb⟩
  exact ak.mk (TF.of_below hb) ⟨hC.1.trans (TF.of_below hb),hC.2.below hb⟩ ⟨s,xo,xn,xm,xk,xa,xc,rfl,hsz,hok1,Eu.next (bT hb)⟩
 try simp only [List.nil_append,List.cons_append]
 refine aH.done ?_
 intro wz bK
 try simp only [List.drop_zero,List.drop_succ_cons]
 intro v0 h0 v1 h1 v2 h2 v3 h3 v4 h4 v5 h5 v6 h6 v7 h7 v8 h8 v9 h9 v10 h10
 clear h0 h1 h2 h3 h4 h5 h6 h7 h8 h9
 obtain ⟨s,xo,xn,xm,xk,xa,xc,rfl,hsz,hok,hst⟩:=h10
 refine rV ?_
 go_simp
 have Dg:=Lib.hid (bK.1.keep fT.out (by have:=aM.out.t; omega))
 have HX:=Lib.hid (And.intro hsz (And.intro hok hst))
 have H6:=Lib.hid bK
 clear hsz hok hst bK hd1
 refine gY 11 [[],[],[1],[1,2],[1,2,3],[1,2,3,4],[0,1,2,3,4,5],[0,1,2,3,4,5,6],[],[1,2,3,4,5,8],[0,1,2,3,4,5,6,7,8,9],[0,1,2,3,4,5,6,7,8,9,10]] rfl rfl rfl rfl rfl (by kernel_rfl) (by kernel_rfl) (by kernel_rfl) ?_
 refine wp_store_mid _ _ _ (by rfl) w.heap.size 0 (aD.f (⟨aG 1 s .nil xo xn xm xk,.nil,.nil,aK xa xc⟩:aD)).toArray (by rfl) (by rfl) (Hf Dg.out (Nat.le_refl 11)) Cw (all_oneCell_toArray (qO _)) ?_
 refine dQ rfl ?_
 go_simp
 go_wp2_with fail
 have HF:=Lib.hid (fG (h:=((⟨aG 1 s .nil xo xn xm xk,.nil,.nil,aK xa xc⟩:aD)).h) (b:=((⟨aG 1 s .nil xo xn xm xk,.nil,.nil,aK xa xc⟩:aD)).b) (e:=((⟨aG 1 s .nil xo xn xm xk,.nil,.nil,aK xa xc⟩:aD)).e) (s:=((⟨aG 1 s .nil xo xn xm xk,.nil,.nil,aK xa xc⟩:aD)).s) iK.out aM.out bP.out (H6.out.1.mm (H:=H)) (Hx.refl _ _) H6.out.2 (mG (by unfold aX; decide) HX.out.1 HX.out.2.1) (gH eZ (.fV HX.out.2.2 (Nat.le_refl _) (fun k h1 _ e=>absurd (aM.out.h _ e) (by have:=bP.out; omega))) dx dx) Dg.out rfl)
 show bodyPost _ _ _ _ _ (World.setCells _ w.heap.size 0 (aD.f (⟨aG 1 s .nil xo xn xm xk,.nil,.nil,aK xa xc⟩:aD)))
 generalize fD:World.setCells _ _ _ _=W7 at *
 obtain ⟨⟨z0,z1,z2,z3,z4,z5,z6,z7,z8,z9,fF⟩,HP⟩:=dD HF.out
 clear HF fD
 exact bodyPost_ret (v:=aY ((⟨aG 1 s .nil xo xn xm xk,.nil,.nil,aK xa xc⟩:aD)).h ((⟨aG 1 s .nil xo xn xm xk,.nil,.nil,aK xa xc⟩:aD)).b ((⟨aG 1 s .nil xo xn xm xk,.nil,.nil,aK xa xc⟩:aD)).e ((⟨aG 1 s .nil xo xn xm xk,.nil,.nil,aK xa xc⟩:aD)).s) (by simp [results,Tryd.results18,go_sem,aY,z0,z1,z2,z3,z4,z5,z6,z7,z8,z9,fF]) rfl HP.out
end Go.Proofs.YtnknfoibmgphnaaDoor
end
section
set_option linter.unusedSimpArgs false
set_option linter.unusedVariables false
namespace Go.Proofs.YtnknfoibmgphnaaDoor
open Go.RowKit
open Md
set_option maxHeartbeats 4000000 in
set_option maxRecDepth 100000 in
theorem Q8:lJ (fun k=>k=5):=by
 intro T d k hk hms w H hs hI jh hnx
 have hd:=hms.pI
 have nY:=Lib.hid hms
 have bS:=Lib.hid hnx
 have HI0:=Lib.hid hI
 have aM:Hid (Old T H w.heap.size):=Lib.hid hI.old
 have HE:Hid (∀d:Nat,d≤100→jJ T (d:Int)):=Lib.hid (jf T)
 obtain ⟨th,left,qa,qb,qc,qd,vH,iY,c0,c1,c2,c3,c4,c5,c6,c7,cf,hv,hrow⟩:=hI.reads
 have f2:=cf 2
 have ug:T.bm < w.heap.size:=hI.lt
 clear hI hrow c1 c3 c4 c5 c6 c7 iY hv cf c0 hms hnx
 go_enter Tryd.func18,Tryd.ntmps18
 go_upto_region 2 with fail
 generalize hW:World.alloc _ _=W
 have HI:Hid (cZ W T H hs):=Lib.hid (by rw [← hW]; exact (HI0.out.left (nG _)).below (ay _ _))
 have HM:Hid (Mm T H w W):=Lib.hid (by rw [← hW]; exact ((Mm.refl T H w).mJ (Hx.refl w H) _ _).then_ ((ay _ _).mono (by simp [World.setCell])) (ay _ _).size)
 have HZ:Hid (W.heap[w.heap.size]? =some (.cells jv 42 (0,0))):=Lib.hid (by
  rw [← hW]
  have e:(World.setCell w ⟨T.bm,2,none⟩ (.int .i64 (wrap64 (left - 1)))).heap.size=w.heap.size:=by simp [World.setCell]
  rw [← e]; exact heap_alloc_new _ _)
 have iR:Hid (W.heap[T.bt]? =w.heap[T.bt]?):=Lib.hid (by
  rw [← hW,heap_alloc_old _ _ (by simp [World.setCell]; exact aM.out.t)]
  exact aO w _ _ rfl T.tm.symm)
 clear hW c2 f2
 have c0:=HI.out.ptr
 go_wp2_with fail
 refine (bS.out W HI.out iR.out).mono ?_
 rintro e w2 ⟨rfl,hM2,hI2⟩
 have iK:=Lib.hid (HM.out.trans (Hx.refl _ _) (hM2.mm (H:=H)))
 have eX:=Lib.hid hI2
 have fT:Hid (w2.heap[w.heap.size]? =some (.cells jv 42 (0,0))):=Lib.hid (hM2.keep HZ.out (by have:=aM.out.t; omega))
 have bP:Hid (w.heap.size < w2.heap.size):=Lib.hid (Array.getElem?_eq_some_iff.1 fT.out).1
 clear hM2 hI2 c0 HI HM HZ iR bS
 go_upto_region 3 with fail
 go_cut [6] (fun s6 W'=>(∃q:Bool,s6= .bool q∧(q=true→0 < d))∧W'=w2)
 case first=>
  obtain ⟨oI,left',oM,oz,oq,oN,oV,fQ,c0',c1',c2',c3',mR,jB,jC,jq,cf',hv',hrow'⟩:=eX.out.reads
  clear c0' c1' c3' jB jC jq cf' hv' hrow' fQ
  by_cases h1:(0:Int) < (d:Int)
  ·by_cases h2:0 < left'
   ·go_wp2_with fail
    go_meet
    exact ⟨⟨_,rfl,fun _=>by omega⟩,rfl⟩
   ·go_wp2_with fail
    go_meet
    exact ⟨⟨_,rfl,fun _=>by omega⟩,rfl⟩
  ·go_wp2_with fail
   go_meet
   exact ⟨⟨false,rfl,fun h=>(by cases h)⟩,rfl⟩
 obtain ⟨⟨nest,rfl,kT⟩,rfl⟩:=hcut
 obtain ⟨wb,rfl⟩: ∃W:World,W=wc:=⟨_,rfl⟩
 have mg:Hid (Sg T H hs w.heap.size wb H wb):=Lib.hid ⟨Mm.refl _ _ _,Hx.refl _ _,eX.out,fT.out,aM.out,bP.out⟩
 subst hk
 go_wp2_with fail
 refine (HE.out 0 (by decide) wb H hs eX.out).mono ?_
 rintro e w3 ⟨v,rfl,⟨io,jn,im,ik,ia,ic,rfl,hok,hst⟩,hM,hI⟩
 have HX:=Lib.hid (And.intro hok hst)
 have HT3:=Lib.hid hM
 have HI3:=Lib.hid hI
 have HZ3:=Lib.hid (hM.keep fT.out (by have:=aM.out.t; omega))
 clear hok hst hM hI
 unfold exV
 go_wp2_with fail
 generalize Ec:World.alloc w3 _=w4
 have gV:Hid (Below w3.heap.size w3 w4):=Lib.hid (by rw [← Ec]; exact ay _ _)
 have HR4:Hid (w4.heap[w3.heap.size]? =some (.cells (EY io jn im ik ia ic).toArray 40 (0,0))):=Lib.hid (by rw [← Ec]; exact heap_alloc_new _ _)
 have HI4:=Lib.hid (HI3.out.below gV.out)
 have vN:=Lib.hid (HT3.out.trans (TF.of_below gV.out))
 have yV:=Lib.hid ((gV.out.block _ (Array.getElem?_eq_some_iff.1 HZ3.out).1).trans HZ3.out)
 clear Ec HI3
 refine (HE.out 1 (by decide) w4 H hs HI4.out).mono ?_
 rintro e w5 ⟨v,rfl,⟨xo,xn,xm,xk,xa,xc,rfl,hok,hst⟩,hM,hI⟩
 have HY:=Lib.hid (And.intro hok hst)
 have LY:=Lib.hid (vN.out.trans hM)
 have RS:=Lib.hid hM
 have gK:=Lib.hid hI
 have eO:=Lib.hid (hM.keep yV.out (by have:=aM.out.t; omega))
 clear hok hst hM hI
 obtain ⟨g3,hg3⟩: ∃g,w3.heap.size=g:=⟨_,rfl⟩
 have Rs:=Lib.hid hg3
 rw [hg3]
 clear hg3
 obtain ⟨⟨y0,y1,y2,y3,y4,y5,y6,y7,y8,y9,iF⟩,fz⟩:=eF eO.out
 have f0:=fz 0
 have f1:=fz 1
 have f2:=fz 2
 have f3:=fz 3
 have f4:=fz 4
 have f5:=fz 5
 have f6:=fz 6
 have f7:=fz 7
 have f8:=fz 8
 have f9:=fz 9
 have f10:=fz 10
 clear fz
 unfold exV
 go_wp2_with fail
 have Uz:Hid (iX wb.heap.size w5 (fun w2=>(bJ.cons io jn im ik .nil).At w2 w2.heap.size (some ⟨g3,0,none⟩) 0)):=Lib.hid ((CF (by rw [← Rs.out]; exact HR4.out) (by rw [← Rs.out]; exact HT3.out.size) HX.out.1 ((HX.out.2.next (bT gV.out)))).next (RS.out.Cm (by have:=aM.out.t; have:=bP.out; omega)))
 have HF:=Lib.hid (fG (h:=((⟨aG 1 ⟨#[113]⟩ (.cons io jn im ik .nil) xo xn xm xk,.nil,.nil,⟨some ⟨g3,0,none⟩,1,xa,xc,none,0,none,0⟩⟩:aD)).h) (b:=((⟨aG 1 ⟨#[113]⟩ (.cons io jn im ik .nil) xo xn xm xk,.nil,.nil,⟨some ⟨g3,0,none⟩,1,xa,xc,none,0,none,0⟩⟩:aD)).b) (e:=((⟨aG 1 ⟨#[113]⟩ (.cons io jn im ik .nil) xo xn xm xk,.nil,.nil,⟨some ⟨g3,0,none⟩,1,xa,xc,none,0,none,0⟩⟩:aD)).e) (s:=((⟨aG 1 ⟨#[113]⟩ (.cons io jn im ik .nil) xo xn xm xk,.nil,.nil,⟨some ⟨g3,0,none⟩,1,xa,xc,none,0,none,0⟩⟩:aD)).s) iK.out aM.out bP.out (LY.out.mm (H:=H)) (Hx.refl _ _) gK.out (rD (by unfold aX; decide) (by unfold maxLen; decide) HY.out.1 (by simp [bJ.len,maxLen]) (Nat.zero_le _) (Nat.zero_le _)) (gH (.fV Uz.out (Nat.le_refl _) (fun k h1 _ e=>absurd (aM.out.h _ e) (by have:=bP.out; omega))) (.fV (HY.out.2.mono vN.out.size) (Nat.le_refl _) (fun k h1 _ e=>absurd (aM.out.h _ e) (by have:=bP.out; omega))) dx dx) eO.out rfl)
 show bodyPost _ _ _ _ _ (World.setCells _ w.heap.size 0 (aD.f (⟨aG 1 ⟨#[113]⟩ (.cons io jn im ik .nil) xo xn xm xk,.nil,.nil,⟨some ⟨g3,0,none⟩,1,xa,xc,none,0,none,0⟩⟩:aD)))
 generalize fD:World.setCells _ _ _ _=W7 at *
 obtain ⟨⟨z0,z1,z2,z3,z4,z5,z6,z7,z8,z9,fF⟩,HP⟩:=dD HF.out
 clear HF fD
 exact bodyPost_ret (v:=aY ((⟨aG 1 ⟨#[113]⟩ (.cons io jn im ik .nil) xo xn xm xk,.nil,.nil,⟨some ⟨g3,0,none⟩,1,xa,xc,none,0,none,0⟩⟩:aD)).h ((⟨aG 1 ⟨#[113]⟩ (.cons io jn im ik .nil) xo xn xm xk,.nil,.nil,⟨some ⟨g3,0,none⟩,1,xa,xc,none,0,none,0⟩⟩:aD)).b ((⟨aG 1 ⟨#[113]⟩ (.cons io jn im ik .nil) xo xn xm xk,.nil,.nil,⟨some ⟨g3,0,none⟩,1,xa,xc,none,0,none,0⟩⟩:aD)).e ((⟨aG 1 ⟨#[113]⟩ (.cons io jn im ik .nil) xo xn xm xk,.nil,.nil,⟨some ⟨g3,0,none⟩,1,xa,xc,none,0,none,0⟩⟩:aD)).s) (by simp [results,Tryd.results18,go_sem,aY,z0,z1,z2,z3,z4,z5,z6,z7,z8,z9,fF]) rfl HP.out
set_option maxHeartbeats 4000000 in
set_option maxRecDepth 100000 in
theorem Ns:lJ (fun k=>k=16):=by
 intro T d k hk hms w H hs hI jh hnx
 have hd:=hms.pI
 have nY:=Lib.hid hms
 have bS:=Lib.hid hnx
 have HI0:=Lib.hid hI
 have aM:Hid (Old T H w.heap.size):=Lib.hid hI.old
 have HE:Hid (∀d:Nat,d≤100→jJ T (d:Int)):=Lib.hid (jf T)
 obtain ⟨th,left,qa,qb,qc,qd,vH,iY,c0,c1,c2,c3,c4,c5,c6,c7,cf,hv,hrow⟩:=hI.reads
 have f2:=cf 2
 have ug:T.bm < w.heap.size:=hI.lt
 clear hI hrow c1 c3 c4 c5 c6 c7 iY hv cf c0 hms hnx
 go_enter Tryd.func18,Tryd.ntmps18
 go_upto_region 2 with fail
 generalize hW:World.alloc _ _=W
 have HI:Hid (cZ W T H hs):=Lib.hid (by rw [← hW]; exact (HI0.out.left (nG _)).below (ay _ _))
 have HM:Hid (Mm T H w W):=Lib.hid (by rw [← hW]; exact ((Mm.refl T H w).mJ (Hx.refl w H) _ _).then_ ((ay _ _).mono (by simp [World.setCell])) (ay _ _).size)
 have HZ:Hid (W.heap[w.heap.size]? =some (.cells jv 42 (0,0))):=Lib.hid (by
  rw [← hW]
  have e:(World.setCell w ⟨T.bm,2,none⟩ (.int .i64 (wrap64 (left - 1)))).heap.size=w.heap.size:=by simp [World.setCell]
  rw [← e]; exact heap_alloc_new _ _)
 have iR:Hid (W.heap[T.bt]? =w.heap[T.bt]?):=Lib.hid (by
  rw [← hW,heap_alloc_old _ _ (by simp [World.setCell]; exact aM.out.t)]
  exact aO w _ _ rfl T.tm.symm)
 clear hW c2 f2
 have c0:=HI.out.ptr
 go_wp2_with fail
 refine (bS.out W HI.out iR.out).mono ?_
 rintro e w2 ⟨rfl,hM2,hI2⟩
 have iK:=Lib.hid (HM.out.trans (Hx.refl _ _) (hM2.mm (H:=H)))
 have eX:=Lib.hid hI2
 have fT:Hid (w2.heap[w.heap.size]? =some (.cells jv 42 (0,0))):=Lib.hid (hM2.keep HZ.out (by have:=aM.out.t; omega))
 have bP:Hid (w.heap.size < w2.heap.size):=Lib.hid (Array.getElem?_eq_some_iff.1 fT.out).1
 clear hM2 hI2 c0 HI HM HZ iR bS
 go_upto_region 3 with fail
 go_cut [6] (fun s6 W'=>(∃q:Bool,s6= .bool q∧(q=true→0 < d))∧W'=w2)
 case first=>
  obtain ⟨oI,left',oM,oz,oq,oN,oV,fQ,c0',c1',c2',c3',mR,jB,jC,jq,cf',hv',hrow'⟩:=eX.out.reads
  clear c0' c1' c3' jB jC jq cf' hv' hrow' fQ
  by_cases h1:(0:Int) < (d:Int)
  ·by_cases h2:0 < left'
   ·go_wp2_with fail
    go_meet
    exact ⟨⟨_,rfl,fun _=>by omega⟩,rfl⟩
   ·go_wp2_with fail
    go_meet
    exact ⟨⟨_,rfl,fun _=>by omega⟩,rfl⟩
  ·go_wp2_with fail
   go_meet
   exact ⟨⟨false,rfl,fun h=>(by cases h)⟩,rfl⟩
 obtain ⟨⟨nest,rfl,kT⟩,rfl⟩:=hcut
 obtain ⟨wb,rfl⟩: ∃W:World,W=wc:=⟨_,rfl⟩
 have mg:Hid (Sg T H hs w.heap.size wb H wb):=Lib.hid ⟨Mm.refl _ _ _,Hx.refl _ _,eX.out,fT.out,aM.out,bP.out⟩
 subst hk
 obtain ⟨oI,left',oM,oz,oq,oN,oV,fQ,c0',c1',c2',c3',mR,jB,jC,jq,cf',hv',hrow'⟩:=eX.out.reads
 clear c0' c1' c2' jB jq hv' hrow' fQ
 have f3:=cf' 3
 clear cf'
 cases oz
 ·cases oN
  ·cases oM
   ·go_upto_region 42 with fail
    generalize hW3:World.setCell _ _ _=w3
    have HI3:Hid (cZ w3 T H hs):=Lib.hid (by rw [← hW3]; exact eX.out.flag 3 (.inl rfl) true)
    have pK:Hid (Mm T H wb w3):=Lib.hid (by rw [← hW3]; exact (Mm.refl T H wb).mJ (Hx.refl _ H) _ _)
    have HZ3:=Lib.hid (pK.out.keep fT.out (by have:=aM.out.t; omega) (by have:=aM.out.m; omega) (fun e=>by have:=aM.out.h _ e; omega))
    clear hW3 c3' mR jC f3
    go_wp2_with fail
    refine (HE.out 1 (by decide) w3 H hs HI3.out).mono ?_
    rintro e w5 ⟨v,rfl,⟨xo,xn,xm,xk,xa,xc,rfl,hok,hst⟩,hM,hI⟩
    have HX:=Lib.hid (And.intro hok hst)
    have eu:=Lib.hid (pK.out.trans (Hx.refl _ _) (hM.mm (H:=H)))
    have gK:=Lib.hid hI
    have eO:=Lib.hid (hM.keep HZ3.out (by have:=aM.out.t; omega))
    clear hok hst hM hI
    obtain ⟨⟨y0,y1,y2,y3,y4,y5,y6,y7,y8,y9,iF⟩,fz⟩:=eF eO.out
    have f0:=fz 0
    have f1:=fz 1
    have f2:=fz 2
    have f3:=fz 3
    have f4:=fz 4
    have f5:=fz 5
    have f6:=fz 6
    have f7:=fz 7
    have f8:=fz 8
    have f9:=fz 9
    have f10:=fz 10
    clear fz
    unfold exV
    go_wp2_with fail
    have HF:=Lib.hid (fG (h:=((⟨aG 14 ⟨#[102]⟩ .nil xo xn xm xk,.nil,.nil,aK xa xc⟩:aD)).h) (b:=((⟨aG 14 ⟨#[102]⟩ .nil xo xn xm xk,.nil,.nil,aK xa xc⟩:aD)).b) (e:=((⟨aG 14 ⟨#[102]⟩ .nil xo xn xm xk,.nil,.nil,aK xa xc⟩:aD)).e) (s:=((⟨aG 14 ⟨#[102]⟩ .nil xo xn xm xk,.nil,.nil,aK xa xc⟩:aD)).s) iK.out aM.out bP.out eu.out (Hx.refl _ _) gK.out (mG (by unfold aX; decide) (by unfold maxLen; decide) HX.out.1) (gH eZ (.fV (HX.out.2.mono pK.out.size) (Nat.le_refl _) (fun k h1 _ e=>absurd (aM.out.h _ e) (by have:=bP.out; omega))) dx dx) eO.out rfl)
    show bodyPost _ _ _ _ _ (World.setCells _ w.heap.size 0 (aD.f (⟨aG 14 ⟨#[102]⟩ .nil xo xn xm xk,.nil,.nil,aK xa xc⟩:aD)))
    generalize fD:World.setCells _ _ _ _=W7 at *
    obtain ⟨⟨z0,z1,z2,z3,z4,z5,z6,z7,z8,z9,fF⟩,HP⟩:=dD HF.out
    clear HF fD
    exact bodyPost_ret (v:=aY ((⟨aG 14 ⟨#[102]⟩ .nil xo xn xm xk,.nil,.nil,aK xa xc⟩:aD)).h ((⟨aG 14 ⟨#[102]⟩ .nil xo xn xm xk,.nil,.nil,aK xa xc⟩:aD)).b ((⟨aG 14 ⟨#[102]⟩ .nil xo xn xm xk,.nil,.nil,aK xa xc⟩:aD)).e ((⟨aG 14 ⟨#[102]⟩ .nil xo xn xm xk,.nil,.nil,aK xa xc⟩:aD)).s) (by simp [results,Tryd.results18,go_sem,aY,z0,z1,z2,z3,z4,z5,z6,z7,z8,z9,fF]) rfl HP.out
   ·have jl:=eX
    have eB:=Lib.hid (show Mm T H wb _ from Mm.refl _ _ _)
    have jr:=Lib.hid (eB.out.keep fT.out (by have:=aM.out.t; omega) (by have:=aM.out.m; omega) (fun e=>by have:=aM.out.h _ e; omega))
    go_wp2_with fail
    refine (HE.out 1 (by decide) _ H hs jl.out).mono ?_
    rintro e w5 ⟨v,rfl,⟨xo,xn,xm,xk,xa,xc,rfl,hok,hst⟩,hM,hI⟩
    have HX:=Lib.hid (And.intro hok (hst.mono eB.out.size))
    have eu:=Lib.hid (eB.out.trans (Hx.refl _ _) (hM.mm (H:=H)))
    have gK:=Lib.hid hI
    have eO:=Lib.hid (hM.keep jr.out (by have:=aM.out.t; omega))
    clear hok hst hM hI
    go_wp2_with fail
    refine (dX ⟨#[120]⟩ xo xn xm xk xa xc w5).mono ?_
    rintro e w6 ⟨rfl,hb⟩
    have bY:=Lib.hid hb
    have gu:=Lib.hid ((hb.block _ (Array.getElem?_eq_some_iff.1 eO.out).1).trans eO.out)
    obtain ⟨⟨y0,y1,y2,y3,y4,y5,y6,y7,y8,y9,iF⟩,fz⟩:=eF gu.out
    have f0:=fz 0
    have f1:=fz 1
    have f2:=fz 2
    have f3:=fz 3
    have f4:=fz 4
    have f5:=fz 5
    have f6:=fz 6
    have f7:=fz 7
    have f8:=fz 8
    have f9:=fz 9
    have f10:=fz 10
    clear fz
    clear hb
    unfold aY aG aK
    go_wp2_with fail
    have HF:=Lib.hid (fG (h:=((⟨aG 1 ⟨#[120]⟩ .nil xo xn xm xk,.nil,.nil,aK xa xc⟩:aD)).h) (b:=((⟨aG 1 ⟨#[120]⟩ .nil xo xn xm xk,.nil,.nil,aK xa xc⟩:aD)).b) (e:=((⟨aG 1 ⟨#[120]⟩ .nil xo xn xm xk,.nil,.nil,aK xa xc⟩:aD)).e) (s:=((⟨aG 1 ⟨#[120]⟩ .nil xo xn xm xk,.nil,.nil,aK xa xc⟩:aD)).s) iK.out aM.out bP.out (eu.out.then_ (bY.out.mono eu.out.size) bY.out.size) (Hx.refl _ _) (gK.out.below bY.out) (mG (by unfold aX; decide) (by unfold maxLen; decide) HX.out.1) (gH eZ (.fV (HX.out.2.next (bT bY.out)) (Nat.le_refl _) (fun k h1 _ e=>absurd (aM.out.h _ e) (by have:=bP.out; omega))) dx dx) gu.out rfl)
    show bodyPost _ _ _ _ _ (World.setCells _ w.heap.size 0 (aD.f (⟨aG 1 ⟨#[120]⟩ .nil xo xn xm xk,.nil,.nil,aK xa xc⟩:aD)))
    generalize fD:World.setCells _ _ _ _=W7 at *
    obtain ⟨⟨z0,z1,z2,z3,z4,z5,z6,z7,z8,z9,fF⟩,HP⟩:=dD HF.out
    clear HF fD
    exact bodyPost_ret (v:=aY ((⟨aG 1 ⟨#[120]⟩ .nil xo xn xm xk,.nil,.nil,aK xa xc⟩:aD)).h ((⟨aG 1 ⟨#[120]⟩ .nil xo xn xm xk,.nil,.nil,aK xa xc⟩:aD)).b ((⟨aG 1 ⟨#[120]⟩ .nil xo xn xm xk,.nil,.nil,aK xa xc⟩:aD)).e ((⟨aG 1 ⟨#[120]⟩ .nil xo xn xm xk,.nil,.nil,aK xa xc⟩:aD)).s) (by simp [results,Tryd.results18,go_sem,aY,z0,z1,z2,z3,z4,z5,z6,z7,z8,z9,fF]) rfl HP.out
  ·have jl:=eX
   have eB:=Lib.hid (show Mm T H wb _ from Mm.refl _ _ _)
   have jr:=Lib.hid (eB.out.keep fT.out (by have:=aM.out.t; omega) (by have:=aM.out.m; omega) (fun e=>by have:=aM.out.h _ e; omega))
   go_wp2_with fail
   refine (HE.out 1 (by decide) _ H hs jl.out).mono ?_
   rintro e w5 ⟨v,rfl,⟨xo,xn,xm,xk,xa,xc,rfl,hok,hst⟩,hM,hI⟩
   have HX:=Lib.hid (And.intro hok (hst.mono eB.out.size))
   have eu:=Lib.hid (eB.out.trans (Hx.refl _ _) (hM.mm (H:=H)))
   have gK:=Lib.hid hI
   have eO:=Lib.hid (hM.keep jr.out (by have:=aM.out.t; omega))
   clear hok hst hM hI
   go_wp2_with fail
   refine (dX ⟨#[120]⟩ xo xn xm xk xa xc w5).mono ?_
   rintro e w6 ⟨rfl,hb⟩
   have bY:=Lib.hid hb
   have gu:=Lib.hid ((hb.block _ (Array.getElem?_eq_some_iff.1 eO.out).1).trans eO.out)
   obtain ⟨⟨y0,y1,y2,y3,y4,y5,y6,y7,y8,y9,iF⟩,fz⟩:=eF gu.out
   have f0:=fz 0
   have f1:=fz 1
   have f2:=fz 2
   have f3:=fz 3
   have f4:=fz 4
   have f5:=fz 5
   have f6:=fz 6
   have f7:=fz 7
   have f8:=fz 8
   have f9:=fz 9
   have f10:=fz 10
   clear fz
   clear hb
   unfold aY aG aK
   go_wp2_with fail
   have HF:=Lib.hid (fG (h:=((⟨aG 1 ⟨#[120]⟩ .nil xo xn xm xk,.nil,.nil,aK xa xc⟩:aD)).h) (b:=((⟨aG 1 ⟨#[120]⟩ .nil xo xn xm xk,.nil,.nil,aK xa xc⟩:aD)).b) (e:=((⟨aG 1 ⟨#[120]⟩ .nil xo xn xm xk,.nil,.nil,aK xa xc⟩:aD)).e) (s:=((⟨aG 1 ⟨#[120]⟩ .nil xo xn xm xk,.nil,.nil,aK xa xc⟩:aD)).s) iK.out aM.out bP.out (eu.out.then_ (bY.out.mono eu.out.size) bY.out.size) (Hx.refl _ _) (gK.out.below bY.out) (mG (by unfold aX; decide) (by unfold maxLen; decide) HX.out.1) (gH eZ (.fV (HX.out.2.next (bT bY.out)) (Nat.le_refl _) (fun k h1 _ e=>absurd (aM.out.h _ e) (by have:=bP.out; omega))) dx dx) gu.out rfl)
   show bodyPost _ _ _ _ _ (World.setCells _ w.heap.size 0 (aD.f (⟨aG 1 ⟨#[120]⟩ .nil xo xn xm xk,.nil,.nil,aK xa xc⟩:aD)))
   generalize fD:World.setCells _ _ _ _=W7 at *
   obtain ⟨⟨z0,z1,z2,z3,z4,z5,z6,z7,z8,z9,fF⟩,HP⟩:=dD HF.out
   clear HF fD
   exact bodyPost_ret (v:=aY ((⟨aG 1 ⟨#[120]⟩ .nil xo xn xm xk,.nil,.nil,aK xa xc⟩:aD)).h ((⟨aG 1 ⟨#[120]⟩ .nil xo xn xm xk,.nil,.nil,aK xa xc⟩:aD)).b ((⟨aG 1 ⟨#[120]⟩ .nil xo xn xm xk,.nil,.nil,aK xa xc⟩:aD)).e ((⟨aG 1 ⟨#[120]⟩ .nil xo xn xm xk,.nil,.nil,aK xa xc⟩:aD)).s) (by simp [results,Tryd.results18,go_sem,aY,z0,z1,z2,z3,z4,z5,z6,z7,z8,z9,fF]) rfl HP.out
 ·have jl:=eX
  have eB:=Lib.hid (show Mm T H wb _ from Mm.refl _ _ _)
  have jr:=Lib.hid (eB.out.keep fT.out (by have:=aM.out.t; omega) (by have:=aM.out.m; omega) (fun e=>by have:=aM.out.h _ e; omega))
  go_wp2_with fail
  refine (HE.out 1 (by decide) _ H hs jl.out).mono ?_
  rintro e w5 ⟨v,rfl,⟨xo,xn,xm,xk,xa,xc,rfl,hok,hst⟩,hM,hI⟩
  have HX:=Lib.hid (And.intro hok (hst.mono eB.out.size))
  have eu:=Lib.hid (eB.out.trans (Hx.refl _ _) (hM.mm (H:=H)))
  have gK:=Lib.hid hI
  have eO:=Lib.hid (hM.keep jr.out (by have:=aM.out.t; omega))
  clear hok hst hM hI
  go_wp2_with fail
  refine (dX ⟨#[120]⟩ xo xn xm xk xa xc w5).mono ?_
  rintro e w6 ⟨rfl,hb⟩
  have bY:=Lib.hid hb
  have gu:=Lib.hid ((hb.block _ (Array.getElem?_eq_some_iff.1 eO.out).1).trans eO.out)
  obtain ⟨⟨y0,y1,y2,y3,y4,y5,y6,y7,y8,y9,iF⟩,fz⟩:=eF gu.out
  have f0:=fz 0
  have f1:=fz 1
  have f2:=fz 2
  have f3:=fz 3
  have f4:=fz 4
  have f5:=fz 5
  have f6:=fz 6
  have f7:=fz 7
  have f8:=fz 8
  have f9:=fz 9
  have f10:=fz 10
  clear fz
  clear hb
  unfold aY aG aK
  go_wp2_with fail
  have HF:=Lib.hid (fG (h:=((⟨aG 1 ⟨#[120]⟩ .nil xo xn xm xk,.nil,.nil,aK xa xc⟩:aD)).h) (b:=((⟨aG 1 ⟨#[120]⟩ .nil xo xn xm xk,.nil,.nil,aK xa xc⟩:aD)).b) (e:=((⟨aG 1 ⟨#[120]⟩ .nil xo xn xm xk,.nil,.nil,aK xa xc⟩:aD)).e) (s:=((⟨aG 1 ⟨#[120]⟩ .nil xo xn xm xk,.nil,.nil,aK xa xc⟩:aD)).s) iK.out aM.out bP.out (eu.out.then_ (bY.out.mono eu.out.size) bY.out.size) (Hx.refl _ _) (gK.out.below bY.out) (mG (by unfold aX; decide) (by unfold maxLen; decide) HX.out.1) (gH eZ (.fV (HX.out.2.next (bT bY.out)) (Nat.le_refl _) (fun k h1 _ e=>absurd (aM.out.h _ e) (by have:=bP.out; omega))) dx dx) gu.out rfl)
  show bodyPost _ _ _ _ _ (World.setCells _ w.heap.size 0 (aD.f (⟨aG 1 ⟨#[120]⟩ .nil xo xn xm xk,.nil,.nil,aK xa xc⟩:aD)))
  generalize fD:World.setCells _ _ _ _=W7 at *
  obtain ⟨⟨z0,z1,z2,z3,z4,z5,z6,z7,z8,z9,fF⟩,HP⟩:=dD HF.out
  clear HF fD
  exact bodyPost_ret (v:=aY ((⟨aG 1 ⟨#[120]⟩ .nil xo xn xm xk,.nil,.nil,aK xa xc⟩:aD)).h ((⟨aG 1 ⟨#[120]⟩ .nil xo xn xm xk,.nil,.nil,aK xa xc⟩:aD)).b ((⟨aG 1 ⟨#[120]⟩ .nil xo xn xm xk,.nil,.nil,aK xa xc⟩:aD)).e ((⟨aG 1 ⟨#[120]⟩ .nil xo xn xm xk,.nil,.nil,aK xa xc⟩:aD)).s) (by simp [results,Tryd.results18,go_sem,aY,z0,z1,z2,z3,z4,z5,z6,z7,z8,z9,fF]) rfl HP.out
set_option maxHeartbeats 4000000 in
set_option maxRecDepth 100000 in
theorem Pk:lJ (fun k=>k=17):=by
 intro T d k hk hms w H hs hI jh hnx
 have hd:=hms.pI
 have nY:=Lib.hid hms
 have bS:=Lib.hid hnx
 have HI0:=Lib.hid hI
 have aM:Hid (Old T H w.heap.size):=Lib.hid hI.old
 have HE:Hid (∀d:Nat,d≤100→jJ T (d:Int)):=Lib.hid (jf T)
 obtain ⟨th,left,qa,qb,qc,qd,vH,iY,c0,c1,c2,c3,c4,c5,c6,c7,cf,hv,hrow⟩:=hI.reads
 have f2:=cf 2
 have ug:T.bm < w.heap.size:=hI.lt
 clear hI hrow c1 c3 c4 c5 c6 c7 iY hv cf c0 hms hnx
 go_enter Tryd.func18,Tryd.ntmps18
 go_upto_region 2 with fail
 generalize hW:World.alloc _ _=W
 have HI:Hid (cZ W T H hs):=Lib.hid (by rw [← hW]; exact (HI0.out.left (nG _)).below (ay _ _))
 have HM:Hid (Mm T H w W):=Lib.hid (by rw [← hW]; exact ((Mm.refl T H w).mJ (Hx.refl w H) _ _).then_ ((ay _ _).mono (by simp [World.setCell])) (ay _ _).size)
 have HZ:Hid (W.heap[w.heap.size]? =some (.cells jv 42 (0,0))):=Lib.hid (by
  rw [← hW]
  have e:(World.setCell w ⟨T.bm,2,none⟩ (.int .i64 (wrap64 (left - 1)))).heap.size=w.heap.size:=by simp [World.setCell]
  rw [← e]; exact heap_alloc_new _ _)
 have iR:Hid (W.heap[T.bt]? =w.heap[T.bt]?):=Lib.hid (by
  rw [← hW,heap_alloc_old _ _ (by simp [World.setCell]; exact aM.out.t)]
  exact aO w _ _ rfl T.tm.symm)
 clear hW c2 f2
 have c0:=HI.out.ptr
 go_wp2_with fail
 refine (bS.out W HI.out iR.out).mono ?_
 rintro e w2 ⟨rfl,hM2,hI2⟩
 have iK:=Lib.hid (HM.out.trans (Hx.refl _ _) (hM2.mm (H:=H)))
 have eX:=Lib.hid hI2
 have fT:Hid (w2.heap[w.heap.size]? =some (.cells jv 42 (0,0))):=Lib.hid (hM2.keep HZ.out (by have:=aM.out.t; omega))
 have bP:Hid (w.heap.size < w2.heap.size):=Lib.hid (Array.getElem?_eq_some_iff.1 fT.out).1
 clear hM2 hI2 c0 HI HM HZ iR bS
 go_upto_region 3 with fail
 go_cut [6] (fun s6 W'=>(∃q:Bool,s6= .bool q∧(q=true→0 < d))∧W'=w2)
 case first=>
  obtain ⟨oI,left',oM,oz,oq,oN,oV,fQ,c0',c1',c2',c3',mR,jB,jC,jq,cf',hv',hrow'⟩:=eX.out.reads
  clear c0' c1' c3' jB jC jq cf' hv' hrow' fQ
  by_cases h1:(0:Int) < (d:Int)
  ·by_cases h2:0 < left'
   ·go_wp2_with fail
    go_meet
    exact ⟨⟨_,rfl,fun _=>by omega⟩,rfl⟩
   ·go_wp2_with fail
    go_meet
    exact ⟨⟨_,rfl,fun _=>by omega⟩,rfl⟩
  ·go_wp2_with fail
   go_meet
   exact ⟨⟨false,rfl,fun h=>(by cases h)⟩,rfl⟩
 obtain ⟨⟨nest,rfl,kT⟩,rfl⟩:=hcut
 obtain ⟨wb,rfl⟩: ∃W:World,W=wc:=⟨_,rfl⟩
 have mg:Hid (Sg T H hs w.heap.size wb H wb):=Lib.hid ⟨Mm.refl _ _ _,Hx.refl _ _,eX.out,fT.out,aM.out,bP.out⟩
 subst hk
 obtain ⟨oI,left',oM,oz,oq,oN,oV,fQ,c0',c1',c2',c3',mR,jB,jC,jq,cf',hv',hrow'⟩:=eX.out.reads
 clear c1' c2' c3' jB jC jq hv' hrow' fQ cf'
 cases oz
 ·go_wp2_with fail
  refine (jk T H hs 2 _ (by unfold aX; decide) eX.out).mono ?_
  rintro e w3 ⟨r,rfl,-,-,wW,tT⟩
  have HI3:=Lib.hid tT
  have HT3:=Lib.hid wW
  have HZ3:=Lib.hid (wW.keep fT.out (by have:=aM.out.t; omega))
  clear wW tT
  cases hr:((r:Int) == 1)
  ·have jl:=HI3
   have eB:=Lib.hid (show Mm T H wb _ from HT3.out.mm)
   have jr:=Lib.hid (eB.out.keep fT.out (by have:=aM.out.t; omega) (by have:=aM.out.m; omega) (fun e=>by have:=aM.out.h _ e; omega))
   go_wp2_with fail
   refine (HE.out 1 (by decide) _ H hs jl.out).mono ?_
   rintro e w5 ⟨v,rfl,⟨xo,xn,xm,xk,xa,xc,rfl,hok,hst⟩,hM,hI⟩
   have HX:=Lib.hid (And.intro hok (hst.mono eB.out.size))
   have eu:=Lib.hid (eB.out.trans (Hx.refl _ _) (hM.mm (H:=H)))
   have gK:=Lib.hid hI
   have eO:=Lib.hid (hM.keep jr.out (by have:=aM.out.t; omega))
   clear hok hst hM hI
   go_wp2_with fail
   refine (dX ⟨#[120]⟩ xo xn xm xk xa xc w5).mono ?_
   rintro e w6 ⟨rfl,hb⟩
   have bY:=Lib.hid hb
   have gu:=Lib.hid ((hb.block _ (Array.getElem?_eq_some_iff.1 eO.out).1).trans eO.out)
   obtain ⟨⟨y0,y1,y2,y3,y4,y5,y6,y7,y8,y9,iF⟩,fz⟩:=eF gu.out
   have f0:=fz 0
   have f1:=fz 1
   have f2:=fz 2
   have f3:=fz 3
   have f4:=fz 4
   have f5:=fz 5
   have f6:=fz 6
   have f7:=fz 7
   have f8:=fz 8
   have f9:=fz 9
   have f10:=fz 10
   clear fz
   clear hb
   unfold aY aG aK
   go_wp2_with fail
   have HF:=Lib.hid (fG (h:=((⟨aG 1 ⟨#[120]⟩ .nil xo xn xm xk,.nil,.nil,aK xa xc⟩:aD)).h) (b:=((⟨aG 1 ⟨#[120]⟩ .nil xo xn xm xk,.nil,.nil,aK xa xc⟩:aD)).b) (e:=((⟨aG 1 ⟨#[120]⟩ .nil xo xn xm xk,.nil,.nil,aK xa xc⟩:aD)).e) (s:=((⟨aG 1 ⟨#[120]⟩ .nil xo xn xm xk,.nil,.nil,aK xa xc⟩:aD)).s) iK.out aM.out bP.out (eu.out.then_ (bY.out.mono eu.out.size) bY.out.size) (Hx.refl _ _) (gK.out.below bY.out) (mG (by unfold aX; decide) (by unfold maxLen; decide) HX.out.1) (gH eZ (.fV (HX.out.2.next (bT bY.out)) (Nat.le_refl _) (fun k h1 _ e=>absurd (aM.out.h _ e) (by have:=bP.out; omega))) dx dx) gu.out rfl)
   show bodyPost _ _ _ _ _ (World.setCells _ w.heap.size 0 (aD.f (⟨aG 1 ⟨#[120]⟩ .nil xo xn xm xk,.nil,.nil,aK xa xc⟩:aD)))
   generalize fD:World.setCells _ _ _ _=W7 at *
   obtain ⟨⟨z0,z1,z2,z3,z4,z5,z6,z7,z8,z9,fF⟩,HP⟩:=dD HF.out
   clear HF fD
   exact bodyPost_ret (v:=aY ((⟨aG 1 ⟨#[120]⟩ .nil xo xn xm xk,.nil,.nil,aK xa xc⟩:aD)).h ((⟨aG 1 ⟨#[120]⟩ .nil xo xn xm xk,.nil,.nil,aK xa xc⟩:aD)).b ((⟨aG 1 ⟨#[120]⟩ .nil xo xn xm xk,.nil,.nil,aK xa xc⟩:aD)).e ((⟨aG 1 ⟨#[120]⟩ .nil xo xn xm xk,.nil,.nil,aK xa xc⟩:aD)).s) (by simp [results,Tryd.results18,go_sem,aY,z0,z1,z2,z3,z4,z5,z6,z7,z8,z9,fF]) rfl HP.out
  ·obtain ⟨⟨y0,y1,y2,y3,y4,y5,y6,y7,y8,y9,iF⟩,fz⟩:=eF HZ3.out
   have f0:=fz 0
   have f1:=fz 1
   have f2:=fz 2
   have f3:=fz 3
   have f4:=fz 4
   have f5:=fz 5
   have f6:=fz 6
   have f7:=fz 7
   have f8:=fz 8
   have f9:=fz 9
   have f10:=fz 10
   clear fz
   go_wp2_with fail
   have HF:=Lib.hid (fG (h:=((⟨⟨15,0,⟨#[97]⟩,⟨#[102]⟩,.nil,0,0,⟨#[]⟩,.nil⟩,.nil,.nil,gq⟩:aD)).h) (b:=((⟨⟨15,0,⟨#[97]⟩,⟨#[102]⟩,.nil,0,0,⟨#[]⟩,.nil⟩,.nil,.nil,gq⟩:aD)).b) (e:=((⟨⟨15,0,⟨#[97]⟩,⟨#[102]⟩,.nil,0,0,⟨#[]⟩,.nil⟩,.nil,.nil,gq⟩:aD)).e) (s:=((⟨⟨15,0,⟨#[97]⟩,⟨#[102]⟩,.nil,0,0,⟨#[]⟩,.nil⟩,.nil,.nil,gq⟩:aD)).s) iK.out aM.out bP.out HT3.out.mm (Hx.refl _ _) HI3.out ⟨by unfold aX; decide,ny,by unfold maxLen; decide,by unfold maxLen; decide,nil_le,nE,Nat.zero_le _,Nat.zero_le _⟩ (gH eZ eZ dx dx) HZ3.out rfl)
   show bodyPost _ _ _ _ _ (World.setCells _ w.heap.size 0 (aD.f (⟨⟨15,0,⟨#[97]⟩,⟨#[102]⟩,.nil,0,0,⟨#[]⟩,.nil⟩,.nil,.nil,gq⟩:aD)))
   generalize fD:World.setCells _ _ _ _=W7 at *
   obtain ⟨⟨z0,z1,z2,z3,z4,z5,z6,z7,z8,z9,fF⟩,HP⟩:=dD HF.out
   clear HF fD
   exact bodyPost_ret (v:=aY ((⟨⟨15,0,⟨#[97]⟩,⟨#[102]⟩,.nil,0,0,⟨#[]⟩,.nil⟩,.nil,.nil,gq⟩:aD)).h ((⟨⟨15,0,⟨#[97]⟩,⟨#[102]⟩,.nil,0,0,⟨#[]⟩,.nil⟩,.nil,.nil,gq⟩:aD)).b ((⟨⟨15,0,⟨#[97]⟩,⟨#[102]⟩,.nil,0,0,⟨#[]⟩,.nil⟩,.nil,.nil,gq⟩:aD)).e ((⟨⟨15,0,⟨#[97]⟩,⟨#[102]⟩,.nil,0,0,⟨#[]⟩,.nil⟩,.nil,.nil,gq⟩:aD)).s) (by simp [results,Tryd.results18,go_sem,aY,z0,z1,z2,z3,z4,z5,z6,z7,z8,z9,fF]) rfl HP.out
 ·have jl:=eX
  have eB:=Lib.hid (show Mm T H wb _ from Mm.refl _ _ _)
  have jr:=Lib.hid (eB.out.keep fT.out (by have:=aM.out.t; omega) (by have:=aM.out.m; omega) (fun e=>by have:=aM.out.h _ e; omega))
  go_wp2_with fail
  refine (HE.out 1 (by decide) _ H hs jl.out).mono ?_
  rintro e w5 ⟨v,rfl,⟨xo,xn,xm,xk,xa,xc,rfl,hok,hst⟩,hM,hI⟩
  have HX:=Lib.hid (And.intro hok (hst.mono eB.out.size))
  have eu:=Lib.hid (eB.out.trans (Hx.refl _ _) (hM.mm (H:=H)))
  have gK:=Lib.hid hI
  have eO:=Lib.hid (hM.keep jr.out (by have:=aM.out.t; omega))
  clear hok hst hM hI
  go_wp2_with fail
  refine (dX ⟨#[120]⟩ xo xn xm xk xa xc w5).mono ?_
  rintro e w6 ⟨rfl,hb⟩
  have bY:=Lib.hid hb
  have gu:=Lib.hid ((hb.block _ (Array.getElem?_eq_some_iff.1 eO.out).1).trans eO.out)
  obtain ⟨⟨y0,y1,y2,y3,y4,y5,y6,y7,y8,y9,iF⟩,fz⟩:=eF gu.out
  have f0:=fz 0
  have f1:=fz 1
  have f2:=fz 2
  have f3:=fz 3
  have f4:=fz 4
  have f5:=fz 5
  have f6:=fz 6
  have f7:=fz 7
  have f8:=fz 8
  have f9:=fz 9
  have f10:=fz 10
  clear fz
  clear hb
  unfold aY aG aK
  go_wp2_with fail
  have HF:=Lib.hid (fG (h:=((⟨aG 1 ⟨#[120]⟩ .nil xo xn xm xk,.nil,.nil,aK xa xc⟩:aD)).h) (b:=((⟨aG 1 ⟨#[120]⟩ .nil xo xn xm xk,.nil,.nil,aK xa xc⟩:aD)).b) (e:=((⟨aG 1 ⟨#[120]⟩ .nil xo xn xm xk,.nil,.nil,aK xa xc⟩:aD)).e) (s:=((⟨aG 1 ⟨#[120]⟩ .nil xo xn xm xk,.nil,.nil,aK xa xc⟩:aD)).s) iK.out aM.out bP.out (eu.out.then_ (bY.out.mono eu.out.size) bY.out.size) (Hx.refl _ _) (gK.out.below bY.out) (mG (by unfold aX; decide) (by unfold maxLen; decide) HX.out.1) (gH eZ (.fV (HX.out.2.next (bT bY.out)) (Nat.le_refl _) (fun k h1 _ e=>absurd (aM.out.h _ e) (by have:=bP.out; omega))) dx dx) gu.out rfl)
  show bodyPost _ _ _ _ _ (World.setCells _ w.heap.size 0 (aD.f (⟨aG 1 ⟨#[120]⟩ .nil xo xn xm xk,.nil,.nil,aK xa xc⟩:aD)))
  generalize fD:World.setCells _ _ _ _=W7 at *
  obtain ⟨⟨z0,z1,z2,z3,z4,z5,z6,z7,z8,z9,fF⟩,HP⟩:=dD HF.out
  clear HF fD
  exact bodyPost_ret (v:=aY ((⟨aG 1 ⟨#[120]⟩ .nil xo xn xm xk,.nil,.nil,aK xa xc⟩:aD)).h ((⟨aG 1 ⟨#[120]⟩ .nil xo xn xm xk,.nil,.nil,aK xa xc⟩:aD)).b ((⟨aG 1 ⟨#[120]⟩ .nil xo xn xm xk,.nil,.nil,aK xa xc⟩:aD)).e ((⟨aG 1 ⟨#[120]⟩ .nil xo xn xm xk,.nil,.nil,aK xa xc⟩:aD)).s) (by simp [results,Tryd.results18,go_sem,aY,z0,z1,z2,z3,z4,z5,z6,z7,z8,z9,fF]) rfl HP.out
end Go.Proofs.YtnknfoibmgphnaaDoor
end
