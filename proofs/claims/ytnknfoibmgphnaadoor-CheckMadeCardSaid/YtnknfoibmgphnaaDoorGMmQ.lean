/-
  Contract of the maker's Program: it returns a program without static errors that lies in new memory.
-/
import Derived.Test.YtnknfoibmgphnaaDoorGMmP
set_option linter.unusedSimpArgs false
set_option linter.unusedVariables false
namespace Go.Proofs.YtnknfoibmgphnaaDoor
open Go.RowKit
open Md
def JA:Prop:= ∀(p:Pr) (w:World) (aC aF:Option Addr) (aA av:Nat),p.At w aC aF→p.ds.length≤aA→p.ts.length≤av→
    Calls Tryd.prog 10 #[.agg #[.slice aC p.ds.length aA,.slice aF p.ts.length av]] w fun e w'=>e= .returned (.tuple #[.int .i64 (iV p).1,.int .i64 (iV p).2])∧Below w.heap.size w w'
set_option maxHeartbeats 8000000 in
set_option maxRecDepth 100000 in
theorem IJ (hst: ∀T,vQ T 2) (href:JA) (w:World) (zs:List Int) (ao:Option Addr) (cap:Nat) (hz:uP w w.heap.size zs ao) (hl:zs.length≤9223372036854775807):
 Calls Tryd.prog 4 #[.slice ao zs.length cap] w (QT w):=by
 have HZ:=Lib.hid hz
 clear hz
 go_enter Tryd.func4,Tryd.ntmps4
 go_upto_region 2 with fail
 obtain ⟨w2,hw2⟩: ∃x,x=(((w.alloc (.cells #[.slice none 0 0,.slice none 0 0] 26)).alloc (.cells #[.slice ao zs.length cap,.int .i64 0] 47)).alloc (.cells #[.pointer (some ⟨w.heap.size + 1,0,none⟩),.int .i64 0,.int .i64 20,.bool false,.bool false,.bool false,.bool false,.slice none 0 0] 49)):=⟨_,rfl⟩
 rw [← hw2]
 obtain ⟨T,e0,e1,e2,e3,e4,e5⟩: ∃T:Tp,T.B0=w.heap.size∧w.heap.size + 1=T.bt∧w.heap.size + 1 + 1=T.bm∧T.ao=ao∧T.cap=cap∧T.zs=zs:=⟨⟨w.heap.size,w.heap.size + 1,w.heap.size + 1 + 1,ao,cap,zs,by omega,by omega,by omega⟩,rfl,rfl,rfl,rfl,rfl,rfl⟩
 rw [e2,e1]
 have HS2:Hid (w2.heap.size=w.heap.size + 3):=Lib.hid (by rw [hw2]; simp)
 have wS:Hid (Below w.heap.size w w2):=Lib.hid (by rw [hw2]; exact ((ay _ _).alloc (by simp) _).alloc (by simp <;> omega) _)
 have HR2:Hid (w2.heap[w.heap.size]? =some (.cells #[.slice none 0 0,.slice none 0 0] 26 (0,0))):=Lib.hid (by
  rw [hw2,heap_alloc_old _ _ (by simp <;> omega),heap_alloc_old _ _ (by simp <;> omega)]; exact heap_alloc_new _ _)
 have FZ:Hid (cZ w2 T none []):=Lib.hid (by
  have k1:w2.heap[T.bt]? =some (.cells #[.slice ao zs.length cap,.int .i64 0] 47 (0,0)):=by
   rw [hw2,← e1,heap_alloc_old _ _ (by simp)]
   have:=heap_alloc_new (w.alloc (.cells #[.slice none 0 0,.slice none 0 0] 26)) (.cells #[.slice ao zs.length cap,.int .i64 0] 47)
   simpa using this
  have k2:w2.heap[T.bm]? =some (.cells #[.pointer (some ⟨w.heap.size + 1,0,none⟩),.int .i64 0,.int .i64 20,.bool false,.bool false,.bool false,.bool false,.slice none 0 0] 49 (0,0)):=by
   rw [hw2,← e2]
   have:=heap_alloc_new ((w.alloc (.cells #[.slice none 0 0,.slice none 0 0] 26)).alloc (.cells #[.slice ao zs.length cap,.int .i64 0] 47)) (.cells #[.pointer (some ⟨w.heap.size + 1,0,none⟩),.int .i64 0,.int .i64 20,.bool false,.bool false,.bool false,.bool false,.slice none 0 0] 49)
   simpa using this
  refine ⟨⟨⟨0,Nat.zero_le _,by rw [k1,e3,e4,e5]; rfl⟩,by rw [e0,e3,e5]; exact HZ.out.below wS.out,by rw [e5]; exact hl⟩,⟨0,20,false,false,false,false,.slice none 0 0,by unfold aX; decide,by rw [k2,e1],rfl,Grow.nil _ _ _ _ _ _⟩,by simp,by simp,by simp,by simp⟩)
 have aM:Hid (T.B0=w.heap.size∧T.bt=w.heap.size + 1∧T.bm=w.heap.size + 2):=Lib.hid ⟨e0,e1.symm,by omega⟩
 clear hw2 e0 e1 e2 e3 e4 e5 HZ
 go_wp2_with fail
 refine (Cn w2).mono ?_
 rintro e w3 ⟨gD,rfl,Rq,FH,hb⟩
 have Ld:=Lib.hid (And.intro Rq (Array.getElem?_eq_some_iff.1 FH).1)
 have HI3:=Lib.hid (FZ.out.below hb)
 have HB3:=Lib.hid hb
 have HD3:=Lib.hid FH
 clear Rq FH hb
 go_upto_region 3 with fail
 obtain ⟨pb,hpb⟩: ∃g,w3.heap.size=g:=⟨_,rfl⟩
 generalize Ec:World.alloc w3 _=w4
 have gV:Hid (Below w3.heap.size w3 w4):=Lib.hid (by rw [← Ec]; exact ay _ _)
 have QL:Hid (w4.heap[pb]? =some (.cells #[.slice (some ⟨gD,0,none⟩) 9 9,.slice none 0 0] 26 (0,0))):=Lib.hid (by rw [← Ec,← hpb]; exact heap_alloc_new _ _)
 have Rw:=Lib.hid hpb
 have HI4:=Lib.hid (HI3.out.below gV.out)
 have HD4:=Lib.hid ((gV.out.block _ Ld.out.2).trans HD3.out)
 rw [hpb]
 clear Ec hpb HI3 HD3
 have c0:=HI4.out.ptr
 go_wp2_with fail
 refine (jk T none [] 3 _ (by unfold aX; decide) HI4.out).mono ?_
 rintro e w5 ⟨r,rfl,hr,-,hM,hI⟩
 have hr3:r < 3:=by have:=hr (by decide); omega
 have hwn:IntKind.i64.wrap (2 + (r:Int))=2 + (r:Int):=IntWalk.i64_in _ (by omega)
 have gK:=Lib.hid hI
 have eu:=Lib.hid hM
 clear hM hI hr c0
 go_upto_region 5 with fail
 obtain ⟨nb,hnb⟩: ∃g,w5.heap.size=g:=⟨_,rfl⟩
 generalize Fu:World.alloc w5 _=w6
 have R5:Hid (PM T w2 gD pb nb none w6 (.slice none 0 0) []):=Lib.hid (by
  have hb6:Below w5.heap.size w5 w6:=by rw [← Fu]; exact ay _ _
  have TH:w6.heap[nb]? =some (.cells Ir 9 (0,0)):=by rw [← Fu,← hnb]; exact heap_alloc_new _ _
  have q1:=Ld.out; have q2:=Rw.out; have q3:=aM.out; have q4:=HS2.out
  have O6:=eu.out.keep QL.out (by omega)
  have hd5:=eu.out.keep HD4.out (by omega)
  refine ⟨(hb6.block _ (Array.getElem?_eq_some_iff.1 O6).1).trans O6,(hb6.block _ (Array.getElem?_eq_some_iff.1 hd5).1).trans hd5,TH,jd.nil _ _ _ _ _ _ _,by simp,rfl,gK.out.below hb6,?_,⟨by omega,by omega,by omega,by omega,by omega,?_⟩,by simp⟩
  ·exact (((Mm.of_below HB3.out).then_ (gV.out.mono HB3.out.size) gV.out.size).trans (Hx.refl _ _) eu.out.mm).then_ (hb6.mono (Nat.le_trans HB3.out.size (Nat.le_trans gV.out.size eu.out.size))) hb6.size
  ·have:=(Array.getElem?_eq_some_iff.1 O6).1; omega)
 rw [hnb]
 have vU:Hid (w.heap.size≤gD):=Lib.hid (by have:=Ld.out; have:=HS2.out; omega)
 clear Fu hnb HI4 gK eu gV HB3 QL HD4 Ld Rw FZ
 go_wp2_with fail
 go_loopw [7] (fun v7 wr=> ∃(k:Nat) (H:Option Nat) (vT:Value) (bZ:List bU),v7= .int .i64 k∧k≤2 + r∧bZ.length=k∧PM T w2 gD pb nb H wr vT bZ∧(0 < k→ ∃gT,vT.ownBlock=some gT∧wP (w.heap.size + 1) gD wr gT bZ)) (fun i _=>2 + r - (intOf i).toNat)
 case atStart=>exact ⟨0,none,_,[],rfl,by omega,rfl,R5.out,fun h=>absurd h (by decide)⟩
 case round=>
  obtain ⟨k,H,vT,bZ,rfl,hk,OZ,hp,hlast⟩:=hrel
  have HP:=Lib.hid hp
  have rZ:=Lib.hid OZ
  have Ow:=Lib.hid hlast
  clear hp OZ hlast R5
  by_cases hlt:k < 2 + r
  ·clear Ow
   obtain ⟨th,left,qa,qb,qc,qd,vH,iY,c0,c1,c2,c3,c4,c5,c6,c7,cf,hv,hrow⟩:=HP.out.mi.reads
   have f1:=cf 1
   clear c0 c2 c3 c4 c5 c6 c7 cf hv hrow iY
   go_upto_region 9 with fail
   generalize hW1:World.setCell wr _ _=wa
   have za:Hid (PM T w2 gD pb nb H wa vT bZ):=Lib.hid (by rw [← hW1]; exact HP.out.th _)
   clear hW1 c1 f1 HP
   obtain ⟨s,hs1,hs2,hs3⟩:=DU (k:=k) (by omega)
   have cs:wa.cell? ⟨nb,k,none⟩=some (.string s):=(aV za.out.nms hs2).2
   have hk0:(0:Int)≤(k:Int):=by omega
   have hk4:(k:Int) < 4:=by omega
   have HS:=Lib.hid (And.intro hs1 hs3)
   clear hs1 hs2 hs3
   go_upto_region 10 with fail
   obtain ⟨gl,hgl⟩: ∃g,wa.heap.size=g:=⟨_,rfl⟩
   obtain ⟨tb,htb⟩: ∃g,gl + 1=g:=⟨_,rfl⟩
   generalize QD:World.alloc (World.alloc wa _) _=wb
   have Lv:Hid (TM T wa H gl tb s H wb (.slice none 0 0) []):=Lib.hid (by rw [← QD,← htb,← hgl]; exact TM.start za.out.mi za.out.mi.hlt')
   have kF:=Lib.hid (And.intro hgl htb)
   rw [hgl,htb]
   clear QD hgl htb cs
   go_upto_if 42 with fail
   go_cut [8] (fun s8 W'=>s8= .pointer (some ⟨tb,0,none⟩)∧ ∃vB l,l.length≤10∧TM T wa H gl tb s H W' vB l)
   case first=>
    by_cases hkz:k=0
    ·have Ol:((k:Int) == 0)=true:=by rw [beq_iff_eq]; omega
     clear hkz
     have e28:decide ((k:Int) < 2 + (r:Int))=true:=by rw [decide_eq_true_iff]; omega
     go_wp2_with fail
     rw [e28,Ol]
     go_loopw [9] (fun v9 wr=> ∃(q:Nat) (vB:Value) (l:List aD),v9= .int .i64 q∧1≤q∧q≤2 + r∧l.length + 1=q∧TM T wa H gl tb s H wr vB l) (fun i _=>2 + r - (intOf i).toNat)
     case atStart=>exact ⟨1,_,[],rfl,by decide,by omega,rfl,Lv.out⟩
     case round=>
      obtain ⟨q,vB,l,rfl,hq1,hq2,QC,xg⟩:=hrel
      have HT:=Lib.hid xg
      have HQ:=Lib.hid QC
      clear xg QC Lv
      by_cases Vg:q < 2 + r
      ·go_upto_region 14 with fail
       have hd1:Below wr.heap.size wr (wr.drewN 1):=below_drewN (Below.refl _ _) 1
       obtain ⟨s',hs1,hs2,hs3⟩:=DU (k:=q) (by omega)
       have HN:Hid (wr.heap[nb]? =some (.cells Ir 9 (0,0))):=Lib.hid (za.out.go HT.out.km.1 HT.out.km.2 HT.out.mi).nms
       have Y0: ∀w',Below wr.heap.size wr w'→w'.cell? ⟨tb,3,none⟩=some vB:=fun w' h=>bL ((h.block tb (Array.getElem?_eq_some_iff.1 HT.out.box).1).trans HT.out.box) rfl
       have K1: ∀w',Below wr.heap.size wr w'→w'.cell? ⟨nb,q,none⟩=some (.string s'):=fun w' h=>bL ((h.block nb (Array.getElem?_eq_some_iff.1 HN.out).1).trans HN.out) hs2
       have hb0:(0:Int)≤(q:Int):=by omega
       have hb1:(q:Int) < 4:=by omega
       have NM:=Lib.hid hs3
       clear hs1 hs2 hs3
       refine cu (by kernel_rfl) rfl ?_
       refine bG 0 8 [] [[],[0],[],[],[2,3],[2,3,4],[2,3,4,5],[2,3,4,5,6],[0,1,2,3,4,5,6,7],[0,1,2,3,4,5,6,7,8],[0,1,2,3,4,5,6,7,8,9]] [[],[],[],[],[],[],[],[]] (fun _ w'=>Below wr.heap.size wr w') (fun w w'=>Below w.heap.size w w') [48,49,50,51,52,53,54,55] rfl rfl (by rfl) (by kernel_rfl) (by kernel_rfl) (by kernel_rfl) (by kernel_rfl) (by kernel_rfl) (by rfl) (fun _=>Below.refl _ _) (by rfl) hd1 ?_
       simp only [List.take_succ_cons,List.take_zero,List.drop_zero,List.drop_succ_cons,gP,List.map_cons,List.map_nil]
       apply aH.step
       case aB=>
        intro c A w' hok hC hO hD
        have e8:=hO 8 (by rfl)
        simp [Act.eval] at e8
        simp [au,ah,aj,Act.eval,Region.binds] at hD
        simp [go_sem,gd,Oper.wp,hD,e8]
        exact ak.mk (Below.refl _ _) hC (ah.mk _ _)
       apply aH.step
       case aB=>
        intro c A w' hok hC hO hD
        simp [au,ah,aj,Act.eval,Region.binds] at hD
        simp [go_sem,gd,Oper.wp,hD,Y0,hC]
        exact ak.mk (Below.refl _ _) hC (ah.mk _ _)
       apply aH.step
       case aB=>
        intro c A w' hok hC hO hD
        have e6:=hO 6 (by rfl)
        simp [Act.eval] at e6
        simp [au,ah,aj,Act.eval,Region.binds] at hD
        simp [go_sem,gd,Oper.wp,hD,e6]
        exact ak.mk (Below.refl _ _) hC (ah.mk _ _)
       simp only [List.nil_append,List.cons_append]
       apply aH.step
       case aB=>
        intro c A w' hok hC hO hD
        have e9:=hO 9 (by rfl)
        simp [Act.eval] at e9
        simp [au,ah,aj,Act.eval,Region.binds] at hD
        simp [go_sem,gd,Oper.wp,hD,e9]
        exact ak.mk (Below.refl _ _) hC (ah.mk _ _)
       apply aH.step
       case aB=>
        intro c A w' hok hC hO hD
        simp [au,ah,aj,Act.eval,Region.binds] at hD
        simp [go_sem,gd,Oper.wp,hD,hb0,hb1]
        exact ak.mk (Below.refl _ _) hC (ah.mk _ _)
       apply aH.step
       case aB=>
        intro c A w' hok hC hO hD
        simp [au,ah,aj,Act.eval,Region.binds] at hD
        simp [go_sem,gd,Oper.wp,hD,K1,hC]
        exact ak.mk (Below.refl _ _) hC (ah.mk _ _)
       simp only [List.nil_append,List.cons_append]
       apply aH.step
       case aB=>
        intro c A w' hok hC hO hD
        simp [au,ah,aj,Act.eval,Region.binds] at hD
        simp [go_sem,gd,Oper.wp,hD]
        exact ak.mk (Below.refl _ _) hC (ah.mk _ _)
       refine aH.some (fun v w'=> ∃bb,v= .slice (some ⟨bb,0,none⟩) 1 1∧wr.heap.size≤bb∧w'.heap[bb]? =some (.cells (aD.f (⟨aG 12 s' .nil 0 0 ⟨#[]⟩ .nil,.nil,.nil,gq⟩:aD)).toArray 42 (0,0))) ?_ ?_ ?_
       ·rintro v w1 w' hle ⟨g,h1,h2,h3⟩
        exact ⟨g,h1,h2,(hle.block g (Array.getElem?_eq_some_iff.1 h3).1).trans h3⟩
       ·intro c A w' hok hC hO hD
        simp [au,ah,aj,Act.eval,Region.binds] at hD
        simp [go_sem,gd,Oper.wp,hD]
        exact ak.mk (d:=_) (v:= .slice (some ⟨_,0,none⟩) 1 1) (ay _ _) (hC.trans ((ay _ _).mono hC.size)) ⟨_,rfl,hC.size,heap_alloc_new _ _⟩
       try simp only [List.nil_append,List.cons_append]
       refine aH.done ?_
       intro wz bK
       try simp only [List.drop_zero,List.drop_succ_cons]
       intro v0 h0 v1 h1 v2 h2 v3 h3 v4 h4 v5 h5 v6 h6 v7 h7
       have h0':=Eq.symm (show v0=_ from h0)
       subst h0'
       have h1':=Eq.symm (show v1=_ from h1)
       subst h1'
       have h2':=Eq.symm (show v2=_ from h2)
       subst h2'
       have h3':=Eq.symm (show v3=_ from h3)
       subst h3'
       have h4':=Eq.symm (show v4=_ from h4)
       subst h4'
       have h5':=Eq.symm (show v5=_ from h5)
       subst h5'
       have h6':=Eq.symm (show v6=_ from h6)
       subst h6'
       clear h0 h1 h2 h3 h4 h5 h6
       obtain ⟨bb,rfl,hbb,hcell⟩:=h7
       clear hd1 Y0 K1 hb0 hb1
       refine bM.nil ?_
       go_simp
       refine gY 8 [[],[0],[],[],[2,3],[2,3,4],[2,3,4,5],[2,3,4,5,6],[0,1,2,3,4,5,6,7],[0,1,2,3,4,5,6,7,8],[0,1,2,3,4,5,6,7,8,9]] rfl rfl rfl rfl rfl (by kernel_rfl) (by kernel_rfl) (by kernel_rfl) ?_
       obtain ⟨i0,hi0,hz0,hz1,hz2⟩:=jI (α:=Nat) (β:=Nat) sH
       have uK:=Lib.hid (HT.out.go (Mm.of_below bK) (Hx.refl _ _) (HT.out.mi.below bK))
       have hkl:l.length + 1≤maxLen:=by have:=HQ.out; unfold maxLen; omega
       have hkb:(l.length + 1) * 176≤140737488355328:=by have:=HQ.out; omega
       refine wp_append_lies wz _ _ _ (by rfl) (tb + 1) 42 i0 _ 11 176 Tryd.underlying33 hi0 hz0 hz1 hz2 (by rfl) (by omega) vB l.length (l.flatMap aD.f) (by rfl) uK.out.row.own ⟨bb,0,none⟩ 1 1 (aD.f (⟨aG 12 s' .nil 0 0 ⟨#[]⟩ .nil,.nil,.nil,gq⟩:aD)) (by rfl) (by rfl) (jM hcell) (qO _) (by decide) hkl hkb uK.out.sz _ rfl ?_
       intro g' cap' w5 hown hgr hmv zy
       clear hi0 hz0 hz1 hz2 hcell bK hbb hkl hkb
       have uS:=Lib.hid (uK.out.push (ys:=[(⟨aG 12 s' .nil 0 0 ⟨#[]⟩ .nil,.nil,.nil,gq⟩:aD)]) (n:=l.length + 1) (fun y hy=>by rw [List.mem_singleton.1 hy]; exact fun _ _=>⟨trivial,trivial,trivial,trivial⟩) (fun y hy=>by rw [List.mem_singleton.1 hy]; exact rD (by unfold aX; decide) NM.out nE nil_le (Nat.zero_le _) (Nat.zero_le _)) rfl (by rw [List.flatMap_singleton]; exact hown) hgr hmv)
       have sw:=Lib.hid uS.out.1
       have y3:w5.cell? ⟨tb,3,none⟩=some vB:=bL uS.out.2 rfl
       have f3:w5.frozen? ⟨tb,3,none⟩=false:=dH uS.out.2
       clear hown hgr hmv zy uS uK
       go_simp
       refine bG 9 10 [] [[],[0],[],[],[2,3],[2,3,4],[2,3,4,5],[2,3,4,5,6],[0,1,2,3,4,5,6,7],[0,1,2,3,4,5,6,7,8],[0,1,2,3,4,5,6,7,8,9]] [[]] (fun _ w'=>w'=w5) (fun w w'=>w=w') [57] rfl rfl (by rfl) (by kernel_rfl) (by kernel_rfl) (by kernel_rfl) (by kernel_rfl) (by kernel_rfl) (by rfl) (fun _=>rfl) (by rfl) rfl ?_
       simp only [List.take_succ_cons,List.take_zero,List.drop_zero,List.drop_succ_cons,gP,List.map_cons,List.map_nil]
       apply aH.step
       case aB=>
        intro c A w' hok hC hO hD
        have e8:=hO 8 (by rfl)
        simp [Act.eval] at e8
        simp [au,ah,aj,Act.eval,Region.binds] at hD
        simp [go_sem,gd,Oper.wp,hD,e8]
        exact ak.mk rfl hC (ah.mk _ _)
       try simp only [List.nil_append,List.cons_append]
       refine aH.done ?_
       intro wz bK
       try simp only [List.drop_zero,List.drop_succ_cons]
       intro v0 h0
       have h0':=Eq.symm (show v0=_ from h0)
       subst h0'
       clear h0
       refine bM.nil ?_
       go_simp
       refine gY 10 [[],[0],[],[],[2,3],[2,3,4],[2,3,4,5],[2,3,4,5,6],[0,1,2,3,4,5,6,7],[0,1,2,3,4,5,6,7,8],[0,1,2,3,4,5,6,7,8,9]] rfl rfl rfl rfl rfl (by kernel_rfl) (by kernel_rfl) (by kernel_rfl) ?_
       subst bK
       simp [go_sem,Oper.wp,y3,f3]
       refine dQ rfl ?_
       clear y3 f3
       go_simp
       go_wp2_with fail
       go_roundw
       case rel=>exact ⟨q + 1,_,_,by go_num,by omega,by omega,by have:=HQ.out; simp; omega,sw.out⟩
       case measure=>simp [intOf]; omega
      ·go_wp2_with fail
       go_meet
       exact ⟨rfl,_,l,by have:=HQ.out; omega,HT.out⟩
    ·have Ol:((k:Int) == 0)=false:=by rw [beq_eq_false_iff_ne]; omega
     go_wp2_with fail
     go_meet
     exact ⟨rfl,_,[],by simp,Lv.out⟩
   obtain ⟨rfl,vB,l,OJ,xg⟩:=hcut
   obtain ⟨wd,rfl⟩: ∃W:World,W=wc:=⟨_,rfl⟩
   have HT:=Lib.hid xg
   have HL:=Lib.hid OJ
   clear xg OJ Lv
   go_upto_region 15 with fail
   have HST:Hid (∀w H (n:Int),cZ w T H []→1≤n→n≤1000→Calls Tryd.prog 9 #[.pointer (some ⟨T.bm,0,none⟩),.int .i64 2,.int .i64 n] w (Fh T H [] w)):=Lib.hid (fun w H n h1 h2 h3=>hst T w H [] n h1 (by decide) h2 h3)
   have Ni:Hid (T.bt < wd.heap.size∧T.bm < wd.heap.size∧tb + 1≤wd.heap.size):=Lib.hid ⟨HT.out.mi.tape.lt,HT.out.mi.lt,HT.out.sz⟩
   have hd1:CM T H wd (wd.drewN 1):=⟨H,HT.out.mi.below (below_drewN (Below.refl _ _) 1),Hx.refl _ _,Mm.of_below (below_drewN (Below.refl _ _) 1)⟩
   have Y0: ∀w',CM T H wd w'→w'.cell? ⟨tb,3,none⟩=some vB:=fun w' ⟨H',h1,h2,h3⟩=>bL (HT.out.go h3 h2 h1).box rfl
   have K0: ∀w',CM T H wd w'→w'.cell? ⟨T.bm,0,none⟩=some (.pointer (some ⟨T.bt,0,none⟩)):=fun w' ⟨H',h1,_,_⟩=>h1.ptr
   refine cu (by kernel_rfl) rfl ?_
   refine bG 0 10 [] [[],[0],[],[],[3],[3,4],[3,4,5],[3,4,5,6],[3,4,5,6,7],[2,3,4,5,6,7,8],[0,1,2,3,4,5,6,7,8,9],[0,1,2,3,4,5,6,7,8,9,10],[0,1,2,3,4,5,6,7,8,9,10,11]] [[],[],[],[],[],[],[],[],[],[]] (fun _ w'=>CM T H wd w') (fun w w'=>ql T w w') [58,59,60,61,62,63,64,65,66,67] rfl rfl (by rfl) (by kernel_rfl) (by kernel_rfl) (by kernel_rfl) (by kernel_rfl) (by kernel_rfl) (by rfl) (fun _=>ql.refl _ _) (by rfl) hd1 ?_
   simp only [List.take_succ_cons,List.take_zero,List.drop_zero,List.drop_succ_cons,gP,List.map_cons,List.map_nil]
   apply aH.step
   case aB=>
    intro c A w' hok hC hO hD
    have e8:=hO 8 (by rfl)
    simp [Act.eval] at e8
    simp [au,ah,aj,Act.eval,Region.binds] at hD
    simp [go_sem,gd,Oper.wp,hD,e8]
    exact ak.mk (ql.refl _ _) hC (ah.mk _ _)
   apply aH.step
   case aB=>
    intro c A w' hok hC hO hD
    simp [au,ah,aj,Act.eval,Region.binds] at hD
    simp [go_sem,gd,Oper.wp,hD,Y0,hC]
    exact ak.mk (ql.refl _ _) hC (ah.mk _ _)
   apply aH.step
   case aB=>
    intro c A w' hok hC hO hD
    have e3:=hO 3 (by rfl)
    simp [Act.eval] at e3
    simp [au,ah,aj,Act.eval,Region.binds] at hD
    simp [go_sem,gd,Oper.wp,hD,e3]
    exact ak.mk (ql.refl _ _) hC (ah.mk _ _)
   simp only [List.nil_append,List.cons_append]
   apply aH.step
   case aB=>
    intro c A w' hok hC hO hD
    have e3:=hO 3 (by rfl)
    simp [Act.eval] at e3
    simp [au,ah,aj,Act.eval,Region.binds] at hD
    simp [go_sem,gd,Oper.wp,hD,e3]
    exact ak.mk (ql.refl _ _) hC (ah.mk _ _)
   apply aH.step
   case aB=>
    intro c A w' hok hC hO hD
    simp [au,ah,aj,Act.eval,Region.binds] at hD
    simp [go_sem,gd,Oper.wp,hD]
    exact ak.mk (ql.refl _ _) hC (ah.mk _ _)
   apply aH.step
   case aB=>
    intro c A w' hok hC hO hD
    simp [au,ah,aj,Act.eval,Region.binds] at hD
    simp [go_sem,gd,Oper.wp,hD]
    exact ak.mk (ql.refl _ _) hC (ah.mk _ _)
   simp only [List.nil_append,List.cons_append]
   apply aH.step
   case aB=>
    intro c A w' hok hC hO hD
    simp [au,ah,aj,Act.eval,Region.binds] at hD
    simp [go_sem,gd,Oper.wp,hD,K0,hC]
    exact ak.mk (ql.refl _ _) hC (ah.mk _ _)
   refine aH.some (fun v _=> ∃r':Nat,v= .int .i64 (r':Int)∧r' < 3) (fun _ _ _ _ h=>h) ?_ ?_
   ·intro c A w' hok hC hO hD
    simp [au,ah,aj,Act.eval,Region.binds] at hD
    simp [go_sem,gd,Oper.wp,hD]
    obtain ⟨H',h1,h2,h3⟩:=hC
    refine (jk T H' [] 3 w' (by unfold aX; decide) h1).mono ?_
    rintro e w2 ⟨r',rfl,hr1,-,hM,hI⟩
    have hle:ql T w' w2:=ql.mk h1 hI (Hx.refl _ _) hM.mm
    exact ak.mk hle (CM.le ⟨H',h1,h2,h3⟩ hle) ⟨r',rfl,by have:=hr1 (by decide); omega⟩
   refine aH.some (fun v w'=> ∃r':Nat,v= .int .i64 (1 + (r':Int))∧r' < 3) (fun _ _ _ _ h=>h) ?_ ?_
   ·intro c A w' hok hC hO hD
    simp [au,ah,aj,Act.eval,Region.binds] at hD
    obtain ⟨r',hr',h1⟩:=hD
    have hwr:IntKind.i64.wrap (1 + (r':Int))=1 + (r':Int):=IntWalk.i64_in _ (by omega)
    simp [go_sem,gd,Oper.wp,hr',hwr]
    exact ak.mk (ql.refl _ _) hC (⟨r',rfl,h1⟩)
   simp only [List.nil_append,List.cons_append]
   refine aH.some (fun v w'=> ∃(l2:List aD) (H2:Option Nat),cZ w' T H2 []∧qy wd.heap.size H2 w' v l2∧(∀x ∈ l2,ko x.h x.b x.e)∧1≤l2.length∧l2.length≤1000) ?_ ?_ ?_
   ·rintro v w1 w' hle ⟨l2,H2,h1,h2,h3⟩
    obtain ⟨H3,k1,k2,k3⟩:=hle H2 h1
    exact ⟨l2,H3,k1,h2.next (k3.xX Ni.out.1 Ni.out.2.1) k2,h3⟩
   ·intro c A w' hok hC hO hD
    simp [au,ah,aj,Act.eval,Region.binds] at hD
    obtain ⟨SH,⟨r',hr',h3'⟩,-⟩:=hD
    simp [go_sem,gd,Oper.wp,SH,hr']
    obtain ⟨H',h1,h2,h3⟩:=hC
    refine (HST.out w' H' (1 + (r':Int)) h1 (by omega) (by omega)).mono ?_
    rintro e w2 ⟨v,l2,H2,rfl,hg,hok2,hl1,hl2,hx,hM,hI⟩
    have hle:=ql.mk h1 hI hx hM
    exact ak.mk hle (CM.le ⟨H',h1,h2,h3⟩ hle) ⟨l2,H2,hI,hg.weak h3.size,hok2,hl1,hl2⟩
   try simp only [List.nil_append,List.cons_append]
   refine aH.done ?_
   intro wz bK
   try simp only [List.drop_zero,List.drop_succ_cons]
   intro v0 h0 v1 h1 v2 h2 v3 h3 v4 h4 v5 h5 v6 h6 v7 h7 v8 h8 v9 h9
   have h0':=Eq.symm (show v0=_ from h0)
   subst h0'
   have h1':=Eq.symm (show v1=_ from h1)
   subst h1'
   have h2':=Eq.symm (show v2=_ from h2)
   subst h2'
   have h3':=Eq.symm (show v3=_ from h3)
   subst h3'
   have h4':=Eq.symm (show v4=_ from h4)
   subst h4'
   have h5':=Eq.symm (show v5=_ from h5)
   subst h5'
   have h6':=Eq.symm (show v6=_ from h6)
   subst h6'
   clear h0 h1 h2 h3 h4 h5 h6 h7 h8
   obtain ⟨l2,H2,hi2,hg2,hok2,hl1,hl2⟩:=h9
   clear hd1 Y0 K0
   refine rV ?_
   go_simp
   obtain ⟨Vn,k1,k2,k3⟩:=bK
   obtain rfl:=hi2.uniq k1
   have uK:=Lib.hid (HT.out.go k3 k2 k1)
   obtain ⟨g2,cap2,rfl,-,-⟩:=hg2.own.form (by omega)
   have HG2:=Lib.hid hg2
   have uq:=Lib.hid (And.intro hok2 (And.intro hl1 hl2))
   have Rk:=Lib.hid HT.out.row.lt
   clear hi2 hok2 hl1 hl2 k1 k2 k3 hg2
   refine gY 10 [[],[0],[],[],[3],[3,4],[3,4,5],[3,4,5,6],[3,4,5,6,7],[2,3,4,5,6,7,8],[0,1,2,3,4,5,6,7,8,9],[0,1,2,3,4,5,6,7,8,9,10],[0,1,2,3,4,5,6,7,8,9,10,11]] rfl rfl rfl rfl rfl (by kernel_rfl) (by kernel_rfl) (by kernel_rfl) ?_
   obtain ⟨i0,hi0,hz0,hz1,hz2⟩:=jI (α:=Nat) (β:=Nat) sH
   have hkm:0 < l2.length:=uq.out.2.1
   have hkl:l.length + l2.length≤maxLen:=by have:=HL.out; have:=uq.out.2.2; unfold maxLen; omega
   have hkb:(l.length + l2.length) * 176≤140737488355328:=by have:=HL.out; have:=uq.out.2.2; omega
   refine wp_append_lies wz _ _ _ (by rfl) (tb + 1) 42 i0 _ 11 176 Tryd.underlying33 hi0 hz0 hz1 hz2 (by rfl) (by omega) vB l.length (l.flatMap aD.f) (by rfl) uK.out.row.own ⟨g2,0,none⟩ l2.length cap2 (l2.flatMap aD.f) (by rfl) (og pQ l2) (jd.news pQ HG2.out rfl) (Q0 _) hkm hkl hkb uK.out.sz _ rfl ?_
   intro g' cap' w5 hown hgr hmv zy
   clear hi0 hz0 hz1 hz2 hkl hkb hkm
   have uS:=Lib.hid (uK.out.push (ys:=l2) (n:=l.length + l2.length) (fun y hy=>(HG2.out.stay y hy).weak Ni.out.2.2 (fun k q1 q2 e=>by
    rcases e with e | e
    ·have:=(Rk.out k e).2; omega
    ·exact .inr e)) uq.out.1 rfl hown hgr hmv)
   have sw:=Lib.hid uS.out.1
   have I9:Hid ((l++l2).length≤1010):=Lib.hid (by rw [List.length_append]; have:=HL.out; have:=uq.out.2.2; omega)
   have y3:w5.cell? ⟨tb,3,none⟩=some vB:=bL uS.out.2 rfl
   have f3:w5.frozen? ⟨tb,3,none⟩=false:=dH uS.out.2
   clear hown hgr hmv zy uS uK HG2 uq Rk HL HT
   generalize l++l2=l6 at *
   go_simp
   refine bG 11 12 [] [[],[0],[],[],[3],[3,4],[3,4,5],[3,4,5,6],[3,4,5,6,7],[2,3,4,5,6,7,8],[0,1,2,3,4,5,6,7,8,9],[0,1,2,3,4,5,6,7,8,9,10],[0,1,2,3,4,5,6,7,8,9,10,11]] [[]] (fun _ w'=>w'=w5) (fun w w'=>w=w') [69] rfl rfl (by rfl) (by kernel_rfl) (by kernel_rfl) (by kernel_rfl) (by kernel_rfl) (by kernel_rfl) (by rfl) (fun _=>rfl) (by rfl) rfl ?_
   simp only [List.take_succ_cons,List.take_zero,List.drop_zero,List.drop_succ_cons,gP,List.map_cons,List.map_nil]
   apply aH.step
   case aB=>
    intro c A w' hok hC hO hD
    have e8:=hO 8 (by rfl)
    simp [Act.eval] at e8
    simp [au,ah,aj,Act.eval,Region.binds] at hD
    simp [go_sem,gd,Oper.wp,hD,e8]
    exact ak.mk rfl hC (ah.mk _ _)
   try simp only [List.nil_append,List.cons_append]
   refine aH.done ?_
   intro wz bK
   try simp only [List.drop_zero,List.drop_succ_cons]
   intro v0 h0
   have h0':=Eq.symm (show v0=_ from h0)
   subst h0'
   clear h0
   refine bM.nil ?_
   go_simp
   refine gY 12 [[],[0],[],[],[3],[3,4],[3,4,5],[3,4,5,6],[3,4,5,6,7],[2,3,4,5,6,7,8],[0,1,2,3,4,5,6,7,8,9],[0,1,2,3,4,5,6,7,8,9,10],[0,1,2,3,4,5,6,7,8,9,10,11]] rfl rfl rfl rfl rfl (by kernel_rfl) (by kernel_rfl) (by kernel_rfl) ?_
   subst bK
   simp [go_sem,Oper.wp,y3,f3]
   refine dQ rfl ?_
   clear y3 f3
   go_simp
   generalize fD:World.setCell wz _ _=w7 at *
   clear fD
   obtain ⟨v6,tF⟩: ∃v,Hid (TM T wa H gl tb s H2 w7 v l6):=⟨_,sw⟩
   clear sw
   have c0:=tF.out.mi.ptr
   go_upto_region 16 with fail
   go_cut [79] (fun Un W'=> ∃q:Bool,Un= .bool q∧TM T wa H gl tb s H2 W' v6 l6)
   case first=>
    cases hkb:((k:Int) == 0)
    ·go_wp2_with fail
     go_meet
     exact ⟨_,rfl,tF.out⟩
    ·go_wp2_with fail
     refine (jk T H2 [] 3 _ (by unfold aX; decide) tF.out.mi).mono ?_
     rintro e w8 ⟨r',rfl,-,-,hM,hI⟩
     have Dv:=Lib.hid (tF.out.go hM.mm (Hx.refl _ _) hI)
     clear hM hI
     go_wp2_with fail
     go_meet
     exact ⟨_,rfl,Dv.out⟩
   obtain ⟨q,rfl,xg⟩:=hcut
   obtain ⟨w8,rfl⟩: ∃W:World,W=wc:=⟨_,rfl⟩
   have HT:=Lib.hid xg
   clear xg tF c0
   go_upto_if 79 with fail
   go_cut [8] (fun s8 W'=>s8= .pointer (some ⟨tb,0,none⟩)∧ ∃vB l,l.length≤1011∧TM T wa H gl tb s H2 W' vB l)
   case first=>
    cases q
    ·go_wp2_with fail
     go_meet
     exact ⟨rfl,_,_,by have:=I9.out; omega,HT.out⟩
    ·go_upto_region 17 with fail
     have hd1:Below w8.heap.size w8 (w8.drewN 1):=below_drewN (Below.refl _ _) 1
     obtain ⟨s',hs1,hs2,hs3⟩:=DU (k:=1) (by decide)
     have HN:Hid (w8.heap[nb]? =some (.cells Ir 9 (0,0))):=Lib.hid (za.out.go HT.out.km.1 HT.out.km.2 HT.out.mi).nms
     have Y0: ∀w',Below w8.heap.size w8 w'→w'.cell? ⟨tb,3,none⟩=some v6:=fun w' h=>bL ((h.block tb (Array.getElem?_eq_some_iff.1 HT.out.box).1).trans HT.out.box) rfl
     have K1: ∀w',Below w8.heap.size w8 w'→w'.cell? ⟨nb,1,none⟩=some (.string s'):=fun w' h=>bL ((h.block nb (Array.getElem?_eq_some_iff.1 HN.out).1).trans HN.out) hs2
     have NM:=Lib.hid hs3
     clear hs1 hs2 hs3
     refine cu (by kernel_rfl) rfl ?_
     refine bG 0 7 [] [[],[0],[],[2],[2,3],[2,3,4],[2,3,4,5],[0,1,2,3,4,5,6],[0,1,2,3,4,5,6,7],[0,1,2,3,4,5,6,7,8]] [[],[],[],[],[],[],[]] (fun _ w'=>Below w8.heap.size w8 w') (fun w w'=>Below w.heap.size w w') [80,81,82,83,84,85,86] rfl rfl (by rfl) (by kernel_rfl) (by kernel_rfl) (by kernel_rfl) (by kernel_rfl) (by kernel_rfl) (by rfl) (fun _=>Below.refl _ _) (by rfl) hd1 ?_
     simp only [List.take_succ_cons,List.take_zero,List.drop_zero,List.drop_succ_cons,gP,List.map_cons,List.map_nil]
     apply aH.step
     case aB=>
      intro c A w' hok hC hO hD
      have e8:=hO 8 (by rfl)
      simp [Act.eval] at e8
      simp [au,ah,aj,Act.eval,Region.binds] at hD
      simp [go_sem,gd,Oper.wp,hD,e8]
      exact ak.mk (Below.refl _ _) hC (ah.mk _ _)
     apply aH.step
     case aB=>
      intro c A w' hok hC hO hD
      simp [au,ah,aj,Act.eval,Region.binds] at hD
      simp [go_sem,gd,Oper.wp,hD,Y0,hC]
      exact ak.mk (Below.refl _ _) hC (ah.mk _ _)
     apply aH.step
     case aB=>
      intro c A w' hok hC hO hD
      have e6:=hO 6 (by rfl)
      simp [Act.eval] at e6
      simp [au,ah,aj,Act.eval,Region.binds] at hD
      simp [go_sem,gd,Oper.wp,hD,e6]
      exact ak.mk (Below.refl _ _) hC (ah.mk _ _)
     simp only [List.nil_append,List.cons_append]
     apply aH.step
     case aB=>
      intro c A w' hok hC hO hD
      simp [au,ah,aj,Act.eval,Region.binds] at hD
      simp [go_sem,gd,Oper.wp,hD]
      exact ak.mk (Below.refl _ _) hC (ah.mk _ _)
     apply aH.step
     case aB=>
      intro c A w' hok hC hO hD
      simp [au,ah,aj,Act.eval,Region.binds] at hD
      simp [go_sem,gd,Oper.wp,hD,K1,hC]
      exact ak.mk (Below.refl _ _) hC (ah.mk _ _)
     simp only [List.nil_append,List.cons_append]
     apply aH.step
     case aB=>
      intro c A w' hok hC hO hD
      simp [au,ah,aj,Act.eval,Region.binds] at hD
      simp [go_sem,gd,Oper.wp,hD]
      exact ak.mk (Below.refl _ _) hC (ah.mk _ _)
     refine aH.some (fun v w'=> ∃bb,v= .slice (some ⟨bb,0,none⟩) 1 1∧w8.heap.size≤bb∧w'.heap[bb]? =some (.cells (aD.f (⟨aG 13 s' .nil 0 0 ⟨#[]⟩ .nil,.nil,.nil,gq⟩:aD)).toArray 42 (0,0))) ?_ ?_ ?_
     ·rintro v w1 w' hle ⟨g,h1,h2,h3⟩
      exact ⟨g,h1,h2,(hle.block g (Array.getElem?_eq_some_iff.1 h3).1).trans h3⟩
     ·intro c A w' hok hC hO hD
      simp [au,ah,aj,Act.eval,Region.binds] at hD
      simp [go_sem,gd,Oper.wp,hD]
      exact ak.mk (d:=_) (v:= .slice (some ⟨_,0,none⟩) 1 1) (ay _ _) (hC.trans ((ay _ _).mono hC.size)) ⟨_,rfl,hC.size,heap_alloc_new _ _⟩
     try simp only [List.nil_append,List.cons_append]
     refine aH.done ?_
     intro wz bK
     try simp only [List.drop_zero,List.drop_succ_cons]
     intro v0 h0 v1 h1 v2 h2 v3 h3 v4 h4 v5 h5 v6 h6
     have h0':=Eq.symm (show v0=_ from h0)
     subst h0'
     have h1':=Eq.symm (show v1=_ from h1)
     subst h1'
     have h2':=Eq.symm (show v2=_ from h2)
     subst h2'
     have h3':=Eq.symm (show v3=_ from h3)
     subst h3'
     have h4':=Eq.symm (show v4=_ from h4)
     subst h4'
     have h5':=Eq.symm (show v5=_ from h5)
     subst h5'
     clear h0 h1 h2 h3 h4 h5
     obtain ⟨bb,rfl,hbb,hcell⟩:=h6
     clear hd1 Y0 K1
     refine rV ?_
     go_simp
     refine gY 7 [[],[0],[],[2],[2,3],[2,3,4],[2,3,4,5],[0,1,2,3,4,5,6],[0,1,2,3,4,5,6,7],[0,1,2,3,4,5,6,7,8]] rfl rfl rfl rfl rfl (by kernel_rfl) (by kernel_rfl) (by kernel_rfl) ?_
     obtain ⟨i0,hi0,hz0,hz1,hz2⟩:=jI (α:=Nat) (β:=Nat) sH
     have uK:=Lib.hid (HT.out.go (Mm.of_below bK) (Hx.refl _ _) (HT.out.mi.below bK))
     have hkl:l6.length + 1≤maxLen:=by have:=I9.out; unfold maxLen; omega
     have hkb:(l6.length + 1) * 176≤140737488355328:=by have:=I9.out; omega
     refine wp_append_lies wz _ _ _ (by rfl) (tb + 1) 42 i0 _ 11 176 Tryd.underlying33 hi0 hz0 hz1 hz2 (by rfl) (by omega) v6 l6.length (l6.flatMap aD.f) (by rfl) uK.out.row.own ⟨bb,0,none⟩ 1 1 (aD.f (⟨aG 13 s' .nil 0 0 ⟨#[]⟩ .nil,.nil,.nil,gq⟩:aD)) (by rfl) (by rfl) (jM hcell) (qO _) (by decide) hkl hkb uK.out.sz _ rfl ?_
     intro g' cap' w5 hown hgr hmv zy
     clear hi0 hz0 hz1 hz2 hcell bK hbb hkl hkb
     have uS:=Lib.hid (uK.out.push (ys:=[(⟨aG 13 s' .nil 0 0 ⟨#[]⟩ .nil,.nil,.nil,gq⟩:aD)]) (n:=l6.length + 1) (fun y hy=>by rw [List.mem_singleton.1 hy]; exact fun _ _=>⟨trivial,trivial,trivial,trivial⟩) (fun y hy=>by rw [List.mem_singleton.1 hy]; exact rD (by unfold aX; decide) NM.out nE nil_le (Nat.zero_le _) (Nat.zero_le _)) rfl (by rw [List.flatMap_singleton]; exact hown) hgr hmv)
     have sw:=Lib.hid uS.out.1
     have y3:w5.cell? ⟨tb,3,none⟩=some v6:=bL uS.out.2 rfl
     have f3:w5.frozen? ⟨tb,3,none⟩=false:=dH uS.out.2
     clear hown hgr hmv zy uS uK
     go_simp
     refine bG 8 9 [] [[],[0],[],[2],[2,3],[2,3,4],[2,3,4,5],[0,1,2,3,4,5,6],[0,1,2,3,4,5,6,7],[0,1,2,3,4,5,6,7,8]] [[]] (fun _ w'=>w'=w5) (fun w w'=>w=w') [88] rfl rfl (by rfl) (by kernel_rfl) (by kernel_rfl) (by kernel_rfl) (by kernel_rfl) (by kernel_rfl) (by rfl) (fun _=>rfl) (by rfl) rfl ?_
     simp only [List.take_succ_cons,List.take_zero,List.drop_zero,List.drop_succ_cons,gP,List.map_cons,List.map_nil]
     apply aH.step
     case aB=>
      intro c A w' hok hC hO hD
      have e8:=hO 8 (by rfl)
      simp [Act.eval] at e8
      simp [au,ah,aj,Act.eval,Region.binds] at hD
      simp [go_sem,gd,Oper.wp,hD,e8]
      exact ak.mk rfl hC (ah.mk _ _)
     try simp only [List.nil_append,List.cons_append]
     refine aH.done ?_
     intro wz bK
     try simp only [List.drop_zero,List.drop_succ_cons]
     intro v0 h0
     have h0':=Eq.symm (show v0=_ from h0)
     subst h0'
     clear h0
     refine bM.nil ?_
     go_simp
     refine gY 9 [[],[0],[],[2],[2,3],[2,3,4],[2,3,4,5],[0,1,2,3,4,5,6],[0,1,2,3,4,5,6,7],[0,1,2,3,4,5,6,7,8]] rfl rfl rfl rfl rfl (by kernel_rfl) (by kernel_rfl) (by kernel_rfl) ?_
     subst bK
     simp [go_sem,Oper.wp,y3,f3]
     refine dQ rfl ?_
     clear y3 f3
     go_simp
     go_wp2_with fail
     go_meet
     exact ⟨rfl,_,_,by rw [List.length_append]; have:=I9.out; simp; omega,sw.out⟩
   obtain ⟨rfl,vB,l,OU,xg⟩:=hcut
   obtain ⟨w9,rfl⟩: ∃W:World,W=wc:=⟨_,rfl⟩
   have HT:=Lib.hid xg
   have HL:=Lib.hid OU
   clear xg OU I9 HST
   have tq:=Lib.hid (za.out.go HT.out.km.1 HT.out.km.2 HT.out.mi)
   obtain ⟨ab,cb,rfl,hst⟩:=qy.says HT.out.row HT.out.ok
   have bP:=Lib.hid hst
   clear hst
   have y0:w9.cell? ⟨tb,0,none⟩=some (.string s):=bL HT.out.box rfl
   have y1:w9.cell? ⟨tb,1,none⟩=some (.int .i64 0):=bL HT.out.box rfl
   have y2:w9.cell? ⟨tb,2,none⟩=some (.slice (some ⟨gl,0,none⟩) 2 2):=bL HT.out.box rfl
   have y3:w9.cell? ⟨tb,3,none⟩=some (.slice ab (aN l).len cb):=bL HT.out.box rfl
   have yT:w9.cell? ⟨pb,1,none⟩=some vT:=bL tq.out.box rfl
   have HX:Hid (fJ (nb + 1) (qo vT.ownBlock H2) w9 (bU.I (⟨⟨s,0,gJ,aN l⟩,some ⟨gl,0,none⟩,2,ab,cb⟩:bU))):=Lib.hid (fun w' h'=>by
    have q1:=za.out.sz; have q2:=kF.out; have q3:=za.out.gt.lt
    have hl:=(Array.getElem?_eq_some_iff.1 HT.out.loc).1
    refine ⟨CJ ((h'.2 gl (by omega) (fun e=> ?_) hl).trans HT.out.loc),bP.out w' (h'.weak (by omega) (fun k h1 h2 e=> ?_))⟩
    ·rcases e with e | e
     ·have:=(q3 gl e).2; omega
     ·have:=HT.out.hne gl e; omega
    ·rcases e with e | e
     ·have:=(q3 k e).2; omega
     ·exact e)
   have lX:Hid (El (⟨⟨s,0,gJ,aN l⟩,some ⟨gl,0,none⟩,2,ab,cb⟩:bU)):=Lib.hid ⟨⟨⟨HS.out.2,ny,by show (2:Nat)≤maxLen; unfold maxLen; decide,by show (aN l).len≤maxLen; rw [jK]; have:=HL.out; unfold maxLen; omega⟩,Nat.le_refl 2⟩,rfl,rfl⟩
   have Oq:=Lib.hid (tq.out.go (Mm.of_below (ay w9 (.cells (bU.f (⟨⟨s,0,gJ,aN l⟩,some ⟨gl,0,none⟩,2,ab,cb⟩:bU)).toArray 35))) (Hx.refl _ _) (tq.out.mi.below (ay _ _)))
   have rz:=Lib.hid (jM (heap_alloc_new w9 (.cells (bU.f (⟨⟨s,0,gJ,aN l⟩,some ⟨gl,0,none⟩,2,ab,cb⟩:bU)).toArray 35)))
   obtain ⟨i0,hi,hz0,hz1,hz2⟩:=jI (α:=Nat) (β:=Nat) Q6
   have hbs:nb + 1≤w9.heap.size + 1:=Nat.le_succ_of_le tq.out.sz
   have hkl:bZ.length + 1≤maxLen:=by rw [rZ.out]; unfold maxLen; omega
   have hkb:(bZ.length + 1) * 72≤140737488355328:=by rw [rZ.out]; omega
   go_wp2_with (at_builtin; refine wpList_append_lies _ rfl _ _ 24 rfl (nb + 1) 35 i0 _ 4 72 Tryd.underlying24 hi hz0 hz1 hz2 rfl (by decide) _ _ _ rfl Oq.out.gt.own ⟨w9.heap.size,0,none⟩ 1 1 (bU.f (⟨⟨s,0,gJ,aN l⟩,some ⟨gl,0,none⟩,2,ab,cb⟩:bU)) rfl rfl rz.out (Sn _) (by decide) hkl hkb (by simpa using hbs) _ rfl ?_)
   clear hi hz0 hz1 hz2 hbs hkl hkb
   intro g' cap2 FC hown hgr hmv hlt'
   have JG:=Lib.hid (Oq.out.push (HX.out.go (jT.of_below (ay _ _)) (fun _ _ _ e=>e)) lX.out (by rw [rZ.out]; exact HS.out.1) rfl hown hgr (by simpa using hmv))
   have Lp:Hid (wP (w.heap.size + 1) gD (FC.setCell ⟨pb,1,none⟩ (.slice (some ⟨g',0,none⟩) (bZ.length + 1) cap2)) g' (bZ++[(⟨⟨s,0,gJ,aN l⟩,some ⟨gl,0,none⟩,2,ab,cb⟩:bU)])):=Lib.hid (MG za.out HT.out (by rw [jK]) (by have:=vU.out; have:=za.out.lt; omega) (by have:=HL.out; omega) (fun k h1 h2 h3=>(aO _ _ _ rfl (by show pb≠k; omega)).trans ((hgr.block k (by simp; omega) (fun e=>h2 e.symm)).trans ((ay w9 _).block k h1))) (by have:=hgr.size; simp [World.setCell] at this ⊢; omega) (by
    rcases hmv with h | h
    ·exact .inl h
    ·right; omega))
   have z1:FC.cell? ⟨pb,1,none⟩=some vT:=bL JG.out.2 rfl
   have f1:FC.frozen? ⟨pb,1,none⟩=false:=dH JG.out.2
   clear hown hgr hmv hlt' y0 y1 y2 y3 yT rz Oq HX bP lX HT tq
   go_wp2_with fail
   go_roundw
   case rel=>exact ⟨k + 1,H2,_,_,by go_num,by omega,by simp [rZ.out],JG.out.1,fun _=>⟨g',rfl,Lp.out⟩⟩
   case measure=>simp [intOf]; omega
  ·have hk2:k=2 + r:=by omega
   obtain ⟨gT,zZ,Qx⟩:=Ow.out (by omega)
   obtain ⟨xW,av,rfl,-,-⟩:=HP.out.gt.own.form (by rw [rZ.out]; omega)
   obtain rfl:xW=gT:=by injection zZ
   have Lp:=Lib.hid Qx
   have HAT:Hid (Pr.At wr ⟨gQ,bZ.map (·.t)⟩ (some ⟨gD,0,none⟩) (some ⟨xW,0,none⟩)∧bZ.length≤av):=Lib.hid (by
    obtain ⟨ao,cp,e,hc,hs⟩:=yH.says HP.out.gt (fun x hx=>(HP.out.uf x hx).1)
    injection e with e1 e2 e3
    subst e1 e3
    exact ⟨⟨by show 9≤maxLen; unfold maxLen; decide,by show (bZ.map (·.t)).length≤maxLen; rw [List.length_map,rZ.out]; unfold maxLen; omega,Aw HP.out.dec,hs.now⟩,hc⟩)
   have QY:Hid (Calls Tryd.prog 10 #[.agg #[.slice (some ⟨gD,0,none⟩) 9 9,.slice (some ⟨xW,0,none⟩) bZ.length av]] wr fun e w'=>e= .returned (.tuple #[.int .i64 (iV ⟨gQ,bZ.map (·.t)⟩).1,.int .i64 (iV ⟨gQ,bZ.map (·.t)⟩).2])∧Below wr.heap.size wr w'):=Lib.hid (by
    have:=href ⟨gQ,bZ.map (·.t)⟩ wr (some ⟨gD,0,none⟩) (some ⟨xW,0,none⟩) 9 av HAT.out.1 (Nat.le_refl 9) (by show (bZ.map (·.t)).length≤av; rw [List.length_map]; exact HAT.out.2)
    rw [show (Pr.ts ⟨gQ,bZ.map (·.t)⟩).length=bZ.length from List.length_map _] at this
    exact this)
   have y0:=bL (j:=0) HP.out.box rfl
   have y1:=bL (j:=1) HP.out.box rfl
   have HRW:Hid (wr.heap[w.heap.size]? =some (.cells #[.slice none 0 0,.slice none 0 0] 26 (0,0))):=Lib.hid (HP.out.km.keep HR2.out (by have:=aM.out; omega) (by have:=aM.out; omega) (by simp))
   have NI:Hid (Below w.heap.size w wr):=Lib.hid (Kn wS.out HP.out.km (by have:=aM.out; omega) (by have:=aM.out; omega))
   clear Qx zZ Ow hk
   go_wp2_with fail
   refine QY.out.mono ?_
   rintro e wf ⟨rfl,hb⟩
   have U7:=Lib.hid hb
   have Ro:Hid ((iV ⟨gQ,bZ.map (·.t)⟩).1=0→qB (w.heap.size + 1) wf gD xW av bZ):=Lib.hid (fun hz=>qB.next (W:=wr) ⟨HP.out.dec,iA HP.out.gt.own (fun _ _=>rfl) (by have:=vU.out; have:=HP.out.lt; omega),HP.out.uf,FU HP.out.uf HP.out.nm (by rw [rZ.out]; omega) (by rw [rZ.out]; omega),Ma hz,Lp.out,by
    have:=HP.out.lt; have:=HS2.out; omega,by have:=(HP.out.gt.lt xW rfl).1; have:=HP.out.lt; omega⟩ (bT hb))
   have z0:wf.cell? ⟨pb,0,none⟩=some (.slice (some ⟨gD,0,none⟩) 9 9):=bL ((hb.block pb (Array.getElem?_eq_some_iff.1 HP.out.box).1).trans HP.out.box) rfl
   have z1:wf.cell? ⟨pb,1,none⟩=some (.slice (some ⟨xW,0,none⟩) bZ.length av):=bL ((hb.block pb (Array.getElem?_eq_some_iff.1 HP.out.box).1).trans HP.out.box) rfl
   have Bf:Hid (wf.heap[w.heap.size]? =some (.cells #[.slice none 0 0,.slice none 0 0] 26 (0,0))):=Lib.hid ((hb.block _ (Array.getElem?_eq_some_iff.1 HRW.out).1).trans HRW.out)
   have Ga:Hid (Below w.heap.size w wf):=Lib.hid (NI.out.trans (hb.mono NI.out.size))
   have r0:wf.cell? ⟨w.heap.size,0,none⟩=some (.slice none 0 0):=bL Bf.out rfl
   have r1:wf.cell? ⟨w.heap.size,1,none⟩=some (.slice none 0 0):=bL Bf.out rfl
   have rf: ∀j,wf.frozen? ⟨w.heap.size,j,none⟩=false:=fun j=>dH Bf.out
   clear hb QY HAT U7 HRW y0 y1
   generalize iV ⟨gQ,bZ.map (·.t)⟩=res at *
   obtain ⟨re,rl⟩:=res
   cases hz:(re != 0)
   ·go_wp2_with fail
    have hre:re=0:=by simpa using hz
    have Bt:=Lib.hid ((Ro.out hre).next (mI.trans (oD wf ⟨w.heap.size,0,none⟩ (.slice (some ⟨gD,0,none⟩) 9 9) (Nat.lt_succ_self w.heap.size)) (oD (wf.setCell ⟨w.heap.size,0,none⟩ (.slice (some ⟨gD,0,none⟩) 9 9)) ⟨w.heap.size,1,none⟩ (.slice (some ⟨xW,0,none⟩) bZ.length av) (Nat.lt_succ_self w.heap.size))))
    have U4:Hid (Below w.heap.size w ((wf.setCell ⟨w.heap.size,0,none⟩ (.slice (some ⟨gD,0,none⟩) 9 9)).setCell ⟨w.heap.size,1,none⟩ (.slice (some ⟨xW,0,none⟩) bZ.length av))):=Lib.hid ((Ga.out.setCell (by simp) _).setCell (by simp) _)
    exact bodyPost_ret (v:= .agg #[.slice (some ⟨gD,0,none⟩) 9 9,.slice (some ⟨xW,0,none⟩) bZ.length av]) (by simp [results,Tryd.results4,go_sem,r0,r1]) rfl ⟨gD,xW,av,bZ,rfl,Bt.out,U4.out⟩
   ·clear Ro z0 z1 HP Lp rZ
    go_upto_region 21 with fail
    go_wp2_with fail
    refine (Cn wf).mono ?_
    rintro e wg ⟨gE,rfl,R8,NH,hb⟩
    have HE:=Lib.hid (And.intro R8 (And.intro NH (Array.getElem?_eq_some_iff.1 NH).1))
    have Uo:=Lib.hid (Ga.out.trans (hb.mono Ga.out.size))
    have Pv:=Lib.hid ((hb.block _ (Array.getElem?_eq_some_iff.1 Bf.out).1).trans Bf.out)
    clear R8 NH hb r0 r1 rf
    go_wp2_with fail
    refine (yI 1 _).mono ?_
    rintro e wh ⟨rfl,hb⟩
    have PI:Hid (wh.heap[wg.heap.size]? =some (.cells wG 9 (0,0))∧wg.heap.size < wh.heap.size):=Lib.hid (by
     have h1:=(hb.block wg.heap.size (by simp)).trans (heap_alloc_new wg (.cells wG 9))
     exact ⟨h1,(Array.getElem?_eq_some_iff.1 h1).1⟩)
    have Nc:Hid (Below wg.heap.size wg wh):=Lib.hid ((ay _ _).trans (hb.mono (by simp)))
    clear hb
    go_wp2_with fail
    refine (dX ⟨#[120]⟩ 1 1 ⟨#[]⟩ .nil none 0 wh).mono ?_
    rintro e wi ⟨rfl,hb⟩
    have Uc:=Lib.hid ((hb.block _ PI.out.2).trans PI.out.1)
    have Rc:=Lib.hid (Nc.out.trans (hb.mono Nc.out.size))
    clear hb PI Nc
    have Lx:Hid (wi.heap[w.heap.size]? =some (.cells #[.slice none 0 0,.slice none 0 0] 26 (0,0))):=Lib.hid ((Rc.out.block _ (Array.getElem?_eq_some_iff.1 Pv.out).1).trans Pv.out)
    have r0:wi.cell? ⟨w.heap.size,0,none⟩=some (.slice none 0 0):=bL Lx.out rfl
    have r1:wi.cell? ⟨w.heap.size,1,none⟩=some (.slice none 0 0):=bL Lx.out rfl
    have rf: ∀j,wi.frozen? ⟨w.heap.size,j,none⟩=false:=fun j=>dH Lx.out
    have hlt2:w.heap.size < wi.heap.size:=(Array.getElem?_eq_some_iff.1 Lx.out).1
    unfold aY aG aK
    go_wp2_with fail
    have Bt:=Lib.hid (JD HE.out.1 (by have:=Ga.out.size; have:=(Array.getElem?_eq_some_iff.1 Bf.out).1; omega) HE.out.2.1 HE.out.2.2 Rc.out Uc.out Uo.out Pv.out)
    exact bodyPost_ret (v:= .agg #[.slice (some ⟨gE,0,none⟩) 9 9,.slice (some ⟨wi.heap.size + 1,0,none⟩) 1 1]) (by simp [results,Tryd.results4,go_sem,r0,r1,hlt2,Nat.lt_succ_of_lt hlt2]) rfl ⟨gE,wi.heap.size + 1,1,_,rfl,Bt.out.1,Bt.out.2⟩
end Go.Proofs.YtnknfoibmgphnaaDoor
