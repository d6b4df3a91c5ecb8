/-
  Contract of the reader's statement: keywords.
-/
import Derived.Test.YtehnipchbmjlhaaGreatDoorGRC
set_option linter.unusedSimpArgs false
set_option linter.unusedVariables false
set_option maxHeartbeats 40000000
set_option maxRecDepth 1000000
namespace Go.Proofs.YtehnipchbmjlhaaGreatDoor
open Go.RowKit
open Md Pz
theorem sW {ts:aA} (h:(nextK ts == 3)=true): ∃t r,ts=t ::r:=by
 cases ts with
 | nil=>exact absurd h (by simp [nextK])
 | cons t r=>exact ⟨t,r,rfl⟩
theorem Eu (w:World):(binOp .eql 198 (.func (.func 168) #[] #[]) .nilFunc).run Tryz.prog w= .ok (.bool false) w:=by kernel_rfl
theorem xW (R:Rp) (ts:aA) (w:World) (hI:aW w R ts) (h3:(nextK ts == 3)=true) (op:Int) (hop:aU op)
 (kQ:Hid (∀w,Calls Tryz.prog 158 #[.string (tx (aF ts))] w fun e w'=>e= .returned (.tuple #[.int .i64 op,.func (.func 168) #[] #[]])∧w=w')) (res:bn Sx)
 (HC:Hid (∀gt W,Pm R (gt + 1) (gt + 2) W ⟨hd op ((aZ ts:Nat):Int),.nil,.nil,zS⟩ ts.tail→Calls Tryz.prog 168 #[.pointer (some ⟨R.br,0,none⟩),.pointer (some ⟨gt + 1,0,none⟩)] W (lU R (gt + 1) (gt + 2) W res))):
 Calls Tryz.prog 130 #[.pointer (some ⟨R.br,0,none⟩)] w (qd R w (res.map zR)):=by
 have hk:nextK ts=3:=by simpa using h3
 obtain ⟨t0,r0,hr⟩:=sW h3
 have mY:=Lib.hid hr
 have dH:=Lib.hid hop
 clear h3 hr hop
 have hnf:=Eu
 have HI:=Lib.hid hI
 have HL:=Lib.hid (kg hI)
 have hlt:=hI.lt
 go_enter Tryz.func130,Tryz.ntmps130
 go_upto_region 1 with fail
 generalize hW:World.alloc w _=W0
 have HB0:Hid (Below w.heap.size w W0):=Lib.hid (by rw [← hW]; exact ah _ _)
 have HZ0:Hid (W0.heap[w.heap.size]? =some (.cells lZ 89 (0,0))):=Lib.hid (by rw [← hW]; exact heap_alloc_new _ _)
 have HN:=Lib.hid (gN R ts W0 (HI.out.below HB0.out))
 unfold kG at HN
 rw [hk] at HN
 clear hW hI hk
 go_wp2_with fail
 refine HN.out.mono ?_
 rintro e w1 ⟨rfl,h2⟩
 have HB1:=Lib.hid (HB0.out.trans (h2.mono HB0.out.size))
 have HZ1:=Lib.hid ((h2.block _ (Array.getElem?_eq_some_iff.1 HZ0.out).1).trans HZ0.out)
 clear h2 HN HB0 HZ0
 go_upto_region 3 with fail
 obtain ⟨gt,hg⟩: ∃g,w1.heap.size=g:=⟨_,rfl⟩
 rw [hg]
 generalize hW:World.alloc (World.alloc w1 _) _=W2
 have aT:=Lib.hid (lW HI.out HB1.out HZ1.out HL.out gt hg W2 hW)
 have e0:=aT.out.2.2.2.1
 have e1:=aT.out.2.2.2.2.1
 have bF:Hid (R.br < w.heap.size∧w.heap.size < gt):=Lib.hid ⟨hlt,aT.out.2.2.2.2.2⟩
 clear hW hg HB1 HZ1
 go_wp2_with fail
 refine (kQ.out _).mono ?_
 rintro e w3 ⟨rfl,rfl⟩
 have f0:=aT.out.1.free 0
 have c0:=aT.out.1.cell (j:=0) rfl
 go_upto_region 13 with fail
 generalize hW:World.setCell W2 _ _=W3
 have aR:Hid (Pm R (gt + 1) (gt + 2) W3 ⟨hd op ((aZ ts:Nat):Int),.nil,.nil,zS⟩ ts):=Lib.hid (by rw [← hW]; exact aT.out.1.op op dH.out)
 have eU:Hid (Fr R.br (gt + 1) W2 W3):=Lib.hid (by rw [← hW]; exact (Fr.refl _ _ _).set _ _ (.inl rfl))
 obtain ⟨pos,hp,q0,q1,fq,HX⟩:=aR.out.rd.open
 clear hW f0 c0 e0 e1 hnf kQ
 go_upto_region 14 with fail
 generalize hW:World.setCell W3 _ _=W4
 have HQ:Hid (aW W4 R ts.tail∧W3.grownBy W4 (some R.br)):=Lib.hid (by rw [← hW,mY.out]; exact HX.out t0 r0 mY.out)
 have dV:=Lib.hid (aR.out.then HQ.out.1 HQ.out.2)
 have dD:=Lib.hid (eU.out.trans (Fr.bZ HQ.out.2))
 clear hW q0 q1 fq HX aR HQ eU
 go_wp2_with fail
 refine (HC.out gt _ dV.out).mono ?_
 cases res with
 | no q=>
   rintro e w4 ⟨rfl,⟨x,h2⟩,h3⟩
   have dV:=Lib.hid h2
   have fU:=Lib.hid (dD.out.trans h3)
   clear h2 h3
   have gG:=Lib.hid (gM fU.out aT.out.2.2.1 (by have:=bF.out; omega) (by have:=bF.out; omega))
   obtain ⟨⟨y0,y1,y2,y3,y4,y5,y6,y7,y8,y9,iN⟩,fz⟩:=rC gG.out
   have z0:=fz 0
   have z1:=fz 1
   have z2:=fz 2
   have z3:=fz 3
   have z4:=fz 4
   have z5:=fz 5
   have z6:=fz 6
   have z7:=fz 7
   have z8:=fz 8
   have z9:=fz 9
   have qE:=fz 10
   obtain ⟨d0,d1,d2,d3,d4,d5,d6,d7,d8,d9,mh⟩:=gX dV.out
   clear fz
   go_wp2_with fail
   exact bodyPost_ret (v:= .tuple #[dx x.h x.b x.e x.s,.bool false]) (by simp [results,Tryz.results130,go_sem,dx,y0,y1,y2,y3,y4,y5,y6,y7,y8,y9,iN]) rfl (pq dV.out (fU.out.gr aT.out.2.1 (by have:=bF.out; omega)) bF.out.1)
 | ok y q=>
   rintro e w4 ⟨rfl,⟨s,h2⟩,h3⟩
   have dV:=Lib.hid h2
   have fU:=Lib.hid (dD.out.trans h3)
   clear h2 h3
   have gG:=Lib.hid (gM fU.out aT.out.2.2.1 (by have:=bF.out; omega) (by have:=bF.out; omega))
   obtain ⟨⟨y0,y1,y2,y3,y4,y5,y6,y7,y8,y9,iN⟩,fz⟩:=rC gG.out
   have z0:=fz 0
   have z1:=fz 1
   have z2:=fz 2
   have z3:=fz 3
   have z4:=fz 4
   have z5:=fz 5
   have z6:=fz 6
   have z7:=fz 7
   have z8:=fz 8
   have z9:=fz 9
   have qE:=fz 10
   obtain ⟨d0,d1,d2,d3,d4,d5,d6,d7,d8,d9,mh⟩:=gX dV.out
   clear fz
   go_wp2_with fail
   exact bodyPost_ret (v:= .tuple #[dx y.h y.b y.e s,.bool true]) (by simp [results,Tryz.results130,go_sem,dx,y0,y1,y2,y3,y4,y5,y6,y7,y8,y9,iN]) rfl (sS dV.out (fU.out.gr aT.out.2.1 (by have:=bF.out; omega)) bF.out.1 (by have:=bF.out; omega))
theorem Uc (w:World):(binOp .eql 198 (.func (.func 169) #[] #[]) .nilFunc).run Tryz.prog w= .ok (.bool false) w:=by kernel_rfl
theorem Eo (R:Rp) (ts:aA) (w:World) (hI:aW w R ts) (h3:(nextK ts == 3)=true) (op:Int) (hop:aU op)
 (kQ:Hid (∀w,Calls Tryz.prog 158 #[.string (tx (aF ts))] w fun e w'=>e= .returned (.tuple #[.int .i64 op,.func (.func 169) #[] #[]])∧w=w')) (res:bn Sx)
 (HC:Hid (∀gt W,Pm R (gt + 1) (gt + 2) W ⟨hd op ((aZ ts:Nat):Int),.nil,.nil,zS⟩ ts.tail→Calls Tryz.prog 169 #[.pointer (some ⟨R.br,0,none⟩),.pointer (some ⟨gt + 1,0,none⟩)] W (lU R (gt + 1) (gt + 2) W res))):
 Calls Tryz.prog 130 #[.pointer (some ⟨R.br,0,none⟩)] w (qd R w (res.map zR)):=by
 have hk:nextK ts=3:=by simpa using h3
 obtain ⟨t0,r0,hr⟩:=sW h3
 have mY:=Lib.hid hr
 have dH:=Lib.hid hop
 clear h3 hr hop
 have hnf:=Uc
 have HI:=Lib.hid hI
 have HL:=Lib.hid (kg hI)
 have hlt:=hI.lt
 go_enter Tryz.func130,Tryz.ntmps130
 go_upto_region 1 with fail
 generalize hW:World.alloc w _=W0
 have HB0:Hid (Below w.heap.size w W0):=Lib.hid (by rw [← hW]; exact ah _ _)
 have HZ0:Hid (W0.heap[w.heap.size]? =some (.cells lZ 89 (0,0))):=Lib.hid (by rw [← hW]; exact heap_alloc_new _ _)
 have HN:=Lib.hid (gN R ts W0 (HI.out.below HB0.out))
 unfold kG at HN
 rw [hk] at HN
 clear hW hI hk
 go_wp2_with fail
 refine HN.out.mono ?_
 rintro e w1 ⟨rfl,h2⟩
 have HB1:=Lib.hid (HB0.out.trans (h2.mono HB0.out.size))
 have HZ1:=Lib.hid ((h2.block _ (Array.getElem?_eq_some_iff.1 HZ0.out).1).trans HZ0.out)
 clear h2 HN HB0 HZ0
 go_upto_region 3 with fail
 obtain ⟨gt,hg⟩: ∃g,w1.heap.size=g:=⟨_,rfl⟩
 rw [hg]
 generalize hW:World.alloc (World.alloc w1 _) _=W2
 have aT:=Lib.hid (lW HI.out HB1.out HZ1.out HL.out gt hg W2 hW)
 have e0:=aT.out.2.2.2.1
 have e1:=aT.out.2.2.2.2.1
 have bF:Hid (R.br < w.heap.size∧w.heap.size < gt):=Lib.hid ⟨hlt,aT.out.2.2.2.2.2⟩
 clear hW hg HB1 HZ1
 go_wp2_with fail
 refine (kQ.out _).mono ?_
 rintro e w3 ⟨rfl,rfl⟩
 have f0:=aT.out.1.free 0
 have c0:=aT.out.1.cell (j:=0) rfl
 go_upto_region 13 with fail
 generalize hW:World.setCell W2 _ _=W3
 have aR:Hid (Pm R (gt + 1) (gt + 2) W3 ⟨hd op ((aZ ts:Nat):Int),.nil,.nil,zS⟩ ts):=Lib.hid (by rw [← hW]; exact aT.out.1.op op dH.out)
 have eU:Hid (Fr R.br (gt + 1) W2 W3):=Lib.hid (by rw [← hW]; exact (Fr.refl _ _ _).set _ _ (.inl rfl))
 obtain ⟨pos,hp,q0,q1,fq,HX⟩:=aR.out.rd.open
 clear hW f0 c0 e0 e1 hnf kQ
 go_upto_region 14 with fail
 generalize hW:World.setCell W3 _ _=W4
 have HQ:Hid (aW W4 R ts.tail∧W3.grownBy W4 (some R.br)):=Lib.hid (by rw [← hW,mY.out]; exact HX.out t0 r0 mY.out)
 have dV:=Lib.hid (aR.out.then HQ.out.1 HQ.out.2)
 have dD:=Lib.hid (eU.out.trans (Fr.bZ HQ.out.2))
 clear hW q0 q1 fq HX aR HQ eU
 go_wp2_with fail
 refine (HC.out gt _ dV.out).mono ?_
 cases res with
 | no q=>
   rintro e w4 ⟨rfl,⟨x,h2⟩,h3⟩
   have dV:=Lib.hid h2
   have fU:=Lib.hid (dD.out.trans h3)
   clear h2 h3
   have gG:=Lib.hid (gM fU.out aT.out.2.2.1 (by have:=bF.out; omega) (by have:=bF.out; omega))
   obtain ⟨⟨y0,y1,y2,y3,y4,y5,y6,y7,y8,y9,iN⟩,fz⟩:=rC gG.out
   have z0:=fz 0
   have z1:=fz 1
   have z2:=fz 2
   have z3:=fz 3
   have z4:=fz 4
   have z5:=fz 5
   have z6:=fz 6
   have z7:=fz 7
   have z8:=fz 8
   have z9:=fz 9
   have qE:=fz 10
   obtain ⟨d0,d1,d2,d3,d4,d5,d6,d7,d8,d9,mh⟩:=gX dV.out
   clear fz
   go_wp2_with fail
   exact bodyPost_ret (v:= .tuple #[dx x.h x.b x.e x.s,.bool false]) (by simp [results,Tryz.results130,go_sem,dx,y0,y1,y2,y3,y4,y5,y6,y7,y8,y9,iN]) rfl (pq dV.out (fU.out.gr aT.out.2.1 (by have:=bF.out; omega)) bF.out.1)
 | ok y q=>
   rintro e w4 ⟨rfl,⟨s,h2⟩,h3⟩
   have dV:=Lib.hid h2
   have fU:=Lib.hid (dD.out.trans h3)
   clear h2 h3
   have gG:=Lib.hid (gM fU.out aT.out.2.2.1 (by have:=bF.out; omega) (by have:=bF.out; omega))
   obtain ⟨⟨y0,y1,y2,y3,y4,y5,y6,y7,y8,y9,iN⟩,fz⟩:=rC gG.out
   have z0:=fz 0
   have z1:=fz 1
   have z2:=fz 2
   have z3:=fz 3
   have z4:=fz 4
   have z5:=fz 5
   have z6:=fz 6
   have z7:=fz 7
   have z8:=fz 8
   have z9:=fz 9
   have qE:=fz 10
   obtain ⟨d0,d1,d2,d3,d4,d5,d6,d7,d8,d9,mh⟩:=gX dV.out
   clear fz
   go_wp2_with fail
   exact bodyPost_ret (v:= .tuple #[dx y.h y.b y.e s,.bool true]) (by simp [results,Tryz.results130,go_sem,dx,y0,y1,y2,y3,y4,y5,y6,y7,y8,y9,iN]) rfl (sS dV.out (fU.out.gr aT.out.2.1 (by have:=bF.out; omega)) bF.out.1 (by have:=bF.out; omega))
theorem Ga (w:World):(binOp .eql 198 (.func (.func 170) #[] #[]) .nilFunc).run Tryz.prog w= .ok (.bool false) w:=by kernel_rfl
theorem mZ (R:Rp) (ts:aA) (w:World) (hI:aW w R ts) (h3:(nextK ts == 3)=true) (op:Int) (hop:aU op)
 (kQ:Hid (∀w,Calls Tryz.prog 158 #[.string (tx (aF ts))] w fun e w'=>e= .returned (.tuple #[.int .i64 op,.func (.func 170) #[] #[]])∧w=w')) (res:bn Sx)
 (HC:Hid (∀gt W,Pm R (gt + 1) (gt + 2) W ⟨hd op ((aZ ts:Nat):Int),.nil,.nil,zS⟩ ts.tail→Calls Tryz.prog 170 #[.pointer (some ⟨R.br,0,none⟩),.pointer (some ⟨gt + 1,0,none⟩)] W (lU R (gt + 1) (gt + 2) W res))):
 Calls Tryz.prog 130 #[.pointer (some ⟨R.br,0,none⟩)] w (qd R w (res.map zR)):=by
 have hk:nextK ts=3:=by simpa using h3
 obtain ⟨t0,r0,hr⟩:=sW h3
 have mY:=Lib.hid hr
 have dH:=Lib.hid hop
 clear h3 hr hop
 have hnf:=Ga
 have HI:=Lib.hid hI
 have HL:=Lib.hid (kg hI)
 have hlt:=hI.lt
 go_enter Tryz.func130,Tryz.ntmps130
 go_upto_region 1 with fail
 generalize hW:World.alloc w _=W0
 have HB0:Hid (Below w.heap.size w W0):=Lib.hid (by rw [← hW]; exact ah _ _)
 have HZ0:Hid (W0.heap[w.heap.size]? =some (.cells lZ 89 (0,0))):=Lib.hid (by rw [← hW]; exact heap_alloc_new _ _)
 have HN:=Lib.hid (gN R ts W0 (HI.out.below HB0.out))
 unfold kG at HN
 rw [hk] at HN
 clear hW hI hk
 go_wp2_with fail
 refine HN.out.mono ?_
 rintro e w1 ⟨rfl,h2⟩
 have HB1:=Lib.hid (HB0.out.trans (h2.mono HB0.out.size))
 have HZ1:=Lib.hid ((h2.block _ (Array.getElem?_eq_some_iff.1 HZ0.out).1).trans HZ0.out)
 clear h2 HN HB0 HZ0
 go_upto_region 3 with fail
 obtain ⟨gt,hg⟩: ∃g,w1.heap.size=g:=⟨_,rfl⟩
 rw [hg]
 generalize hW:World.alloc (World.alloc w1 _) _=W2
 have aT:=Lib.hid (lW HI.out HB1.out HZ1.out HL.out gt hg W2 hW)
 have e0:=aT.out.2.2.2.1
 have e1:=aT.out.2.2.2.2.1
 have bF:Hid (R.br < w.heap.size∧w.heap.size < gt):=Lib.hid ⟨hlt,aT.out.2.2.2.2.2⟩
 clear hW hg HB1 HZ1
 go_wp2_with fail
 refine (kQ.out _).mono ?_
 rintro e w3 ⟨rfl,rfl⟩
 have f0:=aT.out.1.free 0
 have c0:=aT.out.1.cell (j:=0) rfl
 go_upto_region 13 with fail
 generalize hW:World.setCell W2 _ _=W3
 have aR:Hid (Pm R (gt + 1) (gt + 2) W3 ⟨hd op ((aZ ts:Nat):Int),.nil,.nil,zS⟩ ts):=Lib.hid (by rw [← hW]; exact aT.out.1.op op dH.out)
 have eU:Hid (Fr R.br (gt + 1) W2 W3):=Lib.hid (by rw [← hW]; exact (Fr.refl _ _ _).set _ _ (.inl rfl))
 obtain ⟨pos,hp,q0,q1,fq,HX⟩:=aR.out.rd.open
 clear hW f0 c0 e0 e1 hnf kQ
 go_upto_region 14 with fail
 generalize hW:World.setCell W3 _ _=W4
 have HQ:Hid (aW W4 R ts.tail∧W3.grownBy W4 (some R.br)):=Lib.hid (by rw [← hW,mY.out]; exact HX.out t0 r0 mY.out)
 have dV:=Lib.hid (aR.out.then HQ.out.1 HQ.out.2)
 have dD:=Lib.hid (eU.out.trans (Fr.bZ HQ.out.2))
 clear hW q0 q1 fq HX aR HQ eU
 go_wp2_with fail
 refine (HC.out gt _ dV.out).mono ?_
 cases res with
 | no q=>
   rintro e w4 ⟨rfl,⟨x,h2⟩,h3⟩
   have dV:=Lib.hid h2
   have fU:=Lib.hid (dD.out.trans h3)
   clear h2 h3
   have gG:=Lib.hid (gM fU.out aT.out.2.2.1 (by have:=bF.out; omega) (by have:=bF.out; omega))
   obtain ⟨⟨y0,y1,y2,y3,y4,y5,y6,y7,y8,y9,iN⟩,fz⟩:=rC gG.out
   have z0:=fz 0
   have z1:=fz 1
   have z2:=fz 2
   have z3:=fz 3
   have z4:=fz 4
   have z5:=fz 5
   have z6:=fz 6
   have z7:=fz 7
   have z8:=fz 8
   have z9:=fz 9
   have qE:=fz 10
   obtain ⟨d0,d1,d2,d3,d4,d5,d6,d7,d8,d9,mh⟩:=gX dV.out
   clear fz
   go_wp2_with fail
   exact bodyPost_ret (v:= .tuple #[dx x.h x.b x.e x.s,.bool false]) (by simp [results,Tryz.results130,go_sem,dx,y0,y1,y2,y3,y4,y5,y6,y7,y8,y9,iN]) rfl (pq dV.out (fU.out.gr aT.out.2.1 (by have:=bF.out; omega)) bF.out.1)
 | ok y q=>
   rintro e w4 ⟨rfl,⟨s,h2⟩,h3⟩
   have dV:=Lib.hid h2
   have fU:=Lib.hid (dD.out.trans h3)
   clear h2 h3
   have gG:=Lib.hid (gM fU.out aT.out.2.2.1 (by have:=bF.out; omega) (by have:=bF.out; omega))
   obtain ⟨⟨y0,y1,y2,y3,y4,y5,y6,y7,y8,y9,iN⟩,fz⟩:=rC gG.out
   have z0:=fz 0
   have z1:=fz 1
   have z2:=fz 2
   have z3:=fz 3
   have z4:=fz 4
   have z5:=fz 5
   have z6:=fz 6
   have z7:=fz 7
   have z8:=fz 8
   have z9:=fz 9
   have qE:=fz 10
   obtain ⟨d0,d1,d2,d3,d4,d5,d6,d7,d8,d9,mh⟩:=gX dV.out
   clear fz
   go_wp2_with fail
   exact bodyPost_ret (v:= .tuple #[dx y.h y.b y.e s,.bool true]) (by simp [results,Tryz.results130,go_sem,dx,y0,y1,y2,y3,y4,y5,y6,y7,y8,y9,iN]) rfl (sS dV.out (fU.out.gr aT.out.2.1 (by have:=bF.out; omega)) bF.out.1 (by have:=bF.out; omega))
theorem G9 (w:World):(binOp .eql 198 (.func (.func 171) #[] #[]) .nilFunc).run Tryz.prog w= .ok (.bool false) w:=by kernel_rfl
theorem qG (R:Rp) (ts:aA) (w:World) (hI:aW w R ts) (h3:(nextK ts == 3)=true) (op:Int) (hop:aU op)
 (kQ:Hid (∀w,Calls Tryz.prog 158 #[.string (tx (aF ts))] w fun e w'=>e= .returned (.tuple #[.int .i64 op,.func (.func 171) #[] #[]])∧w=w')) (res:bn Sx)
 (HC:Hid (∀gt W,Pm R (gt + 1) (gt + 2) W ⟨hd op ((aZ ts:Nat):Int),.nil,.nil,zS⟩ ts.tail→Calls Tryz.prog 171 #[.pointer (some ⟨R.br,0,none⟩),.pointer (some ⟨gt + 1,0,none⟩)] W (lU R (gt + 1) (gt + 2) W res))):
 Calls Tryz.prog 130 #[.pointer (some ⟨R.br,0,none⟩)] w (qd R w (res.map zR)):=by
 have hk:nextK ts=3:=by simpa using h3
 obtain ⟨t0,r0,hr⟩:=sW h3
 have mY:=Lib.hid hr
 have dH:=Lib.hid hop
 clear h3 hr hop
 have hnf:=G9
 have HI:=Lib.hid hI
 have HL:=Lib.hid (kg hI)
 have hlt:=hI.lt
 go_enter Tryz.func130,Tryz.ntmps130
 go_upto_region 1 with fail
 generalize hW:World.alloc w _=W0
 have HB0:Hid (Below w.heap.size w W0):=Lib.hid (by rw [← hW]; exact ah _ _)
 have HZ0:Hid (W0.heap[w.heap.size]? =some (.cells lZ 89 (0,0))):=Lib.hid (by rw [← hW]; exact heap_alloc_new _ _)
 have HN:=Lib.hid (gN R ts W0 (HI.out.below HB0.out))
 unfold kG at HN
 rw [hk] at HN
 clear hW hI hk
 go_wp2_with fail
 refine HN.out.mono ?_
 rintro e w1 ⟨rfl,h2⟩
 have HB1:=Lib.hid (HB0.out.trans (h2.mono HB0.out.size))
 have HZ1:=Lib.hid ((h2.block _ (Array.getElem?_eq_some_iff.1 HZ0.out).1).trans HZ0.out)
 clear h2 HN HB0 HZ0
 go_upto_region 3 with fail
 obtain ⟨gt,hg⟩: ∃g,w1.heap.size=g:=⟨_,rfl⟩
 rw [hg]
 generalize hW:World.alloc (World.alloc w1 _) _=W2
 have aT:=Lib.hid (lW HI.out HB1.out HZ1.out HL.out gt hg W2 hW)
 have e0:=aT.out.2.2.2.1
 have e1:=aT.out.2.2.2.2.1
 have bF:Hid (R.br < w.heap.size∧w.heap.size < gt):=Lib.hid ⟨hlt,aT.out.2.2.2.2.2⟩
 clear hW hg HB1 HZ1
 go_wp2_with fail
 refine (kQ.out _).mono ?_
 rintro e w3 ⟨rfl,rfl⟩
 have f0:=aT.out.1.free 0
 have c0:=aT.out.1.cell (j:=0) rfl
 go_upto_region 13 with fail
 generalize hW:World.setCell W2 _ _=W3
 have aR:Hid (Pm R (gt + 1) (gt + 2) W3 ⟨hd op ((aZ ts:Nat):Int),.nil,.nil,zS⟩ ts):=Lib.hid (by rw [← hW]; exact aT.out.1.op op dH.out)
 have eU:Hid (Fr R.br (gt + 1) W2 W3):=Lib.hid (by rw [← hW]; exact (Fr.refl _ _ _).set _ _ (.inl rfl))
 obtain ⟨pos,hp,q0,q1,fq,HX⟩:=aR.out.rd.open
 clear hW f0 c0 e0 e1 hnf kQ
 go_upto_region 14 with fail
 generalize hW:World.setCell W3 _ _=W4
 have HQ:Hid (aW W4 R ts.tail∧W3.grownBy W4 (some R.br)):=Lib.hid (by rw [← hW,mY.out]; exact HX.out t0 r0 mY.out)
 have dV:=Lib.hid (aR.out.then HQ.out.1 HQ.out.2)
 have dD:=Lib.hid (eU.out.trans (Fr.bZ HQ.out.2))
 clear hW q0 q1 fq HX aR HQ eU
 go_wp2_with fail
 refine (HC.out gt _ dV.out).mono ?_
 cases res with
 | no q=>
   rintro e w4 ⟨rfl,⟨x,h2⟩,h3⟩
   have dV:=Lib.hid h2
   have fU:=Lib.hid (dD.out.trans h3)
   clear h2 h3
   have gG:=Lib.hid (gM fU.out aT.out.2.2.1 (by have:=bF.out; omega) (by have:=bF.out; omega))
   obtain ⟨⟨y0,y1,y2,y3,y4,y5,y6,y7,y8,y9,iN⟩,fz⟩:=rC gG.out
   have z0:=fz 0
   have z1:=fz 1
   have z2:=fz 2
   have z3:=fz 3
   have z4:=fz 4
   have z5:=fz 5
   have z6:=fz 6
   have z7:=fz 7
   have z8:=fz 8
   have z9:=fz 9
   have qE:=fz 10
   obtain ⟨d0,d1,d2,d3,d4,d5,d6,d7,d8,d9,mh⟩:=gX dV.out
   clear fz
   go_wp2_with fail
   exact bodyPost_ret (v:= .tuple #[dx x.h x.b x.e x.s,.bool false]) (by simp [results,Tryz.results130,go_sem,dx,y0,y1,y2,y3,y4,y5,y6,y7,y8,y9,iN]) rfl (pq dV.out (fU.out.gr aT.out.2.1 (by have:=bF.out; omega)) bF.out.1)
 | ok y q=>
   rintro e w4 ⟨rfl,⟨s,h2⟩,h3⟩
   have dV:=Lib.hid h2
   have fU:=Lib.hid (dD.out.trans h3)
   clear h2 h3
   have gG:=Lib.hid (gM fU.out aT.out.2.2.1 (by have:=bF.out; omega) (by have:=bF.out; omega))
   obtain ⟨⟨y0,y1,y2,y3,y4,y5,y6,y7,y8,y9,iN⟩,fz⟩:=rC gG.out
   have z0:=fz 0
   have z1:=fz 1
   have z2:=fz 2
   have z3:=fz 3
   have z4:=fz 4
   have z5:=fz 5
   have z6:=fz 6
   have z7:=fz 7
   have z8:=fz 8
   have z9:=fz 9
   have qE:=fz 10
   obtain ⟨d0,d1,d2,d3,d4,d5,d6,d7,d8,d9,mh⟩:=gX dV.out
   clear fz
   go_wp2_with fail
   exact bodyPost_ret (v:= .tuple #[dx y.h y.b y.e s,.bool true]) (by simp [results,Tryz.results130,go_sem,dx,y0,y1,y2,y3,y4,y5,y6,y7,y8,y9,iN]) rfl (sS dV.out (fU.out.gr aT.out.2.1 (by have:=bF.out; omega)) bF.out.1 (by have:=bF.out; omega))
theorem Rz (w:World):(binOp .eql 198 (.func (.func 172) #[] #[]) .nilFunc).run Tryz.prog w= .ok (.bool false) w:=by kernel_rfl
theorem lN (R:Rp) (ts:aA) (w:World) (hI:aW w R ts) (h3:(nextK ts == 3)=true) (op:Int) (hop:aU op)
 (kQ:Hid (∀w,Calls Tryz.prog 158 #[.string (tx (aF ts))] w fun e w'=>e= .returned (.tuple #[.int .i64 op,.func (.func 172) #[] #[]])∧w=w')) (res:bn Sx)
 (HC:Hid (∀gt W,Pm R (gt + 1) (gt + 2) W ⟨hd op ((aZ ts:Nat):Int),.nil,.nil,zS⟩ ts.tail→Calls Tryz.prog 172 #[.pointer (some ⟨R.br,0,none⟩),.pointer (some ⟨gt + 1,0,none⟩)] W (lU R (gt + 1) (gt + 2) W res))):
 Calls Tryz.prog 130 #[.pointer (some ⟨R.br,0,none⟩)] w (qd R w (res.map zR)):=by
 have hk:nextK ts=3:=by simpa using h3
 obtain ⟨t0,r0,hr⟩:=sW h3
 have mY:=Lib.hid hr
 have dH:=Lib.hid hop
 clear h3 hr hop
 have hnf:=Rz
 have HI:=Lib.hid hI
 have HL:=Lib.hid (kg hI)
 have hlt:=hI.lt
 go_enter Tryz.func130,Tryz.ntmps130
 go_upto_region 1 with fail
 generalize hW:World.alloc w _=W0
 have HB0:Hid (Below w.heap.size w W0):=Lib.hid (by rw [← hW]; exact ah _ _)
 have HZ0:Hid (W0.heap[w.heap.size]? =some (.cells lZ 89 (0,0))):=Lib.hid (by rw [← hW]; exact heap_alloc_new _ _)
 have HN:=Lib.hid (gN R ts W0 (HI.out.below HB0.out))
 unfold kG at HN
 rw [hk] at HN
 clear hW hI hk
 go_wp2_with fail
 refine HN.out.mono ?_
 rintro e w1 ⟨rfl,h2⟩
 have HB1:=Lib.hid (HB0.out.trans (h2.mono HB0.out.size))
 have HZ1:=Lib.hid ((h2.block _ (Array.getElem?_eq_some_iff.1 HZ0.out).1).trans HZ0.out)
 clear h2 HN HB0 HZ0
 go_upto_region 3 with fail
 obtain ⟨gt,hg⟩: ∃g,w1.heap.size=g:=⟨_,rfl⟩
 rw [hg]
 generalize hW:World.alloc (World.alloc w1 _) _=W2
 have aT:=Lib.hid (lW HI.out HB1.out HZ1.out HL.out gt hg W2 hW)
 have e0:=aT.out.2.2.2.1
 have e1:=aT.out.2.2.2.2.1
 have bF:Hid (R.br < w.heap.size∧w.heap.size < gt):=Lib.hid ⟨hlt,aT.out.2.2.2.2.2⟩
 clear hW hg HB1 HZ1
 go_wp2_with fail
 refine (kQ.out _).mono ?_
 rintro e w3 ⟨rfl,rfl⟩
 have f0:=aT.out.1.free 0
 have c0:=aT.out.1.cell (j:=0) rfl
 go_upto_region 13 with fail
 generalize hW:World.setCell W2 _ _=W3
 have aR:Hid (Pm R (gt + 1) (gt + 2) W3 ⟨hd op ((aZ ts:Nat):Int),.nil,.nil,zS⟩ ts):=Lib.hid (by rw [← hW]; exact aT.out.1.op op dH.out)
 have eU:Hid (Fr R.br (gt + 1) W2 W3):=Lib.hid (by rw [← hW]; exact (Fr.refl _ _ _).set _ _ (.inl rfl))
 obtain ⟨pos,hp,q0,q1,fq,HX⟩:=aR.out.rd.open
 clear hW f0 c0 e0 e1 hnf kQ
 go_upto_region 14 with fail
 generalize hW:World.setCell W3 _ _=W4
 have HQ:Hid (aW W4 R ts.tail∧W3.grownBy W4 (some R.br)):=Lib.hid (by rw [← hW,mY.out]; exact HX.out t0 r0 mY.out)
 have dV:=Lib.hid (aR.out.then HQ.out.1 HQ.out.2)
 have dD:=Lib.hid (eU.out.trans (Fr.bZ HQ.out.2))
 clear hW q0 q1 fq HX aR HQ eU
 go_wp2_with fail
 refine (HC.out gt _ dV.out).mono ?_
 cases res with
 | no q=>
   rintro e w4 ⟨rfl,⟨x,h2⟩,h3⟩
   have dV:=Lib.hid h2
   have fU:=Lib.hid (dD.out.trans h3)
   clear h2 h3
   have gG:=Lib.hid (gM fU.out aT.out.2.2.1 (by have:=bF.out; omega) (by have:=bF.out; omega))
   obtain ⟨⟨y0,y1,y2,y3,y4,y5,y6,y7,y8,y9,iN⟩,fz⟩:=rC gG.out
   have z0:=fz 0
   have z1:=fz 1
   have z2:=fz 2
   have z3:=fz 3
   have z4:=fz 4
   have z5:=fz 5
   have z6:=fz 6
   have z7:=fz 7
   have z8:=fz 8
   have z9:=fz 9
   have qE:=fz 10
   obtain ⟨d0,d1,d2,d3,d4,d5,d6,d7,d8,d9,mh⟩:=gX dV.out
   clear fz
   go_wp2_with fail
   exact bodyPost_ret (v:= .tuple #[dx x.h x.b x.e x.s,.bool false]) (by simp [results,Tryz.results130,go_sem,dx,y0,y1,y2,y3,y4,y5,y6,y7,y8,y9,iN]) rfl (pq dV.out (fU.out.gr aT.out.2.1 (by have:=bF.out; omega)) bF.out.1)
 | ok y q=>
   rintro e w4 ⟨rfl,⟨s,h2⟩,h3⟩
   have dV:=Lib.hid h2
   have fU:=Lib.hid (dD.out.trans h3)
   clear h2 h3
   have gG:=Lib.hid (gM fU.out aT.out.2.2.1 (by have:=bF.out; omega) (by have:=bF.out; omega))
   obtain ⟨⟨y0,y1,y2,y3,y4,y5,y6,y7,y8,y9,iN⟩,fz⟩:=rC gG.out
   have z0:=fz 0
   have z1:=fz 1
   have z2:=fz 2
   have z3:=fz 3
   have z4:=fz 4
   have z5:=fz 5
   have z6:=fz 6
   have z7:=fz 7
   have z8:=fz 8
   have z9:=fz 9
   have qE:=fz 10
   obtain ⟨d0,d1,d2,d3,d4,d5,d6,d7,d8,d9,mh⟩:=gX dV.out
   clear fz
   go_wp2_with fail
   exact bodyPost_ret (v:= .tuple #[dx y.h y.b y.e s,.bool true]) (by simp [results,Tryz.results130,go_sem,dx,y0,y1,y2,y3,y4,y5,y6,y7,y8,y9,iN]) rfl (sS dV.out (fU.out.gr aT.out.2.1 (by have:=bF.out; omega)) bF.out.1 (by have:=bF.out; omega))
theorem Me (w:World):(binOp .eql 198 (.func (.func 173) #[] #[]) .nilFunc).run Tryz.prog w= .ok (.bool false) w:=by kernel_rfl
theorem Bu (R:Rp) (ts:aA) (w:World) (hI:aW w R ts) (h3:(nextK ts == 3)=true) (op:Int) (hop:aU op)
 (kQ:Hid (∀w,Calls Tryz.prog 158 #[.string (tx (aF ts))] w fun e w'=>e= .returned (.tuple #[.int .i64 op,.func (.func 173) #[] #[]])∧w=w')) (res:bn Sx)
 (HC:Hid (∀gt W,Pm R (gt + 1) (gt + 2) W ⟨hd op ((aZ ts:Nat):Int),.nil,.nil,zS⟩ ts.tail→Calls Tryz.prog 173 #[.pointer (some ⟨R.br,0,none⟩),.pointer (some ⟨gt + 1,0,none⟩)] W (lU R (gt + 1) (gt + 2) W res))):
 Calls Tryz.prog 130 #[.pointer (some ⟨R.br,0,none⟩)] w (qd R w (res.map zR)):=by
 have hk:nextK ts=3:=by simpa using h3
 obtain ⟨t0,r0,hr⟩:=sW h3
 have mY:=Lib.hid hr
 have dH:=Lib.hid hop
 clear h3 hr hop
 have hnf:=Me
 have HI:=Lib.hid hI
 have HL:=Lib.hid (kg hI)
 have hlt:=hI.lt
 go_enter Tryz.func130,Tryz.ntmps130
 go_upto_region 1 with fail
 generalize hW:World.alloc w _=W0
 have HB0:Hid (Below w.heap.size w W0):=Lib.hid (by rw [← hW]; exact ah _ _)
 have HZ0:Hid (W0.heap[w.heap.size]? =some (.cells lZ 89 (0,0))):=Lib.hid (by rw [← hW]; exact heap_alloc_new _ _)
 have HN:=Lib.hid (gN R ts W0 (HI.out.below HB0.out))
 unfold kG at HN
 rw [hk] at HN
 clear hW hI hk
 go_wp2_with fail
 refine HN.out.mono ?_
 rintro e w1 ⟨rfl,h2⟩
 have HB1:=Lib.hid (HB0.out.trans (h2.mono HB0.out.size))
 have HZ1:=Lib.hid ((h2.block _ (Array.getElem?_eq_some_iff.1 HZ0.out).1).trans HZ0.out)
 clear h2 HN HB0 HZ0
 go_upto_region 3 with fail
 obtain ⟨gt,hg⟩: ∃g,w1.heap.size=g:=⟨_,rfl⟩
 rw [hg]
 generalize hW:World.alloc (World.alloc w1 _) _=W2
 have aT:=Lib.hid (lW HI.out HB1.out HZ1.out HL.out gt hg W2 hW)
 have e0:=aT.out.2.2.2.1
 have e1:=aT.out.2.2.2.2.1
 have bF:Hid (R.br < w.heap.size∧w.heap.size < gt):=Lib.hid ⟨hlt,aT.out.2.2.2.2.2⟩
 clear hW hg HB1 HZ1
 go_wp2_with fail
 refine (kQ.out _).mono ?_
 rintro e w3 ⟨rfl,rfl⟩
 have f0:=aT.out.1.free 0
 have c0:=aT.out.1.cell (j:=0) rfl
 go_upto_region 13 with fail
 generalize hW:World.setCell W2 _ _=W3
 have aR:Hid (Pm R (gt + 1) (gt + 2) W3 ⟨hd op ((aZ ts:Nat):Int),.nil,.nil,zS⟩ ts):=Lib.hid (by rw [← hW]; exact aT.out.1.op op dH.out)
 have eU:Hid (Fr R.br (gt + 1) W2 W3):=Lib.hid (by rw [← hW]; exact (Fr.refl _ _ _).set _ _ (.inl rfl))
 obtain ⟨pos,hp,q0,q1,fq,HX⟩:=aR.out.rd.open
 clear hW f0 c0 e0 e1 hnf kQ
 go_upto_region 14 with fail
 generalize hW:World.setCell W3 _ _=W4
 have HQ:Hid (aW W4 R ts.tail∧W3.grownBy W4 (some R.br)):=Lib.hid (by rw [← hW,mY.out]; exact HX.out t0 r0 mY.out)
 have dV:=Lib.hid (aR.out.then HQ.out.1 HQ.out.2)
 have dD:=Lib.hid (eU.out.trans (Fr.bZ HQ.out.2))
 clear hW q0 q1 fq HX aR HQ eU
 go_wp2_with fail
 refine (HC.out gt _ dV.out).mono ?_
 cases res with
 | no q=>
   rintro e w4 ⟨rfl,⟨x,h2⟩,h3⟩
   have dV:=Lib.hid h2
   have fU:=Lib.hid (dD.out.trans h3)
   clear h2 h3
   have gG:=Lib.hid (gM fU.out aT.out.2.2.1 (by have:=bF.out; omega) (by have:=bF.out; omega))
   obtain ⟨⟨y0,y1,y2,y3,y4,y5,y6,y7,y8,y9,iN⟩,fz⟩:=rC gG.out
   have z0:=fz 0
   have z1:=fz 1
   have z2:=fz 2
   have z3:=fz 3
   have z4:=fz 4
   have z5:=fz 5
   have z6:=fz 6
   have z7:=fz 7
   have z8:=fz 8
   have z9:=fz 9
   have qE:=fz 10
   obtain ⟨d0,d1,d2,d3,d4,d5,d6,d7,d8,d9,mh⟩:=gX dV.out
   clear fz
   go_wp2_with fail
   exact bodyPost_ret (v:= .tuple #[dx x.h x.b x.e x.s,.bool false]) (by simp [results,Tryz.results130,go_sem,dx,y0,y1,y2,y3,y4,y5,y6,y7,y8,y9,iN]) rfl (pq dV.out (fU.out.gr aT.out.2.1 (by have:=bF.out; omega)) bF.out.1)
 | ok y q=>
   rintro e w4 ⟨rfl,⟨s,h2⟩,h3⟩
   have dV:=Lib.hid h2
   have fU:=Lib.hid (dD.out.trans h3)
   clear h2 h3
   have gG:=Lib.hid (gM fU.out aT.out.2.2.1 (by have:=bF.out; omega) (by have:=bF.out; omega))
   obtain ⟨⟨y0,y1,y2,y3,y4,y5,y6,y7,y8,y9,iN⟩,fz⟩:=rC gG.out
   have z0:=fz 0
   have z1:=fz 1
   have z2:=fz 2
   have z3:=fz 3
   have z4:=fz 4
   have z5:=fz 5
   have z6:=fz 6
   have z7:=fz 7
   have z8:=fz 8
   have z9:=fz 9
   have qE:=fz 10
   obtain ⟨d0,d1,d2,d3,d4,d5,d6,d7,d8,d9,mh⟩:=gX dV.out
   clear fz
   go_wp2_with fail
   exact bodyPost_ret (v:= .tuple #[dx y.h y.b y.e s,.bool true]) (by simp [results,Tryz.results130,go_sem,dx,y0,y1,y2,y3,y4,y5,y6,y7,y8,y9,iN]) rfl (sS dV.out (fU.out.gr aT.out.2.1 (by have:=bF.out; omega)) bF.out.1 (by have:=bF.out; omega))
theorem LC (w:World):(binOp .eql 198 (.func (.func 174) #[] #[]) .nilFunc).run Tryz.prog w= .ok (.bool false) w:=by kernel_rfl
theorem Bv (R:Rp) (ts:aA) (w:World) (hI:aW w R ts) (h3:(nextK ts == 3)=true) (op:Int) (hop:aU op)
 (kQ:Hid (∀w,Calls Tryz.prog 158 #[.string (tx (aF ts))] w fun e w'=>e= .returned (.tuple #[.int .i64 op,.func (.func 174) #[] #[]])∧w=w')) (res:bn Sx)
 (HC:Hid (∀gt W,Pm R (gt + 1) (gt + 2) W ⟨hd op ((aZ ts:Nat):Int),.nil,.nil,zS⟩ ts.tail→Calls Tryz.prog 174 #[.pointer (some ⟨R.br,0,none⟩),.pointer (some ⟨gt + 1,0,none⟩)] W (lU R (gt + 1) (gt + 2) W res))):
 Calls Tryz.prog 130 #[.pointer (some ⟨R.br,0,none⟩)] w (qd R w (res.map zR)):=by
 have hk:nextK ts=3:=by simpa using h3
 obtain ⟨t0,r0,hr⟩:=sW h3
 have mY:=Lib.hid hr
 have dH:=Lib.hid hop
 clear h3 hr hop
 have hnf:=LC
 have HI:=Lib.hid hI
 have HL:=Lib.hid (kg hI)
 have hlt:=hI.lt
 go_enter Tryz.func130,Tryz.ntmps130
 go_upto_region 1 with fail
 generalize hW:World.alloc w _=W0
 have HB0:Hid (Below w.heap.size w W0):=Lib.hid (by rw [← hW]; exact ah _ _)
 have HZ0:Hid (W0.heap[w.heap.size]? =some (.cells lZ 89 (0,0))):=Lib.hid (by rw [← hW]; exact heap_alloc_new _ _)
 have HN:=Lib.hid (gN R ts W0 (HI.out.below HB0.out))
 unfold kG at HN
 rw [hk] at HN
 clear hW hI hk
 go_wp2_with fail
 refine HN.out.mono ?_
 rintro e w1 ⟨rfl,h2⟩
 have HB1:=Lib.hid (HB0.out.trans (h2.mono HB0.out.size))
 have HZ1:=Lib.hid ((h2.block _ (Array.getElem?_eq_some_iff.1 HZ0.out).1).trans HZ0.out)
 clear h2 HN HB0 HZ0
 go_upto_region 3 with fail
 obtain ⟨gt,hg⟩: ∃g,w1.heap.size=g:=⟨_,rfl⟩
 rw [hg]
 generalize hW:World.alloc (World.alloc w1 _) _=W2
 have aT:=Lib.hid (lW HI.out HB1.out HZ1.out HL.out gt hg W2 hW)
 have e0:=aT.out.2.2.2.1
 have e1:=aT.out.2.2.2.2.1
 have bF:Hid (R.br < w.heap.size∧w.heap.size < gt):=Lib.hid ⟨hlt,aT.out.2.2.2.2.2⟩
 clear hW hg HB1 HZ1
 go_wp2_with fail
 refine (kQ.out _).mono ?_
 rintro e w3 ⟨rfl,rfl⟩
 have f0:=aT.out.1.free 0
 have c0:=aT.out.1.cell (j:=0) rfl
 go_upto_region 13 with fail
 generalize hW:World.setCell W2 _ _=W3
 have aR:Hid (Pm R (gt + 1) (gt + 2) W3 ⟨hd op ((aZ ts:Nat):Int),.nil,.nil,zS⟩ ts):=Lib.hid (by rw [← hW]; exact aT.out.1.op op dH.out)
 have eU:Hid (Fr R.br (gt + 1) W2 W3):=Lib.hid (by rw [← hW]; exact (Fr.refl _ _ _).set _ _ (.inl rfl))
 obtain ⟨pos,hp,q0,q1,fq,HX⟩:=aR.out.rd.open
 clear hW f0 c0 e0 e1 hnf kQ
 go_upto_region 14 with fail
 generalize hW:World.setCell W3 _ _=W4
 have HQ:Hid (aW W4 R ts.tail∧W3.grownBy W4 (some R.br)):=Lib.hid (by rw [← hW,mY.out]; exact HX.out t0 r0 mY.out)
 have dV:=Lib.hid (aR.out.then HQ.out.1 HQ.out.2)
 have dD:=Lib.hid (eU.out.trans (Fr.bZ HQ.out.2))
 clear hW q0 q1 fq HX aR HQ eU
 go_wp2_with fail
 refine (HC.out gt _ dV.out).mono ?_
 cases res with
 | no q=>
   rintro e w4 ⟨rfl,⟨x,h2⟩,h3⟩
   have dV:=Lib.hid h2
   have fU:=Lib.hid (dD.out.trans h3)
   clear h2 h3
   have gG:=Lib.hid (gM fU.out aT.out.2.2.1 (by have:=bF.out; omega) (by have:=bF.out; omega))
   obtain ⟨⟨y0,y1,y2,y3,y4,y5,y6,y7,y8,y9,iN⟩,fz⟩:=rC gG.out
   have z0:=fz 0
   have z1:=fz 1
   have z2:=fz 2
   have z3:=fz 3
   have z4:=fz 4
   have z5:=fz 5
   have z6:=fz 6
   have z7:=fz 7
   have z8:=fz 8
   have z9:=fz 9
   have qE:=fz 10
   obtain ⟨d0,d1,d2,d3,d4,d5,d6,d7,d8,d9,mh⟩:=gX dV.out
   clear fz
   go_wp2_with fail
   exact bodyPost_ret (v:= .tuple #[dx x.h x.b x.e x.s,.bool false]) (by simp [results,Tryz.results130,go_sem,dx,y0,y1,y2,y3,y4,y5,y6,y7,y8,y9,iN]) rfl (pq dV.out (fU.out.gr aT.out.2.1 (by have:=bF.out; omega)) bF.out.1)
 | ok y q=>
   rintro e w4 ⟨rfl,⟨s,h2⟩,h3⟩
   have dV:=Lib.hid h2
   have fU:=Lib.hid (dD.out.trans h3)
   clear h2 h3
   have gG:=Lib.hid (gM fU.out aT.out.2.2.1 (by have:=bF.out; omega) (by have:=bF.out; omega))
   obtain ⟨⟨y0,y1,y2,y3,y4,y5,y6,y7,y8,y9,iN⟩,fz⟩:=rC gG.out
   have z0:=fz 0
   have z1:=fz 1
   have z2:=fz 2
   have z3:=fz 3
   have z4:=fz 4
   have z5:=fz 5
   have z6:=fz 6
   have z7:=fz 7
   have z8:=fz 8
   have z9:=fz 9
   have qE:=fz 10
   obtain ⟨d0,d1,d2,d3,d4,d5,d6,d7,d8,d9,mh⟩:=gX dV.out
   clear fz
   go_wp2_with fail
   exact bodyPost_ret (v:= .tuple #[dx y.h y.b y.e s,.bool true]) (by simp [results,Tryz.results130,go_sem,dx,y0,y1,y2,y3,y4,y5,y6,y7,y8,y9,iN]) rfl (sS dV.out (fU.out.gr aT.out.2.1 (by have:=bF.out; omega)) bF.out.1 (by have:=bF.out; omega))
theorem jX {ts:aA} {op:Int} {v:Value} (h:iw (aF ts)=op) (hv:RV op=v): ∀w,Calls Tryz.prog 158 #[.string (tx (aF ts))] w fun e w'=>e= .returned (.tuple #[.int .i64 op,v])∧w=w':=fun w=>by
 have:=Gl (tx (aF ts)) (l:=aF ts) rfl w
 rw [h,hv] at this; exact this
theorem Eb (R:Rp) (f:Nat) (ts:aA) (tT:Hid (∀q,q.length < ts.length→mJ R f q)) (w:World) (hI:aW w R ts):
 Calls Tryz.prog 130 #[.pointer (some ⟨R.br,0,none⟩)] w (qd R w (ps (f + 1) true ts)):=by
 cases h1:(nextK ts == 1)
 ·cases h3:(nextK ts == 3)
  ·exact Dx R f ts w hI h1 h3
  ·cases h0:(iw (aF ts) == 0)
   ·have hlt:ts.tail.length < ts.length:=by obtain ⟨t,r,rfl⟩:=sW h3; simp
    have HB1:Hid (∀q,q.length < ts.tail.length→mJ R f q):=Lib.hid (fun q hq=>tT.out q (by omega))
    have HB2:Hid (mJ R f ts.tail):=Lib.hid (tT.out _ hlt)
    have HB3:Hid (isName ts.tail=true→mJ R f ts.tail.tail):=Lib.hid (fun hn=>tT.out _ (by have:=vv hn; omega))
    rw [Z0 h1 h3 h0]
    have hr:=U5 (aF ts) h0
    have hi:aU (iw (aF ts)):=by unfold aU; omega
    have hcs:iw (aF ts)=2∨iw (aF ts)=3∨iw (aF ts)=4∨iw (aF ts)=5∨iw (aF ts)=6∨iw (aF ts)=7∨iw (aF ts)=8∨iw (aF ts)=9∨iw (aF ts)=10∨iw (aF ts)=11∨iw (aF ts)=12∨iw (aF ts)=13∨iw (aF ts)=14∨iw (aF ts)=15:=by omega
    rcases hcs with h | h | h | h | h | h | h | h | h | h | h | h | h | h <;> rw [h] at hi ⊢
    ·exact xW R ts w hI h3 2 hi (Lib.hid (jX h rfl)) _ (Lib.hid fun gt W hP=>PV R _ _ f ts.tail HB1 _ _ W hP)
    ·exact Eo R ts w hI h3 3 hi (Lib.hid (jX h rfl)) _ (Lib.hid fun gt W hP=>Ir R _ _ f ts.tail HB1 _ _ W hP)
    ·exact mZ R ts w hI h3 4 hi (Lib.hid (jX h rfl)) _ (Lib.hid fun gt W hP=>rM R _ _ f ts.tail HB3 _ _ W hP)
    ·exact mZ R ts w hI h3 5 hi (Lib.hid (jX h rfl)) _ (Lib.hid fun gt W hP=>rM R _ _ f ts.tail HB3 _ _ W hP)
    ·exact mZ R ts w hI h3 6 hi (Lib.hid (jX h rfl)) _ (Lib.hid fun gt W hP=>rM R _ _ f ts.tail HB3 _ _ W hP)
    ·exact qG R ts w hI h3 7 hi (Lib.hid (jX h rfl)) _ (Lib.hid fun gt W hP=>wH R _ _ f ts.tail HB2 _ _ _ W hP)
    ·exact qG R ts w hI h3 8 hi (Lib.hid (jX h rfl)) _ (Lib.hid fun gt W hP=>wH R _ _ f ts.tail HB2 _ _ _ W hP)
    ·exact lN R ts w hI h3 9 hi (Lib.hid (jX h rfl)) _ (Lib.hid fun gt W hP=>sJ R _ _ ts.tail _ _ W hP)
    ·exact lN R ts w hI h3 10 hi (Lib.hid (jX h rfl)) _ (Lib.hid fun gt W hP=>sJ R _ _ ts.tail _ _ W hP)
    ·exact lN R ts w hI h3 11 hi (Lib.hid (jX h rfl)) _ (Lib.hid fun gt W hP=>sJ R _ _ ts.tail _ _ W hP)
    ·exact lN R ts w hI h3 12 hi (Lib.hid (jX h rfl)) _ (Lib.hid fun gt W hP=>sJ R _ _ ts.tail _ _ W hP)
    ·exact lN R ts w hI h3 13 hi (Lib.hid (jX h rfl)) _ (Lib.hid fun gt W hP=>sJ R _ _ ts.tail _ _ W hP)
    ·exact Bu R ts w hI h3 14 hi (Lib.hid (jX h rfl)) _ (Lib.hid fun gt W hP=>Jy R _ _ ts.tail _ _ W hP)
    ·exact Bv R ts w hI h3 15 hi (Lib.hid (jX h rfl)) _ (Lib.hid fun gt W hP=>JI R _ _ ts.tail _ _ W hP)
   ·exact EH R f ts w hI h1 h3 h0
 ·exact En R f ts w hI h1
end Go.Proofs.YtehnipchbmjlhaaGreatDoor
