/-
  Contract of the reader's statement: keywords.
-/
import Derived.Test.YtdajkddgnfgijaaGreatDoorGRC
set_option linter.unusedSimpArgs false
set_option linter.unusedVariables false
namespace Go.Proofs.YtdajkddgnfgijaaGreatDoor
open Go.RowKit
open Md Pz
theorem uG {ts:aJ} (h:(nextK ts == 3)=true): ∃t r,ts=t ::r:=by
 cases ts with
 | nil=>exact absurd h (by simp [nextK])
 | cons t r=>exact ⟨t,r,rfl⟩
theorem EZ (w:World):(binOp .eql 225 (.func (.func 199) #[] #[]) .nilFunc).run Tryz.prog w= .ok (.bool false) w:=by kernel_rfl
set_option maxHeartbeats 4000000 in
set_option maxRecDepth 100000 in
theorem yR (R:Rp) (ts:aJ) (w:World) (hI:bf w R ts) (h3:(nextK ts == 3)=true) (op:Int) (hop:dR op)
 (lq:Hid (∀w,Calls Tryz.prog 172 #[.string (tx (aI ts))] w fun e w'=>e= .returned (.tuple #[.int .i64 op,.func (.func 199) #[] #[]])∧w=w')) (res:bK Sx)
 (HC:Hid (∀gt W,Pm R (gt + 1) (gt + 2) W ⟨hd op ((bF ts:Nat):Int),.nil,.nil,zS⟩ ts.tail→Calls Tryz.prog 199 #[.pointer (some ⟨R.br,0,none⟩),.pointer (some ⟨gt + 1,0,none⟩)] W (lZ R (gt + 1) (gt + 2) W res))):
 Calls Tryz.prog 148 #[.pointer (some ⟨R.br,0,none⟩)] w (qJ R w (res.map wL)):=by
 have hk:nextK ts=3:=by simpa using h3
 obtain ⟨t0,r0,hr⟩:=uG h3
 have nC:=Lib.hid hr
 have bY:=Lib.hid hop
 clear h3 hr hop
 have hnf:=EZ
 have HI:=Lib.hid hI
 have HL:=Lib.hid (jZ hI)
 have hlt:=hI.lt
 go_enter Tryz.func148,Tryz.ntmps148
 go_upto_region 1 with fail
 generalize hW:World.alloc w _=W0
 have HB0:Hid (Below w.heap.size w W0):=Lib.hid (by rw [← hW]; exact aj _ _)
 have HZ0:Hid (W0.heap[w.heap.size]? =some (.cells mJ 131 (0,0))):=Lib.hid (by rw [← hW]; exact heap_alloc_new _ _)
 have HN:=Lib.hid (gT R ts W0 (HI.out.below HB0.out))
 unfold kI at HN
 rw [hk] at HN
 clear hW hI hk
 go_wp2_with fail
 refine HN.out.mono ?_
 rintro e w1 ⟨rfl,h2⟩
 have HB1:=Lib.hid (HB0.out.trans (h2.mono HB0.out.size))
 have HZ1:=Lib.hid ((h2.block _ (Array.getElem?_eq_some_iff.1 HZ0.out).1).trans HZ0.out)
 clear h2 HN HB0 HZ0
 go_upto_region 3 with fail
 obtain ⟨gt,hg⟩: ∃g,w1.heap.size=g:=⟨_,rfl⟩
 rw [hg]
 generalize hW:World.alloc (World.alloc w1 _) _=W2
 have aU:=Lib.hid (mh HI.out HB1.out HZ1.out HL.out gt hg W2 hW)
 have e0:=aU.out.2.2.2.1
 have e1:=aU.out.2.2.2.2.1
 have bW:Hid (R.br < w.heap.size∧w.heap.size < gt):=Lib.hid ⟨hlt,aU.out.2.2.2.2.2⟩
 clear hW hg HB1 HZ1
 go_wp2_with fail
 refine (lq.out _).mono ?_
 rintro e w3 ⟨rfl,rfl⟩
 have f0:=aU.out.1.free 0
 have c0:=aU.out.1.cell (j:=0) rfl
 go_upto_region 13 with fail
 generalize hW:World.setCell W2 _ _=W3
 have aW:Hid (Pm R (gt + 1) (gt + 2) W3 ⟨hd op ((bF ts:Nat):Int),.nil,.nil,zS⟩ ts):=Lib.hid (by rw [← hW]; exact aU.out.1.op op bY.out)
 have fu:Hid (Fr R.br (gt + 1) W2 W3):=Lib.hid (by rw [← hW]; exact (Fr.refl _ _ _).set _ _ (.inl rfl))
 obtain ⟨pos,hp,q0,q1,fq,HX⟩:=aW.out.rd.open
 clear hW f0 c0 e0 e1 hnf lq
 go_upto_region 14 with fail
 generalize hW:World.setCell W3 _ _=W4
 have HQ:Hid (bf W4 R ts.tail∧W3.grownBy W4 (some R.br)):=Lib.hid (by rw [← hW,nC.out]; exact HX.out t0 r0 nC.out)
 have dS:=Lib.hid (aW.out.then HQ.out.1 HQ.out.2)
 have dQ:=Lib.hid (fu.out.trans (Fr.cK HQ.out.2))
 clear hW q0 q1 fq HX aW HQ fu
 go_wp2_with fail
 refine (HC.out gt _ dS.out).mono ?_
 cases res with
 | no q=>
   rintro e w4 ⟨rfl,⟨x,h2⟩,h3⟩
   have dS:=Lib.hid h2
   have fZ:=Lib.hid (dQ.out.trans h3)
   clear h2 h3
   have iD:=Lib.hid (gP fZ.out aU.out.2.2.1 (by have:=bW.out; omega) (by have:=bW.out; omega))
   obtain ⟨⟨y0,y1,y2,y3,y4,y5,y6,y7,y8,y9,iV⟩,fz⟩:=sM iD.out
   have z0:=fz 0
   have z1:=fz 1
   have z2:=fz 2
   have z3:=fz 3
   have z4:=fz 4
   have z5:=fz 5
   have z6:=fz 6
   have z7:=fz 7
   have z8:=fz 8
   have z9:=fz 9
   have aY:=fz 10
   obtain ⟨d0,d1,d2,d3,d4,d5,d6,d7,d8,d9,mK⟩:=gZ dS.out
   clear fz
   go_wp2_with fail
   exact bodyPost_ret (v:= .tuple #[cO x.h x.b x.e x.s,.bool false]) (by simp [results,Tryz.results148,go_sem,cO,y0,y1,y2,y3,y4,y5,y6,y7,y8,y9,iV]) rfl (qm dS.out (fZ.out.gr aU.out.2.1 (by have:=bW.out; omega)) bW.out.1)
 | ok y q=>
   rintro e w4 ⟨rfl,⟨s,h2⟩,h3⟩
   have dS:=Lib.hid h2
   have fZ:=Lib.hid (dQ.out.trans h3)
   clear h2 h3
   have iD:=Lib.hid (gP fZ.out aU.out.2.2.1 (by have:=bW.out; omega) (by have:=bW.out; omega))
   obtain ⟨⟨y0,y1,y2,y3,y4,y5,y6,y7,y8,y9,iV⟩,fz⟩:=sM iD.out
   have z0:=fz 0
   have z1:=fz 1
   have z2:=fz 2
   have z3:=fz 3
   have z4:=fz 4
   have z5:=fz 5
   have z6:=fz 6
   have z7:=fz 7
   have z8:=fz 8
   have z9:=fz 9
   have aY:=fz 10
   obtain ⟨d0,d1,d2,d3,d4,d5,d6,d7,d8,d9,mK⟩:=gZ dS.out
   clear fz
   go_wp2_with fail
   exact bodyPost_ret (v:= .tuple #[cO y.h y.b y.e s,.bool true]) (by simp [results,Tryz.results148,go_sem,cO,y0,y1,y2,y3,y4,y5,y6,y7,y8,y9,iV]) rfl (uH dS.out (fZ.out.gr aU.out.2.1 (by have:=bW.out; omega)) bW.out.1 (by have:=bW.out; omega))
theorem Sw (w:World):(binOp .eql 225 (.func (.func 200) #[] #[]) .nilFunc).run Tryz.prog w= .ok (.bool false) w:=by kernel_rfl
set_option maxHeartbeats 4000000 in
set_option maxRecDepth 100000 in
theorem Fg (R:Rp) (ts:aJ) (w:World) (hI:bf w R ts) (h3:(nextK ts == 3)=true) (op:Int) (hop:dR op)
 (lq:Hid (∀w,Calls Tryz.prog 172 #[.string (tx (aI ts))] w fun e w'=>e= .returned (.tuple #[.int .i64 op,.func (.func 200) #[] #[]])∧w=w')) (res:bK Sx)
 (HC:Hid (∀gt W,Pm R (gt + 1) (gt + 2) W ⟨hd op ((bF ts:Nat):Int),.nil,.nil,zS⟩ ts.tail→Calls Tryz.prog 200 #[.pointer (some ⟨R.br,0,none⟩),.pointer (some ⟨gt + 1,0,none⟩)] W (lZ R (gt + 1) (gt + 2) W res))):
 Calls Tryz.prog 148 #[.pointer (some ⟨R.br,0,none⟩)] w (qJ R w (res.map wL)):=by
 have hk:nextK ts=3:=by simpa using h3
 obtain ⟨t0,r0,hr⟩:=uG h3
 have nC:=Lib.hid hr
 have bY:=Lib.hid hop
 clear h3 hr hop
 have hnf:=Sw
 have HI:=Lib.hid hI
 have HL:=Lib.hid (jZ hI)
 have hlt:=hI.lt
 go_enter Tryz.func148,Tryz.ntmps148
 go_upto_region 1 with fail
 generalize hW:World.alloc w _=W0
 have HB0:Hid (Below w.heap.size w W0):=Lib.hid (by rw [← hW]; exact aj _ _)
 have HZ0:Hid (W0.heap[w.heap.size]? =some (.cells mJ 131 (0,0))):=Lib.hid (by rw [← hW]; exact heap_alloc_new _ _)
 have HN:=Lib.hid (gT R ts W0 (HI.out.below HB0.out))
 unfold kI at HN
 rw [hk] at HN
 clear hW hI hk
 go_wp2_with fail
 refine HN.out.mono ?_
 rintro e w1 ⟨rfl,h2⟩
 have HB1:=Lib.hid (HB0.out.trans (h2.mono HB0.out.size))
 have HZ1:=Lib.hid ((h2.block _ (Array.getElem?_eq_some_iff.1 HZ0.out).1).trans HZ0.out)
 clear h2 HN HB0 HZ0
 go_upto_region 3 with fail
 obtain ⟨gt,hg⟩: ∃g,w1.heap.size=g:=⟨_,rfl⟩
 rw [hg]
 generalize hW:World.alloc (World.alloc w1 _) _=W2
 have aU:=Lib.hid (mh HI.out HB1.out HZ1.out HL.out gt hg W2 hW)
 have e0:=aU.out.2.2.2.1
 have e1:=aU.out.2.2.2.2.1
 have bW:Hid (R.br < w.heap.size∧w.heap.size < gt):=Lib.hid ⟨hlt,aU.out.2.2.2.2.2⟩
 clear hW hg HB1 HZ1
 go_wp2_with fail
 refine (lq.out _).mono ?_
 rintro e w3 ⟨rfl,rfl⟩
 have f0:=aU.out.1.free 0
 have c0:=aU.out.1.cell (j:=0) rfl
 go_upto_region 13 with fail
 generalize hW:World.setCell W2 _ _=W3
 have aW:Hid (Pm R (gt + 1) (gt + 2) W3 ⟨hd op ((bF ts:Nat):Int),.nil,.nil,zS⟩ ts):=Lib.hid (by rw [← hW]; exact aU.out.1.op op bY.out)
 have fu:Hid (Fr R.br (gt + 1) W2 W3):=Lib.hid (by rw [← hW]; exact (Fr.refl _ _ _).set _ _ (.inl rfl))
 obtain ⟨pos,hp,q0,q1,fq,HX⟩:=aW.out.rd.open
 clear hW f0 c0 e0 e1 hnf lq
 go_upto_region 14 with fail
 generalize hW:World.setCell W3 _ _=W4
 have HQ:Hid (bf W4 R ts.tail∧W3.grownBy W4 (some R.br)):=Lib.hid (by rw [← hW,nC.out]; exact HX.out t0 r0 nC.out)
 have dS:=Lib.hid (aW.out.then HQ.out.1 HQ.out.2)
 have dQ:=Lib.hid (fu.out.trans (Fr.cK HQ.out.2))
 clear hW q0 q1 fq HX aW HQ fu
 go_wp2_with fail
 refine (HC.out gt _ dS.out).mono ?_
 cases res with
 | no q=>
   rintro e w4 ⟨rfl,⟨x,h2⟩,h3⟩
   have dS:=Lib.hid h2
   have fZ:=Lib.hid (dQ.out.trans h3)
   clear h2 h3
   have iD:=Lib.hid (gP fZ.out aU.out.2.2.1 (by have:=bW.out; omega) (by have:=bW.out; omega))
   obtain ⟨⟨y0,y1,y2,y3,y4,y5,y6,y7,y8,y9,iV⟩,fz⟩:=sM iD.out
   have z0:=fz 0
   have z1:=fz 1
   have z2:=fz 2
   have z3:=fz 3
   have z4:=fz 4
   have z5:=fz 5
   have z6:=fz 6
   have z7:=fz 7
   have z8:=fz 8
   have z9:=fz 9
   have aY:=fz 10
   obtain ⟨d0,d1,d2,d3,d4,d5,d6,d7,d8,d9,mK⟩:=gZ dS.out
   clear fz
   go_wp2_with fail
   exact bodyPost_ret (v:= .tuple #[cO x.h x.b x.e x.s,.bool false]) (by simp [results,Tryz.results148,go_sem,cO,y0,y1,y2,y3,y4,y5,y6,y7,y8,y9,iV]) rfl (qm dS.out (fZ.out.gr aU.out.2.1 (by have:=bW.out; omega)) bW.out.1)
 | ok y q=>
   rintro e w4 ⟨rfl,⟨s,h2⟩,h3⟩
   have dS:=Lib.hid h2
   have fZ:=Lib.hid (dQ.out.trans h3)
   clear h2 h3
   have iD:=Lib.hid (gP fZ.out aU.out.2.2.1 (by have:=bW.out; omega) (by have:=bW.out; omega))
   obtain ⟨⟨y0,y1,y2,y3,y4,y5,y6,y7,y8,y9,iV⟩,fz⟩:=sM iD.out
   have z0:=fz 0
   have z1:=fz 1
   have z2:=fz 2
   have z3:=fz 3
   have z4:=fz 4
   have z5:=fz 5
   have z6:=fz 6
   have z7:=fz 7
   have z8:=fz 8
   have z9:=fz 9
   have aY:=fz 10
   obtain ⟨d0,d1,d2,d3,d4,d5,d6,d7,d8,d9,mK⟩:=gZ dS.out
   clear fz
   go_wp2_with fail
   exact bodyPost_ret (v:= .tuple #[cO y.h y.b y.e s,.bool true]) (by simp [results,Tryz.results148,go_sem,cO,y0,y1,y2,y3,y4,y5,y6,y7,y8,y9,iV]) rfl (uH dS.out (fZ.out.gr aU.out.2.1 (by have:=bW.out; omega)) bW.out.1 (by have:=bW.out; omega))
theorem Gl (w:World):(binOp .eql 225 (.func (.func 201) #[] #[]) .nilFunc).run Tryz.prog w= .ok (.bool false) w:=by kernel_rfl
set_option maxHeartbeats 4000000 in
set_option maxRecDepth 100000 in
theorem nO (R:Rp) (ts:aJ) (w:World) (hI:bf w R ts) (h3:(nextK ts == 3)=true) (op:Int) (hop:dR op)
 (lq:Hid (∀w,Calls Tryz.prog 172 #[.string (tx (aI ts))] w fun e w'=>e= .returned (.tuple #[.int .i64 op,.func (.func 201) #[] #[]])∧w=w')) (res:bK Sx)
 (HC:Hid (∀gt W,Pm R (gt + 1) (gt + 2) W ⟨hd op ((bF ts:Nat):Int),.nil,.nil,zS⟩ ts.tail→Calls Tryz.prog 201 #[.pointer (some ⟨R.br,0,none⟩),.pointer (some ⟨gt + 1,0,none⟩)] W (lZ R (gt + 1) (gt + 2) W res))):
 Calls Tryz.prog 148 #[.pointer (some ⟨R.br,0,none⟩)] w (qJ R w (res.map wL)):=by
 have hk:nextK ts=3:=by simpa using h3
 obtain ⟨t0,r0,hr⟩:=uG h3
 have nC:=Lib.hid hr
 have bY:=Lib.hid hop
 clear h3 hr hop
 have hnf:=Gl
 have HI:=Lib.hid hI
 have HL:=Lib.hid (jZ hI)
 have hlt:=hI.lt
 go_enter Tryz.func148,Tryz.ntmps148
 go_upto_region 1 with fail
 generalize hW:World.alloc w _=W0
 have HB0:Hid (Below w.heap.size w W0):=Lib.hid (by rw [← hW]; exact aj _ _)
 have HZ0:Hid (W0.heap[w.heap.size]? =some (.cells mJ 131 (0,0))):=Lib.hid (by rw [← hW]; exact heap_alloc_new _ _)
 have HN:=Lib.hid (gT R ts W0 (HI.out.below HB0.out))
 unfold kI at HN
 rw [hk] at HN
 clear hW hI hk
 go_wp2_with fail
 refine HN.out.mono ?_
 rintro e w1 ⟨rfl,h2⟩
 have HB1:=Lib.hid (HB0.out.trans (h2.mono HB0.out.size))
 have HZ1:=Lib.hid ((h2.block _ (Array.getElem?_eq_some_iff.1 HZ0.out).1).trans HZ0.out)
 clear h2 HN HB0 HZ0
 go_upto_region 3 with fail
 obtain ⟨gt,hg⟩: ∃g,w1.heap.size=g:=⟨_,rfl⟩
 rw [hg]
 generalize hW:World.alloc (World.alloc w1 _) _=W2
 have aU:=Lib.hid (mh HI.out HB1.out HZ1.out HL.out gt hg W2 hW)
 have e0:=aU.out.2.2.2.1
 have e1:=aU.out.2.2.2.2.1
 have bW:Hid (R.br < w.heap.size∧w.heap.size < gt):=Lib.hid ⟨hlt,aU.out.2.2.2.2.2⟩
 clear hW hg HB1 HZ1
 go_wp2_with fail
 refine (lq.out _).mono ?_
 rintro e w3 ⟨rfl,rfl⟩
 have f0:=aU.out.1.free 0
 have c0:=aU.out.1.cell (j:=0) rfl
 go_upto_region 13 with fail
 generalize hW:World.setCell W2 _ _=W3
 have aW:Hid (Pm R (gt + 1) (gt + 2) W3 ⟨hd op ((bF ts:Nat):Int),.nil,.nil,zS⟩ ts):=Lib.hid (by rw [← hW]; exact aU.out.1.op op bY.out)
 have fu:Hid (Fr R.br (gt + 1) W2 W3):=Lib.hid (by rw [← hW]; exact (Fr.refl _ _ _).set _ _ (.inl rfl))
 obtain ⟨pos,hp,q0,q1,fq,HX⟩:=aW.out.rd.open
 clear hW f0 c0 e0 e1 hnf lq
 go_upto_region 14 with fail
 generalize hW:World.setCell W3 _ _=W4
 have HQ:Hid (bf W4 R ts.tail∧W3.grownBy W4 (some R.br)):=Lib.hid (by rw [← hW,nC.out]; exact HX.out t0 r0 nC.out)
 have dS:=Lib.hid (aW.out.then HQ.out.1 HQ.out.2)
 have dQ:=Lib.hid (fu.out.trans (Fr.cK HQ.out.2))
 clear hW q0 q1 fq HX aW HQ fu
 go_wp2_with fail
 refine (HC.out gt _ dS.out).mono ?_
 cases res with
 | no q=>
   rintro e w4 ⟨rfl,⟨x,h2⟩,h3⟩
   have dS:=Lib.hid h2
   have fZ:=Lib.hid (dQ.out.trans h3)
   clear h2 h3
   have iD:=Lib.hid (gP fZ.out aU.out.2.2.1 (by have:=bW.out; omega) (by have:=bW.out; omega))
   obtain ⟨⟨y0,y1,y2,y3,y4,y5,y6,y7,y8,y9,iV⟩,fz⟩:=sM iD.out
   have z0:=fz 0
   have z1:=fz 1
   have z2:=fz 2
   have z3:=fz 3
   have z4:=fz 4
   have z5:=fz 5
   have z6:=fz 6
   have z7:=fz 7
   have z8:=fz 8
   have z9:=fz 9
   have aY:=fz 10
   obtain ⟨d0,d1,d2,d3,d4,d5,d6,d7,d8,d9,mK⟩:=gZ dS.out
   clear fz
   go_wp2_with fail
   exact bodyPost_ret (v:= .tuple #[cO x.h x.b x.e x.s,.bool false]) (by simp [results,Tryz.results148,go_sem,cO,y0,y1,y2,y3,y4,y5,y6,y7,y8,y9,iV]) rfl (qm dS.out (fZ.out.gr aU.out.2.1 (by have:=bW.out; omega)) bW.out.1)
 | ok y q=>
   rintro e w4 ⟨rfl,⟨s,h2⟩,h3⟩
   have dS:=Lib.hid h2
   have fZ:=Lib.hid (dQ.out.trans h3)
   clear h2 h3
   have iD:=Lib.hid (gP fZ.out aU.out.2.2.1 (by have:=bW.out; omega) (by have:=bW.out; omega))
   obtain ⟨⟨y0,y1,y2,y3,y4,y5,y6,y7,y8,y9,iV⟩,fz⟩:=sM iD.out
   have z0:=fz 0
   have z1:=fz 1
   have z2:=fz 2
   have z3:=fz 3
   have z4:=fz 4
   have z5:=fz 5
   have z6:=fz 6
   have z7:=fz 7
   have z8:=fz 8
   have z9:=fz 9
   have aY:=fz 10
   obtain ⟨d0,d1,d2,d3,d4,d5,d6,d7,d8,d9,mK⟩:=gZ dS.out
   clear fz
   go_wp2_with fail
   exact bodyPost_ret (v:= .tuple #[cO y.h y.b y.e s,.bool true]) (by simp [results,Tryz.results148,go_sem,cO,y0,y1,y2,y3,y4,y5,y6,y7,y8,y9,iV]) rfl (uH dS.out (fZ.out.gr aU.out.2.1 (by have:=bW.out; omega)) bW.out.1 (by have:=bW.out; omega))
theorem Gj (w:World):(binOp .eql 225 (.func (.func 202) #[] #[]) .nilFunc).run Tryz.prog w= .ok (.bool false) w:=by kernel_rfl
set_option maxHeartbeats 4000000 in
set_option maxRecDepth 100000 in
theorem rX (R:Rp) (ts:aJ) (w:World) (hI:bf w R ts) (h3:(nextK ts == 3)=true) (op:Int) (hop:dR op)
 (lq:Hid (∀w,Calls Tryz.prog 172 #[.string (tx (aI ts))] w fun e w'=>e= .returned (.tuple #[.int .i64 op,.func (.func 202) #[] #[]])∧w=w')) (res:bK Sx)
 (HC:Hid (∀gt W,Pm R (gt + 1) (gt + 2) W ⟨hd op ((bF ts:Nat):Int),.nil,.nil,zS⟩ ts.tail→Calls Tryz.prog 202 #[.pointer (some ⟨R.br,0,none⟩),.pointer (some ⟨gt + 1,0,none⟩)] W (lZ R (gt + 1) (gt + 2) W res))):
 Calls Tryz.prog 148 #[.pointer (some ⟨R.br,0,none⟩)] w (qJ R w (res.map wL)):=by
 have hk:nextK ts=3:=by simpa using h3
 obtain ⟨t0,r0,hr⟩:=uG h3
 have nC:=Lib.hid hr
 have bY:=Lib.hid hop
 clear h3 hr hop
 have hnf:=Gj
 have HI:=Lib.hid hI
 have HL:=Lib.hid (jZ hI)
 have hlt:=hI.lt
 go_enter Tryz.func148,Tryz.ntmps148
 go_upto_region 1 with fail
 generalize hW:World.alloc w _=W0
 have HB0:Hid (Below w.heap.size w W0):=Lib.hid (by rw [← hW]; exact aj _ _)
 have HZ0:Hid (W0.heap[w.heap.size]? =some (.cells mJ 131 (0,0))):=Lib.hid (by rw [← hW]; exact heap_alloc_new _ _)
 have HN:=Lib.hid (gT R ts W0 (HI.out.below HB0.out))
 unfold kI at HN
 rw [hk] at HN
 clear hW hI hk
 go_wp2_with fail
 refine HN.out.mono ?_
 rintro e w1 ⟨rfl,h2⟩
 have HB1:=Lib.hid (HB0.out.trans (h2.mono HB0.out.size))
 have HZ1:=Lib.hid ((h2.block _ (Array.getElem?_eq_some_iff.1 HZ0.out).1).trans HZ0.out)
 clear h2 HN HB0 HZ0
 go_upto_region 3 with fail
 obtain ⟨gt,hg⟩: ∃g,w1.heap.size=g:=⟨_,rfl⟩
 rw [hg]
 generalize hW:World.alloc (World.alloc w1 _) _=W2
 have aU:=Lib.hid (mh HI.out HB1.out HZ1.out HL.out gt hg W2 hW)
 have e0:=aU.out.2.2.2.1
 have e1:=aU.out.2.2.2.2.1
 have bW:Hid (R.br < w.heap.size∧w.heap.size < gt):=Lib.hid ⟨hlt,aU.out.2.2.2.2.2⟩
 clear hW hg HB1 HZ1
 go_wp2_with fail
 refine (lq.out _).mono ?_
 rintro e w3 ⟨rfl,rfl⟩
 have f0:=aU.out.1.free 0
 have c0:=aU.out.1.cell (j:=0) rfl
 go_upto_region 13 with fail
 generalize hW:World.setCell W2 _ _=W3
 have aW:Hid (Pm R (gt + 1) (gt + 2) W3 ⟨hd op ((bF ts:Nat):Int),.nil,.nil,zS⟩ ts):=Lib.hid (by rw [← hW]; exact aU.out.1.op op bY.out)
 have fu:Hid (Fr R.br (gt + 1) W2 W3):=Lib.hid (by rw [← hW]; exact (Fr.refl _ _ _).set _ _ (.inl rfl))
 obtain ⟨pos,hp,q0,q1,fq,HX⟩:=aW.out.rd.open
 clear hW f0 c0 e0 e1 hnf lq
 go_upto_region 14 with fail
 generalize hW:World.setCell W3 _ _=W4
 have HQ:Hid (bf W4 R ts.tail∧W3.grownBy W4 (some R.br)):=Lib.hid (by rw [← hW,nC.out]; exact HX.out t0 r0 nC.out)
 have dS:=Lib.hid (aW.out.then HQ.out.1 HQ.out.2)
 have dQ:=Lib.hid (fu.out.trans (Fr.cK HQ.out.2))
 clear hW q0 q1 fq HX aW HQ fu
 go_wp2_with fail
 refine (HC.out gt _ dS.out).mono ?_
 cases res with
 | no q=>
   rintro e w4 ⟨rfl,⟨x,h2⟩,h3⟩
   have dS:=Lib.hid h2
   have fZ:=Lib.hid (dQ.out.trans h3)
   clear h2 h3
   have iD:=Lib.hid (gP fZ.out aU.out.2.2.1 (by have:=bW.out; omega) (by have:=bW.out; omega))
   obtain ⟨⟨y0,y1,y2,y3,y4,y5,y6,y7,y8,y9,iV⟩,fz⟩:=sM iD.out
   have z0:=fz 0
   have z1:=fz 1
   have z2:=fz 2
   have z3:=fz 3
   have z4:=fz 4
   have z5:=fz 5
   have z6:=fz 6
   have z7:=fz 7
   have z8:=fz 8
   have z9:=fz 9
   have aY:=fz 10
   obtain ⟨d0,d1,d2,d3,d4,d5,d6,d7,d8,d9,mK⟩:=gZ dS.out
   clear fz
   go_wp2_with fail
   exact bodyPost_ret (v:= .tuple #[cO x.h x.b x.e x.s,.bool false]) (by simp [results,Tryz.results148,go_sem,cO,y0,y1,y2,y3,y4,y5,y6,y7,y8,y9,iV]) rfl (qm dS.out (fZ.out.gr aU.out.2.1 (by have:=bW.out; omega)) bW.out.1)
 | ok y q=>
   rintro e w4 ⟨rfl,⟨s,h2⟩,h3⟩
   have dS:=Lib.hid h2
   have fZ:=Lib.hid (dQ.out.trans h3)
   clear h2 h3
   have iD:=Lib.hid (gP fZ.out aU.out.2.2.1 (by have:=bW.out; omega) (by have:=bW.out; omega))
   obtain ⟨⟨y0,y1,y2,y3,y4,y5,y6,y7,y8,y9,iV⟩,fz⟩:=sM iD.out
   have z0:=fz 0
   have z1:=fz 1
   have z2:=fz 2
   have z3:=fz 3
   have z4:=fz 4
   have z5:=fz 5
   have z6:=fz 6
   have z7:=fz 7
   have z8:=fz 8
   have z9:=fz 9
   have aY:=fz 10
   obtain ⟨d0,d1,d2,d3,d4,d5,d6,d7,d8,d9,mK⟩:=gZ dS.out
   clear fz
   go_wp2_with fail
   exact bodyPost_ret (v:= .tuple #[cO y.h y.b y.e s,.bool true]) (by simp [results,Tryz.results148,go_sem,cO,y0,y1,y2,y3,y4,y5,y6,y7,y8,y9,iV]) rfl (uH dS.out (fZ.out.gr aU.out.2.1 (by have:=bW.out; omega)) bW.out.1 (by have:=bW.out; omega))
theorem QI (w:World):(binOp .eql 225 (.func (.func 203) #[] #[]) .nilFunc).run Tryz.prog w= .ok (.bool false) w:=by kernel_rfl
set_option maxHeartbeats 4000000 in
set_option maxRecDepth 100000 in
theorem lT (R:Rp) (ts:aJ) (w:World) (hI:bf w R ts) (h3:(nextK ts == 3)=true) (op:Int) (hop:dR op)
 (lq:Hid (∀w,Calls Tryz.prog 172 #[.string (tx (aI ts))] w fun e w'=>e= .returned (.tuple #[.int .i64 op,.func (.func 203) #[] #[]])∧w=w')) (res:bK Sx)
 (HC:Hid (∀gt W,Pm R (gt + 1) (gt + 2) W ⟨hd op ((bF ts:Nat):Int),.nil,.nil,zS⟩ ts.tail→Calls Tryz.prog 203 #[.pointer (some ⟨R.br,0,none⟩),.pointer (some ⟨gt + 1,0,none⟩)] W (lZ R (gt + 1) (gt + 2) W res))):
 Calls Tryz.prog 148 #[.pointer (some ⟨R.br,0,none⟩)] w (qJ R w (res.map wL)):=by
 have hk:nextK ts=3:=by simpa using h3
 obtain ⟨t0,r0,hr⟩:=uG h3
 have nC:=Lib.hid hr
 have bY:=Lib.hid hop
 clear h3 hr hop
 have hnf:=QI
 have HI:=Lib.hid hI
 have HL:=Lib.hid (jZ hI)
 have hlt:=hI.lt
 go_enter Tryz.func148,Tryz.ntmps148
 go_upto_region 1 with fail
 generalize hW:World.alloc w _=W0
 have HB0:Hid (Below w.heap.size w W0):=Lib.hid (by rw [← hW]; exact aj _ _)
 have HZ0:Hid (W0.heap[w.heap.size]? =some (.cells mJ 131 (0,0))):=Lib.hid (by rw [← hW]; exact heap_alloc_new _ _)
 have HN:=Lib.hid (gT R ts W0 (HI.out.below HB0.out))
 unfold kI at HN
 rw [hk] at HN
 clear hW hI hk
 go_wp2_with fail
 refine HN.out.mono ?_
 rintro e w1 ⟨rfl,h2⟩
 have HB1:=Lib.hid (HB0.out.trans (h2.mono HB0.out.size))
 have HZ1:=Lib.hid ((h2.block _ (Array.getElem?_eq_some_iff.1 HZ0.out).1).trans HZ0.out)
 clear h2 HN HB0 HZ0
 go_upto_region 3 with fail
 obtain ⟨gt,hg⟩: ∃g,w1.heap.size=g:=⟨_,rfl⟩
 rw [hg]
 generalize hW:World.alloc (World.alloc w1 _) _=W2
 have aU:=Lib.hid (mh HI.out HB1.out HZ1.out HL.out gt hg W2 hW)
 have e0:=aU.out.2.2.2.1
 have e1:=aU.out.2.2.2.2.1
 have bW:Hid (R.br < w.heap.size∧w.heap.size < gt):=Lib.hid ⟨hlt,aU.out.2.2.2.2.2⟩
 clear hW hg HB1 HZ1
 go_wp2_with fail
 refine (lq.out _).mono ?_
 rintro e w3 ⟨rfl,rfl⟩
 have f0:=aU.out.1.free 0
 have c0:=aU.out.1.cell (j:=0) rfl
 go_upto_region 13 with fail
 generalize hW:World.setCell W2 _ _=W3
 have aW:Hid (Pm R (gt + 1) (gt + 2) W3 ⟨hd op ((bF ts:Nat):Int),.nil,.nil,zS⟩ ts):=Lib.hid (by rw [← hW]; exact aU.out.1.op op bY.out)
 have fu:Hid (Fr R.br (gt + 1) W2 W3):=Lib.hid (by rw [← hW]; exact (Fr.refl _ _ _).set _ _ (.inl rfl))
 obtain ⟨pos,hp,q0,q1,fq,HX⟩:=aW.out.rd.open
 clear hW f0 c0 e0 e1 hnf lq
 go_upto_region 14 with fail
 generalize hW:World.setCell W3 _ _=W4
 have HQ:Hid (bf W4 R ts.tail∧W3.grownBy W4 (some R.br)):=Lib.hid (by rw [← hW,nC.out]; exact HX.out t0 r0 nC.out)
 have dS:=Lib.hid (aW.out.then HQ.out.1 HQ.out.2)
 have dQ:=Lib.hid (fu.out.trans (Fr.cK HQ.out.2))
 clear hW q0 q1 fq HX aW HQ fu
 go_wp2_with fail
 refine (HC.out gt _ dS.out).mono ?_
 cases res with
 | no q=>
   rintro e w4 ⟨rfl,⟨x,h2⟩,h3⟩
   have dS:=Lib.hid h2
   have fZ:=Lib.hid (dQ.out.trans h3)
   clear h2 h3
   have iD:=Lib.hid (gP fZ.out aU.out.2.2.1 (by have:=bW.out; omega) (by have:=bW.out; omega))
   obtain ⟨⟨y0,y1,y2,y3,y4,y5,y6,y7,y8,y9,iV⟩,fz⟩:=sM iD.out
   have z0:=fz 0
   have z1:=fz 1
   have z2:=fz 2
   have z3:=fz 3
   have z4:=fz 4
   have z5:=fz 5
   have z6:=fz 6
   have z7:=fz 7
   have z8:=fz 8
   have z9:=fz 9
   have aY:=fz 10
   obtain ⟨d0,d1,d2,d3,d4,d5,d6,d7,d8,d9,mK⟩:=gZ dS.out
   clear fz
   go_wp2_with fail
   exact bodyPost_ret (v:= .tuple #[cO x.h x.b x.e x.s,.bool false]) (by simp [results,Tryz.results148,go_sem,cO,y0,y1,y2,y3,y4,y5,y6,y7,y8,y9,iV]) rfl (qm dS.out (fZ.out.gr aU.out.2.1 (by have:=bW.out; omega)) bW.out.1)
 | ok y q=>
   rintro e w4 ⟨rfl,⟨s,h2⟩,h3⟩
   have dS:=Lib.hid h2
   have fZ:=Lib.hid (dQ.out.trans h3)
   clear h2 h3
   have iD:=Lib.hid (gP fZ.out aU.out.2.2.1 (by have:=bW.out; omega) (by have:=bW.out; omega))
   obtain ⟨⟨y0,y1,y2,y3,y4,y5,y6,y7,y8,y9,iV⟩,fz⟩:=sM iD.out
   have z0:=fz 0
   have z1:=fz 1
   have z2:=fz 2
   have z3:=fz 3
   have z4:=fz 4
   have z5:=fz 5
   have z6:=fz 6
   have z7:=fz 7
   have z8:=fz 8
   have z9:=fz 9
   have aY:=fz 10
   obtain ⟨d0,d1,d2,d3,d4,d5,d6,d7,d8,d9,mK⟩:=gZ dS.out
   clear fz
   go_wp2_with fail
   exact bodyPost_ret (v:= .tuple #[cO y.h y.b y.e s,.bool true]) (by simp [results,Tryz.results148,go_sem,cO,y0,y1,y2,y3,y4,y5,y6,y7,y8,y9,iV]) rfl (uH dS.out (fZ.out.gr aU.out.2.1 (by have:=bW.out; omega)) bW.out.1 (by have:=bW.out; omega))
theorem Mq (w:World):(binOp .eql 225 (.func (.func 204) #[] #[]) .nilFunc).run Tryz.prog w= .ok (.bool false) w:=by kernel_rfl
set_option maxHeartbeats 4000000 in
set_option maxRecDepth 100000 in
theorem BR (R:Rp) (ts:aJ) (w:World) (hI:bf w R ts) (h3:(nextK ts == 3)=true) (op:Int) (hop:dR op)
 (lq:Hid (∀w,Calls Tryz.prog 172 #[.string (tx (aI ts))] w fun e w'=>e= .returned (.tuple #[.int .i64 op,.func (.func 204) #[] #[]])∧w=w')) (res:bK Sx)
 (HC:Hid (∀gt W,Pm R (gt + 1) (gt + 2) W ⟨hd op ((bF ts:Nat):Int),.nil,.nil,zS⟩ ts.tail→Calls Tryz.prog 204 #[.pointer (some ⟨R.br,0,none⟩),.pointer (some ⟨gt + 1,0,none⟩)] W (lZ R (gt + 1) (gt + 2) W res))):
 Calls Tryz.prog 148 #[.pointer (some ⟨R.br,0,none⟩)] w (qJ R w (res.map wL)):=by
 have hk:nextK ts=3:=by simpa using h3
 obtain ⟨t0,r0,hr⟩:=uG h3
 have nC:=Lib.hid hr
 have bY:=Lib.hid hop
 clear h3 hr hop
 have hnf:=Mq
 have HI:=Lib.hid hI
 have HL:=Lib.hid (jZ hI)
 have hlt:=hI.lt
 go_enter Tryz.func148,Tryz.ntmps148
 go_upto_region 1 with fail
 generalize hW:World.alloc w _=W0
 have HB0:Hid (Below w.heap.size w W0):=Lib.hid (by rw [← hW]; exact aj _ _)
 have HZ0:Hid (W0.heap[w.heap.size]? =some (.cells mJ 131 (0,0))):=Lib.hid (by rw [← hW]; exact heap_alloc_new _ _)
 have HN:=Lib.hid (gT R ts W0 (HI.out.below HB0.out))
 unfold kI at HN
 rw [hk] at HN
 clear hW hI hk
 go_wp2_with fail
 refine HN.out.mono ?_
 rintro e w1 ⟨rfl,h2⟩
 have HB1:=Lib.hid (HB0.out.trans (h2.mono HB0.out.size))
 have HZ1:=Lib.hid ((h2.block _ (Array.getElem?_eq_some_iff.1 HZ0.out).1).trans HZ0.out)
 clear h2 HN HB0 HZ0
 go_upto_region 3 with fail
 obtain ⟨gt,hg⟩: ∃g,w1.heap.size=g:=⟨_,rfl⟩
 rw [hg]
 generalize hW:World.alloc (World.alloc w1 _) _=W2
 have aU:=Lib.hid (mh HI.out HB1.out HZ1.out HL.out gt hg W2 hW)
 have e0:=aU.out.2.2.2.1
 have e1:=aU.out.2.2.2.2.1
 have bW:Hid (R.br < w.heap.size∧w.heap.size < gt):=Lib.hid ⟨hlt,aU.out.2.2.2.2.2⟩
 clear hW hg HB1 HZ1
 go_wp2_with fail
 refine (lq.out _).mono ?_
 rintro e w3 ⟨rfl,rfl⟩
 have f0:=aU.out.1.free 0
 have c0:=aU.out.1.cell (j:=0) rfl
 go_upto_region 13 with fail
 generalize hW:World.setCell W2 _ _=W3
 have aW:Hid (Pm R (gt + 1) (gt + 2) W3 ⟨hd op ((bF ts:Nat):Int),.nil,.nil,zS⟩ ts):=Lib.hid (by rw [← hW]; exact aU.out.1.op op bY.out)
 have fu:Hid (Fr R.br (gt + 1) W2 W3):=Lib.hid (by rw [← hW]; exact (Fr.refl _ _ _).set _ _ (.inl rfl))
 obtain ⟨pos,hp,q0,q1,fq,HX⟩:=aW.out.rd.open
 clear hW f0 c0 e0 e1 hnf lq
 go_upto_region 14 with fail
 generalize hW:World.setCell W3 _ _=W4
 have HQ:Hid (bf W4 R ts.tail∧W3.grownBy W4 (some R.br)):=Lib.hid (by rw [← hW,nC.out]; exact HX.out t0 r0 nC.out)
 have dS:=Lib.hid (aW.out.then HQ.out.1 HQ.out.2)
 have dQ:=Lib.hid (fu.out.trans (Fr.cK HQ.out.2))
 clear hW q0 q1 fq HX aW HQ fu
 go_wp2_with fail
 refine (HC.out gt _ dS.out).mono ?_
 cases res with
 | no q=>
   rintro e w4 ⟨rfl,⟨x,h2⟩,h3⟩
   have dS:=Lib.hid h2
   have fZ:=Lib.hid (dQ.out.trans h3)
   clear h2 h3
   have iD:=Lib.hid (gP fZ.out aU.out.2.2.1 (by have:=bW.out; omega) (by have:=bW.out; omega))
   obtain ⟨⟨y0,y1,y2,y3,y4,y5,y6,y7,y8,y9,iV⟩,fz⟩:=sM iD.out
   have z0:=fz 0
   have z1:=fz 1
   have z2:=fz 2
   have z3:=fz 3
   have z4:=fz 4
   have z5:=fz 5
   have z6:=fz 6
   have z7:=fz 7
   have z8:=fz 8
   have z9:=fz 9
   have aY:=fz 10
   obtain ⟨d0,d1,d2,d3,d4,d5,d6,d7,d8,d9,mK⟩:=gZ dS.out
   clear fz
   go_wp2_with fail
   exact bodyPost_ret (v:= .tuple #[cO x.h x.b x.e x.s,.bool false]) (by simp [results,Tryz.results148,go_sem,cO,y0,y1,y2,y3,y4,y5,y6,y7,y8,y9,iV]) rfl (qm dS.out (fZ.out.gr aU.out.2.1 (by have:=bW.out; omega)) bW.out.1)
 | ok y q=>
   rintro e w4 ⟨rfl,⟨s,h2⟩,h3⟩
   have dS:=Lib.hid h2
   have fZ:=Lib.hid (dQ.out.trans h3)
   clear h2 h3
   have iD:=Lib.hid (gP fZ.out aU.out.2.2.1 (by have:=bW.out; omega) (by have:=bW.out; omega))
   obtain ⟨⟨y0,y1,y2,y3,y4,y5,y6,y7,y8,y9,iV⟩,fz⟩:=sM iD.out
   have z0:=fz 0
   have z1:=fz 1
   have z2:=fz 2
   have z3:=fz 3
   have z4:=fz 4
   have z5:=fz 5
   have z6:=fz 6
   have z7:=fz 7
   have z8:=fz 8
   have z9:=fz 9
   have aY:=fz 10
   obtain ⟨d0,d1,d2,d3,d4,d5,d6,d7,d8,d9,mK⟩:=gZ dS.out
   clear fz
   go_wp2_with fail
   exact bodyPost_ret (v:= .tuple #[cO y.h y.b y.e s,.bool true]) (by simp [results,Tryz.results148,go_sem,cO,y0,y1,y2,y3,y4,y5,y6,y7,y8,y9,iV]) rfl (uH dS.out (fZ.out.gr aU.out.2.1 (by have:=bW.out; omega)) bW.out.1 (by have:=bW.out; omega))
theorem Ma (w:World):(binOp .eql 225 (.func (.func 205) #[] #[]) .nilFunc).run Tryz.prog w= .ok (.bool false) w:=by kernel_rfl
set_option maxHeartbeats 4000000 in
set_option maxRecDepth 100000 in
theorem BS (R:Rp) (ts:aJ) (w:World) (hI:bf w R ts) (h3:(nextK ts == 3)=true) (op:Int) (hop:dR op)
 (lq:Hid (∀w,Calls Tryz.prog 172 #[.string (tx (aI ts))] w fun e w'=>e= .returned (.tuple #[.int .i64 op,.func (.func 205) #[] #[]])∧w=w')) (res:bK Sx)
 (HC:Hid (∀gt W,Pm R (gt + 1) (gt + 2) W ⟨hd op ((bF ts:Nat):Int),.nil,.nil,zS⟩ ts.tail→Calls Tryz.prog 205 #[.pointer (some ⟨R.br,0,none⟩),.pointer (some ⟨gt + 1,0,none⟩)] W (lZ R (gt + 1) (gt + 2) W res))):
 Calls Tryz.prog 148 #[.pointer (some ⟨R.br,0,none⟩)] w (qJ R w (res.map wL)):=by
 have hk:nextK ts=3:=by simpa using h3
 obtain ⟨t0,r0,hr⟩:=uG h3
 have nC:=Lib.hid hr
 have bY:=Lib.hid hop
 clear h3 hr hop
 have hnf:=Ma
 have HI:=Lib.hid hI
 have HL:=Lib.hid (jZ hI)
 have hlt:=hI.lt
 go_enter Tryz.func148,Tryz.ntmps148
 go_upto_region 1 with fail
 generalize hW:World.alloc w _=W0
 have HB0:Hid (Below w.heap.size w W0):=Lib.hid (by rw [← hW]; exact aj _ _)
 have HZ0:Hid (W0.heap[w.heap.size]? =some (.cells mJ 131 (0,0))):=Lib.hid (by rw [← hW]; exact heap_alloc_new _ _)
 have HN:=Lib.hid (gT R ts W0 (HI.out.below HB0.out))
 unfold kI at HN
 rw [hk] at HN
 clear hW hI hk
 go_wp2_with fail
 refine HN.out.mono ?_
 rintro e w1 ⟨rfl,h2⟩
 have HB1:=Lib.hid (HB0.out.trans (h2.mono HB0.out.size))
 have HZ1:=Lib.hid ((h2.block _ (Array.getElem?_eq_some_iff.1 HZ0.out).1).trans HZ0.out)
 clear h2 HN HB0 HZ0
 go_upto_region 3 with fail
 obtain ⟨gt,hg⟩: ∃g,w1.heap.size=g:=⟨_,rfl⟩
 rw [hg]
 generalize hW:World.alloc (World.alloc w1 _) _=W2
 have aU:=Lib.hid (mh HI.out HB1.out HZ1.out HL.out gt hg W2 hW)
 have e0:=aU.out.2.2.2.1
 have e1:=aU.out.2.2.2.2.1
 have bW:Hid (R.br < w.heap.size∧w.heap.size < gt):=Lib.hid ⟨hlt,aU.out.2.2.2.2.2⟩
 clear hW hg HB1 HZ1
 go_wp2_with fail
 refine (lq.out _).mono ?_
 rintro e w3 ⟨rfl,rfl⟩
 have f0:=aU.out.1.free 0
 have c0:=aU.out.1.cell (j:=0) rfl
 go_upto_region 13 with fail
 generalize hW:World.setCell W2 _ _=W3
 have aW:Hid (Pm R (gt + 1) (gt + 2) W3 ⟨hd op ((bF ts:Nat):Int),.nil,.nil,zS⟩ ts):=Lib.hid (by rw [← hW]; exact aU.out.1.op op bY.out)
 have fu:Hid (Fr R.br (gt + 1) W2 W3):=Lib.hid (by rw [← hW]; exact (Fr.refl _ _ _).set _ _ (.inl rfl))
 obtain ⟨pos,hp,q0,q1,fq,HX⟩:=aW.out.rd.open
 clear hW f0 c0 e0 e1 hnf lq
 go_upto_region 14 with fail
 generalize hW:World.setCell W3 _ _=W4
 have HQ:Hid (bf W4 R ts.tail∧W3.grownBy W4 (some R.br)):=Lib.hid (by rw [← hW,nC.out]; exact HX.out t0 r0 nC.out)
 have dS:=Lib.hid (aW.out.then HQ.out.1 HQ.out.2)
 have dQ:=Lib.hid (fu.out.trans (Fr.cK HQ.out.2))
 clear hW q0 q1 fq HX aW HQ fu
 go_wp2_with fail
 refine (HC.out gt _ dS.out).mono ?_
 cases res with
 | no q=>
   rintro e w4 ⟨rfl,⟨x,h2⟩,h3⟩
   have dS:=Lib.hid h2
   have fZ:=Lib.hid (dQ.out.trans h3)
   clear h2 h3
   have iD:=Lib.hid (gP fZ.out aU.out.2.2.1 (by have:=bW.out; omega) (by have:=bW.out; omega))
   obtain ⟨⟨y0,y1,y2,y3,y4,y5,y6,y7,y8,y9,iV⟩,fz⟩:=sM iD.out
   have z0:=fz 0
   have z1:=fz 1
   have z2:=fz 2
   have z3:=fz 3
   have z4:=fz 4
   have z5:=fz 5
   have z6:=fz 6
   have z7:=fz 7
   have z8:=fz 8
   have z9:=fz 9
   have aY:=fz 10
   obtain ⟨d0,d1,d2,d3,d4,d5,d6,d7,d8,d9,mK⟩:=gZ dS.out
   clear fz
   go_wp2_with fail
   exact bodyPost_ret (v:= .tuple #[cO x.h x.b x.e x.s,.bool false]) (by simp [results,Tryz.results148,go_sem,cO,y0,y1,y2,y3,y4,y5,y6,y7,y8,y9,iV]) rfl (qm dS.out (fZ.out.gr aU.out.2.1 (by have:=bW.out; omega)) bW.out.1)
 | ok y q=>
   rintro e w4 ⟨rfl,⟨s,h2⟩,h3⟩
   have dS:=Lib.hid h2
   have fZ:=Lib.hid (dQ.out.trans h3)
   clear h2 h3
   have iD:=Lib.hid (gP fZ.out aU.out.2.2.1 (by have:=bW.out; omega) (by have:=bW.out; omega))
   obtain ⟨⟨y0,y1,y2,y3,y4,y5,y6,y7,y8,y9,iV⟩,fz⟩:=sM iD.out
   have z0:=fz 0
   have z1:=fz 1
   have z2:=fz 2
   have z3:=fz 3
   have z4:=fz 4
   have z5:=fz 5
   have z6:=fz 6
   have z7:=fz 7
   have z8:=fz 8
   have z9:=fz 9
   have aY:=fz 10
   obtain ⟨d0,d1,d2,d3,d4,d5,d6,d7,d8,d9,mK⟩:=gZ dS.out
   clear fz
   go_wp2_with fail
   exact bodyPost_ret (v:= .tuple #[cO y.h y.b y.e s,.bool true]) (by simp [results,Tryz.results148,go_sem,cO,y0,y1,y2,y3,y4,y5,y6,y7,y8,y9,iV]) rfl (uH dS.out (fZ.out.gr aU.out.2.1 (by have:=bW.out; omega)) bW.out.1 (by have:=bW.out; omega))
theorem jW {ts:aJ} {op:Int} {v:Value} (h:iA (aI ts)=op) (hv:Si op=v): ∀w,Calls Tryz.prog 172 #[.string (tx (aI ts))] w fun e w'=>e= .returned (.tuple #[.int .i64 op,v])∧w=w':=fun w=>by
 have:=Hl (tx (aI ts)) (l:=aI ts) rfl w
 rw [h,hv] at this; exact this
theorem Fb (R:Rp) (f:Nat) (ts:aJ) (ru:Hid (∀q,q.length < ts.length→mX R f q)) (w:World) (hI:bf w R ts):
 Calls Tryz.prog 148 #[.pointer (some ⟨R.br,0,none⟩)] w (qJ R w (ps (f + 1) true ts)):=by
 cases h1:(nextK ts == 1)
 ·cases h3:(nextK ts == 3)
  ·exact Ep R f ts w hI h1 h3
  ·cases h0:(iA (aI ts) == 0)
   ·have hlt:ts.tail.length < ts.length:=by obtain ⟨t,r,rfl⟩:=uG h3; simp
    have HB1:Hid (∀q,q.length < ts.tail.length→mX R f q):=Lib.hid (fun q hq=>ru.out q (by omega))
    have HB2:Hid (mX R f ts.tail):=Lib.hid (ru.out _ hlt)
    have HB3:Hid (isName ts.tail=true→mX R f ts.tail.tail):=Lib.hid (fun hn=>ru.out _ (by have:=wB hn; omega))
    rw [Xt h1 h3 h0]
    have hr:=U1 (aI ts) h0
    have hi:dR (iA (aI ts)):=by unfold dR; omega
    have hcs:iA (aI ts)=2∨iA (aI ts)=3∨iA (aI ts)=4∨iA (aI ts)=5∨iA (aI ts)=6∨iA (aI ts)=7∨iA (aI ts)=8∨iA (aI ts)=9∨iA (aI ts)=10∨iA (aI ts)=11∨iA (aI ts)=12∨iA (aI ts)=13∨iA (aI ts)=14∨iA (aI ts)=15:=by omega
    rcases hcs with h | h | h | h | h | h | h | h | h | h | h | h | h | h <;> rw [h] at hi ⊢
    ·exact yR R ts w hI h3 2 hi (Lib.hid (jW h rfl)) _ (Lib.hid fun gt W hP=>Qt R _ _ f ts.tail HB1 _ _ W hP)
    ·exact Fg R ts w hI h3 3 hi (Lib.hid (jW h rfl)) _ (Lib.hid fun gt W hP=>J5 R _ _ f ts.tail HB1 _ _ W hP)
    ·exact nO R ts w hI h3 4 hi (Lib.hid (jW h rfl)) _ (Lib.hid fun gt W hP=>sU R _ _ f ts.tail HB3 _ _ W hP)
    ·exact nO R ts w hI h3 5 hi (Lib.hid (jW h rfl)) _ (Lib.hid fun gt W hP=>sU R _ _ f ts.tail HB3 _ _ W hP)
    ·exact nO R ts w hI h3 6 hi (Lib.hid (jW h rfl)) _ (Lib.hid fun gt W hP=>sU R _ _ f ts.tail HB3 _ _ W hP)
    ·exact rX R ts w hI h3 7 hi (Lib.hid (jW h rfl)) _ (Lib.hid fun gt W hP=>xJ R _ _ f ts.tail HB2 _ _ _ W hP)
    ·exact rX R ts w hI h3 8 hi (Lib.hid (jW h rfl)) _ (Lib.hid fun gt W hP=>xJ R _ _ f ts.tail HB2 _ _ _ W hP)
    ·exact lT R ts w hI h3 9 hi (Lib.hid (jW h rfl)) _ (Lib.hid fun gt W hP=>uf R _ _ ts.tail _ _ W hP)
    ·exact lT R ts w hI h3 10 hi (Lib.hid (jW h rfl)) _ (Lib.hid fun gt W hP=>uf R _ _ ts.tail _ _ W hP)
    ·exact lT R ts w hI h3 11 hi (Lib.hid (jW h rfl)) _ (Lib.hid fun gt W hP=>uf R _ _ ts.tail _ _ W hP)
    ·exact lT R ts w hI h3 12 hi (Lib.hid (jW h rfl)) _ (Lib.hid fun gt W hP=>uf R _ _ ts.tail _ _ W hP)
    ·exact lT R ts w hI h3 13 hi (Lib.hid (jW h rfl)) _ (Lib.hid fun gt W hP=>uf R _ _ ts.tail _ _ W hP)
    ·exact BR R ts w hI h3 14 hi (Lib.hid (jW h rfl)) _ (Lib.hid fun gt W hP=>Jz R _ _ ts.tail _ _ W hP)
    ·exact BS R ts w hI h3 15 hi (Lib.hid (jW h rfl)) _ (Lib.hid fun gt W hP=>Ju R _ _ ts.tail _ _ W hP)
   ·exact EK R f ts w hI h1 h3 h0
 ·exact EW R f ts w hI h1
end Go.Proofs.YtdajkddgnfgijaaGreatDoor
