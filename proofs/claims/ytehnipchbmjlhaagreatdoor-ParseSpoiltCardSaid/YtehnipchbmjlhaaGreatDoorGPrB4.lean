/-
  Contract of the reader's statement: keywords.
-/
import Derived.Test.YtehnipchbmjlhaaGreatDoorGRC
set_option linter.unusedSimpArgs false
set_option linter.unusedVariables false
set_option maxHeartbeats 40000000
set_option maxRecDepth 1000000
namespace Go.Proofs.YtehnipchbmjlhaaGreatDoor
open Go.RowKit
open Md Pz
theorem tN {ts:ak} (h:(nextK ts == 3)=true): ∃t r,ts=t ::r:=by
 cases ts with
 | nil=>exact absurd h (by simp [nextK])
 | cons t r=>exact ⟨t,r,rfl⟩
theorem Fa (w:World):(binOp .eql 198 (.func (.func 168) #[] #[]) .nilFunc).run Tryz.prog w= .ok (.bool false) w:=by kernel_rfl
theorem yH (R:Rp) (ts:ak) (w:World) (hI:aY w R ts) (h3:(nextK ts == 3)=true) (op:Int) (hop:aM op)
 (iX:Hid (∀w,Calls Tryz.prog 158 #[.string (tx (ay ts))] w fun e w'=>e= .returned (.tuple #[.int .i64 op,.func (.func 168) #[] #[]])∧w=w')) (res:bg Sx)
 (HC:Hid (∀gt W,Pm R (gt + 1) (gt + 2) W ⟨hd op ((aK ts:Nat):Int),.nil,.nil,zS⟩ ts.tail→Calls Tryz.prog 168 #[.pointer (some ⟨R.br,0,none⟩),.pointer (some ⟨gt + 1,0,none⟩)] W (mK R (gt + 1) (gt + 2) W res))):
 Calls Tryz.prog 130 #[.pointer (some ⟨R.br,0,none⟩)] w (ql R w (res.map rW)):=by
 have hk:nextK ts=3:=by simpa using h3
 obtain ⟨t0,r0,hr⟩:=tN h3
 have nu:=Lib.hid hr
 have cO:=Lib.hid hop
 clear h3 hr hop
 have hnf:=Fa
 have HI:=Lib.hid hI
 have HL:=Lib.hid (kX hI)
 have hlt:=hI.lt
 go_enter Tryz.func130,Tryz.ntmps130
 go_upto_region 1 with fail
 generalize hW:World.alloc w _=W0
 have HB0:Hid (Below w.heap.size w W0):=Lib.hid (by rw [← hW]; exact ah _ _)
 have HZ0:Hid (W0.heap[w.heap.size]? =some (.cells gG 89 (0,0))):=Lib.hid (by rw [← hW]; exact heap_alloc_new _ _)
 have HN:=Lib.hid (ig R ts W0 (HI.out.below HB0.out))
 unfold lH at HN
 rw [hk] at HN
 clear hW hI hk
 go_wp2_with fail
 refine HN.out.mono ?_
 rintro e w1 ⟨rfl,h2⟩
 have HB1:=Lib.hid (HB0.out.trans (h2.mono HB0.out.size))
 have HZ1:=Lib.hid ((h2.block _ (Array.getElem?_eq_some_iff.1 HZ0.out).1).trans HZ0.out)
 clear h2 HN HB0 HZ0
 go_upto_region 3 with fail
 obtain ⟨gt,hg⟩: ∃g,w1.heap.size=g:=⟨_,rfl⟩
 rw [hg]
 generalize hW:World.alloc (World.alloc w1 _) _=W2
 have aU:=Lib.hid (mP HI.out HB1.out HZ1.out HL.out gt hg W2 hW)
 have e0:=aU.out.2.2.2.1
 have e1:=aU.out.2.2.2.2.1
 have aX:Hid (R.br < w.heap.size∧w.heap.size < gt):=Lib.hid ⟨hlt,aU.out.2.2.2.2.2⟩
 clear hW hg HB1 HZ1
 go_wp2_with fail
 refine (iX.out _).mono ?_
 rintro e w3 ⟨rfl,rfl⟩
 have f0:=aU.out.1.free 0
 have c0:=aU.out.1.cell (j:=0) rfl
 go_upto_region 13 with fail
 generalize hW:World.setCell W2 _ _=W3
 have aT:Hid (Pm R (gt + 1) (gt + 2) W3 ⟨hd op ((aK ts:Nat):Int),.nil,.nil,zS⟩ ts):=Lib.hid (by rw [← hW]; exact aU.out.1.op op cO.out)
 have fQ:Hid (Fr R.br (gt + 1) W2 W3):=Lib.hid (by rw [← hW]; exact (Fr.refl _ _ _).set _ _ (.inl rfl))
 obtain ⟨pos,hp,q0,q1,fq,HX⟩:=aT.out.rd.open
 clear hW f0 c0 e0 e1 hnf iX
 go_upto_region 14 with fail
 generalize hW:World.setCell W3 _ _=W4
 have HQ:Hid (aY W4 R ts.tail∧W3.grownBy W4 (some R.br)):=Lib.hid (by rw [← hW,nu.out]; exact HX.out t0 r0 nu.out)
 have dX:=Lib.hid (aT.out.then HQ.out.1 HQ.out.2)
 have dA:=Lib.hid (fQ.out.trans (Fr.bS HQ.out.2))
 clear hW q0 q1 fq HX aT HQ fQ
 go_wp2_with fail
 refine (HC.out gt _ dX.out).mono ?_
 cases res with
 | no q=>
   rintro e w4 ⟨rfl,⟨x,h2⟩,h3⟩
   have dX:=Lib.hid h2
   have gD:=Lib.hid (dA.out.trans h3)
   clear h2 h3
   have fK:=Lib.hid (gZ gD.out aU.out.2.2.1 (by have:=aX.out; omega) (by have:=aX.out; omega))
   obtain ⟨⟨y0,y1,y2,y3,y4,y5,y6,y7,y8,y9,dZ⟩,fz⟩:=kC fK.out
   have z0:=fz 0
   have z1:=fz 1
   have z2:=fz 2
   have z3:=fz 3
   have z4:=fz 4
   have z5:=fz 5
   have z6:=fz 6
   have z7:=fz 7
   have z8:=fz 8
   have z9:=fz 9
   have jD:=fz 10
   obtain ⟨d0,d1,d2,d3,d4,d5,d6,d7,d8,d9,iJ⟩:=iF dX.out
   clear fz
   go_wp2_with fail
   exact bodyPost_ret (v:= .tuple #[bP x.h x.b x.e x.s,.bool false]) (by simp [results,Tryz.results130,go_sem,bP,y0,y1,y2,y3,y4,y5,y6,y7,y8,y9,dZ]) rfl (pV dX.out (gD.out.gr aU.out.2.1 (by have:=aX.out; omega)) aX.out.1)
 | ok y q=>
   rintro e w4 ⟨rfl,⟨s,h2⟩,h3⟩
   have dX:=Lib.hid h2
   have gD:=Lib.hid (dA.out.trans h3)
   clear h2 h3
   have fK:=Lib.hid (gZ gD.out aU.out.2.2.1 (by have:=aX.out; omega) (by have:=aX.out; omega))
   obtain ⟨⟨y0,y1,y2,y3,y4,y5,y6,y7,y8,y9,dZ⟩,fz⟩:=kC fK.out
   have z0:=fz 0
   have z1:=fz 1
   have z2:=fz 2
   have z3:=fz 3
   have z4:=fz 4
   have z5:=fz 5
   have z6:=fz 6
   have z7:=fz 7
   have z8:=fz 8
   have z9:=fz 9
   have jD:=fz 10
   obtain ⟨d0,d1,d2,d3,d4,d5,d6,d7,d8,d9,iJ⟩:=iF dX.out
   clear fz
   go_wp2_with fail
   exact bodyPost_ret (v:= .tuple #[bP y.h y.b y.e s,.bool true]) (by simp [results,Tryz.results130,go_sem,bP,y0,y1,y2,y3,y4,y5,y6,y7,y8,y9,dZ]) rfl (tQ dX.out (gD.out.gr aU.out.2.1 (by have:=aX.out; omega)) aX.out.1 (by have:=aX.out; omega))
theorem UR (w:World):(binOp .eql 198 (.func (.func 169) #[] #[]) .nilFunc).run Tryz.prog w= .ok (.bool false) w:=by kernel_rfl
theorem F3 (R:Rp) (ts:ak) (w:World) (hI:aY w R ts) (h3:(nextK ts == 3)=true) (op:Int) (hop:aM op)
 (iX:Hid (∀w,Calls Tryz.prog 158 #[.string (tx (ay ts))] w fun e w'=>e= .returned (.tuple #[.int .i64 op,.func (.func 169) #[] #[]])∧w=w')) (res:bg Sx)
 (HC:Hid (∀gt W,Pm R (gt + 1) (gt + 2) W ⟨hd op ((aK ts:Nat):Int),.nil,.nil,zS⟩ ts.tail→Calls Tryz.prog 169 #[.pointer (some ⟨R.br,0,none⟩),.pointer (some ⟨gt + 1,0,none⟩)] W (mK R (gt + 1) (gt + 2) W res))):
 Calls Tryz.prog 130 #[.pointer (some ⟨R.br,0,none⟩)] w (ql R w (res.map rW)):=by
 have hk:nextK ts=3:=by simpa using h3
 obtain ⟨t0,r0,hr⟩:=tN h3
 have nu:=Lib.hid hr
 have cO:=Lib.hid hop
 clear h3 hr hop
 have hnf:=UR
 have HI:=Lib.hid hI
 have HL:=Lib.hid (kX hI)
 have hlt:=hI.lt
 go_enter Tryz.func130,Tryz.ntmps130
 go_upto_region 1 with fail
 generalize hW:World.alloc w _=W0
 have HB0:Hid (Below w.heap.size w W0):=Lib.hid (by rw [← hW]; exact ah _ _)
 have HZ0:Hid (W0.heap[w.heap.size]? =some (.cells gG 89 (0,0))):=Lib.hid (by rw [← hW]; exact heap_alloc_new _ _)
 have HN:=Lib.hid (ig R ts W0 (HI.out.below HB0.out))
 unfold lH at HN
 rw [hk] at HN
 clear hW hI hk
 go_wp2_with fail
 refine HN.out.mono ?_
 rintro e w1 ⟨rfl,h2⟩
 have HB1:=Lib.hid (HB0.out.trans (h2.mono HB0.out.size))
 have HZ1:=Lib.hid ((h2.block _ (Array.getElem?_eq_some_iff.1 HZ0.out).1).trans HZ0.out)
 clear h2 HN HB0 HZ0
 go_upto_region 3 with fail
 obtain ⟨gt,hg⟩: ∃g,w1.heap.size=g:=⟨_,rfl⟩
 rw [hg]
 generalize hW:World.alloc (World.alloc w1 _) _=W2
 have aU:=Lib.hid (mP HI.out HB1.out HZ1.out HL.out gt hg W2 hW)
 have e0:=aU.out.2.2.2.1
 have e1:=aU.out.2.2.2.2.1
 have aX:Hid (R.br < w.heap.size∧w.heap.size < gt):=Lib.hid ⟨hlt,aU.out.2.2.2.2.2⟩
 clear hW hg HB1 HZ1
 go_wp2_with fail
 refine (iX.out _).mono ?_
 rintro e w3 ⟨rfl,rfl⟩
 have f0:=aU.out.1.free 0
 have c0:=aU.out.1.cell (j:=0) rfl
 go_upto_region 13 with fail
 generalize hW:World.setCell W2 _ _=W3
 have aT:Hid (Pm R (gt + 1) (gt + 2) W3 ⟨hd op ((aK ts:Nat):Int),.nil,.nil,zS⟩ ts):=Lib.hid (by rw [← hW]; exact aU.out.1.op op cO.out)
 have fQ:Hid (Fr R.br (gt + 1) W2 W3):=Lib.hid (by rw [← hW]; exact (Fr.refl _ _ _).set _ _ (.inl rfl))
 obtain ⟨pos,hp,q0,q1,fq,HX⟩:=aT.out.rd.open
 clear hW f0 c0 e0 e1 hnf iX
 go_upto_region 14 with fail
 generalize hW:World.setCell W3 _ _=W4
 have HQ:Hid (aY W4 R ts.tail∧W3.grownBy W4 (some R.br)):=Lib.hid (by rw [← hW,nu.out]; exact HX.out t0 r0 nu.out)
 have dX:=Lib.hid (aT.out.then HQ.out.1 HQ.out.2)
 have dA:=Lib.hid (fQ.out.trans (Fr.bS HQ.out.2))
 clear hW q0 q1 fq HX aT HQ fQ
 go_wp2_with fail
 refine (HC.out gt _ dX.out).mono ?_
 cases res with
 | no q=>
   rintro e w4 ⟨rfl,⟨x,h2⟩,h3⟩
   have dX:=Lib.hid h2
   have gD:=Lib.hid (dA.out.trans h3)
   clear h2 h3
   have fK:=Lib.hid (gZ gD.out aU.out.2.2.1 (by have:=aX.out; omega) (by have:=aX.out; omega))
   obtain ⟨⟨y0,y1,y2,y3,y4,y5,y6,y7,y8,y9,dZ⟩,fz⟩:=kC fK.out
   have z0:=fz 0
   have z1:=fz 1
   have z2:=fz 2
   have z3:=fz 3
   have z4:=fz 4
   have z5:=fz 5
   have z6:=fz 6
   have z7:=fz 7
   have z8:=fz 8
   have z9:=fz 9
   have jD:=fz 10
   obtain ⟨d0,d1,d2,d3,d4,d5,d6,d7,d8,d9,iJ⟩:=iF dX.out
   clear fz
   go_wp2_with fail
   exact bodyPost_ret (v:= .tuple #[bP x.h x.b x.e x.s,.bool false]) (by simp [results,Tryz.results130,go_sem,bP,y0,y1,y2,y3,y4,y5,y6,y7,y8,y9,dZ]) rfl (pV dX.out (gD.out.gr aU.out.2.1 (by have:=aX.out; omega)) aX.out.1)
 | ok y q=>
   rintro e w4 ⟨rfl,⟨s,h2⟩,h3⟩
   have dX:=Lib.hid h2
   have gD:=Lib.hid (dA.out.trans h3)
   clear h2 h3
   have fK:=Lib.hid (gZ gD.out aU.out.2.2.1 (by have:=aX.out; omega) (by have:=aX.out; omega))
   obtain ⟨⟨y0,y1,y2,y3,y4,y5,y6,y7,y8,y9,dZ⟩,fz⟩:=kC fK.out
   have z0:=fz 0
   have z1:=fz 1
   have z2:=fz 2
   have z3:=fz 3
   have z4:=fz 4
   have z5:=fz 5
   have z6:=fz 6
   have z7:=fz 7
   have z8:=fz 8
   have z9:=fz 9
   have jD:=fz 10
   obtain ⟨d0,d1,d2,d3,d4,d5,d6,d7,d8,d9,iJ⟩:=iF dX.out
   clear fz
   go_wp2_with fail
   exact bodyPost_ret (v:= .tuple #[bP y.h y.b y.e s,.bool true]) (by simp [results,Tryz.results130,go_sem,bP,y0,y1,y2,y3,y4,y5,y6,y7,y8,y9,dZ]) rfl (tQ dX.out (gD.out.gr aU.out.2.1 (by have:=aX.out; omega)) aX.out.1 (by have:=aX.out; omega))
theorem H7 (w:World):(binOp .eql 198 (.func (.func 170) #[] #[]) .nilFunc).run Tryz.prog w= .ok (.bool false) w:=by kernel_rfl
theorem nM (R:Rp) (ts:ak) (w:World) (hI:aY w R ts) (h3:(nextK ts == 3)=true) (op:Int) (hop:aM op)
 (iX:Hid (∀w,Calls Tryz.prog 158 #[.string (tx (ay ts))] w fun e w'=>e= .returned (.tuple #[.int .i64 op,.func (.func 170) #[] #[]])∧w=w')) (res:bg Sx)
 (HC:Hid (∀gt W,Pm R (gt + 1) (gt + 2) W ⟨hd op ((aK ts:Nat):Int),.nil,.nil,zS⟩ ts.tail→Calls Tryz.prog 170 #[.pointer (some ⟨R.br,0,none⟩),.pointer (some ⟨gt + 1,0,none⟩)] W (mK R (gt + 1) (gt + 2) W res))):
 Calls Tryz.prog 130 #[.pointer (some ⟨R.br,0,none⟩)] w (ql R w (res.map rW)):=by
 have hk:nextK ts=3:=by simpa using h3
 obtain ⟨t0,r0,hr⟩:=tN h3
 have nu:=Lib.hid hr
 have cO:=Lib.hid hop
 clear h3 hr hop
 have hnf:=H7
 have HI:=Lib.hid hI
 have HL:=Lib.hid (kX hI)
 have hlt:=hI.lt
 go_enter Tryz.func130,Tryz.ntmps130
 go_upto_region 1 with fail
 generalize hW:World.alloc w _=W0
 have HB0:Hid (Below w.heap.size w W0):=Lib.hid (by rw [← hW]; exact ah _ _)
 have HZ0:Hid (W0.heap[w.heap.size]? =some (.cells gG 89 (0,0))):=Lib.hid (by rw [← hW]; exact heap_alloc_new _ _)
 have HN:=Lib.hid (ig R ts W0 (HI.out.below HB0.out))
 unfold lH at HN
 rw [hk] at HN
 clear hW hI hk
 go_wp2_with fail
 refine HN.out.mono ?_
 rintro e w1 ⟨rfl,h2⟩
 have HB1:=Lib.hid (HB0.out.trans (h2.mono HB0.out.size))
 have HZ1:=Lib.hid ((h2.block _ (Array.getElem?_eq_some_iff.1 HZ0.out).1).trans HZ0.out)
 clear h2 HN HB0 HZ0
 go_upto_region 3 with fail
 obtain ⟨gt,hg⟩: ∃g,w1.heap.size=g:=⟨_,rfl⟩
 rw [hg]
 generalize hW:World.alloc (World.alloc w1 _) _=W2
 have aU:=Lib.hid (mP HI.out HB1.out HZ1.out HL.out gt hg W2 hW)
 have e0:=aU.out.2.2.2.1
 have e1:=aU.out.2.2.2.2.1
 have aX:Hid (R.br < w.heap.size∧w.heap.size < gt):=Lib.hid ⟨hlt,aU.out.2.2.2.2.2⟩
 clear hW hg HB1 HZ1
 go_wp2_with fail
 refine (iX.out _).mono ?_
 rintro e w3 ⟨rfl,rfl⟩
 have f0:=aU.out.1.free 0
 have c0:=aU.out.1.cell (j:=0) rfl
 go_upto_region 13 with fail
 generalize hW:World.setCell W2 _ _=W3
 have aT:Hid (Pm R (gt + 1) (gt + 2) W3 ⟨hd op ((aK ts:Nat):Int),.nil,.nil,zS⟩ ts):=Lib.hid (by rw [← hW]; exact aU.out.1.op op cO.out)
 have fQ:Hid (Fr R.br (gt + 1) W2 W3):=Lib.hid (by rw [← hW]; exact (Fr.refl _ _ _).set _ _ (.inl rfl))
 obtain ⟨pos,hp,q0,q1,fq,HX⟩:=aT.out.rd.open
 clear hW f0 c0 e0 e1 hnf iX
 go_upto_region 14 with fail
 generalize hW:World.setCell W3 _ _=W4
 have HQ:Hid (aY W4 R ts.tail∧W3.grownBy W4 (some R.br)):=Lib.hid (by rw [← hW,nu.out]; exact HX.out t0 r0 nu.out)
 have dX:=Lib.hid (aT.out.then HQ.out.1 HQ.out.2)
 have dA:=Lib.hid (fQ.out.trans (Fr.bS HQ.out.2))
 clear hW q0 q1 fq HX aT HQ fQ
 go_wp2_with fail
 refine (HC.out gt _ dX.out).mono ?_
 cases res with
 | no q=>
   rintro e w4 ⟨rfl,⟨x,h2⟩,h3⟩
   have dX:=Lib.hid h2
   have gD:=Lib.hid (dA.out.trans h3)
   clear h2 h3
   have fK:=Lib.hid (gZ gD.out aU.out.2.2.1 (by have:=aX.out; omega) (by have:=aX.out; omega))
   obtain ⟨⟨y0,y1,y2,y3,y4,y5,y6,y7,y8,y9,dZ⟩,fz⟩:=kC fK.out
   have z0:=fz 0
   have z1:=fz 1
   have z2:=fz 2
   have z3:=fz 3
   have z4:=fz 4
   have z5:=fz 5
   have z6:=fz 6
   have z7:=fz 7
   have z8:=fz 8
   have z9:=fz 9
   have jD:=fz 10
   obtain ⟨d0,d1,d2,d3,d4,d5,d6,d7,d8,d9,iJ⟩:=iF dX.out
   clear fz
   go_wp2_with fail
   exact bodyPost_ret (v:= .tuple #[bP x.h x.b x.e x.s,.bool false]) (by simp [results,Tryz.results130,go_sem,bP,y0,y1,y2,y3,y4,y5,y6,y7,y8,y9,dZ]) rfl (pV dX.out (gD.out.gr aU.out.2.1 (by have:=aX.out; omega)) aX.out.1)
 | ok y q=>
   rintro e w4 ⟨rfl,⟨s,h2⟩,h3⟩
   have dX:=Lib.hid h2
   have gD:=Lib.hid (dA.out.trans h3)
   clear h2 h3
   have fK:=Lib.hid (gZ gD.out aU.out.2.2.1 (by have:=aX.out; omega) (by have:=aX.out; omega))
   obtain ⟨⟨y0,y1,y2,y3,y4,y5,y6,y7,y8,y9,dZ⟩,fz⟩:=kC fK.out
   have z0:=fz 0
   have z1:=fz 1
   have z2:=fz 2
   have z3:=fz 3
   have z4:=fz 4
   have z5:=fz 5
   have z6:=fz 6
   have z7:=fz 7
   have z8:=fz 8
   have z9:=fz 9
   have jD:=fz 10
   obtain ⟨d0,d1,d2,d3,d4,d5,d6,d7,d8,d9,iJ⟩:=iF dX.out
   clear fz
   go_wp2_with fail
   exact bodyPost_ret (v:= .tuple #[bP y.h y.b y.e s,.bool true]) (by simp [results,Tryz.results130,go_sem,bP,y0,y1,y2,y3,y4,y5,y6,y7,y8,y9,dZ]) rfl (tQ dX.out (gD.out.gr aU.out.2.1 (by have:=aX.out; omega)) aX.out.1 (by have:=aX.out; omega))
theorem Hg (w:World):(binOp .eql 198 (.func (.func 171) #[] #[]) .nilFunc).run Tryz.prog w= .ok (.bool false) w:=by kernel_rfl
theorem rE (R:Rp) (ts:ak) (w:World) (hI:aY w R ts) (h3:(nextK ts == 3)=true) (op:Int) (hop:aM op)
 (iX:Hid (∀w,Calls Tryz.prog 158 #[.string (tx (ay ts))] w fun e w'=>e= .returned (.tuple #[.int .i64 op,.func (.func 171) #[] #[]])∧w=w')) (res:bg Sx)
 (HC:Hid (∀gt W,Pm R (gt + 1) (gt + 2) W ⟨hd op ((aK ts:Nat):Int),.nil,.nil,zS⟩ ts.tail→Calls Tryz.prog 171 #[.pointer (some ⟨R.br,0,none⟩),.pointer (some ⟨gt + 1,0,none⟩)] W (mK R (gt + 1) (gt + 2) W res))):
 Calls Tryz.prog 130 #[.pointer (some ⟨R.br,0,none⟩)] w (ql R w (res.map rW)):=by
 have hk:nextK ts=3:=by simpa using h3
 obtain ⟨t0,r0,hr⟩:=tN h3
 have nu:=Lib.hid hr
 have cO:=Lib.hid hop
 clear h3 hr hop
 have hnf:=Hg
 have HI:=Lib.hid hI
 have HL:=Lib.hid (kX hI)
 have hlt:=hI.lt
 go_enter Tryz.func130,Tryz.ntmps130
 go_upto_region 1 with fail
 generalize hW:World.alloc w _=W0
 have HB0:Hid (Below w.heap.size w W0):=Lib.hid (by rw [← hW]; exact ah _ _)
 have HZ0:Hid (W0.heap[w.heap.size]? =some (.cells gG 89 (0,0))):=Lib.hid (by rw [← hW]; exact heap_alloc_new _ _)
 have HN:=Lib.hid (ig R ts W0 (HI.out.below HB0.out))
 unfold lH at HN
 rw [hk] at HN
 clear hW hI hk
 go_wp2_with fail
 refine HN.out.mono ?_
 rintro e w1 ⟨rfl,h2⟩
 have HB1:=Lib.hid (HB0.out.trans (h2.mono HB0.out.size))
 have HZ1:=Lib.hid ((h2.block _ (Array.getElem?_eq_some_iff.1 HZ0.out).1).trans HZ0.out)
 clear h2 HN HB0 HZ0
 go_upto_region 3 with fail
 obtain ⟨gt,hg⟩: ∃g,w1.heap.size=g:=⟨_,rfl⟩
 rw [hg]
 generalize hW:World.alloc (World.alloc w1 _) _=W2
 have aU:=Lib.hid (mP HI.out HB1.out HZ1.out HL.out gt hg W2 hW)
 have e0:=aU.out.2.2.2.1
 have e1:=aU.out.2.2.2.2.1
 have aX:Hid (R.br < w.heap.size∧w.heap.size < gt):=Lib.hid ⟨hlt,aU.out.2.2.2.2.2⟩
 clear hW hg HB1 HZ1
 go_wp2_with fail
 refine (iX.out _).mono ?_
 rintro e w3 ⟨rfl,rfl⟩
 have f0:=aU.out.1.free 0
 have c0:=aU.out.1.cell (j:=0) rfl
 go_upto_region 13 with fail
 generalize hW:World.setCell W2 _ _=W3
 have aT:Hid (Pm R (gt + 1) (gt + 2) W3 ⟨hd op ((aK ts:Nat):Int),.nil,.nil,zS⟩ ts):=Lib.hid (by rw [← hW]; exact aU.out.1.op op cO.out)
 have fQ:Hid (Fr R.br (gt + 1) W2 W3):=Lib.hid (by rw [← hW]; exact (Fr.refl _ _ _).set _ _ (.inl rfl))
 obtain ⟨pos,hp,q0,q1,fq,HX⟩:=aT.out.rd.open
 clear hW f0 c0 e0 e1 hnf iX
 go_upto_region 14 with fail
 generalize hW:World.setCell W3 _ _=W4
 have HQ:Hid (aY W4 R ts.tail∧W3.grownBy W4 (some R.br)):=Lib.hid (by rw [← hW,nu.out]; exact HX.out t0 r0 nu.out)
 have dX:=Lib.hid (aT.out.then HQ.out.1 HQ.out.2)
 have dA:=Lib.hid (fQ.out.trans (Fr.bS HQ.out.2))
 clear hW q0 q1 fq HX aT HQ fQ
 go_wp2_with fail
 refine (HC.out gt _ dX.out).mono ?_
 cases res with
 | no q=>
   rintro e w4 ⟨rfl,⟨x,h2⟩,h3⟩
   have dX:=Lib.hid h2
   have gD:=Lib.hid (dA.out.trans h3)
   clear h2 h3
   have fK:=Lib.hid (gZ gD.out aU.out.2.2.1 (by have:=aX.out; omega) (by have:=aX.out; omega))
   obtain ⟨⟨y0,y1,y2,y3,y4,y5,y6,y7,y8,y9,dZ⟩,fz⟩:=kC fK.out
   have z0:=fz 0
   have z1:=fz 1
   have z2:=fz 2
   have z3:=fz 3
   have z4:=fz 4
   have z5:=fz 5
   have z6:=fz 6
   have z7:=fz 7
   have z8:=fz 8
   have z9:=fz 9
   have jD:=fz 10
   obtain ⟨d0,d1,d2,d3,d4,d5,d6,d7,d8,d9,iJ⟩:=iF dX.out
   clear fz
   go_wp2_with fail
   exact bodyPost_ret (v:= .tuple #[bP x.h x.b x.e x.s,.bool false]) (by simp [results,Tryz.results130,go_sem,bP,y0,y1,y2,y3,y4,y5,y6,y7,y8,y9,dZ]) rfl (pV dX.out (gD.out.gr aU.out.2.1 (by have:=aX.out; omega)) aX.out.1)
 | ok y q=>
   rintro e w4 ⟨rfl,⟨s,h2⟩,h3⟩
   have dX:=Lib.hid h2
   have gD:=Lib.hid (dA.out.trans h3)
   clear h2 h3
   have fK:=Lib.hid (gZ gD.out aU.out.2.2.1 (by have:=aX.out; omega) (by have:=aX.out; omega))
   obtain ⟨⟨y0,y1,y2,y3,y4,y5,y6,y7,y8,y9,dZ⟩,fz⟩:=kC fK.out
   have z0:=fz 0
   have z1:=fz 1
   have z2:=fz 2
   have z3:=fz 3
   have z4:=fz 4
   have z5:=fz 5
   have z6:=fz 6
   have z7:=fz 7
   have z8:=fz 8
   have z9:=fz 9
   have jD:=fz 10
   obtain ⟨d0,d1,d2,d3,d4,d5,d6,d7,d8,d9,iJ⟩:=iF dX.out
   clear fz
   go_wp2_with fail
   exact bodyPost_ret (v:= .tuple #[bP y.h y.b y.e s,.bool true]) (by simp [results,Tryz.results130,go_sem,bP,y0,y1,y2,y3,y4,y5,y6,y7,y8,y9,dZ]) rfl (tQ dX.out (gD.out.gr aU.out.2.1 (by have:=aX.out; omega)) aX.out.1 (by have:=aX.out; omega))
theorem Tq (w:World):(binOp .eql 198 (.func (.func 172) #[] #[]) .nilFunc).run Tryz.prog w= .ok (.bool false) w:=by kernel_rfl
theorem mH (R:Rp) (ts:ak) (w:World) (hI:aY w R ts) (h3:(nextK ts == 3)=true) (op:Int) (hop:aM op)
 (iX:Hid (∀w,Calls Tryz.prog 158 #[.string (tx (ay ts))] w fun e w'=>e= .returned (.tuple #[.int .i64 op,.func (.func 172) #[] #[]])∧w=w')) (res:bg Sx)
 (HC:Hid (∀gt W,Pm R (gt + 1) (gt + 2) W ⟨hd op ((aK ts:Nat):Int),.nil,.nil,zS⟩ ts.tail→Calls Tryz.prog 172 #[.pointer (some ⟨R.br,0,none⟩),.pointer (some ⟨gt + 1,0,none⟩)] W (mK R (gt + 1) (gt + 2) W res))):
 Calls Tryz.prog 130 #[.pointer (some ⟨R.br,0,none⟩)] w (ql R w (res.map rW)):=by
 have hk:nextK ts=3:=by simpa using h3
 obtain ⟨t0,r0,hr⟩:=tN h3
 have nu:=Lib.hid hr
 have cO:=Lib.hid hop
 clear h3 hr hop
 have hnf:=Tq
 have HI:=Lib.hid hI
 have HL:=Lib.hid (kX hI)
 have hlt:=hI.lt
 go_enter Tryz.func130,Tryz.ntmps130
 go_upto_region 1 with fail
 generalize hW:World.alloc w _=W0
 have HB0:Hid (Below w.heap.size w W0):=Lib.hid (by rw [← hW]; exact ah _ _)
 have HZ0:Hid (W0.heap[w.heap.size]? =some (.cells gG 89 (0,0))):=Lib.hid (by rw [← hW]; exact heap_alloc_new _ _)
 have HN:=Lib.hid (ig R ts W0 (HI.out.below HB0.out))
 unfold lH at HN
 rw [hk] at HN
 clear hW hI hk
 go_wp2_with fail
 refine HN.out.mono ?_
 rintro e w1 ⟨rfl,h2⟩
 have HB1:=Lib.hid (HB0.out.trans (h2.mono HB0.out.size))
 have HZ1:=Lib.hid ((h2.block _ (Array.getElem?_eq_some_iff.1 HZ0.out).1).trans HZ0.out)
 clear h2 HN HB0 HZ0
 go_upto_region 3 with fail
 obtain ⟨gt,hg⟩: ∃g,w1.heap.size=g:=⟨_,rfl⟩
 rw [hg]
 generalize hW:World.alloc (World.alloc w1 _) _=W2
 have aU:=Lib.hid (mP HI.out HB1.out HZ1.out HL.out gt hg W2 hW)
 have e0:=aU.out.2.2.2.1
 have e1:=aU.out.2.2.2.2.1
 have aX:Hid (R.br < w.heap.size∧w.heap.size < gt):=Lib.hid ⟨hlt,aU.out.2.2.2.2.2⟩
 clear hW hg HB1 HZ1
 go_wp2_with fail
 refine (iX.out _).mono ?_
 rintro e w3 ⟨rfl,rfl⟩
 have f0:=aU.out.1.free 0
 have c0:=aU.out.1.cell (j:=0) rfl
 go_upto_region 13 with fail
 generalize hW:World.setCell W2 _ _=W3
 have aT:Hid (Pm R (gt + 1) (gt + 2) W3 ⟨hd op ((aK ts:Nat):Int),.nil,.nil,zS⟩ ts):=Lib.hid (by rw [← hW]; exact aU.out.1.op op cO.out)
 have fQ:Hid (Fr R.br (gt + 1) W2 W3):=Lib.hid (by rw [← hW]; exact (Fr.refl _ _ _).set _ _ (.inl rfl))
 obtain ⟨pos,hp,q0,q1,fq,HX⟩:=aT.out.rd.open
 clear hW f0 c0 e0 e1 hnf iX
 go_upto_region 14 with fail
 generalize hW:World.setCell W3 _ _=W4
 have HQ:Hid (aY W4 R ts.tail∧W3.grownBy W4 (some R.br)):=Lib.hid (by rw [← hW,nu.out]; exact HX.out t0 r0 nu.out)
 have dX:=Lib.hid (aT.out.then HQ.out.1 HQ.out.2)
 have dA:=Lib.hid (fQ.out.trans (Fr.bS HQ.out.2))
 clear hW q0 q1 fq HX aT HQ fQ
 go_wp2_with fail
 refine (HC.out gt _ dX.out).mono ?_
 cases res with
 | no q=>
   rintro e w4 ⟨rfl,⟨x,h2⟩,h3⟩
   have dX:=Lib.hid h2
   have gD:=Lib.hid (dA.out.trans h3)
   clear h2 h3
   have fK:=Lib.hid (gZ gD.out aU.out.2.2.1 (by have:=aX.out; omega) (by have:=aX.out; omega))
   obtain ⟨⟨y0,y1,y2,y3,y4,y5,y6,y7,y8,y9,dZ⟩,fz⟩:=kC fK.out
   have z0:=fz 0
   have z1:=fz 1
   have z2:=fz 2
   have z3:=fz 3
   have z4:=fz 4
   have z5:=fz 5
   have z6:=fz 6
   have z7:=fz 7
   have z8:=fz 8
   have z9:=fz 9
   have jD:=fz 10
   obtain ⟨d0,d1,d2,d3,d4,d5,d6,d7,d8,d9,iJ⟩:=iF dX.out
   clear fz
   go_wp2_with fail
   exact bodyPost_ret (v:= .tuple #[bP x.h x.b x.e x.s,.bool false]) (by simp [results,Tryz.results130,go_sem,bP,y0,y1,y2,y3,y4,y5,y6,y7,y8,y9,dZ]) rfl (pV dX.out (gD.out.gr aU.out.2.1 (by have:=aX.out; omega)) aX.out.1)
 | ok y q=>
   rintro e w4 ⟨rfl,⟨s,h2⟩,h3⟩
   have dX:=Lib.hid h2
   have gD:=Lib.hid (dA.out.trans h3)
   clear h2 h3
   have fK:=Lib.hid (gZ gD.out aU.out.2.2.1 (by have:=aX.out; omega) (by have:=aX.out; omega))
   obtain ⟨⟨y0,y1,y2,y3,y4,y5,y6,y7,y8,y9,dZ⟩,fz⟩:=kC fK.out
   have z0:=fz 0
   have z1:=fz 1
   have z2:=fz 2
   have z3:=fz 3
   have z4:=fz 4
   have z5:=fz 5
   have z6:=fz 6
   have z7:=fz 7
   have z8:=fz 8
   have z9:=fz 9
   have jD:=fz 10
   obtain ⟨d0,d1,d2,d3,d4,d5,d6,d7,d8,d9,iJ⟩:=iF dX.out
   clear fz
   go_wp2_with fail
   exact bodyPost_ret (v:= .tuple #[bP y.h y.b y.e s,.bool true]) (by simp [results,Tryz.results130,go_sem,bP,y0,y1,y2,y3,y4,y5,y6,y7,y8,y9,dZ]) rfl (tQ dX.out (gD.out.gr aU.out.2.1 (by have:=aX.out; omega)) aX.out.1 (by have:=aX.out; omega))
theorem NP (w:World):(binOp .eql 198 (.func (.func 173) #[] #[]) .nilFunc).run Tryz.prog w= .ok (.bool false) w:=by kernel_rfl
theorem Cj (R:Rp) (ts:ak) (w:World) (hI:aY w R ts) (h3:(nextK ts == 3)=true) (op:Int) (hop:aM op)
 (iX:Hid (∀w,Calls Tryz.prog 158 #[.string (tx (ay ts))] w fun e w'=>e= .returned (.tuple #[.int .i64 op,.func (.func 173) #[] #[]])∧w=w')) (res:bg Sx)
 (HC:Hid (∀gt W,Pm R (gt + 1) (gt + 2) W ⟨hd op ((aK ts:Nat):Int),.nil,.nil,zS⟩ ts.tail→Calls Tryz.prog 173 #[.pointer (some ⟨R.br,0,none⟩),.pointer (some ⟨gt + 1,0,none⟩)] W (mK R (gt + 1) (gt + 2) W res))):
 Calls Tryz.prog 130 #[.pointer (some ⟨R.br,0,none⟩)] w (ql R w (res.map rW)):=by
 have hk:nextK ts=3:=by simpa using h3
 obtain ⟨t0,r0,hr⟩:=tN h3
 have nu:=Lib.hid hr
 have cO:=Lib.hid hop
 clear h3 hr hop
 have hnf:=NP
 have HI:=Lib.hid hI
 have HL:=Lib.hid (kX hI)
 have hlt:=hI.lt
 go_enter Tryz.func130,Tryz.ntmps130
 go_upto_region 1 with fail
 generalize hW:World.alloc w _=W0
 have HB0:Hid (Below w.heap.size w W0):=Lib.hid (by rw [← hW]; exact ah _ _)
 have HZ0:Hid (W0.heap[w.heap.size]? =some (.cells gG 89 (0,0))):=Lib.hid (by rw [← hW]; exact heap_alloc_new _ _)
 have HN:=Lib.hid (ig R ts W0 (HI.out.below HB0.out))
 unfold lH at HN
 rw [hk] at HN
 clear hW hI hk
 go_wp2_with fail
 refine HN.out.mono ?_
 rintro e w1 ⟨rfl,h2⟩
 have HB1:=Lib.hid (HB0.out.trans (h2.mono HB0.out.size))
 have HZ1:=Lib.hid ((h2.block _ (Array.getElem?_eq_some_iff.1 HZ0.out).1).trans HZ0.out)
 clear h2 HN HB0 HZ0
 go_upto_region 3 with fail
 obtain ⟨gt,hg⟩: ∃g,w1.heap.size=g:=⟨_,rfl⟩
 rw [hg]
 generalize hW:World.alloc (World.alloc w1 _) _=W2
 have aU:=Lib.hid (mP HI.out HB1.out HZ1.out HL.out gt hg W2 hW)
 have e0:=aU.out.2.2.2.1
 have e1:=aU.out.2.2.2.2.1
 have aX:Hid (R.br < w.heap.size∧w.heap.size < gt):=Lib.hid ⟨hlt,aU.out.2.2.2.2.2⟩
 clear hW hg HB1 HZ1
 go_wp2_with fail
 refine (iX.out _).mono ?_
 rintro e w3 ⟨rfl,rfl⟩
 have f0:=aU.out.1.free 0
 have c0:=aU.out.1.cell (j:=0) rfl
 go_upto_region 13 with fail
 generalize hW:World.setCell W2 _ _=W3
 have aT:Hid (Pm R (gt + 1) (gt + 2) W3 ⟨hd op ((aK ts:Nat):Int),.nil,.nil,zS⟩ ts):=Lib.hid (by rw [← hW]; exact aU.out.1.op op cO.out)
 have fQ:Hid (Fr R.br (gt + 1) W2 W3):=Lib.hid (by rw [← hW]; exact (Fr.refl _ _ _).set _ _ (.inl rfl))
 obtain ⟨pos,hp,q0,q1,fq,HX⟩:=aT.out.rd.open
 clear hW f0 c0 e0 e1 hnf iX
 go_upto_region 14 with fail
 generalize hW:World.setCell W3 _ _=W4
 have HQ:Hid (aY W4 R ts.tail∧W3.grownBy W4 (some R.br)):=Lib.hid (by rw [← hW,nu.out]; exact HX.out t0 r0 nu.out)
 have dX:=Lib.hid (aT.out.then HQ.out.1 HQ.out.2)
 have dA:=Lib.hid (fQ.out.trans (Fr.bS HQ.out.2))
 clear hW q0 q1 fq HX aT HQ fQ
 go_wp2_with fail
 refine (HC.out gt _ dX.out).mono ?_
 cases res with
 | no q=>
   rintro e w4 ⟨rfl,⟨x,h2⟩,h3⟩
   have dX:=Lib.hid h2
   have gD:=Lib.hid (dA.out.trans h3)
   clear h2 h3
   have fK:=Lib.hid (gZ gD.out aU.out.2.2.1 (by have:=aX.out; omega) (by have:=aX.out; omega))
   obtain ⟨⟨y0,y1,y2,y3,y4,y5,y6,y7,y8,y9,dZ⟩,fz⟩:=kC fK.out
   have z0:=fz 0
   have z1:=fz 1
   have z2:=fz 2
   have z3:=fz 3
   have z4:=fz 4
   have z5:=fz 5
   have z6:=fz 6
   have z7:=fz 7
   have z8:=fz 8
   have z9:=fz 9
   have jD:=fz 10
   obtain ⟨d0,d1,d2,d3,d4,d5,d6,d7,d8,d9,iJ⟩:=iF dX.out
   clear fz
   go_wp2_with fail
   exact bodyPost_ret (v:= .tuple #[bP x.h x.b x.e x.s,.bool false]) (by simp [results,Tryz.results130,go_sem,bP,y0,y1,y2,y3,y4,y5,y6,y7,y8,y9,dZ]) rfl (pV dX.out (gD.out.gr aU.out.2.1 (by have:=aX.out; omega)) aX.out.1)
 | ok y q=>
   rintro e w4 ⟨rfl,⟨s,h2⟩,h3⟩
   have dX:=Lib.hid h2
   have gD:=Lib.hid (dA.out.trans h3)
   clear h2 h3
   have fK:=Lib.hid (gZ gD.out aU.out.2.2.1 (by have:=aX.out; omega) (by have:=aX.out; omega))
   obtain ⟨⟨y0,y1,y2,y3,y4,y5,y6,y7,y8,y9,dZ⟩,fz⟩:=kC fK.out
   have z0:=fz 0
   have z1:=fz 1
   have z2:=fz 2
   have z3:=fz 3
   have z4:=fz 4
   have z5:=fz 5
   have z6:=fz 6
   have z7:=fz 7
   have z8:=fz 8
   have z9:=fz 9
   have jD:=fz 10
   obtain ⟨d0,d1,d2,d3,d4,d5,d6,d7,d8,d9,iJ⟩:=iF dX.out
   clear fz
   go_wp2_with fail
   exact bodyPost_ret (v:= .tuple #[bP y.h y.b y.e s,.bool true]) (by simp [results,Tryz.results130,go_sem,bP,y0,y1,y2,y3,y4,y5,y6,y7,y8,y9,dZ]) rfl (tQ dX.out (gD.out.gr aU.out.2.1 (by have:=aX.out; omega)) aX.out.1 (by have:=aX.out; omega))
theorem MO (w:World):(binOp .eql 198 (.func (.func 174) #[] #[]) .nilFunc).run Tryz.prog w= .ok (.bool false) w:=by kernel_rfl
theorem Ci (R:Rp) (ts:ak) (w:World) (hI:aY w R ts) (h3:(nextK ts == 3)=true) (op:Int) (hop:aM op)
 (iX:Hid (∀w,Calls Tryz.prog 158 #[.string (tx (ay ts))] w fun e w'=>e= .returned (.tuple #[.int .i64 op,.func (.func 174) #[] #[]])∧w=w')) (res:bg Sx)
 (HC:Hid (∀gt W,Pm R (gt + 1) (gt + 2) W ⟨hd op ((aK ts:Nat):Int),.nil,.nil,zS⟩ ts.tail→Calls Tryz.prog 174 #[.pointer (some ⟨R.br,0,none⟩),.pointer (some ⟨gt + 1,0,none⟩)] W (mK R (gt + 1) (gt + 2) W res))):
 Calls Tryz.prog 130 #[.pointer (some ⟨R.br,0,none⟩)] w (ql R w (res.map rW)):=by
 have hk:nextK ts=3:=by simpa using h3
 obtain ⟨t0,r0,hr⟩:=tN h3
 have nu:=Lib.hid hr
 have cO:=Lib.hid hop
 clear h3 hr hop
 have hnf:=MO
 have HI:=Lib.hid hI
 have HL:=Lib.hid (kX hI)
 have hlt:=hI.lt
 go_enter Tryz.func130,Tryz.ntmps130
 go_upto_region 1 with fail
 generalize hW:World.alloc w _=W0
 have HB0:Hid (Below w.heap.size w W0):=Lib.hid (by rw [← hW]; exact ah _ _)
 have HZ0:Hid (W0.heap[w.heap.size]? =some (.cells gG 89 (0,0))):=Lib.hid (by rw [← hW]; exact heap_alloc_new _ _)
 have HN:=Lib.hid (ig R ts W0 (HI.out.below HB0.out))
 unfold lH at HN
 rw [hk] at HN
 clear hW hI hk
 go_wp2_with fail
 refine HN.out.mono ?_
 rintro e w1 ⟨rfl,h2⟩
 have HB1:=Lib.hid (HB0.out.trans (h2.mono HB0.out.size))
 have HZ1:=Lib.hid ((h2.block _ (Array.getElem?_eq_some_iff.1 HZ0.out).1).trans HZ0.out)
 clear h2 HN HB0 HZ0
 go_upto_region 3 with fail
 obtain ⟨gt,hg⟩: ∃g,w1.heap.size=g:=⟨_,rfl⟩
 rw [hg]
 generalize hW:World.alloc (World.alloc w1 _) _=W2
 have aU:=Lib.hid (mP HI.out HB1.out HZ1.out HL.out gt hg W2 hW)
 have e0:=aU.out.2.2.2.1
 have e1:=aU.out.2.2.2.2.1
 have aX:Hid (R.br < w.heap.size∧w.heap.size < gt):=Lib.hid ⟨hlt,aU.out.2.2.2.2.2⟩
 clear hW hg HB1 HZ1
 go_wp2_with fail
 refine (iX.out _).mono ?_
 rintro e w3 ⟨rfl,rfl⟩
 have f0:=aU.out.1.free 0
 have c0:=aU.out.1.cell (j:=0) rfl
 go_upto_region 13 with fail
 generalize hW:World.setCell W2 _ _=W3
 have aT:Hid (Pm R (gt + 1) (gt + 2) W3 ⟨hd op ((aK ts:Nat):Int),.nil,.nil,zS⟩ ts):=Lib.hid (by rw [← hW]; exact aU.out.1.op op cO.out)
 have fQ:Hid (Fr R.br (gt + 1) W2 W3):=Lib.hid (by rw [← hW]; exact (Fr.refl _ _ _).set _ _ (.inl rfl))
 obtain ⟨pos,hp,q0,q1,fq,HX⟩:=aT.out.rd.open
 clear hW f0 c0 e0 e1 hnf iX
 go_upto_region 14 with fail
 generalize hW:World.setCell W3 _ _=W4
 have HQ:Hid (aY W4 R ts.tail∧W3.grownBy W4 (some R.br)):=Lib.hid (by rw [← hW,nu.out]; exact HX.out t0 r0 nu.out)
 have dX:=Lib.hid (aT.out.then HQ.out.1 HQ.out.2)
 have dA:=Lib.hid (fQ.out.trans (Fr.bS HQ.out.2))
 clear hW q0 q1 fq HX aT HQ fQ
 go_wp2_with fail
 refine (HC.out gt _ dX.out).mono ?_
 cases res with
 | no q=>
   rintro e w4 ⟨rfl,⟨x,h2⟩,h3⟩
   have dX:=Lib.hid h2
   have gD:=Lib.hid (dA.out.trans h3)
   clear h2 h3
   have fK:=Lib.hid (gZ gD.out aU.out.2.2.1 (by have:=aX.out; omega) (by have:=aX.out; omega))
   obtain ⟨⟨y0,y1,y2,y3,y4,y5,y6,y7,y8,y9,dZ⟩,fz⟩:=kC fK.out
   have z0:=fz 0
   have z1:=fz 1
   have z2:=fz 2
   have z3:=fz 3
   have z4:=fz 4
   have z5:=fz 5
   have z6:=fz 6
   have z7:=fz 7
   have z8:=fz 8
   have z9:=fz 9
   have jD:=fz 10
   obtain ⟨d0,d1,d2,d3,d4,d5,d6,d7,d8,d9,iJ⟩:=iF dX.out
   clear fz
   go_wp2_with fail
   exact bodyPost_ret (v:= .tuple #[bP x.h x.b x.e x.s,.bool false]) (by simp [results,Tryz.results130,go_sem,bP,y0,y1,y2,y3,y4,y5,y6,y7,y8,y9,dZ]) rfl (pV dX.out (gD.out.gr aU.out.2.1 (by have:=aX.out; omega)) aX.out.1)
 | ok y q=>
   rintro e w4 ⟨rfl,⟨s,h2⟩,h3⟩
   have dX:=Lib.hid h2
   have gD:=Lib.hid (dA.out.trans h3)
   clear h2 h3
   have fK:=Lib.hid (gZ gD.out aU.out.2.2.1 (by have:=aX.out; omega) (by have:=aX.out; omega))
   obtain ⟨⟨y0,y1,y2,y3,y4,y5,y6,y7,y8,y9,dZ⟩,fz⟩:=kC fK.out
   have z0:=fz 0
   have z1:=fz 1
   have z2:=fz 2
   have z3:=fz 3
   have z4:=fz 4
   have z5:=fz 5
   have z6:=fz 6
   have z7:=fz 7
   have z8:=fz 8
   have z9:=fz 9
   have jD:=fz 10
   obtain ⟨d0,d1,d2,d3,d4,d5,d6,d7,d8,d9,iJ⟩:=iF dX.out
   clear fz
   go_wp2_with fail
   exact bodyPost_ret (v:= .tuple #[bP y.h y.b y.e s,.bool true]) (by simp [results,Tryz.results130,go_sem,bP,y0,y1,y2,y3,y4,y5,y6,y7,y8,y9,dZ]) rfl (tQ dX.out (gD.out.gr aU.out.2.1 (by have:=aX.out; omega)) aX.out.1 (by have:=aX.out; omega))
theorem kN {ts:ak} {op:Int} {v:Value} (h:eG (ay ts)=op) (hv:Uf op=v): ∀w,Calls Tryz.prog 158 #[.string (tx (ay ts))] w fun e w'=>e= .returned (.tuple #[.int .i64 op,v])∧w=w':=fun w=>by
 have:=JG (tx (ay ts)) (l:=ay ts) rfl w
 rw [h,hv] at this; exact this
theorem EW (R:Rp) (f:Nat) (ts:ak) (uK:Hid (∀q,q.length < ts.length→mQ R f q)) (w:World) (hI:aY w R ts):
 Calls Tryz.prog 130 #[.pointer (some ⟨R.br,0,none⟩)] w (ql R w (ps (f + 1) true ts)):=by
 cases h1:(nextK ts == 1)
 ·cases h3:(nextK ts == 3)
  ·exact E5 R f ts w hI h1 h3
  ·cases h0:(eG (ay ts) == 0)
   ·have hlt:ts.tail.length < ts.length:=by obtain ⟨t,r,rfl⟩:=tN h3; simp
    have HB1:Hid (∀q,q.length < ts.tail.length→mQ R f q):=Lib.hid (fun q hq=>uK.out q (by omega))
    have HB2:Hid (mQ R f ts.tail):=Lib.hid (uK.out _ hlt)
    have HB3:Hid (isName ts.tail=true→mQ R f ts.tail.tail):=Lib.hid (fun hn=>uK.out _ (by have:=sU hn; omega))
    rw [ab7 h1 h3 h0]
    have hr:=Vk (ay ts) h0
    have hi:aM (eG (ay ts)):=by unfold aM; omega
    have hcs:eG (ay ts)=2∨eG (ay ts)=3∨eG (ay ts)=4∨eG (ay ts)=5∨eG (ay ts)=6∨eG (ay ts)=7∨eG (ay ts)=8∨eG (ay ts)=9∨eG (ay ts)=10∨eG (ay ts)=11∨eG (ay ts)=12∨eG (ay ts)=13∨eG (ay ts)=14∨eG (ay ts)=15:=by omega
    rcases hcs with h | h | h | h | h | h | h | h | h | h | h | h | h | h <;> rw [h] at hi ⊢
    ·exact yH R ts w hI h3 2 hi (Lib.hid (kN h rfl)) _ (Lib.hid fun gt W hP=>Tx R _ _ f ts.tail HB1 _ _ W hP)
    ·exact F3 R ts w hI h3 3 hi (Lib.hid (kN h rfl)) _ (Lib.hid fun gt W hP=>K8 R _ _ f ts.tail HB1 _ _ W hP)
    ·exact nM R ts w hI h3 4 hi (Lib.hid (kN h rfl)) _ (Lib.hid fun gt W hP=>sD R _ _ f ts.tail HB3 _ _ W hP)
    ·exact nM R ts w hI h3 5 hi (Lib.hid (kN h rfl)) _ (Lib.hid fun gt W hP=>sD R _ _ f ts.tail HB3 _ _ W hP)
    ·exact nM R ts w hI h3 6 hi (Lib.hid (kN h rfl)) _ (Lib.hid fun gt W hP=>sD R _ _ f ts.tail HB3 _ _ W hP)
    ·exact rE R ts w hI h3 7 hi (Lib.hid (kN h rfl)) _ (Lib.hid fun gt W hP=>wS R _ _ f ts.tail HB2 _ _ _ W hP)
    ·exact rE R ts w hI h3 8 hi (Lib.hid (kN h rfl)) _ (Lib.hid fun gt W hP=>wS R _ _ f ts.tail HB2 _ _ _ W hP)
    ·exact mH R ts w hI h3 9 hi (Lib.hid (kN h rfl)) _ (Lib.hid fun gt W hP=>tX R _ _ ts.tail _ _ W hP)
    ·exact mH R ts w hI h3 10 hi (Lib.hid (kN h rfl)) _ (Lib.hid fun gt W hP=>tX R _ _ ts.tail _ _ W hP)
    ·exact mH R ts w hI h3 11 hi (Lib.hid (kN h rfl)) _ (Lib.hid fun gt W hP=>tX R _ _ ts.tail _ _ W hP)
    ·exact mH R ts w hI h3 12 hi (Lib.hid (kN h rfl)) _ (Lib.hid fun gt W hP=>tX R _ _ ts.tail _ _ W hP)
    ·exact mH R ts w hI h3 13 hi (Lib.hid (kN h rfl)) _ (Lib.hid fun gt W hP=>tX R _ _ ts.tail _ _ W hP)
    ·exact Cj R ts w hI h3 14 hi (Lib.hid (kN h rfl)) _ (Lib.hid fun gt W hP=>KO R _ _ ts.tail _ _ W hP)
    ·exact Ci R ts w hI h3 15 hi (Lib.hid (kN h rfl)) _ (Lib.hid fun gt W hP=>KY R _ _ ts.tail _ _ W hP)
   ·exact FD R f ts w hI h1 h3 h0
 ·exact Fq R f ts w hI h1
end Go.Proofs.YtehnipchbmjlhaaGreatDoor
