/-
  Contract of the reader's statement: keywords.
-/
import Derived.Test.YtehnipchbmjlhaaGreatDoorGRC
set_option linter.unusedSimpArgs false
set_option linter.unusedVariables false
namespace Go.Proofs.YtehnipchbmjlhaaGreatDoor
open Go.RowKit
open Md Pz
theorem sH {ts:aj} (h:(nextK ts == 3)=true): ∃t r,ts=t ::r:=by
 cases ts with
 | nil=>exact absurd h (by simp [nextK])
 | cons t r=>exact ⟨t,r,rfl⟩
theorem F3 (w:World):(binOp .eql 198 (.func (.func 168) #[] #[]) .nilFunc).run Tryz.prog w= .ok (.bool false) w:=by kernel_rfl
set_option maxHeartbeats 4000000 in
set_option maxRecDepth 100000 in
theorem yF (R:Rp) (ts:aj) (w:World) (hI:aS w R ts) (h3:(nextK ts == 3)=true) (op:Int) (hop:aV op)
 (iG:Hid (∀w,Calls Tryz.prog 158 #[.string (tx (ay ts))] w fun e w'=>e= .returned (.tuple #[.int .i64 op,.func (.func 168) #[] #[]])∧w=w')) (res:aT Sx)
 (HC:Hid (∀gt W,Pm R (gt + 1) (gt + 2) W ⟨hd op ((aU ts:Nat):Int),.nil,.nil,zS⟩ ts.tail→Calls Tryz.prog 168 #[.pointer (some ⟨R.br,0,none⟩),.pointer (some ⟨gt + 1,0,none⟩)] W (lN R (gt + 1) (gt + 2) W res))):
 Calls Tryz.prog 130 #[.pointer (some ⟨R.br,0,none⟩)] w (oW R w (res.map Bb)):=by
 have hk:nextK ts=3:=by simpa using h3
 obtain ⟨t0,r0,hr⟩:=sH h3
 have mF:=Lib.hid hr
 have eF:=Lib.hid hop
 clear h3 hr hop
 have hnf:=F3
 have HI:=Lib.hid hI
 have HL:=Lib.hid (kr hI)
 have hlt:=hI.lt
 go_enter Tryz.func130,Tryz.ntmps130
 go_upto_region 1 with fail
 generalize hW:World.alloc w _=W0
 have HB0:Hid (Below w.heap.size w W0):=Lib.hid (by rw [← hW]; exact ah _ _)
 have HZ0:Hid (W0.heap[w.heap.size]? =some (.cells lH 89 (0,0))):=Lib.hid (by rw [← hW]; exact heap_alloc_new _ _)
 have HN:=Lib.hid (gJ R ts W0 (HI.out.below HB0.out))
 unfold kE at HN
 rw [hk] at HN
 clear hW hI hk
 go_wp2_with fail
 refine HN.out.mono ?_
 rintro e w1 ⟨rfl,h2⟩
 have HB1:=Lib.hid (HB0.out.trans (h2.mono HB0.out.size))
 have HZ1:=Lib.hid ((h2.block _ (Array.getElem?_eq_some_iff.1 HZ0.out).1).trans HZ0.out)
 clear h2 HN HB0 HZ0
 go_upto_region 3 with fail
 obtain ⟨gt,hg⟩: ∃g,w1.heap.size=g:=⟨_,rfl⟩
 rw [hg]
 generalize hW:World.alloc (World.alloc w1 _) _=W2
 have aP:=Lib.hid (lM HI.out HB1.out HZ1.out HL.out gt hg W2 hW)
 have e0:=aP.out.2.2.2.1
 have e1:=aP.out.2.2.2.2.1
 have aX:Hid (R.br < w.heap.size∧w.heap.size < gt):=Lib.hid ⟨hlt,aP.out.2.2.2.2.2⟩
 clear hW hg HB1 HZ1
 go_wp2_with fail
 refine (iG.out _).mono ?_
 rintro e w3 ⟨rfl,rfl⟩
 have f0:=aP.out.1.free 0
 have c0:=aP.out.1.cell (j:=0) rfl
 go_upto_region 13 with fail
 generalize hW:World.setCell W2 _ _=W3
 have aN:Hid (Pm R (gt + 1) (gt + 2) W3 ⟨hd op ((aU ts:Nat):Int),.nil,.nil,zS⟩ ts):=Lib.hid (by rw [← hW]; exact aP.out.1.op op eF.out)
 have eZ:Hid (Fr R.br (gt + 1) W2 W3):=Lib.hid (by rw [← hW]; exact (Fr.refl _ _ _).set _ _ (.inl rfl))
 obtain ⟨pos,hp,q0,q1,fq,HX⟩:=aN.out.rd.open
 clear hW f0 c0 e0 e1 hnf iG
 go_upto_region 14 with fail
 generalize hW:World.setCell W3 _ _=W4
 have HQ:Hid (aS W4 R ts.tail∧W3.grownBy W4 (some R.br)):=Lib.hid (by rw [← hW,mF.out]; exact HX.out t0 r0 mF.out)
 have dO:=Lib.hid (aN.out.then HQ.out.1 HQ.out.2)
 have cK:=Lib.hid (eZ.out.trans (Fr.bL HQ.out.2))
 clear hW q0 q1 fq HX aN HQ eZ
 go_wp2_with fail
 refine (HC.out gt _ dO.out).mono ?_
 cases res with
 | no q=>
   rintro e w4 ⟨rfl,⟨x,h2⟩,h3⟩
   have dO:=Lib.hid h2
   have fG:=Lib.hid (cK.out.trans h3)
   clear h2 h3
   have eO:=Lib.hid (gI fG.out aP.out.2.2.1 (by have:=aX.out; omega) (by have:=aX.out; omega))
   obtain ⟨⟨y0,y1,y2,y3,y4,y5,y6,y7,y8,y9,iP⟩,fz⟩:=qU eO.out
   have z0:=fz 0
   have z1:=fz 1
   have z2:=fz 2
   have z3:=fz 3
   have z4:=fz 4
   have z5:=fz 5
   have z6:=fz 6
   have z7:=fz 7
   have z8:=fz 8
   have z9:=fz 9
   have nW:=fz 10
   obtain ⟨d0,d1,d2,d3,d4,d5,d6,d7,d8,d9,lG⟩:=gW dO.out
   clear fz
   go_wp2_with fail
   exact bodyPost_ret (v:= .tuple #[eB x.h x.b x.e x.s,.bool false]) (by simp [results,Tryz.results130,go_sem,eB,y0,y1,y2,y3,y4,y5,y6,y7,y8,y9,iP]) rfl (oH dO.out (fG.out.gr aP.out.2.1 (by have:=aX.out; omega)) aX.out.1)
 | ok y q=>
   rintro e w4 ⟨rfl,⟨s,h2⟩,h3⟩
   have dO:=Lib.hid h2
   have fG:=Lib.hid (cK.out.trans h3)
   clear h2 h3
   have eO:=Lib.hid (gI fG.out aP.out.2.2.1 (by have:=aX.out; omega) (by have:=aX.out; omega))
   obtain ⟨⟨y0,y1,y2,y3,y4,y5,y6,y7,y8,y9,iP⟩,fz⟩:=qU eO.out
   have z0:=fz 0
   have z1:=fz 1
   have z2:=fz 2
   have z3:=fz 3
   have z4:=fz 4
   have z5:=fz 5
   have z6:=fz 6
   have z7:=fz 7
   have z8:=fz 8
   have z9:=fz 9
   have nW:=fz 10
   obtain ⟨d0,d1,d2,d3,d4,d5,d6,d7,d8,d9,lG⟩:=gW dO.out
   clear fz
   go_wp2_with fail
   exact bodyPost_ret (v:= .tuple #[eB y.h y.b y.e s,.bool true]) (by simp [results,Tryz.results130,go_sem,eB,y0,y1,y2,y3,y4,y5,y6,y7,y8,y9,iP]) rfl (rX dO.out (fG.out.gr aP.out.2.1 (by have:=aX.out; omega)) aX.out.1 (by have:=aX.out; omega))
theorem VQ (w:World):(binOp .eql 198 (.func (.func 169) #[] #[]) .nilFunc).run Tryz.prog w= .ok (.bool false) w:=by kernel_rfl
set_option maxHeartbeats 4000000 in
set_option maxRecDepth 100000 in
theorem Fv (R:Rp) (ts:aj) (w:World) (hI:aS w R ts) (h3:(nextK ts == 3)=true) (op:Int) (hop:aV op)
 (iG:Hid (∀w,Calls Tryz.prog 158 #[.string (tx (ay ts))] w fun e w'=>e= .returned (.tuple #[.int .i64 op,.func (.func 169) #[] #[]])∧w=w')) (res:aT Sx)
 (HC:Hid (∀gt W,Pm R (gt + 1) (gt + 2) W ⟨hd op ((aU ts:Nat):Int),.nil,.nil,zS⟩ ts.tail→Calls Tryz.prog 169 #[.pointer (some ⟨R.br,0,none⟩),.pointer (some ⟨gt + 1,0,none⟩)] W (lN R (gt + 1) (gt + 2) W res))):
 Calls Tryz.prog 130 #[.pointer (some ⟨R.br,0,none⟩)] w (oW R w (res.map Bb)):=by
 have hk:nextK ts=3:=by simpa using h3
 obtain ⟨t0,r0,hr⟩:=sH h3
 have mF:=Lib.hid hr
 have eF:=Lib.hid hop
 clear h3 hr hop
 have hnf:=VQ
 have HI:=Lib.hid hI
 have HL:=Lib.hid (kr hI)
 have hlt:=hI.lt
 go_enter Tryz.func130,Tryz.ntmps130
 go_upto_region 1 with fail
 generalize hW:World.alloc w _=W0
 have HB0:Hid (Below w.heap.size w W0):=Lib.hid (by rw [← hW]; exact ah _ _)
 have HZ0:Hid (W0.heap[w.heap.size]? =some (.cells lH 89 (0,0))):=Lib.hid (by rw [← hW]; exact heap_alloc_new _ _)
 have HN:=Lib.hid (gJ R ts W0 (HI.out.below HB0.out))
 unfold kE at HN
 rw [hk] at HN
 clear hW hI hk
 go_wp2_with fail
 refine HN.out.mono ?_
 rintro e w1 ⟨rfl,h2⟩
 have HB1:=Lib.hid (HB0.out.trans (h2.mono HB0.out.size))
 have HZ1:=Lib.hid ((h2.block _ (Array.getElem?_eq_some_iff.1 HZ0.out).1).trans HZ0.out)
 clear h2 HN HB0 HZ0
 go_upto_region 3 with fail
 obtain ⟨gt,hg⟩: ∃g,w1.heap.size=g:=⟨_,rfl⟩
 rw [hg]
 generalize hW:World.alloc (World.alloc w1 _) _=W2
 have aP:=Lib.hid (lM HI.out HB1.out HZ1.out HL.out gt hg W2 hW)
 have e0:=aP.out.2.2.2.1
 have e1:=aP.out.2.2.2.2.1
 have aX:Hid (R.br < w.heap.size∧w.heap.size < gt):=Lib.hid ⟨hlt,aP.out.2.2.2.2.2⟩
 clear hW hg HB1 HZ1
 go_wp2_with fail
 refine (iG.out _).mono ?_
 rintro e w3 ⟨rfl,rfl⟩
 have f0:=aP.out.1.free 0
 have c0:=aP.out.1.cell (j:=0) rfl
 go_upto_region 13 with fail
 generalize hW:World.setCell W2 _ _=W3
 have aN:Hid (Pm R (gt + 1) (gt + 2) W3 ⟨hd op ((aU ts:Nat):Int),.nil,.nil,zS⟩ ts):=Lib.hid (by rw [← hW]; exact aP.out.1.op op eF.out)
 have eZ:Hid (Fr R.br (gt + 1) W2 W3):=Lib.hid (by rw [← hW]; exact (Fr.refl _ _ _).set _ _ (.inl rfl))
 obtain ⟨pos,hp,q0,q1,fq,HX⟩:=aN.out.rd.open
 clear hW f0 c0 e0 e1 hnf iG
 go_upto_region 14 with fail
 generalize hW:World.setCell W3 _ _=W4
 have HQ:Hid (aS W4 R ts.tail∧W3.grownBy W4 (some R.br)):=Lib.hid (by rw [← hW,mF.out]; exact HX.out t0 r0 mF.out)
 have dO:=Lib.hid (aN.out.then HQ.out.1 HQ.out.2)
 have cK:=Lib.hid (eZ.out.trans (Fr.bL HQ.out.2))
 clear hW q0 q1 fq HX aN HQ eZ
 go_wp2_with fail
 refine (HC.out gt _ dO.out).mono ?_
 cases res with
 | no q=>
   rintro e w4 ⟨rfl,⟨x,h2⟩,h3⟩
   have dO:=Lib.hid h2
   have fG:=Lib.hid (cK.out.trans h3)
   clear h2 h3
   have eO:=Lib.hid (gI fG.out aP.out.2.2.1 (by have:=aX.out; omega) (by have:=aX.out; omega))
   obtain ⟨⟨y0,y1,y2,y3,y4,y5,y6,y7,y8,y9,iP⟩,fz⟩:=qU eO.out
   have z0:=fz 0
   have z1:=fz 1
   have z2:=fz 2
   have z3:=fz 3
   have z4:=fz 4
   have z5:=fz 5
   have z6:=fz 6
   have z7:=fz 7
   have z8:=fz 8
   have z9:=fz 9
   have nW:=fz 10
   obtain ⟨d0,d1,d2,d3,d4,d5,d6,d7,d8,d9,lG⟩:=gW dO.out
   clear fz
   go_wp2_with fail
   exact bodyPost_ret (v:= .tuple #[eB x.h x.b x.e x.s,.bool false]) (by simp [results,Tryz.results130,go_sem,eB,y0,y1,y2,y3,y4,y5,y6,y7,y8,y9,iP]) rfl (oH dO.out (fG.out.gr aP.out.2.1 (by have:=aX.out; omega)) aX.out.1)
 | ok y q=>
   rintro e w4 ⟨rfl,⟨s,h2⟩,h3⟩
   have dO:=Lib.hid h2
   have fG:=Lib.hid (cK.out.trans h3)
   clear h2 h3
   have eO:=Lib.hid (gI fG.out aP.out.2.2.1 (by have:=aX.out; omega) (by have:=aX.out; omega))
   obtain ⟨⟨y0,y1,y2,y3,y4,y5,y6,y7,y8,y9,iP⟩,fz⟩:=qU eO.out
   have z0:=fz 0
   have z1:=fz 1
   have z2:=fz 2
   have z3:=fz 3
   have z4:=fz 4
   have z5:=fz 5
   have z6:=fz 6
   have z7:=fz 7
   have z8:=fz 8
   have z9:=fz 9
   have nW:=fz 10
   obtain ⟨d0,d1,d2,d3,d4,d5,d6,d7,d8,d9,lG⟩:=gW dO.out
   clear fz
   go_wp2_with fail
   exact bodyPost_ret (v:= .tuple #[eB y.h y.b y.e s,.bool true]) (by simp [results,Tryz.results130,go_sem,eB,y0,y1,y2,y3,y4,y5,y6,y7,y8,y9,iP]) rfl (rX dO.out (fG.out.gr aP.out.2.1 (by have:=aX.out; omega)) aX.out.1 (by have:=aX.out; omega))
theorem GX (w:World):(binOp .eql 198 (.func (.func 170) #[] #[]) .nilFunc).run Tryz.prog w= .ok (.bool false) w:=by kernel_rfl
set_option maxHeartbeats 4000000 in
set_option maxRecDepth 100000 in
theorem mJ (R:Rp) (ts:aj) (w:World) (hI:aS w R ts) (h3:(nextK ts == 3)=true) (op:Int) (hop:aV op)
 (iG:Hid (∀w,Calls Tryz.prog 158 #[.string (tx (ay ts))] w fun e w'=>e= .returned (.tuple #[.int .i64 op,.func (.func 170) #[] #[]])∧w=w')) (res:aT Sx)
 (HC:Hid (∀gt W,Pm R (gt + 1) (gt + 2) W ⟨hd op ((aU ts:Nat):Int),.nil,.nil,zS⟩ ts.tail→Calls Tryz.prog 170 #[.pointer (some ⟨R.br,0,none⟩),.pointer (some ⟨gt + 1,0,none⟩)] W (lN R (gt + 1) (gt + 2) W res))):
 Calls Tryz.prog 130 #[.pointer (some ⟨R.br,0,none⟩)] w (oW R w (res.map Bb)):=by
 have hk:nextK ts=3:=by simpa using h3
 obtain ⟨t0,r0,hr⟩:=sH h3
 have mF:=Lib.hid hr
 have eF:=Lib.hid hop
 clear h3 hr hop
 have hnf:=GX
 have HI:=Lib.hid hI
 have HL:=Lib.hid (kr hI)
 have hlt:=hI.lt
 go_enter Tryz.func130,Tryz.ntmps130
 go_upto_region 1 with fail
 generalize hW:World.alloc w _=W0
 have HB0:Hid (Below w.heap.size w W0):=Lib.hid (by rw [← hW]; exact ah _ _)
 have HZ0:Hid (W0.heap[w.heap.size]? =some (.cells lH 89 (0,0))):=Lib.hid (by rw [← hW]; exact heap_alloc_new _ _)
 have HN:=Lib.hid (gJ R ts W0 (HI.out.below HB0.out))
 unfold kE at HN
 rw [hk] at HN
 clear hW hI hk
 go_wp2_with fail
 refine HN.out.mono ?_
 rintro e w1 ⟨rfl,h2⟩
 have HB1:=Lib.hid (HB0.out.trans (h2.mono HB0.out.size))
 have HZ1:=Lib.hid ((h2.block _ (Array.getElem?_eq_some_iff.1 HZ0.out).1).trans HZ0.out)
 clear h2 HN HB0 HZ0
 go_upto_region 3 with fail
 obtain ⟨gt,hg⟩: ∃g,w1.heap.size=g:=⟨_,rfl⟩
 rw [hg]
 generalize hW:World.alloc (World.alloc w1 _) _=W2
 have aP:=Lib.hid (lM HI.out HB1.out HZ1.out HL.out gt hg W2 hW)
 have e0:=aP.out.2.2.2.1
 have e1:=aP.out.2.2.2.2.1
 have aX:Hid (R.br < w.heap.size∧w.heap.size < gt):=Lib.hid ⟨hlt,aP.out.2.2.2.2.2⟩
 clear hW hg HB1 HZ1
 go_wp2_with fail
 refine (iG.out _).mono ?_
 rintro e w3 ⟨rfl,rfl⟩
 have f0:=aP.out.1.free 0
 have c0:=aP.out.1.cell (j:=0) rfl
 go_upto_region 13 with fail
 generalize hW:World.setCell W2 _ _=W3
 have aN:Hid (Pm R (gt + 1) (gt + 2) W3 ⟨hd op ((aU ts:Nat):Int),.nil,.nil,zS⟩ ts):=Lib.hid (by rw [← hW]; exact aP.out.1.op op eF.out)
 have eZ:Hid (Fr R.br (gt + 1) W2 W3):=Lib.hid (by rw [← hW]; exact (Fr.refl _ _ _).set _ _ (.inl rfl))
 obtain ⟨pos,hp,q0,q1,fq,HX⟩:=aN.out.rd.open
 clear hW f0 c0 e0 e1 hnf iG
 go_upto_region 14 with fail
 generalize hW:World.setCell W3 _ _=W4
 have HQ:Hid (aS W4 R ts.tail∧W3.grownBy W4 (some R.br)):=Lib.hid (by rw [← hW,mF.out]; exact HX.out t0 r0 mF.out)
 have dO:=Lib.hid (aN.out.then HQ.out.1 HQ.out.2)
 have cK:=Lib.hid (eZ.out.trans (Fr.bL HQ.out.2))
 clear hW q0 q1 fq HX aN HQ eZ
 go_wp2_with fail
 refine (HC.out gt _ dO.out).mono ?_
 cases res with
 | no q=>
   rintro e w4 ⟨rfl,⟨x,h2⟩,h3⟩
   have dO:=Lib.hid h2
   have fG:=Lib.hid (cK.out.trans h3)
   clear h2 h3
   have eO:=Lib.hid (gI fG.out aP.out.2.2.1 (by have:=aX.out; omega) (by have:=aX.out; omega))
   obtain ⟨⟨y0,y1,y2,y3,y4,y5,y6,y7,y8,y9,iP⟩,fz⟩:=qU eO.out
   have z0:=fz 0
   have z1:=fz 1
   have z2:=fz 2
   have z3:=fz 3
   have z4:=fz 4
   have z5:=fz 5
   have z6:=fz 6
   have z7:=fz 7
   have z8:=fz 8
   have z9:=fz 9
   have nW:=fz 10
   obtain ⟨d0,d1,d2,d3,d4,d5,d6,d7,d8,d9,lG⟩:=gW dO.out
   clear fz
   go_wp2_with fail
   exact bodyPost_ret (v:= .tuple #[eB x.h x.b x.e x.s,.bool false]) (by simp [results,Tryz.results130,go_sem,eB,y0,y1,y2,y3,y4,y5,y6,y7,y8,y9,iP]) rfl (oH dO.out (fG.out.gr aP.out.2.1 (by have:=aX.out; omega)) aX.out.1)
 | ok y q=>
   rintro e w4 ⟨rfl,⟨s,h2⟩,h3⟩
   have dO:=Lib.hid h2
   have fG:=Lib.hid (cK.out.trans h3)
   clear h2 h3
   have eO:=Lib.hid (gI fG.out aP.out.2.2.1 (by have:=aX.out; omega) (by have:=aX.out; omega))
   obtain ⟨⟨y0,y1,y2,y3,y4,y5,y6,y7,y8,y9,iP⟩,fz⟩:=qU eO.out
   have z0:=fz 0
   have z1:=fz 1
   have z2:=fz 2
   have z3:=fz 3
   have z4:=fz 4
   have z5:=fz 5
   have z6:=fz 6
   have z7:=fz 7
   have z8:=fz 8
   have z9:=fz 9
   have nW:=fz 10
   obtain ⟨d0,d1,d2,d3,d4,d5,d6,d7,d8,d9,lG⟩:=gW dO.out
   clear fz
   go_wp2_with fail
   exact bodyPost_ret (v:= .tuple #[eB y.h y.b y.e s,.bool true]) (by simp [results,Tryz.results130,go_sem,eB,y0,y1,y2,y3,y4,y5,y6,y7,y8,y9,iP]) rfl (rX dO.out (fG.out.gr aP.out.2.1 (by have:=aX.out; omega)) aX.out.1 (by have:=aX.out; omega))
theorem GN (w:World):(binOp .eql 198 (.func (.func 171) #[] #[]) .nilFunc).run Tryz.prog w= .ok (.bool false) w:=by kernel_rfl
set_option maxHeartbeats 4000000 in
set_option maxRecDepth 100000 in
theorem qg (R:Rp) (ts:aj) (w:World) (hI:aS w R ts) (h3:(nextK ts == 3)=true) (op:Int) (hop:aV op)
 (iG:Hid (∀w,Calls Tryz.prog 158 #[.string (tx (ay ts))] w fun e w'=>e= .returned (.tuple #[.int .i64 op,.func (.func 171) #[] #[]])∧w=w')) (res:aT Sx)
 (HC:Hid (∀gt W,Pm R (gt + 1) (gt + 2) W ⟨hd op ((aU ts:Nat):Int),.nil,.nil,zS⟩ ts.tail→Calls Tryz.prog 171 #[.pointer (some ⟨R.br,0,none⟩),.pointer (some ⟨gt + 1,0,none⟩)] W (lN R (gt + 1) (gt + 2) W res))):
 Calls Tryz.prog 130 #[.pointer (some ⟨R.br,0,none⟩)] w (oW R w (res.map Bb)):=by
 have hk:nextK ts=3:=by simpa using h3
 obtain ⟨t0,r0,hr⟩:=sH h3
 have mF:=Lib.hid hr
 have eF:=Lib.hid hop
 clear h3 hr hop
 have hnf:=GN
 have HI:=Lib.hid hI
 have HL:=Lib.hid (kr hI)
 have hlt:=hI.lt
 go_enter Tryz.func130,Tryz.ntmps130
 go_upto_region 1 with fail
 generalize hW:World.alloc w _=W0
 have HB0:Hid (Below w.heap.size w W0):=Lib.hid (by rw [← hW]; exact ah _ _)
 have HZ0:Hid (W0.heap[w.heap.size]? =some (.cells lH 89 (0,0))):=Lib.hid (by rw [← hW]; exact heap_alloc_new _ _)
 have HN:=Lib.hid (gJ R ts W0 (HI.out.below HB0.out))
 unfold kE at HN
 rw [hk] at HN
 clear hW hI hk
 go_wp2_with fail
 refine HN.out.mono ?_
 rintro e w1 ⟨rfl,h2⟩
 have HB1:=Lib.hid (HB0.out.trans (h2.mono HB0.out.size))
 have HZ1:=Lib.hid ((h2.block _ (Array.getElem?_eq_some_iff.1 HZ0.out).1).trans HZ0.out)
 clear h2 HN HB0 HZ0
 go_upto_region 3 with fail
 obtain ⟨gt,hg⟩: ∃g,w1.heap.size=g:=⟨_,rfl⟩
 rw [hg]
 generalize hW:World.alloc (World.alloc w1 _) _=W2
 have aP:=Lib.hid (lM HI.out HB1.out HZ1.out HL.out gt hg W2 hW)
 have e0:=aP.out.2.2.2.1
 have e1:=aP.out.2.2.2.2.1
 have aX:Hid (R.br < w.heap.size∧w.heap.size < gt):=Lib.hid ⟨hlt,aP.out.2.2.2.2.2⟩
 clear hW hg HB1 HZ1
 go_wp2_with fail
 refine (iG.out _).mono ?_
 rintro e w3 ⟨rfl,rfl⟩
 have f0:=aP.out.1.free 0
 have c0:=aP.out.1.cell (j:=0) rfl
 go_upto_region 13 with fail
 generalize hW:World.setCell W2 _ _=W3
 have aN:Hid (Pm R (gt + 1) (gt + 2) W3 ⟨hd op ((aU ts:Nat):Int),.nil,.nil,zS⟩ ts):=Lib.hid (by rw [← hW]; exact aP.out.1.op op eF.out)
 have eZ:Hid (Fr R.br (gt + 1) W2 W3):=Lib.hid (by rw [← hW]; exact (Fr.refl _ _ _).set _ _ (.inl rfl))
 obtain ⟨pos,hp,q0,q1,fq,HX⟩:=aN.out.rd.open
 clear hW f0 c0 e0 e1 hnf iG
 go_upto_region 14 with fail
 generalize hW:World.setCell W3 _ _=W4
 have HQ:Hid (aS W4 R ts.tail∧W3.grownBy W4 (some R.br)):=Lib.hid (by rw [← hW,mF.out]; exact HX.out t0 r0 mF.out)
 have dO:=Lib.hid (aN.out.then HQ.out.1 HQ.out.2)
 have cK:=Lib.hid (eZ.out.trans (Fr.bL HQ.out.2))
 clear hW q0 q1 fq HX aN HQ eZ
 go_wp2_with fail
 refine (HC.out gt _ dO.out).mono ?_
 cases res with
 | no q=>
   rintro e w4 ⟨rfl,⟨x,h2⟩,h3⟩
   have dO:=Lib.hid h2
   have fG:=Lib.hid (cK.out.trans h3)
   clear h2 h3
   have eO:=Lib.hid (gI fG.out aP.out.2.2.1 (by have:=aX.out; omega) (by have:=aX.out; omega))
   obtain ⟨⟨y0,y1,y2,y3,y4,y5,y6,y7,y8,y9,iP⟩,fz⟩:=qU eO.out
   have z0:=fz 0
   have z1:=fz 1
   have z2:=fz 2
   have z3:=fz 3
   have z4:=fz 4
   have z5:=fz 5
   have z6:=fz 6
   have z7:=fz 7
   have z8:=fz 8
   have z9:=fz 9
   have nW:=fz 10
   obtain ⟨d0,d1,d2,d3,d4,d5,d6,d7,d8,d9,lG⟩:=gW dO.out
   clear fz
   go_wp2_with fail
   exact bodyPost_ret (v:= .tuple #[eB x.h x.b x.e x.s,.bool false]) (by simp [results,Tryz.results130,go_sem,eB,y0,y1,y2,y3,y4,y5,y6,y7,y8,y9,iP]) rfl (oH dO.out (fG.out.gr aP.out.2.1 (by have:=aX.out; omega)) aX.out.1)
 | ok y q=>
   rintro e w4 ⟨rfl,⟨s,h2⟩,h3⟩
   have dO:=Lib.hid h2
   have fG:=Lib.hid (cK.out.trans h3)
   clear h2 h3
   have eO:=Lib.hid (gI fG.out aP.out.2.2.1 (by have:=aX.out; omega) (by have:=aX.out; omega))
   obtain ⟨⟨y0,y1,y2,y3,y4,y5,y6,y7,y8,y9,iP⟩,fz⟩:=qU eO.out
   have z0:=fz 0
   have z1:=fz 1
   have z2:=fz 2
   have z3:=fz 3
   have z4:=fz 4
   have z5:=fz 5
   have z6:=fz 6
   have z7:=fz 7
   have z8:=fz 8
   have z9:=fz 9
   have nW:=fz 10
   obtain ⟨d0,d1,d2,d3,d4,d5,d6,d7,d8,d9,lG⟩:=gW dO.out
   clear fz
   go_wp2_with fail
   exact bodyPost_ret (v:= .tuple #[eB y.h y.b y.e s,.bool true]) (by simp [results,Tryz.results130,go_sem,eB,y0,y1,y2,y3,y4,y5,y6,y7,y8,y9,iP]) rfl (rX dO.out (fG.out.gr aP.out.2.1 (by have:=aX.out; omega)) aX.out.1 (by have:=aX.out; omega))
theorem SN (w:World):(binOp .eql 198 (.func (.func 172) #[] #[]) .nilFunc).run Tryz.prog w= .ok (.bool false) w:=by kernel_rfl
set_option maxHeartbeats 4000000 in
set_option maxRecDepth 100000 in
theorem lC (R:Rp) (ts:aj) (w:World) (hI:aS w R ts) (h3:(nextK ts == 3)=true) (op:Int) (hop:aV op)
 (iG:Hid (∀w,Calls Tryz.prog 158 #[.string (tx (ay ts))] w fun e w'=>e= .returned (.tuple #[.int .i64 op,.func (.func 172) #[] #[]])∧w=w')) (res:aT Sx)
 (HC:Hid (∀gt W,Pm R (gt + 1) (gt + 2) W ⟨hd op ((aU ts:Nat):Int),.nil,.nil,zS⟩ ts.tail→Calls Tryz.prog 172 #[.pointer (some ⟨R.br,0,none⟩),.pointer (some ⟨gt + 1,0,none⟩)] W (lN R (gt + 1) (gt + 2) W res))):
 Calls Tryz.prog 130 #[.pointer (some ⟨R.br,0,none⟩)] w (oW R w (res.map Bb)):=by
 have hk:nextK ts=3:=by simpa using h3
 obtain ⟨t0,r0,hr⟩:=sH h3
 have mF:=Lib.hid hr
 have eF:=Lib.hid hop
 clear h3 hr hop
 have hnf:=SN
 have HI:=Lib.hid hI
 have HL:=Lib.hid (kr hI)
 have hlt:=hI.lt
 go_enter Tryz.func130,Tryz.ntmps130
 go_upto_region 1 with fail
 generalize hW:World.alloc w _=W0
 have HB0:Hid (Below w.heap.size w W0):=Lib.hid (by rw [← hW]; exact ah _ _)
 have HZ0:Hid (W0.heap[w.heap.size]? =some (.cells lH 89 (0,0))):=Lib.hid (by rw [← hW]; exact heap_alloc_new _ _)
 have HN:=Lib.hid (gJ R ts W0 (HI.out.below HB0.out))
 unfold kE at HN
 rw [hk] at HN
 clear hW hI hk
 go_wp2_with fail
 refine HN.out.mono ?_
 rintro e w1 ⟨rfl,h2⟩
 have HB1:=Lib.hid (HB0.out.trans (h2.mono HB0.out.size))
 have HZ1:=Lib.hid ((h2.block _ (Array.getElem?_eq_some_iff.1 HZ0.out).1).trans HZ0.out)
 clear h2 HN HB0 HZ0
 go_upto_region 3 with fail
 obtain ⟨gt,hg⟩: ∃g,w1.heap.size=g:=⟨_,rfl⟩
 rw [hg]
 generalize hW:World.alloc (World.alloc w1 _) _=W2
 have aP:=Lib.hid (lM HI.out HB1.out HZ1.out HL.out gt hg W2 hW)
 have e0:=aP.out.2.2.2.1
 have e1:=aP.out.2.2.2.2.1
 have aX:Hid (R.br < w.heap.size∧w.heap.size < gt):=Lib.hid ⟨hlt,aP.out.2.2.2.2.2⟩
 clear hW hg HB1 HZ1
 go_wp2_with fail
 refine (iG.out _).mono ?_
 rintro e w3 ⟨rfl,rfl⟩
 have f0:=aP.out.1.free 0
 have c0:=aP.out.1.cell (j:=0) rfl
 go_upto_region 13 with fail
 generalize hW:World.setCell W2 _ _=W3
 have aN:Hid (Pm R (gt + 1) (gt + 2) W3 ⟨hd op ((aU ts:Nat):Int),.nil,.nil,zS⟩ ts):=Lib.hid (by rw [← hW]; exact aP.out.1.op op eF.out)
 have eZ:Hid (Fr R.br (gt + 1) W2 W3):=Lib.hid (by rw [← hW]; exact (Fr.refl _ _ _).set _ _ (.inl rfl))
 obtain ⟨pos,hp,q0,q1,fq,HX⟩:=aN.out.rd.open
 clear hW f0 c0 e0 e1 hnf iG
 go_upto_region 14 with fail
 generalize hW:World.setCell W3 _ _=W4
 have HQ:Hid (aS W4 R ts.tail∧W3.grownBy W4 (some R.br)):=Lib.hid (by rw [← hW,mF.out]; exact HX.out t0 r0 mF.out)
 have dO:=Lib.hid (aN.out.then HQ.out.1 HQ.out.2)
 have cK:=Lib.hid (eZ.out.trans (Fr.bL HQ.out.2))
 clear hW q0 q1 fq HX aN HQ eZ
 go_wp2_with fail
 refine (HC.out gt _ dO.out).mono ?_
 cases res with
 | no q=>
   rintro e w4 ⟨rfl,⟨x,h2⟩,h3⟩
   have dO:=Lib.hid h2
   have fG:=Lib.hid (cK.out.trans h3)
   clear h2 h3
   have eO:=Lib.hid (gI fG.out aP.out.2.2.1 (by have:=aX.out; omega) (by have:=aX.out; omega))
   obtain ⟨⟨y0,y1,y2,y3,y4,y5,y6,y7,y8,y9,iP⟩,fz⟩:=qU eO.out
   have z0:=fz 0
   have z1:=fz 1
   have z2:=fz 2
   have z3:=fz 3
   have z4:=fz 4
   have z5:=fz 5
   have z6:=fz 6
   have z7:=fz 7
   have z8:=fz 8
   have z9:=fz 9
   have nW:=fz 10
   obtain ⟨d0,d1,d2,d3,d4,d5,d6,d7,d8,d9,lG⟩:=gW dO.out
   clear fz
   go_wp2_with fail
   exact bodyPost_ret (v:= .tuple #[eB x.h x.b x.e x.s,.bool false]) (by simp [results,Tryz.results130,go_sem,eB,y0,y1,y2,y3,y4,y5,y6,y7,y8,y9,iP]) rfl (oH dO.out (fG.out.gr aP.out.2.1 (by have:=aX.out; omega)) aX.out.1)
 | ok y q=>
   rintro e w4 ⟨rfl,⟨s,h2⟩,h3⟩
   have dO:=Lib.hid h2
   have fG:=Lib.hid (cK.out.trans h3)
   clear h2 h3
   have eO:=Lib.hid (gI fG.out aP.out.2.2.1 (by have:=aX.out; omega) (by have:=aX.out; omega))
   obtain ⟨⟨y0,y1,y2,y3,y4,y5,y6,y7,y8,y9,iP⟩,fz⟩:=qU eO.out
   have z0:=fz 0
   have z1:=fz 1
   have z2:=fz 2
   have z3:=fz 3
   have z4:=fz 4
   have z5:=fz 5
   have z6:=fz 6
   have z7:=fz 7
   have z8:=fz 8
   have z9:=fz 9
   have nW:=fz 10
   obtain ⟨d0,d1,d2,d3,d4,d5,d6,d7,d8,d9,lG⟩:=gW dO.out
   clear fz
   go_wp2_with fail
   exact bodyPost_ret (v:= .tuple #[eB y.h y.b y.e s,.bool true]) (by simp [results,Tryz.results130,go_sem,eB,y0,y1,y2,y3,y4,y5,y6,y7,y8,y9,iP]) rfl (rX dO.out (fG.out.gr aP.out.2.1 (by have:=aX.out; omega)) aX.out.1 (by have:=aX.out; omega))
theorem MU (w:World):(binOp .eql 198 (.func (.func 173) #[] #[]) .nilFunc).run Tryz.prog w= .ok (.bool false) w:=by kernel_rfl
set_option maxHeartbeats 4000000 in
set_option maxRecDepth 100000 in
theorem BJ (R:Rp) (ts:aj) (w:World) (hI:aS w R ts) (h3:(nextK ts == 3)=true) (op:Int) (hop:aV op)
 (iG:Hid (∀w,Calls Tryz.prog 158 #[.string (tx (ay ts))] w fun e w'=>e= .returned (.tuple #[.int .i64 op,.func (.func 173) #[] #[]])∧w=w')) (res:aT Sx)
 (HC:Hid (∀gt W,Pm R (gt + 1) (gt + 2) W ⟨hd op ((aU ts:Nat):Int),.nil,.nil,zS⟩ ts.tail→Calls Tryz.prog 173 #[.pointer (some ⟨R.br,0,none⟩),.pointer (some ⟨gt + 1,0,none⟩)] W (lN R (gt + 1) (gt + 2) W res))):
 Calls Tryz.prog 130 #[.pointer (some ⟨R.br,0,none⟩)] w (oW R w (res.map Bb)):=by
 have hk:nextK ts=3:=by simpa using h3
 obtain ⟨t0,r0,hr⟩:=sH h3
 have mF:=Lib.hid hr
 have eF:=Lib.hid hop
 clear h3 hr hop
 have hnf:=MU
 have HI:=Lib.hid hI
 have HL:=Lib.hid (kr hI)
 have hlt:=hI.lt
 go_enter Tryz.func130,Tryz.ntmps130
 go_upto_region 1 with fail
 generalize hW:World.alloc w _=W0
 have HB0:Hid (Below w.heap.size w W0):=Lib.hid (by rw [← hW]; exact ah _ _)
 have HZ0:Hid (W0.heap[w.heap.size]? =some (.cells lH 89 (0,0))):=Lib.hid (by rw [← hW]; exact heap_alloc_new _ _)
 have HN:=Lib.hid (gJ R ts W0 (HI.out.below HB0.out))
 unfold kE at HN
 rw [hk] at HN
 clear hW hI hk
 go_wp2_with fail
 refine HN.out.mono ?_
 rintro e w1 ⟨rfl,h2⟩
 have HB1:=Lib.hid (HB0.out.trans (h2.mono HB0.out.size))
 have HZ1:=Lib.hid ((h2.block _ (Array.getElem?_eq_some_iff.1 HZ0.out).1).trans HZ0.out)
 clear h2 HN HB0 HZ0
 go_upto_region 3 with fail
 obtain ⟨gt,hg⟩: ∃g,w1.heap.size=g:=⟨_,rfl⟩
 rw [hg]
 generalize hW:World.alloc (World.alloc w1 _) _=W2
 have aP:=Lib.hid (lM HI.out HB1.out HZ1.out HL.out gt hg W2 hW)
 have e0:=aP.out.2.2.2.1
 have e1:=aP.out.2.2.2.2.1
 have aX:Hid (R.br < w.heap.size∧w.heap.size < gt):=Lib.hid ⟨hlt,aP.out.2.2.2.2.2⟩
 clear hW hg HB1 HZ1
 go_wp2_with fail
 refine (iG.out _).mono ?_
 rintro e w3 ⟨rfl,rfl⟩
 have f0:=aP.out.1.free 0
 have c0:=aP.out.1.cell (j:=0) rfl
 go_upto_region 13 with fail
 generalize hW:World.setCell W2 _ _=W3
 have aN:Hid (Pm R (gt + 1) (gt + 2) W3 ⟨hd op ((aU ts:Nat):Int),.nil,.nil,zS⟩ ts):=Lib.hid (by rw [← hW]; exact aP.out.1.op op eF.out)
 have eZ:Hid (Fr R.br (gt + 1) W2 W3):=Lib.hid (by rw [← hW]; exact (Fr.refl _ _ _).set _ _ (.inl rfl))
 obtain ⟨pos,hp,q0,q1,fq,HX⟩:=aN.out.rd.open
 clear hW f0 c0 e0 e1 hnf iG
 go_upto_region 14 with fail
 generalize hW:World.setCell W3 _ _=W4
 have HQ:Hid (aS W4 R ts.tail∧W3.grownBy W4 (some R.br)):=Lib.hid (by rw [← hW,mF.out]; exact HX.out t0 r0 mF.out)
 have dO:=Lib.hid (aN.out.then HQ.out.1 HQ.out.2)
 have cK:=Lib.hid (eZ.out.trans (Fr.bL HQ.out.2))
 clear hW q0 q1 fq HX aN HQ eZ
 go_wp2_with fail
 refine (HC.out gt _ dO.out).mono ?_
 cases res with
 | no q=>
   rintro e w4 ⟨rfl,⟨x,h2⟩,h3⟩
   have dO:=Lib.hid h2
   have fG:=Lib.hid (cK.out.trans h3)
   clear h2 h3
   have eO:=Lib.hid (gI fG.out aP.out.2.2.1 (by have:=aX.out; omega) (by have:=aX.out; omega))
   obtain ⟨⟨y0,y1,y2,y3,y4,y5,y6,y7,y8,y9,iP⟩,fz⟩:=qU eO.out
   have z0:=fz 0
   have z1:=fz 1
   have z2:=fz 2
   have z3:=fz 3
   have z4:=fz 4
   have z5:=fz 5
   have z6:=fz 6
   have z7:=fz 7
   have z8:=fz 8
   have z9:=fz 9
   have nW:=fz 10
   obtain ⟨d0,d1,d2,d3,d4,d5,d6,d7,d8,d9,lG⟩:=gW dO.out
   clear fz
   go_wp2_with fail
   exact bodyPost_ret (v:= .tuple #[eB x.h x.b x.e x.s,.bool false]) (by simp [results,Tryz.results130,go_sem,eB,y0,y1,y2,y3,y4,y5,y6,y7,y8,y9,iP]) rfl (oH dO.out (fG.out.gr aP.out.2.1 (by have:=aX.out; omega)) aX.out.1)
 | ok y q=>
   rintro e w4 ⟨rfl,⟨s,h2⟩,h3⟩
   have dO:=Lib.hid h2
   have fG:=Lib.hid (cK.out.trans h3)
   clear h2 h3
   have eO:=Lib.hid (gI fG.out aP.out.2.2.1 (by have:=aX.out; omega) (by have:=aX.out; omega))
   obtain ⟨⟨y0,y1,y2,y3,y4,y5,y6,y7,y8,y9,iP⟩,fz⟩:=qU eO.out
   have z0:=fz 0
   have z1:=fz 1
   have z2:=fz 2
   have z3:=fz 3
   have z4:=fz 4
   have z5:=fz 5
   have z6:=fz 6
   have z7:=fz 7
   have z8:=fz 8
   have z9:=fz 9
   have nW:=fz 10
   obtain ⟨d0,d1,d2,d3,d4,d5,d6,d7,d8,d9,lG⟩:=gW dO.out
   clear fz
   go_wp2_with fail
   exact bodyPost_ret (v:= .tuple #[eB y.h y.b y.e s,.bool true]) (by simp [results,Tryz.results130,go_sem,eB,y0,y1,y2,y3,y4,y5,y6,y7,y8,y9,iP]) rfl (rX dO.out (fG.out.gr aP.out.2.1 (by have:=aX.out; omega)) aX.out.1 (by have:=aX.out; omega))
theorem Nq (w:World):(binOp .eql 198 (.func (.func 174) #[] #[]) .nilFunc).run Tryz.prog w= .ok (.bool false) w:=by kernel_rfl
set_option maxHeartbeats 4000000 in
set_option maxRecDepth 100000 in
theorem BK (R:Rp) (ts:aj) (w:World) (hI:aS w R ts) (h3:(nextK ts == 3)=true) (op:Int) (hop:aV op)
 (iG:Hid (∀w,Calls Tryz.prog 158 #[.string (tx (ay ts))] w fun e w'=>e= .returned (.tuple #[.int .i64 op,.func (.func 174) #[] #[]])∧w=w')) (res:aT Sx)
 (HC:Hid (∀gt W,Pm R (gt + 1) (gt + 2) W ⟨hd op ((aU ts:Nat):Int),.nil,.nil,zS⟩ ts.tail→Calls Tryz.prog 174 #[.pointer (some ⟨R.br,0,none⟩),.pointer (some ⟨gt + 1,0,none⟩)] W (lN R (gt + 1) (gt + 2) W res))):
 Calls Tryz.prog 130 #[.pointer (some ⟨R.br,0,none⟩)] w (oW R w (res.map Bb)):=by
 have hk:nextK ts=3:=by simpa using h3
 obtain ⟨t0,r0,hr⟩:=sH h3
 have mF:=Lib.hid hr
 have eF:=Lib.hid hop
 clear h3 hr hop
 have hnf:=Nq
 have HI:=Lib.hid hI
 have HL:=Lib.hid (kr hI)
 have hlt:=hI.lt
 go_enter Tryz.func130,Tryz.ntmps130
 go_upto_region 1 with fail
 generalize hW:World.alloc w _=W0
 have HB0:Hid (Below w.heap.size w W0):=Lib.hid (by rw [← hW]; exact ah _ _)
 have HZ0:Hid (W0.heap[w.heap.size]? =some (.cells lH 89 (0,0))):=Lib.hid (by rw [← hW]; exact heap_alloc_new _ _)
 have HN:=Lib.hid (gJ R ts W0 (HI.out.below HB0.out))
 unfold kE at HN
 rw [hk] at HN
 clear hW hI hk
 go_wp2_with fail
 refine HN.out.mono ?_
 rintro e w1 ⟨rfl,h2⟩
 have HB1:=Lib.hid (HB0.out.trans (h2.mono HB0.out.size))
 have HZ1:=Lib.hid ((h2.block _ (Array.getElem?_eq_some_iff.1 HZ0.out).1).trans HZ0.out)
 clear h2 HN HB0 HZ0
 go_upto_region 3 with fail
 obtain ⟨gt,hg⟩: ∃g,w1.heap.size=g:=⟨_,rfl⟩
 rw [hg]
 generalize hW:World.alloc (World.alloc w1 _) _=W2
 have aP:=Lib.hid (lM HI.out HB1.out HZ1.out HL.out gt hg W2 hW)
 have e0:=aP.out.2.2.2.1
 have e1:=aP.out.2.2.2.2.1
 have aX:Hid (R.br < w.heap.size∧w.heap.size < gt):=Lib.hid ⟨hlt,aP.out.2.2.2.2.2⟩
 clear hW hg HB1 HZ1
 go_wp2_with fail
 refine (iG.out _).mono ?_
 rintro e w3 ⟨rfl,rfl⟩
 have f0:=aP.out.1.free 0
 have c0:=aP.out.1.cell (j:=0) rfl
 go_upto_region 13 with fail
 generalize hW:World.setCell W2 _ _=W3
 have aN:Hid (Pm R (gt + 1) (gt + 2) W3 ⟨hd op ((aU ts:Nat):Int),.nil,.nil,zS⟩ ts):=Lib.hid (by rw [← hW]; exact aP.out.1.op op eF.out)
 have eZ:Hid (Fr R.br (gt + 1) W2 W3):=Lib.hid (by rw [← hW]; exact (Fr.refl _ _ _).set _ _ (.inl rfl))
 obtain ⟨pos,hp,q0,q1,fq,HX⟩:=aN.out.rd.open
 clear hW f0 c0 e0 e1 hnf iG
 go_upto_region 14 with fail
 generalize hW:World.setCell W3 _ _=W4
 have HQ:Hid (aS W4 R ts.tail∧W3.grownBy W4 (some R.br)):=Lib.hid (by rw [← hW,mF.out]; exact HX.out t0 r0 mF.out)
 have dO:=Lib.hid (aN.out.then HQ.out.1 HQ.out.2)
 have cK:=Lib.hid (eZ.out.trans (Fr.bL HQ.out.2))
 clear hW q0 q1 fq HX aN HQ eZ
 go_wp2_with fail
 refine (HC.out gt _ dO.out).mono ?_
 cases res with
 | no q=>
   rintro e w4 ⟨rfl,⟨x,h2⟩,h3⟩
   have dO:=Lib.hid h2
   have fG:=Lib.hid (cK.out.trans h3)
   clear h2 h3
   have eO:=Lib.hid (gI fG.out aP.out.2.2.1 (by have:=aX.out; omega) (by have:=aX.out; omega))
   obtain ⟨⟨y0,y1,y2,y3,y4,y5,y6,y7,y8,y9,iP⟩,fz⟩:=qU eO.out
   have z0:=fz 0
   have z1:=fz 1
   have z2:=fz 2
   have z3:=fz 3
   have z4:=fz 4
   have z5:=fz 5
   have z6:=fz 6
   have z7:=fz 7
   have z8:=fz 8
   have z9:=fz 9
   have nW:=fz 10
   obtain ⟨d0,d1,d2,d3,d4,d5,d6,d7,d8,d9,lG⟩:=gW dO.out
   clear fz
   go_wp2_with fail
   exact bodyPost_ret (v:= .tuple #[eB x.h x.b x.e x.s,.bool false]) (by simp [results,Tryz.results130,go_sem,eB,y0,y1,y2,y3,y4,y5,y6,y7,y8,y9,iP]) rfl (oH dO.out (fG.out.gr aP.out.2.1 (by have:=aX.out; omega)) aX.out.1)
 | ok y q=>
   rintro e w4 ⟨rfl,⟨s,h2⟩,h3⟩
   have dO:=Lib.hid h2
   have fG:=Lib.hid (cK.out.trans h3)
   clear h2 h3
   have eO:=Lib.hid (gI fG.out aP.out.2.2.1 (by have:=aX.out; omega) (by have:=aX.out; omega))
   obtain ⟨⟨y0,y1,y2,y3,y4,y5,y6,y7,y8,y9,iP⟩,fz⟩:=qU eO.out
   have z0:=fz 0
   have z1:=fz 1
   have z2:=fz 2
   have z3:=fz 3
   have z4:=fz 4
   have z5:=fz 5
   have z6:=fz 6
   have z7:=fz 7
   have z8:=fz 8
   have z9:=fz 9
   have nW:=fz 10
   obtain ⟨d0,d1,d2,d3,d4,d5,d6,d7,d8,d9,lG⟩:=gW dO.out
   clear fz
   go_wp2_with fail
   exact bodyPost_ret (v:= .tuple #[eB y.h y.b y.e s,.bool true]) (by simp [results,Tryz.results130,go_sem,eB,y0,y1,y2,y3,y4,y5,y6,y7,y8,y9,iP]) rfl (rX dO.out (fG.out.gr aP.out.2.1 (by have:=aX.out; omega)) aX.out.1 (by have:=aX.out; omega))
theorem jT {ts:aj} {op:Int} {v:Value} (h:gQ (ay ts)=op) (hv:Te op=v): ∀w,Calls Tryz.prog 158 #[.string (tx (ay ts))] w fun e w'=>e= .returned (.tuple #[.int .i64 op,v])∧w=w':=fun w=>by
 have:=Ia (tx (ay ts)) (l:=ay ts) rfl w
 rw [h,hv] at this; exact this
theorem Fb (R:Rp) (f:Nat) (ts:aj) (tQ:Hid (∀q,q.length < ts.length→lZ R f q)) (w:World) (hI:aS w R ts):
 Calls Tryz.prog 130 #[.pointer (some ⟨R.br,0,none⟩)] w (oW R w (ps (f + 1) true ts)):=by
 cases h1:(nextK ts == 1)
 ·cases h3:(nextK ts == 3)
  ·exact DF R f ts w hI h1 h3
  ·cases h0:(gQ (ay ts) == 0)
   ·have hlt:ts.tail.length < ts.length:=by obtain ⟨t,r,rfl⟩:=sH h3; simp
    have HB1:Hid (∀q,q.length < ts.tail.length→lZ R f q):=Lib.hid (fun q hq=>tQ.out q (by omega))
    have HB2:Hid (lZ R f ts.tail):=Lib.hid (tQ.out _ hlt)
    have HB3:Hid (isName ts.tail=true→lZ R f ts.tail.tail):=Lib.hid (fun hn=>tQ.out _ (by have:=oO hn; omega))
    rw [Zy h1 h3 h0]
    have hr:=VL (ay ts) h0
    have hi:aV (gQ (ay ts)):=by unfold aV; omega
    have hcs:gQ (ay ts)=2∨gQ (ay ts)=3∨gQ (ay ts)=4∨gQ (ay ts)=5∨gQ (ay ts)=6∨gQ (ay ts)=7∨gQ (ay ts)=8∨gQ (ay ts)=9∨gQ (ay ts)=10∨gQ (ay ts)=11∨gQ (ay ts)=12∨gQ (ay ts)=13∨gQ (ay ts)=14∨gQ (ay ts)=15:=by omega
    rcases hcs with h | h | h | h | h | h | h | h | h | h | h | h | h | h <;> rw [h] at hi ⊢
    ·exact yF R ts w hI h3 2 hi (Lib.hid (jT h rfl)) _ (Lib.hid fun gt W hP=>Rf R _ _ f ts.tail HB1 _ _ W hP)
    ·exact Fv R ts w hI h3 3 hi (Lib.hid (jT h rfl)) _ (Lib.hid fun gt W hP=>K6 R _ _ f ts.tail HB1 _ _ W hP)
    ·exact mJ R ts w hI h3 4 hi (Lib.hid (jT h rfl)) _ (Lib.hid fun gt W hP=>rC R _ _ f ts.tail HB3 _ _ W hP)
    ·exact mJ R ts w hI h3 5 hi (Lib.hid (jT h rfl)) _ (Lib.hid fun gt W hP=>rC R _ _ f ts.tail HB3 _ _ W hP)
    ·exact mJ R ts w hI h3 6 hi (Lib.hid (jT h rfl)) _ (Lib.hid fun gt W hP=>rC R _ _ f ts.tail HB3 _ _ W hP)
    ·exact qg R ts w hI h3 7 hi (Lib.hid (jT h rfl)) _ (Lib.hid fun gt W hP=>wm R _ _ f ts.tail HB2 _ _ _ W hP)
    ·exact qg R ts w hI h3 8 hi (Lib.hid (jT h rfl)) _ (Lib.hid fun gt W hP=>wm R _ _ f ts.tail HB2 _ _ _ W hP)
    ·exact lC R ts w hI h3 9 hi (Lib.hid (jT h rfl)) _ (Lib.hid fun gt W hP=>rZ R _ _ ts.tail _ _ W hP)
    ·exact lC R ts w hI h3 10 hi (Lib.hid (jT h rfl)) _ (Lib.hid fun gt W hP=>rZ R _ _ ts.tail _ _ W hP)
    ·exact lC R ts w hI h3 11 hi (Lib.hid (jT h rfl)) _ (Lib.hid fun gt W hP=>rZ R _ _ ts.tail _ _ W hP)
    ·exact lC R ts w hI h3 12 hi (Lib.hid (jT h rfl)) _ (Lib.hid fun gt W hP=>rZ R _ _ ts.tail _ _ W hP)
    ·exact lC R ts w hI h3 13 hi (Lib.hid (jT h rfl)) _ (Lib.hid fun gt W hP=>rZ R _ _ ts.tail _ _ W hP)
    ·exact BJ R ts w hI h3 14 hi (Lib.hid (jT h rfl)) _ (Lib.hid fun gt W hP=>KF R _ _ ts.tail _ _ W hP)
    ·exact BK R ts w hI h3 15 hi (Lib.hid (jT h rfl)) _ (Lib.hid fun gt W hP=>KH R _ _ ts.tail _ _ W hP)
   ·exact Fu R f ts w hI h1 h3 h0
 ·exact EA R f ts w hI h1
end Go.Proofs.YtehnipchbmjlhaaGreatDoor
