/-
  Contract of the reader's thread.
  Contract of the reader's program.
-/
import Derived.Test.YtdajkddgnfgijaaGreatDoorGRD
section
set_option linter.unusedSimpArgs false
set_option linter.unusedVariables false
namespace Go.Proofs.YtdajkddgnfgijaaGreatDoor
open Go.RowKit
open Md Pz
theorem SL:(Tryz.prog.info? 9).map (fun i=>(i.zero,i.size,i.bytes))=some (some (.string ⟨#[]⟩),1,16):=by kernel_rfl
theorem Wi: ∃i0,Tryz.prog.info? 9=some i0∧i0.zero=some (.string ⟨#[]⟩)∧i0.size=1∧i0.bytes=16:=info_parts SL
theorem aa3 (k:Int) (s:ByteArray) (n:Int) (w:World):(Instr.field 138 (.agg #[.int .i64 k,.string s,.int .i64 n]) 0).run Tryz.prog w= .ok (.int .i64 k) w:=by kernel_rfl
theorem aa4 (k:Int) (s:ByteArray) (n:Int) (w:World):(Instr.field 138 (.agg #[.int .i64 k,.string s,.int .i64 n]) 1).run Tryz.prog w= .ok (.string s) w:=by kernel_rfl
theorem ZQ (k:Int) (s:ByteArray) (n:Int) (w:World):(Instr.field 138 (.agg #[.int .i64 k,.string s,.int .i64 n]) 2).run Tryz.prog w= .ok (.int .i64 n) w:=by kernel_rfl
def qL (nm:ByteArray) (line:Int) (v b:Value):Value:= .agg #[.string nm,.int .i64 line,v,b]
def P7 (R:Rp) (w:World) (res:bK Th) (e:Ending) (w':World):Prop:=
 match res with
 | .ok t r=>(∃x:jU,x.t=t∧e= .returned (.tuple #[.agg (jU.f x).toArray,.bool true])∧(x.t.Ok∧x.t.cZ.length≤x.dW)∧eH w.heap.size w' (jU.I x))∧bf w' R r∧w.grownBy w' (some R.br)
 | .no r=>(∃nm line a n c a' n' c',e= .returned (.tuple #[qL nm line (.slice a n c) (.slice a' n' c'),.bool false]))∧bf w' R r∧w.grownBy w' (some R.br)
def Ka:Array Value:= #[.string ⟨#[]⟩,.int .i64 0,.slice none 0 0,.slice none 0 0]
theorem FV {w:World} {b:Nat} {t:TypeId} (h:w.heap[b]? =some (.cells Ka t (0,0))):
 (w.cell? ⟨b,0,none⟩=some (.string ⟨#[]⟩)∧w.cell? ⟨b,1,none⟩=some (.int .i64 0)∧w.cell? ⟨b,2,none⟩=some (.slice none 0 0)∧w.cell? ⟨b,3,none⟩=some (.slice none 0 0))∧ ∀j,w.frozen? ⟨b,j,none⟩=false:=
 ⟨⟨aB h rfl,aB h rfl,aB h rfl,aB h rfl⟩,fun _=>bH h⟩
structure Ps (R:Rp) (bt B:Nat) (w W:World) (nm:ByteArray) (line:Int) (v:Value) (l:List ByteArray) (rest:aJ):Prop where
 rd:bf W R rest
 gr:w.grownBy W (some R.br)
 lt:R.br < w.heap.size∧w.heap.size < bt∧bt < B∧B≤W.heap.size
 z:W.heap[w.heap.size]? =some (.cells Ka 93 (0,0))
 blk:W.heap[bt]? =some (.cells #[.string nm,.int .i64 line,v,.slice none 0 0] 93 (0,0))
 row:BH B W v l
section
variable {R:Rp} {bt B:Nat} {w W W':World} {nm:ByteArray} {line:Int} {v:Value} {l:List ByteArray} {rest rest':aJ}
theorem Ps.then (h:Ps R bt B w W nm line v l rest) (h1:bf W' R rest') (h2:W.grownBy W' (some R.br)):Ps R bt B w W' nm line v l rest':=
 ⟨h1,eY h.gr h2,⟨h.lt.1,h.lt.2.1,h.lt.2.2.1,Nat.le_trans h.lt.2.2.2 h2.size⟩,(h2.block _ (Array.getElem?_eq_some_iff.1 h.z).1 (by have:=h.lt; simp; omega)).trans h.z,(h2.block _ (Array.getElem?_eq_some_iff.1 h.blk).1 (by have:=h.lt; simp; omega)).trans h.blk,h.row.next (oo h2 (by have:=h.lt; omega))⟩
theorem Ps.below (h:Ps R bt B w W nm line v l rest) (hb:Below W.heap.size W W'):Ps R bt B w W' nm line v l rest:=h.then (h.rd.below hb) (bP hb)
theorem Ps.cells (h:Ps R bt B w W nm line v l rest):W.cell? ⟨bt,0,none⟩=some (.string nm)∧W.cell? ⟨bt,1,none⟩=some (.int .i64 line)∧W.cell? ⟨bt,2,none⟩=some v∧W.cell? ⟨bt,3,none⟩=some (.slice none 0 0)∧ ∀j,W.frozen? ⟨bt,j,none⟩=false:=
 ⟨aB h.blk rfl,aB h.blk rfl,aB h.blk rfl,aB h.blk rfl,fun _=>bH h.blk⟩
theorem Ps.name (h:Ps R bt B w W nm line v l rest) (s:ByteArray):Ps R bt B w (W.setCell ⟨bt,0,none⟩ (.string s)) s line v l rest:=
 ⟨nY h.rd _ _ (by have:=h.lt; have:=R.b0; show R.B0≤bt; omega) (by have:=h.lt; show bt≠R.br; omega),rW h.gr _ _ (by have:=h.lt; show _≤bt; omega),by have:=h.lt; simpa [World.setCell] using this,(bJ W _ _ rfl (by have:=h.lt; show bt≠_; omega)).trans h.z,by rw [dV h.blk]; rfl,h.row.next (gK W ⟨bt,0,none⟩ _ h.lt.2.2.1)⟩
theorem Ps.cZ {v':Value} {l':List ByteArray} (h:Ps R bt B w W nm line v l rest) (hr:bf W' R rest) (hg:w.grownBy W' (some R.br)) (hB:Below B W W') (hrow:BH B W' v' l'):Ps R bt B w (W'.setCell ⟨bt,2,none⟩ v') nm line v' l' rest:=
 ⟨nY hr _ _ (by have:=h.lt; have:=R.b0; show R.B0≤bt; omega) (by have:=h.lt; show bt≠R.br; omega),rW hg _ _ (by have:=h.lt; show _≤bt; omega),by have h1:=h.lt; have h2:=hB.size; simp [World.setCell]; omega,(bJ W' _ _ rfl (by have:=h.lt; show bt≠_; omega)).trans ((hB.block _ (by have:=h.lt; omega)).trans h.z),by rw [dV ((hB.block _ h.lt.2.2.1).trans h.blk)]; rfl,hrow.next (gK W' ⟨bt,2,none⟩ _ h.lt.2.2.1)⟩
theorem Ps.vP (h:Ps R bt B w W nm line v l rest) (b:Value): ∀W',W.setCell ⟨bt,3,none⟩ b=W'→bf W' R rest∧w.grownBy W' (some R.br)∧W'.heap[w.heap.size]? =some (.cells Ka 93 (0,0))∧W'.heap[bt]? =some (.cells #[.string nm,.int .i64 line,v,b] 93 (0,0)):=by
 intro W' hW
 subst hW
 exact ⟨nY h.rd _ _ (by have:=h.lt; have:=R.b0; show R.B0≤bt; omega) (by have:=h.lt; show bt≠R.br; omega),rW h.gr _ _ (by have:=h.lt; show _≤bt; omega),(bJ W _ _ rfl (by have:=h.lt; show bt≠_; omega)).trans h.z,by rw [dV h.blk]; rfl⟩
theorem Ps.Kk (h:Ps R bt B w W nm line v l rest):Ps R bt B w (W.setCell ⟨bt,3,none⟩ (.slice none 0 0)) nm line v l rest:=
 ⟨(h.vP _ _ rfl).1,(h.vP _ _ rfl).2.1,by have:=h.lt; simpa [World.setCell] using this,(h.vP _ _ rfl).2.2.1,(h.vP _ _ rfl).2.2.2,h.row.next (gK W ⟨bt,3,none⟩ _ h.lt.2.2.1)⟩
end
theorem yj {R:Rp} {w W:World} {nm:ByteArray} {line:Int} {a a':Option Addr} {n c n' c':Nat} {r:aJ} {res:bK Th} (e:res= .no r) (hr:bf W R r) (hg:w.grownBy W (some R.br)) (hl:R.br < w.heap.size):
 P7 R w res (.returned (.tuple #[qL nm line (.slice a n c) (.slice a' n' c'),.bool false])) (W.setCells w.heap.size 0 [.string nm,.int .i64 line,.slice a n c,.slice a' n' c']):=by
 subst e
 exact ⟨⟨nm,line,a,n,c,a',n',c',rfl⟩,nU hr (cB _ _ _ _) (by have:=R.b0; omega) (by omega),jK hg _ _ _ (Nat.le_refl _)⟩
theorem Oj {R:Rp} {w W:World} {x:jU} {r:aJ} {res:bK Th} {B:Nat} (e:res= .ok x.t r) (hok:x.t.Ok∧x.t.cZ.length≤x.dW) (hst:eH B W (jU.I x)) (hB:w.heap.size < B) (hr:bf W R r) (hg:w.grownBy W (some R.br)) (hl:R.br < w.heap.size):
 P7 R w res (.returned (.tuple #[.agg (jU.f x).toArray,.bool true])) (W.setCells w.heap.size 0 (jU.f x)):=by
 subst e
 exact ⟨⟨x,rfl,rfl,hok,(hst.next ⟨(cB w.heap.size _ 0 W).size,fun k h1 h2=>(cB w.heap.size _ 0 W).block k h2 (by simp; omega)⟩).mono (Nat.le_of_lt hB)⟩,nU hr (cB _ _ _ _) (by have:=R.b0; omega) (by omega),jK hg _ _ _ (Nat.le_refl _)⟩
def Fh (r:aJ):bK (List ByteArray):=if at' [41] r then .ok [] r.tail else (kX (r.length + 1) r).close [41]
def nN (nm:ByteArray) (line:Int) (l:List ByteArray) (r:aJ):bK Th:=(blk (3 * r.length + 3) r).map fun b=>⟨nm,line,l,b⟩
theorem Tj (ts:aJ):xW ts=(gq ts.tail).bind fun s r=>(need [40] r).bind fun _ r=>(Fh r).bind fun l r=>nN s (bF ts) l r:=rfl
theorem PX {f:Nat} {ts:aJ} (h:isName ts=false):kX (f + 1) ts= .no ts:=by unfold kX; rw [nR h]; rfl
theorem Mk {f:Nat} {ts:aJ} (h:isName ts=true) (h1:at' [44] ts.tail=true):kX (f + 1) ts=(kX f ts.tail.tail).map (tx (aI ts) :: ·):=by
 conv=>lhs; unfold kX
 rw [kM h]; show ite _ _ _=_; rw [if_pos h1]
theorem Lj {f:Nat} {ts:aJ} (h:isName ts=true) (h1:at' [44] ts.tail=false):kX (f + 1) ts= .ok [tx (aI ts)] ts.tail:=by
 conv=>lhs; unfold kX
 rw [kM h]; show ite _ _ _=_; rw [if_neg (by rw [h1]; decide)]
def Rt (R:Rp) (bt:Nat) (w:World) (nm:ByteArray) (line:Int) (AO:bK (List ByteArray)) (g:Nat) (wr:World):Prop:=
 ∃f l rest v,g=rest.length∧rest.length < f∧AO=(kX f rest).map (l++ ·)∧Ps R bt (bt + 1) w wr nm line v l rest∧l.length + rest.length≤4096∧ ∀s ∈ l,s.size≤maxLen
set_option maxHeartbeats 4000000 in
set_option maxRecDepth 100000 in
theorem KX (R:Rp) (ts:aJ) (w:World) (hI:bf w R ts) (hk:at' [116,104,114,101,97,100] ts=true):
 Calls Tryz.prog 65 #[.pointer (some ⟨R.br,0,none⟩)] w (P7 R w (xW ts)):=by
 have HI:=Lib.hid hI
 have HL:=Lib.hid (jZ hI)
 have hlt:=hI.lt
 obtain ⟨t0,r0,hr⟩:=GN hk
 have nC:=Lib.hid hr
 rw [Tj]
 obtain ⟨res,oG⟩: ∃res,Hid (((gq ts.tail).bind fun s r=>(need [40] r).bind fun _ r=>(Fh r).bind fun l r=>nN s (bF ts) l r)=res):=⟨_,Lib.hid rfl⟩
 rw [oG.out]
 clear hk hr
 have hf2:=ZQ
 go_enter Tryz.func65,Tryz.ntmps65
 go_upto_region 1 with fail
 generalize hW:World.alloc w _=W0
 have HB0:Hid (Below w.heap.size w W0):=Lib.hid (by rw [← hW]; exact aj _ _)
 have HZ0:Hid (W0.heap[w.heap.size]? =some (.cells Ka 93 (0,0))):=Lib.hid (by rw [← hW]; exact heap_alloc_new _ _)
 have HN:=Lib.hid (gT R ts W0 (HI.out.below HB0.out))
 unfold kI at HN
 clear hW hI
 go_wp2_with fail
 refine HN.out.mono ?_
 rintro e w1 ⟨rfl,h2⟩
 have HB1:=Lib.hid (HB0.out.trans (h2.mono HB0.out.size))
 have HZ1:=Lib.hid ((h2.block _ (Array.getElem?_eq_some_iff.1 HZ0.out).1).trans HZ0.out)
 clear h2 HN HB0 HZ0
 go_upto_region 2 with fail
 obtain ⟨bt,hg⟩: ∃g,w1.heap.size=g:=⟨_,rfl⟩
 rw [hg]
 generalize hW:World.alloc w1 _=W2
 have HB2:Hid (Below w.heap.size w W2):=Lib.hid (by rw [← hW]; exact HB1.out.alloc HB1.out.size _)
 have bW:Hid (R.br < w.heap.size∧w.heap.size < bt):=Lib.hid ⟨hlt,by rw [← hg]; exact (Array.getElem?_eq_some_iff.1 HZ1.out).1⟩
 have HS2:Hid (Ps R bt (bt + 1) w W2 ⟨#[]⟩ ((bF ts:Nat):Int) (.slice none 0 0) [] ts):=Lib.hid ⟨HI.out.below HB2.out,bP HB2.out,⟨hlt,bW.out.2,Nat.lt_succ_self _,by rw [← hW]; simp; omega⟩,by rw [← hW]; exact (heap_alloc_old _ _ (Array.getElem?_eq_some_iff.1 HZ1.out).1).trans HZ1.out,by rw [← hW,← hg]; exact heap_alloc_new _ _,Grow.nil _ _ _ _ _ _⟩
 obtain ⟨pos,hp,q0,q1,fq,HX⟩:=HS2.out.rd.open
 clear hW hg HB1 HZ1 HB2
 go_upto_region 3 with fail
 generalize hW:World.setCell W2 _ _=W3
 have HQ:Hid (bf W3 R ts.tail∧W2.grownBy W3 (some R.br)):=Lib.hid (by rw [← hW,nC.out]; exact HX.out t0 r0 nC.out)
 have iT:=Lib.hid (HS2.out.then HQ.out.1 HQ.out.2)
 clear hW q0 q1 fq HX HQ HS2
 cases hn:isName ts.tail
 ·have HE:Hid (res= .no ts.tail):=Lib.hid (oG.out.symm.trans (by rw [nR hn]; rfl))
  go_wp2_with fail
  refine (jY R _ _ hn iT.out.rd).mono ?_
  rintro e w4 ⟨rfl,h2⟩
  have zh:=Lib.hid (iT.out.below h2)
  clear h2 iT
  obtain ⟨c0,c1,c2,c3,fc⟩:=zh.out.cells
  have Wj:=fc 0
  go_upto_region 5 with fail
  generalize hW:World.setCell w4 _ _=W5
  have Am:Hid (Ps R bt (bt + 1) w W5 ⟨#[]⟩ ((bF ts:Nat):Int) (.slice none 0 0) [] ts.tail):=Lib.hid (by rw [← hW]; exact zh.out.name _)
  clear hW c0 c1 c2 c3 fc Wj zh
  obtain ⟨c0,c1,c2,c3,fc⟩:=Am.out.cells
  obtain ⟨⟨y0,y1,y2,y3⟩,fz⟩:=FV Am.out.z
  have g0:=fz 0
  have g1:=fz 1
  have g2:=fz 2
  have g3:=fz 3
  clear fc fz
  go_wp2_with fail
  exact bodyPost_ret (v:= .tuple #[qL _ _ _ _,.bool false]) (by simp [results,Tryz.results65,go_sem,qL,y0,y1,y2,y3]) rfl (yj HE.out Am.out.rd Am.out.gr bW.out.1)
 ·have qN:Hid ((tx (aI ts.tail)).size≤maxLen):=Lib.hid (mM (mU iT.out.rd.ts hn))
  have vk:Hid (res=(need [40] ts.tail.tail).bind fun _ r=>(Fh r).bind fun l r=>nN (tx (aI ts.tail)) (bF ts) l r):=Lib.hid (oG.out.symm.trans (by rw [kM hn]; rfl))
  go_wp2_with fail
  refine (jr R _ _ hn iT.out.rd).mono ?_
  rintro e w4 ⟨rfl,h2,h3⟩
  have zh:=Lib.hid (iT.out.then h2 h3)
  clear h2 h3 iT
  obtain ⟨c0,c1,c2,c3,fc⟩:=zh.out.cells
  have Wj:=fc 0
  go_upto_region 5 with fail
  generalize hW:World.setCell w4 _ _=W5
  have Am:Hid (Ps R bt (bt + 1) w W5 (tx (aI ts.tail)) ((bF ts:Nat):Int) (.slice none 0 0) [] ts.tail.tail):=Lib.hid (by rw [← hW]; exact zh.out.name _)
  clear hW c0 c1 c2 c3 fc Wj zh
  cases h4:at' [40] ts.tail.tail
  ·have HE:=Lib.hid (vk.out.trans (by rw [zD h4]:_=bK.bind (bK.no ts.tail.tail) _))
   go_wp2_with fail
   refine (dU R _ _ ⟨#[40]⟩ rfl h4 Am.out.rd).mono ?_
   rintro e w6 ⟨rfl,h2⟩
   have qj:=Lib.hid (Am.out.below h2)
   clear h2 Am
   obtain ⟨c0,c1,c2,c3,fc⟩:=qj.out.cells
   obtain ⟨⟨y0,y1,y2,y3⟩,fz⟩:=FV qj.out.z
   have g0:=fz 0
   have g1:=fz 1
   have g2:=fz 2
   have g3:=fz 3
   clear fc fz
   go_wp2_with fail
   exact bodyPost_ret (v:= .tuple #[qL _ _ _ _,.bool false]) (by simp [results,Tryz.results65,go_sem,qL,y0,y1,y2,y3]) rfl (yj HE.out qj.out.rd qj.out.gr bW.out.1)
  ·have vY:Hid (res=(Fh ts.tail.tail.tail).bind fun l r=>nN (tx (aI ts.tail)) (bF ts) l r):=Lib.hid (vk.out.trans (by rw [zG h4]; rfl))
   clear vk
   go_wp2_with fail
   refine (cu R _ _ ⟨#[40]⟩ rfl h4 Am.out.rd).mono ?_
   rintro e w6 ⟨rfl,h2,h3⟩
   have qj:=Lib.hid (Am.out.then h2 h3)
   clear h2 h3 Am
   obtain ⟨r6,MW⟩: ∃r6,Hid (ts.tail.tail.tail=r6):=⟨_,Lib.hid rfl⟩
   rw [MW.out] at qj vY
   cases h5:at' [41] r6
   ·have HE2:Hid (res=((kX (r6.length + 1) r6).close [41]).bind fun l r=>nN (tx (aI ts.tail)) (bF ts) l r):=Lib.hid (vY.out.trans (by unfold Fh; rw [if_neg (by rw [h5]; decide)]))
    obtain ⟨AO,Uh⟩: ∃AO,Hid (kX (r6.length + 1) r6=AO):=⟨_,Lib.hid rfl⟩
    rw [Uh.out] at HE2
    obtain ⟨i0,hi,hz0,hz1,hz2⟩:=Wi
    have jT:=Lib.hid (And.intro hi (And.intro hz0 (And.intro hz1 hz2)))
    clear hi hz0 hz1 hz2
    go_wp2_with fail
    refine (dU R _ _ ⟨#[41]⟩ rfl h5 qj.out.rd).mono ?_
    rintro e w7 ⟨rfl,h2⟩
    have xA:Hid (Rt R bt w (tx (aI ts.tail)) ((bF ts:Nat):Int) AO r6.length w7):=Lib.hid ⟨r6.length + 1,[],r6,_,rfl,Nat.lt_succ_self _,by rw [← Uh.out]; cases kX (r6.length + 1) r6 <;> rfl,qj.out.below h2,by have:=qj.out.rd.len; simp; omega,by simp⟩
    clear h2 qj Uh
    go_wp2_with fail
    go_loopg [6] r6.length (fun gk _ wr=>Rt R bt w (tx (aI ts.tail)) ((bF ts:Nat):Int) AO gk wr)
    case atStart=>exact xA.out
    case round=>
     obtain ⟨f,l,rest,v,rfl,hf,hres,hs,hll,hsz⟩:=hrel
     obtain ⟨f,rfl⟩: ∃n,f=n + 1:=⟨f - 1,by omega⟩
     have HF:=Lib.hid hf
     have jc:=Lib.hid hres
     have HS:=Lib.hid hs
     have wU:=Lib.hid hll
     have jy:=Lib.hid hsz
     obtain ⟨av,cv,hv⟩:=hs.row.len
     clear hf hres hs hll hsz xA
     subst hv
     cases hm:isName rest
     ·have ou:Hid (res= .no rest):=Lib.hid (HE2.out.trans (by rw [jc.out,PX hm]; rfl))
      go_wp2_with fail
      refine (jY R _ _ hm HS.out.rd).mono ?_
      rintro e w8 ⟨rfl,h2⟩
      have kQ:=Lib.hid (HS.out.below h2)
      clear h2 HS
      obtain ⟨c0,c1,c2,c3,fc⟩:=kQ.out.cells
      obtain ⟨⟨y0,y1,y2,y3⟩,fz⟩:=FV kQ.out.z
      have g0:=fz 0
      have g1:=fz 1
      have g2:=fz 2
      have g3:=fz 3
      clear fc fz
      go_wp2_with fail
      exact bodyPost_ret (v:= .tuple #[qL _ _ _ _,.bool false]) (by simp [results,Tryz.results65,go_sem,qL,y0,y1,y2,y3]) rfl (yj ou.out kQ.out.rd kQ.out.gr bW.out.1)
     ·have Fa:Hid ((tx (aI rest)).size≤maxLen):=Lib.hid (mM (mU HS.out.rd.ts hm))
      have Eh:=Lib.hid (wB hm)
      go_wp2_with fail
      refine (jr R _ _ hm HS.out.rd).mono ?_
      rintro e w8 ⟨rfl,h2,h3⟩
      have kQ:=Lib.hid (HS.out.then h2 h3)
      clear h2 h3 HS
      obtain ⟨c0,c1,c2,c3,fc⟩:=kQ.out.cells
      go_upto_region 11 with fail
      obtain ⟨s0,Dz⟩: ∃s0,Hid (tx (aI rest)=s0):=⟨_,Lib.hid rfl⟩
      rw [Dz.out] at Fa ⊢
      have sG:=Lib.hid (kQ.out.row.next (bU (aj w8 (.cells (Ce s0).toArray 9))))
      have jN:=Lib.hid (iQ (heap_alloc_new w8 (.cells (Ce s0).toArray 9)))
      obtain ⟨hi,hz0,hz1,hz2⟩:=jT.out
      have hbs:bt + 1≤w8.heap.size + 1:=Nat.le_succ_of_le kQ.out.lt.2.2.2
      have hkl:l.length + 1≤maxLen:=by have:=wU.out; unfold maxLen; omega
      have Xe:(l.length + 1) * 16≤140737488355328:=by have:=wU.out; omega
      have fc2:=fc 2
      clear fc
      go_wp2_with (at_builtin; refine wpList_append_lies _ rfl _ _ 32 rfl (bt + 1) 9 i0 _ 1 16 Tryz.underlying32 hi hz0 hz1 hz2 rfl (by decide) _ _ _ rfl sG.out.own ⟨w8.heap.size,0,none⟩ 1 1 (Ce s0) rfl rfl jN.out (by simp [Ce,Value.oneCell']) (by decide) hkl Xe (by simpa using hbs) _ rfl ?_)
      clear hi hz0 hz1 hz2
      intro g cap w9 hown hgr hmv hlt2
      have oO:Hid (∀k,(Value.slice av l.length cv).ownBlock=some k→bt + 1≤k):=Lib.hid (fun k hk=>(kQ.out.row.lt k hk).1)
      have jA:Hid (Below (bt + 1) (w8.alloc (.cells (Ce s0).toArray 9)) w9):=Lib.hid (qy hgr oO.out (by simpa using hbs))
      have qY:Hid (Below (bt + 1) w8 w9):=Lib.hid (((aj w8 (.cells (Ce s0).toArray 9)).mono kQ.out.lt.2.2.2).trans jA.out)
      have FD:Hid (gG (bt + 1) (Value.slice av l.length cv).ownBlock (w8.alloc (.cells (Ce s0).toArray 9)) (fun _=>True)):=Lib.hid (fun _ _=>trivial)
      have za:=Lib.hid (sG.out.push (x:=s0) FD.out rfl hown hgr (by simpa using hmv))
      have FW:Hid (bf w9 R rest.tail):=Lib.hid (Ec (oZ kQ.out.rd _) hgr (fun k hk=>by have h1:=oO.out k hk; have h2:=bW.out; have h3:=R.b0; omega))
      have Az:Hid (w.grownBy w9 (some R.br)):=Lib.hid (Ea (qK kQ.out.gr _) (jA.out.mono (by have:=bW.out; omega)))
      have sw:w9.heap[bt]? =some (.cells #[.string (tx (aI ts.tail)),.int .i64 ((bF ts:Nat):Int),.slice av l.length cv,.slice none 0 0] 93 (0,0)):=(qY.out.block _ (Nat.lt_succ_self _)).trans kQ.out.blk
      have c2:w9.cell? ⟨bt,2,none⟩=some (.slice av l.length cv):=aB sw rfl
      have f2:w9.frozen? ⟨bt,2,none⟩=false:=bH sw
      clear hown hgr hmv hlt2 hbs hkl Xe FD jN sG jA sw fc2
      go_upto_region 12 with fail
      generalize hW:World.setCell w9 _ _=FH
      have xQ:Hid (Ps R bt (bt + 1) w FH (tx (aI ts.tail)) ((bF ts:Nat):Int) (.slice (some ⟨g,0,none⟩) (l.length + 1) cap) (l++[s0]) rest.tail):=Lib.hid (by rw [← hW]; exact kQ.out.cZ FW.out Az.out qY.out za.out)
      have Ke:Hid (∀s ∈ l++[s0],s.size≤maxLen):=Lib.hid (fun y hy=>by
       rcases List.mem_append.1 hy with hy | hy
       ·exact jy.out y hy
       ·rw [List.mem_singleton.1 hy]; exact Fa.out)
      clear hW c2 f2 kQ FW Az qY za oO
      cases h6:at' [44] rest.tail
      ·have yU:Hid (AO= .ok (l++[s0]) rest.tail):=Lib.hid (jc.out.trans (by rw [Lj hm h6,Dz.out]; rfl))
       go_wp2_with fail
       refine (dU R _ _ ⟨#[44]⟩ rfl h6 xQ.out.rd).mono ?_
       rintro e w11 ⟨rfl,h2⟩
       have Bu:=Lib.hid (xQ.out.below h2)
       clear h2 xQ
       cases h7:at' [41] rest.tail
       ·have ou:Hid (res= .no rest.tail):=Lib.hid (HE2.out.trans (by rw [yU.out,nK h7]; rfl))
        go_wp2_with fail
        refine (dU R _ _ ⟨#[41]⟩ rfl h7 Bu.out.rd).mono ?_
        rintro e w12 ⟨rfl,h2⟩
        have Au:=Lib.hid (Bu.out.below h2)
        clear h2 Bu
        obtain ⟨c0,c1,c2,c3,fc⟩:=Au.out.cells
        obtain ⟨⟨y0,y1,y2,y3⟩,fz⟩:=FV Au.out.z
        have g0:=fz 0
        have g1:=fz 1
        have g2:=fz 2
        have g3:=fz 3
        clear fc fz
        go_wp2_with fail
        exact bodyPost_ret (v:= .tuple #[qL _ _ _ _,.bool false]) (by simp [results,Tryz.results65,go_sem,qL,y0,y1,y2,y3]) rfl (yj ou.out Au.out.rd Au.out.gr bW.out.1)
       ·have ou:Hid (res=nN (tx (aI ts.tail)) ((bF ts:Nat):Int) (l++[s0]) rest.tail.tail):=Lib.hid (HE2.out.trans (by rw [yU.out,nX h7]; rfl))
        have yE:Hid ((l++[s0]).length≤maxLen):=Lib.hid (by have:=wU.out; simp [maxLen]; omega)
        have oU:Hid (l.length + 1=(l++[s0]).length):=Lib.hid (by simp)
        go_wp2_with fail
        refine (cu R _ _ ⟨#[41]⟩ rfl h7 Bu.out.rd).mono ?_
        rintro e w12 ⟨rfl,h2,h3⟩
        have Au:=Lib.hid (Bu.out.then h2 h3)
        clear h2 h3 Bu
        obtain ⟨l',UJ⟩: ∃l',Hid ((l++[s0])=l'):=⟨_,Lib.hid rfl⟩
        have jo:Hid (∀s ∈ (l++[s0]),s.size≤maxLen):=Lib.hid Ke.out
        have zZ:=Lib.hid ou.out
        obtain ⟨v',MB⟩: ∃v',Hid (BH (bt + 1) _ v' (l++[s0])∧Ps R bt (bt + 1) w _ (tx (aI ts.tail)) ((bF ts:Nat):Int) v' (l++[s0]) rest.tail.tail):=⟨_,Lib.hid ⟨Au.out.row,Au.out⟩⟩
        clear Au
        have yK:=Lib.hid MB.out.2
        clear MB
        rw [UJ.out] at jo zZ yK yE
        have FR:Hid (∀W,bf W R rest.tail.tail→Calls Tryz.prog 102 #[.pointer (some ⟨R.br,0,none⟩)] W (EF R W (blk (3 * (rest.tail.tail).length + 3) rest.tail.tail))):=Lib.hid (fun W h=>Gg R _ _ (by omega) W h)
        have Hg:Hid (∀q,blk (3 * (rest.tail.tail).length + 3) rest.tail.tail= .no q→nN (tx (aI ts.tail)) ((bF ts:Nat):Int) l' rest.tail.tail= .no q):=Lib.hid (fun q h=>by unfold nN; rw [h]; rfl)
        have Jh:Hid (∀b q,blk (3 * (rest.tail.tail).length + 3) rest.tail.tail= .ok b q→nN (tx (aI ts.tail)) ((bF ts:Nat):Int) l' rest.tail.tail= .ok ⟨tx (aI ts.tail),((bF ts:Nat):Int),l',b⟩ q):=Lib.hid (fun b q h=>by unfold nN; rw [h]; rfl)
        generalize blk (3 * (rest.tail.tail).length + 3) rest.tail.tail=Pt at *
        go_wp2_with fail
        refine (FR.out _ yK.out.rd).mono ?_
        cases Pt with
        | no q=>
          rintro e w8 ⟨rfl,h2,h3⟩
          have ou:=Lib.hid (zZ.out.trans (Hg.out q rfl))
          obtain ⟨av,cv,hv⟩:=yK.out.row.len
          subst hv
          have kQ:=Lib.hid (yK.out.then h2 h3)
          clear h2 h3 Hg Jh FR
          obtain ⟨c0,c1,c2,c3,fc⟩:=kQ.out.cells
          have II:=fc 3
          go_upto_region 16 with fail
          generalize hW:World.setCell w8 _ _=W9
          have Ee:Hid (Ps R bt (bt + 1) w W9 _ _ _ _ q):=Lib.hid (by rw [← hW]; exact kQ.out.Kk)
          clear hW c0 c1 c2 c3 fc II kQ
          obtain ⟨c0,c1,c2,c3,fc⟩:=Ee.out.cells
          obtain ⟨⟨y0,y1,y2,y3⟩,fz⟩:=FV Ee.out.z
          have g0:=fz 0
          have g1:=fz 1
          have g2:=fz 2
          have g3:=fz 3
          clear fc fz
          go_wp2_with fail
          exact bodyPost_ret (v:= .tuple #[qL _ _ _ _,.bool false]) (by simp [results,Tryz.results65,go_sem,qL,y0,y1,y2,y3]) rfl (yj ou.out Ee.out.rd Ee.out.gr bW.out.1)
        | ok b q=>
          rintro e w8 ⟨⟨ao,cap,rfl,hl,hst⟩,h2,h3⟩
          have ou:=Lib.hid (zZ.out.trans (Jh.out b q rfl))
          have kQ:=Lib.hid (yK.out.then h2 h3)
          have qY:Hid (b.len≤maxLen∧eH (bt + 1) w8 (fun w2=>b.At w2 w2.heap.size ao 0)):=Lib.hid ⟨Nat.le_trans hl (by unfold maxLen; decide),hst.mono yK.out.lt.2.2.2⟩
          clear h2 h3 hl hst Hg Jh FR
          obtain ⟨fF,dW,hv,hcl,htx⟩:=kQ.out.row.says jo.out
          have HV:=Lib.hid hv
          have Cr:=Lib.hid (And.intro hcl htx)
          clear hv hcl htx
          obtain ⟨c0,c1,c2,c3,fc⟩:=kQ.out.cells
          have II:=fc 3
          go_upto_region 16 with fail
          generalize hW:World.setCell w8 _ _=W9
          have wO:=Lib.hid (kQ.out.vP (.slice ao b.len cap) W9 hW)
          have Dh:Hid (jf (bt + 1) w8 W9):=Lib.hid (by rw [← hW]; exact gK w8 ⟨bt,3,none⟩ _ (Nat.lt_succ_self _))
          clear hW c0 c1 c2 c3 fc II
          have e0:W9.cell? ⟨bt,0,none⟩=some (.string (tx (aI ts.tail))):=aB wO.out.2.2.2 rfl
          have e1:W9.cell? ⟨bt,1,none⟩=some (.int .i64 ((bF ts:Nat):Int)):=aB wO.out.2.2.2 rfl
          have e2:W9.cell? ⟨bt,2,none⟩=some (.slice fF (l').length dW):=(aB wO.out.2.2.2 rfl).trans (congrArg some HV.out)
          have e3:W9.cell? ⟨bt,3,none⟩=some (.slice ao b.len cap):=aB wO.out.2.2.2 rfl
          obtain ⟨⟨y0,y1,y2,y3⟩,fz⟩:=FV wO.out.2.2.1
          have g0:=fz 0
          have g1:=fz 1
          have g2:=fz 2
          have g3:=fz 3
          clear fz
          go_wp2_with fail
          exact bodyPost_ret (v:= .tuple #[.agg (jU.f ⟨⟨tx (aI ts.tail),((bF ts:Nat):Int),l',b⟩,fF,dW,ao,cap⟩).toArray,.bool true]) (by simp [results,Tryz.results65,go_sem,jU.f,y0,y1,y2,y3]) rfl (Oj (x:=⟨⟨tx (aI ts.tail),((bF ts:Nat):Int),l',b⟩,fF,dW,ao,cap⟩) (B:=bt + 1) ou.out ⟨⟨qN.out,HL.out,yE.out,qY.out.1⟩,Cr.out.1⟩ (fun w2 h2=>⟨Cr.out.2 w2 (Dh.out.trans h2),qY.out.2 w2 (Dh.out.trans h2)⟩) (by have:=bW.out; omega) wO.out.1 wO.out.2.1 bW.out.1)
      ·have yU:Hid (AO=(kX f rest.tail.tail).map ((l++[s0])++ ·)):=Lib.hid (jc.out.trans (by rw [Mk hm h6,Dz.out,kg]; exact BM (fun a=>by simp)))
       go_wp2_with fail
       refine (cu R _ _ ⟨#[44]⟩ rfl h6 xQ.out.rd).mono ?_
       rintro e w11 ⟨rfl,h2,h3⟩
       have Bu:=Lib.hid (xQ.out.then h2 h3)
       have HT2:=Lib.hid (at_len h6)
       clear h2 h3 xQ
       go_wp2_with fail
       go_roundg rest.tail.tail.length
       case measure=>have:=Eh.out; have:=HT2.out; omega
       case rel=>exact ⟨f,l++[s0],rest.tail.tail,_,rfl,by have:=HF.out; have:=Eh.out; have:=HT2.out; omega,yU.out,Bu.out,by have:=wU.out; have:=Eh.out; have:=HT2.out; simp only [List.length_append,List.length_singleton]; omega,Ke.out⟩
   ·have HE2:Hid (res=nN (tx (aI ts.tail)) ((bF ts:Nat):Int) [] r6.tail):=Lib.hid (vY.out.trans (by unfold Fh; rw [if_pos h5]; rfl))
    have yE:Hid (([]:List ByteArray).length≤maxLen):=Lib.hid (Nat.zero_le _)
    go_wp2_with fail
    refine (cu R _ _ ⟨#[41]⟩ rfl h5 qj.out.rd).mono ?_
    rintro e w7 ⟨rfl,h2,h3⟩
    have OQ:=Lib.hid (qj.out.then h2 h3)
    clear h2 h3 qj
    obtain ⟨l',UJ⟩: ∃l',Hid (([]:List ByteArray)=l'):=⟨_,Lib.hid rfl⟩
    have jo:Hid (∀s ∈ ([]:List ByteArray),s.size≤maxLen):=Lib.hid (by simp)
    have zZ:=Lib.hid HE2.out
    obtain ⟨v',MB⟩: ∃v',Hid (BH (bt + 1) _ v' ([]:List ByteArray)∧Ps R bt (bt + 1) w _ (tx (aI ts.tail)) ((bF ts:Nat):Int) v' ([]:List ByteArray) r6.tail):=⟨_,Lib.hid ⟨OQ.out.row,OQ.out⟩⟩
    clear OQ
    have yK:=Lib.hid MB.out.2
    clear MB
    rw [UJ.out] at jo zZ yK yE
    have FR:Hid (∀W,bf W R r6.tail→Calls Tryz.prog 102 #[.pointer (some ⟨R.br,0,none⟩)] W (EF R W (blk (3 * (r6.tail).length + 3) r6.tail))):=Lib.hid (fun W h=>Gg R _ _ (by omega) W h)
    have Hg:Hid (∀q,blk (3 * (r6.tail).length + 3) r6.tail= .no q→nN (tx (aI ts.tail)) ((bF ts:Nat):Int) l' r6.tail= .no q):=Lib.hid (fun q h=>by unfold nN; rw [h]; rfl)
    have Jh:Hid (∀b q,blk (3 * (r6.tail).length + 3) r6.tail= .ok b q→nN (tx (aI ts.tail)) ((bF ts:Nat):Int) l' r6.tail= .ok ⟨tx (aI ts.tail),((bF ts:Nat):Int),l',b⟩ q):=Lib.hid (fun b q h=>by unfold nN; rw [h]; rfl)
    generalize blk (3 * (r6.tail).length + 3) r6.tail=Pt at *
    go_wp2_with fail
    refine (FR.out _ yK.out.rd).mono ?_
    cases Pt with
    | no q=>
      rintro e w8 ⟨rfl,h2,h3⟩
      have ou:=Lib.hid (zZ.out.trans (Hg.out q rfl))
      obtain ⟨av,cv,hv⟩:=yK.out.row.len
      subst hv
      have kQ:=Lib.hid (yK.out.then h2 h3)
      clear h2 h3 Hg Jh FR
      obtain ⟨c0,c1,c2,c3,fc⟩:=kQ.out.cells
      have II:=fc 3
      go_upto_region 16 with fail
      generalize hW:World.setCell w8 _ _=W9
      have Ee:Hid (Ps R bt (bt + 1) w W9 _ _ _ _ q):=Lib.hid (by rw [← hW]; exact kQ.out.Kk)
      clear hW c0 c1 c2 c3 fc II kQ
      obtain ⟨c0,c1,c2,c3,fc⟩:=Ee.out.cells
      obtain ⟨⟨y0,y1,y2,y3⟩,fz⟩:=FV Ee.out.z
      have g0:=fz 0
      have g1:=fz 1
      have g2:=fz 2
      have g3:=fz 3
      clear fc fz
      go_wp2_with fail
      exact bodyPost_ret (v:= .tuple #[qL _ _ _ _,.bool false]) (by simp [results,Tryz.results65,go_sem,qL,y0,y1,y2,y3]) rfl (yj ou.out Ee.out.rd Ee.out.gr bW.out.1)
    | ok b q=>
      rintro e w8 ⟨⟨ao,cap,rfl,hl,hst⟩,h2,h3⟩
      have ou:=Lib.hid (zZ.out.trans (Jh.out b q rfl))
      have kQ:=Lib.hid (yK.out.then h2 h3)
      have qY:Hid (b.len≤maxLen∧eH (bt + 1) w8 (fun w2=>b.At w2 w2.heap.size ao 0)):=Lib.hid ⟨Nat.le_trans hl (by unfold maxLen; decide),hst.mono yK.out.lt.2.2.2⟩
      clear h2 h3 hl hst Hg Jh FR
      obtain ⟨fF,dW,hv,hcl,htx⟩:=kQ.out.row.says jo.out
      have HV:=Lib.hid hv
      have Cr:=Lib.hid (And.intro hcl htx)
      clear hv hcl htx
      obtain ⟨c0,c1,c2,c3,fc⟩:=kQ.out.cells
      have II:=fc 3
      go_upto_region 16 with fail
      generalize hW:World.setCell w8 _ _=W9
      have wO:=Lib.hid (kQ.out.vP (.slice ao b.len cap) W9 hW)
      have Dh:Hid (jf (bt + 1) w8 W9):=Lib.hid (by rw [← hW]; exact gK w8 ⟨bt,3,none⟩ _ (Nat.lt_succ_self _))
      clear hW c0 c1 c2 c3 fc II
      have e0:W9.cell? ⟨bt,0,none⟩=some (.string (tx (aI ts.tail))):=aB wO.out.2.2.2 rfl
      have e1:W9.cell? ⟨bt,1,none⟩=some (.int .i64 ((bF ts:Nat):Int)):=aB wO.out.2.2.2 rfl
      have e2:W9.cell? ⟨bt,2,none⟩=some (.slice fF (l').length dW):=(aB wO.out.2.2.2 rfl).trans (congrArg some HV.out)
      have e3:W9.cell? ⟨bt,3,none⟩=some (.slice ao b.len cap):=aB wO.out.2.2.2 rfl
      obtain ⟨⟨y0,y1,y2,y3⟩,fz⟩:=FV wO.out.2.2.1
      have g0:=fz 0
      have g1:=fz 1
      have g2:=fz 2
      have g3:=fz 3
      clear fz
      go_wp2_with fail
      exact bodyPost_ret (v:= .tuple #[.agg (jU.f ⟨⟨tx (aI ts.tail),((bF ts:Nat):Int),l',b⟩,fF,dW,ao,cap⟩).toArray,.bool true]) (by simp [results,Tryz.results65,go_sem,jU.f,y0,y1,y2,y3]) rfl (Oj (x:=⟨⟨tx (aI ts.tail),((bF ts:Nat):Int),l',b⟩,fF,dW,ao,cap⟩) (B:=bt + 1) ou.out ⟨⟨qN.out,HL.out,yE.out,qY.out.1⟩,Cr.out.1⟩ (fun w2 h2=>⟨Cr.out.2 w2 (Dh.out.trans h2),qY.out.2 w2 (Dh.out.trans h2)⟩) (by have:=bW.out; omega) wO.out.1 wO.out.2.1 bW.out.1)
end Go.Proofs.YtdajkddgnfgijaaGreatDoor
end
section
set_option linter.unusedSimpArgs false
set_option linter.unusedVariables false
namespace Go.Proofs.YtdajkddgnfgijaaGreatDoor
open Go.RowKit
open Md Pz
theorem Ue:(Tryz.prog.info? 75).map (fun i=>(i.zero,i.size,i.bytes))=some (some (.agg zO),6,64):=by kernel_rfl
theorem VL: ∃i0,Tryz.prog.info? 75=some i0∧i0.zero=some (.agg zO)∧i0.size=6∧i0.bytes=64:=info_parts Ue
theorem TU:(Tryz.prog.info? 93).map (fun i=>(i.zero,i.size,i.bytes))=some (some (.agg Ka),4,72):=by kernel_rfl
theorem VN: ∃i0,Tryz.prog.info? 93=some i0∧i0.zero=some (.agg Ka)∧i0.size=4∧i0.bytes=72:=info_parts TU
def Ls (R:Rp) (w:World) (res:bK Pr) (e:Ending) (w':World):Prop:=
 match res with
 | .ok p r=>(∃aK aG aM aH,e= .returned (.tuple #[.agg #[.slice aK p.ds.length aG,.slice aM p.ts.length aH],.bool (!p.ts.isEmpty)])∧(p.ds.length≤4096∧p.ts.length≤4096∧p.ds.length≤aG∧p.ts.length≤aH)∧eH w.heap.size w' (fun w2=>ig w2 w2.heap.size p.ds aK 0∧gJ w2 w2.heap.size p.ts aM 0))∧bf w' R r∧w.grownBy w' (some R.br)
 | .no r=>(∃a n c a' n' c',e= .returned (.tuple #[.agg #[.slice a n c,.slice a' n' c'],.bool false]))∧bf w' R r∧w.grownBy w' (some R.br)
def KF:Array Value:= #[.slice none 0 0,.slice none 0 0]
structure Pg (R:Rp) (bp:Nat) (w W:World) (vD vT:Value) (rest:aJ):Prop where
 rd:bf W R rest
 gr:w.grownBy W (some R.br)
 lt:R.br < w.heap.size∧w.heap.size < bp∧bp < W.heap.size
 z:W.heap[w.heap.size]? =some (.cells KF 25 (0,0))
 blk:W.heap[bp]? =some (.cells #[vD,vT] 25 (0,0))
section
variable {R:Rp} {bp:Nat} {w W W':World} {vD vT:Value} {rest rest':aJ}
theorem Pg.then (h:Pg R bp w W vD vT rest) (h1:bf W' R rest') (h2:W.grownBy W' (some R.br)):Pg R bp w W' vD vT rest':=
 ⟨h1,eY h.gr h2,⟨h.lt.1,h.lt.2.1,Nat.lt_of_lt_of_le h.lt.2.2 h2.size⟩,(h2.block _ (Array.getElem?_eq_some_iff.1 h.z).1 (by have:=h.lt; simp; omega)).trans h.z,(h2.block _ (Array.getElem?_eq_some_iff.1 h.blk).1 (by have:=h.lt; simp; omega)).trans h.blk⟩
theorem Pg.below (h:Pg R bp w W vD vT rest) (hb:Below W.heap.size W W'):Pg R bp w W' vD vT rest:=h.then (h.rd.below hb) (bP hb)
theorem Pg.put (h:Pg R bp w W vD vT rest) (hr:bf W' R rest) (hg:w.grownBy W' (some R.br)) (hB:Below (bp + 1) W W') (j:Nat) (v YP Za:Value) (hy:(#[vD,vT]:Array Value).setIfInBounds j v= #[YP,Za]):Pg R bp w (W'.setCell ⟨bp,j,none⟩ v) YP Za rest:=
 ⟨nY hr _ _ (by have:=h.lt; have:=R.b0; show R.B0≤bp; omega) (by have:=h.lt; show bp≠R.br; omega),rW hg _ _ (by have:=h.lt; show _≤bp; omega),by have h1:=h.lt; have h2:=hB.size; simp [World.setCell]; omega,(bJ W' _ _ rfl (by have:=h.lt; show bp≠_; omega)).trans ((hB.block _ (by have:=h.lt; omega)).trans h.z),by rw [dV ((hB.block _ (Nat.lt_succ_self _)).trans h.blk),hy]⟩
theorem Pg.cells (h:Pg R bp w W vD vT rest):W.cell? ⟨bp,0,none⟩=some vD∧W.cell? ⟨bp,1,none⟩=some vT∧ ∀j,W.frozen? ⟨bp,j,none⟩=false:=
 ⟨aB h.blk rfl,aB h.blk rfl,fun _=>bH h.blk⟩
end
theorem YC {w:World} {b:Nat} {t:TypeId} (h:w.heap[b]? =some (.cells KF t (0,0))):
 w.cell? ⟨b,0,none⟩=some (.slice none 0 0)∧w.cell? ⟨b,1,none⟩=some (.slice none 0 0)∧w.frozen? ⟨b,0,none⟩=false∧w.frozen? ⟨b,1,none⟩=false:=
 ⟨aB h rfl,aB h rfl,bH h,bH h⟩
theorem Nc {R:Rp} {w W:World} {a a':Option Addr} {n c n' c':Nat} {r:aJ} {res:bK Pr} (e:res= .no r) (hr:bf W R r) (hg:w.grownBy W (some R.br)) (hl:R.br < w.heap.size):
 Ls R w res (.returned (.tuple #[.agg #[.slice a n c,.slice a' n' c'],.bool false])) (W.setCells w.heap.size 0 [.slice a n c,.slice a' n' c']):=by
 subst e
 exact ⟨⟨a,n,c,a',n',c',rfl⟩,nU hr (cB _ _ _ _) (by have:=R.b0; omega) (by omega),jK hg _ _ _ (Nat.le_refl _)⟩
theorem Tn:(Tryz.prog.info? 25).map (·.size)=some 2:=by kernel_rfl
theorem WV {R:Rp} {w W:World} {p:Pr} {aK aM:Option Addr} {aG aH:Nat} {r:aJ} {res:bK Pr} {B:Nat} (e:res= .ok p r) (hl:p.ds.length≤4096∧p.ts.length≤4096∧p.ds.length≤aG∧p.ts.length≤aH)
 (hst:eH B W (fun w2=>ig w2 w2.heap.size p.ds aK 0∧gJ w2 w2.heap.size p.ts aM 0)) (hB:w.heap.size < B) (hr:bf W R r) (hg:w.grownBy W (some R.br)) (hlt:R.br < w.heap.size):
 Ls R w res (.returned (.tuple #[.agg #[.slice aK p.ds.length aG,.slice aM p.ts.length aH],.bool (!p.ts.isEmpty)])) (W.setCells w.heap.size 0 [.slice aK p.ds.length aG,.slice aM p.ts.length aH]):=by
 subst e
 exact ⟨⟨aK,aG,aM,aH,rfl,hl,(hst.next ⟨(cB w.heap.size _ 0 W).size,fun k h1 h2=>(cB w.heap.size _ 0 W).block k h2 (by simp; omega)⟩).mono (Nat.le_of_lt hB)⟩,nU hr (cB _ _ _ _) (by have:=R.b0; omega) (by omega),jK hg _ _ _ (Nat.le_refl _)⟩
def uU (P S:World→Prop):List Bool→World→Prop
 | [x],w=>if x then S w else P w
 | _,_=>False
section
variable {P S:World→Prop} {c:List Bool} {w w':World} {k i:Nat}
theorem uU.bits (h:uU P S c w): ∃x,c=[x]:=by
 match c,h with
 | [x],_=>exact ⟨x,rfl⟩
 | [],h=>exact h.elim
 | _ ::_ ::_,h=>exact h.elim
theorem uU.skip (h1:(k == i)=false) (h:uU P S c w):uU P S (je [k] c i) w:=by
 obtain ⟨x,rfl⟩:=h.bits
 simp only [je,h1,Bool.or_false]; exact h
theorem uU.fire (h1:(k == i)=true) (h:S w):uU P S (je [k] [false] i) w:=by
 simp only [je,h1,Bool.or_true]; exact h
end
def RB (R:Rp) (bp:Nat) (w:World) (xU:bK (List De)) (g:Nat) (wr:World):Prop:=
 ∃f l rest vD,g=rest.length∧rest.length≤f∧xU=(mY f rest).map (l++ ·)∧Pg R bp w wr vD (.slice none 0 0) rest∧BN (bp + 1) wr vD l∧(∀d ∈ l,d.Ok)∧l.length + rest.length≤4096
def Ra (R:Rp) (bp:Nat) (w W2:World) (vD:Value) (resT:bK (List Th)) (g:Nat) (wr:World):Prop:=
 ∃f l rest vT,g=rest.length∧rest.length≤f∧resT=(oQ f rest).map ((l.map (·.t))++ ·)∧Pg R bp w wr vD vT rest∧jf (bp + 1) W2 wr∧yB W2.heap.size wr vT l∧(∀x ∈ l,x.t.Ok∧x.t.cZ.length≤x.dW)∧l.length + rest.length≤4096
theorem NW (rest:aJ):isDecl rest=((((nextK rest:Nat):Int) == 3) && (jE (aI rest) != 0)):=by
 unfold isDecl; rw [uI 3]; rfl
theorem LJ {f:Nat} {ts:aJ} (h:isDecl ts=false):mY f ts= .ok [] ts:=by
 cases f with
 | zero=>rfl
 | succ f=>unfold mY; rw [if_neg (by rw [h]; decide)]
theorem NK {f:Nat} {ts r:aJ} (h:isDecl ts=true) (h1:tQ ts= .no r):mY (f + 1) ts= .no r:=by unfold mY; rw [if_pos h,h1]; rfl
theorem Ns {f:Nat} {ts r:aJ} {d:De} (h:isDecl ts=true) (h1:tQ ts= .ok d r):mY (f + 1) ts=(mY f r).map (d :: ·):=by
 conv=>lhs; unfold mY
 rw [if_pos h,h1]; rfl
theorem MQ {f:Nat} {ts:aJ} (h:at' [116,104,114,101,97,100] ts=false):oQ f ts= .ok [] ts:=by
 cases f with
 | zero=>rfl
 | succ f=>unfold oQ; rw [if_neg (by rw [h]; decide)]
theorem OV {f:Nat} {ts r:aJ} (h:at' [116,104,114,101,97,100] ts=true) (h1:xW ts= .no r):oQ (f + 1) ts= .no r:=by unfold oQ; rw [if_pos h,h1]; rfl
theorem Q0 {f:Nat} {ts r:aJ} {t:Th} (h:at' [116,104,114,101,97,100] ts=true) (h1:xW ts= .ok t r):oQ (f + 1) ts=(oQ f r).map (t :: ·):=by
 conv=>lhs; unfold oQ
 rw [if_pos h,h1]; rfl
theorem jf.Xn {B:Nat} {w w1 w2:World} (h:jf B w w1) (hb:Below w.heap.size w1 w2):jf B w w2:=⟨Nat.le_trans h.1 hb.size,fun k h1 h2=>(hb.block k h2).trans (h.2 k h1 h2)⟩
theorem U4 {R:Rp} {w:World} {ts:aJ} {bp:Nat} (hI:bf w R ts) (hg:w.heap.size + 1=bp): ∀W,((w.alloc (.cells #[.slice none 0 0,.slice none 0 0] 25)).alloc (.cells #[.slice none 0 0,.slice none 0 0] 25))=W→Pg R bp w W (.slice none 0 0) (.slice none 0 0) ts:=by
 intro W hW
 have hb1:Below w.heap.size w (w.alloc (.cells #[.slice none 0 0,.slice none 0 0] 25)):=aj _ _
 have hz1:(w.alloc (.cells #[.slice none 0 0,.slice none 0 0] 25)).heap[w.heap.size]? =some (.cells KF 25 (0,0)):=heap_alloc_new _ _
 have hs1:(w.alloc (.cells #[.slice none 0 0,.slice none 0 0] 25)).heap.size=bp:=by simp [hg]
 generalize w.alloc (.cells #[.slice none 0 0,.slice none 0 0] 25)=W1 at *
 have hb2:Below w.heap.size w W:=by rw [← hW]; exact hb1.alloc hb1.size _
 exact ⟨hI.below hb2,bP hb2,⟨hI.lt,by omega,by rw [← hW]; simp; omega⟩,by rw [← hW]; exact (heap_alloc_old _ _ (Array.getElem?_eq_some_iff.1 hz1).1).trans hz1,by rw [← hW,← hs1]; exact heap_alloc_new _ _⟩
set_option maxHeartbeats 4000000 in
set_option maxRecDepth 100000 in
theorem Jk (R:Rp) (ts:aJ) (w:World) (hI:bf w R ts):
 Calls Tryz.prog 27 #[.pointer (some ⟨R.br,0,none⟩)] w (Ls R w (prog ts)):=by
 have HI:=Lib.hid hI
 have bW:=Lib.hid hI.lt
 have HLEN:=Lib.hid hI.len
 obtain ⟨res,oG⟩: ∃res,Hid (prog ts=res):=⟨_,Lib.hid rfl⟩
 obtain ⟨xU,RS⟩: ∃xU,Hid (mY ts.length ts=xU):=⟨_,Lib.hid rfl⟩
 have vk:Hid (res=xU.bind fun ds r=>(oQ r.length r).map fun th=>⟨ds,th⟩):=Lib.hid (by rw [← oG.out,← RS.out]; rfl)
 rw [oG.out]
 have hf0:=aa3
 have hf1:=aa4
 clear hI
 go_enter Tryz.func27,Tryz.ntmps27
 go_upto_block 0 with fail
 obtain ⟨bp,hg⟩: ∃g,w.heap.size + 1=g:=⟨_,rfl⟩
 rw [hg]
 generalize hW:World.alloc (World.alloc w _) _=W0
 have NV:Hid (Pg R bp w W0 (.slice none 0 0) (.slice none 0 0) ts):=Lib.hid (U4 HI.out hg W0 hW)
 clear hW hg
 go_cut [] (fun W'=> ∃l rest vD,xU= .ok l rest∧Pg R bp w W' vD (.slice none 0 0) rest∧BN (bp + 1) W' vD l∧(∀d ∈ l,d.Ok)∧l.length + rest.length≤4096)
 case first=>
  have xA:Hid (RB R bp w xU ts.length W0):=Lib.hid ⟨ts.length,[],ts,_,rfl,Nat.le_refl _,by rw [← RS.out]; cases mY ts.length ts <;> rfl,NV.out,Grow.nil _ _ _ _ _ _,by simp,by have:=HLEN.out; simp; omega⟩
  obtain ⟨i0,hi,hz0,hz1,hz2⟩:=VL
  have jT:=Lib.hid (And.intro hi (And.intro hz0 (And.intro hz1 hz2)))
  clear hi hz0 hz1 hz2 NV RS
  go_wp2_with fail
  go_loopg [5,6] ts.length (fun gk _ _ wr=>RB R bp w xU gk wr)
  case atStart=>exact xA.out
  case round=>
   obtain ⟨f,l,rest,vD,rfl,hf,hres,hs,hg,hok,hll⟩:=hrel
   have HF:=Lib.hid hf
   have jc:=Lib.hid hres
   have HS:=Lib.hid hs
   have HG:=Lib.hid hg
   have pJ:=Lib.hid hok
   have wU:=Lib.hid hll
   obtain ⟨av,cv,hv⟩:=hg.len
   have jo:=Lib.hid (fun w hI=>gT R rest w hI)
   unfold kI at jo
   have Sg:=Lib.hid (fun w=>Av (tx (aI rest)) (l:=aI rest) (F8 _) w)
   clear hf hres hs hg hok hll xA
   subst hv
   go_upto_region 2 with fail
   go_cut [19] (fun s19 W'=>s19= .bool (isDecl rest)∧Below wr.heap.size wr W')
   case first=>
    have HE:=Lib.hid (NW rest)
    generalize isDecl rest=b at *
    generalize ((nextK rest:Nat):Int)=k at *
    generalize tx (aI rest)=s at *
    generalize jE (aI rest)=dc at *
    cases hk:(k == 3)
    ·go_wp2_with fail
     refine (jo.out _ HS.out.rd).mono ?_
     rintro e w1 ⟨rfl,h2⟩
     have HB1:=Lib.hid h2
     clear h2
     go_wp2_with fail
     go_meet
     exact ⟨by rw [HE.out,hk]; rfl,HB1.out⟩
    ·go_wp2_with fail
     refine (jo.out _ HS.out.rd).mono ?_
     rintro e w1 ⟨rfl,h2⟩
     have HB1:=Lib.hid h2
     have HR1:=Lib.hid (HS.out.rd.below h2)
     clear h2
     go_wp2_with fail
     refine (jo.out _ HR1.out).mono ?_
     rintro e w2 ⟨rfl,h2⟩
     have HB2:=Lib.hid (HB1.out.trans (h2.mono HB1.out.size))
     clear h2
     go_wp2_with fail
     refine (Sg.out _).mono ?_
     rintro e w3 ⟨rfl,rfl⟩
     go_wp2_with fail
     go_meet
     exact ⟨by rw [HE.out,hk]; rfl,HB2.out⟩
   obtain ⟨rfl,hB⟩:=hcut
   obtain ⟨W1,rfl⟩: ∃W:World,W=wc:=⟨_,rfl⟩
   have sI:=Lib.hid (HS.out.below hB)
   have uh:=Lib.hid (HG.out.next (bU hB))
   clear hB HS HG jo Sg
   cases hd:isDecl rest
   ·have yU:Hid (xU= .ok l rest):=Lib.hid (jc.out.trans (by rw [LJ hd]; show bK.ok (l++[]) rest=_; rw [List.append_nil]))
    go_wp2_with fail
    go_meet
    exact ⟨l,rest,_,yU.out,sI.out,uh.out,pJ.out,wU.out⟩
   ·have HC:=Lib.hid (DI R rest W1 sI.out.rd hd)
    go_wp2_with fail
    refine HC.out.mono ?_
    obtain ⟨f',hf'⟩: ∃f',f=f' + 1:=⟨f - 1,by
     have h1:=HF.out
     have h2:rest.length≠0:=fun e=>by rw [List.length_eq_zero_iff.1 e] at hd; exact absurd hd (by decide)
     omega⟩
    subst hf'
    have HN:Hid (∀r,tQ rest= .no r→res= .no r):=Lib.hid (fun r h=>vk.out.trans (by rw [jc.out,NK hd h]; rfl))
    have HO:Hid (∀d r,tQ rest= .ok d r→xU=(mY f' r).map ((l++[d])++ ·)∧r.length < rest.length):=Lib.hid (fun d r h=>⟨jc.out.trans (by rw [Ns hd h,kg]; exact BM (fun a=>by simp)),Ox h⟩)
    clear jc HC
    generalize tQ rest=Zu at *
    cases Zu with
    | no r=>
      have ou:=Lib.hid (HN.out r rfl)
      clear HN HO
      rintro e w2 ⟨⟨d,rfl⟩,h2,h3⟩
      have HS2:=Lib.hid (sI.out.then h2 h3)
      clear h2 h3 sI uh
      unfold xw
      go_upto_region 4 with fail
      generalize hW:World.alloc w2 _=W3
      have iT:Hid (Pg R bp w W3 _ _ r):=Lib.hid (by rw [← hW]; exact HS2.out.below (aj _ _))
      clear hW HS2
      obtain ⟨c0,c1,fc⟩:=iT.out.cells
      obtain ⟨y0,y1,g0,g1⟩:=YC iT.out.z
      clear fc
      go_wp2_with fail
      exact bodyPost_ret (v:= .tuple #[.agg #[.slice _ _ _,.slice _ _ _],.bool false]) (by simp [results,Tryz.results27,go_sem,y0,y1]) rfl (Nc ou.out iT.out.rd iT.out.gr bW.out)
    | ok d r=>
      have Dw:=Lib.hid (HO.out d r rfl)
      clear HN HO
      rintro e w2 ⟨⟨Ie,rfl⟩,h2,h3⟩
      have HDO:=Lib.hid Ie
      have HS2:=Lib.hid (sI.out.then h2 h3)
      have HG2:=Lib.hid (uh.out.next (oo h3 (by have:=sI.out.lt; omega)))
      clear h2 h3 sI uh Ie
      unfold xw
      go_upto_region 4 with fail
      obtain ⟨gd,hg⟩: ∃g,w2.heap.size=g:=⟨_,rfl⟩
      generalize hW:World.alloc w2 _=W3
      have iT:Hid (Pg R bp w W3 _ _ r):=Lib.hid (by rw [← hW]; exact HS2.out.below (aj _ _))
      have Cq:Hid (BN (bp + 1) W3 _ l):=Lib.hid (by rw [← hW]; exact HG2.out.next (bU (aj _ _)))
      have HB3:Hid (W3.heap[gd]? =some (.cells (jB d).toArray 75 (0,0))):=Lib.hid (by rw [← hW,← hg]; exact heap_alloc_new _ _)
      rw [hg]
      clear hW hg HS2 HG2
      obtain ⟨e0,e1,e2,e3,e4,e5⟩:(W3.cell? ⟨gd,0,none⟩=some (.int .i64 d.kind)∧W3.cell? ⟨gd,1,none⟩=some (.int .i64 d.line)∧W3.cell? ⟨gd,2,none⟩=some (.string d.nm)∧W3.cell? ⟨gd,3,none⟩=some (.int .i64 d.size)∧W3.cell? ⟨gd,4,none⟩=some (.int .i64 d.init)∧W3.cell? ⟨gd,5,none⟩=some (.string d.on)):=⟨aB HB3.out rfl,aB HB3.out rfl,aB HB3.out rfl,aB HB3.out rfl,aB HB3.out rfl,aB HB3.out rfl⟩
      obtain ⟨c0,c1,fc⟩:=iT.out.cells
      clear fc
      have sG:=Lib.hid (Cq.out.next (bU (aj W3 (.cells (jB d).toArray 75))))
      have jN:=Lib.hid (iQ (heap_alloc_new W3 (.cells (jB d).toArray 75)))
      obtain ⟨hi,hz0,hz1,hz2⟩:=jT.out
      have hbs:bp + 1≤W3.heap.size + 1:=by have:=iT.out.lt; omega
      have hkl:l.length + 1≤maxLen:=by have:=wU.out; unfold maxLen; omega
      have WO:(l.length + 1) * 64≤140737488355328:=by have:=wU.out; omega
      go_wp2_with (at_builtin; refine wpList_append_lies _ rfl _ _ 22 rfl (bp + 1) 75 i0 _ 6 64 Tryz.underlying22 hi hz0 hz1 hz2 rfl (by decide) _ _ _ rfl sG.out.own ⟨W3.heap.size,0,none⟩ 1 1 (jB d) rfl rfl jN.out (by simp [jB,Value.oneCell']) (by decide) hkl WO (by simpa using hbs) _ rfl ?_)
      clear hi hz0 hz1 hz2
      intro g cap w9 hown hgr hmv hlt2
      have oO:Hid (∀k,(Value.slice av (l).length cv).ownBlock=some k→bp + 1≤k):=Lib.hid (fun k hk=>(Cq.out.lt k hk).1)
      have jA:Hid (Below (bp + 1) (W3.alloc (.cells (jB d).toArray 75)) w9):=Lib.hid (qy hgr oO.out (by simpa using hbs))
      have qY:Hid (Below (bp + 1) W3 w9):=Lib.hid (((aj W3 (.cells (jB d).toArray 75)).mono iT.out.lt.2.2).trans jA.out)
      have FD:Hid (gG (bp + 1) (Value.slice av (l).length cv).ownBlock (W3.alloc (.cells (jB d).toArray 75)) (fun _=>True)):=Lib.hid (fun _ _=>trivial)
      have FW:Hid (bf w9 R r):=Lib.hid (Ec (oZ iT.out.rd _) hgr (fun k hk=>by have h1:=oO.out k hk; have h2:=iT.out.lt; have h3:=R.b0; omega))
      have Az:Hid (w.grownBy w9 (some R.br)):=Lib.hid (Ea (qK iT.out.gr _) (jA.out.mono (by have:=iT.out.lt; omega)))
      have sw:w9.heap[bp]? =some (.cells _ 25 (0,0)):=(qY.out.block _ (Nat.lt_succ_self _)).trans iT.out.blk
      have za:=Lib.hid (sG.out.push (x:=d) FD.out rfl hown hgr (by simpa using hmv))
      have c0:w9.cell? ⟨bp,0,none⟩=some (.slice av l.length cv):=aB sw rfl
      have f0:w9.frozen? ⟨bp,0,none⟩=false:=bH sw
      clear hown hgr hmv hlt2 hbs hkl WO FD jN sG jA sw e0 e1 e2 e3 e4 e5 c1
      go_wp2_with fail
      generalize hW:World.setCell w9 _ _=FH
      have xQ:Hid (Pg R bp w FH (.slice (some ⟨g,0,none⟩) (l.length + 1) cap) (.slice none 0 0) r):=Lib.hid (by rw [← hW]; exact iT.out.put FW.out Az.out qY.out 0 _ _ _ rfl)
      have PY:Hid (BN (bp + 1) FH (.slice (some ⟨g,0,none⟩) (l.length + 1) cap) (l++[d])):=Lib.hid (by rw [← hW]; exact za.out.next (gK w9 ⟨bp,0,none⟩ _ (Nat.lt_succ_self _)))
      have Ke:Hid (∀y ∈ l++[d],y.Ok):=Lib.hid (fun y hy=>by
       rcases List.mem_append.1 hy with hy | hy
       ·exact pJ.out y hy
       ·rw [List.mem_singleton.1 hy]; exact HDO.out)
      clear hW c0 f0 iT FW Az qY za oO Cq HB3
      go_roundg r.length
      case measure=>exact Dw.out.2
      case rel=>exact ⟨f',l++[d],r,_,rfl,by have h1:=HF.out; have h2:=Dw.out.2; omega,Dw.out.1,xQ.out,PY.out,Ke.out,by have h1:=wU.out; have h2:=Dw.out.2; simp only [List.length_append,List.length_singleton]; omega⟩
 obtain ⟨l,rest,vD,hrd,hP,hG,Ie,hll⟩:=hcut
 obtain ⟨W2,rfl⟩: ∃W:World,W=wc:=⟨_,rfl⟩
 obtain ⟨aK,aG,hv,YV,Wd⟩:=hG.says Ie
 subst hv
 have aU:=Lib.hid hP
 have HD2:=Lib.hid (And.intro YV Wd)
 have yE:=Lib.hid hll
 obtain ⟨resT,Ri⟩: ∃resT,Hid (oQ rest.length rest=resT):=⟨_,Lib.hid rfl⟩
 have vY:Hid (res=resT.map (fun th=>⟨l,th⟩)):=Lib.hid (by rw [vk.out,hrd,← Ri.out]; rfl)
 clear hP hG Ie hll YV Wd hrd NV RS oG vk
 go_upto_block 2 with fail
 go_cut [] (fun W'=> ∃(lt:List jU) (rest':aJ) (vT:Value),resT= .ok (lt.map (·.t)) rest'∧Pg R bp w W' (.slice aK l.length aG) vT rest'∧jf (bp + 1) W2 W'∧yB W2.heap.size W' vT lt∧(∀x ∈ lt,x.t.Ok∧x.t.cZ.length≤x.dW)∧lt.length≤4096)
 case first=>
  have xA:Hid (Ra R bp w W2 (.slice aK l.length aG) resT rest.length W2):=Lib.hid ⟨rest.length,[],rest,_,rfl,Nat.le_refl _,by rw [← Ri.out]; cases oQ rest.length rest <;> rfl,aU.out,jf.refl _ _,Grow.nil _ _ _ _ _ _,by simp,by have:=yE.out; simp only [List.length_nil]; omega⟩
  obtain ⟨i0,hi,hz0,hz1,hz2⟩:=VN
  have jT:=Lib.hid (And.intro hi (And.intro hz0 (And.intro hz1 hz2)))
  have J6:Hid (bp + 1≤W2.heap.size∧R.br < bp):=Lib.hid (by have:=aU.out.lt; omega)
  clear hi hz0 hz1 hz2 aU Ri HD2
  go_wp2_with fail
  go_loopg [7,8] rest.length (fun gk _ _ wr=>Ra R bp w W2 (.slice aK l.length aG) resT gk wr)
  case atStart=>exact xA.out
  case round=>
   obtain ⟨f,lt,rs,vT,rfl,hf,hres,hs,ha,hg,hok,hlt⟩:=hrel
   have HF:=Lib.hid hf
   have jc:=Lib.hid hres
   have HS:=Lib.hid hs
   have HA:=Lib.hid ha
   have HG:=Lib.hid hg
   have pJ:=Lib.hid hok
   have wU:=Lib.hid hlt
   obtain ⟨av,cv,hv⟩:=hg.len
   clear hf hres hs ha hg hok hlt xA
   subst hv
   cases hd:at' [116,104,114,101,97,100] rs
   ·have yU:Hid (resT= .ok (lt.map (·.t)) rs):=Lib.hid (jc.out.trans (by rw [MQ hd]; show bK.ok (_++[]) rs=_; rw [List.append_nil]))
    go_wp2_with fail
    refine (Er R _ _ ⟨#[116,104,114,101,97,100]⟩ rfl HS.out.rd).mono ?_
    rw [hd]
    rintro e w1 ⟨rfl,h2⟩
    have sI:=Lib.hid (HS.out.below h2)
    have uh:=Lib.hid (HG.out.next (bU h2))
    have HA1:=Lib.hid (HA.out.trans (bU h2))
    clear h2
    go_wp2_with fail
    go_meet
    exact ⟨lt,rs,_,yU.out,sI.out,HA1.out,uh.out,pJ.out,by have:=wU.out; omega⟩
   ·go_wp2_with fail
    refine (Er R _ _ ⟨#[116,104,114,101,97,100]⟩ rfl HS.out.rd).mono ?_
    rw [hd]
    rintro e w1 ⟨rfl,h2⟩
    have sI:=Lib.hid (HS.out.below h2)
    have uh:=Lib.hid (HG.out.next (bU h2))
    have HA1:=Lib.hid (HA.out.trans (bU h2))
    clear h2 HS HG HA
    have HC:=Lib.hid (KX R rs w1 sI.out.rd hd)
    obtain ⟨f',hf'⟩: ∃f',f=f' + 1:=⟨f - 1,by
     have h1:=HF.out
     have h2:=at_len hd
     omega⟩
    subst hf'
    have HN:Hid (∀r,xW rs= .no r→res= .no r):=Lib.hid (fun r h=>vY.out.trans (by rw [jc.out,OV hd h]; rfl))
    have HO:Hid (∀t r,xW rs= .ok t r→resT=(oQ f' r).map ((lt.map (·.t)++[t])++ ·)∧r.length < rs.length):=Lib.hid (fun t r h=>⟨jc.out.trans (by rw [Q0 hd h,kg]; exact BM (fun a=>by simp)),P8 h⟩)
    clear jc
    generalize xW rs=XD at *
    go_wp2_with fail
    refine HC.out.mono ?_
    cases XD with
    | no r=>
      have ou:=Lib.hid (HN.out r rfl)
      clear HN HO HC
      rintro e w2 ⟨⟨nm,line,a1,n1,c1,a2,n2,c2,rfl⟩,h2,h3⟩
      have HS2:=Lib.hid (sI.out.then h2 h3)
      clear h2 h3 sI uh
      unfold qL
      go_upto_region 9 with fail
      generalize hW:World.alloc w2 _=W3
      have iT:Hid (Pg R bp w W3 _ _ r):=Lib.hid (by rw [← hW]; exact HS2.out.below (aj _ _))
      clear hW HS2
      obtain ⟨c0,c1,fc⟩:=iT.out.cells
      obtain ⟨y0,y1,g0,g1⟩:=YC iT.out.z
      clear fc
      go_wp2_with fail
      exact bodyPost_ret (v:= .tuple #[.agg #[.slice _ _ _,.slice _ _ _],.bool false]) (by simp [results,Tryz.results27,go_sem,y0,y1]) rfl (Nc ou.out iT.out.rd iT.out.gr bW.out)
    | ok t r=>
      have Dw:=Lib.hid (HO.out t r rfl)
      clear HN HO HC
      rintro e w2 ⟨⟨x,rfl,rfl,Uq,Xl⟩,h2,h3⟩
      have HXO:=Lib.hid Uq
      have jy:Hid (W2.heap.size≤w1.heap.size):=Lib.hid HA1.out.1
      have HS2:=Lib.hid (sI.out.then h2 h3)
      have HG2:=Lib.hid (uh.out.next (oo h3 (by have:=J6.out; omega)))
      have HA2:=Lib.hid (HA1.out.trans (oo h3 (by have:=J6.out; omega)))
      have Zq:=Lib.hid uh.out.lt
      have ny:=Lib.hid Xl
      clear h2 h3 sI uh HA1 Uq Xl
      unfold jU.f
      go_upto_region 9 with fail
      obtain ⟨gd,hg⟩: ∃g,w2.heap.size=g:=⟨_,rfl⟩
      generalize hW:World.alloc w2 _=W3
      have iT:Hid (Pg R bp w W3 _ _ r):=Lib.hid (by rw [← hW]; exact HS2.out.below (aj _ _))
      have Cq:Hid (yB W2.heap.size W3 _ lt):=Lib.hid (by rw [← hW]; exact HG2.out.next (bU (aj _ _)))
      have vg:Hid (jf (bp + 1) W2 W3):=Lib.hid (by rw [← hW]; exact HA2.out.trans (bU (aj _ _)))
      have RU:Hid (eH w1.heap.size W3 (jU.I x)):=Lib.hid (by rw [← hW]; exact ny.out.next (bU (aj _ _)))
      have HB3:Hid (W3.heap[gd]? =some (.cells (jU.f x).toArray 93 (0,0))):=Lib.hid (by rw [← hW,← hg]; exact heap_alloc_new _ _)
      rw [hg]
      clear hW hg HS2 HG2 HA2 ny
      obtain ⟨e0,e1,e2,e3⟩:(W3.cell? ⟨gd,0,none⟩=some (.string x.t.nm)∧W3.cell? ⟨gd,1,none⟩=some (.int .i64 x.t.line)∧W3.cell? ⟨gd,2,none⟩=some (.slice x.fF x.t.cZ.length x.dW)∧W3.cell? ⟨gd,3,none⟩=some (.slice x.bV x.t.body.len x.bC)):=⟨aB HB3.out rfl,aB HB3.out rfl,aB HB3.out rfl,aB HB3.out rfl⟩
      obtain ⟨c0,c1,fc⟩:=iT.out.cells
      clear fc
      have sG:=Lib.hid (Cq.out.next (bU (aj W3 (.cells (jU.f x).toArray 93))))
      have jN:=Lib.hid (iQ (heap_alloc_new W3 (.cells (jU.f x).toArray 93)))
      obtain ⟨hi,hz0,hz1,hz2⟩:=jT.out
      have hbs:W2.heap.size≤W3.heap.size + 1:=by have:=vg.out.1; omega
      have hkl:lt.length + 1≤maxLen:=by have:=wU.out; unfold maxLen; omega
      have Vw:(lt.length + 1) * 72≤140737488355328:=by have:=wU.out; omega
      go_wp2_with (at_builtin; refine wpList_append_lies _ rfl _ _ 23 rfl W2.heap.size 93 i0 _ 4 72 Tryz.underlying23 hi hz0 hz1 hz2 rfl (by decide) _ _ _ rfl sG.out.own ⟨W3.heap.size,0,none⟩ 1 1 (jU.f x) rfl rfl jN.out (by simp [jU.f,Value.oneCell']) (by decide) hkl Vw (by simpa using hbs) _ rfl ?_)
      clear hi hz0 hz1 hz2
      intro g cap w9 hown hgr hmv hlt2
      have oO:Hid (∀k,(Value.slice av lt.length cv).ownBlock=some k→W2.heap.size≤k):=Lib.hid (fun k hk=>(Cq.out.lt k hk).1)
      have jA:Hid (Below W2.heap.size (W3.alloc (.cells (jU.f x).toArray 93)) w9):=Lib.hid (qy hgr oO.out (by simpa using hbs))
      have qY:Hid (Below W2.heap.size W3 w9):=Lib.hid (((aj W3 (.cells (jU.f x).toArray 93)).mono vg.out.1).trans jA.out)
      have FD:Hid (gG W2.heap.size (Value.slice av lt.length cv).ownBlock (W3.alloc (.cells (jU.f x).toArray 93)) (jU.I x)):=Lib.hid (Cw (RU.out.next (bU (aj _ _))) jy.out (fun k hk=>(Zq.out k hk).2))
      have FW:Hid (bf w9 R r):=Lib.hid (Ec (oZ iT.out.rd _) hgr (fun k hk=>by have h1:=oO.out k hk; have h2:=J6.out; have h3:=R.b0; omega))
      have Az:Hid (w.grownBy w9 (some R.br)):=Lib.hid (Ea (qK iT.out.gr _) (jA.out.mono (by have h1:=iT.out.lt; have h2:=J6.out; omega)))
      have sw:w9.heap[bp]? =some (.cells _ 25 (0,0)):=(qY.out.block _ (by have:=J6.out; omega)).trans iT.out.blk
      have za:=Lib.hid (sG.out.push (x:=x) FD.out rfl hown hgr (by simpa using hmv))
      have Dh:Hid (jf (bp + 1) W2 w9):=Lib.hid (vg.out.Xn qY.out)
      have c1:w9.cell? ⟨bp,1,none⟩=some (.slice av lt.length cv):=aB sw rfl
      have f1:w9.frozen? ⟨bp,1,none⟩=false:=bH sw
      clear hown hgr hmv hlt2 hbs hkl Vw FD jN sG jA sw e0 e1 e2 e3 c0
      go_wp2_with fail
      generalize hW:World.setCell w9 _ _=FH
      have xQ:Hid (Pg R bp w FH (.slice aK l.length aG) (.slice (some ⟨g,0,none⟩) (lt.length + 1) cap) r):=Lib.hid (by rw [← hW]; exact iT.out.put FW.out Az.out (qY.out.mono J6.out.1) 1 _ _ _ rfl)
      have PY:Hid (yB W2.heap.size FH (.slice (some ⟨g,0,none⟩) (lt.length + 1) cap) (lt++[x])):=Lib.hid (by rw [← hW]; exact za.out.next (gK w9 ⟨bp,1,none⟩ _ J6.out.1))
      have ad6:Hid (jf (bp + 1) W2 FH):=Lib.hid (by rw [← hW]; exact Dh.out.trans (gK w9 ⟨bp,1,none⟩ _ (Nat.lt_succ_self _)))
      have Ke:Hid (∀y ∈ lt++[x],y.t.Ok∧y.t.cZ.length≤y.dW):=Lib.hid (fun y hy=>by
       rcases List.mem_append.1 hy with hy | hy
       ·exact pJ.out y hy
       ·rw [List.mem_singleton.1 hy]; exact HXO.out)
      clear hW c1 f1 iT FW Az qY za oO Cq HB3 Dh vg
      go_roundg r.length
      case measure=>exact Dw.out.2
      case rel=>exact ⟨f',lt++[x],r,_,rfl,by have h1:=HF.out; have h2:=Dw.out.2; omega,by rw [List.map_append]; exact Dw.out.1,xQ.out,ad6.out,PY.out,Ke.out,by have h1:=wU.out; have h2:=Dw.out.2; simp only [List.length_append,List.length_singleton]; omega⟩
 obtain ⟨lt,r9,vT,hrt,hP,hA,hG,hok,hln⟩:=hcut
 obtain ⟨W8,rfl⟩: ∃W:World,W=wc:=⟨_,rfl⟩
 obtain ⟨aM,aH,hv,Z8,Vx⟩:=hG.says hok
 subst hv
 have mG:=Lib.hid hP
 have ou:Hid (res= .ok ⟨l,lt.map (·.t)⟩ r9):=Lib.hid (by rw [vY.out,hrt]; rfl)
 have qO:Hid ((lt.map (·.t)).length=lt.length):=Lib.hid (List.length_map _)
 have HST:Hid (l.length≤aG∧(lt.map (·.t)).length≤aH∧eH (bp + 1) W8 (fun w2=>ig w2 w2.heap.size l aK 0∧gJ w2 w2.heap.size (lt.map (·.t)) aM 0)):=Lib.hid ⟨HD2.out.1,by rw [qO.out]; exact Z8,fun w2 h2=>⟨HD2.out.2 w2 (hA.trans h2),Vx w2 (h2.mono aU.out.lt.2.2)⟩⟩
 have oU:Hid (l.length≤4096∧(lt.map (·.t)).length≤4096):=Lib.hid ⟨by have:=yE.out; omega,by rw [qO.out]; exact hln⟩
 clear hP hA hG hok hln Z8 Vx hrt HD2 vY qO yE aU Ri
 generalize lt.map (·.t)=th at *
 clear hf0 hf1
 have HT0:Hid (decide ((0:Int) < (th.length:Int))= !th.isEmpty):=Lib.hid (by cases th <;> simp)
 have YM:Hid (Below W8.heap.size W8 (W8.drewN 1)):=Lib.hid (below_drewN (Below.refl _ _) 1)
 have DK:=Lib.hid (mG.out.below YM.out)
 have KP: ∀(x:Bool) w',uU (fun w'=>w'=W8.drewN 1) (fun w'=>w'=(W8.drewN 1).setCells w.heap.size 0 [.slice aK l.length aG,.slice aM th.length aH]) [x] w'→w'.heap[bp]? =some (.cells #[.slice aK l.length aG,.slice aM th.length aH] 25 (0,0)):=fun x w' h=>by
  cases x
  ·have h:w'=_:=h
   rw [h]; exact DK.out.blk
  ·have h:w'=_:=h
   rw [h]
   exact ((cB w.heap.size _ 0 (W8.drewN 1)).block _ DK.out.lt.2.2 (by have:=DK.out.lt; simp; omega)).trans DK.out.blk
 go_upto_region 12 with fail
 refine gy (by kernel_rfl) rfl ?_
 refine fU 0 7 [5] [[],[],[1],[1,2],[1,2,3],[0],[0,1,2,3,4,5]] [[some false],[none],[none],[none],[none],[some false],[some true]] (uU (fun w'=>w'=W8.drewN 1) (fun w'=>w'=(W8.drewN 1).setCells w.heap.size 0 [.slice aK l.length aG,.slice aM th.length aH])) (fun _ _=>True) [50,51,52,53,54,3] rfl rfl (by rfl) (by kernel_rfl) (by kernel_rfl) (by kernel_rfl) (by kernel_rfl) (by kernel_rfl) (by rfl) (fun _=>trivial) (by rfl) rfl ?_
 simp only [List.take_succ_cons,List.take_zero,List.drop_zero,List.drop_succ_cons,mE,List.map_cons,List.map_nil]
 apply bg.step
 case aD=>
  intro c A w' hok hC hO hD
  obtain ⟨x,rfl⟩:=hC.bits
  have hb:=KP x w' hC
  have k0:w'.cell? ⟨bp,0,none⟩=some (.slice aK l.length aG):=aB hb rfl
  have k1:w'.cell? ⟨bp,1,none⟩=some (.slice aM th.length aH):=aB hb rfl
  have e4:=hO 4 (by rfl)
  simp [Act.eval] at e4
  simp [ay,ak,au,Act.eval,Region.binds] at hD
  simp [go_sem,gd,Oper.wp,e4,k0,k1]
  exact aA.mk trivial (uU.skip (by rfl) hC) (ak.mk _ _)
 apply bg.step
 case aD=>
  intro c A w' hok hC hO hD
  have e4:=hO 4 (by rfl)
  simp [Act.eval] at e4
  simp [ay,ak,au,Act.eval,Region.binds] at hD
  simp [go_sem,gd,Oper.wp,hD,e4]
  exact aA.mk trivial (uU.skip (by rfl) hC) (ak.mk _ _)
 apply bg.step
 case aD=>
  intro c A w' hok hC hO hD
  obtain ⟨x,rfl⟩:=hC.bits
  have hb:=KP x w' hC
  have k1:w'.cell? ⟨bp,1,none⟩=some (.slice aM th.length aH):=aB hb rfl
  simp [ay,ak,au,Act.eval,Region.binds] at hD
  simp [go_sem,gd,Oper.wp,hD,k1]
  exact aA.mk trivial (uU.skip (by rfl) hC) (ak.mk _ _)
 apply bg.step
 case aD=>
  intro c A w' hok hC hO hD
  simp [ay,ak,au,Act.eval,Region.binds] at hD
  simp [go_sem,gd,Oper.wp,hD]
  exact aA.mk trivial (uU.skip (by rfl) hC) (ak.mk _ _)
 simp only [List.nil_append,List.cons_append]
 refine bg.step (v:= .bool (!th.isEmpty)) ?_ ?_
 ·intro c A w' hok hC hO hD
  simp [ay,ak,au,Act.eval,Region.binds] at hD
  simp [go_sem,gd,Oper.wp,hD]
  exact aA.mk trivial (uU.skip (by rfl) hC) (show Value.bool _=_ by rw [← HT0.out]; simp)
 refine bg.some (fun _ _=>True) (fun _ _ _ _ _=>trivial) ?_ ?_
 ·intro c A w' hok hC hO hD
  obtain ⟨x,rfl⟩:=hC.bits
  obtain ⟨rfl,-⟩:=hok
  have hC:w'=_:=hC
  have e2:=hO 2 (by rfl)
  simp [Act.eval] at e2
  simp [ay,ak,au,Act.eval,Region.binds] at hD
  simp only [gd,if_true]
  refine wp_store_mid _ _ _ (by rfl) w.heap.size 0 #[.slice aK l.length aG,.slice aM th.length aH] (by simp [Act.eval,e2]) (by simp [Act.eval,hD]) (by rw [hC]; exact Bf DK.out.z (Nat.le_refl 2)) Tn (by simp [Value.oneCell']) ?_
  exact aA.Gh trivial (uU.fire (by rfl) (by rw [hC])) trivial
 apply bg.step
 case aD=>
  intro c A w' hok hC hO hD
  simp [ay,ak,au,Act.eval,Region.binds] at hD
  simp [go_sem,gd,Oper.wp,hD]
  exact aA.mk trivial (uU.skip (by rfl) hC) (ak.mk _ _)
 try simp only [List.nil_append,List.cons_append]
 refine bg.done ?_
 intro w9 G5
 try simp only [List.drop_succ_cons,List.drop_zero]
 intro x0 h0 x1 h1 x2 h2 x3 h3 x4 h4 x5 h5 x6 h6
 have h6':=Eq.symm (show x6=_ from h6)
 subst h6'
 clear h0 h1 h2 h3 h4 h5 h6 KP
 refine qx ?_
 refine iG rfl ?_
 have Nt:Hid (w9=(W8.drewN 1).setCells w.heap.size 0 [.slice aK l.length aG,.slice aM th.length aH]):=Lib.hid G5
 have jA:Hid (w9.heap[w.heap.size]? =some (.cells #[.slice aK l.length aG,.slice aM th.length aH] 25 (0,0))):=Lib.hid (by rw [Nt.out]; exact jR DK.out.z rfl)
 clear G5
 have y0:w9.cell? ⟨w.heap.size,0,none⟩=some (.slice aK l.length aG):=aB jA.out rfl
 have y1:w9.cell? ⟨w.heap.size,1,none⟩=some (.slice aM th.length aH):=aB jA.out rfl
 go_simp
 go_wp2_with fail
 exact bodyPost_ret (v:= .tuple #[.agg #[.slice aK l.length aG,.slice aM th.length aH],.bool (!th.isEmpty)]) (by simp [results,Tryz.results27,go_sem,y0,y1]) rfl (by
  rw [Nt.out]
  exact WV ou.out ⟨oU.out.1,oU.out.2,HST.out.1,HST.out.2.1⟩ (HST.out.2.2.next (bU YM.out)) (by have:=DK.out.lt; omega) DK.out.rd DK.out.gr bW.out)
end Go.Proofs.YtdajkddgnfgijaaGreatDoor
end
