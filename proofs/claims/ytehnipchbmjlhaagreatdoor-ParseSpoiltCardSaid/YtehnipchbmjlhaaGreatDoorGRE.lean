/-
  Contract of the reader's thread.
  Contract of the reader's program.
  Contracts of parse.Parse and parse.Expr.
-/
import Derived.Test.YtehnipchbmjlhaaGreatDoorGRD
import Derived.Test.YtehnipchbmjlhaaGreatDoorGTC
set_option linter.unusedSimpArgs false
set_option linter.unusedVariables false
set_option maxHeartbeats 40000000
set_option maxRecDepth 1000000
section
namespace Go.Proofs.YtehnipchbmjlhaaGreatDoor
open Go.RowKit
open Md Pz
theorem Vt:(Tryz.prog.info? 9).map (fun i=>(i.zero,i.size,i.bytes))=some (some (.string ⟨#[]⟩),1,16):=by kernel_rfl
theorem IB: ∃i0,Tryz.prog.info? 9=some i0∧i0.zero=some (.string ⟨#[]⟩)∧i0.size=1∧i0.bytes=16:=info_parts Vt
theorem ao5 (k:Int) (s:ByteArray) (n:Int) (w:World):(Instr.field 112 (.agg #[.int .i64 k,.string s,.int .i64 n]) 0).run Tryz.prog w= .ok (.int .i64 k) w:=by kernel_rfl
theorem aq5 (k:Int) (s:ByteArray) (n:Int) (w:World):(Instr.field 112 (.agg #[.int .i64 k,.string s,.int .i64 n]) 1).run Tryz.prog w= .ok (.string s) w:=by kernel_rfl
theorem am4 (k:Int) (s:ByteArray) (n:Int) (w:World):(Instr.field 112 (.agg #[.int .i64 k,.string s,.int .i64 n]) 2).run Tryz.prog w= .ok (.int .i64 n) w:=by kernel_rfl
def qo (nm:ByteArray) (line:Int) (v b:Value):Value:= .agg #[.string nm,.int .i64 line,v,b]
def SH (R:Rp) (w:World) (res:bg Th) (e:Ending) (w':World):Prop:=
 match res with
 | .ok t r=>(∃x:eU,x.t=t∧e= .returned (.tuple #[.agg (eU.f x).toArray,.bool true])∧(x.t.Ok∧x.t.bZ.length≤x.dn)∧bJ w.heap.size w' (eU.I x))∧aY w' R r∧w.grownBy w' (some R.br)
 | .no r=>(∃nm line a n c a' n' c',e= .returned (.tuple #[qo nm line (.slice a n c) (.slice a' n' c'),.bool false]))∧aY w' R r∧w.grownBy w' (some R.br)
def AY:Array Value:= #[.string ⟨#[]⟩,.int .i64 0,.slice none 0 0,.slice none 0 0]
theorem Eh {w:World} {b:Nat} {t:TypeId} (h:w.heap[b]? =some (.cells AY t (0,0))):
 (w.cell? ⟨b,0,none⟩=some (.string ⟨#[]⟩)∧w.cell? ⟨b,1,none⟩=some (.int .i64 0)∧w.cell? ⟨b,2,none⟩=some (.slice none 0 0)∧w.cell? ⟨b,3,none⟩=some (.slice none 0 0))∧ ∀j,w.frozen? ⟨b,j,none⟩=false:=
 ⟨⟨aj h rfl,aj h rfl,aj h rfl,aj h rfl⟩,fun _=>aF h⟩
structure Ps (R:Rp) (bt B:Nat) (w W:World) (nm:ByteArray) (line:Int) (v:Value) (l:List ByteArray) (rest:ak):Prop where
 rd:aY W R rest
 gr:w.grownBy W (some R.br)
 lt:R.br < w.heap.size∧w.heap.size < bt∧bt < B∧B≤W.heap.size
 z:W.heap[w.heap.size]? =some (.cells AY 67 (0,0))
 blk:W.heap[bt]? =some (.cells #[.string nm,.int .i64 line,v,.slice none 0 0] 67 (0,0))
 row:qc B W v l
section
variable {R:Rp} {bt B:Nat} {w W W':World} {nm:ByteArray} {line:Int} {v:Value} {l:List ByteArray} {rest rest':ak}
theorem Ps.then (h:Ps R bt B w W nm line v l rest) (h1:aY W' R rest') (h2:W.grownBy W' (some R.br)):Ps R bt B w W' nm line v l rest':=
 ⟨h1,bD h.gr h2,⟨h.lt.1,h.lt.2.1,h.lt.2.2.1,Nat.le_trans h.lt.2.2.2 h2.size⟩,(h2.block _ (Array.getElem?_eq_some_iff.1 h.z).1 (by have:=h.lt; simp; omega)).trans h.z,(h2.block _ (Array.getElem?_eq_some_iff.1 h.blk).1 (by have:=h.lt; simp; omega)).trans h.blk,h.row.next (fU h2 (by have:=h.lt; omega))⟩
theorem Ps.below (h:Ps R bt B w W nm line v l rest) (hb:Below W.heap.size W W'):Ps R bt B w W' nm line v l rest:=h.then (h.rd.below hb) (aH hb)
theorem Ps.cells (h:Ps R bt B w W nm line v l rest):W.cell? ⟨bt,0,none⟩=some (.string nm)∧W.cell? ⟨bt,1,none⟩=some (.int .i64 line)∧W.cell? ⟨bt,2,none⟩=some v∧W.cell? ⟨bt,3,none⟩=some (.slice none 0 0)∧ ∀j,W.frozen? ⟨bt,j,none⟩=false:=
 ⟨aj h.blk rfl,aj h.blk rfl,aj h.blk rfl,aj h.blk rfl,fun _=>aF h.blk⟩
theorem Ps.name (h:Ps R bt B w W nm line v l rest) (s:ByteArray):Ps R bt B w (W.setCell ⟨bt,0,none⟩ (.string s)) s line v l rest:=
 ⟨nR h.rd _ _ (by have:=h.lt; have:=R.b0; show R.B0≤bt; omega) (by have:=h.lt; show bt≠R.br; omega),jC h.gr _ _ (by have:=h.lt; show _≤bt; omega),by have:=h.lt; simpa [World.setCell] using this,(aN W _ _ rfl (by have:=h.lt; show bt≠_; omega)).trans h.z,by rw [aW h.blk]; rfl,h.row.next (bH W ⟨bt,0,none⟩ _ h.lt.2.2.1)⟩
theorem Ps.bZ {v':Value} {l':List ByteArray} (h:Ps R bt B w W nm line v l rest) (hr:aY W' R rest) (hg:w.grownBy W' (some R.br)) (hB:Below B W W') (hrow:qc B W' v' l'):Ps R bt B w (W'.setCell ⟨bt,2,none⟩ v') nm line v' l' rest:=
 ⟨nR hr _ _ (by have:=h.lt; have:=R.b0; show R.B0≤bt; omega) (by have:=h.lt; show bt≠R.br; omega),jC hg _ _ (by have:=h.lt; show _≤bt; omega),by have h1:=h.lt; have h2:=hB.size; simp [World.setCell]; omega,(aN W' _ _ rfl (by have:=h.lt; show bt≠_; omega)).trans ((hB.block _ (by have:=h.lt; omega)).trans h.z),by rw [aW ((hB.block _ h.lt.2.2.1).trans h.blk)]; rfl,hrow.next (bH W' ⟨bt,2,none⟩ _ h.lt.2.2.1)⟩
theorem Ps.qK (h:Ps R bt B w W nm line v l rest) (b:Value): ∀W',W.setCell ⟨bt,3,none⟩ b=W'→aY W' R rest∧w.grownBy W' (some R.br)∧W'.heap[w.heap.size]? =some (.cells AY 67 (0,0))∧W'.heap[bt]? =some (.cells #[.string nm,.int .i64 line,v,b] 67 (0,0)):=by
 intro W' hW
 subst hW
 exact ⟨nR h.rd _ _ (by have:=h.lt; have:=R.b0; show R.B0≤bt; omega) (by have:=h.lt; show bt≠R.br; omega),jC h.gr _ _ (by have:=h.lt; show _≤bt; omega),(aN W _ _ rfl (by have:=h.lt; show bt≠_; omega)).trans h.z,by rw [aW h.blk]; rfl⟩
theorem Ps.Ls (h:Ps R bt B w W nm line v l rest):Ps R bt B w (W.setCell ⟨bt,3,none⟩ (.slice none 0 0)) nm line v l rest:=
 ⟨(h.qK _ _ rfl).1,(h.qK _ _ rfl).2.1,by have:=h.lt; simpa [World.setCell] using this,(h.qK _ _ rfl).2.2.1,(h.qK _ _ rfl).2.2.2,h.row.next (bH W ⟨bt,3,none⟩ _ h.lt.2.2.1)⟩
end
theorem yQ {R:Rp} {w W:World} {nm:ByteArray} {line:Int} {a a':Option Addr} {n c n' c':Nat} {r:ak} {res:bg Th} (e:res= .no r) (hr:aY W R r) (hg:w.grownBy W (some R.br)) (hl:R.br < w.heap.size):
 SH R w res (.returned (.tuple #[qo nm line (.slice a n c) (.slice a' n' c'),.bool false])) (W.setCells w.heap.size 0 [.string nm,.int .i64 line,.slice a n c,.slice a' n' c']):=by
 subst e
 exact ⟨⟨nm,line,a,n,c,a',n',c',rfl⟩,nI hr (aP _ _ _ _) (by have:=R.b0; omega) (by omega),kH hg _ _ _ (Nat.le_refl _)⟩
theorem PY {R:Rp} {w W:World} {x:eU} {r:ak} {res:bg Th} {B:Nat} (e:res= .ok x.t r) (hok:x.t.Ok∧x.t.bZ.length≤x.dn) (hst:bJ B W (eU.I x)) (hB:w.heap.size < B) (hr:aY W R r) (hg:w.grownBy W (some R.br)) (hl:R.br < w.heap.size):
 SH R w res (.returned (.tuple #[.agg (eU.f x).toArray,.bool true])) (W.setCells w.heap.size 0 (eU.f x)):=by
 subst e
 exact ⟨⟨x,rfl,rfl,hok,(hst.next ⟨(aP w.heap.size _ 0 W).size,fun k h1 h2=>(aP w.heap.size _ 0 W).block k h2 (by simp; omega)⟩).mono (Nat.le_of_lt hB)⟩,nI hr (aP _ _ _ _) (by have:=R.b0; omega) (by omega),kH hg _ _ _ (Nat.le_refl _)⟩
def Fh (r:ak):bg (List ByteArray):=if at' [41] r then .ok [] r.tail else (jq (r.length + 1) r).close [41]
def nJ (nm:ByteArray) (line:Int) (l:List ByteArray) (r:ak):bg Th:=(blk (3 * r.length + 3) r).map fun b=>⟨nm,line,l,b⟩
theorem Va (ts:ak):uG ts=(eO ts.tail).bind fun s r=>(need [40] r).bind fun _ r=>(Fh r).bind fun l r=>nJ s (aK ts) l r:=rfl
theorem R6 {f:Nat} {ts:ak} (h:isName ts=false):jq (f + 1) ts= .no ts:=by unfold jq; rw [nL h]; rfl
theorem NK {f:Nat} {ts:ak} (h:isName ts=true) (h1:at' [44] ts.tail=true):jq (f + 1) ts=(jq f ts.tail.tail).map (tx (ay ts) :: ·):=by
 conv=>lhs; unfold jq
 rw [lK h]; show ite _ _ _=_; rw [if_pos h1]
theorem ME {f:Nat} {ts:ak} (h:isName ts=true) (h1:at' [44] ts.tail=false):jq (f + 1) ts= .ok [tx (ay ts)] ts.tail:=by
 conv=>lhs; unfold jq
 rw [lK h]; show ite _ _ _=_; rw [if_neg (by rw [h1]; decide)]
def Uo (R:Rp) (bt:Nat) (w:World) (nm:ByteArray) (line:Int) (Bf:bg (List ByteArray)) (g:Nat) (wr:World):Prop:=
 ∃f l rest v,g=rest.length∧rest.length < f∧Bf=(jq f rest).map (l++ ·)∧Ps R bt (bt + 1) w wr nm line v l rest∧l.length + rest.length≤4096∧ ∀s ∈ l,s.size≤maxLen
theorem NW (R:Rp) (ts:ak) (w:World) (hI:aY w R ts) (hk:at' [116,104,114,101,97,100] ts=true):
 Calls Tryz.prog 69 #[.pointer (some ⟨R.br,0,none⟩)] w (SH R w (uG ts)):=by
 have HI:=Lib.hid hI
 have HL:=Lib.hid (kX hI)
 have hlt:=hI.lt
 obtain ⟨t0,r0,hr⟩:=yM hk
 have nu:=Lib.hid hr
 rw [Va]
 obtain ⟨res,fG⟩: ∃res,Hid (((eO ts.tail).bind fun s r=>(need [40] r).bind fun _ r=>(Fh r).bind fun l r=>nJ s (aK ts) l r)=res):=⟨_,Lib.hid rfl⟩
 rw [fG.out]
 clear hk hr
 have hf2:=am4
 go_enter Tryz.func69,Tryz.ntmps69
 go_upto_region 1 with fail
 generalize hW:World.alloc w _=W0
 have HB0:Hid (Below w.heap.size w W0):=Lib.hid (by rw [← hW]; exact ah _ _)
 have HZ0:Hid (W0.heap[w.heap.size]? =some (.cells AY 67 (0,0))):=Lib.hid (by rw [← hW]; exact heap_alloc_new _ _)
 have HN:=Lib.hid (ig R ts W0 (HI.out.below HB0.out))
 unfold lH at HN
 clear hW hI
 go_wp2_with fail
 refine HN.out.mono ?_
 rintro e w1 ⟨rfl,h2⟩
 have HB1:=Lib.hid (HB0.out.trans (h2.mono HB0.out.size))
 have HZ1:=Lib.hid ((h2.block _ (Array.getElem?_eq_some_iff.1 HZ0.out).1).trans HZ0.out)
 clear h2 HN HB0 HZ0
 go_upto_region 2 with fail
 obtain ⟨bt,hg⟩: ∃g,w1.heap.size=g:=⟨_,rfl⟩
 rw [hg]
 generalize hW:World.alloc w1 _=W2
 have HB2:Hid (Below w.heap.size w W2):=Lib.hid (by rw [← hW]; exact HB1.out.alloc HB1.out.size _)
 have aX:Hid (R.br < w.heap.size∧w.heap.size < bt):=Lib.hid ⟨hlt,by rw [← hg]; exact (Array.getElem?_eq_some_iff.1 HZ1.out).1⟩
 have HS2:Hid (Ps R bt (bt + 1) w W2 ⟨#[]⟩ ((aK ts:Nat):Int) (.slice none 0 0) [] ts):=Lib.hid ⟨HI.out.below HB2.out,aH HB2.out,⟨hlt,aX.out.2,Nat.lt_succ_self _,by rw [← hW]; simp; omega⟩,by rw [← hW]; exact (heap_alloc_old _ _ (Array.getElem?_eq_some_iff.1 HZ1.out).1).trans HZ1.out,by rw [← hW,← hg]; exact heap_alloc_new _ _,Grow.nil _ _ _ _ _ _⟩
 obtain ⟨pos,hp,q0,q1,fq,HX⟩:=HS2.out.rd.open
 clear hW hg HB1 HZ1 HB2
 go_upto_region 3 with fail
 generalize hW:World.setCell W2 _ _=W3
 have HQ:Hid (aY W3 R ts.tail∧W2.grownBy W3 (some R.br)):=Lib.hid (by rw [← hW,nu.out]; exact HX.out t0 r0 nu.out)
 have jN:=Lib.hid (HS2.out.then HQ.out.1 HQ.out.2)
 clear hW q0 q1 fq HX HQ HS2
 cases hn:isName ts.tail
 ·have HE:Hid (res= .no ts.tail):=Lib.hid (fG.out.symm.trans (by rw [nL hn]; rfl))
  go_wp2_with fail
  refine (kZ R _ _ hn jN.out.rd).mono ?_
  rintro e w4 ⟨rfl,h2⟩
  have JN:=Lib.hid (jN.out.below h2)
  clear h2 jN
  obtain ⟨c0,c1,c2,c3,fc⟩:=JN.out.cells
  have XC:=fc 0
  go_upto_region 5 with fail
  generalize hW:World.setCell w4 _ _=W5
  have AX:Hid (Ps R bt (bt + 1) w W5 ⟨#[]⟩ ((aK ts:Nat):Int) (.slice none 0 0) [] ts.tail):=Lib.hid (by rw [← hW]; exact JN.out.name _)
  clear hW c0 c1 c2 c3 fc XC JN
  obtain ⟨c0,c1,c2,c3,fc⟩:=AX.out.cells
  obtain ⟨⟨y0,y1,y2,y3⟩,fz⟩:=Eh AX.out.z
  have g0:=fz 0
  have g1:=fz 1
  have g2:=fz 2
  have g3:=fz 3
  clear fc fz
  go_wp2_with fail
  exact bodyPost_ret (v:= .tuple #[qo _ _ _ _,.bool false]) (by simp [results,Tryz.results69,go_sem,qo,y0,y1,y2,y3]) rfl (yQ HE.out AX.out.rd AX.out.gr aX.out.1)
 ·have eH:Hid ((tx (ay ts.tail)).size≤maxLen):=Lib.hid (mD (mq jN.out.rd.ts hn))
  have Ct:Hid (res=(need [40] ts.tail.tail).bind fun _ r=>(Fh r).bind fun l r=>nJ (tx (ay ts.tail)) (aK ts) l r):=Lib.hid (fG.out.symm.trans (by rw [lK hn]; rfl))
  go_wp2_with fail
  refine (jG R _ _ hn jN.out.rd).mono ?_
  rintro e w4 ⟨rfl,h2,h3⟩
  have JN:=Lib.hid (jN.out.then h2 h3)
  clear h2 h3 jN
  obtain ⟨c0,c1,c2,c3,fc⟩:=JN.out.cells
  have XC:=fc 0
  go_upto_region 5 with fail
  generalize hW:World.setCell w4 _ _=W5
  have AX:Hid (Ps R bt (bt + 1) w W5 (tx (ay ts.tail)) ((aK ts:Nat):Int) (.slice none 0 0) [] ts.tail.tail):=Lib.hid (by rw [← hW]; exact JN.out.name _)
  clear hW c0 c1 c2 c3 fc XC JN
  cases h4:at' [40] ts.tail.tail
  ·have HE:=Lib.hid (Ct.out.trans (by rw [zQ h4]:_=bg.bind (bg.no ts.tail.tail) _))
   go_wp2_with fail
   refine (dJ R _ _ ⟨#[40]⟩ rfl h4 AX.out.rd).mono ?_
   rintro e w6 ⟨rfl,h2⟩
   have eB:=Lib.hid (AX.out.below h2)
   clear h2 AX
   obtain ⟨c0,c1,c2,c3,fc⟩:=eB.out.cells
   obtain ⟨⟨y0,y1,y2,y3⟩,fz⟩:=Eh eB.out.z
   have g0:=fz 0
   have g1:=fz 1
   have g2:=fz 2
   have g3:=fz 3
   clear fc fz
   go_wp2_with fail
   exact bodyPost_ret (v:= .tuple #[qo _ _ _ _,.bool false]) (by simp [results,Tryz.results69,go_sem,qo,y0,y1,y2,y3]) rfl (yQ HE.out eB.out.rd eB.out.gr aX.out.1)
  ·have qI:Hid (res=(Fh ts.tail.tail.tail).bind fun l r=>nJ (tx (ay ts.tail)) (aK ts) l r):=Lib.hid (Ct.out.trans (by rw [zF h4]; rfl))
   clear Ct
   go_wp2_with fail
   refine (bQ R _ _ ⟨#[40]⟩ rfl h4 AX.out.rd).mono ?_
   rintro e w6 ⟨rfl,h2,h3⟩
   have eB:=Lib.hid (AX.out.then h2 h3)
   clear h2 h3 AX
   obtain ⟨r6,HR6⟩: ∃r6,Hid (ts.tail.tail.tail=r6):=⟨_,Lib.hid rfl⟩
   rw [HR6.out] at eB qI
   cases h5:at' [41] r6
   ·have HE2:Hid (res=((jq (r6.length + 1) r6).close [41]).bind fun l r=>nJ (tx (ay ts.tail)) (aK ts) l r):=Lib.hid (qI.out.trans (by unfold Fh; rw [if_neg (by rw [h5]; decide)]))
    obtain ⟨Bf,YA⟩: ∃Bf,Hid (jq (r6.length + 1) r6=Bf):=⟨_,Lib.hid rfl⟩
    rw [YA.out] at HE2
    obtain ⟨i0,hi,hz0,hz1,hz2⟩:=IB
    have jV:=Lib.hid (And.intro hi (And.intro hz0 (And.intro hz1 hz2)))
    clear hi hz0 hz1 hz2
    go_wp2_with fail
    refine (dJ R _ _ ⟨#[41]⟩ rfl h5 eB.out.rd).mono ?_
    rintro e w7 ⟨rfl,h2⟩
    have lU:Hid (Uo R bt w (tx (ay ts.tail)) ((aK ts:Nat):Int) Bf r6.length w7):=Lib.hid ⟨r6.length + 1,[],r6,_,rfl,Nat.lt_succ_self _,by rw [← YA.out]; cases jq (r6.length + 1) r6 <;> rfl,eB.out.below h2,by have:=eB.out.rd.len; simp; omega,by simp⟩
    clear h2 eB YA
    go_wp2_with fail
    go_loopg [6] r6.length (fun gk _ wr=>Uo R bt w (tx (ay ts.tail)) ((aK ts:Nat):Int) Bf gk wr)
    case atStart=>exact lU.out
    case round=>
     obtain ⟨f,l,rest,v,rfl,hf,hres,hs,hll,hsz⟩:=hrel
     obtain ⟨f,rfl⟩: ∃n,f=n + 1:=⟨f - 1,by omega⟩
     have HF:=Lib.hid hf
     have pU:=Lib.hid hres
     have HS:=Lib.hid hs
     have qR:=Lib.hid hll
     have iD:=Lib.hid hsz
     obtain ⟨av,cv,hv⟩:=hs.row.len
     clear hf hres hs hll hsz lU
     subst hv
     cases hm:isName rest
     ·have nT:Hid (res= .no rest):=Lib.hid (HE2.out.trans (by rw [pU.out,R6 hm]; rfl))
      go_wp2_with fail
      refine (kZ R _ _ hm HS.out.rd).mono ?_
      rintro e w8 ⟨rfl,h2⟩
      have gV:=Lib.hid (HS.out.below h2)
      clear h2 HS
      obtain ⟨c0,c1,c2,c3,fc⟩:=gV.out.cells
      obtain ⟨⟨y0,y1,y2,y3⟩,fz⟩:=Eh gV.out.z
      have g0:=fz 0
      have g1:=fz 1
      have g2:=fz 2
      have g3:=fz 3
      clear fc fz
      go_wp2_with fail
      exact bodyPost_ret (v:= .tuple #[qo _ _ _ _,.bool false]) (by simp [results,Tryz.results69,go_sem,qo,y0,y1,y2,y3]) rfl (yQ nT.out gV.out.rd gV.out.gr aX.out.1)
     ·have AU:Hid ((tx (ay rest)).size≤maxLen):=Lib.hid (mD (mq HS.out.rd.ts hm))
      have uN:=Lib.hid (sU hm)
      go_wp2_with fail
      refine (jG R _ _ hm HS.out.rd).mono ?_
      rintro e w8 ⟨rfl,h2,h3⟩
      have gV:=Lib.hid (HS.out.then h2 h3)
      clear h2 h3 HS
      obtain ⟨c0,c1,c2,c3,fc⟩:=gV.out.cells
      go_upto_region 11 with fail
      obtain ⟨s0,LB⟩: ∃s0,Hid (tx (ay rest)=s0):=⟨_,Lib.hid rfl⟩
      rw [LB.out] at AU ⊢
      have nC:=Lib.hid (gV.out.row.next (aL (ah w8 (.cells (oG s0).toArray 9))))
      have qC:=Lib.hid (mJ (heap_alloc_new w8 (.cells (oG s0).toArray 9)))
      obtain ⟨hi,hz0,hz1,hz2⟩:=jV.out
      have hbs:bt + 1≤w8.heap.size + 1:=Nat.le_succ_of_le gV.out.lt.2.2.2
      have hkl:l.length + 1≤maxLen:=by have:=qR.out; unfold maxLen; omega
      have WG:(l.length + 1) * 16≤140737488355328:=by have:=qR.out; omega
      have fc2:=fc 2
      clear fc
      go_wp2_with (at_builtin; refine wpList_append_lies _ rfl _ _ 64 rfl (bt + 1) 9 i0 _ 1 16 Tryz.underlying64 hi hz0 hz1 hz2 rfl (by decide) _ _ _ rfl nC.out.own ⟨w8.heap.size,0,none⟩ 1 1 (oG s0) rfl rfl qC.out (by simp [oG,Value.oneCell']) (by decide) hkl WG (by simpa using hbs) _ rfl ?_)
      clear hi hz0 hz1 hz2
      intro g cap w9 hown hgr hmv hlt2
      have jO:Hid (∀k,(Value.slice av l.length cv).ownBlock=some k→bt + 1≤k):=Lib.hid (fun k hk=>(gV.out.row.lt k hk).1)
      have iK:Hid (Below (bt + 1) (w8.alloc (.cells (oG s0).toArray 9)) w9):=Lib.hid (iW hgr jO.out (by simpa using hbs))
      have pW:Hid (Below (bt + 1) w8 w9):=Lib.hid (((ah w8 (.cells (oG s0).toArray 9)).mono gV.out.lt.2.2.2).trans iK.out)
      have GD:Hid (dS (bt + 1) (Value.slice av l.length cv).ownBlock (w8.alloc (.cells (oG s0).toArray 9)) (fun _=>True)):=Lib.hid (fun _ _=>trivial)
      have Gj:=Lib.hid (nC.out.push (x:=s0) GD.out rfl hown hgr (by simpa using hmv))
      have GH:Hid (aY w9 R rest.tail):=Lib.hid (EH (oP gV.out.rd _) hgr (fun k hk=>by have h1:=jO.out k hk; have h2:=aX.out; have h3:=R.b0; omega))
      have Bd:Hid (w.grownBy w9 (some R.br)):=Lib.hid (vM (dP gV.out.gr _) (iK.out.mono (by have:=aX.out; omega)))
      have qY:w9.heap[bt]? =some (.cells #[.string (tx (ay ts.tail)),.int .i64 ((aK ts:Nat):Int),.slice av l.length cv,.slice none 0 0] 67 (0,0)):=(pW.out.block _ (Nat.lt_succ_self _)).trans gV.out.blk
      have c2:w9.cell? ⟨bt,2,none⟩=some (.slice av l.length cv):=aj qY rfl
      have f2:w9.frozen? ⟨bt,2,none⟩=false:=aF qY
      clear hown hgr hmv hlt2 hbs hkl WG GD qC nC iK qY fc2
      go_upto_region 12 with fail
      generalize hW:World.setCell w9 _ _=Gx
      have yD:Hid (Ps R bt (bt + 1) w Gx (tx (ay ts.tail)) ((aK ts:Nat):Int) (.slice (some ⟨g,0,none⟩) (l.length + 1) cap) (l++[s0]) rest.tail):=Lib.hid (by rw [← hW]; exact gV.out.bZ GH.out Bd.out pW.out Gj.out)
      have Cn:Hid (∀s ∈ l++[s0],s.size≤maxLen):=Lib.hid (fun y hy=>by
       rcases List.mem_append.1 hy with hy | hy
       ·exact iD.out y hy
       ·rw [List.mem_singleton.1 hy]; exact AU.out)
      clear hW c2 f2 gV GH Bd pW Gj jO
      cases h6:at' [44] rest.tail
      ·have CF:Hid (Bf= .ok (l++[s0]) rest.tail):=Lib.hid (pU.out.trans (by rw [ME hm h6,LB.out]; rfl))
       go_wp2_with fail
       refine (dJ R _ _ ⟨#[44]⟩ rfl h6 yD.out.rd).mono ?_
       rintro e w11 ⟨rfl,h2⟩
       have BQ:=Lib.hid (yD.out.below h2)
       clear h2 yD
       cases h7:at' [41] rest.tail
       ·have nT:Hid (res= .no rest.tail):=Lib.hid (HE2.out.trans (by rw [CF.out,nK h7]; rfl))
        go_wp2_with fail
        refine (dJ R _ _ ⟨#[41]⟩ rfl h7 BQ.out.rd).mono ?_
        rintro e w12 ⟨rfl,h2⟩
        have Bj:=Lib.hid (BQ.out.below h2)
        clear h2 BQ
        obtain ⟨c0,c1,c2,c3,fc⟩:=Bj.out.cells
        obtain ⟨⟨y0,y1,y2,y3⟩,fz⟩:=Eh Bj.out.z
        have g0:=fz 0
        have g1:=fz 1
        have g2:=fz 2
        have g3:=fz 3
        clear fc fz
        go_wp2_with fail
        exact bodyPost_ret (v:= .tuple #[qo _ _ _ _,.bool false]) (by simp [results,Tryz.results69,go_sem,qo,y0,y1,y2,y3]) rfl (yQ nT.out Bj.out.rd Bj.out.gr aX.out.1)
       ·have nT:Hid (res=nJ (tx (ay ts.tail)) ((aK ts:Nat):Int) (l++[s0]) rest.tail.tail):=Lib.hid (HE2.out.trans (by rw [CF.out,nO h7]; rfl))
        have lS:Hid ((l++[s0]).length≤maxLen):=Lib.hid (by have:=qR.out; simp [maxLen]; omega)
        have eP:Hid (l.length + 1=(l++[s0]).length):=Lib.hid (by simp)
        go_wp2_with fail
        refine (bQ R _ _ ⟨#[41]⟩ rfl h7 BQ.out.rd).mono ?_
        rintro e w12 ⟨rfl,h2,h3⟩
        have Bj:=Lib.hid (BQ.out.then h2 h3)
        clear h2 h3 BQ
        obtain ⟨l',Yx⟩: ∃l',Hid ((l++[s0])=l'):=⟨_,Lib.hid rfl⟩
        have gL:Hid (∀s ∈ (l++[s0]),s.size≤maxLen):=Lib.hid Cn.out
        have qL:=Lib.hid nT.out
        obtain ⟨v',PG⟩: ∃v',Hid (qc (bt + 1) _ v' (l++[s0])∧Ps R bt (bt + 1) w _ (tx (ay ts.tail)) ((aK ts:Nat):Int) v' (l++[s0]) rest.tail.tail):=⟨_,Lib.hid ⟨Bj.out.row,Bj.out⟩⟩
        clear Bj
        have tF:=Lib.hid PG.out.2
        clear PG
        rw [Yx.out] at gL qL tF lS
        have qB:Hid (∀W,aY W R rest.tail.tail→Calls Tryz.prog 111 #[.pointer (some ⟨R.br,0,none⟩)] W (Fu R W (blk (3 * (rest.tail.tail).length + 3) rest.tail.tail))):=Lib.hid (fun W h=>Gp R _ _ (by omega) W h)
        have DU:Hid (∀q,blk (3 * (rest.tail.tail).length + 3) rest.tail.tail= .no q→nJ (tx (ay ts.tail)) ((aK ts:Nat):Int) l' rest.tail.tail= .no q):=Lib.hid (fun q h=>by unfold nJ; rw [h]; rfl)
        have Jk:Hid (∀b q,blk (3 * (rest.tail.tail).length + 3) rest.tail.tail= .ok b q→nJ (tx (ay ts.tail)) ((aK ts:Nat):Int) l' rest.tail.tail= .ok ⟨tx (ay ts.tail),((aK ts:Nat):Int),l',b⟩ q):=Lib.hid (fun b q h=>by unfold nJ; rw [h]; rfl)
        generalize blk (3 * (rest.tail.tail).length + 3) rest.tail.tail=oN at *
        go_wp2_with fail
        refine (qB.out _ tF.out.rd).mono ?_
        cases oN with
        | no q=>
          rintro e w8 ⟨rfl,h2,h3⟩
          have nT:=Lib.hid (qL.out.trans (DU.out q rfl))
          obtain ⟨av,cv,hv⟩:=tF.out.row.len
          subst hv
          have gV:=Lib.hid (tF.out.then h2 h3)
          clear h2 h3 DU Jk qB
          obtain ⟨c0,c1,c2,c3,fc⟩:=gV.out.cells
          have Ed:=fc 3
          go_upto_region 16 with fail
          generalize hW:World.setCell w8 _ _=W9
          have wV:Hid (Ps R bt (bt + 1) w W9 _ _ _ _ q):=Lib.hid (by rw [← hW]; exact gV.out.Ls)
          clear hW c0 c1 c2 c3 fc Ed gV
          obtain ⟨c0,c1,c2,c3,fc⟩:=wV.out.cells
          obtain ⟨⟨y0,y1,y2,y3⟩,fz⟩:=Eh wV.out.z
          have g0:=fz 0
          have g1:=fz 1
          have g2:=fz 2
          have g3:=fz 3
          clear fc fz
          go_wp2_with fail
          exact bodyPost_ret (v:= .tuple #[qo _ _ _ _,.bool false]) (by simp [results,Tryz.results69,go_sem,qo,y0,y1,y2,y3]) rfl (yQ nT.out wV.out.rd wV.out.gr aX.out.1)
        | ok b q=>
          rintro e w8 ⟨⟨ao,cap,rfl,hl,hst⟩,h2,h3⟩
          have nT:=Lib.hid (qL.out.trans (Jk.out b q rfl))
          have gV:=Lib.hid (tF.out.then h2 h3)
          have pW:Hid (b.len≤maxLen∧bJ (bt + 1) w8 (fun w2=>b.At w2 w2.heap.size ao 0)):=Lib.hid ⟨Nat.le_trans hl (by unfold maxLen; decide),hst.mono tF.out.lt.2.2.2⟩
          clear h2 h3 hl hst DU Jk qB
          obtain ⟨fP,dn,hv,hcl,htx⟩:=gV.out.row.says gL.out
          have HV:=Lib.hid hv
          have vE:=Lib.hid (And.intro hcl htx)
          clear hv hcl htx
          obtain ⟨c0,c1,c2,c3,fc⟩:=gV.out.cells
          have Ed:=fc 3
          go_upto_region 16 with fail
          generalize hW:World.setCell w8 _ _=W9
          have oU:=Lib.hid (gV.out.qK (.slice ao b.len cap) W9 hW)
          have Bn:Hid (dO (bt + 1) w8 W9):=Lib.hid (by rw [← hW]; exact bH w8 ⟨bt,3,none⟩ _ (Nat.lt_succ_self _))
          clear hW c0 c1 c2 c3 fc Ed
          have e0:W9.cell? ⟨bt,0,none⟩=some (.string (tx (ay ts.tail))):=aj oU.out.2.2.2 rfl
          have e1:W9.cell? ⟨bt,1,none⟩=some (.int .i64 ((aK ts:Nat):Int)):=aj oU.out.2.2.2 rfl
          have e2:W9.cell? ⟨bt,2,none⟩=some (.slice fP (l').length dn):=(aj oU.out.2.2.2 rfl).trans (congrArg some HV.out)
          have e3:W9.cell? ⟨bt,3,none⟩=some (.slice ao b.len cap):=aj oU.out.2.2.2 rfl
          obtain ⟨⟨y0,y1,y2,y3⟩,fz⟩:=Eh oU.out.2.2.1
          have g0:=fz 0
          have g1:=fz 1
          have g2:=fz 2
          have g3:=fz 3
          clear fz
          go_wp2_with fail
          exact bodyPost_ret (v:= .tuple #[.agg (eU.f ⟨⟨tx (ay ts.tail),((aK ts:Nat):Int),l',b⟩,fP,dn,ao,cap⟩).toArray,.bool true]) (by simp [results,Tryz.results69,go_sem,eU.f,y0,y1,y2,y3]) rfl (PY (x:=⟨⟨tx (ay ts.tail),((aK ts:Nat):Int),l',b⟩,fP,dn,ao,cap⟩) (B:=bt + 1) nT.out ⟨⟨eH.out,HL.out,lS.out,pW.out.1⟩,vE.out.1⟩ (fun w2 h2=>⟨vE.out.2 w2 (Bn.out.trans h2),pW.out.2 w2 (Bn.out.trans h2)⟩) (by have:=aX.out; omega) oU.out.1 oU.out.2.1 aX.out.1)
      ·have CF:Hid (Bf=(jq f rest.tail.tail).map ((l++[s0])++ ·)):=Lib.hid (pU.out.trans (by rw [NK hm h6,LB.out,lg]; exact BU (fun a=>by simp)))
       go_wp2_with fail
       refine (bQ R _ _ ⟨#[44]⟩ rfl h6 yD.out.rd).mono ?_
       rintro e w11 ⟨rfl,h2,h3⟩
       have BQ:=Lib.hid (yD.out.then h2 h3)
       have HT2:=Lib.hid (at_len h6)
       clear h2 h3 yD
       go_wp2_with fail
       go_roundg rest.tail.tail.length
       case measure=>have:=uN.out; have:=HT2.out; omega
       case rel=>exact ⟨f,l++[s0],rest.tail.tail,_,rfl,by have:=HF.out; have:=uN.out; have:=HT2.out; omega,CF.out,BQ.out,by have:=qR.out; have:=uN.out; have:=HT2.out; simp only [List.length_append,List.length_singleton]; omega,Cn.out⟩
   ·have HE2:Hid (res=nJ (tx (ay ts.tail)) ((aK ts:Nat):Int) [] r6.tail):=Lib.hid (qI.out.trans (by unfold Fh; rw [if_pos h5]; rfl))
    have lS:Hid (([]:List ByteArray).length≤maxLen):=Lib.hid (Nat.zero_le _)
    go_wp2_with fail
    refine (bQ R _ _ ⟨#[41]⟩ rfl h5 eB.out.rd).mono ?_
    rintro e w7 ⟨rfl,h2,h3⟩
    have wG:=Lib.hid (eB.out.then h2 h3)
    clear h2 h3 eB
    obtain ⟨l',Yx⟩: ∃l',Hid (([]:List ByteArray)=l'):=⟨_,Lib.hid rfl⟩
    have gL:Hid (∀s ∈ ([]:List ByteArray),s.size≤maxLen):=Lib.hid (by simp)
    have qL:=Lib.hid HE2.out
    obtain ⟨v',PG⟩: ∃v',Hid (qc (bt + 1) _ v' ([]:List ByteArray)∧Ps R bt (bt + 1) w _ (tx (ay ts.tail)) ((aK ts:Nat):Int) v' ([]:List ByteArray) r6.tail):=⟨_,Lib.hid ⟨wG.out.row,wG.out⟩⟩
    clear wG
    have tF:=Lib.hid PG.out.2
    clear PG
    rw [Yx.out] at gL qL tF lS
    have qB:Hid (∀W,aY W R r6.tail→Calls Tryz.prog 111 #[.pointer (some ⟨R.br,0,none⟩)] W (Fu R W (blk (3 * (r6.tail).length + 3) r6.tail))):=Lib.hid (fun W h=>Gp R _ _ (by omega) W h)
    have DU:Hid (∀q,blk (3 * (r6.tail).length + 3) r6.tail= .no q→nJ (tx (ay ts.tail)) ((aK ts:Nat):Int) l' r6.tail= .no q):=Lib.hid (fun q h=>by unfold nJ; rw [h]; rfl)
    have Jk:Hid (∀b q,blk (3 * (r6.tail).length + 3) r6.tail= .ok b q→nJ (tx (ay ts.tail)) ((aK ts:Nat):Int) l' r6.tail= .ok ⟨tx (ay ts.tail),((aK ts:Nat):Int),l',b⟩ q):=Lib.hid (fun b q h=>by unfold nJ; rw [h]; rfl)
    generalize blk (3 * (r6.tail).length + 3) r6.tail=oN at *
    go_wp2_with fail
    refine (qB.out _ tF.out.rd).mono ?_
    cases oN with
    | no q=>
      rintro e w8 ⟨rfl,h2,h3⟩
      have nT:=Lib.hid (qL.out.trans (DU.out q rfl))
      obtain ⟨av,cv,hv⟩:=tF.out.row.len
      subst hv
      have gV:=Lib.hid (tF.out.then h2 h3)
      clear h2 h3 DU Jk qB
      obtain ⟨c0,c1,c2,c3,fc⟩:=gV.out.cells
      have Ed:=fc 3
      go_upto_region 16 with fail
      generalize hW:World.setCell w8 _ _=W9
      have wV:Hid (Ps R bt (bt + 1) w W9 _ _ _ _ q):=Lib.hid (by rw [← hW]; exact gV.out.Ls)
      clear hW c0 c1 c2 c3 fc Ed gV
      obtain ⟨c0,c1,c2,c3,fc⟩:=wV.out.cells
      obtain ⟨⟨y0,y1,y2,y3⟩,fz⟩:=Eh wV.out.z
      have g0:=fz 0
      have g1:=fz 1
      have g2:=fz 2
      have g3:=fz 3
      clear fc fz
      go_wp2_with fail
      exact bodyPost_ret (v:= .tuple #[qo _ _ _ _,.bool false]) (by simp [results,Tryz.results69,go_sem,qo,y0,y1,y2,y3]) rfl (yQ nT.out wV.out.rd wV.out.gr aX.out.1)
    | ok b q=>
      rintro e w8 ⟨⟨ao,cap,rfl,hl,hst⟩,h2,h3⟩
      have nT:=Lib.hid (qL.out.trans (Jk.out b q rfl))
      have gV:=Lib.hid (tF.out.then h2 h3)
      have pW:Hid (b.len≤maxLen∧bJ (bt + 1) w8 (fun w2=>b.At w2 w2.heap.size ao 0)):=Lib.hid ⟨Nat.le_trans hl (by unfold maxLen; decide),hst.mono tF.out.lt.2.2.2⟩
      clear h2 h3 hl hst DU Jk qB
      obtain ⟨fP,dn,hv,hcl,htx⟩:=gV.out.row.says gL.out
      have HV:=Lib.hid hv
      have vE:=Lib.hid (And.intro hcl htx)
      clear hv hcl htx
      obtain ⟨c0,c1,c2,c3,fc⟩:=gV.out.cells
      have Ed:=fc 3
      go_upto_region 16 with fail
      generalize hW:World.setCell w8 _ _=W9
      have oU:=Lib.hid (gV.out.qK (.slice ao b.len cap) W9 hW)
      have Bn:Hid (dO (bt + 1) w8 W9):=Lib.hid (by rw [← hW]; exact bH w8 ⟨bt,3,none⟩ _ (Nat.lt_succ_self _))
      clear hW c0 c1 c2 c3 fc Ed
      have e0:W9.cell? ⟨bt,0,none⟩=some (.string (tx (ay ts.tail))):=aj oU.out.2.2.2 rfl
      have e1:W9.cell? ⟨bt,1,none⟩=some (.int .i64 ((aK ts:Nat):Int)):=aj oU.out.2.2.2 rfl
      have e2:W9.cell? ⟨bt,2,none⟩=some (.slice fP (l').length dn):=(aj oU.out.2.2.2 rfl).trans (congrArg some HV.out)
      have e3:W9.cell? ⟨bt,3,none⟩=some (.slice ao b.len cap):=aj oU.out.2.2.2 rfl
      obtain ⟨⟨y0,y1,y2,y3⟩,fz⟩:=Eh oU.out.2.2.1
      have g0:=fz 0
      have g1:=fz 1
      have g2:=fz 2
      have g3:=fz 3
      clear fz
      go_wp2_with fail
      exact bodyPost_ret (v:= .tuple #[.agg (eU.f ⟨⟨tx (ay ts.tail),((aK ts:Nat):Int),l',b⟩,fP,dn,ao,cap⟩).toArray,.bool true]) (by simp [results,Tryz.results69,go_sem,eU.f,y0,y1,y2,y3]) rfl (PY (x:=⟨⟨tx (ay ts.tail),((aK ts:Nat):Int),l',b⟩,fP,dn,ao,cap⟩) (B:=bt + 1) nT.out ⟨⟨eH.out,HL.out,lS.out,pW.out.1⟩,vE.out.1⟩ (fun w2 h2=>⟨vE.out.2 w2 (Bn.out.trans h2),pW.out.2 w2 (Bn.out.trans h2)⟩) (by have:=aX.out; omega) oU.out.1 oU.out.2.1 aX.out.1)
end Go.Proofs.YtehnipchbmjlhaaGreatDoor
end
section
namespace Go.Proofs.YtehnipchbmjlhaaGreatDoor
open Go.RowKit
open Md Pz
theorem Wv:(Tryz.prog.info? 62).map (fun i=>(i.zero,i.size,i.bytes))=some (some (.agg wP),6,64):=by kernel_rfl
theorem OQ: ∃i0,Tryz.prog.info? 62=some i0∧i0.zero=some (.agg wP)∧i0.size=6∧i0.bytes=64:=info_parts Wv
theorem Wo:(Tryz.prog.info? 67).map (fun i=>(i.zero,i.size,i.bytes))=some (some (.agg AY),4,72):=by kernel_rfl
theorem QJ: ∃i0,Tryz.prog.info? 67=some i0∧i0.zero=some (.agg AY)∧i0.size=4∧i0.bytes=72:=info_parts Wo
def N8 (R:Rp) (w:World) (res:bg Pr) (e:Ending) (w':World):Prop:=
 match res with
 | .ok p r=>(∃bY bM dV bW,e= .returned (.tuple #[.agg #[.slice bY p.ds.length bM,.slice dV p.ts.length bW],.bool (!p.ts.isEmpty)])∧(p.ds.length≤4096∧p.ts.length≤4096∧p.ds.length≤bM∧p.ts.length≤bW)∧bJ w.heap.size w' (fun w2=>kg w2 w2.heap.size p.ds bY 0∧jZ w2 w2.heap.size p.ts dV 0))∧aY w' R r∧w.grownBy w' (some R.br)
 | .no r=>(∃a n c a' n' c',e= .returned (.tuple #[.agg #[.slice a n c,.slice a' n' c'],.bool false]))∧aY w' R r∧w.grownBy w' (some R.br)
def Bo:Array Value:= #[.slice none 0 0,.slice none 0 0]
structure Pg (R:Rp) (bp:Nat) (w W:World) (vD vT:Value) (rest:ak):Prop where
 rd:aY W R rest
 gr:w.grownBy W (some R.br)
 lt:R.br < w.heap.size∧w.heap.size < bp∧bp < W.heap.size
 z:W.heap[w.heap.size]? =some (.cells Bo 26 (0,0))
 blk:W.heap[bp]? =some (.cells #[vD,vT] 26 (0,0))
section
variable {R:Rp} {bp:Nat} {w W W':World} {vD vT:Value} {rest rest':ak}
theorem Pg.then (h:Pg R bp w W vD vT rest) (h1:aY W' R rest') (h2:W.grownBy W' (some R.br)):Pg R bp w W' vD vT rest':=
 ⟨h1,bD h.gr h2,⟨h.lt.1,h.lt.2.1,Nat.lt_of_lt_of_le h.lt.2.2 h2.size⟩,(h2.block _ (Array.getElem?_eq_some_iff.1 h.z).1 (by have:=h.lt; simp; omega)).trans h.z,(h2.block _ (Array.getElem?_eq_some_iff.1 h.blk).1 (by have:=h.lt; simp; omega)).trans h.blk⟩
theorem Pg.below (h:Pg R bp w W vD vT rest) (hb:Below W.heap.size W W'):Pg R bp w W' vD vT rest:=h.then (h.rd.below hb) (aH hb)
theorem Pg.put (h:Pg R bp w W vD vT rest) (hr:aY W' R rest) (hg:w.grownBy W' (some R.br)) (hB:Below (bp + 1) W W') (j:Nat) (v yK QW:Value) (hy:(#[vD,vT]:Array Value).setIfInBounds j v= #[yK,QW]):Pg R bp w (W'.setCell ⟨bp,j,none⟩ v) yK QW rest:=
 ⟨nR hr _ _ (by have:=h.lt; have:=R.b0; show R.B0≤bp; omega) (by have:=h.lt; show bp≠R.br; omega),jC hg _ _ (by have:=h.lt; show _≤bp; omega),by have h1:=h.lt; have h2:=hB.size; simp [World.setCell]; omega,(aN W' _ _ rfl (by have:=h.lt; show bp≠_; omega)).trans ((hB.block _ (by have:=h.lt; omega)).trans h.z),by rw [aW ((hB.block _ (Nat.lt_succ_self _)).trans h.blk),hy]⟩
theorem Pg.cells (h:Pg R bp w W vD vT rest):W.cell? ⟨bp,0,none⟩=some vD∧W.cell? ⟨bp,1,none⟩=some vT∧ ∀j,W.frozen? ⟨bp,j,none⟩=false:=
 ⟨aj h.blk rfl,aj h.blk rfl,fun _=>aF h.blk⟩
end
theorem XJ {w:World} {b:Nat} {t:TypeId} (h:w.heap[b]? =some (.cells Bo t (0,0))):
 w.cell? ⟨b,0,none⟩=some (.slice none 0 0)∧w.cell? ⟨b,1,none⟩=some (.slice none 0 0)∧w.frozen? ⟨b,0,none⟩=false∧w.frozen? ⟨b,1,none⟩=false:=
 ⟨aj h rfl,aj h rfl,aF h,aF h⟩
theorem Pv {R:Rp} {w W:World} {a a':Option Addr} {n c n' c':Nat} {r:ak} {res:bg Pr} (e:res= .no r) (hr:aY W R r) (hg:w.grownBy W (some R.br)) (hl:R.br < w.heap.size):
 N8 R w res (.returned (.tuple #[.agg #[.slice a n c,.slice a' n' c'],.bool false])) (W.setCells w.heap.size 0 [.slice a n c,.slice a' n' c']):=by
 subst e
 exact ⟨⟨a,n,c,a',n',c',rfl⟩,nI hr (aP _ _ _ _) (by have:=R.b0; omega) (by omega),kH hg _ _ _ (Nat.le_refl _)⟩
theorem Mq:(Tryz.prog.info? 26).map (·.size)=some 2:=by kernel_rfl
theorem YG {R:Rp} {w W:World} {p:Pr} {bY dV:Option Addr} {bM bW:Nat} {r:ak} {res:bg Pr} {B:Nat} (e:res= .ok p r) (hl:p.ds.length≤4096∧p.ts.length≤4096∧p.ds.length≤bM∧p.ts.length≤bW)
 (hst:bJ B W (fun w2=>kg w2 w2.heap.size p.ds bY 0∧jZ w2 w2.heap.size p.ts dV 0)) (hB:w.heap.size < B) (hr:aY W R r) (hg:w.grownBy W (some R.br)) (hlt:R.br < w.heap.size):
 N8 R w res (.returned (.tuple #[.agg #[.slice bY p.ds.length bM,.slice dV p.ts.length bW],.bool (!p.ts.isEmpty)])) (W.setCells w.heap.size 0 [.slice bY p.ds.length bM,.slice dV p.ts.length bW]):=by
 subst e
 exact ⟨⟨bY,bM,dV,bW,rfl,hl,(hst.next ⟨(aP w.heap.size _ 0 W).size,fun k h1 h2=>(aP w.heap.size _ 0 W).block k h2 (by simp; omega)⟩).mono (Nat.le_of_lt hB)⟩,nI hr (aP _ _ _ _) (by have:=R.b0; omega) (by omega),kH hg _ _ _ (Nat.le_refl _)⟩
def iC (P S:World→Prop):List Bool→World→Prop
 | [x],w=>if x then S w else P w
 | _,_=>False
section
variable {P S:World→Prop} {c:List Bool} {w w':World} {k i:Nat}
theorem iC.bits (h:iC P S c w): ∃x,c=[x]:=by
 match c,h with
 | [x],_=>exact ⟨x,rfl⟩
 | [],h=>exact h.elim
 | _ ::_ ::_,h=>exact h.elim
theorem iC.skip (h1:(k == i)=false) (h:iC P S c w):iC P S (pK [k] c i) w:=by
 obtain ⟨x,rfl⟩:=h.bits
 simp only [pK,h1,Bool.or_false]; exact h
theorem iC.fire (h1:(k == i)=true) (h:S w):iC P S (pK [k] [false] i) w:=by
 simp only [pK,h1,Bool.or_true]; exact h
end
def UN (R:Rp) (bp:Nat) (w:World) (yB:bg (List De)) (g:Nat) (wr:World):Prop:=
 ∃f l rest vD,g=rest.length∧rest.length≤f∧yB=(jI f rest).map (l++ ·)∧Pg R bp w wr vD (.slice none 0 0) rest∧oh (bp + 1) wr vD l∧(∀d ∈ l,d.Ok)∧l.length + rest.length≤4096
def UJ (R:Rp) (bp:Nat) (w W2:World) (vD:Value) (resT:bg (List Th)) (g:Nat) (wr:World):Prop:=
 ∃f l rest vT,g=rest.length∧rest.length≤f∧resT=(kT f rest).map ((l.map (·.t))++ ·)∧Pg R bp w wr vD vT rest∧dO (bp + 1) W2 wr∧oQ W2.heap.size wr vT l∧(∀x ∈ l,x.t.Ok∧x.t.bZ.length≤x.dn)∧l.length + rest.length≤4096
theorem Og (rest:ak):isDecl rest=((((nextK rest:Nat):Int) == 3) && (gY (ay rest) != 0)):=by
 unfold isDecl; rw [qE 3]; rfl
theorem MW {f:Nat} {ts:ak} (h:isDecl ts=false):jI f ts= .ok [] ts:=by
 cases f with
 | zero=>rfl
 | succ f=>unfold jI; rw [if_neg (by rw [h]; decide)]
theorem O7 {f:Nat} {ts r:ak} (h:isDecl ts=true) (h1:oW ts= .no r):jI (f + 1) ts= .no r:=by unfold jI; rw [if_pos h,h1]; rfl
theorem OL {f:Nat} {ts r:ak} {d:De} (h:isDecl ts=true) (h1:oW ts= .ok d r):jI (f + 1) ts=(jI f r).map (d :: ·):=by
 conv=>lhs; unfold jI
 rw [if_pos h,h1]; rfl
theorem Ql {f:Nat} {ts:ak} (h:at' [116,104,114,101,97,100] ts=false):kT f ts= .ok [] ts:=by
 cases f with
 | zero=>rfl
 | succ f=>unfold kT; rw [if_neg (by rw [h]; decide)]
theorem Tt {f:Nat} {ts r:ak} (h:at' [116,104,114,101,97,100] ts=true) (h1:uG ts= .no r):kT (f + 1) ts= .no r:=by unfold kT; rw [if_pos h,h1]; rfl
theorem SG {f:Nat} {ts r:ak} {t:Th} (h:at' [116,104,114,101,97,100] ts=true) (h1:uG ts= .ok t r):kT (f + 1) ts=(kT f r).map (t :: ·):=by
 conv=>lhs; unfold kT
 rw [if_pos h,h1]; rfl
theorem dO.tT {B:Nat} {w w1 w2:World} (h:dO B w w1) (hb:Below w.heap.size w1 w2):dO B w w2:=⟨Nat.le_trans h.1 hb.size,fun k h1 h2=>(hb.block k h2).trans (h.2 k h1 h2)⟩
theorem Vb {R:Rp} {w:World} {ts:ak} {bp:Nat} (hI:aY w R ts) (hg:w.heap.size + 1=bp): ∀W,((w.alloc (.cells #[.slice none 0 0,.slice none 0 0] 26)).alloc (.cells #[.slice none 0 0,.slice none 0 0] 26))=W→Pg R bp w W (.slice none 0 0) (.slice none 0 0) ts:=by
 intro W hW
 have hb1:Below w.heap.size w (w.alloc (.cells #[.slice none 0 0,.slice none 0 0] 26)):=ah _ _
 have hz1:(w.alloc (.cells #[.slice none 0 0,.slice none 0 0] 26)).heap[w.heap.size]? =some (.cells Bo 26 (0,0)):=heap_alloc_new _ _
 have hs1:(w.alloc (.cells #[.slice none 0 0,.slice none 0 0] 26)).heap.size=bp:=by simp [hg]
 generalize w.alloc (.cells #[.slice none 0 0,.slice none 0 0] 26)=W1 at *
 have hb2:Below w.heap.size w W:=by rw [← hW]; exact hb1.alloc hb1.size _
 exact ⟨hI.below hb2,aH hb2,⟨hI.lt,by omega,by rw [← hW]; simp; omega⟩,by rw [← hW]; exact (heap_alloc_old _ _ (Array.getElem?_eq_some_iff.1 hz1).1).trans hz1,by rw [← hW,← hs1]; exact heap_alloc_new _ _⟩
theorem KC (R:Rp) (ts:ak) (w:World) (hI:aY w R ts):
 Calls Tryz.prog 33 #[.pointer (some ⟨R.br,0,none⟩)] w (N8 R w (prog ts)):=by
 have HI:=Lib.hid hI
 have aX:=Lib.hid hI.lt
 have HLEN:=Lib.hid hI.len
 obtain ⟨res,fG⟩: ∃res,Hid (prog ts=res):=⟨_,Lib.hid rfl⟩
 obtain ⟨yB,uH⟩: ∃yB,Hid (jI ts.length ts=yB):=⟨_,Lib.hid rfl⟩
 have Ct:Hid (res=yB.bind fun ds r=>(kT r.length r).map fun th=>⟨ds,th⟩):=Lib.hid (by rw [← fG.out,← uH.out]; rfl)
 rw [fG.out]
 have hf0:=ao5
 have hf1:=aq5
 clear hI
 go_enter Tryz.func33,Tryz.ntmps33
 go_upto_block 0 with fail
 obtain ⟨bp,hg⟩: ∃g,w.heap.size + 1=g:=⟨_,rfl⟩
 rw [hg]
 generalize hW:World.alloc (World.alloc w _) _=W0
 have xQ:Hid (Pg R bp w W0 (.slice none 0 0) (.slice none 0 0) ts):=Lib.hid (Vb HI.out hg W0 hW)
 clear hW hg
 go_cut [] (fun W'=> ∃l rest vD,yB= .ok l rest∧Pg R bp w W' vD (.slice none 0 0) rest∧oh (bp + 1) W' vD l∧(∀d ∈ l,d.Ok)∧l.length + rest.length≤4096)
 case first=>
  have lU:Hid (UN R bp w yB ts.length W0):=Lib.hid ⟨ts.length,[],ts,_,rfl,Nat.le_refl _,by rw [← uH.out]; cases jI ts.length ts <;> rfl,xQ.out,Grow.nil _ _ _ _ _ _,by simp,by have:=HLEN.out; simp; omega⟩
  obtain ⟨i0,hi,hz0,hz1,hz2⟩:=OQ
  have jV:=Lib.hid (And.intro hi (And.intro hz0 (And.intro hz1 hz2)))
  clear hi hz0 hz1 hz2 xQ uH
  go_wp2_with fail
  go_loopg [5,6] ts.length (fun gk _ _ wr=>UN R bp w yB gk wr)
  case atStart=>exact lU.out
  case round=>
   obtain ⟨f,l,rest,vD,rfl,hf,hres,hs,hg,hok,hll⟩:=hrel
   have HF:=Lib.hid hf
   have pU:=Lib.hid hres
   have HS:=Lib.hid hs
   have HG:=Lib.hid hg
   have gq:=Lib.hid hok
   have qR:=Lib.hid hll
   obtain ⟨av,cv,hv⟩:=hg.len
   have gL:=Lib.hid (fun w hI=>ig R rest w hI)
   unfold lH at gL
   have HDC:=Lib.hid (fun w=>Av (tx (ay rest)) (l:=ay rest) (Fb _) w)
   clear hf hres hs hg hok hll lU
   subst hv
   go_upto_region 2 with fail
   go_cut [19] (fun s19 W'=>s19= .bool (isDecl rest)∧Below wr.heap.size wr W')
   case first=>
    have HE:=Lib.hid (Og rest)
    generalize isDecl rest=b at *
    generalize ((nextK rest:Nat):Int)=k at *
    generalize tx (ay rest)=s at *
    generalize gY (ay rest)=dc at *
    cases hk:(k == 3)
    ·go_wp2_with fail
     refine (gL.out _ HS.out.rd).mono ?_
     rintro e w1 ⟨rfl,h2⟩
     have HB1:=Lib.hid h2
     clear h2
     go_wp2_with fail
     go_meet
     exact ⟨by rw [HE.out,hk]; rfl,HB1.out⟩
    ·go_wp2_with fail
     refine (gL.out _ HS.out.rd).mono ?_
     rintro e w1 ⟨rfl,h2⟩
     have HB1:=Lib.hid h2
     have HR1:=Lib.hid (HS.out.rd.below h2)
     clear h2
     go_wp2_with fail
     refine (gL.out _ HR1.out).mono ?_
     rintro e w2 ⟨rfl,h2⟩
     have HB2:=Lib.hid (HB1.out.trans (h2.mono HB1.out.size))
     clear h2
     go_wp2_with fail
     refine (HDC.out _).mono ?_
     rintro e w3 ⟨rfl,rfl⟩
     go_wp2_with fail
     go_meet
     exact ⟨by rw [HE.out,hk]; rfl,HB2.out⟩
   obtain ⟨rfl,hB⟩:=hcut
   obtain ⟨W1,rfl⟩: ∃W:World,W=wc:=⟨_,rfl⟩
   have kr:=Lib.hid (HS.out.below hB)
   have uM:=Lib.hid (HG.out.next (aL hB))
   clear hB HS HG gL HDC
   cases hd:isDecl rest
   ·have CF:Hid (yB= .ok l rest):=Lib.hid (pU.out.trans (by rw [MW hd]; show bg.ok (l++[]) rest=_; rw [List.append_nil]))
    go_wp2_with fail
    go_meet
    exact ⟨l,rest,_,CF.out,kr.out,uM.out,gq.out,qR.out⟩
   ·have HC:=Lib.hid (DT R rest W1 kr.out.rd hd)
    go_wp2_with fail
    refine HC.out.mono ?_
    obtain ⟨f',hf'⟩: ∃f',f=f' + 1:=⟨f - 1,by
     have h1:=HF.out
     have h2:rest.length≠0:=fun e=>by rw [List.length_eq_zero_iff.1 e] at hd; exact absurd hd (by decide)
     omega⟩
    subst hf'
    have HN:Hid (∀r,oW rest= .no r→res= .no r):=Lib.hid (fun r h=>Ct.out.trans (by rw [pU.out,O7 hd h]; rfl))
    have HO:Hid (∀d r,oW rest= .ok d r→yB=(jI f' r).map ((l++[d])++ ·)∧r.length < rest.length):=Lib.hid (fun d r h=>⟨pU.out.trans (by rw [OL hd h,lg]; exact BU (fun a=>by simp)),QY h⟩)
    clear pU HC
    generalize oW rest=am2 at *
    cases am2 with
    | no r=>
      have nT:=Lib.hid (HN.out r rfl)
      clear HN HO
      rintro e w2 ⟨⟨d,rfl⟩,h2,h3⟩
      have HS2:=Lib.hid (kr.out.then h2 h3)
      clear h2 h3 kr uM
      unfold pF
      go_upto_region 4 with fail
      generalize hW:World.alloc w2 _=W3
      have jN:Hid (Pg R bp w W3 _ _ r):=Lib.hid (by rw [← hW]; exact HS2.out.below (ah _ _))
      clear hW HS2
      obtain ⟨c0,c1,fc⟩:=jN.out.cells
      obtain ⟨y0,y1,g0,g1⟩:=XJ jN.out.z
      clear fc
      go_wp2_with fail
      exact bodyPost_ret (v:= .tuple #[.agg #[.slice _ _ _,.slice _ _ _],.bool false]) (by simp [results,Tryz.results33,go_sem,y0,y1]) rfl (Pv nT.out jN.out.rd jN.out.gr aX.out)
    | ok d r=>
      have Es:=Lib.hid (HO.out d r rfl)
      clear HN HO
      rintro e w2 ⟨⟨xY,rfl⟩,h2,h3⟩
      have Pk:=Lib.hid xY
      have HS2:=Lib.hid (kr.out.then h2 h3)
      have HG2:=Lib.hid (uM.out.next (fU h3 (by have:=kr.out.lt; omega)))
      clear h2 h3 kr uM xY
      unfold pF
      go_upto_region 4 with fail
      obtain ⟨gd,hg⟩: ∃g,w2.heap.size=g:=⟨_,rfl⟩
      generalize hW:World.alloc w2 _=W3
      have jN:Hid (Pg R bp w W3 _ _ r):=Lib.hid (by rw [← hW]; exact HS2.out.below (ah _ _))
      have rT:Hid (oh (bp + 1) W3 _ l):=Lib.hid (by rw [← hW]; exact HG2.out.next (aL (ah _ _)))
      have HB3:Hid (W3.heap[gd]? =some (.cells (gF d).toArray 62 (0,0))):=Lib.hid (by rw [← hW,← hg]; exact heap_alloc_new _ _)
      rw [hg]
      clear hW hg HS2 HG2
      obtain ⟨e0,e1,e2,e3,e4,e5⟩:(W3.cell? ⟨gd,0,none⟩=some (.int .i64 d.kind)∧W3.cell? ⟨gd,1,none⟩=some (.int .i64 d.line)∧W3.cell? ⟨gd,2,none⟩=some (.string d.nm)∧W3.cell? ⟨gd,3,none⟩=some (.int .i64 d.size)∧W3.cell? ⟨gd,4,none⟩=some (.int .i64 d.init)∧W3.cell? ⟨gd,5,none⟩=some (.string d.on)):=⟨aj HB3.out rfl,aj HB3.out rfl,aj HB3.out rfl,aj HB3.out rfl,aj HB3.out rfl,aj HB3.out rfl⟩
      obtain ⟨c0,c1,fc⟩:=jN.out.cells
      clear fc
      have nC:=Lib.hid (rT.out.next (aL (ah W3 (.cells (gF d).toArray 62))))
      have qC:=Lib.hid (mJ (heap_alloc_new W3 (.cells (gF d).toArray 62)))
      obtain ⟨hi,hz0,hz1,hz2⟩:=jV.out
      have hbs:bp + 1≤W3.heap.size + 1:=by have:=jN.out.lt; omega
      have hkl:l.length + 1≤maxLen:=by have:=qR.out; unfold maxLen; omega
      have Z6:(l.length + 1) * 64≤140737488355328:=by have:=qR.out; omega
      go_wp2_with (at_builtin; refine wpList_append_lies _ rfl _ _ 23 rfl (bp + 1) 62 i0 _ 6 64 Tryz.underlying23 hi hz0 hz1 hz2 rfl (by decide) _ _ _ rfl nC.out.own ⟨W3.heap.size,0,none⟩ 1 1 (gF d) rfl rfl qC.out (by simp [gF,Value.oneCell']) (by decide) hkl Z6 (by simpa using hbs) _ rfl ?_)
      clear hi hz0 hz1 hz2
      intro g cap w9 hown hgr hmv hlt2
      have jO:Hid (∀k,(Value.slice av (l).length cv).ownBlock=some k→bp + 1≤k):=Lib.hid (fun k hk=>(rT.out.lt k hk).1)
      have iK:Hid (Below (bp + 1) (W3.alloc (.cells (gF d).toArray 62)) w9):=Lib.hid (iW hgr jO.out (by simpa using hbs))
      have pW:Hid (Below (bp + 1) W3 w9):=Lib.hid (((ah W3 (.cells (gF d).toArray 62)).mono jN.out.lt.2.2).trans iK.out)
      have GD:Hid (dS (bp + 1) (Value.slice av (l).length cv).ownBlock (W3.alloc (.cells (gF d).toArray 62)) (fun _=>True)):=Lib.hid (fun _ _=>trivial)
      have GH:Hid (aY w9 R r):=Lib.hid (EH (oP jN.out.rd _) hgr (fun k hk=>by have h1:=jO.out k hk; have h2:=jN.out.lt; have h3:=R.b0; omega))
      have Bd:Hid (w.grownBy w9 (some R.br)):=Lib.hid (vM (dP jN.out.gr _) (iK.out.mono (by have:=jN.out.lt; omega)))
      have qY:w9.heap[bp]? =some (.cells _ 26 (0,0)):=(pW.out.block _ (Nat.lt_succ_self _)).trans jN.out.blk
      have Gj:=Lib.hid (nC.out.push (x:=d) GD.out rfl hown hgr (by simpa using hmv))
      have c0:w9.cell? ⟨bp,0,none⟩=some (.slice av l.length cv):=aj qY rfl
      have f0:w9.frozen? ⟨bp,0,none⟩=false:=aF qY
      clear hown hgr hmv hlt2 hbs hkl Z6 GD qC nC iK qY e0 e1 e2 e3 e4 e5 c1
      go_wp2_with fail
      generalize hW:World.setCell w9 _ _=Gx
      have yD:Hid (Pg R bp w Gx (.slice (some ⟨g,0,none⟩) (l.length + 1) cap) (.slice none 0 0) r):=Lib.hid (by rw [← hW]; exact jN.out.put GH.out Bd.out pW.out 0 _ _ _ rfl)
      have Rs:Hid (oh (bp + 1) Gx (.slice (some ⟨g,0,none⟩) (l.length + 1) cap) (l++[d])):=Lib.hid (by rw [← hW]; exact Gj.out.next (bH w9 ⟨bp,0,none⟩ _ (Nat.lt_succ_self _)))
      have Cn:Hid (∀y ∈ l++[d],y.Ok):=Lib.hid (fun y hy=>by
       rcases List.mem_append.1 hy with hy | hy
       ·exact gq.out y hy
       ·rw [List.mem_singleton.1 hy]; exact Pk.out)
      clear hW c0 f0 jN GH Bd pW Gj jO rT HB3
      go_roundg r.length
      case measure=>exact Es.out.2
      case rel=>exact ⟨f',l++[d],r,_,rfl,by have h1:=HF.out; have h2:=Es.out.2; omega,Es.out.1,yD.out,Rs.out,Cn.out,by have h1:=qR.out; have h2:=Es.out.2; simp only [List.length_append,List.length_singleton]; omega⟩
 obtain ⟨l,rest,vD,hrd,hP,hG,xY,hll⟩:=hcut
 obtain ⟨W2,rfl⟩: ∃W:World,W=wc:=⟨_,rfl⟩
 obtain ⟨bY,bM,hv,Ii,Ir⟩:=hG.says xY
 subst hv
 have aU:=Lib.hid hP
 have HD2:=Lib.hid (And.intro Ii Ir)
 have lS:=Lib.hid hll
 obtain ⟨resT,Ua⟩: ∃resT,Hid (kT rest.length rest=resT):=⟨_,Lib.hid rfl⟩
 have qI:Hid (res=resT.map (fun th=>⟨l,th⟩)):=Lib.hid (by rw [Ct.out,hrd,← Ua.out]; rfl)
 clear hP hG xY hll Ii Ir hrd xQ uH fG Ct
 go_upto_block 2 with fail
 go_cut [] (fun W'=> ∃(lt:List eU) (rest':ak) (vT:Value),resT= .ok (lt.map (·.t)) rest'∧Pg R bp w W' (.slice bY l.length bM) vT rest'∧dO (bp + 1) W2 W'∧oQ W2.heap.size W' vT lt∧(∀x ∈ lt,x.t.Ok∧x.t.bZ.length≤x.dn)∧lt.length≤4096)
 case first=>
  have lU:Hid (UJ R bp w W2 (.slice bY l.length bM) resT rest.length W2):=Lib.hid ⟨rest.length,[],rest,_,rfl,Nat.le_refl _,by rw [← Ua.out]; cases kT rest.length rest <;> rfl,aU.out,dO.refl _ _,Grow.nil _ _ _ _ _ _,by simp,by have:=lS.out; simp only [List.length_nil]; omega⟩
  obtain ⟨i0,hi,hz0,hz1,hz2⟩:=QJ
  have jV:=Lib.hid (And.intro hi (And.intro hz0 (And.intro hz1 hz2)))
  have pR:Hid (bp + 1≤W2.heap.size∧R.br < bp):=Lib.hid (by have:=aU.out.lt; omega)
  clear hi hz0 hz1 hz2 aU Ua HD2
  go_wp2_with fail
  go_loopg [7,8] rest.length (fun gk _ _ wr=>UJ R bp w W2 (.slice bY l.length bM) resT gk wr)
  case atStart=>exact lU.out
  case round=>
   obtain ⟨f,lt,rs,vT,rfl,hf,hres,hs,ha,hg,hok,hlt⟩:=hrel
   have HF:=Lib.hid hf
   have pU:=Lib.hid hres
   have HS:=Lib.hid hs
   have HA:=Lib.hid ha
   have HG:=Lib.hid hg
   have gq:=Lib.hid hok
   have qR:=Lib.hid hlt
   obtain ⟨av,cv,hv⟩:=hg.len
   clear hf hres hs ha hg hok hlt lU
   subst hv
   cases hd:at' [116,104,114,101,97,100] rs
   ·have CF:Hid (resT= .ok (lt.map (·.t)) rs):=Lib.hid (pU.out.trans (by rw [Ql hd]; show bg.ok (_++[]) rs=_; rw [List.append_nil]))
    go_wp2_with fail
    refine (EK R _ _ ⟨#[116,104,114,101,97,100]⟩ rfl HS.out.rd).mono ?_
    rw [hd]
    rintro e w1 ⟨rfl,h2⟩
    have kr:=Lib.hid (HS.out.below h2)
    have uM:=Lib.hid (HG.out.next (aL h2))
    have HA1:=Lib.hid (HA.out.trans (aL h2))
    clear h2
    go_wp2_with fail
    go_meet
    exact ⟨lt,rs,_,CF.out,kr.out,HA1.out,uM.out,gq.out,by have:=qR.out; omega⟩
   ·go_wp2_with fail
    refine (EK R _ _ ⟨#[116,104,114,101,97,100]⟩ rfl HS.out.rd).mono ?_
    rw [hd]
    rintro e w1 ⟨rfl,h2⟩
    have kr:=Lib.hid (HS.out.below h2)
    have uM:=Lib.hid (HG.out.next (aL h2))
    have HA1:=Lib.hid (HA.out.trans (aL h2))
    clear h2 HS HG HA
    have HC:=Lib.hid (NW R rs w1 kr.out.rd hd)
    obtain ⟨f',hf'⟩: ∃f',f=f' + 1:=⟨f - 1,by
     have h1:=HF.out
     have h2:=at_len hd
     omega⟩
    subst hf'
    have HN:Hid (∀r,uG rs= .no r→res= .no r):=Lib.hid (fun r h=>qI.out.trans (by rw [pU.out,Tt hd h]; rfl))
    have HO:Hid (∀t r,uG rs= .ok t r→resT=(kT f' r).map ((lt.map (·.t)++[t])++ ·)∧r.length < rs.length):=Lib.hid (fun t r h=>⟨pU.out.trans (by rw [SG hd h,lg]; exact BU (fun a=>by simp)),Jf h⟩)
    clear pU
    generalize uG rs=ZX at *
    go_wp2_with fail
    refine HC.out.mono ?_
    cases ZX with
    | no r=>
      have nT:=Lib.hid (HN.out r rfl)
      clear HN HO HC
      rintro e w2 ⟨⟨nm,line,a1,n1,c1,a2,n2,c2,rfl⟩,h2,h3⟩
      have HS2:=Lib.hid (kr.out.then h2 h3)
      clear h2 h3 kr uM
      unfold qo
      go_upto_region 9 with fail
      generalize hW:World.alloc w2 _=W3
      have jN:Hid (Pg R bp w W3 _ _ r):=Lib.hid (by rw [← hW]; exact HS2.out.below (ah _ _))
      clear hW HS2
      obtain ⟨c0,c1,fc⟩:=jN.out.cells
      obtain ⟨y0,y1,g0,g1⟩:=XJ jN.out.z
      clear fc
      go_wp2_with fail
      exact bodyPost_ret (v:= .tuple #[.agg #[.slice _ _ _,.slice _ _ _],.bool false]) (by simp [results,Tryz.results33,go_sem,y0,y1]) rfl (Pv nT.out jN.out.rd jN.out.gr aX.out)
    | ok t r=>
      have Es:=Lib.hid (HO.out t r rfl)
      clear HN HO HC
      rintro e w2 ⟨⟨x,rfl,rfl,X0,Zo⟩,h2,h3⟩
      have Mf:=Lib.hid X0
      have iD:Hid (W2.heap.size≤w1.heap.size):=Lib.hid HA1.out.1
      have HS2:=Lib.hid (kr.out.then h2 h3)
      have HG2:=Lib.hid (uM.out.next (fU h3 (by have:=pR.out; omega)))
      have HA2:=Lib.hid (HA1.out.trans (fU h3 (by have:=pR.out; omega)))
      have an4:=Lib.hid uM.out.lt
      have gN:=Lib.hid Zo
      clear h2 h3 kr uM HA1 X0 Zo
      unfold eU.f
      go_upto_region 9 with fail
      obtain ⟨gd,hg⟩: ∃g,w2.heap.size=g:=⟨_,rfl⟩
      generalize hW:World.alloc w2 _=W3
      have jN:Hid (Pg R bp w W3 _ _ r):=Lib.hid (by rw [← hW]; exact HS2.out.below (ah _ _))
      have rT:Hid (oQ W2.heap.size W3 _ lt):=Lib.hid (by rw [← hW]; exact HG2.out.next (aL (ah _ _)))
      have IY:Hid (dO (bp + 1) W2 W3):=Lib.hid (by rw [← hW]; exact HA2.out.trans (aL (ah _ _)))
      have IG:Hid (bJ w1.heap.size W3 (eU.I x)):=Lib.hid (by rw [← hW]; exact gN.out.next (aL (ah _ _)))
      have HB3:Hid (W3.heap[gd]? =some (.cells (eU.f x).toArray 67 (0,0))):=Lib.hid (by rw [← hW,← hg]; exact heap_alloc_new _ _)
      rw [hg]
      clear hW hg HS2 HG2 HA2 gN
      obtain ⟨e0,e1,e2,e3⟩:(W3.cell? ⟨gd,0,none⟩=some (.string x.t.nm)∧W3.cell? ⟨gd,1,none⟩=some (.int .i64 x.t.line)∧W3.cell? ⟨gd,2,none⟩=some (.slice x.fP x.t.bZ.length x.dn)∧W3.cell? ⟨gd,3,none⟩=some (.slice x.bC x.t.body.len x.aV)):=⟨aj HB3.out rfl,aj HB3.out rfl,aj HB3.out rfl,aj HB3.out rfl⟩
      obtain ⟨c0,c1,fc⟩:=jN.out.cells
      clear fc
      have nC:=Lib.hid (rT.out.next (aL (ah W3 (.cells (eU.f x).toArray 67))))
      have qC:=Lib.hid (mJ (heap_alloc_new W3 (.cells (eU.f x).toArray 67)))
      obtain ⟨hi,hz0,hz1,hz2⟩:=jV.out
      have hbs:W2.heap.size≤W3.heap.size + 1:=by have:=IY.out.1; omega
      have hkl:lt.length + 1≤maxLen:=by have:=qR.out; unfold maxLen; omega
      have XW:(lt.length + 1) * 72≤140737488355328:=by have:=qR.out; omega
      go_wp2_with (at_builtin; refine wpList_append_lies _ rfl _ _ 24 rfl W2.heap.size 67 i0 _ 4 72 Tryz.underlying24 hi hz0 hz1 hz2 rfl (by decide) _ _ _ rfl nC.out.own ⟨W3.heap.size,0,none⟩ 1 1 (eU.f x) rfl rfl qC.out (by simp [eU.f,Value.oneCell']) (by decide) hkl XW (by simpa using hbs) _ rfl ?_)
      clear hi hz0 hz1 hz2
      intro g cap w9 hown hgr hmv hlt2
      have jO:Hid (∀k,(Value.slice av lt.length cv).ownBlock=some k→W2.heap.size≤k):=Lib.hid (fun k hk=>(rT.out.lt k hk).1)
      have iK:Hid (Below W2.heap.size (W3.alloc (.cells (eU.f x).toArray 67)) w9):=Lib.hid (iW hgr jO.out (by simpa using hbs))
      have pW:Hid (Below W2.heap.size W3 w9):=Lib.hid (((ah W3 (.cells (eU.f x).toArray 67)).mono IY.out.1).trans iK.out)
      have GD:Hid (dS W2.heap.size (Value.slice av lt.length cv).ownBlock (W3.alloc (.cells (eU.f x).toArray 67)) (eU.I x)):=Lib.hid (oM (IG.out.next (aL (ah _ _))) iD.out (fun k hk=>(an4.out k hk).2))
      have GH:Hid (aY w9 R r):=Lib.hid (EH (oP jN.out.rd _) hgr (fun k hk=>by have h1:=jO.out k hk; have h2:=pR.out; have h3:=R.b0; omega))
      have Bd:Hid (w.grownBy w9 (some R.br)):=Lib.hid (vM (dP jN.out.gr _) (iK.out.mono (by have h1:=jN.out.lt; have h2:=pR.out; omega)))
      have qY:w9.heap[bp]? =some (.cells _ 26 (0,0)):=(pW.out.block _ (by have:=pR.out; omega)).trans jN.out.blk
      have Gj:=Lib.hid (nC.out.push (x:=x) GD.out rfl hown hgr (by simpa using hmv))
      have Bn:Hid (dO (bp + 1) W2 w9):=Lib.hid (IY.out.tT pW.out)
      have c1:w9.cell? ⟨bp,1,none⟩=some (.slice av lt.length cv):=aj qY rfl
      have f1:w9.frozen? ⟨bp,1,none⟩=false:=aF qY
      clear hown hgr hmv hlt2 hbs hkl XW GD qC nC iK qY e0 e1 e2 e3 c0
      go_wp2_with fail
      generalize hW:World.setCell w9 _ _=Gx
      have yD:Hid (Pg R bp w Gx (.slice bY l.length bM) (.slice (some ⟨g,0,none⟩) (lt.length + 1) cap) r):=Lib.hid (by rw [← hW]; exact jN.out.put GH.out Bd.out (pW.out.mono pR.out.1) 1 _ _ _ rfl)
      have Rs:Hid (oQ W2.heap.size Gx (.slice (some ⟨g,0,none⟩) (lt.length + 1) cap) (lt++[x])):=Lib.hid (by rw [← hW]; exact Gj.out.next (bH w9 ⟨bp,1,none⟩ _ pR.out.1))
      have ao8:Hid (dO (bp + 1) W2 Gx):=Lib.hid (by rw [← hW]; exact Bn.out.trans (bH w9 ⟨bp,1,none⟩ _ (Nat.lt_succ_self _)))
      have Cn:Hid (∀y ∈ lt++[x],y.t.Ok∧y.t.bZ.length≤y.dn):=Lib.hid (fun y hy=>by
       rcases List.mem_append.1 hy with hy | hy
       ·exact gq.out y hy
       ·rw [List.mem_singleton.1 hy]; exact Mf.out)
      clear hW c1 f1 jN GH Bd pW Gj jO rT HB3 Bn IY
      go_roundg r.length
      case measure=>exact Es.out.2
      case rel=>exact ⟨f',lt++[x],r,_,rfl,by have h1:=HF.out; have h2:=Es.out.2; omega,by rw [List.map_append]; exact Es.out.1,yD.out,ao8.out,Rs.out,Cn.out,by have h1:=qR.out; have h2:=Es.out.2; simp only [List.length_append,List.length_singleton]; omega⟩
 obtain ⟨lt,r9,vT,hrt,hP,hA,hG,hok,hln⟩:=hcut
 obtain ⟨W8,rfl⟩: ∃W:World,W=wc:=⟨_,rfl⟩
 obtain ⟨dV,bW,hv,Kh,Kl⟩:=hG.says hok
 subst hv
 have jl:=Lib.hid hP
 have nT:Hid (res= .ok ⟨l,lt.map (·.t)⟩ r9):=Lib.hid (by rw [qI.out,hrt]; rfl)
 have iY:Hid ((lt.map (·.t)).length=lt.length):=Lib.hid (List.length_map _)
 have HST:Hid (l.length≤bM∧(lt.map (·.t)).length≤bW∧bJ (bp + 1) W8 (fun w2=>kg w2 w2.heap.size l bY 0∧jZ w2 w2.heap.size (lt.map (·.t)) dV 0)):=Lib.hid ⟨HD2.out.1,by rw [iY.out]; exact Kh,fun w2 h2=>⟨HD2.out.2 w2 (hA.trans h2),Kl w2 (h2.mono aU.out.lt.2.2)⟩⟩
 have eP:Hid (l.length≤4096∧(lt.map (·.t)).length≤4096):=Lib.hid ⟨by have:=lS.out; omega,by rw [iY.out]; exact hln⟩
 clear hP hA hG hok hln Kh Kl hrt HD2 qI iY lS aU Ua
 generalize lt.map (·.t)=th at *
 clear hf0 hf1
 have HT0:Hid (decide ((0:Int) < (th.length:Int))= !th.isEmpty):=Lib.hid (by cases th <;> simp)
 have dK:Hid (Below W8.heap.size W8 (W8.drewN 1)):=Lib.hid (below_drewN (Below.refl _ _) 1)
 have xg:=Lib.hid (jl.out.below dK.out)
 have KP: ∀(x:Bool) w',iC (fun w'=>w'=W8.drewN 1) (fun w'=>w'=(W8.drewN 1).setCells w.heap.size 0 [.slice bY l.length bM,.slice dV th.length bW]) [x] w'→w'.heap[bp]? =some (.cells #[.slice bY l.length bM,.slice dV th.length bW] 26 (0,0)):=fun x w' h=>by
  cases x
  ·have h:w'=_:=h
   rw [h]; exact xg.out.blk
  ·have h:w'=_:=h
   rw [h]
   exact ((aP w.heap.size _ 0 (W8.drewN 1)).block _ xg.out.lt.2.2 (by have:=xg.out.lt; simp; omega)).trans xg.out.blk
 go_upto_region 12 with fail
 refine dY (by kernel_rfl) rfl ?_
 refine dN 0 7 [5] [[],[],[1],[1,2],[1,2,3],[0],[0,1,2,3,4,5]] [[some false],[none],[none],[none],[none],[some false],[some true]] (iC (fun w'=>w'=W8.drewN 1) (fun w'=>w'=(W8.drewN 1).setCells w.heap.size 0 [.slice bY l.length bM,.slice dV th.length bW])) (fun _ _=>True) [50,51,52,53,54,3] rfl rfl (by rfl) (by kernel_rfl) (by kernel_rfl) (by kernel_rfl) (by kernel_rfl) (by kernel_rfl) (by rfl) (fun _=>trivial) (by rfl) rfl ?_
 simp only [List.take_succ_cons,List.take_zero,List.drop_zero,List.drop_succ_cons,jR,List.map_cons,List.map_nil]
 apply aI.step
 case aG=>
  intro c A w' hok hC hO hD
  obtain ⟨x,rfl⟩:=hC.bits
  have hb:=KP x w' hC
  have k0:w'.cell? ⟨bp,0,none⟩=some (.slice bY l.length bM):=aj hb rfl
  have k1:w'.cell? ⟨bp,1,none⟩=some (.slice dV th.length bW):=aj hb rfl
  have e4:=hO 4 (by rfl)
  simp [Act.eval] at e4
  simp [aC,aB,au,Act.eval,Region.binds] at hD
  simp [go_sem,gd,Oper.wp,e4,k0,k1]
  exact aA.mk trivial (iC.skip (by rfl) hC) (aB.mk _ _)
 apply aI.step
 case aG=>
  intro c A w' hok hC hO hD
  have e4:=hO 4 (by rfl)
  simp [Act.eval] at e4
  simp [aC,aB,au,Act.eval,Region.binds] at hD
  simp [go_sem,gd,Oper.wp,hD,e4]
  exact aA.mk trivial (iC.skip (by rfl) hC) (aB.mk _ _)
 apply aI.step
 case aG=>
  intro c A w' hok hC hO hD
  obtain ⟨x,rfl⟩:=hC.bits
  have hb:=KP x w' hC
  have k1:w'.cell? ⟨bp,1,none⟩=some (.slice dV th.length bW):=aj hb rfl
  simp [aC,aB,au,Act.eval,Region.binds] at hD
  simp [go_sem,gd,Oper.wp,hD,k1]
  exact aA.mk trivial (iC.skip (by rfl) hC) (aB.mk _ _)
 apply aI.step
 case aG=>
  intro c A w' hok hC hO hD
  simp [aC,aB,au,Act.eval,Region.binds] at hD
  simp [go_sem,gd,Oper.wp,hD]
  exact aA.mk trivial (iC.skip (by rfl) hC) (aB.mk _ _)
 simp only [List.nil_append,List.cons_append]
 refine aI.step (v:= .bool (!th.isEmpty)) ?_ ?_
 ·intro c A w' hok hC hO hD
  simp [aC,aB,au,Act.eval,Region.binds] at hD
  simp [go_sem,gd,Oper.wp,hD]
  exact aA.mk trivial (iC.skip (by rfl) hC) (show Value.bool _=_ by rw [← HT0.out]; simp)
 refine aI.some (fun _ _=>True) (fun _ _ _ _ _=>trivial) ?_ ?_
 ·intro c A w' hok hC hO hD
  obtain ⟨x,rfl⟩:=hC.bits
  obtain ⟨rfl,-⟩:=hok
  have hC:w'=_:=hC
  have e2:=hO 2 (by rfl)
  simp [Act.eval] at e2
  simp [aC,aB,au,Act.eval,Region.binds] at hD
  simp only [gd,if_true]
  refine wp_store_mid _ _ _ (by rfl) w.heap.size 0 #[.slice bY l.length bM,.slice dV th.length bW] (by simp [Act.eval,e2]) (by simp [Act.eval,hD]) (by rw [hC]; exact nW xg.out.z (Nat.le_refl 2)) Mq (by simp [Value.oneCell']) ?_
  exact aA.yU trivial (iC.fire (by rfl) (by rw [hC])) trivial
 apply aI.step
 case aG=>
  intro c A w' hok hC hO hD
  simp [aC,aB,au,Act.eval,Region.binds] at hD
  simp [go_sem,gd,Oper.wp,hD]
  exact aA.mk trivial (iC.skip (by rfl) hC) (aB.mk _ _)
 try simp only [List.nil_append,List.cons_append]
 refine aI.done ?_
 intro w9 xE
 try simp only [List.drop_succ_cons,List.drop_zero]
 intro x0 h0 x1 h1 x2 h2 x3 h3 x4 h4 x5 h5 x6 h6
 have h6':=Eq.symm (show x6=_ from h6)
 subst h6'
 clear h0 h1 h2 h3 h4 h5 h6 KP
 refine jm ?_
 refine fM rfl ?_
 have Gu:Hid (w9=(W8.drewN 1).setCells w.heap.size 0 [.slice bY l.length bM,.slice dV th.length bW]):=Lib.hid xE
 have iK:Hid (w9.heap[w.heap.size]? =some (.cells #[.slice bY l.length bM,.slice dV th.length bW] 26 (0,0))):=Lib.hid (by rw [Gu.out]; exact iw xg.out.z rfl)
 clear xE
 have y0:w9.cell? ⟨w.heap.size,0,none⟩=some (.slice bY l.length bM):=aj iK.out rfl
 have y1:w9.cell? ⟨w.heap.size,1,none⟩=some (.slice dV th.length bW):=aj iK.out rfl
 go_simp
 go_wp2_with fail
 exact bodyPost_ret (v:= .tuple #[.agg #[.slice bY l.length bM,.slice dV th.length bW],.bool (!th.isEmpty)]) (by simp [results,Tryz.results33,go_sem,y0,y1]) rfl (by
  rw [Gu.out]
  exact YG nT.out ⟨eP.out.1,eP.out.2,HST.out.1,HST.out.2.1⟩ (HST.out.2.2.next (aL dK.out)) (by have:=xg.out.lt; omega) xg.out.rd xg.out.gr aX.out)
end Go.Proofs.YtehnipchbmjlhaaGreatDoor
end
section
namespace Go.Proofs.YtehnipchbmjlhaaGreatDoor
open Go.RowKit
open Md Pz
theorem Ws (t:Tk.Tok):(Tk.Tok.cells t).length=3:=rfl
theorem LD {w:World} {g B:Nat} {ts:ak} (hB:g < B): ∀(l:ak) (k:Nat),(∀i t,l[i]? =some t→ ∀j u,(Tk.Tok.cells t)[j]? =some u→w.cell? ⟨g,(k + i) * 3 + j,none⟩=some u)→oI w B l (some ⟨g,0,none⟩) k
 | [],_,_=>trivial
 | t ::r,k,h=>by
   have h0:=h 0 t rfl
   refine ⟨⟨g,0,rfl,hB,?_,?_,?_⟩,LD (ts:=ts) hB r (k + 1) (fun i t' ht j u hu=>by rw [show k + 1 + i=k + (i + 1) by omega]; exact h (i + 1) t' (by simpa using ht) j u hu)⟩
   ·have:=h0 0 _ rfl; rw [Nat.zero_add]; exact this
   ·have:=h0 1 _ rfl; rw [Nat.zero_add]; exact this
   ·have:=h0 2 _ rfl; rw [Nat.zero_add]; exact this
theorem BG {w:World} {base:Nat} {v:Value} {ts:ak} (h:w.ownsRow base 112 3 v ts.length (Tk.cellsOf ts)): ∃ao cap,v= .slice ao ts.length cap∧oI w w.heap.size ts ao 0:=by
 rcases h.2 with ⟨h1,h2⟩ | ⟨g,cap,cur,h1,hB,hg,hc,-,hs,ht⟩
 ·have:ts=[]:=by
   cases ts with
   | nil=>rfl
   | cons t r=>simp at h2
  subst this
  exact ⟨none,0,h1,trivial⟩
 ·refine ⟨some ⟨g,0,none⟩,cap,h1,LD (ts:=ts) (Array.getElem?_eq_some_iff.1 hg).1 ts 0 (fun i t hi j u hu=> ?_)⟩
  have hF:=flat_get Ws ts i t j u hi hu
  have hF':(Tk.cellsOf ts)[i * 3 + j]? =some u:=hF
  rw [← ht] at hF'
  have hlt:=(List.getElem?_eq_some_iff.1 hF').1
  rw [List.getElem?_take_of_lt (by rw [List.length_take] at hlt; omega)] at hF'
  rw [Nat.zero_add]
  exact aj hg (by rw [← hF']; simp)
def F7 (N:Nat) (w:World) (r:Pr × Int × Int) (e:Ending) (w':World):Prop:=
 ∃bY bM dV bW,e= .returned (.tuple #[.agg #[.slice bY r.1.ds.length bM,.slice dV r.1.ts.length bW],.int .i64 r.2.1,.int .i64 r.2.2])∧(r.1.ds.length≤4096∧r.1.ts.length≤4096∧r.1.ds.length≤bM∧r.1.ts.length≤bW)∧(kg w' w'.heap.size r.1.ds bY 0∧jZ w' w'.heap.size r.1.ts dV 0)∧Below w.heap.size w w'∧(N≤4096→r.2.1≠0→1≤r.2.2)
theorem O8 {s:List UInt8} (h: ¬ (Tk.scan s).2.1=0):parse s=((⟨[],[]⟩:Pr),((Tk.scan s).2.1:Int),((Tk.scan s).2.2:Int)):=by unfold parse; rw [if_neg h]
theorem SL {s:List UInt8} {rest:ak} (h:(Tk.scan s).2.1=0) (h1:prog (Tk.scan s).1= .no rest):parse s=(⟨[],[]⟩,3,bR (Tk.scan s).1 rest):=by unfold parse; rw [if_pos h,h1]
theorem Q0 {s:List UInt8} {p:Pr} {rest:ak} (h:(Tk.scan s).2.1=0) (h1:prog (Tk.scan s).1= .ok p rest) (h2:(p.ts.isEmpty || !rest.isEmpty)=true):parse s=(⟨[],[]⟩,3,bR (Tk.scan s).1 rest):=by
 unfold parse; rw [if_pos h,h1]; exact if_pos h2
theorem MF {s:List UInt8} {p:Pr} {rest:ak} (h:(Tk.scan s).2.1=0) (h1:prog (Tk.scan s).1= .ok p rest) (h2:(p.ts.isEmpty || !rest.isEmpty)=false):parse s=(p,0,0):=by
 unfold parse; rw [if_pos h,h1]; exact if_neg (by rw [h2]; decide)
theorem Kk {ts rest:ak} (h: ∀t ∈ ts,TL 4097 t) {pos:Nat} (hd:ts.drop pos=rest):(1:Int)≤bR ts rest:=by
 unfold bR
 cases rest with
 | cons t r=>
   have:=(h t (List.mem_of_mem_drop (by rw [hd]; exact List.mem_cons_self))).1.1
   dsimp only; omega
 | nil=>
   dsimp only
   cases hl:ts.getLast? with
   | none=>decide
   | some t=>have:=(h t (List.mem_of_getLast? hl)).1.1; dsimp only; omega
theorem yV {N:Nat} {w W:World} {r:Pr × Int × Int} {n l:Int} (e:r=(⟨[],[]⟩,n,l)) (hb:Below w.heap.size w W) (hln:N≤4096→n≠0→1≤l):F7 N w r (.returned (.tuple #[.agg #[.slice none 0 0,.slice none 0 0],.int .i64 n,.int .i64 l])) W:=by
 subst e
 exact ⟨none,0,none,0,rfl,⟨Nat.zero_le _,Nat.zero_le _,Nat.le_refl _,Nat.le_refl _⟩,⟨trivial,trivial⟩,hb,hln⟩
theorem MZ {w W:World} (h:Below w.heap.size w W) (o:Nat) (vs:List Value):Below w.heap.size w (W.setCells w.heap.size o vs):=
 ⟨(aP w.heap.size vs o W).os.trans h.os,(aP w.heap.size vs o W).tape.trans h.tape,(aP w.heap.size vs o W).output.trans h.output,Nat.le_trans h.size (aP w.heap.size vs o W).size,fun k hk=>((aP w.heap.size vs o W).block k (Nat.lt_of_lt_of_le hk h.size) (by simp; omega)).trans (h.block k hk)⟩
theorem O4 {w W:World} {res:Pr × Int × Int} {p:Pr} {a a':Option Addr} {n c n' c':Nat} (e:res=(p,0,0)) (hn:n=p.ds.length) (hn':n'=p.ts.length) (hl:n≤4096∧n'≤4096∧n≤c∧n'≤c') (hst:kg W W.heap.size p.ds a 0∧jZ W W.heap.size p.ts a' 0) (hb:Below w.heap.size w W) {N:Nat} :
 F7 N w res (.returned (.tuple #[.agg #[.slice a n c,.slice a' n' c'],.int .i64 0,.int .i64 0])) W:=by
 subst e; subst hn; subst hn'
 exact ⟨a,c,a',c',rfl,hl,hst,hb,fun _ h=>absurd rfl h⟩
def XV (R:Rp) (w:World) (ts:ak) (res:Pr × Int × Int) (e:Ending) (w':World):Prop:=
 ∃(r:ak) (a:Option Addr) (n c:Nat) (a':Option Addr) (n' c':Nat) (b:Bool),e= .returned (.tuple #[.agg #[.slice a n c,.slice a' n' c'],.bool b])∧aY w' R r∧w.grownBy w' (some R.br)∧
  ((b && r.isEmpty)=false→res=(⟨[],[]⟩,3,bR ts r))∧
  ((b && r.isEmpty)=true→ ∃p:Pr,res=(p,0,0)∧n=p.ds.length∧n'=p.ts.length∧(n≤4096∧n'≤4096∧n≤c∧n'≤c')∧bJ w.heap.size w' (fun w2=>kg w2 w2.heap.size p.ds a 0∧jZ w2 w2.heap.size p.ts a' 0))
theorem aa4 {R:Rp} {w w':World} {ts:ak} {res:Pr × Int × Int} {e:Ending} {pr:bg Pr}
 (h2: ∀rest,pr= .no rest→res=(⟨[],[]⟩,3,bR ts rest))
 (h3: ∀p rest,pr= .ok p rest→(p.ts.isEmpty || !rest.isEmpty)=true→res=(⟨[],[]⟩,3,bR ts rest))
 (h4: ∀p rest,pr= .ok p rest→(p.ts.isEmpty || !rest.isEmpty)=false→res=(p,0,0)) (h:N8 R w pr e w'):XV R w ts res e w':=by
 cases pr with
 | no r=>
   obtain ⟨⟨a,n,c,a',n',c',he⟩,hr,hg⟩:=h
   exact ⟨r,a,n,c,a',n',c',false,he,hr,hg,fun _=>h2 r rfl,fun h=>by simp at h⟩
 | ok p r=>
   obtain ⟨⟨bY,bM,dV,bW,he,hl,hst⟩,hr,hg⟩:=h
   refine ⟨r,bY,_,bM,dV,_,bW,_,he,hr,hg,fun h=>h3 p r rfl ?_,fun h=>⟨p,h4 p r rfl ?_,rfl,rfl,hl,hst⟩⟩
   ·cases hp:p.ts.isEmpty <;> cases hq:r.isEmpty <;> simp_all
   ·cases hp:p.ts.isEmpty <;> cases hq:r.isEmpty <;> simp_all
def qW (w:World) (ao:Option Addr) (cap:Nat) (ts:ak):Rp:=⟨w.heap.size,w.heap.size,ao,cap,ts,Nat.le_refl _⟩
theorem PN {w W:World} {ao:Option Addr} {cap:Nat} {ts:ak} (hW:w.alloc (.cells #[.slice ao ts.length cap,.int .i64 0] 76)=W) (ht:oI w w.heap.size ts ao 0) (ok: ∀t ∈ ts,xK t) (tl:(∀t ∈ ts,TL 4097 t)∧ts.length≤4096):aY W (qW w ao cap ts) ts:=by
 subst hW
 exact ⟨⟨0,Nat.zero_le _,rfl,heap_alloc_new _ _⟩,ht.below (ah _ _),⟨ok,tl.2⟩,tl.1⟩
theorem Gd (s:ByteArray) (w:World) (jJ:eT w) (hm:s.size≤maxLen):
 Calls Tryz.prog 11 #[.string s] w (F7 s.size w (parse s.data.toList)):=by
 have oq:=Lib.hid jJ
 have FU:=Lib.hid (FJ s.data.toList)
 have uN:=Lib.hid (EZ s.data.toList)
 obtain ⟨res,fG⟩: ∃res,Hid (parse s.data.toList=res):=⟨_,Lib.hid rfl⟩
 have qI:Hid (¬ (Tk.scan s.data.toList).2.1=0→res=((⟨[],[]⟩:Pr),((Tk.scan s.data.toList).2.1:Int),((Tk.scan s.data.toList).2.2:Int))):=Lib.hid (fun h=>fG.out.symm.trans (O8 h))
 have HE2:Hid (∀rest,(Tk.scan s.data.toList).2.1=0→prog (Tk.scan s.data.toList).1= .no rest→res=(⟨[],[]⟩,3,bR (Tk.scan s.data.toList).1 rest)):=Lib.hid (fun rest h h1=>fG.out.symm.trans (SL h h1))
 have iI:Hid (∀p rest,(Tk.scan s.data.toList).2.1=0→prog (Tk.scan s.data.toList).1= .ok p rest→(p.ts.isEmpty || !rest.isEmpty)=true→res=(⟨[],[]⟩,3,bR (Tk.scan s.data.toList).1 rest)):=Lib.hid (fun p rest h h1 h2=>fG.out.symm.trans (Q0 h h1 h2))
 have Ck:Hid (∀p rest,(Tk.scan s.data.toList).2.1=0→prog (Tk.scan s.data.toList).1= .ok p rest→(p.ts.isEmpty || !rest.isEmpty)=false→res=(p,0,0)):=Lib.hid (fun p rest h h1 h2=>fG.out.symm.trans (MF h h1 h2))
 have xH:Hid (∀w,eT w→Calls Tryz.prog 32 #[.string s] w (vW w (Tk.scan s.data.toList))):=Lib.hid (fun w h=>IU s w h hm)
 rw [fG.out]
 clear fG jJ hm
 generalize Tk.scan s.data.toList=sc at *
 go_enter Tryz.func11,Tryz.ntmps11
 go_upto_region 1 with fail
 generalize hW:World.alloc w _=W0
 have HB0:Hid (Below w.heap.size w W0):=Lib.hid (by rw [← hW]; exact ah _ _)
 have HZ0:Hid (W0.heap[w.heap.size]? =some (.cells Bo 26 (0,0))):=Lib.hid (by rw [← hW]; exact heap_alloc_new _ _)
 clear hW
 go_wp2_with fail
 refine (xH.out _ (oq.out.same HB0.out)).mono ?_
 rintro e w1 ⟨v,rfl,hown,hb⟩
 obtain ⟨ao,cap,rfl,htk⟩:=BG hown
 have Aj:=Lib.hid htk
 have HB1:=Lib.hid (HB0.out.trans (hb.mono HB0.out.size))
 have HZ1:=Lib.hid ((hb.block _ (Array.getElem?_eq_some_iff.1 HZ0.out).1).trans HZ0.out)
 clear hown hb htk xH HB0 HZ0
 have y0:w1.cell? ⟨w.heap.size,0,none⟩=some (.slice none 0 0):=aj HZ1.out rfl
 have y1:w1.cell? ⟨w.heap.size,1,none⟩=some (.slice none 0 0):=aj HZ1.out rfl
 have f0:w1.frozen? ⟨w.heap.size,0,none⟩=false:=aF HZ1.out
 have f1:w1.frozen? ⟨w.heap.size,1,none⟩=false:=aF HZ1.out
 have hlt:w.heap.size < w1.heap.size:=(Array.getElem?_eq_some_iff.1 HZ1.out).1
 by_cases h0:sc.2.1=0
 ·have QO:Hid (∀(R:Rp) (wr:World),aY wr R sc.1→Calls Tryz.prog 33 #[.pointer (some ⟨R.br,0,none⟩)] wr (XV R wr sc.1 res)):=Lib.hid (fun R wr h=>(KC R sc.1 wr h).mono (fun e w' hp=>aa4 (fun r=>HE2.out r h0) (fun p r=>iI.out p r h0) (fun p r=>Ck.out p r h0) hp))
  have zA:=Lib.hid (And.intro uN.out.1 uN.out.2.1)
  rw [h0]
  go_upto_region 5 with fail
  generalize hW:World.alloc w1 _=W1
  have HR1:=Lib.hid (PN hW Aj.out FU.out zA.out)
  have HB2:Hid (Below w.heap.size w W1):=Lib.hid (by rw [← hW]; exact HB1.out.trans ((ah w1 _).mono HB1.out.size))
  have HZ2:Hid (W1.heap[w.heap.size]? =some (.cells Bo 26 (0,0))):=Lib.hid (by rw [← hW]; exact ((ah w1 _).block _ hlt).trans HZ1.out)
  clear hW y0 y1 f0 f1 qI HE2 iI Ck uN FU oq Aj zA HB1 HZ1
  go_wp2_with fail
  refine (QO.out _ _ HR1.out).mono ?_
  rintro e w2 ⟨r,a,n,c,a',n',c',b,rfl,h1,h2,h3,h4⟩
  go_upto_region 6 with fail
  generalize hW:World.alloc w2 _=W3
  have H3:=Lib.hid h3
  have H4:=Lib.hid h4
  have HG:=Lib.hid h2
  have HB3:Hid (Below w.heap.size w W3):=Lib.hid (by rw [← hW]; exact (HB2.out.trans (fu h2 (Nat.le_of_lt hlt) HB2.out.size)).trans ((ah w2 _).mono (Nat.le_trans HB2.out.size h2.size)))
  have A8:Hid (Below w2.heap.size w2 W3):=Lib.hid (by rw [← hW]; exact ah w2 _)
  have HR3:Hid (aY W3 (qW w1 ao cap sc.1) r):=Lib.hid (h1.below A8.out)
  have HZ3:Hid (W3.heap[w.heap.size]? =some (.cells Bo 26 (0,0))):=Lib.hid (by
   have k1:=(Array.getElem?_eq_some_iff.1 HZ2.out).1
   exact (A8.out.block _ (Nat.lt_of_lt_of_le k1 h2.size)).trans ((h2.block _ k1 (by simp [qW]; omega)).trans HZ2.out))
  have HD3:Hid (W3.heap[w2.heap.size]? =some (.cells #[.slice a n c,.slice a' n' c'] 26 (0,0))):=Lib.hid (by rw [← hW]; exact heap_alloc_new _ _)
  obtain ⟨pos,hpos,hdrop,c0,c1⟩:=HR3.out.pos
  have c0:W3.cell? ⟨w1.heap.size,0,none⟩=some (.slice ao sc.1.length cap):=c0
  have c1:W3.cell? ⟨w1.heap.size,1,none⟩=some (.int .i64 (pos:Int)):=c1
  have hpos:pos≤sc.1.length:=hpos
  have hdrop:sc.1.drop pos=r:=hdrop
  have hlt3:w.heap.size < W3.heap.size:=(Array.getElem?_eq_some_iff.1 HZ3.out).1
  have NV:b=false∨(b=true∧r.isEmpty=false∧pos < sc.1.length)∨(b=true∧r.isEmpty=true∧ ¬ pos < sc.1.length):=by
   cases b
   ·exact .inl rfl
   ·right
    cases hr:r with
    | nil=>rw [hr] at hdrop; have:=List.drop_eq_nil_iff.1 hdrop; exact .inr ⟨rfl,rfl,by omega⟩
    | cons t q=>rw [hr] at hdrop; have:=congrArg List.length hdrop; simp at this; exact .inl ⟨rfl,rfl,by omega⟩
  have hltW:w.heap.size < W1.heap.size:=(Array.getElem?_eq_some_iff.1 HZ2.out).1
  clear hW h1 h2 h3 h4 QO HR1 HZ2 hpos hdrop
  rcases NV with hb | ⟨hb,hr,hq⟩ | ⟨hb,hr,hq⟩
  ·subst hb
   go_quiet (fail)
   generalize uh:World.drewN W3 _=W4
   have dh:Hid (Below W3.heap.size W3 W4):=Lib.hid (by rw [← uh]; exact below_drewN (Below.refl _ _) _)
   clear uh
   have HR4:=Lib.hid (HR3.out.below dh.out)
   go_wp2_with fail
   refine (zO _ r _ HR4.out).mono ?_
   rintro e w5 ⟨rfl,hb5⟩
   have iR:=Lib.hid (HB3.out.trans ((dh.out.trans (hb5.mono dh.out.size)).mono HB3.out.size))
   have iq:=Lib.hid ((hb5.block _ (Nat.lt_of_lt_of_le hlt3 dh.out.size)).trans ((dh.out.block _ hlt3).trans HZ3.out))
   clear hb5
   have y0:w5.cell? ⟨w.heap.size,0,none⟩=some (.slice none 0 0):=aj iq.out rfl
   have y1:w5.cell? ⟨w.heap.size,1,none⟩=some (.slice none 0 0):=aj iq.out rfl
   have f0:w5.frozen? ⟨w.heap.size,0,none⟩=false:=aF iq.out
   have f1:w5.frozen? ⟨w.heap.size,1,none⟩=false:=aF iq.out
   have Da:w.heap.size < w5.heap.size:=(Array.getElem?_eq_some_iff.1 iq.out).1
   have iX:=Lib.hid (H3.out rfl)
   go_wp2_with fail
   exact bodyPost_ret (v:= .tuple #[.agg #[.slice none 0 0,.slice none 0 0],.int .i64 3,.int .i64 (bR sc.1 r)]) (by simp [results,Tryz.results11,go_sem,y0,y1,Da,qW]) rfl (yV iX.out (bT (bT iR.out _ _ (Nat.le_refl _)) _ _ (Nat.le_refl _)) (fun _ _=>by obtain ⟨q,_,hq,_⟩:=HR4.out.blk; exact Kk HR4.out.tl hq))
  ·subst hb
   go_quiet (fail)
   generalize uh:World.drewN W3 _=W4
   have dh:Hid (Below W3.heap.size W3 W4):=Lib.hid (by rw [← uh]; exact below_drewN (Below.refl _ _) _)
   clear uh
   have HR4:=Lib.hid (HR3.out.below dh.out)
   go_wp2_with fail
   refine (zO _ r _ HR4.out).mono ?_
   rintro e w5 ⟨rfl,hb5⟩
   have iR:=Lib.hid (HB3.out.trans ((dh.out.trans (hb5.mono dh.out.size)).mono HB3.out.size))
   have iq:=Lib.hid ((hb5.block _ (Nat.lt_of_lt_of_le hlt3 dh.out.size)).trans ((dh.out.block _ hlt3).trans HZ3.out))
   clear hb5
   have y0:w5.cell? ⟨w.heap.size,0,none⟩=some (.slice none 0 0):=aj iq.out rfl
   have y1:w5.cell? ⟨w.heap.size,1,none⟩=some (.slice none 0 0):=aj iq.out rfl
   have f0:w5.frozen? ⟨w.heap.size,0,none⟩=false:=aF iq.out
   have f1:w5.frozen? ⟨w.heap.size,1,none⟩=false:=aF iq.out
   have Da:w.heap.size < w5.heap.size:=(Array.getElem?_eq_some_iff.1 iq.out).1
   have iX:=Lib.hid (H3.out (by rw [hr]; rfl))
   go_wp2_with fail
   exact bodyPost_ret (v:= .tuple #[.agg #[.slice none 0 0,.slice none 0 0],.int .i64 3,.int .i64 (bR sc.1 r)]) (by simp [results,Tryz.results11,go_sem,y0,y1,Da,qW]) rfl (yV iX.out (bT (bT iR.out _ _ (Nat.le_refl _)) _ _ (Nat.le_refl _)) (fun _ _=>by obtain ⟨q,_,hq,_⟩:=HR4.out.blk; exact Kk HR4.out.tl hq))
  ·subst hb
   obtain ⟨p,hres,hn,hn',hl,hst⟩:=H4.out (by rw [hr]; rfl)
   have HP:=Lib.hid (And.intro hres (And.intro hn (And.intro hn' (And.intro hl hst))))
   clear hres hn hn' hl hst
   go_quiet (fail)
   generalize uh:World.drewN W3 _=W4
   have dh:Hid (Below W3.heap.size W3 W4):=Lib.hid (by rw [← uh]; exact below_drewN (Below.refl _ _) _)
   clear uh
   have fK:=Lib.hid ((dh.out.block _ hlt3).trans HZ3.out)
   have HD4:=Lib.hid ((dh.out.block _ (Array.getElem?_eq_some_iff.1 HD3.out).1).trans HD3.out)
   have y0:W4.cell? ⟨w.heap.size,0,none⟩=some (.slice none 0 0):=aj fK.out rfl
   have y1:W4.cell? ⟨w.heap.size,1,none⟩=some (.slice none 0 0):=aj fK.out rfl
   have f0:W4.frozen? ⟨w.heap.size,0,none⟩=false:=aF fK.out
   have f1:W4.frozen? ⟨w.heap.size,1,none⟩=false:=aF fK.out
   have d0:W4.cell? ⟨w2.heap.size,0,none⟩=some (.slice a n c):=aj HD4.out rfl
   have d1:W4.cell? ⟨w2.heap.size,1,none⟩=some (.slice a' n' c'):=aj HD4.out rfl
   have sS:w.heap.size < W4.heap.size:=(Array.getElem?_eq_some_iff.1 fK.out).1
   go_wp2_with fail
   obtain ⟨hres,hn,hn',hl,hst⟩:=HP.out
   have hfin:dO W1.heap.size w2 ((W4.setCell ⟨w.heap.size,0,none⟩ (.slice a n c)).setCell ⟨w.heap.size,1,none⟩ (.slice a' n' c')):=
    ((aL (B:=W1.heap.size) (A8.out.trans (dh.out.mono A8.out.size))).trans (bH W4 _ _ hltW)).trans (bH _ _ _ hltW)
   exact bodyPost_ret (v:= .tuple #[.agg #[.slice a n c,.slice a' n' c'],.int .i64 0,.int .i64 0]) (by simp [results,Tryz.results11,go_sem,y0,y1,sS]) rfl (O4 hres hn hn' hl (hst.next hfin).now (bT (bT (HB3.out.trans (dh.out.mono HB3.out.size)) _ _ (Nat.le_refl _)) _ _ (Nat.le_refl _)))
 ·have hq:(((sc.2.1:Nat):Int) == 0)=false:=by rw [beq_eq_false_iff_ne]; omega
  have iX:=Lib.hid (qI.out h0)
  go_wp2_with fail
  exact bodyPost_ret (v:= .tuple #[.agg #[.slice none 0 0,.slice none 0 0],.int .i64 (sc.2.1:Int),.int .i64 (sc.2.2:Int)]) (by simp [results,Tryz.results11,go_sem,y0,y1,hlt]) rfl (yV iX.out (bT (bT HB1.out _ _ (Nat.le_refl _)) _ _ (Nat.le_refl _)) (fun hn h=>by have:=uN.out.2.2 h0 (by rw [← Lib.size_eq]; exact hn); omega))
end Go.Proofs.YtehnipchbmjlhaaGreatDoor
end
