/-
  Contract of the reader's thread.
  Contract of the reader's program.
  Contracts of parse.Parse and parse.Expr.
-/
import Derived.Test.YtehnipchbmjlhaaGreatDoorGRD
import Derived.Test.YtehnipchbmjlhaaGreatDoorGTC
set_option linter.unusedSimpArgs false
set_option linter.unusedVariables false
set_option maxHeartbeats 40000000
set_option maxRecDepth 1000000
section
namespace Go.Proofs.YtehnipchbmjlhaaGreatDoor
open Go.RowKit
open Md Pz
theorem Uf:(Tryz.prog.info? 9).map (fun i=>(i.zero,i.size,i.bytes))=some (some (.string ⟨#[]⟩),1,16):=by kernel_rfl
theorem XM: ∃i0,Tryz.prog.info? 9=some i0∧i0.zero=some (.string ⟨#[]⟩)∧i0.size=1∧i0.bytes=16:=info_parts Uf
theorem ai3 (k:Int) (s:ByteArray) (n:Int) (w:World):(Instr.field 112 (.agg #[.int .i64 k,.string s,.int .i64 n]) 0).run Tryz.prog w= .ok (.int .i64 k) w:=by kernel_rfl
theorem ae7 (k:Int) (s:ByteArray) (n:Int) (w:World):(Instr.field 112 (.agg #[.int .i64 k,.string s,.int .i64 n]) 1).run Tryz.prog w= .ok (.string s) w:=by kernel_rfl
theorem af2 (k:Int) (s:ByteArray) (n:Int) (w:World):(Instr.field 112 (.agg #[.int .i64 k,.string s,.int .i64 n]) 2).run Tryz.prog w= .ok (.int .i64 n) w:=by kernel_rfl
def qj (nm:ByteArray) (line:Int) (v b:Value):Value:= .agg #[.string nm,.int .i64 line,v,b]
def Qx (R:Rp) (w:World) (res:bn Th) (e:Ending) (w':World):Prop:=
 match res with
 | .ok t r=>(∃x:gZ,x.t=t∧e= .returned (.tuple #[.agg (gZ.f x).toArray,.bool true])∧(x.t.Ok∧x.t.bH.length≤x.dN)∧dB w.heap.size w' (gZ.I x))∧aW w' R r∧w.grownBy w' (some R.br)
 | .no r=>(∃nm line a n c a' n' c',e= .returned (.tuple #[qj nm line (.slice a n c) (.slice a' n' c'),.bool false]))∧aW w' R r∧w.grownBy w' (some R.br)
def KC:Array Value:= #[.string ⟨#[]⟩,.int .i64 0,.slice none 0 0,.slice none 0 0]
theorem FD {w:World} {b:Nat} {t:TypeId} (h:w.heap[b]? =some (.cells KC t (0,0))):
 (w.cell? ⟨b,0,none⟩=some (.string ⟨#[]⟩)∧w.cell? ⟨b,1,none⟩=some (.int .i64 0)∧w.cell? ⟨b,2,none⟩=some (.slice none 0 0)∧w.cell? ⟨b,3,none⟩=some (.slice none 0 0))∧ ∀j,w.frozen? ⟨b,j,none⟩=false:=
 ⟨⟨aG h rfl,aG h rfl,aG h rfl,aG h rfl⟩,fun _=>aK h⟩
structure Ps (R:Rp) (bt B:Nat) (w W:World) (nm:ByteArray) (line:Int) (v:Value) (l:List ByteArray) (rest:aA):Prop where
 rd:aW W R rest
 gr:w.grownBy W (some R.br)
 lt:R.br < w.heap.size∧w.heap.size < bt∧bt < B∧B≤W.heap.size
 z:W.heap[w.heap.size]? =some (.cells KC 67 (0,0))
 blk:W.heap[bt]? =some (.cells #[.string nm,.int .i64 line,v,.slice none 0 0] 67 (0,0))
 row:vW B W v l
section
variable {R:Rp} {bt B:Nat} {w W W':World} {nm:ByteArray} {line:Int} {v:Value} {l:List ByteArray} {rest rest':aA}
theorem Ps.then (h:Ps R bt B w W nm line v l rest) (h1:aW W' R rest') (h2:W.grownBy W' (some R.br)):Ps R bt B w W' nm line v l rest':=
 ⟨h1,gD h.gr h2,⟨h.lt.1,h.lt.2.1,h.lt.2.2.1,Nat.le_trans h.lt.2.2.2 h2.size⟩,(h2.block _ (Array.getElem?_eq_some_iff.1 h.z).1 (by have:=h.lt; simp; omega)).trans h.z,(h2.block _ (Array.getElem?_eq_some_iff.1 h.blk).1 (by have:=h.lt; simp; omega)).trans h.blk,h.row.next (nL h2 (by have:=h.lt; omega))⟩
theorem Ps.below (h:Ps R bt B w W nm line v l rest) (hb:Below W.heap.size W W'):Ps R bt B w W' nm line v l rest:=h.then (h.rd.below hb) (bK hb)
theorem Ps.cells (h:Ps R bt B w W nm line v l rest):W.cell? ⟨bt,0,none⟩=some (.string nm)∧W.cell? ⟨bt,1,none⟩=some (.int .i64 line)∧W.cell? ⟨bt,2,none⟩=some v∧W.cell? ⟨bt,3,none⟩=some (.slice none 0 0)∧ ∀j,W.frozen? ⟨bt,j,none⟩=false:=
 ⟨aG h.blk rfl,aG h.blk rfl,aG h.blk rfl,aG h.blk rfl,fun _=>aK h.blk⟩
theorem Ps.name (h:Ps R bt B w W nm line v l rest) (s:ByteArray):Ps R bt B w (W.setCell ⟨bt,0,none⟩ (.string s)) s line v l rest:=
 ⟨nO h.rd _ _ (by have:=h.lt; have:=R.b0; show R.B0≤bt; omega) (by have:=h.lt; show bt≠R.br; omega),qC h.gr _ _ (by have:=h.lt; show _≤bt; omega),by have:=h.lt; simpa [World.setCell] using this,(bJ W _ _ rfl (by have:=h.lt; show bt≠_; omega)).trans h.z,by rw [bQ h.blk]; rfl,h.row.next (dO W ⟨bt,0,none⟩ _ h.lt.2.2.1)⟩
theorem Ps.bH {v':Value} {l':List ByteArray} (h:Ps R bt B w W nm line v l rest) (hr:aW W' R rest) (hg:w.grownBy W' (some R.br)) (hB:Below B W W') (hrow:vW B W' v' l'):Ps R bt B w (W'.setCell ⟨bt,2,none⟩ v') nm line v' l' rest:=
 ⟨nO hr _ _ (by have:=h.lt; have:=R.b0; show R.B0≤bt; omega) (by have:=h.lt; show bt≠R.br; omega),qC hg _ _ (by have:=h.lt; show _≤bt; omega),by have h1:=h.lt; have h2:=hB.size; simp [World.setCell]; omega,(bJ W' _ _ rfl (by have:=h.lt; show bt≠_; omega)).trans ((hB.block _ (by have:=h.lt; omega)).trans h.z),by rw [bQ ((hB.block _ h.lt.2.2.1).trans h.blk)]; rfl,hrow.next (dO W' ⟨bt,2,none⟩ _ h.lt.2.2.1)⟩
theorem Ps.uE (h:Ps R bt B w W nm line v l rest) (b:Value): ∀W',W.setCell ⟨bt,3,none⟩ b=W'→aW W' R rest∧w.grownBy W' (some R.br)∧W'.heap[w.heap.size]? =some (.cells KC 67 (0,0))∧W'.heap[bt]? =some (.cells #[.string nm,.int .i64 line,v,b] 67 (0,0)):=by
 intro W' hW
 subst hW
 exact ⟨nO h.rd _ _ (by have:=h.lt; have:=R.b0; show R.B0≤bt; omega) (by have:=h.lt; show bt≠R.br; omega),qC h.gr _ _ (by have:=h.lt; show _≤bt; omega),(bJ W _ _ rfl (by have:=h.lt; show bt≠_; omega)).trans h.z,by rw [bQ h.blk]; rfl⟩
theorem Ps.JY (h:Ps R bt B w W nm line v l rest):Ps R bt B w (W.setCell ⟨bt,3,none⟩ (.slice none 0 0)) nm line v l rest:=
 ⟨(h.uE _ _ rfl).1,(h.uE _ _ rfl).2.1,by have:=h.lt; simpa [World.setCell] using this,(h.uE _ _ rfl).2.2.1,(h.uE _ _ rfl).2.2.2,h.row.next (dO W ⟨bt,3,none⟩ _ h.lt.2.2.1)⟩
end
theorem yc {R:Rp} {w W:World} {nm:ByteArray} {line:Int} {a a':Option Addr} {n c n' c':Nat} {r:aA} {res:bn Th} (e:res= .no r) (hr:aW W R r) (hg:w.grownBy W (some R.br)) (hl:R.br < w.heap.size):
 Qx R w res (.returned (.tuple #[qj nm line (.slice a n c) (.slice a' n' c'),.bool false])) (W.setCells w.heap.size 0 [.string nm,.int .i64 line,.slice a n c,.slice a' n' c']):=by
 subst e
 exact ⟨⟨nm,line,a,n,c,a',n',c',rfl⟩,nC hr (bP _ _ _ _) (by have:=R.b0; omega) (by omega),jL hg _ _ _ (Nat.le_refl _)⟩
theorem NZ {R:Rp} {w W:World} {x:gZ} {r:aA} {res:bn Th} {B:Nat} (e:res= .ok x.t r) (hok:x.t.Ok∧x.t.bH.length≤x.dN) (hst:dB B W (gZ.I x)) (hB:w.heap.size < B) (hr:aW W R r) (hg:w.grownBy W (some R.br)) (hl:R.br < w.heap.size):
 Qx R w res (.returned (.tuple #[.agg (gZ.f x).toArray,.bool true])) (W.setCells w.heap.size 0 (gZ.f x)):=by
 subst e
 exact ⟨⟨x,rfl,rfl,hok,(hst.next ⟨(bP w.heap.size _ 0 W).size,fun k h1 h2=>(bP w.heap.size _ 0 W).block k h2 (by simp; omega)⟩).mono (Nat.le_of_lt hB)⟩,nC hr (bP _ _ _ _) (by have:=R.b0; omega) (by omega),jL hg _ _ _ (Nat.le_refl _)⟩
def E9 (r:aA):bn (List ByteArray):=if at' [41] r then .ok [] r.tail else (jI (r.length + 1) r).close [41]
def nA (nm:ByteArray) (line:Int) (l:List ByteArray) (r:aA):bn Th:=(blk (3 * r.length + 3) r).map fun b=>⟨nm,line,l,b⟩
theorem V9 (ts:aA):vk ts=(gu ts.tail).bind fun s r=>(need [40] r).bind fun _ r=>(E9 r).bind fun l r=>nA s (aZ ts) l r:=rfl
theorem Pn {f:Nat} {ts:aA} (h:isName ts=false):jI (f + 1) ts= .no ts:=by unfold jI; rw [nD h]; rfl
theorem Mr {f:Nat} {ts:aA} (h:isName ts=true) (h1:at' [44] ts.tail=true):jI (f + 1) ts=(jI f ts.tail.tail).map (tx (aF ts) :: ·):=by
 conv=>lhs; unfold jI
 rw [kK h]; show ite _ _ _=_; rw [if_pos h1]
theorem Lb {f:Nat} {ts:aA} (h:isName ts=true) (h1:at' [44] ts.tail=false):jI (f + 1) ts= .ok [tx (aF ts)] ts.tail:=by
 conv=>lhs; unfold jI
 rw [kK h]; show ite _ _ _=_; rw [if_neg (by rw [h1]; decide)]
def Sw (R:Rp) (bt:Nat) (w:World) (nm:ByteArray) (line:Int) (Ac:bn (List ByteArray)) (g:Nat) (wr:World):Prop:=
 ∃f l rest v,g=rest.length∧rest.length < f∧Ac=(jI f rest).map (l++ ·)∧Ps R bt (bt + 1) w wr nm line v l rest∧l.length + rest.length≤4096∧ ∀s ∈ l,s.size≤maxLen
theorem LY (R:Rp) (ts:aA) (w:World) (hI:aW w R ts) (hk:at' [116,104,114,101,97,100] ts=true):
 Calls Tryz.prog 69 #[.pointer (some ⟨R.br,0,none⟩)] w (Qx R w (vk ts)):=by
 have HI:=Lib.hid hI
 have HL:=Lib.hid (kg hI)
 have hlt:=hI.lt
 obtain ⟨t0,r0,hr⟩:=Jh hk
 have mY:=Lib.hid hr
 rw [V9]
 obtain ⟨res,je⟩: ∃res,Hid (((gu ts.tail).bind fun s r=>(need [40] r).bind fun _ r=>(E9 r).bind fun l r=>nA s (aZ ts) l r)=res):=⟨_,Lib.hid rfl⟩
 rw [je.out]
 clear hk hr
 have hf2:=af2
 go_enter Tryz.func69,Tryz.ntmps69
 go_upto_region 1 with fail
 generalize hW:World.alloc w _=W0
 have HB0:Hid (Below w.heap.size w W0):=Lib.hid (by rw [← hW]; exact ah _ _)
 have HZ0:Hid (W0.heap[w.heap.size]? =some (.cells KC 67 (0,0))):=Lib.hid (by rw [← hW]; exact heap_alloc_new _ _)
 have HN:=Lib.hid (gN R ts W0 (HI.out.below HB0.out))
 unfold kG at HN
 clear hW hI
 go_wp2_with fail
 refine HN.out.mono ?_
 rintro e w1 ⟨rfl,h2⟩
 have HB1:=Lib.hid (HB0.out.trans (h2.mono HB0.out.size))
 have HZ1:=Lib.hid ((h2.block _ (Array.getElem?_eq_some_iff.1 HZ0.out).1).trans HZ0.out)
 clear h2 HN HB0 HZ0
 go_upto_region 2 with fail
 obtain ⟨bt,hg⟩: ∃g,w1.heap.size=g:=⟨_,rfl⟩
 rw [hg]
 generalize hW:World.alloc w1 _=W2
 have HB2:Hid (Below w.heap.size w W2):=Lib.hid (by rw [← hW]; exact HB1.out.alloc HB1.out.size _)
 have bF:Hid (R.br < w.heap.size∧w.heap.size < bt):=Lib.hid ⟨hlt,by rw [← hg]; exact (Array.getElem?_eq_some_iff.1 HZ1.out).1⟩
 have HS2:Hid (Ps R bt (bt + 1) w W2 ⟨#[]⟩ ((aZ ts:Nat):Int) (.slice none 0 0) [] ts):=Lib.hid ⟨HI.out.below HB2.out,bK HB2.out,⟨hlt,bF.out.2,Nat.lt_succ_self _,by rw [← hW]; simp; omega⟩,by rw [← hW]; exact (heap_alloc_old _ _ (Array.getElem?_eq_some_iff.1 HZ1.out).1).trans HZ1.out,by rw [← hW,← hg]; exact heap_alloc_new _ _,Grow.nil _ _ _ _ _ _⟩
 obtain ⟨pos,hp,q0,q1,fq,HX⟩:=HS2.out.rd.open
 clear hW hg HB1 HZ1 HB2
 go_upto_region 3 with fail
 generalize hW:World.setCell W2 _ _=W3
 have HQ:Hid (aW W3 R ts.tail∧W2.grownBy W3 (some R.br)):=Lib.hid (by rw [← hW,mY.out]; exact HX.out t0 r0 mY.out)
 have jG:=Lib.hid (HS2.out.then HQ.out.1 HQ.out.2)
 clear hW q0 q1 fq HX HQ HS2
 cases hn:isName ts.tail
 ·have HE:Hid (res= .no ts.tail):=Lib.hid (je.out.symm.trans (by rw [nD hn]; rfl))
  go_wp2_with fail
  refine (jZ R _ _ hn jG.out.rd).mono ?_
  rintro e w4 ⟨rfl,h2⟩
  have IZ:=Lib.hid (jG.out.below h2)
  clear h2 jG
  obtain ⟨c0,c1,c2,c3,fc⟩:=IZ.out.cells
  have Xz:=fc 0
  go_upto_region 5 with fail
  generalize hW:World.setCell w4 _ _=W5
  have zO:Hid (Ps R bt (bt + 1) w W5 ⟨#[]⟩ ((aZ ts:Nat):Int) (.slice none 0 0) [] ts.tail):=Lib.hid (by rw [← hW]; exact IZ.out.name _)
  clear hW c0 c1 c2 c3 fc Xz IZ
  obtain ⟨c0,c1,c2,c3,fc⟩:=zO.out.cells
  obtain ⟨⟨y0,y1,y2,y3⟩,fz⟩:=FD zO.out.z
  have g0:=fz 0
  have g1:=fz 1
  have g2:=fz 2
  have g3:=fz 3
  clear fc fz
  go_wp2_with fail
  exact bodyPost_ret (v:= .tuple #[qj _ _ _ _,.bool false]) (by simp [results,Tryz.results69,go_sem,qj,y0,y1,y2,y3]) rfl (yc HE.out zO.out.rd zO.out.gr bF.out.1)
 ·have qA:Hid ((tx (aF ts.tail)).size≤maxLen):=Lib.hid (mH (mK jG.out.rd.ts hn))
  have xZ:Hid (res=(need [40] ts.tail.tail).bind fun _ r=>(E9 r).bind fun l r=>nA (tx (aF ts.tail)) (aZ ts) l r):=Lib.hid (je.out.symm.trans (by rw [kK hn]; rfl))
  go_wp2_with fail
  refine (jf R _ _ hn jG.out.rd).mono ?_
  rintro e w4 ⟨rfl,h2,h3⟩
  have IZ:=Lib.hid (jG.out.then h2 h3)
  clear h2 h3 jG
  obtain ⟨c0,c1,c2,c3,fc⟩:=IZ.out.cells
  have Xz:=fc 0
  go_upto_region 5 with fail
  generalize hW:World.setCell w4 _ _=W5
  have zO:Hid (Ps R bt (bt + 1) w W5 (tx (aF ts.tail)) ((aZ ts:Nat):Int) (.slice none 0 0) [] ts.tail.tail):=Lib.hid (by rw [← hW]; exact IZ.out.name _)
  clear hW c0 c1 c2 c3 fc Xz IZ
  cases h4:at' [40] ts.tail.tail
  ·have HE:=Lib.hid (xZ.out.trans (by rw [yE h4]:_=bn.bind (bn.no ts.tail.tail) _))
   go_wp2_with fail
   refine (dK R _ _ ⟨#[40]⟩ rfl h4 zO.out.rd).mono ?_
   rintro e w6 ⟨rfl,h2⟩
   have eu:=Lib.hid (zO.out.below h2)
   clear h2 zO
   obtain ⟨c0,c1,c2,c3,fc⟩:=eu.out.cells
   obtain ⟨⟨y0,y1,y2,y3⟩,fz⟩:=FD eu.out.z
   have g0:=fz 0
   have g1:=fz 1
   have g2:=fz 2
   have g3:=fz 3
   clear fc fz
   go_wp2_with fail
   exact bodyPost_ret (v:= .tuple #[qj _ _ _ _,.bool false]) (by simp [results,Tryz.results69,go_sem,qj,y0,y1,y2,y3]) rfl (yc HE.out eu.out.rd eu.out.gr bF.out.1)
  ·have uN:Hid (res=(E9 ts.tail.tail.tail).bind fun l r=>nA (tx (aF ts.tail)) (aZ ts) l r):=Lib.hid (xZ.out.trans (by rw [yG h4]; rfl))
   clear xZ
   go_wp2_with fail
   refine (bW R _ _ ⟨#[40]⟩ rfl h4 zO.out.rd).mono ?_
   rintro e w6 ⟨rfl,h2,h3⟩
   have eu:=Lib.hid (zO.out.then h2 h3)
   clear h2 h3 zO
   obtain ⟨r6,MU⟩: ∃r6,Hid (ts.tail.tail.tail=r6):=⟨_,Lib.hid rfl⟩
   rw [MU.out] at eu uN
   cases h5:at' [41] r6
   ·have HE2:Hid (res=((jI (r6.length + 1) r6).close [41]).bind fun l r=>nA (tx (aF ts.tail)) (aZ ts) l r):=Lib.hid (uN.out.trans (by unfold E9; rw [if_neg (by rw [h5]; decide)]))
    obtain ⟨Ac,Yu⟩: ∃Ac,Hid (jI (r6.length + 1) r6=Ac):=⟨_,Lib.hid rfl⟩
    rw [Yu.out] at HE2
    obtain ⟨i0,hi,hz0,hz1,hz2⟩:=XM
    have jD:=Lib.hid (And.intro hi (And.intro hz0 (And.intro hz1 hz2)))
    clear hi hz0 hz1 hz2
    go_wp2_with fail
    refine (dK R _ _ ⟨#[41]⟩ rfl h5 eu.out.rd).mono ?_
    rintro e w7 ⟨rfl,h2⟩
    have tX:Hid (Sw R bt w (tx (aF ts.tail)) ((aZ ts:Nat):Int) Ac r6.length w7):=Lib.hid ⟨r6.length + 1,[],r6,_,rfl,Nat.lt_succ_self _,by rw [← Yu.out]; cases jI (r6.length + 1) r6 <;> rfl,eu.out.below h2,by have:=eu.out.rd.len; simp; omega,by simp⟩
    clear h2 eu Yu
    go_wp2_with fail
    go_loopg [6] r6.length (fun gk _ wr=>Sw R bt w (tx (aF ts.tail)) ((aZ ts:Nat):Int) Ac gk wr)
    case atStart=>exact tX.out
    case round=>
     obtain ⟨f,l,rest,v,rfl,hf,hres,hs,hll,hsz⟩:=hrel
     obtain ⟨f,rfl⟩: ∃n,f=n + 1:=⟨f - 1,by omega⟩
     have HF:=Lib.hid hf
     have nU:=Lib.hid hres
     have HS:=Lib.hid hs
     have tO:=Lib.hid hll
     have jV:=Lib.hid hsz
     obtain ⟨av,cv,hv⟩:=hs.row.len
     clear hf hres hs hll hsz tX
     subst hv
     cases hm:isName rest
     ·have nM:Hid (res= .no rest):=Lib.hid (HE2.out.trans (by rw [nU.out,Pn hm]; rfl))
      go_wp2_with fail
      refine (jZ R _ _ hm HS.out.rd).mono ?_
      rintro e w8 ⟨rfl,h2⟩
      have gI:=Lib.hid (HS.out.below h2)
      clear h2 HS
      obtain ⟨c0,c1,c2,c3,fc⟩:=gI.out.cells
      obtain ⟨⟨y0,y1,y2,y3⟩,fz⟩:=FD gI.out.z
      have g0:=fz 0
      have g1:=fz 1
      have g2:=fz 2
      have g3:=fz 3
      clear fc fz
      go_wp2_with fail
      exact bodyPost_ret (v:= .tuple #[qj _ _ _ _,.bool false]) (by simp [results,Tryz.results69,go_sem,qj,y0,y1,y2,y3]) rfl (yc nM.out gI.out.rd gI.out.gr bF.out.1)
     ·have Er:Hid ((tx (aF rest)).size≤maxLen):=Lib.hid (mH (mK HS.out.rd.ts hm))
      have AL:=Lib.hid (vv hm)
      go_wp2_with fail
      refine (jf R _ _ hm HS.out.rd).mono ?_
      rintro e w8 ⟨rfl,h2,h3⟩
      have gI:=Lib.hid (HS.out.then h2 h3)
      clear h2 h3 HS
      obtain ⟨c0,c1,c2,c3,fc⟩:=gI.out.cells
      go_upto_region 11 with fail
      obtain ⟨s0,Wm⟩: ∃s0,Hid (tx (aF rest)=s0):=⟨_,Lib.hid rfl⟩
      rw [Wm.out] at Er ⊢
      have oQ:=Lib.hid (gI.out.row.next (aY (ah w8 (.cells (sK s0).toArray 9))))
      have sD:=Lib.hid (mQ (heap_alloc_new w8 (.cells (sK s0).toArray 9)))
      obtain ⟨hi,hz0,hz1,hz2⟩:=jD.out
      have hbs:bt + 1≤w8.heap.size + 1:=Nat.le_succ_of_le gI.out.lt.2.2.2
      have hkl:l.length + 1≤maxLen:=by have:=tO.out; unfold maxLen; omega
      have Xv:(l.length + 1) * 16≤140737488355328:=by have:=tO.out; omega
      have fc2:=fc 2
      clear fc
      go_wp2_with (at_builtin; refine wpList_append_lies _ rfl _ _ 64 rfl (bt + 1) 9 i0 _ 1 16 Tryz.underlying64 hi hz0 hz1 hz2 rfl (by decide) _ _ _ rfl oQ.out.own ⟨w8.heap.size,0,none⟩ 1 1 (sK s0) rfl rfl sD.out (by simp [sK,Value.oneCell']) (by decide) hkl Xv (by simpa using hbs) _ rfl ?_)
      clear hi hz0 hz1 hz2
      intro g cap w9 hown hgr hmv hlt2
      have qY:Hid (∀k,(Value.slice av l.length cv).ownBlock=some k→bt + 1≤k):=Lib.hid (fun k hk=>(gI.out.row.lt k hk).1)
      have iW:Hid (Below (bt + 1) (w8.alloc (.cells (sK s0).toArray 9)) w9):=Lib.hid (pF hgr qY.out (by simpa using hbs))
      have rD:Hid (Below (bt + 1) w8 w9):=Lib.hid (((ah w8 (.cells (sK s0).toArray 9)).mono gI.out.lt.2.2.2).trans iW.out)
      have Fu:Hid (fT (bt + 1) (Value.slice av l.length cv).ownBlock (w8.alloc (.cells (sK s0).toArray 9)) (fun _=>True)):=Lib.hid (fun _ _=>trivial)
      have FN:=Lib.hid (oQ.out.push (x:=s0) Fu.out rfl hown hgr (by simpa using hmv))
      have EY:Hid (aW w9 R rest.tail):=Lib.hid (E8 (oC gI.out.rd _) hgr (fun k hk=>by have h1:=qY.out k hk; have h2:=bF.out; have h3:=R.b0; omega))
      have zT:Hid (w.grownBy w9 (some R.br)):=Lib.hid (Dn (pY gI.out.gr _) (iW.out.mono (by have:=bF.out; omega)))
      have qJ:w9.heap[bt]? =some (.cells #[.string (tx (aF ts.tail)),.int .i64 ((aZ ts:Nat):Int),.slice av l.length cv,.slice none 0 0] 67 (0,0)):=(rD.out.block _ (Nat.lt_succ_self _)).trans gI.out.blk
      have c2:w9.cell? ⟨bt,2,none⟩=some (.slice av l.length cv):=aG qJ rfl
      have f2:w9.frozen? ⟨bt,2,none⟩=false:=aK qJ
      clear hown hgr hmv hlt2 hbs hkl Xv Fu sD oQ iW qJ fc2
      go_upto_region 12 with fail
      generalize hW:World.setCell w9 _ _=FV
      have wX:Hid (Ps R bt (bt + 1) w FV (tx (aF ts.tail)) ((aZ ts:Nat):Int) (.slice (some ⟨g,0,none⟩) (l.length + 1) cap) (l++[s0]) rest.tail):=Lib.hid (by rw [← hW]; exact gI.out.bH EY.out zT.out rD.out FN.out)
      have KX:Hid (∀s ∈ l++[s0],s.size≤maxLen):=Lib.hid (fun y hy=>by
       rcases List.mem_append.1 hy with hy | hy
       ·exact jV.out y hy
       ·rw [List.mem_singleton.1 hy]; exact Er.out)
      clear hW c2 f2 gI EY zT rD FN qY
      cases h6:at' [44] rest.tail
      ·have BN:Hid (Ac= .ok (l++[s0]) rest.tail):=Lib.hid (nU.out.trans (by rw [Lb hm h6,Wm.out]; rfl))
       go_wp2_with fail
       refine (dK R _ _ ⟨#[44]⟩ rfl h6 wX.out.rd).mono ?_
       rintro e w11 ⟨rfl,h2⟩
       have Az:=Lib.hid (wX.out.below h2)
       clear h2 wX
       cases h7:at' [41] rest.tail
       ·have nM:Hid (res= .no rest.tail):=Lib.hid (HE2.out.trans (by rw [BN.out,nk h7]; rfl))
        go_wp2_with fail
        refine (dK R _ _ ⟨#[41]⟩ rfl h7 Az.out.rd).mono ?_
        rintro e w12 ⟨rfl,h2⟩
        have AV:=Lib.hid (Az.out.below h2)
        clear h2 Az
        obtain ⟨c0,c1,c2,c3,fc⟩:=AV.out.cells
        obtain ⟨⟨y0,y1,y2,y3⟩,fz⟩:=FD AV.out.z
        have g0:=fz 0
        have g1:=fz 1
        have g2:=fz 2
        have g3:=fz 3
        clear fc fz
        go_wp2_with fail
        exact bodyPost_ret (v:= .tuple #[qj _ _ _ _,.bool false]) (by simp [results,Tryz.results69,go_sem,qj,y0,y1,y2,y3]) rfl (yc nM.out AV.out.rd AV.out.gr bF.out.1)
       ·have nM:Hid (res=nA (tx (aF ts.tail)) ((aZ ts:Nat):Int) (l++[s0]) rest.tail.tail):=Lib.hid (HE2.out.trans (by rw [BN.out,nI h7]; rfl))
        have oP:Hid ((l++[s0]).length≤maxLen):=Lib.hid (by have:=tO.out; simp [maxLen]; omega)
        have Kz:Hid (l.length + 1=(l++[s0]).length):=Lib.hid (by simp)
        go_wp2_with fail
        refine (bW R _ _ ⟨#[41]⟩ rfl h7 Az.out.rd).mono ?_
        rintro e w12 ⟨rfl,h2,h3⟩
        have AV:=Lib.hid (Az.out.then h2 h3)
        clear h2 h3 Az
        obtain ⟨l',YG⟩: ∃l',Hid ((l++[s0])=l'):=⟨_,Lib.hid rfl⟩
        have fZ:Hid (∀s ∈ (l++[s0]),s.size≤maxLen):=Lib.hid KX.out
        have zD:=Lib.hid nM.out
        obtain ⟨v',MH⟩: ∃v',Hid (vW (bt + 1) _ v' (l++[s0])∧Ps R bt (bt + 1) w _ (tx (aF ts.tail)) ((aZ ts:Nat):Int) v' (l++[s0]) rest.tail.tail):=⟨_,Lib.hid ⟨AV.out.row,AV.out⟩⟩
        clear AV
        have xK:=Lib.hid MH.out.2
        clear MH
        rw [YG.out] at fZ zD xK oP
        have qo:Hid (∀W,aW W R rest.tail.tail→Calls Tryz.prog 111 #[.pointer (some ⟨R.br,0,none⟩)] W (Es R W (blk (3 * (rest.tail.tail).length + 3) rest.tail.tail))):=Lib.hid (fun W h=>Fh R _ _ (by omega) W h)
        have E5:Hid (∀q,blk (3 * (rest.tail.tail).length + 3) rest.tail.tail= .no q→nA (tx (aF ts.tail)) ((aZ ts:Nat):Int) l' rest.tail.tail= .no q):=Lib.hid (fun q h=>by unfold nA; rw [h]; rfl)
        have Gq:Hid (∀b q,blk (3 * (rest.tail.tail).length + 3) rest.tail.tail= .ok b q→nA (tx (aF ts.tail)) ((aZ ts:Nat):Int) l' rest.tail.tail= .ok ⟨tx (aF ts.tail),((aZ ts:Nat):Int),l',b⟩ q):=Lib.hid (fun b q h=>by unfold nA; rw [h]; rfl)
        generalize blk (3 * (rest.tail.tail).length + 3) rest.tail.tail=Qz at *
        go_wp2_with fail
        refine (qo.out _ xK.out.rd).mono ?_
        cases Qz with
        | no q=>
          rintro e w8 ⟨rfl,h2,h3⟩
          have nM:=Lib.hid (zD.out.trans (E5.out q rfl))
          obtain ⟨av,cv,hv⟩:=xK.out.row.len
          subst hv
          have gI:=Lib.hid (xK.out.then h2 h3)
          clear h2 h3 E5 Gq qo
          obtain ⟨c0,c1,c2,c3,fc⟩:=gI.out.cells
          have Jc:=fc 3
          go_upto_region 16 with fail
          generalize hW:World.setCell w8 _ _=W9
          have vM:Hid (Ps R bt (bt + 1) w W9 _ _ _ _ q):=Lib.hid (by rw [← hW]; exact gI.out.JY)
          clear hW c0 c1 c2 c3 fc Jc gI
          obtain ⟨c0,c1,c2,c3,fc⟩:=vM.out.cells
          obtain ⟨⟨y0,y1,y2,y3⟩,fz⟩:=FD vM.out.z
          have g0:=fz 0
          have g1:=fz 1
          have g2:=fz 2
          have g3:=fz 3
          clear fc fz
          go_wp2_with fail
          exact bodyPost_ret (v:= .tuple #[qj _ _ _ _,.bool false]) (by simp [results,Tryz.results69,go_sem,qj,y0,y1,y2,y3]) rfl (yc nM.out vM.out.rd vM.out.gr bF.out.1)
        | ok b q=>
          rintro e w8 ⟨⟨ao,cap,rfl,hl,hst⟩,h2,h3⟩
          have nM:=Lib.hid (zD.out.trans (Gq.out b q rfl))
          have gI:=Lib.hid (xK.out.then h2 h3)
          have rD:Hid (b.len≤maxLen∧dB (bt + 1) w8 (fun w2=>b.At w2 w2.heap.size ao 0)):=Lib.hid ⟨Nat.le_trans hl (by unfold maxLen; decide),hst.mono xK.out.lt.2.2.2⟩
          clear h2 h3 hl hst E5 Gq qo
          obtain ⟨fC,dN,hv,hcl,htx⟩:=gI.out.row.says fZ.out
          have HV:=Lib.hid hv
          have zB:=Lib.hid (And.intro hcl htx)
          clear hv hcl htx
          obtain ⟨c0,c1,c2,c3,fc⟩:=gI.out.cells
          have Jc:=fc 3
          go_upto_region 16 with fail
          generalize hW:World.setCell w8 _ _=W9
          have vJ:=Lib.hid (gI.out.uE (.slice ao b.len cap) W9 hW)
          have EN:Hid (gK (bt + 1) w8 W9):=Lib.hid (by rw [← hW]; exact dO w8 ⟨bt,3,none⟩ _ (Nat.lt_succ_self _))
          clear hW c0 c1 c2 c3 fc Jc
          have e0:W9.cell? ⟨bt,0,none⟩=some (.string (tx (aF ts.tail))):=aG vJ.out.2.2.2 rfl
          have e1:W9.cell? ⟨bt,1,none⟩=some (.int .i64 ((aZ ts:Nat):Int)):=aG vJ.out.2.2.2 rfl
          have e2:W9.cell? ⟨bt,2,none⟩=some (.slice fC (l').length dN):=(aG vJ.out.2.2.2 rfl).trans (congrArg some HV.out)
          have e3:W9.cell? ⟨bt,3,none⟩=some (.slice ao b.len cap):=aG vJ.out.2.2.2 rfl
          obtain ⟨⟨y0,y1,y2,y3⟩,fz⟩:=FD vJ.out.2.2.1
          have g0:=fz 0
          have g1:=fz 1
          have g2:=fz 2
          have g3:=fz 3
          clear fz
          go_wp2_with fail
          exact bodyPost_ret (v:= .tuple #[.agg (gZ.f ⟨⟨tx (aF ts.tail),((aZ ts:Nat):Int),l',b⟩,fC,dN,ao,cap⟩).toArray,.bool true]) (by simp [results,Tryz.results69,go_sem,gZ.f,y0,y1,y2,y3]) rfl (NZ (x:=⟨⟨tx (aF ts.tail),((aZ ts:Nat):Int),l',b⟩,fC,dN,ao,cap⟩) (B:=bt + 1) nM.out ⟨⟨qA.out,HL.out,oP.out,rD.out.1⟩,zB.out.1⟩ (fun w2 h2=>⟨zB.out.2 w2 (EN.out.trans h2),rD.out.2 w2 (EN.out.trans h2)⟩) (by have:=bF.out; omega) vJ.out.1 vJ.out.2.1 bF.out.1)
      ·have BN:Hid (Ac=(jI f rest.tail.tail).map ((l++[s0])++ ·)):=Lib.hid (nU.out.trans (by rw [Mr hm h6,Wm.out,kr]; exact Bd (fun a=>by simp)))
       go_wp2_with fail
       refine (bW R _ _ ⟨#[44]⟩ rfl h6 wX.out.rd).mono ?_
       rintro e w11 ⟨rfl,h2,h3⟩
       have Az:=Lib.hid (wX.out.then h2 h3)
       have HT2:=Lib.hid (at_len h6)
       clear h2 h3 wX
       go_wp2_with fail
       go_roundg rest.tail.tail.length
       case measure=>have:=AL.out; have:=HT2.out; omega
       case rel=>exact ⟨f,l++[s0],rest.tail.tail,_,rfl,by have:=HF.out; have:=AL.out; have:=HT2.out; omega,BN.out,Az.out,by have:=tO.out; have:=AL.out; have:=HT2.out; simp only [List.length_append,List.length_singleton]; omega,KX.out⟩
   ·have HE2:Hid (res=nA (tx (aF ts.tail)) ((aZ ts:Nat):Int) [] r6.tail):=Lib.hid (uN.out.trans (by unfold E9; rw [if_pos h5]; rfl))
    have oP:Hid (([]:List ByteArray).length≤maxLen):=Lib.hid (Nat.zero_le _)
    go_wp2_with fail
    refine (bW R _ _ ⟨#[41]⟩ rfl h5 eu.out.rd).mono ?_
    rintro e w7 ⟨rfl,h2,h3⟩
    have uX:=Lib.hid (eu.out.then h2 h3)
    clear h2 h3 eu
    obtain ⟨l',YG⟩: ∃l',Hid (([]:List ByteArray)=l'):=⟨_,Lib.hid rfl⟩
    have fZ:Hid (∀s ∈ ([]:List ByteArray),s.size≤maxLen):=Lib.hid (by simp)
    have zD:=Lib.hid HE2.out
    obtain ⟨v',MH⟩: ∃v',Hid (vW (bt + 1) _ v' ([]:List ByteArray)∧Ps R bt (bt + 1) w _ (tx (aF ts.tail)) ((aZ ts:Nat):Int) v' ([]:List ByteArray) r6.tail):=⟨_,Lib.hid ⟨uX.out.row,uX.out⟩⟩
    clear uX
    have xK:=Lib.hid MH.out.2
    clear MH
    rw [YG.out] at fZ zD xK oP
    have qo:Hid (∀W,aW W R r6.tail→Calls Tryz.prog 111 #[.pointer (some ⟨R.br,0,none⟩)] W (Es R W (blk (3 * (r6.tail).length + 3) r6.tail))):=Lib.hid (fun W h=>Fh R _ _ (by omega) W h)
    have E5:Hid (∀q,blk (3 * (r6.tail).length + 3) r6.tail= .no q→nA (tx (aF ts.tail)) ((aZ ts:Nat):Int) l' r6.tail= .no q):=Lib.hid (fun q h=>by unfold nA; rw [h]; rfl)
    have Gq:Hid (∀b q,blk (3 * (r6.tail).length + 3) r6.tail= .ok b q→nA (tx (aF ts.tail)) ((aZ ts:Nat):Int) l' r6.tail= .ok ⟨tx (aF ts.tail),((aZ ts:Nat):Int),l',b⟩ q):=Lib.hid (fun b q h=>by unfold nA; rw [h]; rfl)
    generalize blk (3 * (r6.tail).length + 3) r6.tail=Qz at *
    go_wp2_with fail
    refine (qo.out _ xK.out.rd).mono ?_
    cases Qz with
    | no q=>
      rintro e w8 ⟨rfl,h2,h3⟩
      have nM:=Lib.hid (zD.out.trans (E5.out q rfl))
      obtain ⟨av,cv,hv⟩:=xK.out.row.len
      subst hv
      have gI:=Lib.hid (xK.out.then h2 h3)
      clear h2 h3 E5 Gq qo
      obtain ⟨c0,c1,c2,c3,fc⟩:=gI.out.cells
      have Jc:=fc 3
      go_upto_region 16 with fail
      generalize hW:World.setCell w8 _ _=W9
      have vM:Hid (Ps R bt (bt + 1) w W9 _ _ _ _ q):=Lib.hid (by rw [← hW]; exact gI.out.JY)
      clear hW c0 c1 c2 c3 fc Jc gI
      obtain ⟨c0,c1,c2,c3,fc⟩:=vM.out.cells
      obtain ⟨⟨y0,y1,y2,y3⟩,fz⟩:=FD vM.out.z
      have g0:=fz 0
      have g1:=fz 1
      have g2:=fz 2
      have g3:=fz 3
      clear fc fz
      go_wp2_with fail
      exact bodyPost_ret (v:= .tuple #[qj _ _ _ _,.bool false]) (by simp [results,Tryz.results69,go_sem,qj,y0,y1,y2,y3]) rfl (yc nM.out vM.out.rd vM.out.gr bF.out.1)
    | ok b q=>
      rintro e w8 ⟨⟨ao,cap,rfl,hl,hst⟩,h2,h3⟩
      have nM:=Lib.hid (zD.out.trans (Gq.out b q rfl))
      have gI:=Lib.hid (xK.out.then h2 h3)
      have rD:Hid (b.len≤maxLen∧dB (bt + 1) w8 (fun w2=>b.At w2 w2.heap.size ao 0)):=Lib.hid ⟨Nat.le_trans hl (by unfold maxLen; decide),hst.mono xK.out.lt.2.2.2⟩
      clear h2 h3 hl hst E5 Gq qo
      obtain ⟨fC,dN,hv,hcl,htx⟩:=gI.out.row.says fZ.out
      have HV:=Lib.hid hv
      have zB:=Lib.hid (And.intro hcl htx)
      clear hv hcl htx
      obtain ⟨c0,c1,c2,c3,fc⟩:=gI.out.cells
      have Jc:=fc 3
      go_upto_region 16 with fail
      generalize hW:World.setCell w8 _ _=W9
      have vJ:=Lib.hid (gI.out.uE (.slice ao b.len cap) W9 hW)
      have EN:Hid (gK (bt + 1) w8 W9):=Lib.hid (by rw [← hW]; exact dO w8 ⟨bt,3,none⟩ _ (Nat.lt_succ_self _))
      clear hW c0 c1 c2 c3 fc Jc
      have e0:W9.cell? ⟨bt,0,none⟩=some (.string (tx (aF ts.tail))):=aG vJ.out.2.2.2 rfl
      have e1:W9.cell? ⟨bt,1,none⟩=some (.int .i64 ((aZ ts:Nat):Int)):=aG vJ.out.2.2.2 rfl
      have e2:W9.cell? ⟨bt,2,none⟩=some (.slice fC (l').length dN):=(aG vJ.out.2.2.2 rfl).trans (congrArg some HV.out)
      have e3:W9.cell? ⟨bt,3,none⟩=some (.slice ao b.len cap):=aG vJ.out.2.2.2 rfl
      obtain ⟨⟨y0,y1,y2,y3⟩,fz⟩:=FD vJ.out.2.2.1
      have g0:=fz 0
      have g1:=fz 1
      have g2:=fz 2
      have g3:=fz 3
      clear fz
      go_wp2_with fail
      exact bodyPost_ret (v:= .tuple #[.agg (gZ.f ⟨⟨tx (aF ts.tail),((aZ ts:Nat):Int),l',b⟩,fC,dN,ao,cap⟩).toArray,.bool true]) (by simp [results,Tryz.results69,go_sem,gZ.f,y0,y1,y2,y3]) rfl (NZ (x:=⟨⟨tx (aF ts.tail),((aZ ts:Nat):Int),l',b⟩,fC,dN,ao,cap⟩) (B:=bt + 1) nM.out ⟨⟨qA.out,HL.out,oP.out,rD.out.1⟩,zB.out.1⟩ (fun w2 h2=>⟨zB.out.2 w2 (EN.out.trans h2),rD.out.2 w2 (EN.out.trans h2)⟩) (by have:=bF.out; omega) vJ.out.1 vJ.out.2.1 bF.out.1)
end Go.Proofs.YtehnipchbmjlhaaGreatDoor
end
section
namespace Go.Proofs.YtehnipchbmjlhaaGreatDoor
open Go.RowKit
open Md Pz
theorem TW:(Tryz.prog.info? 62).map (fun i=>(i.zero,i.size,i.bytes))=some (some (.agg zF),6,64):=by kernel_rfl
theorem Xa: ∃i0,Tryz.prog.info? 62=some i0∧i0.zero=some (.agg zF)∧i0.size=6∧i0.bytes=64:=info_parts TW
theorem Ue:(Tryz.prog.info? 67).map (fun i=>(i.zero,i.size,i.bytes))=some (some (.agg KC),4,72):=by kernel_rfl
theorem VW: ∃i0,Tryz.prog.info? 67=some i0∧i0.zero=some (.agg KC)∧i0.size=4∧i0.bytes=72:=info_parts Ue
def Ml (R:Rp) (w:World) (res:bn Pr) (e:Ending) (w':World):Prop:=
 match res with
 | .ok p r=>(∃aH aC aI aD,e= .returned (.tuple #[.agg #[.slice aH p.ds.length aC,.slice aI p.ts.length aD],.bool (!p.ts.isEmpty)])∧(p.ds.length≤4096∧p.ts.length≤4096∧p.ds.length≤aC∧p.ts.length≤aD)∧dB w.heap.size w' (fun w2=>iL w2 w2.heap.size p.ds aH 0∧iI w2 w2.heap.size p.ts aI 0))∧aW w' R r∧w.grownBy w' (some R.br)
 | .no r=>(∃a n c a' n' c',e= .returned (.tuple #[.agg #[.slice a n c,.slice a' n' c'],.bool false]))∧aW w' R r∧w.grownBy w' (some R.br)
def Kc:Array Value:= #[.slice none 0 0,.slice none 0 0]
structure Pg (R:Rp) (bp:Nat) (w W:World) (vD vT:Value) (rest:aA):Prop where
 rd:aW W R rest
 gr:w.grownBy W (some R.br)
 lt:R.br < w.heap.size∧w.heap.size < bp∧bp < W.heap.size
 z:W.heap[w.heap.size]? =some (.cells Kc 26 (0,0))
 blk:W.heap[bp]? =some (.cells #[vD,vT] 26 (0,0))
section
variable {R:Rp} {bp:Nat} {w W W':World} {vD vT:Value} {rest rest':aA}
theorem Pg.then (h:Pg R bp w W vD vT rest) (h1:aW W' R rest') (h2:W.grownBy W' (some R.br)):Pg R bp w W' vD vT rest':=
 ⟨h1,gD h.gr h2,⟨h.lt.1,h.lt.2.1,Nat.lt_of_lt_of_le h.lt.2.2 h2.size⟩,(h2.block _ (Array.getElem?_eq_some_iff.1 h.z).1 (by have:=h.lt; simp; omega)).trans h.z,(h2.block _ (Array.getElem?_eq_some_iff.1 h.blk).1 (by have:=h.lt; simp; omega)).trans h.blk⟩
theorem Pg.below (h:Pg R bp w W vD vT rest) (hb:Below W.heap.size W W'):Pg R bp w W' vD vT rest:=h.then (h.rd.below hb) (bK hb)
theorem Pg.put (h:Pg R bp w W vD vT rest) (hr:aW W' R rest) (hg:w.grownBy W' (some R.br)) (hB:Below (bp + 1) W W') (j:Nat) (v BA vT':Value) (hy:(#[vD,vT]:Array Value).setIfInBounds j v= #[BA,vT']):Pg R bp w (W'.setCell ⟨bp,j,none⟩ v) BA vT' rest:=
 ⟨nO hr _ _ (by have:=h.lt; have:=R.b0; show R.B0≤bp; omega) (by have:=h.lt; show bp≠R.br; omega),qC hg _ _ (by have:=h.lt; show _≤bp; omega),by have h1:=h.lt; have h2:=hB.size; simp [World.setCell]; omega,(bJ W' _ _ rfl (by have:=h.lt; show bp≠_; omega)).trans ((hB.block _ (by have:=h.lt; omega)).trans h.z),by rw [bQ ((hB.block _ (Nat.lt_succ_self _)).trans h.blk),hy]⟩
theorem Pg.cells (h:Pg R bp w W vD vT rest):W.cell? ⟨bp,0,none⟩=some vD∧W.cell? ⟨bp,1,none⟩=some vT∧ ∀j,W.frozen? ⟨bp,j,none⟩=false:=
 ⟨aG h.blk rfl,aG h.blk rfl,fun _=>aK h.blk⟩
end
theorem z2p {w:World} {b:Nat} {t:TypeId} (h:w.heap[b]? =some (.cells Kc t (0,0))):
 w.cell? ⟨b,0,none⟩=some (.slice none 0 0)∧w.cell? ⟨b,1,none⟩=some (.slice none 0 0)∧w.frozen? ⟨b,0,none⟩=false∧w.frozen? ⟨b,1,none⟩=false:=
 ⟨aG h rfl,aG h rfl,aK h,aK h⟩
theorem N7 {R:Rp} {w W:World} {a a':Option Addr} {n c n' c':Nat} {r:aA} {res:bn Pr} (e:res= .no r) (hr:aW W R r) (hg:w.grownBy W (some R.br)) (hl:R.br < w.heap.size):
 Ml R w res (.returned (.tuple #[.agg #[.slice a n c,.slice a' n' c'],.bool false])) (W.setCells w.heap.size 0 [.slice a n c,.slice a' n' c']):=by
 subst e
 exact ⟨⟨a,n,c,a',n',c',rfl⟩,nC hr (bP _ _ _ _) (by have:=R.b0; omega) (by omega),jL hg _ _ _ (Nat.le_refl _)⟩
theorem TR:(Tryz.prog.info? 26).map (·.size)=some 2:=by kernel_rfl
theorem WC {R:Rp} {w W:World} {p:Pr} {aH aI:Option Addr} {aC aD:Nat} {r:aA} {res:bn Pr} {B:Nat} (e:res= .ok p r) (hl:p.ds.length≤4096∧p.ts.length≤4096∧p.ds.length≤aC∧p.ts.length≤aD)
 (hst:dB B W (fun w2=>iL w2 w2.heap.size p.ds aH 0∧iI w2 w2.heap.size p.ts aI 0)) (hB:w.heap.size < B) (hr:aW W R r) (hg:w.grownBy W (some R.br)) (hlt:R.br < w.heap.size):
 Ml R w res (.returned (.tuple #[.agg #[.slice aH p.ds.length aC,.slice aI p.ts.length aD],.bool (!p.ts.isEmpty)])) (W.setCells w.heap.size 0 [.slice aH p.ds.length aC,.slice aI p.ts.length aD]):=by
 subst e
 exact ⟨⟨aH,aC,aI,aD,rfl,hl,(hst.next ⟨(bP w.heap.size _ 0 W).size,fun k h1 h2=>(bP w.heap.size _ 0 W).block k h2 (by simp; omega)⟩).mono (Nat.le_of_lt hB)⟩,nC hr (bP _ _ _ _) (by have:=R.b0; omega) (by omega),jL hg _ _ _ (Nat.le_refl _)⟩
def tV (P S:World→Prop):List Bool→World→Prop
 | [x],w=>if x then S w else P w
 | _,_=>False
section
variable {P S:World→Prop} {c:List Bool} {w w':World} {k i:Nat}
theorem tV.bits (h:tV P S c w): ∃x,c=[x]:=by
 match c,h with
 | [x],_=>exact ⟨x,rfl⟩
 | [],h=>exact h.elim
 | _ ::_ ::_,h=>exact h.elim
theorem tV.skip (h1:(k == i)=false) (h:tV P S c w):tV P S (lg [k] c i) w:=by
 obtain ⟨x,rfl⟩:=h.bits
 simp only [lg,h1,Bool.or_false]; exact h
theorem tV.fire (h1:(k == i)=true) (h:S w):tV P S (lg [k] [false] i) w:=by
 simp only [lg,h1,Bool.or_true]; exact h
end
def Te (R:Rp) (bp:Nat) (w:World) (xq:bn (List De)) (g:Nat) (wr:World):Prop:=
 ∃f l rest vD,g=rest.length∧rest.length≤f∧xq=(kC f rest).map (l++ ·)∧Pg R bp w wr vD (.slice none 0 0) rest∧rY (bp + 1) wr vD l∧(∀d ∈ l,d.Ok)∧l.length + rest.length≤4096
def SX (R:Rp) (bp:Nat) (w W2:World) (vD:Value) (resT:bn (List Th)) (g:Nat) (wr:World):Prop:=
 ∃f l rest vT,g=rest.length∧rest.length≤f∧resT=(kX f rest).map ((l.map (·.t))++ ·)∧Pg R bp w wr vD vT rest∧gK (bp + 1) W2 wr∧vw W2.heap.size wr vT l∧(∀x ∈ l,x.t.Ok∧x.t.bH.length≤x.dN)∧l.length + rest.length≤4096
theorem Nu (rest:aA):isDecl rest=((((nextK rest:Nat):Int) == 3) && (jc (aF rest) != 0)):=by
 unfold isDecl; rw [sI 3]; rfl
theorem KZ {f:Nat} {ts:aA} (h:isDecl ts=false):kC f ts= .ok [] ts:=by
 cases f with
 | zero=>rfl
 | succ f=>unfold kC; rw [if_neg (by rw [h]; decide)]
theorem Oy {f:Nat} {ts r:aA} (h:isDecl ts=true) (h1:pQ ts= .no r):kC (f + 1) ts= .no r:=by unfold kC; rw [if_pos h,h1]; rfl
theorem NY {f:Nat} {ts r:aA} {d:De} (h:isDecl ts=true) (h1:pQ ts= .ok d r):kC (f + 1) ts=(kC f r).map (d :: ·):=by
 conv=>lhs; unfold kC
 rw [if_pos h,h1]; rfl
theorem O8 {f:Nat} {ts:aA} (h:at' [116,104,114,101,97,100] ts=false):kX f ts= .ok [] ts:=by
 cases f with
 | zero=>rfl
 | succ f=>unfold kX; rw [if_neg (by rw [h]; decide)]
theorem Rh {f:Nat} {ts r:aA} (h:at' [116,104,114,101,97,100] ts=true) (h1:vk ts= .no r):kX (f + 1) ts= .no r:=by unfold kX; rw [if_pos h,h1]; rfl
theorem R5 {f:Nat} {ts r:aA} {t:Th} (h:at' [116,104,114,101,97,100] ts=true) (h1:vk ts= .ok t r):kX (f + 1) ts=(kX f r).map (t :: ·):=by
 conv=>lhs; unfold kX
 rw [if_pos h,h1]; rfl
theorem gK.vF {B:Nat} {w w1 w2:World} (h:gK B w w1) (hb:Below w.heap.size w1 w2):gK B w w2:=⟨Nat.le_trans h.1 hb.size,fun k h1 h2=>(hb.block k h2).trans (h.2 k h1 h2)⟩
theorem Ux {R:Rp} {w:World} {ts:aA} {bp:Nat} (hI:aW w R ts) (hg:w.heap.size + 1=bp): ∀W,((w.alloc (.cells #[.slice none 0 0,.slice none 0 0] 26)).alloc (.cells #[.slice none 0 0,.slice none 0 0] 26))=W→Pg R bp w W (.slice none 0 0) (.slice none 0 0) ts:=by
 intro W hW
 have hb1:Below w.heap.size w (w.alloc (.cells #[.slice none 0 0,.slice none 0 0] 26)):=ah _ _
 have hz1:(w.alloc (.cells #[.slice none 0 0,.slice none 0 0] 26)).heap[w.heap.size]? =some (.cells Kc 26 (0,0)):=heap_alloc_new _ _
 have hs1:(w.alloc (.cells #[.slice none 0 0,.slice none 0 0] 26)).heap.size=bp:=by simp [hg]
 generalize w.alloc (.cells #[.slice none 0 0,.slice none 0 0] 26)=W1 at *
 have hb2:Below w.heap.size w W:=by rw [← hW]; exact hb1.alloc hb1.size _
 exact ⟨hI.below hb2,bK hb2,⟨hI.lt,by omega,by rw [← hW]; simp; omega⟩,by rw [← hW]; exact (heap_alloc_old _ _ (Array.getElem?_eq_some_iff.1 hz1).1).trans hz1,by rw [← hW,← hs1]; exact heap_alloc_new _ _⟩
theorem JH (R:Rp) (ts:aA) (w:World) (hI:aW w R ts):
 Calls Tryz.prog 33 #[.pointer (some ⟨R.br,0,none⟩)] w (Ml R w (prog ts)):=by
 have HI:=Lib.hid hI
 have bF:=Lib.hid hI.lt
 have HLEN:=Lib.hid hI.len
 obtain ⟨res,je⟩: ∃res,Hid (prog ts=res):=⟨_,Lib.hid rfl⟩
 obtain ⟨xq,Sn⟩: ∃xq,Hid (kC ts.length ts=xq):=⟨_,Lib.hid rfl⟩
 have xZ:Hid (res=xq.bind fun ds r=>(kX r.length r).map fun th=>⟨ds,th⟩):=Lib.hid (by rw [← je.out,← Sn.out]; rfl)
 rw [je.out]
 have hf0:=ai3
 have hf1:=ae7
 clear hI
 go_enter Tryz.func33,Tryz.ntmps33
 go_upto_block 0 with fail
 obtain ⟨bp,hg⟩: ∃g,w.heap.size + 1=g:=⟨_,rfl⟩
 rw [hg]
 generalize hW:World.alloc (World.alloc w _) _=W0
 have BK:Hid (Pg R bp w W0 (.slice none 0 0) (.slice none 0 0) ts):=Lib.hid (Ux HI.out hg W0 hW)
 clear hW hg
 go_cut [] (fun W'=> ∃l rest vD,xq= .ok l rest∧Pg R bp w W' vD (.slice none 0 0) rest∧rY (bp + 1) W' vD l∧(∀d ∈ l,d.Ok)∧l.length + rest.length≤4096)
 case first=>
  have tX:Hid (Te R bp w xq ts.length W0):=Lib.hid ⟨ts.length,[],ts,_,rfl,Nat.le_refl _,by rw [← Sn.out]; cases kC ts.length ts <;> rfl,BK.out,Grow.nil _ _ _ _ _ _,by simp,by have:=HLEN.out; simp; omega⟩
  obtain ⟨i0,hi,hz0,hz1,hz2⟩:=Xa
  have jD:=Lib.hid (And.intro hi (And.intro hz0 (And.intro hz1 hz2)))
  clear hi hz0 hz1 hz2 BK Sn
  go_wp2_with fail
  go_loopg [5,6] ts.length (fun gk _ _ wr=>Te R bp w xq gk wr)
  case atStart=>exact tX.out
  case round=>
   obtain ⟨f,l,rest,vD,rfl,hf,hres,hs,hg,hok,hll⟩:=hrel
   have HF:=Lib.hid hf
   have nU:=Lib.hid hres
   have HS:=Lib.hid hs
   have HG:=Lib.hid hg
   have gV:=Lib.hid hok
   have tO:=Lib.hid hll
   obtain ⟨av,cv,hv⟩:=hg.len
   have fZ:=Lib.hid (fun w hI=>gN R rest w hI)
   unfold kG at fZ
   have HDC:=Lib.hid (fun w=>AO (tx (aF rest)) (l:=aF rest) (EK _) w)
   clear hf hres hs hg hok hll tX
   subst hv
   go_upto_region 2 with fail
   go_cut [19] (fun s19 W'=>s19= .bool (isDecl rest)∧Below wr.heap.size wr W')
   case first=>
    have HE:=Lib.hid (Nu rest)
    generalize isDecl rest=b at *
    generalize ((nextK rest:Nat):Int)=k at *
    generalize tx (aF rest)=s at *
    generalize jc (aF rest)=dc at *
    cases hk:(k == 3)
    ·go_wp2_with fail
     refine (fZ.out _ HS.out.rd).mono ?_
     rintro e w1 ⟨rfl,h2⟩
     have HB1:=Lib.hid h2
     clear h2
     go_wp2_with fail
     go_meet
     exact ⟨by rw [HE.out,hk]; rfl,HB1.out⟩
    ·go_wp2_with fail
     refine (fZ.out _ HS.out.rd).mono ?_
     rintro e w1 ⟨rfl,h2⟩
     have HB1:=Lib.hid h2
     have HR1:=Lib.hid (HS.out.rd.below h2)
     clear h2
     go_wp2_with fail
     refine (fZ.out _ HR1.out).mono ?_
     rintro e w2 ⟨rfl,h2⟩
     have HB2:=Lib.hid (HB1.out.trans (h2.mono HB1.out.size))
     clear h2
     go_wp2_with fail
     refine (HDC.out _).mono ?_
     rintro e w3 ⟨rfl,rfl⟩
     go_wp2_with fail
     go_meet
     exact ⟨by rw [HE.out,hk]; rfl,HB2.out⟩
   obtain ⟨rfl,hB⟩:=hcut
   obtain ⟨W1,rfl⟩: ∃W:World,W=wc:=⟨_,rfl⟩
   have uT:=Lib.hid (HS.out.below hB)
   have oM:=Lib.hid (HG.out.next (aY hB))
   clear hB HS HG fZ HDC
   cases hd:isDecl rest
   ·have BN:Hid (xq= .ok l rest):=Lib.hid (nU.out.trans (by rw [KZ hd]; show bn.ok (l++[]) rest=_; rw [List.append_nil]))
    go_wp2_with fail
    go_meet
    exact ⟨l,rest,_,BN.out,uT.out,oM.out,gV.out,tO.out⟩
   ·have HC:=Lib.hid (CX R rest W1 uT.out.rd hd)
    go_wp2_with fail
    refine HC.out.mono ?_
    obtain ⟨f',hf'⟩: ∃f',f=f' + 1:=⟨f - 1,by
     have h1:=HF.out
     have h2:rest.length≠0:=fun e=>by rw [List.length_eq_zero_iff.1 e] at hd; exact absurd hd (by decide)
     omega⟩
    subst hf'
    have HN:Hid (∀r,pQ rest= .no r→res= .no r):=Lib.hid (fun r h=>xZ.out.trans (by rw [nU.out,Oy hd h]; rfl))
    have HO:Hid (∀d r,pQ rest= .ok d r→xq=(kC f' r).map ((l++[d])++ ·)∧r.length < rest.length):=Lib.hid (fun d r h=>⟨nU.out.trans (by rw [NY hd h,kr]; exact Bd (fun a=>by simp)),NA h⟩)
    clear nU HC
    generalize pQ rest=ag2 at *
    cases ag2 with
    | no r=>
      have nM:=Lib.hid (HN.out r rfl)
      clear HN HO
      rintro e w2 ⟨⟨d,rfl⟩,h2,h3⟩
      have HS2:=Lib.hid (uT.out.then h2 h3)
      clear h2 h3 uT oM
      unfold vU
      go_upto_region 4 with fail
      generalize hW:World.alloc w2 _=W3
      have jG:Hid (Pg R bp w W3 _ _ r):=Lib.hid (by rw [← hW]; exact HS2.out.below (ah _ _))
      clear hW HS2
      obtain ⟨c0,c1,fc⟩:=jG.out.cells
      obtain ⟨y0,y1,g0,g1⟩:=z2p jG.out.z
      clear fc
      go_wp2_with fail
      exact bodyPost_ret (v:= .tuple #[.agg #[.slice _ _ _,.slice _ _ _],.bool false]) (by simp [results,Tryz.results33,go_sem,y0,y1]) rfl (N7 nM.out jG.out.rd jG.out.gr bF.out)
    | ok d r=>
      have DW:=Lib.hid (HO.out d r rfl)
      clear HN HO
      rintro e w2 ⟨⟨zZ,rfl⟩,h2,h3⟩
      have Wq:=Lib.hid zZ
      have HS2:=Lib.hid (uT.out.then h2 h3)
      have HG2:=Lib.hid (oM.out.next (nL h3 (by have:=uT.out.lt; omega)))
      clear h2 h3 uT oM zZ
      unfold vU
      go_upto_region 4 with fail
      obtain ⟨gd,hg⟩: ∃g,w2.heap.size=g:=⟨_,rfl⟩
      generalize hW:World.alloc w2 _=W3
      have jG:Hid (Pg R bp w W3 _ _ r):=Lib.hid (by rw [← hW]; exact HS2.out.below (ah _ _))
      have tZ:Hid (rY (bp + 1) W3 _ l):=Lib.hid (by rw [← hW]; exact HG2.out.next (aY (ah _ _)))
      have HB3:Hid (W3.heap[gd]? =some (.cells (iA d).toArray 62 (0,0))):=Lib.hid (by rw [← hW,← hg]; exact heap_alloc_new _ _)
      rw [hg]
      clear hW hg HS2 HG2
      obtain ⟨e0,e1,e2,e3,e4,e5⟩:(W3.cell? ⟨gd,0,none⟩=some (.int .i64 d.kind)∧W3.cell? ⟨gd,1,none⟩=some (.int .i64 d.line)∧W3.cell? ⟨gd,2,none⟩=some (.string d.nm)∧W3.cell? ⟨gd,3,none⟩=some (.int .i64 d.size)∧W3.cell? ⟨gd,4,none⟩=some (.int .i64 d.init)∧W3.cell? ⟨gd,5,none⟩=some (.string d.on)):=⟨aG HB3.out rfl,aG HB3.out rfl,aG HB3.out rfl,aG HB3.out rfl,aG HB3.out rfl,aG HB3.out rfl⟩
      obtain ⟨c0,c1,fc⟩:=jG.out.cells
      clear fc
      have oQ:=Lib.hid (tZ.out.next (aY (ah W3 (.cells (iA d).toArray 62))))
      have sD:=Lib.hid (mQ (heap_alloc_new W3 (.cells (iA d).toArray 62)))
      obtain ⟨hi,hz0,hz1,hz2⟩:=jD.out
      have hbs:bp + 1≤W3.heap.size + 1:=by have:=jG.out.lt; omega
      have hkl:l.length + 1≤maxLen:=by have:=tO.out; unfold maxLen; omega
      have WH:(l.length + 1) * 64≤140737488355328:=by have:=tO.out; omega
      go_wp2_with (at_builtin; refine wpList_append_lies _ rfl _ _ 23 rfl (bp + 1) 62 i0 _ 6 64 Tryz.underlying23 hi hz0 hz1 hz2 rfl (by decide) _ _ _ rfl oQ.out.own ⟨W3.heap.size,0,none⟩ 1 1 (iA d) rfl rfl sD.out (by simp [iA,Value.oneCell']) (by decide) hkl WH (by simpa using hbs) _ rfl ?_)
      clear hi hz0 hz1 hz2
      intro g cap w9 hown hgr hmv hlt2
      have qY:Hid (∀k,(Value.slice av (l).length cv).ownBlock=some k→bp + 1≤k):=Lib.hid (fun k hk=>(tZ.out.lt k hk).1)
      have iW:Hid (Below (bp + 1) (W3.alloc (.cells (iA d).toArray 62)) w9):=Lib.hid (pF hgr qY.out (by simpa using hbs))
      have rD:Hid (Below (bp + 1) W3 w9):=Lib.hid (((ah W3 (.cells (iA d).toArray 62)).mono jG.out.lt.2.2).trans iW.out)
      have Fu:Hid (fT (bp + 1) (Value.slice av (l).length cv).ownBlock (W3.alloc (.cells (iA d).toArray 62)) (fun _=>True)):=Lib.hid (fun _ _=>trivial)
      have EY:Hid (aW w9 R r):=Lib.hid (E8 (oC jG.out.rd _) hgr (fun k hk=>by have h1:=qY.out k hk; have h2:=jG.out.lt; have h3:=R.b0; omega))
      have zT:Hid (w.grownBy w9 (some R.br)):=Lib.hid (Dn (pY jG.out.gr _) (iW.out.mono (by have:=jG.out.lt; omega)))
      have qJ:w9.heap[bp]? =some (.cells _ 26 (0,0)):=(rD.out.block _ (Nat.lt_succ_self _)).trans jG.out.blk
      have FN:=Lib.hid (oQ.out.push (x:=d) Fu.out rfl hown hgr (by simpa using hmv))
      have c0:w9.cell? ⟨bp,0,none⟩=some (.slice av l.length cv):=aG qJ rfl
      have f0:w9.frozen? ⟨bp,0,none⟩=false:=aK qJ
      clear hown hgr hmv hlt2 hbs hkl WH Fu sD oQ iW qJ e0 e1 e2 e3 e4 e5 c1
      go_wp2_with fail
      generalize hW:World.setCell w9 _ _=FV
      have wX:Hid (Pg R bp w FV (.slice (some ⟨g,0,none⟩) (l.length + 1) cap) (.slice none 0 0) r):=Lib.hid (by rw [← hW]; exact jG.out.put EY.out zT.out rD.out 0 _ _ _ rfl)
      have Pt:Hid (rY (bp + 1) FV (.slice (some ⟨g,0,none⟩) (l.length + 1) cap) (l++[d])):=Lib.hid (by rw [← hW]; exact FN.out.next (dO w9 ⟨bp,0,none⟩ _ (Nat.lt_succ_self _)))
      have KX:Hid (∀y ∈ l++[d],y.Ok):=Lib.hid (fun y hy=>by
       rcases List.mem_append.1 hy with hy | hy
       ·exact gV.out y hy
       ·rw [List.mem_singleton.1 hy]; exact Wq.out)
      clear hW c0 f0 jG EY zT rD FN qY tZ HB3
      go_roundg r.length
      case measure=>exact DW.out.2
      case rel=>exact ⟨f',l++[d],r,_,rfl,by have h1:=HF.out; have h2:=DW.out.2; omega,DW.out.1,wX.out,Pt.out,KX.out,by have h1:=tO.out; have h2:=DW.out.2; simp only [List.length_append,List.length_singleton]; omega⟩
 obtain ⟨l,rest,vD,hrd,hP,hG,zZ,hll⟩:=hcut
 obtain ⟨W2,rfl⟩: ∃W:World,W=wc:=⟨_,rfl⟩
 obtain ⟨aH,aC,hv,Tc,Yg⟩:=hG.says zZ
 subst hv
 have aT:=Lib.hid hP
 have HD2:=Lib.hid (And.intro Tc Yg)
 have oP:=Lib.hid hll
 obtain ⟨resT,GX⟩: ∃resT,Hid (kX rest.length rest=resT):=⟨_,Lib.hid rfl⟩
 have uN:Hid (res=resT.map (fun th=>⟨l,th⟩)):=Lib.hid (by rw [xZ.out,hrd,← GX.out]; rfl)
 clear hP hG zZ hll Tc Yg hrd BK Sn je xZ
 go_upto_block 2 with fail
 go_cut [] (fun W'=> ∃(lt:List gZ) (rest':aA) (vT:Value),resT= .ok (lt.map (·.t)) rest'∧Pg R bp w W' (.slice aH l.length aC) vT rest'∧gK (bp + 1) W2 W'∧vw W2.heap.size W' vT lt∧(∀x ∈ lt,x.t.Ok∧x.t.bH.length≤x.dN)∧lt.length≤4096)
 case first=>
  have tX:Hid (SX R bp w W2 (.slice aH l.length aC) resT rest.length W2):=Lib.hid ⟨rest.length,[],rest,_,rfl,Nat.le_refl _,by rw [← GX.out]; cases kX rest.length rest <;> rfl,aT.out,gK.refl _ _,Grow.nil _ _ _ _ _ _,by simp,by have:=oP.out; simp only [List.length_nil]; omega⟩
  obtain ⟨i0,hi,hz0,hz1,hz2⟩:=VW
  have jD:=Lib.hid (And.intro hi (And.intro hz0 (And.intro hz1 hz2)))
  have BF:Hid (bp + 1≤W2.heap.size∧R.br < bp):=Lib.hid (by have:=aT.out.lt; omega)
  clear hi hz0 hz1 hz2 aT GX HD2
  go_wp2_with fail
  go_loopg [7,8] rest.length (fun gk _ _ wr=>SX R bp w W2 (.slice aH l.length aC) resT gk wr)
  case atStart=>exact tX.out
  case round=>
   obtain ⟨f,lt,rs,vT,rfl,hf,hres,hs,ha,hg,hok,hlt⟩:=hrel
   have HF:=Lib.hid hf
   have nU:=Lib.hid hres
   have HS:=Lib.hid hs
   have HA:=Lib.hid ha
   have HG:=Lib.hid hg
   have gV:=Lib.hid hok
   have tO:=Lib.hid hlt
   obtain ⟨av,cv,hv⟩:=hg.len
   clear hf hres hs ha hg hok hlt tX
   subst hv
   cases hd:at' [116,104,114,101,97,100] rs
   ·have BN:Hid (resT= .ok (lt.map (·.t)) rs):=Lib.hid (nU.out.trans (by rw [O8 hd]; show bn.ok (_++[]) rs=_; rw [List.append_nil]))
    go_wp2_with fail
    refine (D5 R _ _ ⟨#[116,104,114,101,97,100]⟩ rfl HS.out.rd).mono ?_
    rw [hd]
    rintro e w1 ⟨rfl,h2⟩
    have uT:=Lib.hid (HS.out.below h2)
    have oM:=Lib.hid (HG.out.next (aY h2))
    have HA1:=Lib.hid (HA.out.trans (aY h2))
    clear h2
    go_wp2_with fail
    go_meet
    exact ⟨lt,rs,_,BN.out,uT.out,HA1.out,oM.out,gV.out,by have:=tO.out; omega⟩
   ·go_wp2_with fail
    refine (D5 R _ _ ⟨#[116,104,114,101,97,100]⟩ rfl HS.out.rd).mono ?_
    rw [hd]
    rintro e w1 ⟨rfl,h2⟩
    have uT:=Lib.hid (HS.out.below h2)
    have oM:=Lib.hid (HG.out.next (aY h2))
    have HA1:=Lib.hid (HA.out.trans (aY h2))
    clear h2 HS HG HA
    have HC:=Lib.hid (LY R rs w1 uT.out.rd hd)
    obtain ⟨f',hf'⟩: ∃f',f=f' + 1:=⟨f - 1,by
     have h1:=HF.out
     have h2:=at_len hd
     omega⟩
    subst hf'
    have HN:Hid (∀r,vk rs= .no r→res= .no r):=Lib.hid (fun r h=>uN.out.trans (by rw [nU.out,Rh hd h]; rfl))
    have HO:Hid (∀t r,vk rs= .ok t r→resT=(kX f' r).map ((lt.map (·.t)++[t])++ ·)∧r.length < rs.length):=Lib.hid (fun t r h=>⟨nU.out.trans (by rw [R5 hd h,kr]; exact Bd (fun a=>by simp)),QW h⟩)
    clear nU
    generalize vk rs=Z6 at *
    go_wp2_with fail
    refine HC.out.mono ?_
    cases Z6 with
    | no r=>
      have nM:=Lib.hid (HN.out r rfl)
      clear HN HO HC
      rintro e w2 ⟨⟨nm,line,a1,n1,c1,a2,n2,c2,rfl⟩,h2,h3⟩
      have HS2:=Lib.hid (uT.out.then h2 h3)
      clear h2 h3 uT oM
      unfold qj
      go_upto_region 9 with fail
      generalize hW:World.alloc w2 _=W3
      have jG:Hid (Pg R bp w W3 _ _ r):=Lib.hid (by rw [← hW]; exact HS2.out.below (ah _ _))
      clear hW HS2
      obtain ⟨c0,c1,fc⟩:=jG.out.cells
      obtain ⟨y0,y1,g0,g1⟩:=z2p jG.out.z
      clear fc
      go_wp2_with fail
      exact bodyPost_ret (v:= .tuple #[.agg #[.slice _ _ _,.slice _ _ _],.bool false]) (by simp [results,Tryz.results33,go_sem,y0,y1]) rfl (N7 nM.out jG.out.rd jG.out.gr bF.out)
    | ok t r=>
      have DW:=Lib.hid (HO.out t r rfl)
      clear HN HO HC
      rintro e w2 ⟨⟨x,rfl,rfl,Yl,Xx⟩,h2,h3⟩
      have HXO:=Lib.hid Yl
      have jV:Hid (W2.heap.size≤w1.heap.size):=Lib.hid HA1.out.1
      have HS2:=Lib.hid (uT.out.then h2 h3)
      have HG2:=Lib.hid (oM.out.next (nL h3 (by have:=BF.out; omega)))
      have HA2:=Lib.hid (HA1.out.trans (nL h3 (by have:=BF.out; omega)))
      have ae5:=Lib.hid oM.out.lt
      have lH:=Lib.hid Xx
      clear h2 h3 uT oM HA1 Yl Xx
      unfold gZ.f
      go_upto_region 9 with fail
      obtain ⟨gd,hg⟩: ∃g,w2.heap.size=g:=⟨_,rfl⟩
      generalize hW:World.alloc w2 _=W3
      have jG:Hid (Pg R bp w W3 _ _ r):=Lib.hid (by rw [← hW]; exact HS2.out.below (ah _ _))
      have tZ:Hid (vw W2.heap.size W3 _ lt):=Lib.hid (by rw [← hW]; exact HG2.out.next (aY (ah _ _)))
      have Je:Hid (gK (bp + 1) W2 W3):=Lib.hid (by rw [← hW]; exact HA2.out.trans (aY (ah _ _)))
      have Sr:Hid (dB w1.heap.size W3 (gZ.I x)):=Lib.hid (by rw [← hW]; exact lH.out.next (aY (ah _ _)))
      have HB3:Hid (W3.heap[gd]? =some (.cells (gZ.f x).toArray 67 (0,0))):=Lib.hid (by rw [← hW,← hg]; exact heap_alloc_new _ _)
      rw [hg]
      clear hW hg HS2 HG2 HA2 lH
      obtain ⟨e0,e1,e2,e3⟩:(W3.cell? ⟨gd,0,none⟩=some (.string x.t.nm)∧W3.cell? ⟨gd,1,none⟩=some (.int .i64 x.t.line)∧W3.cell? ⟨gd,2,none⟩=some (.slice x.fC x.t.bH.length x.dN)∧W3.cell? ⟨gd,3,none⟩=some (.slice x.bG x.t.body.len x.aS)):=⟨aG HB3.out rfl,aG HB3.out rfl,aG HB3.out rfl,aG HB3.out rfl⟩
      obtain ⟨c0,c1,fc⟩:=jG.out.cells
      clear fc
      have oQ:=Lib.hid (tZ.out.next (aY (ah W3 (.cells (gZ.f x).toArray 67))))
      have sD:=Lib.hid (mQ (heap_alloc_new W3 (.cells (gZ.f x).toArray 67)))
      obtain ⟨hi,hz0,hz1,hz2⟩:=jD.out
      have hbs:W2.heap.size≤W3.heap.size + 1:=by have:=Je.out.1; omega
      have hkl:lt.length + 1≤maxLen:=by have:=tO.out; unfold maxLen; omega
      have Vz:(lt.length + 1) * 72≤140737488355328:=by have:=tO.out; omega
      go_wp2_with (at_builtin; refine wpList_append_lies _ rfl _ _ 24 rfl W2.heap.size 67 i0 _ 4 72 Tryz.underlying24 hi hz0 hz1 hz2 rfl (by decide) _ _ _ rfl oQ.out.own ⟨W3.heap.size,0,none⟩ 1 1 (gZ.f x) rfl rfl sD.out (by simp [gZ.f,Value.oneCell']) (by decide) hkl Vz (by simpa using hbs) _ rfl ?_)
      clear hi hz0 hz1 hz2
      intro g cap w9 hown hgr hmv hlt2
      have qY:Hid (∀k,(Value.slice av lt.length cv).ownBlock=some k→W2.heap.size≤k):=Lib.hid (fun k hk=>(tZ.out.lt k hk).1)
      have iW:Hid (Below W2.heap.size (W3.alloc (.cells (gZ.f x).toArray 67)) w9):=Lib.hid (pF hgr qY.out (by simpa using hbs))
      have rD:Hid (Below W2.heap.size W3 w9):=Lib.hid (((ah W3 (.cells (gZ.f x).toArray 67)).mono Je.out.1).trans iW.out)
      have Fu:Hid (fT W2.heap.size (Value.slice av lt.length cv).ownBlock (W3.alloc (.cells (gZ.f x).toArray 67)) (gZ.I x)):=Lib.hid (uS (Sr.out.next (aY (ah _ _))) jV.out (fun k hk=>(ae5.out k hk).2))
      have EY:Hid (aW w9 R r):=Lib.hid (E8 (oC jG.out.rd _) hgr (fun k hk=>by have h1:=qY.out k hk; have h2:=BF.out; have h3:=R.b0; omega))
      have zT:Hid (w.grownBy w9 (some R.br)):=Lib.hid (Dn (pY jG.out.gr _) (iW.out.mono (by have h1:=jG.out.lt; have h2:=BF.out; omega)))
      have qJ:w9.heap[bp]? =some (.cells _ 26 (0,0)):=(rD.out.block _ (by have:=BF.out; omega)).trans jG.out.blk
      have FN:=Lib.hid (oQ.out.push (x:=x) Fu.out rfl hown hgr (by simpa using hmv))
      have EN:Hid (gK (bp + 1) W2 w9):=Lib.hid (Je.out.vF rD.out)
      have c1:w9.cell? ⟨bp,1,none⟩=some (.slice av lt.length cv):=aG qJ rfl
      have f1:w9.frozen? ⟨bp,1,none⟩=false:=aK qJ
      clear hown hgr hmv hlt2 hbs hkl Vz Fu sD oQ iW qJ e0 e1 e2 e3 c0
      go_wp2_with fail
      generalize hW:World.setCell w9 _ _=FV
      have wX:Hid (Pg R bp w FV (.slice aH l.length aC) (.slice (some ⟨g,0,none⟩) (lt.length + 1) cap) r):=Lib.hid (by rw [← hW]; exact jG.out.put EY.out zT.out (rD.out.mono BF.out.1) 1 _ _ _ rfl)
      have Pt:Hid (vw W2.heap.size FV (.slice (some ⟨g,0,none⟩) (lt.length + 1) cap) (lt++[x])):=Lib.hid (by rw [← hW]; exact FN.out.next (dO w9 ⟨bp,1,none⟩ _ BF.out.1))
      have ah6:Hid (gK (bp + 1) W2 FV):=Lib.hid (by rw [← hW]; exact EN.out.trans (dO w9 ⟨bp,1,none⟩ _ (Nat.lt_succ_self _)))
      have KX:Hid (∀y ∈ lt++[x],y.t.Ok∧y.t.bH.length≤y.dN):=Lib.hid (fun y hy=>by
       rcases List.mem_append.1 hy with hy | hy
       ·exact gV.out y hy
       ·rw [List.mem_singleton.1 hy]; exact HXO.out)
      clear hW c1 f1 jG EY zT rD FN qY tZ HB3 EN Je
      go_roundg r.length
      case measure=>exact DW.out.2
      case rel=>exact ⟨f',lt++[x],r,_,rfl,by have h1:=HF.out; have h2:=DW.out.2; omega,by rw [List.map_append]; exact DW.out.1,wX.out,ah6.out,Pt.out,KX.out,by have h1:=tO.out; have h2:=DW.out.2; simp only [List.length_append,List.length_singleton]; omega⟩
 obtain ⟨lt,r9,vT,hrt,hP,hA,hG,hok,hln⟩:=hcut
 obtain ⟨W8,rfl⟩: ∃W:World,W=wc:=⟨_,rfl⟩
 obtain ⟨aI,aD,hv,Tj,Yp⟩:=hG.says hok
 subst hv
 have lY:=Lib.hid hP
 have nM:Hid (res= .ok ⟨l,lt.map (·.t)⟩ r9):=Lib.hid (by rw [uN.out,hrt]; rfl)
 have Il:Hid ((lt.map (·.t)).length=lt.length):=Lib.hid (List.length_map _)
 have HST:Hid (l.length≤aC∧(lt.map (·.t)).length≤aD∧dB (bp + 1) W8 (fun w2=>iL w2 w2.heap.size l aH 0∧iI w2 w2.heap.size (lt.map (·.t)) aI 0)):=Lib.hid ⟨HD2.out.1,by rw [Il.out]; exact Tj,fun w2 h2=>⟨HD2.out.2 w2 (hA.trans h2),Yp w2 (h2.mono aT.out.lt.2.2)⟩⟩
 have Kz:Hid (l.length≤4096∧(lt.map (·.t)).length≤4096):=Lib.hid ⟨by have:=oP.out; omega,by rw [Il.out]; exact hln⟩
 clear hP hA hG hok hln Tj Yp hrt HD2 uN Il oP aT GX
 generalize lt.map (·.t)=th at *
 clear hf0 hf1
 have HT0:Hid (decide ((0:Int) < (th.length:Int))= !th.isEmpty):=Lib.hid (by cases th <;> simp)
 have dL:Hid (Below W8.heap.size W8 (W8.drewN 1)):=Lib.hid (below_drewN (Below.refl _ _) 1)
 have vQ:=Lib.hid (lY.out.below dL.out)
 have KP: ∀(x:Bool) w',tV (fun w'=>w'=W8.drewN 1) (fun w'=>w'=(W8.drewN 1).setCells w.heap.size 0 [.slice aH l.length aC,.slice aI th.length aD]) [x] w'→w'.heap[bp]? =some (.cells #[.slice aH l.length aC,.slice aI th.length aD] 26 (0,0)):=fun x w' h=>by
  cases x
  ·have h:w'=_:=h
   rw [h]; exact vQ.out.blk
  ·have h:w'=_:=h
   rw [h]
   exact ((bP w.heap.size _ 0 (W8.drewN 1)).block _ vQ.out.lt.2.2 (by have:=vQ.out.lt; simp; omega)).trans vQ.out.blk
 go_upto_region 12 with fail
 refine eY (by kernel_rfl) rfl ?_
 refine eB 0 7 [5] [[],[],[1],[1,2],[1,2,3],[0],[0,1,2,3,4,5]] [[some false],[none],[none],[none],[none],[some false],[some true]] (tV (fun w'=>w'=W8.drewN 1) (fun w'=>w'=(W8.drewN 1).setCells w.heap.size 0 [.slice aH l.length aC,.slice aI th.length aD])) (fun _ _=>True) [50,51,52,53,54,3] rfl rfl (by rfl) (by kernel_rfl) (by kernel_rfl) (by kernel_rfl) (by kernel_rfl) (by kernel_rfl) (by rfl) (fun _=>trivial) (by rfl) rfl ?_
 simp only [List.take_succ_cons,List.take_zero,List.drop_zero,List.drop_succ_cons,jY,List.map_cons,List.map_nil]
 apply aO.step
 case aB=>
  intro c A w' hok hC hO hD
  obtain ⟨x,rfl⟩:=hC.bits
  have hb:=KP x w' hC
  have k0:w'.cell? ⟨bp,0,none⟩=some (.slice aH l.length aC):=aG hb rfl
  have k1:w'.cell? ⟨bp,1,none⟩=some (.slice aI th.length aD):=aG hb rfl
  have e4:=hO 4 (by rfl)
  simp [Act.eval] at e4
  simp [au,aj,ak,Act.eval,Region.binds] at hD
  simp [go_sem,gd,Oper.wp,e4,k0,k1]
  exact ay.mk trivial (tV.skip (by rfl) hC) (aj.mk _ _)
 apply aO.step
 case aB=>
  intro c A w' hok hC hO hD
  have e4:=hO 4 (by rfl)
  simp [Act.eval] at e4
  simp [au,aj,ak,Act.eval,Region.binds] at hD
  simp [go_sem,gd,Oper.wp,hD,e4]
  exact ay.mk trivial (tV.skip (by rfl) hC) (aj.mk _ _)
 apply aO.step
 case aB=>
  intro c A w' hok hC hO hD
  obtain ⟨x,rfl⟩:=hC.bits
  have hb:=KP x w' hC
  have k1:w'.cell? ⟨bp,1,none⟩=some (.slice aI th.length aD):=aG hb rfl
  simp [au,aj,ak,Act.eval,Region.binds] at hD
  simp [go_sem,gd,Oper.wp,hD,k1]
  exact ay.mk trivial (tV.skip (by rfl) hC) (aj.mk _ _)
 apply aO.step
 case aB=>
  intro c A w' hok hC hO hD
  simp [au,aj,ak,Act.eval,Region.binds] at hD
  simp [go_sem,gd,Oper.wp,hD]
  exact ay.mk trivial (tV.skip (by rfl) hC) (aj.mk _ _)
 simp only [List.nil_append,List.cons_append]
 refine aO.step (v:= .bool (!th.isEmpty)) ?_ ?_
 ·intro c A w' hok hC hO hD
  simp [au,aj,ak,Act.eval,Region.binds] at hD
  simp [go_sem,gd,Oper.wp,hD]
  exact ay.mk trivial (tV.skip (by rfl) hC) (show Value.bool _=_ by rw [← HT0.out]; simp)
 refine aO.some (fun _ _=>True) (fun _ _ _ _ _=>trivial) ?_ ?_
 ·intro c A w' hok hC hO hD
  obtain ⟨x,rfl⟩:=hC.bits
  obtain ⟨rfl,-⟩:=hok
  have hC:w'=_:=hC
  have e2:=hO 2 (by rfl)
  simp [Act.eval] at e2
  simp [au,aj,ak,Act.eval,Region.binds] at hD
  simp only [gd,if_true]
  refine wp_store_mid _ _ _ (by rfl) w.heap.size 0 #[.slice aH l.length aC,.slice aI th.length aD] (by simp [Act.eval,e2]) (by simp [Act.eval,hD]) (by rw [hC]; exact sZ vQ.out.z (Nat.le_refl 2)) TR (by simp [Value.oneCell']) ?_
  exact ay.KS trivial (tV.fire (by rfl) (by rw [hC])) trivial
 apply aO.step
 case aB=>
  intro c A w' hok hC hO hD
  simp [au,aj,ak,Act.eval,Region.binds] at hD
  simp [go_sem,gd,Oper.wp,hD]
  exact ay.mk trivial (tV.skip (by rfl) hC) (aj.mk _ _)
 try simp only [List.nil_append,List.cons_append]
 refine aO.done ?_
 intro w9 FK
 try simp only [List.drop_succ_cons,List.drop_zero]
 intro x0 h0 x1 h1 x2 h2 x3 h3 x4 h4 x5 h5 x6 h6
 have h6':=Eq.symm (show x6=_ from h6)
 subst h6'
 clear h0 h1 h2 h3 h4 h5 h6 KP
 refine pG ?_
 refine gL rfl ?_
 have OE:Hid (w9=(W8.drewN 1).setCells w.heap.size 0 [.slice aH l.length aC,.slice aI th.length aD]):=Lib.hid FK
 have iW:Hid (w9.heap[w.heap.size]? =some (.cells #[.slice aH l.length aC,.slice aI th.length aD] 26 (0,0))):=Lib.hid (by rw [OE.out]; exact jS vQ.out.z rfl)
 clear FK
 have y0:w9.cell? ⟨w.heap.size,0,none⟩=some (.slice aH l.length aC):=aG iW.out rfl
 have y1:w9.cell? ⟨w.heap.size,1,none⟩=some (.slice aI th.length aD):=aG iW.out rfl
 go_simp
 go_wp2_with fail
 exact bodyPost_ret (v:= .tuple #[.agg #[.slice aH l.length aC,.slice aI th.length aD],.bool (!th.isEmpty)]) (by simp [results,Tryz.results33,go_sem,y0,y1]) rfl (by
  rw [OE.out]
  exact WC nM.out ⟨Kz.out.1,Kz.out.2,HST.out.1,HST.out.2.1⟩ (HST.out.2.2.next (aY dL.out)) (by have:=vQ.out.lt; omega) vQ.out.rd vQ.out.gr bF.out)
end Go.Proofs.YtehnipchbmjlhaaGreatDoor
end
section
namespace Go.Proofs.YtehnipchbmjlhaaGreatDoor
open Go.RowKit
open Md Pz
theorem U9 (t:Tk.Tok):(Tk.Tok.cells t).length=3:=rfl
theorem K6 {w:World} {g B:Nat} {ts:aA} (hB:g < B): ∀(l:aA) (k:Nat),(∀i t,l[i]? =some t→ ∀j u,(Tk.Tok.cells t)[j]? =some u→w.cell? ⟨g,(k + i) * 3 + j,none⟩=some u)→pX w B l (some ⟨g,0,none⟩) k
 | [],_,_=>trivial
 | t ::r,k,h=>by
   have h0:=h 0 t rfl
   refine ⟨⟨g,0,rfl,hB,?_,?_,?_⟩,K6 (ts:=ts) hB r (k + 1) (fun i t' ht j u hu=>by rw [show k + 1 + i=k + (i + 1) by omega]; exact h (i + 1) t' (by simpa using ht) j u hu)⟩
   ·have:=h0 0 _ rfl; rw [Nat.zero_add]; exact this
   ·have:=h0 1 _ rfl; rw [Nat.zero_add]; exact this
   ·have:=h0 2 _ rfl; rw [Nat.zero_add]; exact this
theorem NC {w:World} {base:Nat} {v:Value} {ts:aA} (h:w.ownsRow base 112 3 v ts.length (Tk.cellsOf ts)): ∃ao cap,v= .slice ao ts.length cap∧pX w w.heap.size ts ao 0:=by
 rcases h.2 with ⟨h1,h2⟩ | ⟨g,cap,cur,h1,hB,hg,hc,-,hs,ht⟩
 ·have:ts=[]:=by
   cases ts with
   | nil=>rfl
   | cons t r=>simp at h2
  subst this
  exact ⟨none,0,h1,trivial⟩
 ·refine ⟨some ⟨g,0,none⟩,cap,h1,K6 (ts:=ts) (Array.getElem?_eq_some_iff.1 hg).1 ts 0 (fun i t hi j u hu=> ?_)⟩
  have hF:=flat_get U9 ts i t j u hi hu
  have hF':(Tk.cellsOf ts)[i * 3 + j]? =some u:=hF
  rw [← ht] at hF'
  have hlt:=(List.getElem?_eq_some_iff.1 hF').1
  rw [List.getElem?_take_of_lt (by rw [List.length_take] at hlt; omega)] at hF'
  rw [Nat.zero_add]
  exact aG hg (by rw [← hF']; simp)
def RG (N:Nat) (w:World) (r:Pr × Int × Int) (e:Ending) (w':World):Prop:=
 ∃aH aC aI aD,e= .returned (.tuple #[.agg #[.slice aH r.1.ds.length aC,.slice aI r.1.ts.length aD],.int .i64 r.2.1,.int .i64 r.2.2])∧(r.1.ds.length≤4096∧r.1.ts.length≤4096∧r.1.ds.length≤aC∧r.1.ts.length≤aD)∧(iL w' w'.heap.size r.1.ds aH 0∧iI w' w'.heap.size r.1.ts aI 0)∧Below w.heap.size w w'∧(N≤4096→r.2.1≠0→1≤r.2.2)
theorem Nc {s:List UInt8} (h: ¬ (Tk.scan s).2.1=0):parse s=((⟨[],[]⟩:Pr),((Tk.scan s).2.1:Int),((Tk.scan s).2.2:Int)):=by unfold parse; rw [if_neg h]
theorem Pk {s:List UInt8} {rest:aA} (h:(Tk.scan s).2.1=0) (h1:prog (Tk.scan s).1= .no rest):parse s=(⟨[],[]⟩,3,jg (Tk.scan s).1 rest):=by unfold parse; rw [if_pos h,h1]
theorem OI {s:List UInt8} {p:Pr} {rest:aA} (h:(Tk.scan s).2.1=0) (h1:prog (Tk.scan s).1= .ok p rest) (h2:(p.ts.isEmpty || !rest.isEmpty)=true):parse s=(⟨[],[]⟩,3,jg (Tk.scan s).1 rest):=by
 unfold parse; rw [if_pos h,h1]; exact if_pos h2
theorem Lj {s:List UInt8} {p:Pr} {rest:aA} (h:(Tk.scan s).2.1=0) (h1:prog (Tk.scan s).1= .ok p rest) (h2:(p.ts.isEmpty || !rest.isEmpty)=false):parse s=(p,0,0):=by
 unfold parse; rw [if_pos h,h1]; exact if_neg (by rw [h2]; decide)
theorem GZ {ts rest:aA} (h: ∀t ∈ ts,TL 4097 t) {pos:Nat} (hd:ts.drop pos=rest):(1:Int)≤jg ts rest:=by
 unfold jg
 cases rest with
 | cons t r=>
   have:=(h t (List.mem_of_mem_drop (by rw [hd]; exact List.mem_cons_self))).1.1
   dsimp only; omega
 | nil=>
   dsimp only
   cases hl:ts.getLast? with
   | none=>decide
   | some t=>have:=(h t (List.mem_of_getLast? hl)).1.1; dsimp only; omega
theorem Ed {N:Nat} {w W:World} {r:Pr × Int × Int} {n l:Int} (e:r=(⟨[],[]⟩,n,l)) (hb:Below w.heap.size w W) (hln:N≤4096→n≠0→1≤l):RG N w r (.returned (.tuple #[.agg #[.slice none 0 0,.slice none 0 0],.int .i64 n,.int .i64 l])) W:=by
 subst e
 exact ⟨none,0,none,0,rfl,⟨Nat.zero_le _,Nat.zero_le _,Nat.le_refl _,Nat.le_refl _⟩,⟨trivial,trivial⟩,hb,hln⟩
theorem YC {w W:World} {res:Pr × Int × Int} {p:Pr} {a a':Option Addr} {n c n' c':Nat} (e:res=(p,0,0)) (hn:n=p.ds.length) (hn':n'=p.ts.length) (hl:n≤4096∧n'≤4096∧n≤c∧n'≤c') (hst:iL W W.heap.size p.ds a 0∧iI W W.heap.size p.ts a' 0) (hb:Below w.heap.size w W) {N:Nat} :
 RG N w res (.returned (.tuple #[.agg #[.slice a n c,.slice a' n' c'],.int .i64 0,.int .i64 0])) W:=by
 subst e; subst hn; subst hn'
 exact ⟨a,c,a',c',rfl,hl,hst,hb,fun _ h=>absurd rfl h⟩
def Yn (R:Rp) (w:World) (ts:aA) (res:Pr × Int × Int) (e:Ending) (w':World):Prop:=
 ∃(r:aA) (a:Option Addr) (n c:Nat) (a':Option Addr) (n' c':Nat) (b:Bool),e= .returned (.tuple #[.agg #[.slice a n c,.slice a' n' c'],.bool b])∧aW w' R r∧w.grownBy w' (some R.br)∧
  ((b && r.isEmpty)=false→res=(⟨[],[]⟩,3,jg ts r))∧
  ((b && r.isEmpty)=true→ ∃p:Pr,res=(p,0,0)∧n=p.ds.length∧n'=p.ts.length∧(n≤4096∧n'≤4096∧n≤c∧n'≤c')∧dB w.heap.size w' (fun w2=>iL w2 w2.heap.size p.ds a 0∧iI w2 w2.heap.size p.ts a' 0))
theorem YZ {R:Rp} {w w':World} {ts:aA} {res:Pr × Int × Int} {e:Ending} {pr:bn Pr}
 (h2: ∀rest,pr= .no rest→res=(⟨[],[]⟩,3,jg ts rest))
 (h3: ∀p rest,pr= .ok p rest→(p.ts.isEmpty || !rest.isEmpty)=true→res=(⟨[],[]⟩,3,jg ts rest))
 (h4: ∀p rest,pr= .ok p rest→(p.ts.isEmpty || !rest.isEmpty)=false→res=(p,0,0)) (h:Ml R w pr e w'):Yn R w ts res e w':=by
 cases pr with
 | no r=>
   obtain ⟨⟨a,n,c,a',n',c',he⟩,hr,hg⟩:=h
   exact ⟨r,a,n,c,a',n',c',false,he,hr,hg,fun _=>h2 r rfl,fun h=>by simp at h⟩
 | ok p r=>
   obtain ⟨⟨aH,aC,aI,aD,he,hl,hst⟩,hr,hg⟩:=h
   refine ⟨r,aH,_,aC,aI,_,aD,_,he,hr,hg,fun h=>h3 p r rfl ?_,fun h=>⟨p,h4 p r rfl ?_,rfl,rfl,hl,hst⟩⟩
   ·cases hp:p.ts.isEmpty <;> cases hq:r.isEmpty <;> simp_all
   ·cases hp:p.ts.isEmpty <;> cases hq:r.isEmpty <;> simp_all
def Dm (w:World) (ao:Option Addr) (cap:Nat) (ts:aA):Rp:=⟨w.heap.size,w.heap.size,ao,cap,ts,Nat.le_refl _⟩
theorem XL {w W:World} {ao:Option Addr} {cap:Nat} {ts:aA} (hW:w.alloc (.cells #[.slice ao ts.length cap,.int .i64 0] 76)=W) (ht:pX w w.heap.size ts ao 0) (ok: ∀t ∈ ts,Kq t) (tl:(∀t ∈ ts,TL 4097 t)∧ts.length≤4096):aW W (Dm w ao cap ts) ts:=by
 subst hW
 exact ⟨⟨0,Nat.zero_le _,rfl,heap_alloc_new _ _⟩,ht.below (ah _ _),⟨ok,tl.2⟩,tl.1⟩
theorem Od (s:ByteArray) (w:World) (cZ:cO w) (hm:s.size≤maxLen):
 Calls Tryz.prog 11 #[.string s] w (RG s.size w (parse s.data.toList)):=by
 have ig:=Lib.hid cZ
 have ZK:=Lib.hid (UA s.data.toList)
 have AL:=Lib.hid (U4 s.data.toList)
 obtain ⟨res,je⟩: ∃res,Hid (parse s.data.toList=res):=⟨_,Lib.hid rfl⟩
 have uN:Hid (¬ (Tk.scan s.data.toList).2.1=0→res=((⟨[],[]⟩:Pr),((Tk.scan s.data.toList).2.1:Int),((Tk.scan s.data.toList).2.2:Int))):=Lib.hid (fun h=>je.out.symm.trans (Nc h))
 have HE2:Hid (∀rest,(Tk.scan s.data.toList).2.1=0→prog (Tk.scan s.data.toList).1= .no rest→res=(⟨[],[]⟩,3,jg (Tk.scan s.data.toList).1 rest)):=Lib.hid (fun rest h h1=>je.out.symm.trans (Pk h h1))
 have kH:Hid (∀p rest,(Tk.scan s.data.toList).2.1=0→prog (Tk.scan s.data.toList).1= .ok p rest→(p.ts.isEmpty || !rest.isEmpty)=true→res=(⟨[],[]⟩,3,jg (Tk.scan s.data.toList).1 rest)):=Lib.hid (fun p rest h h1 h2=>je.out.symm.trans (OI h h1 h2))
 have tN:Hid (∀p rest,(Tk.scan s.data.toList).2.1=0→prog (Tk.scan s.data.toList).1= .ok p rest→(p.ts.isEmpty || !rest.isEmpty)=false→res=(p,0,0)):=Lib.hid (fun p rest h h1 h2=>je.out.symm.trans (Lj h h1 h2))
 have SS:Hid (∀w,cO w→Calls Tryz.prog 32 #[.string s] w (Ie w (Tk.scan s.data.toList))):=Lib.hid (fun w h=>Qk s w h hm)
 rw [je.out]
 clear je cZ hm
 generalize Tk.scan s.data.toList=sc at *
 go_enter Tryz.func11,Tryz.ntmps11
 go_upto_region 1 with fail
 generalize hW:World.alloc w _=W0
 have HB0:Hid (Below w.heap.size w W0):=Lib.hid (by rw [← hW]; exact ah _ _)
 have HZ0:Hid (W0.heap[w.heap.size]? =some (.cells Kc 26 (0,0))):=Lib.hid (by rw [← hW]; exact heap_alloc_new _ _)
 clear hW
 go_wp2_with fail
 refine (SS.out _ (ig.out.same HB0.out)).mono ?_
 rintro e w1 ⟨v,rfl,hown,hb⟩
 obtain ⟨ao,cap,rfl,htk⟩:=NC hown
 have JQ:=Lib.hid htk
 have HB1:=Lib.hid (HB0.out.trans (hb.mono HB0.out.size))
 have HZ1:=Lib.hid ((hb.block _ (Array.getElem?_eq_some_iff.1 HZ0.out).1).trans HZ0.out)
 clear hown hb htk SS HB0 HZ0
 have y0:w1.cell? ⟨w.heap.size,0,none⟩=some (.slice none 0 0):=aG HZ1.out rfl
 have y1:w1.cell? ⟨w.heap.size,1,none⟩=some (.slice none 0 0):=aG HZ1.out rfl
 have f0:w1.frozen? ⟨w.heap.size,0,none⟩=false:=aK HZ1.out
 have f1:w1.frozen? ⟨w.heap.size,1,none⟩=false:=aK HZ1.out
 have hlt:w.heap.size < w1.heap.size:=(Array.getElem?_eq_some_iff.1 HZ1.out).1
 by_cases h0:sc.2.1=0
 ·have DU:Hid (∀(R:Rp) (wr:World),aW wr R sc.1→Calls Tryz.prog 33 #[.pointer (some ⟨R.br,0,none⟩)] wr (Yn R wr sc.1 res)):=Lib.hid (fun R wr h=>(JH R sc.1 wr h).mono (fun e w' hp=>YZ (fun r=>HE2.out r h0) (fun p r=>kH.out p r h0) (fun p r=>tN.out p r h0) hp))
  have VF:=Lib.hid (And.intro AL.out.1 AL.out.2.1)
  rw [h0]
  go_upto_region 5 with fail
  generalize hW:World.alloc w1 _=W1
  have HR1:=Lib.hid (XL hW JQ.out ZK.out VF.out)
  have HB2:Hid (Below w.heap.size w W1):=Lib.hid (by rw [← hW]; exact HB1.out.trans ((ah w1 _).mono HB1.out.size))
  have HZ2:Hid (W1.heap[w.heap.size]? =some (.cells Kc 26 (0,0))):=Lib.hid (by rw [← hW]; exact ((ah w1 _).block _ hlt).trans HZ1.out)
  clear hW y0 y1 f0 f1 uN HE2 kH tN AL ZK ig JQ VF HB1 HZ1
  go_wp2_with fail
  refine (DU.out _ _ HR1.out).mono ?_
  rintro e w2 ⟨r,a,n,c,a',n',c',b,rfl,h1,h2,h3,h4⟩
  go_upto_region 6 with fail
  generalize hW:World.alloc w2 _=W3
  have H3:=Lib.hid h3
  have H4:=Lib.hid h4
  have HG:=Lib.hid h2
  have HB3:Hid (Below w.heap.size w W3):=Lib.hid (by rw [← hW]; exact (HB2.out.trans (dW h2 (Nat.le_of_lt hlt) HB2.out.size)).trans ((ah w2 _).mono (Nat.le_trans HB2.out.size h2.size)))
  have Lx:Hid (Below w2.heap.size w2 W3):=Lib.hid (by rw [← hW]; exact ah w2 _)
  have HR3:Hid (aW W3 (Dm w1 ao cap sc.1) r):=Lib.hid (h1.below Lx.out)
  have HZ3:Hid (W3.heap[w.heap.size]? =some (.cells Kc 26 (0,0))):=Lib.hid (by
   have k1:=(Array.getElem?_eq_some_iff.1 HZ2.out).1
   exact (Lx.out.block _ (Nat.lt_of_lt_of_le k1 h2.size)).trans ((h2.block _ k1 (by simp [Dm]; omega)).trans HZ2.out))
  have HD3:Hid (W3.heap[w2.heap.size]? =some (.cells #[.slice a n c,.slice a' n' c'] 26 (0,0))):=Lib.hid (by rw [← hW]; exact heap_alloc_new _ _)
  obtain ⟨pos,hpos,hdrop,c0,c1⟩:=HR3.out.pos
  have c0:W3.cell? ⟨w1.heap.size,0,none⟩=some (.slice ao sc.1.length cap):=c0
  have c1:W3.cell? ⟨w1.heap.size,1,none⟩=some (.int .i64 (pos:Int)):=c1
  have hpos:pos≤sc.1.length:=hpos
  have hdrop:sc.1.drop pos=r:=hdrop
  have hlt3:w.heap.size < W3.heap.size:=(Array.getElem?_eq_some_iff.1 HZ3.out).1
  have Zh:b=false∨(b=true∧r.isEmpty=false∧pos < sc.1.length)∨(b=true∧r.isEmpty=true∧ ¬ pos < sc.1.length):=by
   cases b
   ·exact .inl rfl
   ·right
    cases hr:r with
    | nil=>rw [hr] at hdrop; have:=List.drop_eq_nil_iff.1 hdrop; exact .inr ⟨rfl,rfl,by omega⟩
    | cons t q=>rw [hr] at hdrop; have:=congrArg List.length hdrop; simp at this; exact .inl ⟨rfl,rfl,by omega⟩
  have hltW:w.heap.size < W1.heap.size:=(Array.getElem?_eq_some_iff.1 HZ2.out).1
  clear hW h1 h2 h3 h4 DU HR1 HZ2 hpos hdrop
  rcases Zh with hb | ⟨hb,hr,hq⟩ | ⟨hb,hr,hq⟩
  ·subst hb
   go_quiet (fail)
   generalize G7:World.drewN W3 _=W4
   have gy:Hid (Below W3.heap.size W3 W4):=Lib.hid (by rw [← G7]; exact below_drewN (Below.refl _ _) _)
   clear G7
   have HR4:=Lib.hid (HR3.out.below gy.out)
   go_wp2_with fail
   refine (J6 _ r _ HR4.out).mono ?_
   rintro e w5 ⟨rfl,hb5⟩
   have jE:=Lib.hid (HB3.out.trans ((gy.out.trans (hb5.mono gy.out.size)).mono HB3.out.size))
   have kJ:=Lib.hid ((hb5.block _ (Nat.lt_of_lt_of_le hlt3 gy.out.size)).trans ((gy.out.block _ hlt3).trans HZ3.out))
   clear hb5
   have y0:w5.cell? ⟨w.heap.size,0,none⟩=some (.slice none 0 0):=aG kJ.out rfl
   have y1:w5.cell? ⟨w.heap.size,1,none⟩=some (.slice none 0 0):=aG kJ.out rfl
   have f0:w5.frozen? ⟨w.heap.size,0,none⟩=false:=aK kJ.out
   have f1:w5.frozen? ⟨w.heap.size,1,none⟩=false:=aK kJ.out
   have PX:w.heap.size < w5.heap.size:=(Array.getElem?_eq_some_iff.1 kJ.out).1
   have kQ:=Lib.hid (H3.out rfl)
   go_wp2_with fail
   exact bodyPost_ret (v:= .tuple #[.agg #[.slice none 0 0,.slice none 0 0],.int .i64 3,.int .i64 (jg sc.1 r)]) (by simp [results,Tryz.results11,go_sem,y0,y1,PX,Dm]) rfl (Ed kQ.out (iP (iP jE.out _ _ (Nat.le_refl _)) _ _ (Nat.le_refl _)) (fun _ _=>by obtain ⟨q,_,hq,_⟩:=HR4.out.blk; exact GZ HR4.out.tl hq))
  ·subst hb
   go_quiet (fail)
   generalize G7:World.drewN W3 _=W4
   have gy:Hid (Below W3.heap.size W3 W4):=Lib.hid (by rw [← G7]; exact below_drewN (Below.refl _ _) _)
   clear G7
   have HR4:=Lib.hid (HR3.out.below gy.out)
   go_wp2_with fail
   refine (J6 _ r _ HR4.out).mono ?_
   rintro e w5 ⟨rfl,hb5⟩
   have jE:=Lib.hid (HB3.out.trans ((gy.out.trans (hb5.mono gy.out.size)).mono HB3.out.size))
   have kJ:=Lib.hid ((hb5.block _ (Nat.lt_of_lt_of_le hlt3 gy.out.size)).trans ((gy.out.block _ hlt3).trans HZ3.out))
   clear hb5
   have y0:w5.cell? ⟨w.heap.size,0,none⟩=some (.slice none 0 0):=aG kJ.out rfl
   have y1:w5.cell? ⟨w.heap.size,1,none⟩=some (.slice none 0 0):=aG kJ.out rfl
   have f0:w5.frozen? ⟨w.heap.size,0,none⟩=false:=aK kJ.out
   have f1:w5.frozen? ⟨w.heap.size,1,none⟩=false:=aK kJ.out
   have PX:w.heap.size < w5.heap.size:=(Array.getElem?_eq_some_iff.1 kJ.out).1
   have kQ:=Lib.hid (H3.out (by rw [hr]; rfl))
   go_wp2_with fail
   exact bodyPost_ret (v:= .tuple #[.agg #[.slice none 0 0,.slice none 0 0],.int .i64 3,.int .i64 (jg sc.1 r)]) (by simp [results,Tryz.results11,go_sem,y0,y1,PX,Dm]) rfl (Ed kQ.out (iP (iP jE.out _ _ (Nat.le_refl _)) _ _ (Nat.le_refl _)) (fun _ _=>by obtain ⟨q,_,hq,_⟩:=HR4.out.blk; exact GZ HR4.out.tl hq))
  ·subst hb
   obtain ⟨p,hres,hn,hn',hl,hst⟩:=H4.out (by rw [hr]; rfl)
   have HP:=Lib.hid (And.intro hres (And.intro hn (And.intro hn' (And.intro hl hst))))
   clear hres hn hn' hl hst
   go_quiet (fail)
   generalize G7:World.drewN W3 _=W4
   have gy:Hid (Below W3.heap.size W3 W4):=Lib.hid (by rw [← G7]; exact below_drewN (Below.refl _ _) _)
   clear G7
   have gG:=Lib.hid ((gy.out.block _ hlt3).trans HZ3.out)
   have HD4:=Lib.hid ((gy.out.block _ (Array.getElem?_eq_some_iff.1 HD3.out).1).trans HD3.out)
   have y0:W4.cell? ⟨w.heap.size,0,none⟩=some (.slice none 0 0):=aG gG.out rfl
   have y1:W4.cell? ⟨w.heap.size,1,none⟩=some (.slice none 0 0):=aG gG.out rfl
   have f0:W4.frozen? ⟨w.heap.size,0,none⟩=false:=aK gG.out
   have f1:W4.frozen? ⟨w.heap.size,1,none⟩=false:=aK gG.out
   have d0:W4.cell? ⟨w2.heap.size,0,none⟩=some (.slice a n c):=aG HD4.out rfl
   have d1:W4.cell? ⟨w2.heap.size,1,none⟩=some (.slice a' n' c'):=aG HD4.out rfl
   have I9:w.heap.size < W4.heap.size:=(Array.getElem?_eq_some_iff.1 gG.out).1
   go_wp2_with fail
   obtain ⟨hres,hn,hn',hl,hst⟩:=HP.out
   have hfin:gK W1.heap.size w2 ((W4.setCell ⟨w.heap.size,0,none⟩ (.slice a n c)).setCell ⟨w.heap.size,1,none⟩ (.slice a' n' c')):=
    ((aY (B:=W1.heap.size) (Lx.out.trans (gy.out.mono Lx.out.size))).trans (dO W4 _ _ hltW)).trans (dO _ _ _ hltW)
   exact bodyPost_ret (v:= .tuple #[.agg #[.slice a n c,.slice a' n' c'],.int .i64 0,.int .i64 0]) (by simp [results,Tryz.results11,go_sem,y0,y1,I9]) rfl (YC hres hn hn' hl (hst.next hfin).now (iP (iP (HB3.out.trans (gy.out.mono HB3.out.size)) _ _ (Nat.le_refl _)) _ _ (Nat.le_refl _)))
 ·have hq:(((sc.2.1:Nat):Int) == 0)=false:=by rw [beq_eq_false_iff_ne]; omega
  have kQ:=Lib.hid (uN.out h0)
  go_wp2_with fail
  exact bodyPost_ret (v:= .tuple #[.agg #[.slice none 0 0,.slice none 0 0],.int .i64 (sc.2.1:Int),.int .i64 (sc.2.2:Int)]) (by simp [results,Tryz.results11,go_sem,y0,y1,hlt]) rfl (Ed kQ.out (iP (iP HB1.out _ _ (Nat.le_refl _)) _ _ (Nat.le_refl _)) (fun hn h=>by have:=AL.out.2.2 h0 (by rw [← Lib.size_eq]; exact hn); omega))
end Go.Proofs.YtehnipchbmjlhaaGreatDoor
end
