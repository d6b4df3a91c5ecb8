/-
  Contract of the reader's thread.
  Contract of the reader's program.
  Contracts of parse.Parse and parse.Expr.
-/
import Derived.Test.YtehnipchbmjlhaaGreatDoorGRD
import Derived.Test.YtehnipchbmjlhaaGreatDoorGTC
section
set_option linter.unusedSimpArgs false
set_option linter.unusedVariables false
namespace Go.Proofs.YtehnipchbmjlhaaGreatDoor
open Go.RowKit
open Md Pz
theorem UM:(Tryz.prog.info? 9).map (fun i=>(i.zero,i.size,i.bytes))=some (some (.string ⟨#[]⟩),1,16):=by kernel_rfl
theorem XY: ∃i0,Tryz.prog.info? 9=some i0∧i0.zero=some (.string ⟨#[]⟩)∧i0.size=1∧i0.bytes=16:=info_parts UM
theorem aj6 (k:Int) (s:ByteArray) (n:Int) (w:World):(Instr.field 112 (.agg #[.int .i64 k,.string s,.int .i64 n]) 0).run Tryz.prog w= .ok (.int .i64 k) w:=by kernel_rfl
theorem ak0 (k:Int) (s:ByteArray) (n:Int) (w:World):(Instr.field 112 (.agg #[.int .i64 k,.string s,.int .i64 n]) 1).run Tryz.prog w= .ok (.string s) w:=by kernel_rfl
theorem ag7 (k:Int) (s:ByteArray) (n:Int) (w:World):(Instr.field 112 (.agg #[.int .i64 k,.string s,.int .i64 n]) 2).run Tryz.prog w= .ok (.int .i64 n) w:=by kernel_rfl
def oF (nm:ByteArray) (line:Int) (v b:Value):Value:= .agg #[.string nm,.int .i64 line,v,b]
def RQ (R:Rp) (w:World) (res:aT Th) (e:Ending) (w':World):Prop:=
 match res with
 | .ok t r=>(∃x:gX,x.t=t∧e= .returned (.tuple #[.agg (gX.f x).toArray,.bool true])∧(x.t.Ok∧x.t.cB.length≤x.dI)∧bD w.heap.size w' (gX.I x))∧aS w' R r∧w.grownBy w' (some R.br)
 | .no r=>(∃nm line a n c a' n' c',e= .returned (.tuple #[oF nm line (.slice a n c) (.slice a' n' c'),.bool false]))∧aS w' R r∧w.grownBy w' (some R.br)
def LM:Array Value:= #[.string ⟨#[]⟩,.int .i64 0,.slice none 0 0,.slice none 0 0]
theorem Gq {w:World} {b:Nat} {t:TypeId} (h:w.heap[b]? =some (.cells LM t (0,0))):
 (w.cell? ⟨b,0,none⟩=some (.string ⟨#[]⟩)∧w.cell? ⟨b,1,none⟩=some (.int .i64 0)∧w.cell? ⟨b,2,none⟩=some (.slice none 0 0)∧w.cell? ⟨b,3,none⟩=some (.slice none 0 0))∧ ∀j,w.frozen? ⟨b,j,none⟩=false:=
 ⟨⟨ak h rfl,ak h rfl,ak h rfl,ak h rfl⟩,fun _=>aD h⟩
structure Ps (R:Rp) (bt B:Nat) (w W:World) (nm:ByteArray) (line:Int) (v:Value) (l:List ByteArray) (rest:aj):Prop where
 rd:aS W R rest
 gr:w.grownBy W (some R.br)
 lt:R.br < w.heap.size∧w.heap.size < bt∧bt < B∧B≤W.heap.size
 z:W.heap[w.heap.size]? =some (.cells LM 67 (0,0))
 blk:W.heap[bt]? =some (.cells #[.string nm,.int .i64 line,v,.slice none 0 0] 67 (0,0))
 row:vI B W v l
section
variable {R:Rp} {bt B:Nat} {w W W':World} {nm:ByteArray} {line:Int} {v:Value} {l:List ByteArray} {rest rest':aj}
theorem Ps.then (h:Ps R bt B w W nm line v l rest) (h1:aS W' R rest') (h2:W.grownBy W' (some R.br)):Ps R bt B w W' nm line v l rest':=
 ⟨h1,cu h.gr h2,⟨h.lt.1,h.lt.2.1,h.lt.2.2.1,Nat.le_trans h.lt.2.2.2 h2.size⟩,(h2.block _ (Array.getElem?_eq_some_iff.1 h.z).1 (by have:=h.lt; simp; omega)).trans h.z,(h2.block _ (Array.getElem?_eq_some_iff.1 h.blk).1 (by have:=h.lt; simp; omega)).trans h.blk,h.row.next (jH h2 (by have:=h.lt; omega))⟩
theorem Ps.below (h:Ps R bt B w W nm line v l rest) (hb:Below W.heap.size W W'):Ps R bt B w W' nm line v l rest:=h.then (h.rd.below hb) (aQ hb)
theorem Ps.cells (h:Ps R bt B w W nm line v l rest):W.cell? ⟨bt,0,none⟩=some (.string nm)∧W.cell? ⟨bt,1,none⟩=some (.int .i64 line)∧W.cell? ⟨bt,2,none⟩=some v∧W.cell? ⟨bt,3,none⟩=some (.slice none 0 0)∧ ∀j,W.frozen? ⟨bt,j,none⟩=false:=
 ⟨ak h.blk rfl,ak h.blk rfl,ak h.blk rfl,ak h.blk rfl,fun _=>aD h.blk⟩
theorem Ps.name (h:Ps R bt B w W nm line v l rest) (s:ByteArray):Ps R bt B w (W.setCell ⟨bt,0,none⟩ (.string s)) s line v l rest:=
 ⟨mO h.rd _ _ (by have:=h.lt; have:=R.b0; show R.B0≤bt; omega) (by have:=h.lt; show bt≠R.br; omega),kg h.gr _ _ (by have:=h.lt; show _≤bt; omega),by have:=h.lt; simpa [World.setCell] using this,(aM W _ _ rfl (by have:=h.lt; show bt≠_; omega)).trans h.z,by rw [aR h.blk]; rfl,h.row.next (bC W ⟨bt,0,none⟩ _ h.lt.2.2.1)⟩
theorem Ps.cB {v':Value} {l':List ByteArray} (h:Ps R bt B w W nm line v l rest) (hr:aS W' R rest) (hg:w.grownBy W' (some R.br)) (hB:Below B W W') (hrow:vI B W' v' l'):Ps R bt B w (W'.setCell ⟨bt,2,none⟩ v') nm line v' l' rest:=
 ⟨mO hr _ _ (by have:=h.lt; have:=R.b0; show R.B0≤bt; omega) (by have:=h.lt; show bt≠R.br; omega),kg hg _ _ (by have:=h.lt; show _≤bt; omega),by have h1:=h.lt; have h2:=hB.size; simp [World.setCell]; omega,(aM W' _ _ rfl (by have:=h.lt; show bt≠_; omega)).trans ((hB.block _ (by have:=h.lt; omega)).trans h.z),by rw [aR ((hB.block _ h.lt.2.2.1).trans h.blk)]; rfl,hrow.next (bC W' ⟨bt,2,none⟩ _ h.lt.2.2.1)⟩
theorem Ps.tY (h:Ps R bt B w W nm line v l rest) (b:Value): ∀W',W.setCell ⟨bt,3,none⟩ b=W'→aS W' R rest∧w.grownBy W' (some R.br)∧W'.heap[w.heap.size]? =some (.cells LM 67 (0,0))∧W'.heap[bt]? =some (.cells #[.string nm,.int .i64 line,v,b] 67 (0,0)):=by
 intro W' hW
 subst hW
 exact ⟨mO h.rd _ _ (by have:=h.lt; have:=R.b0; show R.B0≤bt; omega) (by have:=h.lt; show bt≠R.br; omega),kg h.gr _ _ (by have:=h.lt; show _≤bt; omega),(aM W _ _ rfl (by have:=h.lt; show bt≠_; omega)).trans h.z,by rw [aR h.blk]; rfl⟩
theorem Ps.Lh (h:Ps R bt B w W nm line v l rest):Ps R bt B w (W.setCell ⟨bt,3,none⟩ (.slice none 0 0)) nm line v l rest:=
 ⟨(h.tY _ _ rfl).1,(h.tY _ _ rfl).2.1,by have:=h.lt; simpa [World.setCell] using this,(h.tY _ _ rfl).2.2.1,(h.tY _ _ rfl).2.2.2,h.row.next (bC W ⟨bt,3,none⟩ _ h.lt.2.2.1)⟩
end
theorem xA {R:Rp} {w W:World} {nm:ByteArray} {line:Int} {a a':Option Addr} {n c n' c':Nat} {r:aj} {res:aT Th} (e:res= .no r) (hr:aS W R r) (hg:w.grownBy W (some R.br)) (hl:R.br < w.heap.size):
 RQ R w res (.returned (.tuple #[oF nm line (.slice a n c) (.slice a' n' c'),.bool false])) (W.setCells w.heap.size 0 [.string nm,.int .i64 line,.slice a n c,.slice a' n' c']):=by
 subst e
 exact ⟨⟨nm,line,a,n,c,a',n',c',rfl⟩,mq hr (aO _ _ _ _) (by have:=R.b0; omega) (by omega),jF hg _ _ _ (Nat.le_refl _)⟩
theorem OC {R:Rp} {w W:World} {x:gX} {r:aj} {res:aT Th} {B:Nat} (e:res= .ok x.t r) (hok:x.t.Ok∧x.t.cB.length≤x.dI) (hst:bD B W (gX.I x)) (hB:w.heap.size < B) (hr:aS W R r) (hg:w.grownBy W (some R.br)) (hl:R.br < w.heap.size):
 RQ R w res (.returned (.tuple #[.agg (gX.f x).toArray,.bool true])) (W.setCells w.heap.size 0 (gX.f x)):=by
 subst e
 exact ⟨⟨x,rfl,rfl,hok,(hst.next ⟨(aO w.heap.size _ 0 W).size,fun k h1 h2=>(aO w.heap.size _ 0 W).block k h2 (by simp; omega)⟩).mono (Nat.le_of_lt hB)⟩,mq hr (aO _ _ _ _) (by have:=R.b0; omega) (by omega),jF hg _ _ _ (Nat.le_refl _)⟩
def ED (r:aj):aT (List ByteArray):=if at' [41] r then .ok [] r.tail else (jB (r.length + 1) r).close [41]
def mM (nm:ByteArray) (line:Int) (l:List ByteArray) (r:aj):aT Th:=(blk (3 * r.length + 3) r).map fun b=>⟨nm,line,l,b⟩
theorem V5 (ts:aj):uy ts=(fK ts.tail).bind fun s r=>(need [40] r).bind fun _ r=>(ED r).bind fun l r=>mM s (aU ts) l r:=rfl
theorem QE {f:Nat} {ts:aj} (h:isName ts=false):jB (f + 1) ts= .no ts:=by unfold jB; rw [mI h]; rfl
theorem MG {f:Nat} {ts:aj} (h:isName ts=true) (h1:at' [44] ts.tail=true):jB (f + 1) ts=(jB f ts.tail.tail).map (tx (ay ts) :: ·):=by
 conv=>lhs; unfold jB
 rw [kG h]; show ite _ _ _=_; rw [if_pos h1]
theorem MJ {f:Nat} {ts:aj} (h:isName ts=true) (h1:at' [44] ts.tail=false):jB (f + 1) ts= .ok [tx (ay ts)] ts.tail:=by
 conv=>lhs; unfold jB
 rw [kG h]; show ite _ _ _=_; rw [if_neg (by rw [h1]; decide)]
def SB (R:Rp) (bt:Nat) (w:World) (nm:ByteArray) (line:Int) (zP:aT (List ByteArray)) (g:Nat) (wr:World):Prop:=
 ∃f l rest v,g=rest.length∧rest.length < f∧zP=(jB f rest).map (l++ ·)∧Ps R bt (bt + 1) w wr nm line v l rest∧l.length + rest.length≤4096∧ ∀s ∈ l,s.size≤maxLen
set_option maxHeartbeats 4000000 in
set_option maxRecDepth 100000 in
theorem N8 (R:Rp) (ts:aj) (w:World) (hI:aS w R ts) (hk:at' [116,104,114,101,97,100] ts=true):
 Calls Tryz.prog 69 #[.pointer (some ⟨R.br,0,none⟩)] w (RQ R w (uy ts)):=by
 have HI:=Lib.hid hI
 have HL:=Lib.hid (jY hI)
 have hlt:=hI.lt
 obtain ⟨t0,r0,hr⟩:=yh hk
 have lY:=Lib.hid hr
 rw [V5]
 obtain ⟨res,gB⟩: ∃res,Hid (((fK ts.tail).bind fun s r=>(need [40] r).bind fun _ r=>(ED r).bind fun l r=>mM s (aU ts) l r)=res):=⟨_,Lib.hid rfl⟩
 rw [gB.out]
 clear hk hr
 have hf2:=ag7
 go_enter Tryz.func69,Tryz.ntmps69
 go_upto_region 1 with fail
 generalize hW:World.alloc w _=W0
 have HB0:Hid (Below w.heap.size w W0):=Lib.hid (by rw [← hW]; exact ah _ _)
 have HZ0:Hid (W0.heap[w.heap.size]? =some (.cells LM 67 (0,0))):=Lib.hid (by rw [← hW]; exact heap_alloc_new _ _)
 have HN:=Lib.hid (gJ R ts W0 (HI.out.below HB0.out))
 unfold ku at HN
 clear hW hI
 go_wp2_with fail
 refine HN.out.mono ?_
 rintro e w1 ⟨rfl,h2⟩
 have HB1:=Lib.hid (HB0.out.trans (h2.mono HB0.out.size))
 have HZ1:=Lib.hid ((h2.block _ (Array.getElem?_eq_some_iff.1 HZ0.out).1).trans HZ0.out)
 clear h2 HN HB0 HZ0
 go_upto_region 2 with fail
 obtain ⟨bt,hg⟩: ∃g,w1.heap.size=g:=⟨_,rfl⟩
 rw [hg]
 generalize hW:World.alloc w1 _=W2
 have HB2:Hid (Below w.heap.size w W2):=Lib.hid (by rw [← hW]; exact HB1.out.alloc HB1.out.size _)
 have aY:Hid (R.br < w.heap.size∧w.heap.size < bt):=Lib.hid ⟨hlt,by rw [← hg]; exact (Array.getElem?_eq_some_iff.1 HZ1.out).1⟩
 have HS2:Hid (Ps R bt (bt + 1) w W2 ⟨#[]⟩ ((aU ts:Nat):Int) (.slice none 0 0) [] ts):=Lib.hid ⟨HI.out.below HB2.out,aQ HB2.out,⟨hlt,aY.out.2,Nat.lt_succ_self _,by rw [← hW]; simp; omega⟩,by rw [← hW]; exact (heap_alloc_old _ _ (Array.getElem?_eq_some_iff.1 HZ1.out).1).trans HZ1.out,by rw [← hW,← hg]; exact heap_alloc_new _ _,Grow.nil _ _ _ _ _ _⟩
 obtain ⟨pos,hp,q0,q1,fq,HX⟩:=HS2.out.rd.open
 clear hW hg HB1 HZ1 HB2
 go_upto_region 3 with fail
 generalize hW:World.setCell W2 _ _=W3
 have HQ:Hid (aS W3 R ts.tail∧W2.grownBy W3 (some R.br)):=Lib.hid (by rw [← hW,lY.out]; exact HX.out t0 r0 lY.out)
 have jg:=Lib.hid (HS2.out.then HQ.out.1 HQ.out.2)
 clear hW q0 q1 fq HX HQ HS2
 cases hn:isName ts.tail
 ·have HE:Hid (res= .no ts.tail):=Lib.hid (gB.out.symm.trans (by rw [mI hn]; rfl))
  go_wp2_with fail
  refine (jX R _ _ hn jg.out.rd).mono ?_
  rintro e w4 ⟨rfl,h2⟩
  have J6:=Lib.hid (jg.out.below h2)
  clear h2 jg
  obtain ⟨c0,c1,c2,c3,fc⟩:=J6.out.cells
  have Xz:=fc 0
  go_upto_region 5 with fail
  generalize hW:World.setCell w4 _ _=W5
  have A9:Hid (Ps R bt (bt + 1) w W5 ⟨#[]⟩ ((aU ts:Nat):Int) (.slice none 0 0) [] ts.tail):=Lib.hid (by rw [← hW]; exact J6.out.name _)
  clear hW c0 c1 c2 c3 fc Xz J6
  obtain ⟨c0,c1,c2,c3,fc⟩:=A9.out.cells
  obtain ⟨⟨y0,y1,y2,y3⟩,fz⟩:=Gq A9.out.z
  have g0:=fz 0
  have g1:=fz 1
  have g2:=fz 2
  have g3:=fz 3
  clear fc fz
  go_wp2_with fail
  exact bodyPost_ret (v:= .tuple #[oF _ _ _ _,.bool false]) (by simp [results,Tryz.results69,go_sem,oF,y0,y1,y2,y3]) rfl (xA HE.out A9.out.rd A9.out.gr aY.out.1)
 ·have nO:Hid ((tx (ay ts.tail)).size≤maxLen):=Lib.hid (kV (kU jg.out.rd.ts hn))
  have BD:Hid (res=(need [40] ts.tail.tail).bind fun _ r=>(ED r).bind fun l r=>mM (tx (ay ts.tail)) (aU ts) l r):=Lib.hid (gB.out.symm.trans (by rw [kG hn]; rfl))
  go_wp2_with fail
  refine (iZ R _ _ hn jg.out.rd).mono ?_
  rintro e w4 ⟨rfl,h2,h3⟩
  have J6:=Lib.hid (jg.out.then h2 h3)
  clear h2 h3 jg
  obtain ⟨c0,c1,c2,c3,fc⟩:=J6.out.cells
  have Xz:=fc 0
  go_upto_region 5 with fail
  generalize hW:World.setCell w4 _ _=W5
  have A9:Hid (Ps R bt (bt + 1) w W5 (tx (ay ts.tail)) ((aU ts:Nat):Int) (.slice none 0 0) [] ts.tail.tail):=Lib.hid (by rw [← hW]; exact J6.out.name _)
  clear hW c0 c1 c2 c3 fc Xz J6
  cases h4:at' [40] ts.tail.tail
  ·have HE:=Lib.hid (BD.out.trans (by rw [yP h4]:_=aT.bind (aT.no ts.tail.tail) _))
   go_wp2_with fail
   refine (dB R _ _ ⟨#[40]⟩ rfl h4 A9.out.rd).mono ?_
   rintro e w6 ⟨rfl,h2⟩
   have dR:=Lib.hid (A9.out.below h2)
   clear h2 A9
   obtain ⟨c0,c1,c2,c3,fc⟩:=dR.out.cells
   obtain ⟨⟨y0,y1,y2,y3⟩,fz⟩:=Gq dR.out.z
   have g0:=fz 0
   have g1:=fz 1
   have g2:=fz 2
   have g3:=fz 3
   clear fc fz
   go_wp2_with fail
   exact bodyPost_ret (v:= .tuple #[oF _ _ _ _,.bool false]) (by simp [results,Tryz.results69,go_sem,oF,y0,y1,y2,y3]) rfl (xA HE.out dR.out.rd dR.out.gr aY.out.1)
  ·have tF:Hid (res=(ED ts.tail.tail.tail).bind fun l r=>mM (tx (ay ts.tail)) (aU ts) l r):=Lib.hid (BD.out.trans (by rw [yO h4]; rfl))
   clear BD
   go_wp2_with fail
   refine (bJ R _ _ ⟨#[40]⟩ rfl h4 A9.out.rd).mono ?_
   rintro e w6 ⟨rfl,h2,h3⟩
   have dR:=Lib.hid (A9.out.then h2 h3)
   clear h2 h3 A9
   obtain ⟨r6,HR6⟩: ∃r6,Hid (ts.tail.tail.tail=r6):=⟨_,Lib.hid rfl⟩
   rw [HR6.out] at dR tF
   cases h5:at' [41] r6
   ·have HE2:Hid (res=((jB (r6.length + 1) r6).close [41]).bind fun l r=>mM (tx (ay ts.tail)) (aU ts) l r):=Lib.hid (tF.out.trans (by unfold ED; rw [if_neg (by rw [h5]; decide)]))
    obtain ⟨zP,WH⟩: ∃zP,Hid (jB (r6.length + 1) r6=zP):=⟨_,Lib.hid rfl⟩
    rw [WH.out] at HE2
    obtain ⟨i0,hi,hz0,hz1,hz2⟩:=XY
    have jI:=Lib.hid (And.intro hi (And.intro hz0 (And.intro hz1 hz2)))
    clear hi hz0 hz1 hz2
    go_wp2_with fail
    refine (dB R _ _ ⟨#[41]⟩ rfl h5 dR.out.rd).mono ?_
    rintro e w7 ⟨rfl,h2⟩
    have ql:Hid (SB R bt w (tx (ay ts.tail)) ((aU ts:Nat):Int) zP r6.length w7):=Lib.hid ⟨r6.length + 1,[],r6,_,rfl,Nat.lt_succ_self _,by rw [← WH.out]; cases jB (r6.length + 1) r6 <;> rfl,dR.out.below h2,by have:=dR.out.rd.len; simp; omega,by simp⟩
    clear h2 dR WH
    go_wp2_with fail
    go_loopg [6] r6.length (fun gk _ wr=>SB R bt w (tx (ay ts.tail)) ((aU ts:Nat):Int) zP gk wr)
    case atStart=>exact ql.out
    case round=>
     obtain ⟨f,l,rest,v,rfl,hf,hres,hs,hll,hsz⟩:=hrel
     obtain ⟨f,rfl⟩: ∃n,f=n + 1:=⟨f - 1,by omega⟩
     have HF:=Lib.hid hf
     have mU:=Lib.hid hres
     have HS:=Lib.hid hs
     have sZ:=Lib.hid hll
     have iY:=Lib.hid hsz
     obtain ⟨av,cv,hv⟩:=hs.row.len
     clear hf hres hs hll hsz ql
     subst hv
     cases hm:isName rest
     ·have mP:Hid (res= .no rest):=Lib.hid (HE2.out.trans (by rw [mU.out,QE hm]; rfl))
      go_wp2_with fail
      refine (jX R _ _ hm HS.out.rd).mono ?_
      rintro e w8 ⟨rfl,h2⟩
      have gD:=Lib.hid (HS.out.below h2)
      clear h2 HS
      obtain ⟨c0,c1,c2,c3,fc⟩:=gD.out.cells
      obtain ⟨⟨y0,y1,y2,y3⟩,fz⟩:=Gq gD.out.z
      have g0:=fz 0
      have g1:=fz 1
      have g2:=fz 2
      have g3:=fz 3
      clear fc fz
      go_wp2_with fail
      exact bodyPost_ret (v:= .tuple #[oF _ _ _ _,.bool false]) (by simp [results,Tryz.results69,go_sem,oF,y0,y1,y2,y3]) rfl (xA mP.out gD.out.rd gD.out.gr aY.out.1)
     ·have EA:Hid ((tx (ay rest)).size≤maxLen):=Lib.hid (kV (kU HS.out.rd.ts hm))
      have qp:=Lib.hid (oJ hm)
      go_wp2_with fail
      refine (iZ R _ _ hm HS.out.rd).mono ?_
      rintro e w8 ⟨rfl,h2,h3⟩
      have gD:=Lib.hid (HS.out.then h2 h3)
      clear h2 h3 HS
      obtain ⟨c0,c1,c2,c3,fc⟩:=gD.out.cells
      go_upto_region 11 with fail
      obtain ⟨s0,Lx⟩: ∃s0,Hid (tx (ay rest)=s0):=⟨_,Lib.hid rfl⟩
      rw [Lx.out] at EA ⊢
      have nX:=Lib.hid (gD.out.row.next (aK (ah w8 (.cells (rJ s0).toArray 9))))
      have sj:=Lib.hid (lW (heap_alloc_new w8 (.cells (rJ s0).toArray 9)))
      obtain ⟨hi,hz0,hz1,hz2⟩:=jI.out
      have hbs:bt + 1≤w8.heap.size + 1:=Nat.le_succ_of_le gD.out.lt.2.2.2
      have hkl:l.length + 1≤maxLen:=by have:=sZ.out; unfold maxLen; omega
      have Xv:(l.length + 1) * 16≤140737488355328:=by have:=sZ.out; omega
      have fc2:=fc 2
      clear fc
      go_wp2_with (at_builtin; refine wpList_append_lies _ rfl _ _ 64 rfl (bt + 1) 9 i0 _ 1 16 Tryz.underlying64 hi hz0 hz1 hz2 rfl (by decide) _ _ _ rfl nX.out.own ⟨w8.heap.size,0,none⟩ 1 1 (rJ s0) rfl rfl sj.out (by simp [rJ,Value.oneCell']) (by decide) hkl Xv (by simpa using hbs) _ rfl ?_)
      clear hi hz0 hz1 hz2
      intro g cap w9 hown hgr hmv hlt2
      have qH:Hid (∀k,(Value.slice av l.length cv).ownBlock=some k→bt + 1≤k):=Lib.hid (fun k hk=>(gD.out.row.lt k hk).1)
      have fU:Hid (Below (bt + 1) (w8.alloc (.cells (rJ s0).toArray 9)) w9):=Lib.hid (ow hgr qH.out (by simpa using hbs))
      have qB:Hid (Below (bt + 1) w8 w9):=Lib.hid (((ah w8 (.cells (rJ s0).toArray 9)).mono gD.out.lt.2.2.2).trans fU.out)
      have Fv:Hid (dW (bt + 1) (Value.slice av l.length cv).ownBlock (w8.alloc (.cells (rJ s0).toArray 9)) (fun _=>True)):=Lib.hid (fun _ _=>trivial)
      have FN:=Lib.hid (nX.out.push (x:=s0) Fv.out rfl hown hgr (by simpa using hmv))
      have Fe:Hid (aS w9 R rest.tail):=Lib.hid (Dk (nG gD.out.rd _) hgr (fun k hk=>by have h1:=qH.out k hk; have h2:=aY.out; have h3:=R.b0; omega))
      have zW:Hid (w.grownBy w9 (some R.br)):=Lib.hid (Ee (mh gD.out.gr _) (fU.out.mono (by have:=aY.out; omega)))
      have qc:w9.heap[bt]? =some (.cells #[.string (tx (ay ts.tail)),.int .i64 ((aU ts:Nat):Int),.slice av l.length cv,.slice none 0 0] 67 (0,0)):=(qB.out.block _ (Nat.lt_succ_self _)).trans gD.out.blk
      have c2:w9.cell? ⟨bt,2,none⟩=some (.slice av l.length cv):=ak qc rfl
      have f2:w9.frozen? ⟨bt,2,none⟩=false:=aD qc
      clear hown hgr hmv hlt2 hbs hkl Xv Fv sj nX fU qc fc2
      go_upto_region 12 with fail
      generalize hW:World.setCell w9 _ _=FL
      have wZ:Hid (Ps R bt (bt + 1) w FL (tx (ay ts.tail)) ((aU ts:Nat):Int) (.slice (some ⟨g,0,none⟩) (l.length + 1) cap) (l++[s0]) rest.tail):=Lib.hid (by rw [← hW]; exact gD.out.cB Fe.out zW.out qB.out FN.out)
      have LV:Hid (∀s ∈ l++[s0],s.size≤maxLen):=Lib.hid (fun y hy=>by
       rcases List.mem_append.1 hy with hy | hy
       ·exact iY.out y hy
       ·rw [List.mem_singleton.1 hy]; exact EA.out)
      clear hW c2 f2 gD Fe zW qB FN qH
      cases h6:at' [44] rest.tail
      ·have BP:Hid (zP= .ok (l++[s0]) rest.tail):=Lib.hid (mU.out.trans (by rw [MJ hm h6,Lx.out]; rfl))
       go_wp2_with fail
       refine (dB R _ _ ⟨#[44]⟩ rfl h6 wZ.out.rd).mono ?_
       rintro e w11 ⟨rfl,h2⟩
       have AV:=Lib.hid (wZ.out.below h2)
       clear h2 wZ
       cases h7:at' [41] rest.tail
       ·have mP:Hid (res= .no rest.tail):=Lib.hid (HE2.out.trans (by rw [BP.out,mG h7]; rfl))
        go_wp2_with fail
        refine (dB R _ _ ⟨#[41]⟩ rfl h7 AV.out.rd).mono ?_
        rintro e w12 ⟨rfl,h2⟩
        have AB:=Lib.hid (AV.out.below h2)
        clear h2 AV
        obtain ⟨c0,c1,c2,c3,fc⟩:=AB.out.cells
        obtain ⟨⟨y0,y1,y2,y3⟩,fz⟩:=Gq AB.out.z
        have g0:=fz 0
        have g1:=fz 1
        have g2:=fz 2
        have g3:=fz 3
        clear fc fz
        go_wp2_with fail
        exact bodyPost_ret (v:= .tuple #[oF _ _ _ _,.bool false]) (by simp [results,Tryz.results69,go_sem,oF,y0,y1,y2,y3]) rfl (xA mP.out AB.out.rd AB.out.gr aY.out.1)
       ·have mP:Hid (res=mM (tx (ay ts.tail)) ((aU ts:Nat):Int) (l++[s0]) rest.tail.tail):=Lib.hid (HE2.out.trans (by rw [BP.out,mH h7]; rfl))
        have nW:Hid ((l++[s0]).length≤maxLen):=Lib.hid (by have:=sZ.out; simp [maxLen]; omega)
        have qd:Hid (l.length + 1=(l++[s0]).length):=Lib.hid (by simp)
        go_wp2_with fail
        refine (bJ R _ _ ⟨#[41]⟩ rfl h7 AV.out.rd).mono ?_
        rintro e w12 ⟨rfl,h2,h3⟩
        have AB:=Lib.hid (AV.out.then h2 h3)
        clear h2 h3 AV
        obtain ⟨l',YP⟩: ∃l',Hid ((l++[s0])=l'):=⟨_,Lib.hid rfl⟩
        have fT:Hid (∀s ∈ (l++[s0]),s.size≤maxLen):=Lib.hid LV.out
        have rZ:=Lib.hid mP.out
        obtain ⟨v',Oh⟩: ∃v',Hid (vI (bt + 1) _ v' (l++[s0])∧Ps R bt (bt + 1) w _ (tx (ay ts.tail)) ((aU ts:Nat):Int) v' (l++[s0]) rest.tail.tail):=⟨_,Lib.hid ⟨AB.out.row,AB.out⟩⟩
        clear AB
        have rT:=Lib.hid Oh.out.2
        clear Oh
        rw [YP.out] at fT rZ rT nW
        have oW:Hid (∀W,aS W R rest.tail.tail→Calls Tryz.prog 111 #[.pointer (some ⟨R.br,0,none⟩)] W (Es R W (blk (3 * (rest.tail.tail).length + 3) rest.tail.tail))):=Lib.hid (fun W h=>Fg R _ _ (by omega) W h)
        have Dj:Hid (∀q,blk (3 * (rest.tail.tail).length + 3) rest.tail.tail= .no q→mM (tx (ay ts.tail)) ((aU ts:Nat):Int) l' rest.tail.tail= .no q):=Lib.hid (fun q h=>by unfold mM; rw [h]; rfl)
        have Jk:Hid (∀b q,blk (3 * (rest.tail.tail).length + 3) rest.tail.tail= .ok b q→mM (tx (ay ts.tail)) ((aU ts:Nat):Int) l' rest.tail.tail= .ok ⟨tx (ay ts.tail),((aU ts:Nat):Int),l',b⟩ q):=Lib.hid (fun b q h=>by unfold mM; rw [h]; rfl)
        generalize blk (3 * (rest.tail.tail).length + 3) rest.tail.tail=R7 at *
        go_wp2_with fail
        refine (oW.out _ rT.out.rd).mono ?_
        cases R7 with
        | no q=>
          rintro e w8 ⟨rfl,h2,h3⟩
          have mP:=Lib.hid (rZ.out.trans (Dj.out q rfl))
          obtain ⟨av,cv,hv⟩:=rT.out.row.len
          subst hv
          have gD:=Lib.hid (rT.out.then h2 h3)
          clear h2 h3 Dj Jk oW
          obtain ⟨c0,c1,c2,c3,fc⟩:=gD.out.cells
          have JX:=fc 3
          go_upto_region 16 with fail
          generalize hW:World.setCell w8 _ _=W9
          have wJ:Hid (Ps R bt (bt + 1) w W9 _ _ _ _ q):=Lib.hid (by rw [← hW]; exact gD.out.Lh)
          clear hW c0 c1 c2 c3 fc JX gD
          obtain ⟨c0,c1,c2,c3,fc⟩:=wJ.out.cells
          obtain ⟨⟨y0,y1,y2,y3⟩,fz⟩:=Gq wJ.out.z
          have g0:=fz 0
          have g1:=fz 1
          have g2:=fz 2
          have g3:=fz 3
          clear fc fz
          go_wp2_with fail
          exact bodyPost_ret (v:= .tuple #[oF _ _ _ _,.bool false]) (by simp [results,Tryz.results69,go_sem,oF,y0,y1,y2,y3]) rfl (xA mP.out wJ.out.rd wJ.out.gr aY.out.1)
        | ok b q=>
          rintro e w8 ⟨⟨ao,cap,rfl,hl,hst⟩,h2,h3⟩
          have mP:=Lib.hid (rZ.out.trans (Jk.out b q rfl))
          have gD:=Lib.hid (rT.out.then h2 h3)
          have qB:Hid (b.len≤maxLen∧bD (bt + 1) w8 (fun w2=>b.At w2 w2.heap.size ao 0)):=Lib.hid ⟨Nat.le_trans hl (by unfold maxLen; decide),hst.mono rT.out.lt.2.2.2⟩
          clear h2 h3 hl hst Dj Jk oW
          obtain ⟨fD,dI,hv,hcl,htx⟩:=gD.out.row.says fT.out
          have HV:=Lib.hid hv
          have zH:=Lib.hid (And.intro hcl htx)
          clear hv hcl htx
          obtain ⟨c0,c1,c2,c3,fc⟩:=gD.out.cells
          have JX:=fc 3
          go_upto_region 16 with fail
          generalize hW:World.setCell w8 _ _=W9
          have uf:=Lib.hid (gD.out.tY (.slice ao b.len cap) W9 hW)
          have Gl:Hid (fM (bt + 1) w8 W9):=Lib.hid (by rw [← hW]; exact bC w8 ⟨bt,3,none⟩ _ (Nat.lt_succ_self _))
          clear hW c0 c1 c2 c3 fc JX
          have e0:W9.cell? ⟨bt,0,none⟩=some (.string (tx (ay ts.tail))):=ak uf.out.2.2.2 rfl
          have e1:W9.cell? ⟨bt,1,none⟩=some (.int .i64 ((aU ts:Nat):Int)):=ak uf.out.2.2.2 rfl
          have e2:W9.cell? ⟨bt,2,none⟩=some (.slice fD (l').length dI):=(ak uf.out.2.2.2 rfl).trans (congrArg some HV.out)
          have e3:W9.cell? ⟨bt,3,none⟩=some (.slice ao b.len cap):=ak uf.out.2.2.2 rfl
          obtain ⟨⟨y0,y1,y2,y3⟩,fz⟩:=Gq uf.out.2.2.1
          have g0:=fz 0
          have g1:=fz 1
          have g2:=fz 2
          have g3:=fz 3
          clear fz
          go_wp2_with fail
          exact bodyPost_ret (v:= .tuple #[.agg (gX.f ⟨⟨tx (ay ts.tail),((aU ts:Nat):Int),l',b⟩,fD,dI,ao,cap⟩).toArray,.bool true]) (by simp [results,Tryz.results69,go_sem,gX.f,y0,y1,y2,y3]) rfl (OC (x:=⟨⟨tx (ay ts.tail),((aU ts:Nat):Int),l',b⟩,fD,dI,ao,cap⟩) (B:=bt + 1) mP.out ⟨⟨nO.out,HL.out,nW.out,qB.out.1⟩,zH.out.1⟩ (fun w2 h2=>⟨zH.out.2 w2 (Gl.out.trans h2),qB.out.2 w2 (Gl.out.trans h2)⟩) (by have:=aY.out; omega) uf.out.1 uf.out.2.1 aY.out.1)
      ·have BP:Hid (zP=(jB f rest.tail.tail).map ((l++[s0])++ ·)):=Lib.hid (mU.out.trans (by rw [MG hm h6,Lx.out,jW]; exact Bn (fun a=>by simp)))
       go_wp2_with fail
       refine (bJ R _ _ ⟨#[44]⟩ rfl h6 wZ.out.rd).mono ?_
       rintro e w11 ⟨rfl,h2,h3⟩
       have AV:=Lib.hid (wZ.out.then h2 h3)
       have HT2:=Lib.hid (at_len h6)
       clear h2 h3 wZ
       go_wp2_with fail
       go_roundg rest.tail.tail.length
       case measure=>have:=qp.out; have:=HT2.out; omega
       case rel=>exact ⟨f,l++[s0],rest.tail.tail,_,rfl,by have:=HF.out; have:=qp.out; have:=HT2.out; omega,BP.out,AV.out,by have:=sZ.out; have:=qp.out; have:=HT2.out; simp only [List.length_append,List.length_singleton]; omega,LV.out⟩
   ·have HE2:Hid (res=mM (tx (ay ts.tail)) ((aU ts:Nat):Int) [] r6.tail):=Lib.hid (tF.out.trans (by unfold ED; rw [if_pos h5]; rfl))
    have nW:Hid (([]:List ByteArray).length≤maxLen):=Lib.hid (Nat.zero_le _)
    go_wp2_with fail
    refine (bJ R _ _ ⟨#[41]⟩ rfl h5 dR.out.rd).mono ?_
    rintro e w7 ⟨rfl,h2,h3⟩
    have vF:=Lib.hid (dR.out.then h2 h3)
    clear h2 h3 dR
    obtain ⟨l',YP⟩: ∃l',Hid (([]:List ByteArray)=l'):=⟨_,Lib.hid rfl⟩
    have fT:Hid (∀s ∈ ([]:List ByteArray),s.size≤maxLen):=Lib.hid (by simp)
    have rZ:=Lib.hid HE2.out
    obtain ⟨v',Oh⟩: ∃v',Hid (vI (bt + 1) _ v' ([]:List ByteArray)∧Ps R bt (bt + 1) w _ (tx (ay ts.tail)) ((aU ts:Nat):Int) v' ([]:List ByteArray) r6.tail):=⟨_,Lib.hid ⟨vF.out.row,vF.out⟩⟩
    clear vF
    have rT:=Lib.hid Oh.out.2
    clear Oh
    rw [YP.out] at fT rZ rT nW
    have oW:Hid (∀W,aS W R r6.tail→Calls Tryz.prog 111 #[.pointer (some ⟨R.br,0,none⟩)] W (Es R W (blk (3 * (r6.tail).length + 3) r6.tail))):=Lib.hid (fun W h=>Fg R _ _ (by omega) W h)
    have Dj:Hid (∀q,blk (3 * (r6.tail).length + 3) r6.tail= .no q→mM (tx (ay ts.tail)) ((aU ts:Nat):Int) l' r6.tail= .no q):=Lib.hid (fun q h=>by unfold mM; rw [h]; rfl)
    have Jk:Hid (∀b q,blk (3 * (r6.tail).length + 3) r6.tail= .ok b q→mM (tx (ay ts.tail)) ((aU ts:Nat):Int) l' r6.tail= .ok ⟨tx (ay ts.tail),((aU ts:Nat):Int),l',b⟩ q):=Lib.hid (fun b q h=>by unfold mM; rw [h]; rfl)
    generalize blk (3 * (r6.tail).length + 3) r6.tail=R7 at *
    go_wp2_with fail
    refine (oW.out _ rT.out.rd).mono ?_
    cases R7 with
    | no q=>
      rintro e w8 ⟨rfl,h2,h3⟩
      have mP:=Lib.hid (rZ.out.trans (Dj.out q rfl))
      obtain ⟨av,cv,hv⟩:=rT.out.row.len
      subst hv
      have gD:=Lib.hid (rT.out.then h2 h3)
      clear h2 h3 Dj Jk oW
      obtain ⟨c0,c1,c2,c3,fc⟩:=gD.out.cells
      have JX:=fc 3
      go_upto_region 16 with fail
      generalize hW:World.setCell w8 _ _=W9
      have wJ:Hid (Ps R bt (bt + 1) w W9 _ _ _ _ q):=Lib.hid (by rw [← hW]; exact gD.out.Lh)
      clear hW c0 c1 c2 c3 fc JX gD
      obtain ⟨c0,c1,c2,c3,fc⟩:=wJ.out.cells
      obtain ⟨⟨y0,y1,y2,y3⟩,fz⟩:=Gq wJ.out.z
      have g0:=fz 0
      have g1:=fz 1
      have g2:=fz 2
      have g3:=fz 3
      clear fc fz
      go_wp2_with fail
      exact bodyPost_ret (v:= .tuple #[oF _ _ _ _,.bool false]) (by simp [results,Tryz.results69,go_sem,oF,y0,y1,y2,y3]) rfl (xA mP.out wJ.out.rd wJ.out.gr aY.out.1)
    | ok b q=>
      rintro e w8 ⟨⟨ao,cap,rfl,hl,hst⟩,h2,h3⟩
      have mP:=Lib.hid (rZ.out.trans (Jk.out b q rfl))
      have gD:=Lib.hid (rT.out.then h2 h3)
      have qB:Hid (b.len≤maxLen∧bD (bt + 1) w8 (fun w2=>b.At w2 w2.heap.size ao 0)):=Lib.hid ⟨Nat.le_trans hl (by unfold maxLen; decide),hst.mono rT.out.lt.2.2.2⟩
      clear h2 h3 hl hst Dj Jk oW
      obtain ⟨fD,dI,hv,hcl,htx⟩:=gD.out.row.says fT.out
      have HV:=Lib.hid hv
      have zH:=Lib.hid (And.intro hcl htx)
      clear hv hcl htx
      obtain ⟨c0,c1,c2,c3,fc⟩:=gD.out.cells
      have JX:=fc 3
      go_upto_region 16 with fail
      generalize hW:World.setCell w8 _ _=W9
      have uf:=Lib.hid (gD.out.tY (.slice ao b.len cap) W9 hW)
      have Gl:Hid (fM (bt + 1) w8 W9):=Lib.hid (by rw [← hW]; exact bC w8 ⟨bt,3,none⟩ _ (Nat.lt_succ_self _))
      clear hW c0 c1 c2 c3 fc JX
      have e0:W9.cell? ⟨bt,0,none⟩=some (.string (tx (ay ts.tail))):=ak uf.out.2.2.2 rfl
      have e1:W9.cell? ⟨bt,1,none⟩=some (.int .i64 ((aU ts:Nat):Int)):=ak uf.out.2.2.2 rfl
      have e2:W9.cell? ⟨bt,2,none⟩=some (.slice fD (l').length dI):=(ak uf.out.2.2.2 rfl).trans (congrArg some HV.out)
      have e3:W9.cell? ⟨bt,3,none⟩=some (.slice ao b.len cap):=ak uf.out.2.2.2 rfl
      obtain ⟨⟨y0,y1,y2,y3⟩,fz⟩:=Gq uf.out.2.2.1
      have g0:=fz 0
      have g1:=fz 1
      have g2:=fz 2
      have g3:=fz 3
      clear fz
      go_wp2_with fail
      exact bodyPost_ret (v:= .tuple #[.agg (gX.f ⟨⟨tx (ay ts.tail),((aU ts:Nat):Int),l',b⟩,fD,dI,ao,cap⟩).toArray,.bool true]) (by simp [results,Tryz.results69,go_sem,gX.f,y0,y1,y2,y3]) rfl (OC (x:=⟨⟨tx (ay ts.tail),((aU ts:Nat):Int),l',b⟩,fD,dI,ao,cap⟩) (B:=bt + 1) mP.out ⟨⟨nO.out,HL.out,nW.out,qB.out.1⟩,zH.out.1⟩ (fun w2 h2=>⟨zH.out.2 w2 (Gl.out.trans h2),qB.out.2 w2 (Gl.out.trans h2)⟩) (by have:=aY.out; omega) uf.out.1 uf.out.2.1 aY.out.1)
end Go.Proofs.YtehnipchbmjlhaaGreatDoor
end
section
set_option linter.unusedSimpArgs false
set_option linter.unusedVariables false
namespace Go.Proofs.YtehnipchbmjlhaaGreatDoor
open Go.RowKit
open Md Pz
theorem Ul:(Tryz.prog.info? 62).map (fun i=>(i.zero,i.size,i.bytes))=some (some (.agg zF),6,64):=by kernel_rfl
theorem XT: ∃i0,Tryz.prog.info? 62=some i0∧i0.zero=some (.agg zF)∧i0.size=6∧i0.bytes=64:=info_parts Ul
theorem VH:(Tryz.prog.info? 67).map (fun i=>(i.zero,i.size,i.bytes))=some (some (.agg LM),4,72):=by kernel_rfl
theorem WE: ∃i0,Tryz.prog.info? 67=some i0∧i0.zero=some (.agg LM)∧i0.size=4∧i0.bytes=72:=info_parts VH
def M4 (R:Rp) (w:World) (res:aT Pr) (e:Ending) (w':World):Prop:=
 match res with
 | .ok p r=>(∃bq bg bQ bn,e= .returned (.tuple #[.agg #[.slice bq p.ds.length bg,.slice bQ p.ts.length bn],.bool (!p.ts.isEmpty)])∧(p.ds.length≤4096∧p.ts.length≤4096∧p.ds.length≤bg∧p.ts.length≤bn)∧bD w.heap.size w' (fun w2=>gV w2 w2.heap.size p.ds bq 0∧gP w2 w2.heap.size p.ts bQ 0))∧aS w' R r∧w.grownBy w' (some R.br)
 | .no r=>(∃a n c a' n' c',e= .returned (.tuple #[.agg #[.slice a n c,.slice a' n' c'],.bool false]))∧aS w' R r∧w.grownBy w' (some R.br)
def KU:Array Value:= #[.slice none 0 0,.slice none 0 0]
structure Pg (R:Rp) (bp:Nat) (w W:World) (vD vT:Value) (rest:aj):Prop where
 rd:aS W R rest
 gr:w.grownBy W (some R.br)
 lt:R.br < w.heap.size∧w.heap.size < bp∧bp < W.heap.size
 z:W.heap[w.heap.size]? =some (.cells KU 26 (0,0))
 blk:W.heap[bp]? =some (.cells #[vD,vT] 26 (0,0))
section
variable {R:Rp} {bp:Nat} {w W W':World} {vD vT:Value} {rest rest':aj}
theorem Pg.then (h:Pg R bp w W vD vT rest) (h1:aS W' R rest') (h2:W.grownBy W' (some R.br)):Pg R bp w W' vD vT rest':=
 ⟨h1,cu h.gr h2,⟨h.lt.1,h.lt.2.1,Nat.lt_of_lt_of_le h.lt.2.2 h2.size⟩,(h2.block _ (Array.getElem?_eq_some_iff.1 h.z).1 (by have:=h.lt; simp; omega)).trans h.z,(h2.block _ (Array.getElem?_eq_some_iff.1 h.blk).1 (by have:=h.lt; simp; omega)).trans h.blk⟩
theorem Pg.below (h:Pg R bp w W vD vT rest) (hb:Below W.heap.size W W'):Pg R bp w W' vD vT rest:=h.then (h.rd.below hb) (aQ hb)
theorem Pg.put (h:Pg R bp w W vD vT rest) (hr:aS W' R rest) (hg:w.grownBy W' (some R.br)) (hB:Below (bp + 1) W W') (j:Nat) (v BM vT':Value) (hy:(#[vD,vT]:Array Value).setIfInBounds j v= #[BM,vT']):Pg R bp w (W'.setCell ⟨bp,j,none⟩ v) BM vT' rest:=
 ⟨mO hr _ _ (by have:=h.lt; have:=R.b0; show R.B0≤bp; omega) (by have:=h.lt; show bp≠R.br; omega),kg hg _ _ (by have:=h.lt; show _≤bp; omega),by have h1:=h.lt; have h2:=hB.size; simp [World.setCell]; omega,(aM W' _ _ rfl (by have:=h.lt; show bp≠_; omega)).trans ((hB.block _ (by have:=h.lt; omega)).trans h.z),by rw [aR ((hB.block _ (Nat.lt_succ_self _)).trans h.blk),hy]⟩
theorem Pg.cells (h:Pg R bp w W vD vT rest):W.cell? ⟨bp,0,none⟩=some vD∧W.cell? ⟨bp,1,none⟩=some vT∧ ∀j,W.frozen? ⟨bp,j,none⟩=false:=
 ⟨ak h.blk rfl,ak h.blk rfl,fun _=>aD h.blk⟩
end
theorem z2p {w:World} {b:Nat} {t:TypeId} (h:w.heap[b]? =some (.cells KU t (0,0))):
 w.cell? ⟨b,0,none⟩=some (.slice none 0 0)∧w.cell? ⟨b,1,none⟩=some (.slice none 0 0)∧w.frozen? ⟨b,0,none⟩=false∧w.frozen? ⟨b,1,none⟩=false:=
 ⟨ak h rfl,ak h rfl,aD h,aD h⟩
theorem OH {R:Rp} {w W:World} {a a':Option Addr} {n c n' c':Nat} {r:aj} {res:aT Pr} (e:res= .no r) (hr:aS W R r) (hg:w.grownBy W (some R.br)) (hl:R.br < w.heap.size):
 M4 R w res (.returned (.tuple #[.agg #[.slice a n c,.slice a' n' c'],.bool false])) (W.setCells w.heap.size 0 [.slice a n c,.slice a' n' c']):=by
 subst e
 exact ⟨⟨a,n,c,a',n',c',rfl⟩,mq hr (aO _ _ _ _) (by have:=R.b0; omega) (by omega),jF hg _ _ _ (Nat.le_refl _)⟩
theorem VI:(Tryz.prog.info? 26).map (·.size)=some 2:=by kernel_rfl
theorem XA {R:Rp} {w W:World} {p:Pr} {bq bQ:Option Addr} {bg bn:Nat} {r:aj} {res:aT Pr} {B:Nat} (e:res= .ok p r) (hl:p.ds.length≤4096∧p.ts.length≤4096∧p.ds.length≤bg∧p.ts.length≤bn)
 (hst:bD B W (fun w2=>gV w2 w2.heap.size p.ds bq 0∧gP w2 w2.heap.size p.ts bQ 0)) (hB:w.heap.size < B) (hr:aS W R r) (hg:w.grownBy W (some R.br)) (hlt:R.br < w.heap.size):
 M4 R w res (.returned (.tuple #[.agg #[.slice bq p.ds.length bg,.slice bQ p.ts.length bn],.bool (!p.ts.isEmpty)])) (W.setCells w.heap.size 0 [.slice bq p.ds.length bg,.slice bQ p.ts.length bn]):=by
 subst e
 exact ⟨⟨bq,bg,bQ,bn,rfl,hl,(hst.next ⟨(aO w.heap.size _ 0 W).size,fun k h1 h2=>(aO w.heap.size _ 0 W).block k h2 (by simp; omega)⟩).mono (Nat.le_of_lt hB)⟩,mq hr (aO _ _ _ _) (by have:=R.b0; omega) (by omega),jF hg _ _ _ (Nat.le_refl _)⟩
def jA (P S:World→Prop):List Bool→World→Prop
 | [x],w=>if x then S w else P w
 | _,_=>False
section
variable {P S:World→Prop} {c:List Bool} {w w':World} {k i:Nat}
theorem jA.bits (h:jA P S c w): ∃x,c=[x]:=by
 match c,h with
 | [x],_=>exact ⟨x,rfl⟩
 | [],h=>exact h.elim
 | _ ::_ ::_,h=>exact h.elim
theorem jA.skip (h1:(k == i)=false) (h:jA P S c w):jA P S (mW [k] c i) w:=by
 obtain ⟨x,rfl⟩:=h.bits
 simp only [mW,h1,Bool.or_false]; exact h
theorem jA.fire (h1:(k == i)=true) (h:S w):jA P S (mW [k] [false] i) w:=by
 simp only [mW,h1,Bool.or_true]; exact h
end
def SV (R:Rp) (bp:Nat) (w:World) (xu:aT (List De)) (g:Nat) (wr:World):Prop:=
 ∃f l rest vD,g=rest.length∧rest.length≤f∧xu=(ko f rest).map (l++ ·)∧Pg R bp w wr vD (.slice none 0 0) rest∧rG (bp + 1) wr vD l∧(∀d ∈ l,d.Ok)∧l.length + rest.length≤4096
def TN (R:Rp) (bp:Nat) (w W2:World) (vD:Value) (resT:aT (List Th)) (g:Nat) (wr:World):Prop:=
 ∃f l rest vT,g=rest.length∧rest.length≤f∧resT=(kN f rest).map ((l.map (·.t))++ ·)∧Pg R bp w wr vD vT rest∧fM (bp + 1) W2 wr∧uK W2.heap.size wr vT l∧(∀x ∈ l,x.t.Ok∧x.t.cB.length≤x.dI)∧l.length + rest.length≤4096
theorem NW (rest:aj):isDecl rest=((((nextK rest:Nat):Int) == 3) && (j3 (ay rest) != 0)):=by
 unfold isDecl; rw [pq 3]; rfl
theorem Np {f:Nat} {ts:aj} (h:isDecl ts=false):ko f ts= .ok [] ts:=by
 cases f with
 | zero=>rfl
 | succ f=>unfold ko; rw [if_neg (by rw [h]; decide)]
theorem Ou {f:Nat} {ts r:aj} (h:isDecl ts=true) (h1:oz ts= .no r):ko (f + 1) ts= .no r:=by unfold ko; rw [if_pos h,h1]; rfl
theorem Pk {f:Nat} {ts r:aj} {d:De} (h:isDecl ts=true) (h1:oz ts= .ok d r):ko (f + 1) ts=(ko f r).map (d :: ·):=by
 conv=>lhs; unfold ko
 rw [if_pos h,h1]; rfl
theorem Pf {f:Nat} {ts:aj} (h:at' [116,104,114,101,97,100] ts=false):kN f ts= .ok [] ts:=by
 cases f with
 | zero=>rfl
 | succ f=>unfold kN; rw [if_neg (by rw [h]; decide)]
theorem Rm {f:Nat} {ts r:aj} (h:at' [116,104,114,101,97,100] ts=true) (h1:uy ts= .no r):kN (f + 1) ts= .no r:=by unfold kN; rw [if_pos h,h1]; rfl
theorem Qu {f:Nat} {ts r:aj} {t:Th} (h:at' [116,104,114,101,97,100] ts=true) (h1:uy ts= .ok t r):kN (f + 1) ts=(kN f r).map (t :: ·):=by
 conv=>lhs; unfold kN
 rw [if_pos h,h1]; rfl
theorem fM.vo {B:Nat} {w w1 w2:World} (h:fM B w w1) (hb:Below w.heap.size w1 w2):fM B w w2:=⟨Nat.le_trans h.1 hb.size,fun k h1 h2=>(hb.block k h2).trans (h.2 k h1 h2)⟩
theorem Uv {R:Rp} {w:World} {ts:aj} {bp:Nat} (hI:aS w R ts) (hg:w.heap.size + 1=bp): ∀W,((w.alloc (.cells #[.slice none 0 0,.slice none 0 0] 26)).alloc (.cells #[.slice none 0 0,.slice none 0 0] 26))=W→Pg R bp w W (.slice none 0 0) (.slice none 0 0) ts:=by
 intro W hW
 have hb1:Below w.heap.size w (w.alloc (.cells #[.slice none 0 0,.slice none 0 0] 26)):=ah _ _
 have hz1:(w.alloc (.cells #[.slice none 0 0,.slice none 0 0] 26)).heap[w.heap.size]? =some (.cells KU 26 (0,0)):=heap_alloc_new _ _
 have hs1:(w.alloc (.cells #[.slice none 0 0,.slice none 0 0] 26)).heap.size=bp:=by simp [hg]
 generalize w.alloc (.cells #[.slice none 0 0,.slice none 0 0] 26)=W1 at *
 have hb2:Below w.heap.size w W:=by rw [← hW]; exact hb1.alloc hb1.size _
 exact ⟨hI.below hb2,aQ hb2,⟨hI.lt,by omega,by rw [← hW]; simp; omega⟩,by rw [← hW]; exact (heap_alloc_old _ _ (Array.getElem?_eq_some_iff.1 hz1).1).trans hz1,by rw [← hW,← hs1]; exact heap_alloc_new _ _⟩
set_option maxHeartbeats 4000000 in
set_option maxRecDepth 100000 in
theorem Kl (R:Rp) (ts:aj) (w:World) (hI:aS w R ts):
 Calls Tryz.prog 33 #[.pointer (some ⟨R.br,0,none⟩)] w (M4 R w (prog ts)):=by
 have HI:=Lib.hid hI
 have aY:=Lib.hid hI.lt
 have HLEN:=Lib.hid hI.len
 obtain ⟨res,gB⟩: ∃res,Hid (prog ts=res):=⟨_,Lib.hid rfl⟩
 obtain ⟨xu,SQ⟩: ∃xu,Hid (ko ts.length ts=xu):=⟨_,Lib.hid rfl⟩
 have BD:Hid (res=xu.bind fun ds r=>(kN r.length r).map fun th=>⟨ds,th⟩):=Lib.hid (by rw [← gB.out,← SQ.out]; rfl)
 rw [gB.out]
 have hf0:=aj6
 have hf1:=ak0
 clear hI
 go_enter Tryz.func33,Tryz.ntmps33
 go_upto_block 0 with fail
 obtain ⟨bp,hg⟩: ∃g,w.heap.size + 1=g:=⟨_,rfl⟩
 rw [hg]
 generalize hW:World.alloc (World.alloc w _) _=W0
 have Bz:Hid (Pg R bp w W0 (.slice none 0 0) (.slice none 0 0) ts):=Lib.hid (Uv HI.out hg W0 hW)
 clear hW hg
 go_cut [] (fun W'=> ∃l rest vD,xu= .ok l rest∧Pg R bp w W' vD (.slice none 0 0) rest∧rG (bp + 1) W' vD l∧(∀d ∈ l,d.Ok)∧l.length + rest.length≤4096)
 case first=>
  have ql:Hid (SV R bp w xu ts.length W0):=Lib.hid ⟨ts.length,[],ts,_,rfl,Nat.le_refl _,by rw [← SQ.out]; cases ko ts.length ts <;> rfl,Bz.out,Grow.nil _ _ _ _ _ _,by simp,by have:=HLEN.out; simp; omega⟩
  obtain ⟨i0,hi,hz0,hz1,hz2⟩:=XT
  have jI:=Lib.hid (And.intro hi (And.intro hz0 (And.intro hz1 hz2)))
  clear hi hz0 hz1 hz2 Bz SQ
  go_wp2_with fail
  go_loopg [5,6] ts.length (fun gk _ _ wr=>SV R bp w xu gk wr)
  case atStart=>exact ql.out
  case round=>
   obtain ⟨f,l,rest,vD,rfl,hf,hres,hs,hg,hok,hll⟩:=hrel
   have HF:=Lib.hid hf
   have mU:=Lib.hid hres
   have HS:=Lib.hid hs
   have HG:=Lib.hid hg
   have fH:=Lib.hid hok
   have sZ:=Lib.hid hll
   obtain ⟨av,cv,hv⟩:=hg.len
   have fT:=Lib.hid (fun w hI=>gJ R rest w hI)
   unfold ku at fT
   have HDC:=Lib.hid (fun w=>A8 (tx (ay rest)) (l:=ay rest) (Eo _) w)
   clear hf hres hs hg hok hll ql
   subst hv
   go_upto_region 2 with fail
   go_cut [19] (fun s19 W'=>s19= .bool (isDecl rest)∧Below wr.heap.size wr W')
   case first=>
    have HE:=Lib.hid (NW rest)
    generalize isDecl rest=b at *
    generalize ((nextK rest:Nat):Int)=k at *
    generalize tx (ay rest)=s at *
    generalize j3 (ay rest)=dc at *
    cases hk:(k == 3)
    ·go_wp2_with fail
     refine (fT.out _ HS.out.rd).mono ?_
     rintro e w1 ⟨rfl,h2⟩
     have HB1:=Lib.hid h2
     clear h2
     go_wp2_with fail
     go_meet
     exact ⟨by rw [HE.out,hk]; rfl,HB1.out⟩
    ·go_wp2_with fail
     refine (fT.out _ HS.out.rd).mono ?_
     rintro e w1 ⟨rfl,h2⟩
     have HB1:=Lib.hid h2
     have HR1:=Lib.hid (HS.out.rd.below h2)
     clear h2
     go_wp2_with fail
     refine (fT.out _ HR1.out).mono ?_
     rintro e w2 ⟨rfl,h2⟩
     have HB2:=Lib.hid (HB1.out.trans (h2.mono HB1.out.size))
     clear h2
     go_wp2_with fail
     refine (HDC.out _).mono ?_
     rintro e w3 ⟨rfl,rfl⟩
     go_wp2_with fail
     go_meet
     exact ⟨by rw [HE.out,hk]; rfl,HB2.out⟩
   obtain ⟨rfl,hB⟩:=hcut
   obtain ⟨W1,rfl⟩: ∃W:World,W=wc:=⟨_,rfl⟩
   have nA:=Lib.hid (HS.out.below hB)
   have tu:=Lib.hid (HG.out.next (aK hB))
   clear hB HS HG fT HDC
   cases hd:isDecl rest
   ·have BP:Hid (xu= .ok l rest):=Lib.hid (mU.out.trans (by rw [Np hd]; show aT.ok (l++[]) rest=_; rw [List.append_nil]))
    go_wp2_with fail
    go_meet
    exact ⟨l,rest,_,BP.out,nA.out,tu.out,fH.out,sZ.out⟩
   ·have HC:=Lib.hid (Da R rest W1 nA.out.rd hd)
    go_wp2_with fail
    refine HC.out.mono ?_
    obtain ⟨f',hf'⟩: ∃f',f=f' + 1:=⟨f - 1,by
     have h1:=HF.out
     have h2:rest.length≠0:=fun e=>by rw [List.length_eq_zero_iff.1 e] at hd; exact absurd hd (by decide)
     omega⟩
    subst hf'
    have HN:Hid (∀r,oz rest= .no r→res= .no r):=Lib.hid (fun r h=>BD.out.trans (by rw [mU.out,Ou hd h]; rfl))
    have HO:Hid (∀d r,oz rest= .ok d r→xu=(ko f' r).map ((l++[d])++ ·)∧r.length < rest.length):=Lib.hid (fun d r h=>⟨mU.out.trans (by rw [Pk hd h,jW]; exact Bn (fun a=>by simp)),Q5 h⟩)
    clear mU HC
    generalize oz rest=ah0 at *
    cases ah0 with
    | no r=>
      have mP:=Lib.hid (HN.out r rfl)
      clear HN HO
      rintro e w2 ⟨⟨d,rfl⟩,h2,h3⟩
      have HS2:=Lib.hid (nA.out.then h2 h3)
      clear h2 h3 nA tu
      unfold vY
      go_upto_region 4 with fail
      generalize hW:World.alloc w2 _=W3
      have jg:Hid (Pg R bp w W3 _ _ r):=Lib.hid (by rw [← hW]; exact HS2.out.below (ah _ _))
      clear hW HS2
      obtain ⟨c0,c1,fc⟩:=jg.out.cells
      obtain ⟨y0,y1,g0,g1⟩:=z2p jg.out.z
      clear fc
      go_wp2_with fail
      exact bodyPost_ret (v:= .tuple #[.agg #[.slice _ _ _,.slice _ _ _],.bool false]) (by simp [results,Tryz.results33,go_sem,y0,y1]) rfl (OH mP.out jg.out.rd jg.out.gr aY.out)
    | ok d r=>
      have Dq:=Lib.hid (HO.out d r rfl)
      clear HN HO
      rintro e w2 ⟨⟨AX,rfl⟩,h2,h3⟩
      have WV:=Lib.hid AX
      have HS2:=Lib.hid (nA.out.then h2 h3)
      have HG2:=Lib.hid (tu.out.next (jH h3 (by have:=nA.out.lt; omega)))
      clear h2 h3 nA tu AX
      unfold vY
      go_upto_region 4 with fail
      obtain ⟨gd,hg⟩: ∃g,w2.heap.size=g:=⟨_,rfl⟩
      generalize hW:World.alloc w2 _=W3
      have jg:Hid (Pg R bp w W3 _ _ r):=Lib.hid (by rw [← hW]; exact HS2.out.below (ah _ _))
      have tq:Hid (rG (bp + 1) W3 _ l):=Lib.hid (by rw [← hW]; exact HG2.out.next (aK (ah _ _)))
      have HB3:Hid (W3.heap[gd]? =some (.cells (iq d).toArray 62 (0,0))):=Lib.hid (by rw [← hW,← hg]; exact heap_alloc_new _ _)
      rw [hg]
      clear hW hg HS2 HG2
      obtain ⟨e0,e1,e2,e3,e4,e5⟩:(W3.cell? ⟨gd,0,none⟩=some (.int .i64 d.kind)∧W3.cell? ⟨gd,1,none⟩=some (.int .i64 d.line)∧W3.cell? ⟨gd,2,none⟩=some (.string d.nm)∧W3.cell? ⟨gd,3,none⟩=some (.int .i64 d.size)∧W3.cell? ⟨gd,4,none⟩=some (.int .i64 d.init)∧W3.cell? ⟨gd,5,none⟩=some (.string d.on)):=⟨ak HB3.out rfl,ak HB3.out rfl,ak HB3.out rfl,ak HB3.out rfl,ak HB3.out rfl,ak HB3.out rfl⟩
      obtain ⟨c0,c1,fc⟩:=jg.out.cells
      clear fc
      have nX:=Lib.hid (tq.out.next (aK (ah W3 (.cells (iq d).toArray 62))))
      have sj:=Lib.hid (lW (heap_alloc_new W3 (.cells (iq d).toArray 62)))
      obtain ⟨hi,hz0,hz1,hz2⟩:=jI.out
      have hbs:bp + 1≤W3.heap.size + 1:=by have:=jg.out.lt; omega
      have hkl:l.length + 1≤maxLen:=by have:=sZ.out; unfold maxLen; omega
      have X5:(l.length + 1) * 64≤140737488355328:=by have:=sZ.out; omega
      go_wp2_with (at_builtin; refine wpList_append_lies _ rfl _ _ 23 rfl (bp + 1) 62 i0 _ 6 64 Tryz.underlying23 hi hz0 hz1 hz2 rfl (by decide) _ _ _ rfl nX.out.own ⟨W3.heap.size,0,none⟩ 1 1 (iq d) rfl rfl sj.out (by simp [iq,Value.oneCell']) (by decide) hkl X5 (by simpa using hbs) _ rfl ?_)
      clear hi hz0 hz1 hz2
      intro g cap w9 hown hgr hmv hlt2
      have qH:Hid (∀k,(Value.slice av (l).length cv).ownBlock=some k→bp + 1≤k):=Lib.hid (fun k hk=>(tq.out.lt k hk).1)
      have fU:Hid (Below (bp + 1) (W3.alloc (.cells (iq d).toArray 62)) w9):=Lib.hid (ow hgr qH.out (by simpa using hbs))
      have qB:Hid (Below (bp + 1) W3 w9):=Lib.hid (((ah W3 (.cells (iq d).toArray 62)).mono jg.out.lt.2.2).trans fU.out)
      have Fv:Hid (dW (bp + 1) (Value.slice av (l).length cv).ownBlock (W3.alloc (.cells (iq d).toArray 62)) (fun _=>True)):=Lib.hid (fun _ _=>trivial)
      have Fe:Hid (aS w9 R r):=Lib.hid (Dk (nG jg.out.rd _) hgr (fun k hk=>by have h1:=qH.out k hk; have h2:=jg.out.lt; have h3:=R.b0; omega))
      have zW:Hid (w.grownBy w9 (some R.br)):=Lib.hid (Ee (mh jg.out.gr _) (fU.out.mono (by have:=jg.out.lt; omega)))
      have qc:w9.heap[bp]? =some (.cells _ 26 (0,0)):=(qB.out.block _ (Nat.lt_succ_self _)).trans jg.out.blk
      have FN:=Lib.hid (nX.out.push (x:=d) Fv.out rfl hown hgr (by simpa using hmv))
      have c0:w9.cell? ⟨bp,0,none⟩=some (.slice av l.length cv):=ak qc rfl
      have f0:w9.frozen? ⟨bp,0,none⟩=false:=aD qc
      clear hown hgr hmv hlt2 hbs hkl X5 Fv sj nX fU qc e0 e1 e2 e3 e4 e5 c1
      go_wp2_with fail
      generalize hW:World.setCell w9 _ _=FL
      have wZ:Hid (Pg R bp w FL (.slice (some ⟨g,0,none⟩) (l.length + 1) cap) (.slice none 0 0) r):=Lib.hid (by rw [← hW]; exact jg.out.put Fe.out zW.out qB.out 0 _ _ _ rfl)
      have Ro:Hid (rG (bp + 1) FL (.slice (some ⟨g,0,none⟩) (l.length + 1) cap) (l++[d])):=Lib.hid (by rw [← hW]; exact FN.out.next (bC w9 ⟨bp,0,none⟩ _ (Nat.lt_succ_self _)))
      have LV:Hid (∀y ∈ l++[d],y.Ok):=Lib.hid (fun y hy=>by
       rcases List.mem_append.1 hy with hy | hy
       ·exact fH.out y hy
       ·rw [List.mem_singleton.1 hy]; exact WV.out)
      clear hW c0 f0 jg Fe zW qB FN qH tq HB3
      go_roundg r.length
      case measure=>exact Dq.out.2
      case rel=>exact ⟨f',l++[d],r,_,rfl,by have h1:=HF.out; have h2:=Dq.out.2; omega,Dq.out.1,wZ.out,Ro.out,LV.out,by have h1:=sZ.out; have h2:=Dq.out.2; simp only [List.length_append,List.length_singleton]; omega⟩
 obtain ⟨l,rest,vD,hrd,hP,hG,AX,hll⟩:=hcut
 obtain ⟨W2,rfl⟩: ∃W:World,W=wc:=⟨_,rfl⟩
 obtain ⟨bq,bg,hv,SH,Xc⟩:=hG.says AX
 subst hv
 have aP:=Lib.hid hP
 have HD2:=Lib.hid (And.intro SH Xc)
 have nW:=Lib.hid hll
 obtain ⟨resT,JY⟩: ∃resT,Hid (kN rest.length rest=resT):=⟨_,Lib.hid rfl⟩
 have tF:Hid (res=resT.map (fun th=>⟨l,th⟩)):=Lib.hid (by rw [BD.out,hrd,← JY.out]; rfl)
 clear hP hG AX hll SH Xc hrd Bz SQ gB BD
 go_upto_block 2 with fail
 go_cut [] (fun W'=> ∃(lt:List gX) (rest':aj) (vT:Value),resT= .ok (lt.map (·.t)) rest'∧Pg R bp w W' (.slice bq l.length bg) vT rest'∧fM (bp + 1) W2 W'∧uK W2.heap.size W' vT lt∧(∀x ∈ lt,x.t.Ok∧x.t.cB.length≤x.dI)∧lt.length≤4096)
 case first=>
  have ql:Hid (TN R bp w W2 (.slice bq l.length bg) resT rest.length W2):=Lib.hid ⟨rest.length,[],rest,_,rfl,Nat.le_refl _,by rw [← JY.out]; cases kN rest.length rest <;> rfl,aP.out,fM.refl _ _,Grow.nil _ _ _ _ _ _,by simp,by have:=nW.out; simp only [List.length_nil]; omega⟩
  obtain ⟨i0,hi,hz0,hz1,hz2⟩:=WE
  have jI:=Lib.hid (And.intro hi (And.intro hz0 (And.intro hz1 hz2)))
  have vQ:Hid (bp + 1≤W2.heap.size∧R.br < bp):=Lib.hid (by have:=aP.out.lt; omega)
  clear hi hz0 hz1 hz2 aP JY HD2
  go_wp2_with fail
  go_loopg [7,8] rest.length (fun gk _ _ wr=>TN R bp w W2 (.slice bq l.length bg) resT gk wr)
  case atStart=>exact ql.out
  case round=>
   obtain ⟨f,lt,rs,vT,rfl,hf,hres,hs,ha,hg,hok,hlt⟩:=hrel
   have HF:=Lib.hid hf
   have mU:=Lib.hid hres
   have HS:=Lib.hid hs
   have HA:=Lib.hid ha
   have HG:=Lib.hid hg
   have fH:=Lib.hid hok
   have sZ:=Lib.hid hlt
   obtain ⟨av,cv,hv⟩:=hg.len
   clear hf hres hs ha hg hok hlt ql
   subst hv
   cases hd:at' [116,104,114,101,97,100] rs
   ·have BP:Hid (resT= .ok (lt.map (·.t)) rs):=Lib.hid (mU.out.trans (by rw [Pf hd]; show aT.ok (_++[]) rs=_; rw [List.append_nil]))
    go_wp2_with fail
    refine (DZ R _ _ ⟨#[116,104,114,101,97,100]⟩ rfl HS.out.rd).mono ?_
    rw [hd]
    rintro e w1 ⟨rfl,h2⟩
    have nA:=Lib.hid (HS.out.below h2)
    have tu:=Lib.hid (HG.out.next (aK h2))
    have HA1:=Lib.hid (HA.out.trans (aK h2))
    clear h2
    go_wp2_with fail
    go_meet
    exact ⟨lt,rs,_,BP.out,nA.out,HA1.out,tu.out,fH.out,by have:=sZ.out; omega⟩
   ·go_wp2_with fail
    refine (DZ R _ _ ⟨#[116,104,114,101,97,100]⟩ rfl HS.out.rd).mono ?_
    rw [hd]
    rintro e w1 ⟨rfl,h2⟩
    have nA:=Lib.hid (HS.out.below h2)
    have tu:=Lib.hid (HG.out.next (aK h2))
    have HA1:=Lib.hid (HA.out.trans (aK h2))
    clear h2 HS HG HA
    have HC:=Lib.hid (N8 R rs w1 nA.out.rd hd)
    obtain ⟨f',hf'⟩: ∃f',f=f' + 1:=⟨f - 1,by
     have h1:=HF.out
     have h2:=at_len hd
     omega⟩
    subst hf'
    have HN:Hid (∀r,uy rs= .no r→res= .no r):=Lib.hid (fun r h=>tF.out.trans (by rw [mU.out,Rm hd h]; rfl))
    have HO:Hid (∀t r,uy rs= .ok t r→resT=(kN f' r).map ((lt.map (·.t)++[t])++ ·)∧r.length < rs.length):=Lib.hid (fun t r h=>⟨mU.out.trans (by rw [Qu hd h,jW]; exact Bn (fun a=>by simp)),Ri h⟩)
    clear mU
    generalize uy rs=Zx at *
    go_wp2_with fail
    refine HC.out.mono ?_
    cases Zx with
    | no r=>
      have mP:=Lib.hid (HN.out r rfl)
      clear HN HO HC
      rintro e w2 ⟨⟨nm,line,a1,n1,c1,a2,n2,c2,rfl⟩,h2,h3⟩
      have HS2:=Lib.hid (nA.out.then h2 h3)
      clear h2 h3 nA tu
      unfold oF
      go_upto_region 9 with fail
      generalize hW:World.alloc w2 _=W3
      have jg:Hid (Pg R bp w W3 _ _ r):=Lib.hid (by rw [← hW]; exact HS2.out.below (ah _ _))
      clear hW HS2
      obtain ⟨c0,c1,fc⟩:=jg.out.cells
      obtain ⟨y0,y1,g0,g1⟩:=z2p jg.out.z
      clear fc
      go_wp2_with fail
      exact bodyPost_ret (v:= .tuple #[.agg #[.slice _ _ _,.slice _ _ _],.bool false]) (by simp [results,Tryz.results33,go_sem,y0,y1]) rfl (OH mP.out jg.out.rd jg.out.gr aY.out)
    | ok t r=>
      have Dq:=Lib.hid (HO.out t r rfl)
      clear HN HO HC
      rintro e w2 ⟨⟨x,rfl,rfl,VU,XO⟩,h2,h3⟩
      have TW:=Lib.hid VU
      have iY:Hid (W2.heap.size≤w1.heap.size):=Lib.hid HA1.out.1
      have HS2:=Lib.hid (nA.out.then h2 h3)
      have HG2:=Lib.hid (tu.out.next (jH h3 (by have:=vQ.out; omega)))
      have HA2:=Lib.hid (HA1.out.trans (jH h3 (by have:=vQ.out; omega)))
      have ag2:=Lib.hid tu.out.lt
      have fV:=Lib.hid XO
      clear h2 h3 nA tu HA1 VU XO
      unfold gX.f
      go_upto_region 9 with fail
      obtain ⟨gd,hg⟩: ∃g,w2.heap.size=g:=⟨_,rfl⟩
      generalize hW:World.alloc w2 _=W3
      have jg:Hid (Pg R bp w W3 _ _ r):=Lib.hid (by rw [← hW]; exact HS2.out.below (ah _ _))
      have tq:Hid (uK W2.heap.size W3 _ lt):=Lib.hid (by rw [← hW]; exact HG2.out.next (aK (ah _ _)))
      have yB:Hid (fM (bp + 1) W2 W3):=Lib.hid (by rw [← hW]; exact HA2.out.trans (aK (ah _ _)))
      have Ud:Hid (bD w1.heap.size W3 (gX.I x)):=Lib.hid (by rw [← hW]; exact fV.out.next (aK (ah _ _)))
      have HB3:Hid (W3.heap[gd]? =some (.cells (gX.f x).toArray 67 (0,0))):=Lib.hid (by rw [← hW,← hg]; exact heap_alloc_new _ _)
      rw [hg]
      clear hW hg HS2 HG2 HA2 fV
      obtain ⟨e0,e1,e2,e3⟩:(W3.cell? ⟨gd,0,none⟩=some (.string x.t.nm)∧W3.cell? ⟨gd,1,none⟩=some (.int .i64 x.t.line)∧W3.cell? ⟨gd,2,none⟩=some (.slice x.fD x.t.cB.length x.dI)∧W3.cell? ⟨gd,3,none⟩=some (.slice x.bR x.t.body.len x.aZ)):=⟨ak HB3.out rfl,ak HB3.out rfl,ak HB3.out rfl,ak HB3.out rfl⟩
      obtain ⟨c0,c1,fc⟩:=jg.out.cells
      clear fc
      have nX:=Lib.hid (tq.out.next (aK (ah W3 (.cells (gX.f x).toArray 67))))
      have sj:=Lib.hid (lW (heap_alloc_new W3 (.cells (gX.f x).toArray 67)))
      obtain ⟨hi,hz0,hz1,hz2⟩:=jI.out
      have hbs:W2.heap.size≤W3.heap.size + 1:=by have:=yB.out.1; omega
      have hkl:lt.length + 1≤maxLen:=by have:=sZ.out; unfold maxLen; omega
      have X0:(lt.length + 1) * 72≤140737488355328:=by have:=sZ.out; omega
      go_wp2_with (at_builtin; refine wpList_append_lies _ rfl _ _ 24 rfl W2.heap.size 67 i0 _ 4 72 Tryz.underlying24 hi hz0 hz1 hz2 rfl (by decide) _ _ _ rfl nX.out.own ⟨W3.heap.size,0,none⟩ 1 1 (gX.f x) rfl rfl sj.out (by simp [gX.f,Value.oneCell']) (by decide) hkl X0 (by simpa using hbs) _ rfl ?_)
      clear hi hz0 hz1 hz2
      intro g cap w9 hown hgr hmv hlt2
      have qH:Hid (∀k,(Value.slice av lt.length cv).ownBlock=some k→W2.heap.size≤k):=Lib.hid (fun k hk=>(tq.out.lt k hk).1)
      have fU:Hid (Below W2.heap.size (W3.alloc (.cells (gX.f x).toArray 67)) w9):=Lib.hid (ow hgr qH.out (by simpa using hbs))
      have qB:Hid (Below W2.heap.size W3 w9):=Lib.hid (((ah W3 (.cells (gX.f x).toArray 67)).mono yB.out.1).trans fU.out)
      have Fv:Hid (dW W2.heap.size (Value.slice av lt.length cv).ownBlock (W3.alloc (.cells (gX.f x).toArray 67)) (gX.I x)):=Lib.hid (qV (Ud.out.next (aK (ah _ _))) iY.out (fun k hk=>(ag2.out k hk).2))
      have Fe:Hid (aS w9 R r):=Lib.hid (Dk (nG jg.out.rd _) hgr (fun k hk=>by have h1:=qH.out k hk; have h2:=vQ.out; have h3:=R.b0; omega))
      have zW:Hid (w.grownBy w9 (some R.br)):=Lib.hid (Ee (mh jg.out.gr _) (fU.out.mono (by have h1:=jg.out.lt; have h2:=vQ.out; omega)))
      have qc:w9.heap[bp]? =some (.cells _ 26 (0,0)):=(qB.out.block _ (by have:=vQ.out; omega)).trans jg.out.blk
      have FN:=Lib.hid (nX.out.push (x:=x) Fv.out rfl hown hgr (by simpa using hmv))
      have Gl:Hid (fM (bp + 1) W2 w9):=Lib.hid (yB.out.vo qB.out)
      have c1:w9.cell? ⟨bp,1,none⟩=some (.slice av lt.length cv):=ak qc rfl
      have f1:w9.frozen? ⟨bp,1,none⟩=false:=aD qc
      clear hown hgr hmv hlt2 hbs hkl X0 Fv sj nX fU qc e0 e1 e2 e3 c0
      go_wp2_with fail
      generalize hW:World.setCell w9 _ _=FL
      have wZ:Hid (Pg R bp w FL (.slice bq l.length bg) (.slice (some ⟨g,0,none⟩) (lt.length + 1) cap) r):=Lib.hid (by rw [← hW]; exact jg.out.put Fe.out zW.out (qB.out.mono vQ.out.1) 1 _ _ _ rfl)
      have Ro:Hid (uK W2.heap.size FL (.slice (some ⟨g,0,none⟩) (lt.length + 1) cap) (lt++[x])):=Lib.hid (by rw [← hW]; exact FN.out.next (bC w9 ⟨bp,1,none⟩ _ vQ.out.1))
      have ag9:Hid (fM (bp + 1) W2 FL):=Lib.hid (by rw [← hW]; exact Gl.out.trans (bC w9 ⟨bp,1,none⟩ _ (Nat.lt_succ_self _)))
      have LV:Hid (∀y ∈ lt++[x],y.t.Ok∧y.t.cB.length≤y.dI):=Lib.hid (fun y hy=>by
       rcases List.mem_append.1 hy with hy | hy
       ·exact fH.out y hy
       ·rw [List.mem_singleton.1 hy]; exact TW.out)
      clear hW c1 f1 jg Fe zW qB FN qH tq HB3 Gl yB
      go_roundg r.length
      case measure=>exact Dq.out.2
      case rel=>exact ⟨f',lt++[x],r,_,rfl,by have h1:=HF.out; have h2:=Dq.out.2; omega,by rw [List.map_append]; exact Dq.out.1,wZ.out,ag9.out,Ro.out,LV.out,by have h1:=sZ.out; have h2:=Dq.out.2; simp only [List.length_append,List.length_singleton]; omega⟩
 obtain ⟨lt,r9,vT,hrt,hP,hA,hG,hok,hln⟩:=hcut
 obtain ⟨W8,rfl⟩: ∃W:World,W=wc:=⟨_,rfl⟩
 obtain ⟨bQ,bn,hv,SE,Xm⟩:=hG.says hok
 subst hv
 have lI:=Lib.hid hP
 have mP:Hid (res= .ok ⟨l,lt.map (·.t)⟩ r9):=Lib.hid (by rw [tF.out,hrt]; rfl)
 have rP:Hid ((lt.map (·.t)).length=lt.length):=Lib.hid (List.length_map _)
 have HST:Hid (l.length≤bg∧(lt.map (·.t)).length≤bn∧bD (bp + 1) W8 (fun w2=>gV w2 w2.heap.size l bq 0∧gP w2 w2.heap.size (lt.map (·.t)) bQ 0)):=Lib.hid ⟨HD2.out.1,by rw [rP.out]; exact SE,fun w2 h2=>⟨HD2.out.2 w2 (hA.trans h2),Xm w2 (h2.mono aP.out.lt.2.2)⟩⟩
 have qd:Hid (l.length≤4096∧(lt.map (·.t)).length≤4096):=Lib.hid ⟨by have:=nW.out; omega,by rw [rP.out]; exact hln⟩
 clear hP hA hG hok hln SE Xm hrt HD2 tF rP nW aP JY
 generalize lt.map (·.t)=th at *
 clear hf0 hf1
 have HT0:Hid (decide ((0:Int) < (th.length:Int))= !th.isEmpty):=Lib.hid (by cases th <;> simp)
 have dD:Hid (Below W8.heap.size W8 (W8.drewN 1)):=Lib.hid (below_drewN (Below.refl _ _) 1)
 have wI:=Lib.hid (lI.out.below dD.out)
 have KP: ∀(x:Bool) w',jA (fun w'=>w'=W8.drewN 1) (fun w'=>w'=(W8.drewN 1).setCells w.heap.size 0 [.slice bq l.length bg,.slice bQ th.length bn]) [x] w'→w'.heap[bp]? =some (.cells #[.slice bq l.length bg,.slice bQ th.length bn] 26 (0,0)):=fun x w' h=>by
  cases x
  ·have h:w'=_:=h
   rw [h]; exact wI.out.blk
  ·have h:w'=_:=h
   rw [h]
   exact ((aO w.heap.size _ 0 (W8.drewN 1)).block _ wI.out.lt.2.2 (by have:=wI.out.lt; simp; omega)).trans wI.out.blk
 go_upto_region 12 with fail
 refine eG (by kernel_rfl) rfl ?_
 refine dU 0 7 [5] [[],[],[1],[1,2],[1,2,3],[0],[0,1,2,3,4,5]] [[some false],[none],[none],[none],[none],[some false],[some true]] (jA (fun w'=>w'=W8.drewN 1) (fun w'=>w'=(W8.drewN 1).setCells w.heap.size 0 [.slice bq l.length bg,.slice bQ th.length bn])) (fun _ _=>True) [50,51,52,53,54,3] rfl rfl (by rfl) (by kernel_rfl) (by kernel_rfl) (by kernel_rfl) (by kernel_rfl) (by kernel_rfl) (by rfl) (fun _=>trivial) (by rfl) rfl ?_
 simp only [List.take_succ_cons,List.take_zero,List.drop_zero,List.drop_succ_cons,jT,List.map_cons,List.map_nil]
 apply aG.step
 case aF=>
  intro c A w' hok hC hO hD
  obtain ⟨x,rfl⟩:=hC.bits
  have hb:=KP x w' hC
  have k0:w'.cell? ⟨bp,0,none⟩=some (.slice bq l.length bg):=ak hb rfl
  have k1:w'.cell? ⟨bp,1,none⟩=some (.slice bQ th.length bn):=ak hb rfl
  have e4:=hO 4 (by rfl)
  simp [Act.eval] at e4
  simp [aC,aB,au,Act.eval,Region.binds] at hD
  simp [go_sem,gd,Oper.wp,e4,k0,k1]
  exact aA.mk trivial (jA.skip (by rfl) hC) (aB.mk _ _)
 apply aG.step
 case aF=>
  intro c A w' hok hC hO hD
  have e4:=hO 4 (by rfl)
  simp [Act.eval] at e4
  simp [aC,aB,au,Act.eval,Region.binds] at hD
  simp [go_sem,gd,Oper.wp,hD,e4]
  exact aA.mk trivial (jA.skip (by rfl) hC) (aB.mk _ _)
 apply aG.step
 case aF=>
  intro c A w' hok hC hO hD
  obtain ⟨x,rfl⟩:=hC.bits
  have hb:=KP x w' hC
  have k1:w'.cell? ⟨bp,1,none⟩=some (.slice bQ th.length bn):=ak hb rfl
  simp [aC,aB,au,Act.eval,Region.binds] at hD
  simp [go_sem,gd,Oper.wp,hD,k1]
  exact aA.mk trivial (jA.skip (by rfl) hC) (aB.mk _ _)
 apply aG.step
 case aF=>
  intro c A w' hok hC hO hD
  simp [aC,aB,au,Act.eval,Region.binds] at hD
  simp [go_sem,gd,Oper.wp,hD]
  exact aA.mk trivial (jA.skip (by rfl) hC) (aB.mk _ _)
 simp only [List.nil_append,List.cons_append]
 refine aG.step (v:= .bool (!th.isEmpty)) ?_ ?_
 ·intro c A w' hok hC hO hD
  simp [aC,aB,au,Act.eval,Region.binds] at hD
  simp [go_sem,gd,Oper.wp,hD]
  exact aA.mk trivial (jA.skip (by rfl) hC) (show Value.bool _=_ by rw [← HT0.out]; simp)
 refine aG.some (fun _ _=>True) (fun _ _ _ _ _=>trivial) ?_ ?_
 ·intro c A w' hok hC hO hD
  obtain ⟨x,rfl⟩:=hC.bits
  obtain ⟨rfl,-⟩:=hok
  have hC:w'=_:=hC
  have e2:=hO 2 (by rfl)
  simp [Act.eval] at e2
  simp [aC,aB,au,Act.eval,Region.binds] at hD
  simp only [gd,if_true]
  refine wp_store_mid _ _ _ (by rfl) w.heap.size 0 #[.slice bq l.length bg,.slice bQ th.length bn] (by simp [Act.eval,e2]) (by simp [Act.eval,hD]) (by rw [hC]; exact lT wI.out.z (Nat.le_refl 2)) VI (by simp [Value.oneCell']) ?_
  exact aA.vU trivial (jA.fire (by rfl) (by rw [hC])) trivial
 apply aG.step
 case aF=>
  intro c A w' hok hC hO hD
  simp [aC,aB,au,Act.eval,Region.binds] at hD
  simp [go_sem,gd,Oper.wp,hD]
  exact aA.mk trivial (jA.skip (by rfl) hC) (aB.mk _ _)
 try simp only [List.nil_append,List.cons_append]
 refine aG.done ?_
 intro w9 rV
 try simp only [List.drop_succ_cons,List.drop_zero]
 intro x0 h0 x1 h1 x2 h2 x3 h3 x4 h4 x5 h5 x6 h6
 have h6':=Eq.symm (show x6=_ from h6)
 subst h6'
 clear h0 h1 h2 h3 h4 h5 h6 KP
 refine kE ?_
 refine fZ rfl ?_
 have Ah:Hid (w9=(W8.drewN 1).setCells w.heap.size 0 [.slice bq l.length bg,.slice bQ th.length bn]):=Lib.hid rV
 have fU:Hid (w9.heap[w.heap.size]? =some (.cells #[.slice bq l.length bg,.slice bQ th.length bn] 26 (0,0))):=Lib.hid (by rw [Ah.out]; exact gG wI.out.z rfl)
 clear rV
 have y0:w9.cell? ⟨w.heap.size,0,none⟩=some (.slice bq l.length bg):=ak fU.out rfl
 have y1:w9.cell? ⟨w.heap.size,1,none⟩=some (.slice bQ th.length bn):=ak fU.out rfl
 go_simp
 go_wp2_with fail
 exact bodyPost_ret (v:= .tuple #[.agg #[.slice bq l.length bg,.slice bQ th.length bn],.bool (!th.isEmpty)]) (by simp [results,Tryz.results33,go_sem,y0,y1]) rfl (by
  rw [Ah.out]
  exact XA mP.out ⟨qd.out.1,qd.out.2,HST.out.1,HST.out.2.1⟩ (HST.out.2.2.next (aK dD.out)) (by have:=wI.out.lt; omega) wI.out.rd wI.out.gr aY.out)
end Go.Proofs.YtehnipchbmjlhaaGreatDoor
end
section
set_option linter.unusedSimpArgs false
set_option linter.unusedVariables false
namespace Go.Proofs.YtehnipchbmjlhaaGreatDoor
open Go.RowKit
open Md Pz
theorem Vo (t:Tk.Tok):(Tk.Tok.cells t).length=3:=rfl
theorem KX {w:World} {g B:Nat} {ts:aj} (hB:g < B): ∀(l:aj) (k:Nat),(∀i t,l[i]? =some t→ ∀j u,(Tk.Tok.cells t)[j]? =some u→w.cell? ⟨g,(k + i) * 3 + j,none⟩=some u)→nM w B l (some ⟨g,0,none⟩) k
 | [],_,_=>trivial
 | t ::r,k,h=>by
   have h0:=h 0 t rfl
   refine ⟨⟨g,0,rfl,hB,?_,?_,?_⟩,KX (ts:=ts) hB r (k + 1) (fun i t' ht j u hu=>by rw [show k + 1 + i=k + (i + 1) by omega]; exact h (i + 1) t' (by simpa using ht) j u hu)⟩
   ·have:=h0 0 _ rfl; rw [Nat.zero_add]; exact this
   ·have:=h0 1 _ rfl; rw [Nat.zero_add]; exact this
   ·have:=h0 2 _ rfl; rw [Nat.zero_add]; exact this
theorem Ao {w:World} {base:Nat} {v:Value} {ts:aj} (h:w.ownsRow base 112 3 v ts.length (Tk.cellsOf ts)): ∃ao cap,v= .slice ao ts.length cap∧nM w w.heap.size ts ao 0:=by
 rcases h.2 with ⟨h1,h2⟩ | ⟨g,cap,cur,h1,hB,hg,hc,-,hs,ht⟩
 ·have:ts=[]:=by
   cases ts with
   | nil=>rfl
   | cons t r=>simp at h2
  subst this
  exact ⟨none,0,h1,trivial⟩
 ·refine ⟨some ⟨g,0,none⟩,cap,h1,KX (ts:=ts) (Array.getElem?_eq_some_iff.1 hg).1 ts 0 (fun i t hi j u hu=> ?_)⟩
  have hF:=flat_get Vo ts i t j u hi hu
  have hF':(Tk.cellsOf ts)[i * 3 + j]? =some u:=hF
  rw [← ht] at hF'
  have hlt:=(List.getElem?_eq_some_iff.1 hF').1
  rw [List.getElem?_take_of_lt (by rw [List.length_take] at hlt; omega)] at hF'
  rw [Nat.zero_add]
  exact ak hg (by rw [← hF']; simp)
def Nc (N:Nat) (w:World) (r:Pr × Int × Int) (e:Ending) (w':World):Prop:=
 ∃bq bg bQ bn,e= .returned (.tuple #[.agg #[.slice bq r.1.ds.length bg,.slice bQ r.1.ts.length bn],.int .i64 r.2.1,.int .i64 r.2.2])∧(r.1.ds.length≤4096∧r.1.ts.length≤4096∧r.1.ds.length≤bg∧r.1.ts.length≤bn)∧(gV w' w'.heap.size r.1.ds bq 0∧gP w' w'.heap.size r.1.ts bQ 0)∧Below w.heap.size w w'∧(N≤4096→r.2.1≠0→1≤r.2.2)
theorem Og {s:List UInt8} (h: ¬ (Tk.scan s).2.1=0):parse s=((⟨[],[]⟩:Pr),((Tk.scan s).2.1:Int),((Tk.scan s).2.2:Int)):=by unfold parse; rw [if_neg h]
theorem Qy {s:List UInt8} {rest:aj} (h:(Tk.scan s).2.1=0) (h1:prog (Tk.scan s).1= .no rest):parse s=(⟨[],[]⟩,3,bY (Tk.scan s).1 rest):=by unfold parse; rw [if_pos h,h1]
theorem Q7 {s:List UInt8} {p:Pr} {rest:aj} (h:(Tk.scan s).2.1=0) (h1:prog (Tk.scan s).1= .ok p rest) (h2:(p.ts.isEmpty || !rest.isEmpty)=true):parse s=(⟨[],[]⟩,3,bY (Tk.scan s).1 rest):=by
 unfold parse; rw [if_pos h,h1]; exact if_pos h2
theorem MF {s:List UInt8} {p:Pr} {rest:aj} (h:(Tk.scan s).2.1=0) (h1:prog (Tk.scan s).1= .ok p rest) (h2:(p.ts.isEmpty || !rest.isEmpty)=false):parse s=(p,0,0):=by
 unfold parse; rw [if_pos h,h1]; exact if_neg (by rw [h2]; decide)
theorem Ir {ts rest:aj} (h: ∀t ∈ ts,TL 4097 t) {pos:Nat} (hd:ts.drop pos=rest):(1:Int)≤bY ts rest:=by
 unfold bY
 cases rest with
 | cons t r=>
   have:=(h t (List.mem_of_mem_drop (by rw [hd]; exact List.mem_cons_self))).1.1
   dsimp only; omega
 | nil=>
   dsimp only
   cases hl:ts.getLast? with
   | none=>decide
   | some t=>have:=(h t (List.mem_of_getLast? hl)).1.1; dsimp only; omega
theorem ES {N:Nat} {w W:World} {r:Pr × Int × Int} {n l:Int} (e:r=(⟨[],[]⟩,n,l)) (hb:Below w.heap.size w W) (hln:N≤4096→n≠0→1≤l):Nc N w r (.returned (.tuple #[.agg #[.slice none 0 0,.slice none 0 0],.int .i64 n,.int .i64 l])) W:=by
 subst e
 exact ⟨none,0,none,0,rfl,⟨Nat.zero_le _,Nat.zero_le _,Nat.le_refl _,Nat.le_refl _⟩,⟨trivial,trivial⟩,hb,hln⟩
theorem DY {w W:World} (h:Below w.heap.size w W) (o:Nat) (vs:List Value):Below w.heap.size w (W.setCells w.heap.size o vs):=
 ⟨(aO w.heap.size vs o W).os.trans h.os,(aO w.heap.size vs o W).tape.trans h.tape,(aO w.heap.size vs o W).output.trans h.output,Nat.le_trans h.size (aO w.heap.size vs o W).size,fun k hk=>((aO w.heap.size vs o W).block k (Nat.lt_of_lt_of_le hk h.size) (by simp; omega)).trans (h.block k hk)⟩
theorem XB {w W:World} {res:Pr × Int × Int} {p:Pr} {a a':Option Addr} {n c n' c':Nat} (e:res=(p,0,0)) (hn:n=p.ds.length) (hn':n'=p.ts.length) (hl:n≤4096∧n'≤4096∧n≤c∧n'≤c') (hst:gV W W.heap.size p.ds a 0∧gP W W.heap.size p.ts a' 0) (hb:Below w.heap.size w W) {N:Nat} :
 Nc N w res (.returned (.tuple #[.agg #[.slice a n c,.slice a' n' c'],.int .i64 0,.int .i64 0])) W:=by
 subst e; subst hn; subst hn'
 exact ⟨a,c,a',c',rfl,hl,hst,hb,fun _ h=>absurd rfl h⟩
def WI (R:Rp) (w:World) (ts:aj) (res:Pr × Int × Int) (e:Ending) (w':World):Prop:=
 ∃(r:aj) (a:Option Addr) (n c:Nat) (a':Option Addr) (n' c':Nat) (b:Bool),e= .returned (.tuple #[.agg #[.slice a n c,.slice a' n' c'],.bool b])∧aS w' R r∧w.grownBy w' (some R.br)∧
  ((b && r.isEmpty)=false→res=(⟨[],[]⟩,3,bY ts r))∧
  ((b && r.isEmpty)=true→ ∃p:Pr,res=(p,0,0)∧n=p.ds.length∧n'=p.ts.length∧(n≤4096∧n'≤4096∧n≤c∧n'≤c')∧bD w.heap.size w' (fun w2=>gV w2 w2.heap.size p.ds a 0∧gP w2 w2.heap.size p.ts a' 0))
theorem Zk {R:Rp} {w w':World} {ts:aj} {res:Pr × Int × Int} {e:Ending} {pr:aT Pr}
 (h2: ∀rest,pr= .no rest→res=(⟨[],[]⟩,3,bY ts rest))
 (h3: ∀p rest,pr= .ok p rest→(p.ts.isEmpty || !rest.isEmpty)=true→res=(⟨[],[]⟩,3,bY ts rest))
 (h4: ∀p rest,pr= .ok p rest→(p.ts.isEmpty || !rest.isEmpty)=false→res=(p,0,0)) (h:M4 R w pr e w'):WI R w ts res e w':=by
 cases pr with
 | no r=>
   obtain ⟨⟨a,n,c,a',n',c',he⟩,hr,hg⟩:=h
   exact ⟨r,a,n,c,a',n',c',false,he,hr,hg,fun _=>h2 r rfl,fun h=>by simp at h⟩
 | ok p r=>
   obtain ⟨⟨bq,bg,bQ,bn,he,hl,hst⟩,hr,hg⟩:=h
   refine ⟨r,bq,_,bg,bQ,_,bn,_,he,hr,hg,fun h=>h3 p r rfl ?_,fun h=>⟨p,h4 p r rfl ?_,rfl,rfl,hl,hst⟩⟩
   ·cases hp:p.ts.isEmpty <;> cases hq:r.isEmpty <;> simp_all
   ·cases hp:p.ts.isEmpty <;> cases hq:r.isEmpty <;> simp_all
def nR (w:World) (ao:Option Addr) (cap:Nat) (ts:aj):Rp:=⟨w.heap.size,w.heap.size,ao,cap,ts,Nat.le_refl _⟩
theorem Nu {w W:World} {ao:Option Addr} {cap:Nat} {ts:aj} (hW:w.alloc (.cells #[.slice ao ts.length cap,.int .i64 0] 76)=W) (ht:nM w w.heap.size ts ao 0) (ok: ∀t ∈ ts,Fh t) (tl:(∀t ∈ ts,TL 4097 t)∧ts.length≤4096):aS W (nR w ao cap ts) ts:=by
 subst hW
 exact ⟨⟨0,Nat.zero_le _,rfl,heap_alloc_new _ _⟩,ht.below (ah _ _),⟨ok,tl.2⟩,tl.1⟩
set_option maxHeartbeats 4000000 in
set_option maxRecDepth 100000 in
theorem Gp (s:ByteArray) (w:World) (iG:dL w) (hm:s.size≤maxLen):
 Calls Tryz.prog 11 #[.string s] w (Nc s.size w (parse s.data.toList)):=by
 have kM:=Lib.hid iG
 have Gg:=Lib.hid (F3 s.data.toList)
 have qp:=Lib.hid (EM s.data.toList)
 obtain ⟨res,gB⟩: ∃res,Hid (parse s.data.toList=res):=⟨_,Lib.hid rfl⟩
 have tF:Hid (¬ (Tk.scan s.data.toList).2.1=0→res=((⟨[],[]⟩:Pr),((Tk.scan s.data.toList).2.1:Int),((Tk.scan s.data.toList).2.2:Int))):=Lib.hid (fun h=>gB.out.symm.trans (Og h))
 have HE2:Hid (∀rest,(Tk.scan s.data.toList).2.1=0→prog (Tk.scan s.data.toList).1= .no rest→res=(⟨[],[]⟩,3,bY (Tk.scan s.data.toList).1 rest)):=Lib.hid (fun rest h h1=>gB.out.symm.trans (Qy h h1))
 have gH:Hid (∀p rest,(Tk.scan s.data.toList).2.1=0→prog (Tk.scan s.data.toList).1= .ok p rest→(p.ts.isEmpty || !rest.isEmpty)=true→res=(⟨[],[]⟩,3,bY (Tk.scan s.data.toList).1 rest)):=Lib.hid (fun p rest h h1 h2=>gB.out.symm.trans (Q7 h h1 h2))
 have BX:Hid (∀p rest,(Tk.scan s.data.toList).2.1=0→prog (Tk.scan s.data.toList).1= .ok p rest→(p.ts.isEmpty || !rest.isEmpty)=false→res=(p,0,0)):=Lib.hid (fun p rest h h1 h2=>gB.out.symm.trans (MF h h1 h2))
 have vM:Hid (∀w,dL w→Calls Tryz.prog 32 #[.string s] w (uO w (Tk.scan s.data.toList))):=Lib.hid (fun w h=>I8 s w h hm)
 rw [gB.out]
 clear gB iG hm
 generalize Tk.scan s.data.toList=sc at *
 go_enter Tryz.func11,Tryz.ntmps11
 go_upto_region 1 with fail
 generalize hW:World.alloc w _=W0
 have HB0:Hid (Below w.heap.size w W0):=Lib.hid (by rw [← hW]; exact ah _ _)
 have HZ0:Hid (W0.heap[w.heap.size]? =some (.cells KU 26 (0,0))):=Lib.hid (by rw [← hW]; exact heap_alloc_new _ _)
 clear hW
 go_wp2_with fail
 refine (vM.out _ (kM.out.same HB0.out)).mono ?_
 rintro e w1 ⟨v,rfl,hown,hb⟩
 obtain ⟨ao,cap,rfl,htk⟩:=Ao hown
 have zw:=Lib.hid htk
 have HB1:=Lib.hid (HB0.out.trans (hb.mono HB0.out.size))
 have HZ1:=Lib.hid ((hb.block _ (Array.getElem?_eq_some_iff.1 HZ0.out).1).trans HZ0.out)
 clear hown hb htk vM HB0 HZ0
 have y0:w1.cell? ⟨w.heap.size,0,none⟩=some (.slice none 0 0):=ak HZ1.out rfl
 have y1:w1.cell? ⟨w.heap.size,1,none⟩=some (.slice none 0 0):=ak HZ1.out rfl
 have f0:w1.frozen? ⟨w.heap.size,0,none⟩=false:=aD HZ1.out
 have f1:w1.frozen? ⟨w.heap.size,1,none⟩=false:=aD HZ1.out
 have hlt:w.heap.size < w1.heap.size:=(Array.getElem?_eq_some_iff.1 HZ1.out).1
 by_cases h0:sc.2.1=0
 ·have Nv:Hid (∀(R:Rp) (wr:World),aS wr R sc.1→Calls Tryz.prog 33 #[.pointer (some ⟨R.br,0,none⟩)] wr (WI R wr sc.1 res)):=Lib.hid (fun R wr h=>(Kl R sc.1 wr h).mono (fun e w' hp=>Zk (fun r=>HE2.out r h0) (fun p r=>gH.out p r h0) (fun p r=>BX.out p r h0) hp))
  have Aj:=Lib.hid (And.intro qp.out.1 qp.out.2.1)
  rw [h0]
  go_upto_region 5 with fail
  generalize hW:World.alloc w1 _=W1
  have HR1:=Lib.hid (Nu hW zw.out Gg.out Aj.out)
  have HB2:Hid (Below w.heap.size w W1):=Lib.hid (by rw [← hW]; exact HB1.out.trans ((ah w1 _).mono HB1.out.size))
  have HZ2:Hid (W1.heap[w.heap.size]? =some (.cells KU 26 (0,0))):=Lib.hid (by rw [← hW]; exact ((ah w1 _).block _ hlt).trans HZ1.out)
  clear hW y0 y1 f0 f1 tF HE2 gH BX qp Gg kM zw Aj HB1 HZ1
  go_wp2_with fail
  refine (Nv.out _ _ HR1.out).mono ?_
  rintro e w2 ⟨r,a,n,c,a',n',c',b,rfl,h1,h2,h3,h4⟩
  go_upto_region 6 with fail
  generalize hW:World.alloc w2 _=W3
  have H3:=Lib.hid h3
  have H4:=Lib.hid h4
  have HG:=Lib.hid h2
  have HB3:Hid (Below w.heap.size w W3):=Lib.hid (by rw [← hW]; exact (HB2.out.trans (dX h2 (Nat.le_of_lt hlt) HB2.out.size)).trans ((ah w2 _).mono (Nat.le_trans HB2.out.size h2.size)))
  have o7:Hid (Below w2.heap.size w2 W3):=Lib.hid (by rw [← hW]; exact ah w2 _)
  have HR3:Hid (aS W3 (nR w1 ao cap sc.1) r):=Lib.hid (h1.below o7.out)
  have HZ3:Hid (W3.heap[w.heap.size]? =some (.cells KU 26 (0,0))):=Lib.hid (by
   have k1:=(Array.getElem?_eq_some_iff.1 HZ2.out).1
   exact (o7.out.block _ (Nat.lt_of_lt_of_le k1 h2.size)).trans ((h2.block _ k1 (by simp [nR]; omega)).trans HZ2.out))
  have HD3:Hid (W3.heap[w2.heap.size]? =some (.cells #[.slice a n c,.slice a' n' c'] 26 (0,0))):=Lib.hid (by rw [← hW]; exact heap_alloc_new _ _)
  obtain ⟨pos,hpos,hdrop,c0,c1⟩:=HR3.out.pos
  have c0:W3.cell? ⟨w1.heap.size,0,none⟩=some (.slice ao sc.1.length cap):=c0
  have c1:W3.cell? ⟨w1.heap.size,1,none⟩=some (.int .i64 (pos:Int)):=c1
  have hpos:pos≤sc.1.length:=hpos
  have hdrop:sc.1.drop pos=r:=hdrop
  have hlt3:w.heap.size < W3.heap.size:=(Array.getElem?_eq_some_iff.1 HZ3.out).1
  have MO:b=false∨(b=true∧r.isEmpty=false∧pos < sc.1.length)∨(b=true∧r.isEmpty=true∧ ¬ pos < sc.1.length):=by
   cases b
   ·exact .inl rfl
   ·right
    cases hr:r with
    | nil=>rw [hr] at hdrop; have:=List.drop_eq_nil_iff.1 hdrop; exact .inr ⟨rfl,rfl,by omega⟩
    | cons t q=>rw [hr] at hdrop; have:=congrArg List.length hdrop; simp at this; exact .inl ⟨rfl,rfl,by omega⟩
  have hltW:w.heap.size < W1.heap.size:=(Array.getElem?_eq_some_iff.1 HZ2.out).1
  clear hW h1 h2 h3 h4 Nv HR1 HZ2 hpos hdrop
  rcases MO with hb | ⟨hb,hr,hq⟩ | ⟨hb,hr,hq⟩
  ·subst hb
   go_quiet (fail)
   generalize rR:World.drewN W3 _=W4
   have dN:Hid (Below W3.heap.size W3 W4):=Lib.hid (by rw [← rR]; exact below_drewN (Below.refl _ _) _)
   clear rR
   have HR4:=Lib.hid (HR3.out.below dN.out)
   go_wp2_with fail
   refine (yN _ r _ HR4.out).mono ?_
   rintro e w5 ⟨rfl,hb5⟩
   have je:=Lib.hid (HB3.out.trans ((dN.out.trans (hb5.mono dN.out.size)).mono HB3.out.size))
   have gK:=Lib.hid ((hb5.block _ (Nat.lt_of_lt_of_le hlt3 dN.out.size)).trans ((dN.out.block _ hlt3).trans HZ3.out))
   clear hb5
   have y0:w5.cell? ⟨w.heap.size,0,none⟩=some (.slice none 0 0):=ak gK.out rfl
   have y1:w5.cell? ⟨w.heap.size,1,none⟩=some (.slice none 0 0):=ak gK.out rfl
   have f0:w5.frozen? ⟨w.heap.size,0,none⟩=false:=aD gK.out
   have f1:w5.frozen? ⟨w.heap.size,1,none⟩=false:=aD gK.out
   have CS:w.heap.size < w5.heap.size:=(Array.getElem?_eq_some_iff.1 gK.out).1
   have iH:=Lib.hid (H3.out rfl)
   go_wp2_with fail
   exact bodyPost_ret (v:= .tuple #[.agg #[.slice none 0 0,.slice none 0 0],.int .i64 3,.int .i64 (bY sc.1 r)]) (by simp [results,Tryz.results11,go_sem,y0,y1,CS,nR]) rfl (ES iH.out (bF (bF je.out _ _ (Nat.le_refl _)) _ _ (Nat.le_refl _)) (fun _ _=>by obtain ⟨q,_,hq,_⟩:=HR4.out.blk; exact Ir HR4.out.tl hq))
  ·subst hb
   go_quiet (fail)
   generalize rR:World.drewN W3 _=W4
   have dN:Hid (Below W3.heap.size W3 W4):=Lib.hid (by rw [← rR]; exact below_drewN (Below.refl _ _) _)
   clear rR
   have HR4:=Lib.hid (HR3.out.below dN.out)
   go_wp2_with fail
   refine (yN _ r _ HR4.out).mono ?_
   rintro e w5 ⟨rfl,hb5⟩
   have je:=Lib.hid (HB3.out.trans ((dN.out.trans (hb5.mono dN.out.size)).mono HB3.out.size))
   have gK:=Lib.hid ((hb5.block _ (Nat.lt_of_lt_of_le hlt3 dN.out.size)).trans ((dN.out.block _ hlt3).trans HZ3.out))
   clear hb5
   have y0:w5.cell? ⟨w.heap.size,0,none⟩=some (.slice none 0 0):=ak gK.out rfl
   have y1:w5.cell? ⟨w.heap.size,1,none⟩=some (.slice none 0 0):=ak gK.out rfl
   have f0:w5.frozen? ⟨w.heap.size,0,none⟩=false:=aD gK.out
   have f1:w5.frozen? ⟨w.heap.size,1,none⟩=false:=aD gK.out
   have CS:w.heap.size < w5.heap.size:=(Array.getElem?_eq_some_iff.1 gK.out).1
   have iH:=Lib.hid (H3.out (by rw [hr]; rfl))
   go_wp2_with fail
   exact bodyPost_ret (v:= .tuple #[.agg #[.slice none 0 0,.slice none 0 0],.int .i64 3,.int .i64 (bY sc.1 r)]) (by simp [results,Tryz.results11,go_sem,y0,y1,CS,nR]) rfl (ES iH.out (bF (bF je.out _ _ (Nat.le_refl _)) _ _ (Nat.le_refl _)) (fun _ _=>by obtain ⟨q,_,hq,_⟩:=HR4.out.blk; exact Ir HR4.out.tl hq))
  ·subst hb
   obtain ⟨p,hres,hn,hn',hl,hst⟩:=H4.out (by rw [hr]; rfl)
   have HP:=Lib.hid (And.intro hres (And.intro hn (And.intro hn' (And.intro hl hst))))
   clear hres hn hn' hl hst
   go_quiet (fail)
   generalize rR:World.drewN W3 _=W4
   have dN:Hid (Below W3.heap.size W3 W4):=Lib.hid (by rw [← rR]; exact below_drewN (Below.refl _ _) _)
   clear rR
   have eH:=Lib.hid ((dN.out.block _ hlt3).trans HZ3.out)
   have HD4:=Lib.hid ((dN.out.block _ (Array.getElem?_eq_some_iff.1 HD3.out).1).trans HD3.out)
   have y0:W4.cell? ⟨w.heap.size,0,none⟩=some (.slice none 0 0):=ak eH.out rfl
   have y1:W4.cell? ⟨w.heap.size,1,none⟩=some (.slice none 0 0):=ak eH.out rfl
   have f0:W4.frozen? ⟨w.heap.size,0,none⟩=false:=aD eH.out
   have f1:W4.frozen? ⟨w.heap.size,1,none⟩=false:=aD eH.out
   have d0:W4.cell? ⟨w2.heap.size,0,none⟩=some (.slice a n c):=ak HD4.out rfl
   have d1:W4.cell? ⟨w2.heap.size,1,none⟩=some (.slice a' n' c'):=ak HD4.out rfl
   have Jl:w.heap.size < W4.heap.size:=(Array.getElem?_eq_some_iff.1 eH.out).1
   go_wp2_with fail
   obtain ⟨hres,hn,hn',hl,hst⟩:=HP.out
   have hfin:fM W1.heap.size w2 ((W4.setCell ⟨w.heap.size,0,none⟩ (.slice a n c)).setCell ⟨w.heap.size,1,none⟩ (.slice a' n' c')):=
    ((aK (B:=W1.heap.size) (o7.out.trans (dN.out.mono o7.out.size))).trans (bC W4 _ _ hltW)).trans (bC _ _ _ hltW)
   exact bodyPost_ret (v:= .tuple #[.agg #[.slice a n c,.slice a' n' c'],.int .i64 0,.int .i64 0]) (by simp [results,Tryz.results11,go_sem,y0,y1,Jl]) rfl (XB hres hn hn' hl (hst.next hfin).now (bF (bF (HB3.out.trans (dN.out.mono HB3.out.size)) _ _ (Nat.le_refl _)) _ _ (Nat.le_refl _)))
 ·have hq:(((sc.2.1:Nat):Int) == 0)=false:=by rw [beq_eq_false_iff_ne]; omega
  have iH:=Lib.hid (tF.out h0)
  go_wp2_with fail
  exact bodyPost_ret (v:= .tuple #[.agg #[.slice none 0 0,.slice none 0 0],.int .i64 (sc.2.1:Int),.int .i64 (sc.2.2:Int)]) (by simp [results,Tryz.results11,go_sem,y0,y1,hlt]) rfl (ES iH.out (bF (bF HB1.out _ _ (Nat.le_refl _)) _ _ (Nat.le_refl _)) (fun hn h=>by have:=qp.out.2.2 h0 (by rw [← Lib.size_eq]; exact hn); omega))
end Go.Proofs.YtehnipchbmjlhaaGreatDoor
end
