/-
  Contract of the reader's thread.
  Contract of the reader's program.
  Contracts of parse.Parse and parse.Expr.
-/
import Derived.Test.YtehnipchbmjlhaaGreatDoorGRD
import Derived.Test.YtehnipchbmjlhaaGreatDoorGTC
section
set_option linter.unusedSimpArgs false
set_option linter.unusedVariables false
namespace Go.Proofs.YtehnipchbmjlhaaGreatDoor
open Go.RowKit
open Md Pz
theorem Vv:(Tryz.prog.info? 9).map (fun i=>(i.zero,i.size,i.bytes))=some (some (.string ⟨#[]⟩),1,16):=by kernel_rfl
theorem X5: ∃i0,Tryz.prog.info? 9=some i0∧i0.zero=some (.string ⟨#[]⟩)∧i0.size=1∧i0.bytes=16:=info_parts Vv
theorem ao3 (k:Int) (s:ByteArray) (n:Int) (w:World):(Instr.field 112 (.agg #[.int .i64 k,.string s,.int .i64 n]) 0).run Tryz.prog w= .ok (.int .i64 k) w:=by kernel_rfl
theorem ak9 (k:Int) (s:ByteArray) (n:Int) (w:World):(Instr.field 112 (.agg #[.int .i64 k,.string s,.int .i64 n]) 1).run Tryz.prog w= .ok (.string s) w:=by kernel_rfl
theorem al7 (k:Int) (s:ByteArray) (n:Int) (w:World):(Instr.field 112 (.agg #[.int .i64 k,.string s,.int .i64 n]) 2).run Tryz.prog w= .ok (.int .i64 n) w:=by kernel_rfl
def oQ (nm:ByteArray) (line:Int) (v b:Value):Value:= .agg #[.string nm,.int .i64 line,v,b]
def QM (R:Rp) (w:World) (res:aT Th) (e:Ending) (w':World):Prop:=
 match res with
 | .ok t r=>(∃x:gY,x.t=t∧e= .returned (.tuple #[.agg (gY.f x).toArray,.bool true])∧(x.t.Ok∧x.t.cB.length≤x.dG)∧bD w.heap.size w' (gY.I x))∧aS w' R r∧w.grownBy w' (some R.br)
 | .no r=>(∃nm line a n c a' n' c',e= .returned (.tuple #[oQ nm line (.slice a n c) (.slice a' n' c'),.bool false]))∧aS w' R r∧w.grownBy w' (some R.br)
def Ls:Array Value:= #[.string ⟨#[]⟩,.int .i64 0,.slice none 0 0,.slice none 0 0]
theorem FT {w:World} {b:Nat} {t:TypeId} (h:w.heap[b]? =some (.cells Ls t (0,0))):
 (w.cell? ⟨b,0,none⟩=some (.string ⟨#[]⟩)∧w.cell? ⟨b,1,none⟩=some (.int .i64 0)∧w.cell? ⟨b,2,none⟩=some (.slice none 0 0)∧w.cell? ⟨b,3,none⟩=some (.slice none 0 0))∧ ∀j,w.frozen? ⟨b,j,none⟩=false:=
 ⟨⟨ak h rfl,ak h rfl,ak h rfl,ak h rfl⟩,fun _=>aD h⟩
structure Ps (R:Rp) (bt B:Nat) (w W:World) (nm:ByteArray) (line:Int) (v:Value) (l:List ByteArray) (rest:aj):Prop where
 rd:aS W R rest
 gr:w.grownBy W (some R.br)
 lt:R.br < w.heap.size∧w.heap.size < bt∧bt < B∧B≤W.heap.size
 z:W.heap[w.heap.size]? =some (.cells Ls 67 (0,0))
 blk:W.heap[bt]? =some (.cells #[.string nm,.int .i64 line,v,.slice none 0 0] 67 (0,0))
 row:vW B W v l
section
variable {R:Rp} {bt B:Nat} {w W W':World} {nm:ByteArray} {line:Int} {v:Value} {l:List ByteArray} {rest rest':aj}
theorem Ps.then (h:Ps R bt B w W nm line v l rest) (h1:aS W' R rest') (h2:W.grownBy W' (some R.br)):Ps R bt B w W' nm line v l rest':=
 ⟨h1,cu h.gr h2,⟨h.lt.1,h.lt.2.1,h.lt.2.2.1,Nat.le_trans h.lt.2.2.2 h2.size⟩,(h2.block _ (Array.getElem?_eq_some_iff.1 h.z).1 (by have:=h.lt; simp; omega)).trans h.z,(h2.block _ (Array.getElem?_eq_some_iff.1 h.blk).1 (by have:=h.lt; simp; omega)).trans h.blk,h.row.next (jN h2 (by have:=h.lt; omega))⟩
theorem Ps.below (h:Ps R bt B w W nm line v l rest) (hb:Below W.heap.size W W'):Ps R bt B w W' nm line v l rest:=h.then (h.rd.below hb) (aQ hb)
theorem Ps.cells (h:Ps R bt B w W nm line v l rest):W.cell? ⟨bt,0,none⟩=some (.string nm)∧W.cell? ⟨bt,1,none⟩=some (.int .i64 line)∧W.cell? ⟨bt,2,none⟩=some v∧W.cell? ⟨bt,3,none⟩=some (.slice none 0 0)∧ ∀j,W.frozen? ⟨bt,j,none⟩=false:=
 ⟨ak h.blk rfl,ak h.blk rfl,ak h.blk rfl,ak h.blk rfl,fun _=>aD h.blk⟩
theorem Ps.name (h:Ps R bt B w W nm line v l rest) (s:ByteArray):Ps R bt B w (W.setCell ⟨bt,0,none⟩ (.string s)) s line v l rest:=
 ⟨nu h.rd _ _ (by have:=h.lt; have:=R.b0; show R.B0≤bt; omega) (by have:=h.lt; show bt≠R.br; omega),kD h.gr _ _ (by have:=h.lt; show _≤bt; omega),by have:=h.lt; simpa [World.setCell] using this,(aM W _ _ rfl (by have:=h.lt; show bt≠_; omega)).trans h.z,by rw [aR h.blk]; rfl,h.row.next (bC W ⟨bt,0,none⟩ _ h.lt.2.2.1)⟩
theorem Ps.cB {v':Value} {l':List ByteArray} (h:Ps R bt B w W nm line v l rest) (hr:aS W' R rest) (hg:w.grownBy W' (some R.br)) (hB:Below B W W') (hrow:vW B W' v' l'):Ps R bt B w (W'.setCell ⟨bt,2,none⟩ v') nm line v' l' rest:=
 ⟨nu hr _ _ (by have:=h.lt; have:=R.b0; show R.B0≤bt; omega) (by have:=h.lt; show bt≠R.br; omega),kD hg _ _ (by have:=h.lt; show _≤bt; omega),by have h1:=h.lt; have h2:=hB.size; simp [World.setCell]; omega,(aM W' _ _ rfl (by have:=h.lt; show bt≠_; omega)).trans ((hB.block _ (by have:=h.lt; omega)).trans h.z),by rw [aR ((hB.block _ h.lt.2.2.1).trans h.blk)]; rfl,hrow.next (bC W' ⟨bt,2,none⟩ _ h.lt.2.2.1)⟩
theorem Ps.uz (h:Ps R bt B w W nm line v l rest) (b:Value): ∀W',W.setCell ⟨bt,3,none⟩ b=W'→aS W' R rest∧w.grownBy W' (some R.br)∧W'.heap[w.heap.size]? =some (.cells Ls 67 (0,0))∧W'.heap[bt]? =some (.cells #[.string nm,.int .i64 line,v,b] 67 (0,0)):=by
 intro W' hW
 subst hW
 exact ⟨nu h.rd _ _ (by have:=h.lt; have:=R.b0; show R.B0≤bt; omega) (by have:=h.lt; show bt≠R.br; omega),kD h.gr _ _ (by have:=h.lt; show _≤bt; omega),(aM W _ _ rfl (by have:=h.lt; show bt≠_; omega)).trans h.z,by rw [aR h.blk]; rfl⟩
theorem Ps.L6 (h:Ps R bt B w W nm line v l rest):Ps R bt B w (W.setCell ⟨bt,3,none⟩ (.slice none 0 0)) nm line v l rest:=
 ⟨(h.uz _ _ rfl).1,(h.uz _ _ rfl).2.1,by have:=h.lt; simpa [World.setCell] using this,(h.uz _ _ rfl).2.2.1,(h.uz _ _ rfl).2.2.2,h.row.next (bC W ⟨bt,3,none⟩ _ h.lt.2.2.1)⟩
end
theorem xQ {R:Rp} {w W:World} {nm:ByteArray} {line:Int} {a a':Option Addr} {n c n' c':Nat} {r:aj} {res:aT Th} (e:res= .no r) (hr:aS W R r) (hg:w.grownBy W (some R.br)) (hl:R.br < w.heap.size):
 QM R w res (.returned (.tuple #[oQ nm line (.slice a n c) (.slice a' n' c'),.bool false])) (W.setCells w.heap.size 0 [.string nm,.int .i64 line,.slice a n c,.slice a' n' c']):=by
 subst e
 exact ⟨⟨nm,line,a,n,c,a',n',c',rfl⟩,mM hr (aO _ _ _ _) (by have:=R.b0; omega) (by omega),jF hg _ _ _ (Nat.le_refl _)⟩
theorem Qs {R:Rp} {w W:World} {x:gY} {r:aj} {res:aT Th} {B:Nat} (e:res= .ok x.t r) (hok:x.t.Ok∧x.t.cB.length≤x.dG) (hst:bD B W (gY.I x)) (hB:w.heap.size < B) (hr:aS W R r) (hg:w.grownBy W (some R.br)) (hl:R.br < w.heap.size):
 QM R w res (.returned (.tuple #[.agg (gY.f x).toArray,.bool true])) (W.setCells w.heap.size 0 (gY.f x)):=by
 subst e
 exact ⟨⟨x,rfl,rfl,hok,(hst.next ⟨(aO w.heap.size _ 0 W).size,fun k h1 h2=>(aO w.heap.size _ 0 W).block k h2 (by simp; omega)⟩).mono (Nat.le_of_lt hB)⟩,mM hr (aO _ _ _ _) (by have:=R.b0; omega) (by omega),jF hg _ _ _ (Nat.le_refl _)⟩
def Eu (r:aj):aT (List ByteArray):=if at' [41] r then .ok [] r.tail else (jJ (r.length + 1) r).close [41]
def mV (nm:ByteArray) (line:Int) (l:List ByteArray) (r:aj):aT Th:=(blk (3 * r.length + 3) r).map fun b=>⟨nm,line,l,b⟩
theorem VJ (ts:aj):uQ ts=(fK ts.tail).bind fun s r=>(need [40] r).bind fun _ r=>(Eu r).bind fun l r=>mV s (aU ts) l r:=rfl
theorem SB {f:Nat} {ts:aj} (h:isName ts=false):jJ (f + 1) ts= .no ts:=by unfold jJ; rw [mQ h]; rfl
theorem Ml {f:Nat} {ts:aj} (h:isName ts=true) (h1:at' [44] ts.tail=true):jJ (f + 1) ts=(jJ f ts.tail.tail).map (tx (ay ts) :: ·):=by
 conv=>lhs; unfold jJ
 rw [kI h]; show ite _ _ _=_; rw [if_pos h1]
theorem Nk {f:Nat} {ts:aj} (h:isName ts=true) (h1:at' [44] ts.tail=false):jJ (f + 1) ts= .ok [tx (ay ts)] ts.tail:=by
 conv=>lhs; unfold jJ
 rw [kI h]; show ite _ _ _=_; rw [if_neg (by rw [h1]; decide)]
def TY (R:Rp) (bt:Nat) (w:World) (nm:ByteArray) (line:Int) (Am:aT (List ByteArray)) (g:Nat) (wr:World):Prop:=
 ∃f l rest v,g=rest.length∧rest.length < f∧Am=(jJ f rest).map (l++ ·)∧Ps R bt (bt + 1) w wr nm line v l rest∧l.length + rest.length≤4096∧ ∀s ∈ l,s.size≤maxLen
set_option maxHeartbeats 4000000 in
set_option maxRecDepth 100000 in
theorem Nt (R:Rp) (ts:aj) (w:World) (hI:aS w R ts) (hk:at' [116,104,114,101,97,100] ts=true):
 Calls Tryz.prog 69 #[.pointer (some ⟨R.br,0,none⟩)] w (QM R w (uQ ts)):=by
 have HI:=Lib.hid hI
 have HL:=Lib.hid (kr hI)
 have hlt:=hI.lt
 obtain ⟨t0,r0,hr⟩:=yG hk
 have mF:=Lib.hid hr
 rw [VJ]
 obtain ⟨res,gB⟩: ∃res,Hid (((fK ts.tail).bind fun s r=>(need [40] r).bind fun _ r=>(Eu r).bind fun l r=>mV s (aU ts) l r)=res):=⟨_,Lib.hid rfl⟩
 rw [gB.out]
 clear hk hr
 have hf2:=al7
 go_enter Tryz.func69,Tryz.ntmps69
 go_upto_region 1 with fail
 generalize hW:World.alloc w _=W0
 have HB0:Hid (Below w.heap.size w W0):=Lib.hid (by rw [← hW]; exact ah _ _)
 have HZ0:Hid (W0.heap[w.heap.size]? =some (.cells Ls 67 (0,0))):=Lib.hid (by rw [← hW]; exact heap_alloc_new _ _)
 have HN:=Lib.hid (gJ R ts W0 (HI.out.below HB0.out))
 unfold kE at HN
 clear hW hI
 go_wp2_with fail
 refine HN.out.mono ?_
 rintro e w1 ⟨rfl,h2⟩
 have HB1:=Lib.hid (HB0.out.trans (h2.mono HB0.out.size))
 have HZ1:=Lib.hid ((h2.block _ (Array.getElem?_eq_some_iff.1 HZ0.out).1).trans HZ0.out)
 clear h2 HN HB0 HZ0
 go_upto_region 2 with fail
 obtain ⟨bt,hg⟩: ∃g,w1.heap.size=g:=⟨_,rfl⟩
 rw [hg]
 generalize hW:World.alloc w1 _=W2
 have HB2:Hid (Below w.heap.size w W2):=Lib.hid (by rw [← hW]; exact HB1.out.alloc HB1.out.size _)
 have aX:Hid (R.br < w.heap.size∧w.heap.size < bt):=Lib.hid ⟨hlt,by rw [← hg]; exact (Array.getElem?_eq_some_iff.1 HZ1.out).1⟩
 have HS2:Hid (Ps R bt (bt + 1) w W2 ⟨#[]⟩ ((aU ts:Nat):Int) (.slice none 0 0) [] ts):=Lib.hid ⟨HI.out.below HB2.out,aQ HB2.out,⟨hlt,aX.out.2,Nat.lt_succ_self _,by rw [← hW]; simp; omega⟩,by rw [← hW]; exact (heap_alloc_old _ _ (Array.getElem?_eq_some_iff.1 HZ1.out).1).trans HZ1.out,by rw [← hW,← hg]; exact heap_alloc_new _ _,Grow.nil _ _ _ _ _ _⟩
 obtain ⟨pos,hp,q0,q1,fq,HX⟩:=HS2.out.rd.open
 clear hW hg HB1 HZ1 HB2
 go_upto_region 3 with fail
 generalize hW:World.setCell W2 _ _=W3
 have HQ:Hid (aS W3 R ts.tail∧W2.grownBy W3 (some R.br)):=Lib.hid (by rw [← hW,mF.out]; exact HX.out t0 r0 mF.out)
 have jh:=Lib.hid (HS2.out.then HQ.out.1 HQ.out.2)
 clear hW q0 q1 fq HX HQ HS2
 cases hn:isName ts.tail
 ·have HE:Hid (res= .no ts.tail):=Lib.hid (gB.out.symm.trans (by rw [mQ hn]; rfl))
  go_wp2_with fail
  refine (jZ R _ _ hn jh.out.rd).mono ?_
  rintro e w4 ⟨rfl,h2⟩
  have Ig:=Lib.hid (jh.out.below h2)
  clear h2 jh
  obtain ⟨c0,c1,c2,c3,fc⟩:=Ig.out.cells
  have YO:=fc 0
  go_upto_region 5 with fail
  generalize hW:World.setCell w4 _ _=W5
  have AZ:Hid (Ps R bt (bt + 1) w W5 ⟨#[]⟩ ((aU ts:Nat):Int) (.slice none 0 0) [] ts.tail):=Lib.hid (by rw [← hW]; exact Ig.out.name _)
  clear hW c0 c1 c2 c3 fc YO Ig
  obtain ⟨c0,c1,c2,c3,fc⟩:=AZ.out.cells
  obtain ⟨⟨y0,y1,y2,y3⟩,fz⟩:=FT AZ.out.z
  have g0:=fz 0
  have g1:=fz 1
  have g2:=fz 2
  have g3:=fz 3
  clear fc fz
  go_wp2_with fail
  exact bodyPost_ret (v:= .tuple #[oQ _ _ _ _,.bool false]) (by simp [results,Tryz.results69,go_sem,oQ,y0,y1,y2,y3]) rfl (xQ HE.out AZ.out.rd AZ.out.gr aX.out.1)
 ·have nT:Hid ((tx (ay ts.tail)).size≤maxLen):=Lib.hid (kZ (kY jh.out.rd.ts hn))
  have BS:Hid (res=(need [40] ts.tail.tail).bind fun _ r=>(Eu r).bind fun l r=>mV (tx (ay ts.tail)) (aU ts) l r):=Lib.hid (gB.out.symm.trans (by rw [kI hn]; rfl))
  go_wp2_with fail
  refine (jd R _ _ hn jh.out.rd).mono ?_
  rintro e w4 ⟨rfl,h2,h3⟩
  have Ig:=Lib.hid (jh.out.then h2 h3)
  clear h2 h3 jh
  obtain ⟨c0,c1,c2,c3,fc⟩:=Ig.out.cells
  have YO:=fc 0
  go_upto_region 5 with fail
  generalize hW:World.setCell w4 _ _=W5
  have AZ:Hid (Ps R bt (bt + 1) w W5 (tx (ay ts.tail)) ((aU ts:Nat):Int) (.slice none 0 0) [] ts.tail.tail):=Lib.hid (by rw [← hW]; exact Ig.out.name _)
  clear hW c0 c1 c2 c3 fc YO Ig
  cases h4:at' [40] ts.tail.tail
  ·have HE:=Lib.hid (BS.out.trans (by rw [yS h4]:_=aT.bind (aT.no ts.tail.tail) _))
   go_wp2_with fail
   refine (dB R _ _ ⟨#[40]⟩ rfl h4 AZ.out.rd).mono ?_
   rintro e w6 ⟨rfl,h2⟩
   have dR:=Lib.hid (AZ.out.below h2)
   clear h2 AZ
   obtain ⟨c0,c1,c2,c3,fc⟩:=dR.out.cells
   obtain ⟨⟨y0,y1,y2,y3⟩,fz⟩:=FT dR.out.z
   have g0:=fz 0
   have g1:=fz 1
   have g2:=fz 2
   have g3:=fz 3
   clear fc fz
   go_wp2_with fail
   exact bodyPost_ret (v:= .tuple #[oQ _ _ _ _,.bool false]) (by simp [results,Tryz.results69,go_sem,oQ,y0,y1,y2,y3]) rfl (xQ HE.out dR.out.rd dR.out.gr aX.out.1)
  ·have tO:Hid (res=(Eu ts.tail.tail.tail).bind fun l r=>mV (tx (ay ts.tail)) (aU ts) l r):=Lib.hid (BS.out.trans (by rw [yQ h4]; rfl))
   clear BS
   go_wp2_with fail
   refine (bJ R _ _ ⟨#[40]⟩ rfl h4 AZ.out.rd).mono ?_
   rintro e w6 ⟨rfl,h2,h3⟩
   have dR:=Lib.hid (AZ.out.then h2 h3)
   clear h2 h3 AZ
   obtain ⟨r6,HR6⟩: ∃r6,Hid (ts.tail.tail.tail=r6):=⟨_,Lib.hid rfl⟩
   rw [HR6.out] at dR tO
   cases h5:at' [41] r6
   ·have HE2:Hid (res=((jJ (r6.length + 1) r6).close [41]).bind fun l r=>mV (tx (ay ts.tail)) (aU ts) l r):=Lib.hid (tO.out.trans (by unfold Eu; rw [if_neg (by rw [h5]; decide)]))
    obtain ⟨Am,Xh⟩: ∃Am,Hid (jJ (r6.length + 1) r6=Am):=⟨_,Lib.hid rfl⟩
    rw [Xh.out] at HE2
    obtain ⟨i0,hi,hz0,hz1,hz2⟩:=X5
    have jK:=Lib.hid (And.intro hi (And.intro hz0 (And.intro hz1 hz2)))
    clear hi hz0 hz1 hz2
    go_wp2_with fail
    refine (dB R _ _ ⟨#[41]⟩ rfl h5 dR.out.rd).mono ?_
    rintro e w7 ⟨rfl,h2⟩
    have qw:Hid (TY R bt w (tx (ay ts.tail)) ((aU ts:Nat):Int) Am r6.length w7):=Lib.hid ⟨r6.length + 1,[],r6,_,rfl,Nat.lt_succ_self _,by rw [← Xh.out]; cases jJ (r6.length + 1) r6 <;> rfl,dR.out.below h2,by have:=dR.out.rd.len; simp; omega,by simp⟩
    clear h2 dR Xh
    go_wp2_with fail
    go_loopg [6] r6.length (fun gk _ wr=>TY R bt w (tx (ay ts.tail)) ((aU ts:Nat):Int) Am gk wr)
    case atStart=>exact qw.out
    case round=>
     obtain ⟨f,l,rest,v,rfl,hf,hres,hs,hll,hsz⟩:=hrel
     obtain ⟨f,rfl⟩: ∃n,f=n + 1:=⟨f - 1,by omega⟩
     have HF:=Lib.hid hf
     have ni:=Lib.hid hres
     have HS:=Lib.hid hs
     have tN:=Lib.hid hll
     have iZ:=Lib.hid hsz
     obtain ⟨av,cv,hv⟩:=hs.row.len
     clear hf hres hs hll hsz qw
     subst hv
     cases hm:isName rest
     ·have mY:Hid (res= .no rest):=Lib.hid (HE2.out.trans (by rw [ni.out,SB hm]; rfl))
      go_wp2_with fail
      refine (jZ R _ _ hm HS.out.rd).mono ?_
      rintro e w8 ⟨rfl,h2⟩
      have gH:=Lib.hid (HS.out.below h2)
      clear h2 HS
      obtain ⟨c0,c1,c2,c3,fc⟩:=gH.out.cells
      obtain ⟨⟨y0,y1,y2,y3⟩,fz⟩:=FT gH.out.z
      have g0:=fz 0
      have g1:=fz 1
      have g2:=fz 2
      have g3:=fz 3
      clear fc fz
      go_wp2_with fail
      exact bodyPost_ret (v:= .tuple #[oQ _ _ _ _,.bool false]) (by simp [results,Tryz.results69,go_sem,oQ,y0,y1,y2,y3]) rfl (xQ mY.out gH.out.rd gH.out.gr aX.out.1)
     ·have Ew:Hid ((tx (ay rest)).size≤maxLen):=Lib.hid (kZ (kY HS.out.rd.ts hm))
      have qJ:=Lib.hid (oO hm)
      go_wp2_with fail
      refine (jd R _ _ hm HS.out.rd).mono ?_
      rintro e w8 ⟨rfl,h2,h3⟩
      have gH:=Lib.hid (HS.out.then h2 h3)
      clear h2 h3 HS
      obtain ⟨c0,c1,c2,c3,fc⟩:=gH.out.cells
      go_upto_region 11 with fail
      obtain ⟨s0,Me⟩: ∃s0,Hid (tx (ay rest)=s0):=⟨_,Lib.hid rfl⟩
      rw [Me.out] at Ew ⊢
      have ou:=Lib.hid (gH.out.row.next (aK (ah w8 (.cells (sG s0).toArray 9))))
      have sj:=Lib.hid (mI (heap_alloc_new w8 (.cells (sG s0).toArray 9)))
      obtain ⟨hi,hz0,hz1,hz2⟩:=jK.out
      have hbs:bt + 1≤w8.heap.size + 1:=Nat.le_succ_of_le gH.out.lt.2.2.2
      have hkl:l.length + 1≤maxLen:=by have:=tN.out; unfold maxLen; omega
      have WJ:(l.length + 1) * 16≤140737488355328:=by have:=tN.out; omega
      have fc2:=fc 2
      clear fc
      go_wp2_with (at_builtin; refine wpList_append_lies _ rfl _ _ 64 rfl (bt + 1) 9 i0 _ 1 16 Tryz.underlying64 hi hz0 hz1 hz2 rfl (by decide) _ _ _ rfl ou.out.own ⟨w8.heap.size,0,none⟩ 1 1 (sG s0) rfl rfl sj.out (by simp [sG,Value.oneCell']) (by decide) hkl WJ (by simpa using hbs) _ rfl ?_)
      clear hi hz0 hz1 hz2
      intro g cap w9 hown hgr hmv hlt2
      have qR:Hid (∀k,(Value.slice av l.length cv).ownBlock=some k→bt + 1≤k):=Lib.hid (fun k hk=>(gH.out.row.lt k hk).1)
      have fV:Hid (Below (bt + 1) (w8.alloc (.cells (sG s0).toArray 9)) w9):=Lib.hid (oG hgr qR.out (by simpa using hbs))
      have qP:Hid (Below (bt + 1) w8 w9):=Lib.hid (((ah w8 (.cells (sG s0).toArray 9)).mono gH.out.lt.2.2.2).trans fV.out)
      have FP:Hid (dW (bt + 1) (Value.slice av l.length cv).ownBlock (w8.alloc (.cells (sG s0).toArray 9)) (fun _=>True)):=Lib.hid (fun _ _=>trivial)
      have Gf:=Lib.hid (ou.out.push (x:=s0) FP.out rfl hown hgr (by simpa using hmv))
      have Gx:Hid (aS w9 R rest.tail):=Lib.hid (DZ (nQ gH.out.rd _) hgr (fun k hk=>by have h1:=qR.out k hk; have h2:=aX.out; have h3:=R.b0; omega))
      have Ae:Hid (w.grownBy w9 (some R.br)):=Lib.hid (Dr (mR gH.out.gr _) (fV.out.mono (by have:=aX.out; omega)))
      have ql:w9.heap[bt]? =some (.cells #[.string (tx (ay ts.tail)),.int .i64 ((aU ts:Nat):Int),.slice av l.length cv,.slice none 0 0] 67 (0,0)):=(qP.out.block _ (Nat.lt_succ_self _)).trans gH.out.blk
      have c2:w9.cell? ⟨bt,2,none⟩=some (.slice av l.length cv):=ak ql rfl
      have f2:w9.frozen? ⟨bt,2,none⟩=false:=aD ql
      clear hown hgr hmv hlt2 hbs hkl WJ FP sj ou fV ql fc2
      go_upto_region 12 with fail
      generalize hW:World.setCell w9 _ _=FX
      have xG:Hid (Ps R bt (bt + 1) w FX (tx (ay ts.tail)) ((aU ts:Nat):Int) (.slice (some ⟨g,0,none⟩) (l.length + 1) cap) (l++[s0]) rest.tail):=Lib.hid (by rw [← hW]; exact gH.out.cB Gx.out Ae.out qP.out Gf.out)
      have M8:Hid (∀s ∈ l++[s0],s.size≤maxLen):=Lib.hid (fun y hy=>by
       rcases List.mem_append.1 hy with hy | hy
       ·exact iZ.out y hy
       ·rw [List.mem_singleton.1 hy]; exact Ew.out)
      clear hW c2 f2 gH Gx Ae qP Gf qR
      cases h6:at' [44] rest.tail
      ·have BQ:Hid (Am= .ok (l++[s0]) rest.tail):=Lib.hid (ni.out.trans (by rw [Nk hm h6,Me.out]; rfl))
       go_wp2_with fail
       refine (dB R _ _ ⟨#[44]⟩ rfl h6 xG.out.rd).mono ?_
       rintro e w11 ⟨rfl,h2⟩
       have AY:=Lib.hid (xG.out.below h2)
       clear h2 xG
       cases h7:at' [41] rest.tail
       ·have mY:Hid (res= .no rest.tail):=Lib.hid (HE2.out.trans (by rw [BQ.out,mW h7]; rfl))
        go_wp2_with fail
        refine (dB R _ _ ⟨#[41]⟩ rfl h7 AY.out.rd).mono ?_
        rintro e w12 ⟨rfl,h2⟩
        have Bh:=Lib.hid (AY.out.below h2)
        clear h2 AY
        obtain ⟨c0,c1,c2,c3,fc⟩:=Bh.out.cells
        obtain ⟨⟨y0,y1,y2,y3⟩,fz⟩:=FT Bh.out.z
        have g0:=fz 0
        have g1:=fz 1
        have g2:=fz 2
        have g3:=fz 3
        clear fc fz
        go_wp2_with fail
        exact bodyPost_ret (v:= .tuple #[oQ _ _ _ _,.bool false]) (by simp [results,Tryz.results69,go_sem,oQ,y0,y1,y2,y3]) rfl (xQ mY.out Bh.out.rd Bh.out.gr aX.out.1)
       ·have mY:Hid (res=mV (tx (ay ts.tail)) ((aU ts:Nat):Int) (l++[s0]) rest.tail.tail):=Lib.hid (HE2.out.trans (by rw [BQ.out,mK h7]; rfl))
        have oo:Hid ((l++[s0]).length≤maxLen):=Lib.hid (by have:=tN.out; simp [maxLen]; omega)
        have qp:Hid (l.length + 1=(l++[s0]).length):=Lib.hid (by simp)
        go_wp2_with fail
        refine (bJ R _ _ ⟨#[41]⟩ rfl h7 AY.out.rd).mono ?_
        rintro e w12 ⟨rfl,h2,h3⟩
        have Bh:=Lib.hid (AY.out.then h2 h3)
        clear h2 h3 AY
        obtain ⟨l',Yv⟩: ∃l',Hid ((l++[s0])=l'):=⟨_,Lib.hid rfl⟩
        have fQ:Hid (∀s ∈ (l++[s0]),s.size≤maxLen):=Lib.hid M8.out
        have su:=Lib.hid mY.out
        obtain ⟨v',Qf⟩: ∃v',Hid (vW (bt + 1) _ v' (l++[s0])∧Ps R bt (bt + 1) w _ (tx (ay ts.tail)) ((aU ts:Nat):Int) v' (l++[s0]) rest.tail.tail):=⟨_,Lib.hid ⟨Bh.out.row,Bh.out⟩⟩
        clear Bh
        have sw:=Lib.hid Qf.out.2
        clear Qf
        rw [Yv.out] at fQ su sw oo
        have pJ:Hid (∀W,aS W R rest.tail.tail→Calls Tryz.prog 111 #[.pointer (some ⟨R.br,0,none⟩)] W (EH R W (blk (3 * (rest.tail.tail).length + 3) rest.tail.tail))):=Lib.hid (fun W h=>GI R _ _ (by omega) W h)
        have Dy:Hid (∀q,blk (3 * (rest.tail.tail).length + 3) rest.tail.tail= .no q→mV (tx (ay ts.tail)) ((aU ts:Nat):Int) l' rest.tail.tail= .no q):=Lib.hid (fun q h=>by unfold mV; rw [h]; rfl)
        have Ke:Hid (∀b q,blk (3 * (rest.tail.tail).length + 3) rest.tail.tail= .ok b q→mV (tx (ay ts.tail)) ((aU ts:Nat):Int) l' rest.tail.tail= .ok ⟨tx (ay ts.tail),((aU ts:Nat):Int),l',b⟩ q):=Lib.hid (fun b q h=>by unfold mV; rw [h]; rfl)
        generalize blk (3 * (rest.tail.tail).length + 3) rest.tail.tail=Sy at *
        go_wp2_with fail
        refine (pJ.out _ sw.out.rd).mono ?_
        cases Sy with
        | no q=>
          rintro e w8 ⟨rfl,h2,h3⟩
          have mY:=Lib.hid (su.out.trans (Dy.out q rfl))
          obtain ⟨av,cv,hv⟩:=sw.out.row.len
          subst hv
          have gH:=Lib.hid (sw.out.then h2 h3)
          clear h2 h3 Dy Ke pJ
          obtain ⟨c0,c1,c2,c3,fc⟩:=gH.out.cells
          have JM:=fc 3
          go_upto_region 16 with fail
          generalize hW:World.setCell w8 _ _=W9
          have vY:Hid (Ps R bt (bt + 1) w W9 _ _ _ _ q):=Lib.hid (by rw [← hW]; exact gH.out.L6)
          clear hW c0 c1 c2 c3 fc JM gH
          obtain ⟨c0,c1,c2,c3,fc⟩:=vY.out.cells
          obtain ⟨⟨y0,y1,y2,y3⟩,fz⟩:=FT vY.out.z
          have g0:=fz 0
          have g1:=fz 1
          have g2:=fz 2
          have g3:=fz 3
          clear fc fz
          go_wp2_with fail
          exact bodyPost_ret (v:= .tuple #[oQ _ _ _ _,.bool false]) (by simp [results,Tryz.results69,go_sem,oQ,y0,y1,y2,y3]) rfl (xQ mY.out vY.out.rd vY.out.gr aX.out.1)
        | ok b q=>
          rintro e w8 ⟨⟨ao,cap,rfl,hl,hst⟩,h2,h3⟩
          have mY:=Lib.hid (su.out.trans (Ke.out b q rfl))
          have gH:=Lib.hid (sw.out.then h2 h3)
          have qP:Hid (b.len≤maxLen∧bD (bt + 1) w8 (fun w2=>b.At w2 w2.heap.size ao 0)):=Lib.hid ⟨Nat.le_trans hl (by unfold maxLen; decide),hst.mono sw.out.lt.2.2.2⟩
          clear h2 h3 hl hst Dy Ke pJ
          obtain ⟨fD,dG,hv,hcl,htx⟩:=gH.out.row.says fQ.out
          have HV:=Lib.hid hv
          have zO:=Lib.hid (And.intro hcl htx)
          clear hv hcl htx
          obtain ⟨c0,c1,c2,c3,fc⟩:=gH.out.cells
          have JM:=fc 3
          go_upto_region 16 with fail
          generalize hW:World.setCell w8 _ _=W9
          have vR:=Lib.hid (gH.out.uz (.slice ao b.len cap) W9 hW)
          have GA:Hid (fM (bt + 1) w8 W9):=Lib.hid (by rw [← hW]; exact bC w8 ⟨bt,3,none⟩ _ (Nat.lt_succ_self _))
          clear hW c0 c1 c2 c3 fc JM
          have e0:W9.cell? ⟨bt,0,none⟩=some (.string (tx (ay ts.tail))):=ak vR.out.2.2.2 rfl
          have e1:W9.cell? ⟨bt,1,none⟩=some (.int .i64 ((aU ts:Nat):Int)):=ak vR.out.2.2.2 rfl
          have e2:W9.cell? ⟨bt,2,none⟩=some (.slice fD (l').length dG):=(ak vR.out.2.2.2 rfl).trans (congrArg some HV.out)
          have e3:W9.cell? ⟨bt,3,none⟩=some (.slice ao b.len cap):=ak vR.out.2.2.2 rfl
          obtain ⟨⟨y0,y1,y2,y3⟩,fz⟩:=FT vR.out.2.2.1
          have g0:=fz 0
          have g1:=fz 1
          have g2:=fz 2
          have g3:=fz 3
          clear fz
          go_wp2_with fail
          exact bodyPost_ret (v:= .tuple #[.agg (gY.f ⟨⟨tx (ay ts.tail),((aU ts:Nat):Int),l',b⟩,fD,dG,ao,cap⟩).toArray,.bool true]) (by simp [results,Tryz.results69,go_sem,gY.f,y0,y1,y2,y3]) rfl (Qs (x:=⟨⟨tx (ay ts.tail),((aU ts:Nat):Int),l',b⟩,fD,dG,ao,cap⟩) (B:=bt + 1) mY.out ⟨⟨nT.out,HL.out,oo.out,qP.out.1⟩,zO.out.1⟩ (fun w2 h2=>⟨zO.out.2 w2 (GA.out.trans h2),qP.out.2 w2 (GA.out.trans h2)⟩) (by have:=aX.out; omega) vR.out.1 vR.out.2.1 aX.out.1)
      ·have BQ:Hid (Am=(jJ f rest.tail.tail).map ((l++[s0])++ ·)):=Lib.hid (ni.out.trans (by rw [Ml hm h6,Me.out,jY]; exact BA (fun a=>by simp)))
       go_wp2_with fail
       refine (bJ R _ _ ⟨#[44]⟩ rfl h6 xG.out.rd).mono ?_
       rintro e w11 ⟨rfl,h2,h3⟩
       have AY:=Lib.hid (xG.out.then h2 h3)
       have HT2:=Lib.hid (at_len h6)
       clear h2 h3 xG
       go_wp2_with fail
       go_roundg rest.tail.tail.length
       case measure=>have:=qJ.out; have:=HT2.out; omega
       case rel=>exact ⟨f,l++[s0],rest.tail.tail,_,rfl,by have:=HF.out; have:=qJ.out; have:=HT2.out; omega,BQ.out,AY.out,by have:=tN.out; have:=qJ.out; have:=HT2.out; simp only [List.length_append,List.length_singleton]; omega,M8.out⟩
   ·have HE2:Hid (res=mV (tx (ay ts.tail)) ((aU ts:Nat):Int) [] r6.tail):=Lib.hid (tO.out.trans (by unfold Eu; rw [if_pos h5]; rfl))
    have oo:Hid (([]:List ByteArray).length≤maxLen):=Lib.hid (Nat.zero_le _)
    go_wp2_with fail
    refine (bJ R _ _ ⟨#[41]⟩ rfl h5 dR.out.rd).mono ?_
    rintro e w7 ⟨rfl,h2,h3⟩
    have uJ:=Lib.hid (dR.out.then h2 h3)
    clear h2 h3 dR
    obtain ⟨l',Yv⟩: ∃l',Hid (([]:List ByteArray)=l'):=⟨_,Lib.hid rfl⟩
    have fQ:Hid (∀s ∈ ([]:List ByteArray),s.size≤maxLen):=Lib.hid (by simp)
    have su:=Lib.hid HE2.out
    obtain ⟨v',Qf⟩: ∃v',Hid (vW (bt + 1) _ v' ([]:List ByteArray)∧Ps R bt (bt + 1) w _ (tx (ay ts.tail)) ((aU ts:Nat):Int) v' ([]:List ByteArray) r6.tail):=⟨_,Lib.hid ⟨uJ.out.row,uJ.out⟩⟩
    clear uJ
    have sw:=Lib.hid Qf.out.2
    clear Qf
    rw [Yv.out] at fQ su sw oo
    have pJ:Hid (∀W,aS W R r6.tail→Calls Tryz.prog 111 #[.pointer (some ⟨R.br,0,none⟩)] W (EH R W (blk (3 * (r6.tail).length + 3) r6.tail))):=Lib.hid (fun W h=>GI R _ _ (by omega) W h)
    have Dy:Hid (∀q,blk (3 * (r6.tail).length + 3) r6.tail= .no q→mV (tx (ay ts.tail)) ((aU ts:Nat):Int) l' r6.tail= .no q):=Lib.hid (fun q h=>by unfold mV; rw [h]; rfl)
    have Ke:Hid (∀b q,blk (3 * (r6.tail).length + 3) r6.tail= .ok b q→mV (tx (ay ts.tail)) ((aU ts:Nat):Int) l' r6.tail= .ok ⟨tx (ay ts.tail),((aU ts:Nat):Int),l',b⟩ q):=Lib.hid (fun b q h=>by unfold mV; rw [h]; rfl)
    generalize blk (3 * (r6.tail).length + 3) r6.tail=Sy at *
    go_wp2_with fail
    refine (pJ.out _ sw.out.rd).mono ?_
    cases Sy with
    | no q=>
      rintro e w8 ⟨rfl,h2,h3⟩
      have mY:=Lib.hid (su.out.trans (Dy.out q rfl))
      obtain ⟨av,cv,hv⟩:=sw.out.row.len
      subst hv
      have gH:=Lib.hid (sw.out.then h2 h3)
      clear h2 h3 Dy Ke pJ
      obtain ⟨c0,c1,c2,c3,fc⟩:=gH.out.cells
      have JM:=fc 3
      go_upto_region 16 with fail
      generalize hW:World.setCell w8 _ _=W9
      have vY:Hid (Ps R bt (bt + 1) w W9 _ _ _ _ q):=Lib.hid (by rw [← hW]; exact gH.out.L6)
      clear hW c0 c1 c2 c3 fc JM gH
      obtain ⟨c0,c1,c2,c3,fc⟩:=vY.out.cells
      obtain ⟨⟨y0,y1,y2,y3⟩,fz⟩:=FT vY.out.z
      have g0:=fz 0
      have g1:=fz 1
      have g2:=fz 2
      have g3:=fz 3
      clear fc fz
      go_wp2_with fail
      exact bodyPost_ret (v:= .tuple #[oQ _ _ _ _,.bool false]) (by simp [results,Tryz.results69,go_sem,oQ,y0,y1,y2,y3]) rfl (xQ mY.out vY.out.rd vY.out.gr aX.out.1)
    | ok b q=>
      rintro e w8 ⟨⟨ao,cap,rfl,hl,hst⟩,h2,h3⟩
      have mY:=Lib.hid (su.out.trans (Ke.out b q rfl))
      have gH:=Lib.hid (sw.out.then h2 h3)
      have qP:Hid (b.len≤maxLen∧bD (bt + 1) w8 (fun w2=>b.At w2 w2.heap.size ao 0)):=Lib.hid ⟨Nat.le_trans hl (by unfold maxLen; decide),hst.mono sw.out.lt.2.2.2⟩
      clear h2 h3 hl hst Dy Ke pJ
      obtain ⟨fD,dG,hv,hcl,htx⟩:=gH.out.row.says fQ.out
      have HV:=Lib.hid hv
      have zO:=Lib.hid (And.intro hcl htx)
      clear hv hcl htx
      obtain ⟨c0,c1,c2,c3,fc⟩:=gH.out.cells
      have JM:=fc 3
      go_upto_region 16 with fail
      generalize hW:World.setCell w8 _ _=W9
      have vR:=Lib.hid (gH.out.uz (.slice ao b.len cap) W9 hW)
      have GA:Hid (fM (bt + 1) w8 W9):=Lib.hid (by rw [← hW]; exact bC w8 ⟨bt,3,none⟩ _ (Nat.lt_succ_self _))
      clear hW c0 c1 c2 c3 fc JM
      have e0:W9.cell? ⟨bt,0,none⟩=some (.string (tx (ay ts.tail))):=ak vR.out.2.2.2 rfl
      have e1:W9.cell? ⟨bt,1,none⟩=some (.int .i64 ((aU ts:Nat):Int)):=ak vR.out.2.2.2 rfl
      have e2:W9.cell? ⟨bt,2,none⟩=some (.slice fD (l').length dG):=(ak vR.out.2.2.2 rfl).trans (congrArg some HV.out)
      have e3:W9.cell? ⟨bt,3,none⟩=some (.slice ao b.len cap):=ak vR.out.2.2.2 rfl
      obtain ⟨⟨y0,y1,y2,y3⟩,fz⟩:=FT vR.out.2.2.1
      have g0:=fz 0
      have g1:=fz 1
      have g2:=fz 2
      have g3:=fz 3
      clear fz
      go_wp2_with fail
      exact bodyPost_ret (v:= .tuple #[.agg (gY.f ⟨⟨tx (ay ts.tail),((aU ts:Nat):Int),l',b⟩,fD,dG,ao,cap⟩).toArray,.bool true]) (by simp [results,Tryz.results69,go_sem,gY.f,y0,y1,y2,y3]) rfl (Qs (x:=⟨⟨tx (ay ts.tail),((aU ts:Nat):Int),l',b⟩,fD,dG,ao,cap⟩) (B:=bt + 1) mY.out ⟨⟨nT.out,HL.out,oo.out,qP.out.1⟩,zO.out.1⟩ (fun w2 h2=>⟨zO.out.2 w2 (GA.out.trans h2),qP.out.2 w2 (GA.out.trans h2)⟩) (by have:=aX.out; omega) vR.out.1 vR.out.2.1 aX.out.1)
end Go.Proofs.YtehnipchbmjlhaaGreatDoor
end
section
set_option linter.unusedSimpArgs false
set_option linter.unusedVariables false
namespace Go.Proofs.YtehnipchbmjlhaaGreatDoor
open Go.RowKit
open Md Pz
theorem UW:(Tryz.prog.info? 62).map (fun i=>(i.zero,i.size,i.bytes))=some (some (.agg zH),6,64):=by kernel_rfl
theorem XQ: ∃i0,Tryz.prog.info? 62=some i0∧i0.zero=some (.agg zH)∧i0.size=6∧i0.bytes=64:=info_parts UW
theorem Vg:(Tryz.prog.info? 67).map (fun i=>(i.zero,i.size,i.bytes))=some (some (.agg Ls),4,72):=by kernel_rfl
theorem Xk: ∃i0,Tryz.prog.info? 67=some i0∧i0.zero=some (.agg Ls)∧i0.size=4∧i0.bytes=72:=info_parts Vg
def MB (R:Rp) (w:World) (res:aT Pr) (e:Ending) (w':World):Prop:=
 match res with
 | .ok p r=>(∃bq bg bQ bn,e= .returned (.tuple #[.agg #[.slice bq p.ds.length bg,.slice bQ p.ts.length bn],.bool (!p.ts.isEmpty)])∧(p.ds.length≤4096∧p.ts.length≤4096∧p.ds.length≤bg∧p.ts.length≤bn)∧bD w.heap.size w' (fun w2=>gU w2 w2.heap.size p.ds bq 0∧gP w2 w2.heap.size p.ts bQ 0))∧aS w' R r∧w.grownBy w' (some R.br)
 | .no r=>(∃a n c a' n' c',e= .returned (.tuple #[.agg #[.slice a n c,.slice a' n' c'],.bool false]))∧aS w' R r∧w.grownBy w' (some R.br)
def Lg:Array Value:= #[.slice none 0 0,.slice none 0 0]
structure Pg (R:Rp) (bp:Nat) (w W:World) (vD vT:Value) (rest:aj):Prop where
 rd:aS W R rest
 gr:w.grownBy W (some R.br)
 lt:R.br < w.heap.size∧w.heap.size < bp∧bp < W.heap.size
 z:W.heap[w.heap.size]? =some (.cells Lg 26 (0,0))
 blk:W.heap[bp]? =some (.cells #[vD,vT] 26 (0,0))
section
variable {R:Rp} {bp:Nat} {w W W':World} {vD vT:Value} {rest rest':aj}
theorem Pg.then (h:Pg R bp w W vD vT rest) (h1:aS W' R rest') (h2:W.grownBy W' (some R.br)):Pg R bp w W' vD vT rest':=
 ⟨h1,cu h.gr h2,⟨h.lt.1,h.lt.2.1,Nat.lt_of_lt_of_le h.lt.2.2 h2.size⟩,(h2.block _ (Array.getElem?_eq_some_iff.1 h.z).1 (by have:=h.lt; simp; omega)).trans h.z,(h2.block _ (Array.getElem?_eq_some_iff.1 h.blk).1 (by have:=h.lt; simp; omega)).trans h.blk⟩
theorem Pg.below (h:Pg R bp w W vD vT rest) (hb:Below W.heap.size W W'):Pg R bp w W' vD vT rest:=h.then (h.rd.below hb) (aQ hb)
theorem Pg.put (h:Pg R bp w W vD vT rest) (hr:aS W' R rest) (hg:w.grownBy W' (some R.br)) (hB:Below (bp + 1) W W') (j:Nat) (v Cm vT':Value) (hy:(#[vD,vT]:Array Value).setIfInBounds j v= #[Cm,vT']):Pg R bp w (W'.setCell ⟨bp,j,none⟩ v) Cm vT' rest:=
 ⟨nu hr _ _ (by have:=h.lt; have:=R.b0; show R.B0≤bp; omega) (by have:=h.lt; show bp≠R.br; omega),kD hg _ _ (by have:=h.lt; show _≤bp; omega),by have h1:=h.lt; have h2:=hB.size; simp [World.setCell]; omega,(aM W' _ _ rfl (by have:=h.lt; show bp≠_; omega)).trans ((hB.block _ (by have:=h.lt; omega)).trans h.z),by rw [aR ((hB.block _ (Nat.lt_succ_self _)).trans h.blk),hy]⟩
theorem Pg.cells (h:Pg R bp w W vD vT rest):W.cell? ⟨bp,0,none⟩=some vD∧W.cell? ⟨bp,1,none⟩=some vT∧ ∀j,W.frozen? ⟨bp,j,none⟩=false:=
 ⟨ak h.blk rfl,ak h.blk rfl,fun _=>aD h.blk⟩
end
theorem z2p {w:World} {b:Nat} {t:TypeId} (h:w.heap[b]? =some (.cells Lg t (0,0))):
 w.cell? ⟨b,0,none⟩=some (.slice none 0 0)∧w.cell? ⟨b,1,none⟩=some (.slice none 0 0)∧w.frozen? ⟨b,0,none⟩=false∧w.frozen? ⟨b,1,none⟩=false:=
 ⟨ak h rfl,ak h rfl,aD h,aD h⟩
theorem Qb {R:Rp} {w W:World} {a a':Option Addr} {n c n' c':Nat} {r:aj} {res:aT Pr} (e:res= .no r) (hr:aS W R r) (hg:w.grownBy W (some R.br)) (hl:R.br < w.heap.size):
 MB R w res (.returned (.tuple #[.agg #[.slice a n c,.slice a' n' c'],.bool false])) (W.setCells w.heap.size 0 [.slice a n c,.slice a' n' c']):=by
 subst e
 exact ⟨⟨a,n,c,a',n',c',rfl⟩,mM hr (aO _ _ _ _) (by have:=R.b0; omega) (by omega),jF hg _ _ _ (Nat.le_refl _)⟩
theorem UR:(Tryz.prog.info? 26).map (·.size)=some 2:=by kernel_rfl
theorem YU {R:Rp} {w W:World} {p:Pr} {bq bQ:Option Addr} {bg bn:Nat} {r:aj} {res:aT Pr} {B:Nat} (e:res= .ok p r) (hl:p.ds.length≤4096∧p.ts.length≤4096∧p.ds.length≤bg∧p.ts.length≤bn)
 (hst:bD B W (fun w2=>gU w2 w2.heap.size p.ds bq 0∧gP w2 w2.heap.size p.ts bQ 0)) (hB:w.heap.size < B) (hr:aS W R r) (hg:w.grownBy W (some R.br)) (hlt:R.br < w.heap.size):
 MB R w res (.returned (.tuple #[.agg #[.slice bq p.ds.length bg,.slice bQ p.ts.length bn],.bool (!p.ts.isEmpty)])) (W.setCells w.heap.size 0 [.slice bq p.ds.length bg,.slice bQ p.ts.length bn]):=by
 subst e
 exact ⟨⟨bq,bg,bQ,bn,rfl,hl,(hst.next ⟨(aO w.heap.size _ 0 W).size,fun k h1 h2=>(aO w.heap.size _ 0 W).block k h2 (by simp; omega)⟩).mono (Nat.le_of_lt hB)⟩,mM hr (aO _ _ _ _) (by have:=R.b0; omega) (by omega),jF hg _ _ _ (Nat.le_refl _)⟩
def jD (P S:World→Prop):List Bool→World→Prop
 | [x],w=>if x then S w else P w
 | _,_=>False
section
variable {P S:World→Prop} {c:List Bool} {w w':World} {k i:Nat}
theorem jD.bits (h:jD P S c w): ∃x,c=[x]:=by
 match c,h with
 | [x],_=>exact ⟨x,rfl⟩
 | [],h=>exact h.elim
 | _ ::_ ::_,h=>exact h.elim
theorem jD.skip (h1:(k == i)=false) (h:jD P S c w):jD P S (nC [k] c i) w:=by
 obtain ⟨x,rfl⟩:=h.bits
 simp only [nC,h1,Bool.or_false]; exact h
theorem jD.fire (h1:(k == i)=true) (h:S w):jD P S (nC [k] [false] i) w:=by
 simp only [nC,h1,Bool.or_true]; exact h
end
def Ur (R:Rp) (bp:Nat) (w:World) (xH:aT (List De)) (g:Nat) (wr:World):Prop:=
 ∃f l rest vD,g=rest.length∧rest.length≤f∧xH=(ku f rest).map (l++ ·)∧Pg R bp w wr vD (.slice none 0 0) rest∧rU (bp + 1) wr vD l∧(∀d ∈ l,d.Ok)∧l.length + rest.length≤4096
def Uf (R:Rp) (bp:Nat) (w W2:World) (vD:Value) (resT:aT (List Th)) (g:Nat) (wr:World):Prop:=
 ∃f l rest vT,g=rest.length∧rest.length≤f∧resT=(kU f rest).map ((l.map (·.t))++ ·)∧Pg R bp w wr vD vT rest∧fM (bp + 1) W2 wr∧vE W2.heap.size wr vT l∧(∀x ∈ l,x.t.Ok∧x.t.cB.length≤x.dG)∧l.length + rest.length≤4096
theorem NM (rest:aj):isDecl rest=((((nextK rest:Nat):Int) == 3) && (je (ay rest) != 0)):=by
 unfold isDecl; rw [pG 3]; rfl
theorem Mh {f:Nat} {ts:aj} (h:isDecl ts=false):ku f ts= .ok [] ts:=by
 cases f with
 | zero=>rfl
 | succ f=>unfold ku; rw [if_neg (by rw [h]; decide)]
theorem Oa {f:Nat} {ts r:aj} (h:isDecl ts=true) (h1:oM ts= .no r):ku (f + 1) ts= .no r:=by unfold ku; rw [if_pos h,h1]; rfl
theorem Ox {f:Nat} {ts r:aj} {d:De} (h:isDecl ts=true) (h1:oM ts= .ok d r):ku (f + 1) ts=(ku f r).map (d :: ·):=by
 conv=>lhs; unfold ku
 rw [if_pos h,h1]; rfl
theorem Ov {f:Nat} {ts:aj} (h:at' [116,104,114,101,97,100] ts=false):kU f ts= .ok [] ts:=by
 cases f with
 | zero=>rfl
 | succ f=>unfold kU; rw [if_neg (by rw [h]; decide)]
theorem QW {f:Nat} {ts r:aj} (h:at' [116,104,114,101,97,100] ts=true) (h1:uQ ts= .no r):kU (f + 1) ts= .no r:=by unfold kU; rw [if_pos h,h1]; rfl
theorem Rb {f:Nat} {ts r:aj} {t:Th} (h:at' [116,104,114,101,97,100] ts=true) (h1:uQ ts= .ok t r):kU (f + 1) ts=(kU f r).map (t :: ·):=by
 conv=>lhs; unfold kU
 rw [if_pos h,h1]; rfl
theorem fM.uS {B:Nat} {w w1 w2:World} (h:fM B w w1) (hb:Below w.heap.size w1 w2):fM B w w2:=⟨Nat.le_trans h.1 hb.size,fun k h1 h2=>(hb.block k h2).trans (h.2 k h1 h2)⟩
theorem VH {R:Rp} {w:World} {ts:aj} {bp:Nat} (hI:aS w R ts) (hg:w.heap.size + 1=bp): ∀W,((w.alloc (.cells #[.slice none 0 0,.slice none 0 0] 26)).alloc (.cells #[.slice none 0 0,.slice none 0 0] 26))=W→Pg R bp w W (.slice none 0 0) (.slice none 0 0) ts:=by
 intro W hW
 have hb1:Below w.heap.size w (w.alloc (.cells #[.slice none 0 0,.slice none 0 0] 26)):=ah _ _
 have hz1:(w.alloc (.cells #[.slice none 0 0,.slice none 0 0] 26)).heap[w.heap.size]? =some (.cells Lg 26 (0,0)):=heap_alloc_new _ _
 have hs1:(w.alloc (.cells #[.slice none 0 0,.slice none 0 0] 26)).heap.size=bp:=by simp [hg]
 generalize w.alloc (.cells #[.slice none 0 0,.slice none 0 0] 26)=W1 at *
 have hb2:Below w.heap.size w W:=by rw [← hW]; exact hb1.alloc hb1.size _
 exact ⟨hI.below hb2,aQ hb2,⟨hI.lt,by omega,by rw [← hW]; simp; omega⟩,by rw [← hW]; exact (heap_alloc_old _ _ (Array.getElem?_eq_some_iff.1 hz1).1).trans hz1,by rw [← hW,← hs1]; exact heap_alloc_new _ _⟩
set_option maxHeartbeats 4000000 in
set_option maxRecDepth 100000 in
theorem Km (R:Rp) (ts:aj) (w:World) (hI:aS w R ts):
 Calls Tryz.prog 33 #[.pointer (some ⟨R.br,0,none⟩)] w (MB R w (prog ts)):=by
 have HI:=Lib.hid hI
 have aX:=Lib.hid hI.lt
 have HLEN:=Lib.hid hI.len
 obtain ⟨res,gB⟩: ∃res,Hid (prog ts=res):=⟨_,Lib.hid rfl⟩
 obtain ⟨xH,Tc⟩: ∃xH,Hid (ku ts.length ts=xH):=⟨_,Lib.hid rfl⟩
 have BS:Hid (res=xH.bind fun ds r=>(kU r.length r).map fun th=>⟨ds,th⟩):=Lib.hid (by rw [← gB.out,← Tc.out]; rfl)
 rw [gB.out]
 have hf0:=ao3
 have hf1:=ak9
 clear hI
 go_enter Tryz.func33,Tryz.ntmps33
 go_upto_block 0 with fail
 obtain ⟨bp,hg⟩: ∃g,w.heap.size + 1=g:=⟨_,rfl⟩
 rw [hg]
 generalize hW:World.alloc (World.alloc w _) _=W0
 have BL:Hid (Pg R bp w W0 (.slice none 0 0) (.slice none 0 0) ts):=Lib.hid (VH HI.out hg W0 hW)
 clear hW hg
 go_cut [] (fun W'=> ∃l rest vD,xH= .ok l rest∧Pg R bp w W' vD (.slice none 0 0) rest∧rU (bp + 1) W' vD l∧(∀d ∈ l,d.Ok)∧l.length + rest.length≤4096)
 case first=>
  have qw:Hid (Ur R bp w xH ts.length W0):=Lib.hid ⟨ts.length,[],ts,_,rfl,Nat.le_refl _,by rw [← Tc.out]; cases ku ts.length ts <;> rfl,BL.out,Grow.nil _ _ _ _ _ _,by simp,by have:=HLEN.out; simp; omega⟩
  obtain ⟨i0,hi,hz0,hz1,hz2⟩:=XQ
  have jK:=Lib.hid (And.intro hi (And.intro hz0 (And.intro hz1 hz2)))
  clear hi hz0 hz1 hz2 BL Tc
  go_wp2_with fail
  go_loopg [5,6] ts.length (fun gk _ _ wr=>Ur R bp w xH gk wr)
  case atStart=>exact qw.out
  case round=>
   obtain ⟨f,l,rest,vD,rfl,hf,hres,hs,hg,hok,hll⟩:=hrel
   have HF:=Lib.hid hf
   have ni:=Lib.hid hres
   have HS:=Lib.hid hs
   have HG:=Lib.hid hg
   have fH:=Lib.hid hok
   have tN:=Lib.hid hll
   obtain ⟨av,cv,hv⟩:=hg.len
   have fQ:=Lib.hid (fun w hI=>gJ R rest w hI)
   unfold kE at fQ
   have HDC:=Lib.hid (fun w=>Bn (tx (ay rest)) (l:=ay rest) (F9 _) w)
   clear hf hres hs hg hok hll qw
   subst hv
   go_upto_region 2 with fail
   go_cut [19] (fun s19 W'=>s19= .bool (isDecl rest)∧Below wr.heap.size wr W')
   case first=>
    have HE:=Lib.hid (NM rest)
    generalize isDecl rest=b at *
    generalize ((nextK rest:Nat):Int)=k at *
    generalize tx (ay rest)=s at *
    generalize je (ay rest)=dc at *
    cases hk:(k == 3)
    ·go_wp2_with fail
     refine (fQ.out _ HS.out.rd).mono ?_
     rintro e w1 ⟨rfl,h2⟩
     have HB1:=Lib.hid h2
     clear h2
     go_wp2_with fail
     go_meet
     exact ⟨by rw [HE.out,hk]; rfl,HB1.out⟩
    ·go_wp2_with fail
     refine (fQ.out _ HS.out.rd).mono ?_
     rintro e w1 ⟨rfl,h2⟩
     have HB1:=Lib.hid h2
     have HR1:=Lib.hid (HS.out.rd.below h2)
     clear h2
     go_wp2_with fail
     refine (fQ.out _ HR1.out).mono ?_
     rintro e w2 ⟨rfl,h2⟩
     have HB2:=Lib.hid (HB1.out.trans (h2.mono HB1.out.size))
     clear h2
     go_wp2_with fail
     refine (HDC.out _).mono ?_
     rintro e w3 ⟨rfl,rfl⟩
     go_wp2_with fail
     go_meet
     exact ⟨by rw [HE.out,hk]; rfl,HB2.out⟩
   obtain ⟨rfl,hB⟩:=hcut
   obtain ⟨W1,rfl⟩: ∃W:World,W=wc:=⟨_,rfl⟩
   have nI:=Lib.hid (HS.out.below hB)
   have tX:=Lib.hid (HG.out.next (aK hB))
   clear hB HS HG fQ HDC
   cases hd:isDecl rest
   ·have BQ:Hid (xH= .ok l rest):=Lib.hid (ni.out.trans (by rw [Mh hd]; show aT.ok (l++[]) rest=_; rw [List.append_nil]))
    go_wp2_with fail
    go_meet
    exact ⟨l,rest,_,BQ.out,nI.out,tX.out,fH.out,tN.out⟩
   ·have HC:=Lib.hid (DL R rest W1 nI.out.rd hd)
    go_wp2_with fail
    refine HC.out.mono ?_
    obtain ⟨f',hf'⟩: ∃f',f=f' + 1:=⟨f - 1,by
     have h1:=HF.out
     have h2:rest.length≠0:=fun e=>by rw [List.length_eq_zero_iff.1 e] at hd; exact absurd hd (by decide)
     omega⟩
    subst hf'
    have HN:Hid (∀r,oM rest= .no r→res= .no r):=Lib.hid (fun r h=>BS.out.trans (by rw [ni.out,Oa hd h]; rfl))
    have HO:Hid (∀d r,oM rest= .ok d r→xH=(ku f' r).map ((l++[d])++ ·)∧r.length < rest.length):=Lib.hid (fun d r h=>⟨ni.out.trans (by rw [Ox hd h,jY]; exact BA (fun a=>by simp)),NJ h⟩)
    clear ni HC
    generalize oM rest=al1 at *
    cases al1 with
    | no r=>
      have mY:=Lib.hid (HN.out r rfl)
      clear HN HO
      rintro e w2 ⟨⟨d,rfl⟩,h2,h3⟩
      have HS2:=Lib.hid (nI.out.then h2 h3)
      clear h2 h3 nI tX
      unfold xD
      go_upto_region 4 with fail
      generalize hW:World.alloc w2 _=W3
      have jh:Hid (Pg R bp w W3 _ _ r):=Lib.hid (by rw [← hW]; exact HS2.out.below (ah _ _))
      clear hW HS2
      obtain ⟨c0,c1,fc⟩:=jh.out.cells
      obtain ⟨y0,y1,g0,g1⟩:=z2p jh.out.z
      clear fc
      go_wp2_with fail
      exact bodyPost_ret (v:= .tuple #[.agg #[.slice _ _ _,.slice _ _ _],.bool false]) (by simp [results,Tryz.results33,go_sem,y0,y1]) rfl (Qb mY.out jh.out.rd jh.out.gr aX.out)
    | ok d r=>
      have DY:=Lib.hid (HO.out d r rfl)
      clear HN HO
      rintro e w2 ⟨⟨Ak,rfl⟩,h2,h3⟩
      have VZ:=Lib.hid Ak
      have HS2:=Lib.hid (nI.out.then h2 h3)
      have HG2:=Lib.hid (tX.out.next (jN h3 (by have:=nI.out.lt; omega)))
      clear h2 h3 nI tX Ak
      unfold xD
      go_upto_region 4 with fail
      obtain ⟨gd,hg⟩: ∃g,w2.heap.size=g:=⟨_,rfl⟩
      generalize hW:World.alloc w2 _=W3
      have jh:Hid (Pg R bp w W3 _ _ r):=Lib.hid (by rw [← hW]; exact HS2.out.below (ah _ _))
      have tY:Hid (rU (bp + 1) W3 _ l):=Lib.hid (by rw [← hW]; exact HG2.out.next (aK (ah _ _)))
      have HB3:Hid (W3.heap[gd]? =some (.cells (ig d).toArray 62 (0,0))):=Lib.hid (by rw [← hW,← hg]; exact heap_alloc_new _ _)
      rw [hg]
      clear hW hg HS2 HG2
      obtain ⟨e0,e1,e2,e3,e4,e5⟩:(W3.cell? ⟨gd,0,none⟩=some (.int .i64 d.kind)∧W3.cell? ⟨gd,1,none⟩=some (.int .i64 d.line)∧W3.cell? ⟨gd,2,none⟩=some (.string d.nm)∧W3.cell? ⟨gd,3,none⟩=some (.int .i64 d.size)∧W3.cell? ⟨gd,4,none⟩=some (.int .i64 d.init)∧W3.cell? ⟨gd,5,none⟩=some (.string d.on)):=⟨ak HB3.out rfl,ak HB3.out rfl,ak HB3.out rfl,ak HB3.out rfl,ak HB3.out rfl,ak HB3.out rfl⟩
      obtain ⟨c0,c1,fc⟩:=jh.out.cells
      clear fc
      have ou:=Lib.hid (tY.out.next (aK (ah W3 (.cells (ig d).toArray 62))))
      have sj:=Lib.hid (mI (heap_alloc_new W3 (.cells (ig d).toArray 62)))
      obtain ⟨hi,hz0,hz1,hz2⟩:=jK.out
      have hbs:bp + 1≤W3.heap.size + 1:=by have:=jh.out.lt; omega
      have hkl:l.length + 1≤maxLen:=by have:=tN.out; unfold maxLen; omega
      have Ww:(l.length + 1) * 64≤140737488355328:=by have:=tN.out; omega
      go_wp2_with (at_builtin; refine wpList_append_lies _ rfl _ _ 23 rfl (bp + 1) 62 i0 _ 6 64 Tryz.underlying23 hi hz0 hz1 hz2 rfl (by decide) _ _ _ rfl ou.out.own ⟨W3.heap.size,0,none⟩ 1 1 (ig d) rfl rfl sj.out (by simp [ig,Value.oneCell']) (by decide) hkl Ww (by simpa using hbs) _ rfl ?_)
      clear hi hz0 hz1 hz2
      intro g cap w9 hown hgr hmv hlt2
      have qR:Hid (∀k,(Value.slice av (l).length cv).ownBlock=some k→bp + 1≤k):=Lib.hid (fun k hk=>(tY.out.lt k hk).1)
      have fV:Hid (Below (bp + 1) (W3.alloc (.cells (ig d).toArray 62)) w9):=Lib.hid (oG hgr qR.out (by simpa using hbs))
      have qP:Hid (Below (bp + 1) W3 w9):=Lib.hid (((ah W3 (.cells (ig d).toArray 62)).mono jh.out.lt.2.2).trans fV.out)
      have FP:Hid (dW (bp + 1) (Value.slice av (l).length cv).ownBlock (W3.alloc (.cells (ig d).toArray 62)) (fun _=>True)):=Lib.hid (fun _ _=>trivial)
      have Gx:Hid (aS w9 R r):=Lib.hid (DZ (nQ jh.out.rd _) hgr (fun k hk=>by have h1:=qR.out k hk; have h2:=jh.out.lt; have h3:=R.b0; omega))
      have Ae:Hid (w.grownBy w9 (some R.br)):=Lib.hid (Dr (mR jh.out.gr _) (fV.out.mono (by have:=jh.out.lt; omega)))
      have ql:w9.heap[bp]? =some (.cells _ 26 (0,0)):=(qP.out.block _ (Nat.lt_succ_self _)).trans jh.out.blk
      have Gf:=Lib.hid (ou.out.push (x:=d) FP.out rfl hown hgr (by simpa using hmv))
      have c0:w9.cell? ⟨bp,0,none⟩=some (.slice av l.length cv):=ak ql rfl
      have f0:w9.frozen? ⟨bp,0,none⟩=false:=aD ql
      clear hown hgr hmv hlt2 hbs hkl Ww FP sj ou fV ql e0 e1 e2 e3 e4 e5 c1
      go_wp2_with fail
      generalize hW:World.setCell w9 _ _=FX
      have xG:Hid (Pg R bp w FX (.slice (some ⟨g,0,none⟩) (l.length + 1) cap) (.slice none 0 0) r):=Lib.hid (by rw [← hW]; exact jh.out.put Gx.out Ae.out qP.out 0 _ _ _ rfl)
      have RZ:Hid (rU (bp + 1) FX (.slice (some ⟨g,0,none⟩) (l.length + 1) cap) (l++[d])):=Lib.hid (by rw [← hW]; exact Gf.out.next (bC w9 ⟨bp,0,none⟩ _ (Nat.lt_succ_self _)))
      have M8:Hid (∀y ∈ l++[d],y.Ok):=Lib.hid (fun y hy=>by
       rcases List.mem_append.1 hy with hy | hy
       ·exact fH.out y hy
       ·rw [List.mem_singleton.1 hy]; exact VZ.out)
      clear hW c0 f0 jh Gx Ae qP Gf qR tY HB3
      go_roundg r.length
      case measure=>exact DY.out.2
      case rel=>exact ⟨f',l++[d],r,_,rfl,by have h1:=HF.out; have h2:=DY.out.2; omega,DY.out.1,xG.out,RZ.out,M8.out,by have h1:=tN.out; have h2:=DY.out.2; simp only [List.length_append,List.length_singleton]; omega⟩
 obtain ⟨l,rest,vD,hrd,hP,hG,Ak,hll⟩:=hcut
 obtain ⟨W2,rfl⟩: ∃W:World,W=wc:=⟨_,rfl⟩
 obtain ⟨bq,bg,hv,TA,X3⟩:=hG.says Ak
 subst hv
 have aP:=Lib.hid hP
 have HD2:=Lib.hid (And.intro TA X3)
 have oo:=Lib.hid hll
 obtain ⟨resT,Iu⟩: ∃resT,Hid (kU rest.length rest=resT):=⟨_,Lib.hid rfl⟩
 have tO:Hid (res=resT.map (fun th=>⟨l,th⟩)):=Lib.hid (by rw [BS.out,hrd,← Iu.out]; rfl)
 clear hP hG Ak hll TA X3 hrd BL Tc gB BS
 go_upto_block 2 with fail
 go_cut [] (fun W'=> ∃(lt:List gY) (rest':aj) (vT:Value),resT= .ok (lt.map (·.t)) rest'∧Pg R bp w W' (.slice bq l.length bg) vT rest'∧fM (bp + 1) W2 W'∧vE W2.heap.size W' vT lt∧(∀x ∈ lt,x.t.Ok∧x.t.cB.length≤x.dG)∧lt.length≤4096)
 case first=>
  have qw:Hid (Uf R bp w W2 (.slice bq l.length bg) resT rest.length W2):=Lib.hid ⟨rest.length,[],rest,_,rfl,Nat.le_refl _,by rw [← Iu.out]; cases kU rest.length rest <;> rfl,aP.out,fM.refl _ _,Grow.nil _ _ _ _ _ _,by simp,by have:=oo.out; simp only [List.length_nil]; omega⟩
  obtain ⟨i0,hi,hz0,hz1,hz2⟩:=Xk
  have jK:=Lib.hid (And.intro hi (And.intro hz0 (And.intro hz1 hz2)))
  have vX:Hid (bp + 1≤W2.heap.size∧R.br < bp):=Lib.hid (by have:=aP.out.lt; omega)
  clear hi hz0 hz1 hz2 aP Iu HD2
  go_wp2_with fail
  go_loopg [7,8] rest.length (fun gk _ _ wr=>Uf R bp w W2 (.slice bq l.length bg) resT gk wr)
  case atStart=>exact qw.out
  case round=>
   obtain ⟨f,lt,rs,vT,rfl,hf,hres,hs,ha,hg,hok,hlt⟩:=hrel
   have HF:=Lib.hid hf
   have ni:=Lib.hid hres
   have HS:=Lib.hid hs
   have HA:=Lib.hid ha
   have HG:=Lib.hid hg
   have fH:=Lib.hid hok
   have tN:=Lib.hid hlt
   obtain ⟨av,cv,hv⟩:=hg.len
   clear hf hres hs ha hg hok hlt qw
   subst hv
   cases hd:at' [116,104,114,101,97,100] rs
   ·have BQ:Hid (resT= .ok (lt.map (·.t)) rs):=Lib.hid (ni.out.trans (by rw [Ov hd]; show aT.ok (_++[]) rs=_; rw [List.append_nil]))
    go_wp2_with fail
    refine (DT R _ _ ⟨#[116,104,114,101,97,100]⟩ rfl HS.out.rd).mono ?_
    rw [hd]
    rintro e w1 ⟨rfl,h2⟩
    have nI:=Lib.hid (HS.out.below h2)
    have tX:=Lib.hid (HG.out.next (aK h2))
    have HA1:=Lib.hid (HA.out.trans (aK h2))
    clear h2
    go_wp2_with fail
    go_meet
    exact ⟨lt,rs,_,BQ.out,nI.out,HA1.out,tX.out,fH.out,by have:=tN.out; omega⟩
   ·go_wp2_with fail
    refine (DT R _ _ ⟨#[116,104,114,101,97,100]⟩ rfl HS.out.rd).mono ?_
    rw [hd]
    rintro e w1 ⟨rfl,h2⟩
    have nI:=Lib.hid (HS.out.below h2)
    have tX:=Lib.hid (HG.out.next (aK h2))
    have HA1:=Lib.hid (HA.out.trans (aK h2))
    clear h2 HS HG HA
    have HC:=Lib.hid (Nt R rs w1 nI.out.rd hd)
    obtain ⟨f',hf'⟩: ∃f',f=f' + 1:=⟨f - 1,by
     have h1:=HF.out
     have h2:=at_len hd
     omega⟩
    subst hf'
    have HN:Hid (∀r,uQ rs= .no r→res= .no r):=Lib.hid (fun r h=>tO.out.trans (by rw [ni.out,QW hd h]; rfl))
    have HO:Hid (∀t r,uQ rs= .ok t r→resT=(kU f' r).map ((lt.map (·.t)++[t])++ ·)∧r.length < rs.length):=Lib.hid (fun t r h=>⟨ni.out.trans (by rw [Rb hd h,jY]; exact BA (fun a=>by simp)),RF h⟩)
    clear ni
    generalize uQ rs=ZL at *
    go_wp2_with fail
    refine HC.out.mono ?_
    cases ZL with
    | no r=>
      have mY:=Lib.hid (HN.out r rfl)
      clear HN HO HC
      rintro e w2 ⟨⟨nm,line,a1,n1,c1,a2,n2,c2,rfl⟩,h2,h3⟩
      have HS2:=Lib.hid (nI.out.then h2 h3)
      clear h2 h3 nI tX
      unfold oQ
      go_upto_region 9 with fail
      generalize hW:World.alloc w2 _=W3
      have jh:Hid (Pg R bp w W3 _ _ r):=Lib.hid (by rw [← hW]; exact HS2.out.below (ah _ _))
      clear hW HS2
      obtain ⟨c0,c1,fc⟩:=jh.out.cells
      obtain ⟨y0,y1,g0,g1⟩:=z2p jh.out.z
      clear fc
      go_wp2_with fail
      exact bodyPost_ret (v:= .tuple #[.agg #[.slice _ _ _,.slice _ _ _],.bool false]) (by simp [results,Tryz.results33,go_sem,y0,y1]) rfl (Qb mY.out jh.out.rd jh.out.gr aX.out)
    | ok t r=>
      have DY:=Lib.hid (HO.out t r rfl)
      clear HN HO HC
      rintro e w2 ⟨⟨x,rfl,rfl,WZ,Yp⟩,h2,h3⟩
      have Ug:=Lib.hid WZ
      have iZ:Hid (W2.heap.size≤w1.heap.size):=Lib.hid HA1.out.1
      have HS2:=Lib.hid (nI.out.then h2 h3)
      have HG2:=Lib.hid (tX.out.next (jN h3 (by have:=vX.out; omega)))
      have HA2:=Lib.hid (HA1.out.trans (jN h3 (by have:=vX.out; omega)))
      have an9:=Lib.hid tX.out.lt
      have fZ:=Lib.hid Yp
      clear h2 h3 nI tX HA1 WZ Yp
      unfold gY.f
      go_upto_region 9 with fail
      obtain ⟨gd,hg⟩: ∃g,w2.heap.size=g:=⟨_,rfl⟩
      generalize hW:World.alloc w2 _=W3
      have jh:Hid (Pg R bp w W3 _ _ r):=Lib.hid (by rw [← hW]; exact HS2.out.below (ah _ _))
      have tY:Hid (vE W2.heap.size W3 _ lt):=Lib.hid (by rw [← hW]; exact HG2.out.next (aK (ah _ _)))
      have yC:Hid (fM (bp + 1) W2 W3):=Lib.hid (by rw [← hW]; exact HA2.out.trans (aK (ah _ _)))
      have Ul:Hid (bD w1.heap.size W3 (gY.I x)):=Lib.hid (by rw [← hW]; exact fZ.out.next (aK (ah _ _)))
      have HB3:Hid (W3.heap[gd]? =some (.cells (gY.f x).toArray 67 (0,0))):=Lib.hid (by rw [← hW,← hg]; exact heap_alloc_new _ _)
      rw [hg]
      clear hW hg HS2 HG2 HA2 fZ
      obtain ⟨e0,e1,e2,e3⟩:(W3.cell? ⟨gd,0,none⟩=some (.string x.t.nm)∧W3.cell? ⟨gd,1,none⟩=some (.int .i64 x.t.line)∧W3.cell? ⟨gd,2,none⟩=some (.slice x.fD x.t.cB.length x.dG)∧W3.cell? ⟨gd,3,none⟩=some (.slice x.bR x.t.body.len x.aZ)):=⟨ak HB3.out rfl,ak HB3.out rfl,ak HB3.out rfl,ak HB3.out rfl⟩
      obtain ⟨c0,c1,fc⟩:=jh.out.cells
      clear fc
      have ou:=Lib.hid (tY.out.next (aK (ah W3 (.cells (gY.f x).toArray 67))))
      have sj:=Lib.hid (mI (heap_alloc_new W3 (.cells (gY.f x).toArray 67)))
      obtain ⟨hi,hz0,hz1,hz2⟩:=jK.out
      have hbs:W2.heap.size≤W3.heap.size + 1:=by have:=yC.out.1; omega
      have hkl:lt.length + 1≤maxLen:=by have:=tN.out; unfold maxLen; omega
      have Xj:(lt.length + 1) * 72≤140737488355328:=by have:=tN.out; omega
      go_wp2_with (at_builtin; refine wpList_append_lies _ rfl _ _ 24 rfl W2.heap.size 67 i0 _ 4 72 Tryz.underlying24 hi hz0 hz1 hz2 rfl (by decide) _ _ _ rfl ou.out.own ⟨W3.heap.size,0,none⟩ 1 1 (gY.f x) rfl rfl sj.out (by simp [gY.f,Value.oneCell']) (by decide) hkl Xj (by simpa using hbs) _ rfl ?_)
      clear hi hz0 hz1 hz2
      intro g cap w9 hown hgr hmv hlt2
      have qR:Hid (∀k,(Value.slice av lt.length cv).ownBlock=some k→W2.heap.size≤k):=Lib.hid (fun k hk=>(tY.out.lt k hk).1)
      have fV:Hid (Below W2.heap.size (W3.alloc (.cells (gY.f x).toArray 67)) w9):=Lib.hid (oG hgr qR.out (by simpa using hbs))
      have qP:Hid (Below W2.heap.size W3 w9):=Lib.hid (((ah W3 (.cells (gY.f x).toArray 67)).mono yC.out.1).trans fV.out)
      have FP:Hid (dW W2.heap.size (Value.slice av lt.length cv).ownBlock (W3.alloc (.cells (gY.f x).toArray 67)) (gY.I x)):=Lib.hid (rQ (Ul.out.next (aK (ah _ _))) iZ.out (fun k hk=>(an9.out k hk).2))
      have Gx:Hid (aS w9 R r):=Lib.hid (DZ (nQ jh.out.rd _) hgr (fun k hk=>by have h1:=qR.out k hk; have h2:=vX.out; have h3:=R.b0; omega))
      have Ae:Hid (w.grownBy w9 (some R.br)):=Lib.hid (Dr (mR jh.out.gr _) (fV.out.mono (by have h1:=jh.out.lt; have h2:=vX.out; omega)))
      have ql:w9.heap[bp]? =some (.cells _ 26 (0,0)):=(qP.out.block _ (by have:=vX.out; omega)).trans jh.out.blk
      have Gf:=Lib.hid (ou.out.push (x:=x) FP.out rfl hown hgr (by simpa using hmv))
      have GA:Hid (fM (bp + 1) W2 w9):=Lib.hid (yC.out.uS qP.out)
      have c1:w9.cell? ⟨bp,1,none⟩=some (.slice av lt.length cv):=ak ql rfl
      have f1:w9.frozen? ⟨bp,1,none⟩=false:=aD ql
      clear hown hgr hmv hlt2 hbs hkl Xj FP sj ou fV ql e0 e1 e2 e3 c0
      go_wp2_with fail
      generalize hW:World.setCell w9 _ _=FX
      have xG:Hid (Pg R bp w FX (.slice bq l.length bg) (.slice (some ⟨g,0,none⟩) (lt.length + 1) cap) r):=Lib.hid (by rw [← hW]; exact jh.out.put Gx.out Ae.out (qP.out.mono vX.out.1) 1 _ _ _ rfl)
      have RZ:Hid (vE W2.heap.size FX (.slice (some ⟨g,0,none⟩) (lt.length + 1) cap) (lt++[x])):=Lib.hid (by rw [← hW]; exact Gf.out.next (bC w9 ⟨bp,1,none⟩ _ vX.out.1))
      have ak2:Hid (fM (bp + 1) W2 FX):=Lib.hid (by rw [← hW]; exact GA.out.trans (bC w9 ⟨bp,1,none⟩ _ (Nat.lt_succ_self _)))
      have M8:Hid (∀y ∈ lt++[x],y.t.Ok∧y.t.cB.length≤y.dG):=Lib.hid (fun y hy=>by
       rcases List.mem_append.1 hy with hy | hy
       ·exact fH.out y hy
       ·rw [List.mem_singleton.1 hy]; exact Ug.out)
      clear hW c1 f1 jh Gx Ae qP Gf qR tY HB3 GA yC
      go_roundg r.length
      case measure=>exact DY.out.2
      case rel=>exact ⟨f',lt++[x],r,_,rfl,by have h1:=HF.out; have h2:=DY.out.2; omega,by rw [List.map_append]; exact DY.out.1,xG.out,ak2.out,RZ.out,M8.out,by have h1:=tN.out; have h2:=DY.out.2; simp only [List.length_append,List.length_singleton]; omega⟩
 obtain ⟨lt,r9,vT,hrt,hP,hA,hG,hok,hln⟩:=hcut
 obtain ⟨W8,rfl⟩: ∃W:World,W=wc:=⟨_,rfl⟩
 obtain ⟨bQ,bn,hv,U1,WY⟩:=hG.says hok
 subst hv
 have lV:=Lib.hid hP
 have mY:Hid (res= .ok ⟨l,lt.map (·.t)⟩ r9):=Lib.hid (by rw [tO.out,hrt]; rfl)
 have sF:Hid ((lt.map (·.t)).length=lt.length):=Lib.hid (List.length_map _)
 have HST:Hid (l.length≤bg∧(lt.map (·.t)).length≤bn∧bD (bp + 1) W8 (fun w2=>gU w2 w2.heap.size l bq 0∧gP w2 w2.heap.size (lt.map (·.t)) bQ 0)):=Lib.hid ⟨HD2.out.1,by rw [sF.out]; exact U1,fun w2 h2=>⟨HD2.out.2 w2 (hA.trans h2),WY w2 (h2.mono aP.out.lt.2.2)⟩⟩
 have qp:Hid (l.length≤4096∧(lt.map (·.t)).length≤4096):=Lib.hid ⟨by have:=oo.out; omega,by rw [sF.out]; exact hln⟩
 clear hP hA hG hok hln U1 WY hrt HD2 tO sF oo aP Iu
 generalize lt.map (·.t)=th at *
 clear hf0 hf1
 have HT0:Hid (decide ((0:Int) < (th.length:Int))= !th.isEmpty):=Lib.hid (by cases th <;> simp)
 have dD:Hid (Below W8.heap.size W8 (W8.drewN 1)):=Lib.hid (below_drewN (Below.refl _ _) 1)
 have wK:=Lib.hid (lV.out.below dD.out)
 have KP: ∀(x:Bool) w',jD (fun w'=>w'=W8.drewN 1) (fun w'=>w'=(W8.drewN 1).setCells w.heap.size 0 [.slice bq l.length bg,.slice bQ th.length bn]) [x] w'→w'.heap[bp]? =some (.cells #[.slice bq l.length bg,.slice bQ th.length bn] 26 (0,0)):=fun x w' h=>by
  cases x
  ·have h:w'=_:=h
   rw [h]; exact wK.out.blk
  ·have h:w'=_:=h
   rw [h]
   exact ((aO w.heap.size _ 0 (W8.drewN 1)).block _ wK.out.lt.2.2 (by have:=wK.out.lt; simp; omega)).trans wK.out.blk
 go_upto_region 12 with fail
 refine eG (by kernel_rfl) rfl ?_
 refine dS 0 7 [5] [[],[],[1],[1,2],[1,2,3],[0],[0,1,2,3,4,5]] [[some false],[none],[none],[none],[none],[some false],[some true]] (jD (fun w'=>w'=W8.drewN 1) (fun w'=>w'=(W8.drewN 1).setCells w.heap.size 0 [.slice bq l.length bg,.slice bQ th.length bn])) (fun _ _=>True) [50,51,52,53,54,3] rfl rfl (by rfl) (by kernel_rfl) (by kernel_rfl) (by kernel_rfl) (by kernel_rfl) (by kernel_rfl) (by rfl) (fun _=>trivial) (by rfl) rfl ?_
 simp only [List.take_succ_cons,List.take_zero,List.drop_zero,List.drop_succ_cons,jW,List.map_cons,List.map_nil]
 apply aG.step
 case aF=>
  intro c A w' hok hC hO hD
  obtain ⟨x,rfl⟩:=hC.bits
  have hb:=KP x w' hC
  have k0:w'.cell? ⟨bp,0,none⟩=some (.slice bq l.length bg):=ak hb rfl
  have k1:w'.cell? ⟨bp,1,none⟩=some (.slice bQ th.length bn):=ak hb rfl
  have e4:=hO 4 (by rfl)
  simp [Act.eval] at e4
  simp [aC,aB,au,Act.eval,Region.binds] at hD
  simp [go_sem,gd,Oper.wp,e4,k0,k1]
  exact aA.mk trivial (jD.skip (by rfl) hC) (aB.mk _ _)
 apply aG.step
 case aF=>
  intro c A w' hok hC hO hD
  have e4:=hO 4 (by rfl)
  simp [Act.eval] at e4
  simp [aC,aB,au,Act.eval,Region.binds] at hD
  simp [go_sem,gd,Oper.wp,hD,e4]
  exact aA.mk trivial (jD.skip (by rfl) hC) (aB.mk _ _)
 apply aG.step
 case aF=>
  intro c A w' hok hC hO hD
  obtain ⟨x,rfl⟩:=hC.bits
  have hb:=KP x w' hC
  have k1:w'.cell? ⟨bp,1,none⟩=some (.slice bQ th.length bn):=ak hb rfl
  simp [aC,aB,au,Act.eval,Region.binds] at hD
  simp [go_sem,gd,Oper.wp,hD,k1]
  exact aA.mk trivial (jD.skip (by rfl) hC) (aB.mk _ _)
 apply aG.step
 case aF=>
  intro c A w' hok hC hO hD
  simp [aC,aB,au,Act.eval,Region.binds] at hD
  simp [go_sem,gd,Oper.wp,hD]
  exact aA.mk trivial (jD.skip (by rfl) hC) (aB.mk _ _)
 simp only [List.nil_append,List.cons_append]
 refine aG.step (v:= .bool (!th.isEmpty)) ?_ ?_
 ·intro c A w' hok hC hO hD
  simp [aC,aB,au,Act.eval,Region.binds] at hD
  simp [go_sem,gd,Oper.wp,hD]
  exact aA.mk trivial (jD.skip (by rfl) hC) (show Value.bool _=_ by rw [← HT0.out]; simp)
 refine aG.some (fun _ _=>True) (fun _ _ _ _ _=>trivial) ?_ ?_
 ·intro c A w' hok hC hO hD
  obtain ⟨x,rfl⟩:=hC.bits
  obtain ⟨rfl,-⟩:=hok
  have hC:w'=_:=hC
  have e2:=hO 2 (by rfl)
  simp [Act.eval] at e2
  simp [aC,aB,au,Act.eval,Region.binds] at hD
  simp only [gd,if_true]
  refine wp_store_mid _ _ _ (by rfl) w.heap.size 0 #[.slice bq l.length bg,.slice bQ th.length bn] (by simp [Act.eval,e2]) (by simp [Act.eval,hD]) (by rw [hC]; exact mo wK.out.z (Nat.le_refl 2)) UR (by simp [Value.oneCell']) ?_
  exact aA.wV trivial (jD.fire (by rfl) (by rw [hC])) trivial
 apply aG.step
 case aF=>
  intro c A w' hok hC hO hD
  simp [aC,aB,au,Act.eval,Region.binds] at hD
  simp [go_sem,gd,Oper.wp,hD]
  exact aA.mk trivial (jD.skip (by rfl) hC) (aB.mk _ _)
 try simp only [List.nil_append,List.cons_append]
 refine aG.done ?_
 intro w9 sD
 try simp only [List.drop_succ_cons,List.drop_zero]
 intro x0 h0 x1 h1 x2 h2 x3 h3 x4 h4 x5 h5 x6 h6
 have h6':=Eq.symm (show x6=_ from h6)
 subst h6'
 clear h0 h1 h2 h3 h4 h5 h6 KP
 refine kJ ?_
 refine fU rfl ?_
 have zY:Hid (w9=(W8.drewN 1).setCells w.heap.size 0 [.slice bq l.length bg,.slice bQ th.length bn]):=Lib.hid sD
 have fV:Hid (w9.heap[w.heap.size]? =some (.cells #[.slice bq l.length bg,.slice bQ th.length bn] 26 (0,0))):=Lib.hid (by rw [zY.out]; exact gG wK.out.z rfl)
 clear sD
 have y0:w9.cell? ⟨w.heap.size,0,none⟩=some (.slice bq l.length bg):=ak fV.out rfl
 have y1:w9.cell? ⟨w.heap.size,1,none⟩=some (.slice bQ th.length bn):=ak fV.out rfl
 go_simp
 go_wp2_with fail
 exact bodyPost_ret (v:= .tuple #[.agg #[.slice bq l.length bg,.slice bQ th.length bn],.bool (!th.isEmpty)]) (by simp [results,Tryz.results33,go_sem,y0,y1]) rfl (by
  rw [zY.out]
  exact YU mY.out ⟨qp.out.1,qp.out.2,HST.out.1,HST.out.2.1⟩ (HST.out.2.2.next (aK dD.out)) (by have:=wK.out.lt; omega) wK.out.rd wK.out.gr aX.out)
end Go.Proofs.YtehnipchbmjlhaaGreatDoor
end
section
set_option linter.unusedSimpArgs false
set_option linter.unusedVariables false
namespace Go.Proofs.YtehnipchbmjlhaaGreatDoor
open Go.RowKit
open Md Pz
theorem UC (t:Tk.Tok):(Tk.Tok.cells t).length=3:=rfl
theorem KX {w:World} {g B:Nat} {ts:aj} (hB:g < B): ∀(l:aj) (k:Nat),(∀i t,l[i]? =some t→ ∀j u,(Tk.Tok.cells t)[j]? =some u→w.cell? ⟨g,(k + i) * 3 + j,none⟩=some u)→nU w B l (some ⟨g,0,none⟩) k
 | [],_,_=>trivial
 | t ::r,k,h=>by
   have h0:=h 0 t rfl
   refine ⟨⟨g,0,rfl,hB,?_,?_,?_⟩,KX (ts:=ts) hB r (k + 1) (fun i t' ht j u hu=>by rw [show k + 1 + i=k + (i + 1) by omega]; exact h (i + 1) t' (by simpa using ht) j u hu)⟩
   ·have:=h0 0 _ rfl; rw [Nat.zero_add]; exact this
   ·have:=h0 1 _ rfl; rw [Nat.zero_add]; exact this
   ·have:=h0 2 _ rfl; rw [Nat.zero_add]; exact this
theorem Ai {w:World} {base:Nat} {v:Value} {ts:aj} (h:w.ownsRow base 112 3 v ts.length (Tk.cellsOf ts)): ∃ao cap,v= .slice ao ts.length cap∧nU w w.heap.size ts ao 0:=by
 rcases h.2 with ⟨h1,h2⟩ | ⟨g,cap,cur,h1,hB,hg,hc,-,hs,ht⟩
 ·have:ts=[]:=by
   cases ts with
   | nil=>rfl
   | cons t r=>simp at h2
  subst this
  exact ⟨none,0,h1,trivial⟩
 ·refine ⟨some ⟨g,0,none⟩,cap,h1,KX (ts:=ts) (Array.getElem?_eq_some_iff.1 hg).1 ts 0 (fun i t hi j u hu=> ?_)⟩
  have hF:=flat_get UC ts i t j u hi hu
  have hF':(Tk.cellsOf ts)[i * 3 + j]? =some u:=hF
  rw [← ht] at hF'
  have hlt:=(List.getElem?_eq_some_iff.1 hF').1
  rw [List.getElem?_take_of_lt (by rw [List.length_take] at hlt; omega)] at hF'
  rw [Nat.zero_add]
  exact ak hg (by rw [← hF']; simp)
def Na (N:Nat) (w:World) (r:Pr × Int × Int) (e:Ending) (w':World):Prop:=
 ∃bq bg bQ bn,e= .returned (.tuple #[.agg #[.slice bq r.1.ds.length bg,.slice bQ r.1.ts.length bn],.int .i64 r.2.1,.int .i64 r.2.2])∧(r.1.ds.length≤4096∧r.1.ts.length≤4096∧r.1.ds.length≤bg∧r.1.ts.length≤bn)∧(gU w' w'.heap.size r.1.ds bq 0∧gP w' w'.heap.size r.1.ts bQ 0)∧Below w.heap.size w w'∧(N≤4096→r.2.1≠0→1≤r.2.2)
theorem NT {s:List UInt8} (h: ¬ (Tk.scan s).2.1=0):parse s=((⟨[],[]⟩:Pr),((Tk.scan s).2.1:Int),((Tk.scan s).2.2:Int)):=by unfold parse; rw [if_neg h]
theorem Rk {s:List UInt8} {rest:aj} (h:(Tk.scan s).2.1=0) (h1:prog (Tk.scan s).1= .no rest):parse s=(⟨[],[]⟩,3,bV (Tk.scan s).1 rest):=by unfold parse; rw [if_pos h,h1]
theorem PO {s:List UInt8} {p:Pr} {rest:aj} (h:(Tk.scan s).2.1=0) (h1:prog (Tk.scan s).1= .ok p rest) (h2:(p.ts.isEmpty || !rest.isEmpty)=true):parse s=(⟨[],[]⟩,3,bV (Tk.scan s).1 rest):=by
 unfold parse; rw [if_pos h,h1]; exact if_pos h2
theorem MO {s:List UInt8} {p:Pr} {rest:aj} (h:(Tk.scan s).2.1=0) (h1:prog (Tk.scan s).1= .ok p rest) (h2:(p.ts.isEmpty || !rest.isEmpty)=false):parse s=(p,0,0):=by
 unfold parse; rw [if_pos h,h1]; exact if_neg (by rw [h2]; decide)
theorem Ie {ts rest:aj} (h: ∀t ∈ ts,TL 4097 t) {pos:Nat} (hd:ts.drop pos=rest):(1:Int)≤bV ts rest:=by
 unfold bV
 cases rest with
 | cons t r=>
   have:=(h t (List.mem_of_mem_drop (by rw [hd]; exact List.mem_cons_self))).1.1
   dsimp only; omega
 | nil=>
   dsimp only
   cases hl:ts.getLast? with
   | none=>decide
   | some t=>have:=(h t (List.mem_of_getLast? hl)).1.1; dsimp only; omega
theorem EL {N:Nat} {w W:World} {r:Pr × Int × Int} {n l:Int} (e:r=(⟨[],[]⟩,n,l)) (hb:Below w.heap.size w W) (hln:N≤4096→n≠0→1≤l):Na N w r (.returned (.tuple #[.agg #[.slice none 0 0,.slice none 0 0],.int .i64 n,.int .i64 l])) W:=by
 subst e
 exact ⟨none,0,none,0,rfl,⟨Nat.zero_le _,Nat.zero_le _,Nat.le_refl _,Nat.le_refl _⟩,⟨trivial,trivial⟩,hb,hln⟩
theorem Di {w W:World} (h:Below w.heap.size w W) (o:Nat) (vs:List Value):Below w.heap.size w (W.setCells w.heap.size o vs):=
 ⟨(aO w.heap.size vs o W).os.trans h.os,(aO w.heap.size vs o W).tape.trans h.tape,(aO w.heap.size vs o W).output.trans h.output,Nat.le_trans h.size (aO w.heap.size vs o W).size,fun k hk=>((aO w.heap.size vs o W).block k (Nat.lt_of_lt_of_le hk h.size) (by simp; omega)).trans (h.block k hk)⟩
theorem Xd {w W:World} {res:Pr × Int × Int} {p:Pr} {a a':Option Addr} {n c n' c':Nat} (e:res=(p,0,0)) (hn:n=p.ds.length) (hn':n'=p.ts.length) (hl:n≤4096∧n'≤4096∧n≤c∧n'≤c') (hst:gU W W.heap.size p.ds a 0∧gP W W.heap.size p.ts a' 0) (hb:Below w.heap.size w W) {N:Nat} :
 Na N w res (.returned (.tuple #[.agg #[.slice a n c,.slice a' n' c'],.int .i64 0,.int .i64 0])) W:=by
 subst e; subst hn; subst hn'
 exact ⟨a,c,a',c',rfl,hl,hst,hb,fun _ h=>absurd rfl h⟩
def Xu (R:Rp) (w:World) (ts:aj) (res:Pr × Int × Int) (e:Ending) (w':World):Prop:=
 ∃(r:aj) (a:Option Addr) (n c:Nat) (a':Option Addr) (n' c':Nat) (b:Bool),e= .returned (.tuple #[.agg #[.slice a n c,.slice a' n' c'],.bool b])∧aS w' R r∧w.grownBy w' (some R.br)∧
  ((b && r.isEmpty)=false→res=(⟨[],[]⟩,3,bV ts r))∧
  ((b && r.isEmpty)=true→ ∃p:Pr,res=(p,0,0)∧n=p.ds.length∧n'=p.ts.length∧(n≤4096∧n'≤4096∧n≤c∧n'≤c')∧bD w.heap.size w' (fun w2=>gU w2 w2.heap.size p.ds a 0∧gP w2 w2.heap.size p.ts a' 0))
theorem Zv {R:Rp} {w w':World} {ts:aj} {res:Pr × Int × Int} {e:Ending} {pr:aT Pr}
 (h2: ∀rest,pr= .no rest→res=(⟨[],[]⟩,3,bV ts rest))
 (h3: ∀p rest,pr= .ok p rest→(p.ts.isEmpty || !rest.isEmpty)=true→res=(⟨[],[]⟩,3,bV ts rest))
 (h4: ∀p rest,pr= .ok p rest→(p.ts.isEmpty || !rest.isEmpty)=false→res=(p,0,0)) (h:MB R w pr e w'):Xu R w ts res e w':=by
 cases pr with
 | no r=>
   obtain ⟨⟨a,n,c,a',n',c',he⟩,hr,hg⟩:=h
   exact ⟨r,a,n,c,a',n',c',false,he,hr,hg,fun _=>h2 r rfl,fun h=>by simp at h⟩
 | ok p r=>
   obtain ⟨⟨bq,bg,bQ,bn,he,hl,hst⟩,hr,hg⟩:=h
   refine ⟨r,bq,_,bg,bQ,_,bn,_,he,hr,hg,fun h=>h3 p r rfl ?_,fun h=>⟨p,h4 p r rfl ?_,rfl,rfl,hl,hst⟩⟩
   ·cases hp:p.ts.isEmpty <;> cases hq:r.isEmpty <;> simp_all
   ·cases hp:p.ts.isEmpty <;> cases hq:r.isEmpty <;> simp_all
def nY (w:World) (ao:Option Addr) (cap:Nat) (ts:aj):Rp:=⟨w.heap.size,w.heap.size,ao,cap,ts,Nat.le_refl _⟩
theorem Oj {w W:World} {ao:Option Addr} {cap:Nat} {ts:aj} (hW:w.alloc (.cells #[.slice ao ts.length cap,.int .i64 0] 76)=W) (ht:nU w w.heap.size ts ao 0) (ok: ∀t ∈ ts,FD t) (tl:(∀t ∈ ts,TL 4097 t)∧ts.length≤4096):aS W (nY w ao cap ts) ts:=by
 subst hW
 exact ⟨⟨0,Nat.zero_le _,rfl,heap_alloc_new _ _⟩,ht.below (ah _ _),⟨ok,tl.2⟩,tl.1⟩
set_option maxHeartbeats 4000000 in
set_option maxRecDepth 100000 in
theorem FJ (s:ByteArray) (w:World) (iH:dL w) (hm:s.size≤maxLen):
 Calls Tryz.prog 11 #[.string s] w (Na s.size w (parse s.data.toList)):=by
 have kQ:=Lib.hid iH
 have FY:=Lib.hid (Fa s.data.toList)
 have qJ:=Lib.hid (ES s.data.toList)
 obtain ⟨res,gB⟩: ∃res,Hid (parse s.data.toList=res):=⟨_,Lib.hid rfl⟩
 have tO:Hid (¬ (Tk.scan s.data.toList).2.1=0→res=((⟨[],[]⟩:Pr),((Tk.scan s.data.toList).2.1:Int),((Tk.scan s.data.toList).2.2:Int))):=Lib.hid (fun h=>gB.out.symm.trans (NT h))
 have HE2:Hid (∀rest,(Tk.scan s.data.toList).2.1=0→prog (Tk.scan s.data.toList).1= .no rest→res=(⟨[],[]⟩,3,bV (Tk.scan s.data.toList).1 rest)):=Lib.hid (fun rest h h1=>gB.out.symm.trans (Rk h h1))
 have gD:Hid (∀p rest,(Tk.scan s.data.toList).2.1=0→prog (Tk.scan s.data.toList).1= .ok p rest→(p.ts.isEmpty || !rest.isEmpty)=true→res=(⟨[],[]⟩,3,bV (Tk.scan s.data.toList).1 rest)):=Lib.hid (fun p rest h h1 h2=>gB.out.symm.trans (PO h h1 h2))
 have C8:Hid (∀p rest,(Tk.scan s.data.toList).2.1=0→prog (Tk.scan s.data.toList).1= .ok p rest→(p.ts.isEmpty || !rest.isEmpty)=false→res=(p,0,0)):=Lib.hid (fun p rest h h1 h2=>gB.out.symm.trans (MO h h1 h2))
 have xq:Hid (∀w,dL w→Calls Tryz.prog 32 #[.string s] w (uX w (Tk.scan s.data.toList))):=Lib.hid (fun w h=>IJ s w h hm)
 rw [gB.out]
 clear gB iH hm
 generalize Tk.scan s.data.toList=sc at *
 go_enter Tryz.func11,Tryz.ntmps11
 go_upto_region 1 with fail
 generalize hW:World.alloc w _=W0
 have HB0:Hid (Below w.heap.size w W0):=Lib.hid (by rw [← hW]; exact ah _ _)
 have HZ0:Hid (W0.heap[w.heap.size]? =some (.cells Lg 26 (0,0))):=Lib.hid (by rw [← hW]; exact heap_alloc_new _ _)
 clear hW
 go_wp2_with fail
 refine (xq.out _ (kQ.out.same HB0.out)).mono ?_
 rintro e w1 ⟨v,rfl,hown,hb⟩
 obtain ⟨ao,cap,rfl,htk⟩:=Ai hown
 have zT:=Lib.hid htk
 have HB1:=Lib.hid (HB0.out.trans (hb.mono HB0.out.size))
 have HZ1:=Lib.hid ((hb.block _ (Array.getElem?_eq_some_iff.1 HZ0.out).1).trans HZ0.out)
 clear hown hb htk xq HB0 HZ0
 have y0:w1.cell? ⟨w.heap.size,0,none⟩=some (.slice none 0 0):=ak HZ1.out rfl
 have y1:w1.cell? ⟨w.heap.size,1,none⟩=some (.slice none 0 0):=ak HZ1.out rfl
 have f0:w1.frozen? ⟨w.heap.size,0,none⟩=false:=aD HZ1.out
 have f1:w1.frozen? ⟨w.heap.size,1,none⟩=false:=aD HZ1.out
 have hlt:w.heap.size < w1.heap.size:=(Array.getElem?_eq_some_iff.1 HZ1.out).1
 by_cases h0:sc.2.1=0
 ·have OV:Hid (∀(R:Rp) (wr:World),aS wr R sc.1→Calls Tryz.prog 33 #[.pointer (some ⟨R.br,0,none⟩)] wr (Xu R wr sc.1 res)):=Lib.hid (fun R wr h=>(Km R sc.1 wr h).mono (fun e w' hp=>Zv (fun r=>HE2.out r h0) (fun p r=>gD.out p r h0) (fun p r=>C8.out p r h0) hp))
  have AA:=Lib.hid (And.intro qJ.out.1 qJ.out.2.1)
  rw [h0]
  go_upto_region 5 with fail
  generalize hW:World.alloc w1 _=W1
  have HR1:=Lib.hid (Oj hW zT.out FY.out AA.out)
  have HB2:Hid (Below w.heap.size w W1):=Lib.hid (by rw [← hW]; exact HB1.out.trans ((ah w1 _).mono HB1.out.size))
  have HZ2:Hid (W1.heap[w.heap.size]? =some (.cells Lg 26 (0,0))):=Lib.hid (by rw [← hW]; exact ((ah w1 _).block _ hlt).trans HZ1.out)
  clear hW y0 y1 f0 f1 tO HE2 gD C8 qJ FY kQ zT AA HB1 HZ1
  go_wp2_with fail
  refine (OV.out _ _ HR1.out).mono ?_
  rintro e w2 ⟨r,a,n,c,a',n',c',b,rfl,h1,h2,h3,h4⟩
  go_upto_region 6 with fail
  generalize hW:World.alloc w2 _=W3
  have H3:=Lib.hid h3
  have H4:=Lib.hid h4
  have HG:=Lib.hid h2
  have HB3:Hid (Below w.heap.size w W3):=Lib.hid (by rw [← hW]; exact (HB2.out.trans (dX h2 (Nat.le_of_lt hlt) HB2.out.size)).trans ((ah w2 _).mono (Nat.le_trans HB2.out.size h2.size)))
  have oF:Hid (Below w2.heap.size w2 W3):=Lib.hid (by rw [← hW]; exact ah w2 _)
  have HR3:Hid (aS W3 (nY w1 ao cap sc.1) r):=Lib.hid (h1.below oF.out)
  have HZ3:Hid (W3.heap[w.heap.size]? =some (.cells Lg 26 (0,0))):=Lib.hid (by
   have k1:=(Array.getElem?_eq_some_iff.1 HZ2.out).1
   exact (oF.out.block _ (Nat.lt_of_lt_of_le k1 h2.size)).trans ((h2.block _ k1 (by simp [nY]; omega)).trans HZ2.out))
  have HD3:Hid (W3.heap[w2.heap.size]? =some (.cells #[.slice a n c,.slice a' n' c'] 26 (0,0))):=Lib.hid (by rw [← hW]; exact heap_alloc_new _ _)
  obtain ⟨pos,hpos,hdrop,c0,c1⟩:=HR3.out.pos
  have c0:W3.cell? ⟨w1.heap.size,0,none⟩=some (.slice ao sc.1.length cap):=c0
  have c1:W3.cell? ⟨w1.heap.size,1,none⟩=some (.int .i64 (pos:Int)):=c1
  have hpos:pos≤sc.1.length:=hpos
  have hdrop:sc.1.drop pos=r:=hdrop
  have hlt3:w.heap.size < W3.heap.size:=(Array.getElem?_eq_some_iff.1 HZ3.out).1
  have MV:b=false∨(b=true∧r.isEmpty=false∧pos < sc.1.length)∨(b=true∧r.isEmpty=true∧ ¬ pos < sc.1.length):=by
   cases b
   ·exact .inl rfl
   ·right
    cases hr:r with
    | nil=>rw [hr] at hdrop; have:=List.drop_eq_nil_iff.1 hdrop; exact .inr ⟨rfl,rfl,by omega⟩
    | cons t q=>rw [hr] at hdrop; have:=congrArg List.length hdrop; simp at this; exact .inl ⟨rfl,rfl,by omega⟩
  have hltW:w.heap.size < W1.heap.size:=(Array.getElem?_eq_some_iff.1 HZ2.out).1
  clear hW h1 h2 h3 h4 OV HR1 HZ2 hpos hdrop
  rcases MV with hb | ⟨hb,hr,hq⟩ | ⟨hb,hr,hq⟩
  ·subst hb
   go_quiet (fail)
   generalize sP:World.drewN W3 _=W4
   have dN:Hid (Below W3.heap.size W3 W4):=Lib.hid (by rw [← sP]; exact below_drewN (Below.refl _ _) _)
   clear sP
   have HR4:=Lib.hid (HR3.out.below dN.out)
   go_wp2_with fail
   refine (zo _ r _ HR4.out).mono ?_
   rintro e w5 ⟨rfl,hb5⟩
   have jg:=Lib.hid (HB3.out.trans ((dN.out.trans (hb5.mono dN.out.size)).mono HB3.out.size))
   have gK:=Lib.hid ((hb5.block _ (Nat.lt_of_lt_of_le hlt3 dN.out.size)).trans ((dN.out.block _ hlt3).trans HZ3.out))
   clear hb5
   have y0:w5.cell? ⟨w.heap.size,0,none⟩=some (.slice none 0 0):=ak gK.out rfl
   have y1:w5.cell? ⟨w.heap.size,1,none⟩=some (.slice none 0 0):=ak gK.out rfl
   have f0:w5.frozen? ⟨w.heap.size,0,none⟩=false:=aD gK.out
   have f1:w5.frozen? ⟨w.heap.size,1,none⟩=false:=aD gK.out
   have CJ:w.heap.size < w5.heap.size:=(Array.getElem?_eq_some_iff.1 gK.out).1
   have iG:=Lib.hid (H3.out rfl)
   go_wp2_with fail
   exact bodyPost_ret (v:= .tuple #[.agg #[.slice none 0 0,.slice none 0 0],.int .i64 3,.int .i64 (bV sc.1 r)]) (by simp [results,Tryz.results11,go_sem,y0,y1,CJ,nY]) rfl (EL iG.out (bF (bF jg.out _ _ (Nat.le_refl _)) _ _ (Nat.le_refl _)) (fun _ _=>by obtain ⟨q,_,hq,_⟩:=HR4.out.blk; exact Ie HR4.out.tl hq))
  ·subst hb
   go_quiet (fail)
   generalize sP:World.drewN W3 _=W4
   have dN:Hid (Below W3.heap.size W3 W4):=Lib.hid (by rw [← sP]; exact below_drewN (Below.refl _ _) _)
   clear sP
   have HR4:=Lib.hid (HR3.out.below dN.out)
   go_wp2_with fail
   refine (zo _ r _ HR4.out).mono ?_
   rintro e w5 ⟨rfl,hb5⟩
   have jg:=Lib.hid (HB3.out.trans ((dN.out.trans (hb5.mono dN.out.size)).mono HB3.out.size))
   have gK:=Lib.hid ((hb5.block _ (Nat.lt_of_lt_of_le hlt3 dN.out.size)).trans ((dN.out.block _ hlt3).trans HZ3.out))
   clear hb5
   have y0:w5.cell? ⟨w.heap.size,0,none⟩=some (.slice none 0 0):=ak gK.out rfl
   have y1:w5.cell? ⟨w.heap.size,1,none⟩=some (.slice none 0 0):=ak gK.out rfl
   have f0:w5.frozen? ⟨w.heap.size,0,none⟩=false:=aD gK.out
   have f1:w5.frozen? ⟨w.heap.size,1,none⟩=false:=aD gK.out
   have CJ:w.heap.size < w5.heap.size:=(Array.getElem?_eq_some_iff.1 gK.out).1
   have iG:=Lib.hid (H3.out (by rw [hr]; rfl))
   go_wp2_with fail
   exact bodyPost_ret (v:= .tuple #[.agg #[.slice none 0 0,.slice none 0 0],.int .i64 3,.int .i64 (bV sc.1 r)]) (by simp [results,Tryz.results11,go_sem,y0,y1,CJ,nY]) rfl (EL iG.out (bF (bF jg.out _ _ (Nat.le_refl _)) _ _ (Nat.le_refl _)) (fun _ _=>by obtain ⟨q,_,hq,_⟩:=HR4.out.blk; exact Ie HR4.out.tl hq))
  ·subst hb
   obtain ⟨p,hres,hn,hn',hl,hst⟩:=H4.out (by rw [hr]; rfl)
   have HP:=Lib.hid (And.intro hres (And.intro hn (And.intro hn' (And.intro hl hst))))
   clear hres hn hn' hl hst
   go_quiet (fail)
   generalize sP:World.drewN W3 _=W4
   have dN:Hid (Below W3.heap.size W3 W4):=Lib.hid (by rw [← sP]; exact below_drewN (Below.refl _ _) _)
   clear sP
   have eO:=Lib.hid ((dN.out.block _ hlt3).trans HZ3.out)
   have HD4:=Lib.hid ((dN.out.block _ (Array.getElem?_eq_some_iff.1 HD3.out).1).trans HD3.out)
   have y0:W4.cell? ⟨w.heap.size,0,none⟩=some (.slice none 0 0):=ak eO.out rfl
   have y1:W4.cell? ⟨w.heap.size,1,none⟩=some (.slice none 0 0):=ak eO.out rfl
   have f0:W4.frozen? ⟨w.heap.size,0,none⟩=false:=aD eO.out
   have f1:W4.frozen? ⟨w.heap.size,1,none⟩=false:=aD eO.out
   have d0:W4.cell? ⟨w2.heap.size,0,none⟩=some (.slice a n c):=ak HD4.out rfl
   have d1:W4.cell? ⟨w2.heap.size,1,none⟩=some (.slice a' n' c'):=ak HD4.out rfl
   have Ik:w.heap.size < W4.heap.size:=(Array.getElem?_eq_some_iff.1 eO.out).1
   go_wp2_with fail
   obtain ⟨hres,hn,hn',hl,hst⟩:=HP.out
   have hfin:fM W1.heap.size w2 ((W4.setCell ⟨w.heap.size,0,none⟩ (.slice a n c)).setCell ⟨w.heap.size,1,none⟩ (.slice a' n' c')):=
    ((aK (B:=W1.heap.size) (oF.out.trans (dN.out.mono oF.out.size))).trans (bC W4 _ _ hltW)).trans (bC _ _ _ hltW)
   exact bodyPost_ret (v:= .tuple #[.agg #[.slice a n c,.slice a' n' c'],.int .i64 0,.int .i64 0]) (by simp [results,Tryz.results11,go_sem,y0,y1,Ik]) rfl (Xd hres hn hn' hl (hst.next hfin).now (bF (bF (HB3.out.trans (dN.out.mono HB3.out.size)) _ _ (Nat.le_refl _)) _ _ (Nat.le_refl _)))
 ·have hq:(((sc.2.1:Nat):Int) == 0)=false:=by rw [beq_eq_false_iff_ne]; omega
  have iG:=Lib.hid (tO.out h0)
  go_wp2_with fail
  exact bodyPost_ret (v:= .tuple #[.agg #[.slice none 0 0,.slice none 0 0],.int .i64 (sc.2.1:Int),.int .i64 (sc.2.2:Int)]) (by simp [results,Tryz.results11,go_sem,y0,y1,hlt]) rfl (EL iG.out (bF (bF HB1.out _ _ (Nat.le_refl _)) _ _ (Nat.le_refl _)) (fun hn h=>by have:=qJ.out.2.2 h0 (by rw [← Lib.size_eq]; exact hn); omega))
end Go.Proofs.YtehnipchbmjlhaaGreatDoor
end
