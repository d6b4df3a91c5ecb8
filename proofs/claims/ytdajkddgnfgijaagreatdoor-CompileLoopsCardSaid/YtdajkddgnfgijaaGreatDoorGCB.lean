/-
  Contracts of compile's lines and cells.
  Contract of compile's cells.
  Several rows that grow apart from each other: the objects under way. No walk in sight.
  Plain facts of the objects: sites as lines, sizes of names; a row beside rows that grow. No walk in sight.
  Contracts of the reference's look-ups: lockAt, CellAt, the generator's cond.
-/
import Derived.Test.YtdajkddgnfgijaaGreatDoorGCA
import Derived.Test.YtdajkddgnfgijaaGreatDoorGPI
import Derived.Deep.AppendLies
import Derived.IntWalk
import Derived.Test.YtdajkddgnfgijaaGreatDoorGME
section
set_option linter.unusedSimpArgs false
set_option linter.unusedVariables false
namespace Go.Proofs.YtdajkddgnfgijaaGreatDoor
open Go.RowKit
open Md
namespace Md
def zW (n:Int):List Value:=[.int .i64 n]
def oW:aP→List Int
 | .nil=>[]
 | .cons h b e r=>h.line ::(oW b++oW e++oW r)
theorem nP: ∀l:aP,(oW l).length=bM l
 | .nil=>rfl
 | .cons h b e r=>by
   have h1:=nP b; have h2:=nP e; have h3:=nP r
   simp only [oW,bM,List.length_cons,List.length_append]; omega
end Md
theorem JU: ∀n:Int,(zW n).length=1:=fun _=>rfl
theorem ab3 (n:Int): ∀u ∈ zW n,u.oneCell'=true:=by intro u hu; simp [zW] at hu; subst hu; rfl
theorem XF:(Tryz.prog.info? 3).map (fun i=>(i.zero,i.size,i.bytes))=some (some (.int .i64 0),1,8):=by kernel_rfl
theorem infoP {o:Option TypeInfo} {z:Option Value} {a b:Nat} (h:o.map (fun i=>(i.zero,i.size,i.bytes))=some (z,a,b)): ∃i0,o=some i0∧i0.zero=z∧i0.size=a∧i0.bytes=b:=by
 cases o with
 | none=>cases h
 | some i=>simp at h; exact ⟨i,rfl,h.1,h.2.1,h.2.2⟩
theorem Iw {v v1:Value} {w w1 w2:World} (h:w.grownBy w1 v.ownBlock) (ho:kG w v v1) (k:w1.grownBy w2 v1.ownBlock):w.grownBy w2 v.ownBlock:=
 ⟨k.os.trans h.os,k.tape.trans h.tape,k.output.trans h.output,Nat.le_trans h.size k.size,fun j hj hne=>(k.block j (Nat.lt_of_lt_of_le hj h.size) (by
   rcases ho with e | ⟨g,e,hg⟩
   ·rw [e]; exact hne
   ·rw [e]; intro e'; injection e' with e'; omega)).trans (h.block j hj hne)⟩
theorem wJ {w w':World} {g:Option Nat} (h:Below w.heap.size w w'):w.grownBy w' g:=⟨h.os,h.tape,h.output,h.size,fun k hk _=>h.block k hk⟩
theorem oz {w w':World} {base n m:Nat} {e:TypeId} {v:Value} {xs:List Value} (h:w.ownsRow base e m v n xs) (hb:Below w.heap.size w w'):w'.ownsRow base e m v n xs:=
 h.kept (row:=none) ⟨hb.os,hb.tape,hb.output,hb.size,fun k hk _=>hb.block k hk⟩ (by cases hv:v.ownBlock <;> simp)
structure Nq (T:TypeId) (B nb:Nat) (cs:Array Value) (ty:TypeId) (w:World) (v:Value) (xs:List Int) (w2:World) (v2:Value):Prop where
 r:w2.ownsRow B T 1 v2 xs.length (xs.flatMap zW)
 g:w.grownBy w2 v.ownBlock
 o:kG w v v2
 x:w2.heap[nb]? =some (.cells cs ty (0,0))
 b:B≤w2.heap.size
 n:v2.ownBlock≠some nb
def yZ (l:aP):Prop:= ∀(w:World) (B:Nat) (v:Value) (xs:List Int) (ao:Option Addr) (cap:Nat),w.ownsRow B 3 1 v xs.length (xs.flatMap zW)→B≤w.heap.size→l.len≤maxLen→l.At w B ao 0→xs.length + bM l≤1000000000000→
 Calls Tryz.prog 38 #[v,.slice ao l.len cap] w fun e w'=> ∃v',e= .returned v'∧w'.ownsRow B 3 1 v' (xs++oW l).length ((xs++oW l).flatMap zW)∧w.grownBy w' v.ownBlock∧kG w v v'
theorem Nq.call {T ty:TypeId} {B nb:Nat} {cs:Array Value} {w w2 w':World} {v v2 v':Value} {xs ys:List Int} (h:Nq T B nb cs ty w v xs w2 v2) (hr:w'.ownsRow B T 1 v' ys.length (ys.flatMap zW)) (hg:w2.grownBy w' v2.ownBlock) (ho:kG w2 v2 v'):Nq T B nb cs ty w v ys w' v':=by
 have hlt:=(Array.getElem?_eq_some_iff.1 h.x).1
 exact ⟨hr,Iw h.g h.o hg,h.o.trans ho h.g.size,(hg.block nb hlt (fun e=>h.n e.symm)).trans h.x,Nat.le_trans h.b hg.size,ho.ne hlt h.n⟩
theorem yF {B:Nat} {T:TypeId} {m n:Nat} {v:Value} {w w':World} {xs:List Value} (h:w.ownsRow B T m v n xs) (hB:B≤w.heap.size) (hg:w.grownBy w' v.ownBlock):Below B w w':=
 ⟨hg.os,hg.tape,hg.output,hg.size,fun k hk=>hg.block k (by omega) (fun e=>by have:=(h.lt k e.symm).1; omega)⟩
set_option maxHeartbeats 4000000 in
set_option maxRecDepth 100000 in
theorem CG (l:aP) (hall:l.All fun _ b e=>yZ b∧yZ e):yZ l:=by
 intro w B v xs ao cap hrow hBw hl hat hlen
 generalize hres:xs++oW l=res
 have HR:=Lib.hid hres
 have HRW:=Lib.hid hrow
 have HAT:=Lib.hid hat
 have HL:=Lib.hid hlen
 have iZ:=Lib.hid hall
 have Cm:=Lib.hid hBw
 obtain ⟨i0,hi,hz0,hz1,hz2⟩:=infoP XF
 have jT:=Lib.hid (And.intro hi (And.intro hz0 (And.intro hz1 hz2)))
 unfold maxLen at hl
 clear hres hrow hat hlen hall hBw hi hz0 hz1 hz2
 go_enter Tryz.func38,Tryz.ntmps38
 go_wp2_with fail
 go_loopw [0,6,9] (fun v0 _ i wr=> ∃(k:Nat) (R:aP) (ys:List Int),i= .int .i64 k∧k + R.len=l.len∧res=ys++oW R∧ys.length + bM R≤1000000000000∧(R.All fun _ b e=>yZ b∧yZ e)∧R.At wr B ao k∧B≤wr.heap.size∧wr.ownsRow B 3 1 v0 ys.length (ys.flatMap zW)∧w.grownBy wr v.ownBlock∧kG w v v0) (fun _ _ i _=>l.len - (intOf i).toNat)
 case atStart=>exact ⟨0,l,xs,rfl,by simp,HR.out.symm,HL.out,iZ.out,HAT.out,Cm.out,HRW.out,F9 _,.inl rfl⟩
 case round=>
  obtain ⟨k,R,ys,rfl,hlen,heq,hl12,hall,hat,hBr,hrow,hgr,how⟩:=hrel
  have HE:=Lib.hid heq
  have OT:=Lib.hid hl12
  have EG:=Lib.hid hrow
  have HG:=Lib.hid hgr
  have HO:=Lib.hid how
  have DF:=Lib.hid hBr
  clear heq hl12 hrow hgr how hBr
  cases R with
  | nil=>
    obtain rfl:k=l.len:=by simpa [aP.len] using hlen
    have HX:Hid (res=ys):=Lib.hid (by rw [HE.out]; simp [oW])
    clear hat hall
    go_wp2_with fail
    go_ret
    exact ⟨_,rfl,by rw [HX.out]; exact EG.out,HG.out,HO.out⟩
  | cons h e0 e1 R=>
    obtain ⟨bl,off,sl,rfl,hbl,hin,hcs,hrest⟩:=FZ hat
    have hkl:k < l.len:=by simp only [aP.len] at hlen; omega
    obtain ⟨⟨hs0,hs1⟩,wS⟩:=hall
    have kD:=Lib.hid (And.intro hs0 hs1)
    have jk:=Lib.hid wS
    have LG:=Lib.hid hin
    have jc:=Lib.hid hrest
    have x0:=hcs 0 _ rfl
    have x1:=hcs 1 _ rfl
    have x2:=hcs 2 _ rfl
    have x3:=hcs 3 _ rfl
    have x4:=hcs 4 _ rfl
    have x5:=hcs 5 _ rfl
    have x6:=hcs 6 _ rfl
    have x7:=hcs 7 _ rfl
    have x8:=hcs 8 _ rfl
    have x9:=hcs 9 _ rfl
    have x10:=hcs 10 _ rfl
    simp only [stA,Nat.add_zero] at x0 x1 x2 x3 x4 x5 x6 x7 x8 x9 x10
    clear hat hin hcs hrest hs0 hs1 wS
    go_upto_region 4 with fail
    generalize hW2:World.alloc wr _=w2
    obtain ⟨nb,hnb⟩: ∃n,wr.heap.size=n:=⟨_,rfl⟩
    have HB:Hid (Below wr.heap.size wr w2):=Lib.hid (by rw [← hW2]; exact aj _ _)
    have HX:Hid (w2.heap[nb]? =some (.cells (stA h e0 e1 sl) 131 (0,0))):=Lib.hid (by rw [← hW2,← hnb]; exact heap_alloc_new _ _)
    have S0:Hid (Nq 3 B nb (stA h e0 e1 sl) 131 wr u0 ys w2 u0):=Lib.hid ⟨oz EG.out HB.out,wJ HB.out,.inl rfl,HX.out,Nat.le_trans DF.out HB.out.size,fun e=>by have:=(EG.out.lt _ e).2; omega⟩
    rw [hnb]
    clear hW2 hnb x0 x1 x2 x3 x4 x5 x6 x7 x8 x9 x10 HX
    have z1:=aB (j:=1) S0.out.x rfl
    have z9:=aB (j:=9) S0.out.x rfl
    have aY:=aB (j:=10) S0.out.x rfl
    simp only [stA,List.getElem_toArray,List.getElem_cons_zero,List.getElem_cons_succ] at z1 z9 aY
    have lK:Hid (Below w2.heap.size w2 (w2.alloc (.cells (zW h.line).toArray 3))):=Lib.hid (aj _ _)
    have jN:=Lib.hid (iQ (heap_alloc_new w2 (.cells (zW h.line).toArray 3)))
    have pO:=Lib.hid (oz S0.out.r lK.out)
    obtain ⟨hi,hz0,hz1,hz2⟩:=jT.out
    have hk1:ys.length + 1≤maxLen:=by have:=OT.out; simp only [bM] at this; unfold maxLen; omega
    have pV:(ys.length + 1) * 8≤140737488355328:=by have:=OT.out; simp only [bM] at this; omega
    have hbs:B≤w2.heap.size + 1:=Nat.le_succ_of_le S0.out.b
    go_wp2_with (at_builtin; refine wpList_append_lies _ rfl _ _ 73 rfl B 3 i0 _ 1 8 Tryz.underlying73 hi hz0 hz1 hz2 rfl (by decide) _ _ _ rfl pO.out ⟨w2.heap.size,0,none⟩ 1 1 (zW h.line) rfl rfl jN.out (ab3 _) (by decide) hk1 pV (by simpa using hbs) _ rfl ?_)
    intro g' cap' w3 hown hgr hmv hlt3
    clear hi hz0 hz1 hz2 hk1 pV hbs z1 z9 aY
    have S1:Hid (Nq 3 B nb (stA h e0 e1 sl) 131 wr u0 (ys++[h.line]) w3 (.slice (some ⟨g',0,none⟩) (ys.length + 1) cap')):=Lib.hid (S0.out.call (by rw [List.flatMap_append,List.flatMap_singleton,List.length_append]; exact hown) (eY (wJ lK.out) hgr) (by
     rcases hmv with e | e
     ·exact .inl (by rw [e]; rfl)
     ·exact .inr ⟨g',rfl,by have:=lK.out.size; simp at e this; omega⟩))
    have oO:=Lib.hid (yF EG.out DF.out S1.out.g)
    clear hown hgr hmv hlt3 pO jN lK S0
    have z9:=aB (j:=9) S1.out.x rfl
    have aY:=aB (j:=10) S1.out.x rfl
    simp only [stA,List.getElem_toArray,List.getElem_cons_zero,List.getElem_cons_succ] at z9 aY
    go_wp2_with fail
    refine (kD.out.1 w3 B _ (ys++[h.line]) sl.bV sl.bC S1.out.r S1.out.b LG.out.1.2.2.2.2.2.2.1 (LG.out.2.2.2.1.below oO.out) (by have:=OT.out; simp only [bM,List.length_append,List.length_cons,List.length_nil] at *; omega)).mono ?_
    rintro e' w4 ⟨v4,rfl,hr4,hg4,Zd⟩
    have S2:=Lib.hid (S1.out.call hr4 hg4 Zd)
    have Qs:=Lib.hid (yF EG.out DF.out S2.out.g)
    clear hr4 hg4 Zd z9 aY
    have aY:=aB (j:=10) S2.out.x rfl
    simp only [stA,List.getElem_toArray,List.getElem_cons_zero,List.getElem_cons_succ] at aY
    go_wp2_with fail
    refine (kD.out.2 w4 B _ (ys++[h.line]++oW e0) sl.eB sl.dK S2.out.r S2.out.b LG.out.1.2.2.2.2.2.2.2 (LG.out.2.2.2.2.below Qs.out) (by have:=OT.out; have h5:=nP e0; simp only [bM,List.length_append,List.length_cons,List.length_nil] at *; omega)).mono ?_
    rintro e' w5 ⟨v5,rfl,YS,hg5,YD⟩
    have S3:=Lib.hid (S2.out.call YS hg5 YD)
    have ac0:=Lib.hid (yF EG.out DF.out S3.out.g)
    clear YS hg5 YD aY
    go_wp2_with fail
    go_roundw
    case rel=>
     refine ⟨k + 1,R,ys++[h.line]++oW e0++oW e1,by go_num,by simp only [aP.len] at hlen; omega,?_,?_,jk.out,jc.out.below ac0.out,S3.out.b,S3.out.r,Iw HG.out HO.out S3.out.g,HO.out.trans S3.out.o HG.out.size⟩
     ·rw [HE.out,oW]; simp
     ·have:=OT.out; have h5:=nP e0; have h6:=nP e1; simp only [bM,List.length_append,List.length_cons,List.length_nil] at *; omega
    case measure=>simp [intOf]; omega
theorem O7 (l:aP):yZ l:=CG l (aP.lG (fun _ b e hb he=>⟨CG b hb,CG e he⟩) l)
end Go.Proofs.YtdajkddgnfgijaaGreatDoor
end
section
set_option linter.unusedSimpArgs false
set_option linter.unusedVariables false
namespace Go.Proofs.YtdajkddgnfgijaaGreatDoor
open Go.RowKit
open Md
theorem vJ: ∀x:AX,(kR x).length=5:=fun _=>rfl
theorem QG (x:AX): ∀u ∈ kR x,u.oneCell'=true:=by
 intro u hu; simp [kR] at hu
 rcases hu with rfl | rfl | rfl | rfl | rfl <;> rfl
theorem IQ:(Tryz.prog.info? 58).map (fun i=>(i.zero,i.size,i.bytes))=some (some (.agg #[.string ⟨#[]⟩,.int .i64 0,.int .i64 0,.bool false,.int .i64 0]),5,48):=by kernel_rfl
theorem tC (d:De): ∀(n k:Nat),(mg d n k).length=n
 | 0,_=>rfl
 | n + 1,k=>by rw [mg,List.length_cons,tC d n]
theorem Fv (d:De): ∀(n k:Nat),mg d (n + 1) k=mg d n k++[⟨d.nm,((k + n:Nat):Int),d.size,false,d.init⟩]
 | 0,k=>rfl
 | n + 1,k=>by
   rw [mg,Fv d n (k + 1),mg,show k + 1 + n=k + (n + 1) by omega]; rfl
def ac8 (d:De) (w:World) (e:Ending) (w':World):Prop:= ∃g cap,e= .returned (.slice (some ⟨g,0,none⟩) (iU d).length cap)∧(∀j u,((iU d).flatMap kR)[j]? =some u→w'.cell? ((⟨g,0,none⟩:Addr).add j)=some u)∧0 < (iU d).length∧(iU d).length≤4∧Below w.heap.size w w'
def YT (d:De):Value:= .agg #[.int .i64 d.kind,.int .i64 d.line,.string d.nm,.int .i64 d.size,.int .i64 d.init,.string d.on]
theorem J4 {w:World} {g j:Nat} {u:Value} (h:w.cell? ⟨g,j,none⟩=some u):w.cell? ((⟨g,0,none⟩:Addr).add j)=some u:=by
 rcases Nat.eq_zero_or_pos j with rfl | hj
 ·simpa [Addr.add] using h
 ·simpa [Addr.add,Nat.ne_of_gt hj] using h
set_option maxHeartbeats 4000000 in
set_option maxRecDepth 100000 in
theorem FI (d:De) (w:World) (h0:0≤d.size) (h4:d.size≤4):Calls Tryz.prog 37 #[YT d] w (ac8 d w):=by
 unfold YT
 by_cases hz:d.size=0
 ·have hcp:iU d=[⟨d.nm,0,0,d.kind == 2,d.init⟩]:=by unfold iU; rw [hz]; rfl
  have H9:=Lib.hid hcp
  clear hcp h0 h4
  obtain ⟨kd,ln,nm,sz,Uy,on⟩:=d
  obtain rfl:sz=0:=hz
  go_enter Tryz.func37,Tryz.ntmps37
  go_wp2
  all_goals (
   go_ret
   refine ⟨w.heap.size + 1,1,by rw [H9.out]; rfl,fun j u hu=> ?_,by rw [H9.out]; exact Nat.one_pos,by rw [H9.out]; simp,(aj _ _).alloc (by simp) _⟩
   rw [H9.out] at hu
   have hg:=heap_alloc_new (w.alloc (.cells #[.int .i64 kd,.int .i64 ln,.string nm,.int .i64 0,.int .i64 Uy,.string on] 75)) (.cells (kR ⟨nm,0,0,kd == 2,Uy⟩).toArray 58)
   have e:(w.alloc (.cells #[.int .i64 kd,.int .i64 ln,.string nm,.int .i64 0,.int .i64 Uy,.string on] 75)).heap.size=w.heap.size + 1:=by simp
   rw [e] at hg
   refine J4 ?_
   exact aB hg (by simpa using hu))
 ·have hcp:iU d=mg d d.size.toNat 0:=by unfold iU; rw [if_neg (by simpa using hz)]
  have H9:=Lib.hid hcp
  have hs1:0 < d.size:=by omega
  have hzb:(d.size == 0)=false:=by rw [beq_eq_false_iff_ne]; exact hz
  clear hcp hz
  obtain ⟨i0,hi,hz0,hz1,hz2⟩:=infoP IQ
  have jT:=Lib.hid (And.intro hi (And.intro hz0 (And.intro hz1 hz2)))
  clear hi hz0 hz1 hz2
  go_enter Tryz.func37,Tryz.ntmps37
  go_upto_region 1 with fail
  generalize hW:World.alloc w _=w1
  obtain ⟨nb,hnb⟩: ∃n,w.heap.size=n:=⟨_,rfl⟩
  have HB:Hid (Below w.heap.size w w1):=Lib.hid (by rw [← hW]; exact aj _ _)
  have HX:Hid (w1.heap[nb]? =some (.cells #[.int .i64 d.kind,.int .i64 d.line,.string d.nm,.int .i64 d.size,.int .i64 d.init,.string d.on] 75 (0,0))):=Lib.hid (by rw [← hW,← hnb]; exact heap_alloc_new _ _)
  have lI:Hid (nb < w1.heap.size):=Lib.hid (Array.getElem?_eq_some_iff.1 HX.out).1
  rw [hnb]
  clear hW hnb
  have z0:=aB (j:=0) HX.out rfl
  have z2:=aB (j:=2) HX.out rfl
  have z3:=aB (j:=3) HX.out rfl
  have z4:=aB (j:=4) HX.out rfl
  go_wp2_with fail
  go_loopw [3,4,19] (fun v3 _ i wr=> ∃k:Nat,i= .int .i64 k∧(k:Int)≤d.size∧wr.ownsRow w1.heap.size 58 5 v3 (mg d k 0).length ((mg d k 0).flatMap kR)∧Below w1.heap.size w1 wr) (fun _ _ i _=>d.size.toNat - (intOf i).toNat)
  case atStart=>exact ⟨0,rfl,by omega,World.ownsRow_nil _ _ _ _,Below.refl _ _⟩
  case round=>
   obtain ⟨k,rfl,hk,hrow,hbel⟩:=hrel
   have HRW:=Lib.hid hrow
   have kV:=Lib.hid hbel
   clear hrow hbel z0 z2 z3 z4
   have A9:=Lib.hid ((kV.out.block nb lI.out).trans HX.out)
   have z0:=aB (j:=0) A9.out rfl
   have z2:=aB (j:=2) A9.out rfl
   have z3:=aB (j:=3) A9.out rfl
   have z4:=aB (j:=4) A9.out rfl
   by_cases hlt:(k:Int) < d.size
   ·have lK:Hid (Below wr.heap.size wr (wr.alloc (.cells (kR ⟨d.nm,k,d.size,false,d.init⟩).toArray 58))):=Lib.hid (aj _ _)
    have jN:=Lib.hid (iQ (heap_alloc_new wr (.cells (kR ⟨d.nm,k,d.size,false,d.init⟩).toArray 58)))
    have pO:=Lib.hid (oz HRW.out lK.out)
    have RQ:=Lib.hid (tC d k 0)
    obtain ⟨hi,hz0,hz1,hz2⟩:=jT.out
    have hk1:(mg d k 0).length + 1≤maxLen:=by rw [RQ.out]; unfold maxLen; omega
    have pV:((mg d k 0).length + 1) * 48≤140737488355328:=by rw [RQ.out]; omega
    have hbs:w1.heap.size≤wr.heap.size + 1:=Nat.le_succ_of_le kV.out.size
    go_wp2_with (at_builtin; refine wpList_append_lies _ rfl _ _ 29 rfl w1.heap.size 58 i0 _ 5 48 Tryz.underlying29 hi hz0 hz1 hz2 rfl (by decide) _ _ _ rfl pO.out ⟨wr.heap.size,0,none⟩ 1 1 (kR ⟨d.nm,k,d.size,false,d.init⟩) rfl rfl jN.out (QG _) (by decide) hk1 pV (by simpa using hbs) _ rfl ?_)
    intro g' cap' w3 hown hgr hmv hlt3
    have HR3:Hid (w3.ownsRow w1.heap.size 58 5 (.slice (some ⟨g',0,none⟩) ((mg d k 0).length + 1) cap') (mg d (k + 1) 0).length ((mg d (k + 1) 0).flatMap kR)):=Lib.hid (by
     rw [Fv,List.flatMap_append,List.flatMap_singleton,List.length_append,Nat.zero_add]; exact hown)
    have HB3:Hid (Below w1.heap.size w1 w3):=Lib.hid (kV.out.trans (yF HRW.out kV.out.size (eY (wJ lK.out) hgr)))
    clear hi hz0 hz1 hz2 hk1 pV hbs hown hgr hmv hlt3 pO jN lK z0 z2 z3 z4
    go_wp2_with fail
    go_roundw
    case rel=>exact ⟨k + 1,by go_num,by omega,HR3.out,HB3.out⟩
    case measure=>simp [intOf]; omega
   ·have hke:d.size.toNat=k:=by omega
    have HE:Hid (iU d=mg d k 0):=Lib.hid (by rw [H9.out,hke])
    have HK:Hid (0 < k∧k≤4):=Lib.hid (by omega)
    go_wp2_with fail
    go_ret
    rcases HRW.out.2 with ⟨-,hn⟩ | ⟨g,cap,cur,hv,hb,hg,h1,h2,h3,h5⟩
    ·rw [tC] at hn; have:=HK.out.1; omega
    ·refine ⟨g,cap,(show Ending.returned u3=_ by rw [HE.out,hv]),fun j u hu=>J4 ?_,by rw [HE.out,tC]; exact HK.out.1,by rw [HE.out,tC]; exact HK.out.2,HB.out.trans (kV.out.mono HB.out.size)⟩
     rw [HE.out,← h5] at hu
     have kH:=(List.getElem?_eq_some_iff.1 hu).1
     rw [List.getElem?_take_of_lt (by rw [List.length_take] at kH; omega)] at hu
     exact aB hg (by rw [← hu]; simp)
end Go.Proofs.YtdajkddgnfgijaaGreatDoor
end
section
set_option linter.unusedSimpArgs false
set_option linter.unusedVariables false
namespace Go.Proofs.YtdajkddgnfgijaaGreatDoor
open Go.RowKit
open Md
structure Rw where
 T:TypeId
 m:Nat
 v:Value
 n:Nat
 xs:List Value
def Rw.Ok (w:World) (B:Nat) (r:Rw):Prop:=w.ownsRow B r.T r.m r.v r.n r.xs
def Apart (a b:Rw):Prop:= ∀k,a.v.ownBlock=some k→b.v.ownBlock≠some k
theorem Apart.symm {a b:Rw} (h:Apart a b):Apart b a:=fun k hb ha=>h k ha hb
structure Rows (w:World) (B:Nat) (l:List Rw):Prop where
 own: ∀r ∈ l,r.Ok w B
 ap:l.Pairwise Apart
section
variable {w w':World} {B:Nat} {l pre post:List Rw} {r r':Rw}
theorem Rows.below (h:Rows w B l) (hb:Below w.heap.size w w'):Rows w' B l:=⟨fun r hr=>oz (h.own r hr) hb,h.ap⟩
theorem Rows.keep (h:Rows w B l) {k:Nat} (hg:w.grownBy w' (some k)) (hk:k < B):Rows w' B l:=⟨fun r hr=>(h.own r hr).kept hg (by
 cases hv:r.v.ownBlock with
 | none=>exact .inl rfl
 | some j=>refine .inr (fun e=> ?_); have:=((h.own r hr).lt j hv).1; injection e with e; omega),h.ap⟩
theorem Rows.put (h:Rows w B (pre++r ::post)) (hg:w.grownBy w' r.v.ownBlock) (hr:r'.Ok w' B) (ho:kG w r.v r'.v):Rows w' B (pre++r' ::post):=by
 have hap:=h.ap
 rw [List.pairwise_append,List.pairwise_cons] at hap
 obtain ⟨h1,⟨h2,h3⟩,h4⟩:=hap
 have keep: ∀q ∈ pre++r ::post,Apart q r→q.Ok w' B:=fun q hq ha=>(h.own q hq).kept hg (by
  cases hv:q.v.ownBlock with
  | none=>exact .inl rfl
  | some j=>exact .inr (fun e=>ha j hv e.symm))
 have far: ∀q ∈ pre++r ::post,Apart q r→Apart q r':=fun q hq ha k hk e=>by
  rcases ho with e' | ⟨g,e',hge⟩
  ·rw [e'] at e; exact ha k hk e
  ·rw [e'] at e; injection e with e; subst e
   have:=((h.own q hq).lt _ hk).2; omega
 have Yd: ∀q ∈ pre,Apart q r:=fun q hq=>h4 q hq r List.mem_cons_self
 have YB: ∀q ∈ post,Apart q r:=fun q hq=>(h2 q hq).symm
 have m1: ∀q ∈ pre,q ∈ pre++r ::post:=fun q hq=>List.mem_append_left _ hq
 have m2: ∀q ∈ post,q ∈ pre++r ::post:=fun q hq=>List.mem_append_right _ (List.mem_cons_of_mem _ hq)
 refine ⟨fun q hq=> ?_,?_⟩
 ·rcases List.mem_append.1 hq with hq | hq
  ·exact keep q (m1 q hq) (Yd q hq)
  ·rcases List.mem_cons.1 hq with rfl | hq
   ·exact hr
   ·exact keep q (m2 q hq) (YB q hq)
 ·rw [List.pairwise_append,List.pairwise_cons]
  refine ⟨h1,⟨fun q hq=>(far q (m2 q hq) (YB q hq)).symm,h3⟩,fun q hq x hx=> ?_⟩
  rcases List.mem_cons.1 hx with rfl | hx
  ·exact far q (m1 q hq) (Yd q hq)
  ·exact h4 q hq x (List.mem_cons_of_mem _ hx)
end
namespace Md
structure Vs where
 v0:Value
 v1:Value
 v2:Value
 v3:Value
 v4:Value
 v5:Value
end Md
def gM (s:Vs) (W:Wo):List Rw:=[⟨58,5,s.v0,W.cs.length,W.cs.flatMap kR⟩,⟨61,2,s.v1,W.ls.length,W.ls.flatMap mQ⟩,⟨66,2,s.v2,W.ns.length,W.ns.flatMap sP⟩,
 ⟨9,1,s.v3,W.fs.length,W.fs.flatMap lV⟩,⟨9,1,s.v4,W.ts.length,W.ts.flatMap lV⟩,⟨64,3,s.v5,W.ss.length,W.ss.flatMap uz⟩]
structure qw (w:World) (B bw:Nat) (s:Vs) (W:Wo):Prop where
 blk:w.heap[bw]? =some (.cells #[s.v0,s.v1,s.v2,s.v3,s.v4,s.v5] 35 (0,0))
 row:Rows w B (gM s W)
 lt:bw < B
 sz:B≤w.heap.size
theorem vM: ∀x:yJ,(mQ x).length=2:=fun _=>rfl
theorem EP: ∀x:BZ,(sP x).length=2:=fun _=>rfl
theorem vK: ∀x:ByteArray,(lV x).length=1:=fun _=>rfl
theorem EM: ∀x:Cn,(uz x).length=3:=fun _=>rfl
section
variable {w w' w4:World} {B bw:Nat} {s:Vs} {W:Wo}
theorem qw.below (h:qw w B bw s W) (hb:Below w.heap.size w w'):qw w' B bw s W:=
 ⟨(hb.block _ (Array.getElem?_eq_some_iff.1 h.blk).1).trans h.blk,h.row.below hb,h.lt,Nat.le_trans h.sz hb.size⟩
theorem qw.keep (h:qw w B bw s W) {k:Nat} (hg:w.grownBy w' (some k)) (hk:k < B) (hne:k≠bw):qw w' B bw s W:=
 ⟨(hg.block _ (Array.getElem?_eq_some_iff.1 h.blk).1 (by simp; exact fun e=>hne e.symm)).trans h.blk,h.row.keep hg hk,h.lt,Nat.le_trans h.sz hg.size⟩
theorem qw.cells (h:qw w B bw s W):bw < w.heap.size∧w.cell? ⟨bw,0,none⟩=some s.v0∧w.cell? ⟨bw,1,none⟩=some s.v1∧w.cell? ⟨bw,2,none⟩=some s.v2∧w.cell? ⟨bw,3,none⟩=some s.v3∧w.cell? ⟨bw,4,none⟩=some s.v4∧w.cell? ⟨bw,5,none⟩=some s.v5∧ ∀j,w.frozen? ⟨bw,j,none⟩=false:=
 ⟨(Array.getElem?_eq_some_iff.1 h.blk).1,aB h.blk rfl,aB h.blk rfl,aB h.blk rfl,aB h.blk rfl,aB h.blk rfl,aB h.blk rfl,fun _=>bH h.blk⟩
theorem qw.grow {pre post:List Rw} {r r':Rw} {s':Vs} {W':Wo} {j:Nat} (h:qw w B bw s W) (hg:w.grownBy w4 r.v.ownBlock) (e1:gM s W=pre++r ::post) (e2:gM s' W'=pre++r' ::post) (hr:r'.Ok w4 B) (ho:kG w r.v r'.v)
 (hc:(#[s.v0,s.v1,s.v2,s.v3,s.v4,s.v5]:Array Value).setIfInBounds j r'.v= #[s'.v0,s'.v1,s'.v2,s'.v3,s'.v4,s'.v5]):qw (w4.setCell ⟨bw,j,none⟩ r'.v) B bw s' W':=by
 have hrow:=h.row
 rw [e1] at hrow
 have h4:=hrow.put hg hr ho
 rw [← e2] at h4
 have hlt:=h.lt
 have hne:r.v.ownBlock≠some bw:=fun e=>by have:=((hrow.own r (by simp)).lt _ e).1; omega
 have hb:w4.heap[bw]? =some (.cells #[s.v0,s.v1,s.v2,s.v3,s.v4,s.v5] 35 (0,0)):=(hg.block _ (Array.getElem?_eq_some_iff.1 h.blk).1 (fun e=>hne e.symm)).trans h.blk
 have hgs:=dO w4 ⟨bw,j,none⟩ r'.v
 exact ⟨rQ hb _ hc,h4.keep hgs hlt,hlt,Nat.le_trans h.sz (Nat.le_trans hg.size hgs.size)⟩
theorem qw.own (h:qw w B bw s W) {r:Rw} (hr:r ∈ gM s W):r.Ok w B:=h.row.own r hr
end
theorem FT: ∀(ds pre:List De) (c l n f:Int),(mq ds pre c l n f).1=0→ ∀d ∈ ds,d.size≤4
 | [],_,_,_,_,_,_=>fun d hd=>by cases hd
 | d ::r,pre,c,l,n,f,h0=>by
   rw [mq] at h0
   split at h0
   ·exact absurd (show (4:Int)=0 from h0) (by decide)
   split at h0
   ·exact absurd (show (2:Int)=0 from h0) (by decide)
   rename_i h2
   split at h0
   ·exact absurd (show (2:Int)=0 from h0) (by decide)
   split at h0
   ·exact absurd (show (5:Int)=0 from h0) (by decide)
   split at h0
   ·exact absurd (show (6:Int)=0 from h0) (by decide)
   intro x hx
   rcases List.mem_cons.1 hx with rfl | hx
   ·simpa using h2
   ·exact FT r _ _ _ _ _ h0 x hx
end Go.Proofs.YtdajkddgnfgijaaGreatDoor
end
section
set_option linter.unusedSimpArgs false
set_option linter.unusedVariables false
namespace Go.Proofs.YtdajkddgnfgijaaGreatDoor
open Go.RowKit
open Md
namespace Md
def pE (i:Int):Nat→List Int→List Cn
 | _,[]=>[]
 | n,x ::r=>⟨i,n,x⟩ ::pE i (n + 1) r
theorem Cx (i:Int): ∀(l r:List Int) (n:Nat),pE i n (l++r)=pE i n l++pE i (n + l.length) r
 | [],r,n=>by simp [pE]
 | x ::l,r,n=>by
   rw [List.cons_append,pE,Cx i l r (n + 1),pE,List.length_cons,show n + 1 + l.length=n + (l.length + 1) by omega]; rfl
theorem IC (i:Int): ∀(l:List Int) (n:Nat),(pE i n l).length=l.length
 | [],_=>rfl
 | x ::l,n=>by rw [pE,List.length_cons,IC i l,List.length_cons]
theorem BI (i:Int): ∀(l:aP) (n:Nat),FL i l n=pE i n (oW l)
 | .nil,_=>rfl
 | .cons h b e r,n=>by
   have hb:=nP b; have he:=nP e
   rw [FL,oW,pE,BI i b,BI i e,BI i r,Cx,Cx,List.length_append,hb,he,show n + 1 + (bM b + bM e)=n + 1 + bM b + bM e by omega]
theorem JY {w:World} {B:Nat} : ∀ {l:List De} {ao:Option Addr} {k:Nat},ig w B l ao k→ ∀d ∈ l,d.Ok
 | [],_,_,_=>fun d hd=>by cases hd
 | x ::r,_,_,⟨⟨_,_,_,_,_,_,_,_,_,_,h⟩,hr⟩=>fun d hd=>by
   rcases List.mem_cons.1 hd with rfl | hd
   ·exact h
   ·exact JY hr d hd
theorem ED {w:World} {B:Nat} : ∀ {l:List Th} {ao:Option Addr} {k:Nat},gJ w B l ao k→ ∀t ∈ l,t.Ok
 | [],_,_,_=>fun d hd=>by cases hd
 | x ::r,_,_,⟨⟨_,_,_,_,_,_,_,_,_,_,_,_,h,_⟩,hr⟩=>fun d hd=>by
   rcases List.mem_cons.1 hd with rfl | hd
   ·exact h
   ·exact ED hr d hd
theorem JM (d:De) (hd:dR d.size): ∀(n k:Nat),∀c ∈ mg d n k,dR c.sz
 | 0,_=>fun c hc=>by cases hc
 | n + 1,k=>fun c hc=>by
   rw [mg] at hc
   rcases List.mem_cons.1 hc with rfl | hc
   ·exact hd
   ·exact JM d hd n _ c hc
theorem OI: ∀(l:List De) (W:Wo) (g:List UInt8→Int),(∀d ∈ l,d.Ok)→(∀c ∈ W.cs,dR c.sz)→(∀x ∈ W.fs,x.size≤maxLen)→(∀c ∈ (Ci l W g).cs,dR c.sz)∧(∀x ∈ (Ci l W g).fs,x.size≤maxLen)
 | [],W,g,_,h1,h2=>⟨h1,h2⟩
 | d ::r,W,g,hd,h1,h2=>by
   obtain ⟨-,-,hn,hs,-,-⟩:=hd d List.mem_cons_self
   rw [Ci]
   refine OI r _ _ (fun x hx=>hd x (List.mem_cons_of_mem _ hx)) ?_ ?_
   ·unfold iL
    repeat' split
    ·intro c hc
     rcases List.mem_append.1 hc with hc | hc
     ·exact h1 c hc
     ·unfold iU at hc
      split at hc
      ·rw [List.mem_singleton.1 hc]; show dR 0; unfold dR; decide
      ·exact JM d hs _ _ c hc
    all_goals exact h1
   ·unfold iL
    repeat' split
    all_goals first | exact h2 | skip
    intro x hx
    rcases List.mem_append.1 hx with hx | hx
    ·exact h2 x hx
    ·rw [List.mem_singleton.1 hx]; exact hn
theorem KA: ∀(l:List Th) (W:Wo) (i:Nat),(yO W i l).ts=W.ts++l.map (·.nm)
 | [],W,i=>by simp [yO]
 | t ::r,W,i=>by rw [yO,KA r]; simp
theorem Et {w:World} {B:Nat} : ∀ {l:List ByteArray} {ao:Option Addr} {k:Nat},fT lV 1 w B l ao k→(∀x ∈ l,x.size≤maxLen)→gB w B l ao k
 | [],_,_,_,_=>trivial
 | s ::r,ao,k,⟨⟨b,off,e,hB,c⟩,hr⟩,h=>⟨⟨b,off,e,hB,by have:=c 0 _ rfl; simpa using this,h s List.mem_cons_self⟩,Et hr (fun x hx=>h x (List.mem_cons_of_mem _ hx))⟩
end Md
theorem tL {α:Type} {f:α→List Value} {m:Nat} {w:World} {base:Nat} {T:TypeId} {ao:Option Addr} {cap:Nat} {xs:List α} (hf: ∀x,(f x).length=m) (h:w.ownsRow base T m (.slice ao xs.length cap) xs.length (xs.flatMap f)):fT f m w w.heap.size xs ao 0:=by
 obtain ⟨mH,cap',e,-,-,h2⟩:=gF hf h
 injection e with e1 e2 e3
 subst e1; exact h2
def R5 (lo:Nat) (s:iE):Prop:=(∀b,s.aC=some b→lo≤b.block)∧(∀b,s.aL=some b→lo≤b.block)∧(∀b,s.aN=some b→lo≤b.block)∧(∀b,s.aF=some b→lo≤b.block)∧(∀b,s.aT=some b→lo≤b.block)∧(∀b,s.aS=some b→lo≤b.block)
theorem vO {w:World} {B lo m n cap:Nat} {T:TypeId} {ao:Option Addr} {xs:List Value} {v:Value} (h:w.ownsRow B T m v n xs) (hv:v= .slice ao n cap) (hB:lo≤B): ∀b,ao=some b→lo≤b.block:=fun b e=>by
 have:=(h.lt b.block (by rw [hv,e]; rfl)).1; omega
theorem fT.keep {α:Type} {f:α→List Value} {m:Nat} {w w':World} {B:Nat} {l:List α} {ao:Option Addr} {k:Nat} (h:fT f m w B l ao k) (hk: ∀b,ao=some b→w'.heap[b.block]? =w.heap[b.block]?):fT f m w' B l ao k:=fT.mk (fun i x hx=>by
 obtain ⟨b,off,e,hB,hc⟩:=fT.at i x h hx
 exact ⟨b,off,e,hB,fun j u hu=>(World.cell?_of_block (a:=⟨b,off + (k + i) * m + j,none⟩) (show w'.heap[b]? =w.heap[b]? from hk ⟨b,off,none⟩ e)).trans (hc j u hu)⟩)
theorem gB.keep {w w':World} {B:Nat} : ∀ {l:List ByteArray} {ao:Option Addr} {k:Nat},gB w B l ao k→(∀b,ao=some b→w'.heap[b.block]? =w.heap[b.block]?)→gB w' B l ao k
 | [],_,_,_,_=>trivial
 | _ ::_,_,k,⟨⟨b,off,e,hB,c,hs⟩,hr⟩,hk=>⟨⟨b,off,e,hB,(World.cell?_of_block (a:=⟨b,off + k,none⟩) (show w'.heap[b]? =w.heap[b]? from hk ⟨b,off,none⟩ e)).trans c,hs⟩,gB.keep hr hk⟩
theorem oI.keep {w w':World} {B lo:Nat} {W:Wo} {s:iE} (h:oI w B W s) (hn:R5 lo s) (hk: ∀k,lo≤k→w'.heap[k]? =w.heap[k]?):oI w' B W s:=
 ⟨fT.keep h.cs (fun b e=>hk _ (hn.1 b e)),fT.keep h.ls (fun b e=>hk _ (hn.2.1 b e)),fT.keep h.ns (fun b e=>hk _ (hn.2.2.1 b e)),gB.keep h.fs (fun b e=>hk _ (hn.2.2.2.1 b e)),gB.keep h.ts (fun b e=>hk _ (hn.2.2.2.2.1 b e)),fT.keep h.ss (fun b e=>hk _ (hn.2.2.2.2.2 b e)),h.lc,h.ll,h.ln,h.lf,h.lt,h.lS,h.ok⟩
theorem KW {w w4:World} {BL bw m n j:Nat} {T:TypeId} {v v' vL u:Value} {xs:List Value} (hL:w.ownsRow BL T m vL n xs) (hbw:bw < BL) (hap: ∀q,vL.ownBlock=some q→v.ownBlock≠some q) (hg:w.grownBy w4 v.ownBlock) (ho:kG w v v'):
 (w4.setCell ⟨bw,j,none⟩ u).ownsRow BL T m vL n xs∧ ∀q,vL.ownBlock=some q→v'.ownBlock≠some q:=by
 have h4:w4.ownsRow BL T m vL n xs:=hL.kept hg (by
  cases hv:vL.ownBlock with
  | none=>exact .inl rfl
  | some q=>exact .inr (fun e=>hap q hv e.symm))
 refine ⟨h4.kept (dO w4 ⟨bw,j,none⟩ u) ?_,fun q hq e=> ?_⟩
 ·cases hv:vL.ownBlock with
  | none=>exact .inl rfl
  | some q=>refine .inr (fun e=> ?_); have:=(h4.lt q hv).1; injection e with e; simp only at e; omega
 ·rcases ho with e' | ⟨g,e',hg'⟩
  ·rw [e'] at e; exact hap q hq e
  ·rw [e'] at e; injection e with e; subst e
   have:=(hL.lt _ hq).2; omega
end Go.Proofs.YtdajkddgnfgijaaGreatDoor
end
section
set_option linter.unusedSimpArgs false
set_option linter.unusedVariables false
namespace Go.Proofs.YtdajkddgnfgijaaGreatDoor
open Go.RowKit
open Md
def KS (W:Wo) (s:iE):Value:= .agg #[.slice s.aC W.cs.length s.cC,.slice s.aL W.ls.length s.cL,.slice s.aN W.ns.length s.cN,.slice s.aF W.fs.length s.cF,.slice s.aT W.ts.length s.cT,.slice s.aS W.ss.length s.cS]
end Go.Proofs.YtdajkddgnfgijaaGreatDoor
end
