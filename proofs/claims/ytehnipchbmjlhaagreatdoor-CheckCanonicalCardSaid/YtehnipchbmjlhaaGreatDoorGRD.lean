/-
  Contract of the reader's block; of all that read statements.
  A declaration under way, in memory; contracts of the reader's size and initial.
  Contract of the reader's declaration.
-/
import Derived.Test.YtehnipchbmjlhaaGreatDoorGPrB4
import Derived.Deep.AppendLies
import Derived.Test.YtehnipchbmjlhaaGreatDoorGMB
import Derived.Deep.MidRow
set_option linter.unusedSimpArgs false
set_option linter.unusedVariables false
set_option maxHeartbeats 40000000
set_option maxRecDepth 1000000
section
namespace Go.Proofs.YtehnipchbmjlhaaGreatDoor
open Go.RowKit
open Md Pz
theorem UD:(Tryz.prog.info? 89).map (fun i=>(i.zero,i.size,i.bytes))=some (some (.agg lZ),11,176):=by kernel_rfl
theorem Yy: ∃i0,Tryz.prog.info? 89=some i0∧i0.zero=some (.agg lZ)∧i0.size=11∧i0.bytes=176:=info_parts UD
theorem Px (x:gB): ∀u ∈ gB.f x,u.oneCell'=true:=by
 intro u hu; simp [gB.f] at hu
 rcases hu with rfl | rfl | rfl | rfl | rfl | rfl | rfl | rfl | rfl | rfl | rfl <;> rfl
theorem JX: ∀l:aN,app l .nil=l
 | .nil=>rfl
 | .cons h b e r=>by show aN.cons h b e (app r .nil)=_; rw [JX r]
theorem I6 (x:gB) (s:aN): ∀l:List gB,app (jM l) (app (one x.h x.b x.e) s)=app (jM (l++[x])) s
 | []=>rfl
 | y ::r=>by show aN.cons y.h y.b y.e (app (jM r) _)=aN.cons y.h y.b y.e (app (jM (r++[x])) s); rw [I6 x s r]
theorem X7 {f:Nat} {ts:aA} (h:at' [125] ts=true):ps (f + 1) false ts= .ok .nil ts.tail:=by
 conv=>lhs; unfold ps
 rw [if_pos h]
theorem Zg {f:Nat} {ts r:aA} (h:at' [125] ts=false) (h1:ps f true ts= .no r):ps (f + 1) false ts= .no r:=by
 conv=>lhs; unfold ps
 rw [if_neg (by rw [h]; decide),h1]
theorem Zl {f:Nat} {ts r:aA} {s:aN} (h:at' [125] ts=false) (h1:ps f true ts= .ok s r):ps (f + 1) false ts=(ps f false r).map (app s):=by
 conv=>lhs; unfold ps
 rw [if_neg (by rw [h]; decide),h1]
def RX (R:Rp) (w:World) (f:Nat) (res:bn aN) (g:Nat) (v:Value) (wr:World):Prop:=
 ∃f' l rest,g=rest.length∧f'≤f∧3 * rest.length + 2 < f'∧res=(ps f' false rest).map (app (jM l))∧l.length + rest.length≤4096∧Bo w.heap.size wr v l∧(∀x ∈ l,oW x.h x.b x.e)∧aW wr R rest∧w.grownBy wr (some R.br)
theorem pF {B:Nat} {w w':World} {g:Option Nat} (h:w.grownBy w' g) (hg: ∀k,g=some k→B≤k) (hB:B≤w.heap.size):Below B w w':=
 ⟨h.os,h.tape,h.output,h.size,fun k hk=>h.block k (by omega) (fun e=>by have:=hg k e.symm; omega)⟩
theorem E8 {w w':World} {R:Rp} {rest:aA} {g:Option Nat} (h:aW w R rest) (hg:w.grownBy w' g) (h0: ∀k,g=some k→R.B0≤k∧k≠R.br):aW w' R rest:=by
 obtain ⟨pos,k1,k2,k3⟩:=h.blk
 exact ⟨⟨pos,k1,k2,(hg.block _ h.lt (fun e=>(h0 _ e.symm).2 rfl)).trans k3⟩,h.tok.below (pF hg (fun k hk=>(h0 k hk).1) (Nat.le_trans R.b0 (Nat.le_of_lt h.lt))),h.ok,h.tl⟩
theorem Dn {br:Nat} {w w1 w2:World} (h:w.grownBy w1 (some br)) (hb:Below w.heap.size w1 w2):w.grownBy w2 (some br):=
 ⟨hb.os.trans h.os,hb.tape.trans h.tape,hb.output.trans h.output,Nat.le_trans h.size hb.size,fun k hk hn=>(hb.block k hk).trans (h.block k hk hn)⟩
theorem Bd {α β:Type} {x:bn α} {f g:α→β} (h: ∀a,f a=g a):x.map f=x.map g:=by
 cases x with
 | ok a r=>show bn.ok (f a) r=_; rw [h]; rfl
 | no r=>rfl
theorem VL {R:Rp} {w wr:World} {v:Value} {l:List gB} {r:aA} (hl:l.length≤4096) (hg:Bo w.heap.size wr v l) (hok: ∀x ∈ l,oW x.h x.b x.e) (hr:aW wr R r) (hf:w.grownBy wr (some R.br)):
 Es R w (.ok (jM l) r) (.returned (.tuple #[v,.bool true])) wr:=by
 obtain ⟨ao,cap,e,hst⟩:=hg.says hok
 exact ⟨⟨ao,cap,by rw [e],by rw [sQ]; exact hl,hst⟩,hr,hf⟩
theorem Mt (R:Rp) (f:Nat) (ts:aA) (hf:3 * ts.length < f) (IJ:Hid (∀f' q,f' < f→3 * q.length + 1 < f'→ ∀w,aW w R q→Calls Tryz.prog 130 #[.pointer (some ⟨R.br,0,none⟩)] w (qd R w (ps f' true q)))):mJ R f ts:=by
 intro w hI
 have HI:=Lib.hid hI
 have YL:=Lib.hid hf
 clear hI hf
 cases h1:at' [123] ts
 ·rw [show blk f ts= .no ts by unfold blk; rw [if_neg (by rw [h1]; decide)]]
  clear IJ
  go_enter Tryz.func111,Tryz.ntmps111
  go_wp2_with fail
  refine (dK R _ _ ⟨#[123]⟩ rfl h1 HI.out).mono ?_
  rintro e w1 ⟨rfl,h2⟩
  have HB:=Lib.hid h2
  have HI1:=Lib.hid (HI.out.below h2)
  clear h2
  go_wp2_with fail
  go_ret2
  exact ⟨rfl,HI1.out,bK HB.out⟩
 ·rw [show blk f ts=ps f false ts.tail by unfold blk; rw [if_pos h1]]
  have bF:=Lib.hid (at_len h1)
  have BN:=Lib.hid HI.out.len
  have Rc:=Lib.hid HI.out.lt
  obtain ⟨res,je⟩: ∃res,Hid (ps f false ts.tail=res):=⟨_,Lib.hid rfl⟩
  rw [je.out]
  obtain ⟨i0,hi,hz0,hz1,hz2⟩:=Yy
  have jD:=Lib.hid (And.intro hi (And.intro hz0 (And.intro hz1 hz2)))
  clear hi hz0 hz1 hz2
  go_enter Tryz.func111,Tryz.ntmps111
  go_wp2_with fail
  refine (bW R _ _ ⟨#[123]⟩ rfl h1 HI.out).mono ?_
  rintro e w1 ⟨rfl,h2,h3⟩
  have tX:Hid (RX R w f res ts.tail.length (.slice none 0 0) w1):=Lib.hid ⟨f,[],ts.tail,rfl,Nat.le_refl _,by have:=YL.out; have:=bF.out; omega,by
   rw [← je.out]; cases ps f false ts.tail <;> rfl,by have:=bF.out; have:=BN.out; simp only [List.length_nil]; omega,Grow.nil _ _ _ _ _ _,by simp,h2,h3⟩
  clear h2 h3 HI je
  go_wp2_with fail
  go_loopg [4] ts.tail.length (fun gk v4 wr=>RX R w f res gk v4 wr)
  case atStart=>exact tX.out
  case round=>
   obtain ⟨f',l,rest,rfl,hf',hen,hres,hl,hg,hok,hr,hgr⟩:=hrel
   obtain ⟨f',rfl⟩: ∃n,f'=n + 1:=⟨f' - 1,by omega⟩
   have HF:=Lib.hid (And.intro hf' hen)
   have HL:=Lib.hid hl
   have HG:=Lib.hid hg
   have gV:=Lib.hid hok
   have HR:=Lib.hid hr
   have KO:=Lib.hid hgr
   have HS:=Lib.hid hres
   clear hf' hen hres hl hg hok hr hgr tX
   cases h4:at' [125] rest
   ·have HC:=Lib.hid (IJ.out f' rest (by have:=HF.out.1; omega) (by have:=HF.out.2; omega))
    have Hw:Hid (∀r,ps f' true rest= .no r→res= .no r):=Lib.hid (fun r h=>HS.out.trans (by rw [Zg h4 h]; rfl))
    have J2:Hid (∀s r,ps f' true rest= .ok s r→res=(ps f' false r).map (fun t=>app (jM l) (app s t))∧r.length < rest.length):=Lib.hid (fun s r h=>⟨HS.out.trans (by rw [Zl h4 h]; exact kr _ _ _),yw f' true rest s r h⟩)
    clear HS
    generalize ps f' true rest=res2 at *
    go_wp2_with fail
    refine (dK R _ _ ⟨#[125]⟩ rfl h4 HR.out).mono ?_
    rintro e w2 ⟨rfl,h2⟩
    have HG2:=Lib.hid (HG.out.next (aY h2))
    have HR2:=Lib.hid (HR.out.below h2)
    have EF:=Lib.hid (gD KO.out (bK h2))
    clear h2 HG HR KO
    go_wp2_with fail
    refine (HC.out _ HR2.out).mono ?_
    cases res2 with
    | no r=>
      have hs:=Hw.out r rfl
      subst hs
      clear Hw J2 HC
      rintro e w3 ⟨⟨x,rfl⟩,h2,h3⟩
      have HR3:=Lib.hid h2
      have Cg:=Lib.hid (gD EF.out h3)
      clear h2 h3
      unfold dx
      go_wp2_with fail
      go_ret2
      exact ⟨rfl,oC HR3.out _,pY Cg.out _⟩
    | ok s r=>
      have zl:=Lib.hid (J2.out s r rfl)
      clear Hw J2 HC
      rintro e w3 ⟨⟨x,rfl,rfl,hok,hst⟩,h2,h3⟩
      have tZ:=Lib.hid (HG2.out.next (nL h3 Rc.out))
      have HR3:=Lib.hid h2
      have Cg:=Lib.hid (gD EF.out h3)
      have Sr:=Lib.hid hst
      have HOX:=Lib.hid hok
      have jV:Hid (w2.heap.size≤w3.heap.size∧w.heap.size≤w2.heap.size):=Lib.hid ⟨h3.size,EF.out.size⟩
      have qY:=Lib.hid HG2.out.lt
      clear h2 h3 hst hok HG2 HR2 EF
      unfold dx
      go_upto_region 6 with fail
      obtain ⟨gs,hg⟩: ∃g,w3.heap.size=g:=⟨_,rfl⟩
      generalize hW:World.alloc w3 _=W4
      have Xk:Hid (Bo w.heap.size W4 u4 l):=Lib.hid (by rw [← hW]; exact tZ.out.next (aY (ah _ _)))
      have HR4:Hid (aW W4 R r):=Lib.hid (by rw [← hW]; exact oC HR3.out _)
      have Xd:Hid (w.grownBy W4 (some R.br)):=Lib.hid (by rw [← hW]; exact pY Cg.out _)
      have HX4:Hid (dB w2.heap.size W4 (gB.I x)):=Lib.hid (by rw [← hW]; exact Sr.out.next (aY (ah _ _)))
      have gy:Hid (W4.heap[gs]? =some (.cells (gB.f x).toArray 89 (0,0))):=Lib.hid (by rw [← hW,← hg]; exact heap_alloc_new _ _)
      rw [hg]
      clear hW hg tZ HR3 Cg Sr
      obtain ⟨d0,d1,d2,d3,d4,d5,d6,d7,d8,d9,mh⟩:(W4.cell? ⟨gs,0,none⟩=some (.int .i64 x.h.op)∧W4.cell? ⟨gs,1,none⟩=some (.int .i64 x.h.line)∧W4.cell? ⟨gs,2,none⟩=some (.string x.h.nm)∧W4.cell? ⟨gs,3,none⟩=some (.string x.h.arg)∧W4.cell? ⟨gs,4,none⟩=some (.slice x.s.dF x.h.idx.len x.s.bT)∧W4.cell? ⟨gs,5,none⟩=some (.int .i64 x.h.bD)∧W4.cell? ⟨gs,6,none⟩=some (.int .i64 x.h.xn)∧W4.cell? ⟨gs,7,none⟩=some (.string x.h.bC)∧W4.cell? ⟨gs,8,none⟩=some (.slice x.s.bS x.h.aL.len x.s.bf)∧W4.cell? ⟨gs,9,none⟩=some (.slice x.s.bG x.b.len x.s.aS)∧W4.cell? ⟨gs,10,none⟩=some (.slice x.s.dw x.e.len x.s.bR)):=⟨aG gy.out rfl,aG gy.out rfl,aG gy.out rfl,aG gy.out rfl,aG gy.out rfl,aG gy.out rfl,aG gy.out rfl,aG gy.out rfl,aG gy.out rfl,aG gy.out rfl,aG gy.out rfl⟩
      have oQ:=Lib.hid (Xk.out.next (aY (ah W4 (.cells (gB.f x).toArray 89))))
      have sD:=Lib.hid (mQ (heap_alloc_new W4 (.cells (gB.f x).toArray 89)))
      have Ta:Hid (w.heap.size≤W4.heap.size):=Lib.hid Xd.out.size
      obtain ⟨hi,hz0,hz1,hz2⟩:=jD.out
      have hbs:w.heap.size≤W4.heap.size + 1:=Nat.le_succ_of_le Ta.out
      have hkl:l.length + 1≤maxLen:=by have:=HL.out; unfold maxLen; omega
      have DX:(l.length + 1) * 176≤140737488355328:=by have:=HL.out; omega
      go_wp2_with (at_builtin; refine wpList_append_lies _ rfl _ _ 65 rfl w.heap.size 89 i0 _ 11 176 Tryz.underlying65 hi hz0 hz1 hz2 rfl (by decide) _ _ _ rfl oQ.out.own ⟨W4.heap.size,0,none⟩ 1 1 (gB.f x) rfl rfl sD.out (Px _) (by decide) hkl DX (by simpa using hbs) _ rfl ?_)
      clear hi hz0 hz1 hz2 d0 d1 d2 d3 d4 d5 d6 d7 d8 d9 mh
      intro g cap w5 hown hgr hmv hlt2
      have KM:Hid (fT w.heap.size u4.ownBlock (W4.alloc (.cells (gB.f x).toArray 89)) (gB.I x)):=Lib.hid (uS (HX4.out.next (aY (ah _ _))) jV.out.2 (fun k hk=>(qY.out k hk).2))
      have AJ:=Lib.hid (oQ.out.push KM.out rfl hown hgr (by simpa using hmv))
      have jE:Hid (Below w.heap.size (W4.alloc (.cells (gB.f x).toArray 89)) w5):=Lib.hid (pF hgr (fun k hk=>(qY.out k hk).1) (by simpa using hbs))
      have SL:Hid (aW w5 R r):=Lib.hid (E8 (oC HR4.out _) hgr (fun k hk=>by have h1:=(qY.out k hk).1; have h2:=Rc.out; have h3:=R.b0; omega))
      have EL:Hid (w.grownBy w5 (some R.br)):=Lib.hid (Dn (pY Xd.out _) jE.out)
      have ah9:Hid (∀y ∈ l++[x],oW y.h y.b y.e):=Lib.hid (fun y hy=>by
       rcases List.mem_append.1 hy with hy | hy
       ·exact gV.out y hy
       ·rw [List.mem_singleton.1 hy]; exact HOX.out)
      have nU:Hid (res=(ps f' false r).map (app (jM (l++[x])))):=Lib.hid (zl.out.1.trans (Bd (fun t=>I6 x t l)))
      have Wn:=Lib.hid zl.out.2
      clear hown hgr hmv hlt2 hbs hkl DX KM HX4 sD oQ jE zl
      go_wp2_with fail
      go_roundg r.length
      case measure=>exact Wn.out
      case rel=>exact ⟨f',l++[x],r,rfl,by have:=HF.out.1; omega,by have h1:=HF.out.2; have h2:=Wn.out; omega,nU.out,by have h1:=HL.out; have h2:=Wn.out; simp only [List.length_append,List.length_singleton]; omega,AJ.out,ah9.out,SL.out,EL.out⟩
   ·have hs:=HS.out.trans (by rw [X7 h4]; rfl:_=bn.ok (app (jM l) .nil) rest.tail)
    rw [JX] at hs
    subst hs
    clear HS
    go_wp2_with fail
    refine (bW R _ _ ⟨#[125]⟩ rfl h4 HR.out).mono ?_
    rintro e w2 ⟨rfl,h2,h3⟩
    have HG2:=Lib.hid (HG.out.next (nL h3 Rc.out))
    have HR2:=Lib.hid h2
    have EF:=Lib.hid (gD KO.out h3)
    clear h2 h3
    go_wp2_with fail
    go_ret2
    exact VL (by have:=HL.out; omega) HG2.out gV.out HR2.out EF.out
theorem NV (R:Rp): ∀f:Nat,(∀ts,3 * ts.length < f→mJ R f ts)∧(∀q,3 * q.length + 1 < f→ ∀w,aW w R q→Calls Tryz.prog 130 #[.pointer (some ⟨R.br,0,none⟩)] w (qd R w (ps f true q))):=by
 intro f
 induction f using Nat.strongRecOn with
 | ind f ih=>
   refine ⟨fun ts hf=>Mt R f ts hf (Lib.hid fun f' q h1 h2=>(ih f' h1).2 q h2),fun q hq w hI=> ?_⟩
   obtain ⟨f',rfl⟩: ∃n,f=n + 1:=⟨f - 1,by omega⟩
   exact Eb R f' q (Lib.hid fun r hr=>(ih f' (by omega)).1 r (by omega)) w hI
theorem Fh (R:Rp) (f:Nat) (ts:aA) (hf:3 * ts.length < f) (w:World) (hI:aW w R ts):
 Calls Tryz.prog 111 #[.pointer (some ⟨R.br,0,none⟩)] w (Es R w (blk f ts)):=(NV R f).1 ts hf w hI
end Go.Proofs.YtehnipchbmjlhaaGreatDoor
end
section
namespace Go.Proofs.YtehnipchbmjlhaaGreatDoor
open Go.RowKit
open Md Pz
structure Pd (R:Rp) (bd:Nat) (w:World) (d:De) (rest:aA):Prop where
 rd:aW w R rest
 ne:bd≠R.br
 b0:R.B0≤bd
 blk:w.heap[bd]? =some (.cells (iA d).toArray 62 (0,0))
 ok:d.Ok
section
variable {R:Rp} {bd:Nat} {w W W':World} {d:De} {rest rest':aA}
theorem Pd.lt (h:Pd R bd W d rest):bd < W.heap.size:=(Array.getElem?_eq_some_iff.1 h.blk).1
theorem Pd.then (h:Pd R bd W d rest) (h1:aW W' R rest') (h2:W.grownBy W' (some R.br)):Pd R bd W' d rest':=
 ⟨h1,h.ne,h.b0,(h2.block _ h.lt (by simp; exact h.ne)).trans h.blk,h.ok⟩
theorem Pd.below (h:Pd R bd W d rest) (hb:Below W.heap.size W W'):Pd R bd W' d rest:=h.then (h.rd.below hb) (bK hb)
theorem Pd.put (h:Pd R bd W d rest) (j:Nat) (v:Value) {y:De} (hy:(iA d).toArray.setIfInBounds j v=(iA y).toArray) (hok:y.Ok):Pd R bd (W.setCell ⟨bd,j,none⟩ v) y rest:=
 ⟨nO h.rd _ v h.b0 h.ne,h.ne,h.b0,by rw [bQ h.blk,hy],hok⟩
theorem Pd.nm (h:Pd R bd W d rest) (s:ByteArray) (hs:s.size≤maxLen):Pd R bd (W.setCell ⟨bd,2,none⟩ (.string s)) {d with nm:=s} rest:=
 h.put 2 _ rfl ⟨h.ok.1,h.ok.2.1,hs,h.ok.2.2.2⟩
theorem Pd.size (h:Pd R bd W d rest) (n:Int) (hn:aU n):Pd R bd (W.setCell ⟨bd,3,none⟩ (.int .i64 n)) {d with size:=n} rest:=
 h.put 3 _ rfl ⟨h.ok.1,h.ok.2.1,h.ok.2.2.1,hn,h.ok.2.2.2.2⟩
theorem Pd.init (h:Pd R bd W d rest) (n:Int) (hn:aU n):Pd R bd (W.setCell ⟨bd,4,none⟩ (.int .i64 n)) {d with init:=n} rest:=
 h.put 4 _ rfl ⟨h.ok.1,h.ok.2.1,h.ok.2.2.1,h.ok.2.2.2.1,hn,h.ok.2.2.2.2.2⟩
theorem Pd.on (h:Pd R bd W d rest) (s:ByteArray) (hs:s.size≤maxLen):Pd R bd (W.setCell ⟨bd,5,none⟩ (.string s)) {d with on:=s} rest:=
 h.put 5 _ rfl ⟨h.ok.1,h.ok.2.1,h.ok.2.2.1,h.ok.2.2.2.1,h.ok.2.2.2.2.1,hs⟩
theorem Pd.cell (h:Pd R bd W d rest) {j:Nat} {u:Value} (hu:(iA d).toArray[j]? =some u):W.cell? ⟨bd,j,none⟩=some u:=aG h.blk hu
theorem Pd.free (h:Pd R bd W d rest) (j:Nat):W.frozen? ⟨bd,j,none⟩=false:=aK h.blk
end
def NK (R:Rp) (bd:Nat) (w:World) (res:bn De) (e:Ending) (w':World):Prop:=
 match res with
 | .ok d r=>e= .returned (.bool true)∧Pd R bd w' d r∧Fr R.br bd w w'
 | .no r=>e= .returned (.bool false)∧(∃d,Pd R bd w' d r)∧Fr R.br bd w w'
theorem CZ {R:Rp} {bd:Nat} {w W:World} {res:bn De} {d:De} {r:aA} (e:res= .ok d r) (h:Pd R bd W d r) (hf:Fr R.br bd w W):NK R bd w res (.returned (.bool true)) W:=by subst e; exact ⟨rfl,h,hf⟩
theorem Dl {R:Rp} {bd:Nat} {w W:World} {res:bn De} {d:De} {r:aA} (e:res= .no r) (h:Pd R bd W d r) (hf:Fr R.br bd w W):NK R bd w res (.returned (.bool false)) W:=by subst e; exact ⟨rfl,⟨d,h⟩,hf⟩
theorem Fr.wC {br bs:Nat} {w w1 w2:World} (h:Fr br bs w w1) (k:w1.grownBy w2 (some br)):Fr br bs w w2:=h.trans (Fr.bZ k)
theorem aW.back {w1 w:World} {R:Rp} {q:aA} (h1:aW w1 R q) (hq:isNum q=true) (h:aW w R q.tail): ∃pos:Nat,(1≤pos∧pos≤4096)∧w.cell? ⟨R.br,1,none⟩=some (.int .i64 (pos:Int))∧w.frozen? ⟨R.br,1,none⟩=false∧
 Hid (aW (w.setCell ⟨R.br,1,none⟩ (.int .i64 ((pos:Int) - 1))) R q∧w.grownBy (w.setCell ⟨R.br,1,none⟩ (.int .i64 ((pos:Int) - 1))) (some R.br)):=by
 obtain ⟨p1,a1,a2,-⟩:=h1.blk
 obtain ⟨pos,b1,b2,b3⟩:=h.blk
 have hl:=Ki hq
 have e1:=congrArg List.length a2
 have e2:=congrArg List.length b2
 simp only [List.length_drop,List.length_tail] at e1 e2 hl
 have hp:pos=p1 + 1:=by omega
 have:=h.ok.2
 refine ⟨pos,⟨by omega,by omega⟩,aG b3 rfl,aK b3,Lib.hid ⟨⟨⟨p1,a1,a2,?_⟩,h.tok.below (dW (eF w ⟨R.br,1,none⟩ _) R.b0 (Nat.le_trans R.b0 (Nat.le_of_lt h.lt))),h.ok,h.tl⟩,eF w ⟨R.br,1,none⟩ _⟩⟩
 rw [bQ b3,show (pos:Int) - 1=(p1:Int) by omega]; rfl
theorem QV {d:De} {ts:aA} (h:at' [91] ts=false):kU d ts= .ok d ts:=by unfold kU; rw [if_neg (by rw [h]; decide)]
theorem Qs {d:De} {ts:aA} (h:at' [91] ts=true) (h1:isNum ts.tail=false):kU d ts= .no ts.tail:=by unfold kU; rw [if_pos h,if_neg (by rw [h1]; decide)]
theorem TQ {d:De} {ts:aA} (h:at' [91] ts=true) (h1:isNum ts.tail=true) (h2:(Tk.val (aF ts.tail) == 0)=true):kU d ts= .no ts.tail:=by unfold kU; rw [if_pos h,if_pos h1,if_pos h2]
theorem UR {d:De} {ts:aA} (h:at' [91] ts=true) (h1:isNum ts.tail=true) (h2:(Tk.val (aF ts.tail) == 0)=false):kU d ts=(need [93] ts.tail.tail).map fun _=> {d with size:=(Tk.val (aF ts.tail):Nat)} :=by unfold kU; rw [if_pos h,if_pos h1,if_neg (by rw [h2]; decide)]
theorem QG (R:Rp) (bd:Nat) (ts:aA) (d:De) (w:World) (hp:Pd R bd w d ts):
 Calls Tryz.prog 108 #[.pointer (some ⟨R.br,0,none⟩),.pointer (some ⟨bd,0,none⟩)] w (NK R bd w (kU d ts)):=by
 have HP:=Lib.hid hp
 clear hp
 cases h1:at' [91] ts
 ·have HE:=Lib.hid (QV (d:=d) h1)
  go_enter Tryz.func108,Tryz.ntmps108
  go_wp2_with fail
  refine (dK R _ _ ⟨#[91]⟩ rfl h1 HP.out.rd).mono ?_
  rintro e w1 ⟨rfl,h2⟩
  have dA:=Lib.hid (HP.out.below h2)
  have HF:=Lib.hid (Fr.bZ (br:=R.br) (bs:=bd) (bK h2))
  clear h2
  go_wp2_with fail
  go_ret
  exact CZ HE.out dA.out HF.out
 ·cases h2:isNum ts.tail
  ·have HE:=Lib.hid (Qs (d:=d) h1 h2)
   go_enter Tryz.func108,Tryz.ntmps108
   go_wp2_with fail
   refine (bW R _ _ ⟨#[91]⟩ rfl h1 HP.out.rd).mono ?_
   rintro e w1 ⟨rfl,k2,k3⟩
   have dA:=Lib.hid (HP.out.then k2 k3)
   have nR:=Lib.hid (Fr.bZ (bs:=bd) k3)
   clear k2 k3
   go_wp2_with fail
   refine (uM R _ _ h2 dA.out.rd).mono ?_
   rintro e w2 ⟨rfl,h3⟩
   have aT:=Lib.hid (dA.out.below h3)
   have eU:=Lib.hid (nR.out.wC (bK h3))
   clear h3
   go_wp2_with fail
   go_ret
   exact Dl HE.out aT.out eU.out
  ·cases h3:(Tk.val (aF ts.tail) == 0)
   ·have xZ:=Lib.hid (UR (d:=d) h1 h2 h3)
    have h3':(((Tk.val (aF ts.tail):Nat):Int) == 0)=false:=by rw [beq_eq_false_iff_ne] at h3 ⊢; omega
    have HV:Hid (aU ((Tk.val (aF ts.tail):Nat):Int)):=Lib.hid (by have:=DZ HP.out.rd.ts.tail h2; unfold aU; omega)
    go_enter Tryz.func108,Tryz.ntmps108
    go_wp2_with fail
    refine (bW R _ _ ⟨#[91]⟩ rfl h1 HP.out.rd).mono ?_
    rintro e w1 ⟨rfl,k2,k3⟩
    have dA:=Lib.hid (HP.out.then k2 k3)
    have nR:=Lib.hid (Fr.bZ (bs:=bd) k3)
    clear k2 k3
    go_wp2_with fail
    refine (xG R _ _ h2 dA.out.rd).mono ?_
    rintro e w2 ⟨rfl,k2,k3⟩
    have aT:=Lib.hid (dA.out.then k2 k3)
    have eU:=Lib.hid (nR.out.wC k3)
    clear k2 k3
    have c3:=aT.out.cell (j:=3) rfl
    have f3:=aT.out.free 3
    go_upto_region 10 with fail
    generalize hW:World.setCell w2 _ _=W
    have aR:Hid (Pd R bd W {d with size:=(Tk.val (aF ts.tail):Nat)} ts.tail.tail):=Lib.hid (by rw [← hW]; exact aT.out.size _ HV.out)
    have dD:Hid (Fr R.br bd w W):=Lib.hid (by rw [← hW]; exact eU.out.set _ _ (.inl rfl))
    clear hW c3 f3 aT eU
    cases h4:at' [93] ts.tail.tail
    ·have HE:=Lib.hid (xZ.out.trans (by rw [yE h4]:_=bn.map _ (bn.no ts.tail.tail)))
     go_wp2_with fail
     refine (dK R _ _ ⟨#[93]⟩ rfl h4 aR.out.rd).mono ?_
     rintro e w4 ⟨rfl,k2⟩
     have dV:=Lib.hid (aR.out.below k2)
     have fU:=Lib.hid (dD.out.wC (bK k2))
     clear k2
     go_wp2_with fail
     go_ret
     exact Dl HE.out dV.out fU.out
    ·have HE:=Lib.hid (xZ.out.trans (by rw [yG h4]:_=bn.map _ (bn.ok () ts.tail.tail.tail)))
     go_wp2_with fail
     refine (bW R _ _ ⟨#[93]⟩ rfl h4 aR.out.rd).mono ?_
     rintro e w4 ⟨rfl,k2,k3⟩
     have dV:=Lib.hid (aR.out.then k2 k3)
     have fU:=Lib.hid (dD.out.wC k3)
     clear k2 k3
     go_wp2_with fail
     go_ret
     exact CZ HE.out dV.out fU.out
   ·have HE:=Lib.hid (TQ (d:=d) h1 h2 h3)
    have hz:Tk.val (aF ts.tail)=0:=by simpa using h3
    go_enter Tryz.func108,Tryz.ntmps108
    go_wp2_with fail
    refine (bW R _ _ ⟨#[91]⟩ rfl h1 HP.out.rd).mono ?_
    rintro e w1 ⟨rfl,k2,k3⟩
    have dA:=Lib.hid (HP.out.then k2 k3)
    have nR:=Lib.hid (Fr.bZ (bs:=bd) k3)
    clear k2 k3
    go_wp2_with fail
    refine (xG R _ _ h2 dA.out.rd).mono ?_
    rw [hz]
    rintro e w2 ⟨rfl,k2,k3⟩
    obtain ⟨pos,⟨hp1,hp2⟩,q1,f1,HX⟩:=dA.out.rd.back h2 k2
    have aT:=Lib.hid (dA.out.then k2 k3)
    have eU:=Lib.hid (nR.out.wC k3)
    have hq1:(1:Int)≤(pos:Int):=by omega
    have hq2:(pos:Int)≤4096:=by omega
    clear k2 k3 hz
    go_wp2_with fail
    go_ret
    exact Dl HE.out (aT.out.then HX.out.1 HX.out.2) (eU.out.wC HX.out.2)
theorem TS {d:De} {ts:aA} (h:at' [61] ts=false):iQ d ts= .ok d ts:=by unfold iQ; rw [if_neg (by rw [h]; decide)]
theorem Qt {d:De} {ts:aA} (h:at' [61] ts=true) (h1:at' [45] ts.tail=true) (h2:isNum ts.tail.tail=false):iQ d ts= .no ts.tail.tail:=by unfold iQ; rw [if_pos h,if_pos h1,if_neg (by rw [h2]; decide)]
theorem Q8 {d:De} {ts:aA} (h:at' [61] ts=true) (h1:at' [45] ts.tail=true) (h2:isNum ts.tail.tail=true):iQ d ts= .ok {d with init:= -(Tk.val (aF ts.tail.tail):Nat)} ts.tail.tail.tail:=by unfold iQ; rw [if_pos h,if_pos h1,if_pos h2]
theorem Ro {d:De} {ts:aA} (h:at' [61] ts=true) (h1:at' [45] ts.tail=false) (h2:isNum ts.tail=false):iQ d ts= .no ts.tail:=by unfold iQ; rw [if_pos h,if_neg (by rw [h1]; decide),if_neg (by rw [h2]; decide)]
theorem PY {d:De} {ts:aA} (h:at' [61] ts=true) (h1:at' [45] ts.tail=false) (h2:isNum ts.tail=true):iQ d ts= .ok {d with init:=(Tk.val (aF ts.tail):Nat)} ts.tail.tail:=by unfold iQ; rw [if_pos h,if_neg (by rw [h1]; decide),if_pos h2]
theorem BU (R:Rp) (bd:Nat) (ts:aA) (d:De) (w:World) (hp:Pd R bd w d ts):
 Calls Tryz.prog 109 #[.pointer (some ⟨R.br,0,none⟩),.pointer (some ⟨bd,0,none⟩)] w (NK R bd w (iQ d ts)):=by
 have HP:=Lib.hid hp
 clear hp
 cases h1:at' [61] ts
 ·have HE:=Lib.hid (TS (d:=d) h1)
  go_enter Tryz.func109,Tryz.ntmps109
  go_wp2_with fail
  refine (dK R _ _ ⟨#[61]⟩ rfl h1 HP.out.rd).mono ?_
  rintro e w1 ⟨rfl,h2⟩
  have dA:=Lib.hid (HP.out.below h2)
  have HF:=Lib.hid (Fr.bZ (br:=R.br) (bs:=bd) (bK h2))
  clear h2
  go_wp2_with fail
  go_ret
  exact CZ HE.out dA.out HF.out
 ·cases hm:at' [45] ts.tail
  ·cases h2:isNum ts.tail
   ·have HE:=Lib.hid (Ro (d:=d) h1 hm h2)
    go_enter Tryz.func109,Tryz.ntmps109
    go_wp2_with fail
    refine (bW R _ _ ⟨#[61]⟩ rfl h1 HP.out.rd).mono ?_
    rintro e w1 ⟨rfl,k2,k3⟩
    have dA:=Lib.hid (HP.out.then k2 k3)
    have nR:=Lib.hid (Fr.bZ (bs:=bd) k3)
    clear k2 k3
    go_wp2_with fail
    refine (dK R _ _ ⟨#[45]⟩ rfl hm dA.out.rd).mono ?_
    rintro e w1 ⟨rfl,k2⟩
    have aT:=Lib.hid (dA.out.below k2)
    have eU:=Lib.hid (nR.out.wC (bK k2))
    clear k2
    go_wp2_with fail
    refine (uM R _ _ h2 aT.out.rd).mono ?_
    rintro e w2 ⟨rfl,k2⟩
    have aR:=Lib.hid (aT.out.below k2)
    have dD:=Lib.hid (eU.out.wC (bK k2))
    clear k2
    go_wp2_with fail
    go_ret
    exact Dl HE.out aR.out dD.out
   ·have HE:=Lib.hid (PY (d:=d) h1 hm h2)
    have HV:Hid (aU ((Tk.val (aF ts.tail):Nat):Int)):=Lib.hid (by have:=DZ HP.out.rd.ts.tail h2; unfold aU; omega)
    go_enter Tryz.func109,Tryz.ntmps109
    go_wp2_with fail
    refine (bW R _ _ ⟨#[61]⟩ rfl h1 HP.out.rd).mono ?_
    rintro e w1 ⟨rfl,k2,k3⟩
    have dA:=Lib.hid (HP.out.then k2 k3)
    have nR:=Lib.hid (Fr.bZ (bs:=bd) k3)
    clear k2 k3
    go_wp2_with fail
    refine (dK R _ _ ⟨#[45]⟩ rfl hm dA.out.rd).mono ?_
    rintro e w1 ⟨rfl,k2⟩
    have aT:=Lib.hid (dA.out.below k2)
    have eU:=Lib.hid (nR.out.wC (bK k2))
    clear k2
    go_wp2_with fail
    refine (xG R _ _ h2 aT.out.rd).mono ?_
    rintro e w2 ⟨rfl,k2,k3⟩
    have aR:=Lib.hid (aT.out.then k2 k3)
    have dD:=Lib.hid (eU.out.wC k3)
    clear k2 k3
    have c4:=aR.out.cell (j:=4) rfl
    have f4:=aR.out.free 4
    go_wp2_with fail
    go_ret
    exact CZ HE.out (aR.out.init _ HV.out) (dD.out.set _ _ (.inl rfl))
  ·cases h2:isNum ts.tail.tail
   ·have HE:=Lib.hid (Qt (d:=d) h1 hm h2)
    go_enter Tryz.func109,Tryz.ntmps109
    go_wp2_with fail
    refine (bW R _ _ ⟨#[61]⟩ rfl h1 HP.out.rd).mono ?_
    rintro e w1 ⟨rfl,k2,k3⟩
    have dA:=Lib.hid (HP.out.then k2 k3)
    have nR:=Lib.hid (Fr.bZ (bs:=bd) k3)
    clear k2 k3
    go_wp2_with fail
    refine (bW R _ _ ⟨#[45]⟩ rfl hm dA.out.rd).mono ?_
    rintro e w1 ⟨rfl,k2,k3⟩
    have aT:=Lib.hid (dA.out.then k2 k3)
    have eU:=Lib.hid (nR.out.wC k3)
    clear k2 k3
    go_wp2_with fail
    refine (uM R _ _ h2 aT.out.rd).mono ?_
    rintro e w2 ⟨rfl,k2⟩
    have aR:=Lib.hid (aT.out.below k2)
    have dD:=Lib.hid (eU.out.wC (bK k2))
    clear k2
    go_wp2_with fail
    go_ret
    exact Dl HE.out aR.out dD.out
   ·have HE:=Lib.hid (Q8 (d:=d) h1 hm h2)
    have hv:=DZ HP.out.rd.ts.tail.tail h2
    have HV:Hid (aU (-((Tk.val (aF ts.tail.tail):Nat):Int))):=Lib.hid (by unfold aU; omega)
    have hv0:(0:Int)≤((Tk.val (aF ts.tail.tail):Nat):Int):=by omega
    have hng:IntKind.i64.wrap (-((Tk.val (aF ts.tail.tail):Nat):Int))= -((Tk.val (aF ts.tail.tail):Nat):Int):=IntWalk.i64_in _ (by omega)
    have HNY:=Lib.hid (fun w hI=>xG R ts.tail.tail w h2 hI)
    generalize ((Tk.val (aF ts.tail.tail):Nat):Int)=n at *
    go_enter Tryz.func109,Tryz.ntmps109
    go_wp2_with fail
    refine (bW R _ _ ⟨#[61]⟩ rfl h1 HP.out.rd).mono ?_
    rintro e w1 ⟨rfl,k2,k3⟩
    have dA:=Lib.hid (HP.out.then k2 k3)
    have nR:=Lib.hid (Fr.bZ (bs:=bd) k3)
    clear k2 k3
    go_wp2_with fail
    refine (bW R _ _ ⟨#[45]⟩ rfl hm dA.out.rd).mono ?_
    rintro e w1 ⟨rfl,k2,k3⟩
    have aT:=Lib.hid (dA.out.then k2 k3)
    have eU:=Lib.hid (nR.out.wC k3)
    clear k2 k3
    go_wp2_with fail
    refine (HNY.out _ aT.out.rd).mono ?_
    rintro e w2 ⟨rfl,k2,k3⟩
    have aR:=Lib.hid (aT.out.then k2 k3)
    have dD:=Lib.hid (eU.out.wC k3)
    clear k2 k3
    have c4:=aR.out.cell (j:=4) rfl
    have f4:=aR.out.free 4
    go_wp2_with fail
    go_ret
    exact CZ HE.out (aR.out.init _ HV.out) (dD.out.set _ _ (.inl rfl))
end Go.Proofs.YtehnipchbmjlhaaGreatDoor
end
section
namespace Go.Proofs.YtehnipchbmjlhaaGreatDoor
open Go.RowKit
open Md Pz
theorem pG {w:World} {K:Act→Prop} {a:Act} (h:K a):dG w K [] a:=h
def vU (d:De):Value:= .agg #[.int .i64 d.kind,.int .i64 d.line,.string d.nm,.int .i64 d.size,.int .i64 d.init,.string d.on]
def Rj (R:Rp) (w:World) (res:bn De) (e:Ending) (w':World):Prop:=
 match res with
 | .ok d r=>(d.Ok∧e= .returned (.tuple #[vU d,.bool true]))∧aW w' R r∧w.grownBy w' (some R.br)
 | .no r=>(∃d,e= .returned (.tuple #[vU d,.bool false]))∧aW w' R r∧w.grownBy w' (some R.br)
def zF:Array Value:= #[.int .i64 0,.int .i64 0,.string ⟨#[]⟩,.int .i64 0,.int .i64 0,.string ⟨#[]⟩]
theorem Df:(Tryz.prog.info? 62).map (·.size)=some 6:=by kernel_rfl
theorem z6 {w:World} {b:Nat} {t:TypeId} (h:w.heap[b]? =some (.cells zF t (0,0))):
 (w.cell? ⟨b,0,none⟩=some (.int .i64 0)∧w.cell? ⟨b,1,none⟩=some (.int .i64 0)∧w.cell? ⟨b,2,none⟩=some (.string ⟨#[]⟩)∧w.cell? ⟨b,3,none⟩=some (.int .i64 0)∧w.cell? ⟨b,4,none⟩=some (.int .i64 0)∧w.cell? ⟨b,5,none⟩=some (.string ⟨#[]⟩))∧ ∀j,w.frozen? ⟨b,j,none⟩=false:=
 ⟨⟨aG h rfl,aG h rfl,aG h rfl,aG h rfl,aG h rfl,aG h rfl⟩,fun _=>aK h⟩
theorem Ra {R:Rp} {bd:Nat} {W:World} {d:De} {r:aA} (h:Pd R bd W d r):
 W.cell? ⟨bd,0,none⟩=some (.int .i64 d.kind)∧W.cell? ⟨bd,1,none⟩=some (.int .i64 d.line)∧W.cell? ⟨bd,2,none⟩=some (.string d.nm)∧W.cell? ⟨bd,3,none⟩=some (.int .i64 d.size)∧W.cell? ⟨bd,4,none⟩=some (.int .i64 d.init)∧W.cell? ⟨bd,5,none⟩=some (.string d.on):=
 ⟨h.cell rfl,h.cell rfl,h.cell rfl,h.cell rfl,h.cell rfl,h.cell rfl⟩
theorem WA {R:Rp} {w W:World} {d:De} {r:aA} {res:bn De} (e:res= .ok d r) (hok:d.Ok) (hr:aW W R r) (hg:w.grownBy W (some R.br)) (hl:R.br < w.heap.size):
 Rj R w res (.returned (.tuple #[vU d,.bool true])) (W.setCells w.heap.size 0 (iA d)):=by
 subst e
 exact ⟨⟨hok,rfl⟩,nC hr (bP _ _ _ _) (by have:=R.b0; omega) (by omega),jL hg _ _ _ (Nat.le_refl _)⟩
theorem GH {R:Rp} {w W:World} {d:De} {r:aA} {res:bn De} (e:res= .no r) (hr:aW W R r) (hg:w.grownBy W (some R.br)) (hl:R.br < w.heap.size):
 Rj R w res (.returned (.tuple #[vU d,.bool false])) (W.setCells w.heap.size 0 (iA d)):=by
 subst e
 exact ⟨⟨d,rfl⟩,nC hr (bP _ _ _ _) (by have:=R.b0; omega) (by omega),jL hg _ _ _ (Nat.le_refl _)⟩
def jH (d:De) (r:aA):bn De:=if d.kind == 1 then (kU d r).bind iQ else if d.kind == 2 then iQ d r else if d.kind == 5 then (gu r).map (fun o=> {d with on:=o}) else .ok d r
theorem Uv (ts:aA):pQ ts=((gu ts.tail).bind fun s r=>jH ⟨jc (aF ts),aZ ts,s,0,0,⟨#[]⟩⟩ r).close [59]:=rfl
theorem yx {br bd:Nat} {w w1 w2:World} (h:w.grownBy w1 (some br)) (hf:Fr br bd w1 w2) (hb:w.heap.size≤bd):w.grownBy w2 (some br):=
 ⟨hf.os.trans h.os,hf.tape.trans h.tape,hf.output.trans h.output,Nat.le_trans h.size hf.size,fun k hk hn=>(hf.block k (Nat.lt_of_lt_of_le hk h.size) (by simpa using hn) (by omega)).trans (h.block k hk hn)⟩
def jo (P Q S:World→Prop):List Bool→World→Prop
 | [x,y],w=>if y then S w else if x then Q w else P w
 | _,_=>False
section
variable {P Q S:World→Prop} {c:List Bool} {w w':World} {k l i:Nat}
theorem jo.bits (h:jo P Q S c w): ∃x y,c=[x,y]:=by
 match c,h with
 | [x,y],_=>exact ⟨x,y,rfl⟩
 | [],h=>exact h.elim
 | [_],h=>exact h.elim
 | _ ::_ ::_ ::_,h=>exact h.elim
theorem jo.skip (h1:(k == i)=false) (h2:(l == i)=false) (h:jo P Q S c w):jo P Q S (lg [k,l] c i) w:=by
 obtain ⟨x,y,rfl⟩:=h.bits
 simp only [lg,h1,h2,Bool.or_false]; exact h
theorem jo.fire (h1:(k == i)=true) (h2:(l == i)=false) (h:Q w):jo P Q S (lg [k,l] [false,false] i) w:=by
 simp only [lg,h1,h2,Bool.or_false,Bool.or_true]; exact h
theorem jo.last (h1:(k == i)=false) (h2:(l == i)=true) (h:S w):jo P Q S (lg [k,l] [true,false] i) w:=by
 simp only [lg,h1,h2,Bool.or_false,Bool.or_true]; exact h
theorem jo.gr {x:Bool} {T:World→Prop} (hp: ∀w,P w→T w) (hq: ∀w,Q w→T w) (h:jo P Q S [x,false] w):T w:=by
 cases x
 ·exact hp w h
 ·exact hq w h
end
theorem CX (R:Rp) (ts:aA) (w:World) (hI:aW w R ts) (hk:isDecl ts=true):
 Calls Tryz.prog 67 #[.pointer (some ⟨R.br,0,none⟩)] w (Rj R w (pQ ts)):=by
 have HI:=Lib.hid hI
 have HL:=Lib.hid (kg hI)
 have hlt:=hI.lt
 have ar3:=Lib.hid hlt
 obtain ⟨t0,r0,hr⟩: ∃t r,ts=t ::r:=by
  cases ts with
  | nil=>exact absurd hk (by simp [isDecl,nextK])
  | cons t r=>exact ⟨t,r,rfl⟩
 have mY:=Lib.hid hr
 have hd0:(jc (aF ts) == 0)=false:=by
  unfold isDecl at hk; simp only [Bool.and_eq_true,Bool.not_eq_true'] at hk; exact hk.2
 have HKD:=Lib.hid (Vm (aF ts) hd0)
 rw [Uv]
 clear hk hr hd0
 go_enter Tryz.func67,Tryz.ntmps67
 go_upto_region 1 with fail
 generalize hW:World.alloc w _=W0
 have HB0:Hid (Below w.heap.size w W0):=Lib.hid (by rw [← hW]; exact ah _ _)
 have HZ0:Hid (W0.heap[w.heap.size]? =some (.cells zF 62 (0,0))):=Lib.hid (by rw [← hW]; exact heap_alloc_new _ _)
 have HN:=Lib.hid (gN R ts W0 (HI.out.below HB0.out))
 unfold kG at HN
 clear hW hI
 go_wp2_with fail
 refine HN.out.mono ?_
 rintro e w1 ⟨rfl,h2⟩
 have HB1:=Lib.hid (HB0.out.trans (h2.mono HB0.out.size))
 have HZ1:=Lib.hid ((h2.block _ (Array.getElem?_eq_some_iff.1 HZ0.out).1).trans HZ0.out)
 clear h2 HN HB0 HZ0
 go_upto_region 2 with fail
 obtain ⟨gt,hg⟩: ∃g,w1.heap.size=g:=⟨_,rfl⟩
 rw [hg]
 generalize hW:World.alloc w1 _=W2
 have HB2:Hid (Below w.heap.size w W2):=Lib.hid (by rw [← hW]; exact HB1.out.alloc HB1.out.size _)
 have HT2:Hid (W2.heap[gt]? =some (.cells #[.int .i64 ((nextK ts:Nat):Int),.string (tx (aF ts)),.int .i64 ((aZ ts:Nat):Int)] 112 (0,0))):=Lib.hid (by rw [← hW,← hg]; exact heap_alloc_new _ _)
 have HZ2:Hid (W2.heap[w.heap.size]? =some (.cells zF 62 (0,0))):=Lib.hid (by rw [← hW]; exact (heap_alloc_old _ _ (Array.getElem?_eq_some_iff.1 HZ1.out).1).trans HZ1.out)
 have bF:Hid (R.br < w.heap.size∧w.heap.size < gt):=Lib.hid ⟨hlt,by rw [← hg]; exact (Array.getElem?_eq_some_iff.1 HZ1.out).1⟩
 obtain ⟨pos,hp,q0,q1,fq,HX⟩:=(HI.out.below HB2.out).open
 clear hW hg HB1 HZ1
 go_upto_region 3 with fail
 generalize hW:World.setCell W2 _ _=W3
 have HQ:Hid (aW W3 R ts.tail∧W2.grownBy W3 (some R.br)):=Lib.hid (by rw [← hW,mY.out]; exact HX.out t0 r0 mY.out)
 have Cg:Hid (w.grownBy W3 (some R.br)):=Lib.hid (gD (bK HB2.out) HQ.out.2)
 have HT3:=Lib.hid ((HQ.out.2.block _ (Array.getElem?_eq_some_iff.1 HT2.out).1 (by have:=bF.out; simp; omega)).trans HT2.out)
 have HZ3:=Lib.hid ((HQ.out.2.block _ (Array.getElem?_eq_some_iff.1 HZ2.out).1 (by have:=bF.out; simp; omega)).trans HZ2.out)
 have Yz:=Lib.hid HQ.out.1
 clear hW q0 q1 fq HX HB2 HT2 HZ2 HQ
 have K1: ∀w',Below W3.heap.size W3 w'→w'.cell? ⟨gt,1,none⟩=some (.string (tx (aF ts))):=fun w' h=>aG ((h.block _ (Array.getElem?_eq_some_iff.1 HT3.out).1).trans HT3.out) rfl
 have K2: ∀w',Below W3.heap.size W3 w'→w'.cell? ⟨gt,2,none⟩=some (.int .i64 ((aZ ts:Nat):Int)):=fun w' h=>aG ((h.block _ (Array.getElem?_eq_some_iff.1 HT3.out).1).trans HT3.out) rfl
 refine eY (by kernel_rfl) rfl ?_
 refine eB 0 7 [] [[],[0],[0,1],[],[3],[0,1,2,3,4],[],[0,1,2,3,4,5,6]] [[],[],[],[],[],[],[]] (fun _ w'=>Below W3.heap.size W3 w') (fun w w'=>Below w.heap.size w w') [16,17,18,19,20,21,5] rfl rfl (by rfl) (by kernel_rfl) (by kernel_rfl) (by kernel_rfl) (by kernel_rfl) (by kernel_rfl) (by rfl) (fun _=>Below.refl _ _) (by rfl) (below_drewN (Below.refl _ _) 1) ?_
 simp only [List.take_succ_cons,List.take_zero,List.drop_zero,List.drop_succ_cons,jY,List.map_cons,List.map_nil]
 apply aO.step
 case aB=>
  intro c A w' hok hC hO hD
  have e4:=hO 4 (by rfl)
  simp [Act.eval] at e4
  simp [au,aj,ak,Act.eval,Region.binds] at hD
  simp [go_sem,gd,Oper.wp,hD,e4]
  exact ay.mk (Below.refl _ _) hC (aj.mk _ _)
 apply aO.step
 case aB=>
  intro c A w' hok hC hO hD
  simp [au,aj,ak,Act.eval,Region.binds] at hD
  simp [go_sem,gd,Oper.wp,hD,K1,hC]
  exact ay.mk (Below.refl _ _) hC (aj.mk _ _)
 apply aO.step
 case aB=>
  intro c A w' hok hC hO hD
  simp [au,aj,ak,Act.eval,Region.binds] at hD
  simp [go_sem,gd,Oper.wp,hD]
  refine (AO (tx (aF ts)) (l:=aF ts) (EK _) w').mono ?_
  rintro e w2 ⟨rfl,rfl⟩
  exact ay.mk (Below.refl _ _) hC (aj.mk _ _)
 apply aO.step
 case aB=>
  intro c A w' hok hC hO hD
  have e4:=hO 4 (by rfl)
  simp [Act.eval] at e4
  simp [au,aj,ak,Act.eval,Region.binds] at hD
  simp [go_sem,gd,Oper.wp,hD,e4]
  exact ay.mk (Below.refl _ _) hC (aj.mk _ _)
 apply aO.step
 case aB=>
  intro c A w' hok hC hO hD
  simp [au,aj,ak,Act.eval,Region.binds] at hD
  simp [go_sem,gd,Oper.wp,hD,K2,hC]
  exact ay.mk (Below.refl _ _) hC (aj.mk _ _)
 simp only [List.nil_append,List.cons_append]
 apply aO.step
 case aB=>
  intro c A w' hok hC hO hD
  simp [au,aj,ak,Act.eval,Region.binds] at hD
  simp [go_sem,gd,Oper.wp,hD]
  exact ay.mk (Below.refl _ _) hC (aj.mk _ _)
 refine aO.some (fun v w'=> ∃db,v= .pointer (some ⟨db,0,none⟩)∧W3.heap.size≤db∧w'.heap[db]? =some (.cells zF 62 (0,0))) ?_ ?_ ?_
 ·rintro v w1 w' hle ⟨g,h1,h2,h3⟩
  exact ⟨g,h1,h2,(hle.block g (Array.getElem?_eq_some_iff.1 h3).1).trans h3⟩
 ·intro c A w' hok hC hO hD
  simp [go_sem,gd,Oper.wp]
  exact ay.mk (d:=_) (v:= .pointer (some ⟨_,0,none⟩)) (ah _ _) (hC.alloc hC.size _) ⟨_,rfl,hC.size,heap_alloc_new _ _⟩
 simp only [List.nil_append,List.cons_append]
 refine aO.done ?_
 intro wz dP
 simp only [List.drop_zero]
 intro v0 h0 v1 h1 v2 h2 v3 h3 v4 h4 v5 h5 v6 h6
 have h5':=Eq.symm (show v5=_ from h5)
 subst h5'
 obtain ⟨bd,rfl,Au,qO⟩:=h6
 clear h0 h1 h2 h3 h4 h5 K1 K2
 have HD0:Hid ((⟨jc (aF ts),((aZ ts:Nat):Int),⟨#[]⟩,0,0,⟨#[]⟩⟩:De).Ok):=Lib.hid ⟨by have:=HKD.out; show aU (jc _); unfold aU; omega,HL.out,Nat.zero_le _,sw,sw,Nat.zero_le _⟩
 have xu:Hid (Below W3.heap.size W3 wz):=Lib.hid dP
 have Fw:Hid (W3.heap.size≤bd∧wz.heap[bd]? =some (.cells zF 62 (0,0))):=Lib.hid ⟨Au,qO⟩
 clear dP Au
 refine pG ?_
 go_simp
 refine iD 7 [[],[0],[0,1],[],[3],[0,1,2,3,4],[],[0,1,2,3,4,5,6]] rfl rfl rfl rfl rfl (by kernel_rfl) (by kernel_rfl) (by kernel_rfl) ?_
 refine wp_store_mid _ _ _ (by rfl) bd 0 (iA ⟨jc (aF ts),((aZ ts:Nat):Int),⟨#[]⟩,0,0,⟨#[]⟩⟩).toArray (by rfl) (by rfl) (sZ qO (Nat.le_refl 6)) Df (by simp [iA,Value.oneCell']) ?_
 refine gL rfl ?_
 generalize qB:World.setCells wz bd 0 _=W5
 have mW:Hid (w.heap.size < bd∧R.br < bd):=Lib.hid (by have h1:=Fw.out.1; have h2:=(Array.getElem?_eq_some_iff.1 HZ3.out).1; have h3:=bF.out; omega)
 have AJ:Hid (wz.grownBy W5 (some bd)):=Lib.hid (by rw [← qB]; exact bP _ _ _ _)
 have jm:Hid (Pd R bd W5 ⟨jc (aF ts),((aZ ts:Nat):Int),⟨#[]⟩,0,0,⟨#[]⟩⟩ ts.tail):=Lib.hid ⟨nC (Yz.out.below xu.out) AJ.out (by have:=mW.out; have:=R.b0; omega) (by have:=mW.out; omega),by have:=mW.out; omega,by have:=mW.out; have:=R.b0; omega,by rw [← qB]; exact jS Fw.out.2 rfl,HD0.out⟩
 have EL:Hid (w.grownBy W5 (some R.br)):=Lib.hid (by rw [← qB]; exact jL (gD Cg.out (bK xu.out)) _ _ _ (Nat.le_of_lt mW.out.1))
 have kJ:Hid (W5.heap[w.heap.size]? =some (.cells zF 62 (0,0))):=Lib.hid ((AJ.out.block _ (Nat.lt_of_lt_of_le (Array.getElem?_eq_some_iff.1 HZ3.out).1 xu.out.size) (by have:=mW.out; simp; omega)).trans ((xu.out.block _ (Array.getElem?_eq_some_iff.1 HZ3.out).1).trans HZ3.out))
 clear qB AJ xu Fw qO HD0 Yz Cg HT3 HZ3
 go_simp
 cases hn:isName ts.tail
 ·have HE:Hid (((gu ts.tail).bind fun s r=>jH ⟨jc (aF ts),aZ ts,s,0,0,⟨#[]⟩⟩ r).close [59]= .no ts.tail):=Lib.hid (by rw [nD hn]; rfl)
  go_wp2_with fail
  refine (jZ R _ _ hn jm.out.rd).mono ?_
  rintro e w6 ⟨rfl,h2⟩
  have jF:=Lib.hid (jm.out.below h2)
  have I8:=Lib.hid (gD EL.out (bK h2))
  have Fx:=Lib.hid ((h2.block _ (Array.getElem?_eq_some_iff.1 kJ.out).1).trans kJ.out)
  clear h2 jm EL kJ
  have c2:=jF.out.cell (j:=2) rfl
  have f2:=jF.out.free 2
  go_upto_region 6 with fail
  generalize hW:World.setCell w6 _ _=W7
  have iO:Hid (Pd R bd W7 ⟨jc (aF ts),((aZ ts:Nat):Int),⟨#[]⟩,0,0,⟨#[]⟩⟩ ts.tail):=Lib.hid (by rw [← hW]; exact jF.out.nm ⟨#[]⟩ (Nat.zero_le _))
  have wS:Hid (w.grownBy W7 (some R.br)):=Lib.hid (by rw [← hW]; exact qC I8.out _ _ (Nat.le_of_lt mW.out.1))
  have zn:Hid (W7.heap[w.heap.size]? =some (.cells zF 62 (0,0))):=Lib.hid (by rw [← hW]; exact (bJ w6 _ _ rfl (by have:=mW.out; show bd≠_; omega)).trans Fx.out)
  clear hW jF I8 Fx c2 f2
  obtain ⟨⟨y0,y1,y2,y3,y4,y5⟩,fz⟩:=z6 zn.out
  have g0:=fz 0
  have g1:=fz 1
  have g2:=fz 2
  have g3:=fz 3
  have g4:=fz 4
  have g5:=fz 5
  obtain ⟨d0,d1,d2,d3,d4,d5⟩:=Ra iO.out
  clear fz
  go_wp2_with fail
  exact bodyPost_ret (v:= .tuple #[vU ⟨jc (aF ts),((aZ ts:Nat):Int),⟨#[]⟩,0,0,⟨#[]⟩⟩,.bool false]) (by simp [results,Tryz.results67,go_sem,vU,y0,y1,y2,y3,y4,y5]) rfl (GH HE.out iO.out.rd wS.out bF.out.1)
 ·have qA:Hid ((tx (aF ts.tail)).size≤maxLen):=Lib.hid (mH (mK jm.out.rd.ts hn))
  have HE:Hid (((gu ts.tail).bind fun s r=>jH ⟨jc (aF ts),aZ ts,s,0,0,⟨#[]⟩⟩ r).close [59]=(jH ⟨jc (aF ts),aZ ts,tx (aF ts.tail),0,0,⟨#[]⟩⟩ ts.tail.tail).close [59]):=Lib.hid (by rw [kK hn]; rfl)
  go_wp2_with fail
  refine (jf R _ _ hn jm.out.rd).mono ?_
  rintro e w6 ⟨rfl,h2,h3⟩
  have jF:=Lib.hid (jm.out.then h2 h3)
  have I8:=Lib.hid (gD EL.out h3)
  have Fx:=Lib.hid ((h3.block _ (Array.getElem?_eq_some_iff.1 kJ.out).1 (by have:=bF.out; simp; omega)).trans kJ.out)
  clear h2 h3 jm EL kJ
  have c2:=jF.out.cell (j:=2) rfl
  have f2:=jF.out.free 2
  go_upto_region 6 with fail
  generalize hW:World.setCell w6 _ _=W7
  have iO:Hid (Pd R bd W7 ⟨jc (aF ts),((aZ ts:Nat):Int),tx (aF ts.tail),0,0,⟨#[]⟩⟩ ts.tail.tail):=Lib.hid (by rw [← hW]; exact jF.out.nm _ qA.out)
  have wS:Hid (w.grownBy W7 (some R.br)):=Lib.hid (by rw [← hW]; exact qC I8.out _ _ (Nat.le_of_lt mW.out.1))
  have zn:Hid (W7.heap[w.heap.size]? =some (.cells zF 62 (0,0))):=Lib.hid (by rw [← hW]; exact (bJ w6 _ _ rfl (by have:=mW.out; show bd≠_; omega)).trans Fx.out)
  clear hW jF I8 Fx c2 f2
  obtain ⟨dd,XY⟩: ∃dd,Hid ((⟨jc (aF ts),((aZ ts:Nat):Int),tx (aF ts.tail),0,0,⟨#[]⟩⟩:De)=dd):=⟨_,Lib.hid rfl⟩
  have HKK:Hid (dd.kind=jc (aF ts)):=Lib.hid (by rw [← XY.out])
  rw [XY.out] at iO HE
  obtain ⟨r1,HR1⟩: ∃r1,Hid (ts.tail.tail=r1):=⟨_,Lib.hid rfl⟩
  rw [HR1.out] at iO HE
  have c0:W7.cell? ⟨bd,0,none⟩=some (.int .i64 dd.kind):=iO.out.cell rfl
  have HRK:=Lib.hid (show jH dd r1=jH dd r1 from rfl)
  go_upto_block 0 with fail
  go_cut [6] (fun s6 W'=> ∃d r2 b,s6= .bool b∧Pd R bd W' d r2∧w.grownBy W' (some R.br)∧W'.heap[w.heap.size]? =some (.cells zF 62 (0,0))∧jH dd r1=if b then .ok d r2 else .no r2)
  case first=>
   cases k1:(dd.kind == 1)
   ·cases k2:(dd.kind == 2)
    ·cases k5:(dd.kind == 5)
     ·have HQ:Hid (jH dd r1= .ok dd r1):=Lib.hid (by unfold jH; rw [if_neg (by rw [k1]; decide),if_neg (by rw [k2]; decide),if_neg (by rw [k5]; decide)])
      go_wp2_with fail
      go_meet
      exact ⟨dd,r1,true,rfl,iO.out,wS.out,zn.out,HQ.out⟩
     ·have HQ:Hid (jH dd r1=(gu r1).map (fun o=> {dd with on:=o})):=Lib.hid (by unfold jH; rw [if_neg (by rw [k1]; decide),if_neg (by rw [k2]; decide),if_pos k5])
      cases hm:isName r1
      ·go_wp2_with fail
       refine (jZ R _ _ hm iO.out.rd).mono ?_
       rintro e w8 ⟨rfl,h2⟩
       have lY:=Lib.hid (iO.out.below h2)
       have wY:=Lib.hid (gD wS.out (bK h2))
       have Dp:=Lib.hid ((h2.block _ (Array.getElem?_eq_some_iff.1 zn.out).1).trans zn.out)
       clear h2
       have c5:=lY.out.cell (j:=5) rfl
       have f5:=lY.out.free 5
       go_wp2_with fail
       go_meet
       exact ⟨_,r1,false,rfl,lY.out.on ⟨#[]⟩ (Nat.zero_le _),qC wY.out _ _ (Nat.le_of_lt mW.out.1),(bJ w8 _ _ rfl (by have:=mW.out; show bd≠_; omega)).trans Dp.out,HQ.out.trans (by rw [nD hm]; rfl)⟩
      ·have Er:Hid ((tx (aF r1)).size≤maxLen):=Lib.hid (mH (mK iO.out.rd.ts hm))
       go_wp2_with fail
       refine (jf R _ _ hm iO.out.rd).mono ?_
       rintro e w8 ⟨rfl,h2,h3⟩
       have lY:=Lib.hid (iO.out.then h2 h3)
       have wY:=Lib.hid (gD wS.out h3)
       have Dp:=Lib.hid ((h3.block _ (Array.getElem?_eq_some_iff.1 zn.out).1 (by have:=bF.out; simp; omega)).trans zn.out)
       clear h2 h3
       have c5:=lY.out.cell (j:=5) rfl
       have f5:=lY.out.free 5
       go_wp2_with fail
       go_meet
       exact ⟨_,r1.tail,true,rfl,lY.out.on _ Er.out,qC wY.out _ _ (Nat.le_of_lt mW.out.1),(bJ w8 _ _ rfl (by have:=mW.out; show bd≠_; omega)).trans Dp.out,HQ.out.trans (by rw [kK hm]; rfl)⟩
    ·have HQ:Hid (jH dd r1=iQ dd r1):=Lib.hid (by unfold jH; rw [if_neg (by rw [k1]; decide),if_pos k2])
     have HC:=Lib.hid (BU R bd r1 dd W7 iO.out)
     obtain ⟨Ct,vK⟩: ∃Ct,Hid (jH dd r1=Ct):=⟨_,Lib.hid rfl⟩
     rw [← HQ.out,vK.out] at HC
     clear HQ
     cases Ct with
     | no q=>
       go_wp2_with fail
       refine HC.out.mono ?_
       rintro e w9 ⟨rfl,⟨d',h2⟩,h3⟩
       have CU:=Lib.hid h2
       have AA:=Lib.hid h3
       clear h2 h3
       go_wp2_with fail
       go_meet
       exact ⟨d',q,false,rfl,CU.out,yx wS.out AA.out (Nat.le_of_lt mW.out.1),gM AA.out zn.out (by have:=bF.out; omega) (by have:=mW.out; omega),vK.out⟩
     | ok d' q=>
       go_wp2_with fail
       refine HC.out.mono ?_
       rintro e w9 ⟨rfl,h2,h3⟩
       have CU:=Lib.hid h2
       have AA:=Lib.hid h3
       clear h2 h3
       go_wp2_with fail
       go_meet
       exact ⟨d',q,true,rfl,CU.out,yx wS.out AA.out (Nat.le_of_lt mW.out.1),gM AA.out zn.out (by have:=bF.out; omega) (by have:=mW.out; omega),vK.out⟩
   ·have HQ:Hid (jH dd r1=(kU dd r1).bind iQ):=Lib.hid (by unfold jH; rw [if_pos k1])
    have HC:=Lib.hid (QG R bd r1 dd W7 iO.out)
    cases hs:kU dd r1 with
    | no q=>
      rw [hs] at HC HQ
      go_wp2_with fail
      refine HC.out.mono ?_
      rintro e w8 ⟨rfl,⟨d',h2⟩,h3⟩
      have lY:=Lib.hid h2
      have Ob:=Lib.hid h3
      clear h2 h3
      go_wp2_with fail
      go_meet
      exact ⟨d',q,false,rfl,lY.out,yx wS.out Ob.out (Nat.le_of_lt mW.out.1),gM Ob.out zn.out (by have:=bF.out; omega) (by have:=mW.out; omega),HQ.out⟩
    | ok d2 q=>
      rw [hs] at HC HQ
      have qp:Hid (jH dd r1=iQ d2 q):=Lib.hid HQ.out
      have HC2:Hid (∀W,Pd R bd W d2 q→Calls Tryz.prog 109 #[.pointer (some ⟨R.br,0,none⟩),.pointer (some ⟨bd,0,none⟩)] W (NK R bd W (iQ d2 q))):=Lib.hid (fun W h=>BU R bd q d2 W h)
      clear HQ hs
      go_wp2_with fail
      refine HC.out.mono ?_
      rintro e w8 ⟨rfl,h2,h3⟩
      have lY:=Lib.hid h2
      have wY:=Lib.hid (yx wS.out h3 (Nat.le_of_lt mW.out.1))
      have Dp:=Lib.hid (gM h3 zn.out (by have:=bF.out; omega) (by have:=mW.out; omega))
      clear h2 h3 HC
      have HC:=Lib.hid (HC2.out _ lY.out)
      have HQ:=qp
      clear qp HC2
      obtain ⟨Ct,vK⟩: ∃Ct,Hid (jH dd r1=Ct):=⟨_,Lib.hid rfl⟩
      rw [← HQ.out,vK.out] at HC
      clear HQ
      cases Ct with
      | no q=>
        go_wp2_with fail
        refine HC.out.mono ?_
        rintro e w9 ⟨rfl,⟨d',h2⟩,h3⟩
        have CU:=Lib.hid h2
        have AA:=Lib.hid h3
        clear h2 h3
        go_wp2_with fail
        go_meet
        exact ⟨d',q,false,rfl,CU.out,yx wY.out AA.out (Nat.le_of_lt mW.out.1),gM AA.out Dp.out (by have:=bF.out; omega) (by have:=mW.out; omega),vK.out⟩
      | ok d' q=>
        go_wp2_with fail
        refine HC.out.mono ?_
        rintro e w9 ⟨rfl,h2,h3⟩
        have CU:=Lib.hid h2
        have AA:=Lib.hid h3
        clear h2 h3
        go_wp2_with fail
        go_meet
        exact ⟨d',q,true,rfl,CU.out,yx wY.out AA.out (Nat.le_of_lt mW.out.1),gM AA.out Dp.out (by have:=bF.out; omega) (by have:=mW.out; omega),vK.out⟩
  obtain ⟨dz,rz,bz,rfl,hPd,hGr,hZ,ZH⟩:=hcut
  obtain ⟨W8,rfl⟩: ∃W:World,W=wc:=⟨_,rfl⟩
  have lY:=Lib.hid hPd
  have wY:=Lib.hid hGr
  have Dp:=Lib.hid hZ
  have Yb:=Lib.hid (HE.out.trans (congrArg (fun x=>bn.close [59] x) ZH))
  clear hPd hGr hZ ZH iO wS zn HRK c0
  have KD: ∀w',W8.grownBy w' (some R.br)→(w'.cell? ⟨bd,0,none⟩=some (.int .i64 dz.kind)∧w'.cell? ⟨bd,1,none⟩=some (.int .i64 dz.line)∧w'.cell? ⟨bd,2,none⟩=some (.string dz.nm)∧w'.cell? ⟨bd,3,none⟩=some (.int .i64 dz.size)∧w'.cell? ⟨bd,4,none⟩=some (.int .i64 dz.init)∧w'.cell? ⟨bd,5,none⟩=some (.string dz.on)):=fun w' h=>by
   have hb:=(h.block _ lY.out.lt (by simp; exact lY.out.ne)).trans lY.out.blk
   exact ⟨aG hb rfl,aG hb rfl,aG hb rfl,aG hb rfl,aG hb rfl,aG hb rfl⟩
  have Yc:Hid (aW W8 R rz):=Lib.hid lY.out.rd
  have e0: ∀w',W8.grownBy w' (some R.br)→w'.heap[w.heap.size]? =some (.cells zF 62 (0,0)):=fun w' h=>(h.block _ (Array.getElem?_eq_some_iff.1 Dp.out).1 (by have:=bF.out; simp; omega)).trans Dp.out
  have JR:=Lib.hid e0
  clear e0
  cases bz
  ·have nM:Hid (((gu ts.tail).bind fun s r=>jH ⟨jc (aF ts),aZ ts,s,0,0,⟨#[]⟩⟩ r).close [59]= .no rz):=Lib.hid Yb.out
   go_upto_region 15 with fail
   refine eY (by kernel_rfl) rfl ?_
   refine eB 0 8 [4,6] [[],[],[1],[1,2],[1,2,3],[1,2,3,4],[0,1,2,3,4],[0,1,2,3,4,5,6]] [[none,some false],[some false,some false],[some false,some false],[some false,some false],[some false,some false],[some true,none],[some true,some false],[some true,some true]] (jo (fun w'=>aW w' R rz∧W8.grownBy w' (some R.br)) (fun w'=>aW w' R rz∧W8.grownBy w' (some R.br)) (fun w'=> ∃w2,(aW w2 R rz∧W8.grownBy w2 (some R.br))∧w'=w2.setCells w.heap.size 0 (iA dz))) (fun _ _=>True) [53,54,55,56,57,58,3] rfl rfl (by rfl) (by kernel_rfl) (by kernel_rfl) (by kernel_rfl) (by kernel_rfl) (by kernel_rfl) (by rfl) (fun _=>trivial) (by rfl) ⟨Yc.out.below (below_drewN (Below.refl _ _) 1),bK (below_drewN (Below.refl _ _) 1)⟩ ?_
   simp only [List.take_succ_cons,List.take_zero,List.drop_zero,List.drop_succ_cons,jY,List.map_cons,List.map_nil]
   apply aO.step
   case aB=>
    intro c A w' hok hC hO hD
    obtain ⟨x,y,rfl⟩:=hC.bits
    obtain ⟨rfl,-⟩:=hok
    obtain ⟨d0,d1,d2,d3,d4,d5⟩:=KD w' (hC.gr (fun _ h=>h.2) (fun _ h=>h.2))
    have e5:=hO 5 (by rfl)
    simp [Act.eval] at e5
    simp [au,aj,ak,Act.eval,Region.binds] at hD
    simp [go_sem,gd,Oper.wp,e5,d0,d1,d2,d3,d4,d5]
    exact ay.mk trivial (jo.skip (by rfl) (by rfl) hC) (aj.mk _ _)
   apply aO.step
   case aB=>
    intro c A w' hok hC hO hD
    have e6:=hO 6 (by rfl)
    simp [Act.eval] at e6
    simp [au,aj,ak,Act.eval,Region.binds] at hD
    simp [go_sem,gd,Oper.wp,hD,e6]
    exact ay.mk trivial (jo.skip (by rfl) (by rfl) hC) (aj.mk _ _)
   apply aO.step
   case aB=>
    intro c A w' hok hC hO hD
    simp [au,aj,ak,Act.eval,Region.binds] at hD
    simp [go_sem,gd,Oper.wp,hD]
    exact ay.mk trivial (jo.skip (by rfl) (by rfl) hC) (aj.mk _ _)
   refine aO.step (v:=undef) ?_ ?_
   ·intro c A w' hok hC hO hD
    simp [au,aj,ak,Act.eval,Region.binds] at hD
    simp [gd,Act.eval,hD]
    exact ⟨(jo.skip (by rfl) (by rfl) hC),aj.mk _ _⟩
   refine aO.step (v:=undef) ?_ ?_
   ·intro c A w' hok hC hO hD
    obtain ⟨x,y,rfl⟩:=hC.bits
    obtain ⟨rfl,rfl,-⟩:=hok
    simp [au,aj,ak,Act.eval,Region.binds] at hD
    simp [gd,Act.eval,hD]
    exact ⟨jo.fire (by rfl) (by rfl) hC,aj.mk _ _⟩
   simp only [List.nil_append,List.cons_append]
   apply aO.step
   case aB=>
    intro c A w' hok hC hO hD
    simp [au,aj,ak,Act.eval,Region.binds] at hD
    simp [go_sem,gd,Oper.wp,hD]
    exact ay.mk trivial (jo.skip (by rfl) (by rfl) hC) (aj.mk _ _)
   refine aO.some (fun _ _=>True) (fun _ _ _ _ _=>trivial) ?_ ?_
   ·intro c A w' hok hC hO hD
    obtain ⟨x,y,rfl⟩:=hC.bits
    obtain ⟨rfl,rfl,-⟩:=hok
    have e2:=hO 2 (by rfl)
    simp [Act.eval] at e2
    simp [au,aj,ak,Act.eval,Region.binds] at hD
    simp only [gd,if_true]
    refine wp_store_mid _ _ _ (by rfl) w.heap.size 0 (iA dz).toArray (by simp [Act.eval,e2]) (by simp [Act.eval,hD,iA]) (sZ (JR.out w' hC.2) (Nat.le_refl 6)) Df (by simp [iA,Value.oneCell']) ?_
    exact ay.KS trivial (jo.last (by rfl) (by rfl) ⟨w',hC,rfl⟩) trivial
   apply aO.step
   case aB=>
    intro c A w' hok hC hO hD
    simp [au,aj,ak,Act.eval,Region.binds] at hD
    simp [go_sem,gd,Oper.wp,hD]
    exact ay.mk trivial (jo.skip (by rfl) (by rfl) hC) (aj.mk _ _)
   try simp only [List.nil_append,List.cons_append]
   refine aO.done ?_
   intro w9 FK
   try simp only [List.drop_succ_cons,List.drop_zero]
   intro x0 h0 x1 h1 x2 h2 x3 h3 x4 h4 x5 h5 x6 h6 x7 h7
   have N8:=Eq.symm (show x7=_ from h7)
   subst N8
   clear h0 h1 h2 h3 h4 h5 h6 h7
   refine pG ?_
   refine gL rfl ?_
   obtain ⟨w2,hw2,vV⟩: ∃w2,(aW w2 R _∧W8.grownBy w2 (some R.br))∧w9=w2.setCells w.heap.size 0 (iA dz):=FK
   have iW:w9.heap[w.heap.size]? =some (.cells (iA dz).toArray 62 (0,0)):=by rw [vV]; exact jS (JR.out w2 hw2.2) rfl
   have OE:=Lib.hid vV
   have y0:w9.cell? ⟨w.heap.size,0,none⟩=some (.int .i64 dz.kind):=aG iW rfl
   have y1:w9.cell? ⟨w.heap.size,1,none⟩=some (.int .i64 dz.line):=aG iW rfl
   have y2:w9.cell? ⟨w.heap.size,2,none⟩=some (.string dz.nm):=aG iW rfl
   have y3:w9.cell? ⟨w.heap.size,3,none⟩=some (.int .i64 dz.size):=aG iW rfl
   have y4:w9.cell? ⟨w.heap.size,4,none⟩=some (.int .i64 dz.init):=aG iW rfl
   have y5:w9.cell? ⟨w.heap.size,5,none⟩=some (.string dz.on):=aG iW rfl
   have FZ:=Lib.hid (GH (d:=dz) nM.out hw2.1 (gD wY.out hw2.2) bF.out.1)
   rw [← vV] at FZ
   clear vV iW KD
   go_simp
   go_wp2_with fail
   exact bodyPost_ret (v:= .tuple #[vU dz,.bool false]) (by simp [results,Tryz.results67,go_sem,vU,y0,y1,y2,y3,y4,y5]) rfl FZ.out
  ·cases h4:at' [59] rz
   ·have nM:Hid (((gu ts.tail).bind fun s r=>jH ⟨jc (aF ts),aZ ts,s,0,0,⟨#[]⟩⟩ r).close [59]= .no rz):=Lib.hid (Yb.out.trans (nk h4))
    go_upto_region 15 with fail
    refine eY (by kernel_rfl) rfl ?_
    refine eB 0 8 [4,6] [[],[],[1],[1,2],[1,2,3],[1,2,3,4],[0,1,2,3,4],[0,1,2,3,4,5,6]] [[none,some false],[some false,some false],[some false,some false],[some false,some false],[some false,some false],[some true,none],[some true,some false],[some true,some true]] (jo (fun w'=>aW w' R rz∧W8.grownBy w' (some R.br)) (fun w'=>aW w' R rz∧W8.grownBy w' (some R.br)) (fun w'=> ∃w2,(aW w2 R rz∧W8.grownBy w2 (some R.br))∧w'=w2.setCells w.heap.size 0 (iA dz))) (fun _ _=>True) [53,54,55,56,57,58,3] rfl rfl (by rfl) (by kernel_rfl) (by kernel_rfl) (by kernel_rfl) (by kernel_rfl) (by kernel_rfl) (by rfl) (fun _=>trivial) (by rfl) ⟨Yc.out.below (below_drewN (Below.refl _ _) 1),bK (below_drewN (Below.refl _ _) 1)⟩ ?_
    simp only [List.take_succ_cons,List.take_zero,List.drop_zero,List.drop_succ_cons,jY,List.map_cons,List.map_nil]
    apply aO.step
    case aB=>
     intro c A w' hok hC hO hD
     obtain ⟨x,y,rfl⟩:=hC.bits
     obtain ⟨rfl,-⟩:=hok
     obtain ⟨d0,d1,d2,d3,d4,d5⟩:=KD w' (hC.gr (fun _ h=>h.2) (fun _ h=>h.2))
     have e5:=hO 5 (by rfl)
     simp [Act.eval] at e5
     simp [au,aj,ak,Act.eval,Region.binds] at hD
     simp [go_sem,gd,Oper.wp,e5,d0,d1,d2,d3,d4,d5]
     exact ay.mk trivial (jo.skip (by rfl) (by rfl) hC) (aj.mk _ _)
    apply aO.step
    case aB=>
     intro c A w' hok hC hO hD
     have e6:=hO 6 (by rfl)
     simp [Act.eval] at e6
     simp [au,aj,ak,Act.eval,Region.binds] at hD
     simp [go_sem,gd,Oper.wp,hD,e6]
     exact ay.mk trivial (jo.skip (by rfl) (by rfl) hC) (aj.mk _ _)
    apply aO.step
    case aB=>
     intro c A w' hok hC hO hD
     simp [au,aj,ak,Act.eval,Region.binds] at hD
     simp [go_sem,gd,Oper.wp,hD]
     exact ay.mk trivial (jo.skip (by rfl) (by rfl) hC) (aj.mk _ _)
    apply aO.step
    case aB=>
     intro c A w' hok hC hO hD
     have e0:=hO 0 (by rfl)
     simp [Act.eval] at e0
     simp [au,aj,ak,Act.eval,Region.binds] at hD
     simp [go_sem,gd,Oper.wp,hD,e0]
     exact ay.mk trivial (jo.skip (by rfl) (by rfl) hC) (aj.mk _ _)
    apply aO.step
    case aB=>
     intro c A w' hok hC hO hD
     obtain ⟨x,y,rfl⟩:=hC.bits
     obtain ⟨rfl,rfl,-⟩:=hok
     simp [au,aj,ak,Act.eval,Region.binds] at hD
     simp [go_sem,gd,Oper.wp,hD]
     refine (dK R _ _ ⟨#[59]⟩ rfl h4 hC.1).mono ?_
     rintro e w3 ⟨rfl,k2⟩
     exact ay.mk trivial (jo.fire (by rfl) (by rfl) ⟨hC.1.below k2,gD hC.2 (bK k2)⟩) (aj.mk _ _)
    simp only [List.nil_append,List.cons_append]
    apply aO.step
    case aB=>
     intro c A w' hok hC hO hD
     simp [au,aj,ak,Act.eval,Region.binds] at hD
     simp [go_sem,gd,Oper.wp,hD]
     exact ay.mk trivial (jo.skip (by rfl) (by rfl) hC) (aj.mk _ _)
    refine aO.some (fun _ _=>True) (fun _ _ _ _ _=>trivial) ?_ ?_
    ·intro c A w' hok hC hO hD
     obtain ⟨x,y,rfl⟩:=hC.bits
     obtain ⟨rfl,rfl,-⟩:=hok
     have e2:=hO 2 (by rfl)
     simp [Act.eval] at e2
     simp [au,aj,ak,Act.eval,Region.binds] at hD
     simp only [gd,if_true]
     refine wp_store_mid _ _ _ (by rfl) w.heap.size 0 (iA dz).toArray (by simp [Act.eval,e2]) (by simp [Act.eval,hD,iA]) (sZ (JR.out w' hC.2) (Nat.le_refl 6)) Df (by simp [iA,Value.oneCell']) ?_
     exact ay.KS trivial (jo.last (by rfl) (by rfl) ⟨w',hC,rfl⟩) trivial
    apply aO.step
    case aB=>
     intro c A w' hok hC hO hD
     simp [au,aj,ak,Act.eval,Region.binds] at hD
     simp [go_sem,gd,Oper.wp,hD]
     exact ay.mk trivial (jo.skip (by rfl) (by rfl) hC) (aj.mk _ _)
    try simp only [List.nil_append,List.cons_append]
    refine aO.done ?_
    intro w9 FK
    try simp only [List.drop_succ_cons,List.drop_zero]
    intro x0 h0 x1 h1 x2 h2 x3 h3 x4 h4 x5 h5 x6 h6 x7 h7
    have N8:=Eq.symm (show x7=_ from h7)
    subst N8
    clear h0 h1 h2 h3 h4 h5 h6 h7
    refine pG ?_
    refine gL rfl ?_
    obtain ⟨w2,hw2,vV⟩: ∃w2,(aW w2 R _∧W8.grownBy w2 (some R.br))∧w9=w2.setCells w.heap.size 0 (iA dz):=FK
    have iW:w9.heap[w.heap.size]? =some (.cells (iA dz).toArray 62 (0,0)):=by rw [vV]; exact jS (JR.out w2 hw2.2) rfl
    have OE:=Lib.hid vV
    have y0:w9.cell? ⟨w.heap.size,0,none⟩=some (.int .i64 dz.kind):=aG iW rfl
    have y1:w9.cell? ⟨w.heap.size,1,none⟩=some (.int .i64 dz.line):=aG iW rfl
    have y2:w9.cell? ⟨w.heap.size,2,none⟩=some (.string dz.nm):=aG iW rfl
    have y3:w9.cell? ⟨w.heap.size,3,none⟩=some (.int .i64 dz.size):=aG iW rfl
    have y4:w9.cell? ⟨w.heap.size,4,none⟩=some (.int .i64 dz.init):=aG iW rfl
    have y5:w9.cell? ⟨w.heap.size,5,none⟩=some (.string dz.on):=aG iW rfl
    have FZ:=Lib.hid (GH (d:=dz) nM.out hw2.1 (gD wY.out hw2.2) bF.out.1)
    rw [← vV] at FZ
    clear vV iW KD
    go_simp
    go_wp2_with fail
    exact bodyPost_ret (v:= .tuple #[vU dz,.bool false]) (by simp [results,Tryz.results67,go_sem,vU,y0,y1,y2,y3,y4,y5]) rfl FZ.out
   ·have nM:Hid (((gu ts.tail).bind fun s r=>jH ⟨jc (aF ts),aZ ts,s,0,0,⟨#[]⟩⟩ r).close [59]= .ok dz rz.tail):=Lib.hid (Yb.out.trans (nI h4))
    go_upto_region 15 with fail
    refine eY (by kernel_rfl) rfl ?_
    refine eB 0 8 [4,6] [[],[],[1],[1,2],[1,2,3],[1,2,3,4],[0,1,2,3,4],[0,1,2,3,4,5,6]] [[none,some false],[some false,some false],[some false,some false],[some false,some false],[some false,some false],[some true,none],[some true,some false],[some true,some true]] (jo (fun w'=>aW w' R rz∧W8.grownBy w' (some R.br)) (fun w'=>aW w' R rz.tail∧W8.grownBy w' (some R.br)) (fun w'=> ∃w2,(aW w2 R rz.tail∧W8.grownBy w2 (some R.br))∧w'=w2.setCells w.heap.size 0 (iA dz))) (fun _ _=>True) [53,54,55,56,57,58,3] rfl rfl (by rfl) (by kernel_rfl) (by kernel_rfl) (by kernel_rfl) (by kernel_rfl) (by kernel_rfl) (by rfl) (fun _=>trivial) (by rfl) ⟨Yc.out.below (below_drewN (Below.refl _ _) 1),bK (below_drewN (Below.refl _ _) 1)⟩ ?_
    simp only [List.take_succ_cons,List.take_zero,List.drop_zero,List.drop_succ_cons,jY,List.map_cons,List.map_nil]
    apply aO.step
    case aB=>
     intro c A w' hok hC hO hD
     obtain ⟨x,y,rfl⟩:=hC.bits
     obtain ⟨rfl,-⟩:=hok
     obtain ⟨d0,d1,d2,d3,d4,d5⟩:=KD w' (hC.gr (fun _ h=>h.2) (fun _ h=>h.2))
     have e5:=hO 5 (by rfl)
     simp [Act.eval] at e5
     simp [au,aj,ak,Act.eval,Region.binds] at hD
     simp [go_sem,gd,Oper.wp,e5,d0,d1,d2,d3,d4,d5]
     exact ay.mk trivial (jo.skip (by rfl) (by rfl) hC) (aj.mk _ _)
    apply aO.step
    case aB=>
     intro c A w' hok hC hO hD
     have e6:=hO 6 (by rfl)
     simp [Act.eval] at e6
     simp [au,aj,ak,Act.eval,Region.binds] at hD
     simp [go_sem,gd,Oper.wp,hD,e6]
     exact ay.mk trivial (jo.skip (by rfl) (by rfl) hC) (aj.mk _ _)
    apply aO.step
    case aB=>
     intro c A w' hok hC hO hD
     simp [au,aj,ak,Act.eval,Region.binds] at hD
     simp [go_sem,gd,Oper.wp,hD]
     exact ay.mk trivial (jo.skip (by rfl) (by rfl) hC) (aj.mk _ _)
    apply aO.step
    case aB=>
     intro c A w' hok hC hO hD
     have e0:=hO 0 (by rfl)
     simp [Act.eval] at e0
     simp [au,aj,ak,Act.eval,Region.binds] at hD
     simp [go_sem,gd,Oper.wp,hD,e0]
     exact ay.mk trivial (jo.skip (by rfl) (by rfl) hC) (aj.mk _ _)
    apply aO.step
    case aB=>
     intro c A w' hok hC hO hD
     obtain ⟨x,y,rfl⟩:=hC.bits
     obtain ⟨rfl,rfl,-⟩:=hok
     simp [au,aj,ak,Act.eval,Region.binds] at hD
     simp [go_sem,gd,Oper.wp,hD]
     refine (bW R _ _ ⟨#[59]⟩ rfl h4 hC.1).mono ?_
     rintro e w3 ⟨rfl,k2,k3⟩
     exact ay.mk trivial (jo.fire (by rfl) (by rfl) ⟨k2,gD hC.2 k3⟩) (aj.mk _ _)
    simp only [List.nil_append,List.cons_append]
    apply aO.step
    case aB=>
     intro c A w' hok hC hO hD
     simp [au,aj,ak,Act.eval,Region.binds] at hD
     simp [go_sem,gd,Oper.wp,hD]
     exact ay.mk trivial (jo.skip (by rfl) (by rfl) hC) (aj.mk _ _)
    refine aO.some (fun _ _=>True) (fun _ _ _ _ _=>trivial) ?_ ?_
    ·intro c A w' hok hC hO hD
     obtain ⟨x,y,rfl⟩:=hC.bits
     obtain ⟨rfl,rfl,-⟩:=hok
     have e2:=hO 2 (by rfl)
     simp [Act.eval] at e2
     simp [au,aj,ak,Act.eval,Region.binds] at hD
     simp only [gd,if_true]
     refine wp_store_mid _ _ _ (by rfl) w.heap.size 0 (iA dz).toArray (by simp [Act.eval,e2]) (by simp [Act.eval,hD,iA]) (sZ (JR.out w' hC.2) (Nat.le_refl 6)) Df (by simp [iA,Value.oneCell']) ?_
     exact ay.KS trivial (jo.last (by rfl) (by rfl) ⟨w',hC,rfl⟩) trivial
    apply aO.step
    case aB=>
     intro c A w' hok hC hO hD
     simp [au,aj,ak,Act.eval,Region.binds] at hD
     simp [go_sem,gd,Oper.wp,hD]
     exact ay.mk trivial (jo.skip (by rfl) (by rfl) hC) (aj.mk _ _)
    try simp only [List.nil_append,List.cons_append]
    refine aO.done ?_
    intro w9 FK
    try simp only [List.drop_succ_cons,List.drop_zero]
    intro x0 h0 x1 h1 x2 h2 x3 h3 x4 h4 x5 h5 x6 h6 x7 h7
    have N8:=Eq.symm (show x7=_ from h7)
    subst N8
    clear h0 h1 h2 h3 h4 h5 h6 h7
    refine pG ?_
    refine gL rfl ?_
    obtain ⟨w2,hw2,vV⟩: ∃w2,(aW w2 R _∧W8.grownBy w2 (some R.br))∧w9=w2.setCells w.heap.size 0 (iA dz):=FK
    have iW:w9.heap[w.heap.size]? =some (.cells (iA dz).toArray 62 (0,0)):=by rw [vV]; exact jS (JR.out w2 hw2.2) rfl
    have OE:=Lib.hid vV
    have y0:w9.cell? ⟨w.heap.size,0,none⟩=some (.int .i64 dz.kind):=aG iW rfl
    have y1:w9.cell? ⟨w.heap.size,1,none⟩=some (.int .i64 dz.line):=aG iW rfl
    have y2:w9.cell? ⟨w.heap.size,2,none⟩=some (.string dz.nm):=aG iW rfl
    have y3:w9.cell? ⟨w.heap.size,3,none⟩=some (.int .i64 dz.size):=aG iW rfl
    have y4:w9.cell? ⟨w.heap.size,4,none⟩=some (.int .i64 dz.init):=aG iW rfl
    have y5:w9.cell? ⟨w.heap.size,5,none⟩=some (.string dz.on):=aG iW rfl
    have FZ:=Lib.hid (WA (d:=dz) nM.out lY.out.ok hw2.1 (gD wY.out hw2.2) bF.out.1)
    rw [← vV] at FZ
    clear vV iW KD
    go_simp
    go_wp2_with fail
    exact bodyPost_ret (v:= .tuple #[vU dz,.bool true]) (by simp [results,Tryz.results67,go_sem,vU,y0,y1,y2,y3,y4,y5]) rfl FZ.out
end Go.Proofs.YtehnipchbmjlhaaGreatDoor
end
