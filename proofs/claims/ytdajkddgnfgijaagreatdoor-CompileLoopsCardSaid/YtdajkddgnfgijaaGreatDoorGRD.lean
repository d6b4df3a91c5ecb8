/-
  Contract of the reader's block; of all that read statements.
  A declaration under way, in memory; contracts of the reader's size and initial.
  Contract of the reader's declaration.
-/
import Derived.Test.YtdajkddgnfgijaaGreatDoorGPrB4
import Derived.Deep.AppendLies
import Derived.Test.YtdajkddgnfgijaaGreatDoorGMB
import Derived.Deep.MidRow
section
set_option linter.unusedSimpArgs false
set_option linter.unusedVariables false
namespace Go.Proofs.YtdajkddgnfgijaaGreatDoor
open Go.RowKit
open Md Pz
theorem Td:(Tryz.prog.info? 131).map (fun i=>(i.zero,i.size,i.bytes))=some (some (.agg mJ),11,176):=by kernel_rfl
theorem WA: ∃i0,Tryz.prog.info? 131=some i0∧i0.zero=some (.agg mJ)∧i0.size=11∧i0.bytes=176:=info_parts Td
theorem Q9 (x:iK): ∀u ∈ iK.f x,u.oneCell'=true:=by
 intro u hu; simp [iK.f] at hu
 rcases hu with rfl | rfl | rfl | rfl | rfl | rfl | rfl | rfl | rfl | rfl | rfl <;> rfl
theorem KC: ∀l:aP,app l .nil=l
 | .nil=>rfl
 | .cons h b e r=>by show aP.cons h b e (app r .nil)=_; rw [KC r]
theorem GJ (x:iK) (s:aP): ∀l:List iK,app (nW l) (app (one x.h x.b x.e) s)=app (nW (l++[x])) s
 | []=>rfl
 | y ::r=>by show aP.cons y.h y.b y.e (app (nW r) _)=aP.cons y.h y.b y.e (app (nW (r++[x])) s); rw [GJ x s r]
theorem Ve {f:Nat} {ts:aJ} (h:at' [125] ts=true):ps (f + 1) false ts= .ok .nil ts.tail:=by
 conv=>lhs; unfold ps
 rw [if_pos h]
theorem XA {f:Nat} {ts r:aJ} (h:at' [125] ts=false) (h1:ps f true ts= .no r):ps (f + 1) false ts= .no r:=by
 conv=>lhs; unfold ps
 rw [if_neg (by rw [h]; decide),h1]
theorem XV {f:Nat} {ts r:aJ} {s:aP} (h:at' [125] ts=false) (h1:ps f true ts= .ok s r):ps (f + 1) false ts=(ps f false r).map (app s):=by
 conv=>lhs; unfold ps
 rw [if_neg (by rw [h]; decide),h1]
def Rc (R:Rp) (w:World) (f:Nat) (res:bK aP) (g:Nat) (v:Value) (wr:World):Prop:=
 ∃f' l rest,g=rest.length∧f'≤f∧3 * rest.length + 2 < f'∧res=(ps f' false rest).map (app (nW l))∧l.length + rest.length≤4096∧Ej w.heap.size wr v l∧(∀x ∈ l,sj x.h x.b x.e)∧bf wr R rest∧w.grownBy wr (some R.br)
theorem qy {B:Nat} {w w':World} {g:Option Nat} (h:w.grownBy w' g) (hg: ∀k,g=some k→B≤k) (hB:B≤w.heap.size):Below B w w':=
 ⟨h.os,h.tape,h.output,h.size,fun k hk=>h.block k (by omega) (fun e=>by have:=hg k e.symm; omega)⟩
theorem Ec {w w':World} {R:Rp} {rest:aJ} {g:Option Nat} (h:bf w R rest) (hg:w.grownBy w' g) (h0: ∀k,g=some k→R.B0≤k∧k≠R.br):bf w' R rest:=by
 obtain ⟨pos,k1,k2,k3⟩:=h.blk
 exact ⟨⟨pos,k1,k2,(hg.block _ h.lt (fun e=>(h0 _ e.symm).2 rfl)).trans k3⟩,h.tok.below (qy hg (fun k hk=>(h0 k hk).1) (Nat.le_trans R.b0 (Nat.le_of_lt h.lt))),h.ok,h.tl⟩
theorem Ea {br:Nat} {w w1 w2:World} (h:w.grownBy w1 (some br)) (hb:Below w.heap.size w1 w2):w.grownBy w2 (some br):=
 ⟨hb.os.trans h.os,hb.tape.trans h.tape,hb.output.trans h.output,Nat.le_trans h.size hb.size,fun k hk hn=>(hb.block k hk).trans (h.block k hk hn)⟩
theorem BM {α β:Type} {x:bK α} {f g:α→β} (h: ∀a,f a=g a):x.map f=x.map g:=by
 cases x with
 | ok a r=>show bK.ok (f a) r=_; rw [h]; rfl
 | no r=>rfl
theorem Vl {R:Rp} {w wr:World} {v:Value} {l:List iK} {r:aJ} (hl:l.length≤4096) (hg:Ej w.heap.size wr v l) (hok: ∀x ∈ l,sj x.h x.b x.e) (hr:bf wr R r) (hf:w.grownBy wr (some R.br)):
 EF R w (.ok (nW l) r) (.returned (.tuple #[v,.bool true])) wr:=by
 obtain ⟨ao,cap,e,hst⟩:=hg.says hok
 exact ⟨⟨ao,cap,by rw [e],by rw [Ak]; exact hl,hst⟩,hr,hf⟩
set_option maxHeartbeats 4000000 in
set_option maxRecDepth 100000 in
theorem LW (R:Rp) (f:Nat) (ts:aJ) (hf:3 * ts.length < f) (KI:Hid (∀f' q,f' < f→3 * q.length + 1 < f'→ ∀w,bf w R q→Calls Tryz.prog 148 #[.pointer (some ⟨R.br,0,none⟩)] w (qJ R w (ps f' true q)))):mX R f ts:=by
 intro w hI
 have HI:=Lib.hid hI
 have WL:=Lib.hid hf
 clear hI hf
 cases h1:at' [123] ts
 ·rw [show blk f ts= .no ts by unfold blk; rw [if_neg (by rw [h1]; decide)]]
  clear KI
  go_enter Tryz.func102,Tryz.ntmps102
  go_wp2_with fail
  refine (dU R _ _ ⟨#[123]⟩ rfl h1 HI.out).mono ?_
  rintro e w1 ⟨rfl,h2⟩
  have HB:=Lib.hid h2
  have HI1:=Lib.hid (HI.out.below h2)
  clear h2
  go_wp2_with fail
  go_ret2
  exact ⟨rfl,HI1.out,bP HB.out⟩
 ·rw [show blk f ts=ps f false ts.tail by unfold blk; rw [if_pos h1]]
  have bW:=Lib.hid (at_len h1)
  have yU:=Lib.hid HI.out.len
  have PV:=Lib.hid HI.out.lt
  obtain ⟨res,oG⟩: ∃res,Hid (ps f false ts.tail=res):=⟨_,Lib.hid rfl⟩
  rw [oG.out]
  obtain ⟨i0,hi,hz0,hz1,hz2⟩:=WA
  have jT:=Lib.hid (And.intro hi (And.intro hz0 (And.intro hz1 hz2)))
  clear hi hz0 hz1 hz2
  go_enter Tryz.func102,Tryz.ntmps102
  go_wp2_with fail
  refine (cu R _ _ ⟨#[123]⟩ rfl h1 HI.out).mono ?_
  rintro e w1 ⟨rfl,h2,h3⟩
  have xA:Hid (Rc R w f res ts.tail.length (.slice none 0 0) w1):=Lib.hid ⟨f,[],ts.tail,rfl,Nat.le_refl _,by have:=WL.out; have:=bW.out; omega,by
   rw [← oG.out]; cases ps f false ts.tail <;> rfl,by have:=bW.out; have:=yU.out; simp only [List.length_nil]; omega,Grow.nil _ _ _ _ _ _,by simp,h2,h3⟩
  clear h2 h3 HI oG
  go_wp2_with fail
  go_loopg [4] ts.tail.length (fun gk v4 wr=>Rc R w f res gk v4 wr)
  case atStart=>exact xA.out
  case round=>
   obtain ⟨f',l,rest,rfl,hf',hen,hres,hl,hg,hok,hr,hgr⟩:=hrel
   obtain ⟨f',rfl⟩: ∃n,f'=n + 1:=⟨f' - 1,by omega⟩
   have HF:=Lib.hid (And.intro hf' hen)
   have HL:=Lib.hid hl
   have HG:=Lib.hid hg
   have pJ:=Lib.hid hok
   have HR:=Lib.hid hr
   have wh:=Lib.hid hgr
   have HS:=Lib.hid hres
   clear hf' hen hres hl hg hok hr hgr xA
   cases h4:at' [125] rest
   ·have HC:=Lib.hid (KI.out f' rest (by have:=HF.out.1; omega) (by have:=HF.out.2; omega))
    have Ed:Hid (∀r,ps f' true rest= .no r→res= .no r):=Lib.hid (fun r h=>HS.out.trans (by rw [XA h4 h]; rfl))
    have GK:Hid (∀s r,ps f' true rest= .ok s r→res=(ps f' false r).map (fun t=>app (nW l) (app s t))∧r.length < rest.length):=Lib.hid (fun s r h=>⟨HS.out.trans (by rw [XV h4 h]; exact kg _ _ _),Aj f' true rest s r h⟩)
    clear HS
    generalize ps f' true rest=res2 at *
    go_wp2_with fail
    refine (dU R _ _ ⟨#[125]⟩ rfl h4 HR.out).mono ?_
    rintro e w2 ⟨rfl,h2⟩
    have HG2:=Lib.hid (HG.out.next (bU h2))
    have HR2:=Lib.hid (HR.out.below h2)
    have Ey:=Lib.hid (eY wh.out (bP h2))
    clear h2 HG HR wh
    go_wp2_with fail
    refine (HC.out _ HR2.out).mono ?_
    cases res2 with
    | no r=>
      have hs:=Ed.out r rfl
      subst hs
      clear Ed GK HC
      rintro e w3 ⟨⟨x,rfl⟩,h2,h3⟩
      have HR3:=Lib.hid h2
      have Db:=Lib.hid (eY Ey.out h3)
      clear h2 h3
      unfold cO
      go_wp2_with fail
      go_ret2
      exact ⟨rfl,oZ HR3.out _,qK Db.out _⟩
    | ok s r=>
      have Aw:=Lib.hid (GK.out s r rfl)
      clear Ed GK HC
      rintro e w3 ⟨⟨x,rfl,rfl,hok,hst⟩,h2,h3⟩
      have Cq:=Lib.hid (HG2.out.next (oo h3 PV.out))
      have HR3:=Lib.hid h2
      have Db:=Lib.hid (eY Ey.out h3)
      have RU:=Lib.hid hst
      have HOX:=Lib.hid hok
      have jy:Hid (w2.heap.size≤w3.heap.size∧w.heap.size≤w2.heap.size):=Lib.hid ⟨h3.size,Ey.out.size⟩
      have oO:=Lib.hid HG2.out.lt
      clear h2 h3 hst hok HG2 HR2 Ey
      unfold cO
      go_upto_region 6 with fail
      obtain ⟨gs,hg⟩: ∃g,w3.heap.size=g:=⟨_,rfl⟩
      generalize hW:World.alloc w3 _=W4
      have HG4:Hid (Ej w.heap.size W4 u4 l):=Lib.hid (by rw [← hW]; exact Cq.out.next (bU (aj _ _)))
      have HR4:Hid (bf W4 R r):=Lib.hid (by rw [← hW]; exact oZ HR3.out _)
      have VJ:Hid (w.grownBy W4 (some R.br)):=Lib.hid (by rw [← hW]; exact qK Db.out _)
      have uX:Hid (eH w2.heap.size W4 (iK.I x)):=Lib.hid (by rw [← hW]; exact RU.out.next (bU (aj _ _)))
      have eX:Hid (W4.heap[gs]? =some (.cells (iK.f x).toArray 131 (0,0))):=Lib.hid (by rw [← hW,← hg]; exact heap_alloc_new _ _)
      rw [hg]
      clear hW hg Cq HR3 Db RU
      obtain ⟨d0,d1,d2,d3,d4,d5,d6,d7,d8,d9,mK⟩:(W4.cell? ⟨gs,0,none⟩=some (.int .i64 x.h.op)∧W4.cell? ⟨gs,1,none⟩=some (.int .i64 x.h.line)∧W4.cell? ⟨gs,2,none⟩=some (.string x.h.nm)∧W4.cell? ⟨gs,3,none⟩=some (.string x.h.arg)∧W4.cell? ⟨gs,4,none⟩=some (.slice x.s.dZ x.h.idx.len x.s.dG)∧W4.cell? ⟨gs,5,none⟩=some (.int .i64 x.h.dN)∧W4.cell? ⟨gs,6,none⟩=some (.int .i64 x.h.xn)∧W4.cell? ⟨gs,7,none⟩=some (.string x.h.dM)∧W4.cell? ⟨gs,8,none⟩=some (.slice x.s.dH x.h.aR.len x.s.bR)∧W4.cell? ⟨gs,9,none⟩=some (.slice x.s.bV x.b.len x.s.bC)∧W4.cell? ⟨gs,10,none⟩=some (.slice x.s.eB x.e.len x.s.dK)):=⟨aB eX.out rfl,aB eX.out rfl,aB eX.out rfl,aB eX.out rfl,aB eX.out rfl,aB eX.out rfl,aB eX.out rfl,aB eX.out rfl,aB eX.out rfl,aB eX.out rfl,aB eX.out rfl⟩
      have sG:=Lib.hid (HG4.out.next (bU (aj W4 (.cells (iK.f x).toArray 131))))
      have jN:=Lib.hid (iQ (heap_alloc_new W4 (.cells (iK.f x).toArray 131)))
      have HSW:Hid (w.heap.size≤W4.heap.size):=Lib.hid VJ.out.size
      obtain ⟨hi,hz0,hz1,hz2⟩:=jT.out
      have hbs:w.heap.size≤W4.heap.size + 1:=Nat.le_succ_of_le HSW.out
      have hkl:l.length + 1≤maxLen:=by have:=HL.out; unfold maxLen; omega
      have R3:(l.length + 1) * 176≤140737488355328:=by have:=HL.out; omega
      go_wp2_with (at_builtin; refine wpList_append_lies _ rfl _ _ 91 rfl w.heap.size 131 i0 _ 11 176 Tryz.underlying91 hi hz0 hz1 hz2 rfl (by decide) _ _ _ rfl sG.out.own ⟨W4.heap.size,0,none⟩ 1 1 (iK.f x) rfl rfl jN.out (Q9 _) (by decide) hkl R3 (by simpa using hbs) _ rfl ?_)
      clear hi hz0 hz1 hz2 d0 d1 d2 d3 d4 d5 d6 d7 d8 d9 mK
      intro g cap w5 hown hgr hmv hlt2
      have Cj:Hid (gG w.heap.size u4.ownBlock (W4.alloc (.cells (iK.f x).toArray 131)) (iK.I x)):=Lib.hid (Cw (uX.out.next (bU (aj _ _))) jy.out.2 (fun k hk=>(oO.out k hk).2))
      have FQ:=Lib.hid (sG.out.push Cj.out rfl hown hgr (by simpa using hmv))
      have mR:Hid (Below w.heap.size (W4.alloc (.cells (iK.f x).toArray 131)) w5):=Lib.hid (qy hgr (fun k hk=>(oO.out k hk).1) (by simpa using hbs))
      have Rj:Hid (bf w5 R r):=Lib.hid (Ec (oZ HR4.out _) hgr (fun k hk=>by have h1:=(oO.out k hk).1; have h2:=PV.out; have h3:=R.b0; omega))
      have F7:Hid (w.grownBy w5 (some R.br)):=Lib.hid (Ea (qK VJ.out _) mR.out)
      have ac4:Hid (∀y ∈ l++[x],sj y.h y.b y.e):=Lib.hid (fun y hy=>by
       rcases List.mem_append.1 hy with hy | hy
       ·exact pJ.out y hy
       ·rw [List.mem_singleton.1 hy]; exact HOX.out)
      have jc:Hid (res=(ps f' false r).map (app (nW (l++[x])))):=Lib.hid (Aw.out.1.trans (BM (fun t=>GJ x t l)))
      have Vq:=Lib.hid Aw.out.2
      clear hown hgr hmv hlt2 hbs hkl R3 Cj uX jN sG mR Aw
      go_wp2_with fail
      go_roundg r.length
      case measure=>exact Vq.out
      case rel=>exact ⟨f',l++[x],r,rfl,by have:=HF.out.1; omega,by have h1:=HF.out.2; have h2:=Vq.out; omega,jc.out,by have h1:=HL.out; have h2:=Vq.out; simp only [List.length_append,List.length_singleton]; omega,FQ.out,ac4.out,Rj.out,F7.out⟩
   ·have hs:=HS.out.trans (by rw [Ve h4]; rfl:_=bK.ok (app (nW l) .nil) rest.tail)
    rw [KC] at hs
    subst hs
    clear HS
    go_wp2_with fail
    refine (cu R _ _ ⟨#[125]⟩ rfl h4 HR.out).mono ?_
    rintro e w2 ⟨rfl,h2,h3⟩
    have HG2:=Lib.hid (HG.out.next (oo h3 PV.out))
    have HR2:=Lib.hid h2
    have Ey:=Lib.hid (eY wh.out h3)
    clear h2 h3
    go_wp2_with fail
    go_ret2
    exact Vl (by have:=HL.out; omega) HG2.out pJ.out HR2.out Ey.out
theorem Nj (R:Rp): ∀f:Nat,(∀ts,3 * ts.length < f→mX R f ts)∧(∀q,3 * q.length + 1 < f→ ∀w,bf w R q→Calls Tryz.prog 148 #[.pointer (some ⟨R.br,0,none⟩)] w (qJ R w (ps f true q))):=by
 intro f
 induction f using Nat.strongRecOn with
 | ind f ih=>
   refine ⟨fun ts hf=>LW R f ts hf (Lib.hid fun f' q h1 h2=>(ih f' h1).2 q h2),fun q hq w hI=> ?_⟩
   obtain ⟨f',rfl⟩: ∃n,f=n + 1:=⟨f - 1,by omega⟩
   exact Fb R f' q (Lib.hid fun r hr=>(ih f' (by omega)).1 r (by omega)) w hI
theorem Gg (R:Rp) (f:Nat) (ts:aJ) (hf:3 * ts.length < f) (w:World) (hI:bf w R ts):
 Calls Tryz.prog 102 #[.pointer (some ⟨R.br,0,none⟩)] w (EF R w (blk f ts)):=(Nj R f).1 ts hf w hI
end Go.Proofs.YtdajkddgnfgijaaGreatDoor
end
section
set_option linter.unusedSimpArgs false
set_option linter.unusedVariables false
namespace Go.Proofs.YtdajkddgnfgijaaGreatDoor
open Go.RowKit
open Md Pz
structure Pd (R:Rp) (bd:Nat) (w:World) (d:De) (rest:aJ):Prop where
 rd:bf w R rest
 ne:bd≠R.br
 b0:R.B0≤bd
 blk:w.heap[bd]? =some (.cells (jB d).toArray 75 (0,0))
 ok:d.Ok
section
variable {R:Rp} {bd:Nat} {w W W':World} {d:De} {rest rest':aJ}
theorem Pd.lt (h:Pd R bd W d rest):bd < W.heap.size:=(Array.getElem?_eq_some_iff.1 h.blk).1
theorem Pd.then (h:Pd R bd W d rest) (h1:bf W' R rest') (h2:W.grownBy W' (some R.br)):Pd R bd W' d rest':=
 ⟨h1,h.ne,h.b0,(h2.block _ h.lt (by simp; exact h.ne)).trans h.blk,h.ok⟩
theorem Pd.below (h:Pd R bd W d rest) (hb:Below W.heap.size W W'):Pd R bd W' d rest:=h.then (h.rd.below hb) (bP hb)
theorem Pd.put (h:Pd R bd W d rest) (j:Nat) (v:Value) {y:De} (hy:(jB d).toArray.setIfInBounds j v=(jB y).toArray) (hok:y.Ok):Pd R bd (W.setCell ⟨bd,j,none⟩ v) y rest:=
 ⟨nY h.rd _ v h.b0 h.ne,h.ne,h.b0,by rw [dV h.blk,hy],hok⟩
theorem Pd.nm (h:Pd R bd W d rest) (s:ByteArray) (hs:s.size≤maxLen):Pd R bd (W.setCell ⟨bd,2,none⟩ (.string s)) {d with nm:=s} rest:=
 h.put 2 _ rfl ⟨h.ok.1,h.ok.2.1,hs,h.ok.2.2.2⟩
theorem Pd.size (h:Pd R bd W d rest) (n:Int) (hn:dR n):Pd R bd (W.setCell ⟨bd,3,none⟩ (.int .i64 n)) {d with size:=n} rest:=
 h.put 3 _ rfl ⟨h.ok.1,h.ok.2.1,h.ok.2.2.1,hn,h.ok.2.2.2.2⟩
theorem Pd.init (h:Pd R bd W d rest) (n:Int) (hn:dR n):Pd R bd (W.setCell ⟨bd,4,none⟩ (.int .i64 n)) {d with init:=n} rest:=
 h.put 4 _ rfl ⟨h.ok.1,h.ok.2.1,h.ok.2.2.1,h.ok.2.2.2.1,hn,h.ok.2.2.2.2.2⟩
theorem Pd.on (h:Pd R bd W d rest) (s:ByteArray) (hs:s.size≤maxLen):Pd R bd (W.setCell ⟨bd,5,none⟩ (.string s)) {d with on:=s} rest:=
 h.put 5 _ rfl ⟨h.ok.1,h.ok.2.1,h.ok.2.2.1,h.ok.2.2.2.1,h.ok.2.2.2.2.1,hs⟩
theorem Pd.cell (h:Pd R bd W d rest) {j:Nat} {u:Value} (hu:(jB d).toArray[j]? =some u):W.cell? ⟨bd,j,none⟩=some u:=aB h.blk hu
theorem Pd.free (h:Pd R bd W d rest) (j:Nat):W.frozen? ⟨bd,j,none⟩=false:=bH h.blk
end
def Nl (R:Rp) (bd:Nat) (w:World) (res:bK De) (e:Ending) (w':World):Prop:=
 match res with
 | .ok d r=>e= .returned (.bool true)∧Pd R bd w' d r∧Fr R.br bd w w'
 | .no r=>e= .returned (.bool false)∧(∃d,Pd R bd w' d r)∧Fr R.br bd w w'
theorem Dp {R:Rp} {bd:Nat} {w W:World} {res:bK De} {d:De} {r:aJ} (e:res= .ok d r) (h:Pd R bd W d r) (hf:Fr R.br bd w W):Nl R bd w res (.returned (.bool true)) W:=by subst e; exact ⟨rfl,h,hf⟩
theorem Dj {R:Rp} {bd:Nat} {w W:World} {res:bK De} {d:De} {r:aJ} (e:res= .no r) (h:Pd R bd W d r) (hf:Fr R.br bd w W):Nl R bd w res (.returned (.bool false)) W:=by subst e; exact ⟨rfl,⟨d,h⟩,hf⟩
theorem Fr.wV {br bs:Nat} {w w1 w2:World} (h:Fr br bs w w1) (k:w1.grownBy w2 (some br)):Fr br bs w w2:=h.trans (Fr.cK k)
theorem bf.back {w1 w:World} {R:Rp} {q:aJ} (h1:bf w1 R q) (hq:isNum q=true) (h:bf w R q.tail): ∃pos:Nat,(1≤pos∧pos≤4096)∧w.cell? ⟨R.br,1,none⟩=some (.int .i64 (pos:Int))∧w.frozen? ⟨R.br,1,none⟩=false∧
 Hid (bf (w.setCell ⟨R.br,1,none⟩ (.int .i64 ((pos:Int) - 1))) R q∧w.grownBy (w.setCell ⟨R.br,1,none⟩ (.int .i64 ((pos:Int) - 1))) (some R.br)):=by
 obtain ⟨p1,a1,a2,-⟩:=h1.blk
 obtain ⟨pos,b1,b2,b3⟩:=h.blk
 have hl:=K3 hq
 have e1:=congrArg List.length a2
 have e2:=congrArg List.length b2
 simp only [List.length_drop,List.length_tail] at e1 e2 hl
 have hp:pos=p1 + 1:=by omega
 have:=h.ok.2
 refine ⟨pos,⟨by omega,by omega⟩,aB b3 rfl,bH b3,Lib.hid ⟨⟨⟨p1,a1,a2,?_⟩,h.tok.below (dB (dO w ⟨R.br,1,none⟩ _) R.b0 (Nat.le_trans R.b0 (Nat.le_of_lt h.lt))),h.ok,h.tl⟩,dO w ⟨R.br,1,none⟩ _⟩⟩
 rw [dV b3,show (pos:Int) - 1=(p1:Int) by omega]; rfl
theorem QM {d:De} {ts:aJ} (h:at' [91] ts=false):nJ d ts= .ok d ts:=by unfold nJ; rw [if_neg (by rw [h]; decide)]
theorem Qg {d:De} {ts:aJ} (h:at' [91] ts=true) (h1:isNum ts.tail=false):nJ d ts= .no ts.tail:=by unfold nJ; rw [if_pos h,if_neg (by rw [h1]; decide)]
theorem SH {d:De} {ts:aJ} (h:at' [91] ts=true) (h1:isNum ts.tail=true) (h2:(Tk.val (aI ts.tail) == 0)=true):nJ d ts= .no ts.tail:=by unfold nJ; rw [if_pos h,if_pos h1,if_pos h2]
theorem TW {d:De} {ts:aJ} (h:at' [91] ts=true) (h1:isNum ts.tail=true) (h2:(Tk.val (aI ts.tail) == 0)=false):nJ d ts=(need [93] ts.tail.tail).map fun _=> {d with size:=(Tk.val (aI ts.tail):Nat)} :=by unfold nJ; rw [if_pos h,if_pos h1,if_neg (by rw [h2]; decide)]
set_option maxHeartbeats 1000000 in
set_option maxRecDepth 100000 in
theorem Qw (R:Rp) (bd:Nat) (ts:aJ) (d:De) (w:World) (hp:Pd R bd w d ts):
 Calls Tryz.prog 99 #[.pointer (some ⟨R.br,0,none⟩),.pointer (some ⟨bd,0,none⟩)] w (Nl R bd w (nJ d ts)):=by
 have HP:=Lib.hid hp
 clear hp
 cases h1:at' [91] ts
 ·have HE:=Lib.hid (QM (d:=d) h1)
  go_enter Tryz.func99,Tryz.ntmps99
  go_wp2_with fail
  refine (dU R _ _ ⟨#[91]⟩ rfl h1 HP.out.rd).mono ?_
  rintro e w1 ⟨rfl,h2⟩
  have bQ:=Lib.hid (HP.out.below h2)
  have HF:=Lib.hid (Fr.cK (br:=R.br) (bs:=bd) (bP h2))
  clear h2
  go_wp2_with fail
  go_ret
  exact Dp HE.out bQ.out HF.out
 ·cases h2:isNum ts.tail
  ·have HE:=Lib.hid (Qg (d:=d) h1 h2)
   go_enter Tryz.func99,Tryz.ntmps99
   go_wp2_with fail
   refine (cu R _ _ ⟨#[91]⟩ rfl h1 HP.out.rd).mono ?_
   rintro e w1 ⟨rfl,k2,k3⟩
   have bQ:=Lib.hid (HP.out.then k2 k3)
   have oN:=Lib.hid (Fr.cK (bs:=bd) k3)
   clear k2 k3
   go_wp2_with fail
   refine (vV R _ _ h2 bQ.out.rd).mono ?_
   rintro e w2 ⟨rfl,h3⟩
   have aU:=Lib.hid (bQ.out.below h3)
   have fu:=Lib.hid (oN.out.wV (bP h3))
   clear h3
   go_wp2_with fail
   go_ret
   exact Dj HE.out aU.out fu.out
  ·cases h3:(Tk.val (aI ts.tail) == 0)
   ·have vk:=Lib.hid (TW (d:=d) h1 h2 h3)
    have h3':(((Tk.val (aI ts.tail):Nat):Int) == 0)=false:=by rw [beq_eq_false_iff_ne] at h3 ⊢; omega
    have HV:Hid (dR ((Tk.val (aI ts.tail):Nat):Int)):=Lib.hid (by have:=DR HP.out.rd.ts.tail h2; unfold dR; omega)
    go_enter Tryz.func99,Tryz.ntmps99
    go_wp2_with fail
    refine (cu R _ _ ⟨#[91]⟩ rfl h1 HP.out.rd).mono ?_
    rintro e w1 ⟨rfl,k2,k3⟩
    have bQ:=Lib.hid (HP.out.then k2 k3)
    have oN:=Lib.hid (Fr.cK (bs:=bd) k3)
    clear k2 k3
    go_wp2_with fail
    refine (yX R _ _ h2 bQ.out.rd).mono ?_
    rintro e w2 ⟨rfl,k2,k3⟩
    have aU:=Lib.hid (bQ.out.then k2 k3)
    have fu:=Lib.hid (oN.out.wV k3)
    clear k2 k3
    have c3:=aU.out.cell (j:=3) rfl
    have f3:=aU.out.free 3
    go_upto_region 10 with fail
    generalize hW:World.setCell w2 _ _=W
    have aW:Hid (Pd R bd W {d with size:=(Tk.val (aI ts.tail):Nat)} ts.tail.tail):=Lib.hid (by rw [← hW]; exact aU.out.size _ HV.out)
    have dQ:Hid (Fr R.br bd w W):=Lib.hid (by rw [← hW]; exact fu.out.set _ _ (.inl rfl))
    clear hW c3 f3 aU fu
    cases h4:at' [93] ts.tail.tail
    ·have HE:=Lib.hid (vk.out.trans (by rw [zD h4]:_=bK.map _ (bK.no ts.tail.tail)))
     go_wp2_with fail
     refine (dU R _ _ ⟨#[93]⟩ rfl h4 aW.out.rd).mono ?_
     rintro e w4 ⟨rfl,k2⟩
     have dS:=Lib.hid (aW.out.below k2)
     have fZ:=Lib.hid (dQ.out.wV (bP k2))
     clear k2
     go_wp2_with fail
     go_ret
     exact Dj HE.out dS.out fZ.out
    ·have HE:=Lib.hid (vk.out.trans (by rw [zG h4]:_=bK.map _ (bK.ok () ts.tail.tail.tail)))
     go_wp2_with fail
     refine (cu R _ _ ⟨#[93]⟩ rfl h4 aW.out.rd).mono ?_
     rintro e w4 ⟨rfl,k2,k3⟩
     have dS:=Lib.hid (aW.out.then k2 k3)
     have fZ:=Lib.hid (dQ.out.wV k3)
     clear k2 k3
     go_wp2_with fail
     go_ret
     exact Dp HE.out dS.out fZ.out
   ·have HE:=Lib.hid (SH (d:=d) h1 h2 h3)
    have hz:Tk.val (aI ts.tail)=0:=by simpa using h3
    go_enter Tryz.func99,Tryz.ntmps99
    go_wp2_with fail
    refine (cu R _ _ ⟨#[91]⟩ rfl h1 HP.out.rd).mono ?_
    rintro e w1 ⟨rfl,k2,k3⟩
    have bQ:=Lib.hid (HP.out.then k2 k3)
    have oN:=Lib.hid (Fr.cK (bs:=bd) k3)
    clear k2 k3
    go_wp2_with fail
    refine (yX R _ _ h2 bQ.out.rd).mono ?_
    rw [hz]
    rintro e w2 ⟨rfl,k2,k3⟩
    obtain ⟨pos,⟨hp1,hp2⟩,q1,f1,HX⟩:=bQ.out.rd.back h2 k2
    have aU:=Lib.hid (bQ.out.then k2 k3)
    have fu:=Lib.hid (oN.out.wV k3)
    have hq1:(1:Int)≤(pos:Int):=by omega
    have hq2:(pos:Int)≤4096:=by omega
    clear k2 k3 hz
    go_wp2_with fail
    go_ret
    exact Dj HE.out (aU.out.then HX.out.1 HX.out.2) (fu.out.wV HX.out.2)
theorem SE {d:De} {ts:aJ} (h:at' [61] ts=false):jI d ts= .ok d ts:=by unfold jI; rw [if_neg (by rw [h]; decide)]
theorem Pw {d:De} {ts:aJ} (h:at' [61] ts=true) (h1:at' [45] ts.tail=true) (h2:isNum ts.tail.tail=false):jI d ts= .no ts.tail.tail:=by unfold jI; rw [if_pos h,if_pos h1,if_neg (by rw [h2]; decide)]
theorem Qz {d:De} {ts:aJ} (h:at' [61] ts=true) (h1:at' [45] ts.tail=true) (h2:isNum ts.tail.tail=true):jI d ts= .ok {d with init:= -(Tk.val (aI ts.tail.tail):Nat)} ts.tail.tail.tail:=by unfold jI; rw [if_pos h,if_pos h1,if_pos h2]
theorem Qx {d:De} {ts:aJ} (h:at' [61] ts=true) (h1:at' [45] ts.tail=false) (h2:isNum ts.tail=false):jI d ts= .no ts.tail:=by unfold jI; rw [if_pos h,if_neg (by rw [h1]; decide),if_neg (by rw [h2]; decide)]
theorem QO {d:De} {ts:aJ} (h:at' [61] ts=true) (h1:at' [45] ts.tail=false) (h2:isNum ts.tail=true):jI d ts= .ok {d with init:=(Tk.val (aI ts.tail):Nat)} ts.tail.tail:=by unfold jI; rw [if_pos h,if_neg (by rw [h1]; decide),if_pos h2]
set_option maxHeartbeats 1000000 in
set_option maxRecDepth 100000 in
theorem Co (R:Rp) (bd:Nat) (ts:aJ) (d:De) (w:World) (hp:Pd R bd w d ts):
 Calls Tryz.prog 100 #[.pointer (some ⟨R.br,0,none⟩),.pointer (some ⟨bd,0,none⟩)] w (Nl R bd w (jI d ts)):=by
 have HP:=Lib.hid hp
 clear hp
 cases h1:at' [61] ts
 ·have HE:=Lib.hid (SE (d:=d) h1)
  go_enter Tryz.func100,Tryz.ntmps100
  go_wp2_with fail
  refine (dU R _ _ ⟨#[61]⟩ rfl h1 HP.out.rd).mono ?_
  rintro e w1 ⟨rfl,h2⟩
  have bQ:=Lib.hid (HP.out.below h2)
  have HF:=Lib.hid (Fr.cK (br:=R.br) (bs:=bd) (bP h2))
  clear h2
  go_wp2_with fail
  go_ret
  exact Dp HE.out bQ.out HF.out
 ·cases hm:at' [45] ts.tail
  ·cases h2:isNum ts.tail
   ·have HE:=Lib.hid (Qx (d:=d) h1 hm h2)
    go_enter Tryz.func100,Tryz.ntmps100
    go_wp2_with fail
    refine (cu R _ _ ⟨#[61]⟩ rfl h1 HP.out.rd).mono ?_
    rintro e w1 ⟨rfl,k2,k3⟩
    have bQ:=Lib.hid (HP.out.then k2 k3)
    have oN:=Lib.hid (Fr.cK (bs:=bd) k3)
    clear k2 k3
    go_wp2_with fail
    refine (dU R _ _ ⟨#[45]⟩ rfl hm bQ.out.rd).mono ?_
    rintro e w1 ⟨rfl,k2⟩
    have aU:=Lib.hid (bQ.out.below k2)
    have fu:=Lib.hid (oN.out.wV (bP k2))
    clear k2
    go_wp2_with fail
    refine (vV R _ _ h2 aU.out.rd).mono ?_
    rintro e w2 ⟨rfl,k2⟩
    have aW:=Lib.hid (aU.out.below k2)
    have dQ:=Lib.hid (fu.out.wV (bP k2))
    clear k2
    go_wp2_with fail
    go_ret
    exact Dj HE.out aW.out dQ.out
   ·have HE:=Lib.hid (QO (d:=d) h1 hm h2)
    have HV:Hid (dR ((Tk.val (aI ts.tail):Nat):Int)):=Lib.hid (by have:=DR HP.out.rd.ts.tail h2; unfold dR; omega)
    go_enter Tryz.func100,Tryz.ntmps100
    go_wp2_with fail
    refine (cu R _ _ ⟨#[61]⟩ rfl h1 HP.out.rd).mono ?_
    rintro e w1 ⟨rfl,k2,k3⟩
    have bQ:=Lib.hid (HP.out.then k2 k3)
    have oN:=Lib.hid (Fr.cK (bs:=bd) k3)
    clear k2 k3
    go_wp2_with fail
    refine (dU R _ _ ⟨#[45]⟩ rfl hm bQ.out.rd).mono ?_
    rintro e w1 ⟨rfl,k2⟩
    have aU:=Lib.hid (bQ.out.below k2)
    have fu:=Lib.hid (oN.out.wV (bP k2))
    clear k2
    go_wp2_with fail
    refine (yX R _ _ h2 aU.out.rd).mono ?_
    rintro e w2 ⟨rfl,k2,k3⟩
    have aW:=Lib.hid (aU.out.then k2 k3)
    have dQ:=Lib.hid (fu.out.wV k3)
    clear k2 k3
    have c4:=aW.out.cell (j:=4) rfl
    have f4:=aW.out.free 4
    go_wp2_with fail
    go_ret
    exact Dp HE.out (aW.out.init _ HV.out) (dQ.out.set _ _ (.inl rfl))
  ·cases h2:isNum ts.tail.tail
   ·have HE:=Lib.hid (Pw (d:=d) h1 hm h2)
    go_enter Tryz.func100,Tryz.ntmps100
    go_wp2_with fail
    refine (cu R _ _ ⟨#[61]⟩ rfl h1 HP.out.rd).mono ?_
    rintro e w1 ⟨rfl,k2,k3⟩
    have bQ:=Lib.hid (HP.out.then k2 k3)
    have oN:=Lib.hid (Fr.cK (bs:=bd) k3)
    clear k2 k3
    go_wp2_with fail
    refine (cu R _ _ ⟨#[45]⟩ rfl hm bQ.out.rd).mono ?_
    rintro e w1 ⟨rfl,k2,k3⟩
    have aU:=Lib.hid (bQ.out.then k2 k3)
    have fu:=Lib.hid (oN.out.wV k3)
    clear k2 k3
    go_wp2_with fail
    refine (vV R _ _ h2 aU.out.rd).mono ?_
    rintro e w2 ⟨rfl,k2⟩
    have aW:=Lib.hid (aU.out.below k2)
    have dQ:=Lib.hid (fu.out.wV (bP k2))
    clear k2
    go_wp2_with fail
    go_ret
    exact Dj HE.out aW.out dQ.out
   ·have HE:=Lib.hid (Qz (d:=d) h1 hm h2)
    have hv:=DR HP.out.rd.ts.tail.tail h2
    have HV:Hid (dR (-((Tk.val (aI ts.tail.tail):Nat):Int))):=Lib.hid (by unfold dR; omega)
    have hv0:(0:Int)≤((Tk.val (aI ts.tail.tail):Nat):Int):=by omega
    have hng:IntKind.i64.wrap (-((Tk.val (aI ts.tail.tail):Nat):Int))= -((Tk.val (aI ts.tail.tail):Nat):Int):=IntWalk.i64_in _ (by omega)
    have HNY:=Lib.hid (fun w hI=>yX R ts.tail.tail w h2 hI)
    generalize ((Tk.val (aI ts.tail.tail):Nat):Int)=n at *
    go_enter Tryz.func100,Tryz.ntmps100
    go_wp2_with fail
    refine (cu R _ _ ⟨#[61]⟩ rfl h1 HP.out.rd).mono ?_
    rintro e w1 ⟨rfl,k2,k3⟩
    have bQ:=Lib.hid (HP.out.then k2 k3)
    have oN:=Lib.hid (Fr.cK (bs:=bd) k3)
    clear k2 k3
    go_wp2_with fail
    refine (cu R _ _ ⟨#[45]⟩ rfl hm bQ.out.rd).mono ?_
    rintro e w1 ⟨rfl,k2,k3⟩
    have aU:=Lib.hid (bQ.out.then k2 k3)
    have fu:=Lib.hid (oN.out.wV k3)
    clear k2 k3
    go_wp2_with fail
    refine (HNY.out _ aU.out.rd).mono ?_
    rintro e w2 ⟨rfl,k2,k3⟩
    have aW:=Lib.hid (aU.out.then k2 k3)
    have dQ:=Lib.hid (fu.out.wV k3)
    clear k2 k3
    have c4:=aW.out.cell (j:=4) rfl
    have f4:=aW.out.free 4
    go_wp2_with fail
    go_ret
    exact Dp HE.out (aW.out.init _ HV.out) (dQ.out.set _ _ (.inl rfl))
end Go.Proofs.YtdajkddgnfgijaaGreatDoor
end
section
set_option linter.unusedSimpArgs false
set_option linter.unusedVariables false
namespace Go.Proofs.YtdajkddgnfgijaaGreatDoor
open Go.RowKit
open Md Pz
theorem qx {w:World} {K:Act→Prop} {a:Act} (h:K a):eG w K [] a:=h
def xw (d:De):Value:= .agg #[.int .i64 d.kind,.int .i64 d.line,.string d.nm,.int .i64 d.size,.int .i64 d.init,.string d.on]
def PS (R:Rp) (w:World) (res:bK De) (e:Ending) (w':World):Prop:=
 match res with
 | .ok d r=>(d.Ok∧e= .returned (.tuple #[xw d,.bool true]))∧bf w' R r∧w.grownBy w' (some R.br)
 | .no r=>(∃d,e= .returned (.tuple #[xw d,.bool false]))∧bf w' R r∧w.grownBy w' (some R.br)
def zO:Array Value:= #[.int .i64 0,.int .i64 0,.string ⟨#[]⟩,.int .i64 0,.int .i64 0,.string ⟨#[]⟩]
theorem DX:(Tryz.prog.info? 75).map (·.size)=some 6:=by kernel_rfl
theorem z6 {w:World} {b:Nat} {t:TypeId} (h:w.heap[b]? =some (.cells zO t (0,0))):
 (w.cell? ⟨b,0,none⟩=some (.int .i64 0)∧w.cell? ⟨b,1,none⟩=some (.int .i64 0)∧w.cell? ⟨b,2,none⟩=some (.string ⟨#[]⟩)∧w.cell? ⟨b,3,none⟩=some (.int .i64 0)∧w.cell? ⟨b,4,none⟩=some (.int .i64 0)∧w.cell? ⟨b,5,none⟩=some (.string ⟨#[]⟩))∧ ∀j,w.frozen? ⟨b,j,none⟩=false:=
 ⟨⟨aB h rfl,aB h rfl,aB h rfl,aB h rfl,aB h rfl,aB h rfl⟩,fun _=>bH h⟩
theorem Qq {R:Rp} {bd:Nat} {W:World} {d:De} {r:aJ} (h:Pd R bd W d r):
 W.cell? ⟨bd,0,none⟩=some (.int .i64 d.kind)∧W.cell? ⟨bd,1,none⟩=some (.int .i64 d.line)∧W.cell? ⟨bd,2,none⟩=some (.string d.nm)∧W.cell? ⟨bd,3,none⟩=some (.int .i64 d.size)∧W.cell? ⟨bd,4,none⟩=some (.int .i64 d.init)∧W.cell? ⟨bd,5,none⟩=some (.string d.on):=
 ⟨h.cell rfl,h.cell rfl,h.cell rfl,h.cell rfl,h.cell rfl,h.cell rfl⟩
theorem UH {R:Rp} {w W:World} {d:De} {r:aJ} {res:bK De} (e:res= .ok d r) (hok:d.Ok) (hr:bf W R r) (hg:w.grownBy W (some R.br)) (hl:R.br < w.heap.size):
 PS R w res (.returned (.tuple #[xw d,.bool true])) (W.setCells w.heap.size 0 (jB d)):=by
 subst e
 exact ⟨⟨hok,rfl⟩,nU hr (cB _ _ _ _) (by have:=R.b0; omega) (by omega),jK hg _ _ _ (Nat.le_refl _)⟩
theorem Jf {R:Rp} {w W:World} {d:De} {r:aJ} {res:bK De} (e:res= .no r) (hr:bf W R r) (hg:w.grownBy W (some R.br)) (hl:R.br < w.heap.size):
 PS R w res (.returned (.tuple #[xw d,.bool false])) (W.setCells w.heap.size 0 (jB d)):=by
 subst e
 exact ⟨⟨d,rfl⟩,nU hr (cB _ _ _ _) (by have:=R.b0; omega) (by omega),jK hg _ _ _ (Nat.le_refl _)⟩
def jJ (d:De) (r:aJ):bK De:=if d.kind == 1 then (nJ d r).bind jI else if d.kind == 2 then jI d r else if d.kind == 5 then (gq r).map (fun o=> {d with on:=o}) else .ok d r
theorem Tg (ts:aJ):tQ ts=((gq ts.tail).bind fun s r=>jJ ⟨jE (aI ts),bF ts,s,0,0,⟨#[]⟩⟩ r).close [59]:=rfl
theorem yA {br bd:Nat} {w w1 w2:World} (h:w.grownBy w1 (some br)) (hf:Fr br bd w1 w2) (hb:w.heap.size≤bd):w.grownBy w2 (some br):=
 ⟨hf.os.trans h.os,hf.tape.trans h.tape,hf.output.trans h.output,Nat.le_trans h.size hf.size,fun k hk hn=>(hf.block k (Nat.lt_of_lt_of_le hk h.size) (by simpa using hn) (by omega)).trans (h.block k hk hn)⟩
def jw (P Q S:World→Prop):List Bool→World→Prop
 | [x,y],w=>if y then S w else if x then Q w else P w
 | _,_=>False
section
variable {P Q S:World→Prop} {c:List Bool} {w w':World} {k l i:Nat}
theorem jw.bits (h:jw P Q S c w): ∃x y,c=[x,y]:=by
 match c,h with
 | [x,y],_=>exact ⟨x,y,rfl⟩
 | [],h=>exact h.elim
 | [_],h=>exact h.elim
 | _ ::_ ::_ ::_,h=>exact h.elim
theorem jw.skip (h1:(k == i)=false) (h2:(l == i)=false) (h:jw P Q S c w):jw P Q S (je [k,l] c i) w:=by
 obtain ⟨x,y,rfl⟩:=h.bits
 simp only [je,h1,h2,Bool.or_false]; exact h
theorem jw.fire (h1:(k == i)=true) (h2:(l == i)=false) (h:Q w):jw P Q S (je [k,l] [false,false] i) w:=by
 simp only [je,h1,h2,Bool.or_false,Bool.or_true]; exact h
theorem jw.last (h1:(k == i)=false) (h2:(l == i)=true) (h:S w):jw P Q S (je [k,l] [true,false] i) w:=by
 simp only [je,h1,h2,Bool.or_false,Bool.or_true]; exact h
theorem jw.gr {x:Bool} {T:World→Prop} (hp: ∀w,P w→T w) (hq: ∀w,Q w→T w) (h:jw P Q S [x,false] w):T w:=by
 cases x
 ·exact hp w h
 ·exact hq w h
end
set_option maxHeartbeats 4000000 in
set_option maxRecDepth 100000 in
theorem DI (R:Rp) (ts:aJ) (w:World) (hI:bf w R ts) (hk:isDecl ts=true):
 Calls Tryz.prog 63 #[.pointer (some ⟨R.br,0,none⟩)] w (PS R w (tQ ts)):=by
 have HI:=Lib.hid hI
 have HL:=Lib.hid (jZ hI)
 have hlt:=hI.lt
 have aq0:=Lib.hid hlt
 obtain ⟨t0,r0,hr⟩: ∃t r,ts=t ::r:=by
  cases ts with
  | nil=>exact absurd hk (by simp [isDecl,nextK])
  | cons t r=>exact ⟨t,r,rfl⟩
 have nC:=Lib.hid hr
 have hd0:(jE (aI ts) == 0)=false:=by
  unfold isDecl at hk; simp only [Bool.and_eq_true,Bool.not_eq_true'] at hk; exact hk.2
 have Yk:=Lib.hid (T9 (aI ts) hd0)
 rw [Tg]
 clear hk hr hd0
 go_enter Tryz.func63,Tryz.ntmps63
 go_upto_region 1 with fail
 generalize hW:World.alloc w _=W0
 have HB0:Hid (Below w.heap.size w W0):=Lib.hid (by rw [← hW]; exact aj _ _)
 have HZ0:Hid (W0.heap[w.heap.size]? =some (.cells zO 75 (0,0))):=Lib.hid (by rw [← hW]; exact heap_alloc_new _ _)
 have HN:=Lib.hid (gT R ts W0 (HI.out.below HB0.out))
 unfold kI at HN
 clear hW hI
 go_wp2_with fail
 refine HN.out.mono ?_
 rintro e w1 ⟨rfl,h2⟩
 have HB1:=Lib.hid (HB0.out.trans (h2.mono HB0.out.size))
 have HZ1:=Lib.hid ((h2.block _ (Array.getElem?_eq_some_iff.1 HZ0.out).1).trans HZ0.out)
 clear h2 HN HB0 HZ0
 go_upto_region 2 with fail
 obtain ⟨gt,hg⟩: ∃g,w1.heap.size=g:=⟨_,rfl⟩
 rw [hg]
 generalize hW:World.alloc w1 _=W2
 have HB2:Hid (Below w.heap.size w W2):=Lib.hid (by rw [← hW]; exact HB1.out.alloc HB1.out.size _)
 have HT2:Hid (W2.heap[gt]? =some (.cells #[.int .i64 ((nextK ts:Nat):Int),.string (tx (aI ts)),.int .i64 ((bF ts:Nat):Int)] 138 (0,0))):=Lib.hid (by rw [← hW,← hg]; exact heap_alloc_new _ _)
 have HZ2:Hid (W2.heap[w.heap.size]? =some (.cells zO 75 (0,0))):=Lib.hid (by rw [← hW]; exact (heap_alloc_old _ _ (Array.getElem?_eq_some_iff.1 HZ1.out).1).trans HZ1.out)
 have bW:Hid (R.br < w.heap.size∧w.heap.size < gt):=Lib.hid ⟨hlt,by rw [← hg]; exact (Array.getElem?_eq_some_iff.1 HZ1.out).1⟩
 obtain ⟨pos,hp,q0,q1,fq,HX⟩:=(HI.out.below HB2.out).open
 clear hW hg HB1 HZ1
 go_upto_region 3 with fail
 generalize hW:World.setCell W2 _ _=W3
 have HQ:Hid (bf W3 R ts.tail∧W2.grownBy W3 (some R.br)):=Lib.hid (by rw [← hW,nC.out]; exact HX.out t0 r0 nC.out)
 have Db:Hid (w.grownBy W3 (some R.br)):=Lib.hid (eY (bP HB2.out) HQ.out.2)
 have HT3:=Lib.hid ((HQ.out.2.block _ (Array.getElem?_eq_some_iff.1 HT2.out).1 (by have:=bW.out; simp; omega)).trans HT2.out)
 have HZ3:=Lib.hid ((HQ.out.2.block _ (Array.getElem?_eq_some_iff.1 HZ2.out).1 (by have:=bW.out; simp; omega)).trans HZ2.out)
 have UE:=Lib.hid HQ.out.1
 clear hW q0 q1 fq HX HB2 HT2 HZ2 HQ
 have K1: ∀w',Below W3.heap.size W3 w'→w'.cell? ⟨gt,1,none⟩=some (.string (tx (aI ts))):=fun w' h=>aB ((h.block _ (Array.getElem?_eq_some_iff.1 HT3.out).1).trans HT3.out) rfl
 have K2: ∀w',Below W3.heap.size W3 w'→w'.cell? ⟨gt,2,none⟩=some (.int .i64 ((bF ts:Nat):Int)):=fun w' h=>aB ((h.block _ (Array.getElem?_eq_some_iff.1 HT3.out).1).trans HT3.out) rfl
 refine gy (by kernel_rfl) rfl ?_
 refine fU 0 7 [] [[],[0],[0,1],[],[3],[0,1,2,3,4],[],[0,1,2,3,4,5,6]] [[],[],[],[],[],[],[]] (fun _ w'=>Below W3.heap.size W3 w') (fun w w'=>Below w.heap.size w w') [16,17,18,19,20,21,5] rfl rfl (by rfl) (by kernel_rfl) (by kernel_rfl) (by kernel_rfl) (by kernel_rfl) (by kernel_rfl) (by rfl) (fun _=>Below.refl _ _) (by rfl) (below_drewN (Below.refl _ _) 1) ?_
 simp only [List.take_succ_cons,List.take_zero,List.drop_zero,List.drop_succ_cons,mE,List.map_cons,List.map_nil]
 apply bg.step
 case aD=>
  intro c A w' hok hC hO hD
  have e4:=hO 4 (by rfl)
  simp [Act.eval] at e4
  simp [ay,ak,au,Act.eval,Region.binds] at hD
  simp [go_sem,gd,Oper.wp,hD,e4]
  exact aA.mk (Below.refl _ _) hC (ak.mk _ _)
 apply bg.step
 case aD=>
  intro c A w' hok hC hO hD
  simp [ay,ak,au,Act.eval,Region.binds] at hD
  simp [go_sem,gd,Oper.wp,hD,K1,hC]
  exact aA.mk (Below.refl _ _) hC (ak.mk _ _)
 apply bg.step
 case aD=>
  intro c A w' hok hC hO hD
  simp [ay,ak,au,Act.eval,Region.binds] at hD
  simp [go_sem,gd,Oper.wp,hD]
  refine (Av (tx (aI ts)) (l:=aI ts) (F8 _) w').mono ?_
  rintro e w2 ⟨rfl,rfl⟩
  exact aA.mk (Below.refl _ _) hC (ak.mk _ _)
 apply bg.step
 case aD=>
  intro c A w' hok hC hO hD
  have e4:=hO 4 (by rfl)
  simp [Act.eval] at e4
  simp [ay,ak,au,Act.eval,Region.binds] at hD
  simp [go_sem,gd,Oper.wp,hD,e4]
  exact aA.mk (Below.refl _ _) hC (ak.mk _ _)
 apply bg.step
 case aD=>
  intro c A w' hok hC hO hD
  simp [ay,ak,au,Act.eval,Region.binds] at hD
  simp [go_sem,gd,Oper.wp,hD,K2,hC]
  exact aA.mk (Below.refl _ _) hC (ak.mk _ _)
 simp only [List.nil_append,List.cons_append]
 apply bg.step
 case aD=>
  intro c A w' hok hC hO hD
  simp [ay,ak,au,Act.eval,Region.binds] at hD
  simp [go_sem,gd,Oper.wp,hD]
  exact aA.mk (Below.refl _ _) hC (ak.mk _ _)
 refine bg.some (fun v w'=> ∃db,v= .pointer (some ⟨db,0,none⟩)∧W3.heap.size≤db∧w'.heap[db]? =some (.cells zO 75 (0,0))) ?_ ?_ ?_
 ·rintro v w1 w' hle ⟨g,h1,h2,h3⟩
  exact ⟨g,h1,h2,(hle.block g (Array.getElem?_eq_some_iff.1 h3).1).trans h3⟩
 ·intro c A w' hok hC hO hD
  simp [go_sem,gd,Oper.wp]
  exact aA.mk (d:=_) (v:= .pointer (some ⟨_,0,none⟩)) (aj _ _) (hC.alloc hC.size _) ⟨_,rfl,hC.size,heap_alloc_new _ _⟩
 simp only [List.nil_append,List.cons_append]
 refine bg.done ?_
 intro wz fH
 simp only [List.drop_zero]
 intro v0 h0 v1 h1 v2 h2 v3 h3 v4 h4 v5 h5 v6 h6
 have h5':=Eq.symm (show v5=_ from h5)
 subst h5'
 obtain ⟨bd,rfl,Vi,EI⟩:=h6
 clear h0 h1 h2 h3 h4 h5 K1 K2
 have HD0:Hid ((⟨jE (aI ts),((bF ts:Nat):Int),⟨#[]⟩,0,0,⟨#[]⟩⟩:De).Ok):=Lib.hid ⟨by have:=Yk.out; show dR (jE _); unfold dR; omega,HL.out,Nat.zero_le _,tT,tT,Nat.zero_le _⟩
 have uZ:Hid (Below W3.heap.size W3 wz):=Lib.hid fH
 have Xd:Hid (W3.heap.size≤bd∧wz.heap[bd]? =some (.cells zO 75 (0,0))):=Lib.hid ⟨Vi,EI⟩
 clear fH Vi
 refine qx ?_
 go_simp
 refine gX 7 [[],[0],[0,1],[],[3],[0,1,2,3,4],[],[0,1,2,3,4,5,6]] rfl rfl rfl rfl rfl (by kernel_rfl) (by kernel_rfl) (by kernel_rfl) ?_
 refine wp_store_mid _ _ _ (by rfl) bd 0 (jB ⟨jE (aI ts),((bF ts:Nat):Int),⟨#[]⟩,0,0,⟨#[]⟩⟩).toArray (by rfl) (by rfl) (Bf EI (Nat.le_refl 6)) DX (by simp [jB,Value.oneCell']) ?_
 refine iG rfl ?_
 generalize Cc:World.setCells wz bd 0 _=W5
 have ko:Hid (w.heap.size < bd∧R.br < bd):=Lib.hid (by have h1:=Xd.out.1; have h2:=(Array.getElem?_eq_some_iff.1 HZ3.out).1; have h3:=bW.out; omega)
 have FQ:Hid (wz.grownBy W5 (some bd)):=Lib.hid (by rw [← Cc]; exact cB _ _ _ _)
 have jG:Hid (Pd R bd W5 ⟨jE (aI ts),((bF ts:Nat):Int),⟨#[]⟩,0,0,⟨#[]⟩⟩ ts.tail):=Lib.hid ⟨nU (UE.out.below uZ.out) FQ.out (by have:=ko.out; have:=R.b0; omega) (by have:=ko.out; omega),by have:=ko.out; omega,by have:=ko.out; have:=R.b0; omega,by rw [← Cc]; exact jR Xd.out.2 rfl,HD0.out⟩
 have F7:Hid (w.grownBy W5 (some R.br)):=Lib.hid (by rw [← Cc]; exact jK (eY Db.out (bP uZ.out)) _ _ _ (Nat.le_of_lt ko.out.1))
 have nZ:Hid (W5.heap[w.heap.size]? =some (.cells zO 75 (0,0))):=Lib.hid ((FQ.out.block _ (Nat.lt_of_lt_of_le (Array.getElem?_eq_some_iff.1 HZ3.out).1 uZ.out.size) (by have:=ko.out; simp; omega)).trans ((uZ.out.block _ (Array.getElem?_eq_some_iff.1 HZ3.out).1).trans HZ3.out))
 clear Cc FQ uZ Xd EI HD0 UE Db HT3 HZ3
 go_simp
 cases hn:isName ts.tail
 ·have HE:Hid (((gq ts.tail).bind fun s r=>jJ ⟨jE (aI ts),bF ts,s,0,0,⟨#[]⟩⟩ r).close [59]= .no ts.tail):=Lib.hid (by rw [nR hn]; rfl)
  go_wp2_with fail
  refine (jY R _ _ hn jG.out.rd).mono ?_
  rintro e w6 ⟨rfl,h2⟩
  have jV:=Lib.hid (jG.out.below h2)
  have I7:=Lib.hid (eY F7.out (bP h2))
  have FN:=Lib.hid ((h2.block _ (Array.getElem?_eq_some_iff.1 nZ.out).1).trans nZ.out)
  clear h2 jG F7 nZ
  have c2:=jV.out.cell (j:=2) rfl
  have f2:=jV.out.free 2
  go_upto_region 6 with fail
  generalize hW:World.setCell w6 _ _=W7
  have iN:Hid (Pd R bd W7 ⟨jE (aI ts),((bF ts:Nat):Int),⟨#[]⟩,0,0,⟨#[]⟩⟩ ts.tail):=Lib.hid (by rw [← hW]; exact jV.out.nm ⟨#[]⟩ (Nat.zero_le _))
  have xY:Hid (w.grownBy W7 (some R.br)):=Lib.hid (by rw [← hW]; exact rW I7.out _ _ (Nat.le_of_lt ko.out.1))
  have zK:Hid (W7.heap[w.heap.size]? =some (.cells zO 75 (0,0))):=Lib.hid (by rw [← hW]; exact (bJ w6 _ _ rfl (by have:=ko.out; show bd≠_; omega)).trans FN.out)
  clear hW jV I7 FN c2 f2
  obtain ⟨⟨y0,y1,y2,y3,y4,y5⟩,fz⟩:=z6 zK.out
  have g0:=fz 0
  have g1:=fz 1
  have g2:=fz 2
  have g3:=fz 3
  have g4:=fz 4
  have g5:=fz 5
  obtain ⟨d0,d1,d2,d3,d4,d5⟩:=Qq iN.out
  clear fz
  go_wp2_with fail
  exact bodyPost_ret (v:= .tuple #[xw ⟨jE (aI ts),((bF ts:Nat):Int),⟨#[]⟩,0,0,⟨#[]⟩⟩,.bool false]) (by simp [results,Tryz.results63,go_sem,xw,y0,y1,y2,y3,y4,y5]) rfl (Jf HE.out iN.out.rd xY.out bW.out.1)
 ·have qN:Hid ((tx (aI ts.tail)).size≤maxLen):=Lib.hid (mM (mU jG.out.rd.ts hn))
  have HE:Hid (((gq ts.tail).bind fun s r=>jJ ⟨jE (aI ts),bF ts,s,0,0,⟨#[]⟩⟩ r).close [59]=(jJ ⟨jE (aI ts),bF ts,tx (aI ts.tail),0,0,⟨#[]⟩⟩ ts.tail.tail).close [59]):=Lib.hid (by rw [kM hn]; rfl)
  go_wp2_with fail
  refine (jr R _ _ hn jG.out.rd).mono ?_
  rintro e w6 ⟨rfl,h2,h3⟩
  have jV:=Lib.hid (jG.out.then h2 h3)
  have I7:=Lib.hid (eY F7.out h3)
  have FN:=Lib.hid ((h3.block _ (Array.getElem?_eq_some_iff.1 nZ.out).1 (by have:=bW.out; simp; omega)).trans nZ.out)
  clear h2 h3 jG F7 nZ
  have c2:=jV.out.cell (j:=2) rfl
  have f2:=jV.out.free 2
  go_upto_region 6 with fail
  generalize hW:World.setCell w6 _ _=W7
  have iN:Hid (Pd R bd W7 ⟨jE (aI ts),((bF ts:Nat):Int),tx (aI ts.tail),0,0,⟨#[]⟩⟩ ts.tail.tail):=Lib.hid (by rw [← hW]; exact jV.out.nm _ qN.out)
  have xY:Hid (w.grownBy W7 (some R.br)):=Lib.hid (by rw [← hW]; exact rW I7.out _ _ (Nat.le_of_lt ko.out.1))
  have zK:Hid (W7.heap[w.heap.size]? =some (.cells zO 75 (0,0))):=Lib.hid (by rw [← hW]; exact (bJ w6 _ _ rfl (by have:=ko.out; show bd≠_; omega)).trans FN.out)
  clear hW jV I7 FN c2 f2
  obtain ⟨dd,Ya⟩: ∃dd,Hid ((⟨jE (aI ts),((bF ts:Nat):Int),tx (aI ts.tail),0,0,⟨#[]⟩⟩:De)=dd):=⟨_,Lib.hid rfl⟩
  have HKK:Hid (dd.kind=jE (aI ts)):=Lib.hid (by rw [← Ya.out])
  rw [Ya.out] at iN HE
  obtain ⟨r1,HR1⟩: ∃r1,Hid (ts.tail.tail=r1):=⟨_,Lib.hid rfl⟩
  rw [HR1.out] at iN HE
  have c0:W7.cell? ⟨bd,0,none⟩=some (.int .i64 dd.kind):=iN.out.cell rfl
  have HRK:=Lib.hid (show jJ dd r1=jJ dd r1 from rfl)
  go_upto_block 0 with fail
  go_cut [6] (fun s6 W'=> ∃d r2 b,s6= .bool b∧Pd R bd W' d r2∧w.grownBy W' (some R.br)∧W'.heap[w.heap.size]? =some (.cells zO 75 (0,0))∧jJ dd r1=if b then .ok d r2 else .no r2)
  case first=>
   cases k1:(dd.kind == 1)
   ·cases k2:(dd.kind == 2)
    ·cases k5:(dd.kind == 5)
     ·have HQ:Hid (jJ dd r1= .ok dd r1):=Lib.hid (by unfold jJ; rw [if_neg (by rw [k1]; decide),if_neg (by rw [k2]; decide),if_neg (by rw [k5]; decide)])
      go_wp2_with fail
      go_meet
      exact ⟨dd,r1,true,rfl,iN.out,xY.out,zK.out,HQ.out⟩
     ·have HQ:Hid (jJ dd r1=(gq r1).map (fun o=> {dd with on:=o})):=Lib.hid (by unfold jJ; rw [if_neg (by rw [k1]; decide),if_neg (by rw [k2]; decide),if_pos k5])
      cases hm:isName r1
      ·go_wp2_with fail
       refine (jY R _ _ hm iN.out.rd).mono ?_
       rintro e w8 ⟨rfl,h2⟩
       have mG:=Lib.hid (iN.out.below h2)
       have xS:=Lib.hid (eY xY.out (bP h2))
       have E5:=Lib.hid ((h2.block _ (Array.getElem?_eq_some_iff.1 zK.out).1).trans zK.out)
       clear h2
       have c5:=mG.out.cell (j:=5) rfl
       have f5:=mG.out.free 5
       go_wp2_with fail
       go_meet
       exact ⟨_,r1,false,rfl,mG.out.on ⟨#[]⟩ (Nat.zero_le _),rW xS.out _ _ (Nat.le_of_lt ko.out.1),(bJ w8 _ _ rfl (by have:=ko.out; show bd≠_; omega)).trans E5.out,HQ.out.trans (by rw [nR hm]; rfl)⟩
      ·have Fa:Hid ((tx (aI r1)).size≤maxLen):=Lib.hid (mM (mU iN.out.rd.ts hm))
       go_wp2_with fail
       refine (jr R _ _ hm iN.out.rd).mono ?_
       rintro e w8 ⟨rfl,h2,h3⟩
       have mG:=Lib.hid (iN.out.then h2 h3)
       have xS:=Lib.hid (eY xY.out h3)
       have E5:=Lib.hid ((h3.block _ (Array.getElem?_eq_some_iff.1 zK.out).1 (by have:=bW.out; simp; omega)).trans zK.out)
       clear h2 h3
       have c5:=mG.out.cell (j:=5) rfl
       have f5:=mG.out.free 5
       go_wp2_with fail
       go_meet
       exact ⟨_,r1.tail,true,rfl,mG.out.on _ Fa.out,rW xS.out _ _ (Nat.le_of_lt ko.out.1),(bJ w8 _ _ rfl (by have:=ko.out; show bd≠_; omega)).trans E5.out,HQ.out.trans (by rw [kM hm]; rfl)⟩
    ·have HQ:Hid (jJ dd r1=jI dd r1):=Lib.hid (by unfold jJ; rw [if_neg (by rw [k1]; decide),if_pos k2])
     have HC:=Lib.hid (Co R bd r1 dd W7 iN.out)
     obtain ⟨CP,GY⟩: ∃CP,Hid (jJ dd r1=CP):=⟨_,Lib.hid rfl⟩
     rw [← HQ.out,GY.out] at HC
     clear HQ
     cases CP with
     | no q=>
       go_wp2_with fail
       refine HC.out.mono ?_
       rintro e w9 ⟨rfl,⟨d',h2⟩,h3⟩
       have tY:=Lib.hid h2
       have Ap:=Lib.hid h3
       clear h2 h3
       go_wp2_with fail
       go_meet
       exact ⟨d',q,false,rfl,tY.out,yA xY.out Ap.out (Nat.le_of_lt ko.out.1),gP Ap.out zK.out (by have:=bW.out; omega) (by have:=ko.out; omega),GY.out⟩
     | ok d' q=>
       go_wp2_with fail
       refine HC.out.mono ?_
       rintro e w9 ⟨rfl,h2,h3⟩
       have tY:=Lib.hid h2
       have Ap:=Lib.hid h3
       clear h2 h3
       go_wp2_with fail
       go_meet
       exact ⟨d',q,true,rfl,tY.out,yA xY.out Ap.out (Nat.le_of_lt ko.out.1),gP Ap.out zK.out (by have:=bW.out; omega) (by have:=ko.out; omega),GY.out⟩
   ·have HQ:Hid (jJ dd r1=(nJ dd r1).bind jI):=Lib.hid (by unfold jJ; rw [if_pos k1])
    have HC:=Lib.hid (Qw R bd r1 dd W7 iN.out)
    cases hs:nJ dd r1 with
    | no q=>
      rw [hs] at HC HQ
      go_wp2_with fail
      refine HC.out.mono ?_
      rintro e w8 ⟨rfl,⟨d',h2⟩,h3⟩
      have mG:=Lib.hid h2
      have Ny:=Lib.hid h3
      clear h2 h3
      go_wp2_with fail
      go_meet
      exact ⟨d',q,false,rfl,mG.out,yA xY.out Ny.out (Nat.le_of_lt ko.out.1),gP Ny.out zK.out (by have:=bW.out; omega) (by have:=ko.out; omega),HQ.out⟩
    | ok d2 q=>
      rw [hs] at HC HQ
      have xK:Hid (jJ dd r1=jI d2 q):=Lib.hid HQ.out
      have Yn:Hid (∀W,Pd R bd W d2 q→Calls Tryz.prog 100 #[.pointer (some ⟨R.br,0,none⟩),.pointer (some ⟨bd,0,none⟩)] W (Nl R bd W (jI d2 q))):=Lib.hid (fun W h=>Co R bd q d2 W h)
      clear HQ hs
      go_wp2_with fail
      refine HC.out.mono ?_
      rintro e w8 ⟨rfl,h2,h3⟩
      have mG:=Lib.hid h2
      have xS:=Lib.hid (yA xY.out h3 (Nat.le_of_lt ko.out.1))
      have E5:=Lib.hid (gP h3 zK.out (by have:=bW.out; omega) (by have:=ko.out; omega))
      clear h2 h3 HC
      have HC:=Lib.hid (Yn.out _ mG.out)
      have HQ:=xK
      clear xK Yn
      obtain ⟨CP,GY⟩: ∃CP,Hid (jJ dd r1=CP):=⟨_,Lib.hid rfl⟩
      rw [← HQ.out,GY.out] at HC
      clear HQ
      cases CP with
      | no q=>
        go_wp2_with fail
        refine HC.out.mono ?_
        rintro e w9 ⟨rfl,⟨d',h2⟩,h3⟩
        have tY:=Lib.hid h2
        have Ap:=Lib.hid h3
        clear h2 h3
        go_wp2_with fail
        go_meet
        exact ⟨d',q,false,rfl,tY.out,yA xS.out Ap.out (Nat.le_of_lt ko.out.1),gP Ap.out E5.out (by have:=bW.out; omega) (by have:=ko.out; omega),GY.out⟩
      | ok d' q=>
        go_wp2_with fail
        refine HC.out.mono ?_
        rintro e w9 ⟨rfl,h2,h3⟩
        have tY:=Lib.hid h2
        have Ap:=Lib.hid h3
        clear h2 h3
        go_wp2_with fail
        go_meet
        exact ⟨d',q,true,rfl,tY.out,yA xS.out Ap.out (Nat.le_of_lt ko.out.1),gP Ap.out E5.out (by have:=bW.out; omega) (by have:=ko.out; omega),GY.out⟩
  obtain ⟨dz,rz,bz,rfl,YR,Yr,hZ,YZ⟩:=hcut
  obtain ⟨W8,rfl⟩: ∃W:World,W=wc:=⟨_,rfl⟩
  have mG:=Lib.hid YR
  have xS:=Lib.hid Yr
  have E5:=Lib.hid hZ
  have Xb:=Lib.hid (HE.out.trans (congrArg (fun x=>bK.close [59] x) YZ))
  clear YR Yr hZ YZ iN xY zK HRK c0
  have KD: ∀w',W8.grownBy w' (some R.br)→(w'.cell? ⟨bd,0,none⟩=some (.int .i64 dz.kind)∧w'.cell? ⟨bd,1,none⟩=some (.int .i64 dz.line)∧w'.cell? ⟨bd,2,none⟩=some (.string dz.nm)∧w'.cell? ⟨bd,3,none⟩=some (.int .i64 dz.size)∧w'.cell? ⟨bd,4,none⟩=some (.int .i64 dz.init)∧w'.cell? ⟨bd,5,none⟩=some (.string dz.on)):=fun w' h=>by
   have hb:=(h.block _ mG.out.lt (by simp; exact mG.out.ne)).trans mG.out.blk
   exact ⟨aB hb rfl,aB hb rfl,aB hb rfl,aB hb rfl,aB hb rfl,aB hb rfl⟩
  have Wx:Hid (bf W8 R rz):=Lib.hid mG.out.rd
  have e0: ∀w',W8.grownBy w' (some R.br)→w'.heap[w.heap.size]? =some (.cells zO 75 (0,0)):=fun w' h=>(h.block _ (Array.getElem?_eq_some_iff.1 E5.out).1 (by have:=bW.out; simp; omega)).trans E5.out
  have Bg:=Lib.hid e0
  clear e0
  cases bz
  ·have ou:Hid (((gq ts.tail).bind fun s r=>jJ ⟨jE (aI ts),bF ts,s,0,0,⟨#[]⟩⟩ r).close [59]= .no rz):=Lib.hid Xb.out
   go_upto_region 15 with fail
   refine gy (by kernel_rfl) rfl ?_
   refine fU 0 8 [4,6] [[],[],[1],[1,2],[1,2,3],[1,2,3,4],[0,1,2,3,4],[0,1,2,3,4,5,6]] [[none,some false],[some false,some false],[some false,some false],[some false,some false],[some false,some false],[some true,none],[some true,some false],[some true,some true]] (jw (fun w'=>bf w' R rz∧W8.grownBy w' (some R.br)) (fun w'=>bf w' R rz∧W8.grownBy w' (some R.br)) (fun w'=> ∃w2,(bf w2 R rz∧W8.grownBy w2 (some R.br))∧w'=w2.setCells w.heap.size 0 (jB dz))) (fun _ _=>True) [53,54,55,56,57,58,3] rfl rfl (by rfl) (by kernel_rfl) (by kernel_rfl) (by kernel_rfl) (by kernel_rfl) (by kernel_rfl) (by rfl) (fun _=>trivial) (by rfl) ⟨Wx.out.below (below_drewN (Below.refl _ _) 1),bP (below_drewN (Below.refl _ _) 1)⟩ ?_
   simp only [List.take_succ_cons,List.take_zero,List.drop_zero,List.drop_succ_cons,mE,List.map_cons,List.map_nil]
   apply bg.step
   case aD=>
    intro c A w' hok hC hO hD
    obtain ⟨x,y,rfl⟩:=hC.bits
    obtain ⟨rfl,-⟩:=hok
    obtain ⟨d0,d1,d2,d3,d4,d5⟩:=KD w' (hC.gr (fun _ h=>h.2) (fun _ h=>h.2))
    have e5:=hO 5 (by rfl)
    simp [Act.eval] at e5
    simp [ay,ak,au,Act.eval,Region.binds] at hD
    simp [go_sem,gd,Oper.wp,e5,d0,d1,d2,d3,d4,d5]
    exact aA.mk trivial (jw.skip (by rfl) (by rfl) hC) (ak.mk _ _)
   apply bg.step
   case aD=>
    intro c A w' hok hC hO hD
    have e6:=hO 6 (by rfl)
    simp [Act.eval] at e6
    simp [ay,ak,au,Act.eval,Region.binds] at hD
    simp [go_sem,gd,Oper.wp,hD,e6]
    exact aA.mk trivial (jw.skip (by rfl) (by rfl) hC) (ak.mk _ _)
   apply bg.step
   case aD=>
    intro c A w' hok hC hO hD
    simp [ay,ak,au,Act.eval,Region.binds] at hD
    simp [go_sem,gd,Oper.wp,hD]
    exact aA.mk trivial (jw.skip (by rfl) (by rfl) hC) (ak.mk _ _)
   refine bg.step (v:=undef) ?_ ?_
   ·intro c A w' hok hC hO hD
    simp [ay,ak,au,Act.eval,Region.binds] at hD
    simp [gd,Act.eval,hD]
    exact ⟨(jw.skip (by rfl) (by rfl) hC),ak.mk _ _⟩
   refine bg.step (v:=undef) ?_ ?_
   ·intro c A w' hok hC hO hD
    obtain ⟨x,y,rfl⟩:=hC.bits
    obtain ⟨rfl,rfl,-⟩:=hok
    simp [ay,ak,au,Act.eval,Region.binds] at hD
    simp [gd,Act.eval,hD]
    exact ⟨jw.fire (by rfl) (by rfl) hC,ak.mk _ _⟩
   simp only [List.nil_append,List.cons_append]
   apply bg.step
   case aD=>
    intro c A w' hok hC hO hD
    simp [ay,ak,au,Act.eval,Region.binds] at hD
    simp [go_sem,gd,Oper.wp,hD]
    exact aA.mk trivial (jw.skip (by rfl) (by rfl) hC) (ak.mk _ _)
   refine bg.some (fun _ _=>True) (fun _ _ _ _ _=>trivial) ?_ ?_
   ·intro c A w' hok hC hO hD
    obtain ⟨x,y,rfl⟩:=hC.bits
    obtain ⟨rfl,rfl,-⟩:=hok
    have e2:=hO 2 (by rfl)
    simp [Act.eval] at e2
    simp [ay,ak,au,Act.eval,Region.binds] at hD
    simp only [gd,if_true]
    refine wp_store_mid _ _ _ (by rfl) w.heap.size 0 (jB dz).toArray (by simp [Act.eval,e2]) (by simp [Act.eval,hD,jB]) (Bf (Bg.out w' hC.2) (Nat.le_refl 6)) DX (by simp [jB,Value.oneCell']) ?_
    exact aA.Gh trivial (jw.last (by rfl) (by rfl) ⟨w',hC,rfl⟩) trivial
   apply bg.step
   case aD=>
    intro c A w' hok hC hO hD
    simp [ay,ak,au,Act.eval,Region.binds] at hD
    simp [go_sem,gd,Oper.wp,hD]
    exact aA.mk trivial (jw.skip (by rfl) (by rfl) hC) (ak.mk _ _)
   try simp only [List.nil_append,List.cons_append]
   refine bg.done ?_
   intro w9 G5
   try simp only [List.drop_succ_cons,List.drop_zero]
   intro x0 h0 x1 h1 x2 h2 x3 h3 x4 h4 x5 h5 x6 h6 x7 h7
   have Bv:=Eq.symm (show x7=_ from h7)
   subst Bv
   clear h0 h1 h2 h3 h4 h5 h6 h7
   refine qx ?_
   refine iG rfl ?_
   obtain ⟨w2,hw2,xE⟩: ∃w2,(bf w2 R _∧W8.grownBy w2 (some R.br))∧w9=w2.setCells w.heap.size 0 (jB dz):=G5
   have jA:w9.heap[w.heap.size]? =some (.cells (jB dz).toArray 75 (0,0)):=by rw [xE]; exact jR (Bg.out w2 hw2.2) rfl
   have Nt:=Lib.hid xE
   have y0:w9.cell? ⟨w.heap.size,0,none⟩=some (.int .i64 dz.kind):=aB jA rfl
   have y1:w9.cell? ⟨w.heap.size,1,none⟩=some (.int .i64 dz.line):=aB jA rfl
   have y2:w9.cell? ⟨w.heap.size,2,none⟩=some (.string dz.nm):=aB jA rfl
   have y3:w9.cell? ⟨w.heap.size,3,none⟩=some (.int .i64 dz.size):=aB jA rfl
   have y4:w9.cell? ⟨w.heap.size,4,none⟩=some (.int .i64 dz.init):=aB jA rfl
   have y5:w9.cell? ⟨w.heap.size,5,none⟩=some (.string dz.on):=aB jA rfl
   have Ga:=Lib.hid (Jf (d:=dz) ou.out hw2.1 (eY xS.out hw2.2) bW.out.1)
   rw [← xE] at Ga
   clear xE jA KD
   go_simp
   go_wp2_with fail
   exact bodyPost_ret (v:= .tuple #[xw dz,.bool false]) (by simp [results,Tryz.results63,go_sem,xw,y0,y1,y2,y3,y4,y5]) rfl Ga.out
  ·cases h4:at' [59] rz
   ·have ou:Hid (((gq ts.tail).bind fun s r=>jJ ⟨jE (aI ts),bF ts,s,0,0,⟨#[]⟩⟩ r).close [59]= .no rz):=Lib.hid (Xb.out.trans (nK h4))
    go_upto_region 15 with fail
    refine gy (by kernel_rfl) rfl ?_
    refine fU 0 8 [4,6] [[],[],[1],[1,2],[1,2,3],[1,2,3,4],[0,1,2,3,4],[0,1,2,3,4,5,6]] [[none,some false],[some false,some false],[some false,some false],[some false,some false],[some false,some false],[some true,none],[some true,some false],[some true,some true]] (jw (fun w'=>bf w' R rz∧W8.grownBy w' (some R.br)) (fun w'=>bf w' R rz∧W8.grownBy w' (some R.br)) (fun w'=> ∃w2,(bf w2 R rz∧W8.grownBy w2 (some R.br))∧w'=w2.setCells w.heap.size 0 (jB dz))) (fun _ _=>True) [53,54,55,56,57,58,3] rfl rfl (by rfl) (by kernel_rfl) (by kernel_rfl) (by kernel_rfl) (by kernel_rfl) (by kernel_rfl) (by rfl) (fun _=>trivial) (by rfl) ⟨Wx.out.below (below_drewN (Below.refl _ _) 1),bP (below_drewN (Below.refl _ _) 1)⟩ ?_
    simp only [List.take_succ_cons,List.take_zero,List.drop_zero,List.drop_succ_cons,mE,List.map_cons,List.map_nil]
    apply bg.step
    case aD=>
     intro c A w' hok hC hO hD
     obtain ⟨x,y,rfl⟩:=hC.bits
     obtain ⟨rfl,-⟩:=hok
     obtain ⟨d0,d1,d2,d3,d4,d5⟩:=KD w' (hC.gr (fun _ h=>h.2) (fun _ h=>h.2))
     have e5:=hO 5 (by rfl)
     simp [Act.eval] at e5
     simp [ay,ak,au,Act.eval,Region.binds] at hD
     simp [go_sem,gd,Oper.wp,e5,d0,d1,d2,d3,d4,d5]
     exact aA.mk trivial (jw.skip (by rfl) (by rfl) hC) (ak.mk _ _)
    apply bg.step
    case aD=>
     intro c A w' hok hC hO hD
     have e6:=hO 6 (by rfl)
     simp [Act.eval] at e6
     simp [ay,ak,au,Act.eval,Region.binds] at hD
     simp [go_sem,gd,Oper.wp,hD,e6]
     exact aA.mk trivial (jw.skip (by rfl) (by rfl) hC) (ak.mk _ _)
    apply bg.step
    case aD=>
     intro c A w' hok hC hO hD
     simp [ay,ak,au,Act.eval,Region.binds] at hD
     simp [go_sem,gd,Oper.wp,hD]
     exact aA.mk trivial (jw.skip (by rfl) (by rfl) hC) (ak.mk _ _)
    apply bg.step
    case aD=>
     intro c A w' hok hC hO hD
     have e0:=hO 0 (by rfl)
     simp [Act.eval] at e0
     simp [ay,ak,au,Act.eval,Region.binds] at hD
     simp [go_sem,gd,Oper.wp,hD,e0]
     exact aA.mk trivial (jw.skip (by rfl) (by rfl) hC) (ak.mk _ _)
    apply bg.step
    case aD=>
     intro c A w' hok hC hO hD
     obtain ⟨x,y,rfl⟩:=hC.bits
     obtain ⟨rfl,rfl,-⟩:=hok
     simp [ay,ak,au,Act.eval,Region.binds] at hD
     simp [go_sem,gd,Oper.wp,hD]
     refine (dU R _ _ ⟨#[59]⟩ rfl h4 hC.1).mono ?_
     rintro e w3 ⟨rfl,k2⟩
     exact aA.mk trivial (jw.fire (by rfl) (by rfl) ⟨hC.1.below k2,eY hC.2 (bP k2)⟩) (ak.mk _ _)
    simp only [List.nil_append,List.cons_append]
    apply bg.step
    case aD=>
     intro c A w' hok hC hO hD
     simp [ay,ak,au,Act.eval,Region.binds] at hD
     simp [go_sem,gd,Oper.wp,hD]
     exact aA.mk trivial (jw.skip (by rfl) (by rfl) hC) (ak.mk _ _)
    refine bg.some (fun _ _=>True) (fun _ _ _ _ _=>trivial) ?_ ?_
    ·intro c A w' hok hC hO hD
     obtain ⟨x,y,rfl⟩:=hC.bits
     obtain ⟨rfl,rfl,-⟩:=hok
     have e2:=hO 2 (by rfl)
     simp [Act.eval] at e2
     simp [ay,ak,au,Act.eval,Region.binds] at hD
     simp only [gd,if_true]
     refine wp_store_mid _ _ _ (by rfl) w.heap.size 0 (jB dz).toArray (by simp [Act.eval,e2]) (by simp [Act.eval,hD,jB]) (Bf (Bg.out w' hC.2) (Nat.le_refl 6)) DX (by simp [jB,Value.oneCell']) ?_
     exact aA.Gh trivial (jw.last (by rfl) (by rfl) ⟨w',hC,rfl⟩) trivial
    apply bg.step
    case aD=>
     intro c A w' hok hC hO hD
     simp [ay,ak,au,Act.eval,Region.binds] at hD
     simp [go_sem,gd,Oper.wp,hD]
     exact aA.mk trivial (jw.skip (by rfl) (by rfl) hC) (ak.mk _ _)
    try simp only [List.nil_append,List.cons_append]
    refine bg.done ?_
    intro w9 G5
    try simp only [List.drop_succ_cons,List.drop_zero]
    intro x0 h0 x1 h1 x2 h2 x3 h3 x4 h4 x5 h5 x6 h6 x7 h7
    have Bv:=Eq.symm (show x7=_ from h7)
    subst Bv
    clear h0 h1 h2 h3 h4 h5 h6 h7
    refine qx ?_
    refine iG rfl ?_
    obtain ⟨w2,hw2,xE⟩: ∃w2,(bf w2 R _∧W8.grownBy w2 (some R.br))∧w9=w2.setCells w.heap.size 0 (jB dz):=G5
    have jA:w9.heap[w.heap.size]? =some (.cells (jB dz).toArray 75 (0,0)):=by rw [xE]; exact jR (Bg.out w2 hw2.2) rfl
    have Nt:=Lib.hid xE
    have y0:w9.cell? ⟨w.heap.size,0,none⟩=some (.int .i64 dz.kind):=aB jA rfl
    have y1:w9.cell? ⟨w.heap.size,1,none⟩=some (.int .i64 dz.line):=aB jA rfl
    have y2:w9.cell? ⟨w.heap.size,2,none⟩=some (.string dz.nm):=aB jA rfl
    have y3:w9.cell? ⟨w.heap.size,3,none⟩=some (.int .i64 dz.size):=aB jA rfl
    have y4:w9.cell? ⟨w.heap.size,4,none⟩=some (.int .i64 dz.init):=aB jA rfl
    have y5:w9.cell? ⟨w.heap.size,5,none⟩=some (.string dz.on):=aB jA rfl
    have Ga:=Lib.hid (Jf (d:=dz) ou.out hw2.1 (eY xS.out hw2.2) bW.out.1)
    rw [← xE] at Ga
    clear xE jA KD
    go_simp
    go_wp2_with fail
    exact bodyPost_ret (v:= .tuple #[xw dz,.bool false]) (by simp [results,Tryz.results63,go_sem,xw,y0,y1,y2,y3,y4,y5]) rfl Ga.out
   ·have ou:Hid (((gq ts.tail).bind fun s r=>jJ ⟨jE (aI ts),bF ts,s,0,0,⟨#[]⟩⟩ r).close [59]= .ok dz rz.tail):=Lib.hid (Xb.out.trans (nX h4))
    go_upto_region 15 with fail
    refine gy (by kernel_rfl) rfl ?_
    refine fU 0 8 [4,6] [[],[],[1],[1,2],[1,2,3],[1,2,3,4],[0,1,2,3,4],[0,1,2,3,4,5,6]] [[none,some false],[some false,some false],[some false,some false],[some false,some false],[some false,some false],[some true,none],[some true,some false],[some true,some true]] (jw (fun w'=>bf w' R rz∧W8.grownBy w' (some R.br)) (fun w'=>bf w' R rz.tail∧W8.grownBy w' (some R.br)) (fun w'=> ∃w2,(bf w2 R rz.tail∧W8.grownBy w2 (some R.br))∧w'=w2.setCells w.heap.size 0 (jB dz))) (fun _ _=>True) [53,54,55,56,57,58,3] rfl rfl (by rfl) (by kernel_rfl) (by kernel_rfl) (by kernel_rfl) (by kernel_rfl) (by kernel_rfl) (by rfl) (fun _=>trivial) (by rfl) ⟨Wx.out.below (below_drewN (Below.refl _ _) 1),bP (below_drewN (Below.refl _ _) 1)⟩ ?_
    simp only [List.take_succ_cons,List.take_zero,List.drop_zero,List.drop_succ_cons,mE,List.map_cons,List.map_nil]
    apply bg.step
    case aD=>
     intro c A w' hok hC hO hD
     obtain ⟨x,y,rfl⟩:=hC.bits
     obtain ⟨rfl,-⟩:=hok
     obtain ⟨d0,d1,d2,d3,d4,d5⟩:=KD w' (hC.gr (fun _ h=>h.2) (fun _ h=>h.2))
     have e5:=hO 5 (by rfl)
     simp [Act.eval] at e5
     simp [ay,ak,au,Act.eval,Region.binds] at hD
     simp [go_sem,gd,Oper.wp,e5,d0,d1,d2,d3,d4,d5]
     exact aA.mk trivial (jw.skip (by rfl) (by rfl) hC) (ak.mk _ _)
    apply bg.step
    case aD=>
     intro c A w' hok hC hO hD
     have e6:=hO 6 (by rfl)
     simp [Act.eval] at e6
     simp [ay,ak,au,Act.eval,Region.binds] at hD
     simp [go_sem,gd,Oper.wp,hD,e6]
     exact aA.mk trivial (jw.skip (by rfl) (by rfl) hC) (ak.mk _ _)
    apply bg.step
    case aD=>
     intro c A w' hok hC hO hD
     simp [ay,ak,au,Act.eval,Region.binds] at hD
     simp [go_sem,gd,Oper.wp,hD]
     exact aA.mk trivial (jw.skip (by rfl) (by rfl) hC) (ak.mk _ _)
    apply bg.step
    case aD=>
     intro c A w' hok hC hO hD
     have e0:=hO 0 (by rfl)
     simp [Act.eval] at e0
     simp [ay,ak,au,Act.eval,Region.binds] at hD
     simp [go_sem,gd,Oper.wp,hD,e0]
     exact aA.mk trivial (jw.skip (by rfl) (by rfl) hC) (ak.mk _ _)
    apply bg.step
    case aD=>
     intro c A w' hok hC hO hD
     obtain ⟨x,y,rfl⟩:=hC.bits
     obtain ⟨rfl,rfl,-⟩:=hok
     simp [ay,ak,au,Act.eval,Region.binds] at hD
     simp [go_sem,gd,Oper.wp,hD]
     refine (cu R _ _ ⟨#[59]⟩ rfl h4 hC.1).mono ?_
     rintro e w3 ⟨rfl,k2,k3⟩
     exact aA.mk trivial (jw.fire (by rfl) (by rfl) ⟨k2,eY hC.2 k3⟩) (ak.mk _ _)
    simp only [List.nil_append,List.cons_append]
    apply bg.step
    case aD=>
     intro c A w' hok hC hO hD
     simp [ay,ak,au,Act.eval,Region.binds] at hD
     simp [go_sem,gd,Oper.wp,hD]
     exact aA.mk trivial (jw.skip (by rfl) (by rfl) hC) (ak.mk _ _)
    refine bg.some (fun _ _=>True) (fun _ _ _ _ _=>trivial) ?_ ?_
    ·intro c A w' hok hC hO hD
     obtain ⟨x,y,rfl⟩:=hC.bits
     obtain ⟨rfl,rfl,-⟩:=hok
     have e2:=hO 2 (by rfl)
     simp [Act.eval] at e2
     simp [ay,ak,au,Act.eval,Region.binds] at hD
     simp only [gd,if_true]
     refine wp_store_mid _ _ _ (by rfl) w.heap.size 0 (jB dz).toArray (by simp [Act.eval,e2]) (by simp [Act.eval,hD,jB]) (Bf (Bg.out w' hC.2) (Nat.le_refl 6)) DX (by simp [jB,Value.oneCell']) ?_
     exact aA.Gh trivial (jw.last (by rfl) (by rfl) ⟨w',hC,rfl⟩) trivial
    apply bg.step
    case aD=>
     intro c A w' hok hC hO hD
     simp [ay,ak,au,Act.eval,Region.binds] at hD
     simp [go_sem,gd,Oper.wp,hD]
     exact aA.mk trivial (jw.skip (by rfl) (by rfl) hC) (ak.mk _ _)
    try simp only [List.nil_append,List.cons_append]
    refine bg.done ?_
    intro w9 G5
    try simp only [List.drop_succ_cons,List.drop_zero]
    intro x0 h0 x1 h1 x2 h2 x3 h3 x4 h4 x5 h5 x6 h6 x7 h7
    have Bv:=Eq.symm (show x7=_ from h7)
    subst Bv
    clear h0 h1 h2 h3 h4 h5 h6 h7
    refine qx ?_
    refine iG rfl ?_
    obtain ⟨w2,hw2,xE⟩: ∃w2,(bf w2 R _∧W8.grownBy w2 (some R.br))∧w9=w2.setCells w.heap.size 0 (jB dz):=G5
    have jA:w9.heap[w.heap.size]? =some (.cells (jB dz).toArray 75 (0,0)):=by rw [xE]; exact jR (Bg.out w2 hw2.2) rfl
    have Nt:=Lib.hid xE
    have y0:w9.cell? ⟨w.heap.size,0,none⟩=some (.int .i64 dz.kind):=aB jA rfl
    have y1:w9.cell? ⟨w.heap.size,1,none⟩=some (.int .i64 dz.line):=aB jA rfl
    have y2:w9.cell? ⟨w.heap.size,2,none⟩=some (.string dz.nm):=aB jA rfl
    have y3:w9.cell? ⟨w.heap.size,3,none⟩=some (.int .i64 dz.size):=aB jA rfl
    have y4:w9.cell? ⟨w.heap.size,4,none⟩=some (.int .i64 dz.init):=aB jA rfl
    have y5:w9.cell? ⟨w.heap.size,5,none⟩=some (.string dz.on):=aB jA rfl
    have Ga:=Lib.hid (UH (d:=dz) ou.out mG.out.ok hw2.1 (eY xS.out hw2.2) bW.out.1)
    rw [← xE] at Ga
    clear xE jA KD
    go_simp
    go_wp2_with fail
    exact bodyPost_ret (v:= .tuple #[xw dz,.bool true]) (by simp [results,Tryz.results63,go_sem,xw,y0,y1,y2,y3,y4,y5]) rfl Ga.out
end Go.Proofs.YtdajkddgnfgijaaGreatDoor
end
