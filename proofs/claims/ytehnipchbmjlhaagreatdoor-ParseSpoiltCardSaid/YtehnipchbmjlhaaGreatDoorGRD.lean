/-
  Contract of the reader's block; of all that read statements.
  A declaration under way, in memory; contracts of the reader's size and initial.
  Contract of the reader's declaration.
-/
import Derived.Test.YtehnipchbmjlhaaGreatDoorGPrB4
import Derived.Deep.AppendLies
import Derived.Test.YtehnipchbmjlhaaGreatDoorGMB
import Derived.Deep.MidRow
set_option linter.unusedSimpArgs false
set_option linter.unusedVariables false
set_option maxHeartbeats 40000000
set_option maxRecDepth 1000000
section
namespace Go.Proofs.YtehnipchbmjlhaaGreatDoor
open Go.RowKit
open Md Pz
theorem Wz:(Tryz.prog.info? 89).map (fun i=>(i.zero,i.size,i.bytes))=some (some (.agg gG),11,176):=by kernel_rfl
theorem OV: ∃i0,Tryz.prog.info? 89=some i0∧i0.zero=some (.agg gG)∧i0.size=11∧i0.bytes=176:=info_parts Wz
theorem JC (x:dG): ∀u ∈ dG.f x,u.oneCell'=true:=by
 intro u hu; simp [dG.f] at hu
 rcases hu with rfl | rfl | rfl | rfl | rfl | rfl | rfl | rfl | rfl | rfl | rfl <;> rfl
theorem C9: ∀l:aS,app l .nil=l
 | .nil=>rfl
 | .cons h b e r=>by show aS.cons h b e (app r .nil)=_; rw [C9 r]
theorem Dl (x:dG) (s:aS): ∀l:List dG,app (je l) (app (one x.h x.b x.e) s)=app (je (l++[x])) s
 | []=>rfl
 | y ::r=>by show aS.cons y.h y.b y.e (app (je r) _)=aS.cons y.h y.b y.e (app (je (r++[x])) s); rw [Dl x s r]
theorem Ej {f:Nat} {ts:ak} (h:at' [125] ts=true):ps (f + 1) false ts= .ok .nil ts.tail:=by
 conv=>lhs; unfold ps
 rw [if_pos h]
theorem ZR {f:Nat} {ts r:ak} (h:at' [125] ts=false) (h1:ps f true ts= .no r):ps (f + 1) false ts= .no r:=by
 conv=>lhs; unfold ps
 rw [if_neg (by rw [h]; decide),h1]
theorem ab4 {f:Nat} {ts r:ak} {s:aS} (h:at' [125] ts=false) (h1:ps f true ts= .ok s r):ps (f + 1) false ts=(ps f false r).map (app s):=by
 conv=>lhs; unfold ps
 rw [if_neg (by rw [h]; decide),h1]
def TP (R:Rp) (w:World) (f:Nat) (res:bg aS) (g:Nat) (v:Value) (wr:World):Prop:=
 ∃f' l rest,g=rest.length∧f'≤f∧3 * rest.length + 2 < f'∧res=(ps f' false rest).map (app (je l))∧l.length + rest.length≤4096∧wR w.heap.size wr v l∧(∀x ∈ l,mO x.h x.b x.e)∧aY wr R rest∧w.grownBy wr (some R.br)
theorem iW {B:Nat} {w w':World} {g:Option Nat} (h:w.grownBy w' g) (hg: ∀k,g=some k→B≤k) (hB:B≤w.heap.size):Below B w w':=
 ⟨h.os,h.tape,h.output,h.size,fun k hk=>h.block k (by omega) (fun e=>by have:=hg k e.symm; omega)⟩
theorem EH {w w':World} {R:Rp} {rest:ak} {g:Option Nat} (h:aY w R rest) (hg:w.grownBy w' g) (h0: ∀k,g=some k→R.B0≤k∧k≠R.br):aY w' R rest:=by
 obtain ⟨pos,k1,k2,k3⟩:=h.blk
 exact ⟨⟨pos,k1,k2,(hg.block _ h.lt (fun e=>(h0 _ e.symm).2 rfl)).trans k3⟩,h.tok.below (iW hg (fun k hk=>(h0 k hk).1) (Nat.le_trans R.b0 (Nat.le_of_lt h.lt))),h.ok,h.tl⟩
theorem vM {br:Nat} {w w1 w2:World} (h:w.grownBy w1 (some br)) (hb:Below w.heap.size w1 w2):w.grownBy w2 (some br):=
 ⟨hb.os.trans h.os,hb.tape.trans h.tape,hb.output.trans h.output,Nat.le_trans h.size hb.size,fun k hk hn=>(hb.block k hk).trans (h.block k hk hn)⟩
theorem BU {α β:Type} {x:bg α} {f g:α→β} (h: ∀a,f a=g a):x.map f=x.map g:=by
 cases x with
 | ok a r=>show bg.ok (f a) r=_; rw [h]; rfl
 | no r=>rfl
theorem Yo {R:Rp} {w wr:World} {v:Value} {l:List dG} {r:ak} (hl:l.length≤4096) (hg:wR w.heap.size wr v l) (hok: ∀x ∈ l,mO x.h x.b x.e) (hr:aY wr R r) (hf:w.grownBy wr (some R.br)):
 Fu R w (.ok (je l) r) (.returned (.tuple #[v,.bool true])) wr:=by
 obtain ⟨ao,cap,e,hst⟩:=hg.says hok
 exact ⟨⟨ao,cap,by rw [e],by rw [qA]; exact hl,hst⟩,hr,hf⟩
theorem Nt (R:Rp) (f:Nat) (ts:ak) (hf:3 * ts.length < f) (DL:Hid (∀f' q,f' < f→3 * q.length + 1 < f'→ ∀w,aY w R q→Calls Tryz.prog 130 #[.pointer (some ⟨R.br,0,none⟩)] w (ql R w (ps f' true q)))):mQ R f ts:=by
 intro w hI
 have HI:=Lib.hid hI
 have HFF:=Lib.hid hf
 clear hI hf
 cases h1:at' [123] ts
 ·rw [show blk f ts= .no ts by unfold blk; rw [if_neg (by rw [h1]; decide)]]
  clear DL
  go_enter Tryz.func111,Tryz.ntmps111
  go_wp2_with fail
  refine (dJ R _ _ ⟨#[123]⟩ rfl h1 HI.out).mono ?_
  rintro e w1 ⟨rfl,h2⟩
  have HB:=Lib.hid h2
  have HI1:=Lib.hid (HI.out.below h2)
  clear h2
  go_wp2_with fail
  go_ret2
  exact ⟨rfl,HI1.out,aH HB.out⟩
 ·rw [show blk f ts=ps f false ts.tail by unfold blk; rw [if_pos h1]]
  have aX:=Lib.hid (at_len h1)
  have CF:=Lib.hid HI.out.len
  have Dk:=Lib.hid HI.out.lt
  obtain ⟨res,fG⟩: ∃res,Hid (ps f false ts.tail=res):=⟨_,Lib.hid rfl⟩
  rw [fG.out]
  obtain ⟨i0,hi,hz0,hz1,hz2⟩:=OV
  have jV:=Lib.hid (And.intro hi (And.intro hz0 (And.intro hz1 hz2)))
  clear hi hz0 hz1 hz2
  go_enter Tryz.func111,Tryz.ntmps111
  go_wp2_with fail
  refine (bQ R _ _ ⟨#[123]⟩ rfl h1 HI.out).mono ?_
  rintro e w1 ⟨rfl,h2,h3⟩
  have lU:Hid (TP R w f res ts.tail.length (.slice none 0 0) w1):=Lib.hid ⟨f,[],ts.tail,rfl,Nat.le_refl _,by have:=HFF.out; have:=aX.out; omega,by
   rw [← fG.out]; cases ps f false ts.tail <;> rfl,by have:=aX.out; have:=CF.out; simp only [List.length_nil]; omega,Grow.nil _ _ _ _ _ _,by simp,h2,h3⟩
  clear h2 h3 HI fG
  go_wp2_with fail
  go_loopg [4] ts.tail.length (fun gk v4 wr=>TP R w f res gk v4 wr)
  case atStart=>exact lU.out
  case round=>
   obtain ⟨f',l,rest,rfl,hf',hen,hres,hl,hg,hok,hr,hgr⟩:=hrel
   obtain ⟨f',rfl⟩: ∃n,f'=n + 1:=⟨f' - 1,by omega⟩
   have HF:=Lib.hid (And.intro hf' hen)
   have HL:=Lib.hid hl
   have HG:=Lib.hid hg
   have gq:=Lib.hid hok
   have HR:=Lib.hid hr
   have tO:=Lib.hid hgr
   have HS:=Lib.hid hres
   clear hf' hen hres hl hg hok hr hgr lU
   cases h4:at' [125] rest
   ·have HC:=Lib.hid (DL.out f' rest (by have:=HF.out.1; omega) (by have:=HF.out.2; omega))
    have gI:Hid (∀r,ps f' true rest= .no r→res= .no r):=Lib.hid (fun r h=>HS.out.trans (by rw [ZR h4 h]; rfl))
    have JY:Hid (∀s r,ps f' true rest= .ok s r→res=(ps f' false r).map (fun t=>app (je l) (app s t))∧r.length < rest.length):=Lib.hid (fun s r h=>⟨HS.out.trans (by rw [ab4 h4 h]; exact lg _ _ _),Bw f' true rest s r h⟩)
    clear HS
    generalize ps f' true rest=res2 at *
    go_wp2_with fail
    refine (dJ R _ _ ⟨#[125]⟩ rfl h4 HR.out).mono ?_
    rintro e w2 ⟨rfl,h2⟩
    have HG2:=Lib.hid (HG.out.next (aL h2))
    have HR2:=Lib.hid (HR.out.below h2)
    have yj:=Lib.hid (bD tO.out (aH h2))
    clear h2 HG HR tO
    go_wp2_with fail
    refine (HC.out _ HR2.out).mono ?_
    cases res2 with
    | no r=>
      have hs:=gI.out r rfl
      subst hs
      clear gI JY HC
      rintro e w3 ⟨⟨x,rfl⟩,h2,h3⟩
      have HR3:=Lib.hid h2
      have yC:=Lib.hid (bD yj.out h3)
      clear h2 h3
      unfold bP
      go_wp2_with fail
      go_ret2
      exact ⟨rfl,oP HR3.out _,dP yC.out _⟩
    | ok s r=>
      have vU:=Lib.hid (JY.out s r rfl)
      clear gI JY HC
      rintro e w3 ⟨⟨x,rfl,rfl,hok,hst⟩,h2,h3⟩
      have rT:=Lib.hid (HG2.out.next (fU h3 Dk.out))
      have HR3:=Lib.hid h2
      have yC:=Lib.hid (bD yj.out h3)
      have IG:=Lib.hid hst
      have Zd:=Lib.hid hok
      have iD:Hid (w2.heap.size≤w3.heap.size∧w.heap.size≤w2.heap.size):=Lib.hid ⟨h3.size,yj.out.size⟩
      have jO:=Lib.hid HG2.out.lt
      clear h2 h3 hst hok HG2 HR2 yj
      unfold bP
      go_upto_region 6 with fail
      obtain ⟨gs,hg⟩: ∃g,w3.heap.size=g:=⟨_,rfl⟩
      generalize hW:World.alloc w3 _=W4
      have wJ:Hid (wR w.heap.size W4 u4 l):=Lib.hid (by rw [← hW]; exact rT.out.next (aL (ah _ _)))
      have HR4:Hid (aY W4 R r):=Lib.hid (by rw [← hW]; exact oP HR3.out _)
      have Aw:Hid (w.grownBy W4 (some R.br)):=Lib.hid (by rw [← hW]; exact dP yC.out _)
      have wZ:Hid (bJ w2.heap.size W4 (dG.I x)):=Lib.hid (by rw [← hW]; exact IG.out.next (aL (ah _ _)))
      have dh:Hid (W4.heap[gs]? =some (.cells (dG.f x).toArray 89 (0,0))):=Lib.hid (by rw [← hW,← hg]; exact heap_alloc_new _ _)
      rw [hg]
      clear hW hg rT HR3 yC IG
      obtain ⟨d0,d1,d2,d3,d4,d5,d6,d7,d8,d9,iJ⟩:(W4.cell? ⟨gs,0,none⟩=some (.int .i64 x.h.op)∧W4.cell? ⟨gs,1,none⟩=some (.int .i64 x.h.line)∧W4.cell? ⟨gs,2,none⟩=some (.string x.h.nm)∧W4.cell? ⟨gs,3,none⟩=some (.string x.h.arg)∧W4.cell? ⟨gs,4,none⟩=some (.slice x.s.fH x.h.idx.len x.s.dW)∧W4.cell? ⟨gs,5,none⟩=some (.int .i64 x.h.bV)∧W4.cell? ⟨gs,6,none⟩=some (.int .i64 x.h.xn)∧W4.cell? ⟨gs,7,none⟩=some (.string x.h.bU)∧W4.cell? ⟨gs,8,none⟩=some (.slice x.s.cB x.h.aO.len x.s.bF)∧W4.cell? ⟨gs,9,none⟩=some (.slice x.s.bC x.b.len x.s.aV)∧W4.cell? ⟨gs,10,none⟩=some (.slice x.s.eZ x.e.len x.s.dL)):=⟨aj dh.out rfl,aj dh.out rfl,aj dh.out rfl,aj dh.out rfl,aj dh.out rfl,aj dh.out rfl,aj dh.out rfl,aj dh.out rfl,aj dh.out rfl,aj dh.out rfl,aj dh.out rfl⟩
      have nC:=Lib.hid (wJ.out.next (aL (ah W4 (.cells (dG.f x).toArray 89))))
      have qC:=Lib.hid (mJ (heap_alloc_new W4 (.cells (dG.f x).toArray 89)))
      have LG:Hid (w.heap.size≤W4.heap.size):=Lib.hid Aw.out.size
      obtain ⟨hi,hz0,hz1,hz2⟩:=jV.out
      have hbs:w.heap.size≤W4.heap.size + 1:=Nat.le_succ_of_le LG.out
      have hkl:l.length + 1≤maxLen:=by have:=HL.out; unfold maxLen; omega
      have wM:(l.length + 1) * 176≤140737488355328:=by have:=HL.out; omega
      go_wp2_with (at_builtin; refine wpList_append_lies _ rfl _ _ 65 rfl w.heap.size 89 i0 _ 11 176 Tryz.underlying65 hi hz0 hz1 hz2 rfl (by decide) _ _ _ rfl nC.out.own ⟨W4.heap.size,0,none⟩ 1 1 (dG.f x) rfl rfl qC.out (JC _) (by decide) hkl wM (by simpa using hbs) _ rfl ?_)
      clear hi hz0 hz1 hz2 d0 d1 d2 d3 d4 d5 d6 d7 d8 d9 iJ
      intro g cap w5 hown hgr hmv hlt2
      have Ey:Hid (dS w.heap.size u4.ownBlock (W4.alloc (.cells (dG.f x).toArray 89)) (dG.I x)):=Lib.hid (oM (wZ.out.next (aL (ah _ _))) iD.out.2 (fun k hk=>(jO.out k hk).2))
      have yL:=Lib.hid (nC.out.push Ey.out rfl hown hgr (by simpa using hmv))
      have iR:Hid (Below w.heap.size (W4.alloc (.cells (dG.f x).toArray 89)) w5):=Lib.hid (iW hgr (fun k hk=>(jO.out k hk).1) (by simpa using hbs))
      have WW:Hid (aY w5 R r):=Lib.hid (EH (oP HR4.out _) hgr (fun k hk=>by have h1:=(jO.out k hk).1; have h2:=Dk.out; have h3:=R.b0; omega))
      have AZ:Hid (w.grownBy w5 (some R.br)):=Lib.hid (vM (dP Aw.out _) iR.out)
      have TB:Hid (∀y ∈ l++[x],mO y.h y.b y.e):=Lib.hid (fun y hy=>by
       rcases List.mem_append.1 hy with hy | hy
       ·exact gq.out y hy
       ·rw [List.mem_singleton.1 hy]; exact Zd.out)
      have pU:Hid (res=(ps f' false r).map (app (je (l++[x])))):=Lib.hid (vU.out.1.trans (BU (fun t=>Dl x t l)))
      have AO:=Lib.hid vU.out.2
      clear hown hgr hmv hlt2 hbs hkl wM Ey wZ qC nC iR vU
      go_wp2_with fail
      go_roundg r.length
      case measure=>exact AO.out
      case rel=>exact ⟨f',l++[x],r,rfl,by have:=HF.out.1; omega,by have h1:=HF.out.2; have h2:=AO.out; omega,pU.out,by have h1:=HL.out; have h2:=AO.out; simp only [List.length_append,List.length_singleton]; omega,yL.out,TB.out,WW.out,AZ.out⟩
   ·have hs:=HS.out.trans (by rw [Ej h4]; rfl:_=bg.ok (app (je l) .nil) rest.tail)
    rw [C9] at hs
    subst hs
    clear HS
    go_wp2_with fail
    refine (bQ R _ _ ⟨#[125]⟩ rfl h4 HR.out).mono ?_
    rintro e w2 ⟨rfl,h2,h3⟩
    have HG2:=Lib.hid (HG.out.next (fU h3 Dk.out))
    have HR2:=Lib.hid h2
    have yj:=Lib.hid (bD tO.out h3)
    clear h2 h3
    go_wp2_with fail
    go_ret2
    exact Yo (by have:=HL.out; omega) HG2.out gq.out HR2.out yj.out
theorem QK (R:Rp): ∀f:Nat,(∀ts,3 * ts.length < f→mQ R f ts)∧(∀q,3 * q.length + 1 < f→ ∀w,aY w R q→Calls Tryz.prog 130 #[.pointer (some ⟨R.br,0,none⟩)] w (ql R w (ps f true q))):=by
 intro f
 induction f using Nat.strongRecOn with
 | ind f ih=>
   refine ⟨fun ts hf=>Nt R f ts hf (Lib.hid fun f' q h1 h2=>(ih f' h1).2 q h2),fun q hq w hI=> ?_⟩
   obtain ⟨f',rfl⟩: ∃n,f=n + 1:=⟨f - 1,by omega⟩
   exact EW R f' q (Lib.hid fun r hr=>(ih f' (by omega)).1 r (by omega)) w hI
theorem Gp (R:Rp) (f:Nat) (ts:ak) (hf:3 * ts.length < f) (w:World) (hI:aY w R ts):
 Calls Tryz.prog 111 #[.pointer (some ⟨R.br,0,none⟩)] w (Fu R w (blk f ts)):=(QK R f).1 ts hf w hI
end Go.Proofs.YtehnipchbmjlhaaGreatDoor
end
section
namespace Go.Proofs.YtehnipchbmjlhaaGreatDoor
open Go.RowKit
open Md Pz
structure Pd (R:Rp) (bd:Nat) (w:World) (d:De) (rest:ak):Prop where
 rd:aY w R rest
 ne:bd≠R.br
 b0:R.B0≤bd
 blk:w.heap[bd]? =some (.cells (gF d).toArray 62 (0,0))
 ok:d.Ok
section
variable {R:Rp} {bd:Nat} {w W W':World} {d:De} {rest rest':ak}
theorem Pd.lt (h:Pd R bd W d rest):bd < W.heap.size:=(Array.getElem?_eq_some_iff.1 h.blk).1
theorem Pd.then (h:Pd R bd W d rest) (h1:aY W' R rest') (h2:W.grownBy W' (some R.br)):Pd R bd W' d rest':=
 ⟨h1,h.ne,h.b0,(h2.block _ h.lt (by simp; exact h.ne)).trans h.blk,h.ok⟩
theorem Pd.below (h:Pd R bd W d rest) (hb:Below W.heap.size W W'):Pd R bd W' d rest:=h.then (h.rd.below hb) (aH hb)
theorem Pd.put (h:Pd R bd W d rest) (j:Nat) (v:Value) {y:De} (hy:(gF d).toArray.setIfInBounds j v=(gF y).toArray) (hok:y.Ok):Pd R bd (W.setCell ⟨bd,j,none⟩ v) y rest:=
 ⟨nR h.rd _ v h.b0 h.ne,h.ne,h.b0,by rw [aW h.blk,hy],hok⟩
theorem Pd.nm (h:Pd R bd W d rest) (s:ByteArray) (hs:s.size≤maxLen):Pd R bd (W.setCell ⟨bd,2,none⟩ (.string s)) {d with nm:=s} rest:=
 h.put 2 _ rfl ⟨h.ok.1,h.ok.2.1,hs,h.ok.2.2.2⟩
theorem Pd.size (h:Pd R bd W d rest) (n:Int) (hn:aM n):Pd R bd (W.setCell ⟨bd,3,none⟩ (.int .i64 n)) {d with size:=n} rest:=
 h.put 3 _ rfl ⟨h.ok.1,h.ok.2.1,h.ok.2.2.1,hn,h.ok.2.2.2.2⟩
theorem Pd.init (h:Pd R bd W d rest) (n:Int) (hn:aM n):Pd R bd (W.setCell ⟨bd,4,none⟩ (.int .i64 n)) {d with init:=n} rest:=
 h.put 4 _ rfl ⟨h.ok.1,h.ok.2.1,h.ok.2.2.1,h.ok.2.2.2.1,hn,h.ok.2.2.2.2.2⟩
theorem Pd.on (h:Pd R bd W d rest) (s:ByteArray) (hs:s.size≤maxLen):Pd R bd (W.setCell ⟨bd,5,none⟩ (.string s)) {d with on:=s} rest:=
 h.put 5 _ rfl ⟨h.ok.1,h.ok.2.1,h.ok.2.2.1,h.ok.2.2.2.1,h.ok.2.2.2.2.1,hs⟩
theorem Pd.cell (h:Pd R bd W d rest) {j:Nat} {u:Value} (hu:(gF d).toArray[j]? =some u):W.cell? ⟨bd,j,none⟩=some u:=aj h.blk hu
theorem Pd.free (h:Pd R bd W d rest) (j:Nat):W.frozen? ⟨bd,j,none⟩=false:=aF h.blk
end
def Oc (R:Rp) (bd:Nat) (w:World) (res:bg De) (e:Ending) (w':World):Prop:=
 match res with
 | .ok d r=>e= .returned (.bool true)∧Pd R bd w' d r∧Fr R.br bd w w'
 | .no r=>e= .returned (.bool false)∧(∃d,Pd R bd w' d r)∧Fr R.br bd w w'
theorem EL {R:Rp} {bd:Nat} {w W:World} {res:bg De} {d:De} {r:ak} (e:res= .ok d r) (h:Pd R bd W d r) (hf:Fr R.br bd w W):Oc R bd w res (.returned (.bool true)) W:=by subst e; exact ⟨rfl,h,hf⟩
theorem El {R:Rp} {bd:Nat} {w W:World} {res:bg De} {d:De} {r:ak} (e:res= .no r) (h:Pd R bd W d r) (hf:Fr R.br bd w W):Oc R bd w res (.returned (.bool false)) W:=by subst e; exact ⟨rfl,⟨d,h⟩,hf⟩
theorem Fr.xq {br bs:Nat} {w w1 w2:World} (h:Fr br bs w w1) (k:w1.grownBy w2 (some br)):Fr br bs w w2:=h.trans (Fr.bS k)
theorem aY.back {w1 w:World} {R:Rp} {q:ak} (h1:aY w1 R q) (hq:isNum q=true) (h:aY w R q.tail): ∃pos:Nat,(1≤pos∧pos≤4096)∧w.cell? ⟨R.br,1,none⟩=some (.int .i64 (pos:Int))∧w.frozen? ⟨R.br,1,none⟩=false∧
 Hid (aY (w.setCell ⟨R.br,1,none⟩ (.int .i64 ((pos:Int) - 1))) R q∧w.grownBy (w.setCell ⟨R.br,1,none⟩ (.int .i64 ((pos:Int) - 1))) (some R.br)):=by
 obtain ⟨p1,a1,a2,-⟩:=h1.blk
 obtain ⟨pos,b1,b2,b3⟩:=h.blk
 have hl:=LP hq
 have e1:=congrArg List.length a2
 have e2:=congrArg List.length b2
 simp only [List.length_drop,List.length_tail] at e1 e2 hl
 have hp:pos=p1 + 1:=by omega
 have:=h.ok.2
 refine ⟨pos,⟨by omega,by omega⟩,aj b3 rfl,aF b3,Lib.hid ⟨⟨⟨p1,a1,a2,?_⟩,h.tok.below (fu (cu w ⟨R.br,1,none⟩ _) R.b0 (Nat.le_trans R.b0 (Nat.le_of_lt h.lt))),h.ok,h.tl⟩,cu w ⟨R.br,1,none⟩ _⟩⟩
 rw [aW b3,show (pos:Int) - 1=(p1:Int) by omega]; rfl
theorem Rl {d:De} {ts:ak} (h:at' [91] ts=false):lu d ts= .ok d ts:=by unfold lu; rw [if_neg (by rw [h]; decide)]
theorem Sr {d:De} {ts:ak} (h:at' [91] ts=true) (h1:isNum ts.tail=false):lu d ts= .no ts.tail:=by unfold lu; rw [if_pos h,if_neg (by rw [h1]; decide)]
theorem Vg {d:De} {ts:ak} (h:at' [91] ts=true) (h1:isNum ts.tail=true) (h2:(Tk.val (ay ts.tail) == 0)=true):lu d ts= .no ts.tail:=by unfold lu; rw [if_pos h,if_pos h1,if_pos h2]
theorem Vh {d:De} {ts:ak} (h:at' [91] ts=true) (h1:isNum ts.tail=true) (h2:(Tk.val (ay ts.tail) == 0)=false):lu d ts=(need [93] ts.tail.tail).map fun _=> {d with size:=(Tk.val (ay ts.tail):Nat)} :=by unfold lu; rw [if_pos h,if_pos h1,if_neg (by rw [h2]; decide)]
theorem SK (R:Rp) (bd:Nat) (ts:ak) (d:De) (w:World) (hp:Pd R bd w d ts):
 Calls Tryz.prog 108 #[.pointer (some ⟨R.br,0,none⟩),.pointer (some ⟨bd,0,none⟩)] w (Oc R bd w (lu d ts)):=by
 have HP:=Lib.hid hp
 clear hp
 cases h1:at' [91] ts
 ·have HE:=Lib.hid (Rl (d:=d) h1)
  go_enter Tryz.func108,Tryz.ntmps108
  go_wp2_with fail
  refine (dJ R _ _ ⟨#[91]⟩ rfl h1 HP.out.rd).mono ?_
  rintro e w1 ⟨rfl,h2⟩
  have cZ:=Lib.hid (HP.out.below h2)
  have HF:=Lib.hid (Fr.bS (br:=R.br) (bs:=bd) (aH h2))
  clear h2
  go_wp2_with fail
  go_ret
  exact EL HE.out cZ.out HF.out
 ·cases h2:isNum ts.tail
  ·have HE:=Lib.hid (Sr (d:=d) h1 h2)
   go_enter Tryz.func108,Tryz.ntmps108
   go_wp2_with fail
   refine (bQ R _ _ ⟨#[91]⟩ rfl h1 HP.out.rd).mono ?_
   rintro e w1 ⟨rfl,k2,k3⟩
   have cZ:=Lib.hid (HP.out.then k2 k3)
   have rX:=Lib.hid (Fr.bS (bs:=bd) k3)
   clear k2 k3
   go_wp2_with fail
   refine (wB R _ _ h2 cZ.out.rd).mono ?_
   rintro e w2 ⟨rfl,h3⟩
   have aU:=Lib.hid (cZ.out.below h3)
   have fQ:=Lib.hid (rX.out.xq (aH h3))
   clear h3
   go_wp2_with fail
   go_ret
   exact El HE.out aU.out fQ.out
  ·cases h3:(Tk.val (ay ts.tail) == 0)
   ·have Ct:=Lib.hid (Vh (d:=d) h1 h2 h3)
    have h3':(((Tk.val (ay ts.tail):Nat):Int) == 0)=false:=by rw [beq_eq_false_iff_ne] at h3 ⊢; omega
    have HV:Hid (aM ((Tk.val (ay ts.tail):Nat):Int)):=Lib.hid (by have:=vF HP.out.rd.ts.tail h2; unfold aM; omega)
    go_enter Tryz.func108,Tryz.ntmps108
    go_wp2_with fail
    refine (bQ R _ _ ⟨#[91]⟩ rfl h1 HP.out.rd).mono ?_
    rintro e w1 ⟨rfl,k2,k3⟩
    have cZ:=Lib.hid (HP.out.then k2 k3)
    have rX:=Lib.hid (Fr.bS (bs:=bd) k3)
    clear k2 k3
    go_wp2_with fail
    refine (yN R _ _ h2 cZ.out.rd).mono ?_
    rintro e w2 ⟨rfl,k2,k3⟩
    have aU:=Lib.hid (cZ.out.then k2 k3)
    have fQ:=Lib.hid (rX.out.xq k3)
    clear k2 k3
    have c3:=aU.out.cell (j:=3) rfl
    have f3:=aU.out.free 3
    go_upto_region 10 with fail
    generalize hW:World.setCell w2 _ _=W
    have aT:Hid (Pd R bd W {d with size:=(Tk.val (ay ts.tail):Nat)} ts.tail.tail):=Lib.hid (by rw [← hW]; exact aU.out.size _ HV.out)
    have dA:Hid (Fr R.br bd w W):=Lib.hid (by rw [← hW]; exact fQ.out.set _ _ (.inl rfl))
    clear hW c3 f3 aU fQ
    cases h4:at' [93] ts.tail.tail
    ·have HE:=Lib.hid (Ct.out.trans (by rw [zQ h4]:_=bg.map _ (bg.no ts.tail.tail)))
     go_wp2_with fail
     refine (dJ R _ _ ⟨#[93]⟩ rfl h4 aT.out.rd).mono ?_
     rintro e w4 ⟨rfl,k2⟩
     have dX:=Lib.hid (aT.out.below k2)
     have gD:=Lib.hid (dA.out.xq (aH k2))
     clear k2
     go_wp2_with fail
     go_ret
     exact El HE.out dX.out gD.out
    ·have HE:=Lib.hid (Ct.out.trans (by rw [zF h4]:_=bg.map _ (bg.ok () ts.tail.tail.tail)))
     go_wp2_with fail
     refine (bQ R _ _ ⟨#[93]⟩ rfl h4 aT.out.rd).mono ?_
     rintro e w4 ⟨rfl,k2,k3⟩
     have dX:=Lib.hid (aT.out.then k2 k3)
     have gD:=Lib.hid (dA.out.xq k3)
     clear k2 k3
     go_wp2_with fail
     go_ret
     exact EL HE.out dX.out gD.out
   ·have HE:=Lib.hid (Vg (d:=d) h1 h2 h3)
    have hz:Tk.val (ay ts.tail)=0:=by simpa using h3
    go_enter Tryz.func108,Tryz.ntmps108
    go_wp2_with fail
    refine (bQ R _ _ ⟨#[91]⟩ rfl h1 HP.out.rd).mono ?_
    rintro e w1 ⟨rfl,k2,k3⟩
    have cZ:=Lib.hid (HP.out.then k2 k3)
    have rX:=Lib.hid (Fr.bS (bs:=bd) k3)
    clear k2 k3
    go_wp2_with fail
    refine (yN R _ _ h2 cZ.out.rd).mono ?_
    rw [hz]
    rintro e w2 ⟨rfl,k2,k3⟩
    obtain ⟨pos,⟨hp1,hp2⟩,q1,f1,HX⟩:=cZ.out.rd.back h2 k2
    have aU:=Lib.hid (cZ.out.then k2 k3)
    have fQ:=Lib.hid (rX.out.xq k3)
    have hq1:(1:Int)≤(pos:Int):=by omega
    have hq2:(pos:Int)≤4096:=by omega
    clear k2 k3 hz
    go_wp2_with fail
    go_ret
    exact El HE.out (aU.out.then HX.out.1 HX.out.2) (fQ.out.xq HX.out.2)
theorem Vi {d:De} {ts:ak} (h:at' [61] ts=false):jE d ts= .ok d ts:=by unfold jE; rw [if_neg (by rw [h]; decide)]
theorem SQ {d:De} {ts:ak} (h:at' [61] ts=true) (h1:at' [45] ts.tail=true) (h2:isNum ts.tail.tail=false):jE d ts= .no ts.tail.tail:=by unfold jE; rw [if_pos h,if_pos h1,if_neg (by rw [h2]; decide)]
theorem Sc {d:De} {ts:ak} (h:at' [61] ts=true) (h1:at' [45] ts.tail=true) (h2:isNum ts.tail.tail=true):jE d ts= .ok {d with init:= -(Tk.val (ay ts.tail.tail):Nat)} ts.tail.tail.tail:=by unfold jE; rw [if_pos h,if_pos h1,if_pos h2]
theorem Ti {d:De} {ts:ak} (h:at' [61] ts=true) (h1:at' [45] ts.tail=false) (h2:isNum ts.tail=false):jE d ts= .no ts.tail:=by unfold jE; rw [if_pos h,if_neg (by rw [h1]; decide),if_neg (by rw [h2]; decide)]
theorem RU {d:De} {ts:ak} (h:at' [61] ts=true) (h1:at' [45] ts.tail=false) (h2:isNum ts.tail=true):jE d ts= .ok {d with init:=(Tk.val (ay ts.tail):Nat)} ts.tail.tail:=by unfold jE; rw [if_pos h,if_neg (by rw [h1]; decide),if_pos h2]
theorem Cr (R:Rp) (bd:Nat) (ts:ak) (d:De) (w:World) (hp:Pd R bd w d ts):
 Calls Tryz.prog 109 #[.pointer (some ⟨R.br,0,none⟩),.pointer (some ⟨bd,0,none⟩)] w (Oc R bd w (jE d ts)):=by
 have HP:=Lib.hid hp
 clear hp
 cases h1:at' [61] ts
 ·have HE:=Lib.hid (Vi (d:=d) h1)
  go_enter Tryz.func109,Tryz.ntmps109
  go_wp2_with fail
  refine (dJ R _ _ ⟨#[61]⟩ rfl h1 HP.out.rd).mono ?_
  rintro e w1 ⟨rfl,h2⟩
  have cZ:=Lib.hid (HP.out.below h2)
  have HF:=Lib.hid (Fr.bS (br:=R.br) (bs:=bd) (aH h2))
  clear h2
  go_wp2_with fail
  go_ret
  exact EL HE.out cZ.out HF.out
 ·cases hm:at' [45] ts.tail
  ·cases h2:isNum ts.tail
   ·have HE:=Lib.hid (Ti (d:=d) h1 hm h2)
    go_enter Tryz.func109,Tryz.ntmps109
    go_wp2_with fail
    refine (bQ R _ _ ⟨#[61]⟩ rfl h1 HP.out.rd).mono ?_
    rintro e w1 ⟨rfl,k2,k3⟩
    have cZ:=Lib.hid (HP.out.then k2 k3)
    have rX:=Lib.hid (Fr.bS (bs:=bd) k3)
    clear k2 k3
    go_wp2_with fail
    refine (dJ R _ _ ⟨#[45]⟩ rfl hm cZ.out.rd).mono ?_
    rintro e w1 ⟨rfl,k2⟩
    have aU:=Lib.hid (cZ.out.below k2)
    have fQ:=Lib.hid (rX.out.xq (aH k2))
    clear k2
    go_wp2_with fail
    refine (wB R _ _ h2 aU.out.rd).mono ?_
    rintro e w2 ⟨rfl,k2⟩
    have aT:=Lib.hid (aU.out.below k2)
    have dA:=Lib.hid (fQ.out.xq (aH k2))
    clear k2
    go_wp2_with fail
    go_ret
    exact El HE.out aT.out dA.out
   ·have HE:=Lib.hid (RU (d:=d) h1 hm h2)
    have HV:Hid (aM ((Tk.val (ay ts.tail):Nat):Int)):=Lib.hid (by have:=vF HP.out.rd.ts.tail h2; unfold aM; omega)
    go_enter Tryz.func109,Tryz.ntmps109
    go_wp2_with fail
    refine (bQ R _ _ ⟨#[61]⟩ rfl h1 HP.out.rd).mono ?_
    rintro e w1 ⟨rfl,k2,k3⟩
    have cZ:=Lib.hid (HP.out.then k2 k3)
    have rX:=Lib.hid (Fr.bS (bs:=bd) k3)
    clear k2 k3
    go_wp2_with fail
    refine (dJ R _ _ ⟨#[45]⟩ rfl hm cZ.out.rd).mono ?_
    rintro e w1 ⟨rfl,k2⟩
    have aU:=Lib.hid (cZ.out.below k2)
    have fQ:=Lib.hid (rX.out.xq (aH k2))
    clear k2
    go_wp2_with fail
    refine (yN R _ _ h2 aU.out.rd).mono ?_
    rintro e w2 ⟨rfl,k2,k3⟩
    have aT:=Lib.hid (aU.out.then k2 k3)
    have dA:=Lib.hid (fQ.out.xq k3)
    clear k2 k3
    have c4:=aT.out.cell (j:=4) rfl
    have f4:=aT.out.free 4
    go_wp2_with fail
    go_ret
    exact EL HE.out (aT.out.init _ HV.out) (dA.out.set _ _ (.inl rfl))
  ·cases h2:isNum ts.tail.tail
   ·have HE:=Lib.hid (SQ (d:=d) h1 hm h2)
    go_enter Tryz.func109,Tryz.ntmps109
    go_wp2_with fail
    refine (bQ R _ _ ⟨#[61]⟩ rfl h1 HP.out.rd).mono ?_
    rintro e w1 ⟨rfl,k2,k3⟩
    have cZ:=Lib.hid (HP.out.then k2 k3)
    have rX:=Lib.hid (Fr.bS (bs:=bd) k3)
    clear k2 k3
    go_wp2_with fail
    refine (bQ R _ _ ⟨#[45]⟩ rfl hm cZ.out.rd).mono ?_
    rintro e w1 ⟨rfl,k2,k3⟩
    have aU:=Lib.hid (cZ.out.then k2 k3)
    have fQ:=Lib.hid (rX.out.xq k3)
    clear k2 k3
    go_wp2_with fail
    refine (wB R _ _ h2 aU.out.rd).mono ?_
    rintro e w2 ⟨rfl,k2⟩
    have aT:=Lib.hid (aU.out.below k2)
    have dA:=Lib.hid (fQ.out.xq (aH k2))
    clear k2
    go_wp2_with fail
    go_ret
    exact El HE.out aT.out dA.out
   ·have HE:=Lib.hid (Sc (d:=d) h1 hm h2)
    have hv:=vF HP.out.rd.ts.tail.tail h2
    have HV:Hid (aM (-((Tk.val (ay ts.tail.tail):Nat):Int))):=Lib.hid (by unfold aM; omega)
    have hv0:(0:Int)≤((Tk.val (ay ts.tail.tail):Nat):Int):=by omega
    have hng:IntKind.i64.wrap (-((Tk.val (ay ts.tail.tail):Nat):Int))= -((Tk.val (ay ts.tail.tail):Nat):Int):=IntWalk.i64_in _ (by omega)
    have HNY:=Lib.hid (fun w hI=>yN R ts.tail.tail w h2 hI)
    generalize ((Tk.val (ay ts.tail.tail):Nat):Int)=n at *
    go_enter Tryz.func109,Tryz.ntmps109
    go_wp2_with fail
    refine (bQ R _ _ ⟨#[61]⟩ rfl h1 HP.out.rd).mono ?_
    rintro e w1 ⟨rfl,k2,k3⟩
    have cZ:=Lib.hid (HP.out.then k2 k3)
    have rX:=Lib.hid (Fr.bS (bs:=bd) k3)
    clear k2 k3
    go_wp2_with fail
    refine (bQ R _ _ ⟨#[45]⟩ rfl hm cZ.out.rd).mono ?_
    rintro e w1 ⟨rfl,k2,k3⟩
    have aU:=Lib.hid (cZ.out.then k2 k3)
    have fQ:=Lib.hid (rX.out.xq k3)
    clear k2 k3
    go_wp2_with fail
    refine (HNY.out _ aU.out.rd).mono ?_
    rintro e w2 ⟨rfl,k2,k3⟩
    have aT:=Lib.hid (aU.out.then k2 k3)
    have dA:=Lib.hid (fQ.out.xq k3)
    clear k2 k3
    have c4:=aT.out.cell (j:=4) rfl
    have f4:=aT.out.free 4
    go_wp2_with fail
    go_ret
    exact EL HE.out (aT.out.init _ HV.out) (dA.out.set _ _ (.inl rfl))
end Go.Proofs.YtehnipchbmjlhaaGreatDoor
end
section
namespace Go.Proofs.YtehnipchbmjlhaaGreatDoor
open Go.RowKit
open Md Pz
theorem jm {w:World} {K:Act→Prop} {a:Act} (h:K a):eD w K [] a:=h
def pF (d:De):Value:= .agg #[.int .i64 d.kind,.int .i64 d.line,.string d.nm,.int .i64 d.size,.int .i64 d.init,.string d.on]
def Sg (R:Rp) (w:World) (res:bg De) (e:Ending) (w':World):Prop:=
 match res with
 | .ok d r=>(d.Ok∧e= .returned (.tuple #[pF d,.bool true]))∧aY w' R r∧w.grownBy w' (some R.br)
 | .no r=>(∃d,e= .returned (.tuple #[pF d,.bool false]))∧aY w' R r∧w.grownBy w' (some R.br)
def wP:Array Value:= #[.int .i64 0,.int .i64 0,.string ⟨#[]⟩,.int .i64 0,.int .i64 0,.string ⟨#[]⟩]
theorem EB:(Tryz.prog.info? 62).map (·.size)=some 6:=by kernel_rfl
theorem z6 {w:World} {b:Nat} {t:TypeId} (h:w.heap[b]? =some (.cells wP t (0,0))):
 (w.cell? ⟨b,0,none⟩=some (.int .i64 0)∧w.cell? ⟨b,1,none⟩=some (.int .i64 0)∧w.cell? ⟨b,2,none⟩=some (.string ⟨#[]⟩)∧w.cell? ⟨b,3,none⟩=some (.int .i64 0)∧w.cell? ⟨b,4,none⟩=some (.int .i64 0)∧w.cell? ⟨b,5,none⟩=some (.string ⟨#[]⟩))∧ ∀j,w.frozen? ⟨b,j,none⟩=false:=
 ⟨⟨aj h rfl,aj h rfl,aj h rfl,aj h rfl,aj h rfl,aj h rfl⟩,fun _=>aF h⟩
theorem SV {R:Rp} {bd:Nat} {W:World} {d:De} {r:ak} (h:Pd R bd W d r):
 W.cell? ⟨bd,0,none⟩=some (.int .i64 d.kind)∧W.cell? ⟨bd,1,none⟩=some (.int .i64 d.line)∧W.cell? ⟨bd,2,none⟩=some (.string d.nm)∧W.cell? ⟨bd,3,none⟩=some (.int .i64 d.size)∧W.cell? ⟨bd,4,none⟩=some (.int .i64 d.init)∧W.cell? ⟨bd,5,none⟩=some (.string d.on):=
 ⟨h.cell rfl,h.cell rfl,h.cell rfl,h.cell rfl,h.cell rfl,h.cell rfl⟩
theorem X6 {R:Rp} {w W:World} {d:De} {r:ak} {res:bg De} (e:res= .ok d r) (hok:d.Ok) (hr:aY W R r) (hg:w.grownBy W (some R.br)) (hl:R.br < w.heap.size):
 Sg R w res (.returned (.tuple #[pF d,.bool true])) (W.setCells w.heap.size 0 (gF d)):=by
 subst e
 exact ⟨⟨hok,rfl⟩,nI hr (aP _ _ _ _) (by have:=R.b0; omega) (by omega),kH hg _ _ _ (Nat.le_refl _)⟩
theorem Kc {R:Rp} {w W:World} {d:De} {r:ak} {res:bg De} (e:res= .no r) (hr:aY W R r) (hg:w.grownBy W (some R.br)) (hl:R.br < w.heap.size):
 Sg R w res (.returned (.tuple #[pF d,.bool false])) (W.setCells w.heap.size 0 (gF d)):=by
 subst e
 exact ⟨⟨d,rfl⟩,nI hr (aP _ _ _ _) (by have:=R.b0; omega) (by omega),kH hg _ _ _ (Nat.le_refl _)⟩
def kD (d:De) (r:ak):bg De:=if d.kind == 1 then (lu d r).bind jE else if d.kind == 2 then jE d r else if d.kind == 5 then (eO r).map (fun o=> {d with on:=o}) else .ok d r
theorem V7 (ts:ak):oW ts=((eO ts.tail).bind fun s r=>kD ⟨gY (ay ts),aK ts,s,0,0,⟨#[]⟩⟩ r).close [59]:=rfl
theorem zl {br bd:Nat} {w w1 w2:World} (h:w.grownBy w1 (some br)) (hf:Fr br bd w1 w2) (hb:w.heap.size≤bd):w.grownBy w2 (some br):=
 ⟨hf.os.trans h.os,hf.tape.trans h.tape,hf.output.trans h.output,Nat.le_trans h.size hf.size,fun k hk hn=>(hf.block k (Nat.lt_of_lt_of_le hk h.size) (by simpa using hn) (by omega)).trans (h.block k hk hn)⟩
def iM (P Q S:World→Prop):List Bool→World→Prop
 | [x,y],w=>if y then S w else if x then Q w else P w
 | _,_=>False
section
variable {P Q S:World→Prop} {c:List Bool} {w w':World} {k l i:Nat}
theorem iM.bits (h:iM P Q S c w): ∃x y,c=[x,y]:=by
 match c,h with
 | [x,y],_=>exact ⟨x,y,rfl⟩
 | [],h=>exact h.elim
 | [_],h=>exact h.elim
 | _ ::_ ::_ ::_,h=>exact h.elim
theorem iM.skip (h1:(k == i)=false) (h2:(l == i)=false) (h:iM P Q S c w):iM P Q S (pK [k,l] c i) w:=by
 obtain ⟨x,y,rfl⟩:=h.bits
 simp only [pK,h1,h2,Bool.or_false]; exact h
theorem iM.fire (h1:(k == i)=true) (h2:(l == i)=false) (h:Q w):iM P Q S (pK [k,l] [false,false] i) w:=by
 simp only [pK,h1,h2,Bool.or_false,Bool.or_true]; exact h
theorem iM.last (h1:(k == i)=false) (h2:(l == i)=true) (h:S w):iM P Q S (pK [k,l] [true,false] i) w:=by
 simp only [pK,h1,h2,Bool.or_false,Bool.or_true]; exact h
theorem iM.gr {x:Bool} {T:World→Prop} (hp: ∀w,P w→T w) (hq: ∀w,Q w→T w) (h:iM P Q S [x,false] w):T w:=by
 cases x
 ·exact hp w h
 ·exact hq w h
end
theorem DT (R:Rp) (ts:ak) (w:World) (hI:aY w R ts) (hk:isDecl ts=true):
 Calls Tryz.prog 67 #[.pointer (some ⟨R.br,0,none⟩)] w (Sg R w (oW ts)):=by
 have HI:=Lib.hid hI
 have HL:=Lib.hid (kX hI)
 have hlt:=hI.lt
 have ax7:=Lib.hid hlt
 obtain ⟨t0,r0,hr⟩: ∃t r,ts=t ::r:=by
  cases ts with
  | nil=>exact absurd hk (by simp [isDecl,nextK])
  | cons t r=>exact ⟨t,r,rfl⟩
 have nu:=Lib.hid hr
 have hd0:(gY (ay ts) == 0)=false:=by
  unfold isDecl at hk; simp only [Bool.and_eq_true,Bool.not_eq_true'] at hk; exact hk.2
 have Un:=Lib.hid (Vv (ay ts) hd0)
 rw [V7]
 clear hk hr hd0
 go_enter Tryz.func67,Tryz.ntmps67
 go_upto_region 1 with fail
 generalize hW:World.alloc w _=W0
 have HB0:Hid (Below w.heap.size w W0):=Lib.hid (by rw [← hW]; exact ah _ _)
 have HZ0:Hid (W0.heap[w.heap.size]? =some (.cells wP 62 (0,0))):=Lib.hid (by rw [← hW]; exact heap_alloc_new _ _)
 have HN:=Lib.hid (ig R ts W0 (HI.out.below HB0.out))
 unfold lH at HN
 clear hW hI
 go_wp2_with fail
 refine HN.out.mono ?_
 rintro e w1 ⟨rfl,h2⟩
 have HB1:=Lib.hid (HB0.out.trans (h2.mono HB0.out.size))
 have HZ1:=Lib.hid ((h2.block _ (Array.getElem?_eq_some_iff.1 HZ0.out).1).trans HZ0.out)
 clear h2 HN HB0 HZ0
 go_upto_region 2 with fail
 obtain ⟨gt,hg⟩: ∃g,w1.heap.size=g:=⟨_,rfl⟩
 rw [hg]
 generalize hW:World.alloc w1 _=W2
 have HB2:Hid (Below w.heap.size w W2):=Lib.hid (by rw [← hW]; exact HB1.out.alloc HB1.out.size _)
 have HT2:Hid (W2.heap[gt]? =some (.cells #[.int .i64 ((nextK ts:Nat):Int),.string (tx (ay ts)),.int .i64 ((aK ts:Nat):Int)] 112 (0,0))):=Lib.hid (by rw [← hW,← hg]; exact heap_alloc_new _ _)
 have HZ2:Hid (W2.heap[w.heap.size]? =some (.cells wP 62 (0,0))):=Lib.hid (by rw [← hW]; exact (heap_alloc_old _ _ (Array.getElem?_eq_some_iff.1 HZ1.out).1).trans HZ1.out)
 have aX:Hid (R.br < w.heap.size∧w.heap.size < gt):=Lib.hid ⟨hlt,by rw [← hg]; exact (Array.getElem?_eq_some_iff.1 HZ1.out).1⟩
 obtain ⟨pos,hp,q0,q1,fq,HX⟩:=(HI.out.below HB2.out).open
 clear hW hg HB1 HZ1
 go_upto_region 3 with fail
 generalize hW:World.setCell W2 _ _=W3
 have HQ:Hid (aY W3 R ts.tail∧W2.grownBy W3 (some R.br)):=Lib.hid (by rw [← hW,nu.out]; exact HX.out t0 r0 nu.out)
 have yC:Hid (w.grownBy W3 (some R.br)):=Lib.hid (bD (aH HB2.out) HQ.out.2)
 have HT3:=Lib.hid ((HQ.out.2.block _ (Array.getElem?_eq_some_iff.1 HT2.out).1 (by have:=aX.out; simp; omega)).trans HT2.out)
 have HZ3:=Lib.hid ((HQ.out.2.block _ (Array.getElem?_eq_some_iff.1 HZ2.out).1 (by have:=aX.out; simp; omega)).trans HZ2.out)
 have XY:=Lib.hid HQ.out.1
 clear hW q0 q1 fq HX HB2 HT2 HZ2 HQ
 have K1: ∀w',Below W3.heap.size W3 w'→w'.cell? ⟨gt,1,none⟩=some (.string (tx (ay ts))):=fun w' h=>aj ((h.block _ (Array.getElem?_eq_some_iff.1 HT3.out).1).trans HT3.out) rfl
 have K2: ∀w',Below W3.heap.size W3 w'→w'.cell? ⟨gt,2,none⟩=some (.int .i64 ((aK ts:Nat):Int)):=fun w' h=>aj ((h.block _ (Array.getElem?_eq_some_iff.1 HT3.out).1).trans HT3.out) rfl
 refine dY (by kernel_rfl) rfl ?_
 refine dN 0 7 [] [[],[0],[0,1],[],[3],[0,1,2,3,4],[],[0,1,2,3,4,5,6]] [[],[],[],[],[],[],[]] (fun _ w'=>Below W3.heap.size W3 w') (fun w w'=>Below w.heap.size w w') [16,17,18,19,20,21,5] rfl rfl (by rfl) (by kernel_rfl) (by kernel_rfl) (by kernel_rfl) (by kernel_rfl) (by kernel_rfl) (by rfl) (fun _=>Below.refl _ _) (by rfl) (below_drewN (Below.refl _ _) 1) ?_
 simp only [List.take_succ_cons,List.take_zero,List.drop_zero,List.drop_succ_cons,jR,List.map_cons,List.map_nil]
 apply aI.step
 case aG=>
  intro c A w' hok hC hO hD
  have e4:=hO 4 (by rfl)
  simp [Act.eval] at e4
  simp [aC,aB,au,Act.eval,Region.binds] at hD
  simp [go_sem,gd,Oper.wp,hD,e4]
  exact aA.mk (Below.refl _ _) hC (aB.mk _ _)
 apply aI.step
 case aG=>
  intro c A w' hok hC hO hD
  simp [aC,aB,au,Act.eval,Region.binds] at hD
  simp [go_sem,gd,Oper.wp,hD,K1,hC]
  exact aA.mk (Below.refl _ _) hC (aB.mk _ _)
 apply aI.step
 case aG=>
  intro c A w' hok hC hO hD
  simp [aC,aB,au,Act.eval,Region.binds] at hD
  simp [go_sem,gd,Oper.wp,hD]
  refine (Av (tx (ay ts)) (l:=ay ts) (Fb _) w').mono ?_
  rintro e w2 ⟨rfl,rfl⟩
  exact aA.mk (Below.refl _ _) hC (aB.mk _ _)
 apply aI.step
 case aG=>
  intro c A w' hok hC hO hD
  have e4:=hO 4 (by rfl)
  simp [Act.eval] at e4
  simp [aC,aB,au,Act.eval,Region.binds] at hD
  simp [go_sem,gd,Oper.wp,hD,e4]
  exact aA.mk (Below.refl _ _) hC (aB.mk _ _)
 apply aI.step
 case aG=>
  intro c A w' hok hC hO hD
  simp [aC,aB,au,Act.eval,Region.binds] at hD
  simp [go_sem,gd,Oper.wp,hD,K2,hC]
  exact aA.mk (Below.refl _ _) hC (aB.mk _ _)
 simp only [List.nil_append,List.cons_append]
 apply aI.step
 case aG=>
  intro c A w' hok hC hO hD
  simp [aC,aB,au,Act.eval,Region.binds] at hD
  simp [go_sem,gd,Oper.wp,hD]
  exact aA.mk (Below.refl _ _) hC (aB.mk _ _)
 refine aI.some (fun v w'=> ∃db,v= .pointer (some ⟨db,0,none⟩)∧W3.heap.size≤db∧w'.heap[db]? =some (.cells wP 62 (0,0))) ?_ ?_ ?_
 ·rintro v w1 w' hle ⟨g,h1,h2,h3⟩
  exact ⟨g,h1,h2,(hle.block g (Array.getElem?_eq_some_iff.1 h3).1).trans h3⟩
 ·intro c A w' hok hC hO hD
  simp [go_sem,gd,Oper.wp]
  exact aA.mk (d:=_) (v:= .pointer (some ⟨_,0,none⟩)) (ah _ _) (hC.alloc hC.size _) ⟨_,rfl,hC.size,heap_alloc_new _ _⟩
 simp only [List.nil_append,List.cons_append]
 refine aI.done ?_
 intro wz eY
 simp only [List.drop_zero]
 intro v0 h0 v1 h1 v2 h2 v3 h3 v4 h4 v5 h5 v6 h6
 have h5':=Eq.symm (show v5=_ from h5)
 subst h5'
 obtain ⟨bd,rfl,BO,vX⟩:=h6
 clear h0 h1 h2 h3 h4 h5 K1 K2
 have HD0:Hid ((⟨gY (ay ts),((aK ts:Nat):Int),⟨#[]⟩,0,0,⟨#[]⟩⟩:De).Ok):=Lib.hid ⟨by have:=Un.out; show aM (gY _); unfold aM; omega,HL.out,Nat.zero_le _,kE,kE,Nat.zero_le _⟩
 have wu:Hid (Below W3.heap.size W3 wz):=Lib.hid eY
 have Gt:Hid (W3.heap.size≤bd∧wz.heap[bd]? =some (.cells wP 62 (0,0))):=Lib.hid ⟨BO,vX⟩
 clear eY BO
 refine jm ?_
 go_simp
 refine eu 7 [[],[0],[0,1],[],[3],[0,1,2,3,4],[],[0,1,2,3,4,5,6]] rfl rfl rfl rfl rfl (by kernel_rfl) (by kernel_rfl) (by kernel_rfl) ?_
 refine wp_store_mid _ _ _ (by rfl) bd 0 (gF ⟨gY (ay ts),((aK ts:Nat):Int),⟨#[]⟩,0,0,⟨#[]⟩⟩).toArray (by rfl) (by rfl) (nW vX (Nat.le_refl 6)) EB (by simp [gF,Value.oneCell']) ?_
 refine fM rfl ?_
 generalize qF:World.setCells wz bd 0 _=W5
 have ny:Hid (w.heap.size < bd∧R.br < bd):=Lib.hid (by have h1:=Gt.out.1; have h2:=(Array.getElem?_eq_some_iff.1 HZ3.out).1; have h3:=aX.out; omega)
 have yL:Hid (wz.grownBy W5 (some bd)):=Lib.hid (by rw [← qF]; exact aP _ _ _ _)
 have jy:Hid (Pd R bd W5 ⟨gY (ay ts),((aK ts:Nat):Int),⟨#[]⟩,0,0,⟨#[]⟩⟩ ts.tail):=Lib.hid ⟨nI (XY.out.below wu.out) yL.out (by have:=ny.out; have:=R.b0; omega) (by have:=ny.out; omega),by have:=ny.out; omega,by have:=ny.out; have:=R.b0; omega,by rw [← qF]; exact iw Gt.out.2 rfl,HD0.out⟩
 have AZ:Hid (w.grownBy W5 (some R.br)):=Lib.hid (by rw [← qF]; exact kH (bD yC.out (aH wu.out)) _ _ _ (Nat.le_of_lt ny.out.1))
 have iq:Hid (W5.heap[w.heap.size]? =some (.cells wP 62 (0,0))):=Lib.hid ((yL.out.block _ (Nat.lt_of_lt_of_le (Array.getElem?_eq_some_iff.1 HZ3.out).1 wu.out.size) (by have:=ny.out; simp; omega)).trans ((wu.out.block _ (Array.getElem?_eq_some_iff.1 HZ3.out).1).trans HZ3.out))
 clear qF yL wu Gt vX HD0 XY yC HT3 HZ3
 go_simp
 cases hn:isName ts.tail
 ·have HE:Hid (((eO ts.tail).bind fun s r=>kD ⟨gY (ay ts),aK ts,s,0,0,⟨#[]⟩⟩ r).close [59]= .no ts.tail):=Lib.hid (by rw [nL hn]; rfl)
  go_wp2_with fail
  refine (kZ R _ _ hn jy.out.rd).mono ?_
  rintro e w6 ⟨rfl,h2⟩
  have iZ:=Lib.hid (jy.out.below h2)
  have IK:=Lib.hid (bD AZ.out (aH h2))
  have G5:=Lib.hid ((h2.block _ (Array.getElem?_eq_some_iff.1 iq.out).1).trans iq.out)
  clear h2 jy AZ iq
  have c2:=iZ.out.cell (j:=2) rfl
  have f2:=iZ.out.free 2
  go_upto_region 6 with fail
  generalize hW:World.setCell w6 _ _=W7
  have ji:Hid (Pd R bd W7 ⟨gY (ay ts),((aK ts:Nat):Int),⟨#[]⟩,0,0,⟨#[]⟩⟩ ts.tail):=Lib.hid (by rw [← hW]; exact iZ.out.nm ⟨#[]⟩ (Nat.zero_le _))
  have yc:Hid (w.grownBy W7 (some R.br)):=Lib.hid (by rw [← hW]; exact jC IK.out _ _ (Nat.le_of_lt ny.out.1))
  have Ap:Hid (W7.heap[w.heap.size]? =some (.cells wP 62 (0,0))):=Lib.hid (by rw [← hW]; exact (aN w6 _ _ rfl (by have:=ny.out; show bd≠_; omega)).trans G5.out)
  clear hW iZ IK G5 c2 f2
  obtain ⟨⟨y0,y1,y2,y3,y4,y5⟩,fz⟩:=z6 Ap.out
  have g0:=fz 0
  have g1:=fz 1
  have g2:=fz 2
  have g3:=fz 3
  have g4:=fz 4
  have g5:=fz 5
  obtain ⟨d0,d1,d2,d3,d4,d5⟩:=SV ji.out
  clear fz
  go_wp2_with fail
  exact bodyPost_ret (v:= .tuple #[pF ⟨gY (ay ts),((aK ts:Nat):Int),⟨#[]⟩,0,0,⟨#[]⟩⟩,.bool false]) (by simp [results,Tryz.results67,go_sem,pF,y0,y1,y2,y3,y4,y5]) rfl (Kc HE.out ji.out.rd yc.out aX.out.1)
 ·have eH:Hid ((tx (ay ts.tail)).size≤maxLen):=Lib.hid (mD (mq jy.out.rd.ts hn))
  have HE:Hid (((eO ts.tail).bind fun s r=>kD ⟨gY (ay ts),aK ts,s,0,0,⟨#[]⟩⟩ r).close [59]=(kD ⟨gY (ay ts),aK ts,tx (ay ts.tail),0,0,⟨#[]⟩⟩ ts.tail.tail).close [59]):=Lib.hid (by rw [lK hn]; rfl)
  go_wp2_with fail
  refine (jG R _ _ hn jy.out.rd).mono ?_
  rintro e w6 ⟨rfl,h2,h3⟩
  have iZ:=Lib.hid (jy.out.then h2 h3)
  have IK:=Lib.hid (bD AZ.out h3)
  have G5:=Lib.hid ((h3.block _ (Array.getElem?_eq_some_iff.1 iq.out).1 (by have:=aX.out; simp; omega)).trans iq.out)
  clear h2 h3 jy AZ iq
  have c2:=iZ.out.cell (j:=2) rfl
  have f2:=iZ.out.free 2
  go_upto_region 6 with fail
  generalize hW:World.setCell w6 _ _=W7
  have ji:Hid (Pd R bd W7 ⟨gY (ay ts),((aK ts:Nat):Int),tx (ay ts.tail),0,0,⟨#[]⟩⟩ ts.tail.tail):=Lib.hid (by rw [← hW]; exact iZ.out.nm _ eH.out)
  have yc:Hid (w.grownBy W7 (some R.br)):=Lib.hid (by rw [← hW]; exact jC IK.out _ _ (Nat.le_of_lt ny.out.1))
  have Ap:Hid (W7.heap[w.heap.size]? =some (.cells wP 62 (0,0))):=Lib.hid (by rw [← hW]; exact (aN w6 _ _ rfl (by have:=ny.out; show bd≠_; omega)).trans G5.out)
  clear hW iZ IK G5 c2 f2
  obtain ⟨dd,Zq⟩: ∃dd,Hid ((⟨gY (ay ts),((aK ts:Nat):Int),tx (ay ts.tail),0,0,⟨#[]⟩⟩:De)=dd):=⟨_,Lib.hid rfl⟩
  have HKK:Hid (dd.kind=gY (ay ts)):=Lib.hid (by rw [← Zq.out])
  rw [Zq.out] at ji HE
  obtain ⟨r1,HR1⟩: ∃r1,Hid (ts.tail.tail=r1):=⟨_,Lib.hid rfl⟩
  rw [HR1.out] at ji HE
  have c0:W7.cell? ⟨bd,0,none⟩=some (.int .i64 dd.kind):=ji.out.cell rfl
  have HRK:=Lib.hid (show kD dd r1=kD dd r1 from rfl)
  go_upto_block 0 with fail
  go_cut [6] (fun s6 W'=> ∃d r2 b,s6= .bool b∧Pd R bd W' d r2∧w.grownBy W' (some R.br)∧W'.heap[w.heap.size]? =some (.cells wP 62 (0,0))∧kD dd r1=if b then .ok d r2 else .no r2)
  case first=>
   cases k1:(dd.kind == 1)
   ·cases k2:(dd.kind == 2)
    ·cases k5:(dd.kind == 5)
     ·have HQ:Hid (kD dd r1= .ok dd r1):=Lib.hid (by unfold kD; rw [if_neg (by rw [k1]; decide),if_neg (by rw [k2]; decide),if_neg (by rw [k5]; decide)])
      go_wp2_with fail
      go_meet
      exact ⟨dd,r1,true,rfl,ji.out,yc.out,Ap.out,HQ.out⟩
     ·have HQ:Hid (kD dd r1=(eO r1).map (fun o=> {dd with on:=o})):=Lib.hid (by unfold kD; rw [if_neg (by rw [k1]; decide),if_neg (by rw [k2]; decide),if_pos k5])
      cases hm:isName r1
      ·go_wp2_with fail
       refine (kZ R _ _ hm ji.out.rd).mono ?_
       rintro e w8 ⟨rfl,h2⟩
       have jl:=Lib.hid (ji.out.below h2)
       have xW:=Lib.hid (bD yc.out (aH h2))
       have DF:=Lib.hid ((h2.block _ (Array.getElem?_eq_some_iff.1 Ap.out).1).trans Ap.out)
       clear h2
       have c5:=jl.out.cell (j:=5) rfl
       have f5:=jl.out.free 5
       go_wp2_with fail
       go_meet
       exact ⟨_,r1,false,rfl,jl.out.on ⟨#[]⟩ (Nat.zero_le _),jC xW.out _ _ (Nat.le_of_lt ny.out.1),(aN w8 _ _ rfl (by have:=ny.out; show bd≠_; omega)).trans DF.out,HQ.out.trans (by rw [nL hm]; rfl)⟩
      ·have AU:Hid ((tx (ay r1)).size≤maxLen):=Lib.hid (mD (mq ji.out.rd.ts hm))
       go_wp2_with fail
       refine (jG R _ _ hm ji.out.rd).mono ?_
       rintro e w8 ⟨rfl,h2,h3⟩
       have jl:=Lib.hid (ji.out.then h2 h3)
       have xW:=Lib.hid (bD yc.out h3)
       have DF:=Lib.hid ((h3.block _ (Array.getElem?_eq_some_iff.1 Ap.out).1 (by have:=aX.out; simp; omega)).trans Ap.out)
       clear h2 h3
       have c5:=jl.out.cell (j:=5) rfl
       have f5:=jl.out.free 5
       go_wp2_with fail
       go_meet
       exact ⟨_,r1.tail,true,rfl,jl.out.on _ AU.out,jC xW.out _ _ (Nat.le_of_lt ny.out.1),(aN w8 _ _ rfl (by have:=ny.out; show bd≠_; omega)).trans DF.out,HQ.out.trans (by rw [lK hm]; rfl)⟩
    ·have HQ:Hid (kD dd r1=jE dd r1):=Lib.hid (by unfold kD; rw [if_neg (by rw [k1]; decide),if_pos k2])
     have HC:=Lib.hid (Cr R bd r1 dd W7 ji.out)
     obtain ⟨Dm,vP⟩: ∃Dm,Hid (kD dd r1=Dm):=⟨_,Lib.hid rfl⟩
     rw [← HQ.out,vP.out] at HC
     clear HQ
     cases Dm with
     | no q=>
       go_wp2_with fail
       refine HC.out.mono ?_
       rintro e w9 ⟨rfl,⟨d',h2⟩,h3⟩
       have Dy:=Lib.hid h2
       have AP:=Lib.hid h3
       clear h2 h3
       go_wp2_with fail
       go_meet
       exact ⟨d',q,false,rfl,Dy.out,zl yc.out AP.out (Nat.le_of_lt ny.out.1),gZ AP.out Ap.out (by have:=aX.out; omega) (by have:=ny.out; omega),vP.out⟩
     | ok d' q=>
       go_wp2_with fail
       refine HC.out.mono ?_
       rintro e w9 ⟨rfl,h2,h3⟩
       have Dy:=Lib.hid h2
       have AP:=Lib.hid h3
       clear h2 h3
       go_wp2_with fail
       go_meet
       exact ⟨d',q,true,rfl,Dy.out,zl yc.out AP.out (Nat.le_of_lt ny.out.1),gZ AP.out Ap.out (by have:=aX.out; omega) (by have:=ny.out; omega),vP.out⟩
   ·have HQ:Hid (kD dd r1=(lu dd r1).bind jE):=Lib.hid (by unfold kD; rw [if_pos k1])
    have HC:=Lib.hid (SK R bd r1 dd W7 ji.out)
    cases hs:lu dd r1 with
    | no q=>
      rw [hs] at HC HQ
      go_wp2_with fail
      refine HC.out.mono ?_
      rintro e w8 ⟨rfl,⟨d',h2⟩,h3⟩
      have jl:=Lib.hid h2
      have Qu:=Lib.hid h3
      clear h2 h3
      go_wp2_with fail
      go_meet
      exact ⟨d',q,false,rfl,jl.out,zl yc.out Qu.out (Nat.le_of_lt ny.out.1),gZ Qu.out Ap.out (by have:=aX.out; omega) (by have:=ny.out; omega),HQ.out⟩
    | ok d2 q=>
      rw [hs] at HC HQ
      have rJ:Hid (kD dd r1=jE d2 q):=Lib.hid HQ.out
      have HC2:Hid (∀W,Pd R bd W d2 q→Calls Tryz.prog 109 #[.pointer (some ⟨R.br,0,none⟩),.pointer (some ⟨bd,0,none⟩)] W (Oc R bd W (jE d2 q))):=Lib.hid (fun W h=>Cr R bd q d2 W h)
      clear HQ hs
      go_wp2_with fail
      refine HC.out.mono ?_
      rintro e w8 ⟨rfl,h2,h3⟩
      have jl:=Lib.hid h2
      have xW:=Lib.hid (zl yc.out h3 (Nat.le_of_lt ny.out.1))
      have DF:=Lib.hid (gZ h3 Ap.out (by have:=aX.out; omega) (by have:=ny.out; omega))
      clear h2 h3 HC
      have HC:=Lib.hid (HC2.out _ jl.out)
      have HQ:=rJ
      clear rJ HC2
      obtain ⟨Dm,vP⟩: ∃Dm,Hid (kD dd r1=Dm):=⟨_,Lib.hid rfl⟩
      rw [← HQ.out,vP.out] at HC
      clear HQ
      cases Dm with
      | no q=>
        go_wp2_with fail
        refine HC.out.mono ?_
        rintro e w9 ⟨rfl,⟨d',h2⟩,h3⟩
        have Dy:=Lib.hid h2
        have AP:=Lib.hid h3
        clear h2 h3
        go_wp2_with fail
        go_meet
        exact ⟨d',q,false,rfl,Dy.out,zl xW.out AP.out (Nat.le_of_lt ny.out.1),gZ AP.out DF.out (by have:=aX.out; omega) (by have:=ny.out; omega),vP.out⟩
      | ok d' q=>
        go_wp2_with fail
        refine HC.out.mono ?_
        rintro e w9 ⟨rfl,h2,h3⟩
        have Dy:=Lib.hid h2
        have AP:=Lib.hid h3
        clear h2 h3
        go_wp2_with fail
        go_meet
        exact ⟨d',q,true,rfl,Dy.out,zl xW.out AP.out (Nat.le_of_lt ny.out.1),gZ AP.out DF.out (by have:=aX.out; omega) (by have:=ny.out; omega),vP.out⟩
  obtain ⟨dz,rz,bz,rfl,hPd,hGr,hZ,hKR⟩:=hcut
  obtain ⟨W8,rfl⟩: ∃W:World,W=wc:=⟨_,rfl⟩
  have jl:=Lib.hid hPd
  have xW:=Lib.hid hGr
  have DF:=Lib.hid hZ
  have YC:=Lib.hid (HE.out.trans (congrArg (fun x=>bg.close [59] x) hKR))
  clear hPd hGr hZ hKR ji yc Ap HRK c0
  have KD: ∀w',W8.grownBy w' (some R.br)→(w'.cell? ⟨bd,0,none⟩=some (.int .i64 dz.kind)∧w'.cell? ⟨bd,1,none⟩=some (.int .i64 dz.line)∧w'.cell? ⟨bd,2,none⟩=some (.string dz.nm)∧w'.cell? ⟨bd,3,none⟩=some (.int .i64 dz.size)∧w'.cell? ⟨bd,4,none⟩=some (.int .i64 dz.init)∧w'.cell? ⟨bd,5,none⟩=some (.string dz.on)):=fun w' h=>by
   have hb:=(h.block _ jl.out.lt (by simp; exact jl.out.ne)).trans jl.out.blk
   exact ⟨aj hb rfl,aj hb rfl,aj hb rfl,aj hb rfl,aj hb rfl,aj hb rfl⟩
  have G6:Hid (aY W8 R rz):=Lib.hid jl.out.rd
  have e0: ∀w',W8.grownBy w' (some R.br)→w'.heap[w.heap.size]? =some (.cells wP 62 (0,0)):=fun w' h=>(h.block _ (Array.getElem?_eq_some_iff.1 DF.out).1 (by have:=aX.out; simp; omega)).trans DF.out
  have M7:=Lib.hid e0
  clear e0
  cases bz
  ·have nT:Hid (((eO ts.tail).bind fun s r=>kD ⟨gY (ay ts),aK ts,s,0,0,⟨#[]⟩⟩ r).close [59]= .no rz):=Lib.hid YC.out
   go_upto_region 15 with fail
   refine dY (by kernel_rfl) rfl ?_
   refine dN 0 8 [4,6] [[],[],[1],[1,2],[1,2,3],[1,2,3,4],[0,1,2,3,4],[0,1,2,3,4,5,6]] [[none,some false],[some false,some false],[some false,some false],[some false,some false],[some false,some false],[some true,none],[some true,some false],[some true,some true]] (iM (fun w'=>aY w' R rz∧W8.grownBy w' (some R.br)) (fun w'=>aY w' R rz∧W8.grownBy w' (some R.br)) (fun w'=> ∃w2,(aY w2 R rz∧W8.grownBy w2 (some R.br))∧w'=w2.setCells w.heap.size 0 (gF dz))) (fun _ _=>True) [53,54,55,56,57,58,3] rfl rfl (by rfl) (by kernel_rfl) (by kernel_rfl) (by kernel_rfl) (by kernel_rfl) (by kernel_rfl) (by rfl) (fun _=>trivial) (by rfl) ⟨G6.out.below (below_drewN (Below.refl _ _) 1),aH (below_drewN (Below.refl _ _) 1)⟩ ?_
   simp only [List.take_succ_cons,List.take_zero,List.drop_zero,List.drop_succ_cons,jR,List.map_cons,List.map_nil]
   apply aI.step
   case aG=>
    intro c A w' hok hC hO hD
    obtain ⟨x,y,rfl⟩:=hC.bits
    obtain ⟨rfl,-⟩:=hok
    obtain ⟨d0,d1,d2,d3,d4,d5⟩:=KD w' (hC.gr (fun _ h=>h.2) (fun _ h=>h.2))
    have e5:=hO 5 (by rfl)
    simp [Act.eval] at e5
    simp [aC,aB,au,Act.eval,Region.binds] at hD
    simp [go_sem,gd,Oper.wp,e5,d0,d1,d2,d3,d4,d5]
    exact aA.mk trivial (iM.skip (by rfl) (by rfl) hC) (aB.mk _ _)
   apply aI.step
   case aG=>
    intro c A w' hok hC hO hD
    have e6:=hO 6 (by rfl)
    simp [Act.eval] at e6
    simp [aC,aB,au,Act.eval,Region.binds] at hD
    simp [go_sem,gd,Oper.wp,hD,e6]
    exact aA.mk trivial (iM.skip (by rfl) (by rfl) hC) (aB.mk _ _)
   apply aI.step
   case aG=>
    intro c A w' hok hC hO hD
    simp [aC,aB,au,Act.eval,Region.binds] at hD
    simp [go_sem,gd,Oper.wp,hD]
    exact aA.mk trivial (iM.skip (by rfl) (by rfl) hC) (aB.mk _ _)
   refine aI.step (v:=undef) ?_ ?_
   ·intro c A w' hok hC hO hD
    simp [aC,aB,au,Act.eval,Region.binds] at hD
    simp [gd,Act.eval,hD]
    exact ⟨(iM.skip (by rfl) (by rfl) hC),aB.mk _ _⟩
   refine aI.step (v:=undef) ?_ ?_
   ·intro c A w' hok hC hO hD
    obtain ⟨x,y,rfl⟩:=hC.bits
    obtain ⟨rfl,rfl,-⟩:=hok
    simp [aC,aB,au,Act.eval,Region.binds] at hD
    simp [gd,Act.eval,hD]
    exact ⟨iM.fire (by rfl) (by rfl) hC,aB.mk _ _⟩
   simp only [List.nil_append,List.cons_append]
   apply aI.step
   case aG=>
    intro c A w' hok hC hO hD
    simp [aC,aB,au,Act.eval,Region.binds] at hD
    simp [go_sem,gd,Oper.wp,hD]
    exact aA.mk trivial (iM.skip (by rfl) (by rfl) hC) (aB.mk _ _)
   refine aI.some (fun _ _=>True) (fun _ _ _ _ _=>trivial) ?_ ?_
   ·intro c A w' hok hC hO hD
    obtain ⟨x,y,rfl⟩:=hC.bits
    obtain ⟨rfl,rfl,-⟩:=hok
    have e2:=hO 2 (by rfl)
    simp [Act.eval] at e2
    simp [aC,aB,au,Act.eval,Region.binds] at hD
    simp only [gd,if_true]
    refine wp_store_mid _ _ _ (by rfl) w.heap.size 0 (gF dz).toArray (by simp [Act.eval,e2]) (by simp [Act.eval,hD,gF]) (nW (M7.out w' hC.2) (Nat.le_refl 6)) EB (by simp [gF,Value.oneCell']) ?_
    exact aA.yU trivial (iM.last (by rfl) (by rfl) ⟨w',hC,rfl⟩) trivial
   apply aI.step
   case aG=>
    intro c A w' hok hC hO hD
    simp [aC,aB,au,Act.eval,Region.binds] at hD
    simp [go_sem,gd,Oper.wp,hD]
    exact aA.mk trivial (iM.skip (by rfl) (by rfl) hC) (aB.mk _ _)
   try simp only [List.nil_append,List.cons_append]
   refine aI.done ?_
   intro w9 xE
   try simp only [List.drop_succ_cons,List.drop_zero]
   intro x0 h0 x1 h1 x2 h2 x3 h3 x4 h4 x5 h5 x6 h6 x7 h7
   have yO:=Eq.symm (show x7=_ from h7)
   subst yO
   clear h0 h1 h2 h3 h4 h5 h6 h7
   refine jm ?_
   refine fM rfl ?_
   obtain ⟨w2,hw2,wU⟩: ∃w2,(aY w2 R _∧W8.grownBy w2 (some R.br))∧w9=w2.setCells w.heap.size 0 (gF dz):=xE
   have iK:w9.heap[w.heap.size]? =some (.cells (gF dz).toArray 62 (0,0)):=by rw [wU]; exact iw (M7.out w2 hw2.2) rfl
   have Gu:=Lib.hid wU
   have y0:w9.cell? ⟨w.heap.size,0,none⟩=some (.int .i64 dz.kind):=aj iK rfl
   have y1:w9.cell? ⟨w.heap.size,1,none⟩=some (.int .i64 dz.line):=aj iK rfl
   have y2:w9.cell? ⟨w.heap.size,2,none⟩=some (.string dz.nm):=aj iK rfl
   have y3:w9.cell? ⟨w.heap.size,3,none⟩=some (.int .i64 dz.size):=aj iK rfl
   have y4:w9.cell? ⟨w.heap.size,4,none⟩=some (.int .i64 dz.init):=aj iK rfl
   have y5:w9.cell? ⟨w.heap.size,5,none⟩=some (.string dz.on):=aj iK rfl
   have wO:=Lib.hid (Kc (d:=dz) nT.out hw2.1 (bD xW.out hw2.2) aX.out.1)
   rw [← wU] at wO
   clear wU iK KD
   go_simp
   go_wp2_with fail
   exact bodyPost_ret (v:= .tuple #[pF dz,.bool false]) (by simp [results,Tryz.results67,go_sem,pF,y0,y1,y2,y3,y4,y5]) rfl wO.out
  ·cases h4:at' [59] rz
   ·have nT:Hid (((eO ts.tail).bind fun s r=>kD ⟨gY (ay ts),aK ts,s,0,0,⟨#[]⟩⟩ r).close [59]= .no rz):=Lib.hid (YC.out.trans (nK h4))
    go_upto_region 15 with fail
    refine dY (by kernel_rfl) rfl ?_
    refine dN 0 8 [4,6] [[],[],[1],[1,2],[1,2,3],[1,2,3,4],[0,1,2,3,4],[0,1,2,3,4,5,6]] [[none,some false],[some false,some false],[some false,some false],[some false,some false],[some false,some false],[some true,none],[some true,some false],[some true,some true]] (iM (fun w'=>aY w' R rz∧W8.grownBy w' (some R.br)) (fun w'=>aY w' R rz∧W8.grownBy w' (some R.br)) (fun w'=> ∃w2,(aY w2 R rz∧W8.grownBy w2 (some R.br))∧w'=w2.setCells w.heap.size 0 (gF dz))) (fun _ _=>True) [53,54,55,56,57,58,3] rfl rfl (by rfl) (by kernel_rfl) (by kernel_rfl) (by kernel_rfl) (by kernel_rfl) (by kernel_rfl) (by rfl) (fun _=>trivial) (by rfl) ⟨G6.out.below (below_drewN (Below.refl _ _) 1),aH (below_drewN (Below.refl _ _) 1)⟩ ?_
    simp only [List.take_succ_cons,List.take_zero,List.drop_zero,List.drop_succ_cons,jR,List.map_cons,List.map_nil]
    apply aI.step
    case aG=>
     intro c A w' hok hC hO hD
     obtain ⟨x,y,rfl⟩:=hC.bits
     obtain ⟨rfl,-⟩:=hok
     obtain ⟨d0,d1,d2,d3,d4,d5⟩:=KD w' (hC.gr (fun _ h=>h.2) (fun _ h=>h.2))
     have e5:=hO 5 (by rfl)
     simp [Act.eval] at e5
     simp [aC,aB,au,Act.eval,Region.binds] at hD
     simp [go_sem,gd,Oper.wp,e5,d0,d1,d2,d3,d4,d5]
     exact aA.mk trivial (iM.skip (by rfl) (by rfl) hC) (aB.mk _ _)
    apply aI.step
    case aG=>
     intro c A w' hok hC hO hD
     have e6:=hO 6 (by rfl)
     simp [Act.eval] at e6
     simp [aC,aB,au,Act.eval,Region.binds] at hD
     simp [go_sem,gd,Oper.wp,hD,e6]
     exact aA.mk trivial (iM.skip (by rfl) (by rfl) hC) (aB.mk _ _)
    apply aI.step
    case aG=>
     intro c A w' hok hC hO hD
     simp [aC,aB,au,Act.eval,Region.binds] at hD
     simp [go_sem,gd,Oper.wp,hD]
     exact aA.mk trivial (iM.skip (by rfl) (by rfl) hC) (aB.mk _ _)
    apply aI.step
    case aG=>
     intro c A w' hok hC hO hD
     have e0:=hO 0 (by rfl)
     simp [Act.eval] at e0
     simp [aC,aB,au,Act.eval,Region.binds] at hD
     simp [go_sem,gd,Oper.wp,hD,e0]
     exact aA.mk trivial (iM.skip (by rfl) (by rfl) hC) (aB.mk _ _)
    apply aI.step
    case aG=>
     intro c A w' hok hC hO hD
     obtain ⟨x,y,rfl⟩:=hC.bits
     obtain ⟨rfl,rfl,-⟩:=hok
     simp [aC,aB,au,Act.eval,Region.binds] at hD
     simp [go_sem,gd,Oper.wp,hD]
     refine (dJ R _ _ ⟨#[59]⟩ rfl h4 hC.1).mono ?_
     rintro e w3 ⟨rfl,k2⟩
     exact aA.mk trivial (iM.fire (by rfl) (by rfl) ⟨hC.1.below k2,bD hC.2 (aH k2)⟩) (aB.mk _ _)
    simp only [List.nil_append,List.cons_append]
    apply aI.step
    case aG=>
     intro c A w' hok hC hO hD
     simp [aC,aB,au,Act.eval,Region.binds] at hD
     simp [go_sem,gd,Oper.wp,hD]
     exact aA.mk trivial (iM.skip (by rfl) (by rfl) hC) (aB.mk _ _)
    refine aI.some (fun _ _=>True) (fun _ _ _ _ _=>trivial) ?_ ?_
    ·intro c A w' hok hC hO hD
     obtain ⟨x,y,rfl⟩:=hC.bits
     obtain ⟨rfl,rfl,-⟩:=hok
     have e2:=hO 2 (by rfl)
     simp [Act.eval] at e2
     simp [aC,aB,au,Act.eval,Region.binds] at hD
     simp only [gd,if_true]
     refine wp_store_mid _ _ _ (by rfl) w.heap.size 0 (gF dz).toArray (by simp [Act.eval,e2]) (by simp [Act.eval,hD,gF]) (nW (M7.out w' hC.2) (Nat.le_refl 6)) EB (by simp [gF,Value.oneCell']) ?_
     exact aA.yU trivial (iM.last (by rfl) (by rfl) ⟨w',hC,rfl⟩) trivial
    apply aI.step
    case aG=>
     intro c A w' hok hC hO hD
     simp [aC,aB,au,Act.eval,Region.binds] at hD
     simp [go_sem,gd,Oper.wp,hD]
     exact aA.mk trivial (iM.skip (by rfl) (by rfl) hC) (aB.mk _ _)
    try simp only [List.nil_append,List.cons_append]
    refine aI.done ?_
    intro w9 xE
    try simp only [List.drop_succ_cons,List.drop_zero]
    intro x0 h0 x1 h1 x2 h2 x3 h3 x4 h4 x5 h5 x6 h6 x7 h7
    have yO:=Eq.symm (show x7=_ from h7)
    subst yO
    clear h0 h1 h2 h3 h4 h5 h6 h7
    refine jm ?_
    refine fM rfl ?_
    obtain ⟨w2,hw2,wU⟩: ∃w2,(aY w2 R _∧W8.grownBy w2 (some R.br))∧w9=w2.setCells w.heap.size 0 (gF dz):=xE
    have iK:w9.heap[w.heap.size]? =some (.cells (gF dz).toArray 62 (0,0)):=by rw [wU]; exact iw (M7.out w2 hw2.2) rfl
    have Gu:=Lib.hid wU
    have y0:w9.cell? ⟨w.heap.size,0,none⟩=some (.int .i64 dz.kind):=aj iK rfl
    have y1:w9.cell? ⟨w.heap.size,1,none⟩=some (.int .i64 dz.line):=aj iK rfl
    have y2:w9.cell? ⟨w.heap.size,2,none⟩=some (.string dz.nm):=aj iK rfl
    have y3:w9.cell? ⟨w.heap.size,3,none⟩=some (.int .i64 dz.size):=aj iK rfl
    have y4:w9.cell? ⟨w.heap.size,4,none⟩=some (.int .i64 dz.init):=aj iK rfl
    have y5:w9.cell? ⟨w.heap.size,5,none⟩=some (.string dz.on):=aj iK rfl
    have wO:=Lib.hid (Kc (d:=dz) nT.out hw2.1 (bD xW.out hw2.2) aX.out.1)
    rw [← wU] at wO
    clear wU iK KD
    go_simp
    go_wp2_with fail
    exact bodyPost_ret (v:= .tuple #[pF dz,.bool false]) (by simp [results,Tryz.results67,go_sem,pF,y0,y1,y2,y3,y4,y5]) rfl wO.out
   ·have nT:Hid (((eO ts.tail).bind fun s r=>kD ⟨gY (ay ts),aK ts,s,0,0,⟨#[]⟩⟩ r).close [59]= .ok dz rz.tail):=Lib.hid (YC.out.trans (nO h4))
    go_upto_region 15 with fail
    refine dY (by kernel_rfl) rfl ?_
    refine dN 0 8 [4,6] [[],[],[1],[1,2],[1,2,3],[1,2,3,4],[0,1,2,3,4],[0,1,2,3,4,5,6]] [[none,some false],[some false,some false],[some false,some false],[some false,some false],[some false,some false],[some true,none],[some true,some false],[some true,some true]] (iM (fun w'=>aY w' R rz∧W8.grownBy w' (some R.br)) (fun w'=>aY w' R rz.tail∧W8.grownBy w' (some R.br)) (fun w'=> ∃w2,(aY w2 R rz.tail∧W8.grownBy w2 (some R.br))∧w'=w2.setCells w.heap.size 0 (gF dz))) (fun _ _=>True) [53,54,55,56,57,58,3] rfl rfl (by rfl) (by kernel_rfl) (by kernel_rfl) (by kernel_rfl) (by kernel_rfl) (by kernel_rfl) (by rfl) (fun _=>trivial) (by rfl) ⟨G6.out.below (below_drewN (Below.refl _ _) 1),aH (below_drewN (Below.refl _ _) 1)⟩ ?_
    simp only [List.take_succ_cons,List.take_zero,List.drop_zero,List.drop_succ_cons,jR,List.map_cons,List.map_nil]
    apply aI.step
    case aG=>
     intro c A w' hok hC hO hD
     obtain ⟨x,y,rfl⟩:=hC.bits
     obtain ⟨rfl,-⟩:=hok
     obtain ⟨d0,d1,d2,d3,d4,d5⟩:=KD w' (hC.gr (fun _ h=>h.2) (fun _ h=>h.2))
     have e5:=hO 5 (by rfl)
     simp [Act.eval] at e5
     simp [aC,aB,au,Act.eval,Region.binds] at hD
     simp [go_sem,gd,Oper.wp,e5,d0,d1,d2,d3,d4,d5]
     exact aA.mk trivial (iM.skip (by rfl) (by rfl) hC) (aB.mk _ _)
    apply aI.step
    case aG=>
     intro c A w' hok hC hO hD
     have e6:=hO 6 (by rfl)
     simp [Act.eval] at e6
     simp [aC,aB,au,Act.eval,Region.binds] at hD
     simp [go_sem,gd,Oper.wp,hD,e6]
     exact aA.mk trivial (iM.skip (by rfl) (by rfl) hC) (aB.mk _ _)
    apply aI.step
    case aG=>
     intro c A w' hok hC hO hD
     simp [aC,aB,au,Act.eval,Region.binds] at hD
     simp [go_sem,gd,Oper.wp,hD]
     exact aA.mk trivial (iM.skip (by rfl) (by rfl) hC) (aB.mk _ _)
    apply aI.step
    case aG=>
     intro c A w' hok hC hO hD
     have e0:=hO 0 (by rfl)
     simp [Act.eval] at e0
     simp [aC,aB,au,Act.eval,Region.binds] at hD
     simp [go_sem,gd,Oper.wp,hD,e0]
     exact aA.mk trivial (iM.skip (by rfl) (by rfl) hC) (aB.mk _ _)
    apply aI.step
    case aG=>
     intro c A w' hok hC hO hD
     obtain ⟨x,y,rfl⟩:=hC.bits
     obtain ⟨rfl,rfl,-⟩:=hok
     simp [aC,aB,au,Act.eval,Region.binds] at hD
     simp [go_sem,gd,Oper.wp,hD]
     refine (bQ R _ _ ⟨#[59]⟩ rfl h4 hC.1).mono ?_
     rintro e w3 ⟨rfl,k2,k3⟩
     exact aA.mk trivial (iM.fire (by rfl) (by rfl) ⟨k2,bD hC.2 k3⟩) (aB.mk _ _)
    simp only [List.nil_append,List.cons_append]
    apply aI.step
    case aG=>
     intro c A w' hok hC hO hD
     simp [aC,aB,au,Act.eval,Region.binds] at hD
     simp [go_sem,gd,Oper.wp,hD]
     exact aA.mk trivial (iM.skip (by rfl) (by rfl) hC) (aB.mk _ _)
    refine aI.some (fun _ _=>True) (fun _ _ _ _ _=>trivial) ?_ ?_
    ·intro c A w' hok hC hO hD
     obtain ⟨x,y,rfl⟩:=hC.bits
     obtain ⟨rfl,rfl,-⟩:=hok
     have e2:=hO 2 (by rfl)
     simp [Act.eval] at e2
     simp [aC,aB,au,Act.eval,Region.binds] at hD
     simp only [gd,if_true]
     refine wp_store_mid _ _ _ (by rfl) w.heap.size 0 (gF dz).toArray (by simp [Act.eval,e2]) (by simp [Act.eval,hD,gF]) (nW (M7.out w' hC.2) (Nat.le_refl 6)) EB (by simp [gF,Value.oneCell']) ?_
     exact aA.yU trivial (iM.last (by rfl) (by rfl) ⟨w',hC,rfl⟩) trivial
    apply aI.step
    case aG=>
     intro c A w' hok hC hO hD
     simp [aC,aB,au,Act.eval,Region.binds] at hD
     simp [go_sem,gd,Oper.wp,hD]
     exact aA.mk trivial (iM.skip (by rfl) (by rfl) hC) (aB.mk _ _)
    try simp only [List.nil_append,List.cons_append]
    refine aI.done ?_
    intro w9 xE
    try simp only [List.drop_succ_cons,List.drop_zero]
    intro x0 h0 x1 h1 x2 h2 x3 h3 x4 h4 x5 h5 x6 h6 x7 h7
    have yO:=Eq.symm (show x7=_ from h7)
    subst yO
    clear h0 h1 h2 h3 h4 h5 h6 h7
    refine jm ?_
    refine fM rfl ?_
    obtain ⟨w2,hw2,wU⟩: ∃w2,(aY w2 R _∧W8.grownBy w2 (some R.br))∧w9=w2.setCells w.heap.size 0 (gF dz):=xE
    have iK:w9.heap[w.heap.size]? =some (.cells (gF dz).toArray 62 (0,0)):=by rw [wU]; exact iw (M7.out w2 hw2.2) rfl
    have Gu:=Lib.hid wU
    have y0:w9.cell? ⟨w.heap.size,0,none⟩=some (.int .i64 dz.kind):=aj iK rfl
    have y1:w9.cell? ⟨w.heap.size,1,none⟩=some (.int .i64 dz.line):=aj iK rfl
    have y2:w9.cell? ⟨w.heap.size,2,none⟩=some (.string dz.nm):=aj iK rfl
    have y3:w9.cell? ⟨w.heap.size,3,none⟩=some (.int .i64 dz.size):=aj iK rfl
    have y4:w9.cell? ⟨w.heap.size,4,none⟩=some (.int .i64 dz.init):=aj iK rfl
    have y5:w9.cell? ⟨w.heap.size,5,none⟩=some (.string dz.on):=aj iK rfl
    have wO:=Lib.hid (X6 (d:=dz) nT.out jl.out.ok hw2.1 (bD xW.out hw2.2) aX.out.1)
    rw [← wU] at wO
    clear wU iK KD
    go_simp
    go_wp2_with fail
    exact bodyPost_ret (v:= .tuple #[pF dz,.bool true]) (by simp [results,Tryz.results67,go_sem,pF,y0,y1,y2,y3,y4,y5]) rfl wO.out
end Go.Proofs.YtehnipchbmjlhaaGreatDoor
end
