/-
  Contract of the reader's block; of all that read statements.
  A declaration under way, in memory; contracts of the reader's size and initial.
  Contract of the reader's declaration.
-/
import Derived.Test.YtehnipchbmjlhaaGreatDoorGPrB4
import Derived.Deep.AppendLies
import Derived.Test.YtehnipchbmjlhaaGreatDoorGMB
import Derived.Deep.MidRow
section
set_option linter.unusedSimpArgs false
set_option linter.unusedVariables false
namespace Go.Proofs.YtehnipchbmjlhaaGreatDoor
open Go.RowKit
open Md Pz
theorem VD:(Tryz.prog.info? 89).map (fun i=>(i.zero,i.size,i.bytes))=some (some (.agg lH),11,176):=by kernel_rfl
theorem Y7: ∃i0,Tryz.prog.info? 89=some i0∧i0.zero=some (.agg lH)∧i0.size=11∧i0.bytes=176:=info_parts VD
theorem QB (x:eH): ∀u ∈ eH.f x,u.oneCell'=true:=by
 intro u hu; simp [eH.f] at hu
 rcases hu with rfl | rfl | rfl | rfl | rfl | rfl | rfl | rfl | rfl | rfl | rfl <;> rfl
theorem Lm: ∀l:aI,app l .nil=l
 | .nil=>rfl
 | .cons h b e r=>by show aI.cons h b e (app r .nil)=_; rw [Lm r]
theorem JB (x:eH) (s:aI): ∀l:List eH,app (jI l) (app (one x.h x.b x.e) s)=app (jI (l++[x])) s
 | []=>rfl
 | y ::r=>by show aI.cons y.h y.b y.e (app (jI r) _)=aI.cons y.h y.b y.e (app (jI (r++[x])) s); rw [JB x s r]
theorem Qu {f:Nat} {ts:aj} (h:at' [125] ts=true):ps (f + 1) false ts= .ok .nil ts.tail:=by
 conv=>lhs; unfold ps
 rw [if_pos h]
theorem Zm {f:Nat} {ts r:aj} (h:at' [125] ts=false) (h1:ps f true ts= .no r):ps (f + 1) false ts= .no r:=by
 conv=>lhs; unfold ps
 rw [if_neg (by rw [h]; decide),h1]
theorem ZT {f:Nat} {ts r:aj} {s:aI} (h:at' [125] ts=false) (h1:ps f true ts= .ok s r):ps (f + 1) false ts=(ps f false r).map (app s):=by
 conv=>lhs; unfold ps
 rw [if_neg (by rw [h]; decide),h1]
def Us (R:Rp) (w:World) (f:Nat) (res:aT aI) (g:Nat) (v:Value) (wr:World):Prop:=
 ∃f' l rest,g=rest.length∧f'≤f∧3 * rest.length + 2 < f'∧res=(ps f' false rest).map (app (jI l))∧l.length + rest.length≤4096∧Bv w.heap.size wr v l∧(∀x ∈ l,oD x.h x.b x.e)∧aS wr R rest∧w.grownBy wr (some R.br)
theorem oG {B:Nat} {w w':World} {g:Option Nat} (h:w.grownBy w' g) (hg: ∀k,g=some k→B≤k) (hB:B≤w.heap.size):Below B w w':=
 ⟨h.os,h.tape,h.output,h.size,fun k hk=>h.block k (by omega) (fun e=>by have:=hg k e.symm; omega)⟩
theorem DZ {w w':World} {R:Rp} {rest:aj} {g:Option Nat} (h:aS w R rest) (hg:w.grownBy w' g) (h0: ∀k,g=some k→R.B0≤k∧k≠R.br):aS w' R rest:=by
 obtain ⟨pos,k1,k2,k3⟩:=h.blk
 exact ⟨⟨pos,k1,k2,(hg.block _ h.lt (fun e=>(h0 _ e.symm).2 rfl)).trans k3⟩,h.tok.below (oG hg (fun k hk=>(h0 k hk).1) (Nat.le_trans R.b0 (Nat.le_of_lt h.lt))),h.ok,h.tl⟩
theorem Dr {br:Nat} {w w1 w2:World} (h:w.grownBy w1 (some br)) (hb:Below w.heap.size w1 w2):w.grownBy w2 (some br):=
 ⟨hb.os.trans h.os,hb.tape.trans h.tape,hb.output.trans h.output,Nat.le_trans h.size hb.size,fun k hk hn=>(hb.block k hk).trans (h.block k hk hn)⟩
theorem BA {α β:Type} {x:aT α} {f g:α→β} (h: ∀a,f a=g a):x.map f=x.map g:=by
 cases x with
 | ok a r=>show aT.ok (f a) r=_; rw [h]; rfl
 | no r=>rfl
theorem XA {R:Rp} {w wr:World} {v:Value} {l:List eH} {r:aj} (hl:l.length≤4096) (hg:Bv w.heap.size wr v l) (hok: ∀x ∈ l,oD x.h x.b x.e) (hr:aS wr R r) (hf:w.grownBy wr (some R.br)):
 EH R w (.ok (jI l) r) (.returned (.tuple #[v,.bool true])) wr:=by
 obtain ⟨ao,cap,e,hst⟩:=hg.says hok
 exact ⟨⟨ao,cap,by rw [e],by rw [sQ]; exact hl,hst⟩,hr,hf⟩
set_option maxHeartbeats 4000000 in
set_option maxRecDepth 100000 in
theorem Mj (R:Rp) (f:Nat) (ts:aj) (hf:3 * ts.length < f) (JL:Hid (∀f' q,f' < f→3 * q.length + 1 < f'→ ∀w,aS w R q→Calls Tryz.prog 130 #[.pointer (some ⟨R.br,0,none⟩)] w (oW R w (ps f' true q)))):lZ R f ts:=by
 intro w hI
 have HI:=Lib.hid hI
 have HFF:=Lib.hid hf
 clear hI hf
 cases h1:at' [123] ts
 ·rw [show blk f ts= .no ts by unfold blk; rw [if_neg (by rw [h1]; decide)]]
  clear JL
  go_enter Tryz.func111,Tryz.ntmps111
  go_wp2_with fail
  refine (dB R _ _ ⟨#[123]⟩ rfl h1 HI.out).mono ?_
  rintro e w1 ⟨rfl,h2⟩
  have HB:=Lib.hid h2
  have HI1:=Lib.hid (HI.out.below h2)
  clear h2
  go_wp2_with fail
  go_ret2
  exact ⟨rfl,HI1.out,aQ HB.out⟩
 ·rw [show blk f ts=ps f false ts.tail by unfold blk; rw [if_pos h1]]
  have aX:=Lib.hid (at_len h1)
  have BQ:=Lib.hid HI.out.len
  have Qz:=Lib.hid HI.out.lt
  obtain ⟨res,gB⟩: ∃res,Hid (ps f false ts.tail=res):=⟨_,Lib.hid rfl⟩
  rw [gB.out]
  obtain ⟨i0,hi,hz0,hz1,hz2⟩:=Y7
  have jK:=Lib.hid (And.intro hi (And.intro hz0 (And.intro hz1 hz2)))
  clear hi hz0 hz1 hz2
  go_enter Tryz.func111,Tryz.ntmps111
  go_wp2_with fail
  refine (bJ R _ _ ⟨#[123]⟩ rfl h1 HI.out).mono ?_
  rintro e w1 ⟨rfl,h2,h3⟩
  have qw:Hid (Us R w f res ts.tail.length (.slice none 0 0) w1):=Lib.hid ⟨f,[],ts.tail,rfl,Nat.le_refl _,by have:=HFF.out; have:=aX.out; omega,by
   rw [← gB.out]; cases ps f false ts.tail <;> rfl,by have:=aX.out; have:=BQ.out; simp only [List.length_nil]; omega,Grow.nil _ _ _ _ _ _,by simp,h2,h3⟩
  clear h2 h3 HI gB
  go_wp2_with fail
  go_loopg [4] ts.tail.length (fun gk v4 wr=>Us R w f res gk v4 wr)
  case atStart=>exact qw.out
  case round=>
   obtain ⟨f',l,rest,rfl,hf',hen,hres,hl,hg,hok,hr,hgr⟩:=hrel
   obtain ⟨f',rfl⟩: ∃n,f'=n + 1:=⟨f' - 1,by omega⟩
   have HF:=Lib.hid (And.intro hf' hen)
   have HL:=Lib.hid hl
   have HG:=Lib.hid hg
   have fH:=Lib.hid hok
   have HR:=Lib.hid hr
   have Wx:=Lib.hid hgr
   have HS:=Lib.hid hres
   clear hf' hen hres hl hg hok hr hgr qw
   cases h4:at' [125] rest
   ·have HC:=Lib.hid (JL.out f' rest (by have:=HF.out.1; omega) (by have:=HF.out.2; omega))
    have zJ:Hid (∀r,ps f' true rest= .no r→res= .no r):=Lib.hid (fun r h=>HS.out.trans (by rw [Zm h4 h]; rfl))
    have JC:Hid (∀s r,ps f' true rest= .ok s r→res=(ps f' false r).map (fun t=>app (jI l) (app s t))∧r.length < rest.length):=Lib.hid (fun s r h=>⟨HS.out.trans (by rw [ZT h4 h]; exact jY _ _ _),yH f' true rest s r h⟩)
    clear HS
    generalize ps f' true rest=res2 at *
    go_wp2_with fail
    refine (dB R _ _ ⟨#[125]⟩ rfl h4 HR.out).mono ?_
    rintro e w2 ⟨rfl,h2⟩
    have HG2:=Lib.hid (HG.out.next (aK h2))
    have HR2:=Lib.hid (HR.out.below h2)
    have EM:=Lib.hid (cu Wx.out (aQ h2))
    clear h2 HG HR Wx
    go_wp2_with fail
    refine (HC.out _ HR2.out).mono ?_
    cases res2 with
    | no r=>
      have hs:=zJ.out r rfl
      subst hs
      clear zJ JC HC
      rintro e w3 ⟨⟨x,rfl⟩,h2,h3⟩
      have HR3:=Lib.hid h2
      have Da:=Lib.hid (cu EM.out h3)
      clear h2 h3
      unfold eB
      go_wp2_with fail
      go_ret2
      exact ⟨rfl,nQ HR3.out _,mR Da.out _⟩
    | ok s r=>
      have vU:=Lib.hid (JC.out s r rfl)
      clear zJ JC HC
      rintro e w3 ⟨⟨x,rfl,rfl,hok,hst⟩,h2,h3⟩
      have tY:=Lib.hid (HG2.out.next (jN h3 Qz.out))
      have HR3:=Lib.hid h2
      have Da:=Lib.hid (cu EM.out h3)
      have Ul:=Lib.hid hst
      have HOX:=Lib.hid hok
      have iZ:Hid (w2.heap.size≤w3.heap.size∧w.heap.size≤w2.heap.size):=Lib.hid ⟨h3.size,EM.out.size⟩
      have qR:=Lib.hid HG2.out.lt
      clear h2 h3 hst hok HG2 HR2 EM
      unfold eB
      go_upto_region 6 with fail
      obtain ⟨gs,hg⟩: ∃g,w3.heap.size=g:=⟨_,rfl⟩
      generalize hW:World.alloc w3 _=W4
      have Wi:Hid (Bv w.heap.size W4 u4 l):=Lib.hid (by rw [← hW]; exact tY.out.next (aK (ah _ _)))
      have HR4:Hid (aS W4 R r):=Lib.hid (by rw [← hW]; exact nQ HR3.out _)
      have YP:Hid (w.grownBy W4 (some R.br)):=Lib.hid (by rw [← hW]; exact mR Da.out _)
      have HX4:Hid (bD w2.heap.size W4 (eH.I x)):=Lib.hid (by rw [← hW]; exact Ul.out.next (aK (ah _ _)))
      have dN:Hid (W4.heap[gs]? =some (.cells (eH.f x).toArray 89 (0,0))):=Lib.hid (by rw [← hW,← hg]; exact heap_alloc_new _ _)
      rw [hg]
      clear hW hg tY HR3 Da Ul
      obtain ⟨d0,d1,d2,d3,d4,d5,d6,d7,d8,d9,lG⟩:(W4.cell? ⟨gs,0,none⟩=some (.int .i64 x.h.op)∧W4.cell? ⟨gs,1,none⟩=some (.int .i64 x.h.line)∧W4.cell? ⟨gs,2,none⟩=some (.string x.h.nm)∧W4.cell? ⟨gs,3,none⟩=some (.string x.h.arg)∧W4.cell? ⟨gs,4,none⟩=some (.slice x.s.eP x.h.idx.len x.s.dK)∧W4.cell? ⟨gs,5,none⟩=some (.int .i64 x.h.bM)∧W4.cell? ⟨gs,6,none⟩=some (.int .i64 x.h.xn)∧W4.cell? ⟨gs,7,none⟩=some (.string x.h.bP)∧W4.cell? ⟨gs,8,none⟩=some (.slice x.s.dJ x.h.aJ.len x.s.bS)∧W4.cell? ⟨gs,9,none⟩=some (.slice x.s.bR x.b.len x.s.aZ)∧W4.cell? ⟨gs,10,none⟩=some (.slice x.s.dY x.e.len x.s.dA)):=⟨ak dN.out rfl,ak dN.out rfl,ak dN.out rfl,ak dN.out rfl,ak dN.out rfl,ak dN.out rfl,ak dN.out rfl,ak dN.out rfl,ak dN.out rfl,ak dN.out rfl,ak dN.out rfl⟩
      have ou:=Lib.hid (Wi.out.next (aK (ah W4 (.cells (eH.f x).toArray 89))))
      have sj:=Lib.hid (mI (heap_alloc_new W4 (.cells (eH.f x).toArray 89)))
      have Ua:Hid (w.heap.size≤W4.heap.size):=Lib.hid YP.out.size
      obtain ⟨hi,hz0,hz1,hz2⟩:=jK.out
      have hbs:w.heap.size≤W4.heap.size + 1:=Nat.le_succ_of_le Ua.out
      have hkl:l.length + 1≤maxLen:=by have:=HL.out; unfold maxLen; omega
      have Ee:(l.length + 1) * 176≤140737488355328:=by have:=HL.out; omega
      go_wp2_with (at_builtin; refine wpList_append_lies _ rfl _ _ 65 rfl w.heap.size 89 i0 _ 11 176 Tryz.underlying65 hi hz0 hz1 hz2 rfl (by decide) _ _ _ rfl ou.out.own ⟨W4.heap.size,0,none⟩ 1 1 (eH.f x) rfl rfl sj.out (QB _) (by decide) hkl Ee (by simpa using hbs) _ rfl ?_)
      clear hi hz0 hz1 hz2 d0 d1 d2 d3 d4 d5 d6 d7 d8 d9 lG
      intro g cap w5 hown hgr hmv hlt2
      have L8:Hid (dW w.heap.size u4.ownBlock (W4.alloc (.cells (eH.f x).toArray 89)) (eH.I x)):=Lib.hid (rQ (HX4.out.next (aK (ah _ _))) iZ.out.2 (fun k hk=>(qR.out k hk).2))
      have Bl:=Lib.hid (ou.out.push L8.out rfl hown hgr (by simpa using hmv))
      have jg:Hid (Below w.heap.size (W4.alloc (.cells (eH.f x).toArray 89)) w5):=Lib.hid (oG hgr (fun k hk=>(qR.out k hk).1) (by simpa using hbs))
      have HR5:Hid (aS w5 R r):=Lib.hid (DZ (nQ HR4.out _) hgr (fun k hk=>by have h1:=(qR.out k hk).1; have h2:=Qz.out; have h3:=R.b0; omega))
      have Ey:Hid (w.grownBy w5 (some R.br)):=Lib.hid (Dr (mR YP.out _) jg.out)
      have aj6:Hid (∀y ∈ l++[x],oD y.h y.b y.e):=Lib.hid (fun y hy=>by
       rcases List.mem_append.1 hy with hy | hy
       ·exact fH.out y hy
       ·rw [List.mem_singleton.1 hy]; exact HOX.out)
      have ni:Hid (res=(ps f' false r).map (app (jI (l++[x])))):=Lib.hid (vU.out.1.trans (BA (fun t=>JB x t l)))
      have Ag:=Lib.hid vU.out.2
      clear hown hgr hmv hlt2 hbs hkl Ee L8 HX4 sj ou jg vU
      go_wp2_with fail
      go_roundg r.length
      case measure=>exact Ag.out
      case rel=>exact ⟨f',l++[x],r,rfl,by have:=HF.out.1; omega,by have h1:=HF.out.2; have h2:=Ag.out; omega,ni.out,by have h1:=HL.out; have h2:=Ag.out; simp only [List.length_append,List.length_singleton]; omega,Bl.out,aj6.out,HR5.out,Ey.out⟩
   ·have hs:=HS.out.trans (by rw [Qu h4]; rfl:_=aT.ok (app (jI l) .nil) rest.tail)
    rw [Lm] at hs
    subst hs
    clear HS
    go_wp2_with fail
    refine (bJ R _ _ ⟨#[125]⟩ rfl h4 HR.out).mono ?_
    rintro e w2 ⟨rfl,h2,h3⟩
    have HG2:=Lib.hid (HG.out.next (jN h3 Qz.out))
    have HR2:=Lib.hid h2
    have EM:=Lib.hid (cu Wx.out h3)
    clear h2 h3
    go_wp2_with fail
    go_ret2
    exact XA (by have:=HL.out; omega) HG2.out fH.out HR2.out EM.out
theorem NR (R:Rp): ∀f:Nat,(∀ts,3 * ts.length < f→lZ R f ts)∧(∀q,3 * q.length + 1 < f→ ∀w,aS w R q→Calls Tryz.prog 130 #[.pointer (some ⟨R.br,0,none⟩)] w (oW R w (ps f true q))):=by
 intro f
 induction f using Nat.strongRecOn with
 | ind f ih=>
   refine ⟨fun ts hf=>Mj R f ts hf (Lib.hid fun f' q h1 h2=>(ih f' h1).2 q h2),fun q hq w hI=> ?_⟩
   obtain ⟨f',rfl⟩: ∃n,f=n + 1:=⟨f - 1,by omega⟩
   exact Fb R f' q (Lib.hid fun r hr=>(ih f' (by omega)).1 r (by omega)) w hI
theorem GI (R:Rp) (f:Nat) (ts:aj) (hf:3 * ts.length < f) (w:World) (hI:aS w R ts):
 Calls Tryz.prog 111 #[.pointer (some ⟨R.br,0,none⟩)] w (EH R w (blk f ts)):=(NR R f).1 ts hf w hI
end Go.Proofs.YtehnipchbmjlhaaGreatDoor
end
section
set_option linter.unusedSimpArgs false
set_option linter.unusedVariables false
namespace Go.Proofs.YtehnipchbmjlhaaGreatDoor
open Go.RowKit
open Md Pz
structure Pd (R:Rp) (bd:Nat) (w:World) (d:De) (rest:aj):Prop where
 rd:aS w R rest
 ne:bd≠R.br
 b0:R.B0≤bd
 blk:w.heap[bd]? =some (.cells (ig d).toArray 62 (0,0))
 ok:d.Ok
section
variable {R:Rp} {bd:Nat} {w W W':World} {d:De} {rest rest':aj}
theorem Pd.lt (h:Pd R bd W d rest):bd < W.heap.size:=(Array.getElem?_eq_some_iff.1 h.blk).1
theorem Pd.then (h:Pd R bd W d rest) (h1:aS W' R rest') (h2:W.grownBy W' (some R.br)):Pd R bd W' d rest':=
 ⟨h1,h.ne,h.b0,(h2.block _ h.lt (by simp; exact h.ne)).trans h.blk,h.ok⟩
theorem Pd.below (h:Pd R bd W d rest) (hb:Below W.heap.size W W'):Pd R bd W' d rest:=h.then (h.rd.below hb) (aQ hb)
theorem Pd.put (h:Pd R bd W d rest) (j:Nat) (v:Value) {y:De} (hy:(ig d).toArray.setIfInBounds j v=(ig y).toArray) (hok:y.Ok):Pd R bd (W.setCell ⟨bd,j,none⟩ v) y rest:=
 ⟨nu h.rd _ v h.b0 h.ne,h.ne,h.b0,by rw [aR h.blk,hy],hok⟩
theorem Pd.nm (h:Pd R bd W d rest) (s:ByteArray) (hs:s.size≤maxLen):Pd R bd (W.setCell ⟨bd,2,none⟩ (.string s)) {d with nm:=s} rest:=
 h.put 2 _ rfl ⟨h.ok.1,h.ok.2.1,hs,h.ok.2.2.2⟩
theorem Pd.size (h:Pd R bd W d rest) (n:Int) (hn:aV n):Pd R bd (W.setCell ⟨bd,3,none⟩ (.int .i64 n)) {d with size:=n} rest:=
 h.put 3 _ rfl ⟨h.ok.1,h.ok.2.1,h.ok.2.2.1,hn,h.ok.2.2.2.2⟩
theorem Pd.init (h:Pd R bd W d rest) (n:Int) (hn:aV n):Pd R bd (W.setCell ⟨bd,4,none⟩ (.int .i64 n)) {d with init:=n} rest:=
 h.put 4 _ rfl ⟨h.ok.1,h.ok.2.1,h.ok.2.2.1,h.ok.2.2.2.1,hn,h.ok.2.2.2.2.2⟩
theorem Pd.on (h:Pd R bd W d rest) (s:ByteArray) (hs:s.size≤maxLen):Pd R bd (W.setCell ⟨bd,5,none⟩ (.string s)) {d with on:=s} rest:=
 h.put 5 _ rfl ⟨h.ok.1,h.ok.2.1,h.ok.2.2.1,h.ok.2.2.2.1,h.ok.2.2.2.2.1,hs⟩
theorem Pd.cell (h:Pd R bd W d rest) {j:Nat} {u:Value} (hu:(ig d).toArray[j]? =some u):W.cell? ⟨bd,j,none⟩=some u:=ak h.blk hu
theorem Pd.free (h:Pd R bd W d rest) (j:Nat):W.frozen? ⟨bd,j,none⟩=false:=aD h.blk
end
def Oi (R:Rp) (bd:Nat) (w:World) (res:aT De) (e:Ending) (w':World):Prop:=
 match res with
 | .ok d r=>e= .returned (.bool true)∧Pd R bd w' d r∧Fr R.br bd w w'
 | .no r=>e= .returned (.bool false)∧(∃d,Pd R bd w' d r)∧Fr R.br bd w w'
theorem Eo {R:Rp} {bd:Nat} {w W:World} {res:aT De} {d:De} {r:aj} (e:res= .ok d r) (h:Pd R bd W d r) (hf:Fr R.br bd w W):Oi R bd w res (.returned (.bool true)) W:=by subst e; exact ⟨rfl,h,hf⟩
theorem Es {R:Rp} {bd:Nat} {w W:World} {res:aT De} {d:De} {r:aj} (e:res= .no r) (h:Pd R bd W d r) (hf:Fr R.br bd w W):Oi R bd w res (.returned (.bool false)) W:=by subst e; exact ⟨rfl,⟨d,h⟩,hf⟩
theorem Fr.wS {br bs:Nat} {w w1 w2:World} (h:Fr br bs w w1) (k:w1.grownBy w2 (some br)):Fr br bs w w2:=h.trans (Fr.bL k)
theorem aS.back {w1 w:World} {R:Rp} {q:aj} (h1:aS w1 R q) (hq:isNum q=true) (h:aS w R q.tail): ∃pos:Nat,(1≤pos∧pos≤4096)∧w.cell? ⟨R.br,1,none⟩=some (.int .i64 (pos:Int))∧w.frozen? ⟨R.br,1,none⟩=false∧
 Hid (aS (w.setCell ⟨R.br,1,none⟩ (.int .i64 ((pos:Int) - 1))) R q∧w.grownBy (w.setCell ⟨R.br,1,none⟩ (.int .i64 ((pos:Int) - 1))) (some R.br)):=by
 obtain ⟨p1,a1,a2,-⟩:=h1.blk
 obtain ⟨pos,b1,b2,b3⟩:=h.blk
 have hl:=Bq hq
 have e1:=congrArg List.length a2
 have e2:=congrArg List.length b2
 simp only [List.length_drop,List.length_tail] at e1 e2 hl
 have hp:pos=p1 + 1:=by omega
 have:=h.ok.2
 refine ⟨pos,⟨by omega,by omega⟩,ak b3 rfl,aD b3,Lib.hid ⟨⟨⟨p1,a1,a2,?_⟩,h.tok.below (dX (bU w ⟨R.br,1,none⟩ _) R.b0 (Nat.le_trans R.b0 (Nat.le_of_lt h.lt))),h.ok,h.tl⟩,bU w ⟨R.br,1,none⟩ _⟩⟩
 rw [aR b3,show (pos:Int) - 1=(p1:Int) by omega]; rfl
theorem SC {d:De} {ts:aj} (h:at' [91] ts=false):kX d ts= .ok d ts:=by unfold kX; rw [if_neg (by rw [h]; decide)]
theorem Qx {d:De} {ts:aj} (h:at' [91] ts=true) (h1:isNum ts.tail=false):kX d ts= .no ts.tail:=by unfold kX; rw [if_pos h,if_neg (by rw [h1]; decide)]
theorem VB {d:De} {ts:aj} (h:at' [91] ts=true) (h1:isNum ts.tail=true) (h2:(Tk.val (ay ts.tail) == 0)=true):kX d ts= .no ts.tail:=by unfold kX; rw [if_pos h,if_pos h1,if_pos h2]
theorem Vm {d:De} {ts:aj} (h:at' [91] ts=true) (h1:isNum ts.tail=true) (h2:(Tk.val (ay ts.tail) == 0)=false):kX d ts=(need [93] ts.tail.tail).map fun _=> {d with size:=(Tk.val (ay ts.tail):Nat)} :=by unfold kX; rw [if_pos h,if_pos h1,if_neg (by rw [h2]; decide)]
set_option maxHeartbeats 1000000 in
set_option maxRecDepth 100000 in
theorem QX (R:Rp) (bd:Nat) (ts:aj) (d:De) (w:World) (hp:Pd R bd w d ts):
 Calls Tryz.prog 108 #[.pointer (some ⟨R.br,0,none⟩),.pointer (some ⟨bd,0,none⟩)] w (Oi R bd w (kX d ts)):=by
 have HP:=Lib.hid hp
 clear hp
 cases h1:at' [91] ts
 ·have HE:=Lib.hid (SC (d:=d) h1)
  go_enter Tryz.func108,Tryz.ntmps108
  go_wp2_with fail
  refine (dB R _ _ ⟨#[91]⟩ rfl h1 HP.out.rd).mono ?_
  rintro e w1 ⟨rfl,h2⟩
  have bY:=Lib.hid (HP.out.below h2)
  have HF:=Lib.hid (Fr.bL (br:=R.br) (bs:=bd) (aQ h2))
  clear h2
  go_wp2_with fail
  go_ret
  exact Eo HE.out bY.out HF.out
 ·cases h2:isNum ts.tail
  ·have HE:=Lib.hid (Qx (d:=d) h1 h2)
   go_enter Tryz.func108,Tryz.ntmps108
   go_wp2_with fail
   refine (bJ R _ _ ⟨#[91]⟩ rfl h1 HP.out.rd).mono ?_
   rintro e w1 ⟨rfl,k2,k3⟩
   have bY:=Lib.hid (HP.out.then k2 k3)
   have qV:=Lib.hid (Fr.bL (bs:=bd) k3)
   clear k2 k3
   go_wp2_with fail
   refine (uP R _ _ h2 bY.out.rd).mono ?_
   rintro e w2 ⟨rfl,h3⟩
   have aP:=Lib.hid (bY.out.below h3)
   have eZ:=Lib.hid (qV.out.wS (aQ h3))
   clear h3
   go_wp2_with fail
   go_ret
   exact Es HE.out aP.out eZ.out
  ·cases h3:(Tk.val (ay ts.tail) == 0)
   ·have BS:=Lib.hid (Vm (d:=d) h1 h2 h3)
    have h3':(((Tk.val (ay ts.tail):Nat):Int) == 0)=false:=by rw [beq_eq_false_iff_ne] at h3 ⊢; omega
    have HV:Hid (aV ((Tk.val (ay ts.tail):Nat):Int)):=Lib.hid (by have:=Bj HP.out.rd.ts.tail h2; unfold aV; omega)
    go_enter Tryz.func108,Tryz.ntmps108
    go_wp2_with fail
    refine (bJ R _ _ ⟨#[91]⟩ rfl h1 HP.out.rd).mono ?_
    rintro e w1 ⟨rfl,k2,k3⟩
    have bY:=Lib.hid (HP.out.then k2 k3)
    have qV:=Lib.hid (Fr.bL (bs:=bd) k3)
    clear k2 k3
    go_wp2_with fail
    refine (yN R _ _ h2 bY.out.rd).mono ?_
    rintro e w2 ⟨rfl,k2,k3⟩
    have aP:=Lib.hid (bY.out.then k2 k3)
    have eZ:=Lib.hid (qV.out.wS k3)
    clear k2 k3
    have c3:=aP.out.cell (j:=3) rfl
    have f3:=aP.out.free 3
    go_upto_region 10 with fail
    generalize hW:World.setCell w2 _ _=W
    have aN:Hid (Pd R bd W {d with size:=(Tk.val (ay ts.tail):Nat)} ts.tail.tail):=Lib.hid (by rw [← hW]; exact aP.out.size _ HV.out)
    have cK:Hid (Fr R.br bd w W):=Lib.hid (by rw [← hW]; exact eZ.out.set _ _ (.inl rfl))
    clear hW c3 f3 aP eZ
    cases h4:at' [93] ts.tail.tail
    ·have HE:=Lib.hid (BS.out.trans (by rw [yS h4]:_=aT.map _ (aT.no ts.tail.tail)))
     go_wp2_with fail
     refine (dB R _ _ ⟨#[93]⟩ rfl h4 aN.out.rd).mono ?_
     rintro e w4 ⟨rfl,k2⟩
     have dO:=Lib.hid (aN.out.below k2)
     have fG:=Lib.hid (cK.out.wS (aQ k2))
     clear k2
     go_wp2_with fail
     go_ret
     exact Es HE.out dO.out fG.out
    ·have HE:=Lib.hid (BS.out.trans (by rw [yQ h4]:_=aT.map _ (aT.ok () ts.tail.tail.tail)))
     go_wp2_with fail
     refine (bJ R _ _ ⟨#[93]⟩ rfl h4 aN.out.rd).mono ?_
     rintro e w4 ⟨rfl,k2,k3⟩
     have dO:=Lib.hid (aN.out.then k2 k3)
     have fG:=Lib.hid (cK.out.wS k3)
     clear k2 k3
     go_wp2_with fail
     go_ret
     exact Eo HE.out dO.out fG.out
   ·have HE:=Lib.hid (VB (d:=d) h1 h2 h3)
    have hz:Tk.val (ay ts.tail)=0:=by simpa using h3
    go_enter Tryz.func108,Tryz.ntmps108
    go_wp2_with fail
    refine (bJ R _ _ ⟨#[91]⟩ rfl h1 HP.out.rd).mono ?_
    rintro e w1 ⟨rfl,k2,k3⟩
    have bY:=Lib.hid (HP.out.then k2 k3)
    have qV:=Lib.hid (Fr.bL (bs:=bd) k3)
    clear k2 k3
    go_wp2_with fail
    refine (yN R _ _ h2 bY.out.rd).mono ?_
    rw [hz]
    rintro e w2 ⟨rfl,k2,k3⟩
    obtain ⟨pos,⟨hp1,hp2⟩,q1,f1,HX⟩:=bY.out.rd.back h2 k2
    have aP:=Lib.hid (bY.out.then k2 k3)
    have eZ:=Lib.hid (qV.out.wS k3)
    have hq1:(1:Int)≤(pos:Int):=by omega
    have hq2:(pos:Int)≤4096:=by omega
    clear k2 k3 hz
    go_wp2_with fail
    go_ret
    exact Es HE.out (aP.out.then HX.out.1 HX.out.2) (eZ.out.wS HX.out.2)
theorem VP {d:De} {ts:aj} (h:at' [61] ts=false):iJ d ts= .ok d ts:=by unfold iJ; rw [if_neg (by rw [h]; decide)]
theorem Rn {d:De} {ts:aj} (h:at' [61] ts=true) (h1:at' [45] ts.tail=true) (h2:isNum ts.tail.tail=false):iJ d ts= .no ts.tail.tail:=by unfold iJ; rw [if_pos h,if_pos h1,if_neg (by rw [h2]; decide)]
theorem Sj {d:De} {ts:aj} (h:at' [61] ts=true) (h1:at' [45] ts.tail=true) (h2:isNum ts.tail.tail=true):iJ d ts= .ok {d with init:= -(Tk.val (ay ts.tail.tail):Nat)} ts.tail.tail.tail:=by unfold iJ; rw [if_pos h,if_pos h1,if_pos h2]
theorem RY {d:De} {ts:aj} (h:at' [61] ts=true) (h1:at' [45] ts.tail=false) (h2:isNum ts.tail=false):iJ d ts= .no ts.tail:=by unfold iJ; rw [if_pos h,if_neg (by rw [h1]; decide),if_neg (by rw [h2]; decide)]
theorem SE {d:De} {ts:aj} (h:at' [61] ts=true) (h1:at' [45] ts.tail=false) (h2:isNum ts.tail=true):iJ d ts= .ok {d with init:=(Tk.val (ay ts.tail):Nat)} ts.tail.tail:=by unfold iJ; rw [if_pos h,if_neg (by rw [h1]; decide),if_pos h2]
set_option maxHeartbeats 1000000 in
set_option maxRecDepth 100000 in
theorem BX (R:Rp) (bd:Nat) (ts:aj) (d:De) (w:World) (hp:Pd R bd w d ts):
 Calls Tryz.prog 109 #[.pointer (some ⟨R.br,0,none⟩),.pointer (some ⟨bd,0,none⟩)] w (Oi R bd w (iJ d ts)):=by
 have HP:=Lib.hid hp
 clear hp
 cases h1:at' [61] ts
 ·have HE:=Lib.hid (VP (d:=d) h1)
  go_enter Tryz.func109,Tryz.ntmps109
  go_wp2_with fail
  refine (dB R _ _ ⟨#[61]⟩ rfl h1 HP.out.rd).mono ?_
  rintro e w1 ⟨rfl,h2⟩
  have bY:=Lib.hid (HP.out.below h2)
  have HF:=Lib.hid (Fr.bL (br:=R.br) (bs:=bd) (aQ h2))
  clear h2
  go_wp2_with fail
  go_ret
  exact Eo HE.out bY.out HF.out
 ·cases hm:at' [45] ts.tail
  ·cases h2:isNum ts.tail
   ·have HE:=Lib.hid (RY (d:=d) h1 hm h2)
    go_enter Tryz.func109,Tryz.ntmps109
    go_wp2_with fail
    refine (bJ R _ _ ⟨#[61]⟩ rfl h1 HP.out.rd).mono ?_
    rintro e w1 ⟨rfl,k2,k3⟩
    have bY:=Lib.hid (HP.out.then k2 k3)
    have qV:=Lib.hid (Fr.bL (bs:=bd) k3)
    clear k2 k3
    go_wp2_with fail
    refine (dB R _ _ ⟨#[45]⟩ rfl hm bY.out.rd).mono ?_
    rintro e w1 ⟨rfl,k2⟩
    have aP:=Lib.hid (bY.out.below k2)
    have eZ:=Lib.hid (qV.out.wS (aQ k2))
    clear k2
    go_wp2_with fail
    refine (uP R _ _ h2 aP.out.rd).mono ?_
    rintro e w2 ⟨rfl,k2⟩
    have aN:=Lib.hid (aP.out.below k2)
    have cK:=Lib.hid (eZ.out.wS (aQ k2))
    clear k2
    go_wp2_with fail
    go_ret
    exact Es HE.out aN.out cK.out
   ·have HE:=Lib.hid (SE (d:=d) h1 hm h2)
    have HV:Hid (aV ((Tk.val (ay ts.tail):Nat):Int)):=Lib.hid (by have:=Bj HP.out.rd.ts.tail h2; unfold aV; omega)
    go_enter Tryz.func109,Tryz.ntmps109
    go_wp2_with fail
    refine (bJ R _ _ ⟨#[61]⟩ rfl h1 HP.out.rd).mono ?_
    rintro e w1 ⟨rfl,k2,k3⟩
    have bY:=Lib.hid (HP.out.then k2 k3)
    have qV:=Lib.hid (Fr.bL (bs:=bd) k3)
    clear k2 k3
    go_wp2_with fail
    refine (dB R _ _ ⟨#[45]⟩ rfl hm bY.out.rd).mono ?_
    rintro e w1 ⟨rfl,k2⟩
    have aP:=Lib.hid (bY.out.below k2)
    have eZ:=Lib.hid (qV.out.wS (aQ k2))
    clear k2
    go_wp2_with fail
    refine (yN R _ _ h2 aP.out.rd).mono ?_
    rintro e w2 ⟨rfl,k2,k3⟩
    have aN:=Lib.hid (aP.out.then k2 k3)
    have cK:=Lib.hid (eZ.out.wS k3)
    clear k2 k3
    have c4:=aN.out.cell (j:=4) rfl
    have f4:=aN.out.free 4
    go_wp2_with fail
    go_ret
    exact Eo HE.out (aN.out.init _ HV.out) (cK.out.set _ _ (.inl rfl))
  ·cases h2:isNum ts.tail.tail
   ·have HE:=Lib.hid (Rn (d:=d) h1 hm h2)
    go_enter Tryz.func109,Tryz.ntmps109
    go_wp2_with fail
    refine (bJ R _ _ ⟨#[61]⟩ rfl h1 HP.out.rd).mono ?_
    rintro e w1 ⟨rfl,k2,k3⟩
    have bY:=Lib.hid (HP.out.then k2 k3)
    have qV:=Lib.hid (Fr.bL (bs:=bd) k3)
    clear k2 k3
    go_wp2_with fail
    refine (bJ R _ _ ⟨#[45]⟩ rfl hm bY.out.rd).mono ?_
    rintro e w1 ⟨rfl,k2,k3⟩
    have aP:=Lib.hid (bY.out.then k2 k3)
    have eZ:=Lib.hid (qV.out.wS k3)
    clear k2 k3
    go_wp2_with fail
    refine (uP R _ _ h2 aP.out.rd).mono ?_
    rintro e w2 ⟨rfl,k2⟩
    have aN:=Lib.hid (aP.out.below k2)
    have cK:=Lib.hid (eZ.out.wS (aQ k2))
    clear k2
    go_wp2_with fail
    go_ret
    exact Es HE.out aN.out cK.out
   ·have HE:=Lib.hid (Sj (d:=d) h1 hm h2)
    have hv:=Bj HP.out.rd.ts.tail.tail h2
    have HV:Hid (aV (-((Tk.val (ay ts.tail.tail):Nat):Int))):=Lib.hid (by unfold aV; omega)
    have hv0:(0:Int)≤((Tk.val (ay ts.tail.tail):Nat):Int):=by omega
    have hng:IntKind.i64.wrap (-((Tk.val (ay ts.tail.tail):Nat):Int))= -((Tk.val (ay ts.tail.tail):Nat):Int):=IntWalk.i64_in _ (by omega)
    have HNY:=Lib.hid (fun w hI=>yN R ts.tail.tail w h2 hI)
    generalize ((Tk.val (ay ts.tail.tail):Nat):Int)=n at *
    go_enter Tryz.func109,Tryz.ntmps109
    go_wp2_with fail
    refine (bJ R _ _ ⟨#[61]⟩ rfl h1 HP.out.rd).mono ?_
    rintro e w1 ⟨rfl,k2,k3⟩
    have bY:=Lib.hid (HP.out.then k2 k3)
    have qV:=Lib.hid (Fr.bL (bs:=bd) k3)
    clear k2 k3
    go_wp2_with fail
    refine (bJ R _ _ ⟨#[45]⟩ rfl hm bY.out.rd).mono ?_
    rintro e w1 ⟨rfl,k2,k3⟩
    have aP:=Lib.hid (bY.out.then k2 k3)
    have eZ:=Lib.hid (qV.out.wS k3)
    clear k2 k3
    go_wp2_with fail
    refine (HNY.out _ aP.out.rd).mono ?_
    rintro e w2 ⟨rfl,k2,k3⟩
    have aN:=Lib.hid (aP.out.then k2 k3)
    have cK:=Lib.hid (eZ.out.wS k3)
    clear k2 k3
    have c4:=aN.out.cell (j:=4) rfl
    have f4:=aN.out.free 4
    go_wp2_with fail
    go_ret
    exact Eo HE.out (aN.out.init _ HV.out) (cK.out.set _ _ (.inl rfl))
end Go.Proofs.YtehnipchbmjlhaaGreatDoor
end
section
set_option linter.unusedSimpArgs false
set_option linter.unusedVariables false
namespace Go.Proofs.YtehnipchbmjlhaaGreatDoor
open Go.RowKit
open Md Pz
theorem kJ {w:World} {K:Act→Prop} {a:Act} (h:K a):dU w K [] a:=h
def xD (d:De):Value:= .agg #[.int .i64 d.kind,.int .i64 d.line,.string d.nm,.int .i64 d.size,.int .i64 d.init,.string d.on]
def RH (R:Rp) (w:World) (res:aT De) (e:Ending) (w':World):Prop:=
 match res with
 | .ok d r=>(d.Ok∧e= .returned (.tuple #[xD d,.bool true]))∧aS w' R r∧w.grownBy w' (some R.br)
 | .no r=>(∃d,e= .returned (.tuple #[xD d,.bool false]))∧aS w' R r∧w.grownBy w' (some R.br)
def zH:Array Value:= #[.int .i64 0,.int .i64 0,.string ⟨#[]⟩,.int .i64 0,.int .i64 0,.string ⟨#[]⟩]
theorem Dj:(Tryz.prog.info? 62).map (·.size)=some 6:=by kernel_rfl
theorem z6 {w:World} {b:Nat} {t:TypeId} (h:w.heap[b]? =some (.cells zH t (0,0))):
 (w.cell? ⟨b,0,none⟩=some (.int .i64 0)∧w.cell? ⟨b,1,none⟩=some (.int .i64 0)∧w.cell? ⟨b,2,none⟩=some (.string ⟨#[]⟩)∧w.cell? ⟨b,3,none⟩=some (.int .i64 0)∧w.cell? ⟨b,4,none⟩=some (.int .i64 0)∧w.cell? ⟨b,5,none⟩=some (.string ⟨#[]⟩))∧ ∀j,w.frozen? ⟨b,j,none⟩=false:=
 ⟨⟨ak h rfl,ak h rfl,ak h rfl,ak h rfl,ak h rfl,ak h rfl⟩,fun _=>aD h⟩
theorem RJ {R:Rp} {bd:Nat} {W:World} {d:De} {r:aj} (h:Pd R bd W d r):
 W.cell? ⟨bd,0,none⟩=some (.int .i64 d.kind)∧W.cell? ⟨bd,1,none⟩=some (.int .i64 d.line)∧W.cell? ⟨bd,2,none⟩=some (.string d.nm)∧W.cell? ⟨bd,3,none⟩=some (.int .i64 d.size)∧W.cell? ⟨bd,4,none⟩=some (.int .i64 d.init)∧W.cell? ⟨bd,5,none⟩=some (.string d.on):=
 ⟨h.cell rfl,h.cell rfl,h.cell rfl,h.cell rfl,h.cell rfl,h.cell rfl⟩
theorem Wo {R:Rp} {w W:World} {d:De} {r:aj} {res:aT De} (e:res= .ok d r) (hok:d.Ok) (hr:aS W R r) (hg:w.grownBy W (some R.br)) (hl:R.br < w.heap.size):
 RH R w res (.returned (.tuple #[xD d,.bool true])) (W.setCells w.heap.size 0 (ig d)):=by
 subst e
 exact ⟨⟨hok,rfl⟩,mM hr (aO _ _ _ _) (by have:=R.b0; omega) (by omega),jF hg _ _ _ (Nat.le_refl _)⟩
theorem Kg {R:Rp} {w W:World} {d:De} {r:aj} {res:aT De} (e:res= .no r) (hr:aS W R r) (hg:w.grownBy W (some R.br)) (hl:R.br < w.heap.size):
 RH R w res (.returned (.tuple #[xD d,.bool false])) (W.setCells w.heap.size 0 (ig d)):=by
 subst e
 exact ⟨⟨d,rfl⟩,mM hr (aO _ _ _ _) (by have:=R.b0; omega) (by omega),jF hg _ _ _ (Nat.le_refl _)⟩
def jH (d:De) (r:aj):aT De:=if d.kind == 1 then (kX d r).bind iJ else if d.kind == 2 then iJ d r else if d.kind == 5 then (fK r).map (fun o=> {d with on:=o}) else .ok d r
theorem Vk (ts:aj):oM ts=((fK ts.tail).bind fun s r=>jH ⟨je (ay ts),aU ts,s,0,0,⟨#[]⟩⟩ r).close [59]:=rfl
theorem xU {br bd:Nat} {w w1 w2:World} (h:w.grownBy w1 (some br)) (hf:Fr br bd w1 w2) (hb:w.heap.size≤bd):w.grownBy w2 (some br):=
 ⟨hf.os.trans h.os,hf.tape.trans h.tape,hf.output.trans h.output,Nat.le_trans h.size hf.size,fun k hk hn=>(hf.block k (Nat.lt_of_lt_of_le hk h.size) (by simpa using hn) (by omega)).trans (h.block k hk hn)⟩
def iq (P Q S:World→Prop):List Bool→World→Prop
 | [x,y],w=>if y then S w else if x then Q w else P w
 | _,_=>False
section
variable {P Q S:World→Prop} {c:List Bool} {w w':World} {k l i:Nat}
theorem iq.bits (h:iq P Q S c w): ∃x y,c=[x,y]:=by
 match c,h with
 | [x,y],_=>exact ⟨x,y,rfl⟩
 | [],h=>exact h.elim
 | [_],h=>exact h.elim
 | _ ::_ ::_ ::_,h=>exact h.elim
theorem iq.skip (h1:(k == i)=false) (h2:(l == i)=false) (h:iq P Q S c w):iq P Q S (nC [k,l] c i) w:=by
 obtain ⟨x,y,rfl⟩:=h.bits
 simp only [nC,h1,h2,Bool.or_false]; exact h
theorem iq.fire (h1:(k == i)=true) (h2:(l == i)=false) (h:Q w):iq P Q S (nC [k,l] [false,false] i) w:=by
 simp only [nC,h1,h2,Bool.or_false,Bool.or_true]; exact h
theorem iq.last (h1:(k == i)=false) (h2:(l == i)=true) (h:S w):iq P Q S (nC [k,l] [true,false] i) w:=by
 simp only [nC,h1,h2,Bool.or_false,Bool.or_true]; exact h
theorem iq.gr {x:Bool} {T:World→Prop} (hp: ∀w,P w→T w) (hq: ∀w,Q w→T w) (h:iq P Q S [x,false] w):T w:=by
 cases x
 ·exact hp w h
 ·exact hq w h
end
set_option maxHeartbeats 4000000 in
set_option maxRecDepth 100000 in
theorem DL (R:Rp) (ts:aj) (w:World) (hI:aS w R ts) (hk:isDecl ts=true):
 Calls Tryz.prog 67 #[.pointer (some ⟨R.br,0,none⟩)] w (RH R w (oM ts)):=by
 have HI:=Lib.hid hI
 have HL:=Lib.hid (kr hI)
 have hlt:=hI.lt
 have av3:=Lib.hid hlt
 obtain ⟨t0,r0,hr⟩: ∃t r,ts=t ::r:=by
  cases ts with
  | nil=>exact absurd hk (by simp [isDecl,nextK])
  | cons t r=>exact ⟨t,r,rfl⟩
 have mF:=Lib.hid hr
 have hd0:(je (ay ts) == 0)=false:=by
  unfold isDecl at hk; simp only [Bool.and_eq_true,Bool.not_eq_true'] at hk; exact hk.2
 have HKD:=Lib.hid (Vp (ay ts) hd0)
 rw [Vk]
 clear hk hr hd0
 go_enter Tryz.func67,Tryz.ntmps67
 go_upto_region 1 with fail
 generalize hW:World.alloc w _=W0
 have HB0:Hid (Below w.heap.size w W0):=Lib.hid (by rw [← hW]; exact ah _ _)
 have HZ0:Hid (W0.heap[w.heap.size]? =some (.cells zH 62 (0,0))):=Lib.hid (by rw [← hW]; exact heap_alloc_new _ _)
 have HN:=Lib.hid (gJ R ts W0 (HI.out.below HB0.out))
 unfold kE at HN
 clear hW hI
 go_wp2_with fail
 refine HN.out.mono ?_
 rintro e w1 ⟨rfl,h2⟩
 have HB1:=Lib.hid (HB0.out.trans (h2.mono HB0.out.size))
 have HZ1:=Lib.hid ((h2.block _ (Array.getElem?_eq_some_iff.1 HZ0.out).1).trans HZ0.out)
 clear h2 HN HB0 HZ0
 go_upto_region 2 with fail
 obtain ⟨gt,hg⟩: ∃g,w1.heap.size=g:=⟨_,rfl⟩
 rw [hg]
 generalize hW:World.alloc w1 _=W2
 have HB2:Hid (Below w.heap.size w W2):=Lib.hid (by rw [← hW]; exact HB1.out.alloc HB1.out.size _)
 have HT2:Hid (W2.heap[gt]? =some (.cells #[.int .i64 ((nextK ts:Nat):Int),.string (tx (ay ts)),.int .i64 ((aU ts:Nat):Int)] 112 (0,0))):=Lib.hid (by rw [← hW,← hg]; exact heap_alloc_new _ _)
 have HZ2:Hid (W2.heap[w.heap.size]? =some (.cells zH 62 (0,0))):=Lib.hid (by rw [← hW]; exact (heap_alloc_old _ _ (Array.getElem?_eq_some_iff.1 HZ1.out).1).trans HZ1.out)
 have aX:Hid (R.br < w.heap.size∧w.heap.size < gt):=Lib.hid ⟨hlt,by rw [← hg]; exact (Array.getElem?_eq_some_iff.1 HZ1.out).1⟩
 obtain ⟨pos,hp,q0,q1,fq,HX⟩:=(HI.out.below HB2.out).open
 clear hW hg HB1 HZ1
 go_upto_region 3 with fail
 generalize hW:World.setCell W2 _ _=W3
 have HQ:Hid (aS W3 R ts.tail∧W2.grownBy W3 (some R.br)):=Lib.hid (by rw [← hW,mF.out]; exact HX.out t0 r0 mF.out)
 have Da:Hid (w.grownBy W3 (some R.br)):=Lib.hid (cu (aQ HB2.out) HQ.out.2)
 have HT3:=Lib.hid ((HQ.out.2.block _ (Array.getElem?_eq_some_iff.1 HT2.out).1 (by have:=aX.out; simp; omega)).trans HT2.out)
 have HZ3:=Lib.hid ((HQ.out.2.block _ (Array.getElem?_eq_some_iff.1 HZ2.out).1 (by have:=aX.out; simp; omega)).trans HZ2.out)
 have Zd:=Lib.hid HQ.out.1
 clear hW q0 q1 fq HX HB2 HT2 HZ2 HQ
 have K1: ∀w',Below W3.heap.size W3 w'→w'.cell? ⟨gt,1,none⟩=some (.string (tx (ay ts))):=fun w' h=>ak ((h.block _ (Array.getElem?_eq_some_iff.1 HT3.out).1).trans HT3.out) rfl
 have K2: ∀w',Below W3.heap.size W3 w'→w'.cell? ⟨gt,2,none⟩=some (.int .i64 ((aU ts:Nat):Int)):=fun w' h=>ak ((h.block _ (Array.getElem?_eq_some_iff.1 HT3.out).1).trans HT3.out) rfl
 refine eG (by kernel_rfl) rfl ?_
 refine dS 0 7 [] [[],[0],[0,1],[],[3],[0,1,2,3,4],[],[0,1,2,3,4,5,6]] [[],[],[],[],[],[],[]] (fun _ w'=>Below W3.heap.size W3 w') (fun w w'=>Below w.heap.size w w') [16,17,18,19,20,21,5] rfl rfl (by rfl) (by kernel_rfl) (by kernel_rfl) (by kernel_rfl) (by kernel_rfl) (by kernel_rfl) (by rfl) (fun _=>Below.refl _ _) (by rfl) (below_drewN (Below.refl _ _) 1) ?_
 simp only [List.take_succ_cons,List.take_zero,List.drop_zero,List.drop_succ_cons,jW,List.map_cons,List.map_nil]
 apply aG.step
 case aF=>
  intro c A w' hok hC hO hD
  have e4:=hO 4 (by rfl)
  simp [Act.eval] at e4
  simp [aC,aB,au,Act.eval,Region.binds] at hD
  simp [go_sem,gd,Oper.wp,hD,e4]
  exact aA.mk (Below.refl _ _) hC (aB.mk _ _)
 apply aG.step
 case aF=>
  intro c A w' hok hC hO hD
  simp [aC,aB,au,Act.eval,Region.binds] at hD
  simp [go_sem,gd,Oper.wp,hD,K1,hC]
  exact aA.mk (Below.refl _ _) hC (aB.mk _ _)
 apply aG.step
 case aF=>
  intro c A w' hok hC hO hD
  simp [aC,aB,au,Act.eval,Region.binds] at hD
  simp [go_sem,gd,Oper.wp,hD]
  refine (Bn (tx (ay ts)) (l:=ay ts) (F9 _) w').mono ?_
  rintro e w2 ⟨rfl,rfl⟩
  exact aA.mk (Below.refl _ _) hC (aB.mk _ _)
 apply aG.step
 case aF=>
  intro c A w' hok hC hO hD
  have e4:=hO 4 (by rfl)
  simp [Act.eval] at e4
  simp [aC,aB,au,Act.eval,Region.binds] at hD
  simp [go_sem,gd,Oper.wp,hD,e4]
  exact aA.mk (Below.refl _ _) hC (aB.mk _ _)
 apply aG.step
 case aF=>
  intro c A w' hok hC hO hD
  simp [aC,aB,au,Act.eval,Region.binds] at hD
  simp [go_sem,gd,Oper.wp,hD,K2,hC]
  exact aA.mk (Below.refl _ _) hC (aB.mk _ _)
 simp only [List.nil_append,List.cons_append]
 apply aG.step
 case aF=>
  intro c A w' hok hC hO hD
  simp [aC,aB,au,Act.eval,Region.binds] at hD
  simp [go_sem,gd,Oper.wp,hD]
  exact aA.mk (Below.refl _ _) hC (aB.mk _ _)
 refine aG.some (fun v w'=> ∃db,v= .pointer (some ⟨db,0,none⟩)∧W3.heap.size≤db∧w'.heap[db]? =some (.cells zH 62 (0,0))) ?_ ?_ ?_
 ·rintro v w1 w' hle ⟨g,h1,h2,h3⟩
  exact ⟨g,h1,h2,(hle.block g (Array.getElem?_eq_some_iff.1 h3).1).trans h3⟩
 ·intro c A w' hok hC hO hD
  simp [go_sem,gd,Oper.wp]
  exact aA.mk (d:=_) (v:= .pointer (some ⟨_,0,none⟩)) (ah _ _) (hC.alloc hC.size _) ⟨_,rfl,hC.size,heap_alloc_new _ _⟩
 simp only [List.nil_append,List.cons_append]
 refine aG.done ?_
 intro wz fT
 simp only [List.drop_zero]
 intro v0 h0 v1 h1 v2 h2 v3 h3 v4 h4 v5 h5 v6 h6
 have h5':=Eq.symm (show v5=_ from h5)
 subst h5'
 obtain ⟨bd,rfl,Ar,uM⟩:=h6
 clear h0 h1 h2 h3 h4 h5 K1 K2
 have HD0:Hid ((⟨je (ay ts),((aU ts:Nat):Int),⟨#[]⟩,0,0,⟨#[]⟩⟩:De).Ok):=Lib.hid ⟨by have:=HKD.out; show aV (je _); unfold aV; omega,HL.out,Nat.zero_le _,og,og,Nat.zero_le _⟩
 have xS:Hid (Below W3.heap.size W3 wz):=Lib.hid fT
 have Gl:Hid (W3.heap.size≤bd∧wz.heap[bd]? =some (.cells zH 62 (0,0))):=Lib.hid ⟨Ar,uM⟩
 clear fT Ar
 refine kJ ?_
 go_simp
 refine iW 7 [[],[0],[0,1],[],[3],[0,1,2,3,4],[],[0,1,2,3,4,5,6]] rfl rfl rfl rfl rfl (by kernel_rfl) (by kernel_rfl) (by kernel_rfl) ?_
 refine wp_store_mid _ _ _ (by rfl) bd 0 (ig ⟨je (ay ts),((aU ts:Nat):Int),⟨#[]⟩,0,0,⟨#[]⟩⟩).toArray (by rfl) (by rfl) (mo uM (Nat.le_refl 6)) Dj (by simp [ig,Value.oneCell']) ?_
 refine fU rfl ?_
 generalize pW:World.setCells wz bd 0 _=W5
 have mD:Hid (w.heap.size < bd∧R.br < bd):=Lib.hid (by have h1:=Gl.out.1; have h2:=(Array.getElem?_eq_some_iff.1 HZ3.out).1; have h3:=aX.out; omega)
 have Bl:Hid (wz.grownBy W5 (some bd)):=Lib.hid (by rw [← pW]; exact aO _ _ _ _)
 have jk:Hid (Pd R bd W5 ⟨je (ay ts),((aU ts:Nat):Int),⟨#[]⟩,0,0,⟨#[]⟩⟩ ts.tail):=Lib.hid ⟨mM (Zd.out.below xS.out) Bl.out (by have:=mD.out; have:=R.b0; omega) (by have:=mD.out; omega),by have:=mD.out; omega,by have:=mD.out; have:=R.b0; omega,by rw [← pW]; exact gG Gl.out.2 rfl,HD0.out⟩
 have Ey:Hid (w.grownBy W5 (some R.br)):=Lib.hid (by rw [← pW]; exact jF (cu Da.out (aQ xS.out)) _ _ _ (Nat.le_of_lt mD.out.1))
 have gK:Hid (W5.heap[w.heap.size]? =some (.cells zH 62 (0,0))):=Lib.hid ((Bl.out.block _ (Nat.lt_of_lt_of_le (Array.getElem?_eq_some_iff.1 HZ3.out).1 xS.out.size) (by have:=mD.out; simp; omega)).trans ((xS.out.block _ (Array.getElem?_eq_some_iff.1 HZ3.out).1).trans HZ3.out))
 clear pW Bl xS Gl uM HD0 Zd Da HT3 HZ3
 go_simp
 cases hn:isName ts.tail
 ·have HE:Hid (((fK ts.tail).bind fun s r=>jH ⟨je (ay ts),aU ts,s,0,0,⟨#[]⟩⟩ r).close [59]= .no ts.tail):=Lib.hid (by rw [mQ hn]; rfl)
  go_wp2_with fail
  refine (jZ R _ _ hn jk.out.rd).mono ?_
  rintro e w6 ⟨rfl,h2⟩
  have jE:=Lib.hid (jk.out.below h2)
  have JI:=Lib.hid (cu Ey.out (aQ h2))
  have Gc:=Lib.hid ((h2.block _ (Array.getElem?_eq_some_iff.1 gK.out).1).trans gK.out)
  clear h2 jk Ey gK
  have c2:=jE.out.cell (j:=2) rfl
  have f2:=jE.out.free 2
  go_upto_region 6 with fail
  generalize hW:World.setCell w6 _ _=W7
  have iL:Hid (Pd R bd W7 ⟨je (ay ts),((aU ts:Nat):Int),⟨#[]⟩,0,0,⟨#[]⟩⟩ ts.tail):=Lib.hid (by rw [← hW]; exact jE.out.nm ⟨#[]⟩ (Nat.zero_le _))
  have xK:Hid (w.grownBy W7 (some R.br)):=Lib.hid (by rw [← hW]; exact kD JI.out _ _ (Nat.le_of_lt mD.out.1))
  have zU:Hid (W7.heap[w.heap.size]? =some (.cells zH 62 (0,0))):=Lib.hid (by rw [← hW]; exact (aM w6 _ _ rfl (by have:=mD.out; show bd≠_; omega)).trans Gc.out)
  clear hW jE JI Gc c2 f2
  obtain ⟨⟨y0,y1,y2,y3,y4,y5⟩,fz⟩:=z6 zU.out
  have g0:=fz 0
  have g1:=fz 1
  have g2:=fz 2
  have g3:=fz 3
  have g4:=fz 4
  have g5:=fz 5
  obtain ⟨d0,d1,d2,d3,d4,d5⟩:=RJ iL.out
  clear fz
  go_wp2_with fail
  exact bodyPost_ret (v:= .tuple #[xD ⟨je (ay ts),((aU ts:Nat):Int),⟨#[]⟩,0,0,⟨#[]⟩⟩,.bool false]) (by simp [results,Tryz.results67,go_sem,xD,y0,y1,y2,y3,y4,y5]) rfl (Kg HE.out iL.out.rd xK.out aX.out.1)
 ·have nT:Hid ((tx (ay ts.tail)).size≤maxLen):=Lib.hid (kZ (kY jk.out.rd.ts hn))
  have HE:Hid (((fK ts.tail).bind fun s r=>jH ⟨je (ay ts),aU ts,s,0,0,⟨#[]⟩⟩ r).close [59]=(jH ⟨je (ay ts),aU ts,tx (ay ts.tail),0,0,⟨#[]⟩⟩ ts.tail.tail).close [59]):=Lib.hid (by rw [kI hn]; rfl)
  go_wp2_with fail
  refine (jd R _ _ hn jk.out.rd).mono ?_
  rintro e w6 ⟨rfl,h2,h3⟩
  have jE:=Lib.hid (jk.out.then h2 h3)
  have JI:=Lib.hid (cu Ey.out h3)
  have Gc:=Lib.hid ((h3.block _ (Array.getElem?_eq_some_iff.1 gK.out).1 (by have:=aX.out; simp; omega)).trans gK.out)
  clear h2 h3 jk Ey gK
  have c2:=jE.out.cell (j:=2) rfl
  have f2:=jE.out.free 2
  go_upto_region 6 with fail
  generalize hW:World.setCell w6 _ _=W7
  have iL:Hid (Pd R bd W7 ⟨je (ay ts),((aU ts:Nat):Int),tx (ay ts.tail),0,0,⟨#[]⟩⟩ ts.tail.tail):=Lib.hid (by rw [← hW]; exact jE.out.nm _ nT.out)
  have xK:Hid (w.grownBy W7 (some R.br)):=Lib.hid (by rw [← hW]; exact kD JI.out _ _ (Nat.le_of_lt mD.out.1))
  have zU:Hid (W7.heap[w.heap.size]? =some (.cells zH 62 (0,0))):=Lib.hid (by rw [← hW]; exact (aM w6 _ _ rfl (by have:=mD.out; show bd≠_; omega)).trans Gc.out)
  clear hW jE JI Gc c2 f2
  obtain ⟨dd,WU⟩: ∃dd,Hid ((⟨je (ay ts),((aU ts:Nat):Int),tx (ay ts.tail),0,0,⟨#[]⟩⟩:De)=dd):=⟨_,Lib.hid rfl⟩
  have HKK:Hid (dd.kind=je (ay ts)):=Lib.hid (by rw [← WU.out])
  rw [WU.out] at iL HE
  obtain ⟨r1,HR1⟩: ∃r1,Hid (ts.tail.tail=r1):=⟨_,Lib.hid rfl⟩
  rw [HR1.out] at iL HE
  have c0:W7.cell? ⟨bd,0,none⟩=some (.int .i64 dd.kind):=iL.out.cell rfl
  have HRK:=Lib.hid (show jH dd r1=jH dd r1 from rfl)
  go_upto_block 0 with fail
  go_cut [6] (fun s6 W'=> ∃d r2 b,s6= .bool b∧Pd R bd W' d r2∧w.grownBy W' (some R.br)∧W'.heap[w.heap.size]? =some (.cells zH 62 (0,0))∧jH dd r1=if b then .ok d r2 else .no r2)
  case first=>
   cases k1:(dd.kind == 1)
   ·cases k2:(dd.kind == 2)
    ·cases k5:(dd.kind == 5)
     ·have HQ:Hid (jH dd r1= .ok dd r1):=Lib.hid (by unfold jH; rw [if_neg (by rw [k1]; decide),if_neg (by rw [k2]; decide),if_neg (by rw [k5]; decide)])
      go_wp2_with fail
      go_meet
      exact ⟨dd,r1,true,rfl,iL.out,xK.out,zU.out,HQ.out⟩
     ·have HQ:Hid (jH dd r1=(fK r1).map (fun o=> {dd with on:=o})):=Lib.hid (by unfold jH; rw [if_neg (by rw [k1]; decide),if_neg (by rw [k2]; decide),if_pos k5])
      cases hm:isName r1
      ·go_wp2_with fail
       refine (jZ R _ _ hm iL.out.rd).mono ?_
       rintro e w8 ⟨rfl,h2⟩
       have lV:=Lib.hid (iL.out.below h2)
       have xM:=Lib.hid (cu xK.out (aQ h2))
       have Ej:=Lib.hid ((h2.block _ (Array.getElem?_eq_some_iff.1 zU.out).1).trans zU.out)
       clear h2
       have c5:=lV.out.cell (j:=5) rfl
       have f5:=lV.out.free 5
       go_wp2_with fail
       go_meet
       exact ⟨_,r1,false,rfl,lV.out.on ⟨#[]⟩ (Nat.zero_le _),kD xM.out _ _ (Nat.le_of_lt mD.out.1),(aM w8 _ _ rfl (by have:=mD.out; show bd≠_; omega)).trans Ej.out,HQ.out.trans (by rw [mQ hm]; rfl)⟩
      ·have Ew:Hid ((tx (ay r1)).size≤maxLen):=Lib.hid (kZ (kY iL.out.rd.ts hm))
       go_wp2_with fail
       refine (jd R _ _ hm iL.out.rd).mono ?_
       rintro e w8 ⟨rfl,h2,h3⟩
       have lV:=Lib.hid (iL.out.then h2 h3)
       have xM:=Lib.hid (cu xK.out h3)
       have Ej:=Lib.hid ((h3.block _ (Array.getElem?_eq_some_iff.1 zU.out).1 (by have:=aX.out; simp; omega)).trans zU.out)
       clear h2 h3
       have c5:=lV.out.cell (j:=5) rfl
       have f5:=lV.out.free 5
       go_wp2_with fail
       go_meet
       exact ⟨_,r1.tail,true,rfl,lV.out.on _ Ew.out,kD xM.out _ _ (Nat.le_of_lt mD.out.1),(aM w8 _ _ rfl (by have:=mD.out; show bd≠_; omega)).trans Ej.out,HQ.out.trans (by rw [kI hm]; rfl)⟩
    ·have HQ:Hid (jH dd r1=iJ dd r1):=Lib.hid (by unfold jH; rw [if_neg (by rw [k1]; decide),if_pos k2])
     have HC:=Lib.hid (BX R bd r1 dd W7 iL.out)
     obtain ⟨Cy,uF⟩: ∃Cy,Hid (jH dd r1=Cy):=⟨_,Lib.hid rfl⟩
     rw [← HQ.out,uF.out] at HC
     clear HQ
     cases Cy with
     | no q=>
       go_wp2_with fail
       refine HC.out.mono ?_
       rintro e w9 ⟨rfl,⟨d',h2⟩,h3⟩
       have E5:=Lib.hid h2
       have A9:=Lib.hid h3
       clear h2 h3
       go_wp2_with fail
       go_meet
       exact ⟨d',q,false,rfl,E5.out,xU xK.out A9.out (Nat.le_of_lt mD.out.1),gI A9.out zU.out (by have:=aX.out; omega) (by have:=mD.out; omega),uF.out⟩
     | ok d' q=>
       go_wp2_with fail
       refine HC.out.mono ?_
       rintro e w9 ⟨rfl,h2,h3⟩
       have E5:=Lib.hid h2
       have A9:=Lib.hid h3
       clear h2 h3
       go_wp2_with fail
       go_meet
       exact ⟨d',q,true,rfl,E5.out,xU xK.out A9.out (Nat.le_of_lt mD.out.1),gI A9.out zU.out (by have:=aX.out; omega) (by have:=mD.out; omega),uF.out⟩
   ·have HQ:Hid (jH dd r1=(kX dd r1).bind iJ):=Lib.hid (by unfold jH; rw [if_pos k1])
    have HC:=Lib.hid (QX R bd r1 dd W7 iL.out)
    cases hs:kX dd r1 with
    | no q=>
      rw [hs] at HC HQ
      go_wp2_with fail
      refine HC.out.mono ?_
      rintro e w8 ⟨rfl,⟨d',h2⟩,h3⟩
      have lV:=Lib.hid h2
      have Q7:=Lib.hid h3
      clear h2 h3
      go_wp2_with fail
      go_meet
      exact ⟨d',q,false,rfl,lV.out,xU xK.out Q7.out (Nat.le_of_lt mD.out.1),gI Q7.out zU.out (by have:=aX.out; omega) (by have:=mD.out; omega),HQ.out⟩
    | ok d2 q=>
      rw [hs] at HC HQ
      have Cb:Hid (jH dd r1=iJ d2 q):=Lib.hid HQ.out
      have HC2:Hid (∀W,Pd R bd W d2 q→Calls Tryz.prog 109 #[.pointer (some ⟨R.br,0,none⟩),.pointer (some ⟨bd,0,none⟩)] W (Oi R bd W (iJ d2 q))):=Lib.hid (fun W h=>BX R bd q d2 W h)
      clear HQ hs
      go_wp2_with fail
      refine HC.out.mono ?_
      rintro e w8 ⟨rfl,h2,h3⟩
      have lV:=Lib.hid h2
      have xM:=Lib.hid (xU xK.out h3 (Nat.le_of_lt mD.out.1))
      have Ej:=Lib.hid (gI h3 zU.out (by have:=aX.out; omega) (by have:=mD.out; omega))
      clear h2 h3 HC
      have HC:=Lib.hid (HC2.out _ lV.out)
      have HQ:=Cb
      clear Cb HC2
      obtain ⟨Cy,uF⟩: ∃Cy,Hid (jH dd r1=Cy):=⟨_,Lib.hid rfl⟩
      rw [← HQ.out,uF.out] at HC
      clear HQ
      cases Cy with
      | no q=>
        go_wp2_with fail
        refine HC.out.mono ?_
        rintro e w9 ⟨rfl,⟨d',h2⟩,h3⟩
        have E5:=Lib.hid h2
        have A9:=Lib.hid h3
        clear h2 h3
        go_wp2_with fail
        go_meet
        exact ⟨d',q,false,rfl,E5.out,xU xM.out A9.out (Nat.le_of_lt mD.out.1),gI A9.out Ej.out (by have:=aX.out; omega) (by have:=mD.out; omega),uF.out⟩
      | ok d' q=>
        go_wp2_with fail
        refine HC.out.mono ?_
        rintro e w9 ⟨rfl,h2,h3⟩
        have E5:=Lib.hid h2
        have A9:=Lib.hid h3
        clear h2 h3
        go_wp2_with fail
        go_meet
        exact ⟨d',q,true,rfl,E5.out,xU xM.out A9.out (Nat.le_of_lt mD.out.1),gI A9.out Ej.out (by have:=aX.out; omega) (by have:=mD.out; omega),uF.out⟩
  obtain ⟨dz,rz,bz,rfl,hPd,hGr,hZ,hKR⟩:=hcut
  obtain ⟨W8,rfl⟩: ∃W:World,W=wc:=⟨_,rfl⟩
  have lV:=Lib.hid hPd
  have xM:=Lib.hid hGr
  have Ej:=Lib.hid hZ
  have XH:=Lib.hid (HE.out.trans (congrArg (fun x=>aT.close [59] x) hKR))
  clear hPd hGr hZ hKR iL xK zU HRK c0
  have KD: ∀w',W8.grownBy w' (some R.br)→(w'.cell? ⟨bd,0,none⟩=some (.int .i64 dz.kind)∧w'.cell? ⟨bd,1,none⟩=some (.int .i64 dz.line)∧w'.cell? ⟨bd,2,none⟩=some (.string dz.nm)∧w'.cell? ⟨bd,3,none⟩=some (.int .i64 dz.size)∧w'.cell? ⟨bd,4,none⟩=some (.int .i64 dz.init)∧w'.cell? ⟨bd,5,none⟩=some (.string dz.on)):=fun w' h=>by
   have hb:=(h.block _ lV.out.lt (by simp; exact lV.out.ne)).trans lV.out.blk
   exact ⟨ak hb rfl,ak hb rfl,ak hb rfl,ak hb rfl,ak hb rfl,ak hb rfl⟩
  have FL:Hid (aS W8 R rz):=Lib.hid lV.out.rd
  have e0: ∀w',W8.grownBy w' (some R.br)→w'.heap[w.heap.size]? =some (.cells zH 62 (0,0)):=fun w' h=>(h.block _ (Array.getElem?_eq_some_iff.1 Ej.out).1 (by have:=aX.out; simp; omega)).trans Ej.out
  have LK:=Lib.hid e0
  clear e0
  cases bz
  ·have mY:Hid (((fK ts.tail).bind fun s r=>jH ⟨je (ay ts),aU ts,s,0,0,⟨#[]⟩⟩ r).close [59]= .no rz):=Lib.hid XH.out
   go_upto_region 15 with fail
   refine eG (by kernel_rfl) rfl ?_
   refine dS 0 8 [4,6] [[],[],[1],[1,2],[1,2,3],[1,2,3,4],[0,1,2,3,4],[0,1,2,3,4,5,6]] [[none,some false],[some false,some false],[some false,some false],[some false,some false],[some false,some false],[some true,none],[some true,some false],[some true,some true]] (iq (fun w'=>aS w' R rz∧W8.grownBy w' (some R.br)) (fun w'=>aS w' R rz∧W8.grownBy w' (some R.br)) (fun w'=> ∃w2,(aS w2 R rz∧W8.grownBy w2 (some R.br))∧w'=w2.setCells w.heap.size 0 (ig dz))) (fun _ _=>True) [53,54,55,56,57,58,3] rfl rfl (by rfl) (by kernel_rfl) (by kernel_rfl) (by kernel_rfl) (by kernel_rfl) (by kernel_rfl) (by rfl) (fun _=>trivial) (by rfl) ⟨FL.out.below (below_drewN (Below.refl _ _) 1),aQ (below_drewN (Below.refl _ _) 1)⟩ ?_
   simp only [List.take_succ_cons,List.take_zero,List.drop_zero,List.drop_succ_cons,jW,List.map_cons,List.map_nil]
   apply aG.step
   case aF=>
    intro c A w' hok hC hO hD
    obtain ⟨x,y,rfl⟩:=hC.bits
    obtain ⟨rfl,-⟩:=hok
    obtain ⟨d0,d1,d2,d3,d4,d5⟩:=KD w' (hC.gr (fun _ h=>h.2) (fun _ h=>h.2))
    have e5:=hO 5 (by rfl)
    simp [Act.eval] at e5
    simp [aC,aB,au,Act.eval,Region.binds] at hD
    simp [go_sem,gd,Oper.wp,e5,d0,d1,d2,d3,d4,d5]
    exact aA.mk trivial (iq.skip (by rfl) (by rfl) hC) (aB.mk _ _)
   apply aG.step
   case aF=>
    intro c A w' hok hC hO hD
    have e6:=hO 6 (by rfl)
    simp [Act.eval] at e6
    simp [aC,aB,au,Act.eval,Region.binds] at hD
    simp [go_sem,gd,Oper.wp,hD,e6]
    exact aA.mk trivial (iq.skip (by rfl) (by rfl) hC) (aB.mk _ _)
   apply aG.step
   case aF=>
    intro c A w' hok hC hO hD
    simp [aC,aB,au,Act.eval,Region.binds] at hD
    simp [go_sem,gd,Oper.wp,hD]
    exact aA.mk trivial (iq.skip (by rfl) (by rfl) hC) (aB.mk _ _)
   refine aG.step (v:=undef) ?_ ?_
   ·intro c A w' hok hC hO hD
    simp [aC,aB,au,Act.eval,Region.binds] at hD
    simp [gd,Act.eval,hD]
    exact ⟨(iq.skip (by rfl) (by rfl) hC),aB.mk _ _⟩
   refine aG.step (v:=undef) ?_ ?_
   ·intro c A w' hok hC hO hD
    obtain ⟨x,y,rfl⟩:=hC.bits
    obtain ⟨rfl,rfl,-⟩:=hok
    simp [aC,aB,au,Act.eval,Region.binds] at hD
    simp [gd,Act.eval,hD]
    exact ⟨iq.fire (by rfl) (by rfl) hC,aB.mk _ _⟩
   simp only [List.nil_append,List.cons_append]
   apply aG.step
   case aF=>
    intro c A w' hok hC hO hD
    simp [aC,aB,au,Act.eval,Region.binds] at hD
    simp [go_sem,gd,Oper.wp,hD]
    exact aA.mk trivial (iq.skip (by rfl) (by rfl) hC) (aB.mk _ _)
   refine aG.some (fun _ _=>True) (fun _ _ _ _ _=>trivial) ?_ ?_
   ·intro c A w' hok hC hO hD
    obtain ⟨x,y,rfl⟩:=hC.bits
    obtain ⟨rfl,rfl,-⟩:=hok
    have e2:=hO 2 (by rfl)
    simp [Act.eval] at e2
    simp [aC,aB,au,Act.eval,Region.binds] at hD
    simp only [gd,if_true]
    refine wp_store_mid _ _ _ (by rfl) w.heap.size 0 (ig dz).toArray (by simp [Act.eval,e2]) (by simp [Act.eval,hD,ig]) (mo (LK.out w' hC.2) (Nat.le_refl 6)) Dj (by simp [ig,Value.oneCell']) ?_
    exact aA.wV trivial (iq.last (by rfl) (by rfl) ⟨w',hC,rfl⟩) trivial
   apply aG.step
   case aF=>
    intro c A w' hok hC hO hD
    simp [aC,aB,au,Act.eval,Region.binds] at hD
    simp [go_sem,gd,Oper.wp,hD]
    exact aA.mk trivial (iq.skip (by rfl) (by rfl) hC) (aB.mk _ _)
   try simp only [List.nil_append,List.cons_append]
   refine aG.done ?_
   intro w9 sD
   try simp only [List.drop_succ_cons,List.drop_zero]
   intro x0 h0 x1 h1 x2 h2 x3 h3 x4 h4 x5 h5 x6 h6 x7 h7
   have uY:=Eq.symm (show x7=_ from h7)
   subst uY
   clear h0 h1 h2 h3 h4 h5 h6 h7
   refine kJ ?_
   refine fU rfl ?_
   obtain ⟨w2,hw2,wG⟩: ∃w2,(aS w2 R _∧W8.grownBy w2 (some R.br))∧w9=w2.setCells w.heap.size 0 (ig dz):=sD
   have fV:w9.heap[w.heap.size]? =some (.cells (ig dz).toArray 62 (0,0)):=by rw [wG]; exact gG (LK.out w2 hw2.2) rfl
   have zY:=Lib.hid wG
   have y0:w9.cell? ⟨w.heap.size,0,none⟩=some (.int .i64 dz.kind):=ak fV rfl
   have y1:w9.cell? ⟨w.heap.size,1,none⟩=some (.int .i64 dz.line):=ak fV rfl
   have y2:w9.cell? ⟨w.heap.size,2,none⟩=some (.string dz.nm):=ak fV rfl
   have y3:w9.cell? ⟨w.heap.size,3,none⟩=some (.int .i64 dz.size):=ak fV rfl
   have y4:w9.cell? ⟨w.heap.size,4,none⟩=some (.int .i64 dz.init):=ak fV rfl
   have y5:w9.cell? ⟨w.heap.size,5,none⟩=some (.string dz.on):=ak fV rfl
   have Cc:=Lib.hid (Kg (d:=dz) mY.out hw2.1 (cu xM.out hw2.2) aX.out.1)
   rw [← wG] at Cc
   clear wG fV KD
   go_simp
   go_wp2_with fail
   exact bodyPost_ret (v:= .tuple #[xD dz,.bool false]) (by simp [results,Tryz.results67,go_sem,xD,y0,y1,y2,y3,y4,y5]) rfl Cc.out
  ·cases h4:at' [59] rz
   ·have mY:Hid (((fK ts.tail).bind fun s r=>jH ⟨je (ay ts),aU ts,s,0,0,⟨#[]⟩⟩ r).close [59]= .no rz):=Lib.hid (XH.out.trans (mW h4))
    go_upto_region 15 with fail
    refine eG (by kernel_rfl) rfl ?_
    refine dS 0 8 [4,6] [[],[],[1],[1,2],[1,2,3],[1,2,3,4],[0,1,2,3,4],[0,1,2,3,4,5,6]] [[none,some false],[some false,some false],[some false,some false],[some false,some false],[some false,some false],[some true,none],[some true,some false],[some true,some true]] (iq (fun w'=>aS w' R rz∧W8.grownBy w' (some R.br)) (fun w'=>aS w' R rz∧W8.grownBy w' (some R.br)) (fun w'=> ∃w2,(aS w2 R rz∧W8.grownBy w2 (some R.br))∧w'=w2.setCells w.heap.size 0 (ig dz))) (fun _ _=>True) [53,54,55,56,57,58,3] rfl rfl (by rfl) (by kernel_rfl) (by kernel_rfl) (by kernel_rfl) (by kernel_rfl) (by kernel_rfl) (by rfl) (fun _=>trivial) (by rfl) ⟨FL.out.below (below_drewN (Below.refl _ _) 1),aQ (below_drewN (Below.refl _ _) 1)⟩ ?_
    simp only [List.take_succ_cons,List.take_zero,List.drop_zero,List.drop_succ_cons,jW,List.map_cons,List.map_nil]
    apply aG.step
    case aF=>
     intro c A w' hok hC hO hD
     obtain ⟨x,y,rfl⟩:=hC.bits
     obtain ⟨rfl,-⟩:=hok
     obtain ⟨d0,d1,d2,d3,d4,d5⟩:=KD w' (hC.gr (fun _ h=>h.2) (fun _ h=>h.2))
     have e5:=hO 5 (by rfl)
     simp [Act.eval] at e5
     simp [aC,aB,au,Act.eval,Region.binds] at hD
     simp [go_sem,gd,Oper.wp,e5,d0,d1,d2,d3,d4,d5]
     exact aA.mk trivial (iq.skip (by rfl) (by rfl) hC) (aB.mk _ _)
    apply aG.step
    case aF=>
     intro c A w' hok hC hO hD
     have e6:=hO 6 (by rfl)
     simp [Act.eval] at e6
     simp [aC,aB,au,Act.eval,Region.binds] at hD
     simp [go_sem,gd,Oper.wp,hD,e6]
     exact aA.mk trivial (iq.skip (by rfl) (by rfl) hC) (aB.mk _ _)
    apply aG.step
    case aF=>
     intro c A w' hok hC hO hD
     simp [aC,aB,au,Act.eval,Region.binds] at hD
     simp [go_sem,gd,Oper.wp,hD]
     exact aA.mk trivial (iq.skip (by rfl) (by rfl) hC) (aB.mk _ _)
    apply aG.step
    case aF=>
     intro c A w' hok hC hO hD
     have e0:=hO 0 (by rfl)
     simp [Act.eval] at e0
     simp [aC,aB,au,Act.eval,Region.binds] at hD
     simp [go_sem,gd,Oper.wp,hD,e0]
     exact aA.mk trivial (iq.skip (by rfl) (by rfl) hC) (aB.mk _ _)
    apply aG.step
    case aF=>
     intro c A w' hok hC hO hD
     obtain ⟨x,y,rfl⟩:=hC.bits
     obtain ⟨rfl,rfl,-⟩:=hok
     simp [aC,aB,au,Act.eval,Region.binds] at hD
     simp [go_sem,gd,Oper.wp,hD]
     refine (dB R _ _ ⟨#[59]⟩ rfl h4 hC.1).mono ?_
     rintro e w3 ⟨rfl,k2⟩
     exact aA.mk trivial (iq.fire (by rfl) (by rfl) ⟨hC.1.below k2,cu hC.2 (aQ k2)⟩) (aB.mk _ _)
    simp only [List.nil_append,List.cons_append]
    apply aG.step
    case aF=>
     intro c A w' hok hC hO hD
     simp [aC,aB,au,Act.eval,Region.binds] at hD
     simp [go_sem,gd,Oper.wp,hD]
     exact aA.mk trivial (iq.skip (by rfl) (by rfl) hC) (aB.mk _ _)
    refine aG.some (fun _ _=>True) (fun _ _ _ _ _=>trivial) ?_ ?_
    ·intro c A w' hok hC hO hD
     obtain ⟨x,y,rfl⟩:=hC.bits
     obtain ⟨rfl,rfl,-⟩:=hok
     have e2:=hO 2 (by rfl)
     simp [Act.eval] at e2
     simp [aC,aB,au,Act.eval,Region.binds] at hD
     simp only [gd,if_true]
     refine wp_store_mid _ _ _ (by rfl) w.heap.size 0 (ig dz).toArray (by simp [Act.eval,e2]) (by simp [Act.eval,hD,ig]) (mo (LK.out w' hC.2) (Nat.le_refl 6)) Dj (by simp [ig,Value.oneCell']) ?_
     exact aA.wV trivial (iq.last (by rfl) (by rfl) ⟨w',hC,rfl⟩) trivial
    apply aG.step
    case aF=>
     intro c A w' hok hC hO hD
     simp [aC,aB,au,Act.eval,Region.binds] at hD
     simp [go_sem,gd,Oper.wp,hD]
     exact aA.mk trivial (iq.skip (by rfl) (by rfl) hC) (aB.mk _ _)
    try simp only [List.nil_append,List.cons_append]
    refine aG.done ?_
    intro w9 sD
    try simp only [List.drop_succ_cons,List.drop_zero]
    intro x0 h0 x1 h1 x2 h2 x3 h3 x4 h4 x5 h5 x6 h6 x7 h7
    have uY:=Eq.symm (show x7=_ from h7)
    subst uY
    clear h0 h1 h2 h3 h4 h5 h6 h7
    refine kJ ?_
    refine fU rfl ?_
    obtain ⟨w2,hw2,wG⟩: ∃w2,(aS w2 R _∧W8.grownBy w2 (some R.br))∧w9=w2.setCells w.heap.size 0 (ig dz):=sD
    have fV:w9.heap[w.heap.size]? =some (.cells (ig dz).toArray 62 (0,0)):=by rw [wG]; exact gG (LK.out w2 hw2.2) rfl
    have zY:=Lib.hid wG
    have y0:w9.cell? ⟨w.heap.size,0,none⟩=some (.int .i64 dz.kind):=ak fV rfl
    have y1:w9.cell? ⟨w.heap.size,1,none⟩=some (.int .i64 dz.line):=ak fV rfl
    have y2:w9.cell? ⟨w.heap.size,2,none⟩=some (.string dz.nm):=ak fV rfl
    have y3:w9.cell? ⟨w.heap.size,3,none⟩=some (.int .i64 dz.size):=ak fV rfl
    have y4:w9.cell? ⟨w.heap.size,4,none⟩=some (.int .i64 dz.init):=ak fV rfl
    have y5:w9.cell? ⟨w.heap.size,5,none⟩=some (.string dz.on):=ak fV rfl
    have Cc:=Lib.hid (Kg (d:=dz) mY.out hw2.1 (cu xM.out hw2.2) aX.out.1)
    rw [← wG] at Cc
    clear wG fV KD
    go_simp
    go_wp2_with fail
    exact bodyPost_ret (v:= .tuple #[xD dz,.bool false]) (by simp [results,Tryz.results67,go_sem,xD,y0,y1,y2,y3,y4,y5]) rfl Cc.out
   ·have mY:Hid (((fK ts.tail).bind fun s r=>jH ⟨je (ay ts),aU ts,s,0,0,⟨#[]⟩⟩ r).close [59]= .ok dz rz.tail):=Lib.hid (XH.out.trans (mK h4))
    go_upto_region 15 with fail
    refine eG (by kernel_rfl) rfl ?_
    refine dS 0 8 [4,6] [[],[],[1],[1,2],[1,2,3],[1,2,3,4],[0,1,2,3,4],[0,1,2,3,4,5,6]] [[none,some false],[some false,some false],[some false,some false],[some false,some false],[some false,some false],[some true,none],[some true,some false],[some true,some true]] (iq (fun w'=>aS w' R rz∧W8.grownBy w' (some R.br)) (fun w'=>aS w' R rz.tail∧W8.grownBy w' (some R.br)) (fun w'=> ∃w2,(aS w2 R rz.tail∧W8.grownBy w2 (some R.br))∧w'=w2.setCells w.heap.size 0 (ig dz))) (fun _ _=>True) [53,54,55,56,57,58,3] rfl rfl (by rfl) (by kernel_rfl) (by kernel_rfl) (by kernel_rfl) (by kernel_rfl) (by kernel_rfl) (by rfl) (fun _=>trivial) (by rfl) ⟨FL.out.below (below_drewN (Below.refl _ _) 1),aQ (below_drewN (Below.refl _ _) 1)⟩ ?_
    simp only [List.take_succ_cons,List.take_zero,List.drop_zero,List.drop_succ_cons,jW,List.map_cons,List.map_nil]
    apply aG.step
    case aF=>
     intro c A w' hok hC hO hD
     obtain ⟨x,y,rfl⟩:=hC.bits
     obtain ⟨rfl,-⟩:=hok
     obtain ⟨d0,d1,d2,d3,d4,d5⟩:=KD w' (hC.gr (fun _ h=>h.2) (fun _ h=>h.2))
     have e5:=hO 5 (by rfl)
     simp [Act.eval] at e5
     simp [aC,aB,au,Act.eval,Region.binds] at hD
     simp [go_sem,gd,Oper.wp,e5,d0,d1,d2,d3,d4,d5]
     exact aA.mk trivial (iq.skip (by rfl) (by rfl) hC) (aB.mk _ _)
    apply aG.step
    case aF=>
     intro c A w' hok hC hO hD
     have e6:=hO 6 (by rfl)
     simp [Act.eval] at e6
     simp [aC,aB,au,Act.eval,Region.binds] at hD
     simp [go_sem,gd,Oper.wp,hD,e6]
     exact aA.mk trivial (iq.skip (by rfl) (by rfl) hC) (aB.mk _ _)
    apply aG.step
    case aF=>
     intro c A w' hok hC hO hD
     simp [aC,aB,au,Act.eval,Region.binds] at hD
     simp [go_sem,gd,Oper.wp,hD]
     exact aA.mk trivial (iq.skip (by rfl) (by rfl) hC) (aB.mk _ _)
    apply aG.step
    case aF=>
     intro c A w' hok hC hO hD
     have e0:=hO 0 (by rfl)
     simp [Act.eval] at e0
     simp [aC,aB,au,Act.eval,Region.binds] at hD
     simp [go_sem,gd,Oper.wp,hD,e0]
     exact aA.mk trivial (iq.skip (by rfl) (by rfl) hC) (aB.mk _ _)
    apply aG.step
    case aF=>
     intro c A w' hok hC hO hD
     obtain ⟨x,y,rfl⟩:=hC.bits
     obtain ⟨rfl,rfl,-⟩:=hok
     simp [aC,aB,au,Act.eval,Region.binds] at hD
     simp [go_sem,gd,Oper.wp,hD]
     refine (bJ R _ _ ⟨#[59]⟩ rfl h4 hC.1).mono ?_
     rintro e w3 ⟨rfl,k2,k3⟩
     exact aA.mk trivial (iq.fire (by rfl) (by rfl) ⟨k2,cu hC.2 k3⟩) (aB.mk _ _)
    simp only [List.nil_append,List.cons_append]
    apply aG.step
    case aF=>
     intro c A w' hok hC hO hD
     simp [aC,aB,au,Act.eval,Region.binds] at hD
     simp [go_sem,gd,Oper.wp,hD]
     exact aA.mk trivial (iq.skip (by rfl) (by rfl) hC) (aB.mk _ _)
    refine aG.some (fun _ _=>True) (fun _ _ _ _ _=>trivial) ?_ ?_
    ·intro c A w' hok hC hO hD
     obtain ⟨x,y,rfl⟩:=hC.bits
     obtain ⟨rfl,rfl,-⟩:=hok
     have e2:=hO 2 (by rfl)
     simp [Act.eval] at e2
     simp [aC,aB,au,Act.eval,Region.binds] at hD
     simp only [gd,if_true]
     refine wp_store_mid _ _ _ (by rfl) w.heap.size 0 (ig dz).toArray (by simp [Act.eval,e2]) (by simp [Act.eval,hD,ig]) (mo (LK.out w' hC.2) (Nat.le_refl 6)) Dj (by simp [ig,Value.oneCell']) ?_
     exact aA.wV trivial (iq.last (by rfl) (by rfl) ⟨w',hC,rfl⟩) trivial
    apply aG.step
    case aF=>
     intro c A w' hok hC hO hD
     simp [aC,aB,au,Act.eval,Region.binds] at hD
     simp [go_sem,gd,Oper.wp,hD]
     exact aA.mk trivial (iq.skip (by rfl) (by rfl) hC) (aB.mk _ _)
    try simp only [List.nil_append,List.cons_append]
    refine aG.done ?_
    intro w9 sD
    try simp only [List.drop_succ_cons,List.drop_zero]
    intro x0 h0 x1 h1 x2 h2 x3 h3 x4 h4 x5 h5 x6 h6 x7 h7
    have uY:=Eq.symm (show x7=_ from h7)
    subst uY
    clear h0 h1 h2 h3 h4 h5 h6 h7
    refine kJ ?_
    refine fU rfl ?_
    obtain ⟨w2,hw2,wG⟩: ∃w2,(aS w2 R _∧W8.grownBy w2 (some R.br))∧w9=w2.setCells w.heap.size 0 (ig dz):=sD
    have fV:w9.heap[w.heap.size]? =some (.cells (ig dz).toArray 62 (0,0)):=by rw [wG]; exact gG (LK.out w2 hw2.2) rfl
    have zY:=Lib.hid wG
    have y0:w9.cell? ⟨w.heap.size,0,none⟩=some (.int .i64 dz.kind):=ak fV rfl
    have y1:w9.cell? ⟨w.heap.size,1,none⟩=some (.int .i64 dz.line):=ak fV rfl
    have y2:w9.cell? ⟨w.heap.size,2,none⟩=some (.string dz.nm):=ak fV rfl
    have y3:w9.cell? ⟨w.heap.size,3,none⟩=some (.int .i64 dz.size):=ak fV rfl
    have y4:w9.cell? ⟨w.heap.size,4,none⟩=some (.int .i64 dz.init):=ak fV rfl
    have y5:w9.cell? ⟨w.heap.size,5,none⟩=some (.string dz.on):=ak fV rfl
    have Cc:=Lib.hid (Wo (d:=dz) mY.out lV.out.ok hw2.1 (cu xM.out hw2.2) aX.out.1)
    rw [← wG] at Cc
    clear wG fV KD
    go_simp
    go_wp2_with fail
    exact bodyPost_ret (v:= .tuple #[xD dz,.bool true]) (by simp [results,Tryz.results67,go_sem,xD,y0,y1,y2,y3,y4,y5]) rfl Cc.out
end Go.Proofs.YtehnipchbmjlhaaGreatDoor
end
