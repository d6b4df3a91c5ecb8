/-
  Contract of the second parser's block; of all that read statements.
  Contract of the second parser's thread.
  Contract of the second parser's declaration.
-/
import Derived.Test.YtehnipchbmjlhaaGreatDoorGUF
import Derived.Test.YtehnipchbmjlhaaGreatDoorGRD
import Derived.Test.YtehnipchbmjlhaaGreatDoorGRE
import Derived.Test.YtehnipchbmjlhaaGreatDoorGUD
set_option linter.unusedSimpArgs false
set_option linter.unusedVariables false
set_option maxHeartbeats 40000000
set_option maxRecDepth 1000000
section
namespace Go.Proofs.YtehnipchbmjlhaaGreatDoor
open Go.RowKit
open Md Pz
def RBl (R:Rp) (w:World) (f:Nat) (res:aS × St) (g:Nat) (v:Value) (wr:World):Prop:=
 ∃f' l s,g=s.mu∧f'≤f∧(s.good=true→jK false s f')∧res=(app (je l) (gu R.ts f' false s).1,(gu R.ts f' false s).2)∧l.length + s.mu≤4098∧wR w.heap.size wr v l∧(∀x ∈ l,mO x.h x.b x.e)∧bn wr R s∧w.grownBy wr (some R.br)
theorem BK {w w':World} {R:Rp} {s:St} {g:Option Nat} (h:bn w R s) (hg:w.grownBy w' g) (h0: ∀k,g=some k→R.B0≤k∧k≠R.br):bn w' R s:=by
 obtain ⟨pos,bad,k1,k2,k3⟩:=h.blk
 exact ⟨⟨pos,bad,k1,k2,(hg.block _ h.lt (fun e=>(h0 _ e.symm).2 rfl)).trans k3⟩,h.tok.below (iW hg (fun k hk=>(h0 k hk).1) (Nat.le_trans R.b0 (Nat.le_of_lt h.lt))),h.ok,h.tl⟩
theorem VA {R:Rp} {w wr w2:World} {v:Value} {l:List dG} {s:St} (hl:l.length≤4098) (hg:wR w.heap.size w2 v l) (hok: ∀x ∈ l,mO x.h x.b x.e) (hr:bn w2 R s) (hf:w.grownBy w2 (some R.br)):
 sQ R w (je l,s) (.returned v) w2:=by
 obtain ⟨ao,cap,e,hst⟩:=hg.says hok
 exact ⟨⟨ao,cap,by rw [e],by rw [qA]; omega,hst⟩,hr,hf⟩
theorem Ob (s:St):s.mu≤s.len + 1:=by unfold St.mu; split <;> omega
theorem X5 {ts:ak} {f:Nat} {s:St} {l:List dG} {res:aS × St} (hen:s.good=true→jK false s f) (h:(s.good && !at' [125] s.toks)=false) (hr:res=(app (je l) (gu ts f false s).1,(gu ts f false s).2)):res=(je l,aR ts [125] s):=by
 cases s with
 | bad n=>rw [hr,X7 f 0 n,iB]; simp only [C9]
 | go r=>
   obtain ⟨f',rfl⟩: ∃n,f=n + 1:=⟨f - 1,by have:=hen rfl; unfold jK at this; omega⟩
   rw [hr,Pz.Ej ts f' (.go r) h]; simp only [C9]
theorem KQ (R:Rp) (f:Nat) (DL:Hid (∀k q,k + 1 < f→jK true q (k + 1)→ ∀w,bn w R q→Calls Tryz.prog 118 #[.pointer (some ⟨R.br,0,none⟩)] w (CX R w (BA R.ts k q)))):EG R f:=by
 intro s w hen hI
 have HI:=Lib.hid hI
 have Dk:=Lib.hid hI.lt
 have iY:=Lib.hid (show (aR R.ts [123] s).mu≤4098 by
  have h1:=Ob (aR R.ts [123] s)
  have h2:=gT (ts:=R.ts) [123] s
  have h3:s.len≤4096:=hI.len
  omega)
 obtain ⟨res,fG⟩: ∃res,Hid (mh R.ts f s=res):=⟨_,Lib.hid rfl⟩
 rw [fG.out]
 have HF:=Lib.hid hen
 obtain ⟨i0,hi,hz0,hz1,hz2⟩:=OV
 have jV:=Lib.hid (And.intro hi (And.intro hz0 (And.intro hz1 hz2)))
 clear hi hz0 hz1 hz2 hI hen
 go_enter Tryz.func87,Tryz.ntmps87
 go_wp2_with fail
 refine (fC R s _ ⟨#[123]⟩ rfl HI.out).mono ?_
 rintro e w1 ⟨rfl,h2,h3⟩
 have lU:Hid (RBl R w f res (aR R.ts [123] s).mu (.slice none 0 0) w1):=Lib.hid ⟨f,[],aR R.ts [123] s,rfl,Nat.le_refl _,fun _=>HF.out,fG.out.symm,by have:=iY.out; simpa using this,Grow.nil _ _ _ _ _ _,by simp,h2,h3⟩
 clear h2 h3 HI fG HF iY
 go_wp2_with fail
 go_loopg [3] (aR R.ts [123] s).mu (fun gk v3 wr=>RBl R w f res gk v3 wr)
 case atStart=>exact lU.out
 case round=>
  obtain ⟨f',l,s',rfl,hf',hen,hres,hl,hg,hok,hr,hgr⟩:=hrel
  have HF:=Lib.hid (And.intro hf' hen)
  have HL:=Lib.hid hl
  have HG:=Lib.hid hg
  have gq:=Lib.hid hok
  have HR:=Lib.hid hr
  have tO:=Lib.hid hgr
  have HS:=Lib.hid hres
  clear hf' hen hres hl hg hok hr hgr lU
  cases hc:(s'.good && !at' [125] s'.toks)
  ·have HE:=Lib.hid (X5 HF.out.2 hc HS.out)
   have qL:Hid (∀w2 w3,Below wr.heap.size wr w2→bn w3 R (aR R.ts [125] s')→w2.grownBy w3 (some R.br)→sQ R w res (.returned u3) w3):=Lib.hid (fun w2 w3 h1 h2 h3=>by
    rw [HE.out]
    exact VA (wr:=wr) (by have:=HL.out; omega) ((HG.out.next (aL h1)).next (fU h3 Dk.out)) gq.out h2 (bD (bD tO.out (aH h1)) h3))
   obtain ⟨pos,bad,⟨hp,hp2,hl,hlt,hbr⟩,gU,⟨bL,bK⟩,c0,c1,c2,f1,f2⟩:=HR.out.open
   cases s' with
   | bad n=>
     obtain ⟨rfl,hn1,hn2⟩:=gU.out
     have hq:(bad == 0)=false:=by rw [beq_eq_false_iff_ne]; omega
     clear gU HS HF
     go_wp2_with fail
     refine (fC R _ _ ⟨#[125]⟩ rfl HR.out).mono ?_
     rintro e w3 ⟨rfl,h2,h3⟩
     go_wp2_with fail
     go_ret
     exact qL.out _ _ (Below.refl _ _) h2 h3
   | go r=>
     obtain ⟨rfl,hd⟩:=gU.out
     have h4:at' [125] (St.go r).toks=true:=by simpa [St.good] using hc
     clear gU HS HF hd hc
     go_wp2_with fail
     refine (lC R _ _ ⟨#[125]⟩ rfl h4 HR.out).mono ?_
     rintro e w2 ⟨rfl,hb⟩
     have HB:=Lib.hid hb
     have HR2:=Lib.hid (HR.out.below hb)
     clear hb c0 c1 c2 f1 f2
     go_wp2_with fail
     refine (fC R _ _ ⟨#[125]⟩ rfl HR2.out).mono ?_
     rintro e w3 ⟨rfl,h2,h3⟩
     go_wp2_with fail
     go_ret
     exact qL.out _ _ HB.out h2 h3
  ·cases s' with
   | bad n=>cases hc
   | go r=>
     have h4:at' [125] (St.go r).toks=false:=by simpa [St.good] using hc
     have hen:=HF.out.2 rfl
     obtain ⟨k,rfl⟩: ∃n,f'=n + 2:=⟨f' - 2,by unfold jK at hen; simp at hen; omega⟩
     have HC:=Lib.hid (DL.out k (.go r) (by have:=HF.out.1; omega) (by unfold jK at *; simp at *; omega))
     have HS2:Hid (res=(app (je l) (app (rW (BA R.ts k (.go r)).1) (gu R.ts (k + 1) false (BA R.ts k (.go r)).2).1),(gu R.ts (k + 1) false (BA R.ts k (.go r)).2).2)):=Lib.hid (by rw [HS.out,aa9 _ _ _ hc,TJ]; rfl)
     have E8:Hid ((BA R.ts k (.go r)).2.mu < (St.go r).mu):=Lib.hid (by
      have:=ZY (ts:=R.ts) k (s:= .go r) rfl
      rw [TJ] at this; exact this)
     obtain ⟨pos,bad,⟨hp,hp2,hl,hlt,hbr⟩,gU,⟨bL,bK⟩,c0,c1,c2,f1,f2⟩:=HR.out.open
     obtain ⟨rfl,hd⟩:=gU.out
     clear HS hc hen gU hd
     generalize BA R.ts k (.go r)=q at *
     obtain ⟨⟨xh,xb,xe⟩,s2⟩:=q
     go_wp2_with fail
     refine (lC R _ _ ⟨#[125]⟩ rfl h4 HR.out).mono ?_
     rintro e w2 ⟨rfl,h2⟩
     have HG2:=Lib.hid (HG.out.next (aL h2))
     have HR2:=Lib.hid (HR.out.below h2)
     have yj:=Lib.hid (bD tO.out (aH h2))
     clear h2 HG HR tO c0 c1 c2 f1 f2
     go_wp2_with fail
     refine (HC.out _ HR2.out).mono ?_
     clear HC
     rintro e w3 ⟨⟨sl,rfl,hok,hst⟩,h2,h3⟩
     obtain ⟨x,hx⟩: ∃x:dG,x=⟨xh,xb,xe,sl⟩:=⟨_,rfl⟩
     have e1:xh=x.h:=by rw [hx]
     have e2:xb=x.b:=by rw [hx]
     have e3:xe=x.e:=by rw [hx]
     have e4:sl=x.s:=by rw [hx]
     dsimp only at hok hst h2 ⊢
     rw [← hx] at hst
     subst e1 e2 e3 e4
     clear hx
     have rT:=Lib.hid (HG2.out.next (fU h3 Dk.out))
     have HR3:=Lib.hid h2
     have yC:=Lib.hid (bD yj.out h3)
     have IG:=Lib.hid hst
     have Zd:=Lib.hid hok
     have iD:Hid (w2.heap.size≤w3.heap.size∧w.heap.size≤w2.heap.size):=Lib.hid ⟨h3.size,yj.out.size⟩
     have jO:=Lib.hid HG2.out.lt
     clear h2 h3 hst hok HG2 HR2 yj
     unfold bP
     have nC:=Lib.hid (rT.out.next (aL (ah w3 (.cells (dG.f x).toArray 89))))
     have qC:=Lib.hid (mJ (heap_alloc_new w3 (.cells (dG.f x).toArray 89)))
     have LG:Hid (w.heap.size≤w3.heap.size):=Lib.hid yC.out.size
     obtain ⟨hi,hz0,hz1,hz2⟩:=jV.out
     have hbs:w.heap.size≤w3.heap.size + 1:=Nat.le_succ_of_le LG.out
     have hmu:l.length + 1≤4098:=by have h1:=HL.out; have h2:=E8.out; omega
     have hkl:l.length + 1≤maxLen:=by unfold maxLen; omega
     have wM:(l.length + 1) * 176≤140737488355328:=by omega
     go_wp2_with (at_builtin; refine wpList_append_lies _ rfl _ _ 65 rfl w.heap.size 89 i0 _ 11 176 Tryz.underlying65 hi hz0 hz1 hz2 rfl (by decide) _ _ _ rfl nC.out.own ⟨w3.heap.size,0,none⟩ 1 1 (dG.f x) rfl rfl qC.out (JC _) (by decide) hkl wM (by simpa using hbs) _ rfl ?_)
     clear hi hz0 hz1 hz2
     intro g cap w5 hown hgr hmv hlt2
     have Ey:Hid (dS w.heap.size u3.ownBlock (w3.alloc (.cells (dG.f x).toArray 89)) (dG.I x)):=Lib.hid (oM (IG.out.next (aL (ah _ _))) iD.out.2 (fun k hk=>(jO.out k hk).2))
     have yL:=Lib.hid (nC.out.push Ey.out rfl hown hgr (by simpa using hmv))
     have iR:Hid (Below w.heap.size (w3.alloc (.cells (dG.f x).toArray 89)) w5):=Lib.hid (iW hgr (fun k hk=>(jO.out k hk).1) (by simpa using hbs))
     have WW:Hid (bn w5 R s2):=Lib.hid (BK (qm HR3.out _) hgr (fun k hk=>by have h1:=(jO.out k hk).1; have h2:=Dk.out; have h3:=R.b0; omega))
     have AZ:Hid (w.grownBy w5 (some R.br)):=Lib.hid (vM (dP yC.out _) iR.out)
     have TB:Hid (∀y ∈ l++[x],mO y.h y.b y.e):=Lib.hid (fun y hy=>by
      rcases List.mem_append.1 hy with hy | hy
      ·exact gq.out y hy
      ·rw [List.mem_singleton.1 hy]; exact Zd.out)
     have pU:Hid (res=(app (je (l++[x])) (gu R.ts (k + 1) false s2).1,(gu R.ts (k + 1) false s2).2)):=Lib.hid (HS2.out.trans (by rw [← Dl x _ l]; rfl))
     have HEN:Hid (s2.good=true→jK false s2 (k + 1)):=Lib.hid (fun hg=>by
      have h1:=E8.out
      have h2:=HF.out.2 rfl
      unfold St.mu at h1
      try dsimp only at h1
      rw [if_pos hg,if_pos (show (St.go r).good=true from rfl)] at h1
      unfold jK at *
      simp at *; omega)
     clear hown hgr hmv hlt2 hbs hkl wM Ey IG qC nC iR HS2
     go_wp2_with fail
     go_roundg s2.mu
     case measure=>exact E8.out
     case rel=>exact ⟨k + 1,l++[x],s2,rfl,by have:=HF.out.1; omega,HEN.out,pU.out,by have h1:=HL.out; have h2:s2.mu < (St.go r).mu:=E8.out; simp only [List.length_append,List.length_singleton]; omega,yL.out,TB.out,WW.out,AZ.out⟩
theorem MG (R:Rp): ∀f:Nat,EG R f∧(∀q,jK true q (f + 1)→ ∀w,bn w R q→Calls Tryz.prog 118 #[.pointer (some ⟨R.br,0,none⟩)] w (CX R w (BA R.ts f q))):=by
 intro f
 induction f using Nat.strongRecOn with
 | ind f ih=>
   have hb:EG R f:=KQ R f (Lib.hid fun k q h1 h2=>(ih k (by omega)).2 q h2)
   exact ⟨hb,fun q hq w hI=>Ea R f hb q w hq hI⟩
theorem Nz (R:Rp) (s:St) (w:World) (hI:bn w R s):
 Calls Tryz.prog 87 #[.pointer (some ⟨R.br,0,none⟩)] w (sQ R w (yA R.ts (3 * s.toks.length + 3) s)):=(MG R _).1 s w (Ou s) hI
end Go.Proofs.YtehnipchbmjlhaaGreatDoor
end
section
namespace Go.Proofs.YtehnipchbmjlhaaGreatDoor
open Go.RowKit
open Md Pz
structure Pt (R:Rp) (w:World) (bz bt:Nat) (W:World) (nm:ByteArray) (ln:Int) (v:Value) (l:List ByteArray) (s:St):Prop where
 rd:bn W R s
 gr:w.grownBy W (some R.br)
 lt:R.br < w.heap.size∧w.heap.size≤bz∧bz < bt∧bt + 1≤W.heap.size
 z:W.heap[bz]? =some (.cells AY 67 (0,0))
 blk:W.heap[bt]? =some (.cells #[.string nm,.int .i64 ln,v,.slice none 0 0] 67 (0,0))
 row:qc (bt + 1) W v l
section
variable {R:Rp} {bz bt:Nat} {w W W':World} {nm:ByteArray} {ln:Int} {v:Value} {l:List ByteArray} {s s':St}
theorem Pt.then (h:Pt R w bz bt W nm ln v l s) (h1:bn W' R s') (h2:W.grownBy W' (some R.br)):Pt R w bz bt W' nm ln v l s':=
 ⟨h1,bD h.gr h2,⟨h.lt.1,h.lt.2.1,h.lt.2.2.1,Nat.le_trans h.lt.2.2.2 h2.size⟩,(h2.block _ (Array.getElem?_eq_some_iff.1 h.z).1 (by have:=h.lt; simp; omega)).trans h.z,(h2.block _ (Array.getElem?_eq_some_iff.1 h.blk).1 (by have:=h.lt; simp; omega)).trans h.blk,h.row.next (fU h2 (by have:=h.lt; omega))⟩
theorem Pt.below (h:Pt R w bz bt W nm ln v l s) (hb:Below W.heap.size W W'):Pt R w bz bt W' nm ln v l s:=h.then (h.rd.below hb) (aH hb)
theorem Pt.aD (h:Pt R w bz bt W nm ln v l s) {pos:Nat} (hp:W.cell? ⟨R.br,1,none⟩=some (.int .i64 (pos:Int))) (hne:s.toks≠[]):Pt R w bz bt (W.setCell ⟨R.br,1,none⟩ (.int .i64 ((pos:Int) + 1))) nm ln v l s.aD:=
 h.then (h.rd.aD hp hne) (cu _ _ _)
theorem Pt.cells (h:Pt R w bz bt W nm ln v l s):W.cell? ⟨bt,0,none⟩=some (.string nm)∧W.cell? ⟨bt,1,none⟩=some (.int .i64 ln)∧W.cell? ⟨bt,2,none⟩=some v∧W.cell? ⟨bt,3,none⟩=some (.slice none 0 0)∧ ∀j,W.frozen? ⟨bt,j,none⟩=false:=
 ⟨aj h.blk rfl,aj h.blk rfl,aj h.blk rfl,aj h.blk rfl,fun _=>aF h.blk⟩
theorem Pt.name (h:Pt R w bz bt W nm ln v l s) (t:ByteArray):Pt R w bz bt (W.setCell ⟨bt,0,none⟩ (.string t)) t ln v l s:=
 ⟨nV h.rd _ _ (by have:=h.lt; have:=R.b0; show R.B0≤bt; omega) (by have:=h.lt; show bt≠R.br; omega),jC h.gr _ _ (by have:=h.lt; show _≤bt; omega),by have:=h.lt; simpa [World.setCell] using this,(aN W _ _ rfl (by have:=h.lt; show bt≠_; omega)).trans h.z,by rw [aW h.blk]; rfl,h.row.next (bH W ⟨bt,0,none⟩ _ (Nat.lt_succ_self _))⟩
theorem Pt.qK (h:Pt R w bz bt W nm ln v l s) (b:Value): ∀W',W.setCell ⟨bt,3,none⟩ b=W'→bn W' R s∧w.grownBy W' (some R.br)∧W'.heap[bz]? =some (.cells AY 67 (0,0))∧W'.heap[bt]? =some (.cells #[.string nm,.int .i64 ln,v,b] 67 (0,0)):=by
 intro W' hW
 subst hW
 exact ⟨nV h.rd _ _ (by have:=h.lt; have:=R.b0; show R.B0≤bt; omega) (by have:=h.lt; show bt≠R.br; omega),jC h.gr _ _ (by have:=h.lt; show _≤bt; omega),(aN W _ _ rfl (by have:=h.lt; show bt≠_; omega)).trans h.z,by rw [aW h.blk]; rfl⟩
theorem Pt.bZ {v':Value} {l':List ByteArray} (h:Pt R w bz bt W nm ln v l s) (hr:bn W' R s') (hg:w.grownBy W' (some R.br)) (hz:W'.heap[bz]? =W.heap[bz]?) (hb:W'.heap[bt]? =W.heap[bt]?) (hs:W.heap.size≤W'.heap.size) (hrow:qc (bt + 1) W' v' l'):Pt R w bz bt (W'.setCell ⟨bt,2,none⟩ v') nm ln v' l' s':=
 ⟨nV hr _ _ (by have:=h.lt; have:=R.b0; show R.B0≤bt; omega) (by have:=h.lt; show bt≠R.br; omega),jC hg _ _ (by have:=h.lt; show _≤bt; omega),by have h1:=h.lt; simp [World.setCell]; omega,(aN W' _ _ rfl (by have:=h.lt; show bt≠_; omega)).trans (hz.trans h.z),by rw [aW (hb.trans h.blk)]; rfl,hrow.next (bH W' ⟨bt,2,none⟩ _ (Nat.lt_succ_self _))⟩
end
def XP (R:Rp) (w:World) (q:Th × St) (e:Ending) (w':World):Prop:=
 (∃x:eU,x.t=q.1∧e= .returned (.agg (eU.f x).toArray)∧(x.t.Ok∧x.t.bZ.length≤x.dn)∧bJ w.heap.size w' (eU.I x))∧bn w' R q.2∧w.grownBy w' (some R.br)
theorem UZ {R:Rp} {w W W8:World} {bz bt B:Nat} {x:eU} {s:St} (hok:x.t.Ok∧x.t.bZ.length≤x.dn) (hst:bJ B W (eU.I x)) (hl:R.br < w.heap.size∧w.heap.size≤bz∧bz < bt∧B≤W8.heap.size) (hz:w.heap.size=bz) (hr:bn W R s) (hg:w.grownBy W (some R.br)) (hB:B=bt + 1:=by rfl):
 XP R w (x.t,s) (.returned (.agg (eU.f x).toArray)) (W.setCells bz 0 (eU.f x)):=by
 subst hz hB
 have hs:=aP w.heap.size (eU.f x) 0 W
 have hb:=R.b0
 exact ⟨⟨x,rfl,rfl,hok,(hst.next ⟨hs.size,fun k h1 h2=>hs.block k h2 (by simp; omega)⟩).mono (by omega)⟩,uV hr hs (by omega) (by omega),vR hg hs (Nat.le_refl _)⟩
def ap5 (R:Rp) (w:World) (bz bt:Nat) (nm:ByteArray) (ln:Int) (q:List ByteArray × St) (W:World):Prop:=
 ∃v,Pt R w bz bt W nm ln v q.1 q.2∧q.1.length≤5000∧ ∀t ∈ q.1,t.size≤maxLen
def TQ (R:Rp) (w:World) (bz bt:Nat) (nm:ByteArray) (ln:Int) (q:List ByteArray × St) (g:Nat) (wr:World):Prop:=
 ∃l s f v,g=s.len∧s.len≤f∧lG R.ts f l s=q∧Pt R w bz bt wr nm ln v l s∧l.length + s.len≤4098∧ ∀t ∈ l,t.size≤maxLen
theorem Qy {ts:ak} {f:Nat} {l:List ByteArray} {s:St} (h:at' [44] s.toks=false):lG ts f l s=(l,s):=by
 cases f with
 | zero=>rfl
 | succ f=>unfold lG; rw [if_neg (by rw [h]; decide)]
theorem NS {ts:ak} {f:Nat} {l:List ByteArray} {s:St} (h:at' [44] s.toks=true):lG ts (f + 1) l s=lG ts f (l++[(aJ ts s.aD).1]) (aJ ts s.aD).2:=by
 conv=>lhs; unfold lG
 rw [if_pos h]
theorem M8 {l:List ByteArray} {x:ByteArray} (h1: ∀t ∈ l,t.size≤maxLen) (h2:x.size≤maxLen): ∀t ∈ l++[x],t.size≤maxLen:=fun y hy=>by
 rcases List.mem_append.1 hy with hy | hy
 ·exact h1 y hy
 ·rw [List.mem_singleton.1 hy]; exact h2
theorem St.Zu {s:St} (h:kW s.toks):kW s.aD.toks:=fun t ht=>h t (by
 cases s with
 | go r=>exact List.mem_of_mem_tail ht
 | bad n=>exact ht)
theorem KT (R:Rp) (s:St) (w:World) (hI:bn w R s):
 Calls Tryz.prog 47 #[.pointer (some ⟨R.br,0,none⟩)] w (XP R w (pO R.ts s)):=by
 have HI:=Lib.hid hI
 obtain ⟨ln,hln⟩: ∃ln:Int,((aK s.toks:Nat):Int)=ln:=⟨_,rfl⟩
 have HL:Hid (aM ln):=Lib.hid (by rw [← hln]; exact Oq hI)
 have iY:Hid (∀w,bn w R s→Calls Tryz.prog 82 #[.pointer (some ⟨R.br,0,none⟩)] w fun e w'=>e= .returned (.int .i64 ln)∧Below w.heap.size w w'):=Lib.hid (fun w h=>by rw [← hln]; exact AL R s w h)
 clear hI
 unfold pO
 rw [hln]
 clear hln
 dsimp only
 obtain ⟨q,hq⟩: ∃q,aJ R.ts (aR R.ts [116,104,114,101,97,100] s)=q:=⟨_,rfl⟩
 have gI:Hid (∀w,bn w R (aR R.ts [116,104,114,101,97,100] s)→Calls Tryz.prog 83 #[.pointer (some ⟨R.br,0,none⟩)] w (fun e w'=>qP R w q e w'∧q.1.size≤maxLen)):=Lib.hid (fun w h=>by
  rw [← hq]; exact (gQ R _ w h).mono (fun e w' h'=>⟨h',fZ h.ts⟩))
 rw [hq]
 clear hq
 obtain ⟨nm,s1⟩:=q
 dsimp only at gI ⊢
 obtain ⟨qp,OA⟩: ∃qp,Hid (lQ R.ts (aR R.ts [40] s1)=qp):=⟨_,Lib.hid rfl⟩
 rw [OA.out]
 go_enter Tryz.func47,Tryz.ntmps47
 go_upto_region 1 with fail
 generalize hW:World.alloc w _=W0
 have HB0:Hid (Below w.heap.size w W0):=Lib.hid (by rw [← hW]; exact ah _ _)
 have HZ0:Hid (W0.heap[w.heap.size]? =some (.cells AY 67 (0,0))):=Lib.hid (by rw [← hW]; exact heap_alloc_new _ _)
 clear hW
 go_wp2_with fail
 refine (iY.out _ (HI.out.below HB0.out)).mono ?_
 rintro e w2 ⟨rfl,hb⟩
 have HB2:=Lib.hid (HB0.out.trans (hb.mono HB0.out.size))
 have HZ2:=Lib.hid ((hb.block _ (Array.getElem?_eq_some_iff.1 HZ0.out).1).trans HZ0.out)
 clear hb HB0 HZ0
 go_upto_region 2 with fail
 obtain ⟨bt,hg⟩: ∃bt,w2.heap.size=bt:=⟨_,rfl⟩
 generalize hW:World.alloc w2 _=W3
 have HP:Hid (Pt R w w.heap.size bt W3 ⟨#[]⟩ ln (.slice none 0 0) [] s):=Lib.hid (by
  have hl:=HI.out.lt
  have hzl:=(Array.getElem?_eq_some_iff.1 HZ2.out).1
  rw [← hW,← hg]
  exact ⟨(HI.out.below HB2.out).below (ah _ _),dP (aH HB2.out) _,⟨hl,Nat.le_refl _,hzl,by simp⟩,(heap_alloc_old _ _ hzl).trans HZ2.out,heap_alloc_new _ _,Grow.nil _ _ _ _ _ _⟩)
 rw [hg]
 obtain ⟨bz,hbz⟩: ∃bz,w.heap.size=bz:=⟨_,rfl⟩
 have wu:=Lib.hid hbz
 rw [hbz] at HP
 rw [hbz]
 clear hW hg HB2 HZ2 hbz
 go_wp2_with fail
 refine (fC R _ _ ⟨#[116,104,114,101,97,100]⟩ rfl HP.out.rd).mono ?_
 rintro e w9 ⟨rfl,h2,h3⟩
 have HQ:=Lib.hid (HP.out.then h2 h3)
 clear h2 h3 HP
 have HP:=HQ
 clear HQ
 go_wp2_with fail
 refine (gI.out _ HP.out.rd).mono ?_
 rintro e w4 ⟨⟨rfl,h2,h3⟩,hsz⟩
 have eH:=Lib.hid hsz
 have HQ:=Lib.hid (HP.out.then h2 h3)
 obtain ⟨c0,c1,c2,c3,fc⟩:=HQ.out.cells
 have f0:=fc 0
 clear h2 h3 hsz HP c1 c2 c3 fc gI
 go_upto_region 4 with fail
 generalize hW:World.setCell w4 _ _=W4
 have HP:Hid (Pt R w bz bt W4 nm ln (.slice none 0 0) [] s1):=Lib.hid (by rw [← hW]; exact HQ.out.name _)
 clear hW c0 f0 HQ
 go_wp2_with fail
 refine (fC R _ _ ⟨#[40]⟩ rfl HP.out.rd).mono ?_
 rintro e w9 ⟨rfl,h2,h3⟩
 have HQ:=Lib.hid (HP.out.then h2 h3)
 clear h2 h3 HP
 have HP:=HQ
 clear HQ
 generalize aR R.ts [40] s1=s2 at *
 go_wp2_with fail
 refine (nS R s2 _ ⟨#[41]⟩ (l:=[41]) rfl HP.out.rd).mono ?_
 rintro e W ⟨rfl,hb⟩
 have jy:=Lib.hid (HP.out.below hb)
 clear hb HP
 have HP:=jy
 clear jy
 go_upto_if 16 with fail
 go_cut [] (fun W'=>ap5 R w bz bt nm ln qp W')
 case first=>
  cases h4:at' [41] s2.toks
  ·obtain ⟨q5,EM⟩: ∃q5,aJ R.ts s2=q5:=⟨_,rfl⟩
   have gI:Hid (∀w,bn w R s2→Calls Tryz.prog 83 #[.pointer (some ⟨R.br,0,none⟩)] w (qP R w q5)):=Lib.hid (fun w h=>by rw [← EM]; exact gQ R _ w h)
   have Xq:Hid (q5.1.size≤maxLen):=Lib.hid (by rw [← EM]; exact fZ HP.out.rd.ts)
   have HQ5:Hid (lG R.ts q5.2.toks.length [q5.1] q5.2=qp):=Lib.hid (by rw [← OA.out,← EM]; unfold lQ; rw [if_neg (by rw [h4]; decide)])
   have Xn:Hid (q5.2.len≤4096):=Lib.hid (by rw [← EM]; exact Nat.le_trans (fJ _) HP.out.rd.len)
   clear EM OA
   obtain ⟨x5,s5⟩:=q5
   go_wp2_with fail
   obtain ⟨v,cZ⟩: ∃v,Hid (Pt R w bz bt W nm ln v [] s2):=⟨_,HP⟩
   obtain ⟨l,Qc,aU⟩: ∃l,Hid (l=[])∧Hid (Pt R w bz bt W nm ln v l s2):=⟨[],Lib.hid rfl,cZ⟩
   have lS:Hid (l.length≤5000):=Lib.hid (by rw [Qc.out]; exact Nat.zero_le _)
   clear HP cZ
   have HP:=aU
   clear aU
   have qR:Hid (s5.len≤4096):=Lib.hid (Xn.out)
   obtain ⟨av,cv,hv⟩:=HP.out.row.len
   subst hv
   have hll:l.length≤5000:=lS.out
   have bq:=Lib.hid (And.intro HP.out.lt (show R.br < bt + 1 by have:=HP.out.lt; omega))
   have tO:=Lib.hid HP.out.row
   have KD: ∀w',W.grownBy w' (some R.br)→w'.heap[bt]? =some (.cells #[.string nm,.int .i64 ln,.slice av l.length cv,.slice none 0 0] 67 (0,0)):=fun w' h=>(h.block _ (Array.getElem?_eq_some_iff.1 HP.out.blk).1 (by have:=bq.out; simp; omega)).trans HP.out.blk
   have KZ: ∀w',W.grownBy w' (some R.br)→w'.heap[bz]? =some (.cells AY 67 (0,0)):=fun w' h=>(h.block _ (Array.getElem?_eq_some_iff.1 HP.out.z).1 (by have:=bq.out; simp; omega)).trans HP.out.z
   have uH:=HP.out.rd
   obtain ⟨i0,hi0,hz0,hz1,hz2⟩:=IB
   refine dY (by kernel_rfl) rfl ?_
   refine dN 0 5 [3] [[],[0],[],[2],[2,3],[0,1,2,3,4],[0,1,2,3,4,5],[0,1,2,3,4,5,6]] [[none],[none],[some false],[some false],[some true]] (iC (KW R W s2) (KW R W s5)) (fun u u'=>dO (bt + 1) u u') [17,18,19,20,21] rfl rfl (by rfl) (by kernel_rfl) (by kernel_rfl) (by kernel_rfl) (by kernel_rfl) (by kernel_rfl) (by rfl) (fun _=>dO.refl _ _) (by rfl) ⟨uH.below (below_drewN (Below.refl _ _) 1),aH (below_drewN (Below.refl _ _) 1)⟩ ?_
   simp only [List.take_succ_cons,List.take_zero,List.drop_zero,List.drop_succ_cons,jR,List.map_cons,List.map_nil]
   apply aI.step
   case aG=>
    intro c A w' hok hC hO hD
    have e3:=hO 3 (by rfl)
    simp [Act.eval] at e3
    simp [aC,aB,au,Act.eval,Region.binds] at hD
    simp [go_sem,gd,Oper.wp,hD,e3]
    exact aA.mk (dO.refl _ _) (iC.skip (by rfl) hC) (aB.mk _ _)
   apply aI.step
   case aG=>
    intro c A w' hok' hC hO hD
    obtain ⟨x',rfl⟩:=hC.bits
    have hb:=KD w' (by cases x'; exact (show KW R W _ w' from hC).2; exact (show KW R W _ w' from hC).2)
    have z2:w'.cell? ⟨bt,2,none⟩=some (.slice av l.length cv):=aj hb rfl
    simp [aC,aB,au,Act.eval,Region.binds] at hD
    simp [go_sem,gd,Oper.wp,hD,z2]
    exact aA.mk (dO.refl _ _) (iC.skip (by rfl) hC) (aB.mk _ _)
   apply aI.step
   case aG=>
    intro c A w' hok hC hO hD
    have e0:=hO 0 (by rfl)
    simp [Act.eval] at e0
    simp [aC,aB,au,Act.eval,Region.binds] at hD
    simp [go_sem,gd,Oper.wp,hD,e0]
    exact aA.mk (dO.refl _ _) (iC.skip (by rfl) hC) (aB.mk _ _)
   simp only [List.nil_append,List.cons_append]
   apply aI.step
   case aG=>
    intro c A w' hok' hC hO hD
    obtain ⟨x',rfl⟩:=hC.bits
    obtain ⟨rfl,-⟩:=hok'
    have hC:KW R W s2 w':=hC
    simp [aC,aB,au,Act.eval,Region.binds] at hD
    simp [go_sem,gd,Oper.wp,hD]
    refine (gI.out w' hC.1).mono ?_
    rintro e w6 ⟨rfl,h2,h3⟩
    exact aA.mk (fU h3 bq.out.2) (iC.fire (by rfl) ⟨h2,bD hC.2 h3⟩) (aB.mk _ _)
   refine aI.some (fun v w'=> ∃gg,v= .slice (some ⟨gg,0,none⟩) 1 1∧bt + 1≤gg∧w'.heap[gg]? =some (.cells #[.string x5] 9 (0,0))) (fun v w1 w' hle h=>by obtain ⟨a,h1,h2,h3⟩:=h; exact ⟨a,h1,h2,(hle.2 a h2 (Array.getElem?_eq_some_iff.1 h3).1).trans h3⟩) ?_ ?_
   ·intro c A w' hok' hC hO hD
    obtain ⟨x',rfl⟩:=hC.bits
    obtain ⟨rfl,-⟩:=hok'
    have hC:KW R W s5 w':=hC
    simp [aC,aB,au,Act.eval,Region.binds] at hD
    simp [go_sem,gd,Oper.wp,hD]
    exact aA.mk (d:=_) (v:= .slice (some ⟨_,0,none⟩) 1 1) (aL (ah _ _)) (iC.skip (by rfl) (show KW R W s5 _ from ⟨hC.1.below (ah _ _),bD hC.2 (aH (ah _ _))⟩)) ⟨_,rfl,by have:=bq.out; have:=hC.2.size; omega,heap_alloc_new _ _⟩
   try simp only [List.nil_append,List.cons_append]
   refine aI.done ?_
   intro wz eY
   try simp only [List.drop_succ_cons,List.drop_zero]
   intro x0 h0 x1 h1 x2 h2 x3 h3 x4 h4
   have h1':=Eq.symm (show x1=_ from h1)
   subst h1'
   obtain ⟨gg,rfl,hgg,hgb⟩:=h4
   clear h0 h1 h2 h3
   refine jm ?_
   go_simp
   have jT:Hid (KW R W s5 wz):=Lib.hid eY
   have rU:Hid (qc (bt + 1) wz (.slice av l.length cv) l):=Lib.hid (tO.out.next (fU jT.out.2 bq.out.2))
   have hszz:bt + 1≤wz.heap.size:=by have:=bq.out; have:=jT.out.2.size; omega
   refine eu 5 [[],[0],[],[2],[2,3],[0,1,2,3,4],[0,1,2,3,4,5],[0,1,2,3,4,5,6]] rfl rfl rfl rfl rfl (by kernel_rfl) (by kernel_rfl) (by kernel_rfl) ?_
   refine wp_append_lies wz _ _ _ (by rfl) (bt + 1) 9 i0 _ 1 16 Tryz.underlying64 hi0 hz0 hz1 hz2 (by rfl) (by decide) (.slice av l.length cv) l.length (l.flatMap oG) (by rfl) rU.out.own ⟨gg,0,none⟩ 1 1 (oG x5) (by rfl) (by rfl) (World.news_of_block hgb) (by simp [oG,Value.oneCell']) (by decide) (by unfold maxLen; omega) (by omega) hszz wz.heap.size rfl ?_
   intro g4 cap4 w4 hown hgr hmv sS
   have wZ:Hid (dS (bt + 1) (Value.slice av l.length cv).ownBlock wz (fun _=>True)):=Lib.hid (fun _ _=>trivial)
   have wJ:=Lib.hid (rU.out.push (x:=x5) wZ.out rfl hown hgr (by simpa using hmv))
   have jO:Hid (∀k,(Value.slice av l.length cv).ownBlock=some k→bt + 1≤k):=Lib.hid (fun k hk=>(rU.out.lt k hk).1)
   have dh:Hid (Below (bt + 1) wz w4):=Lib.hid (iW hgr jO.out hszz)
   have HR4:Hid (bn w4 R s5):=Lib.hid (BK jT.out.1 hgr (fun k hk=>by have h1:=jO.out k hk; have h2:=bq.out; have h3:=R.b0; omega))
   have Aw:Hid (w.grownBy w4 (some R.br)):=Lib.hid (vM (bD HP.out.gr jT.out.2) (dh.out.mono (by have:=bq.out; omega)))
   have nN:Hid (w4.heap[bt]? =W.heap[bt]?):=Lib.hid ((dh.out.block _ (Nat.lt_succ_self _)).trans (jT.out.2.block _ (by have:=bq.out; omega) (by have:=bq.out; simp; omega)))
   have vw:Hid (w4.heap[bz]? =W.heap[bz]?):=Lib.hid ((dh.out.block _ (by have:=bq.out; omega)).trans (jT.out.2.block _ (by have:=bq.out; omega) (by have:=bq.out; simp; omega)))
   have wH:Hid (W.heap.size≤w4.heap.size):=Lib.hid (Nat.le_trans jT.out.2.size dh.out.size)
   have c2:w4.cell? ⟨bt,2,none⟩=some (.slice av l.length cv):=aj (nN.out.trans HP.out.blk) rfl
   have f2:w4.frozen? ⟨bt,2,none⟩=false:=aF (nN.out.trans HP.out.blk)
   clear hown hgr hmv sS wZ jT rU KD KZ uH eY hgb hgg hi0 hz0 hz1 hz2
   refine eu 6 [[],[0],[],[2],[2,3],[0,1,2,3,4],[0,1,2,3,4,5],[0,1,2,3,4,5,6]] rfl rfl rfl rfl rfl (by kernel_rfl) (by kernel_rfl) (by kernel_rfl) ?_
   simp [go_sem,Oper.wp]
   refine eu 7 [[],[0],[],[2],[2,3],[0,1,2,3,4],[0,1,2,3,4,5],[0,1,2,3,4,5,6]] rfl rfl rfl rfl rfl (by kernel_rfl) (by kernel_rfl) (by kernel_rfl) ?_
   simp [go_sem,Oper.wp,c2,f2]
   refine fM rfl ?_
   go_simp
   generalize hW:World.setCell w4 _ _=WT
   have Ev:Hid (Pt R w bz bt WT nm ln (.slice (some ⟨g4,0,none⟩) (l.length + 1) cap4) (l++[x5]) s5):=Lib.hid (by rw [← hW]; exact HP.out.bZ HR4.out Aw.out vw.out nN.out wH.out wJ.out)
   clear hW c2 f2 wJ jO dh HR4 Aw nN vw wH tO bq hszz HP
   have HP:=Ev
   clear Ev
   have lU:Hid (TQ R w bz bt nm ln qp s5.len WT):=Lib.hid ⟨l++[x5],s5,_,_,rfl,Nat.le_refl _,by rw [← HQ5.out,Qc.out]; rfl,HP.out,by have:=qR.out; rw [Qc.out]; simp; omega,by rw [Qc.out]; exact M8 (l:=[]) (by simp) Xq.out⟩
   clear HP qR HQ5 Qc lS Xq gI h4 hll Xn
   go_wp2_with fail
   go_loopg [24] s5.len (fun gk _ wr=>TQ R w bz bt nm ln qp gk wr)
   case atStart=>exact lU.out
   case round=>
    obtain ⟨l,s,f,v,rfl,hf,hq,hp,hll,hsz⟩:=hrel
    have HP:=Lib.hid hp
    have HF:=Lib.hid (And.intro hf (And.intro hll hsz))
    have HQ:=Lib.hid hq
    clear hf hq hp hll hsz lU
    cases h4:at' [44] s.toks
    ·have e1:qp=(l,s):=by rw [← HQ.out]; exact Qy h4
     subst e1
     go_wp2_with fail
     refine (lC R _ _ ⟨#[44]⟩ rfl h4 HP.out.rd).mono ?_
     rintro e w6 ⟨rfl,hb⟩
     have iZ:=Lib.hid (HP.out.below hb)
     clear hb HP
     go_wp2_with fail
     go_meet
     exact ⟨_,iZ.out,by have:=HF.out.2.1; show l.length≤5000; omega,HF.out.2.2⟩
    ·obtain ⟨f,rfl⟩: ∃n,f=n + 1:=⟨f - 1,by have h1:=HF.out.1; have h2:=uj (lN h4); omega⟩
     obtain ⟨q6,OH⟩: ∃q6,aJ R.ts s.aD=q6:=⟨_,rfl⟩
     have gI:Hid (∀w,bn w R s.aD→Calls Tryz.prog 83 #[.pointer (some ⟨R.br,0,none⟩)] w (qP R w q6)):=Lib.hid (fun w h=>by rw [← OH]; exact gQ R _ w h)
     have ao4:Hid (q6.1.size≤maxLen):=Lib.hid (by rw [← OH]; exact fZ (St.Zu HP.out.rd.ts))
     have HQ6:Hid (lG R.ts f (l++[q6.1]) q6.2=qp):=Lib.hid (by rw [← HQ.out,← OH,NS h4])
     have aX:Hid (q6.2.len < s.len):=Lib.hid (by rw [← OH]; exact Nat.lt_of_le_of_lt (fJ _) (uj (lN h4)))
     have iQ:=Lib.hid (lN h4)
     clear OH HQ
     obtain ⟨x6,s6⟩:=q6
     go_wp2_with fail
     refine (lC R _ _ ⟨#[44]⟩ rfl h4 HP.out.rd).mono ?_
     rintro e w6 ⟨rfl,hb⟩
     have iZ:=Lib.hid (HP.out.below hb)
     clear hb HP
     have HP:=iZ
     clear iZ h4
     obtain ⟨pos,bad,⟨hp,hp2,hl,hlt,hbr⟩,gU,⟨bL,bK⟩,c0,c1,c2,f1,f2⟩:=HP.out.rd.open
     have HA:=Lib.hid (HP.out.aD c1 iQ.out)
     go_upto_region 9 with fail
     generalize hW:World.setCell _ _ _=WA
     rw [hW] at HA
     clear hW c0 c1 c2 f1 f2 gU hp hp2 hl hlt hbr bL bK HP
     have HP:=HA
     clear HA
     have lS:Hid (l.length≤5000):=Lib.hid (by have:=HF.out.2.1; omega)
     obtain ⟨W,hWA⟩: ∃W,W=WA:=⟨_,rfl⟩
     subst hWA
     obtain ⟨av,cv,hv⟩:=HP.out.row.len
     subst hv
     have hll:l.length≤5000:=lS.out
     have bq:=Lib.hid (And.intro HP.out.lt (show R.br < bt + 1 by have:=HP.out.lt; omega))
     have tO:=Lib.hid HP.out.row
     have KD: ∀w',W.grownBy w' (some R.br)→w'.heap[bt]? =some (.cells #[.string nm,.int .i64 ln,.slice av l.length cv,.slice none 0 0] 67 (0,0)):=fun w' h=>(h.block _ (Array.getElem?_eq_some_iff.1 HP.out.blk).1 (by have:=bq.out; simp; omega)).trans HP.out.blk
     have KZ: ∀w',W.grownBy w' (some R.br)→w'.heap[bz]? =some (.cells AY 67 (0,0)):=fun w' h=>(h.block _ (Array.getElem?_eq_some_iff.1 HP.out.z).1 (by have:=bq.out; simp; omega)).trans HP.out.z
     have uH:=HP.out.rd
     obtain ⟨i0,hi0,hz0,hz1,hz2⟩:=IB
     refine dY (by kernel_rfl) rfl ?_
     refine dN 0 5 [3] [[],[0],[],[2],[2,3],[0,1,2,3,4],[0,1,2,3,4,5],[0,1,2,3,4,5,6]] [[none],[none],[some false],[some false],[some true]] (iC (KW R W s.aD) (KW R W s6)) (fun u u'=>dO (bt + 1) u u') [33,34,35,36,37] rfl rfl (by rfl) (by kernel_rfl) (by kernel_rfl) (by kernel_rfl) (by kernel_rfl) (by kernel_rfl) (by rfl) (fun _=>dO.refl _ _) (by rfl) ⟨uH.below (below_drewN (Below.refl _ _) 1),aH (below_drewN (Below.refl _ _) 1)⟩ ?_
     simp only [List.take_succ_cons,List.take_zero,List.drop_zero,List.drop_succ_cons,jR,List.map_cons,List.map_nil]
     apply aI.step
     case aG=>
      intro c A w' hok hC hO hD
      have e3:=hO 3 (by rfl)
      simp [Act.eval] at e3
      simp [aC,aB,au,Act.eval,Region.binds] at hD
      simp [go_sem,gd,Oper.wp,hD,e3]
      exact aA.mk (dO.refl _ _) (iC.skip (by rfl) hC) (aB.mk _ _)
     apply aI.step
     case aG=>
      intro c A w' hok' hC hO hD
      obtain ⟨x',rfl⟩:=hC.bits
      have hb:=KD w' (by cases x'; exact (show KW R W _ w' from hC).2; exact (show KW R W _ w' from hC).2)
      have z2:w'.cell? ⟨bt,2,none⟩=some (.slice av l.length cv):=aj hb rfl
      simp [aC,aB,au,Act.eval,Region.binds] at hD
      simp [go_sem,gd,Oper.wp,hD,z2]
      exact aA.mk (dO.refl _ _) (iC.skip (by rfl) hC) (aB.mk _ _)
     apply aI.step
     case aG=>
      intro c A w' hok hC hO hD
      have e0:=hO 0 (by rfl)
      simp [Act.eval] at e0
      simp [aC,aB,au,Act.eval,Region.binds] at hD
      simp [go_sem,gd,Oper.wp,hD,e0]
      exact aA.mk (dO.refl _ _) (iC.skip (by rfl) hC) (aB.mk _ _)
     simp only [List.nil_append,List.cons_append]
     apply aI.step
     case aG=>
      intro c A w' hok' hC hO hD
      obtain ⟨x',rfl⟩:=hC.bits
      obtain ⟨rfl,-⟩:=hok'
      have hC:KW R W s.aD w':=hC
      simp [aC,aB,au,Act.eval,Region.binds] at hD
      simp [go_sem,gd,Oper.wp,hD]
      refine (gI.out w' hC.1).mono ?_
      rintro e w6 ⟨rfl,h2,h3⟩
      exact aA.mk (fU h3 bq.out.2) (iC.fire (by rfl) ⟨h2,bD hC.2 h3⟩) (aB.mk _ _)
     refine aI.some (fun v w'=> ∃gg,v= .slice (some ⟨gg,0,none⟩) 1 1∧bt + 1≤gg∧w'.heap[gg]? =some (.cells #[.string x6] 9 (0,0))) (fun v w1 w' hle h=>by obtain ⟨a,h1,h2,h3⟩:=h; exact ⟨a,h1,h2,(hle.2 a h2 (Array.getElem?_eq_some_iff.1 h3).1).trans h3⟩) ?_ ?_
     ·intro c A w' hok' hC hO hD
      obtain ⟨x',rfl⟩:=hC.bits
      obtain ⟨rfl,-⟩:=hok'
      have hC:KW R W s6 w':=hC
      simp [aC,aB,au,Act.eval,Region.binds] at hD
      simp [go_sem,gd,Oper.wp,hD]
      exact aA.mk (d:=_) (v:= .slice (some ⟨_,0,none⟩) 1 1) (aL (ah _ _)) (iC.skip (by rfl) (show KW R W s6 _ from ⟨hC.1.below (ah _ _),bD hC.2 (aH (ah _ _))⟩)) ⟨_,rfl,by have:=bq.out; have:=hC.2.size; omega,heap_alloc_new _ _⟩
     try simp only [List.nil_append,List.cons_append]
     refine aI.done ?_
     intro wz eY
     try simp only [List.drop_succ_cons,List.drop_zero]
     intro x0 h0 x1 h1 x2 h2 x3 h3 x4 h4
     have h1':=Eq.symm (show x1=_ from h1)
     subst h1'
     obtain ⟨gg,rfl,hgg,hgb⟩:=h4
     clear h0 h1 h2 h3
     refine jm ?_
     go_simp
     have jT:Hid (KW R W s6 wz):=Lib.hid eY
     have rU:Hid (qc (bt + 1) wz (.slice av l.length cv) l):=Lib.hid (tO.out.next (fU jT.out.2 bq.out.2))
     have hszz:bt + 1≤wz.heap.size:=by have:=bq.out; have:=jT.out.2.size; omega
     refine eu 5 [[],[0],[],[2],[2,3],[0,1,2,3,4],[0,1,2,3,4,5],[0,1,2,3,4,5,6]] rfl rfl rfl rfl rfl (by kernel_rfl) (by kernel_rfl) (by kernel_rfl) ?_
     refine wp_append_lies wz _ _ _ (by rfl) (bt + 1) 9 i0 _ 1 16 Tryz.underlying64 hi0 hz0 hz1 hz2 (by rfl) (by decide) (.slice av l.length cv) l.length (l.flatMap oG) (by rfl) rU.out.own ⟨gg,0,none⟩ 1 1 (oG x6) (by rfl) (by rfl) (World.news_of_block hgb) (by simp [oG,Value.oneCell']) (by decide) (by unfold maxLen; omega) (by omega) hszz wz.heap.size rfl ?_
     intro g4 cap4 w4 hown hgr hmv sS
     have wZ:Hid (dS (bt + 1) (Value.slice av l.length cv).ownBlock wz (fun _=>True)):=Lib.hid (fun _ _=>trivial)
     have wJ:=Lib.hid (rU.out.push (x:=x6) wZ.out rfl hown hgr (by simpa using hmv))
     have jO:Hid (∀k,(Value.slice av l.length cv).ownBlock=some k→bt + 1≤k):=Lib.hid (fun k hk=>(rU.out.lt k hk).1)
     have dh:Hid (Below (bt + 1) wz w4):=Lib.hid (iW hgr jO.out hszz)
     have HR4:Hid (bn w4 R s6):=Lib.hid (BK jT.out.1 hgr (fun k hk=>by have h1:=jO.out k hk; have h2:=bq.out; have h3:=R.b0; omega))
     have Aw:Hid (w.grownBy w4 (some R.br)):=Lib.hid (vM (bD HP.out.gr jT.out.2) (dh.out.mono (by have:=bq.out; omega)))
     have nN:Hid (w4.heap[bt]? =W.heap[bt]?):=Lib.hid ((dh.out.block _ (Nat.lt_succ_self _)).trans (jT.out.2.block _ (by have:=bq.out; omega) (by have:=bq.out; simp; omega)))
     have vw:Hid (w4.heap[bz]? =W.heap[bz]?):=Lib.hid ((dh.out.block _ (by have:=bq.out; omega)).trans (jT.out.2.block _ (by have:=bq.out; omega) (by have:=bq.out; simp; omega)))
     have wH:Hid (W.heap.size≤w4.heap.size):=Lib.hid (Nat.le_trans jT.out.2.size dh.out.size)
     have c2:w4.cell? ⟨bt,2,none⟩=some (.slice av l.length cv):=aj (nN.out.trans HP.out.blk) rfl
     have f2:w4.frozen? ⟨bt,2,none⟩=false:=aF (nN.out.trans HP.out.blk)
     clear hown hgr hmv sS wZ jT rU KD KZ uH eY hgb hgg hi0 hz0 hz1 hz2
     refine eu 6 [[],[0],[],[2],[2,3],[0,1,2,3,4],[0,1,2,3,4,5],[0,1,2,3,4,5,6]] rfl rfl rfl rfl rfl (by kernel_rfl) (by kernel_rfl) (by kernel_rfl) ?_
     simp [go_sem,Oper.wp]
     refine eu 7 [[],[0],[],[2],[2,3],[0,1,2,3,4],[0,1,2,3,4,5],[0,1,2,3,4,5,6]] rfl rfl rfl rfl rfl (by kernel_rfl) (by kernel_rfl) (by kernel_rfl) ?_
     simp [go_sem,Oper.wp,c2,f2]
     refine fM rfl ?_
     go_simp
     generalize hW:World.setCell w4 _ _=WT
     have Ev:Hid (Pt R w bz bt WT nm ln (.slice (some ⟨g4,0,none⟩) (l.length + 1) cap4) (l++[x6]) s6):=Lib.hid (by rw [← hW]; exact HP.out.bZ HR4.out Aw.out vw.out nN.out wH.out wJ.out)
     clear hW c2 f2 wJ jO dh HR4 Aw nN vw wH tO bq hszz HP
     have HP:=Ev
     clear Ev
     go_wp2_with fail
     go_roundg s6.len
     case rel=>exact ⟨l++[x6],s6,f,_,rfl,by have h1:=HF.out.1; have h2:=aX.out; omega,HQ6.out,HP.out,by have h1:=HF.out.2.1; have h2:=aX.out; simp; omega,M8 HF.out.2.2 ao4.out⟩
     case measure=>exact aX.out
  ·have e1:qp=([],s2):=by rw [← OA.out]; unfold lQ; rw [if_pos h4]
   subst e1
   go_wp2_with fail
   go_meet
   exact ⟨_,HP.out,Nat.zero_le _,by simp⟩
 case rest=>
  obtain ⟨v,hp,hll,hsz⟩:=hcut
  have HP:=Lib.hid hp
  have HF:=Lib.hid (And.intro hll hsz)
  clear hp hll hsz
  obtain ⟨l,s3⟩:=qp
  clear OA
  go_upto_region 10 with fail
  go_wp2_with fail
  refine (fC R _ _ ⟨#[41]⟩ rfl HP.out.rd).mono ?_
  rintro e w9 ⟨rfl,h2,h3⟩
  have HQ:=Lib.hid (HP.out.then h2 h3)
  clear h2 h3 HP
  have HP:=HQ
  clear HQ
  have rG:Hid (∀w,bn w R (aR R.ts [41] s3)→Calls Tryz.prog 87 #[.pointer (some ⟨R.br,0,none⟩)] w (sQ R w (yA R.ts (3 * (aR R.ts [41] s3).toks.length + 3) (aR R.ts [41] s3)))):=Lib.hid (fun w h=>Nz R _ w h)
  generalize aR R.ts [41] s3=s4 at *
  generalize yA R.ts (3 * s4.toks.length + 3) s4=qb at *
  obtain ⟨b,s5⟩:=qb
  dsimp only
  go_wp2_with fail
  refine (rG.out _ HP.out.rd).mono ?_
  rintro e w8 ⟨⟨ao,cap,rfl,hl,hst⟩,h2,h3⟩
  have jl:=Lib.hid (HP.out.then h2 h3)
  have pW:Hid (b.len≤maxLen∧bJ (bt + 1) w8 (fun w2=>b.At w2 w2.heap.size ao 0)):=Lib.hid ⟨Nat.le_trans hl (by unfold maxLen; decide),hst.mono HP.out.lt.2.2.2⟩
  clear h2 h3 hl hst rG HP
  obtain ⟨fP,dn,hv,hcl,htx⟩:=jl.out.row.says HF.out.2
  have vE:=Lib.hid (And.intro hcl htx)
  subst hv
  clear hcl htx
  obtain ⟨c0,c1,c2,c3,fc⟩:=jl.out.cells
  have Ed:=fc 3
  go_upto_region 12 with fail
  generalize hW:World.setCell w8 _ _=W9
  have oU:=Lib.hid (jl.out.qK (.slice ao b.len cap) W9 hW)
  have Bn:Hid (dO (bt + 1) w8 W9):=Lib.hid (by rw [← hW]; exact bH w8 ⟨bt,3,none⟩ _ (Nat.lt_succ_self _))
  clear hW c0 c1 c2 c3 fc Ed
  have e0:W9.cell? ⟨bt,0,none⟩=some (.string nm):=aj oU.out.2.2.2 rfl
  have e1:W9.cell? ⟨bt,1,none⟩=some (.int .i64 ln):=aj oU.out.2.2.2 rfl
  have e2:W9.cell? ⟨bt,2,none⟩=some (.slice fP l.length dn):=aj oU.out.2.2.2 rfl
  have e3:W9.cell? ⟨bt,3,none⟩=some (.slice ao b.len cap):=aj oU.out.2.2.2 rfl
  obtain ⟨⟨y0,y1,y2,y3⟩,fz⟩:=Eh oU.out.2.2.1
  have g0:=fz 0
  have g1:=fz 1
  have g2:=fz 2
  have g3:=fz 3
  clear fz
  go_wp2_with fail
  exact bodyPost_ret (v:= .agg (eU.f ⟨⟨nm,ln,l,b⟩,fP,dn,ao,cap⟩).toArray) (by simp [results,Tryz.results47,go_sem,eU.f,y0,y1,y2,y3]) rfl (UZ (x:=⟨⟨nm,ln,l,b⟩,fP,dn,ao,cap⟩) (B:=bt + 1) ⟨⟨eH.out,HL.out,Nat.le_trans HF.out.1 (by unfold maxLen; decide),pW.out.1⟩,vE.out.1⟩ (fun w2 h2=>⟨vE.out.2 w2 (Bn.out.trans h2),pW.out.2 w2 (Bn.out.trans h2)⟩) jl.out.lt wu.out oU.out.1 oU.out.2.1)
end Go.Proofs.YtehnipchbmjlhaaGreatDoor
end
section
namespace Go.Proofs.YtehnipchbmjlhaaGreatDoor
open Go.RowKit
open Md Pz
structure Po (R:Rp) (w:World) (bz bd:Nat) (W:World) (d:De) (s:St):Prop where
 rd:bn W R s
 gr:w.grownBy W (some R.br)
 lt:R.br < w.heap.size∧w.heap.size≤bd∧w.heap.size≤bz∧bz≠bd
 blk:W.heap[bd]? =some (.cells (gF d).toArray 62 (0,0))
 z:W.heap[bz]? =some (.cells wP 62 (0,0))
 ok:d.Ok
section
variable {R:Rp} {w:World} {bz bd:Nat} {W W':World} {d:De} {s s':St}
theorem Po.then (h:Po R w bz bd W d s) (h1:bn W' R s') (h2:W.grownBy W' (some R.br)):Po R w bz bd W' d s':=
 ⟨h1,bD h.gr h2,h.lt,(h2.block _ (Array.getElem?_eq_some_iff.1 h.blk).1 (by have:=h.lt; simp; omega)).trans h.blk,(h2.block _ (Array.getElem?_eq_some_iff.1 h.z).1 (by have:=h.lt; simp; omega)).trans h.z,h.ok⟩
theorem Po.below (h:Po R w bz bd W d s) (hb:Below W.heap.size W W'):Po R w bz bd W' d s:=h.then (h.rd.below hb) (aH hb)
theorem Po.aD (h:Po R w bz bd W d s) {pos:Nat} (hp:W.cell? ⟨R.br,1,none⟩=some (.int .i64 (pos:Int))) (hne:s.toks≠[]):Po R w bz bd (W.setCell ⟨R.br,1,none⟩ (.int .i64 ((pos:Int) + 1))) d s.aD:=
 h.then (h.rd.aD hp hne) (cu _ _ _)
theorem Po.put (h:Po R w bz bd W d s) (j:Nat) (v:Value) {y:De} (hy:(gF d).toArray.setIfInBounds j v=(gF y).toArray) (hok:y.Ok):Po R w bz bd (W.setCell ⟨bd,j,none⟩ v) y s:=
 ⟨nV h.rd _ v (by have:=R.b0; have:=h.lt; show R.B0≤bd; omega) (by have:=h.lt; show bd≠R.br; omega),jC h.gr _ v h.lt.2.1,h.lt,by rw [aW h.blk,hy],(aN W _ v rfl (by have:=h.lt; show bd≠bz; omega)).trans h.z,hok⟩
theorem Po.kind (h:Po R w bz bd W d s) (n:Int) (hn:aM n):Po R w bz bd (W.setCell ⟨bd,0,none⟩ (.int .i64 n)) {d with kind:=n} s:=
 h.put 0 _ rfl ⟨hn,h.ok.2⟩
theorem Po.nm (h:Po R w bz bd W d s) (t:ByteArray) (hs:t.size≤maxLen):Po R w bz bd (W.setCell ⟨bd,2,none⟩ (.string t)) {d with nm:=t} s:=
 h.put 2 _ rfl ⟨h.ok.1,h.ok.2.1,hs,h.ok.2.2.2⟩
theorem Po.size (h:Po R w bz bd W d s) (n:Int) (hn:aM n):Po R w bz bd (W.setCell ⟨bd,3,none⟩ (.int .i64 n)) {d with size:=n} s:=
 h.put 3 _ rfl ⟨h.ok.1,h.ok.2.1,h.ok.2.2.1,hn,h.ok.2.2.2.2⟩
theorem Po.init (h:Po R w bz bd W d s) (n:Int) (hn:aM n):Po R w bz bd (W.setCell ⟨bd,4,none⟩ (.int .i64 n)) {d with init:=n} s:=
 h.put 4 _ rfl ⟨h.ok.1,h.ok.2.1,h.ok.2.2.1,h.ok.2.2.2.1,hn,h.ok.2.2.2.2.2⟩
theorem Po.on (h:Po R w bz bd W d s) (t:ByteArray) (hs:t.size≤maxLen):Po R w bz bd (W.setCell ⟨bd,5,none⟩ (.string t)) {d with on:=t} s:=
 h.put 5 _ rfl ⟨h.ok.1,h.ok.2.1,h.ok.2.2.1,h.ok.2.2.2.1,h.ok.2.2.2.2.1,hs⟩
theorem Po.cell (h:Po R w bz bd W d s) {j:Nat} {u:Value} (hu:(gF d).toArray[j]? =some u):W.cell? ⟨bd,j,none⟩=some u:=aj h.blk hu
theorem Po.free (h:Po R w bz bd W d s) (j:Nat):W.frozen? ⟨bd,j,none⟩=false:=aF h.blk
end
def YF (R:Rp) (w:World) (q:De × St) (e:Ending) (w':World):Prop:=(q.1.Ok∧e= .returned (pF q.1))∧bn w' R q.2∧w.grownBy w' (some R.br)
theorem JQ {R:Rp} {w:World} {bz bd:Nat} {W:World} {d:De} {s:St} (h:Po R w bz bd W d s):YF R w (d,s) (.returned (pF d)) (W.setCells bz 0 (gF d)):=by
 have hg:=aP bz (gF d) 0 W
 have hl:=h.lt
 have hb:=R.b0
 exact ⟨⟨h.ok,rfl⟩,uV h.rd hg (by omega) (by omega),vR h.gr hg hl.2.2.1⟩
theorem zN {R:Rp} {w:World} {bz bd:Nat} {W:World} {d:De} {s:St} (h:Po R w bz bd W d s):
 W.cell? ⟨bd,0,none⟩=some (.int .i64 d.kind)∧W.cell? ⟨bd,1,none⟩=some (.int .i64 d.line)∧W.cell? ⟨bd,2,none⟩=some (.string d.nm)∧W.cell? ⟨bd,3,none⟩=some (.int .i64 d.size)∧W.cell? ⟨bd,4,none⟩=some (.int .i64 d.init)∧W.cell? ⟨bd,5,none⟩=some (.string d.on):=
 ⟨h.cell rfl,h.cell rfl,h.cell rfl,h.cell rfl,h.cell rfl,h.cell rfl⟩
def Nl:Array Value:=(yF.map fun x=>Value.string (tx x)).toArray
theorem Ve {s:St} (h:isDecl s.toks=true):s.toks≠[]:=by
 intro e; rw [e] at h; exact absurd h (by decide)
theorem PX {ts:ak} {s:St} (h:kW s.toks):0≤(jH ts s).1∧(jH ts s).1≤9223372036854775807:=by
 unfold jH
 split
 ·rename_i hn
  have:=vF h hn
  dsimp only; omega
 ·exact ⟨Int.le_refl 0,(by decide:(0:Int)≤9223372036854775807)⟩
def YE (R:Rp) (w:World) (bz bd:Nat) (k:Int) (q:De × St) (W:World):Prop:=q.1.kind=k∧Po R w bz bd W q.1 q.2
theorem Oo (R:Rp) (s:St) (w:World) (hdc:isDecl s.toks=true) (hI:bn w R s):
 Calls Tryz.prog 46 #[.pointer (some ⟨R.br,0,none⟩)] w (YF R w (qd R.ts s)):=by
 have HI:=Lib.hid hI
 have iQ:=Lib.hid (Ve hdc)
 obtain ⟨ln,hln⟩: ∃ln:Int,((aK s.toks:Nat):Int)=ln:=⟨_,rfl⟩
 have HL:Hid (aM ln):=Lib.hid (by rw [← hln]; unfold aM; have:=hI.DX; cases hs:s.toks with
  | nil=>simp [aK]
  | cons t r=>have:=(this t (by rw [hs]; simp)).1; simp only [aK]; omega)
 have iY:Hid (∀w,bn w R s→Calls Tryz.prog 82 #[.pointer (some ⟨R.br,0,none⟩)] w fun e w'=>e= .returned (.int .i64 ln)∧Below w.heap.size w w'):=Lib.hid (fun w h=>by rw [← hln]; exact AL R s w h)
 have Un:=Lib.hid (VF hI.ts hI.DX)
 have HKI:Hid (aM (DJ s.toks)):=Lib.hid (by
  unfold DJ gY aM
  repeat' split
  all_goals omega)
 unfold qd
 rw [hln]
 dsimp only
 generalize DJ s.toks=K at *
 clear hln hI hdc
 obtain ⟨q,hq⟩: ∃q,aJ R.ts s.aD=q:=⟨_,rfl⟩
 have eH:Hid ((aJ R.ts s.aD).1.size≤maxLen):=Lib.hid (fZ (by
  intro t ht
  refine HI.out.ts t ?_
  cases s with
  | go r=>exact List.mem_of_mem_tail ht
  | bad n=>exact ht))
 have gI:Hid (∀w,bn w R s.aD→Calls Tryz.prog 83 #[.pointer (some ⟨R.br,0,none⟩)] w (qP R w (aJ R.ts s.aD))):=Lib.hid (fun w h=>gQ R _ w h)
 rw [hq] at eH gI ⊢
 clear hq
 obtain ⟨nm,s1⟩:=q
 dsimp only at eH gI ⊢
 obtain ⟨res,fG⟩: ∃res,Hid ((thenS (thenS (pq R.ts ⟨K,ln,nm,0,0,⟨#[]⟩⟩ s1) (oC R.ts)) (vZ R.ts))=res):=⟨_,Lib.hid rfl⟩
 rw [fG.out]
 go_enter Tryz.func46,Tryz.ntmps46
 go_upto_region 1 with fail
 generalize hW:World.alloc w _=W0
 have HB0:Hid (Below w.heap.size w W0):=Lib.hid (by rw [← hW]; exact ah _ _)
 have HZ0:Hid (W0.heap[w.heap.size]? =some (.cells wP 62 (0,0))):=Lib.hid (by rw [← hW]; exact heap_alloc_new _ _)
 clear hW
 go_wp2_with fail
 refine (iY.out _ (HI.out.below HB0.out)).mono ?_
 rintro e w1 ⟨rfl,hb⟩
 have HB1:=Lib.hid (HB0.out.trans (hb.mono HB0.out.size))
 have HZ1:=Lib.hid ((hb.block _ (Array.getElem?_eq_some_iff.1 HZ0.out).1).trans HZ0.out)
 clear hb HB0 HZ0
 go_upto_region 3 with fail
 obtain ⟨g,hg⟩: ∃g,w1.heap.size=g:=⟨_,rfl⟩
 generalize hW:World.alloc (World.alloc w1 _) _=W2
 have HP:Hid (Po R w w.heap.size g W2 ⟨0,ln,⟨#[]⟩,0,0,⟨#[]⟩⟩ s):=Lib.hid (by
  have hl:=HI.out.lt
  have hzl:=(Array.getElem?_eq_some_iff.1 HZ1.out).1
  rw [← hW,← hg]
  exact ⟨((HI.out.below HB1.out).below (ah _ _)).below (ah _ _),dP (dP (aH HB1.out) _) _,by omega,(heap_alloc_old _ _ (by simp)).trans (heap_alloc_new _ _),(heap_alloc_old _ _ (by simp; omega)).trans ((heap_alloc_old _ _ hzl).trans HZ1.out),kE,HL.out,Nat.zero_le _,kE,kE,Nat.zero_le _⟩)
 have HT:Hid (W2.heap[g + 1]? =some (.cells Nl 9 (0,0))):=Lib.hid (by
  rw [← hW,← hg]
  have:=heap_alloc_new (w1.alloc (.cells (gF ⟨0,ln,⟨#[]⟩,0,0,⟨#[]⟩⟩).toArray 62)) (.cells Nl 9)
  rw [show (w1.alloc (.cells (gF ⟨0,ln,⟨#[]⟩,0,0,⟨#[]⟩⟩).toArray 62)).heap.size=w1.heap.size + 1 by simp] at this
  exact this)
 rw [hg]
 clear hW hg HB1 HZ1 HI iY
 go_wp2_with fail
 go_loopw [5] (fun i wr=> ∃(k:Nat) (r:List (List UInt8)) (a:Int),i= .int .i64 (k:Nat)∧k + r.length=6∧yF.drop k=r∧K=FT s.toks r (1 + (k:Int)) a∧wr.heap[g + 1]? =some (.cells Nl 9 (0,0))∧Po R w w.heap.size g wr ⟨a,ln,⟨#[]⟩,0,0,⟨#[]⟩⟩ s) (fun i _=>6 - (intOf i).toNat)
 case atStart=>exact ⟨0,yF,0,rfl,rfl,rfl,Un.out.symm,HT.out,HP.out⟩
 case round=>
  obtain ⟨k,r,a,rfl,hlen,hdr,hsp,hat,hpo⟩:=hrel
  have HS:=Lib.hid hsp
  have HD:=Lib.hid hdr
  have HA:=Lib.hid hat
  have Jy:=Lib.hid hpo
  clear hsp hdr hat hpo HP HT Un
  cases r with
  | nil=>
    obtain rfl:k=6:=by simpa using hlen
    have hK:a=K:=HS.out.symm
    subst hK
    clear HS HD HA
    have HP:=Jy
    clear Jy
    obtain ⟨pos,bad,⟨hp,hp2,hl,hlt,hbr⟩,gU,⟨bL,bK⟩,c0,c1,c2,f1,f2⟩:=HP.out.rd.open
    have HA:=Lib.hid (HP.out.aD c1 iQ.out)
    go_upto_region 9 with fail
    generalize hW:World.setCell _ _ _=WA
    rw [hW] at HA
    clear hW c0 c1 c2 f1 f2 gU hp hp2 hl hlt hbr bL bK HP
    have HP:=HA
    clear HA
    go_wp2_with fail
    refine (gI.out _ HP.out.rd).mono ?_
    rintro e wn ⟨rfl,h2,h3⟩
    have HQ:=Lib.hid (HP.out.then h2 h3)
    have c2:=HQ.out.cell (j:=2) rfl
    have f2:=HQ.out.free 2
    clear h2 h3 HP
    go_upto_region 10 with fail
    generalize hW:World.setCell wn _ _=WN
    have HP:Hid (Po R w w.heap.size g WN ⟨a,ln,nm,0,0,⟨#[]⟩⟩ s1):=Lib.hid (by rw [← hW]; exact HQ.out.nm _ eH.out)
    clear hW c2 f2 HQ eH gI
    go_cut [44] (fun v44 W'=> ∃b,v44= .bool b∧b=(a == 1 && at' [91] s1.toks)∧Po R w w.heap.size g W' ⟨a,ln,nm,0,0,⟨#[]⟩⟩ s1)
    case first=>
     have c0:World.cell? _ ⟨g,0,none⟩=some (.int .i64 a):=HP.out.cell (j:=0) rfl
     cases hk:(a == 1)
     ·go_wp2_with fail
      go_meet
      exact ⟨false,rfl,by rw [hk]; rfl,HP.out⟩
     ·cases h9:at' [91] s1.toks
      all_goals
       go_wp2_with fail
       refine (lC R s1 _ ⟨#[91]⟩ rfl h9 HP.out.rd).mono ?_
       rintro e w2 ⟨rfl,hb⟩
       have HQ:=Lib.hid (HP.out.below hb)
       clear hb c0
       go_wp2_with fail
       go_meet
       exact ⟨_,rfl,by rw [hk,h9]; rfl,HQ.out⟩
    case rest=>
     obtain ⟨b,rfl,hb,hpo⟩:=hcut
     have HB:=Lib.hid hb
     have HP:=Lib.hid hpo
     clear hb hpo
     go_upto_if 44 with fail
     obtain ⟨q1,Lj⟩: ∃q1,Hid (pq R.ts ⟨a,ln,nm,0,0,⟨#[]⟩⟩ s1=q1):=⟨_,Lib.hid rfl⟩
     rw [Lj.out] at fG
     go_cut [] (fun W'=>YE R w w.heap.size g a q1 W')
     case first=>
      cases b
      ·have e1:q1=(⟨a,ln,nm,0,0,⟨#[]⟩⟩,s1):=by rw [← Lj.out]; unfold pq; rw [if_neg (by rw [← HB.out]; decide)]
       subst e1
       go_wp2_with fail
       go_meet
       exact ⟨rfl,HP.out⟩
      ·have h9:at' [91] s1.toks=true:=by have:=HB.out.symm; rw [Bool.and_eq_true] at this; exact this.2
       have Ru:=Lib.hid (lN h9)
       have iD:Hid (q1=if isNum s1.aD.toks then ({(⟨a,ln,nm,0,0,⟨#[]⟩⟩:De) with size:=(Tk.val (ay s1.aD.toks):Nat)},aR R.ts [93] (jH R.ts (if Tk.val (ay s1.aD.toks) == 0 then Pz.fail R.ts s1.aD else s1.aD)).2) else (⟨a,ln,nm,0,0,⟨#[]⟩⟩,aR R.ts [93] (jH R.ts s1.aD).2)):=Lib.hid (by rw [← Lj.out]; unfold pq; rw [if_pos HB.out.symm])
       clear h9
       obtain ⟨pos,bad,⟨hp,hp2,hl,hlt,hbr⟩,gU,⟨bL,bK⟩,c0,c1,c2,f1,f2⟩:=HP.out.rd.open
       have HA:=Lib.hid (HP.out.aD c1 Ru.out)
       go_upto_region 12 with fail
       generalize hW:World.setCell _ _ _=WA
       rw [hW] at HA
       clear hW c0 c1 c2 f1 f2 gU hp hp2 hl hlt hbr bL bK HP
       have HP:=HA
       clear HA
       cases hn:(nextK s1.aD.toks == 2)
       ·have hs:=iD.out.trans (if_neg (by rw [show isNum s1.aD.toks=false from hn]; decide))
        subst hs
        clear iD
        go_wp2_with fail
        refine (yY R _ _ 2 2 rfl (by decide) hn HP.out.rd).mono ?_
        rintro e w2 ⟨rfl,hb⟩
        have HQ:=Lib.hid (HP.out.below hb)
        clear hb
        go_wp2_with fail
        refine (su R _ _ HQ.out.rd).mono ?_
        rintro e w3 ⟨rfl,h2,h3⟩
        have Cq:=Lib.hid (HQ.out.then h2 h3)
        clear h2 h3
        go_wp2_with fail
        refine (fC R _ _ ⟨#[93]⟩ rfl Cq.out.rd).mono ?_
        rintro e w4 ⟨rfl,h2,h3⟩
        have Oj:=Lib.hid (Cq.out.then h2 h3)
        go_wp2_with fail
        go_meet
        exact ⟨rfl,Oj.out⟩
       ·have hs:=iD.out.trans (if_pos hn)
        have U1:=Lib.hid (fun w=>Er hn HP.out.rd w)
        have HNK:=Lib.hid (XB (by decide) hn)
        have HVB:=Lib.hid (vF HP.out.rd.ts hn)
        generalize Tk.val (ay s1.aD.toks)=vv at *
        go_wp2_with fail
        refine (yY R _ _ 2 2 rfl (by decide) hn HP.out.rd).mono ?_
        rintro e w2 ⟨rfl,hb⟩
        have HQ:=Lib.hid (HP.out.below hb)
        clear hb HP
        go_upto_region 13 with fail
        obtain ⟨pos2,ax0,⟨hp,hp2,hl,hlt,hbr⟩,gU,⟨bL,bK⟩,c0,c1,c2,f1,f2⟩:=HQ.out.rd.open
        obtain ⟨hpl,bb,off,hao,hbb,e0,e1,e2⟩:=HQ.out.rd.head c1 HNK.out
        rw [hao] at c0
        have hb0:(0:Int)≤(pos2:Int):=by omega
        have hb1:(pos2:Int) < (R.ts.length:Int):=by omega
        clear gU iD c2 f1 f2 e0 e2 hao
        go_quiet (first | (go_at_call 79; refine sj (U1.out _)))
        generalize hW:World.drewN w2 _=WD
        have HP:Hid (Po R w w.heap.size g WD ⟨a,ln,nm,0,0,⟨#[]⟩⟩ s1.aD):=Lib.hid (by rw [← hW]; exact HQ.out.below (below_drewN (Below.refl _ _) _))
        clear hW HQ c0 c1 e1 hb0 hb1 hp hp2 hl hlt hbr bL bK hpl hbb U1
        cases hv:(vv == 0)
        ·have hs:=hs.trans (by rw [if_neg (by rw [hv]; decide)])
         subst hs
         have hv0:(((vv:Nat):Int) == 0)=false:=by rw [beq_eq_false_iff_ne] at hv ⊢; omega
         clear hv
         have c3:=HP.out.cell (j:=3) rfl
         have f3:=HP.out.free 3
         go_upto_region 17 with fail
         generalize hW:World.setCell _ _ _=WS
         have HQ:Hid (Po R w w.heap.size g WS ⟨a,ln,nm,((vv:Nat):Int),0,⟨#[]⟩⟩ s1.aD):=Lib.hid (by rw [← hW]; exact HP.out.size _ (by have:=HVB.out; unfold aM; omega))
         clear hW c3 f3 HP
         go_wp2_with fail
         refine (su R _ _ HQ.out.rd).mono ?_
         rintro e w3 ⟨rfl,h2,h3⟩
         have Cq:=Lib.hid (HQ.out.then h2 h3)
         clear h2 h3
         go_wp2_with fail
         refine (fC R _ _ ⟨#[93]⟩ rfl Cq.out.rd).mono ?_
         rintro e w4 ⟨rfl,h2,h3⟩
         have Oj:=Lib.hid (Cq.out.then h2 h3)
         go_wp2_with fail
         go_meet
         exact ⟨rfl,Oj.out⟩
        ·have hs:=hs.trans (by rw [if_pos hv])
         subst hs
         have hv0:(((vv:Nat):Int) == 0)=true:=by rw [beq_iff_eq] at hv ⊢; omega
         clear hv
         go_wp2_with fail
         refine (zV R _ _ HP.out.rd).mono ?_
         rintro e w5 ⟨rfl,h2,h3⟩
         have HQ:=Lib.hid (HP.out.then h2 h3)
         clear h2 h3 HP
         have HP:=HQ
         clear HQ
         have c3:=HP.out.cell (j:=3) rfl
         have f3:=HP.out.free 3
         go_upto_region 17 with fail
         generalize hW:World.setCell _ _ _=WS
         have HQ:Hid (Po R w w.heap.size g WS ⟨a,ln,nm,((vv:Nat):Int),0,⟨#[]⟩⟩ (Pz.fail R.ts s1.aD)):=Lib.hid (by rw [← hW]; exact HP.out.size _ (by have:=HVB.out; unfold aM; omega))
         clear hW c3 f3 HP
         go_wp2_with fail
         refine (su R _ _ HQ.out.rd).mono ?_
         rintro e w3 ⟨rfl,h2,h3⟩
         have Cq:=Lib.hid (HQ.out.then h2 h3)
         clear h2 h3
         go_wp2_with fail
         refine (fC R _ _ ⟨#[93]⟩ rfl Cq.out.rd).mono ?_
         rintro e w4 ⟨rfl,h2,h3⟩
         have Oj:=Lib.hid (Cq.out.then h2 h3)
         go_wp2_with fail
         go_meet
         exact ⟨rfl,Oj.out⟩
     case rest=>
      have tH:=Lib.hid hcut
      clear hcut HB HP Lj
      obtain ⟨d1,s2⟩:=q1
      obtain ⟨hk1,hp1⟩:=tH.out
      have HP:=Lib.hid hp1
      have iL:=Lib.hid hk1
      clear hk1 hp1 tH
      have hp1:=HP.out
      have hk1:=iL.out
      dsimp only at hp1 hk1
      have HP:=Lib.hid hp1
      have iL:=Lib.hid hk1
      clear hp1 hk1
      go_upto_region 19 with fail
      go_cut [90] (fun v90 W'=> ∃b,v90= .bool b∧b=((a == 1 || a == 2) && at' [61] s2.toks)∧Po R w w.heap.size g W' d1 s2)
      case first=>
       have c0:=(zN HP.out).1
       rw [iL.out] at c0
       cases hk:(a == 1)
       ·cases hk2:(a == 2)
        ·go_wp2_with fail
         go_meet
         exact ⟨false,rfl,by rw [hk,hk2]; rfl,HP.out⟩
        ·cases h9:at' [61] s2.toks
         all_goals
          go_wp2_with fail
          refine (lC R s2 _ ⟨#[61]⟩ rfl h9 HP.out.rd).mono ?_
          rintro e w2 ⟨rfl,hb⟩
          have HQ:=Lib.hid (HP.out.below hb)
          clear hb c0
          go_wp2_with fail
          go_meet
          exact ⟨_,rfl,by rw [hk,hk2,h9]; rfl,HQ.out⟩
       ·cases h9:at' [61] s2.toks
        all_goals
         go_wp2_with fail
         refine (lC R s2 _ ⟨#[61]⟩ rfl h9 HP.out.rd).mono ?_
         rintro e w2 ⟨rfl,hb⟩
         have HQ:=Lib.hid (HP.out.below hb)
         clear hb c0
         go_wp2_with fail
         go_meet
         exact ⟨_,rfl,by rw [hk,h9]; rfl,HQ.out⟩
      case rest=>
       obtain ⟨b2,rfl,hb,hpo⟩:=hcut
       have HB:=Lib.hid hb
       have HP:=Lib.hid hpo
       clear hb hpo
       go_upto_if 90 with fail
       obtain ⟨q2,rJ⟩: ∃q2,Hid (oC R.ts d1 s2=q2):=⟨_,Lib.hid rfl⟩
       have Et:Hid (thenS q2 (vZ R.ts)=res):=Lib.hid (by rw [← rJ.out]; exact fG.out)
       clear fG
       go_cut [] (fun W'=>YE R w w.heap.size g a q2 W')
       case first=>
        cases b2
        ·have e1:q2=(d1,s2):=by rw [← rJ.out]; unfold oC; rw [if_neg (by rw [iL.out,← HB.out]; decide)]
         subst e1
         go_wp2_with fail
         go_meet
         exact ⟨iL.out,HP.out⟩
        ·have h9:at' [61] s2.toks=true:=by have:=HB.out.symm; rw [Bool.and_eq_true] at this; exact this.2
         have Ru:=Lib.hid (lN h9)
         have iD:Hid (q2=if at' [45] s2.aD.toks then ({d1 with init:= -(jH R.ts s2.aD.aD).1},(jH R.ts s2.aD.aD).2) else ({d1 with init:=(jH R.ts s2.aD).1},(jH R.ts s2.aD).2)):=Lib.hid (by rw [← rJ.out]; unfold oC; rw [if_pos (by rw [iL.out]; exact HB.out.symm)])
         clear h9
         obtain ⟨pos,bad,⟨hp,hp2,hl,hlt,hbr⟩,gU,⟨bL,bK⟩,c0,c1,c2,f1,f2⟩:=HP.out.rd.open
         have HA:=Lib.hid (HP.out.aD c1 Ru.out)
         go_upto_region 21 with fail
         generalize hW:World.setCell _ _ _=WA
         rw [hW] at HA
         clear hW c0 c1 c2 f1 f2 gU hp hp2 hl hlt hbr bL bK HP
         have HP:=HA
         clear HA
         cases hm:at' [45] s2.aD.toks
         ·have hs:=iD.out.trans (if_neg (by rw [hm]; decide))
          subst hs
          clear iD
          have Ui:=Lib.hid (PX (ts:=R.ts) HP.out.rd.ts)
          go_wp2_with fail
          refine (lC R _ _ ⟨#[45]⟩ rfl hm HP.out.rd).mono ?_
          rintro e w2 ⟨rfl,hb⟩
          have HQ:=Lib.hid (HP.out.below hb)
          clear hb HP
          go_wp2_with fail
          refine (su R _ _ HQ.out.rd).mono ?_
          rintro e w3 ⟨rfl,h2,h3⟩
          have HP:=Lib.hid (HQ.out.then h2 h3)
          clear h2 h3 HQ
          have c4:=HP.out.cell (j:=4) rfl
          have f4:=HP.out.free 4
          have wO:=Lib.hid (HP.out.init (jH R.ts s2.aD).1 (by have:=Ui.out; unfold aM; omega))
          generalize jH R.ts s2.aD=qn at *
          go_wp2_with fail
          go_meet
          exact ⟨iL.out,wO.out⟩
         ·have hs:=iD.out.trans (if_pos hm)
          subst hs
          clear iD
          have am1:=Lib.hid (lN hm)
          go_wp2_with fail
          refine (lC R _ _ ⟨#[45]⟩ rfl hm HP.out.rd).mono ?_
          rintro e w2 ⟨rfl,hb⟩
          have HQ:=Lib.hid (HP.out.below hb)
          clear hb HP
          have HP:=HQ
          clear HQ
          obtain ⟨pos,bad,⟨hp,hp2,hl,hlt,hbr⟩,gU,⟨bL,bK⟩,c0,c1,c2,f1,f2⟩:=HP.out.rd.open
          have HA:=Lib.hid (HP.out.aD c1 am1.out)
          go_upto_region 24 with fail
          generalize hW:World.setCell _ _ _=WA
          rw [hW] at HA
          clear hW c0 c1 c2 f1 f2 gU hp hp2 hl hlt hbr bL bK HP
          have HP:=HA
          clear HA
          have Ui:=Lib.hid (PX (ts:=R.ts) HP.out.rd.ts)
          go_wp2_with fail
          refine (su R _ _ HP.out.rd).mono ?_
          rintro e w3 ⟨rfl,h2,h3⟩
          have HQ:=Lib.hid (HP.out.then h2 h3)
          clear h2 h3 HP
          have c4:=HQ.out.cell (j:=4) rfl
          have f4:=HQ.out.free 4
          generalize jH R.ts s2.aD.aD=qn at *
          obtain ⟨nv,s3⟩:=qn
          have hn0:0≤nv:=Ui.out.1
          have hn1:nv≤9223372036854775807:=Ui.out.2
          go_upto_region 26 with fail
          generalize hW:World.setCell _ _ _=WS
          have HP:Hid (Po R w w.heap.size g WS {d1 with init:=nv} s3):=Lib.hid (by rw [← hW]; exact HQ.out.init nv (by unfold aM; omega))
          clear hW c4 f4 HQ
          have c4:World.cell? _ ⟨g,4,none⟩=some (.int .i64 nv):=HP.out.cell (j:=4) rfl
          have f4:=HP.out.free 4
          have wO:=Lib.hid (HP.out.init (-nv) (by unfold aM; omega))
          go_wp2_with fail
          go_meet
          exact ⟨iL.out,wO.out⟩
       case rest=>
        have tH:=Lib.hid hcut
        clear hcut HB HP rJ iL
        obtain ⟨d2,s3⟩:=q2
        obtain ⟨hk1,hp1⟩:=tH.out
        dsimp only at hk1 hp1
        have HP:=Lib.hid hp1
        have c0:=(zN hp1).1
        rw [hk1] at c0
        have HR3:Hid (vZ R.ts d2 s3=res):=Et
        have eX:=Lib.hid hk1
        clear hk1 hp1 tH Et
        cases h5:(a == 5)
        ·have e1:res=(d2,s3):=by rw [← HR3.out]; unfold vZ; rw [if_neg (by rw [eX.out,h5]; decide)]
         subst e1
         go_upto_region 29 with fail
         clear c0
         go_wp2_with fail
         refine (fC R _ _ ⟨#[59]⟩ rfl HP.out.rd).mono ?_
         rintro e w9 ⟨rfl,h2,h3⟩
         have HQ:=Lib.hid (HP.out.then h2 h3)
         clear h2 h3 HP
         have HP:=HQ
         clear HQ
         obtain ⟨⟨y0,y1,y2,y3,y4,y5⟩,fz⟩:=z6 HP.out.z
         have z0:=fz 0
         have z1:=fz 1
         have z2:=fz 2
         have z3:=fz 3
         have z4:=fz 4
         have z5:=fz 5
         obtain ⟨e0,e1,e2,e3,e4,e5⟩:=zN HP.out
         clear fz
         go_wp2_with fail
         exact bodyPost_ret (v:=pF _) (by simp [results,Tryz.results46,go_sem,pF,y0,y1,y2,y3,y4,y5]) rfl (JQ HP.out)
        ·have e1:res=({d2 with on:=(aJ R.ts s3).1},(aJ R.ts s3).2):=by rw [← HR3.out]; unfold vZ; rw [if_pos (by rw [eX.out,h5])]
         subst e1
         have al6:=Lib.hid (fZ (ts:=R.ts) HP.out.rd.ts)
         have ap8:Hid (∀w,bn w R s3→Calls Tryz.prog 83 #[.pointer (some ⟨R.br,0,none⟩)] w (qP R w (aJ R.ts s3))):=Lib.hid (fun w h=>gQ R _ w h)
         generalize aJ R.ts s3=q3 at *
         obtain ⟨nm3,s4⟩:=q3
         clear HR3
         go_wp2_with fail
         refine (ap8.out _ HP.out.rd).mono ?_
         rintro e wn3 ⟨rfl,h2,h3⟩
         have HQ:=Lib.hid (HP.out.then h2 h3)
         have c5:=HQ.out.cell (j:=5) rfl
         have f5:=HQ.out.free 5
         clear h2 h3 HP c0
         go_upto_region 29 with fail
         generalize hW:World.setCell wn3 _ _=WN3
         have HP:Hid (Po R w w.heap.size g WN3 {d2 with on:=nm3} s4):=Lib.hid (by rw [← hW]; exact HQ.out.on _ al6.out)
         clear hW c5 f5 HQ
         go_wp2_with fail
         refine (fC R _ _ ⟨#[59]⟩ rfl HP.out.rd).mono ?_
         rintro e w9 ⟨rfl,h2,h3⟩
         have HQ:=Lib.hid (HP.out.then h2 h3)
         clear h2 h3 HP
         have HP:=HQ
         clear HQ
         obtain ⟨⟨y0,y1,y2,y3,y4,y5⟩,fz⟩:=z6 HP.out.z
         have z0:=fz 0
         have z1:=fz 1
         have z2:=fz 2
         have z3:=fz 3
         have z4:=fz 4
         have z5:=fz 5
         obtain ⟨e0,e1,e2,e3,e4,e5⟩:=zN HP.out
         clear fz
         go_wp2_with fail
         exact bodyPost_ret (v:=pF _) (by simp [results,Tryz.results46,go_sem,pF,y0,y1,y2,y3,y4,y5]) rfl (JQ HP.out)
  | cons x r=>
    obtain ⟨hx,hdr⟩:=drop_cons HD.out
    have y0:wr.cell? ⟨g + 1,k,none⟩=some (.string (tx x)):=aj HA.out (by simp [Nl,hx])
    have HD2:=Lib.hid hdr
    have hk:k < 6:=by simp only [List.length_cons] at hlen; omega
    have hb0:(0:Int)≤(k:Int):=by omega
    have hb1:(k:Int) < 6:=by omega
    have HIS:=Lib.hid (nS R s wr (tx x) (l:=x) (by simp [tx]) Jy.out.rd)
    have kr:Hid (K=FT s.toks r (1 + (k:Int) + 1) (if at' x s.toks then 1 + (k:Int) else a)):=Lib.hid HS.out
    have c0:=Jy.out.cell (j:=0) rfl
    have f0:=Jy.out.free 0
    clear hx hdr HD HS
    cases h2:at' x s.toks
    ·rw [h2] at HIS kr
     clear h2
     go_wp2_with fail
     refine HIS.out.mono ?_
     rintro e w2 ⟨rfl,hb⟩
     have aU:=Lib.hid (Jy.out.below hb)
     have HA2:=Lib.hid ((hb.block _ (Array.getElem?_eq_some_iff.1 HA.out).1).trans HA.out)
     clear hb y0 c0 f0
     go_wp2_with fail
     go_roundw
     case rel=>exact ⟨k + 1,r,a,by go_num,by simp only [List.length_cons] at hlen; omega,HD2.out,kr.out,HA2.out,aU.out⟩
     case measure=>simp [intOf]; omega
    ·rw [h2] at HIS kr
     clear h2
     go_wp2_with fail
     refine HIS.out.mono ?_
     rintro e w2 ⟨rfl,hb⟩
     have aU:=Lib.hid (Jy.out.below hb)
     have HA2:=Lib.hid ((hb.block _ (Array.getElem?_eq_some_iff.1 HA.out).1).trans HA.out)
     clear hb y0 c0 f0
     have c0:=aU.out.cell (j:=0) rfl
     have f0:=aU.out.free 0
     go_wp2_with fail
     go_roundw
     case rel=>exact ⟨k + 1,r,1 + (k:Int),by go_num,by simp only [List.length_cons] at hlen; omega,HD2.out,kr.out,(aN _ _ _ rfl (show g≠g + 1 by omega)).trans HA2.out,by
      have h:=aU.out.kind (1 + (k:Int)) (by unfold aM; omega)
      rw [show (k:Int) + 1=1 + (k:Int) by omega]; exact h⟩
     case measure=>simp [intOf]; omega
end Go.Proofs.YtehnipchbmjlhaaGreatDoor
end
