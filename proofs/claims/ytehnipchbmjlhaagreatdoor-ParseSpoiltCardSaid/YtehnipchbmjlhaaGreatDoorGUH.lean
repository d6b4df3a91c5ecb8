/-
  The second parser's programs read on: plain laws. No program in sight.
  Contract of the reference's Parse.
-/
import Derived.Test.YtehnipchbmjlhaaGreatDoorGUB
import Derived.Test.YtehnipchbmjlhaaGreatDoorGUG
import Derived.Test.YtehnipchbmjlhaaGreatDoorGRfF
set_option linter.unusedSimpArgs false
set_option linter.unusedVariables false
set_option maxHeartbeats 40000000
set_option maxRecDepth 1000000
section
namespace Go.Proofs.YtehnipchbmjlhaaGreatDoor.Pz
open Go.RowKit Md Tk
section
variable {ts:ak}
theorem Sv (d:De) (s:St):(pq ts d s).2.len≤s.len:=by
 unfold pq
 split
 ·split
  ·refine Nat.le_trans (gT _ _) (Nat.le_trans (BX _) ?_)
   split
   ·exact Nat.le_trans (uU _) (iP s)
   ·exact iP s
  ·exact Nat.le_trans (gT _ _) (Nat.le_trans (BX _) (iP s))
 ·exact Nat.le_refl _
theorem Ro (d:De) (s:St):(oC ts d s).2.len≤s.len:=by
 unfold oC
 split
 ·split
  ·exact Nat.le_trans (BX _) (Nat.le_trans (iP _) (iP s))
  ·exact Nat.le_trans (BX _) (iP s)
 ·exact Nat.le_refl _
theorem YN (d:De) (s:St):(vZ ts d s).2.len≤s.len:=by
 unfold vZ
 split
 ·exact fJ s
 ·exact Nat.le_refl _
theorem Qi {s:St} (h:isDecl s.toks=true):s.toks≠[]:=by
 intro e; rw [e] at h; exact absurd h (by decide)
theorem J7 {s:St} (h:isDecl s.toks=true):(qd ts s).2.len < s.len:=by
 refine Nat.lt_of_le_of_lt ?_ (uj (Qi h))
 unfold qd thenS
 dsimp only
 exact Nat.le_trans (gT _ _) (Nat.le_trans (YN _ _) (Nat.le_trans (Ro _ _) (Nat.le_trans (Sv _ _) (fJ _))))
theorem Iy: ∀(f:Nat) (l:List ByteArray) (s:St),(lG ts f l s).2.len≤s.len
 | 0,l,s=>Nat.le_refl _
 | f + 1,l,s=>by
   unfold lG
   split
   ·exact Nat.le_trans (Iy f _ _) (Nat.le_trans (fJ _) (iP s))
   ·exact Nat.le_refl _
theorem OX (s:St):(lQ ts s).2.len≤s.len:=by
 unfold lQ
 split
 ·exact Nat.le_refl _
 ·exact Nat.le_trans (Iy _ _ _) (fJ s)
theorem VU (s:St):(pO ts s).2.len≤(aR ts [116,104,114,101,97,100] s).len:=by
 unfold pO
 dsimp only
 exact Nat.le_trans (Pj _ _) (Nat.le_trans (gT _ _) (Nat.le_trans (OX _) (Nat.le_trans (gT _ _) (fJ _))))
theorem Vs {s:St} (hg:s.good=true):(pO ts s).2.mu < s.mu:=by
 cases s with
 | bad n=>cases hg
 | go r=>
   cases h:at' [116,104,114,101,97,100] r
   ·rw [LJ h]; exact Pf _ hg
   ·refine Ng (Nat.lt_of_le_of_lt (VU _) ?_) hg
    rw [CU h]
    exact Ef (s:= .go r) h
theorem Nj {f:Nat} {l:List De} {s:St} (h:isDecl s.toks=false):kK ts f l s=(l,s):=by
 cases f with
 | zero=>rfl
 | succ f=>unfold kK; rw [if_neg (by rw [h]; decide)]
theorem KM {f:Nat} {l:List De} {s:St} (h:isDecl s.toks=true):kK ts (f + 1) l s=kK ts f (l++[(qd ts s).1]) (qd ts s).2:=by
 conv=>lhs; unfold kK
 rw [if_pos h]
theorem OD {f:Nat} {l:List Th} {s:St} (h:(s.good && (l.isEmpty || !s.toks.isEmpty))=false):jS ts f l s=(l,s):=by
 cases f with
 | zero=>rfl
 | succ f=>unfold jS; rw [if_neg (by rw [h]; decide)]
theorem NI {f:Nat} {l:List Th} {s:St} (h:(s.good && (l.isEmpty || !s.toks.isEmpty))=true):jS ts (f + 1) l s=jS ts f (l++[(pO ts s).1]) (pO ts s).2:=by
 conv=>lhs; unfold jS
 rw [if_pos h]
theorem Nb {s:List UInt8} (h: ¬ (scan s).2.1=0):vG s=((⟨[],[]⟩:Pr),((scan s).2.1:Int),((scan s).2.2:Int)):=by unfold vG; rw [if_neg h]
def Xb (qD:List De × St) (qT:List Th × St):Pr × Int × Int:=Fj ⟨qD.1,qT.1⟩ qT.2
theorem Ov {s:List UInt8} (h:(scan s).2.1=0):vG s=Xb (kK (scan s).1 (scan s).1.length [] (.go (scan s).1)) (jS (scan s).1 ((kK (scan s).1 (scan s).1.length [] (.go (scan s).1)).2.toks.length + 1) [] (kK (scan s).1 (scan s).1.length [] (.go (scan s).1)).2):=by
 unfold vG; rw [if_pos h]; rfl
end
end Go.Proofs.YtehnipchbmjlhaaGreatDoor.Pz
end
section
namespace Go.Proofs.YtehnipchbmjlhaaGreatDoor
open Go.RowKit
open Md Pz
structure Pq (w:World) (R:Rp) (bo:Nat) (W:World) (vD vT:Value) (s:St):Prop where
 rd:bn W R s
 bl:Below w.heap.size w W
 lt:w.heap.size < R.B0∧R.B0≤R.br∧R.br < bo∧bo < W.heap.size
 z:W.heap[w.heap.size]? =some (.cells Bo 26 (0,0))
 blk:W.heap[bo]? =some (.cells #[vD,vT] 26 (0,0))
section
variable {w W W':World} {R:Rp} {bo:Nat} {vD vT:Value} {s s':St}
theorem Pq.then (h:Pq w R bo W vD vT s) (h1:bn W' R s') (h2:W.grownBy W' (some R.br)):Pq w R bo W' vD vT s':=
 ⟨h1,h.bl.trans (fu h2 (by have:=h.lt; omega) h.bl.size),⟨h.lt.1,h.lt.2.1,h.lt.2.2.1,Nat.lt_of_lt_of_le h.lt.2.2.2 h2.size⟩,(h2.block _ (Array.getElem?_eq_some_iff.1 h.z).1 (by have:=h.lt; simp; omega)).trans h.z,(h2.block _ (Array.getElem?_eq_some_iff.1 h.blk).1 (by have:=h.lt; simp; omega)).trans h.blk⟩
theorem Pq.below (h:Pq w R bo W vD vT s) (hb:Below W.heap.size W W'):Pq w R bo W' vD vT s:=h.then (h.rd.below hb) (aH hb)
theorem Pq.cells (h:Pq w R bo W vD vT s):W.cell? ⟨bo,0,none⟩=some vD∧W.cell? ⟨bo,1,none⟩=some vT∧ ∀j,W.frozen? ⟨bo,j,none⟩=false:=
 ⟨aj h.blk rfl,aj h.blk rfl,fun _=>aF h.blk⟩
theorem Pq.put (h:Pq w R bo W vD vT s) (hr:bn W' R s') (hb:Below w.heap.size w W') (hz:W'.heap[w.heap.size]? =W.heap[w.heap.size]?) (hk:W'.heap[bo]? =W.heap[bo]?) (hs:W.heap.size≤W'.heap.size) (j:Nat) (v yK QW:Value) (hy:(#[vD,vT]:Array Value).setIfInBounds j v= #[yK,QW]):Pq w R bo (W'.setCell ⟨bo,j,none⟩ v) yK QW s':=
 ⟨nV hr _ _ (by have:=h.lt; show R.B0≤bo; omega) (by have:=h.lt; show bo≠R.br; omega),bT hb _ _ (by have:=h.lt; show _≤bo; omega),by have h1:=h.lt; simp [World.setCell]; omega,(aN W' _ _ rfl (by have:=h.lt; show bo≠_; omega)).trans (hz.trans h.z),by rw [aW (hk.trans h.blk),hy]⟩
end
def U0 (w:World) (R:Rp) (bo:Nat) (qD:List De × St) (g:Nat) (wr:World):Prop:=
 ∃f l s vD,g=s.len∧s.len≤f∧kK R.ts f l s=qD∧Pq w R bo wr vD (.slice none 0 0) s∧oh (bo + 1) wr vD l∧(∀d ∈ l,d.Ok)∧l.length + s.len≤4096
def TU (w:World) (R:Rp) (bo:Nat) (W2:World) (vD:Value) (qT:List Th × St) (n:Value) (g:Nat) (wr:World):Prop:=
 ∃f l s vT,n= .int .i64 (l.length:Nat)∧g=s.mu∧s.mu≤f∧jS R.ts f (l.map (·.t)) s=qT∧Pq w R bo wr vD vT s∧dO (bo + 1) W2 wr∧oQ W2.heap.size wr vT l∧(∀x ∈ l,x.t.Ok∧x.t.bZ.length≤x.dn)∧l.length + s.mu≤4097
theorem IC (s:ByteArray) (w:World) (hm:s.size≤maxLen):
 Calls Tryz.prog 18 #[.string s] w (F7 5000 w (parse s.data.toList)):=by
 rw [← Oi]
 have FU:=Lib.hid (FJ s.data.toList)
 have uN:=Lib.hid (EZ s.data.toList)
 obtain ⟨res,fG⟩: ∃res,Hid (vG s.data.toList=res):=⟨_,Lib.hid rfl⟩
 have qI:Hid (¬ (Tk.scan s.data.toList).2.1=0→res=((⟨[],[]⟩:Pr),((Tk.scan s.data.toList).2.1:Int),((Tk.scan s.data.toList).2.2:Int))):=Lib.hid (fun h=>fG.out.symm.trans (Nb h))
 have HE2:Hid ((Tk.scan s.data.toList).2.1=0→ ∃qD qT,kK (Tk.scan s.data.toList).1 (Tk.scan s.data.toList).1.length [] (.go (Tk.scan s.data.toList).1)=qD∧jS (Tk.scan s.data.toList).1 (qD.2.toks.length + 1) [] qD.2=qT∧res=Xb qD qT):=Lib.hid (fun h=>⟨_,_,rfl,rfl,fG.out.symm.trans (Ov h)⟩)
 have xH:Hid (∀w,Calls Tryz.prog 44 #[.string s] w (vW w (Tk.scan s.data.toList))):=Lib.hid (fun w=>KX s w hm)
 rw [fG.out]
 clear fG hm
 generalize Tk.scan s.data.toList=sc at *
 go_enter Tryz.func18,Tryz.ntmps18
 go_upto_region 1 with fail
 generalize hW:World.alloc w _=W0
 have HB0:Hid (Below w.heap.size w W0):=Lib.hid (by rw [← hW]; exact ah _ _)
 have HZ0:Hid (W0.heap[w.heap.size]? =some (.cells Bo 26 (0,0))):=Lib.hid (by rw [← hW]; exact heap_alloc_new _ _)
 clear hW
 go_wp2_with fail
 refine (xH.out _).mono ?_
 rintro e w1 ⟨v,rfl,hown,hb⟩
 obtain ⟨ao,cap,rfl,htk⟩:=BG hown
 have Aj:=Lib.hid htk
 have HB1:=Lib.hid (HB0.out.trans (hb.mono HB0.out.size))
 have HZ1:=Lib.hid ((hb.block _ (Array.getElem?_eq_some_iff.1 HZ0.out).1).trans HZ0.out)
 clear hown hb htk xH HB0 HZ0
 have hlt:w.heap.size < w1.heap.size:=(Array.getElem?_eq_some_iff.1 HZ1.out).1
 by_cases h0:sc.2.1=0
 ·obtain ⟨qD,qT,PL,Od,hres⟩:=HE2.out h0
  have zA:=Lib.hid (And.intro uN.out.1 uN.out.2.1)
  have hq:(((sc.2.1:Nat):Int) == 0)=true:=by rw [h0]; rfl
  rw [h0]
  go_upto_region 5 with fail
  generalize hW:World.alloc w1 _=W1
  have HR1:=Lib.hid (XZ hW Aj.out FU.out zA.out)
  have HB2:Hid (Below w.heap.size w W1):=Lib.hid (by rw [← hW]; exact HB1.out.trans ((ah w1 _).mono HB1.out.size))
  have HZ2:Hid (W1.heap[w.heap.size]? =some (.cells Bo 26 (0,0))):=Lib.hid (by rw [← hW]; exact ((ah w1 _).block _ hlt).trans HZ1.out)
  obtain ⟨R,hR⟩: ∃R,qW w1 ao cap sc.1=R:=⟨_,rfl⟩
  have hbr:w1.heap.size=R.br:=by rw [← hR]; rfl
  have jg:Hid (R.ts=sc.1):=Lib.hid (by rw [← hR]; rfl)
  have HB0:Hid (w.heap.size < R.B0):=Lib.hid (by rw [← hR]; exact hlt)
  rw [hR] at HR1
  rw [hbr,← jg.out]
  rw [← jg.out] at PL Od HR1
  have YL:=Lib.hid PL
  have ZA:=Lib.hid Od
  have pU:=Lib.hid hres
  have aq0:Hid (R.ts.length≤4096):=Lib.hid (by rw [jg.out]; exact zA.out.2)
  clear hW qI HE2 uN FU Aj zA HB1 HZ1 h0 hq PL Od hres hlt hR hbr jg
  go_upto_block 0 with fail
  obtain ⟨bo,hg⟩: ∃g,W1.heap.size=g:=⟨_,rfl⟩
  rw [hg]
  generalize hW:World.alloc W1 _=W2
  have xQ:Hid (Pq w R bo W2 (.slice none 0 0) (.slice none 0 0) (.go R.ts)):=Lib.hid (by
   have hl:=HR1.out.lt
   have hzl:=(Array.getElem?_eq_some_iff.1 HZ2.out).1
   rw [← hW,← hg]
   exact ⟨HR1.out.below (ah _ _),HB2.out.trans ((ah W1 _).mono HB2.out.size),⟨HB0.out,R.b0,hl,by simp⟩,(heap_alloc_old _ _ hzl).trans HZ2.out,heap_alloc_new _ _⟩)
  clear hW hg HR1 HB2 HZ2 HB0
  go_cut [] (fun W'=> ∃l s' vD,qD=(l,s')∧Pq w R bo W' vD (.slice none 0 0) s'∧oh (bo + 1) W' vD l∧(∀d ∈ l,d.Ok)∧l.length + s'.len≤4096)
  case first=>
   have lU:Hid (U0 w R bo qD R.ts.length W2):=Lib.hid ⟨R.ts.length,[],.go R.ts,_,rfl,Nat.le_refl _,YL.out,xQ.out,Grow.nil _ _ _ _ _ _,by simp,by have:=aq0.out; show 0 + R.ts.length≤_; omega⟩
   clear xQ YL ZA pU
   go_wp2_with fail
   go_loopg [26] R.ts.length (fun gk _ wr=>U0 w R bo qD gk wr)
   case atStart=>exact lU.out
   case round=>
    obtain ⟨f,l,s,vD,rfl,hf,hq,hp,hg,hok,hll⟩:=hrel
    have HF:=Lib.hid (And.intro hf hll)
    have HQ:=Lib.hid hq
    have HP:=Lib.hid hp
    have HG:=Lib.hid hg
    have gq:=Lib.hid hok
    clear hf hq hp hg hok hll lU
    cases hd:isDecl s.toks
    ·have qI:Hid (qD=(l,s)):=Lib.hid (by rw [← HQ.out]; exact Nj hd)
     go_wp2_with fail
     refine (Bq R s _ HP.out.rd).mono ?_
     rw [hd]
     rintro e w6 ⟨rfl,hb⟩
     have iZ:=Lib.hid (HP.out.below hb)
     have HG6:=Lib.hid (HG.out.next (aL hb))
     clear hb HP HG
     go_wp2_with fail
     go_meet
     exact ⟨l,s,_,qI.out,iZ.out,HG6.out,gq.out,HF.out.2⟩
    ·obtain ⟨f,rfl⟩: ∃n,f=n + 1:=⟨f - 1,by have h1:=HF.out.1; have h2:=J7 (ts:=R.ts) hd; omega⟩
     have aX:=Lib.hid (J7 (ts:=R.ts) hd)
     have rJ:=Lib.hid ((KM (ts:=R.ts) (f:=f) (l:=l) hd).symm.trans HQ.out)
     have Ra:=Lib.hid (fun w h=>Oo R s w hd h)
     go_wp2_with fail
     refine (Bq R s _ HP.out.rd).mono ?_
     rw [hd]
     rintro e W ⟨rfl,hb⟩
     have iZ:=Lib.hid (HP.out.below hb)
     have tO:=Lib.hid (HG.out.next (aL hb))
     clear hb HP HG HQ hd
     have HP:=iZ
     clear iZ
     generalize qd R.ts s=q at *
     obtain ⟨d,s2⟩:=q
     obtain ⟨av,cv,hv⟩:=tO.out.len
     subst hv
     have hll:l.length≤4096:=by have:=HF.out.2; omega
     have bq:=Lib.hid (And.intro HP.out.lt (show R.br < bo + 1 by have:=HP.out.lt; omega))
     have KD: ∀w',W.grownBy w' (some R.br)→w'.heap[bo]? =some (.cells #[.slice av l.length cv,.slice none 0 0] 26 (0,0)):=fun w' h=>(h.block _ (Array.getElem?_eq_some_iff.1 HP.out.blk).1 (by have:=bq.out; simp; omega)).trans HP.out.blk
     have KZ: ∀w',W.grownBy w' (some R.br)→w'.heap[w.heap.size]? =some (.cells Bo 26 (0,0)):=fun w' h=>(h.block _ (Array.getElem?_eq_some_iff.1 HP.out.z).1 (by have:=bq.out; simp; omega)).trans HP.out.z
     have uH:=HP.out.rd
     obtain ⟨i0,hi0,hz0,hz1,hz2⟩:=OQ
     go_upto_region 7 with fail
     refine dY (by kernel_rfl) rfl ?_
     refine dN 0 5 [3] [[],[0],[],[2],[2,3],[0,1,2,3,4],[0,1,2,3,4,5],[0,1,2,3,4,5,6]] [[none],[none],[some false],[some false],[some true]] (iC (KW R W s) (KW R W s2)) (fun u u'=>dO (bo + 1) u u') [27,28,29,30,31] rfl rfl (by rfl) (by kernel_rfl) (by kernel_rfl) (by kernel_rfl) (by kernel_rfl) (by kernel_rfl) (by rfl) (fun _=>dO.refl _ _) (by rfl) ⟨uH.below (below_drewN (Below.refl _ _) 1),aH (below_drewN (Below.refl _ _) 1)⟩ ?_
     simp only [List.take_succ_cons,List.take_zero,List.drop_zero,List.drop_succ_cons,jR,List.map_cons,List.map_nil]
     apply aI.step
     case aG=>
      intro c A w' hok hC hO hD
      have e9:=hO 9 (by rfl)
      simp [Act.eval] at e9
      simp [aC,aB,au,Act.eval,Region.binds] at hD
      simp [go_sem,gd,Oper.wp,hD,e9]
      exact aA.mk (dO.refl _ _) (iC.skip (by rfl) hC) (aB.mk _ _)
     apply aI.step
     case aG=>
      intro c A w' hok' hC hO hD
      obtain ⟨x',rfl⟩:=hC.bits
      have hb:=KD w' (by cases x'; exact (show KW R W _ w' from hC).2; exact (show KW R W _ w' from hC).2)
      have z2:w'.cell? ⟨bo,0,none⟩=some (.slice av l.length cv):=aj hb rfl
      simp [aC,aB,au,Act.eval,Region.binds] at hD
      simp [go_sem,gd,Oper.wp,hD,z2]
      exact aA.mk (dO.refl _ _) (iC.skip (by rfl) hC) (aB.mk _ _)
     apply aI.step
     case aG=>
      intro c A w' hok hC hO hD
      have e8:=hO 8 (by rfl)
      simp [Act.eval] at e8
      simp [aC,aB,au,Act.eval,Region.binds] at hD
      simp [go_sem,gd,Oper.wp,hD,e8]
      exact aA.mk (dO.refl _ _) (iC.skip (by rfl) hC) (aB.mk _ _)
     simp only [List.nil_append,List.cons_append]
     apply aI.some (fun v w'=>v=pF d∧d.Ok) (fun _ _ _ _ h=>h) ?_ ?_
     ·intro c A w' hok' hC hO hD
      obtain ⟨x',rfl⟩:=hC.bits
      obtain ⟨rfl,-⟩:=hok'
      have hC:KW R W s w':=hC
      simp [aC,aB,au,Act.eval,Region.binds] at hD
      simp [go_sem,gd,Oper.wp,hD]
      refine (Ra.out w' hC.1).mono ?_
      rintro e w6 ⟨⟨xY,rfl⟩,h2,h3⟩
      exact aA.mk (fU h3 bq.out.2) (iC.fire (by rfl) ⟨h2,bD hC.2 h3⟩) ⟨rfl,xY⟩
     refine aI.some (fun v w'=> ∃gg,v= .slice (some ⟨gg,0,none⟩) 1 1∧bo + 1≤gg∧w'.heap[gg]? =some (.cells (gF d).toArray 62 (0,0))∧d.Ok) (fun v w1 w' hle h=>by obtain ⟨a,h1,h2,h3,h4⟩:=h; exact ⟨a,h1,h2,(hle.2 a h2 (Array.getElem?_eq_some_iff.1 h3).1).trans h3,h4⟩) ?_ ?_
     ·intro c A w' hok' hC hO hD
      obtain ⟨x',rfl⟩:=hC.bits
      obtain ⟨rfl,-⟩:=hok'
      have hC:KW R W s2 w':=hC
      simp [aC,aB,au,Act.eval,Region.binds] at hD
      obtain ⟨Q6,hDo⟩:=hD
      unfold pF at Q6
      simp [go_sem,gd,Oper.wp,Q6]
      exact aA.mk (d:=_) (v:= .slice (some ⟨_,0,none⟩) 1 1) (aL (ah _ _)) (iC.skip (by rfl) (show KW R W s2 _ from ⟨hC.1.below (ah _ _),bD hC.2 (aH (ah _ _))⟩)) ⟨_,rfl,by have:=bq.out; have:=hC.2.size; omega,heap_alloc_new _ _,hDo⟩
     try simp only [List.nil_append,List.cons_append]
     refine aI.done ?_
     intro wz eY
     try simp only [List.drop_succ_cons,List.drop_zero]
     intro x0 h0 x1 h1 x2 h2 x3 h3 x4 h4
     have h1':=Eq.symm (show x1=_ from h1)
     subst h1'
     obtain ⟨gg,rfl,hgg,hgb,hdo⟩:=h4
     have Pk:=Lib.hid hdo
     clear h0 h1 h2 h3 hdo
     refine jm ?_
     go_simp
     have jT:Hid (KW R W s2 wz):=Lib.hid eY
     have rU:Hid (oh (bo + 1) wz (.slice av l.length cv) l):=Lib.hid (tO.out.next (fU jT.out.2 bq.out.2))
     have hszz:bo + 1≤wz.heap.size:=by have:=bq.out; have:=jT.out.2.size; omega
     refine eu 5 [[],[0],[],[2],[2,3],[0,1,2,3,4],[0,1,2,3,4,5],[0,1,2,3,4,5,6]] rfl rfl rfl rfl rfl (by kernel_rfl) (by kernel_rfl) (by kernel_rfl) ?_
     refine wp_append_lies wz _ _ _ (by rfl) (bo + 1) 62 i0 _ 6 64 Tryz.underlying23 hi0 hz0 hz1 hz2 (by rfl) (by decide) (.slice av l.length cv) l.length (l.flatMap gF) (by rfl) rU.out.own ⟨gg,0,none⟩ 1 1 (gF d) (by rfl) (by rfl) (World.news_of_block hgb) (by simp [gF,Value.oneCell']) (by decide) (by unfold maxLen; omega) (by omega) hszz wz.heap.size rfl ?_
     intro g4 cap4 w4 hown hgr hmv sS
     have wZ:Hid (dS (bo + 1) (Value.slice av l.length cv).ownBlock wz (fun _=>True)):=Lib.hid (fun _ _=>trivial)
     have wJ:=Lib.hid (rU.out.push (x:=d) wZ.out rfl hown hgr (by simpa using hmv))
     have jO:Hid (∀k,(Value.slice av l.length cv).ownBlock=some k→bo + 1≤k):=Lib.hid (fun k hk=>(rU.out.lt k hk).1)
     have dh:Hid (Below (bo + 1) wz w4):=Lib.hid (iW hgr jO.out hszz)
     have HR4:Hid (bn w4 R s2):=Lib.hid (BK jT.out.1 hgr (fun k hk=>by have h1:=jO.out k hk; have h2:=bq.out; omega))
     have Js:Hid (Below w.heap.size w w4):=Lib.hid ((HP.out.bl.trans (fu jT.out.2 (by have:=bq.out; omega) HP.out.bl.size)).trans (dh.out.mono (by have:=bq.out; omega)))
     have nN:Hid (w4.heap[bo]? =W.heap[bo]?):=Lib.hid ((dh.out.block _ (Nat.lt_succ_self _)).trans (jT.out.2.block _ (by have:=bq.out; omega) (by have:=bq.out; simp; omega)))
     have vw:Hid (w4.heap[w.heap.size]? =W.heap[w.heap.size]?):=Lib.hid ((dh.out.block _ (by have:=bq.out; omega)).trans (jT.out.2.block _ (by have:=bq.out; omega) (by have:=bq.out; simp; omega)))
     have wH:Hid (W.heap.size≤w4.heap.size):=Lib.hid (Nat.le_trans jT.out.2.size dh.out.size)
     have c2:w4.cell? ⟨bo,0,none⟩=some (.slice av (l).length cv):=aj (nN.out.trans HP.out.blk) rfl
     have f2:w4.frozen? ⟨bo,0,none⟩=false:=aF (nN.out.trans HP.out.blk)
     clear hown hgr hmv sS KD KZ uH eY hgb hgg hi0 hz0 hz1 hz2
     refine eu 6 [[],[0],[],[2],[2,3],[0,1,2,3,4],[0,1,2,3,4,5],[0,1,2,3,4,5,6]] rfl rfl rfl rfl rfl (by kernel_rfl) (by kernel_rfl) (by kernel_rfl) ?_
     simp [go_sem,Oper.wp]
     refine eu 7 [[],[0],[],[2],[2,3],[0,1,2,3,4],[0,1,2,3,4,5],[0,1,2,3,4,5,6]] rfl rfl rfl rfl rfl (by kernel_rfl) (by kernel_rfl) (by kernel_rfl) ?_
     simp [go_sem,Oper.wp,c2,f2]
     refine fM rfl ?_
     go_simp
     generalize hW:World.setCell w4 _ _=WT
     have Ev:Hid (Pq w R bo WT (.slice (some ⟨g4,0,none⟩) (l.length + 1) cap4) (.slice none 0 0) s2):=Lib.hid (by rw [← hW]; exact HP.out.put HR4.out Js.out vw.out nN.out wH.out 0 _ _ _ rfl)
     have Yi:Hid (oh (bo + 1) WT (.slice (some ⟨g4,0,none⟩) (l.length + 1) cap4) (l++[d])):=Lib.hid (by rw [← hW]; exact wJ.out.next (bH w4 ⟨bo,0,none⟩ _ (Nat.lt_succ_self _)))
     clear hW c2 f2 wJ jO dh HR4 Js nN vw wH tO bq hszz HP wZ jT rU
     have Cn:Hid (∀y ∈ l++[d],y.Ok):=Lib.hid (fun y hy=>by
      rcases List.mem_append.1 hy with hy | hy
      ·exact gq.out y hy
      ·rw [List.mem_singleton.1 hy]; exact Pk.out)
     go_wp2_with fail
     go_roundg s2.len
     case rel=>exact ⟨f,l++[d],s2,_,rfl,by have h1:=HF.out.1; have h2:s2.len < s.len:=aX.out; omega,rJ.out,Ev.out,Yi.out,Cn.out,by have h1:=HF.out.2; have h2:s2.len < s.len:=aX.out; simp only [List.length_append,List.length_singleton]; omega⟩
     case measure=>exact aX.out
  case rest=>
   obtain ⟨l,s2,vD,PL,hp,hg,hok,hll⟩:=hcut
   obtain ⟨W2,rfl⟩: ∃W:World,W=wc:=⟨_,rfl⟩
   obtain ⟨bY,bM,hv,Ii,Ir⟩:=hg.says hok
   subst hv
   subst PL
   have HP:=Lib.hid hp
   have HD2:=Lib.hid (And.intro Ii Ir)
   have lS:=Lib.hid hll
   clear hp hg hok hll Ii Ir xQ YL
   have Rn:Hid (jS R.ts (s2.toks.length + 1) [] s2=qT):=ZA
   have Sy:Hid (res=Fj ⟨l,qT.1⟩ qT.2):=pU
   clear ZA pU
   go_upto_block 2 with fail
   go_cut [] (fun W'=> ∃(lt:List eU) (s':St) (vT:Value),qT=(lt.map (·.t),s')∧Pq w R bo W' (.slice bY l.length bM) vT s'∧dO (bo + 1) W2 W'∧oQ W2.heap.size W' vT lt∧(∀x ∈ lt,x.t.Ok∧x.t.bZ.length≤x.dn)∧lt.length + s'.mu≤4097)
   case first=>
    have lU:Hid (TU w R bo W2 (.slice bY l.length bM) qT (.int .i64 0) s2.mu W2):=Lib.hid ⟨s2.toks.length + 1,[],s2,_,rfl,rfl,by unfold St.mu St.len; split <;> omega,Rn.out,HP.out,dO.refl _ _,Grow.nil _ _ _ _ _ _,by simp,by have:=lS.out; unfold St.mu; split <;> (simp only [List.length_nil]; omega)⟩
    have pR:Hid (bo + 1≤W2.heap.size):=Lib.hid (by have:=HP.out.lt; omega)
    clear HP Rn Sy HD2 lS
    go_wp2_with fail
    go_loopg [10] s2.mu (fun gk u wr=>TU w R bo W2 (.slice bY l.length bM) qT u gk wr)
    case atStart=>exact lU.out
    case round=>
     obtain ⟨f,lt,s,vT,rfl,rfl,hf,hq,hp,ha,hg,hok,hll⟩:=hrel
     have HF:=Lib.hid (And.intro hf hll)
     have HQ:=Lib.hid hq
     have HP:=Lib.hid hp
     have HA:=Lib.hid ha
     have HG:=Lib.hid hg
     have gq:=Lib.hid hok
     have zX:lt.length≤4097:=by omega
     clear hf hq hp ha hg hok hll lU
     go_upto_region 9 with fail
     go_cut [51] (fun v W'=>v= .bool (s.good && (lt.isEmpty || !s.toks.isEmpty))∧W'=wr)
     case first=>
      obtain ⟨pos,bad,⟨hp1,hp2,hl,Sb,hbr⟩,HS,⟨bL,bK⟩,c0,c1,c2,f1,f2⟩:=HP.out.rd.open
      clear f1 f2 c0
      cases s with
      | bad n=>
        obtain ⟨rfl,hn1,hn2⟩:=HS.out
        have hb:(bad == 0)=false:=by rw [beq_eq_false_iff_ne]; omega
        clear HS
        go_wp2_with fail
        go_meet
        exact ⟨rfl,rfl⟩
      | go r=>
        obtain ⟨rfl,hd⟩:=HS.out
        have HD:=Lib.hid hd
        clear HS hd bL bK
        cases lt with
        | nil=>
          go_wp2_with fail
          go_meet
          exact ⟨rfl,rfl⟩
        | cons x lt=>
          have hn:((((x ::lt).length:Nat):Int) == 0)=false:=by rw [beq_eq_false_iff_ne]; simp only [List.length_cons]; omega
          generalize (x ::lt).length=ln at *
          cases r with
          | nil=>
            have hq:decide (pos < R.ts.length)=false:=by rw [decide_eq_false_iff_not]; have:=List.drop_eq_nil_iff.1 HD.out; omega
            go_wp2_with fail
            go_meet
            exact ⟨rfl,rfl⟩
          | cons t q=>
            have hq:decide (pos < R.ts.length)=true:=by
             rw [decide_eq_true_iff]; have:=congrArg List.length HD.out; simp at this; omega
            go_wp2_with fail
            go_meet
            exact ⟨rfl,rfl⟩
     obtain ⟨rfl,hwc⟩:=hcut
     obtain ⟨W,rfl⟩: ∃W:World,W=wc:=⟨_,rfl⟩
     subst hwc
     cases hc:(s.good && (lt.isEmpty || !s.toks.isEmpty))
     ·have qI:Hid (qT=(lt.map (·.t),s)):=Lib.hid (by rw [← HQ.out]; exact OD (by rw [List.isEmpty_map]; exact hc))
      go_wp2_with fail
      go_meet
      exact ⟨lt,s,_,qI.out,HP.out,HA.out,HG.out,gq.out,HF.out.2⟩
     ·have hgd:s.good=true:=by rw [Bool.and_eq_true] at hc; exact hc.1
      have E8:=Lib.hid (Vs (ts:=R.ts) hgd)
      obtain ⟨f,rfl⟩: ∃n,f=n + 1:=⟨f - 1,by have h1:=HF.out.1; have h2:=E8.out; omega⟩
      have rJ:=Lib.hid ((NI (ts:=R.ts) (f:=f) (l:=lt.map (·.t)) (s:=s) (by rw [List.isEmpty_map]; exact hc)).symm.trans HQ.out)
      have Ra:=Lib.hid (fun w h=>KT R s w h)
      clear hgd HQ
      generalize pO R.ts s=q at *
      obtain ⟨th,s3⟩:=q
      obtain ⟨av,cv,hv⟩:=HG.out.len
      subst hv
      have bq:=Lib.hid (And.intro HP.out.lt (show R.br < bo + 1 by have:=HP.out.lt; omega))
      have oD:Hid (W2.heap.size≤W.heap.size∧bo + 1≤W.heap.size):=Lib.hid ⟨HA.out.1,by have:=HP.out.lt; omega⟩
      have KD: ∀w',W.grownBy w' (some R.br)→w'.heap[bo]? =some (.cells #[.slice bY l.length bM,.slice av lt.length cv] 26 (0,0)):=fun w' h=>(h.block _ (Array.getElem?_eq_some_iff.1 HP.out.blk).1 (by have:=bq.out; simp; omega)).trans HP.out.blk
      have KZ: ∀w',W.grownBy w' (some R.br)→w'.heap[w.heap.size]? =some (.cells Bo 26 (0,0)):=fun w' h=>(h.block _ (Array.getElem?_eq_some_iff.1 HP.out.z).1 (by have:=bq.out; simp; omega)).trans HP.out.z
      have uH:=HP.out.rd
      obtain ⟨i0,hi0,hz0,hz1,hz2⟩:=QJ
      go_upto_region 11 with fail
      refine dY (by kernel_rfl) rfl ?_
      refine dN 0 5 [3] [[],[0],[],[2],[2,3],[0,1,2,3,4],[0,1,2,3,4,5],[0,1,2,3,4,5,6]] [[none],[none],[some false],[some false],[some true]] (iC (KW R W s) (KW R W s3)) (fun u u'=>dO (bo + 1) u u') [54,55,56,57,58] rfl rfl (by rfl) (by kernel_rfl) (by kernel_rfl) (by kernel_rfl) (by kernel_rfl) (by kernel_rfl) (by rfl) (fun _=>dO.refl _ _) (by rfl) ⟨uH.below (below_drewN (Below.refl _ _) 1),aH (below_drewN (Below.refl _ _) 1)⟩ ?_
      simp only [List.take_succ_cons,List.take_zero,List.drop_zero,List.drop_succ_cons,jR,List.map_cons,List.map_nil]
      apply aI.step
      case aG=>
       intro c A w' hok hC hO hD
       have e9:=hO 9 (by rfl)
       simp [Act.eval] at e9
       simp [aC,aB,au,Act.eval,Region.binds] at hD
       simp [go_sem,gd,Oper.wp,hD,e9]
       exact aA.mk (dO.refl _ _) (iC.skip (by rfl) hC) (aB.mk _ _)
      apply aI.step
      case aG=>
       intro c A w' hok' hC hO hD
       obtain ⟨x',rfl⟩:=hC.bits
       have hb:=KD w' (by cases x'; exact (show KW R W _ w' from hC).2; exact (show KW R W _ w' from hC).2)
       have z2:w'.cell? ⟨bo,1,none⟩=some (.slice av lt.length cv):=aj hb rfl
       simp [aC,aB,au,Act.eval,Region.binds] at hD
       simp [go_sem,gd,Oper.wp,hD,z2]
       exact aA.mk (dO.refl _ _) (iC.skip (by rfl) hC) (aB.mk _ _)
      apply aI.step
      case aG=>
       intro c A w' hok hC hO hD
       have e8:=hO 8 (by rfl)
       simp [Act.eval] at e8
       simp [aC,aB,au,Act.eval,Region.binds] at hD
       simp [go_sem,gd,Oper.wp,hD,e8]
       exact aA.mk (dO.refl _ _) (iC.skip (by rfl) hC) (aB.mk _ _)
      simp only [List.nil_append,List.cons_append]
      refine aI.some (fun v w'=> ∃x:eU,x.t=th∧v= .agg (eU.f x).toArray∧(x.t.Ok∧x.t.bZ.length≤x.dn)∧bJ W.heap.size w' (eU.I x)) (fun v w1 w' hle h=>by obtain ⟨x,h1,h2,h3,h4⟩:=h; exact ⟨x,h1,h2,h3,h4.next (hle.mono oD.out.2)⟩) ?_ ?_
      ·intro c A w' hok' hC hO hD
       obtain ⟨x',rfl⟩:=hC.bits
       obtain ⟨rfl,-⟩:=hok'
       have hC:KW R W s w':=hC
       simp [aC,aB,au,Act.eval,Region.binds] at hD
       simp [go_sem,gd,Oper.wp,hD]
       refine (Ra.out w' hC.1).mono ?_
       rintro e w6 ⟨⟨x,hx,rfl,hxo,hst⟩,h2,h3⟩
       exact aA.mk (fU h3 bq.out.2) (iC.fire (by rfl) ⟨h2,bD hC.2 h3⟩) ⟨x,hx,rfl,hxo,hst.mono hC.2.size⟩
      refine aI.some (fun v w'=> ∃(x:eU) (gg:Nat),v= .slice (some ⟨gg,0,none⟩) 1 1∧bo + 1≤gg∧w'.heap[gg]? =some (.cells (eU.f x).toArray 67 (0,0))∧x.t=th∧(x.t.Ok∧x.t.bZ.length≤x.dn)∧bJ W.heap.size w' (eU.I x)) (fun v w1 w' hle h=>by obtain ⟨x,a,h1,h2,h3,h4,h5,h6⟩:=h; exact ⟨x,a,h1,h2,(hle.2 a h2 (Array.getElem?_eq_some_iff.1 h3).1).trans h3,h4,h5,h6.next (hle.mono oD.out.2)⟩) ?_ ?_
      ·intro c A w' hok' hC hO hD
       obtain ⟨x',rfl⟩:=hC.bits
       obtain ⟨rfl,-⟩:=hok'
       have hC:KW R W s3 w':=hC
       simp [aC,au,Act.eval,Region.binds] at hD
       obtain ⟨x,hx,Q6,hxo,hst⟩:=hD
       unfold eU.f at Q6
       simp [go_sem,gd,Oper.wp,Q6]
       exact aA.mk (d:=_) (v:= .slice (some ⟨_,0,none⟩) 1 1) (aL (ah _ _)) (iC.skip (by rfl) (show KW R W s3 _ from ⟨hC.1.below (ah _ _),bD hC.2 (aH (ah _ _))⟩)) ⟨x,_,rfl,by have:=bq.out; have:=hC.2.size; omega,heap_alloc_new _ _,hx,hxo,hst.next (aL (ah _ _))⟩
      try simp only [List.nil_append,List.cons_append]
      refine aI.done ?_
      intro wz eY
      try simp only [List.drop_succ_cons,List.drop_zero]
      intro x0 h0 x1 h1 x2 h2 x3 h3 x4 h4
      have h1':=Eq.symm (show x1=_ from h1)
      subst h1'
      obtain ⟨x,gg,rfl,hgg,hgb,hxt,hxo,hxs⟩:=h4
      have Mf:=Lib.hid hxo
      have HXT:=Lib.hid hxt
      have HXS:=Lib.hid hxs
      clear h0 h1 h2 h3 hxo hxt hxs
      refine jm ?_
      go_simp
      have jT:Hid (KW R W s3 wz):=Lib.hid eY
      have rU:Hid (oQ W2.heap.size wz (.slice av lt.length cv) lt):=Lib.hid (HG.out.next (fU jT.out.2 (by have:=bq.out; have:=pR.out; omega)))
      have hszz:bo + 1≤wz.heap.size:=by have:=bq.out; have:=jT.out.2.size; omega
      have R7:W2.heap.size≤wz.heap.size:=by have:=oD.out.1; have:=jT.out.2.size; omega
      refine eu 5 [[],[0],[],[2],[2,3],[0,1,2,3,4],[0,1,2,3,4,5],[0,1,2,3,4,5,6]] rfl rfl rfl rfl rfl (by kernel_rfl) (by kernel_rfl) (by kernel_rfl) ?_
      refine wp_append_lies wz _ _ _ (by rfl) W2.heap.size 67 i0 _ 4 72 Tryz.underlying24 hi0 hz0 hz1 hz2 (by rfl) (by decide) (.slice av lt.length cv) lt.length (lt.flatMap eU.f) (by rfl) rU.out.own ⟨gg,0,none⟩ 1 1 (eU.f x) (by rfl) (by rfl) (World.news_of_block hgb) (by simp [eU.f,Value.oneCell']) (by decide) (by unfold maxLen; omega) (by omega) R7 wz.heap.size rfl ?_
      intro g4 cap4 w4 hown hgr hmv sS
      have MK:Hid (∀k,(Value.slice av lt.length cv).ownBlock=some k→W2.heap.size≤k∧k < W.heap.size):=Lib.hid (fun k hk=>HG.out.lt k hk)
      have wZ:Hid (dS W2.heap.size (Value.slice av lt.length cv).ownBlock wz (eU.I x)):=Lib.hid (oM HXS.out oD.out.1 (fun k hk=>(MK.out k hk).2))
      have wJ:=Lib.hid (rU.out.push (x:=x) wZ.out rfl hown hgr (by simpa using hmv))
      have jO:Hid (∀k,(Value.slice av lt.length cv).ownBlock=some k→bo + 1≤k):=Lib.hid (fun k hk=>Nat.le_trans pR.out (MK.out k hk).1)
      have Zr:Hid (Below W2.heap.size wz w4):=Lib.hid (iW hgr (fun k hk=>(MK.out k hk).1) R7)
      have dh:Hid (Below (bo + 1) wz w4):=Lib.hid (iW hgr jO.out hszz)
      have HR4:Hid (bn w4 R s3):=Lib.hid (BK jT.out.1 hgr (fun k hk=>by have h1:=jO.out k hk; have h2:=bq.out; omega))
      have Js:Hid (Below w.heap.size w w4):=Lib.hid ((HP.out.bl.trans (fu jT.out.2 (by have:=bq.out; omega) HP.out.bl.size)).trans (dh.out.mono (by have:=bq.out; omega)))
      have nN:Hid (w4.heap[bo]? =W.heap[bo]?):=Lib.hid ((dh.out.block _ (Nat.lt_succ_self _)).trans (jT.out.2.block _ (by have:=bq.out; omega) (by have:=bq.out; simp; omega)))
      have vw:Hid (w4.heap[w.heap.size]? =W.heap[w.heap.size]?):=Lib.hid ((dh.out.block _ (by have:=bq.out; omega)).trans (jT.out.2.block _ (by have:=bq.out; omega) (by have:=bq.out; simp; omega)))
      have wH:Hid (W.heap.size≤w4.heap.size):=Lib.hid (Nat.le_trans jT.out.2.size dh.out.size)
      have c2:w4.cell? ⟨bo,1,none⟩=some (.slice av (lt).length cv):=aj (nN.out.trans HP.out.blk) rfl
      have f2:w4.frozen? ⟨bo,1,none⟩=false:=aF (nN.out.trans HP.out.blk)
      clear hown hgr hmv sS KD KZ uH eY hgb hgg hi0 hz0 hz1 hz2
      refine eu 6 [[],[0],[],[2],[2,3],[0,1,2,3,4],[0,1,2,3,4,5],[0,1,2,3,4,5,6]] rfl rfl rfl rfl rfl (by kernel_rfl) (by kernel_rfl) (by kernel_rfl) ?_
      simp [go_sem,Oper.wp]
      refine eu 7 [[],[0],[],[2],[2,3],[0,1,2,3,4],[0,1,2,3,4,5],[0,1,2,3,4,5,6]] rfl rfl rfl rfl rfl (by kernel_rfl) (by kernel_rfl) (by kernel_rfl) ?_
      simp [go_sem,Oper.wp,c2,f2]
      refine fM rfl ?_
      go_simp
      generalize hW:World.setCell w4 _ _=WT
      have Ev:Hid (Pq w R bo WT (.slice bY l.length bM) (.slice (some ⟨g4,0,none⟩) (lt.length + 1) cap4) s3):=Lib.hid (by rw [← hW]; exact HP.out.put HR4.out Js.out vw.out nN.out wH.out 1 _ _ _ rfl)
      have Yi:Hid (oQ W2.heap.size WT (.slice (some ⟨g4,0,none⟩) (lt.length + 1) cap4) (lt++[x])):=Lib.hid (by rw [← hW]; exact wJ.out.next (bH w4 ⟨bo,1,none⟩ _ pR.out))
      have HAN:Hid (dO (bo + 1) W2 WT):=Lib.hid (by
       have h1:dO (bo + 1) W2 wz:=HA.out.trans (fU jT.out.2 bq.out.2)
       have h2:dO (bo + 1) W2 w4:=h1.tT Zr.out
       rw [← hW]; exact h2.trans (bH w4 ⟨bo,1,none⟩ _ (Nat.lt_succ_self _)))
      clear hW c2 f2 wJ jO MK dh HR4 Js nN vw wH HG HA bq hszz R7 HP wZ jT rU Zr
      have Cn:Hid (∀y ∈ lt++[x],y.t.Ok∧y.t.bZ.length≤y.dn):=Lib.hid (fun y hy=>by
       rcases List.mem_append.1 hy with hy | hy
       ·exact gq.out y hy
       ·rw [List.mem_singleton.1 hy]; exact Mf.out)
      have Cq:Hid (jS R.ts f ((lt++[x]).map (·.t)) s3=qT):=Lib.hid (by rw [List.map_append,List.map_singleton,HXT.out]; exact rJ.out)
      go_wp2_with fail
      go_roundg s3.mu
      case rel=>exact ⟨f,lt++[x],s3,_,by rw [List.length_append,List.length_singleton]; go_num,rfl,by have h1:=HF.out.1; have h2:s3.mu < s.mu:=E8.out; omega,Cq.out,Ev.out,HAN.out,Yi.out,Cn.out,by have h1:=HF.out.2; have h2:s3.mu < s.mu:=E8.out; simp only [List.length_append,List.length_singleton]; omega⟩
      case measure=>exact E8.out
   case rest=>
    obtain ⟨lt,s4,vT,Od,hp,ha,hg,hok,hln⟩:=hcut
    obtain ⟨W8,rfl⟩: ∃W:World,W=wc:=⟨_,rfl⟩
    obtain ⟨dV,bW,hv,Kh,Kl⟩:=hg.says hok
    subst hv
    subst Od
    have jl:=Lib.hid hp
    have iY:Hid ((lt.map (·.t)).length=lt.length):=Lib.hid (List.length_map _)
    have HST:Hid (l.length≤bM∧(lt.map (·.t)).length≤bW∧bJ (bo + 1) W8 (fun w2=>kg w2 w2.heap.size l bY 0∧jZ w2 w2.heap.size (lt.map (·.t)) dV 0)):=Lib.hid ⟨HD2.out.1,by rw [iY.out]; exact Kh,fun w2 h2=>⟨HD2.out.2 w2 (ha.trans h2),Kl w2 (h2.mono (by have:=HP.out.lt; omega))⟩⟩
    have eP:Hid ((lt.map (·.t)).length + s4.mu≤4097):=Lib.hid (by rw [iY.out]; exact hln)
    clear hp ha hg hok hln Kh Kl HD2 iY HP Rn
    have iX:Hid (res=Fj ⟨l,lt.map (·.t)⟩ s4):=Sy
    clear Sy
    generalize lt.map (·.t)=th at *
    cases s4 with
    | bad n=>
      have iX:Hid (res=(⟨[],[]⟩,3,n)):=iX
      obtain ⟨pos,bad,⟨hp,hp2,hl,Sb,hbr⟩,HS,⟨bL,bK⟩,c0,c1,c2,f1,f2⟩:=jl.out.rd.open
      obtain ⟨rfl,hn1,hn2⟩:=HS.out
      have hq2:decide ((0:Int) < bad)=true:=decide_eq_true (by omega)
      have pR:Hid (R.br < W8.heap.size):=Lib.hid Sb
      clear HS f1 f2 c0 c1
      go_upto_region 13 with fail
      obtain ⟨WR,hWR⟩: ∃WR,WR=W8:=⟨_,rfl⟩
      have Yq:=Lib.hid jl.out.z
      have HBR:=Lib.hid jl.out.bl
      have hne:w.heap.size < R.br:=by have:=jl.out.lt; omega
      rw [← hWR] at c2 pR Yq HBR ⊢
      clear hWR
      have KP: ∀(x:Bool) w',iC (fun w'=>w'=WR.drewN 1) (fun w'=>w'=(WR.drewN 1).setCells w.heap.size 0 [.slice none 0 0,.slice none 0 0]) [x] w'→w'.cell? ⟨R.br,2,none⟩=some (.int .i64 bad):=fun x w' h=>by
       cases x
       ·have h:w'=_:=h
        rw [h]; exact c2
       ·have h:w'=_:=h
        rw [h]; exact (World.cell?_of_block (a:=⟨R.br,2,none⟩) ((aP w.heap.size _ 0 (WR.drewN 1)).block _ pR.out (by simp; omega))).trans c2
      refine dY (by kernel_rfl) rfl ?_
      refine dN 0 8 [5] [[],[],[1],[1,2],[1,2,3],[0],[0,5],[0,1,2,3,4,5,6]] [[some false],[none],[none],[none],[none],[some false],[some true],[some true]] (iC (fun w'=>w'=WR.drewN 1) (fun w'=>w'=(WR.drewN 1).setCells w.heap.size 0 [.slice none 0 0,.slice none 0 0])) (fun _ _=>True) [66,67,68,69,70,3,4] rfl rfl (by rfl) (by kernel_rfl) (by kernel_rfl) (by kernel_rfl) (by kernel_rfl) (by kernel_rfl) (by rfl) (fun _=>trivial) (by rfl) rfl ?_
      simp only [List.take_succ_cons,List.take_zero,List.drop_zero,List.drop_succ_cons,jR,List.map_cons,List.map_nil]
      apply aI.step
      case aG=>
       intro c A w' hok hC hO hD
       simp [aC,aB,au,Act.eval,Region.binds] at hD
       simp [go_sem,gd,Oper.wp,hD]
       exact aA.mk trivial (iC.skip (by rfl) hC) (aB.mk _ _)
      apply aI.step
      case aG=>
       intro c A w' hok hC hO hD
       have e8:=hO 8 (by rfl)
       simp [Act.eval] at e8
       simp [aC,aB,au,Act.eval,Region.binds] at hD
       simp [go_sem,gd,Oper.wp,hD,e8]
       exact aA.mk trivial (iC.skip (by rfl) hC) (aB.mk _ _)
      apply aI.step
      case aG=>
       intro c A w' hok hC hO hD
       simp [aC,aB,au,Act.eval,Region.binds] at hD
       simp [go_sem,gd,Oper.wp,hD]
       exact aA.mk trivial (iC.skip (by rfl) hC) (aB.mk _ _)
      apply aI.step
      case aG=>
       intro c A w' hok hC hO hD
       simp [aC,aB,au,Act.eval,Region.binds] at hD
       simp [go_sem,gd,Oper.wp,hD]
       exact aA.mk trivial (iC.skip (by rfl) hC) (aB.mk _ _)
      simp only [List.nil_append,List.cons_append]
      apply aI.step
      case aG=>
       intro c A w' hok hC hO hD
       obtain ⟨x,rfl⟩:=hC.bits
       have hb:=KP x w' hC
       simp [aC,aB,au,Act.eval,Region.binds] at hD
       simp [go_sem,gd,Oper.wp,hD,hb]
       exact aA.mk trivial (iC.skip (by rfl) hC) (aB.mk _ _)
      refine aI.some (fun _ _=>True) (fun _ _ _ _ _=>trivial) ?_ ?_
      ·intro c A w' hok hC hO hD
       obtain ⟨x,rfl⟩:=hC.bits
       obtain ⟨rfl,-⟩:=hok
       have hC:w'=_:=hC
       have e2:=hO 2 (by rfl)
       simp [Act.eval] at e2
       simp [aC,aB,au,Act.eval,Region.binds] at hD
       simp only [gd,if_true]
       refine wp_store_mid _ _ _ (by rfl) w.heap.size 0 ([.slice none 0 0,.slice none 0 0]).toArray (by simp [Act.eval,e2]) (by simp [Act.eval,hD]) (by rw [hC]; exact nW Yq.out (Nat.le_refl 2)) Mq (by simp [Value.oneCell']) ?_
       exact aA.yU trivial (iC.fire (by rfl) (by rw [hC])) trivial
      apply aI.step
      case aG=>
       intro c A w' hok hC hO hD
       simp [aC,aB,au,Act.eval,Region.binds] at hD
       simp [go_sem,gd,Oper.wp,hD]
       exact aA.mk trivial (iC.skip (by rfl) hC) (aB.mk _ _)
      apply aI.step
      case aG=>
       intro c A w' hok hC hO hD
       simp [aC,aB,au,Act.eval,Region.binds] at hD
       simp [go_sem,gd,Oper.wp,hD]
       exact aA.mk trivial (iC.skip (by rfl) hC) (aB.mk _ _)
      try simp only [List.nil_append,List.cons_append]
      refine aI.done ?_
      intro w9 xE
      try simp only [List.drop_succ_cons,List.drop_zero]
      intro x0 h0 x1 h1 x2 h2 x3 h3 x4 h4 x5 h5 x6 h6 x7 h7
      have h6':=Eq.symm (show x6=_ from h6)
      subst h6'
      have yO:=Eq.symm (show x7=_ from h7)
      subst yO
      clear h0 h1 h2 h3 h4 h5 h6 h7 KP
      refine jm ?_
      refine fM rfl ?_
      have Gu:Hid (w9=(WR.drewN 1).setCells w.heap.size 0 [.slice none 0 0,.slice none 0 0]):=Lib.hid xE
      clear xE
      have iK:w9.heap[w.heap.size]? =some (.cells #[.slice none 0 0,.slice none 0 0] 26 (0,0)):=by rw [Gu.out]; exact iw Yq.out rfl
      have y0:w9.cell? ⟨w.heap.size,0,none⟩=some (.slice none 0 0):=aj iK rfl
      have y1:w9.cell? ⟨w.heap.size,1,none⟩=some (.slice none 0 0):=aj iK rfl
      have Z7:Hid (Below w.heap.size w w9):=Lib.hid (by rw [Gu.out]; exact MZ (below_drewN HBR.out 1) 0 _)
      clear iK
      go_simp
      go_wp2_with fail
      exact bodyPost_ret (v:= .tuple #[.agg #[.slice none 0 0,.slice none 0 0],.int .i64 3,.int .i64 _]) (by simp [results,Tryz.results18,go_sem,y0,y1]) rfl (yV iX.out Z7.out (fun hn _=>absurd hn (by decide)))
    | go r=>
      have iX:Hid (res=(⟨l,th⟩,0,0)):=iX
      have am5:Hid (th.length≤4096):=Lib.hid (by have:=eP.out; unfold St.mu St.good at this; simp at this; omega)
      obtain ⟨pos,bad,⟨hp,hp2,hl,Sb,hbr⟩,HS,⟨bL,bK⟩,c0,c1,c2,f1,f2⟩:=jl.out.rd.open
      obtain ⟨rfl,hd⟩:=HS.out
      clear HS f1 f2 c0 c1 hd bL bK
      obtain ⟨d0,d1,-⟩:=jl.out.cells
      obtain ⟨y0,y1,g0,g1⟩:=XJ jl.out.z
      have hlt:w.heap.size < W8.heap.size:=by have:=jl.out.lt; omega
      have wO:Hid (∀W,(W8.setCell ⟨w.heap.size,0,none⟩ (.slice bY l.length bM)).setCell ⟨w.heap.size,1,none⟩ (.slice dV th.length bW)=W→F7 5000 w res (.returned (.tuple #[.agg #[.slice bY l.length bM,.slice dV th.length bW],.int .i64 0,.int .i64 0])) W):=Lib.hid (fun W hW=>by
       subst hW
       have hb:=jl.out.lt
       have h1:dO (bo + 1) W8 (W8.setCell ⟨w.heap.size,0,none⟩ (.slice bY l.length bM)):=bH W8 ⟨w.heap.size,0,none⟩ _ (by show w.heap.size < bo + 1; omega)
       have h2:dO (bo + 1) W8 ((W8.setCell ⟨w.heap.size,0,none⟩ (.slice bY l.length bM)).setCell ⟨w.heap.size,1,none⟩ (.slice dV th.length bW)):=h1.trans (bH _ ⟨w.heap.size,1,none⟩ _ (by show w.heap.size < bo + 1; omega))
       exact O4 iX.out rfl rfl ⟨by have:=lS.out; show l.length≤4096; omega,am5.out,HST.out.1,HST.out.2.1⟩ ((HST.out.2.2.next h2).now) (bT (bT jl.out.bl _ _ (Nat.le_refl _)) _ _ (Nat.le_refl _)))
      go_wp2_with fail
      exact bodyPost_ret (v:= .tuple #[.agg #[.slice bY l.length bM,.slice dV th.length bW],.int .i64 0,.int .i64 0]) (by simp [results,Tryz.results18,go_sem,y0,y1,hlt]) rfl (wO.out _ rfl)
 ·have hq:(((sc.2.1:Nat):Int) == 0)=false:=by rw [beq_eq_false_iff_ne]; omega
  have iX:=Lib.hid (qI.out h0)
  have y0:w1.cell? ⟨w.heap.size,0,none⟩=some (.slice none 0 0):=aj HZ1.out rfl
  have y1:w1.cell? ⟨w.heap.size,1,none⟩=some (.slice none 0 0):=aj HZ1.out rfl
  have f0:w1.frozen? ⟨w.heap.size,0,none⟩=false:=aF HZ1.out
  have f1:w1.frozen? ⟨w.heap.size,1,none⟩=false:=aF HZ1.out
  go_wp2_with fail
  exact bodyPost_ret (v:= .tuple #[.agg #[.slice none 0 0,.slice none 0 0],.int .i64 (sc.2.1:Int),.int .i64 (sc.2.2:Int)]) (by simp [results,Tryz.results18,go_sem,y0,y1,hlt]) rfl (yV iX.out (bT (bT HB1.out _ _ (Nat.le_refl _)) _ _ (Nat.le_refl _)) (fun hn _=>absurd hn (by decide)))
end Go.Proofs.YtehnipchbmjlhaaGreatDoor
end
