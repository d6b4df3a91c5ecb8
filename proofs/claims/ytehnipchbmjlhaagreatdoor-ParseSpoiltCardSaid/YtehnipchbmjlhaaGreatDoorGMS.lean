/-
  Contract of the maker's decls: nine shaped declarations in a new block.
  Contract of the maker's Loose: it returns a shaped program that lies in new memory.
  Bytes as an argument.
-/
import Derived.Test.YtehnipchbmjlhaaGreatDoorGMR
import Derived.Test.YtehnipchbmjlhaaGreatDoorGMC
import Derived.Deep.LoopGhost
import Derived.Test.YtehnipchbmjlhaaGreatDoorGMP
import Derived.Test.YtehnipchbmjlhaaGreatDoorGMO
import Derived.ProofKit
import Derived.OpenShut
set_option linter.unusedSimpArgs false
set_option linter.unusedVariables false
set_option maxHeartbeats 40000000
set_option maxRecDepth 1000000
section
namespace Go.Proofs.YtehnipchbmjlhaaGreatDoor
open Go.RowKit
open Md
def J5:List De:=[⟨1,0,⟨#[120]⟩,0,0,⟨#[]⟩⟩,⟨1,0,⟨#[121]⟩,0,1,⟨#[]⟩⟩,⟨2,0,⟨#[118]⟩,0,0,⟨#[]⟩⟩,⟨1,0,⟨#[113]⟩,2,0,⟨#[]⟩⟩,⟨3,0,⟨#[109]⟩,0,0,⟨#[]⟩⟩,⟨3,0,⟨#[110]⟩,0,0,⟨#[]⟩⟩,⟨4,0,⟨#[114]⟩,0,0,⟨#[]⟩⟩,⟨5,0,⟨#[99]⟩,0,0,⟨#[109]⟩⟩,⟨6,0,⟨#[102]⟩,0,0,⟨#[]⟩⟩]
theorem Wm:(Tryz.prog.info? 62).map (fun i=>(i.zero,i.size,i.bytes))=some (some (.agg Mr),6,64):=by kernel_rfl
theorem Wi: ∃i0,Tryz.prog.info? 62=some i0∧i0.zero=some (.agg Mr)∧i0.size=6∧i0.bytes=64:=info_parts Wm
theorem VH (x:De): ∀u ∈ gF x,u.oneCell'=true:=by
 intro u hu; simp [gF] at hu
 rcases hu with rfl | rfl | rfl | rfl | rfl | rfl <;> rfl
theorem Wx: ∀d ∈ J5,d.Ok∧jv d=true:=by
 intro d hd
 simp only [J5,List.mem_cons,List.not_mem_nil,or_false] at hd
 rcases hd with rfl | rfl | rfl | rfl | rfl | rfl | rfl | rfl | rfl <;> exact ⟨⟨by unfold aM; decide,by unfold aM; decide,by unfold maxLen; decide,by unfold aM; decide,by unfold aM; decide,by unfold maxLen; decide⟩,by rfl⟩
def ZH (w:World) (e:Ending) (w':World):Prop:= ∃g,e= .returned (.slice (some ⟨g,0,none⟩) 9 9)∧w.heap.size≤g∧w'.heap[g]? =some (.cells (J5.flatMap gF).toArray 62 (0,0))∧Below w.heap.size w w'
theorem Qt (w:World):Calls Tryz.prog 27 #[] w (ZH w):=by
 go_enter Tryz.func27,Tryz.ntmps27
 go_wp2
 go_ret
 refine ⟨_,rfl,?_,?_,?_⟩
 ·exact Nat.le_refl _
 ·exact heap_alloc_new _ _
 ·exact ah _ _
theorem Grow.E9 {α:Type} {f:α→List Value} {m:Nat} {ty:TypeId} {B:Nat} {w w':World} {v:Value} {xs:List α} {g:Option Nat} (h:Grow f m (fun _ _=>True) ty B w v xs) (ha:nG B g w w') (hne: ∀k,v.ownBlock=some k→some k≠g):Grow f m (fun _ _=>True) ty B w' v xs:=by
 refine ⟨⟨h.own.1,?_⟩,fun x hx _ _=>trivial⟩
 rcases h.own.2 with h1 | ⟨g',cap,cur,h1,h2,h3,h4⟩
 ·exact .inl h1
 ·exact .inr ⟨g',cap,cur,h1,h2,(ha.2 g' h2 (hne g' (by rw [h1]; rfl)) (Array.getElem?_eq_some_iff.1 h3).1).trans h3,h4⟩
theorem Grow.made {α:Type} {f:α→List Value} {m:Nat} {ty:TypeId} {B:Nat} {W:World} {g n:Nat} {xs:List α} (hf: ∀x,(f x).length=m) (h:W.heap[g]? =some (.cells (xs.flatMap f).toArray ty (0,0))) (hB:B≤g) (hn:xs.length=n) (hm:n≤maxLen):Grow f m (fun _ _=>True) ty B W (.slice (some ⟨g,0,none⟩) n n) xs:=by
 subst hn
 have hl:=Dj hf xs
 refine ⟨⟨hl,.inr ⟨g,xs.length,_,rfl,hB,h,Nat.le_refl _,hm,by simpa using hl,?_⟩⟩,fun x hx _ _=>trivial⟩
 exact List.take_of_length_le (by simpa using Nat.le_of_eq hl)
theorem Ia {α:Type} {f:α→List Value} {m:Nat} (hf: ∀x,(f x).length=m): ∀(xs:List α) (k:Nat) (x x':α) (j:Nat) (u:Value),xs[k]? =some x→j < m→(f x).set j u=f x'→(xs.flatMap f).set (k * m + j) u=(xs.set k x').flatMap f
 | [],_,_,_,_,_,h,_,_=>by simp at h
 | y ::xs,0,x,x',j,u,h,hj,hu=>by
   simp at h; subst h
   rw [Nat.zero_mul,Nat.zero_add,List.flatMap_cons,List.set_append_left _ _ (by rw [hf]; exact hj),hu]; rfl
 | y ::xs,k + 1,x,x',j,u,h,hj,hu=>by
   have ih:=Ia hf xs k x x' j u (by simpa using h) hj hu
   have e:(k + 1) * m + j=m + (k * m + j):=by rw [Nat.add_mul]; omega
   rw [List.flatMap_cons,List.set_append_right _ _ (by rw [hf,e]; omega),hf,e,Nat.add_sub_cancel_left,ih]; rfl
theorem Grow.set {α:Type} {f:α→List Value} {m:Nat} {ty:TypeId} {B:Nat} {w:World} {g n cap k j:Nat} {u:Value} {xs:List α} {x x':α} (hf: ∀x,(f x).length=m) (h:Grow f m (fun _ _=>True) ty B w (.slice (some ⟨g,0,none⟩) n cap) xs) (hk:xs[k]? =some x) (hj:j < m) (hu:(f x).set j u=f x'):
 Grow f m (fun _ _=>True) ty B (w.setCell ⟨g,k * m + j,none⟩ u) (.slice (some ⟨g,0,none⟩) n cap) (xs.set k x'):=by
 refine ⟨⟨by rw [Dj hf,],?_⟩,fun x hx _ _=>trivial⟩
 rcases h.own.2 with ⟨h1,-⟩ | ⟨g',cap',cur,h1,h2,h3,h4,h5,h6,h7⟩
 ·cases h1
 ·injection h1 with e1 e2 e3; injection e1 with e1; injection e1 with e1; subst e1; subst e3; subst e2
  refine .inr ⟨g,cap,cur.setIfInBounds (k * m + j) u,by rw [List.length_set],h2,aW h3 u,by rw [List.length_set]; exact h4,h5,by simpa using h6,?_⟩
  rw [← Ia hf xs k x x' j u hk hj hu,← h7,Array.toList_setIfInBounds,List.length_set,List.take_set]
structure PD (T:Tp) (w1:World) (pb:Nat) (W:World) (vD:Value) (ds:List De):Prop where
 box:W.heap[pb]? =some (.cells #[vD,.slice none 0 0] 26 (0,0))
 gd:oh (pb + 1) W vD ds
 ok: ∀d ∈ ds,d.Ok∧jv d=true
 mi:dI W T
 km:Mk T w1 W
 lt:T.bt < w1.heap.size∧T.bm < w1.heap.size∧T.B0≤w1.heap.size∧w1.heap.size≤pb
section
variable {T:Tp} {w1 W W':World} {pb:Nat} {vD:Value} {ds:List De}
theorem PD.sz (h:PD T w1 pb W vD ds):pb + 1≤W.heap.size:=(Array.getElem?_eq_some_iff.1 h.box).1
theorem PD.go (h:PD T w1 pb W vD ds) (hM:Mk T W W') (hI:dI W' T):PD T w1 pb W' vD ds where
 box:=(hM.block pb h.sz (by have:=h.lt; omega) (by have:=h.lt; omega)).trans h.box
 gd:=h.gd.next (hM.zm (by have:=h.lt; omega) (by have:=h.lt; omega))
 ok:=h.ok
 mi:=hI
 km:=h.km.trans hM
 lt:=h.lt
theorem PD.put {yK:Value} {ds':List De} (h:PD T w1 pb W vD ds) (hg:oh (pb + 1) W yK ds') (hok: ∀d ∈ ds',d.Ok∧jv d=true):PD T w1 pb (W.setCell ⟨pb,0,none⟩ yK) yK ds' where
 box:=by rw [aW h.box]; rfl
 gd:=hg.next (bH _ _ _ (Nat.lt_succ_self _))
 ok:=hok
 mi:=h.mi.set _ _ (by have:=h.lt; show T.B0≤pb; omega) (by have:=h.lt; show pb≠_; omega) (by have:=h.lt; show pb≠_; omega)
 km:=h.km.set _ _ (by have:=h.lt; show _≤pb; omega)
 lt:=h.lt
theorem PD.put' {v0 yK:Value} {ds':List De} (hb:W.heap[pb]? =some (.cells #[v0,.slice none 0 0] 26 (0,0))) (mi:dI W T) (km:Mk T w1 W) (lt:T.bt < w1.heap.size∧T.bm < w1.heap.size∧T.B0≤w1.heap.size∧w1.heap.size≤pb) (hg:oh (pb + 1) W yK ds') (hok: ∀d ∈ ds',d.Ok∧jv d=true):PD T w1 pb (W.setCell ⟨pb,0,none⟩ yK) yK ds' where
 box:=by rw [aW hb]; rfl
 gd:=hg.next (bH _ _ _ (Nat.lt_succ_self _))
 ok:=hok
 mi:=mi.set _ _ (by show T.B0≤pb; omega) (by show pb≠_; omega) (by show pb≠_; omega)
 km:=km.set _ _ (by show _≤pb; omega)
 lt:=lt
theorem PD.line {k:Nat} {d:De} {l:Int} {g n cap:Nat} (h:PD T w1 pb W (.slice (some ⟨g,0,none⟩) n cap) ds) (hk:ds[k]? =some d) (hl:aM l):PD T w1 pb (W.setCell ⟨g,k * 6 + 1,none⟩ (.int .i64 l)) (.slice (some ⟨g,0,none⟩) n cap) (ds.set k {d with line:=l}) where
 box:=(aN W _ _ rfl (by have:=(h.gd.lt g rfl).1; show g≠_; omega)).trans h.box
 gd:=h.gd.set yX hk (by decide) rfl
 ok:=fun x hx=>by
  rcases List.mem_or_eq_of_mem_set hx with hx | rfl
  ·exact h.ok x hx
  ·have:=h.ok d (List.mem_of_getElem? hk)
   exact ⟨⟨this.1.1,hl,this.1.2.2⟩,this.2⟩
 mi:=h.mi.set _ _ (by have:=h.lt; have:=(h.gd.lt g rfl).1; show T.B0≤g; omega) (by have:=h.lt; have:=(h.gd.lt g rfl).1; show g≠_; omega) (by have:=h.lt; have:=(h.gd.lt g rfl).1; show g≠_; omega)
 km:=h.km.set _ _ (by have:=h.lt; have:=(h.gd.lt g rfl).1; show _≤g; omega)
 lt:=h.lt
theorem PD.NR {l:Int} (h:PD T w1 pb W vD ds) (hl:aM l):PD T w1 pb (W.setCell ⟨T.bm,1,none⟩ (.int .i64 l)) vD ds:=
 h.go ((Mk.refl T W).Ic _ _) (h.mi.line hl)
theorem PD.size_le (h:PD T w1 pb W vD ds): ∀k,vD.ownBlock=some k→k < W.heap.size:=fun k hk=>(h.gd.lt k hk).2
end
def UE:Array Value:= #[.string ⟨#[116]⟩,.string ⟨#[117]⟩,.string ⟨#[119]⟩,.string ⟨#[122]⟩,.string ⟨#[122,53]⟩]
theorem Z5:Aa 5 UE:=fun j hj=>by
 have:j=0∨j=1∨j=2∨j=3∨j=4:=by omega
 rcases this with rfl | rfl | rfl | rfl | rfl <;> exact ⟨_,rfl,by unfold maxLen; decide,by rfl⟩
def WB:Nat:=1000000000000
def ShT (t:Th):Prop:=Tk.gM t.nm.data.toList=true∧(∀s ∈ t.bZ,Tk.gM s.data.toList=true)∧vg WB t.body∧t.bZ.length≤10
structure PI (T:Tp) (w1:World) (pb nb:Nat) (W:World) (vD:Value) (ds:List De) (vT:Value) (lT:List eU):Prop where
 box:W.heap[pb]? =some (.cells #[vD,vT] 26 (0,0))
 nms:W.heap[nb]? =some (.cells UE 9 (0,0))
 gd:oh (pb + 1) W vD ds
 PK: ∀k,vD.ownBlock=some k→k < nb
 gt:oQ (nb + 1) W vT lT
 Lm: ∀d ∈ ds,d.Ok∧jv d=true
 Iz: ∀x ∈ lT,(x.t.Ok∧x.t.bZ.length≤x.dn)∧ShT x.t
 mi:dI W T
 km:Mk T w1 W
 lt:T.bt < w1.heap.size∧T.bm < w1.heap.size∧T.B0≤w1.heap.size∧w1.heap.size≤pb∧pb < nb
section
variable {T:Tp} {w1 W W':World} {pb nb:Nat} {vD vT:Value} {ds:List De} {lT:List eU}
theorem PD.pi (h:PD T w1 pb W vD ds):PI T w1 pb W.heap.size (W.alloc (.cells UE 9)) vD ds (.slice none 0 0) [] where
 box:=(ah W (.cells UE 9)).block pb h.sz |>.trans h.box
 nms:=heap_alloc_new _ _
 gd:=h.gd.next (aL (ah _ _))
 PK:=h.size_le
 gt:=Grow.nil _ _ _ _ _ _
 Lm:=h.ok
 Iz:=by simp
 mi:=h.mi.below (ah _ _)
 km:=h.km.trans (Mk.of_below (ah _ _))
 lt:=⟨h.lt.1,h.lt.2.1,h.lt.2.2.1,h.lt.2.2.2,h.sz⟩
theorem PI.sz (h:PI T w1 pb nb W vD ds vT lT):nb + 1≤W.heap.size:=(Array.getElem?_eq_some_iff.1 h.nms).1
theorem PI.go (h:PI T w1 pb nb W vD ds vT lT) (hM:Mk T W W') (hI:dI W' T):PI T w1 pb nb W' vD ds vT lT where
 box:=(hM.block pb (by have:=h.sz; have:=h.lt; omega) (by have:=h.lt; omega) (by have:=h.lt; omega)).trans h.box
 nms:=(hM.block nb h.sz (by have:=h.lt; omega) (by have:=h.lt; omega)).trans h.nms
 gd:=h.gd.next (hM.zm (by have:=h.lt; omega) (by have:=h.lt; omega))
 PK:=h.PK
 gt:=h.gt.next (hM.zm (by have:=h.lt; omega) (by have:=h.lt; omega))
 Lm:=h.Lm
 Iz:=h.Iz
 mi:=hI
 km:=h.km.trans hM
 lt:=h.lt
theorem PI.NR {l:Int} (h:PI T w1 pb nb W vD ds vT lT) (hl:aM l):PI T w1 pb nb (W.setCell ⟨T.bm,1,none⟩ (.int .i64 l)) vD ds vT lT:=
 h.go ((Mk.refl T W).Ic _ _) (h.mi.line hl)
theorem PI.push {x:eU} {g cap n:Nat} (h:PI T w1 pb nb W vD ds vT lT) (hx:dS (nb + 1) vT.ownBlock W (eU.I x)) (hok:(x.t.Ok∧x.t.bZ.length≤x.dn)∧ShT x.t) (hn:n=lT.length + 1) (hown:W'.ownsRow (nb + 1) 67 4 (.slice (some ⟨g,0,none⟩) n cap) n (lT.flatMap eU.f++eU.f x)) (hg:W.grownBy W' vT.ownBlock) (hmv:vT.ownBlock=some g∨g=W.heap.size):
 PI T w1 pb nb (W'.setCell ⟨pb,1,none⟩ (.slice (some ⟨g,0,none⟩) n cap)) vD ds (.slice (some ⟨g,0,none⟩) n cap) (lT++[x]):=by
 have hb:Below (nb + 1) W W':=mY hg (fun k hk=>(h.gt.lt k hk).1) h.sz
 have hbx:W'.heap[pb]? =some (.cells #[vD,vT] 26 (0,0)):=(hb.block pb (by have:=h.lt; omega)).trans h.box
 refine ⟨by rw [aW hbx]; rfl,(aN W' _ _ rfl (by have:=h.lt; show pb≠_; omega)).trans ((hb.block nb (Nat.lt_succ_self _)).trans h.nms),?_,h.PK,?_,h.Lm,?_,?_,?_,h.lt⟩
 ·refine (h.gd.E9 (w':=W') (g:=vT.ownBlock) (nG.wI hg) (fun k hk e=> ?_)).next (bH _ _ _ (Nat.lt_succ_self _))
  have:=h.PK k hk; have:=(h.gt.lt k e.symm).1; omega
 ·exact (h.gt.push hx hn hown hg hmv).next (bH _ _ _ (by have:=h.lt; show pb < _; omega))
 ·intro y hy
  rcases List.mem_append.1 hy with hy | hy
  ·exact h.Iz y hy
  ·rw [List.mem_singleton.1 hy]; exact hok
 ·exact (h.mi.tT hb (by have:=h.lt; omega) (by have:=h.lt; omega) (by have:=h.lt; omega)).set _ _ (by have:=h.lt; show T.B0≤pb; omega) (by have:=h.lt; show pb≠_; omega) (by have:=h.lt; show pb≠_; omega)
 ·exact (h.km.EN (hb.mono (by have:=h.lt; omega))).set _ _ (by have:=h.lt; show _≤pb; omega)
end
structure TI (T:Tp) (W0:World) (tb:Nat) (W:World) (nm:ByteArray) (line:Int) (vL:Value) (bZ:List ByteArray) (vB:Value):Prop where
 box:W.heap[tb]? =some (.cells #[.string nm,.int .i64 line,vL,vB] 67 (0,0))
 gl:qc W0.heap.size W vL bZ
 ne: ∀k,vL.ownBlock=some k→k≠tb
 ok:nU nm∧aM line∧(∀s ∈ bZ,nU s)∧bZ.length≤10
 mi:dI W T
 km:Mk T W0 W
 lt:T.bt < W0.heap.size∧T.bm < W0.heap.size∧T.B0≤W0.heap.size∧W0.heap.size≤tb
section
variable {T:Tp} {W0 W W':World} {tb:Nat} {nm:ByteArray} {line:Int} {vL vB:Value} {bZ:List ByteArray}
theorem TI.sz (h:TI T W0 tb W nm line vL bZ vB):tb + 1≤W.heap.size:=(Array.getElem?_eq_some_iff.1 h.box).1
theorem TI.go (h:TI T W0 tb W nm line vL bZ vB) (hM:Mk T W W') (hI:dI W' T):TI T W0 tb W' nm line vL bZ vB where
 box:=(hM.block tb h.sz (by have:=h.lt; omega) (by have:=h.lt; omega)).trans h.box
 gl:=h.gl.next (hM.zm (by have:=h.lt; omega) (by have:=h.lt; omega))
 ne:=h.ne
 ok:=h.ok
 mi:=hI
 km:=h.km.trans hM
 lt:=h.lt
theorem CS {B:Nat} (w:World) (a:Addr) (v:Value):nG B (some a.block) w (w.setCell a v):=nG.wI (cu w a v)
theorem TI.name {s:ByteArray} (h:TI T W0 tb W nm line vL bZ vB) (hs:nU s):TI T W0 tb (W.setCell ⟨tb,0,none⟩ (.string s)) s line vL bZ vB where
 box:=by rw [aW h.box]; rfl
 gl:=h.gl.E9 (CS _ _ _) (fun k hk e=>h.ne k hk (by injection e))
 ne:=h.ne
 ok:=⟨hs,h.ok.2⟩
 mi:=h.mi.set _ _ (by have:=h.lt; show T.B0≤tb; omega) (by have:=h.lt; show tb≠_; omega) (by have:=h.lt; show tb≠_; omega)
 km:=h.km.set _ _ h.lt.2.2.2
 lt:=h.lt
theorem TI.body {v:Value} (h:TI T W0 tb W nm line vL bZ vB):TI T W0 tb (W.setCell ⟨tb,3,none⟩ v) nm line vL bZ v where
 box:=by rw [aW h.box]; rfl
 gl:=h.gl.E9 (CS _ _ _) (fun k hk e=>h.ne k hk (by injection e))
 ne:=h.ne
 ok:=h.ok
 mi:=h.mi.set _ _ (by have:=h.lt; show T.B0≤tb; omega) (by have:=h.lt; show tb≠_; omega) (by have:=h.lt; show tb≠_; omega)
 km:=h.km.set _ _ h.lt.2.2.2
 lt:=h.lt
theorem TI.mg {v0 Qv:Value} {mg:List ByteArray} (hb:W.heap[tb]? =some (.cells #[.string nm,.int .i64 line,v0,vB] 67 (0,0))) (hg:qc W0.heap.size W Qv mg) (hne: ∀k,Qv.ownBlock=some k→k≠tb) (hok:nU nm∧aM line∧(∀s ∈ mg,nU s)∧mg.length≤10) (mi:dI W T) (km:Mk T W0 W) (lt:T.bt < W0.heap.size∧T.bm < W0.heap.size∧T.B0≤W0.heap.size∧W0.heap.size≤tb):
 TI T W0 tb (W.setCell ⟨tb,2,none⟩ Qv) nm line Qv mg vB where
 box:=by rw [aW hb]; rfl
 gl:=hg.E9 (CS _ _ _) (fun k hk e=>hne k hk (by injection e))
 ne:=hne
 ok:=hok
 mi:=mi.set _ _ (by show T.B0≤tb; omega) (by show tb≠_; omega) (by show tb≠_; omega)
 km:=km.set _ _ lt.2.2.2
 lt:=lt
end
theorem Vl:(Tryz.prog.info? 67).map (fun i=>(i.zero,i.size,i.bytes))=some (some (.agg #[.string ⟨#[]⟩,.int .i64 0,.slice none 0 0,.slice none 0 0]),4,72):=by kernel_rfl
theorem Wq: ∃i0,Tryz.prog.info? 67=some i0∧i0.zero=some (.agg #[.string ⟨#[]⟩,.int .i64 0,.slice none 0 0,.slice none 0 0])∧i0.size=4∧i0.bytes=72:=info_parts Vl
theorem VZ:(Tryz.prog.info? 67).map (·.size)=some 4:=by kernel_rfl
theorem VG (x:eU): ∀u ∈ eU.f x,u.oneCell'=true:=by
 intro u hu; simp [eU.f] at hu
 rcases hu with rfl | rfl | rfl | rfl <;> rfl
theorem Wu:(Tryz.prog.info? 9).map (fun i=>(i.zero,i.size,i.bytes))=some (some (.string ⟨#[]⟩),1,16):=by kernel_rfl
theorem Wt: ∃i0,Tryz.prog.info? 9=some i0∧i0.zero=some (.string ⟨#[]⟩)∧i0.size=1∧i0.bytes=16:=info_parts Wu
end Go.Proofs.YtehnipchbmjlhaaGreatDoor
end
section
namespace Go.Proofs.YtehnipchbmjlhaaGreatDoor
open Go.RowKit
open Md
def WtP (p:Pr):Prop:=p.ds.length≤1000∧ ∀t ∈ p.ts,t.bZ.length≤10∧jU t.body≤WB
theorem wb2 {q:Nat} (h:q≤54):((q:Int)).toNat * GS ((2:Int)).toNat≤WB:=by
 have e:GS ((2:Int)).toNat=162000:=rfl
 rw [e,Int.toNat_natCast]; unfold WB; omega
theorem wb7 {q:Nat} (h:q≤54):((q:Int)).toNat * GS ((7:Int)).toNat≤WB:=by
 have e:GS ((7:Int)).toNat=9565938000:=rfl
 rw [e,Int.toNat_natCast]; unfold WB; omega
def LsP (w:World) (e':Ending) (w':World):Prop:= ∃(p:Pr) (bY dV:Option Addr) (bM bW:Nat),e'= .returned (.agg #[.slice bY p.ds.length bM,.slice dV p.ts.length bW])∧p.At w' bY dV∧p.ds.length≤bM∧p.ts.length≤bW∧(yx p=true∧p.ts.length≤5∧WtP p)∧Below w.heap.size w w'
def zTh:Array Value:= #[.string ⟨#[]⟩,.int .i64 0,.slice none 0 0,.slice none 0 0]
def Co:List ByteArray:=[⟨#[97]⟩,⟨#[98]⟩]
def YZ:Array Value:= #[.string ⟨#[97]⟩,.string ⟨#[120]⟩,.string ⟨#[116]⟩,.string ⟨#[107]⟩]
theorem YS:Aa 4 YZ:=fun j hj=>by
 have:j=0∨j=1∨j=2∨j=3:=by omega
 rcases this with rfl | rfl | rfl | rfl <;> exact ⟨_,rfl,by unfold maxLen; decide,by rfl⟩
def Uh:List ByteArray:=[⟨#[97]⟩,⟨#[98]⟩,⟨#[107]⟩,⟨#[107,49]⟩,⟨#[107,50]⟩]
theorem YP: ∀s ∈ Uh,nU s:=by
 intro s hs
 simp only [Uh,List.mem_cons,List.not_mem_nil,or_false] at hs
 rcases hs with rfl | rfl | rfl | rfl | rfl <;> exact ⟨by unfold maxLen; decide,by rfl⟩
theorem PU: ∀s ∈ Co,nU s:=by
 intro s hs
 simp only [Co,List.mem_cons,List.not_mem_nil,or_false] at hs
 rcases hs with rfl | rfl <;> exact ⟨by unfold maxLen; decide,by rfl⟩
theorem Qk (w:World) (zs:List Int) (ao:Option Addr) (cap:Nat) (hz:GY w w.heap.size zs ao) (hl:zs.length≤9223372036854775807):
 Calls Tryz.prog 9 #[.slice ao zs.length cap] w (LsP w):=by
 have HZ:=Lib.hid hz
 clear hz
 go_enter Tryz.func9,Tryz.ntmps9
 go_upto_region 3 with fail
 obtain ⟨w2,hw2⟩: ∃x,x=((w.alloc (.cells #[.slice none 0 0,.slice none 0 0] 26)).alloc (.cells #[.slice ao zs.length cap,.int .i64 0] 56)).alloc (.cells #[.pointer (some ⟨w.heap.size + 1,0,none⟩),.int .i64 0,.int .i64 (12 + 58 * ((zs.length:Int) % 5 / 4))] 58):=⟨_,rfl⟩
 rw [← hw2]
 obtain ⟨T,e0,e1,e2,e3,e4,e5⟩: ∃T:Tp,T.B0=w.heap.size∧w.heap.size + 1=T.bt∧w.heap.size + 1 + 1=T.bm∧T.ao=ao∧T.cap=cap∧T.zs=zs:=⟨⟨w.heap.size,w.heap.size + 1,w.heap.size + 1 + 1,ao,cap,zs,by omega,by omega,by omega⟩,rfl,rfl,rfl,rfl,rfl,rfl⟩
 obtain ⟨pb,hpb⟩: ∃pb,w.heap.size + 1 + 1 + 1=pb:=⟨_,rfl⟩
 rw [hpb,e2,e1]
 have hsz2:w2.heap.size=pb:=by rw [hw2,← hpb]; simp
 have HBW:Hid (Below w.heap.size w w2):=Lib.hid (by rw [hw2]; exact ((ah _ _).alloc (by simp) _).alloc (by simp <;> omega) _)
 have HR2:Hid (w2.heap[w.heap.size]? =some (.cells #[.slice none 0 0,.slice none 0 0] 26 (0,0))):=Lib.hid (by
  rw [hw2,heap_alloc_old _ _ (by simp <;> omega),heap_alloc_old _ _ (by simp <;> omega)]; exact heap_alloc_new _ _)
 have MI:Hid (dI w2 T):=Lib.hid (by
  have k1:w2.heap[T.bt]? =some (.cells #[.slice ao zs.length cap,.int .i64 0] 56 (0,0)):=by
   rw [hw2,← e1,heap_alloc_old _ _ (by simp)]
   have:=heap_alloc_new (w.alloc (.cells #[.slice none 0 0,.slice none 0 0] 26)) (.cells #[.slice ao zs.length cap,.int .i64 0] 56)
   simpa using this
  have k2:w2.heap[T.bm]? =some (.cells #[.pointer (some ⟨w.heap.size + 1,0,none⟩),.int .i64 0,.int .i64 (12 + 58 * ((zs.length:Int) % 5 / 4))] 58 (0,0)):=by
   rw [hw2,← e2]
   have:=heap_alloc_new ((w.alloc (.cells #[.slice none 0 0,.slice none 0 0] 26)).alloc (.cells #[.slice ao zs.length cap,.int .i64 0] 56)) (.cells #[.pointer (some ⟨w.heap.size + 1,0,none⟩),.int .i64 0,.int .i64 (12 + 58 * ((zs.length:Int) % 5 / 4))] 58)
   simpa using this
  refine ⟨⟨⟨0,Nat.zero_le _,by rw [k1,e3,e4,e5]; rfl⟩,by rw [e0,e3,e5]; exact HZ.out.below HBW.out,by rw [e5]; exact hl⟩,⟨0,12 + 58 * ((zs.length:Int) % 5 / 4),IW,by omega,by omega,by rw [k2,e1]⟩⟩)
 generalize hW:World.alloc w2 _=W
 have xg:Hid (PD T w2 pb W (.slice none 0 0) []):=Lib.hid (by
  rw [← hW]
  exact ⟨by rw [← hsz2]; exact heap_alloc_new _ _,Grow.nil _ _ _ _ _ _,by simp,MI.out.below (ah _ _),Mk.of_below (ah _ _),by omega,by omega,by omega,by omega⟩)
 have bq:Hid (T.B0=w.heap.size∧T.bt=w.heap.size + 1∧T.bm=w.heap.size + 2∧pb=w.heap.size + 3∧w2.heap.size=pb):=Lib.hid ⟨e0,e1.symm,by omega,by omega,hsz2⟩
 clear hW hw2 e0 e1 e2 e3 e4 e5 hpb hsz2 HZ MI
 have c0:=xg.out.mi.ptr
 go_wp2_with fail
 refine (dR T 4 _ (by unfold aM; decide) xg.out.mi).mono ?_
 rintro e w3 ⟨k,rfl,hk0,hk1,hk2,hM,hI⟩
 have Fg:=Lib.hid (xg.out.go hM hI)
 clear hM hI hk1 hk2 c0 xg
 go_upto_if 28 with fail
 go_cut [4] (fun s4 W'=>s4= .pointer (some ⟨pb,0,none⟩)∧ ∃vD ds,ds.length≤100∧PD T w2 pb W' vD ds)
 case first=>
  by_cases hk:0 < k
  ·go_wp2_with fail
   refine (Qt _).mono ?_
   rintro e w4 ⟨g,rfl,hg,hgc,hb⟩
   have hpg:pb + 1≤g:=Nat.le_trans Fg.out.sz hg
   have HPG:=Lib.hid hpg
   have Nw:=Lib.hid (Fg.out.go (Mk.of_below hb) (Fg.out.mi.below hb))
   have HGC:=Lib.hid hgc
   have y0:w4.cell? ⟨pb,0,none⟩=some (.slice none 0 0):=aj Nw.out.box rfl
   have f0:w4.frozen? ⟨pb,0,none⟩=false:=aF Nw.out.box
   clear hb hgc hg hpg Fg
   go_upto_region 5 with fail
   generalize wK:World.setCell w4 _ _=w5
   have jy:Hid (PD T w2 pb w5 (.slice (some ⟨g,0,none⟩) 9 9) J5):=Lib.hid (by
    rw [← wK]; exact Nw.out.put (Grow.made yX HGC.out HPG.out rfl (by unfold maxLen; decide)) Wx)
   clear wK y0 f0 Nw HGC
   go_wp2_with fail
   go_loopw [5] (fun v5 wr=> ∃(k:Nat) (ds:List De),v5= .int .i64 k∧k≤9∧ds.length=9∧PD T w2 pb wr (.slice (some ⟨g,0,none⟩) 9 9) ds) (fun i _=>9 - (intOf i).toNat)
   case atStart=>exact ⟨0,J5,rfl,by decide,rfl,jy.out⟩
   case round=>
    obtain ⟨k,ds,rfl,hk9,hds,hp⟩:=hrel
    have HP:=Lib.hid hp
    have Xr:=Lib.hid hds
    have y0:wr.cell? ⟨pb,0,none⟩=some (.slice (some ⟨g,0,none⟩) 9 9):=aj hp.box rfl
    obtain ⟨line,left,hl1,hl2,hl3,hblk⟩:=hp.mi.uX
    have c1:wr.cell? ⟨T.bm,1,none⟩=some (.int .i64 line):=(dB hblk (j:=1) rfl).2
    have f1:wr.frozen? ⟨T.bm,1,none⟩=false:=aF hblk
    clear hp hds hblk hl1 hl2 hl3
    by_cases hlt:k < 9
    ·go_upto_region 9 with fail
     generalize P8:World.setCell wr _ _=wl
     have Mc:Hid (PD T w2 pb wl (.slice (some ⟨g,0,none⟩) 9 9) ds):=Lib.hid (by rw [← P8]; exact HP.out.NR (zG _))
     clear P8 c1 f1 y0 HP
     have y0:wl.cell? ⟨pb,0,none⟩=some (.slice (some ⟨g,0,none⟩) 9 9):=aj Mc.out.box rfl
     obtain ⟨l,c1,zh⟩:=Mc.out.mi.ln
     have Qs:=Lib.hid zh
     obtain ⟨d,hd⟩: ∃d,ds[k]? =some d:=⟨_,List.getElem?_eq_getElem (by rw [Xr.out]; exact hlt)⟩
     have HD:=Lib.hid hd
     have hcl:=(Mc.out.gd.cells yX wl (dO.refl _ _)).2
     have yl: ∃z,wl.cell? ⟨g,k * 6 + 1,none⟩=some z:=by
      obtain ⟨jf,cap',e',-,hc⟩:=hcl
      injection e' with q1 q2 q3; subst q1
      obtain ⟨g',h1,-,-,h4⟩:=hc k d hd
      injection h1 with h1; injection h1 with h1; subst h1
      exact ⟨_,h4 1 _ rfl⟩
     obtain ⟨z,yl⟩:=yl
     have fl:wl.frozen? ⟨g,k * 6 + 1,none⟩=false:=by
      rcases Mc.out.gd.own.2 with ⟨h1,-⟩ | ⟨g',cap',cur,h1,-,h3,-⟩
      ·cases h1
      ·injection h1 with h1; injection h1 with h1; injection h1 with h1; subst h1; exact aF h3
     have hb0:(0:Int)≤(k:Int):=by omega
     have hb1:(k:Int) < 9:=by omega
     clear zh hd hcl
     refine dY (by kernel_rfl) rfl ?_
     refine dN 0 9 [] [[],[0],[],[],[3],[3,4],[3,4,5],[0,1,2,3,4,5,6],[0,1,2,3,4,5,6,7],[0,1,2,3,4,5,6,7,8]] [[],[],[],[],[],[],[],[],[]] (fun _ w'=>w'=wl.drewN 1) (fun w w'=>w=w') [45,46,47,48,49,50,51,52,53] rfl rfl (by rfl) (by kernel_rfl) (by kernel_rfl) (by kernel_rfl) (by kernel_rfl) (by kernel_rfl) (by rfl) (fun _=>rfl) (by rfl) rfl ?_
     simp only [List.take_succ_cons,List.take_zero,List.drop_zero,List.drop_succ_cons,jR,List.map_cons,List.map_nil]
     apply aI.step
     case aG=>
      intro c A w' hok hC hO hD
      have e4:=hO 4 (by rfl)
      simp [Act.eval] at e4
      simp [aC,aB,au,Act.eval,Region.binds] at hD
      simp [go_sem,gd,Oper.wp,hD,e4]
      exact aA.mk rfl hC (aB.mk _ _)
     apply aI.step
     case aG=>
      intro c A w' hok hC hO hD
      simp [aC,aB,au,Act.eval,Region.binds] at hD
      simp [go_sem,gd,Oper.wp,hD,hC,y0]
      exact aA.mk rfl rfl (aB.mk _ _)
     apply aI.step
     case aG=>
      intro c A w' hok hC hO hD
      have e5:=hO 5 (by rfl)
      simp [Act.eval] at e5
      simp [aC,aB,au,Act.eval,Region.binds] at hD
      simp [go_sem,gd,Oper.wp,hD,e5]
      exact aA.mk rfl hC (aB.mk _ _)
     simp only [List.nil_append,List.cons_append]
     apply aI.step
     case aG=>
      intro c A w' hok hC hO hD
      have e3:=hO 3 (by rfl)
      simp [Act.eval] at e3
      simp [aC,aB,au,Act.eval,Region.binds] at hD
      simp [go_sem,gd,Oper.wp,hD,e3]
      exact aA.mk rfl hC (aB.mk _ _)
     apply aI.step
     case aG=>
      intro c A w' hok hC hO hD
      simp [aC,aB,au,Act.eval,Region.binds] at hD
      simp [go_sem,gd,Oper.wp,hD]
      exact aA.mk rfl hC (aB.mk _ _)
     apply aI.step
     case aG=>
      intro c A w' hok hC hO hD
      simp [aC,aB,au,Act.eval,Region.binds] at hD
      simp [go_sem,gd,Oper.wp,hD]
      exact aA.mk rfl hC (aB.mk _ _)
     simp only [List.nil_append,List.cons_append]
     apply aI.step
     case aG=>
      intro c A w' hok hC hO hD
      simp [aC,aB,au,Act.eval,Region.binds] at hD
      simp [go_sem,gd,Oper.wp,hD,hC,c1]
      exact aA.mk rfl rfl (aB.mk _ _)
     apply aI.step
     case aG=>
      intro c A w' hok hC hO hD
      simp [aC,aB,au,Act.eval,Region.binds] at hD
      simp [go_sem,gd,Oper.wp,hD,hb0,hb1]
      exact aA.mk rfl hC (aB.mk _ _)
     apply aI.step
     case aG=>
      intro c A w' hok hC hO hD
      simp [aC,aB,au,Act.eval,Region.binds] at hD
      simp [go_sem,gd,Oper.wp,hD]
      exact aA.mk rfl hC (aB.mk _ _)
     try simp only [List.nil_append,List.cons_append]
     refine aI.done ?_
     intro wz eY
     try simp only [List.drop_zero,List.drop_succ_cons]
     intro v0 h0 v1 h1 v2 h2 v3 h3 v4 h4 v5 h5 v6 h6 v7 h7 v8 h8
     have h6':=Eq.symm (show v6=_ from h6)
     subst h6'
     have h8':=Eq.symm (show v8=_ from h8)
     subst h8'
     clear h0 h1 h2 h3 h4 h5 h6 h7 h8
     refine eD.nil ?_
     go_simp
     refine eu 9 [[],[0],[],[],[3],[3,4],[3,4,5],[0,1,2,3,4,5,6],[0,1,2,3,4,5,6,7],[0,1,2,3,4,5,6,7,8]] rfl rfl rfl rfl rfl (by kernel_rfl) (by kernel_rfl) (by kernel_rfl) ?_
     subst eY
     simp [go_sem,Oper.wp,yl,fl]
     refine fM rfl ?_
     have Br:=Lib.hid ((Mc.out.go (Mk.of_below (below_drewN (Below.refl _ _) 1)) (Mc.out.mi.below (below_drewN (Below.refl _ _) 1))).line HD.out Qs.out)
     clear yl fl c1 y0
     go_simp
     go_wp2_with fail
     go_roundw
     case rel=>exact ⟨k + 1,_,by go_num,by omega,by simpa using Xr.out,Br.out⟩
     case measure=>simp [intOf]; omega
    ·have hk:k=9:=by omega
     subst hk
     go_wp2_with fail
     go_meet
     exact ⟨rfl,_,ds,by rw [Xr.out]; decide,HP.out⟩
  ·have ak1:k=0:=by omega
   subst ak1
   go_wp2_with fail
   go_meet
   exact ⟨rfl,_,[],by decide,Fg.out⟩
 obtain ⟨rfl,vD,ds,hds,hp⟩:=hcut
 obtain ⟨wa,rfl⟩: ∃W:World,W=wc:=⟨_,rfl⟩
 have DY:=Lib.hid hp
 have XF:=Lib.hid hds
 clear hp hds Fg hk0
 have c0:=DY.out.mi.ptr
 go_wp2_with fail
 refine (dR T 8 _ (by unfold aM; decide) DY.out.mi).mono ?_
 rintro e w4 ⟨k,rfl,hk0,hk1,hk2,hM,hI⟩
 have YB:k < 8:=hk1 (by decide)
 have QL:=Lib.hid (DY.out.go hM hI)
 clear hM hI hk1 hk2 c0 DY
 go_wp2_with fail
 go_loopw [6] (fun v6 wr=> ∃(k:Int) (vD:Value) (ds:List De),v6= .int .i64 k∧ -4≤k∧k≤3∧(ds.length:Int) + k≤103∧ds.length≤107∧PD T w2 pb wr vD ds) (fun i _=>(intOf i).toNat)
 case atStart=>exact ⟨k - 4,vD,ds,rfl,by omega,by omega,by have:=XF.out; omega,by have:=XF.out; omega,QL.out⟩
 case round=>
  clear QL XF hk0 YB ds vD
  obtain ⟨k,vD,ds,rfl,hk4,hk3,hdk,hdl,hp⟩:=hrel
  have HP:=Lib.hid hp
  have HDK:=Lib.hid hdk
  have Ug:=Lib.hid hdl
  clear hp hdk hdl
  by_cases hk:0 < k
  ·go_upto_region 13 with fail
   have hd1:Mk T wr (wr.drewN 1):=Mk.of_below (below_drewN (Below.refl _ _) 1)
   have hd2:dI (wr.drewN 1) T:=HP.out.mi.below (below_drewN (Below.refl _ _) 1)
   have LH:Hid (T.bt < pb∧T.bm < pb):=Lib.hid (by have:=HP.out.lt; omega)
   have HWZ:Hid (pb + 1≤wr.heap.size):=Lib.hid HP.out.sz
   have Y0: ∀w',Mk T wr w'→w'.cell? ⟨pb,0,none⟩=some vD:=fun w' h=>aj ((h.block pb HWZ.out (by have:=LH.out; omega) (by have:=LH.out; omega)).trans HP.out.box) rfl
   refine dY (by kernel_rfl) rfl ?_
   refine dN 0 5 [] [[],[0],[],[2],[2,3],[0,1,2,3,4],[0,1,2,3,4,5],[0,1,2,3,4,5,6]] [[],[],[],[],[]] (fun _ w'=>Mk T wr w'∧dI w' T) (fun w w'=>Mk T w w') [64,65,66,67,68] rfl rfl (by rfl) (by kernel_rfl) (by kernel_rfl) (by kernel_rfl) (by kernel_rfl) (by kernel_rfl) (by rfl) (fun _=>Mk.refl _ _) (by rfl) ⟨hd1,hd2⟩ ?_
   simp only [List.take_succ_cons,List.take_zero,List.drop_zero,List.drop_succ_cons,jR,List.map_cons,List.map_nil]
   apply aI.step
   case aG=>
    intro c A w' hok hC hO hD
    have e4:=hO 4 (by rfl)
    simp [Act.eval] at e4
    simp [aC,aB,au,Act.eval,Region.binds] at hD
    simp [go_sem,gd,Oper.wp,hD,e4]
    exact aA.mk (Mk.refl _ _) hC (aB.mk _ _)
   apply aI.step
   case aG=>
    intro c A w' hok hC hO hD
    simp [aC,aB,au,Act.eval,Region.binds] at hD
    simp [go_sem,gd,Oper.wp,hD,Y0,hC.1]
    exact aA.mk (Mk.refl _ _) hC (aB.mk _ _)
   apply aI.step
   case aG=>
    intro c A w' hok hC hO hD
    have e3:=hO 3 (by rfl)
    simp [Act.eval] at e3
    simp [aC,aB,au,Act.eval,Region.binds] at hD
    simp [go_sem,gd,Oper.wp,hD,e3]
    exact aA.mk (Mk.refl _ _) hC (aB.mk _ _)
   simp only [List.nil_append,List.cons_append]
   refine aI.some (fun v _=> ∃d,v=Ld d∧(d.Ok∧jv d=true)) (fun _ _ _ _ h=>h) ?_ ?_
   ·intro c A w' hok hC hO hD
    simp [aC,aB,au,Act.eval,Region.binds] at hD
    simp [go_sem,gd,Oper.wp,hD]
    refine (Td T w' hC.2).mono ?_
    rintro e w3 ⟨d,rfl,h1,h2,h3⟩
    exact aA.mk h2 ⟨hC.1.trans h2,h3⟩ ⟨d,rfl,h1⟩
   refine aI.some (fun v w'=> ∃(bb:Nat) (d:De),v= .slice (some ⟨bb,0,none⟩) 1 1∧pb + 1≤bb∧w'.heap[bb]? =some (.cells (gF d).toArray 62 (0,0))∧(d.Ok∧jv d=true)) ?_ ?_ ?_
   ·rintro v w1 w' hle ⟨g,d,h1,h2,h3,h4⟩
    exact ⟨g,d,h1,h2,(hle.block g (Array.getElem?_eq_some_iff.1 h3).1 (by have:=LH.out; omega) (by have:=LH.out; omega)).trans h3,h4⟩
   ·intro c A w' hok hC hO hD
    simp [aC,aB,au,Act.eval,Region.binds] at hD
    obtain ⟨d,hd,hok1,hok2⟩:=hD
    unfold Ld at hd
    simp [go_sem,gd,Oper.wp,hd]
    exact aA.mk (d:=_) (v:= .slice (some ⟨_,0,none⟩) 1 1) (Mk.of_below (ah _ _)) ⟨hC.1.trans (Mk.of_below (ah _ _)),hC.2.below (ah _ _)⟩ ⟨_,rfl,Nat.le_trans HWZ.out hC.1.size,d,heap_alloc_new _ _,hok1,hok2⟩
   try simp only [List.nil_append,List.cons_append]
   refine aI.done ?_
   intro wz eY
   try simp only [List.drop_zero,List.drop_succ_cons]
   intro v0 h0 v1 h1 v2 h2 v3 h3 v4 h4
   have h0':=Eq.symm (show v0=_ from h0)
   subst h0'
   have h1':=Eq.symm (show v1=_ from h1)
   subst h1'
   have h2':=Eq.symm (show v2=_ from h2)
   subst h2'
   clear h0 h1 h2 h3
   obtain ⟨bb,d,rfl,hbb,hcell,xY⟩:=h4
   clear hd1 hd2 Y0
   refine eD.nil ?_
   go_simp
   refine eu 5 [[],[0],[],[2],[2,3],[0,1,2,3,4],[0,1,2,3,4,5],[0,1,2,3,4,5,6]] rfl rfl rfl rfl rfl (by kernel_rfl) (by kernel_rfl) (by kernel_rfl) ?_
   obtain ⟨i0,hi0,hz0,hz1,hz2⟩:=Wi
   have Br:=Lib.hid (HP.out.go eY.1 eY.2)
   have Pk:=Lib.hid xY
   have hkl:ds.length + 1≤maxLen:=by have:=Ug.out; unfold maxLen; omega
   have hkb:(ds.length + 1) * 64≤140737488355328:=by have:=Ug.out; omega
   refine wp_append_lies wz _ _ _ (by rfl) (pb + 1) 62 i0 _ 6 64 Tryz.underlying23 hi0 hz0 hz1 hz2 (by rfl) (by omega) vD ds.length (ds.flatMap gF) (by rfl) Br.out.gd.own ⟨bb,0,none⟩ 1 1 (gF d) (by rfl) (by rfl) (mJ hcell) (VH d) (by decide) hkl hkb Br.out.sz _ rfl ?_
   intro g' cap' w5 hown hgr hmv hlt
   clear hi0 hz0 hz1 hz2 hcell eY hbb xY hkl hkb
   have yL:=Lib.hid (Br.out.gd.push (x:=d) (fun _ _=>trivial) rfl hown hgr hmv)
   have iR:Hid (Below (pb + 1) wz w5):=Lib.hid (mY hgr (fun k hk=>(Br.out.gd.lt k hk).1) Br.out.sz)
   have HO5:Hid (∀x ∈ ds++[d],x.Ok∧jv x=true):=Lib.hid (fun x hx=>by
    rcases List.mem_append.1 hx with hx | hx
    ·exact HP.out.ok x hx
    ·rw [List.mem_singleton.1 hx]; exact Pk.out)
   clear hown hgr hmv hlt
   have fT:Hid (w5.heap[pb]? =some (.cells #[vD,.slice none 0 0] 26 (0,0))):=Lib.hid ((iR.out.block pb (Nat.lt_succ_self _)).trans Br.out.box)
   have iZ:=Lib.hid (PD.put' (ds':=ds++[d]) fT.out (Br.out.mi.tT iR.out (by have:=LH.out; omega) (by have:=LH.out; omega) (by have:=HP.out.lt; omega)) (Br.out.km.EN (iR.out.mono (by have:=HP.out.lt; omega))) HP.out.lt yL.out HO5.out)
   have y0:w5.cell? ⟨pb,0,none⟩=some vD:=aj fT.out rfl
   have f0:w5.frozen? ⟨pb,0,none⟩=false:=aF fT.out
   clear fT yL iR HO5 Br
   go_simp
   refine dN 6 7 [] [[],[0],[],[2],[2,3],[0,1,2,3,4],[0,1,2,3,4,5],[0,1,2,3,4,5,6]] [[]] (fun _ w'=>w'=w5) (fun w w'=>w=w') [70] rfl rfl (by rfl) (by kernel_rfl) (by kernel_rfl) (by kernel_rfl) (by kernel_rfl) (by kernel_rfl) (by rfl) (fun _=>rfl) (by rfl) rfl ?_
   simp only [List.take_succ_cons,List.take_zero,List.drop_zero,List.drop_succ_cons,jR,List.map_cons,List.map_nil]
   apply aI.step
   case aG=>
    intro c A w' hok hC hO hD
    have e4:=hO 4 (by rfl)
    simp [Act.eval] at e4
    simp [aC,aB,au,Act.eval,Region.binds] at hD
    simp [go_sem,gd,Oper.wp,hD,e4]
    exact aA.mk rfl hC (aB.mk _ _)
   try simp only [List.nil_append,List.cons_append]
   refine aI.done ?_
   intro wz eY
   try simp only [List.drop_zero,List.drop_succ_cons]
   intro v0 h0
   have h0':=Eq.symm (show v0=_ from h0)
   subst h0'
   clear h0
   refine eD.nil ?_
   go_simp
   refine eu 7 [[],[0],[],[2],[2,3],[0,1,2,3,4],[0,1,2,3,4,5],[0,1,2,3,4,5,6]] rfl rfl rfl rfl rfl (by kernel_rfl) (by kernel_rfl) (by kernel_rfl) ?_
   subst eY
   simp [go_sem,Oper.wp,y0,f0]
   refine fM rfl ?_
   clear y0 f0
   go_simp
   go_wp2_with fail
   go_roundw
   case rel=>exact ⟨k - 1,_,ds++[d],rfl,by omega,by omega,by have:=HDK.out; simp; omega,by have:=HDK.out; simp; omega,iZ.out⟩
   case measure=>simp [intOf]; omega
  ·go_upto_region 15 with fail
   obtain ⟨nb,hnb⟩: ∃nb,wr.heap.size=nb:=⟨_,rfl⟩
   generalize hWN:World.alloc wr _=wn
   have TS:Hid (PI T w2 pb nb wn vD ds (.slice none 0 0) []):=Lib.hid (by rw [← hWN,← hnb]; exact HP.out.pi)
   rw [hnb]
   clear hWN hnb hk4 hk3 hk HP HDK
   have c0:=TS.out.mi.ptr
   go_wp2_with fail
   refine (dR T 3 _ (by unfold aM; decide) TS.out.mi).mono ?_
   rintro e wa ⟨n,rfl,hk0,hk1,hk2,hM,hI⟩
   have Ub:n < 3:=hk1 (by decide)
   have DY:=Lib.hid (TS.out.go hM hI)
   clear hM hI hk1 hk2 c0 TS
   have c0:=DY.out.mi.ptr
   go_wp2_with fail
   refine (dR T 12 _ (by unfold aM; decide) DY.out.mi).mono ?_
   rintro e wb ⟨m,rfl,hm0,hm1,hm2,hM,hI⟩
   have QL:=Lib.hid (DY.out.go hM hI)
   clear hM hI hm0 hm1 hm2 c0 DY
   go_upto_if 83 with fail
   go_cut [8] (fun s8 W'=>W'=wb∧ ∃n:Nat,s8= .int .i64 (n:Int)∧1≤n∧n≤5)
   case first=>
    cases hm:(m == 11)
    ·go_wp2_with fail
     go_meet
     exact ⟨rfl,(1 + n).toNat,by rw [Int.toNat_of_nonneg (by omega)],by omega,by omega⟩
    ·go_wp2_with fail
     go_meet
     exact ⟨rfl,5,rfl,by decide,by decide⟩
   obtain ⟨rfl,n',rfl,hn1,hn5⟩:=hcut
   clear hk0 Ub
   go_wp2_with fail
   go_loopw [9] (fun v9 wr=> ∃(k:Nat) (vT:Value) (lT:List eU),v9= .int .i64 k∧k≤n'∧lT.length=k∧PI T w2 pb nb wr vD ds vT lT) (fun i _=>n' - (intOf i).toNat)
   case atStart=>exact ⟨0,_,[],rfl,Nat.zero_le _,rfl,QL.out⟩
   case round=>
    clear QL
    obtain ⟨k,vT,lT,rfl,hkn,hth,hp⟩:=hrel
    have HP:=Lib.hid hp
    have LW:=Lib.hid hth
    clear hp hth
    by_cases hlt:k < n'
    ·obtain ⟨line,left,hl1,hl2,hl3,hblk⟩:=HP.out.mi.uX
     have c1:wr.cell? ⟨T.bm,1,none⟩=some (.int .i64 line):=(dB hblk (j:=1) rfl).2
     have f1:wr.frozen? ⟨T.bm,1,none⟩=false:=aF hblk
     clear hblk hl1 hl2 hl3
     go_upto_region 22 with fail
     generalize P8:World.setCell wr _ _=W0
     have xQ:Hid (PI T w2 pb nb W0 vD ds vT lT):=Lib.hid (by rw [← P8]; exact HP.out.NR (zG _))
     clear P8 c1 f1 HP
     have iD:Hid (nb + 1≤W0.heap.size):=Lib.hid xQ.out.sz
     have aX:Hid (T.bt < pb∧T.bm < pb∧T.B0≤pb∧pb < nb):=Lib.hid (by have:=xQ.out.lt; omega)
     have hd1:Mk T W0 (W0.drewN 1):=Mk.of_below (below_drewN (Below.refl _ _) 1)
     have hd2:dI (W0.drewN 1) T:=xQ.out.mi.below (below_drewN (Below.refl _ _) 1)
     have K0: ∀w',dI w' T→w'.cell? ⟨T.bm,0,none⟩=some (.pointer (some ⟨T.bt,0,none⟩)):=fun w' h=>h.ptr
     have KN: ∀w',Mk T W0 w'→ ∃s,w'.cell? ⟨nb,k,none⟩=some (.string s)∧nU s:=fun w' h=>by
      have hb:=(h.block nb iD.out (by have:=aX.out; omega) (by have:=aX.out; omega)).trans xQ.out.nms
      obtain ⟨s,h1,h2⟩:=Z5 k (by omega)
      exact ⟨s,aj hb h1,h2⟩
     have hb0:(0:Int)≤(k:Int):=by omega
     have hb1:(k:Int) < 5:=by omega
     refine dY (by kernel_rfl) rfl ?_
     refine dN 0 11 [] [[],[],[0,1],[0,1,2],[],[4],[4,5],[4,5,6],[],[0,1,2,3,4,5,6,7,8],[],[0,1,2,3,4,5,6,7,8,9,10]] [[],[],[],[],[],[],[],[],[],[],[]] (fun _ w'=>Mk T W0 w'∧dI w' T) (fun w w'=>Mk T w w') [96,97,98,99,100,101,102,103,104,105,10] rfl rfl (by rfl) (by kernel_rfl) (by kernel_rfl) (by kernel_rfl) (by kernel_rfl) (by kernel_rfl) (by rfl) (fun _=>Mk.refl _ _) (by rfl) ⟨hd1,hd2⟩ ?_
     simp only [List.take_succ_cons,List.take_zero,List.drop_zero,List.drop_succ_cons,jR,List.map_cons,List.map_nil]
     apply aI.step
     case aG=>
      intro c A w' hok hC hO hD
      have e7:=hO 7 (by rfl)
      simp [Act.eval] at e7
      simp [aC,aB,au,Act.eval,Region.binds] at hD
      simp [go_sem,gd,Oper.wp,hD,e7]
      exact aA.mk (Mk.refl _ _) hC (aB.mk _ _)
     apply aI.step
     case aG=>
      intro c A w' hok hC hO hD
      have e9:=hO 9 (by rfl)
      simp [Act.eval] at e9
      simp [aC,aB,au,Act.eval,Region.binds] at hD
      simp [go_sem,gd,Oper.wp,hD,e9]
      exact aA.mk (Mk.refl _ _) hC (aB.mk _ _)
     apply aI.step
     case aG=>
      intro c A w' hok hC hO hD
      simp [aC,aB,au,Act.eval,Region.binds] at hD
      simp [go_sem,gd,Oper.wp,hD,hb0,hb1]
      exact aA.mk (Mk.refl _ _) hC (aB.mk _ _)
     simp only [List.nil_append,List.cons_append]
     refine aI.some (fun v w'=> ∃s:ByteArray,v= .string s∧nU s) (fun _ _ _ _ h=>h) ?_ ?_
     ·intro c A w' hok hC hO hD
      simp [aC,aB,au,Act.eval,Region.binds] at hD
      obtain ⟨s,hs,hsz⟩:=KN w' hC.1
      simp [go_sem,gd,Oper.wp,hD,hs]
      exact aA.mk (Mk.refl _ _) hC (⟨s,rfl,hsz⟩)
     simp only [List.nil_append,List.cons_append]
     apply aI.step
     case aG=>
      intro c A w' hok hC hO hD
      have e3:=hO 3 (by rfl)
      simp [Act.eval] at e3
      simp [aC,aB,au,Act.eval,Region.binds] at hD
      simp [go_sem,gd,Oper.wp,hD,e3]
      exact aA.mk (Mk.refl _ _) hC (aB.mk _ _)
     apply aI.step
     case aG=>
      intro c A w' hok hC hO hD
      simp [aC,aB,au,Act.eval,Region.binds] at hD
      simp [go_sem,gd,Oper.wp,hD]
      exact aA.mk (Mk.refl _ _) hC (aB.mk _ _)
     apply aI.step
     case aG=>
      intro c A w' hok hC hO hD
      simp [aC,aB,au,Act.eval,Region.binds] at hD
      simp [go_sem,gd,Oper.wp,hD]
      exact aA.mk (Mk.refl _ _) hC (aB.mk _ _)
     simp only [List.nil_append,List.cons_append]
     refine aI.some (fun v w'=> ∃l:Int,v= .int .i64 l∧aM l) (fun _ _ _ _ h=>h) ?_ ?_
     ·intro c A w' hok hC hO hD
      simp [aC,aB,au,Act.eval,Region.binds] at hD
      obtain ⟨l,hc,hl⟩:=hC.2.ln
      simp [go_sem,gd,Oper.wp,hD,hc]
      exact aA.mk (Mk.refl _ _) hC (⟨l,rfl,hl⟩)
     simp only [List.nil_append,List.cons_append]
     refine aI.some (fun v w'=> ∃lb,v= .slice (some ⟨lb,0,none⟩) 2 2∧W0.heap.size≤lb∧w'.heap[lb]? =some (.cells (Co.flatMap oG).toArray 9 (0,0))) ?_ ?_ ?_
     ·rintro v w1 w' hle ⟨g,h1,h2,h3⟩
      exact ⟨g,h1,h2,(hle.block g (Array.getElem?_eq_some_iff.1 h3).1 (by have:=aX.out; have:=iD.out; omega) (by have:=aX.out; have:=iD.out; omega)).trans h3⟩
     ·intro c A w' hok hC hO hD
      simp [go_sem,gd,Oper.wp]
      exact aA.mk (d:=_) (v:= .slice (some ⟨_,0,none⟩) 2 2) (Mk.of_below (ah _ _)) ⟨hC.1.trans (Mk.of_below (ah _ _)),hC.2.below (ah _ _)⟩ ⟨_,rfl,hC.1.size,heap_alloc_new _ _⟩
     simp only [List.nil_append,List.cons_append]
     refine aI.some (fun v w'=> ∃lb,W0.heap.size≤lb∧w'.heap[lb]? =some (.cells (Co.flatMap oG).toArray 9 (0,0))∧ ∃(s:ByteArray) (l:Int),v= .agg #[.string s,.int .i64 l,.slice (some ⟨lb,0,none⟩) 2 2,.slice none 0 0]∧nU s∧aM l) ?_ ?_ ?_
     ·rintro v w1 w' hle ⟨g,h2,h3,h4⟩
      exact ⟨g,h2,(hle.block g (Array.getElem?_eq_some_iff.1 h3).1 (by have:=aX.out; have:=iD.out; omega) (by have:=aX.out; have:=iD.out; omega)).trans h3,h4⟩
     ·intro c A w' hok hC hO hD
      simp [aC,aB,au,Act.eval,Region.binds] at hD
      obtain ⟨⟨s,hs,hsn⟩,⟨l,hl,zh⟩,lb,hlb,h1,h2⟩:=hD
      simp [go_sem,gd,Oper.wp,hs,hl,hlb]
      exact aA.mk (Mk.refl _ _) hC ⟨lb,h1,h2,s,l,rfl,hsn,zh⟩
     simp only [List.nil_append,List.cons_append]
     refine aI.some (fun v w'=> ∃tb,v= .pointer (some ⟨tb,0,none⟩)∧W0.heap.size≤tb∧w'.heap[tb]? =some (.cells zTh 67 (0,0))) ?_ ?_ ?_
     ·rintro v w1 w' hle ⟨g,h1,h2,h3⟩
      exact ⟨g,h1,h2,(hle.block g (Array.getElem?_eq_some_iff.1 h3).1 (by have:=aX.out; have:=iD.out; omega) (by have:=aX.out; have:=iD.out; omega)).trans h3⟩
     ·intro c A w' hok hC hO hD
      simp [go_sem,gd,Oper.wp]
      exact aA.mk (d:=_) (v:= .pointer (some ⟨_,0,none⟩)) (Mk.of_below (ah _ _)) ⟨hC.1.trans (Mk.of_below (ah _ _)),hC.2.below (ah _ _)⟩ ⟨_,rfl,hC.1.size,heap_alloc_new _ _⟩
     try simp only [List.nil_append,List.cons_append]
     refine aI.done ?_
     intro wz eY
     try simp only [List.drop_zero,List.drop_succ_cons]
     intro v0 h0 v1 h1 v2 h2 v3 h3 v4 h4 v5 h5 v6 h6 v7 h7 v8 h8 v9 h9 v10 h10
     clear h0 h1 h2 h3 h4 h5 h6 h7 h8
     obtain ⟨lb,hlb,hlc,s,l,rfl,hsn,zh⟩:=h9
     obtain ⟨tb,rfl,htb,htc⟩:=h10
     clear hd1 hd2 K0 KN
     refine eD.nil ?_
     go_simp
     have hne:lb≠tb:=fun e=>by subst e; rw [hlc] at htc; cases htc
     refine eu 11 [[],[],[0,1],[0,1,2],[],[4],[4,5],[4,5,6],[],[0,1,2,3,4,5,6,7,8],[],[0,1,2,3,4,5,6,7,8,9,10]] rfl rfl rfl rfl rfl (by kernel_rfl) (by kernel_rfl) (by kernel_rfl) ?_
     refine wp_store_mid _ _ _ (by rfl) tb 0 #[.string s,.int .i64 l,.slice (some ⟨lb,0,none⟩) 2 2,.slice none 0 0] (by rfl) (by rfl) (nW htc (Nat.le_refl 4)) VZ (by simp [Value.oneCell']) ?_
     refine fM rfl ?_
     generalize qF:World.setCells wz tb 0 _=W5
     have UO:Hid (TI T W0 tb W5 s l (.slice (some ⟨lb,0,none⟩) 2 2) Co (.slice none 0 0)):=Lib.hid (by
      rw [← qF]
      have hlt':T.bt < W0.heap.size∧T.bm < W0.heap.size∧T.B0≤W0.heap.size∧W0.heap.size≤tb:=by have:=aX.out; have:=iD.out; omega
      have hgr:=aP tb [.string s,.int .i64 l,.slice (some ⟨lb,0,none⟩) 2 2,.slice none 0 0] 0 wz
      refine ⟨iw htc rfl,?_,fun k hk=> ?_,⟨hsn,zh,PU,by decide⟩,eY.2.sets _ _ _ (by omega) (by omega) (by omega),eY.1.sets _ _ _ htb,hlt'⟩
      ·exact (Grow.made Cg hlc hlb rfl (by unfold maxLen; decide)).E9 (nG.wI hgr) (fun k hk e=>by injection hk with hk; injection e with e; have hk:lb=k:=hk; omega)
      ·injection hk with hk; have hk:lb=k:=hk; omega)
     clear qF eY hlb hlc htb htc hsn zh hne
     go_simp
     have c0:=UO.out.mi.ptr
     go_wp2_with fail
     refine (dR T 16 _ (by unfold aM; decide) UO.out.mi).mono ?_
     rintro e W6 ⟨m,rfl,hm0,hm1,hm2,hM,hI⟩
     have qU:=Lib.hid (UO.out.go hM hI)
     clear hM hI hm0 hm1 hm2 c0 UO
     go_upto_block 6 with fail
     go_cut [10] (fun s10 W'=>s10= .pointer (some ⟨tb,0,none⟩)∧ ∃(s:ByteArray) (vL:Value) (lc:List ByteArray),TI T W0 tb W' s l vL lc (.slice none 0 0))
     case first=>
      cases Cv:(m == 13)
      ·cases M9:(m == 14)
       ·cases Mj:(m == 15)
        ·go_wp2_with fail
         go_meet
         exact ⟨rfl,_,_,_,qU.out⟩
        ·have y2:=aj (j:=2) qU.out.box rfl
         have f2:W6.frozen? ⟨tb,2,none⟩=false:=aF qU.out.box
         have ap4:tb < W6.heap.size:=qU.out.sz
         have ZG:=Lib.hid ap4
         go_wp2_with fail
         go_meet
         have Q5:=Lib.hid (qU.out.go (Mk.of_below (ah W6 (.cells (Uh.flatMap oG).toArray 9))) (qU.out.mi.below (ah _ _)))
         have vP:=TI.mg (mg:=Uh) (Qv:= .slice (some ⟨W6.heap.size,0,none⟩) 5 5) Q5.out.box (Grow.made Cg (heap_alloc_new _ _) (Nat.le_trans Q5.out.lt.2.2.2 (Nat.le_of_lt ZG.out)) rfl (by unfold maxLen; decide)) (fun k hk=>by injection hk with hk; have hk:W6.heap.size=k:=hk; have:=ZG.out; omega) ⟨qU.out.ok.1,qU.out.ok.2.1,YP,by decide⟩ Q5.out.mi Q5.out.km Q5.out.lt
         rw [World.setCell_alloc_past _ _ _ _ ZG.out] at vP
         have XI:=Lib.hid vP
         clear vP
         refine ⟨rfl,?_⟩
         exact ⟨_,_,_,XI.out⟩
       ·go_upto_region 27 with fail
        have eB:Hid (tb + 1≤W6.heap.size):=Lib.hid qU.out.sz
        have lS:Hid (T.bt < W0.heap.size∧T.bm < W0.heap.size∧W0.heap.size≤tb):=Lib.hid (by have:=qU.out.lt; omega)
        have hd1:Mk T W6 (W6.drewN 1):=Mk.of_below (below_drewN (Below.refl _ _) 1)
        have hd2:dI (W6.drewN 1) T:=qU.out.mi.below (below_drewN (Below.refl _ _) 1)
        have K0: ∀w',dI w' T→w'.cell? ⟨T.bm,0,none⟩=some (.pointer (some ⟨T.bt,0,none⟩)):=fun w' h=>h.ptr
        have Y2: ∀w',Mk T W6 w'→w'.cell? ⟨tb,2,none⟩=some (.slice (some ⟨lb,0,none⟩) 2 2):=fun w' h=>aj ((h.block tb eB.out (by have:=lS.out; omega) (by have:=lS.out; omega)).trans qU.out.box) rfl
        refine dY (by kernel_rfl) rfl ?_
        refine dN 0 11 [] [[],[0],[],[],[3],[3,4],[3,4,5],[3,4,5,6],[2,3,4,5,6,7],[2,3,4,5,6,7,8],[2,3,4,5,6,7,8,9],[0,1,2,3,4,5,6,7,8,9,10],[0,1,2,3,4,5,6,7,8,9,10,11],[0,1,2,3,4,5,6,7,8,9,10,11,12]] [[],[],[],[],[],[],[],[],[],[],[]] (fun _ w'=>Mk T W6 w'∧dI w' T) (fun w w'=>Mk T w w') [116,117,118,119,120,121,122,123,124,125,126] rfl rfl (by rfl) (by kernel_rfl) (by kernel_rfl) (by kernel_rfl) (by kernel_rfl) (by kernel_rfl) (by rfl) (fun _=>Mk.refl _ _) (by rfl) ⟨hd1,hd2⟩ ?_
        simp only [List.take_succ_cons,List.take_zero,List.drop_zero,List.drop_succ_cons,jR,List.map_cons,List.map_nil]
        apply aI.step
        case aG=>
         intro c A w' hok hC hO hD
         have e10:=hO 10 (by rfl)
         simp [Act.eval] at e10
         simp [aC,aB,au,Act.eval,Region.binds] at hD
         simp [go_sem,gd,Oper.wp,hD,e10]
         exact aA.mk (Mk.refl _ _) hC (aB.mk _ _)
        apply aI.step
        case aG=>
         intro c A w' hok hC hO hD
         simp [aC,aB,au,Act.eval,Region.binds] at hD
         simp [go_sem,gd,Oper.wp,hD,Y2,hC.1]
         exact aA.mk (Mk.refl _ _) hC (aB.mk _ _)
        refine aI.some (fun v w'=> ∃g,v= .slice (some ⟨g,0,none⟩) 4 4∧W6.heap.size≤g∧w'.heap[g]? =some (.cells YZ 9 (0,0))) ?_ ?_ ?_
        ·rintro v w1 w' hle ⟨g,h1,h2,h3⟩
         exact ⟨g,h1,h2,(hle.block g (Array.getElem?_eq_some_iff.1 h3).1 (by have:=lS.out; have:=eB.out; omega) (by have:=lS.out; have:=eB.out; omega)).trans h3⟩
        ·intro c A w' hok hC hO hD
         simp [go_sem,gd,Oper.wp]
         exact aA.mk (d:=_) (v:= .slice (some ⟨_,0,none⟩) 4 4) (Mk.of_below (ah _ _)) ⟨hC.1.trans (Mk.of_below (ah _ _)),hC.2.below (ah _ _)⟩ ⟨_,rfl,hC.1.size,heap_alloc_new _ _⟩
        simp only [List.nil_append,List.cons_append]
        apply aI.step
        case aG=>
         intro c A w' hok hC hO hD
         have e3:=hO 3 (by rfl)
         simp [Act.eval] at e3
         simp [aC,aB,au,Act.eval,Region.binds] at hD
         simp [go_sem,gd,Oper.wp,hD,e3]
         exact aA.mk (Mk.refl _ _) hC (aB.mk _ _)
        apply aI.step
        case aG=>
         intro c A w' hok hC hO hD
         simp [aC,aB,au,Act.eval,Region.binds] at hD
         simp [go_sem,gd,Oper.wp,hD]
         exact aA.mk (Mk.refl _ _) hC (aB.mk _ _)
        apply aI.step
        case aG=>
         intro c A w' hok hC hO hD
         simp [aC,aB,au,Act.eval,Region.binds] at hD
         simp [go_sem,gd,Oper.wp,hD]
         exact aA.mk (Mk.refl _ _) hC (aB.mk _ _)
        simp only [List.nil_append,List.cons_append]
        apply aI.step
        case aG=>
         intro c A w' hok hC hO hD
         simp [aC,aB,au,Act.eval,Region.binds] at hD
         simp [go_sem,gd,Oper.wp,hD,K0,hC.2]
         exact aA.mk (Mk.refl _ _) hC (aB.mk _ _)
        refine aI.some (fun v _=> ∃r:Nat,v= .int .i64 (r:Int)∧r < 4) (fun _ _ _ _ h=>h) ?_ ?_
        ·intro c A w' hok hC hO hD
         simp [aC,aB,au,Act.eval,Region.binds] at hD
         simp [go_sem,gd,Oper.wp,hD]
         refine (dR T 4 w' (by unfold aM; decide) hC.2).mono ?_
         rintro e w2 ⟨r,rfl,h0,h1,-,hM,hI⟩
         obtain ⟨r',rfl⟩:=Int.eq_ofNat_of_zero_le h0
         exact aA.mk hM ⟨hC.1.trans hM,hI⟩ ⟨r',rfl,by have:=h1 (by decide); omega⟩
        simp only [List.nil_append,List.cons_append]
        refine aI.some (fun v w'=> ∃(g r:Nat),v= .pointer (some ⟨g,r,none⟩)∧r < 4∧W6.heap.size≤g∧w'.heap[g]? =some (.cells YZ 9 (0,0))) (fun v w1 w' hle ⟨g,r,h1,h1',h2,h3⟩=>⟨g,r,h1,h1',h2,(hle.block g (Array.getElem?_eq_some_iff.1 h3).1 (by have:=lS.out; have:=eB.out; omega) (by have:=lS.out; have:=eB.out; omega)).trans h3⟩) ?_ ?_
        ·intro c A w' hok hC hO hD
         simp [aC,aB,au,Act.eval,Region.binds] at hD
         obtain ⟨⟨g,hg,hg1,hg2⟩,r,hr,h1⟩:=hD
         have hb0:(0:Int)≤(r:Int):=by omega
         have hb1:(r:Int) < 4:=by omega
         simp [go_sem,gd,Oper.wp,hg,hr,hb0,hb1]
         exact aA.mk (Mk.refl _ _) hC (⟨g,r,rfl,h1,hg1,hg2⟩)
        simp only [List.nil_append,List.cons_append]
        refine aI.some (fun v w'=> ∃s:ByteArray,v= .string s∧nU s) (fun _ _ _ _ h=>h) ?_ ?_
        ·intro c A w' hok hC hO hD
         simp [aC,aB,au,Act.eval,Region.binds] at hD
         obtain ⟨g,r,hr,h1,hg1,hg2⟩:=hD
         obtain ⟨s,hs,hsz⟩:=YS r h1
         simp [go_sem,gd,Oper.wp,hr,(aj hg2 hs)]
         exact aA.mk (Mk.refl _ _) hC (⟨s,rfl,hsz⟩)
        simp only [List.nil_append,List.cons_append]
        refine aI.some (fun v w'=> ∃g,v= .slice (some ⟨g,0,none⟩) 1 1∧ ∃s:ByteArray,W6.heap.size≤g∧w'.heap[g]? =some (.cells (oG s).toArray 9 (0,0))∧nU s) ?_ ?_ ?_
        ·rintro v w1 w' hle ⟨g,h1,s,h2,h3,h4⟩
         exact ⟨g,h1,s,h2,(hle.block g (Array.getElem?_eq_some_iff.1 h3).1 (by have:=lS.out; have:=eB.out; omega) (by have:=lS.out; have:=eB.out; omega)).trans h3,h4⟩
        ·intro c A w' hok hC hO hD
         simp [aC,aB,au,Act.eval,Region.binds] at hD
         obtain ⟨s,hs,hsn⟩:=hD
         simp [go_sem,gd,Oper.wp,hs]
         refine aA.mk (d:=_) (v:= .slice (some ⟨_,0,none⟩) 1 1) (Mk.of_below (ah _ _)) ⟨hC.1.trans (Mk.of_below (ah _ _)),hC.2.below (ah _ _)⟩ ?_
         first | exact ⟨_,rfl,s,hC.1.size,heap_alloc_new _ _,hsn⟩ | exact ⟨_,rfl,hC.1.size,s,heap_alloc_new _ _,hsn⟩
        try simp only [List.nil_append,List.cons_append]
        refine aI.done ?_
        intro wz eY
        try simp only [List.drop_zero,List.drop_succ_cons]
        intro v0 h0 v1 h1 v2 h2 v3 h3 v4 h4 v5 h5 v6 h6 v7 h7 v8 h8 v9 h9 v10 h10
        have h0':=Eq.symm (show v0=_ from h0)
        subst h0'
        have h1':=Eq.symm (show v1=_ from h1)
        subst h1'
        clear h0 h1 h2 h3 h4 h5 h6 h7 h8 h9
        obtain ⟨bb,rfl,s',hbb,hcell,hsn⟩:=h10
        clear hd1 hd2 K0 Y2
        refine eD.nil ?_
        go_simp
        refine eu 11 [[],[0],[],[],[3],[3,4],[3,4,5],[3,4,5,6],[2,3,4,5,6,7],[2,3,4,5,6,7,8],[2,3,4,5,6,7,8,9],[0,1,2,3,4,5,6,7,8,9,10],[0,1,2,3,4,5,6,7,8,9,10,11],[0,1,2,3,4,5,6,7,8,9,10,11,12]] rfl rfl rfl rfl rfl (by kernel_rfl) (by kernel_rfl) (by kernel_rfl) ?_
        obtain ⟨i0,hi0,hz0,hz1,hz2⟩:=Wt
        have oo:=Lib.hid (qU.out.go eY.1 eY.2)
        have xH:=Lib.hid hsn
        refine wp_append_lies wz _ _ _ (by rfl) W0.heap.size 9 i0 _ 1 16 Tryz.underlying64 hi0 hz0 hz1 hz2 (by rfl) (by omega) (.slice (some ⟨lb,0,none⟩) 2 2) Co.length (Co.flatMap oG) (by rfl) oo.out.gl.own ⟨bb,0,none⟩ 1 1 (oG s') (by rfl) (by rfl) (mJ hcell) (by simp [oG,Value.oneCell']) (by decide) (by unfold maxLen; decide) (by decide) (Nat.le_trans oo.out.lt.2.2.2 (Nat.le_of_succ_le oo.out.sz)) _ rfl ?_
        intro g' cap' w5 hown hgr hmv hlt'
        clear hi0 hz0 hz1 hz2 hcell eY hbb hsn
        have yL:=Lib.hid (oo.out.gl.push (x:=s') (fun _ _=>trivial) rfl hown hgr hmv)
        have iQ:Hid (g'≠tb):=Lib.hid (by
         rcases hmv with h | h
         ·exact oo.out.ne g' h
         ·have:=oo.out.sz; omega)
        have iR:Hid (Below W0.heap.size wz w5):=Lib.hid (mY hgr (fun k hk=>(oo.out.gl.lt k hk).1) (Nat.le_trans oo.out.lt.2.2.2 (Nat.le_of_succ_le oo.out.sz)))
        have fT:Hid (w5.heap[tb]? =some (.cells #[.string s,.int .i64 l,.slice (some ⟨lb,0,none⟩) 2 2,.slice none 0 0] 67 (0,0))):=Lib.hid ((hgr.block tb (Nat.lt_of_succ_le oo.out.sz) (fun e=>oo.out.ne tb e.symm rfl)).trans oo.out.box)
        clear hown hgr hmv hlt'
        have jO:Hid (∀x ∈ Co++[s'],nU x):=Lib.hid (fun x hx=>by
         rcases List.mem_append.1 hx with hx | hx
         ·exact PU x hx
         ·rw [List.mem_singleton.1 hx]; exact xH.out)
        have Jm:=Lib.hid (TI.mg (mg:=Co++[s']) fT.out yL.out (fun k hk=>by injection hk with hk; have hk:g'=k:=hk; have:=iQ.out; omega) ⟨qU.out.ok.1,qU.out.ok.2.1,jO.out,by simp [Co]⟩ (oo.out.mi.tT iR.out oo.out.lt.1 oo.out.lt.2.1 oo.out.lt.2.2.1) (oo.out.km.EN iR.out) oo.out.lt)
        have y2:w5.cell? ⟨tb,2,none⟩=some (.slice (some ⟨lb,0,none⟩) 2 2):=aj fT.out rfl
        have f2:w5.frozen? ⟨tb,2,none⟩=false:=aF fT.out
        clear fT yL iR oo iQ jO
        go_simp
        refine dN 12 13 [] [[],[0],[],[],[3],[3,4],[3,4,5],[3,4,5,6],[2,3,4,5,6,7],[2,3,4,5,6,7,8],[2,3,4,5,6,7,8,9],[0,1,2,3,4,5,6,7,8,9,10],[0,1,2,3,4,5,6,7,8,9,10,11],[0,1,2,3,4,5,6,7,8,9,10,11,12]] [[]] (fun _ w'=>w'=w5) (fun w w'=>w=w') [128] rfl rfl (by rfl) (by kernel_rfl) (by kernel_rfl) (by kernel_rfl) (by kernel_rfl) (by kernel_rfl) (by rfl) (fun _=>rfl) (by rfl) rfl ?_
        simp only [List.take_succ_cons,List.take_zero,List.drop_zero,List.drop_succ_cons,jR,List.map_cons,List.map_nil]
        apply aI.step
        case aG=>
         intro c A w' hok hC hO hD
         have e10:=hO 10 (by rfl)
         simp [Act.eval] at e10
         simp [aC,aB,au,Act.eval,Region.binds] at hD
         simp [go_sem,gd,Oper.wp,hD,e10]
         exact aA.mk rfl hC (aB.mk _ _)
        try simp only [List.nil_append,List.cons_append]
        refine aI.done ?_
        intro wz eY
        try simp only [List.drop_zero,List.drop_succ_cons]
        intro v0 h0
        have h0':=Eq.symm (show v0=_ from h0)
        subst h0'
        clear h0
        refine eD.nil ?_
        go_simp
        refine eu 13 [[],[0],[],[],[3],[3,4],[3,4,5],[3,4,5,6],[2,3,4,5,6,7],[2,3,4,5,6,7,8],[2,3,4,5,6,7,8,9],[0,1,2,3,4,5,6,7,8,9,10],[0,1,2,3,4,5,6,7,8,9,10,11],[0,1,2,3,4,5,6,7,8,9,10,11,12]] rfl rfl rfl rfl rfl (by kernel_rfl) (by kernel_rfl) (by kernel_rfl) ?_
        subst eY
        simp [go_sem,Oper.wp,y2,f2]
        refine fM rfl ?_
        clear y2 f2
        go_simp
        go_wp2_with fail
        go_meet
        refine ⟨rfl,?_⟩
        exact ⟨_,_,_,Jm.out⟩
      ·have y0:=aj (j:=0) qU.out.box rfl
       have f0:W6.frozen? ⟨tb,0,none⟩=false:=aF qU.out.box
       have HTN:=Lib.hid (qU.out.name (s:=⟨#[116]⟩) ⟨by unfold maxLen; decide,by rfl⟩)
       go_wp2_with fail
       go_meet
       refine ⟨rfl,?_⟩
       exact ⟨_,_,_,HTN.out⟩
     obtain ⟨rfl,s',vL,lc,hT⟩:=hcut
     obtain ⟨W7,rfl⟩: ∃W:World,W=wc:=⟨_,rfl⟩
     have Jm:=Lib.hid hT
     clear hT qU
     have wG:Hid (tb + 1≤W7.heap.size):=Lib.hid Jm.out.sz
     have lS:Hid (T.bt < W0.heap.size∧T.bm < W0.heap.size∧W0.heap.size≤tb):=Lib.hid (by have:=Jm.out.lt; omega)
     have hd1:Mk T W7 (W7.drewN 1):=Mk.of_below (below_drewN (Below.refl _ _) 1)
     have hd2:dI (W7.drewN 1) T:=Jm.out.mi.below (below_drewN (Below.refl _ _) 1)
     have K0: ∀w',dI w' T→w'.cell? ⟨T.bm,0,none⟩=some (.pointer (some ⟨T.bt,0,none⟩)):=fun w' h=>h.ptr
     have KL: ∀w',dI w' T→ ∃q:Int,w'.cell? ⟨T.bm,2,none⟩=some (.int .i64 q)∧0≤q∧q≤100:=fun w' h=>by
      obtain ⟨x,q,-,h1,h2,h3⟩:=h.uX
      exact ⟨q,(dB h3 (j:=2) rfl).2,h1,h2⟩
     have HE2:Hid (zk T 2):=Lib.hid (Gz T 2 (by decide))
     have HE7:Hid (zk T 7):=Lib.hid (Gz T 7 (by decide))
     go_upto_region 30 with fail
     refine dY (by kernel_rfl) rfl ?_
     refine dN 0 24 [] [[],[],[1],[1,2],[1,2,3],[1,2,3,4],[1,2,3,4,5],[1,2,3,4,5,6],[1,2,3,4,5,6,7],[],[9],[9,10],[9,10,11],[1,2,3,4,5,9,10,11,12],[1,2,3,4,5,9,10,11,12,13],[],[15],[15,16],[15,16,17],[15,16,17,18],[15,16,17,18,19],[1,2,3,4,5,9,10,11,12,13,14,15,16,17,18,19,20],[0,1,2,3,4,5,6,7,8,9,10,11,12,13,14,15,16,17,18,19,20,21],[0,1,2,3,4,5,6,7,8,9,10,11,12,13,14,15,16,17,18,19,20,21,22],[0,1,2,3,4,5,6,7,8,9,10,11,12,13,14,15,16,17,18,19,20,21,22,23]] [[],[],[],[],[],[],[],[],[],[],[],[],[],[],[],[],[],[],[],[],[],[],[],[]] (fun _ w'=>Mk T W7 w'∧dI w' T) (fun w w'=>Mk T w w') [133,134,135,136,137,138,139,140,141,142,143,144,145,146,147,148,149,150,151,152,153,154,155,156] rfl rfl (by rfl) (by kernel_rfl) (by kernel_rfl) (by kernel_rfl) (by kernel_rfl) (by kernel_rfl) (by rfl) (fun _=>Mk.refl _ _) (by rfl) ⟨hd1,hd2⟩ ?_
     simp only [List.take_succ_cons,List.take_zero,List.drop_zero,List.drop_succ_cons,jR,List.map_cons,List.map_nil]
     apply aI.step
     case aG=>
      intro c A w' hok hC hO hD
      have e3:=hO 3 (by rfl)
      simp [Act.eval] at e3
      simp [aC,aB,au,Act.eval,Region.binds] at hD
      simp [go_sem,gd,Oper.wp,hD,e3]
      exact aA.mk (Mk.refl _ _) hC (aB.mk _ _)
     apply aI.step
     case aG=>
      intro c A w' hok hC hO hD
      have e3:=hO 3 (by rfl)
      simp [Act.eval] at e3
      simp [aC,aB,au,Act.eval,Region.binds] at hD
      simp [go_sem,gd,Oper.wp,hD,e3]
      exact aA.mk (Mk.refl _ _) hC (aB.mk _ _)
     apply aI.step
     case aG=>
      intro c A w' hok hC hO hD
      simp [aC,aB,au,Act.eval,Region.binds] at hD
      simp [go_sem,gd,Oper.wp,hD]
      exact aA.mk (Mk.refl _ _) hC (aB.mk _ _)
     simp only [List.nil_append,List.cons_append]
     apply aI.step
     case aG=>
      intro c A w' hok hC hO hD
      simp [aC,aB,au,Act.eval,Region.binds] at hD
      simp [go_sem,gd,Oper.wp,hD]
      exact aA.mk (Mk.refl _ _) hC (aB.mk _ _)
     apply aI.step
     case aG=>
      intro c A w' hok hC hO hD
      simp [aC,aB,au,Act.eval,Region.binds] at hD
      simp [go_sem,gd,Oper.wp,hD,K0,hC.2]
      exact aA.mk (Mk.refl _ _) hC (aB.mk _ _)
     refine aI.some (fun v _=> ∃r:Nat,v= .int .i64 (r:Int)∧r < 6) (fun _ _ _ _ h=>h) ?_ ?_
     ·intro c A w' hok hC hO hD
      simp [aC,aB,au,Act.eval,Region.binds] at hD
      simp [go_sem,gd,Oper.wp,hD]
      refine (dR T 6 w' (by unfold aM; decide) hC.2).mono ?_
      rintro e w2 ⟨r,rfl,h0,h1,-,hM,hI⟩
      obtain ⟨r',rfl⟩:=Int.eq_ofNat_of_zero_le h0
      exact aA.mk hM ⟨hC.1.trans hM,hI⟩ ⟨r',rfl,by have:=h1 (by decide); omega⟩
     simp only [List.nil_append,List.cons_append]
     refine aI.some (fun v _=>v= .int .i64 0∨v= .int .i64 1) (fun _ _ _ _ h=>h) ?_ ?_
     ·intro c A w' hok hC hO hD
      simp [aC,aB,au,Act.eval,Region.binds] at hD
      obtain ⟨r,hr,hr6⟩:=hD
      have hr6:r=0∨r=1∨r=2∨r=3∨r=4∨r=5:=by omega
      rcases hr6 with rfl | rfl | rfl | rfl | rfl | rfl
      all_goals
       simp [go_sem,gd,Oper.wp,hr]
       exact aA.mk (Mk.refl _ _) hC (by first | exact .inl rfl | exact .inr rfl)
     simp only [List.nil_append,List.cons_append]
     refine aI.some (fun v _=>v= .int .i64 0∨v= .int .i64 5) (fun _ _ _ _ h=>h) ?_ ?_
     ·intro c A w' hok hC hO hD
      simp [aC,aB,au,Act.eval,Region.binds] at hD
      rcases hD with hr | hr
      all_goals
       simp [go_sem,gd,Oper.wp,hr]
       exact aA.mk (Mk.refl _ _) hC (by first | exact .inl rfl | exact .inr rfl)
     simp only [List.nil_append,List.cons_append]
     refine aI.some (fun v _=>v= .int .i64 2∨v= .int .i64 7) (fun _ _ _ _ h=>h) ?_ ?_
     ·intro c A w' hok hC hO hD
      simp [aC,aB,au,Act.eval,Region.binds] at hD
      rcases hD with hr | hr
      all_goals
       simp [go_sem,gd,Oper.wp,hr]
       exact aA.mk (Mk.refl _ _) hC (by first | exact .inl rfl | exact .inr rfl)
     simp only [List.nil_append,List.cons_append]
     apply aI.step
     case aG=>
      intro c A w' hok hC hO hD
      have e3:=hO 3 (by rfl)
      simp [Act.eval] at e3
      simp [aC,aB,au,Act.eval,Region.binds] at hD
      simp [go_sem,gd,Oper.wp,hD,e3]
      exact aA.mk (Mk.refl _ _) hC (aB.mk _ _)
     apply aI.step
     case aG=>
      intro c A w' hok hC hO hD
      simp [aC,aB,au,Act.eval,Region.binds] at hD
      simp [go_sem,gd,Oper.wp,hD]
      exact aA.mk (Mk.refl _ _) hC (aB.mk _ _)
     apply aI.step
     case aG=>
      intro c A w' hok hC hO hD
      simp [aC,aB,au,Act.eval,Region.binds] at hD
      simp [go_sem,gd,Oper.wp,hD]
      exact aA.mk (Mk.refl _ _) hC (aB.mk _ _)
     simp only [List.nil_append,List.cons_append]
     apply aI.step
     case aG=>
      intro c A w' hok hC hO hD
      simp [aC,aB,au,Act.eval,Region.binds] at hD
      simp [go_sem,gd,Oper.wp,hD,K0,hC.2]
      exact aA.mk (Mk.refl _ _) hC (aB.mk _ _)
     refine aI.some (fun v _=> ∃r:Nat,v= .int .i64 (r:Int)∧r < 4) (fun _ _ _ _ h=>h) ?_ ?_
     ·intro c A w' hok hC hO hD
      simp [aC,aB,au,Act.eval,Region.binds] at hD
      simp [go_sem,gd,Oper.wp,hD]
      refine (dR T 4 w' (by unfold aM; decide) hC.2).mono ?_
      rintro e w2 ⟨r,rfl,h0,h1,-,hM,hI⟩
      obtain ⟨r',rfl⟩:=Int.eq_ofNat_of_zero_le h0
      exact aA.mk hM ⟨hC.1.trans hM,hI⟩ ⟨r',rfl,by have:=h1 (by decide); omega⟩
     simp only [List.nil_append,List.cons_append]
     refine aI.some (fun v w'=> ∃r:Nat,v= .int .i64 (r:Int)∧1≤r∧r≤4) (fun _ _ _ _ h=>h) ?_ ?_
     ·intro c A w' hok hC hO hD
      simp [aC,aB,au,Act.eval,Region.binds] at hD
      obtain ⟨r,hr,Ip⟩:=hD
      have hw:IntKind.i64.wrap (1 + (r:Int))=1 + r:=IntWalk.i64_in _ (by omega)
      simp [go_sem,gd,Oper.wp,hr,hw]
      exact aA.mk (Mk.refl _ _) hC (⟨1 + r,by simp,by omega,by omega⟩)
     simp only [List.nil_append,List.cons_append]
     apply aI.step
     case aG=>
      intro c A w' hok hC hO hD
      have e3:=hO 3 (by rfl)
      simp [Act.eval] at e3
      simp [aC,aB,au,Act.eval,Region.binds] at hD
      simp [go_sem,gd,Oper.wp,hD,e3]
      exact aA.mk (Mk.refl _ _) hC (aB.mk _ _)
     apply aI.step
     case aG=>
      intro c A w' hok hC hO hD
      simp [aC,aB,au,Act.eval,Region.binds] at hD
      simp [go_sem,gd,Oper.wp,hD]
      exact aA.mk (Mk.refl _ _) hC (aB.mk _ _)
     apply aI.step
     case aG=>
      intro c A w' hok hC hO hD
      simp [aC,aB,au,Act.eval,Region.binds] at hD
      simp [go_sem,gd,Oper.wp,hD]
      exact aA.mk (Mk.refl _ _) hC (aB.mk _ _)
     simp only [List.nil_append,List.cons_append]
     refine aI.some (fun v w'=> ∃q:Nat,v= .int .i64 (q:Int)∧q≤100) (fun _ _ _ _ h=>h) ?_ ?_
     ·intro c A w' hok hC hO hD
      simp [aC,aB,au,Act.eval,Region.binds] at hD
      obtain ⟨q',hq,hq0,hq1⟩:=KL w' hC.2
      obtain ⟨q,rfl⟩:=Int.eq_ofNat_of_zero_le hq0
      simp [go_sem,gd,Oper.wp,hD,hq]
      exact aA.mk (Mk.refl _ _) hC (⟨q,rfl,by omega⟩)
     simp only [List.nil_append,List.cons_append]
     refine aI.some (fun v w'=> ∃q:Nat,v= .int .i64 (q:Int)∧q≤5) (fun _ _ _ _ h=>h) ?_ ?_
     ·intro c A w' hok hC hO hD
      simp [aC,aB,au,Act.eval,Region.binds] at hD
      obtain ⟨q,hr,Ip⟩:=hD
      have hw:IntKind.i64.wrap ((q:Int) / 20)=(q:Int) / 20:=IntWalk.i64_in _ (by omega)
      simp [go_sem,gd,Oper.wp,hr,hw]
      exact aA.mk (Mk.refl _ _) hC (⟨q / 20,by simp,by omega⟩)
     simp only [List.nil_append,List.cons_append]
     refine aI.some (fun v w'=> ∃q:Nat,v= .int .i64 (q:Int)∧q≤50) (fun _ _ _ _ h=>h) ?_ ?_
     ·intro c A w' hok hC hO hD
      simp [aC,aB,au,Act.eval,Region.binds] at hD
      obtain ⟨q,hr,Ip⟩:=hD
      have hw:IntKind.i64.wrap ((q:Int) * 10)=((q * 10:Nat):Int):=(IntWalk.i64_in _ (by omega)).trans (by omega)
      simp [go_sem,gd,Oper.wp,hr,hw]
      exact aA.mk (Mk.refl _ _) hC (⟨q * 10,by simp,by omega⟩)
     simp only [List.nil_append,List.cons_append]
     refine aI.some (fun v w'=> ∃q:Nat,v= .int .i64 (q:Int)∧q≤54) (fun _ _ _ _ h=>h) ?_ ?_
     ·intro c A w' hok hC hO hD
      simp [aC,aB,au,Act.eval,Region.binds] at hD
      obtain ⟨⟨r,hr,hr1,hr4⟩,q,hq,EM⟩:=hD
      have hw:IntKind.i64.wrap ((r:Int) + (q:Int))=((r + q:Nat):Int):=(IntWalk.i64_in _ (by omega)).trans (by omega)
      simp [go_sem,gd,Oper.wp,hr,hq,hw]
      exact aA.mk (Mk.refl _ _) hC (⟨r + q,by simp,by omega⟩)
     simp only [List.nil_append,List.cons_append]
     refine aI.some (fun v w'=> ∃(l:aS) (ao:Option Addr) (cap:Nat),v= .slice ao (aS.len l) cap∧(aS.len l≤1000∧vg WB l)∧bJ W7.heap.size w' (fun w2=>l.At w2 w2.heap.size ao 0)) ?_ ?_ ?_
     ·rintro v w1 w' hle ⟨l,ao,cap,h1,h2,h3⟩
      exact ⟨l,ao,cap,h1,h2,h3.next (hle.zm (by have:=lS.out; have:=wG.out; omega) (by have:=lS.out; have:=wG.out; omega))⟩
     ·intro c A w' hok hC hO hD
      simp [aC,aB,au,Act.eval,Region.binds] at hD
      obtain ⟨YJ,IV,⟨q,hq,EM⟩,-⟩:=hD
      rcases IV with IV | IV
      ·simp [go_sem,gd,Oper.wp,YJ,IV,hq]
       refine (HE2.out w' _ hC.2 (by unfold aM; omega) (by omega)).mono ?_
       rintro e w3 ⟨l,ao,cap,rfl,h1,h2,h3,h4⟩
       exact aA.mk h3 ⟨hC.1.trans h3,h4⟩ ⟨l,ao,⟨cap,rfl⟩,⟨h1.1,h1.2.mono (wb2 EM)⟩,h2.mono hC.1.size⟩
      ·simp [go_sem,gd,Oper.wp,YJ,IV,hq]
       refine (HE7.out w' _ hC.2 (by unfold aM; omega) (by omega)).mono ?_
       rintro e w3 ⟨l,ao,cap,rfl,h1,h2,h3,h4⟩
       exact aA.mk h3 ⟨hC.1.trans h3,h4⟩ ⟨l,ao,⟨cap,rfl⟩,⟨h1.1,h1.2.mono (wb7 EM)⟩,h2.mono hC.1.size⟩
     simp only [List.nil_append,List.cons_append]
     apply aI.step
     case aG=>
      intro c A w' hok hC hO hD
      have e10:=hO 10 (by rfl)
      simp [Act.eval] at e10
      simp [aC,aB,au,Act.eval,Region.binds] at hD
      simp [go_sem,gd,Oper.wp,hD,e10]
      exact aA.mk (Mk.refl _ _) hC (aB.mk _ _)
     try simp only [List.nil_append,List.cons_append]
     refine aI.done ?_
     intro wz eY
     try simp only [List.drop_zero,List.drop_succ_cons]
     intro v0 h0 v1 h1 v2 h2 v3 h3 v4 h4 v5 h5 v6 h6 v7 h7 v8 h8 v9 h9 v10 h10 v11 h11 v12 h12 v13 Cv v14 M9 v15 Mj v16 h16 v17 OO v18 h18 v19 h19 v20 h20 v21 h21 v22 h22 v23 h23
     have ap7:=Eq.symm (show v23=_ from h23)
     subst ap7
     clear h0 h1 h2 h3 h4 h5 h6 h7 h8 h9 h10 h11 h12 Cv M9 Mj h16 OO h18 h19 h20 h21 h23
     obtain ⟨lb',jf,cap',rfl,hlen,hst⟩:=h22
     clear hd1 hd2 K0 KL HE2 HE7
     refine eD.nil ?_
     go_simp
     refine eu 24 [[],[],[1],[1,2],[1,2,3],[1,2,3,4],[1,2,3,4,5],[1,2,3,4,5,6],[1,2,3,4,5,6,7],[],[9],[9,10],[9,10,11],[1,2,3,4,5,9,10,11,12],[1,2,3,4,5,9,10,11,12,13],[],[15],[15,16],[15,16,17],[15,16,17,18],[15,16,17,18,19],[1,2,3,4,5,9,10,11,12,13,14,15,16,17,18,19,20],[0,1,2,3,4,5,6,7,8,9,10,11,12,13,14,15,16,17,18,19,20,21],[0,1,2,3,4,5,6,7,8,9,10,11,12,13,14,15,16,17,18,19,20,21,22],[0,1,2,3,4,5,6,7,8,9,10,11,12,13,14,15,16,17,18,19,20,21,22,23]] rfl rfl rfl rfl rfl (by kernel_rfl) (by kernel_rfl) (by kernel_rfl) ?_
     have oo:=Lib.hid (Jm.out.go eY.1 eY.2)
     have pR:=Lib.hid hlen
     have HST:=Lib.hid hst
     have y3:wz.cell? ⟨tb,3,none⟩=some (.slice none 0 0):=aj oo.out.box rfl
     have f3:wz.frozen? ⟨tb,3,none⟩=false:=aF oo.out.box
     clear eY hlen hst Jm
     simp [go_sem,Oper.wp,y3,f3]
     refine fM rfl ?_
     generalize Yy:World.setCell wz _ _=W8
     have xO:Hid (TI T W0 tb W8 s' l vL lc (.slice jf lb'.len cap')):=Lib.hid (by rw [← Yy]; exact oo.out.body)
     have vV:Hid (bJ W7.heap.size W8 (fun w2=>lb'.At w2 w2.heap.size jf 0)):=Lib.hid (by rw [← Yy]; exact HST.out.next (bH _ _ _ wG.out))
     clear Yy y3 f3 oo HST
     go_simp
     have jl:=Lib.hid (xQ.out.go xO.out.km xO.out.mi)
     obtain ⟨fP,dn,el,hcl,hsl⟩:=xO.out.gl.says (fun x hx=>(xO.out.ok.2.2.1 x hx).1)
     subst el
     have HSL:=Lib.hid (And.intro hcl hsl)
     clear hcl hsl
     have y0:W8.cell? ⟨tb,0,none⟩=some (.string s'):=aj xO.out.box rfl
     have y1:W8.cell? ⟨tb,1,none⟩=some (.int .i64 l):=aj xO.out.box rfl
     have y2:W8.cell? ⟨tb,2,none⟩=some (.slice fP lc.length dn):=aj xO.out.box rfl
     have y3:W8.cell? ⟨tb,3,none⟩=some (.slice jf lb'.len cap'):=aj xO.out.box rfl
     have yT:W8.cell? ⟨pb,1,none⟩=some vT:=aj jl.out.box rfl
     have HX:Hid (dS (nb + 1) vT.ownBlock W8 (eU.I ⟨⟨s',l,lc,lb'⟩,fP,dn,jf,cap'⟩)):=Lib.hid (by
      refine oM (B1:=W0.heap.size) ?_ iD.out (fun k hk=>(xQ.out.gt.lt k hk).2)
      have hb2:W0.heap.size≤W7.heap.size:=by have:=lS.out; have:=wG.out; omega
      exact fun w' h'=>⟨HSL.out.2 w' h',(vV.out.mono hb2) w' h'⟩)
     have gq:Hid (((⟨s',l,lc,lb'⟩:Th).Ok∧lc.length≤dn)∧ShT ⟨s',l,lc,lb'⟩):=Lib.hid ⟨⟨⟨xO.out.ok.1.1,xO.out.ok.2.1,by have:=xO.out.ok.2.2.2; show lc.length≤maxLen; unfold maxLen; omega,by have:=pR.out.1; show lb'.len≤maxLen; unfold maxLen; omega⟩,HSL.out.1⟩,xO.out.ok.1.2,fun x hx=>(xO.out.ok.2.2.1 x hx).2,pR.out.2,xO.out.ok.2.2.2⟩
     have M4:=Lib.hid (jl.out.go (Mk.of_below (ah W8 (.cells (eU.f ⟨⟨s',l,lc,lb'⟩,fP,dn,jf,cap'⟩).toArray 67))) (jl.out.mi.below (ah _ _)))
     have qC:=Lib.hid (mJ (heap_alloc_new W8 (.cells (eU.f ⟨⟨s',l,lc,lb'⟩,fP,dn,jf,cap'⟩).toArray 67)))
     obtain ⟨i0,hi,hz0,hz1,hz2⟩:=Wq
     have hbs:nb + 1≤W8.heap.size + 1:=Nat.le_succ_of_le jl.out.sz
     have hkl:lT.length + 1≤maxLen:=by rw [LW.out]; unfold maxLen; omega
     have hkb:(lT.length + 1) * 72≤140737488355328:=by rw [LW.out]; omega
     go_wp2_with (at_builtin; refine wpList_append_lies _ rfl _ _ 24 rfl (nb + 1) 67 i0 _ 4 72 Tryz.underlying24 hi hz0 hz1 hz2 rfl (by decide) _ _ _ rfl M4.out.gt.own ⟨W8.heap.size,0,none⟩ 1 1 (eU.f ⟨⟨s',l,lc,lb'⟩,fP,dn,jf,cap'⟩) rfl rfl qC.out (VG _) (by decide) hkl hkb (by simpa using hbs) _ rfl ?_)
     clear hi hz0 hz1 hz2 hbs hkl hkb
     intro g' cap2 w9 hown hgr hmv hlt'
     have Dy:=Lib.hid (M4.out.push (HX.out.next (aL (ah _ _)).x) gq.out rfl hown hgr (by simpa using hmv))
     have iK:Hid (Below (nb + 1) (W8.alloc (.cells (eU.f ⟨⟨s',l,lc,lb'⟩,fP,dn,jf,cap'⟩).toArray 67)) w9):=Lib.hid (mY hgr (fun k hk=>(M4.out.gt.lt k hk).1) M4.out.sz)
     have fT:Hid (w9.heap[pb]? =some (.cells #[vD,vT] 26 (0,0))):=Lib.hid ((iK.out.block pb (by have:=aX.out; omega)).trans M4.out.box)
     have z1:w9.cell? ⟨pb,1,none⟩=some vT:=aj fT.out rfl
     have f1:w9.frozen? ⟨pb,1,none⟩=false:=aF fT.out
     clear hown hgr hmv hlt' y0 y1 y2 y3 yT qC M4 HX fT iK
     go_wp2_with fail
     go_roundw
     case rel=>exact ⟨k + 1,_,_,by go_num,by omega,by simp [LW.out],Dy.out⟩
     case measure=>simp [intOf]; omega
    ·have hk:k=n':=by omega
     subst hk
     obtain ⟨bY,bM,e1,hcd,hsD⟩:=HP.out.gd.says (fun x hx=>(HP.out.Lm x hx).1)
     obtain ⟨dV,bW,e2,hct,hsT⟩:=HP.out.gt.says (fun x hx=>(HP.out.Iz x hx).1)
     subst e1 e2
     have DL:=Lib.hid (And.intro hsD (And.intro hsT (And.intro hcd hct)))
     clear hsD hsT hcd hct
     have y0:=aj (j:=0) HP.out.box rfl
     have y1:=aj (j:=1) HP.out.box rfl
     have HRW:Hid (wr.heap[w.heap.size]? =some (.cells #[.slice none 0 0,.slice none 0 0] 26 (0,0))):=Lib.hid ((HP.out.km.block _ (Array.getElem?_eq_some_iff.1 HR2.out).1 (by have:=bq.out; omega) (by have:=bq.out; omega)).trans HR2.out)
     have z0:wr.cell? ⟨w.heap.size,0,none⟩=some (.slice none 0 0):=aj HRW.out rfl
     have z1:wr.cell? ⟨w.heap.size,1,none⟩=some (.slice none 0 0):=aj HRW.out rfl
     have f0: ∀j,wr.frozen? ⟨w.heap.size,j,none⟩=false:=fun j=>aF HRW.out
     go_wp2_with fail
     have Jb:Hid (dO (w.heap.size + 1) wr ((wr.setCell ⟨w.heap.size,0,none⟩ (.slice bY ds.length bM)).setCell ⟨w.heap.size,1,none⟩ (.slice dV lT.length bW))):=Lib.hid (dO.trans (bH wr ⟨w.heap.size,0,none⟩ (.slice bY ds.length bM) (Nat.lt_succ_self w.heap.size)) (bH (wr.setCell ⟨w.heap.size,0,none⟩ (.slice bY ds.length bM)) ⟨w.heap.size,1,none⟩ (.slice dV lT.length bW) (Nat.lt_succ_self w.heap.size)))
     have Z7:Hid (Below w.heap.size w ((wr.setCell ⟨w.heap.size,0,none⟩ (.slice bY ds.length bM)).setCell ⟨w.heap.size,1,none⟩ (.slice dV lT.length bW))):=Lib.hid (((Rx HBW.out HP.out.km (by have:=bq.out; omega) (by have:=bq.out; omega)).setCell (by simp) _).setCell (by simp) _)
     refine bodyPost_ret (v:= .agg #[.slice bY ds.length bM,.slice dV lT.length bW]) (by simp [results,Tryz.results9,go_sem,z0,z1]) rfl ⟨⟨ds,lT.map (·.t)⟩,bY,dV,bM,bW,by simp,⟨?_,?_,?_,?_⟩,DL.out.2.2.1,?_,?_,Z7.out⟩
     ·show ds.length≤maxLen
      have:=Ug.out; unfold maxLen; omega
     ·show (lT.map (·.t)).length≤maxLen
      rw [List.length_map,LW.out]; unfold maxLen; omega
     ·exact DL.out.1 _ (Jb.out.mono (by have:=bq.out; omega))
     ·exact DL.out.2.1 _ (Jb.out.mono (by have:=bq.out; have:=HP.out.lt; omega))
     ·show (lT.map (·.t)).length≤bW
      rw [List.length_map]; exact DL.out.2.2.2
     ·refine ⟨?_,by show (lT.map (·.t)).length≤5; rw [List.length_map,LW.out]; omega,by show ds.length≤1000; have:=Ug.out; omega,fun t ht=>by
       obtain ⟨y,hy,rfl⟩:=List.mem_map.1 ht
       have hq:=(HP.out.Iz y hy).2
       exact ⟨hq.2.2.2,hq.2.2.1.2⟩⟩
      unfold yx
      have e1:ds.all jv=true:=List.all_eq_true.2 (fun x hx=>(HP.out.Lm x hx).2)
      have e2:(lT.map (·.t)).all mW=true:=List.all_eq_true.2 (fun x hx=>by
       obtain ⟨y,hy,rfl⟩:=List.mem_map.1 hx
       obtain ⟨q1,q2,⟨q3,-⟩,-⟩:=(HP.out.Iz y hy).2
       unfold mW
       rw [q1,q3,List.all_eq_true.2 (fun s hs=>q2 s hs)]; rfl)
      have e3:decide ((0:Int) < ((lT.map (·.t)).length:Nat))=true:=by
       rw [List.length_map,LW.out]; exact decide_eq_true (by omega)
      show ((ds.all jv && (lT.map (·.t)).all mW) && decide ((0:Int) < ((lT.map (·.t)).length:Nat)))=true
      rw [e1,e2,e3]; rfl
end Go.Proofs.YtehnipchbmjlhaaGreatDoor
end
section
namespace Go.Proofs.YtehnipchbmjlhaaGreatDoor
open Go.ChangeShapes Go.WideShapes Go.ChangeAt Go.RowKit
open Go.WideMaps Go.WideElems
theorem VD:Tryz.prog.cellsOf 5=1:=by kernel_rfl
theorem Qj {H:Type} {enc:TypeId × Value→H} {W:World} {base:Nat} {v:Value} {d:DataW H} {p:List MemPlace} (hv:Value.okWide Tryz.prog W .any base 22 v)
 (h:DataW.Trod enc Tryz.prog W 0 (fun _=>true) true 22 v d p) (hlt: ∀x ∈ p,x.block < W.heap.size):
 ∃(ao:Option Addr) (len cap:Nat) (zs:List Int),v= .slice ao len cap∧zs.length=len∧len≤maxLen∧GY W W.heap.size zs ao:=by
 obtain ⟨a0,len,cap,rfl⟩:=okWide_slice Tryz.underlying22 hv
 obtain ⟨fuel,hf⟩:=h
 rcases open_ints Tryz.underlying22 Tryz.underlying5 VD hf with ⟨hcs,hx⟩ | ⟨a,len',cap',zs,hcs,_,hl,hm,hz,hx,hcell,hwz⟩
 ·simp [Value.cells] at hcs
  obtain ⟨rfl,rfl,rfl⟩:=hcs
  exact ⟨none,0,0,[],rfl,rfl,Nat.zero_le _,fun k hk=>absurd hk (by simp)⟩
 ·simp [Value.cells] at hcs
  obtain ⟨rfl,rfl,rfl⟩:=hcs
  simp only [Prod.mk.injEq] at hx
  obtain ⟨rfl,rfl⟩:=hx
  simp only [if_true] at hz
  refine ⟨some a,len,cap,zs.take len,rfl,by rw [List.length_take]; omega,by omega,fun k hk=> ?_⟩
  have hk':k < zs.length:=by rw [List.length_take] at hk; omega
  obtain ⟨b,off,spot⟩:=a
  have hspot:spot=none:=by simpa [Addr.add] using World.cell?_spot (hcell 0 (by omega))
  subst hspot
  have hbW:b < W.heap.size:=hlt (.cell b off) (MemPlace.mem_row.2 ⟨0,by omega,by simp⟩)
  have hb:=bounds_u8 (hwz zs[k] (List.getElem_mem hk'))
  refine ⟨b,off,rfl,hbW,?_,?_⟩
  ·rw [← add_plain,hcell k hk',List.getElem_take]
   simp [hk']
  ·rw [List.getElem_take]; exact hb
end Go.Proofs.YtehnipchbmjlhaaGreatDoor
end
