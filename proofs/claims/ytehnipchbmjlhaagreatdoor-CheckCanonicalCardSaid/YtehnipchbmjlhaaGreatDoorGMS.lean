/-
  Contract of the maker's decls: nine shaped declarations in a new block.
  Contract of the maker's Loose: it returns a shaped program that lies in new memory.
  Bytes as an argument.
-/
import Derived.Test.YtehnipchbmjlhaaGreatDoorGMR
import Derived.Test.YtehnipchbmjlhaaGreatDoorGMC
import Derived.Deep.LoopGhost
import Derived.Test.YtehnipchbmjlhaaGreatDoorGMP
import Derived.Test.YtehnipchbmjlhaaGreatDoorGMO
import Derived.ProofKit
import Derived.OpenShut
set_option linter.unusedSimpArgs false
set_option linter.unusedVariables false
set_option maxHeartbeats 40000000
set_option maxRecDepth 1000000
section
namespace Go.Proofs.YtehnipchbmjlhaaGreatDoor
open Go.RowKit
open Md
def Hy:List De:=[⟨1,0,⟨#[120]⟩,0,0,⟨#[]⟩⟩,⟨1,0,⟨#[121]⟩,0,1,⟨#[]⟩⟩,⟨2,0,⟨#[118]⟩,0,0,⟨#[]⟩⟩,⟨1,0,⟨#[113]⟩,2,0,⟨#[]⟩⟩,⟨3,0,⟨#[109]⟩,0,0,⟨#[]⟩⟩,⟨3,0,⟨#[110]⟩,0,0,⟨#[]⟩⟩,⟨4,0,⟨#[114]⟩,0,0,⟨#[]⟩⟩,⟨5,0,⟨#[99]⟩,0,0,⟨#[109]⟩⟩,⟨6,0,⟨#[102]⟩,0,0,⟨#[]⟩⟩]
theorem Vi:(Tryz.prog.info? 62).map (fun i=>(i.zero,i.size,i.bytes))=some (some (.agg Kg),6,64):=by kernel_rfl
theorem U2: ∃i0,Tryz.prog.info? 62=some i0∧i0.zero=some (.agg Kg)∧i0.size=6∧i0.bytes=64:=info_parts Vi
theorem UC (x:De): ∀u ∈ iA x,u.oneCell'=true:=by
 intro u hu; simp [iA] at hu
 rcases hu with rfl | rfl | rfl | rfl | rfl | rfl <;> rfl
theorem UQ: ∀d ∈ Hy,d.Ok∧fG d=true:=by
 intro d hd
 simp only [Hy,List.mem_cons,List.not_mem_nil,or_false] at hd
 rcases hd with rfl | rfl | rfl | rfl | rfl | rfl | rfl | rfl | rfl <;> exact ⟨⟨by unfold aU; decide,by unfold aU; decide,by unfold maxLen; decide,by unfold aU; decide,by unfold aU; decide,by unfold maxLen; decide⟩,by rfl⟩
def Zb (w:World) (e:Ending) (w':World):Prop:= ∃g,e= .returned (.slice (some ⟨g,0,none⟩) 9 9)∧w.heap.size≤g∧w'.heap[g]? =some (.cells (Hy.flatMap iA).toArray 62 (0,0))∧Below w.heap.size w w'
theorem Nh (w:World):Calls Tryz.prog 27 #[] w (Zb w):=by
 go_enter Tryz.func27,Tryz.ntmps27
 go_wp2
 go_ret
 refine ⟨_,rfl,?_,?_,?_⟩
 ·exact Nat.le_refl _
 ·exact heap_alloc_new _ _
 ·exact ah _ _
theorem Grow.Dc {α:Type} {f:α→List Value} {m:Nat} {ty:TypeId} {B:Nat} {w w':World} {v:Value} {xs:List α} {g:Option Nat} (h:Grow f m (fun _ _=>True) ty B w v xs) (ha:qb B g w w') (hne: ∀k,v.ownBlock=some k→some k≠g):Grow f m (fun _ _=>True) ty B w' v xs:=by
 refine ⟨⟨h.own.1,?_⟩,fun x hx _ _=>trivial⟩
 rcases h.own.2 with h1 | ⟨g',cap,cur,h1,h2,h3,h4⟩
 ·exact .inl h1
 ·exact .inr ⟨g',cap,cur,h1,h2,(ha.2 g' h2 (hne g' (by rw [h1]; rfl)) (Array.getElem?_eq_some_iff.1 h3).1).trans h3,h4⟩
theorem Grow.made {α:Type} {f:α→List Value} {m:Nat} {ty:TypeId} {B:Nat} {W:World} {g n:Nat} {xs:List α} (hf: ∀x,(f x).length=m) (h:W.heap[g]? =some (.cells (xs.flatMap f).toArray ty (0,0))) (hB:B≤g) (hn:xs.length=n) (hm:n≤maxLen):Grow f m (fun _ _=>True) ty B W (.slice (some ⟨g,0,none⟩) n n) xs:=by
 subst hn
 have hl:=CG hf xs
 refine ⟨⟨hl,.inr ⟨g,xs.length,_,rfl,hB,h,Nat.le_refl _,hm,by simpa using hl,?_⟩⟩,fun x hx _ _=>trivial⟩
 exact List.take_of_length_le (by simpa using Nat.le_of_eq hl)
theorem Jm {α:Type} {f:α→List Value} {m:Nat} (hf: ∀x,(f x).length=m): ∀(xs:List α) (k:Nat) (x x':α) (j:Nat) (u:Value),xs[k]? =some x→j < m→(f x).set j u=f x'→(xs.flatMap f).set (k * m + j) u=(xs.set k x').flatMap f
 | [],_,_,_,_,_,h,_,_=>by simp at h
 | y ::xs,0,x,x',j,u,h,hj,hu=>by
   simp at h; subst h
   rw [Nat.zero_mul,Nat.zero_add,List.flatMap_cons,List.set_append_left _ _ (by rw [hf]; exact hj),hu]; rfl
 | y ::xs,k + 1,x,x',j,u,h,hj,hu=>by
   have ih:=Jm hf xs k x x' j u (by simpa using h) hj hu
   have e:(k + 1) * m + j=m + (k * m + j):=by rw [Nat.add_mul]; omega
   rw [List.flatMap_cons,List.set_append_right _ _ (by rw [hf,e]; omega),hf,e,Nat.add_sub_cancel_left,ih]; rfl
theorem Grow.set {α:Type} {f:α→List Value} {m:Nat} {ty:TypeId} {B:Nat} {w:World} {g n cap k j:Nat} {u:Value} {xs:List α} {x x':α} (hf: ∀x,(f x).length=m) (h:Grow f m (fun _ _=>True) ty B w (.slice (some ⟨g,0,none⟩) n cap) xs) (hk:xs[k]? =some x) (hj:j < m) (hu:(f x).set j u=f x'):
 Grow f m (fun _ _=>True) ty B (w.setCell ⟨g,k * m + j,none⟩ u) (.slice (some ⟨g,0,none⟩) n cap) (xs.set k x'):=by
 refine ⟨⟨by rw [CG hf,],?_⟩,fun x hx _ _=>trivial⟩
 rcases h.own.2 with ⟨h1,-⟩ | ⟨g',cap',cur,h1,h2,h3,h4,h5,h6,h7⟩
 ·cases h1
 ·injection h1 with e1 e2 e3; injection e1 with e1; injection e1 with e1; subst e1; subst e3; subst e2
  refine .inr ⟨g,cap,cur.setIfInBounds (k * m + j) u,by rw [List.length_set],h2,bQ h3 u,by rw [List.length_set]; exact h4,h5,by simpa using h6,?_⟩
  rw [← Jm hf xs k x x' j u hk hj hu,← h7,Array.toList_setIfInBounds,List.length_set,List.take_set]
structure PD (T:Tp) (w1:World) (pb:Nat) (W:World) (vD:Value) (ds:List De):Prop where
 box:W.heap[pb]? =some (.cells #[vD,.slice none 0 0] 26 (0,0))
 gd:rY (pb + 1) W vD ds
 ok: ∀d ∈ ds,d.Ok∧fG d=true
 mi:dJ W T
 km:Mk T w1 W
 lt:T.bt < w1.heap.size∧T.bm < w1.heap.size∧T.B0≤w1.heap.size∧w1.heap.size≤pb
section
variable {T:Tp} {w1 W W':World} {pb:Nat} {vD:Value} {ds:List De}
theorem PD.sz (h:PD T w1 pb W vD ds):pb + 1≤W.heap.size:=(Array.getElem?_eq_some_iff.1 h.box).1
theorem PD.go (h:PD T w1 pb W vD ds) (hM:Mk T W W') (hI:dJ W' T):PD T w1 pb W' vD ds where
 box:=(hM.block pb h.sz (by have:=h.lt; omega) (by have:=h.lt; omega)).trans h.box
 gd:=h.gd.next (hM.xA (by have:=h.lt; omega) (by have:=h.lt; omega))
 ok:=h.ok
 mi:=hI
 km:=h.km.trans hM
 lt:=h.lt
theorem PD.put {BA:Value} {ds':List De} (h:PD T w1 pb W vD ds) (hg:rY (pb + 1) W BA ds') (hok: ∀d ∈ ds',d.Ok∧fG d=true):PD T w1 pb (W.setCell ⟨pb,0,none⟩ BA) BA ds' where
 box:=by rw [bQ h.box]; rfl
 gd:=hg.next (dO _ _ _ (Nat.lt_succ_self _))
 ok:=hok
 mi:=h.mi.set _ _ (by have:=h.lt; show T.B0≤pb; omega) (by have:=h.lt; show pb≠_; omega) (by have:=h.lt; show pb≠_; omega)
 km:=h.km.set _ _ (by have:=h.lt; show _≤pb; omega)
 lt:=h.lt
theorem PD.put' {v0 BA:Value} {ds':List De} (hb:W.heap[pb]? =some (.cells #[v0,.slice none 0 0] 26 (0,0))) (mi:dJ W T) (km:Mk T w1 W) (lt:T.bt < w1.heap.size∧T.bm < w1.heap.size∧T.B0≤w1.heap.size∧w1.heap.size≤pb) (hg:rY (pb + 1) W BA ds') (hok: ∀d ∈ ds',d.Ok∧fG d=true):PD T w1 pb (W.setCell ⟨pb,0,none⟩ BA) BA ds' where
 box:=by rw [bQ hb]; rfl
 gd:=hg.next (dO _ _ _ (Nat.lt_succ_self _))
 ok:=hok
 mi:=mi.set _ _ (by show T.B0≤pb; omega) (by show pb≠_; omega) (by show pb≠_; omega)
 km:=km.set _ _ (by show _≤pb; omega)
 lt:=lt
theorem PD.line {k:Nat} {d:De} {l:Int} {g n cap:Nat} (h:PD T w1 pb W (.slice (some ⟨g,0,none⟩) n cap) ds) (hk:ds[k]? =some d) (hl:aU l):PD T w1 pb (W.setCell ⟨g,k * 6 + 1,none⟩ (.int .i64 l)) (.slice (some ⟨g,0,none⟩) n cap) (ds.set k {d with line:=l}) where
 box:=(bJ W _ _ rfl (by have:=(h.gd.lt g rfl).1; show g≠_; omega)).trans h.box
 gd:=h.gd.set xC hk (by decide) rfl
 ok:=fun x hx=>by
  rcases List.mem_or_eq_of_mem_set hx with hx | rfl
  ·exact h.ok x hx
  ·have:=h.ok d (List.mem_of_getElem? hk)
   exact ⟨⟨this.1.1,hl,this.1.2.2⟩,this.2⟩
 mi:=h.mi.set _ _ (by have:=h.lt; have:=(h.gd.lt g rfl).1; show T.B0≤g; omega) (by have:=h.lt; have:=(h.gd.lt g rfl).1; show g≠_; omega) (by have:=h.lt; have:=(h.gd.lt g rfl).1; show g≠_; omega)
 km:=h.km.set _ _ (by have:=h.lt; have:=(h.gd.lt g rfl).1; show _≤g; omega)
 lt:=h.lt
theorem PD.Mi {l:Int} (h:PD T w1 pb W vD ds) (hl:aU l):PD T w1 pb (W.setCell ⟨T.bm,1,none⟩ (.int .i64 l)) vD ds:=
 h.go ((Mk.refl T W).Jo _ _) (h.mi.line hl)
theorem PD.size_le (h:PD T w1 pb W vD ds): ∀k,vD.ownBlock=some k→k < W.heap.size:=fun k hk=>(h.gd.lt k hk).2
end
def gJ:Array Value:= #[.string ⟨#[116]⟩,.string ⟨#[117]⟩,.string ⟨#[119]⟩,.string ⟨#[122]⟩,.string ⟨#[122,53]⟩]
theorem VQ:zo 5 gJ:=fun j hj=>by
 have:j=0∨j=1∨j=2∨j=3∨j=4:=by omega
 rcases this with rfl | rfl | rfl | rfl | rfl <;> exact ⟨_,rfl,by unfold maxLen; decide,by rfl⟩
def WB:Nat:=1000000000000
def ShT (t:Th):Prop:=Tk.dZ t.nm.data.toList=true∧(∀s ∈ t.bH,Tk.dZ s.data.toList=true)∧uJ WB t.body∧t.bH.length≤10
structure PI (T:Tp) (w1:World) (pb nb:Nat) (W:World) (vD:Value) (ds:List De) (vT:Value) (kR:List gZ):Prop where
 box:W.heap[pb]? =some (.cells #[vD,vT] 26 (0,0))
 nms:W.heap[nb]? =some (.cells gJ 9 (0,0))
 gd:rY (pb + 1) W vD ds
 NR: ∀k,vD.ownBlock=some k→k < nb
 gt:vw (nb + 1) W vT kR
 Kr: ∀d ∈ ds,d.Ok∧fG d=true
 H6: ∀x ∈ kR,(x.t.Ok∧x.t.bH.length≤x.dN)∧ShT x.t
 mi:dJ W T
 km:Mk T w1 W
 lt:T.bt < w1.heap.size∧T.bm < w1.heap.size∧T.B0≤w1.heap.size∧w1.heap.size≤pb∧pb < nb
section
variable {T:Tp} {w1 W W':World} {pb nb:Nat} {vD vT:Value} {ds:List De} {kR:List gZ}
theorem PD.pi (h:PD T w1 pb W vD ds):PI T w1 pb W.heap.size (W.alloc (.cells gJ 9)) vD ds (.slice none 0 0) [] where
 box:=(ah W (.cells gJ 9)).block pb h.sz |>.trans h.box
 nms:=heap_alloc_new _ _
 gd:=h.gd.next (aY (ah _ _))
 NR:=h.size_le
 gt:=Grow.nil _ _ _ _ _ _
 Kr:=h.ok
 H6:=by simp
 mi:=h.mi.below (ah _ _)
 km:=h.km.trans (Mk.of_below (ah _ _))
 lt:=⟨h.lt.1,h.lt.2.1,h.lt.2.2.1,h.lt.2.2.2,h.sz⟩
theorem PI.sz (h:PI T w1 pb nb W vD ds vT kR):nb + 1≤W.heap.size:=(Array.getElem?_eq_some_iff.1 h.nms).1
theorem PI.go (h:PI T w1 pb nb W vD ds vT kR) (hM:Mk T W W') (hI:dJ W' T):PI T w1 pb nb W' vD ds vT kR where
 box:=(hM.block pb (by have:=h.sz; have:=h.lt; omega) (by have:=h.lt; omega) (by have:=h.lt; omega)).trans h.box
 nms:=(hM.block nb h.sz (by have:=h.lt; omega) (by have:=h.lt; omega)).trans h.nms
 gd:=h.gd.next (hM.xA (by have:=h.lt; omega) (by have:=h.lt; omega))
 NR:=h.NR
 gt:=h.gt.next (hM.xA (by have:=h.lt; omega) (by have:=h.lt; omega))
 Kr:=h.Kr
 H6:=h.H6
 mi:=hI
 km:=h.km.trans hM
 lt:=h.lt
theorem PI.Mi {l:Int} (h:PI T w1 pb nb W vD ds vT kR) (hl:aU l):PI T w1 pb nb (W.setCell ⟨T.bm,1,none⟩ (.int .i64 l)) vD ds vT kR:=
 h.go ((Mk.refl T W).Jo _ _) (h.mi.line hl)
theorem PI.push {x:gZ} {g cap n:Nat} (h:PI T w1 pb nb W vD ds vT kR) (hx:fT (nb + 1) vT.ownBlock W (gZ.I x)) (hok:(x.t.Ok∧x.t.bH.length≤x.dN)∧ShT x.t) (hn:n=kR.length + 1) (hown:W'.ownsRow (nb + 1) 67 4 (.slice (some ⟨g,0,none⟩) n cap) n (kR.flatMap gZ.f++gZ.f x)) (hg:W.grownBy W' vT.ownBlock) (hmv:vT.ownBlock=some g∨g=W.heap.size):
 PI T w1 pb nb (W'.setCell ⟨pb,1,none⟩ (.slice (some ⟨g,0,none⟩) n cap)) vD ds (.slice (some ⟨g,0,none⟩) n cap) (kR++[x]):=by
 have hb:Below (nb + 1) W W':=mI hg (fun k hk=>(h.gt.lt k hk).1) h.sz
 have hbx:W'.heap[pb]? =some (.cells #[vD,vT] 26 (0,0)):=(hb.block pb (by have:=h.lt; omega)).trans h.box
 refine ⟨by rw [bQ hbx]; rfl,(bJ W' _ _ rfl (by have:=h.lt; show pb≠_; omega)).trans ((hb.block nb (Nat.lt_succ_self _)).trans h.nms),?_,h.NR,?_,h.Kr,?_,?_,?_,h.lt⟩
 ·refine (h.gd.Dc (w':=W') (g:=vT.ownBlock) (qb.Cu hg) (fun k hk e=> ?_)).next (dO _ _ _ (Nat.lt_succ_self _))
  have:=h.NR k hk; have:=(h.gt.lt k e.symm).1; omega
 ·exact (h.gt.push hx hn hown hg hmv).next (dO _ _ _ (by have:=h.lt; show pb < _; omega))
 ·intro y hy
  rcases List.mem_append.1 hy with hy | hy
  ·exact h.H6 y hy
  ·rw [List.mem_singleton.1 hy]; exact hok
 ·exact (h.mi.vF hb (by have:=h.lt; omega) (by have:=h.lt; omega) (by have:=h.lt; omega)).set _ _ (by have:=h.lt; show T.B0≤pb; omega) (by have:=h.lt; show pb≠_; omega) (by have:=h.lt; show pb≠_; omega)
 ·exact (h.km.CS (hb.mono (by have:=h.lt; omega))).set _ _ (by have:=h.lt; show _≤pb; omega)
end
structure TI (T:Tp) (W0:World) (tb:Nat) (W:World) (nm:ByteArray) (line:Int) (vL:Value) (bH:List ByteArray) (vB:Value):Prop where
 box:W.heap[tb]? =some (.cells #[.string nm,.int .i64 line,vL,vB] 67 (0,0))
 gl:vW W0.heap.size W vL bH
 ne: ∀k,vL.ownBlock=some k→k≠tb
 ok:nK nm∧aU line∧(∀s ∈ bH,nK s)∧bH.length≤10
 mi:dJ W T
 km:Mk T W0 W
 lt:T.bt < W0.heap.size∧T.bm < W0.heap.size∧T.B0≤W0.heap.size∧W0.heap.size≤tb
section
variable {T:Tp} {W0 W W':World} {tb:Nat} {nm:ByteArray} {line:Int} {vL vB:Value} {bH:List ByteArray}
theorem TI.sz (h:TI T W0 tb W nm line vL bH vB):tb + 1≤W.heap.size:=(Array.getElem?_eq_some_iff.1 h.box).1
theorem TI.go (h:TI T W0 tb W nm line vL bH vB) (hM:Mk T W W') (hI:dJ W' T):TI T W0 tb W' nm line vL bH vB where
 box:=(hM.block tb h.sz (by have:=h.lt; omega) (by have:=h.lt; omega)).trans h.box
 gl:=h.gl.next (hM.xA (by have:=h.lt; omega) (by have:=h.lt; omega))
 ne:=h.ne
 ok:=h.ok
 mi:=hI
 km:=h.km.trans hM
 lt:=h.lt
theorem CB {B:Nat} (w:World) (a:Addr) (v:Value):qb B (some a.block) w (w.setCell a v):=qb.Cu (eF w a v)
theorem TI.name {s:ByteArray} (h:TI T W0 tb W nm line vL bH vB) (hs:nK s):TI T W0 tb (W.setCell ⟨tb,0,none⟩ (.string s)) s line vL bH vB where
 box:=by rw [bQ h.box]; rfl
 gl:=h.gl.Dc (CB _ _ _) (fun k hk e=>h.ne k hk (by injection e))
 ne:=h.ne
 ok:=⟨hs,h.ok.2⟩
 mi:=h.mi.set _ _ (by have:=h.lt; show T.B0≤tb; omega) (by have:=h.lt; show tb≠_; omega) (by have:=h.lt; show tb≠_; omega)
 km:=h.km.set _ _ h.lt.2.2.2
 lt:=h.lt
theorem TI.body {v:Value} (h:TI T W0 tb W nm line vL bH vB):TI T W0 tb (W.setCell ⟨tb,3,none⟩ v) nm line vL bH v where
 box:=by rw [bQ h.box]; rfl
 gl:=h.gl.Dc (CB _ _ _) (fun k hk e=>h.ne k hk (by injection e))
 ne:=h.ne
 ok:=h.ok
 mi:=h.mi.set _ _ (by have:=h.lt; show T.B0≤tb; omega) (by have:=h.lt; show tb≠_; omega) (by have:=h.lt; show tb≠_; omega)
 km:=h.km.set _ _ h.lt.2.2.2
 lt:=h.lt
theorem TI.um {v0 MW:Value} {um:List ByteArray} (hb:W.heap[tb]? =some (.cells #[.string nm,.int .i64 line,v0,vB] 67 (0,0))) (hg:vW W0.heap.size W MW um) (hne: ∀k,MW.ownBlock=some k→k≠tb) (hok:nK nm∧aU line∧(∀s ∈ um,nK s)∧um.length≤10) (mi:dJ W T) (km:Mk T W0 W) (lt:T.bt < W0.heap.size∧T.bm < W0.heap.size∧T.B0≤W0.heap.size∧W0.heap.size≤tb):
 TI T W0 tb (W.setCell ⟨tb,2,none⟩ MW) nm line MW um vB where
 box:=by rw [bQ hb]; rfl
 gl:=hg.Dc (CB _ _ _) (fun k hk e=>hne k hk (by injection e))
 ne:=hne
 ok:=hok
 mi:=mi.set _ _ (by show T.B0≤tb; omega) (by show tb≠_; omega) (by show tb≠_; omega)
 km:=km.set _ _ lt.2.2.2
 lt:=lt
end
theorem Ut:(Tryz.prog.info? 67).map (fun i=>(i.zero,i.size,i.bytes))=some (some (.agg #[.string ⟨#[]⟩,.int .i64 0,.slice none 0 0,.slice none 0 0]),4,72):=by kernel_rfl
theorem Vn: ∃i0,Tryz.prog.info? 67=some i0∧i0.zero=some (.agg #[.string ⟨#[]⟩,.int .i64 0,.slice none 0 0,.slice none 0 0])∧i0.size=4∧i0.bytes=72:=info_parts Ut
theorem Vj:(Tryz.prog.info? 67).map (·.size)=some 4:=by kernel_rfl
theorem Va (x:gZ): ∀u ∈ gZ.f x,u.oneCell'=true:=by
 intro u hu; simp [gZ.f] at hu
 rcases hu with rfl | rfl | rfl | rfl <;> rfl
theorem UK:(Tryz.prog.info? 9).map (fun i=>(i.zero,i.size,i.bytes))=some (some (.string ⟨#[]⟩),1,16):=by kernel_rfl
theorem U0: ∃i0,Tryz.prog.info? 9=some i0∧i0.zero=some (.string ⟨#[]⟩)∧i0.size=1∧i0.bytes=16:=info_parts UK
end Go.Proofs.YtehnipchbmjlhaaGreatDoor
end
section
namespace Go.Proofs.YtehnipchbmjlhaaGreatDoor
open Go.RowKit
open Md
def WtP (p:Pr):Prop:=p.ds.length≤1000∧ ∀t ∈ p.ts,t.bH.length≤10∧jr t.body≤WB
theorem wb2 {q:Nat} (h:q≤54):((q:Int)).toNat * GS ((2:Int)).toNat≤WB:=by
 have e:GS ((2:Int)).toNat=162000:=rfl
 rw [e,Int.toNat_natCast]; unfold WB; omega
theorem wb7 {q:Nat} (h:q≤54):((q:Int)).toNat * GS ((7:Int)).toNat≤WB:=by
 have e:GS ((7:Int)).toNat=9565938000:=rfl
 rw [e,Int.toNat_natCast]; unfold WB; omega
def LsP (w:World) (e':Ending) (w':World):Prop:= ∃(p:Pr) (aH aI:Option Addr) (aC aD:Nat),e'= .returned (.agg #[.slice aH p.ds.length aC,.slice aI p.ts.length aD])∧p.At w' aH aI∧p.ds.length≤aC∧p.ts.length≤aD∧(nQ p=true∧p.ts.length≤5∧WtP p)∧Below w.heap.size w w'
def zTh:Array Value:= #[.string ⟨#[]⟩,.int .i64 0,.slice none 0 0,.slice none 0 0]
def BJ:List ByteArray:=[⟨#[97]⟩,⟨#[98]⟩]
def VI:Array Value:= #[.string ⟨#[97]⟩,.string ⟨#[120]⟩,.string ⟨#[116]⟩,.string ⟨#[107]⟩]
theorem Yt:zo 4 VI:=fun j hj=>by
 have:j=0∨j=1∨j=2∨j=3:=by omega
 rcases this with rfl | rfl | rfl | rfl <;> exact ⟨_,rfl,by unfold maxLen; decide,by rfl⟩
def Td:List ByteArray:=[⟨#[97]⟩,⟨#[98]⟩,⟨#[107]⟩,⟨#[107,49]⟩,⟨#[107,50]⟩]
theorem Yo: ∀s ∈ Td,nK s:=by
 intro s hs
 simp only [Td,List.mem_cons,List.not_mem_nil,or_false] at hs
 rcases hs with rfl | rfl | rfl | rfl | rfl <;> exact ⟨by unfold maxLen; decide,by rfl⟩
theorem OY: ∀s ∈ BJ,nK s:=by
 intro s hs
 simp only [BJ,List.mem_cons,List.not_mem_nil,or_false] at hs
 rcases hs with rfl | rfl <;> exact ⟨by unfold maxLen; decide,by rfl⟩
theorem MI (w:World) (zs:List Int) (ao:Option Addr) (cap:Nat) (hz:Fq w w.heap.size zs ao) (hl:zs.length≤9223372036854775807):
 Calls Tryz.prog 9 #[.slice ao zs.length cap] w (LsP w):=by
 have HZ:=Lib.hid hz
 clear hz
 go_enter Tryz.func9,Tryz.ntmps9
 go_upto_region 3 with fail
 obtain ⟨w2,hw2⟩: ∃x,x=((w.alloc (.cells #[.slice none 0 0,.slice none 0 0] 26)).alloc (.cells #[.slice ao zs.length cap,.int .i64 0] 56)).alloc (.cells #[.pointer (some ⟨w.heap.size + 1,0,none⟩),.int .i64 0,.int .i64 (12 + 58 * ((zs.length:Int) % 5 / 4))] 58):=⟨_,rfl⟩
 rw [← hw2]
 obtain ⟨T,e0,e1,e2,e3,e4,e5⟩: ∃T:Tp,T.B0=w.heap.size∧w.heap.size + 1=T.bt∧w.heap.size + 1 + 1=T.bm∧T.ao=ao∧T.cap=cap∧T.zs=zs:=⟨⟨w.heap.size,w.heap.size + 1,w.heap.size + 1 + 1,ao,cap,zs,by omega,by omega,by omega⟩,rfl,rfl,rfl,rfl,rfl,rfl⟩
 obtain ⟨pb,hpb⟩: ∃pb,w.heap.size + 1 + 1 + 1=pb:=⟨_,rfl⟩
 rw [hpb,e2,e1]
 have hsz2:w2.heap.size=pb:=by rw [hw2,← hpb]; simp
 have FE:Hid (Below w.heap.size w w2):=Lib.hid (by rw [hw2]; exact ((ah _ _).alloc (by simp) _).alloc (by simp <;> omega) _)
 have HR2:Hid (w2.heap[w.heap.size]? =some (.cells #[.slice none 0 0,.slice none 0 0] 26 (0,0))):=Lib.hid (by
  rw [hw2,heap_alloc_old _ _ (by simp <;> omega),heap_alloc_old _ _ (by simp <;> omega)]; exact heap_alloc_new _ _)
 have LH:Hid (dJ w2 T):=Lib.hid (by
  have k1:w2.heap[T.bt]? =some (.cells #[.slice ao zs.length cap,.int .i64 0] 56 (0,0)):=by
   rw [hw2,← e1,heap_alloc_old _ _ (by simp)]
   have:=heap_alloc_new (w.alloc (.cells #[.slice none 0 0,.slice none 0 0] 26)) (.cells #[.slice ao zs.length cap,.int .i64 0] 56)
   simpa using this
  have k2:w2.heap[T.bm]? =some (.cells #[.pointer (some ⟨w.heap.size + 1,0,none⟩),.int .i64 0,.int .i64 (12 + 58 * ((zs.length:Int) % 5 / 4))] 58 (0,0)):=by
   rw [hw2,← e2]
   have:=heap_alloc_new ((w.alloc (.cells #[.slice none 0 0,.slice none 0 0] 26)).alloc (.cells #[.slice ao zs.length cap,.int .i64 0] 56)) (.cells #[.pointer (some ⟨w.heap.size + 1,0,none⟩),.int .i64 0,.int .i64 (12 + 58 * ((zs.length:Int) % 5 / 4))] 58)
   simpa using this
  refine ⟨⟨⟨0,Nat.zero_le _,by rw [k1,e3,e4,e5]; rfl⟩,by rw [e0,e3,e5]; exact HZ.out.below FE.out,by rw [e5]; exact hl⟩,⟨0,12 + 58 * ((zs.length:Int) % 5 / 4),Ii,by omega,by omega,by rw [k2,e1]⟩⟩)
 generalize hW:World.alloc w2 _=W
 have vQ:Hid (PD T w2 pb W (.slice none 0 0) []):=Lib.hid (by
  rw [← hW]
  exact ⟨by rw [← hsz2]; exact heap_alloc_new _ _,Grow.nil _ _ _ _ _ _,by simp,LH.out.below (ah _ _),Mk.of_below (ah _ _),by omega,by omega,by omega,by omega⟩)
 have dR:Hid (T.B0=w.heap.size∧T.bt=w.heap.size + 1∧T.bm=w.heap.size + 2∧pb=w.heap.size + 3∧w2.heap.size=pb):=Lib.hid ⟨e0,e1.symm,by omega,by omega,hsz2⟩
 clear hW hw2 e0 e1 e2 e3 e4 e5 hpb hsz2 HZ LH
 have c0:=vQ.out.mi.ptr
 go_wp2_with fail
 refine (dQ T 4 _ (by unfold aU; decide) vQ.out.mi).mono ?_
 rintro e w3 ⟨k,rfl,hk0,hk1,hk2,hM,hI⟩
 have Ef:=Lib.hid (vQ.out.go hM hI)
 clear hM hI hk1 hk2 c0 vQ
 go_upto_if 28 with fail
 go_cut [4] (fun s4 W'=>s4= .pointer (some ⟨pb,0,none⟩)∧ ∃vD ds,ds.length≤100∧PD T w2 pb W' vD ds)
 case first=>
  by_cases hk:0 < k
  ·go_wp2_with fail
   refine (Nh _).mono ?_
   rintro e w4 ⟨g,rfl,hg,hgc,hb⟩
   have hpg:pb + 1≤g:=Nat.le_trans Ef.out.sz hg
   have HPG:=Lib.hid hpg
   have LX:=Lib.hid (Ef.out.go (Mk.of_below hb) (Ef.out.mi.below hb))
   have ZC:=Lib.hid hgc
   have y0:w4.cell? ⟨pb,0,none⟩=some (.slice none 0 0):=aG LX.out.box rfl
   have f0:w4.frozen? ⟨pb,0,none⟩=false:=aK LX.out.box
   clear hb hgc hg hpg Ef
   go_upto_region 5 with fail
   generalize wO:World.setCell w4 _ _=w5
   have jm:Hid (PD T w2 pb w5 (.slice (some ⟨g,0,none⟩) 9 9) Hy):=Lib.hid (by
    rw [← wO]; exact LX.out.put (Grow.made xC ZC.out HPG.out rfl (by unfold maxLen; decide)) UQ)
   clear wO y0 f0 LX ZC
   go_wp2_with fail
   go_loopw [5] (fun v5 wr=> ∃(k:Nat) (ds:List De),v5= .int .i64 k∧k≤9∧ds.length=9∧PD T w2 pb wr (.slice (some ⟨g,0,none⟩) 9 9) ds) (fun i _=>9 - (intOf i).toNat)
   case atStart=>exact ⟨0,Hy,rfl,by decide,rfl,jm.out⟩
   case round=>
    obtain ⟨k,ds,rfl,hk9,hds,hp⟩:=hrel
    have HP:=Lib.hid hp
    have tL:=Lib.hid hds
    have y0:wr.cell? ⟨pb,0,none⟩=some (.slice (some ⟨g,0,none⟩) 9 9):=aG hp.box rfl
    obtain ⟨line,left,hl1,hl2,hl3,hblk⟩:=hp.mi.vG
    have c1:wr.cell? ⟨T.bm,1,none⟩=some (.int .i64 line):=(bL hblk (j:=1) rfl).2
    have f1:wr.frozen? ⟨T.bm,1,none⟩=false:=aK hblk
    clear hp hds hblk hl1 hl2 hl3
    by_cases hlt:k < 9
    ·go_upto_region 9 with fail
     generalize O1:World.setCell wr _ _=wl
     have JW:Hid (PD T w2 pb wl (.slice (some ⟨g,0,none⟩) 9 9) ds):=Lib.hid (by rw [← O1]; exact HP.out.Mi (za _))
     clear O1 c1 f1 y0 HP
     have y0:wl.cell? ⟨pb,0,none⟩=some (.slice (some ⟨g,0,none⟩) 9 9):=aG JW.out.box rfl
     obtain ⟨l,c1,yh⟩:=JW.out.mi.ln
     have Ol:=Lib.hid yh
     obtain ⟨d,hd⟩: ∃d,ds[k]? =some d:=⟨_,List.getElem?_eq_getElem (by rw [tL.out]; exact hlt)⟩
     have HD:=Lib.hid hd
     have hcl:=(JW.out.gd.cells xC wl (gK.refl _ _)).2
     have yl: ∃z,wl.cell? ⟨g,k * 6 + 1,none⟩=some z:=by
      obtain ⟨gQ,cap',e',-,hc⟩:=hcl
      injection e' with q1 q2 q3; subst q1
      obtain ⟨g',h1,-,-,h4⟩:=hc k d hd
      injection h1 with h1; injection h1 with h1; subst h1
      exact ⟨_,h4 1 _ rfl⟩
     obtain ⟨z,yl⟩:=yl
     have fl:wl.frozen? ⟨g,k * 6 + 1,none⟩=false:=by
      rcases JW.out.gd.own.2 with ⟨h1,-⟩ | ⟨g',cap',cur,h1,-,h3,-⟩
      ·cases h1
      ·injection h1 with h1; injection h1 with h1; injection h1 with h1; subst h1; exact aK h3
     have hb0:(0:Int)≤(k:Int):=by omega
     have hb1:(k:Int) < 9:=by omega
     clear yh hd hcl
     refine eY (by kernel_rfl) rfl ?_
     refine eB 0 9 [] [[],[0],[],[],[3],[3,4],[3,4,5],[0,1,2,3,4,5,6],[0,1,2,3,4,5,6,7],[0,1,2,3,4,5,6,7,8]] [[],[],[],[],[],[],[],[],[]] (fun _ w'=>w'=wl.drewN 1) (fun w w'=>w=w') [45,46,47,48,49,50,51,52,53] rfl rfl (by rfl) (by kernel_rfl) (by kernel_rfl) (by kernel_rfl) (by kernel_rfl) (by kernel_rfl) (by rfl) (fun _=>rfl) (by rfl) rfl ?_
     simp only [List.take_succ_cons,List.take_zero,List.drop_zero,List.drop_succ_cons,jY,List.map_cons,List.map_nil]
     apply aO.step
     case aB=>
      intro c A w' hok hC hO hD
      have e4:=hO 4 (by rfl)
      simp [Act.eval] at e4
      simp [au,aj,ak,Act.eval,Region.binds] at hD
      simp [go_sem,gd,Oper.wp,hD,e4]
      exact ay.mk rfl hC (aj.mk _ _)
     apply aO.step
     case aB=>
      intro c A w' hok hC hO hD
      simp [au,aj,ak,Act.eval,Region.binds] at hD
      simp [go_sem,gd,Oper.wp,hD,hC,y0]
      exact ay.mk rfl rfl (aj.mk _ _)
     apply aO.step
     case aB=>
      intro c A w' hok hC hO hD
      have e5:=hO 5 (by rfl)
      simp [Act.eval] at e5
      simp [au,aj,ak,Act.eval,Region.binds] at hD
      simp [go_sem,gd,Oper.wp,hD,e5]
      exact ay.mk rfl hC (aj.mk _ _)
     simp only [List.nil_append,List.cons_append]
     apply aO.step
     case aB=>
      intro c A w' hok hC hO hD
      have e3:=hO 3 (by rfl)
      simp [Act.eval] at e3
      simp [au,aj,ak,Act.eval,Region.binds] at hD
      simp [go_sem,gd,Oper.wp,hD,e3]
      exact ay.mk rfl hC (aj.mk _ _)
     apply aO.step
     case aB=>
      intro c A w' hok hC hO hD
      simp [au,aj,ak,Act.eval,Region.binds] at hD
      simp [go_sem,gd,Oper.wp,hD]
      exact ay.mk rfl hC (aj.mk _ _)
     apply aO.step
     case aB=>
      intro c A w' hok hC hO hD
      simp [au,aj,ak,Act.eval,Region.binds] at hD
      simp [go_sem,gd,Oper.wp,hD]
      exact ay.mk rfl hC (aj.mk _ _)
     simp only [List.nil_append,List.cons_append]
     apply aO.step
     case aB=>
      intro c A w' hok hC hO hD
      simp [au,aj,ak,Act.eval,Region.binds] at hD
      simp [go_sem,gd,Oper.wp,hD,hC,c1]
      exact ay.mk rfl rfl (aj.mk _ _)
     apply aO.step
     case aB=>
      intro c A w' hok hC hO hD
      simp [au,aj,ak,Act.eval,Region.binds] at hD
      simp [go_sem,gd,Oper.wp,hD,hb0,hb1]
      exact ay.mk rfl hC (aj.mk _ _)
     apply aO.step
     case aB=>
      intro c A w' hok hC hO hD
      simp [au,aj,ak,Act.eval,Region.binds] at hD
      simp [go_sem,gd,Oper.wp,hD]
      exact ay.mk rfl hC (aj.mk _ _)
     try simp only [List.nil_append,List.cons_append]
     refine aO.done ?_
     intro wz dP
     try simp only [List.drop_zero,List.drop_succ_cons]
     intro v0 h0 v1 h1 v2 h2 v3 h3 v4 h4 v5 h5 v6 h6 v7 h7 v8 h8
     have h6':=Eq.symm (show v6=_ from h6)
     subst h6'
     have h8':=Eq.symm (show v8=_ from h8)
     subst h8'
     clear h0 h1 h2 h3 h4 h5 h6 h7 h8
     refine dG.nil ?_
     go_simp
     refine iD 9 [[],[0],[],[],[3],[3,4],[3,4,5],[0,1,2,3,4,5,6],[0,1,2,3,4,5,6,7],[0,1,2,3,4,5,6,7,8]] rfl rfl rfl rfl rfl (by kernel_rfl) (by kernel_rfl) (by kernel_rfl) ?_
     subst dP
     simp [go_sem,Oper.wp,yl,fl]
     refine gL rfl ?_
     have AP:=Lib.hid ((JW.out.go (Mk.of_below (below_drewN (Below.refl _ _) 1)) (JW.out.mi.below (below_drewN (Below.refl _ _) 1))).line HD.out Ol.out)
     clear yl fl c1 y0
     go_simp
     go_wp2_with fail
     go_roundw
     case rel=>exact ⟨k + 1,_,by go_num,by omega,by simpa using tL.out,AP.out⟩
     case measure=>simp [intOf]; omega
    ·have hk:k=9:=by omega
     subst hk
     go_wp2_with fail
     go_meet
     exact ⟨rfl,_,ds,by rw [tL.out]; decide,HP.out⟩
  ·have af6:k=0:=by omega
   subst af6
   go_wp2_with fail
   go_meet
   exact ⟨rfl,_,[],by decide,Ef.out⟩
 obtain ⟨rfl,vD,ds,hds,hp⟩:=hcut
 obtain ⟨wa,rfl⟩: ∃W:World,W=wc:=⟨_,rfl⟩
 have Du:=Lib.hid hp
 have Xe:=Lib.hid hds
 clear hp hds Ef hk0
 have c0:=Du.out.mi.ptr
 go_wp2_with fail
 refine (dQ T 8 _ (by unfold aU; decide) Du.out.mi).mono ?_
 rintro e w4 ⟨k,rfl,hk0,hk1,hk2,hM,hI⟩
 have YI:k < 8:=hk1 (by decide)
 have OT:=Lib.hid (Du.out.go hM hI)
 clear hM hI hk1 hk2 c0 Du
 go_wp2_with fail
 go_loopw [6] (fun v6 wr=> ∃(k:Int) (vD:Value) (ds:List De),v6= .int .i64 k∧ -4≤k∧k≤3∧(ds.length:Int) + k≤103∧ds.length≤107∧PD T w2 pb wr vD ds) (fun i _=>(intOf i).toNat)
 case atStart=>exact ⟨k - 4,vD,ds,rfl,by omega,by omega,by have:=Xe.out; omega,by have:=Xe.out; omega,OT.out⟩
 case round=>
  clear OT Xe hk0 YI ds vD
  obtain ⟨k,vD,ds,rfl,hk4,hk3,hdk,hdl,hp⟩:=hrel
  have HP:=Lib.hid hp
  have HDK:=Lib.hid hdk
  have Fb:=Lib.hid hdl
  clear hp hdk hdl
  by_cases hk:0 < k
  ·go_upto_region 13 with fail
   have hd1:Mk T wr (wr.drewN 1):=Mk.of_below (below_drewN (Below.refl _ _) 1)
   have hd2:dJ (wr.drewN 1) T:=HP.out.mi.below (below_drewN (Below.refl _ _) 1)
   have KJ:Hid (T.bt < pb∧T.bm < pb):=Lib.hid (by have:=HP.out.lt; omega)
   have ZW:Hid (pb + 1≤wr.heap.size):=Lib.hid HP.out.sz
   have Y0: ∀w',Mk T wr w'→w'.cell? ⟨pb,0,none⟩=some vD:=fun w' h=>aG ((h.block pb ZW.out (by have:=KJ.out; omega) (by have:=KJ.out; omega)).trans HP.out.box) rfl
   refine eY (by kernel_rfl) rfl ?_
   refine eB 0 5 [] [[],[0],[],[2],[2,3],[0,1,2,3,4],[0,1,2,3,4,5],[0,1,2,3,4,5,6]] [[],[],[],[],[]] (fun _ w'=>Mk T wr w'∧dJ w' T) (fun w w'=>Mk T w w') [64,65,66,67,68] rfl rfl (by rfl) (by kernel_rfl) (by kernel_rfl) (by kernel_rfl) (by kernel_rfl) (by kernel_rfl) (by rfl) (fun _=>Mk.refl _ _) (by rfl) ⟨hd1,hd2⟩ ?_
   simp only [List.take_succ_cons,List.take_zero,List.drop_zero,List.drop_succ_cons,jY,List.map_cons,List.map_nil]
   apply aO.step
   case aB=>
    intro c A w' hok hC hO hD
    have e4:=hO 4 (by rfl)
    simp [Act.eval] at e4
    simp [au,aj,ak,Act.eval,Region.binds] at hD
    simp [go_sem,gd,Oper.wp,hD,e4]
    exact ay.mk (Mk.refl _ _) hC (aj.mk _ _)
   apply aO.step
   case aB=>
    intro c A w' hok hC hO hD
    simp [au,aj,ak,Act.eval,Region.binds] at hD
    simp [go_sem,gd,Oper.wp,hD,Y0,hC.1]
    exact ay.mk (Mk.refl _ _) hC (aj.mk _ _)
   apply aO.step
   case aB=>
    intro c A w' hok hC hO hD
    have e3:=hO 3 (by rfl)
    simp [Act.eval] at e3
    simp [au,aj,ak,Act.eval,Region.binds] at hD
    simp [go_sem,gd,Oper.wp,hD,e3]
    exact ay.mk (Mk.refl _ _) hC (aj.mk _ _)
   simp only [List.nil_append,List.cons_append]
   refine aO.some (fun v _=> ∃d,v=Ke d∧(d.Ok∧fG d=true)) (fun _ _ _ _ h=>h) ?_ ?_
   ·intro c A w' hok hC hO hD
    simp [au,aj,ak,Act.eval,Region.binds] at hD
    simp [go_sem,gd,Oper.wp,hD]
    refine (Pv T w' hC.2).mono ?_
    rintro e w3 ⟨d,rfl,h1,h2,h3⟩
    exact ay.mk h2 ⟨hC.1.trans h2,h3⟩ ⟨d,rfl,h1⟩
   refine aO.some (fun v w'=> ∃(bb:Nat) (d:De),v= .slice (some ⟨bb,0,none⟩) 1 1∧pb + 1≤bb∧w'.heap[bb]? =some (.cells (iA d).toArray 62 (0,0))∧(d.Ok∧fG d=true)) ?_ ?_ ?_
   ·rintro v w1 w' hle ⟨g,d,h1,h2,h3,h4⟩
    exact ⟨g,d,h1,h2,(hle.block g (Array.getElem?_eq_some_iff.1 h3).1 (by have:=KJ.out; omega) (by have:=KJ.out; omega)).trans h3,h4⟩
   ·intro c A w' hok hC hO hD
    simp [au,aj,ak,Act.eval,Region.binds] at hD
    obtain ⟨d,hd,hok1,hok2⟩:=hD
    unfold Ke at hd
    simp [go_sem,gd,Oper.wp,hd]
    exact ay.mk (d:=_) (v:= .slice (some ⟨_,0,none⟩) 1 1) (Mk.of_below (ah _ _)) ⟨hC.1.trans (Mk.of_below (ah _ _)),hC.2.below (ah _ _)⟩ ⟨_,rfl,Nat.le_trans ZW.out hC.1.size,d,heap_alloc_new _ _,hok1,hok2⟩
   try simp only [List.nil_append,List.cons_append]
   refine aO.done ?_
   intro wz dP
   try simp only [List.drop_zero,List.drop_succ_cons]
   intro v0 h0 v1 h1 v2 h2 v3 h3 v4 h4
   have h0':=Eq.symm (show v0=_ from h0)
   subst h0'
   have h1':=Eq.symm (show v1=_ from h1)
   subst h1'
   have h2':=Eq.symm (show v2=_ from h2)
   subst h2'
   clear h0 h1 h2 h3
   obtain ⟨bb,d,rfl,hbb,hcell,zZ⟩:=h4
   clear hd1 hd2 Y0
   refine dG.nil ?_
   go_simp
   refine iD 5 [[],[0],[],[2],[2,3],[0,1,2,3,4],[0,1,2,3,4,5],[0,1,2,3,4,5,6]] rfl rfl rfl rfl rfl (by kernel_rfl) (by kernel_rfl) (by kernel_rfl) ?_
   obtain ⟨i0,hi0,hz0,hz1,hz2⟩:=U2
   have AP:=Lib.hid (HP.out.go dP.1 dP.2)
   have Wq:=Lib.hid zZ
   have hkl:ds.length + 1≤maxLen:=by have:=Fb.out; unfold maxLen; omega
   have hkb:(ds.length + 1) * 64≤140737488355328:=by have:=Fb.out; omega
   refine wp_append_lies wz _ _ _ (by rfl) (pb + 1) 62 i0 _ 6 64 Tryz.underlying23 hi0 hz0 hz1 hz2 (by rfl) (by omega) vD ds.length (ds.flatMap iA) (by rfl) AP.out.gd.own ⟨bb,0,none⟩ 1 1 (iA d) (by rfl) (by rfl) (mQ hcell) (UC d) (by decide) hkl hkb AP.out.sz _ rfl ?_
   intro g' cap' w5 hown hgr hmv hlt
   clear hi0 hz0 hz1 hz2 hcell dP hbb zZ hkl hkb
   have AJ:=Lib.hid (AP.out.gd.push (x:=d) (fun _ _=>trivial) rfl hown hgr hmv)
   have jE:Hid (Below (pb + 1) wz w5):=Lib.hid (mI hgr (fun k hk=>(AP.out.gd.lt k hk).1) AP.out.sz)
   have P7:Hid (∀x ∈ ds++[d],x.Ok∧fG x=true):=Lib.hid (fun x hx=>by
    rcases List.mem_append.1 hx with hx | hx
    ·exact HP.out.ok x hx
    ·rw [List.mem_singleton.1 hx]; exact Wq.out)
   clear hown hgr hmv hlt
   have kZ:Hid (w5.heap[pb]? =some (.cells #[vD,.slice none 0 0] 26 (0,0))):=Lib.hid ((jE.out.block pb (Nat.lt_succ_self _)).trans AP.out.box)
   have jF:=Lib.hid (PD.put' (ds':=ds++[d]) kZ.out (AP.out.mi.vF jE.out (by have:=KJ.out; omega) (by have:=KJ.out; omega) (by have:=HP.out.lt; omega)) (AP.out.km.CS (jE.out.mono (by have:=HP.out.lt; omega))) HP.out.lt AJ.out P7.out)
   have y0:w5.cell? ⟨pb,0,none⟩=some vD:=aG kZ.out rfl
   have f0:w5.frozen? ⟨pb,0,none⟩=false:=aK kZ.out
   clear kZ AJ jE P7 AP
   go_simp
   refine eB 6 7 [] [[],[0],[],[2],[2,3],[0,1,2,3,4],[0,1,2,3,4,5],[0,1,2,3,4,5,6]] [[]] (fun _ w'=>w'=w5) (fun w w'=>w=w') [70] rfl rfl (by rfl) (by kernel_rfl) (by kernel_rfl) (by kernel_rfl) (by kernel_rfl) (by kernel_rfl) (by rfl) (fun _=>rfl) (by rfl) rfl ?_
   simp only [List.take_succ_cons,List.take_zero,List.drop_zero,List.drop_succ_cons,jY,List.map_cons,List.map_nil]
   apply aO.step
   case aB=>
    intro c A w' hok hC hO hD
    have e4:=hO 4 (by rfl)
    simp [Act.eval] at e4
    simp [au,aj,ak,Act.eval,Region.binds] at hD
    simp [go_sem,gd,Oper.wp,hD,e4]
    exact ay.mk rfl hC (aj.mk _ _)
   try simp only [List.nil_append,List.cons_append]
   refine aO.done ?_
   intro wz dP
   try simp only [List.drop_zero,List.drop_succ_cons]
   intro v0 h0
   have h0':=Eq.symm (show v0=_ from h0)
   subst h0'
   clear h0
   refine dG.nil ?_
   go_simp
   refine iD 7 [[],[0],[],[2],[2,3],[0,1,2,3,4],[0,1,2,3,4,5],[0,1,2,3,4,5,6]] rfl rfl rfl rfl rfl (by kernel_rfl) (by kernel_rfl) (by kernel_rfl) ?_
   subst dP
   simp [go_sem,Oper.wp,y0,f0]
   refine gL rfl ?_
   clear y0 f0
   go_simp
   go_wp2_with fail
   go_roundw
   case rel=>exact ⟨k - 1,_,ds++[d],rfl,by omega,by omega,by have:=HDK.out; simp; omega,by have:=HDK.out; simp; omega,jF.out⟩
   case measure=>simp [intOf]; omega
  ·go_upto_region 15 with fail
   obtain ⟨nb,hnb⟩: ∃nb,wr.heap.size=nb:=⟨_,rfl⟩
   generalize hWN:World.alloc wr _=wn
   have RN:Hid (PI T w2 pb nb wn vD ds (.slice none 0 0) []):=Lib.hid (by rw [← hWN,← hnb]; exact HP.out.pi)
   rw [hnb]
   clear hWN hnb hk4 hk3 hk HP HDK
   have c0:=RN.out.mi.ptr
   go_wp2_with fail
   refine (dQ T 3 _ (by unfold aU; decide) RN.out.mi).mono ?_
   rintro e wa ⟨n,rfl,hk0,hk1,hk2,hM,hI⟩
   have Tv:n < 3:=hk1 (by decide)
   have Du:=Lib.hid (RN.out.go hM hI)
   clear hM hI hk1 hk2 c0 RN
   have c0:=Du.out.mi.ptr
   go_wp2_with fail
   refine (dQ T 12 _ (by unfold aU; decide) Du.out.mi).mono ?_
   rintro e wb ⟨m,rfl,hm0,hm1,hm2,hM,hI⟩
   have OT:=Lib.hid (Du.out.go hM hI)
   clear hM hI hm0 hm1 hm2 c0 Du
   go_upto_if 83 with fail
   go_cut [8] (fun s8 W'=>W'=wb∧ ∃n:Nat,s8= .int .i64 (n:Int)∧1≤n∧n≤5)
   case first=>
    cases hm:(m == 11)
    ·go_wp2_with fail
     go_meet
     exact ⟨rfl,(1 + n).toNat,by rw [Int.toNat_of_nonneg (by omega)],by omega,by omega⟩
    ·go_wp2_with fail
     go_meet
     exact ⟨rfl,5,rfl,by decide,by decide⟩
   obtain ⟨rfl,n',rfl,hn1,hn5⟩:=hcut
   clear hk0 Tv
   go_wp2_with fail
   go_loopw [9] (fun v9 wr=> ∃(k:Nat) (vT:Value) (kR:List gZ),v9= .int .i64 k∧k≤n'∧kR.length=k∧PI T w2 pb nb wr vD ds vT kR) (fun i _=>n' - (intOf i).toNat)
   case atStart=>exact ⟨0,_,[],rfl,Nat.zero_le _,rfl,OT.out⟩
   case round=>
    clear OT
    obtain ⟨k,vT,kR,rfl,hkn,hth,hp⟩:=hrel
    have HP:=Lib.hid hp
    have Dq:=Lib.hid hth
    clear hp hth
    by_cases hlt:k < n'
    ·obtain ⟨line,left,hl1,hl2,hl3,hblk⟩:=HP.out.mi.vG
     have c1:wr.cell? ⟨T.bm,1,none⟩=some (.int .i64 line):=(bL hblk (j:=1) rfl).2
     have f1:wr.frozen? ⟨T.bm,1,none⟩=false:=aK hblk
     clear hblk hl1 hl2 hl3
     go_upto_region 22 with fail
     generalize O1:World.setCell wr _ _=W0
     have BK:Hid (PI T w2 pb nb W0 vD ds vT kR):=Lib.hid (by rw [← O1]; exact HP.out.Mi (za _))
     clear O1 c1 f1 HP
     have jV:Hid (nb + 1≤W0.heap.size):=Lib.hid BK.out.sz
     have bF:Hid (T.bt < pb∧T.bm < pb∧T.B0≤pb∧pb < nb):=Lib.hid (by have:=BK.out.lt; omega)
     have hd1:Mk T W0 (W0.drewN 1):=Mk.of_below (below_drewN (Below.refl _ _) 1)
     have hd2:dJ (W0.drewN 1) T:=BK.out.mi.below (below_drewN (Below.refl _ _) 1)
     have K0: ∀w',dJ w' T→w'.cell? ⟨T.bm,0,none⟩=some (.pointer (some ⟨T.bt,0,none⟩)):=fun w' h=>h.ptr
     have KN: ∀w',Mk T W0 w'→ ∃s,w'.cell? ⟨nb,k,none⟩=some (.string s)∧nK s:=fun w' h=>by
      have hb:=(h.block nb jV.out (by have:=bF.out; omega) (by have:=bF.out; omega)).trans BK.out.nms
      obtain ⟨s,h1,h2⟩:=VQ k (by omega)
      exact ⟨s,aG hb h1,h2⟩
     have hb0:(0:Int)≤(k:Int):=by omega
     have hb1:(k:Int) < 5:=by omega
     refine eY (by kernel_rfl) rfl ?_
     refine eB 0 11 [] [[],[],[0,1],[0,1,2],[],[4],[4,5],[4,5,6],[],[0,1,2,3,4,5,6,7,8],[],[0,1,2,3,4,5,6,7,8,9,10]] [[],[],[],[],[],[],[],[],[],[],[]] (fun _ w'=>Mk T W0 w'∧dJ w' T) (fun w w'=>Mk T w w') [96,97,98,99,100,101,102,103,104,105,10] rfl rfl (by rfl) (by kernel_rfl) (by kernel_rfl) (by kernel_rfl) (by kernel_rfl) (by kernel_rfl) (by rfl) (fun _=>Mk.refl _ _) (by rfl) ⟨hd1,hd2⟩ ?_
     simp only [List.take_succ_cons,List.take_zero,List.drop_zero,List.drop_succ_cons,jY,List.map_cons,List.map_nil]
     apply aO.step
     case aB=>
      intro c A w' hok hC hO hD
      have e7:=hO 7 (by rfl)
      simp [Act.eval] at e7
      simp [au,aj,ak,Act.eval,Region.binds] at hD
      simp [go_sem,gd,Oper.wp,hD,e7]
      exact ay.mk (Mk.refl _ _) hC (aj.mk _ _)
     apply aO.step
     case aB=>
      intro c A w' hok hC hO hD
      have e9:=hO 9 (by rfl)
      simp [Act.eval] at e9
      simp [au,aj,ak,Act.eval,Region.binds] at hD
      simp [go_sem,gd,Oper.wp,hD,e9]
      exact ay.mk (Mk.refl _ _) hC (aj.mk _ _)
     apply aO.step
     case aB=>
      intro c A w' hok hC hO hD
      simp [au,aj,ak,Act.eval,Region.binds] at hD
      simp [go_sem,gd,Oper.wp,hD,hb0,hb1]
      exact ay.mk (Mk.refl _ _) hC (aj.mk _ _)
     simp only [List.nil_append,List.cons_append]
     refine aO.some (fun v w'=> ∃s:ByteArray,v= .string s∧nK s) (fun _ _ _ _ h=>h) ?_ ?_
     ·intro c A w' hok hC hO hD
      simp [au,aj,ak,Act.eval,Region.binds] at hD
      obtain ⟨s,hs,hsz⟩:=KN w' hC.1
      simp [go_sem,gd,Oper.wp,hD,hs]
      exact ay.mk (Mk.refl _ _) hC (⟨s,rfl,hsz⟩)
     simp only [List.nil_append,List.cons_append]
     apply aO.step
     case aB=>
      intro c A w' hok hC hO hD
      have e3:=hO 3 (by rfl)
      simp [Act.eval] at e3
      simp [au,aj,ak,Act.eval,Region.binds] at hD
      simp [go_sem,gd,Oper.wp,hD,e3]
      exact ay.mk (Mk.refl _ _) hC (aj.mk _ _)
     apply aO.step
     case aB=>
      intro c A w' hok hC hO hD
      simp [au,aj,ak,Act.eval,Region.binds] at hD
      simp [go_sem,gd,Oper.wp,hD]
      exact ay.mk (Mk.refl _ _) hC (aj.mk _ _)
     apply aO.step
     case aB=>
      intro c A w' hok hC hO hD
      simp [au,aj,ak,Act.eval,Region.binds] at hD
      simp [go_sem,gd,Oper.wp,hD]
      exact ay.mk (Mk.refl _ _) hC (aj.mk _ _)
     simp only [List.nil_append,List.cons_append]
     refine aO.some (fun v w'=> ∃l:Int,v= .int .i64 l∧aU l) (fun _ _ _ _ h=>h) ?_ ?_
     ·intro c A w' hok hC hO hD
      simp [au,aj,ak,Act.eval,Region.binds] at hD
      obtain ⟨l,hc,hl⟩:=hC.2.ln
      simp [go_sem,gd,Oper.wp,hD,hc]
      exact ay.mk (Mk.refl _ _) hC (⟨l,rfl,hl⟩)
     simp only [List.nil_append,List.cons_append]
     refine aO.some (fun v w'=> ∃lb,v= .slice (some ⟨lb,0,none⟩) 2 2∧W0.heap.size≤lb∧w'.heap[lb]? =some (.cells (BJ.flatMap sK).toArray 9 (0,0))) ?_ ?_ ?_
     ·rintro v w1 w' hle ⟨g,h1,h2,h3⟩
      exact ⟨g,h1,h2,(hle.block g (Array.getElem?_eq_some_iff.1 h3).1 (by have:=bF.out; have:=jV.out; omega) (by have:=bF.out; have:=jV.out; omega)).trans h3⟩
     ·intro c A w' hok hC hO hD
      simp [go_sem,gd,Oper.wp]
      exact ay.mk (d:=_) (v:= .slice (some ⟨_,0,none⟩) 2 2) (Mk.of_below (ah _ _)) ⟨hC.1.trans (Mk.of_below (ah _ _)),hC.2.below (ah _ _)⟩ ⟨_,rfl,hC.1.size,heap_alloc_new _ _⟩
     simp only [List.nil_append,List.cons_append]
     refine aO.some (fun v w'=> ∃lb,W0.heap.size≤lb∧w'.heap[lb]? =some (.cells (BJ.flatMap sK).toArray 9 (0,0))∧ ∃(s:ByteArray) (l:Int),v= .agg #[.string s,.int .i64 l,.slice (some ⟨lb,0,none⟩) 2 2,.slice none 0 0]∧nK s∧aU l) ?_ ?_ ?_
     ·rintro v w1 w' hle ⟨g,h2,h3,h4⟩
      exact ⟨g,h2,(hle.block g (Array.getElem?_eq_some_iff.1 h3).1 (by have:=bF.out; have:=jV.out; omega) (by have:=bF.out; have:=jV.out; omega)).trans h3,h4⟩
     ·intro c A w' hok hC hO hD
      simp [au,aj,ak,Act.eval,Region.binds] at hD
      obtain ⟨⟨s,hs,hsn⟩,⟨l,hl,yh⟩,lb,hlb,h1,h2⟩:=hD
      simp [go_sem,gd,Oper.wp,hs,hl,hlb]
      exact ay.mk (Mk.refl _ _) hC ⟨lb,h1,h2,s,l,rfl,hsn,yh⟩
     simp only [List.nil_append,List.cons_append]
     refine aO.some (fun v w'=> ∃tb,v= .pointer (some ⟨tb,0,none⟩)∧W0.heap.size≤tb∧w'.heap[tb]? =some (.cells zTh 67 (0,0))) ?_ ?_ ?_
     ·rintro v w1 w' hle ⟨g,h1,h2,h3⟩
      exact ⟨g,h1,h2,(hle.block g (Array.getElem?_eq_some_iff.1 h3).1 (by have:=bF.out; have:=jV.out; omega) (by have:=bF.out; have:=jV.out; omega)).trans h3⟩
     ·intro c A w' hok hC hO hD
      simp [go_sem,gd,Oper.wp]
      exact ay.mk (d:=_) (v:= .pointer (some ⟨_,0,none⟩)) (Mk.of_below (ah _ _)) ⟨hC.1.trans (Mk.of_below (ah _ _)),hC.2.below (ah _ _)⟩ ⟨_,rfl,hC.1.size,heap_alloc_new _ _⟩
     try simp only [List.nil_append,List.cons_append]
     refine aO.done ?_
     intro wz dP
     try simp only [List.drop_zero,List.drop_succ_cons]
     intro v0 h0 v1 h1 v2 h2 v3 h3 v4 h4 v5 h5 v6 h6 v7 h7 v8 h8 v9 h9 v10 h10
     clear h0 h1 h2 h3 h4 h5 h6 h7 h8
     obtain ⟨lb,hlb,hlc,s,l,rfl,hsn,yh⟩:=h9
     obtain ⟨tb,rfl,htb,htc⟩:=h10
     clear hd1 hd2 K0 KN
     refine dG.nil ?_
     go_simp
     have hne:lb≠tb:=fun e=>by subst e; rw [hlc] at htc; cases htc
     refine iD 11 [[],[],[0,1],[0,1,2],[],[4],[4,5],[4,5,6],[],[0,1,2,3,4,5,6,7,8],[],[0,1,2,3,4,5,6,7,8,9,10]] rfl rfl rfl rfl rfl (by kernel_rfl) (by kernel_rfl) (by kernel_rfl) ?_
     refine wp_store_mid _ _ _ (by rfl) tb 0 #[.string s,.int .i64 l,.slice (some ⟨lb,0,none⟩) 2 2,.slice none 0 0] (by rfl) (by rfl) (sZ htc (Nat.le_refl 4)) Vj (by simp [Value.oneCell']) ?_
     refine gL rfl ?_
     generalize qB:World.setCells wz tb 0 _=W5
     have SB:Hid (TI T W0 tb W5 s l (.slice (some ⟨lb,0,none⟩) 2 2) BJ (.slice none 0 0)):=Lib.hid (by
      rw [← qB]
      have hlt':T.bt < W0.heap.size∧T.bm < W0.heap.size∧T.B0≤W0.heap.size∧W0.heap.size≤tb:=by have:=bF.out; have:=jV.out; omega
      have hgr:=bP tb [.string s,.int .i64 l,.slice (some ⟨lb,0,none⟩) 2 2,.slice none 0 0] 0 wz
      refine ⟨jS htc rfl,?_,fun k hk=> ?_,⟨hsn,yh,OY,by decide⟩,dP.2.sets _ _ _ (by omega) (by omega) (by omega),dP.1.sets _ _ _ htb,hlt'⟩
      ·exact (Grow.made Bt hlc hlb rfl (by unfold maxLen; decide)).Dc (qb.Cu hgr) (fun k hk e=>by injection hk with hk; injection e with e; have hk:lb=k:=hk; omega)
      ·injection hk with hk; have hk:lb=k:=hk; omega)
     clear qB dP hlb hlc htb htc hsn yh hne
     go_simp
     have c0:=SB.out.mi.ptr
     go_wp2_with fail
     refine (dQ T 16 _ (by unfold aU; decide) SB.out.mi).mono ?_
     rintro e W6 ⟨m,rfl,hm0,hm1,hm2,hM,hI⟩
     have mR:=Lib.hid (SB.out.go hM hI)
     clear hM hI hm0 hm1 hm2 c0 SB
     go_upto_block 6 with fail
     go_cut [10] (fun s10 W'=>s10= .pointer (some ⟨tb,0,none⟩)∧ ∃(s:ByteArray) (vL:Value) (lc:List ByteArray),TI T W0 tb W' s l vL lc (.slice none 0 0))
     case first=>
      cases mM:(m == 13)
      ·cases nW:(m == 14)
       ·cases oO:(m == 15)
        ·go_wp2_with fail
         go_meet
         exact ⟨rfl,_,_,_,mR.out⟩
        ·have y2:=aG (j:=2) mR.out.box rfl
         have f2:W6.frozen? ⟨tb,2,none⟩=false:=aK mR.out.box
         have ah7:tb < W6.heap.size:=mR.out.sz
         have VU:=Lib.hid ah7
         go_wp2_with fail
         go_meet
         have O4:=Lib.hid (mR.out.go (Mk.of_below (ah W6 (.cells (Td.flatMap sK).toArray 9))) (mR.out.mi.below (ah _ _)))
         have vK:=TI.um (um:=Td) (MW:= .slice (some ⟨W6.heap.size,0,none⟩) 5 5) O4.out.box (Grow.made Bt (heap_alloc_new _ _) (Nat.le_trans O4.out.lt.2.2.2 (Nat.le_of_lt VU.out)) rfl (by unfold maxLen; decide)) (fun k hk=>by injection hk with hk; have hk:W6.heap.size=k:=hk; have:=VU.out; omega) ⟨mR.out.ok.1,mR.out.ok.2.1,Yo,by decide⟩ O4.out.mi O4.out.km O4.out.lt
         rw [World.setCell_alloc_past _ _ _ _ VU.out] at vK
         have XB:=Lib.hid vK
         clear vK
         refine ⟨rfl,?_⟩
         exact ⟨_,_,_,XB.out⟩
       ·go_upto_region 27 with fail
        have eu:Hid (tb + 1≤W6.heap.size):=Lib.hid mR.out.sz
        have oP:Hid (T.bt < W0.heap.size∧T.bm < W0.heap.size∧W0.heap.size≤tb):=Lib.hid (by have:=mR.out.lt; omega)
        have hd1:Mk T W6 (W6.drewN 1):=Mk.of_below (below_drewN (Below.refl _ _) 1)
        have hd2:dJ (W6.drewN 1) T:=mR.out.mi.below (below_drewN (Below.refl _ _) 1)
        have K0: ∀w',dJ w' T→w'.cell? ⟨T.bm,0,none⟩=some (.pointer (some ⟨T.bt,0,none⟩)):=fun w' h=>h.ptr
        have Y2: ∀w',Mk T W6 w'→w'.cell? ⟨tb,2,none⟩=some (.slice (some ⟨lb,0,none⟩) 2 2):=fun w' h=>aG ((h.block tb eu.out (by have:=oP.out; omega) (by have:=oP.out; omega)).trans mR.out.box) rfl
        refine eY (by kernel_rfl) rfl ?_
        refine eB 0 11 [] [[],[0],[],[],[3],[3,4],[3,4,5],[3,4,5,6],[2,3,4,5,6,7],[2,3,4,5,6,7,8],[2,3,4,5,6,7,8,9],[0,1,2,3,4,5,6,7,8,9,10],[0,1,2,3,4,5,6,7,8,9,10,11],[0,1,2,3,4,5,6,7,8,9,10,11,12]] [[],[],[],[],[],[],[],[],[],[],[]] (fun _ w'=>Mk T W6 w'∧dJ w' T) (fun w w'=>Mk T w w') [116,117,118,119,120,121,122,123,124,125,126] rfl rfl (by rfl) (by kernel_rfl) (by kernel_rfl) (by kernel_rfl) (by kernel_rfl) (by kernel_rfl) (by rfl) (fun _=>Mk.refl _ _) (by rfl) ⟨hd1,hd2⟩ ?_
        simp only [List.take_succ_cons,List.take_zero,List.drop_zero,List.drop_succ_cons,jY,List.map_cons,List.map_nil]
        apply aO.step
        case aB=>
         intro c A w' hok hC hO hD
         have e10:=hO 10 (by rfl)
         simp [Act.eval] at e10
         simp [au,aj,ak,Act.eval,Region.binds] at hD
         simp [go_sem,gd,Oper.wp,hD,e10]
         exact ay.mk (Mk.refl _ _) hC (aj.mk _ _)
        apply aO.step
        case aB=>
         intro c A w' hok hC hO hD
         simp [au,aj,ak,Act.eval,Region.binds] at hD
         simp [go_sem,gd,Oper.wp,hD,Y2,hC.1]
         exact ay.mk (Mk.refl _ _) hC (aj.mk _ _)
        refine aO.some (fun v w'=> ∃g,v= .slice (some ⟨g,0,none⟩) 4 4∧W6.heap.size≤g∧w'.heap[g]? =some (.cells VI 9 (0,0))) ?_ ?_ ?_
        ·rintro v w1 w' hle ⟨g,h1,h2,h3⟩
         exact ⟨g,h1,h2,(hle.block g (Array.getElem?_eq_some_iff.1 h3).1 (by have:=oP.out; have:=eu.out; omega) (by have:=oP.out; have:=eu.out; omega)).trans h3⟩
        ·intro c A w' hok hC hO hD
         simp [go_sem,gd,Oper.wp]
         exact ay.mk (d:=_) (v:= .slice (some ⟨_,0,none⟩) 4 4) (Mk.of_below (ah _ _)) ⟨hC.1.trans (Mk.of_below (ah _ _)),hC.2.below (ah _ _)⟩ ⟨_,rfl,hC.1.size,heap_alloc_new _ _⟩
        simp only [List.nil_append,List.cons_append]
        apply aO.step
        case aB=>
         intro c A w' hok hC hO hD
         have e3:=hO 3 (by rfl)
         simp [Act.eval] at e3
         simp [au,aj,ak,Act.eval,Region.binds] at hD
         simp [go_sem,gd,Oper.wp,hD,e3]
         exact ay.mk (Mk.refl _ _) hC (aj.mk _ _)
        apply aO.step
        case aB=>
         intro c A w' hok hC hO hD
         simp [au,aj,ak,Act.eval,Region.binds] at hD
         simp [go_sem,gd,Oper.wp,hD]
         exact ay.mk (Mk.refl _ _) hC (aj.mk _ _)
        apply aO.step
        case aB=>
         intro c A w' hok hC hO hD
         simp [au,aj,ak,Act.eval,Region.binds] at hD
         simp [go_sem,gd,Oper.wp,hD]
         exact ay.mk (Mk.refl _ _) hC (aj.mk _ _)
        simp only [List.nil_append,List.cons_append]
        apply aO.step
        case aB=>
         intro c A w' hok hC hO hD
         simp [au,aj,ak,Act.eval,Region.binds] at hD
         simp [go_sem,gd,Oper.wp,hD,K0,hC.2]
         exact ay.mk (Mk.refl _ _) hC (aj.mk _ _)
        refine aO.some (fun v _=> ∃r:Nat,v= .int .i64 (r:Int)∧r < 4) (fun _ _ _ _ h=>h) ?_ ?_
        ·intro c A w' hok hC hO hD
         simp [au,aj,ak,Act.eval,Region.binds] at hD
         simp [go_sem,gd,Oper.wp,hD]
         refine (dQ T 4 w' (by unfold aU; decide) hC.2).mono ?_
         rintro e w2 ⟨r,rfl,h0,h1,-,hM,hI⟩
         obtain ⟨r',rfl⟩:=Int.eq_ofNat_of_zero_le h0
         exact ay.mk hM ⟨hC.1.trans hM,hI⟩ ⟨r',rfl,by have:=h1 (by decide); omega⟩
        simp only [List.nil_append,List.cons_append]
        refine aO.some (fun v w'=> ∃(g r:Nat),v= .pointer (some ⟨g,r,none⟩)∧r < 4∧W6.heap.size≤g∧w'.heap[g]? =some (.cells VI 9 (0,0))) (fun v w1 w' hle ⟨g,r,h1,h1',h2,h3⟩=>⟨g,r,h1,h1',h2,(hle.block g (Array.getElem?_eq_some_iff.1 h3).1 (by have:=oP.out; have:=eu.out; omega) (by have:=oP.out; have:=eu.out; omega)).trans h3⟩) ?_ ?_
        ·intro c A w' hok hC hO hD
         simp [au,aj,ak,Act.eval,Region.binds] at hD
         obtain ⟨⟨g,hg,hg1,hg2⟩,r,hr,h1⟩:=hD
         have hb0:(0:Int)≤(r:Int):=by omega
         have hb1:(r:Int) < 4:=by omega
         simp [go_sem,gd,Oper.wp,hg,hr,hb0,hb1]
         exact ay.mk (Mk.refl _ _) hC (⟨g,r,rfl,h1,hg1,hg2⟩)
        simp only [List.nil_append,List.cons_append]
        refine aO.some (fun v w'=> ∃s:ByteArray,v= .string s∧nK s) (fun _ _ _ _ h=>h) ?_ ?_
        ·intro c A w' hok hC hO hD
         simp [au,aj,ak,Act.eval,Region.binds] at hD
         obtain ⟨g,r,hr,h1,hg1,hg2⟩:=hD
         obtain ⟨s,hs,hsz⟩:=Yt r h1
         simp [go_sem,gd,Oper.wp,hr,(aG hg2 hs)]
         exact ay.mk (Mk.refl _ _) hC (⟨s,rfl,hsz⟩)
        simp only [List.nil_append,List.cons_append]
        refine aO.some (fun v w'=> ∃g,v= .slice (some ⟨g,0,none⟩) 1 1∧ ∃s:ByteArray,W6.heap.size≤g∧w'.heap[g]? =some (.cells (sK s).toArray 9 (0,0))∧nK s) ?_ ?_ ?_
        ·rintro v w1 w' hle ⟨g,h1,s,h2,h3,h4⟩
         exact ⟨g,h1,s,h2,(hle.block g (Array.getElem?_eq_some_iff.1 h3).1 (by have:=oP.out; have:=eu.out; omega) (by have:=oP.out; have:=eu.out; omega)).trans h3,h4⟩
        ·intro c A w' hok hC hO hD
         simp [au,aj,ak,Act.eval,Region.binds] at hD
         obtain ⟨s,hs,hsn⟩:=hD
         simp [go_sem,gd,Oper.wp,hs]
         refine ay.mk (d:=_) (v:= .slice (some ⟨_,0,none⟩) 1 1) (Mk.of_below (ah _ _)) ⟨hC.1.trans (Mk.of_below (ah _ _)),hC.2.below (ah _ _)⟩ ?_
         first | exact ⟨_,rfl,s,hC.1.size,heap_alloc_new _ _,hsn⟩ | exact ⟨_,rfl,hC.1.size,s,heap_alloc_new _ _,hsn⟩
        try simp only [List.nil_append,List.cons_append]
        refine aO.done ?_
        intro wz dP
        try simp only [List.drop_zero,List.drop_succ_cons]
        intro v0 h0 v1 h1 v2 h2 v3 h3 v4 h4 v5 h5 v6 h6 v7 h7 v8 h8 v9 h9 v10 h10
        have h0':=Eq.symm (show v0=_ from h0)
        subst h0'
        have h1':=Eq.symm (show v1=_ from h1)
        subst h1'
        clear h0 h1 h2 h3 h4 h5 h6 h7 h8 h9
        obtain ⟨bb,rfl,s',hbb,hcell,hsn⟩:=h10
        clear hd1 hd2 K0 Y2
        refine dG.nil ?_
        go_simp
        refine iD 11 [[],[0],[],[],[3],[3,4],[3,4,5],[3,4,5,6],[2,3,4,5,6,7],[2,3,4,5,6,7,8],[2,3,4,5,6,7,8,9],[0,1,2,3,4,5,6,7,8,9,10],[0,1,2,3,4,5,6,7,8,9,10,11],[0,1,2,3,4,5,6,7,8,9,10,11,12]] rfl rfl rfl rfl rfl (by kernel_rfl) (by kernel_rfl) (by kernel_rfl) ?_
        obtain ⟨i0,hi0,hz0,hz1,hz2⟩:=U0
        have oh:=Lib.hid (mR.out.go dP.1 dP.2)
        have SS:=Lib.hid hsn
        refine wp_append_lies wz _ _ _ (by rfl) W0.heap.size 9 i0 _ 1 16 Tryz.underlying64 hi0 hz0 hz1 hz2 (by rfl) (by omega) (.slice (some ⟨lb,0,none⟩) 2 2) BJ.length (BJ.flatMap sK) (by rfl) oh.out.gl.own ⟨bb,0,none⟩ 1 1 (sK s') (by rfl) (by rfl) (mQ hcell) (by simp [sK,Value.oneCell']) (by decide) (by unfold maxLen; decide) (by decide) (Nat.le_trans oh.out.lt.2.2.2 (Nat.le_of_succ_le oh.out.sz)) _ rfl ?_
        intro g' cap' w5 hown hgr hmv hlt'
        clear hi0 hz0 hz1 hz2 hcell dP hbb hsn
        have AJ:=Lib.hid (oh.out.gl.push (x:=s') (fun _ _=>trivial) rfl hown hgr hmv)
        have ND:Hid (g'≠tb):=Lib.hid (by
         rcases hmv with h | h
         ·exact oh.out.ne g' h
         ·have:=oh.out.sz; omega)
        have jE:Hid (Below W0.heap.size wz w5):=Lib.hid (mI hgr (fun k hk=>(oh.out.gl.lt k hk).1) (Nat.le_trans oh.out.lt.2.2.2 (Nat.le_of_succ_le oh.out.sz)))
        have kZ:Hid (w5.heap[tb]? =some (.cells #[.string s,.int .i64 l,.slice (some ⟨lb,0,none⟩) 2 2,.slice none 0 0] 67 (0,0))):=Lib.hid ((hgr.block tb (Nat.lt_of_succ_le oh.out.sz) (fun e=>oh.out.ne tb e.symm rfl)).trans oh.out.box)
        clear hown hgr hmv hlt'
        have qY:Hid (∀x ∈ BJ++[s'],nK x):=Lib.hid (fun x hx=>by
         rcases List.mem_append.1 hx with hx | hx
         ·exact OY x hx
         ·rw [List.mem_singleton.1 hx]; exact SS.out)
        have uZ:=Lib.hid (TI.um (um:=BJ++[s']) kZ.out AJ.out (fun k hk=>by injection hk with hk; have hk:g'=k:=hk; have:=ND.out; omega) ⟨mR.out.ok.1,mR.out.ok.2.1,qY.out,by simp [BJ]⟩ (oh.out.mi.vF jE.out oh.out.lt.1 oh.out.lt.2.1 oh.out.lt.2.2.1) (oh.out.km.CS jE.out) oh.out.lt)
        have y2:w5.cell? ⟨tb,2,none⟩=some (.slice (some ⟨lb,0,none⟩) 2 2):=aG kZ.out rfl
        have f2:w5.frozen? ⟨tb,2,none⟩=false:=aK kZ.out
        clear kZ AJ jE oh ND qY
        go_simp
        refine eB 12 13 [] [[],[0],[],[],[3],[3,4],[3,4,5],[3,4,5,6],[2,3,4,5,6,7],[2,3,4,5,6,7,8],[2,3,4,5,6,7,8,9],[0,1,2,3,4,5,6,7,8,9,10],[0,1,2,3,4,5,6,7,8,9,10,11],[0,1,2,3,4,5,6,7,8,9,10,11,12]] [[]] (fun _ w'=>w'=w5) (fun w w'=>w=w') [128] rfl rfl (by rfl) (by kernel_rfl) (by kernel_rfl) (by kernel_rfl) (by kernel_rfl) (by kernel_rfl) (by rfl) (fun _=>rfl) (by rfl) rfl ?_
        simp only [List.take_succ_cons,List.take_zero,List.drop_zero,List.drop_succ_cons,jY,List.map_cons,List.map_nil]
        apply aO.step
        case aB=>
         intro c A w' hok hC hO hD
         have e10:=hO 10 (by rfl)
         simp [Act.eval] at e10
         simp [au,aj,ak,Act.eval,Region.binds] at hD
         simp [go_sem,gd,Oper.wp,hD,e10]
         exact ay.mk rfl hC (aj.mk _ _)
        try simp only [List.nil_append,List.cons_append]
        refine aO.done ?_
        intro wz dP
        try simp only [List.drop_zero,List.drop_succ_cons]
        intro v0 h0
        have h0':=Eq.symm (show v0=_ from h0)
        subst h0'
        clear h0
        refine dG.nil ?_
        go_simp
        refine iD 13 [[],[0],[],[],[3],[3,4],[3,4,5],[3,4,5,6],[2,3,4,5,6,7],[2,3,4,5,6,7,8],[2,3,4,5,6,7,8,9],[0,1,2,3,4,5,6,7,8,9,10],[0,1,2,3,4,5,6,7,8,9,10,11],[0,1,2,3,4,5,6,7,8,9,10,11,12]] rfl rfl rfl rfl rfl (by kernel_rfl) (by kernel_rfl) (by kernel_rfl) ?_
        subst dP
        simp [go_sem,Oper.wp,y2,f2]
        refine gL rfl ?_
        clear y2 f2
        go_simp
        go_wp2_with fail
        go_meet
        refine ⟨rfl,?_⟩
        exact ⟨_,_,_,uZ.out⟩
      ·have y0:=aG (j:=0) mR.out.box rfl
       have f0:W6.frozen? ⟨tb,0,none⟩=false:=aK mR.out.box
       have HTN:=Lib.hid (mR.out.name (s:=⟨#[116]⟩) ⟨by unfold maxLen; decide,by rfl⟩)
       go_wp2_with fail
       go_meet
       refine ⟨rfl,?_⟩
       exact ⟨_,_,_,HTN.out⟩
     obtain ⟨rfl,s',vL,lc,hT⟩:=hcut
     obtain ⟨W7,rfl⟩: ∃W:World,W=wc:=⟨_,rfl⟩
     have uZ:=Lib.hid hT
     clear hT mR
     have uX:Hid (tb + 1≤W7.heap.size):=Lib.hid uZ.out.sz
     have oP:Hid (T.bt < W0.heap.size∧T.bm < W0.heap.size∧W0.heap.size≤tb):=Lib.hid (by have:=uZ.out.lt; omega)
     have hd1:Mk T W7 (W7.drewN 1):=Mk.of_below (below_drewN (Below.refl _ _) 1)
     have hd2:dJ (W7.drewN 1) T:=uZ.out.mi.below (below_drewN (Below.refl _ _) 1)
     have K0: ∀w',dJ w' T→w'.cell? ⟨T.bm,0,none⟩=some (.pointer (some ⟨T.bt,0,none⟩)):=fun w' h=>h.ptr
     have KL: ∀w',dJ w' T→ ∃q:Int,w'.cell? ⟨T.bm,2,none⟩=some (.int .i64 q)∧0≤q∧q≤100:=fun w' h=>by
      obtain ⟨x,q,-,h1,h2,h3⟩:=h.vG
      exact ⟨q,(bL h3 (j:=2) rfl).2,h1,h2⟩
     have HE2:Hid (yg T 2):=Lib.hid (Fg T 2 (by decide))
     have HE7:Hid (yg T 7):=Lib.hid (Fg T 7 (by decide))
     go_upto_region 30 with fail
     refine eY (by kernel_rfl) rfl ?_
     refine eB 0 24 [] [[],[],[1],[1,2],[1,2,3],[1,2,3,4],[1,2,3,4,5],[1,2,3,4,5,6],[1,2,3,4,5,6,7],[],[9],[9,10],[9,10,11],[1,2,3,4,5,9,10,11,12],[1,2,3,4,5,9,10,11,12,13],[],[15],[15,16],[15,16,17],[15,16,17,18],[15,16,17,18,19],[1,2,3,4,5,9,10,11,12,13,14,15,16,17,18,19,20],[0,1,2,3,4,5,6,7,8,9,10,11,12,13,14,15,16,17,18,19,20,21],[0,1,2,3,4,5,6,7,8,9,10,11,12,13,14,15,16,17,18,19,20,21,22],[0,1,2,3,4,5,6,7,8,9,10,11,12,13,14,15,16,17,18,19,20,21,22,23]] [[],[],[],[],[],[],[],[],[],[],[],[],[],[],[],[],[],[],[],[],[],[],[],[]] (fun _ w'=>Mk T W7 w'∧dJ w' T) (fun w w'=>Mk T w w') [133,134,135,136,137,138,139,140,141,142,143,144,145,146,147,148,149,150,151,152,153,154,155,156] rfl rfl (by rfl) (by kernel_rfl) (by kernel_rfl) (by kernel_rfl) (by kernel_rfl) (by kernel_rfl) (by rfl) (fun _=>Mk.refl _ _) (by rfl) ⟨hd1,hd2⟩ ?_
     simp only [List.take_succ_cons,List.take_zero,List.drop_zero,List.drop_succ_cons,jY,List.map_cons,List.map_nil]
     apply aO.step
     case aB=>
      intro c A w' hok hC hO hD
      have e3:=hO 3 (by rfl)
      simp [Act.eval] at e3
      simp [au,aj,ak,Act.eval,Region.binds] at hD
      simp [go_sem,gd,Oper.wp,hD,e3]
      exact ay.mk (Mk.refl _ _) hC (aj.mk _ _)
     apply aO.step
     case aB=>
      intro c A w' hok hC hO hD
      have e3:=hO 3 (by rfl)
      simp [Act.eval] at e3
      simp [au,aj,ak,Act.eval,Region.binds] at hD
      simp [go_sem,gd,Oper.wp,hD,e3]
      exact ay.mk (Mk.refl _ _) hC (aj.mk _ _)
     apply aO.step
     case aB=>
      intro c A w' hok hC hO hD
      simp [au,aj,ak,Act.eval,Region.binds] at hD
      simp [go_sem,gd,Oper.wp,hD]
      exact ay.mk (Mk.refl _ _) hC (aj.mk _ _)
     simp only [List.nil_append,List.cons_append]
     apply aO.step
     case aB=>
      intro c A w' hok hC hO hD
      simp [au,aj,ak,Act.eval,Region.binds] at hD
      simp [go_sem,gd,Oper.wp,hD]
      exact ay.mk (Mk.refl _ _) hC (aj.mk _ _)
     apply aO.step
     case aB=>
      intro c A w' hok hC hO hD
      simp [au,aj,ak,Act.eval,Region.binds] at hD
      simp [go_sem,gd,Oper.wp,hD,K0,hC.2]
      exact ay.mk (Mk.refl _ _) hC (aj.mk _ _)
     refine aO.some (fun v _=> ∃r:Nat,v= .int .i64 (r:Int)∧r < 6) (fun _ _ _ _ h=>h) ?_ ?_
     ·intro c A w' hok hC hO hD
      simp [au,aj,ak,Act.eval,Region.binds] at hD
      simp [go_sem,gd,Oper.wp,hD]
      refine (dQ T 6 w' (by unfold aU; decide) hC.2).mono ?_
      rintro e w2 ⟨r,rfl,h0,h1,-,hM,hI⟩
      obtain ⟨r',rfl⟩:=Int.eq_ofNat_of_zero_le h0
      exact ay.mk hM ⟨hC.1.trans hM,hI⟩ ⟨r',rfl,by have:=h1 (by decide); omega⟩
     simp only [List.nil_append,List.cons_append]
     refine aO.some (fun v _=>v= .int .i64 0∨v= .int .i64 1) (fun _ _ _ _ h=>h) ?_ ?_
     ·intro c A w' hok hC hO hD
      simp [au,aj,ak,Act.eval,Region.binds] at hD
      obtain ⟨r,hr,hr6⟩:=hD
      have hr6:r=0∨r=1∨r=2∨r=3∨r=4∨r=5:=by omega
      rcases hr6 with rfl | rfl | rfl | rfl | rfl | rfl
      all_goals
       simp [go_sem,gd,Oper.wp,hr]
       exact ay.mk (Mk.refl _ _) hC (by first | exact .inl rfl | exact .inr rfl)
     simp only [List.nil_append,List.cons_append]
     refine aO.some (fun v _=>v= .int .i64 0∨v= .int .i64 5) (fun _ _ _ _ h=>h) ?_ ?_
     ·intro c A w' hok hC hO hD
      simp [au,aj,ak,Act.eval,Region.binds] at hD
      rcases hD with hr | hr
      all_goals
       simp [go_sem,gd,Oper.wp,hr]
       exact ay.mk (Mk.refl _ _) hC (by first | exact .inl rfl | exact .inr rfl)
     simp only [List.nil_append,List.cons_append]
     refine aO.some (fun v _=>v= .int .i64 2∨v= .int .i64 7) (fun _ _ _ _ h=>h) ?_ ?_
     ·intro c A w' hok hC hO hD
      simp [au,aj,ak,Act.eval,Region.binds] at hD
      rcases hD with hr | hr
      all_goals
       simp [go_sem,gd,Oper.wp,hr]
       exact ay.mk (Mk.refl _ _) hC (by first | exact .inl rfl | exact .inr rfl)
     simp only [List.nil_append,List.cons_append]
     apply aO.step
     case aB=>
      intro c A w' hok hC hO hD
      have e3:=hO 3 (by rfl)
      simp [Act.eval] at e3
      simp [au,aj,ak,Act.eval,Region.binds] at hD
      simp [go_sem,gd,Oper.wp,hD,e3]
      exact ay.mk (Mk.refl _ _) hC (aj.mk _ _)
     apply aO.step
     case aB=>
      intro c A w' hok hC hO hD
      simp [au,aj,ak,Act.eval,Region.binds] at hD
      simp [go_sem,gd,Oper.wp,hD]
      exact ay.mk (Mk.refl _ _) hC (aj.mk _ _)
     apply aO.step
     case aB=>
      intro c A w' hok hC hO hD
      simp [au,aj,ak,Act.eval,Region.binds] at hD
      simp [go_sem,gd,Oper.wp,hD]
      exact ay.mk (Mk.refl _ _) hC (aj.mk _ _)
     simp only [List.nil_append,List.cons_append]
     apply aO.step
     case aB=>
      intro c A w' hok hC hO hD
      simp [au,aj,ak,Act.eval,Region.binds] at hD
      simp [go_sem,gd,Oper.wp,hD,K0,hC.2]
      exact ay.mk (Mk.refl _ _) hC (aj.mk _ _)
     refine aO.some (fun v _=> ∃r:Nat,v= .int .i64 (r:Int)∧r < 4) (fun _ _ _ _ h=>h) ?_ ?_
     ·intro c A w' hok hC hO hD
      simp [au,aj,ak,Act.eval,Region.binds] at hD
      simp [go_sem,gd,Oper.wp,hD]
      refine (dQ T 4 w' (by unfold aU; decide) hC.2).mono ?_
      rintro e w2 ⟨r,rfl,h0,h1,-,hM,hI⟩
      obtain ⟨r',rfl⟩:=Int.eq_ofNat_of_zero_le h0
      exact ay.mk hM ⟨hC.1.trans hM,hI⟩ ⟨r',rfl,by have:=h1 (by decide); omega⟩
     simp only [List.nil_append,List.cons_append]
     refine aO.some (fun v w'=> ∃r:Nat,v= .int .i64 (r:Int)∧1≤r∧r≤4) (fun _ _ _ _ h=>h) ?_ ?_
     ·intro c A w' hok hC hO hD
      simp [au,aj,ak,Act.eval,Region.binds] at hD
      obtain ⟨r,hr,Gn⟩:=hD
      have hw:IntKind.i64.wrap (1 + (r:Int))=1 + r:=IntWalk.i64_in _ (by omega)
      simp [go_sem,gd,Oper.wp,hr,hw]
      exact ay.mk (Mk.refl _ _) hC (⟨1 + r,by simp,by omega,by omega⟩)
     simp only [List.nil_append,List.cons_append]
     apply aO.step
     case aB=>
      intro c A w' hok hC hO hD
      have e3:=hO 3 (by rfl)
      simp [Act.eval] at e3
      simp [au,aj,ak,Act.eval,Region.binds] at hD
      simp [go_sem,gd,Oper.wp,hD,e3]
      exact ay.mk (Mk.refl _ _) hC (aj.mk _ _)
     apply aO.step
     case aB=>
      intro c A w' hok hC hO hD
      simp [au,aj,ak,Act.eval,Region.binds] at hD
      simp [go_sem,gd,Oper.wp,hD]
      exact ay.mk (Mk.refl _ _) hC (aj.mk _ _)
     apply aO.step
     case aB=>
      intro c A w' hok hC hO hD
      simp [au,aj,ak,Act.eval,Region.binds] at hD
      simp [go_sem,gd,Oper.wp,hD]
      exact ay.mk (Mk.refl _ _) hC (aj.mk _ _)
     simp only [List.nil_append,List.cons_append]
     refine aO.some (fun v w'=> ∃q:Nat,v= .int .i64 (q:Int)∧q≤100) (fun _ _ _ _ h=>h) ?_ ?_
     ·intro c A w' hok hC hO hD
      simp [au,aj,ak,Act.eval,Region.binds] at hD
      obtain ⟨q',hq,hq0,hq1⟩:=KL w' hC.2
      obtain ⟨q,rfl⟩:=Int.eq_ofNat_of_zero_le hq0
      simp [go_sem,gd,Oper.wp,hD,hq]
      exact ay.mk (Mk.refl _ _) hC (⟨q,rfl,by omega⟩)
     simp only [List.nil_append,List.cons_append]
     refine aO.some (fun v w'=> ∃q:Nat,v= .int .i64 (q:Int)∧q≤5) (fun _ _ _ _ h=>h) ?_ ?_
     ·intro c A w' hok hC hO hD
      simp [au,aj,ak,Act.eval,Region.binds] at hD
      obtain ⟨q,hr,Gn⟩:=hD
      have hw:IntKind.i64.wrap ((q:Int) / 20)=(q:Int) / 20:=IntWalk.i64_in _ (by omega)
      simp [go_sem,gd,Oper.wp,hr,hw]
      exact ay.mk (Mk.refl _ _) hC (⟨q / 20,by simp,by omega⟩)
     simp only [List.nil_append,List.cons_append]
     refine aO.some (fun v w'=> ∃q:Nat,v= .int .i64 (q:Int)∧q≤50) (fun _ _ _ _ h=>h) ?_ ?_
     ·intro c A w' hok hC hO hD
      simp [au,aj,ak,Act.eval,Region.binds] at hD
      obtain ⟨q,hr,Gn⟩:=hD
      have hw:IntKind.i64.wrap ((q:Int) * 10)=((q * 10:Nat):Int):=(IntWalk.i64_in _ (by omega)).trans (by omega)
      simp [go_sem,gd,Oper.wp,hr,hw]
      exact ay.mk (Mk.refl _ _) hC (⟨q * 10,by simp,by omega⟩)
     simp only [List.nil_append,List.cons_append]
     refine aO.some (fun v w'=> ∃q:Nat,v= .int .i64 (q:Int)∧q≤54) (fun _ _ _ _ h=>h) ?_ ?_
     ·intro c A w' hok hC hO hD
      simp [au,aj,ak,Act.eval,Region.binds] at hD
      obtain ⟨⟨r,hr,hr1,hr4⟩,q,hq,XE⟩:=hD
      have hw:IntKind.i64.wrap ((r:Int) + (q:Int))=((r + q:Nat):Int):=(IntWalk.i64_in _ (by omega)).trans (by omega)
      simp [go_sem,gd,Oper.wp,hr,hq,hw]
      exact ay.mk (Mk.refl _ _) hC (⟨r + q,by simp,by omega⟩)
     simp only [List.nil_append,List.cons_append]
     refine aO.some (fun v w'=> ∃(l:aN) (ao:Option Addr) (cap:Nat),v= .slice ao (aN.len l) cap∧(aN.len l≤1000∧uJ WB l)∧dB W7.heap.size w' (fun w2=>l.At w2 w2.heap.size ao 0)) ?_ ?_ ?_
     ·rintro v w1 w' hle ⟨l,ao,cap,h1,h2,h3⟩
      exact ⟨l,ao,cap,h1,h2,h3.next (hle.xA (by have:=oP.out; have:=uX.out; omega) (by have:=oP.out; have:=uX.out; omega))⟩
     ·intro c A w' hok hC hO hD
      simp [au,aj,ak,Act.eval,Region.binds] at hD
      obtain ⟨Xm,He,⟨q,hq,XE⟩,-⟩:=hD
      rcases He with He | He
      ·simp [go_sem,gd,Oper.wp,Xm,He,hq]
       refine (HE2.out w' _ hC.2 (by unfold aU; omega) (by omega)).mono ?_
       rintro e w3 ⟨l,ao,cap,rfl,h1,h2,h3,h4⟩
       exact ay.mk h3 ⟨hC.1.trans h3,h4⟩ ⟨l,ao,⟨cap,rfl⟩,⟨h1.1,h1.2.mono (wb2 XE)⟩,h2.mono hC.1.size⟩
      ·simp [go_sem,gd,Oper.wp,Xm,He,hq]
       refine (HE7.out w' _ hC.2 (by unfold aU; omega) (by omega)).mono ?_
       rintro e w3 ⟨l,ao,cap,rfl,h1,h2,h3,h4⟩
       exact ay.mk h3 ⟨hC.1.trans h3,h4⟩ ⟨l,ao,⟨cap,rfl⟩,⟨h1.1,h1.2.mono (wb7 XE)⟩,h2.mono hC.1.size⟩
     simp only [List.nil_append,List.cons_append]
     apply aO.step
     case aB=>
      intro c A w' hok hC hO hD
      have e10:=hO 10 (by rfl)
      simp [Act.eval] at e10
      simp [au,aj,ak,Act.eval,Region.binds] at hD
      simp [go_sem,gd,Oper.wp,hD,e10]
      exact ay.mk (Mk.refl _ _) hC (aj.mk _ _)
     try simp only [List.nil_append,List.cons_append]
     refine aO.done ?_
     intro wz dP
     try simp only [List.drop_zero,List.drop_succ_cons]
     intro v0 h0 v1 h1 v2 h2 v3 h3 v4 h4 v5 h5 v6 h6 v7 h7 v8 h8 v9 h9 v10 h10 v11 h11 v12 h12 v13 mM v14 nW v15 oO v16 h16 v17 qx v18 h18 v19 h19 v20 h20 v21 h21 v22 h22 v23 h23
     have ai2:=Eq.symm (show v23=_ from h23)
     subst ai2
     clear h0 h1 h2 h3 h4 h5 h6 h7 h8 h9 h10 h11 h12 mM nW oO h16 qx h18 h19 h20 h21 h23
     obtain ⟨lb',gQ,cap',rfl,hlen,hst⟩:=h22
     clear hd1 hd2 K0 KL HE2 HE7
     refine dG.nil ?_
     go_simp
     refine iD 24 [[],[],[1],[1,2],[1,2,3],[1,2,3,4],[1,2,3,4,5],[1,2,3,4,5,6],[1,2,3,4,5,6,7],[],[9],[9,10],[9,10,11],[1,2,3,4,5,9,10,11,12],[1,2,3,4,5,9,10,11,12,13],[],[15],[15,16],[15,16,17],[15,16,17,18],[15,16,17,18,19],[1,2,3,4,5,9,10,11,12,13,14,15,16,17,18,19,20],[0,1,2,3,4,5,6,7,8,9,10,11,12,13,14,15,16,17,18,19,20,21],[0,1,2,3,4,5,6,7,8,9,10,11,12,13,14,15,16,17,18,19,20,21,22],[0,1,2,3,4,5,6,7,8,9,10,11,12,13,14,15,16,17,18,19,20,21,22,23]] rfl rfl rfl rfl rfl (by kernel_rfl) (by kernel_rfl) (by kernel_rfl) ?_
     have oh:=Lib.hid (uZ.out.go dP.1 dP.2)
     have BF:=Lib.hid hlen
     have HST:=Lib.hid hst
     have y3:wz.cell? ⟨tb,3,none⟩=some (.slice none 0 0):=aG oh.out.box rfl
     have f3:wz.frozen? ⟨tb,3,none⟩=false:=aK oh.out.box
     clear dP hlen hst uZ
     simp [go_sem,Oper.wp,y3,f3]
     refine gL rfl ?_
     generalize Xl:World.setCell wz _ _=W8
     have wD:Hid (TI T W0 tb W8 s' l vL lc (.slice gQ lb'.len cap')):=Lib.hid (by rw [← Xl]; exact oh.out.body)
     have Ai:Hid (dB W7.heap.size W8 (fun w2=>lb'.At w2 w2.heap.size gQ 0)):=Lib.hid (by rw [← Xl]; exact HST.out.next (dO _ _ _ uX.out))
     clear Xl y3 f3 oh HST
     go_simp
     have lY:=Lib.hid (BK.out.go wD.out.km wD.out.mi)
     obtain ⟨fC,dN,el,hcl,hsl⟩:=wD.out.gl.says (fun x hx=>(wD.out.ok.2.2.1 x hx).1)
     subst el
     have HSL:=Lib.hid (And.intro hcl hsl)
     clear hcl hsl
     have y0:W8.cell? ⟨tb,0,none⟩=some (.string s'):=aG wD.out.box rfl
     have y1:W8.cell? ⟨tb,1,none⟩=some (.int .i64 l):=aG wD.out.box rfl
     have y2:W8.cell? ⟨tb,2,none⟩=some (.slice fC lc.length dN):=aG wD.out.box rfl
     have y3:W8.cell? ⟨tb,3,none⟩=some (.slice gQ lb'.len cap'):=aG wD.out.box rfl
     have yT:W8.cell? ⟨pb,1,none⟩=some vT:=aG lY.out.box rfl
     have HX:Hid (fT (nb + 1) vT.ownBlock W8 (gZ.I ⟨⟨s',l,lc,lb'⟩,fC,dN,gQ,cap'⟩)):=Lib.hid (by
      refine uS (B1:=W0.heap.size) ?_ jV.out (fun k hk=>(BK.out.gt.lt k hk).2)
      have hb2:W0.heap.size≤W7.heap.size:=by have:=oP.out; have:=uX.out; omega
      exact fun w' h'=>⟨HSL.out.2 w' h',(Ai.out.mono hb2) w' h'⟩)
     have gV:Hid (((⟨s',l,lc,lb'⟩:Th).Ok∧lc.length≤dN)∧ShT ⟨s',l,lc,lb'⟩):=Lib.hid ⟨⟨⟨wD.out.ok.1.1,wD.out.ok.2.1,by have:=wD.out.ok.2.2.2; show lc.length≤maxLen; unfold maxLen; omega,by have:=BF.out.1; show lb'.len≤maxLen; unfold maxLen; omega⟩,HSL.out.1⟩,wD.out.ok.1.2,fun x hx=>(wD.out.ok.2.2.1 x hx).2,BF.out.2,wD.out.ok.2.2.2⟩
     have Bz:=Lib.hid (lY.out.go (Mk.of_below (ah W8 (.cells (gZ.f ⟨⟨s',l,lc,lb'⟩,fC,dN,gQ,cap'⟩).toArray 67))) (lY.out.mi.below (ah _ _)))
     have sD:=Lib.hid (mQ (heap_alloc_new W8 (.cells (gZ.f ⟨⟨s',l,lc,lb'⟩,fC,dN,gQ,cap'⟩).toArray 67)))
     obtain ⟨i0,hi,hz0,hz1,hz2⟩:=Vn
     have hbs:nb + 1≤W8.heap.size + 1:=Nat.le_succ_of_le lY.out.sz
     have hkl:kR.length + 1≤maxLen:=by rw [Dq.out]; unfold maxLen; omega
     have hkb:(kR.length + 1) * 72≤140737488355328:=by rw [Dq.out]; omega
     go_wp2_with (at_builtin; refine wpList_append_lies _ rfl _ _ 24 rfl (nb + 1) 67 i0 _ 4 72 Tryz.underlying24 hi hz0 hz1 hz2 rfl (by decide) _ _ _ rfl Bz.out.gt.own ⟨W8.heap.size,0,none⟩ 1 1 (gZ.f ⟨⟨s',l,lc,lb'⟩,fC,dN,gQ,cap'⟩) rfl rfl sD.out (Va _) (by decide) hkl hkb (by simpa using hbs) _ rfl ?_)
     clear hi hz0 hz1 hz2 hbs hkl hkb
     intro g' cap2 w9 hown hgr hmv hlt'
     have CU:=Lib.hid (Bz.out.push (HX.out.next (aY (ah _ _)).x) gV.out rfl hown hgr (by simpa using hmv))
     have iW:Hid (Below (nb + 1) (W8.alloc (.cells (gZ.f ⟨⟨s',l,lc,lb'⟩,fC,dN,gQ,cap'⟩).toArray 67)) w9):=Lib.hid (mI hgr (fun k hk=>(Bz.out.gt.lt k hk).1) Bz.out.sz)
     have kZ:Hid (w9.heap[pb]? =some (.cells #[vD,vT] 26 (0,0))):=Lib.hid ((iW.out.block pb (by have:=bF.out; omega)).trans Bz.out.box)
     have z1:w9.cell? ⟨pb,1,none⟩=some vT:=aG kZ.out rfl
     have f1:w9.frozen? ⟨pb,1,none⟩=false:=aK kZ.out
     clear hown hgr hmv hlt' y0 y1 y2 y3 yT sD Bz HX kZ iW
     go_wp2_with fail
     go_roundw
     case rel=>exact ⟨k + 1,_,_,by go_num,by omega,by simp [Dq.out],CU.out⟩
     case measure=>simp [intOf]; omega
    ·have hk:k=n':=by omega
     subst hk
     obtain ⟨aH,aC,e1,hcd,ZI⟩:=HP.out.gd.says (fun x hx=>(HP.out.Kr x hx).1)
     obtain ⟨aI,aD,e2,hct,ZJ⟩:=HP.out.gt.says (fun x hx=>(HP.out.H6 x hx).1)
     subst e1 e2
     have IJ:=Lib.hid (And.intro ZI (And.intro ZJ (And.intro hcd hct)))
     clear ZI ZJ hcd hct
     have y0:=aG (j:=0) HP.out.box rfl
     have y1:=aG (j:=1) HP.out.box rfl
     have HRW:Hid (wr.heap[w.heap.size]? =some (.cells #[.slice none 0 0,.slice none 0 0] 26 (0,0))):=Lib.hid ((HP.out.km.block _ (Array.getElem?_eq_some_iff.1 HR2.out).1 (by have:=dR.out; omega) (by have:=dR.out; omega)).trans HR2.out)
     have z0:wr.cell? ⟨w.heap.size,0,none⟩=some (.slice none 0 0):=aG HRW.out rfl
     have z1:wr.cell? ⟨w.heap.size,1,none⟩=some (.slice none 0 0):=aG HRW.out rfl
     have f0: ∀j,wr.frozen? ⟨w.heap.size,j,none⟩=false:=fun j=>aK HRW.out
     go_wp2_with fail
     have vY:Hid (gK (w.heap.size + 1) wr ((wr.setCell ⟨w.heap.size,0,none⟩ (.slice aH ds.length aC)).setCell ⟨w.heap.size,1,none⟩ (.slice aI kR.length aD))):=Lib.hid (gK.trans (dO wr ⟨w.heap.size,0,none⟩ (.slice aH ds.length aC) (Nat.lt_succ_self w.heap.size)) (dO (wr.setCell ⟨w.heap.size,0,none⟩ (.slice aH ds.length aC)) ⟨w.heap.size,1,none⟩ (.slice aI kR.length aD) (Nat.lt_succ_self w.heap.size)))
     have HBF:Hid (Below w.heap.size w ((wr.setCell ⟨w.heap.size,0,none⟩ (.slice aH ds.length aC)).setCell ⟨w.heap.size,1,none⟩ (.slice aI kR.length aD))):=Lib.hid (((Rb FE.out HP.out.km (by have:=dR.out; omega) (by have:=dR.out; omega)).setCell (by simp) _).setCell (by simp) _)
     refine bodyPost_ret (v:= .agg #[.slice aH ds.length aC,.slice aI kR.length aD]) (by simp [results,Tryz.results9,go_sem,z0,z1]) rfl ⟨⟨ds,kR.map (·.t)⟩,aH,aI,aC,aD,by simp,⟨?_,?_,?_,?_⟩,IJ.out.2.2.1,?_,?_,HBF.out⟩
     ·show ds.length≤maxLen
      have:=Fb.out; unfold maxLen; omega
     ·show (kR.map (·.t)).length≤maxLen
      rw [List.length_map,Dq.out]; unfold maxLen; omega
     ·exact IJ.out.1 _ (vY.out.mono (by have:=dR.out; omega))
     ·exact IJ.out.2.1 _ (vY.out.mono (by have:=dR.out; have:=HP.out.lt; omega))
     ·show (kR.map (·.t)).length≤aD
      rw [List.length_map]; exact IJ.out.2.2.2
     ·refine ⟨?_,by show (kR.map (·.t)).length≤5; rw [List.length_map,Dq.out]; omega,by show ds.length≤1000; have:=Fb.out; omega,fun t ht=>by
       obtain ⟨y,hy,rfl⟩:=List.mem_map.1 ht
       have hq:=(HP.out.H6 y hy).2
       exact ⟨hq.2.2.2,hq.2.2.1.2⟩⟩
      unfold nQ
      have e1:ds.all fG=true:=List.all_eq_true.2 (fun x hx=>(HP.out.Kr x hx).2)
      have e2:(kR.map (·.t)).all jh=true:=List.all_eq_true.2 (fun x hx=>by
       obtain ⟨y,hy,rfl⟩:=List.mem_map.1 hx
       obtain ⟨q1,q2,⟨q3,-⟩,-⟩:=(HP.out.H6 y hy).2
       unfold jh
       rw [q1,q3,List.all_eq_true.2 (fun s hs=>q2 s hs)]; rfl)
      have e3:decide ((0:Int) < ((kR.map (·.t)).length:Nat))=true:=by
       rw [List.length_map,Dq.out]; exact decide_eq_true (by omega)
      show ((ds.all fG && (kR.map (·.t)).all jh) && decide ((0:Int) < ((kR.map (·.t)).length:Nat)))=true
      rw [e1,e2,e3]; rfl
end Go.Proofs.YtehnipchbmjlhaaGreatDoor
end
section
namespace Go.Proofs.YtehnipchbmjlhaaGreatDoor
open Go.ChangeShapes Go.WideShapes Go.ChangeAt Go.RowKit
open Go.WideMaps Go.WideElems
theorem Uu:Tryz.prog.cellsOf 5=1:=by kernel_rfl
theorem OZ {H:Type} {enc:TypeId × Value→H} {W:World} {base:Nat} {v:Value} {d:DataW H} {p:List MemPlace} (hv:Value.okWide Tryz.prog W .any base 22 v)
 (h:DataW.Trod enc Tryz.prog W 0 (fun _=>true) true 22 v d p) (hlt: ∀x ∈ p,x.block < W.heap.size):
 ∃(ao:Option Addr) (len cap:Nat) (zs:List Int),v= .slice ao len cap∧zs.length=len∧len≤maxLen∧Fq W W.heap.size zs ao:=by
 obtain ⟨a0,len,cap,rfl⟩:=okWide_slice Tryz.underlying22 hv
 obtain ⟨fuel,hf⟩:=h
 rcases open_ints Tryz.underlying22 Tryz.underlying5 Uu hf with ⟨hcs,hx⟩ | ⟨a,len',cap',zs,hcs,_,hl,hm,hz,hx,hcell,hwz⟩
 ·simp [Value.cells] at hcs
  obtain ⟨rfl,rfl,rfl⟩:=hcs
  exact ⟨none,0,0,[],rfl,rfl,Nat.zero_le _,fun k hk=>absurd hk (by simp)⟩
 ·simp [Value.cells] at hcs
  obtain ⟨rfl,rfl,rfl⟩:=hcs
  simp only [Prod.mk.injEq] at hx
  obtain ⟨rfl,rfl⟩:=hx
  simp only [if_true] at hz
  refine ⟨some a,len,cap,zs.take len,rfl,by rw [List.length_take]; omega,by omega,fun k hk=> ?_⟩
  have hk':k < zs.length:=by rw [List.length_take] at hk; omega
  obtain ⟨b,off,spot⟩:=a
  have hspot:spot=none:=by simpa [Addr.add] using World.cell?_spot (hcell 0 (by omega))
  subst hspot
  have hbW:b < W.heap.size:=hlt (.cell b off) (MemPlace.mem_row.2 ⟨0,by omega,by simp⟩)
  have hb:=bounds_u8 (hwz zs[k] (List.getElem_mem hk'))
  refine ⟨b,off,rfl,hbW,?_,?_⟩
  ·rw [← add_plain,hcell k hk',List.getElem_take]
   simp [hk']
  ·rw [List.getElem_take]; exact hb
end Go.Proofs.YtehnipchbmjlhaaGreatDoor
end
