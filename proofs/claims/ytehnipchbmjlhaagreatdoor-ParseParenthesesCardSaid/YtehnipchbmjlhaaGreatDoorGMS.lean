/-
  Contract of the maker's decls: nine shaped declarations in a new block.
  Contract of the maker's Loose: it returns a shaped program that lies in new memory.
  Bytes as an argument.
-/
import Derived.Test.YtehnipchbmjlhaaGreatDoorGMR
import Derived.Test.YtehnipchbmjlhaaGreatDoorGMC
import Derived.Deep.LoopGhost
import Derived.Test.YtehnipchbmjlhaaGreatDoorGMP
import Derived.Test.YtehnipchbmjlhaaGreatDoorGMO
import Derived.ProofKit
import Derived.OpenShut
section
set_option linter.unusedSimpArgs false
set_option linter.unusedVariables false
namespace Go.Proofs.YtehnipchbmjlhaaGreatDoor
open Go.RowKit
open Md
def Hy:List De:=[⟨1,0,⟨#[120]⟩,0,0,⟨#[]⟩⟩,⟨1,0,⟨#[121]⟩,0,1,⟨#[]⟩⟩,⟨2,0,⟨#[118]⟩,0,0,⟨#[]⟩⟩,⟨1,0,⟨#[113]⟩,2,0,⟨#[]⟩⟩,⟨3,0,⟨#[109]⟩,0,0,⟨#[]⟩⟩,⟨3,0,⟨#[110]⟩,0,0,⟨#[]⟩⟩,⟨4,0,⟨#[114]⟩,0,0,⟨#[]⟩⟩,⟨5,0,⟨#[99]⟩,0,0,⟨#[109]⟩⟩,⟨6,0,⟨#[102]⟩,0,0,⟨#[]⟩⟩]
theorem Vi:(Tryz.prog.info? 62).map (fun i=>(i.zero,i.size,i.bytes))=some (some (.agg Lv),6,64):=by kernel_rfl
theorem VI: ∃i0,Tryz.prog.info? 62=some i0∧i0.zero=some (.agg Lv)∧i0.size=6∧i0.bytes=64:=info_parts Vi
theorem Uy (x:De): ∀u ∈ ig x,u.oneCell'=true:=by
 intro u hu; simp [ig] at hu
 rcases hu with rfl | rfl | rfl | rfl | rfl | rfl <;> rfl
theorem Uu: ∀d ∈ Hy,d.Ok∧gT d=true:=by
 intro d hd
 simp only [Hy,List.mem_cons,List.not_mem_nil,or_false] at hd
 rcases hd with rfl | rfl | rfl | rfl | rfl | rfl | rfl | rfl | rfl <;> exact ⟨⟨by unfold aV; decide,by unfold aV; decide,by unfold maxLen; decide,by unfold aV; decide,by unfold aV; decide,by unfold maxLen; decide⟩,by rfl⟩
def Zx (w:World) (e:Ending) (w':World):Prop:= ∃g,e= .returned (.slice (some ⟨g,0,none⟩) 9 9)∧w.heap.size≤g∧w'.heap[g]? =some (.cells (Hy.flatMap ig).toArray 62 (0,0))∧Below w.heap.size w w'
theorem NV (w:World):Calls Tryz.prog 27 #[] w (Zx w):=by
 go_enter Tryz.func27,Tryz.ntmps27
 go_wp2
 go_ret
 refine ⟨_,rfl,?_,?_,?_⟩
 ·exact Nat.le_refl _
 ·exact heap_alloc_new _ _
 ·exact ah _ _
theorem Grow.Ef {α:Type} {f:α→List Value} {m:Nat} {ty:TypeId} {B:Nat} {w w':World} {v:Value} {xs:List α} {g:Option Nat} (h:Grow f m (fun _ _=>True) ty B w v xs) (ha:mO B g w w') (hne: ∀k,v.ownBlock=some k→some k≠g):Grow f m (fun _ _=>True) ty B w' v xs:=by
 refine ⟨⟨h.own.1,?_⟩,fun x hx _ _=>trivial⟩
 rcases h.own.2 with h1 | ⟨g',cap,cur,h1,h2,h3,h4⟩
 ·exact .inl h1
 ·exact .inr ⟨g',cap,cur,h1,h2,(ha.2 g' h2 (hne g' (by rw [h1]; rfl)) (Array.getElem?_eq_some_iff.1 h3).1).trans h3,h4⟩
theorem Grow.made {α:Type} {f:α→List Value} {m:Nat} {ty:TypeId} {B:Nat} {W:World} {g n:Nat} {xs:List α} (hf: ∀x,(f x).length=m) (h:W.heap[g]? =some (.cells (xs.flatMap f).toArray ty (0,0))) (hB:B≤g) (hn:xs.length=n) (hm:n≤maxLen):Grow f m (fun _ _=>True) ty B W (.slice (some ⟨g,0,none⟩) n n) xs:=by
 subst hn
 have hl:=D7 hf xs
 refine ⟨⟨hl,.inr ⟨g,xs.length,_,rfl,hB,h,Nat.le_refl _,hm,by simpa using hl,?_⟩⟩,fun x hx _ _=>trivial⟩
 exact List.take_of_length_le (by simpa using Nat.le_of_eq hl)
theorem Iy {α:Type} {f:α→List Value} {m:Nat} (hf: ∀x,(f x).length=m): ∀(xs:List α) (k:Nat) (x x':α) (j:Nat) (u:Value),xs[k]? =some x→j < m→(f x).set j u=f x'→(xs.flatMap f).set (k * m + j) u=(xs.set k x').flatMap f
 | [],_,_,_,_,_,h,_,_=>by simp at h
 | y ::xs,0,x,x',j,u,h,hj,hu=>by
   simp at h; subst h
   rw [Nat.zero_mul,Nat.zero_add,List.flatMap_cons,List.set_append_left _ _ (by rw [hf]; exact hj),hu]; rfl
 | y ::xs,k + 1,x,x',j,u,h,hj,hu=>by
   have ih:=Iy hf xs k x x' j u (by simpa using h) hj hu
   have e:(k + 1) * m + j=m + (k * m + j):=by rw [Nat.add_mul]; omega
   rw [List.flatMap_cons,List.set_append_right _ _ (by rw [hf,e]; omega),hf,e,Nat.add_sub_cancel_left,ih]; rfl
theorem Grow.set {α:Type} {f:α→List Value} {m:Nat} {ty:TypeId} {B:Nat} {w:World} {g n cap k j:Nat} {u:Value} {xs:List α} {x x':α} (hf: ∀x,(f x).length=m) (h:Grow f m (fun _ _=>True) ty B w (.slice (some ⟨g,0,none⟩) n cap) xs) (hk:xs[k]? =some x) (hj:j < m) (hu:(f x).set j u=f x'):
 Grow f m (fun _ _=>True) ty B (w.setCell ⟨g,k * m + j,none⟩ u) (.slice (some ⟨g,0,none⟩) n cap) (xs.set k x'):=by
 refine ⟨⟨by rw [D7 hf,],?_⟩,fun x hx _ _=>trivial⟩
 rcases h.own.2 with ⟨h1,-⟩ | ⟨g',cap',cur,h1,h2,h3,h4,h5,h6,h7⟩
 ·cases h1
 ·injection h1 with e1 e2 e3; injection e1 with e1; injection e1 with e1; subst e1; subst e3; subst e2
  refine .inr ⟨g,cap,cur.setIfInBounds (k * m + j) u,by rw [List.length_set],h2,aR h3 u,by rw [List.length_set]; exact h4,h5,by simpa using h6,?_⟩
  rw [← Iy hf xs k x x' j u hk hj hu,← h7,Array.toList_setIfInBounds,List.length_set,List.take_set]
structure PD (T:Tp) (w1:World) (pb:Nat) (W:World) (vD:Value) (ds:List De):Prop where
 box:W.heap[pb]? =some (.cells #[vD,.slice none 0 0] 26 (0,0))
 gd:rU (pb + 1) W vD ds
 ok: ∀d ∈ ds,d.Ok∧gT d=true
 mi:dx W T
 km:Mk T w1 W
 lt:T.bt < w1.heap.size∧T.bm < w1.heap.size∧T.B0≤w1.heap.size∧w1.heap.size≤pb
section
variable {T:Tp} {w1 W W':World} {pb:Nat} {vD:Value} {ds:List De}
theorem PD.sz (h:PD T w1 pb W vD ds):pb + 1≤W.heap.size:=(Array.getElem?_eq_some_iff.1 h.box).1
theorem PD.go (h:PD T w1 pb W vD ds) (hM:Mk T W W') (hI:dx W' T):PD T w1 pb W' vD ds where
 box:=(hM.block pb h.sz (by have:=h.lt; omega) (by have:=h.lt; omega)).trans h.box
 gd:=h.gd.next (hM.xY (by have:=h.lt; omega) (by have:=h.lt; omega))
 ok:=h.ok
 mi:=hI
 km:=h.km.trans hM
 lt:=h.lt
theorem PD.put {Cm:Value} {ds':List De} (h:PD T w1 pb W vD ds) (hg:rU (pb + 1) W Cm ds') (hok: ∀d ∈ ds',d.Ok∧gT d=true):PD T w1 pb (W.setCell ⟨pb,0,none⟩ Cm) Cm ds' where
 box:=by rw [aR h.box]; rfl
 gd:=hg.next (bC _ _ _ (Nat.lt_succ_self _))
 ok:=hok
 mi:=h.mi.set _ _ (by have:=h.lt; show T.B0≤pb; omega) (by have:=h.lt; show pb≠_; omega) (by have:=h.lt; show pb≠_; omega)
 km:=h.km.set _ _ (by have:=h.lt; show _≤pb; omega)
 lt:=h.lt
theorem PD.put' {v0 Cm:Value} {ds':List De} (hb:W.heap[pb]? =some (.cells #[v0,.slice none 0 0] 26 (0,0))) (mi:dx W T) (km:Mk T w1 W) (lt:T.bt < w1.heap.size∧T.bm < w1.heap.size∧T.B0≤w1.heap.size∧w1.heap.size≤pb) (hg:rU (pb + 1) W Cm ds') (hok: ∀d ∈ ds',d.Ok∧gT d=true):PD T w1 pb (W.setCell ⟨pb,0,none⟩ Cm) Cm ds' where
 box:=by rw [aR hb]; rfl
 gd:=hg.next (bC _ _ _ (Nat.lt_succ_self _))
 ok:=hok
 mi:=mi.set _ _ (by show T.B0≤pb; omega) (by show pb≠_; omega) (by show pb≠_; omega)
 km:=km.set _ _ (by show _≤pb; omega)
 lt:=lt
theorem PD.line {k:Nat} {d:De} {l:Int} {g n cap:Nat} (h:PD T w1 pb W (.slice (some ⟨g,0,none⟩) n cap) ds) (hk:ds[k]? =some d) (hl:aV l):PD T w1 pb (W.setCell ⟨g,k * 6 + 1,none⟩ (.int .i64 l)) (.slice (some ⟨g,0,none⟩) n cap) (ds.set k {d with line:=l}) where
 box:=(aM W _ _ rfl (by have:=(h.gd.lt g rfl).1; show g≠_; omega)).trans h.box
 gd:=h.gd.set yE hk (by decide) rfl
 ok:=fun x hx=>by
  rcases List.mem_or_eq_of_mem_set hx with hx | rfl
  ·exact h.ok x hx
  ·have:=h.ok d (List.mem_of_getElem? hk)
   exact ⟨⟨this.1.1,hl,this.1.2.2⟩,this.2⟩
 mi:=h.mi.set _ _ (by have:=h.lt; have:=(h.gd.lt g rfl).1; show T.B0≤g; omega) (by have:=h.lt; have:=(h.gd.lt g rfl).1; show g≠_; omega) (by have:=h.lt; have:=(h.gd.lt g rfl).1; show g≠_; omega)
 km:=h.km.set _ _ (by have:=h.lt; have:=(h.gd.lt g rfl).1; show _≤g; omega)
 lt:=h.lt
theorem PD.Mr {l:Int} (h:PD T w1 pb W vD ds) (hl:aV l):PD T w1 pb (W.setCell ⟨T.bm,1,none⟩ (.int .i64 l)) vD ds:=
 h.go ((Mk.refl T W).JR _ _) (h.mi.line hl)
theorem PD.size_le (h:PD T w1 pb W vD ds): ∀k,vD.ownBlock=some k→k < W.heap.size:=fun k hk=>(h.gd.lt k hk).2
end
def gF:Array Value:= #[.string ⟨#[116]⟩,.string ⟨#[117]⟩,.string ⟨#[119]⟩,.string ⟨#[122]⟩,.string ⟨#[122,53]⟩]
theorem WL:zM 5 gF:=fun j hj=>by
 have:j=0∨j=1∨j=2∨j=3∨j=4:=by omega
 rcases this with rfl | rfl | rfl | rfl | rfl <;> exact ⟨_,rfl,by unfold maxLen; decide,by rfl⟩
def WB:Nat:=1000000000000
def ShT (t:Th):Prop:=Tk.dQ t.nm.data.toList=true∧(∀s ∈ t.cB,Tk.dQ s.data.toList=true)∧vF WB t.body∧t.cB.length≤10
structure PI (T:Tp) (w1:World) (pb nb:Nat) (W:World) (vD:Value) (ds:List De) (vT:Value) (kP:List gY):Prop where
 box:W.heap[pb]? =some (.cells #[vD,vT] 26 (0,0))
 nms:W.heap[nb]? =some (.cells gF 9 (0,0))
 gd:rU (pb + 1) W vD ds
 Qj: ∀k,vD.ownBlock=some k→k < nb
 gt:vE (nb + 1) W vT kP
 Lb: ∀d ∈ ds,d.Ok∧gT d=true
 J3: ∀x ∈ kP,(x.t.Ok∧x.t.cB.length≤x.dG)∧ShT x.t
 mi:dx W T
 km:Mk T w1 W
 lt:T.bt < w1.heap.size∧T.bm < w1.heap.size∧T.B0≤w1.heap.size∧w1.heap.size≤pb∧pb < nb
section
variable {T:Tp} {w1 W W':World} {pb nb:Nat} {vD vT:Value} {ds:List De} {kP:List gY}
theorem PD.pi (h:PD T w1 pb W vD ds):PI T w1 pb W.heap.size (W.alloc (.cells gF 9)) vD ds (.slice none 0 0) [] where
 box:=(ah W (.cells gF 9)).block pb h.sz |>.trans h.box
 nms:=heap_alloc_new _ _
 gd:=h.gd.next (aK (ah _ _))
 Qj:=h.size_le
 gt:=Grow.nil _ _ _ _ _ _
 Lb:=h.ok
 J3:=by simp
 mi:=h.mi.below (ah _ _)
 km:=h.km.trans (Mk.of_below (ah _ _))
 lt:=⟨h.lt.1,h.lt.2.1,h.lt.2.2.1,h.lt.2.2.2,h.sz⟩
theorem PI.sz (h:PI T w1 pb nb W vD ds vT kP):nb + 1≤W.heap.size:=(Array.getElem?_eq_some_iff.1 h.nms).1
theorem PI.go (h:PI T w1 pb nb W vD ds vT kP) (hM:Mk T W W') (hI:dx W' T):PI T w1 pb nb W' vD ds vT kP where
 box:=(hM.block pb (by have:=h.sz; have:=h.lt; omega) (by have:=h.lt; omega) (by have:=h.lt; omega)).trans h.box
 nms:=(hM.block nb h.sz (by have:=h.lt; omega) (by have:=h.lt; omega)).trans h.nms
 gd:=h.gd.next (hM.xY (by have:=h.lt; omega) (by have:=h.lt; omega))
 Qj:=h.Qj
 gt:=h.gt.next (hM.xY (by have:=h.lt; omega) (by have:=h.lt; omega))
 Lb:=h.Lb
 J3:=h.J3
 mi:=hI
 km:=h.km.trans hM
 lt:=h.lt
theorem PI.Mr {l:Int} (h:PI T w1 pb nb W vD ds vT kP) (hl:aV l):PI T w1 pb nb (W.setCell ⟨T.bm,1,none⟩ (.int .i64 l)) vD ds vT kP:=
 h.go ((Mk.refl T W).JR _ _) (h.mi.line hl)
theorem PI.push {x:gY} {g cap n:Nat} (h:PI T w1 pb nb W vD ds vT kP) (hx:dW (nb + 1) vT.ownBlock W (gY.I x)) (hok:(x.t.Ok∧x.t.cB.length≤x.dG)∧ShT x.t) (hn:n=kP.length + 1) (hown:W'.ownsRow (nb + 1) 67 4 (.slice (some ⟨g,0,none⟩) n cap) n (kP.flatMap gY.f++gY.f x)) (hg:W.grownBy W' vT.ownBlock) (hmv:vT.ownBlock=some g∨g=W.heap.size):
 PI T w1 pb nb (W'.setCell ⟨pb,1,none⟩ (.slice (some ⟨g,0,none⟩) n cap)) vD ds (.slice (some ⟨g,0,none⟩) n cap) (kP++[x]):=by
 have hb:Below (nb + 1) W W':=lX hg (fun k hk=>(h.gt.lt k hk).1) h.sz
 have hbx:W'.heap[pb]? =some (.cells #[vD,vT] 26 (0,0)):=(hb.block pb (by have:=h.lt; omega)).trans h.box
 refine ⟨by rw [aR hbx]; rfl,(aM W' _ _ rfl (by have:=h.lt; show pb≠_; omega)).trans ((hb.block nb (Nat.lt_succ_self _)).trans h.nms),?_,h.Qj,?_,h.Lb,?_,?_,?_,h.lt⟩
 ·refine (h.gd.Ef (w':=W') (g:=vT.ownBlock) (mO.vS hg) (fun k hk e=> ?_)).next (bC _ _ _ (Nat.lt_succ_self _))
  have:=h.Qj k hk; have:=(h.gt.lt k e.symm).1; omega
 ·exact (h.gt.push hx hn hown hg hmv).next (bC _ _ _ (by have:=h.lt; show pb < _; omega))
 ·intro y hy
  rcases List.mem_append.1 hy with hy | hy
  ·exact h.J3 y hy
  ·rw [List.mem_singleton.1 hy]; exact hok
 ·exact (h.mi.uS hb (by have:=h.lt; omega) (by have:=h.lt; omega) (by have:=h.lt; omega)).set _ _ (by have:=h.lt; show T.B0≤pb; omega) (by have:=h.lt; show pb≠_; omega) (by have:=h.lt; show pb≠_; omega)
 ·exact (h.km.Dt (hb.mono (by have:=h.lt; omega))).set _ _ (by have:=h.lt; show _≤pb; omega)
end
structure TI (T:Tp) (W0:World) (tb:Nat) (W:World) (nm:ByteArray) (line:Int) (vL:Value) (cB:List ByteArray) (vB:Value):Prop where
 box:W.heap[tb]? =some (.cells #[.string nm,.int .i64 line,vL,vB] 67 (0,0))
 gl:vW W0.heap.size W vL cB
 ne: ∀k,vL.ownBlock=some k→k≠tb
 ok:ny nm∧aV line∧(∀s ∈ cB,ny s)∧cB.length≤10
 mi:dx W T
 km:Mk T W0 W
 lt:T.bt < W0.heap.size∧T.bm < W0.heap.size∧T.B0≤W0.heap.size∧W0.heap.size≤tb
section
variable {T:Tp} {W0 W W':World} {tb:Nat} {nm:ByteArray} {line:Int} {vL vB:Value} {cB:List ByteArray}
theorem TI.sz (h:TI T W0 tb W nm line vL cB vB):tb + 1≤W.heap.size:=(Array.getElem?_eq_some_iff.1 h.box).1
theorem TI.go (h:TI T W0 tb W nm line vL cB vB) (hM:Mk T W W') (hI:dx W' T):TI T W0 tb W' nm line vL cB vB where
 box:=(hM.block tb h.sz (by have:=h.lt; omega) (by have:=h.lt; omega)).trans h.box
 gl:=h.gl.next (hM.xY (by have:=h.lt; omega) (by have:=h.lt; omega))
 ne:=h.ne
 ok:=h.ok
 mi:=hI
 km:=h.km.trans hM
 lt:=h.lt
theorem CQ {B:Nat} (w:World) (a:Addr) (v:Value):mO B (some a.block) w (w.setCell a v):=mO.vS (bU w a v)
theorem TI.name {s:ByteArray} (h:TI T W0 tb W nm line vL cB vB) (hs:ny s):TI T W0 tb (W.setCell ⟨tb,0,none⟩ (.string s)) s line vL cB vB where
 box:=by rw [aR h.box]; rfl
 gl:=h.gl.Ef (CQ _ _ _) (fun k hk e=>h.ne k hk (by injection e))
 ne:=h.ne
 ok:=⟨hs,h.ok.2⟩
 mi:=h.mi.set _ _ (by have:=h.lt; show T.B0≤tb; omega) (by have:=h.lt; show tb≠_; omega) (by have:=h.lt; show tb≠_; omega)
 km:=h.km.set _ _ h.lt.2.2.2
 lt:=h.lt
theorem TI.body {v:Value} (h:TI T W0 tb W nm line vL cB vB):TI T W0 tb (W.setCell ⟨tb,3,none⟩ v) nm line vL cB v where
 box:=by rw [aR h.box]; rfl
 gl:=h.gl.Ef (CQ _ _ _) (fun k hk e=>h.ne k hk (by injection e))
 ne:=h.ne
 ok:=h.ok
 mi:=h.mi.set _ _ (by have:=h.lt; show T.B0≤tb; omega) (by have:=h.lt; show tb≠_; omega) (by have:=h.lt; show tb≠_; omega)
 km:=h.km.set _ _ h.lt.2.2.2
 lt:=h.lt
theorem TI.kV {v0 Qn:Value} {kV:List ByteArray} (hb:W.heap[tb]? =some (.cells #[.string nm,.int .i64 line,v0,vB] 67 (0,0))) (hg:vW W0.heap.size W Qn kV) (hne: ∀k,Qn.ownBlock=some k→k≠tb) (hok:ny nm∧aV line∧(∀s ∈ kV,ny s)∧kV.length≤10) (mi:dx W T) (km:Mk T W0 W) (lt:T.bt < W0.heap.size∧T.bm < W0.heap.size∧T.B0≤W0.heap.size∧W0.heap.size≤tb):
 TI T W0 tb (W.setCell ⟨tb,2,none⟩ Qn) nm line Qn kV vB where
 box:=by rw [aR hb]; rfl
 gl:=hg.Ef (CQ _ _ _) (fun k hk e=>hne k hk (by injection e))
 ne:=hne
 ok:=hok
 mi:=mi.set _ _ (by show T.B0≤tb; omega) (by show tb≠_; omega) (by show tb≠_; omega)
 km:=km.set _ _ lt.2.2.2
 lt:=lt
end
theorem Vz:(Tryz.prog.info? 67).map (fun i=>(i.zero,i.size,i.bytes))=some (some (.agg #[.string ⟨#[]⟩,.int .i64 0,.slice none 0 0,.slice none 0 0]),4,72):=by kernel_rfl
theorem Vr: ∃i0,Tryz.prog.info? 67=some i0∧i0.zero=some (.agg #[.string ⟨#[]⟩,.int .i64 0,.slice none 0 0,.slice none 0 0])∧i0.size=4∧i0.bytes=72:=info_parts Vz
theorem VA:(Tryz.prog.info? 67).map (·.size)=some 4:=by kernel_rfl
theorem Vb (x:gY): ∀u ∈ gY.f x,u.oneCell'=true:=by
 intro u hu; simp [gY.f] at hu
 rcases hu with rfl | rfl | rfl | rfl <;> rfl
theorem Va:(Tryz.prog.info? 9).map (fun i=>(i.zero,i.size,i.bytes))=some (some (.string ⟨#[]⟩),1,16):=by kernel_rfl
theorem VN: ∃i0,Tryz.prog.info? 9=some i0∧i0.zero=some (.string ⟨#[]⟩)∧i0.size=1∧i0.bytes=16:=info_parts Va
end Go.Proofs.YtehnipchbmjlhaaGreatDoor
end
section
set_option linter.unusedSimpArgs false
set_option linter.unusedVariables false
namespace Go.Proofs.YtehnipchbmjlhaaGreatDoor
open Go.RowKit
open Md
def WtP (p:Pr):Prop:=p.ds.length≤1000∧ ∀t ∈ p.ts,t.cB.length≤10∧jw t.body≤WB
theorem wb2 {q:Nat} (h:q≤54):((q:Int)).toNat * GS ((2:Int)).toNat≤WB:=by
 have e:GS ((2:Int)).toNat=162000:=rfl
 rw [e,Int.toNat_natCast]; unfold WB; omega
theorem wb7 {q:Nat} (h:q≤54):((q:Int)).toNat * GS ((7:Int)).toNat≤WB:=by
 have e:GS ((7:Int)).toNat=9565938000:=rfl
 rw [e,Int.toNat_natCast]; unfold WB; omega
def LsP (w:World) (e':Ending) (w':World):Prop:= ∃(p:Pr) (bq bQ:Option Addr) (bg bn:Nat),e'= .returned (.agg #[.slice bq p.ds.length bg,.slice bQ p.ts.length bn])∧p.At w' bq bQ∧p.ds.length≤bg∧p.ts.length≤bn∧(sZ p=true∧p.ts.length≤5∧WtP p)∧Below w.heap.size w w'
def zTh:Array Value:= #[.string ⟨#[]⟩,.int .i64 0,.slice none 0 0,.slice none 0 0]
def Cg:List ByteArray:=[⟨#[97]⟩,⟨#[98]⟩]
def Xr:Array Value:= #[.string ⟨#[97]⟩,.string ⟨#[120]⟩,.string ⟨#[116]⟩,.string ⟨#[107]⟩]
theorem Xn:zM 4 Xr:=fun j hj=>by
 have:j=0∨j=1∨j=2∨j=3:=by omega
 rcases this with rfl | rfl | rfl | rfl <;> exact ⟨_,rfl,by unfold maxLen; decide,by rfl⟩
def Tv:List ByteArray:=[⟨#[97]⟩,⟨#[98]⟩,⟨#[107]⟩,⟨#[107,49]⟩,⟨#[107,50]⟩]
theorem Wm: ∀s ∈ Tv,ny s:=by
 intro s hs
 simp only [Tv,List.mem_cons,List.not_mem_nil,or_false] at hs
 rcases hs with rfl | rfl | rfl | rfl | rfl <;> exact ⟨by unfold maxLen; decide,by rfl⟩
theorem OJ: ∀s ∈ Cg,ny s:=by
 intro s hs
 simp only [Cg,List.mem_cons,List.not_mem_nil,or_false] at hs
 rcases hs with rfl | rfl <;> exact ⟨by unfold maxLen; decide,by rfl⟩
set_option maxHeartbeats 8000000 in
set_option maxRecDepth 100000 in
theorem Oq (w:World) (zs:List Int) (ao:Option Addr) (cap:Nat) (hz:Ac w w.heap.size zs ao) (hl:zs.length≤9223372036854775807):
 Calls Tryz.prog 9 #[.slice ao zs.length cap] w (LsP w):=by
 have HZ:=Lib.hid hz
 clear hz
 go_enter Tryz.func9,Tryz.ntmps9
 go_upto_region 3 with fail
 obtain ⟨w2,hw2⟩: ∃x,x=((w.alloc (.cells #[.slice none 0 0,.slice none 0 0] 26)).alloc (.cells #[.slice ao zs.length cap,.int .i64 0] 56)).alloc (.cells #[.pointer (some ⟨w.heap.size + 1,0,none⟩),.int .i64 0,.int .i64 (12 + 58 * ((zs.length:Int) % 5 / 4))] 58):=⟨_,rfl⟩
 rw [← hw2]
 obtain ⟨T,e0,e1,e2,e3,e4,e5⟩: ∃T:Tp,T.B0=w.heap.size∧w.heap.size + 1=T.bt∧w.heap.size + 1 + 1=T.bm∧T.ao=ao∧T.cap=cap∧T.zs=zs:=⟨⟨w.heap.size,w.heap.size + 1,w.heap.size + 1 + 1,ao,cap,zs,by omega,by omega,by omega⟩,rfl,rfl,rfl,rfl,rfl,rfl⟩
 obtain ⟨pb,hpb⟩: ∃pb,w.heap.size + 1 + 1 + 1=pb:=⟨_,rfl⟩
 rw [hpb,e2,e1]
 have hsz2:w2.heap.size=pb:=by rw [hw2,← hpb]; simp
 have Qg:Hid (Below w.heap.size w w2):=Lib.hid (by rw [hw2]; exact ((ah _ _).alloc (by simp) _).alloc (by simp <;> omega) _)
 have HR2:Hid (w2.heap[w.heap.size]? =some (.cells #[.slice none 0 0,.slice none 0 0] 26 (0,0))):=Lib.hid (by
  rw [hw2,heap_alloc_old _ _ (by simp <;> omega),heap_alloc_old _ _ (by simp <;> omega)]; exact heap_alloc_new _ _)
 have Cw:Hid (dx w2 T):=Lib.hid (by
  have k1:w2.heap[T.bt]? =some (.cells #[.slice ao zs.length cap,.int .i64 0] 56 (0,0)):=by
   rw [hw2,← e1,heap_alloc_old _ _ (by simp)]
   have:=heap_alloc_new (w.alloc (.cells #[.slice none 0 0,.slice none 0 0] 26)) (.cells #[.slice ao zs.length cap,.int .i64 0] 56)
   simpa using this
  have k2:w2.heap[T.bm]? =some (.cells #[.pointer (some ⟨w.heap.size + 1,0,none⟩),.int .i64 0,.int .i64 (12 + 58 * ((zs.length:Int) % 5 / 4))] 58 (0,0)):=by
   rw [hw2,← e2]
   have:=heap_alloc_new ((w.alloc (.cells #[.slice none 0 0,.slice none 0 0] 26)).alloc (.cells #[.slice ao zs.length cap,.int .i64 0] 56)) (.cells #[.pointer (some ⟨w.heap.size + 1,0,none⟩),.int .i64 0,.int .i64 (12 + 58 * ((zs.length:Int) % 5 / 4))] 58)
   simpa using this
  refine ⟨⟨⟨0,Nat.zero_le _,by rw [k1,e3,e4,e5]; rfl⟩,by rw [e0,e3,e5]; exact HZ.out.below Qg.out,by rw [e5]; exact hl⟩,⟨0,12 + 58 * ((zs.length:Int) % 5 / 4),I4,by omega,by omega,by rw [k2,e1]⟩⟩)
 generalize hW:World.alloc w2 _=W
 have wK:Hid (PD T w2 pb W (.slice none 0 0) []):=Lib.hid (by
  rw [← hW]
  exact ⟨by rw [← hsz2]; exact heap_alloc_new _ _,Grow.nil _ _ _ _ _ _,by simp,Cw.out.below (ah _ _),Mk.of_below (ah _ _),by omega,by omega,by omega,by omega⟩)
 have dh:Hid (T.B0=w.heap.size∧T.bt=w.heap.size + 1∧T.bm=w.heap.size + 2∧pb=w.heap.size + 3∧w2.heap.size=pb):=Lib.hid ⟨e0,e1.symm,by omega,by omega,hsz2⟩
 clear hW hw2 e0 e1 e2 e3 e4 e5 hpb hsz2 HZ Cw
 have c0:=wK.out.mi.ptr
 go_wp2_with fail
 refine (dH T 4 _ (by unfold aV; decide) wK.out.mi).mono ?_
 rintro e w3 ⟨k,rfl,hk0,hk1,hk2,hM,hI⟩
 have F5:=Lib.hid (wK.out.go hM hI)
 clear hM hI hk1 hk2 c0 wK
 go_upto_if 28 with fail
 go_cut [4] (fun s4 W'=>s4= .pointer (some ⟨pb,0,none⟩)∧ ∃vD ds,ds.length≤100∧PD T w2 pb W' vD ds)
 case first=>
  by_cases hk:0 < k
  ·go_wp2_with fail
   refine (NV _).mono ?_
   rintro e w4 ⟨g,rfl,hg,hgc,hb⟩
   have hpg:pb + 1≤g:=Nat.le_trans F5.out.sz hg
   have HPG:=Lib.hid hpg
   have Nh:=Lib.hid (F5.out.go (Mk.of_below hb) (F5.out.mi.below hb))
   have HGC:=Lib.hid hgc
   have y0:w4.cell? ⟨pb,0,none⟩=some (.slice none 0 0):=ak Nh.out.box rfl
   have f0:w4.frozen? ⟨pb,0,none⟩=false:=aD Nh.out.box
   clear hb hgc hg hpg F5
   go_upto_region 5 with fail
   generalize wW:World.setCell w4 _ _=w5
   have jk:Hid (PD T w2 pb w5 (.slice (some ⟨g,0,none⟩) 9 9) Hy):=Lib.hid (by
    rw [← wW]; exact Nh.out.put (Grow.made yE HGC.out HPG.out rfl (by unfold maxLen; decide)) Uu)
   clear wW y0 f0 Nh HGC
   go_wp2_with fail
   go_loopw [5] (fun v5 wr=> ∃(k:Nat) (ds:List De),v5= .int .i64 k∧k≤9∧ds.length=9∧PD T w2 pb wr (.slice (some ⟨g,0,none⟩) 9 9) ds) (fun i _=>9 - (intOf i).toNat)
   case atStart=>exact ⟨0,Hy,rfl,by decide,rfl,jk.out⟩
   case round=>
    obtain ⟨k,ds,rfl,hk9,hds,hp⟩:=hrel
    have HP:=Lib.hid hp
    have Y4:=Lib.hid hds
    have y0:wr.cell? ⟨pb,0,none⟩=some (.slice (some ⟨g,0,none⟩) 9 9):=ak hp.box rfl
    obtain ⟨line,left,hl1,hl2,hl3,hblk⟩:=hp.mi.vw
    have c1:wr.cell? ⟨T.bm,1,none⟩=some (.int .i64 line):=(cZ hblk (j:=1) rfl).2
    have f1:wr.frozen? ⟨T.bm,1,none⟩=false:=aD hblk
    clear hp hds hblk hl1 hl2 hl3
    by_cases hlt:k < 9
    ·go_upto_region 9 with fail
     generalize OG:World.setCell wr _ _=wl
     have LQ:Hid (PD T w2 pb wl (.slice (some ⟨g,0,none⟩) 9 9) ds):=Lib.hid (by rw [← OG]; exact HP.out.Mr (zy _))
     clear OG c1 f1 y0 HP
     have y0:wl.cell? ⟨pb,0,none⟩=some (.slice (some ⟨g,0,none⟩) 9 9):=ak LQ.out.box rfl
     obtain ⟨l,c1,yI⟩:=LQ.out.mi.ln
     have NU:=Lib.hid yI
     obtain ⟨d,hd⟩: ∃d,ds[k]? =some d:=⟨_,List.getElem?_eq_getElem (by rw [Y4.out]; exact hlt)⟩
     have HD:=Lib.hid hd
     have hcl:=(LQ.out.gd.cells yE wl (fM.refl _ _)).2
     have yl: ∃z,wl.cell? ⟨g,k * 6 + 1,none⟩=some z:=by
      obtain ⟨gM,cap',e',-,hc⟩:=hcl
      injection e' with q1 q2 q3; subst q1
      obtain ⟨g',h1,-,-,h4⟩:=hc k d hd
      injection h1 with h1; injection h1 with h1; subst h1
      exact ⟨_,h4 1 _ rfl⟩
     obtain ⟨z,yl⟩:=yl
     have fl:wl.frozen? ⟨g,k * 6 + 1,none⟩=false:=by
      rcases LQ.out.gd.own.2 with ⟨h1,-⟩ | ⟨g',cap',cur,h1,-,h3,-⟩
      ·cases h1
      ·injection h1 with h1; injection h1 with h1; injection h1 with h1; subst h1; exact aD h3
     have hb0:(0:Int)≤(k:Int):=by omega
     have hb1:(k:Int) < 9:=by omega
     clear yI hd hcl
     refine eG (by kernel_rfl) rfl ?_
     refine dS 0 9 [] [[],[0],[],[],[3],[3,4],[3,4,5],[0,1,2,3,4,5,6],[0,1,2,3,4,5,6,7],[0,1,2,3,4,5,6,7,8]] [[],[],[],[],[],[],[],[],[]] (fun _ w'=>w'=wl.drewN 1) (fun w w'=>w=w') [45,46,47,48,49,50,51,52,53] rfl rfl (by rfl) (by kernel_rfl) (by kernel_rfl) (by kernel_rfl) (by kernel_rfl) (by kernel_rfl) (by rfl) (fun _=>rfl) (by rfl) rfl ?_
     simp only [List.take_succ_cons,List.take_zero,List.drop_zero,List.drop_succ_cons,jW,List.map_cons,List.map_nil]
     apply aG.step
     case aF=>
      intro c A w' hok hC hO hD
      have e4:=hO 4 (by rfl)
      simp [Act.eval] at e4
      simp [aC,aB,au,Act.eval,Region.binds] at hD
      simp [go_sem,gd,Oper.wp,hD,e4]
      exact aA.mk rfl hC (aB.mk _ _)
     apply aG.step
     case aF=>
      intro c A w' hok hC hO hD
      simp [aC,aB,au,Act.eval,Region.binds] at hD
      simp [go_sem,gd,Oper.wp,hD,hC,y0]
      exact aA.mk rfl rfl (aB.mk _ _)
     apply aG.step
     case aF=>
      intro c A w' hok hC hO hD
      have e5:=hO 5 (by rfl)
      simp [Act.eval] at e5
      simp [aC,aB,au,Act.eval,Region.binds] at hD
      simp [go_sem,gd,Oper.wp,hD,e5]
      exact aA.mk rfl hC (aB.mk _ _)
     simp only [List.nil_append,List.cons_append]
     apply aG.step
     case aF=>
      intro c A w' hok hC hO hD
      have e3:=hO 3 (by rfl)
      simp [Act.eval] at e3
      simp [aC,aB,au,Act.eval,Region.binds] at hD
      simp [go_sem,gd,Oper.wp,hD,e3]
      exact aA.mk rfl hC (aB.mk _ _)
     apply aG.step
     case aF=>
      intro c A w' hok hC hO hD
      simp [aC,aB,au,Act.eval,Region.binds] at hD
      simp [go_sem,gd,Oper.wp,hD]
      exact aA.mk rfl hC (aB.mk _ _)
     apply aG.step
     case aF=>
      intro c A w' hok hC hO hD
      simp [aC,aB,au,Act.eval,Region.binds] at hD
      simp [go_sem,gd,Oper.wp,hD]
      exact aA.mk rfl hC (aB.mk _ _)
     simp only [List.nil_append,List.cons_append]
     apply aG.step
     case aF=>
      intro c A w' hok hC hO hD
      simp [aC,aB,au,Act.eval,Region.binds] at hD
      simp [go_sem,gd,Oper.wp,hD,hC,c1]
      exact aA.mk rfl rfl (aB.mk _ _)
     apply aG.step
     case aF=>
      intro c A w' hok hC hO hD
      simp [aC,aB,au,Act.eval,Region.binds] at hD
      simp [go_sem,gd,Oper.wp,hD,hb0,hb1]
      exact aA.mk rfl hC (aB.mk _ _)
     apply aG.step
     case aF=>
      intro c A w' hok hC hO hD
      simp [aC,aB,au,Act.eval,Region.binds] at hD
      simp [go_sem,gd,Oper.wp,hD]
      exact aA.mk rfl hC (aB.mk _ _)
     try simp only [List.nil_append,List.cons_append]
     refine aG.done ?_
     intro wz fT
     try simp only [List.drop_zero,List.drop_succ_cons]
     intro v0 h0 v1 h1 v2 h2 v3 h3 v4 h4 v5 h5 v6 h6 v7 h7 v8 h8
     have h6':=Eq.symm (show v6=_ from h6)
     subst h6'
     have h8':=Eq.symm (show v8=_ from h8)
     subst h8'
     clear h0 h1 h2 h3 h4 h5 h6 h7 h8
     refine dU.nil ?_
     go_simp
     refine iW 9 [[],[0],[],[],[3],[3,4],[3,4,5],[0,1,2,3,4,5,6],[0,1,2,3,4,5,6,7],[0,1,2,3,4,5,6,7,8]] rfl rfl rfl rfl rfl (by kernel_rfl) (by kernel_rfl) (by kernel_rfl) ?_
     subst fT
     simp [go_sem,Oper.wp,yl,fl]
     refine fU rfl ?_
     have Aa:=Lib.hid ((LQ.out.go (Mk.of_below (below_drewN (Below.refl _ _) 1)) (LQ.out.mi.below (below_drewN (Below.refl _ _) 1))).line HD.out NU.out)
     clear yl fl c1 y0
     go_simp
     go_wp2_with fail
     go_roundw
     case rel=>exact ⟨k + 1,_,by go_num,by omega,by simpa using Y4.out,Aa.out⟩
     case measure=>simp [intOf]; omega
    ·have hk:k=9:=by omega
     subst hk
     go_wp2_with fail
     go_meet
     exact ⟨rfl,_,ds,by rw [Y4.out]; decide,HP.out⟩
  ·have aj8:k=0:=by omega
   subst aj8
   go_wp2_with fail
   go_meet
   exact ⟨rfl,_,[],by decide,F5.out⟩
 obtain ⟨rfl,vD,ds,hds,hp⟩:=hcut
 obtain ⟨wa,rfl⟩: ∃W:World,W=wc:=⟨_,rfl⟩
 have E9:=Lib.hid hp
 have XT:=Lib.hid hds
 clear hp hds F5 hk0
 have c0:=E9.out.mi.ptr
 go_wp2_with fail
 refine (dH T 8 _ (by unfold aV; decide) E9.out.mi).mono ?_
 rintro e w4 ⟨k,rfl,hk0,hk1,hk2,hM,hI⟩
 have Wd:k < 8:=hk1 (by decide)
 have PL:=Lib.hid (E9.out.go hM hI)
 clear hM hI hk1 hk2 c0 E9
 go_wp2_with fail
 go_loopw [6] (fun v6 wr=> ∃(k:Int) (vD:Value) (ds:List De),v6= .int .i64 k∧ -4≤k∧k≤3∧(ds.length:Int) + k≤103∧ds.length≤107∧PD T w2 pb wr vD ds) (fun i _=>(intOf i).toNat)
 case atStart=>exact ⟨k - 4,vD,ds,rfl,by omega,by omega,by have:=XT.out; omega,by have:=XT.out; omega,PL.out⟩
 case round=>
  clear PL XT hk0 Wd ds vD
  obtain ⟨k,vD,ds,rfl,hk4,hk3,hdk,hdl,hp⟩:=hrel
  have HP:=Lib.hid hp
  have HDK:=Lib.hid hdk
  have Tf:=Lib.hid hdl
  clear hp hdk hdl
  by_cases hk:0 < k
  ·go_upto_region 13 with fail
   have hd1:Mk T wr (wr.drewN 1):=Mk.of_below (below_drewN (Below.refl _ _) 1)
   have hd2:dx (wr.drewN 1) T:=HP.out.mi.below (below_drewN (Below.refl _ _) 1)
   have LC:Hid (T.bt < pb∧T.bm < pb):=Lib.hid (by have:=HP.out.lt; omega)
   have HWZ:Hid (pb + 1≤wr.heap.size):=Lib.hid HP.out.sz
   have Y0: ∀w',Mk T wr w'→w'.cell? ⟨pb,0,none⟩=some vD:=fun w' h=>ak ((h.block pb HWZ.out (by have:=LC.out; omega) (by have:=LC.out; omega)).trans HP.out.box) rfl
   refine eG (by kernel_rfl) rfl ?_
   refine dS 0 5 [] [[],[0],[],[2],[2,3],[0,1,2,3,4],[0,1,2,3,4,5],[0,1,2,3,4,5,6]] [[],[],[],[],[]] (fun _ w'=>Mk T wr w'∧dx w' T) (fun w w'=>Mk T w w') [64,65,66,67,68] rfl rfl (by rfl) (by kernel_rfl) (by kernel_rfl) (by kernel_rfl) (by kernel_rfl) (by kernel_rfl) (by rfl) (fun _=>Mk.refl _ _) (by rfl) ⟨hd1,hd2⟩ ?_
   simp only [List.take_succ_cons,List.take_zero,List.drop_zero,List.drop_succ_cons,jW,List.map_cons,List.map_nil]
   apply aG.step
   case aF=>
    intro c A w' hok hC hO hD
    have e4:=hO 4 (by rfl)
    simp [Act.eval] at e4
    simp [aC,aB,au,Act.eval,Region.binds] at hD
    simp [go_sem,gd,Oper.wp,hD,e4]
    exact aA.mk (Mk.refl _ _) hC (aB.mk _ _)
   apply aG.step
   case aF=>
    intro c A w' hok hC hO hD
    simp [aC,aB,au,Act.eval,Region.binds] at hD
    simp [go_sem,gd,Oper.wp,hD,Y0,hC.1]
    exact aA.mk (Mk.refl _ _) hC (aB.mk _ _)
   apply aG.step
   case aF=>
    intro c A w' hok hC hO hD
    have e3:=hO 3 (by rfl)
    simp [Act.eval] at e3
    simp [aC,aB,au,Act.eval,Region.binds] at hD
    simp [go_sem,gd,Oper.wp,hD,e3]
    exact aA.mk (Mk.refl _ _) hC (aB.mk _ _)
   simp only [List.nil_append,List.cons_append]
   refine aG.some (fun v _=> ∃d,v=KJ d∧(d.Ok∧gT d=true)) (fun _ _ _ _ h=>h) ?_ ?_
   ·intro c A w' hok hC hO hD
    simp [aC,aB,au,Act.eval,Region.binds] at hD
    simp [go_sem,gd,Oper.wp,hD]
    refine (Rl T w' hC.2).mono ?_
    rintro e w3 ⟨d,rfl,h1,h2,h3⟩
    exact aA.mk h2 ⟨hC.1.trans h2,h3⟩ ⟨d,rfl,h1⟩
   refine aG.some (fun v w'=> ∃(bb:Nat) (d:De),v= .slice (some ⟨bb,0,none⟩) 1 1∧pb + 1≤bb∧w'.heap[bb]? =some (.cells (ig d).toArray 62 (0,0))∧(d.Ok∧gT d=true)) ?_ ?_ ?_
   ·rintro v w1 w' hle ⟨g,d,h1,h2,h3,h4⟩
    exact ⟨g,d,h1,h2,(hle.block g (Array.getElem?_eq_some_iff.1 h3).1 (by have:=LC.out; omega) (by have:=LC.out; omega)).trans h3,h4⟩
   ·intro c A w' hok hC hO hD
    simp [aC,aB,au,Act.eval,Region.binds] at hD
    obtain ⟨d,hd,hok1,hok2⟩:=hD
    unfold KJ at hd
    simp [go_sem,gd,Oper.wp,hd]
    exact aA.mk (d:=_) (v:= .slice (some ⟨_,0,none⟩) 1 1) (Mk.of_below (ah _ _)) ⟨hC.1.trans (Mk.of_below (ah _ _)),hC.2.below (ah _ _)⟩ ⟨_,rfl,Nat.le_trans HWZ.out hC.1.size,d,heap_alloc_new _ _,hok1,hok2⟩
   try simp only [List.nil_append,List.cons_append]
   refine aG.done ?_
   intro wz fT
   try simp only [List.drop_zero,List.drop_succ_cons]
   intro v0 h0 v1 h1 v2 h2 v3 h3 v4 h4
   have h0':=Eq.symm (show v0=_ from h0)
   subst h0'
   have h1':=Eq.symm (show v1=_ from h1)
   subst h1'
   have h2':=Eq.symm (show v2=_ from h2)
   subst h2'
   clear h0 h1 h2 h3
   obtain ⟨bb,d,rfl,hbb,hcell,Ak⟩:=h4
   clear hd1 hd2 Y0
   refine dU.nil ?_
   go_simp
   refine iW 5 [[],[0],[],[2],[2,3],[0,1,2,3,4],[0,1,2,3,4,5],[0,1,2,3,4,5,6]] rfl rfl rfl rfl rfl (by kernel_rfl) (by kernel_rfl) (by kernel_rfl) ?_
   obtain ⟨i0,hi0,hz0,hz1,hz2⟩:=VI
   have Aa:=Lib.hid (HP.out.go fT.1 fT.2)
   have VZ:=Lib.hid Ak
   have hkl:ds.length + 1≤maxLen:=by have:=Tf.out; unfold maxLen; omega
   have hkb:(ds.length + 1) * 64≤140737488355328:=by have:=Tf.out; omega
   refine wp_append_lies wz _ _ _ (by rfl) (pb + 1) 62 i0 _ 6 64 Tryz.underlying23 hi0 hz0 hz1 hz2 (by rfl) (by omega) vD ds.length (ds.flatMap ig) (by rfl) Aa.out.gd.own ⟨bb,0,none⟩ 1 1 (ig d) (by rfl) (by rfl) (mI hcell) (Uy d) (by decide) hkl hkb Aa.out.sz _ rfl ?_
   intro g' cap' w5 hown hgr hmv hlt
   clear hi0 hz0 hz1 hz2 hcell fT hbb Ak hkl hkb
   have Bl:=Lib.hid (Aa.out.gd.push (x:=d) (fun _ _=>trivial) rfl hown hgr hmv)
   have jg:Hid (Below (pb + 1) wz w5):=Lib.hid (lX hgr (fun k hk=>(Aa.out.gd.lt k hk).1) Aa.out.sz)
   have HO5:Hid (∀x ∈ ds++[d],x.Ok∧gT x=true):=Lib.hid (fun x hx=>by
    rcases List.mem_append.1 hx with hx | hx
    ·exact HP.out.ok x hx
    ·rw [List.mem_singleton.1 hx]; exact VZ.out)
   clear hown hgr hmv hlt
   have eY:Hid (w5.heap[pb]? =some (.cells #[vD,.slice none 0 0] 26 (0,0))):=Lib.hid ((jg.out.block pb (Nat.lt_succ_self _)).trans Aa.out.box)
   have jE:=Lib.hid (PD.put' (ds':=ds++[d]) eY.out (Aa.out.mi.uS jg.out (by have:=LC.out; omega) (by have:=LC.out; omega) (by have:=HP.out.lt; omega)) (Aa.out.km.Dt (jg.out.mono (by have:=HP.out.lt; omega))) HP.out.lt Bl.out HO5.out)
   have y0:w5.cell? ⟨pb,0,none⟩=some vD:=ak eY.out rfl
   have f0:w5.frozen? ⟨pb,0,none⟩=false:=aD eY.out
   clear eY Bl jg HO5 Aa
   go_simp
   refine dS 6 7 [] [[],[0],[],[2],[2,3],[0,1,2,3,4],[0,1,2,3,4,5],[0,1,2,3,4,5,6]] [[]] (fun _ w'=>w'=w5) (fun w w'=>w=w') [70] rfl rfl (by rfl) (by kernel_rfl) (by kernel_rfl) (by kernel_rfl) (by kernel_rfl) (by kernel_rfl) (by rfl) (fun _=>rfl) (by rfl) rfl ?_
   simp only [List.take_succ_cons,List.take_zero,List.drop_zero,List.drop_succ_cons,jW,List.map_cons,List.map_nil]
   apply aG.step
   case aF=>
    intro c A w' hok hC hO hD
    have e4:=hO 4 (by rfl)
    simp [Act.eval] at e4
    simp [aC,aB,au,Act.eval,Region.binds] at hD
    simp [go_sem,gd,Oper.wp,hD,e4]
    exact aA.mk rfl hC (aB.mk _ _)
   try simp only [List.nil_append,List.cons_append]
   refine aG.done ?_
   intro wz fT
   try simp only [List.drop_zero,List.drop_succ_cons]
   intro v0 h0
   have h0':=Eq.symm (show v0=_ from h0)
   subst h0'
   clear h0
   refine dU.nil ?_
   go_simp
   refine iW 7 [[],[0],[],[2],[2,3],[0,1,2,3,4],[0,1,2,3,4,5],[0,1,2,3,4,5,6]] rfl rfl rfl rfl rfl (by kernel_rfl) (by kernel_rfl) (by kernel_rfl) ?_
   subst fT
   simp [go_sem,Oper.wp,y0,f0]
   refine fU rfl ?_
   clear y0 f0
   go_simp
   go_wp2_with fail
   go_roundw
   case rel=>exact ⟨k - 1,_,ds++[d],rfl,by omega,by omega,by have:=HDK.out; simp; omega,by have:=HDK.out; simp; omega,jE.out⟩
   case measure=>simp [intOf]; omega
  ·go_upto_region 15 with fail
   obtain ⟨nb,hnb⟩: ∃nb,wr.heap.size=nb:=⟨_,rfl⟩
   generalize hWN:World.alloc wr _=wn
   have TH:Hid (PI T w2 pb nb wn vD ds (.slice none 0 0) []):=Lib.hid (by rw [← hWN,← hnb]; exact HP.out.pi)
   rw [hnb]
   clear hWN hnb hk4 hk3 hk HP HDK
   have c0:=TH.out.mi.ptr
   go_wp2_with fail
   refine (dH T 3 _ (by unfold aV; decide) TH.out.mi).mono ?_
   rintro e wa ⟨n,rfl,hk0,hk1,hk2,hM,hI⟩
   have U9:n < 3:=hk1 (by decide)
   have E9:=Lib.hid (TH.out.go hM hI)
   clear hM hI hk1 hk2 c0 TH
   have c0:=E9.out.mi.ptr
   go_wp2_with fail
   refine (dH T 12 _ (by unfold aV; decide) E9.out.mi).mono ?_
   rintro e wb ⟨m,rfl,hm0,hm1,hm2,hM,hI⟩
   have PL:=Lib.hid (E9.out.go hM hI)
   clear hM hI hm0 hm1 hm2 c0 E9
   go_upto_if 83 with fail
   go_cut [8] (fun s8 W'=>W'=wb∧ ∃n:Nat,s8= .int .i64 (n:Int)∧1≤n∧n≤5)
   case first=>
    cases hm:(m == 11)
    ·go_wp2_with fail
     go_meet
     exact ⟨rfl,(1 + n).toNat,by rw [Int.toNat_of_nonneg (by omega)],by omega,by omega⟩
    ·go_wp2_with fail
     go_meet
     exact ⟨rfl,5,rfl,by decide,by decide⟩
   obtain ⟨rfl,n',rfl,hn1,hn5⟩:=hcut
   clear hk0 U9
   go_wp2_with fail
   go_loopw [9] (fun v9 wr=> ∃(k:Nat) (vT:Value) (kP:List gY),v9= .int .i64 k∧k≤n'∧kP.length=k∧PI T w2 pb nb wr vD ds vT kP) (fun i _=>n' - (intOf i).toNat)
   case atStart=>exact ⟨0,_,[],rfl,Nat.zero_le _,rfl,PL.out⟩
   case round=>
    clear PL
    obtain ⟨k,vT,kP,rfl,hkn,hth,hp⟩:=hrel
    have HP:=Lib.hid hp
    have LD:=Lib.hid hth
    clear hp hth
    by_cases hlt:k < n'
    ·obtain ⟨line,left,hl1,hl2,hl3,hblk⟩:=HP.out.mi.vw
     have c1:wr.cell? ⟨T.bm,1,none⟩=some (.int .i64 line):=(cZ hblk (j:=1) rfl).2
     have f1:wr.frozen? ⟨T.bm,1,none⟩=false:=aD hblk
     clear hblk hl1 hl2 hl3
     go_upto_region 22 with fail
     generalize OG:World.setCell wr _ _=W0
     have BL:Hid (PI T w2 pb nb W0 vD ds vT kP):=Lib.hid (by rw [← OG]; exact HP.out.Mr (zy _))
     clear OG c1 f1 HP
     have iZ:Hid (nb + 1≤W0.heap.size):=Lib.hid BL.out.sz
     have aX:Hid (T.bt < pb∧T.bm < pb∧T.B0≤pb∧pb < nb):=Lib.hid (by have:=BL.out.lt; omega)
     have hd1:Mk T W0 (W0.drewN 1):=Mk.of_below (below_drewN (Below.refl _ _) 1)
     have hd2:dx (W0.drewN 1) T:=BL.out.mi.below (below_drewN (Below.refl _ _) 1)
     have K0: ∀w',dx w' T→w'.cell? ⟨T.bm,0,none⟩=some (.pointer (some ⟨T.bt,0,none⟩)):=fun w' h=>h.ptr
     have KN: ∀w',Mk T W0 w'→ ∃s,w'.cell? ⟨nb,k,none⟩=some (.string s)∧ny s:=fun w' h=>by
      have hb:=(h.block nb iZ.out (by have:=aX.out; omega) (by have:=aX.out; omega)).trans BL.out.nms
      obtain ⟨s,h1,h2⟩:=WL k (by omega)
      exact ⟨s,ak hb h1,h2⟩
     have hb0:(0:Int)≤(k:Int):=by omega
     have hb1:(k:Int) < 5:=by omega
     refine eG (by kernel_rfl) rfl ?_
     refine dS 0 11 [] [[],[],[0,1],[0,1,2],[],[4],[4,5],[4,5,6],[],[0,1,2,3,4,5,6,7,8],[],[0,1,2,3,4,5,6,7,8,9,10]] [[],[],[],[],[],[],[],[],[],[],[]] (fun _ w'=>Mk T W0 w'∧dx w' T) (fun w w'=>Mk T w w') [96,97,98,99,100,101,102,103,104,105,10] rfl rfl (by rfl) (by kernel_rfl) (by kernel_rfl) (by kernel_rfl) (by kernel_rfl) (by kernel_rfl) (by rfl) (fun _=>Mk.refl _ _) (by rfl) ⟨hd1,hd2⟩ ?_
     simp only [List.take_succ_cons,List.take_zero,List.drop_zero,List.drop_succ_cons,jW,List.map_cons,List.map_nil]
     apply aG.step
     case aF=>
      intro c A w' hok hC hO hD
      have e7:=hO 7 (by rfl)
      simp [Act.eval] at e7
      simp [aC,aB,au,Act.eval,Region.binds] at hD
      simp [go_sem,gd,Oper.wp,hD,e7]
      exact aA.mk (Mk.refl _ _) hC (aB.mk _ _)
     apply aG.step
     case aF=>
      intro c A w' hok hC hO hD
      have e9:=hO 9 (by rfl)
      simp [Act.eval] at e9
      simp [aC,aB,au,Act.eval,Region.binds] at hD
      simp [go_sem,gd,Oper.wp,hD,e9]
      exact aA.mk (Mk.refl _ _) hC (aB.mk _ _)
     apply aG.step
     case aF=>
      intro c A w' hok hC hO hD
      simp [aC,aB,au,Act.eval,Region.binds] at hD
      simp [go_sem,gd,Oper.wp,hD,hb0,hb1]
      exact aA.mk (Mk.refl _ _) hC (aB.mk _ _)
     simp only [List.nil_append,List.cons_append]
     refine aG.some (fun v w'=> ∃s:ByteArray,v= .string s∧ny s) (fun _ _ _ _ h=>h) ?_ ?_
     ·intro c A w' hok hC hO hD
      simp [aC,aB,au,Act.eval,Region.binds] at hD
      obtain ⟨s,hs,hsz⟩:=KN w' hC.1
      simp [go_sem,gd,Oper.wp,hD,hs]
      exact aA.mk (Mk.refl _ _) hC (⟨s,rfl,hsz⟩)
     simp only [List.nil_append,List.cons_append]
     apply aG.step
     case aF=>
      intro c A w' hok hC hO hD
      have e3:=hO 3 (by rfl)
      simp [Act.eval] at e3
      simp [aC,aB,au,Act.eval,Region.binds] at hD
      simp [go_sem,gd,Oper.wp,hD,e3]
      exact aA.mk (Mk.refl _ _) hC (aB.mk _ _)
     apply aG.step
     case aF=>
      intro c A w' hok hC hO hD
      simp [aC,aB,au,Act.eval,Region.binds] at hD
      simp [go_sem,gd,Oper.wp,hD]
      exact aA.mk (Mk.refl _ _) hC (aB.mk _ _)
     apply aG.step
     case aF=>
      intro c A w' hok hC hO hD
      simp [aC,aB,au,Act.eval,Region.binds] at hD
      simp [go_sem,gd,Oper.wp,hD]
      exact aA.mk (Mk.refl _ _) hC (aB.mk _ _)
     simp only [List.nil_append,List.cons_append]
     refine aG.some (fun v w'=> ∃l:Int,v= .int .i64 l∧aV l) (fun _ _ _ _ h=>h) ?_ ?_
     ·intro c A w' hok hC hO hD
      simp [aC,aB,au,Act.eval,Region.binds] at hD
      obtain ⟨l,hc,hl⟩:=hC.2.ln
      simp [go_sem,gd,Oper.wp,hD,hc]
      exact aA.mk (Mk.refl _ _) hC (⟨l,rfl,hl⟩)
     simp only [List.nil_append,List.cons_append]
     refine aG.some (fun v w'=> ∃lb,v= .slice (some ⟨lb,0,none⟩) 2 2∧W0.heap.size≤lb∧w'.heap[lb]? =some (.cells (Cg.flatMap sG).toArray 9 (0,0))) ?_ ?_ ?_
     ·rintro v w1 w' hle ⟨g,h1,h2,h3⟩
      exact ⟨g,h1,h2,(hle.block g (Array.getElem?_eq_some_iff.1 h3).1 (by have:=aX.out; have:=iZ.out; omega) (by have:=aX.out; have:=iZ.out; omega)).trans h3⟩
     ·intro c A w' hok hC hO hD
      simp [go_sem,gd,Oper.wp]
      exact aA.mk (d:=_) (v:= .slice (some ⟨_,0,none⟩) 2 2) (Mk.of_below (ah _ _)) ⟨hC.1.trans (Mk.of_below (ah _ _)),hC.2.below (ah _ _)⟩ ⟨_,rfl,hC.1.size,heap_alloc_new _ _⟩
     simp only [List.nil_append,List.cons_append]
     refine aG.some (fun v w'=> ∃lb,W0.heap.size≤lb∧w'.heap[lb]? =some (.cells (Cg.flatMap sG).toArray 9 (0,0))∧ ∃(s:ByteArray) (l:Int),v= .agg #[.string s,.int .i64 l,.slice (some ⟨lb,0,none⟩) 2 2,.slice none 0 0]∧ny s∧aV l) ?_ ?_ ?_
     ·rintro v w1 w' hle ⟨g,h2,h3,h4⟩
      exact ⟨g,h2,(hle.block g (Array.getElem?_eq_some_iff.1 h3).1 (by have:=aX.out; have:=iZ.out; omega) (by have:=aX.out; have:=iZ.out; omega)).trans h3,h4⟩
     ·intro c A w' hok hC hO hD
      simp [aC,aB,au,Act.eval,Region.binds] at hD
      obtain ⟨⟨s,hs,hsn⟩,⟨l,hl,yI⟩,lb,hlb,h1,h2⟩:=hD
      simp [go_sem,gd,Oper.wp,hs,hl,hlb]
      exact aA.mk (Mk.refl _ _) hC ⟨lb,h1,h2,s,l,rfl,hsn,yI⟩
     simp only [List.nil_append,List.cons_append]
     refine aG.some (fun v w'=> ∃tb,v= .pointer (some ⟨tb,0,none⟩)∧W0.heap.size≤tb∧w'.heap[tb]? =some (.cells zTh 67 (0,0))) ?_ ?_ ?_
     ·rintro v w1 w' hle ⟨g,h1,h2,h3⟩
      exact ⟨g,h1,h2,(hle.block g (Array.getElem?_eq_some_iff.1 h3).1 (by have:=aX.out; have:=iZ.out; omega) (by have:=aX.out; have:=iZ.out; omega)).trans h3⟩
     ·intro c A w' hok hC hO hD
      simp [go_sem,gd,Oper.wp]
      exact aA.mk (d:=_) (v:= .pointer (some ⟨_,0,none⟩)) (Mk.of_below (ah _ _)) ⟨hC.1.trans (Mk.of_below (ah _ _)),hC.2.below (ah _ _)⟩ ⟨_,rfl,hC.1.size,heap_alloc_new _ _⟩
     try simp only [List.nil_append,List.cons_append]
     refine aG.done ?_
     intro wz fT
     try simp only [List.drop_zero,List.drop_succ_cons]
     intro v0 h0 v1 h1 v2 h2 v3 h3 v4 h4 v5 h5 v6 h6 v7 h7 v8 h8 v9 h9 v10 h10
     clear h0 h1 h2 h3 h4 h5 h6 h7 h8
     obtain ⟨lb,hlb,hlc,s,l,rfl,hsn,yI⟩:=h9
     obtain ⟨tb,rfl,htb,htc⟩:=h10
     clear hd1 hd2 K0 KN
     refine dU.nil ?_
     go_simp
     have hne:lb≠tb:=fun e=>by subst e; rw [hlc] at htc; cases htc
     refine iW 11 [[],[],[0,1],[0,1,2],[],[4],[4,5],[4,5,6],[],[0,1,2,3,4,5,6,7,8],[],[0,1,2,3,4,5,6,7,8,9,10]] rfl rfl rfl rfl rfl (by kernel_rfl) (by kernel_rfl) (by kernel_rfl) ?_
     refine wp_store_mid _ _ _ (by rfl) tb 0 #[.string s,.int .i64 l,.slice (some ⟨lb,0,none⟩) 2 2,.slice none 0 0] (by rfl) (by rfl) (mo htc (Nat.le_refl 4)) VA (by simp [Value.oneCell']) ?_
     refine fU rfl ?_
     generalize pW:World.setCells wz tb 0 _=W5
     have SX:Hid (TI T W0 tb W5 s l (.slice (some ⟨lb,0,none⟩) 2 2) Cg (.slice none 0 0)):=Lib.hid (by
      rw [← pW]
      have hlt':T.bt < W0.heap.size∧T.bm < W0.heap.size∧T.B0≤W0.heap.size∧W0.heap.size≤tb:=by have:=aX.out; have:=iZ.out; omega
      have hgr:=aO tb [.string s,.int .i64 l,.slice (some ⟨lb,0,none⟩) 2 2,.slice none 0 0] 0 wz
      refine ⟨gG htc rfl,?_,fun k hk=> ?_,⟨hsn,yI,OJ,by decide⟩,fT.2.sets _ _ _ (by omega) (by omega) (by omega),fT.1.sets _ _ _ htb,hlt'⟩
      ·exact (Grow.made BI hlc hlb rfl (by unfold maxLen; decide)).Ef (mO.vS hgr) (fun k hk e=>by injection hk with hk; injection e with e; have hk:lb=k:=hk; omega)
      ·injection hk with hk; have hk:lb=k:=hk; omega)
     clear pW fT hlb hlc htb htc hsn yI hne
     go_simp
     have c0:=SX.out.mi.ptr
     go_wp2_with fail
     refine (dH T 16 _ (by unfold aV; decide) SX.out.mi).mono ?_
     rintro e W6 ⟨m,rfl,hm0,hm1,hm2,hM,hI⟩
     have qB:=Lib.hid (SX.out.go hM hI)
     clear hM hI hm0 hm1 hm2 c0 SX
     go_upto_block 6 with fail
     go_cut [10] (fun s10 W'=>s10= .pointer (some ⟨tb,0,none⟩)∧ ∃(s:ByteArray) (vL:Value) (lc:List ByteArray),TI T W0 tb W' s l vL lc (.slice none 0 0))
     case first=>
      cases BU:(m == 13)
      ·cases Gj:(m == 14)
       ·cases Ma:(m == 15)
        ·go_wp2_with fail
         go_meet
         exact ⟨rfl,_,_,_,qB.out⟩
        ·have y2:=ak (j:=2) qB.out.box rfl
         have f2:W6.frozen? ⟨tb,2,none⟩=false:=aD qB.out.box
         have ap1:tb < W6.heap.size:=qB.out.sz
         have Z8:=Lib.hid ap1
         go_wp2_with fail
         go_meet
         have Pv:=Lib.hid (qB.out.go (Mk.of_below (ah W6 (.cells (Tv.flatMap sG).toArray 9))) (qB.out.mi.below (ah _ _)))
         have uF:=TI.kV (kV:=Tv) (Qn:= .slice (some ⟨W6.heap.size,0,none⟩) 5 5) Pv.out.box (Grow.made BI (heap_alloc_new _ _) (Nat.le_trans Pv.out.lt.2.2.2 (Nat.le_of_lt Z8.out)) rfl (by unfold maxLen; decide)) (fun k hk=>by injection hk with hk; have hk:W6.heap.size=k:=hk; have:=Z8.out; omega) ⟨qB.out.ok.1,qB.out.ok.2.1,Wm,by decide⟩ Pv.out.mi Pv.out.km Pv.out.lt
         rw [World.setCell_alloc_past _ _ _ _ Z8.out] at uF
         have Wu:=Lib.hid uF
         clear uF
         refine ⟨rfl,?_⟩
         exact ⟨_,_,_,Wu.out⟩
       ·go_upto_region 27 with fail
        have dR:Hid (tb + 1≤W6.heap.size):=Lib.hid qB.out.sz
        have oo:Hid (T.bt < W0.heap.size∧T.bm < W0.heap.size∧W0.heap.size≤tb):=Lib.hid (by have:=qB.out.lt; omega)
        have hd1:Mk T W6 (W6.drewN 1):=Mk.of_below (below_drewN (Below.refl _ _) 1)
        have hd2:dx (W6.drewN 1) T:=qB.out.mi.below (below_drewN (Below.refl _ _) 1)
        have K0: ∀w',dx w' T→w'.cell? ⟨T.bm,0,none⟩=some (.pointer (some ⟨T.bt,0,none⟩)):=fun w' h=>h.ptr
        have Y2: ∀w',Mk T W6 w'→w'.cell? ⟨tb,2,none⟩=some (.slice (some ⟨lb,0,none⟩) 2 2):=fun w' h=>ak ((h.block tb dR.out (by have:=oo.out; omega) (by have:=oo.out; omega)).trans qB.out.box) rfl
        refine eG (by kernel_rfl) rfl ?_
        refine dS 0 11 [] [[],[0],[],[],[3],[3,4],[3,4,5],[3,4,5,6],[2,3,4,5,6,7],[2,3,4,5,6,7,8],[2,3,4,5,6,7,8,9],[0,1,2,3,4,5,6,7,8,9,10],[0,1,2,3,4,5,6,7,8,9,10,11],[0,1,2,3,4,5,6,7,8,9,10,11,12]] [[],[],[],[],[],[],[],[],[],[],[]] (fun _ w'=>Mk T W6 w'∧dx w' T) (fun w w'=>Mk T w w') [116,117,118,119,120,121,122,123,124,125,126] rfl rfl (by rfl) (by kernel_rfl) (by kernel_rfl) (by kernel_rfl) (by kernel_rfl) (by kernel_rfl) (by rfl) (fun _=>Mk.refl _ _) (by rfl) ⟨hd1,hd2⟩ ?_
        simp only [List.take_succ_cons,List.take_zero,List.drop_zero,List.drop_succ_cons,jW,List.map_cons,List.map_nil]
        apply aG.step
        case aF=>
         intro c A w' hok hC hO hD
         have e10:=hO 10 (by rfl)
         simp [Act.eval] at e10
         simp [aC,aB,au,Act.eval,Region.binds] at hD
         simp [go_sem,gd,Oper.wp,hD,e10]
         exact aA.mk (Mk.refl _ _) hC (aB.mk _ _)
        apply aG.step
        case aF=>
         intro c A w' hok hC hO hD
         simp [aC,aB,au,Act.eval,Region.binds] at hD
         simp [go_sem,gd,Oper.wp,hD,Y2,hC.1]
         exact aA.mk (Mk.refl _ _) hC (aB.mk _ _)
        refine aG.some (fun v w'=> ∃g,v= .slice (some ⟨g,0,none⟩) 4 4∧W6.heap.size≤g∧w'.heap[g]? =some (.cells Xr 9 (0,0))) ?_ ?_ ?_
        ·rintro v w1 w' hle ⟨g,h1,h2,h3⟩
         exact ⟨g,h1,h2,(hle.block g (Array.getElem?_eq_some_iff.1 h3).1 (by have:=oo.out; have:=dR.out; omega) (by have:=oo.out; have:=dR.out; omega)).trans h3⟩
        ·intro c A w' hok hC hO hD
         simp [go_sem,gd,Oper.wp]
         exact aA.mk (d:=_) (v:= .slice (some ⟨_,0,none⟩) 4 4) (Mk.of_below (ah _ _)) ⟨hC.1.trans (Mk.of_below (ah _ _)),hC.2.below (ah _ _)⟩ ⟨_,rfl,hC.1.size,heap_alloc_new _ _⟩
        simp only [List.nil_append,List.cons_append]
        apply aG.step
        case aF=>
         intro c A w' hok hC hO hD
         have e3:=hO 3 (by rfl)
         simp [Act.eval] at e3
         simp [aC,aB,au,Act.eval,Region.binds] at hD
         simp [go_sem,gd,Oper.wp,hD,e3]
         exact aA.mk (Mk.refl _ _) hC (aB.mk _ _)
        apply aG.step
        case aF=>
         intro c A w' hok hC hO hD
         simp [aC,aB,au,Act.eval,Region.binds] at hD
         simp [go_sem,gd,Oper.wp,hD]
         exact aA.mk (Mk.refl _ _) hC (aB.mk _ _)
        apply aG.step
        case aF=>
         intro c A w' hok hC hO hD
         simp [aC,aB,au,Act.eval,Region.binds] at hD
         simp [go_sem,gd,Oper.wp,hD]
         exact aA.mk (Mk.refl _ _) hC (aB.mk _ _)
        simp only [List.nil_append,List.cons_append]
        apply aG.step
        case aF=>
         intro c A w' hok hC hO hD
         simp [aC,aB,au,Act.eval,Region.binds] at hD
         simp [go_sem,gd,Oper.wp,hD,K0,hC.2]
         exact aA.mk (Mk.refl _ _) hC (aB.mk _ _)
        refine aG.some (fun v _=> ∃r:Nat,v= .int .i64 (r:Int)∧r < 4) (fun _ _ _ _ h=>h) ?_ ?_
        ·intro c A w' hok hC hO hD
         simp [aC,aB,au,Act.eval,Region.binds] at hD
         simp [go_sem,gd,Oper.wp,hD]
         refine (dH T 4 w' (by unfold aV; decide) hC.2).mono ?_
         rintro e w2 ⟨r,rfl,h0,h1,-,hM,hI⟩
         obtain ⟨r',rfl⟩:=Int.eq_ofNat_of_zero_le h0
         exact aA.mk hM ⟨hC.1.trans hM,hI⟩ ⟨r',rfl,by have:=h1 (by decide); omega⟩
        simp only [List.nil_append,List.cons_append]
        refine aG.some (fun v w'=> ∃(g r:Nat),v= .pointer (some ⟨g,r,none⟩)∧r < 4∧W6.heap.size≤g∧w'.heap[g]? =some (.cells Xr 9 (0,0))) (fun v w1 w' hle ⟨g,r,h1,h1',h2,h3⟩=>⟨g,r,h1,h1',h2,(hle.block g (Array.getElem?_eq_some_iff.1 h3).1 (by have:=oo.out; have:=dR.out; omega) (by have:=oo.out; have:=dR.out; omega)).trans h3⟩) ?_ ?_
        ·intro c A w' hok hC hO hD
         simp [aC,aB,au,Act.eval,Region.binds] at hD
         obtain ⟨⟨g,hg,hg1,hg2⟩,r,hr,h1⟩:=hD
         have hb0:(0:Int)≤(r:Int):=by omega
         have hb1:(r:Int) < 4:=by omega
         simp [go_sem,gd,Oper.wp,hg,hr,hb0,hb1]
         exact aA.mk (Mk.refl _ _) hC (⟨g,r,rfl,h1,hg1,hg2⟩)
        simp only [List.nil_append,List.cons_append]
        refine aG.some (fun v w'=> ∃s:ByteArray,v= .string s∧ny s) (fun _ _ _ _ h=>h) ?_ ?_
        ·intro c A w' hok hC hO hD
         simp [aC,aB,au,Act.eval,Region.binds] at hD
         obtain ⟨g,r,hr,h1,hg1,hg2⟩:=hD
         obtain ⟨s,hs,hsz⟩:=Xn r h1
         simp [go_sem,gd,Oper.wp,hr,(ak hg2 hs)]
         exact aA.mk (Mk.refl _ _) hC (⟨s,rfl,hsz⟩)
        simp only [List.nil_append,List.cons_append]
        refine aG.some (fun v w'=> ∃g,v= .slice (some ⟨g,0,none⟩) 1 1∧ ∃s:ByteArray,W6.heap.size≤g∧w'.heap[g]? =some (.cells (sG s).toArray 9 (0,0))∧ny s) ?_ ?_ ?_
        ·rintro v w1 w' hle ⟨g,h1,s,h2,h3,h4⟩
         exact ⟨g,h1,s,h2,(hle.block g (Array.getElem?_eq_some_iff.1 h3).1 (by have:=oo.out; have:=dR.out; omega) (by have:=oo.out; have:=dR.out; omega)).trans h3,h4⟩
        ·intro c A w' hok hC hO hD
         simp [aC,aB,au,Act.eval,Region.binds] at hD
         obtain ⟨s,hs,hsn⟩:=hD
         simp [go_sem,gd,Oper.wp,hs]
         refine aA.mk (d:=_) (v:= .slice (some ⟨_,0,none⟩) 1 1) (Mk.of_below (ah _ _)) ⟨hC.1.trans (Mk.of_below (ah _ _)),hC.2.below (ah _ _)⟩ ?_
         first | exact ⟨_,rfl,s,hC.1.size,heap_alloc_new _ _,hsn⟩ | exact ⟨_,rfl,hC.1.size,s,heap_alloc_new _ _,hsn⟩
        try simp only [List.nil_append,List.cons_append]
        refine aG.done ?_
        intro wz fT
        try simp only [List.drop_zero,List.drop_succ_cons]
        intro v0 h0 v1 h1 v2 h2 v3 h3 v4 h4 v5 h5 v6 h6 v7 h7 v8 h8 v9 h9 v10 h10
        have h0':=Eq.symm (show v0=_ from h0)
        subst h0'
        have h1':=Eq.symm (show v1=_ from h1)
        subst h1'
        clear h0 h1 h2 h3 h4 h5 h6 h7 h8 h9
        obtain ⟨bb,rfl,s',hbb,hcell,hsn⟩:=h10
        clear hd1 hd2 K0 Y2
        refine dU.nil ?_
        go_simp
        refine iW 11 [[],[0],[],[],[3],[3,4],[3,4,5],[3,4,5,6],[2,3,4,5,6,7],[2,3,4,5,6,7,8],[2,3,4,5,6,7,8,9],[0,1,2,3,4,5,6,7,8,9,10],[0,1,2,3,4,5,6,7,8,9,10,11],[0,1,2,3,4,5,6,7,8,9,10,11,12]] rfl rfl rfl rfl rfl (by kernel_rfl) (by kernel_rfl) (by kernel_rfl) ?_
        obtain ⟨i0,hi0,hz0,hz1,hz2⟩:=VN
        have nN:=Lib.hid (qB.out.go fT.1 fT.2)
        have xq:=Lib.hid hsn
        refine wp_append_lies wz _ _ _ (by rfl) W0.heap.size 9 i0 _ 1 16 Tryz.underlying64 hi0 hz0 hz1 hz2 (by rfl) (by omega) (.slice (some ⟨lb,0,none⟩) 2 2) Cg.length (Cg.flatMap sG) (by rfl) nN.out.gl.own ⟨bb,0,none⟩ 1 1 (sG s') (by rfl) (by rfl) (mI hcell) (by simp [sG,Value.oneCell']) (by decide) (by unfold maxLen; decide) (by decide) (Nat.le_trans nN.out.lt.2.2.2 (Nat.le_of_succ_le nN.out.sz)) _ rfl ?_
        intro g' cap' w5 hown hgr hmv hlt'
        clear hi0 hz0 hz1 hz2 hcell fT hbb hsn
        have Bl:=Lib.hid (nN.out.gl.push (x:=s') (fun _ _=>trivial) rfl hown hgr hmv)
        have nG:Hid (g'≠tb):=Lib.hid (by
         rcases hmv with h | h
         ·exact nN.out.ne g' h
         ·have:=nN.out.sz; omega)
        have jg:Hid (Below W0.heap.size wz w5):=Lib.hid (lX hgr (fun k hk=>(nN.out.gl.lt k hk).1) (Nat.le_trans nN.out.lt.2.2.2 (Nat.le_of_succ_le nN.out.sz)))
        have eY:Hid (w5.heap[tb]? =some (.cells #[.string s,.int .i64 l,.slice (some ⟨lb,0,none⟩) 2 2,.slice none 0 0] 67 (0,0))):=Lib.hid ((hgr.block tb (Nat.lt_of_succ_le nN.out.sz) (fun e=>nN.out.ne tb e.symm rfl)).trans nN.out.box)
        clear hown hgr hmv hlt'
        have qR:Hid (∀x ∈ Cg++[s'],ny x):=Lib.hid (fun x hx=>by
         rcases List.mem_append.1 hx with hx | hx
         ·exact OJ x hx
         ·rw [List.mem_singleton.1 hx]; exact xq.out)
        have Iz:=Lib.hid (TI.kV (kV:=Cg++[s']) eY.out Bl.out (fun k hk=>by injection hk with hk; have hk:g'=k:=hk; have:=nG.out; omega) ⟨qB.out.ok.1,qB.out.ok.2.1,qR.out,by simp [Cg]⟩ (nN.out.mi.uS jg.out nN.out.lt.1 nN.out.lt.2.1 nN.out.lt.2.2.1) (nN.out.km.Dt jg.out) nN.out.lt)
        have y2:w5.cell? ⟨tb,2,none⟩=some (.slice (some ⟨lb,0,none⟩) 2 2):=ak eY.out rfl
        have f2:w5.frozen? ⟨tb,2,none⟩=false:=aD eY.out
        clear eY Bl jg nN nG qR
        go_simp
        refine dS 12 13 [] [[],[0],[],[],[3],[3,4],[3,4,5],[3,4,5,6],[2,3,4,5,6,7],[2,3,4,5,6,7,8],[2,3,4,5,6,7,8,9],[0,1,2,3,4,5,6,7,8,9,10],[0,1,2,3,4,5,6,7,8,9,10,11],[0,1,2,3,4,5,6,7,8,9,10,11,12]] [[]] (fun _ w'=>w'=w5) (fun w w'=>w=w') [128] rfl rfl (by rfl) (by kernel_rfl) (by kernel_rfl) (by kernel_rfl) (by kernel_rfl) (by kernel_rfl) (by rfl) (fun _=>rfl) (by rfl) rfl ?_
        simp only [List.take_succ_cons,List.take_zero,List.drop_zero,List.drop_succ_cons,jW,List.map_cons,List.map_nil]
        apply aG.step
        case aF=>
         intro c A w' hok hC hO hD
         have e10:=hO 10 (by rfl)
         simp [Act.eval] at e10
         simp [aC,aB,au,Act.eval,Region.binds] at hD
         simp [go_sem,gd,Oper.wp,hD,e10]
         exact aA.mk rfl hC (aB.mk _ _)
        try simp only [List.nil_append,List.cons_append]
        refine aG.done ?_
        intro wz fT
        try simp only [List.drop_zero,List.drop_succ_cons]
        intro v0 h0
        have h0':=Eq.symm (show v0=_ from h0)
        subst h0'
        clear h0
        refine dU.nil ?_
        go_simp
        refine iW 13 [[],[0],[],[],[3],[3,4],[3,4,5],[3,4,5,6],[2,3,4,5,6,7],[2,3,4,5,6,7,8],[2,3,4,5,6,7,8,9],[0,1,2,3,4,5,6,7,8,9,10],[0,1,2,3,4,5,6,7,8,9,10,11],[0,1,2,3,4,5,6,7,8,9,10,11,12]] rfl rfl rfl rfl rfl (by kernel_rfl) (by kernel_rfl) (by kernel_rfl) ?_
        subst fT
        simp [go_sem,Oper.wp,y2,f2]
        refine fU rfl ?_
        clear y2 f2
        go_simp
        go_wp2_with fail
        go_meet
        refine ⟨rfl,?_⟩
        exact ⟨_,_,_,Iz.out⟩
      ·have y0:=ak (j:=0) qB.out.box rfl
       have f0:W6.frozen? ⟨tb,0,none⟩=false:=aD qB.out.box
       have HTN:=Lib.hid (qB.out.name (s:=⟨#[116]⟩) ⟨by unfold maxLen; decide,by rfl⟩)
       go_wp2_with fail
       go_meet
       refine ⟨rfl,?_⟩
       exact ⟨_,_,_,HTN.out⟩
     obtain ⟨rfl,s',vL,lc,hT⟩:=hcut
     obtain ⟨W7,rfl⟩: ∃W:World,W=wc:=⟨_,rfl⟩
     have Iz:=Lib.hid hT
     clear hT qB
     have uJ:Hid (tb + 1≤W7.heap.size):=Lib.hid Iz.out.sz
     have oo:Hid (T.bt < W0.heap.size∧T.bm < W0.heap.size∧W0.heap.size≤tb):=Lib.hid (by have:=Iz.out.lt; omega)
     have hd1:Mk T W7 (W7.drewN 1):=Mk.of_below (below_drewN (Below.refl _ _) 1)
     have hd2:dx (W7.drewN 1) T:=Iz.out.mi.below (below_drewN (Below.refl _ _) 1)
     have K0: ∀w',dx w' T→w'.cell? ⟨T.bm,0,none⟩=some (.pointer (some ⟨T.bt,0,none⟩)):=fun w' h=>h.ptr
     have KL: ∀w',dx w' T→ ∃q:Int,w'.cell? ⟨T.bm,2,none⟩=some (.int .i64 q)∧0≤q∧q≤100:=fun w' h=>by
      obtain ⟨x,q,-,h1,h2,h3⟩:=h.vw
      exact ⟨q,(cZ h3 (j:=2) rfl).2,h1,h2⟩
     have HE2:Hid (yA T 2):=Lib.hid (Gi T 2 (by decide))
     have HE7:Hid (yA T 7):=Lib.hid (Gi T 7 (by decide))
     go_upto_region 30 with fail
     refine eG (by kernel_rfl) rfl ?_
     refine dS 0 24 [] [[],[],[1],[1,2],[1,2,3],[1,2,3,4],[1,2,3,4,5],[1,2,3,4,5,6],[1,2,3,4,5,6,7],[],[9],[9,10],[9,10,11],[1,2,3,4,5,9,10,11,12],[1,2,3,4,5,9,10,11,12,13],[],[15],[15,16],[15,16,17],[15,16,17,18],[15,16,17,18,19],[1,2,3,4,5,9,10,11,12,13,14,15,16,17,18,19,20],[0,1,2,3,4,5,6,7,8,9,10,11,12,13,14,15,16,17,18,19,20,21],[0,1,2,3,4,5,6,7,8,9,10,11,12,13,14,15,16,17,18,19,20,21,22],[0,1,2,3,4,5,6,7,8,9,10,11,12,13,14,15,16,17,18,19,20,21,22,23]] [[],[],[],[],[],[],[],[],[],[],[],[],[],[],[],[],[],[],[],[],[],[],[],[]] (fun _ w'=>Mk T W7 w'∧dx w' T) (fun w w'=>Mk T w w') [133,134,135,136,137,138,139,140,141,142,143,144,145,146,147,148,149,150,151,152,153,154,155,156] rfl rfl (by rfl) (by kernel_rfl) (by kernel_rfl) (by kernel_rfl) (by kernel_rfl) (by kernel_rfl) (by rfl) (fun _=>Mk.refl _ _) (by rfl) ⟨hd1,hd2⟩ ?_
     simp only [List.take_succ_cons,List.take_zero,List.drop_zero,List.drop_succ_cons,jW,List.map_cons,List.map_nil]
     apply aG.step
     case aF=>
      intro c A w' hok hC hO hD
      have e3:=hO 3 (by rfl)
      simp [Act.eval] at e3
      simp [aC,aB,au,Act.eval,Region.binds] at hD
      simp [go_sem,gd,Oper.wp,hD,e3]
      exact aA.mk (Mk.refl _ _) hC (aB.mk _ _)
     apply aG.step
     case aF=>
      intro c A w' hok hC hO hD
      have e3:=hO 3 (by rfl)
      simp [Act.eval] at e3
      simp [aC,aB,au,Act.eval,Region.binds] at hD
      simp [go_sem,gd,Oper.wp,hD,e3]
      exact aA.mk (Mk.refl _ _) hC (aB.mk _ _)
     apply aG.step
     case aF=>
      intro c A w' hok hC hO hD
      simp [aC,aB,au,Act.eval,Region.binds] at hD
      simp [go_sem,gd,Oper.wp,hD]
      exact aA.mk (Mk.refl _ _) hC (aB.mk _ _)
     simp only [List.nil_append,List.cons_append]
     apply aG.step
     case aF=>
      intro c A w' hok hC hO hD
      simp [aC,aB,au,Act.eval,Region.binds] at hD
      simp [go_sem,gd,Oper.wp,hD]
      exact aA.mk (Mk.refl _ _) hC (aB.mk _ _)
     apply aG.step
     case aF=>
      intro c A w' hok hC hO hD
      simp [aC,aB,au,Act.eval,Region.binds] at hD
      simp [go_sem,gd,Oper.wp,hD,K0,hC.2]
      exact aA.mk (Mk.refl _ _) hC (aB.mk _ _)
     refine aG.some (fun v _=> ∃r:Nat,v= .int .i64 (r:Int)∧r < 6) (fun _ _ _ _ h=>h) ?_ ?_
     ·intro c A w' hok hC hO hD
      simp [aC,aB,au,Act.eval,Region.binds] at hD
      simp [go_sem,gd,Oper.wp,hD]
      refine (dH T 6 w' (by unfold aV; decide) hC.2).mono ?_
      rintro e w2 ⟨r,rfl,h0,h1,-,hM,hI⟩
      obtain ⟨r',rfl⟩:=Int.eq_ofNat_of_zero_le h0
      exact aA.mk hM ⟨hC.1.trans hM,hI⟩ ⟨r',rfl,by have:=h1 (by decide); omega⟩
     simp only [List.nil_append,List.cons_append]
     refine aG.some (fun v _=>v= .int .i64 0∨v= .int .i64 1) (fun _ _ _ _ h=>h) ?_ ?_
     ·intro c A w' hok hC hO hD
      simp [aC,aB,au,Act.eval,Region.binds] at hD
      obtain ⟨r,hr,hr6⟩:=hD
      have hr6:r=0∨r=1∨r=2∨r=3∨r=4∨r=5:=by omega
      rcases hr6 with rfl | rfl | rfl | rfl | rfl | rfl
      all_goals
       simp [go_sem,gd,Oper.wp,hr]
       exact aA.mk (Mk.refl _ _) hC (by first | exact .inl rfl | exact .inr rfl)
     simp only [List.nil_append,List.cons_append]
     refine aG.some (fun v _=>v= .int .i64 0∨v= .int .i64 5) (fun _ _ _ _ h=>h) ?_ ?_
     ·intro c A w' hok hC hO hD
      simp [aC,aB,au,Act.eval,Region.binds] at hD
      rcases hD with hr | hr
      all_goals
       simp [go_sem,gd,Oper.wp,hr]
       exact aA.mk (Mk.refl _ _) hC (by first | exact .inl rfl | exact .inr rfl)
     simp only [List.nil_append,List.cons_append]
     refine aG.some (fun v _=>v= .int .i64 2∨v= .int .i64 7) (fun _ _ _ _ h=>h) ?_ ?_
     ·intro c A w' hok hC hO hD
      simp [aC,aB,au,Act.eval,Region.binds] at hD
      rcases hD with hr | hr
      all_goals
       simp [go_sem,gd,Oper.wp,hr]
       exact aA.mk (Mk.refl _ _) hC (by first | exact .inl rfl | exact .inr rfl)
     simp only [List.nil_append,List.cons_append]
     apply aG.step
     case aF=>
      intro c A w' hok hC hO hD
      have e3:=hO 3 (by rfl)
      simp [Act.eval] at e3
      simp [aC,aB,au,Act.eval,Region.binds] at hD
      simp [go_sem,gd,Oper.wp,hD,e3]
      exact aA.mk (Mk.refl _ _) hC (aB.mk _ _)
     apply aG.step
     case aF=>
      intro c A w' hok hC hO hD
      simp [aC,aB,au,Act.eval,Region.binds] at hD
      simp [go_sem,gd,Oper.wp,hD]
      exact aA.mk (Mk.refl _ _) hC (aB.mk _ _)
     apply aG.step
     case aF=>
      intro c A w' hok hC hO hD
      simp [aC,aB,au,Act.eval,Region.binds] at hD
      simp [go_sem,gd,Oper.wp,hD]
      exact aA.mk (Mk.refl _ _) hC (aB.mk _ _)
     simp only [List.nil_append,List.cons_append]
     apply aG.step
     case aF=>
      intro c A w' hok hC hO hD
      simp [aC,aB,au,Act.eval,Region.binds] at hD
      simp [go_sem,gd,Oper.wp,hD,K0,hC.2]
      exact aA.mk (Mk.refl _ _) hC (aB.mk _ _)
     refine aG.some (fun v _=> ∃r:Nat,v= .int .i64 (r:Int)∧r < 4) (fun _ _ _ _ h=>h) ?_ ?_
     ·intro c A w' hok hC hO hD
      simp [aC,aB,au,Act.eval,Region.binds] at hD
      simp [go_sem,gd,Oper.wp,hD]
      refine (dH T 4 w' (by unfold aV; decide) hC.2).mono ?_
      rintro e w2 ⟨r,rfl,h0,h1,-,hM,hI⟩
      obtain ⟨r',rfl⟩:=Int.eq_ofNat_of_zero_le h0
      exact aA.mk hM ⟨hC.1.trans hM,hI⟩ ⟨r',rfl,by have:=h1 (by decide); omega⟩
     simp only [List.nil_append,List.cons_append]
     refine aG.some (fun v w'=> ∃r:Nat,v= .int .i64 (r:Int)∧1≤r∧r≤4) (fun _ _ _ _ h=>h) ?_ ?_
     ·intro c A w' hok hC hO hD
      simp [aC,aB,au,Act.eval,Region.binds] at hD
      obtain ⟨r,hr,Jq⟩:=hD
      have hw:IntKind.i64.wrap (1 + (r:Int))=1 + r:=IntWalk.i64_in _ (by omega)
      simp [go_sem,gd,Oper.wp,hr,hw]
      exact aA.mk (Mk.refl _ _) hC (⟨1 + r,by simp,by omega,by omega⟩)
     simp only [List.nil_append,List.cons_append]
     apply aG.step
     case aF=>
      intro c A w' hok hC hO hD
      have e3:=hO 3 (by rfl)
      simp [Act.eval] at e3
      simp [aC,aB,au,Act.eval,Region.binds] at hD
      simp [go_sem,gd,Oper.wp,hD,e3]
      exact aA.mk (Mk.refl _ _) hC (aB.mk _ _)
     apply aG.step
     case aF=>
      intro c A w' hok hC hO hD
      simp [aC,aB,au,Act.eval,Region.binds] at hD
      simp [go_sem,gd,Oper.wp,hD]
      exact aA.mk (Mk.refl _ _) hC (aB.mk _ _)
     apply aG.step
     case aF=>
      intro c A w' hok hC hO hD
      simp [aC,aB,au,Act.eval,Region.binds] at hD
      simp [go_sem,gd,Oper.wp,hD]
      exact aA.mk (Mk.refl _ _) hC (aB.mk _ _)
     simp only [List.nil_append,List.cons_append]
     refine aG.some (fun v w'=> ∃q:Nat,v= .int .i64 (q:Int)∧q≤100) (fun _ _ _ _ h=>h) ?_ ?_
     ·intro c A w' hok hC hO hD
      simp [aC,aB,au,Act.eval,Region.binds] at hD
      obtain ⟨q',hq,hq0,hq1⟩:=KL w' hC.2
      obtain ⟨q,rfl⟩:=Int.eq_ofNat_of_zero_le hq0
      simp [go_sem,gd,Oper.wp,hD,hq]
      exact aA.mk (Mk.refl _ _) hC (⟨q,rfl,by omega⟩)
     simp only [List.nil_append,List.cons_append]
     refine aG.some (fun v w'=> ∃q:Nat,v= .int .i64 (q:Int)∧q≤5) (fun _ _ _ _ h=>h) ?_ ?_
     ·intro c A w' hok hC hO hD
      simp [aC,aB,au,Act.eval,Region.binds] at hD
      obtain ⟨q,hr,Jq⟩:=hD
      have hw:IntKind.i64.wrap ((q:Int) / 20)=(q:Int) / 20:=IntWalk.i64_in _ (by omega)
      simp [go_sem,gd,Oper.wp,hr,hw]
      exact aA.mk (Mk.refl _ _) hC (⟨q / 20,by simp,by omega⟩)
     simp only [List.nil_append,List.cons_append]
     refine aG.some (fun v w'=> ∃q:Nat,v= .int .i64 (q:Int)∧q≤50) (fun _ _ _ _ h=>h) ?_ ?_
     ·intro c A w' hok hC hO hD
      simp [aC,aB,au,Act.eval,Region.binds] at hD
      obtain ⟨q,hr,Jq⟩:=hD
      have hw:IntKind.i64.wrap ((q:Int) * 10)=((q * 10:Nat):Int):=(IntWalk.i64_in _ (by omega)).trans (by omega)
      simp [go_sem,gd,Oper.wp,hr,hw]
      exact aA.mk (Mk.refl _ _) hC (⟨q * 10,by simp,by omega⟩)
     simp only [List.nil_append,List.cons_append]
     refine aG.some (fun v w'=> ∃q:Nat,v= .int .i64 (q:Int)∧q≤54) (fun _ _ _ _ h=>h) ?_ ?_
     ·intro c A w' hok hC hO hD
      simp [aC,aB,au,Act.eval,Region.binds] at hD
      obtain ⟨⟨r,hr,hr1,hr4⟩,q,hq,YA⟩:=hD
      have hw:IntKind.i64.wrap ((r:Int) + (q:Int))=((r + q:Nat):Int):=(IntWalk.i64_in _ (by omega)).trans (by omega)
      simp [go_sem,gd,Oper.wp,hr,hq,hw]
      exact aA.mk (Mk.refl _ _) hC (⟨r + q,by simp,by omega⟩)
     simp only [List.nil_append,List.cons_append]
     refine aG.some (fun v w'=> ∃(l:aI) (ao:Option Addr) (cap:Nat),v= .slice ao (aI.len l) cap∧(aI.len l≤1000∧vF WB l)∧bD W7.heap.size w' (fun w2=>l.At w2 w2.heap.size ao 0)) ?_ ?_ ?_
     ·rintro v w1 w' hle ⟨l,ao,cap,h1,h2,h3⟩
      exact ⟨l,ao,cap,h1,h2,h3.next (hle.xY (by have:=oo.out; have:=uJ.out; omega) (by have:=oo.out; have:=uJ.out; omega))⟩
     ·intro c A w' hok hC hO hD
      simp [aC,aB,au,Act.eval,Region.binds] at hD
      obtain ⟨WI,Iq,⟨q,hq,YA⟩,-⟩:=hD
      rcases Iq with Iq | Iq
      ·simp [go_sem,gd,Oper.wp,WI,Iq,hq]
       refine (HE2.out w' _ hC.2 (by unfold aV; omega) (by omega)).mono ?_
       rintro e w3 ⟨l,ao,cap,rfl,h1,h2,h3,h4⟩
       exact aA.mk h3 ⟨hC.1.trans h3,h4⟩ ⟨l,ao,⟨cap,rfl⟩,⟨h1.1,h1.2.mono (wb2 YA)⟩,h2.mono hC.1.size⟩
      ·simp [go_sem,gd,Oper.wp,WI,Iq,hq]
       refine (HE7.out w' _ hC.2 (by unfold aV; omega) (by omega)).mono ?_
       rintro e w3 ⟨l,ao,cap,rfl,h1,h2,h3,h4⟩
       exact aA.mk h3 ⟨hC.1.trans h3,h4⟩ ⟨l,ao,⟨cap,rfl⟩,⟨h1.1,h1.2.mono (wb7 YA)⟩,h2.mono hC.1.size⟩
     simp only [List.nil_append,List.cons_append]
     apply aG.step
     case aF=>
      intro c A w' hok hC hO hD
      have e10:=hO 10 (by rfl)
      simp [Act.eval] at e10
      simp [aC,aB,au,Act.eval,Region.binds] at hD
      simp [go_sem,gd,Oper.wp,hD,e10]
      exact aA.mk (Mk.refl _ _) hC (aB.mk _ _)
     try simp only [List.nil_append,List.cons_append]
     refine aG.done ?_
     intro wz fT
     try simp only [List.drop_zero,List.drop_succ_cons]
     intro v0 h0 v1 h1 v2 h2 v3 h3 v4 h4 v5 h5 v6 h6 v7 h7 v8 h8 v9 h9 v10 h10 v11 h11 v12 h12 v13 BU v14 Gj v15 Ma v16 h16 v17 OE v18 h18 v19 h19 v20 h20 v21 h21 v22 h22 v23 h23
     have an7:=Eq.symm (show v23=_ from h23)
     subst an7
     clear h0 h1 h2 h3 h4 h5 h6 h7 h8 h9 h10 h11 h12 BU Gj Ma h16 OE h18 h19 h20 h21 h23
     obtain ⟨lb',gM,cap',rfl,hlen,hst⟩:=h22
     clear hd1 hd2 K0 KL HE2 HE7
     refine dU.nil ?_
     go_simp
     refine iW 24 [[],[],[1],[1,2],[1,2,3],[1,2,3,4],[1,2,3,4,5],[1,2,3,4,5,6],[1,2,3,4,5,6,7],[],[9],[9,10],[9,10,11],[1,2,3,4,5,9,10,11,12],[1,2,3,4,5,9,10,11,12,13],[],[15],[15,16],[15,16,17],[15,16,17,18],[15,16,17,18,19],[1,2,3,4,5,9,10,11,12,13,14,15,16,17,18,19,20],[0,1,2,3,4,5,6,7,8,9,10,11,12,13,14,15,16,17,18,19,20,21],[0,1,2,3,4,5,6,7,8,9,10,11,12,13,14,15,16,17,18,19,20,21,22],[0,1,2,3,4,5,6,7,8,9,10,11,12,13,14,15,16,17,18,19,20,21,22,23]] rfl rfl rfl rfl rfl (by kernel_rfl) (by kernel_rfl) (by kernel_rfl) ?_
     have nN:=Lib.hid (Iz.out.go fT.1 fT.2)
     have vX:=Lib.hid hlen
     have HST:=Lib.hid hst
     have y3:wz.cell? ⟨tb,3,none⟩=some (.slice none 0 0):=ak nN.out.box rfl
     have f3:wz.frozen? ⟨tb,3,none⟩=false:=aD nN.out.box
     clear fT hlen hst Iz
     simp [go_sem,Oper.wp,y3,f3]
     refine fU rfl ?_
     generalize YT:World.setCell wz _ _=W8
     have wT:Hid (TI T W0 tb W8 s' l vL lc (.slice gM lb'.len cap')):=Lib.hid (by rw [← YT]; exact nN.out.body)
     have vk:Hid (bD W7.heap.size W8 (fun w2=>lb'.At w2 w2.heap.size gM 0)):=Lib.hid (by rw [← YT]; exact HST.out.next (bC _ _ _ uJ.out))
     clear YT y3 f3 nN HST
     go_simp
     have lV:=Lib.hid (BL.out.go wT.out.km wT.out.mi)
     obtain ⟨fD,dG,el,hcl,hsl⟩:=wT.out.gl.says (fun x hx=>(wT.out.ok.2.2.1 x hx).1)
     subst el
     have HSL:=Lib.hid (And.intro hcl hsl)
     clear hcl hsl
     have y0:W8.cell? ⟨tb,0,none⟩=some (.string s'):=ak wT.out.box rfl
     have y1:W8.cell? ⟨tb,1,none⟩=some (.int .i64 l):=ak wT.out.box rfl
     have y2:W8.cell? ⟨tb,2,none⟩=some (.slice fD lc.length dG):=ak wT.out.box rfl
     have y3:W8.cell? ⟨tb,3,none⟩=some (.slice gM lb'.len cap'):=ak wT.out.box rfl
     have yT:W8.cell? ⟨pb,1,none⟩=some vT:=ak lV.out.box rfl
     have HX:Hid (dW (nb + 1) vT.ownBlock W8 (gY.I ⟨⟨s',l,lc,lb'⟩,fD,dG,gM,cap'⟩)):=Lib.hid (by
      refine rQ (B1:=W0.heap.size) ?_ iZ.out (fun k hk=>(BL.out.gt.lt k hk).2)
      have hb2:W0.heap.size≤W7.heap.size:=by have:=oo.out; have:=uJ.out; omega
      exact fun w' h'=>⟨HSL.out.2 w' h',(vk.out.mono hb2) w' h'⟩)
     have fH:Hid (((⟨s',l,lc,lb'⟩:Th).Ok∧lc.length≤dG)∧ShT ⟨s',l,lc,lb'⟩):=Lib.hid ⟨⟨⟨wT.out.ok.1.1,wT.out.ok.2.1,by have:=wT.out.ok.2.2.2; show lc.length≤maxLen; unfold maxLen; omega,by have:=vX.out.1; show lb'.len≤maxLen; unfold maxLen; omega⟩,HSL.out.1⟩,wT.out.ok.1.2,fun x hx=>(wT.out.ok.2.2.1 x hx).2,vX.out.2,wT.out.ok.2.2.2⟩
     have BR:=Lib.hid (lV.out.go (Mk.of_below (ah W8 (.cells (gY.f ⟨⟨s',l,lc,lb'⟩,fD,dG,gM,cap'⟩).toArray 67))) (lV.out.mi.below (ah _ _)))
     have sj:=Lib.hid (mI (heap_alloc_new W8 (.cells (gY.f ⟨⟨s',l,lc,lb'⟩,fD,dG,gM,cap'⟩).toArray 67)))
     obtain ⟨i0,hi,hz0,hz1,hz2⟩:=Vr
     have hbs:nb + 1≤W8.heap.size + 1:=Nat.le_succ_of_le lV.out.sz
     have hkl:kP.length + 1≤maxLen:=by rw [LD.out]; unfold maxLen; omega
     have hkb:(kP.length + 1) * 72≤140737488355328:=by rw [LD.out]; omega
     go_wp2_with (at_builtin; refine wpList_append_lies _ rfl _ _ 24 rfl (nb + 1) 67 i0 _ 4 72 Tryz.underlying24 hi hz0 hz1 hz2 rfl (by decide) _ _ _ rfl BR.out.gt.own ⟨W8.heap.size,0,none⟩ 1 1 (gY.f ⟨⟨s',l,lc,lb'⟩,fD,dG,gM,cap'⟩) rfl rfl sj.out (Vb _) (by decide) hkl hkb (by simpa using hbs) _ rfl ?_)
     clear hi hz0 hz1 hz2 hbs hkl hkb
     intro g' cap2 w9 hown hgr hmv hlt'
     have E5:=Lib.hid (BR.out.push (HX.out.next (aK (ah _ _)).x) fH.out rfl hown hgr (by simpa using hmv))
     have fV:Hid (Below (nb + 1) (W8.alloc (.cells (gY.f ⟨⟨s',l,lc,lb'⟩,fD,dG,gM,cap'⟩).toArray 67)) w9):=Lib.hid (lX hgr (fun k hk=>(BR.out.gt.lt k hk).1) BR.out.sz)
     have eY:Hid (w9.heap[pb]? =some (.cells #[vD,vT] 26 (0,0))):=Lib.hid ((fV.out.block pb (by have:=aX.out; omega)).trans BR.out.box)
     have z1:w9.cell? ⟨pb,1,none⟩=some vT:=ak eY.out rfl
     have f1:w9.frozen? ⟨pb,1,none⟩=false:=aD eY.out
     clear hown hgr hmv hlt' y0 y1 y2 y3 yT sj BR HX eY fV
     go_wp2_with fail
     go_roundw
     case rel=>exact ⟨k + 1,_,_,by go_num,by omega,by simp [LD.out],E5.out⟩
     case measure=>simp [intOf]; omega
    ·have hk:k=n':=by omega
     subst hk
     obtain ⟨bq,bg,e1,hcd,hsD⟩:=HP.out.gd.says (fun x hx=>(HP.out.Lb x hx).1)
     obtain ⟨bQ,bn,e2,hct,hsT⟩:=HP.out.gt.says (fun x hx=>(HP.out.J3 x hx).1)
     subst e1 e2
     have JL:=Lib.hid (And.intro hsD (And.intro hsT (And.intro hcd hct)))
     clear hsD hsT hcd hct
     have y0:=ak (j:=0) HP.out.box rfl
     have y1:=ak (j:=1) HP.out.box rfl
     have HRW:Hid (wr.heap[w.heap.size]? =some (.cells #[.slice none 0 0,.slice none 0 0] 26 (0,0))):=Lib.hid ((HP.out.km.block _ (Array.getElem?_eq_some_iff.1 HR2.out).1 (by have:=dh.out; omega) (by have:=dh.out; omega)).trans HR2.out)
     have z0:wr.cell? ⟨w.heap.size,0,none⟩=some (.slice none 0 0):=ak HRW.out rfl
     have z1:wr.cell? ⟨w.heap.size,1,none⟩=some (.slice none 0 0):=ak HRW.out rfl
     have f0: ∀j,wr.frozen? ⟨w.heap.size,j,none⟩=false:=fun j=>aD HRW.out
     go_wp2_with fail
     have K3:Hid (fM (w.heap.size + 1) wr ((wr.setCell ⟨w.heap.size,0,none⟩ (.slice bq ds.length bg)).setCell ⟨w.heap.size,1,none⟩ (.slice bQ kP.length bn))):=Lib.hid (fM.trans (bC wr ⟨w.heap.size,0,none⟩ (.slice bq ds.length bg) (Nat.lt_succ_self w.heap.size)) (bC (wr.setCell ⟨w.heap.size,0,none⟩ (.slice bq ds.length bg)) ⟨w.heap.size,1,none⟩ (.slice bQ kP.length bn) (Nat.lt_succ_self w.heap.size)))
     have O4:Hid (Below w.heap.size w ((wr.setCell ⟨w.heap.size,0,none⟩ (.slice bq ds.length bg)).setCell ⟨w.heap.size,1,none⟩ (.slice bQ kP.length bn))):=Lib.hid (((Js Qg.out HP.out.km (by have:=dh.out; omega) (by have:=dh.out; omega)).setCell (by simp) _).setCell (by simp) _)
     refine bodyPost_ret (v:= .agg #[.slice bq ds.length bg,.slice bQ kP.length bn]) (by simp [results,Tryz.results9,go_sem,z0,z1]) rfl ⟨⟨ds,kP.map (·.t)⟩,bq,bQ,bg,bn,by simp,⟨?_,?_,?_,?_⟩,JL.out.2.2.1,?_,?_,O4.out⟩
     ·show ds.length≤maxLen
      have:=Tf.out; unfold maxLen; omega
     ·show (kP.map (·.t)).length≤maxLen
      rw [List.length_map,LD.out]; unfold maxLen; omega
     ·exact JL.out.1 _ (K3.out.mono (by have:=dh.out; omega))
     ·exact JL.out.2.1 _ (K3.out.mono (by have:=dh.out; have:=HP.out.lt; omega))
     ·show (kP.map (·.t)).length≤bn
      rw [List.length_map]; exact JL.out.2.2.2
     ·refine ⟨?_,by show (kP.map (·.t)).length≤5; rw [List.length_map,LD.out]; omega,by show ds.length≤1000; have:=Tf.out; omega,fun t ht=>by
       obtain ⟨y,hy,rfl⟩:=List.mem_map.1 ht
       have hq:=(HP.out.J3 y hy).2
       exact ⟨hq.2.2.2,hq.2.2.1.2⟩⟩
      unfold sZ
      have e1:ds.all gT=true:=List.all_eq_true.2 (fun x hx=>(HP.out.Lb x hx).2)
      have e2:(kP.map (·.t)).all jM=true:=List.all_eq_true.2 (fun x hx=>by
       obtain ⟨y,hy,rfl⟩:=List.mem_map.1 hx
       obtain ⟨q1,q2,⟨q3,-⟩,-⟩:=(HP.out.J3 y hy).2
       unfold jM
       rw [q1,q3,List.all_eq_true.2 (fun s hs=>q2 s hs)]; rfl)
      have e3:decide ((0:Int) < ((kP.map (·.t)).length:Nat))=true:=by
       rw [List.length_map,LD.out]; exact decide_eq_true (by omega)
      show ((ds.all gT && (kP.map (·.t)).all jM) && decide ((0:Int) < ((kP.map (·.t)).length:Nat)))=true
      rw [e1,e2,e3]; rfl
end Go.Proofs.YtehnipchbmjlhaaGreatDoor
end
section
namespace Go.Proofs.YtehnipchbmjlhaaGreatDoor
open Go.ChangeShapes Go.WideShapes Go.ChangeAt Go.RowKit
open Go.WideMaps Go.WideElems
theorem VU:Tryz.prog.cellsOf 5=1:=by kernel_rfl
set_option maxRecDepth 100000 in
theorem AO {H:Type} {enc:TypeId × Value→H} {W:World} {base:Nat} {v:Value} {d:DataW H} {p:List MemPlace} (hv:Value.okWide Tryz.prog W .any base 22 v)
 (h:DataW.Trod enc Tryz.prog W 0 (fun _=>true) true 22 v d p) (hlt: ∀x ∈ p,x.block < W.heap.size):
 ∃(ao:Option Addr) (len cap:Nat) (zs:List Int),v= .slice ao len cap∧zs.length=len∧len≤maxLen∧Ac W W.heap.size zs ao:=by
 obtain ⟨a0,len,cap,rfl⟩:=okWide_slice Tryz.underlying22 hv
 obtain ⟨fuel,hf⟩:=h
 rcases open_ints Tryz.underlying22 Tryz.underlying5 VU hf with ⟨hcs,hx⟩ | ⟨a,len',cap',zs,hcs,_,hl,hm,hz,hx,hcell,hwz⟩
 ·simp [Value.cells] at hcs
  obtain ⟨rfl,rfl,rfl⟩:=hcs
  exact ⟨none,0,0,[],rfl,rfl,Nat.zero_le _,fun k hk=>absurd hk (by simp)⟩
 ·simp [Value.cells] at hcs
  obtain ⟨rfl,rfl,rfl⟩:=hcs
  simp only [Prod.mk.injEq] at hx
  obtain ⟨rfl,rfl⟩:=hx
  simp only [if_true] at hz
  refine ⟨some a,len,cap,zs.take len,rfl,by rw [List.length_take]; omega,by omega,fun k hk=> ?_⟩
  have hk':k < zs.length:=by rw [List.length_take] at hk; omega
  obtain ⟨b,off,spot⟩:=a
  have hspot:spot=none:=by simpa [Addr.add] using World.cell?_spot (hcell 0 (by omega))
  subst hspot
  have hbW:b < W.heap.size:=hlt (.cell b off) (MemPlace.mem_row.2 ⟨0,by omega,by simp⟩)
  have hb:=bounds_u8 (hwz zs[k] (List.getElem_mem hk'))
  refine ⟨b,off,rfl,hbW,?_,?_⟩
  ·rw [← add_plain,hcell k hk',List.getElem_take]
   simp [hk']
  ·rw [List.getElem_take]; exact hb
end Go.Proofs.YtehnipchbmjlhaaGreatDoor
end
