/- The maker's Program under way: what lies in memory, what stays. No program in sight. And what hangs on it. -/
import Derived.Test.YtfbbaiejbjdfbaaGreatDoorGPC
import Derived.Test.YtfbbaiejbjdfbaaGreatDoorGPI
import Derived.ArgAppend
set_option linter.unusedSimpArgs false
set_option linter.unusedVariables false
set_option maxHeartbeats 40000000
set_option maxRecDepth 1000000
namespace Go.Proofs.YtfbbaiejbjdfbaaGreatDoor
open Go.RowKit
open Md
theorem dM.uniq {T:Tp} {H H':Option Nat} {hs hs':List ByteArray} {w:World} (h:dM w T H hs) (k:dM w T H' hs'):H=H':=by
 obtain ⟨_,_,_,_,_,_,v,-,e1,e2,-⟩:=h.BA;obtain ⟨_,_,_,_,_,_,v',-,k1,k2,-⟩:=k.BA;rw [e1] at k1;injection k1 with k1; injection k1 with k1 _ _; injection k1 with k1;simp only [List.cons.injEq] at k1;rw [<- e2,<- k2,k1.2.2.2.2.2.2.2.1]
theorem dM.xB {T:Tp} {H:Option Nat} {w:World} (h:dM w T H []) (m:Int):dM (w.setCell ⟨T.bm,1,none⟩ (.int .i64 m)) T H []:=h.th m
def Dj (T:Tp) (w w':World):Prop:= ∀H,dM w T H []-> ∃H2,dM w' T H2 []∧Hx w H H2∧Mm T H w w'
theorem Dj.refl (T:Tp) (w:World):Dj T w w:=fun H h=>⟨H,h,Hx.refl _ _,Mm.refl _ _ _⟩
theorem Dj.mk {T:Tp} {H H2:Option Nat} {w w':World} (h:dM w T H []) (hi:dM w' T H2 []) (hx:Hx w H H2) (hm:Mm T H w w'):Dj T w w':=fun H' h'=>by
 obtain rfl:=h.uniq h';exact ⟨H2,hi,hx,hm⟩
theorem Dj.below {T:Tp} {w w':World} (hb:Below w.heap.size w w'):Dj T w w':=fun H h=>⟨H,h.below hb,Hx.refl _ _,Mm.of_below hb⟩
def CM (T:Tp) (H:Option Nat) (W w':World):Prop:= ∃H',dM w' T H' []∧Hx W H H'∧Mm T H W w'
theorem CM.le {T:Tp} {H:Option Nat} {W w1 w2:World} (h:CM T H W w1) (k:Dj T w1 w2):CM T H W w2:=by
 obtain ⟨H1,h1,h2,h3⟩:=h;obtain ⟨H2,k1,k2,k3⟩:=k H1 h1;exact ⟨H2,k1,h2.trans k2 h3.size,h3.trans h2 k3⟩
def Rj:List ByteArray:=[uj,Tt,Tv,Tw]
def XY:Array Value:= #[.string ⟨#[109,97,105,110]⟩,.string ⟨#[116,49]⟩,.string ⟨#[116,50]⟩,.string ⟨#[116,51]⟩]
theorem Rf {k:Nat} (h:k < 4): ∃s,Rj[k]? =some s∧XY[k]? =some (.string s)∧s.size<=maxLen:=by
 have:k=0∨k=1∨k=2∨k=3:=by omega
 rcases this with rfl | rfl | rfl | rfl <;> exact ⟨_,rfl,rfl,by unfold maxLen; decide⟩
def Q0 (x:fZ):Prop:=(x.t.Ok∧x.t.bM.length<=x.fq)∧x.t.bM=gV∧(x.fq=2∧0 < x.t.body.len)∧x.t.body.len<=20∧xE x.t.body
def F8:Array Value:= #[.string ⟨#[97]⟩,.string ⟨#[98]⟩]
structure TM (T:Tp) (W0:World) (H0:Option Nat) (gl tb:Nat) (s:ByteArray) (H:Option Nat) (W:World) (vB:Value) (l:List aP):Prop where
 loc:W.heap[gl]? =some (.cells F8 9 (0,0))
 box:W.heap[tb]? =some (.cells #[.string s,.int .i64 0,.slice (some ⟨gl,0,none⟩) 2 2,vB] 63 (0,0))
 row:yP (tb + 1) H W vB l
 ok: ∀x ∈ l,zf x.h x.b x.e
 mi:dM W T H []
 km:Mm T H0 W0 W∧Hx W0 H0 H
 lt:T.bt < gl∧T.bm < gl∧T.B0<=gl∧tb=gl + 1∧W0.heap.size=gl
 hne: ∀k,H=some k->k < gl∨tb < k
section
variable {T:Tp} {W0 W W':World} {H0 H H':Option Nat} {gl tb:Nat} {s:ByteArray} {vB:Value} {l:List aP}
theorem TM.sz (h:TM T W0 H0 gl tb s H W vB l):tb + 1<=W.heap.size:=(Array.getElem?_eq_some_iff.1 h.box).1
theorem TM.go (h:TM T W0 H0 gl tb s H W vB l) (hm:Mm T H W W') (hx:Hx W H H') (hi:dM W' T H' []):TM T W0 H0 gl tb s H' W' vB l:=
 ⟨hm.keep h.loc (by have:=h.lt; omega) (by have:=h.lt; omega) (fun e=>by have:=h.hne _ e; have:=h.lt; omega),hm.keep h.box (by have:=h.lt; omega) (by have:=h.lt; omega) (fun e=>by have:=h.hne _ e; have:=h.lt; omega),
  h.row.next (hm.Gi (by have:=h.lt; omega) (by have:=h.lt; omega)) hx,h.ok,hi,⟨h.km.1.trans h.km.2 hm,h.km.2.trans hx h.km.1.size⟩,h.lt,fun k e=>by
    rcases hx with rfl | ⟨b,rfl,hb⟩
    ·exact h.hne k e
    ·injection e with e; have:=h.sz; right; omega⟩
theorem TM.start (h:dM W0 T H0 []) (hb: ∀k,H0=some k->k < W0.heap.size):TM T W0 H0 W0.heap.size (W0.heap.size + 1) s H0 ((W0.alloc (.cells F8 9)).alloc (.cells #[.string s,.int .i64 0,.slice (some ⟨W0.heap.size,0,none⟩) 2 2,.slice none 0 0] 63)) (.slice none 0 0) []:=by
 have b1:=ak W0 (.cells F8 9);have b2:=ak (W0.alloc (.cells F8 9)) (.cells #[.string s,.int .i64 0,.slice (some ⟨W0.heap.size,0,none⟩) 2 2,.slice none 0 0] 63);have e:(W0.alloc (.cells F8 9)).heap.size=W0.heap.size + 1:=by simp
 refine ⟨(b2.block _ (by rw [e]; exact Nat.lt_succ_self _)).trans (heap_alloc_new _ _),by rw [<- e]; exact heap_alloc_new _ _,kP.nil _ _ _ _ _ _ _,by simp,(h.below b1).below b2,⟨(Mm.of_below b1).then_ (b2.mono (by rw [e]; exact Nat.le_succ _)) b2.size,Hx.refl _ _⟩,⟨h.tape.lt,h.lt,h.tape.b0,rfl,rfl⟩,fun k e=> .inl (hb k e)⟩
theorem TM.push {ys:List aP} {g cap n:Nat} (h:TM T W0 H0 gl tb s H W vB l) (hy: ∀y ∈ ys,gu (tb + 1) (zM vB.ownBlock H) W (aP.I y)) (hok: ∀y ∈ ys,zf y.h y.b y.e) (hn:n=l.length + ys.length) (hown:W'.ownsRow (tb + 1) 68 11 (.slice (some ⟨g,0,none⟩) n cap) n (l.flatMap aP.f++ys.flatMap aP.f)) (hg:W.grownBy W' vB.ownBlock) (hmv:vB.ownBlock=some g∨g=W.heap.size):
 TM T W0 H0 gl tb s H (W'.setCell ⟨tb,3,none⟩ (.slice (some ⟨g,0,none⟩) n cap)) (.slice (some ⟨g,0,none⟩) n cap) (l++ys)∧W'.heap[tb]? =some (.cells #[.string s,.int .i64 0,.slice (some ⟨gl,0,none⟩) 2 2,vB] 63 (0,0)):=by
 have hlt:=h.row.lt;have hB:Below (tb + 1) W W':=CF hg (fun k e=>(hlt k e).1) h.sz;have hbx:W'.heap[tb]? =_:=(hB.block tb (Nat.lt_succ_self _)).trans h.box;have hloc:W'.heap[gl]? =_:=(hB.block gl (by have:=h.lt; omega)).trans h.loc;have hi:dM W' T H []:=h.mi.grown hg (fun k e=>by have h1:=(hlt k e).1;exact ⟨by have:=h.lt; omega,by have:=h.lt; omega,by have:=h.lt; omega,h.row.ne k e⟩);have hkm:Mm T H0 W0 W':=h.km.1.then_ (CF hg (fun k e=>by have:=(hlt k e).1; have:=h.lt; omega) h.km.1.size) hg.size;have hrow:yP (tb + 1) H W' (.slice (some ⟨g,0,none⟩) n cap) (l++ys):=h.row.ah6 hy hn hown hg hmv h.mi.hlt';refine ⟨⟨(aV W' _ _ rfl (by have:=h.lt; show tb≠gl; omega)).trans hloc,by rw [fT hbx]; rfl,hrow.next (nP.AV (qK _ _ _ (Nat.lt_succ_self _))) (Hx.refl _ _),?_,?_,⟨hkm.set _ _ (by have:=h.lt; show _<=tb; omega),h.km.2⟩,h.lt,h.hne⟩,hbx⟩
 ·intro y hyy;rcases List.mem_append.1 hyy with h1 | h1
  ·exact h.ok y h1
  ·exact hok y h1
 ·exact hi.set _ _ (by have:=h.lt; show T.B0<=tb; omega) (by have:=h.lt; show tb≠_; omega) (by have:=h.lt; show tb≠_; omega) (fun e=>by have:=h.hne tb e; have:=h.lt; omega)
end
def ER (B D:Nat) (W:World) (g:Nat) (dx:List fZ):Prop:= ∃(pre:List fZ) (x:fZ) (l:List aP) (vB:Value),dx=pre++[x]∧x.t.body=dD l∧vB= .slice x.cu l.length x.bJ∧
 W.ownsRow B 68 11 vB l.length (l.flatMap aP.f)∧l.length<=5000∧(∀s ∈ l,zf s.h s.b s.e)∧(∀k,vB.ownBlock=some k->k≠g∧D < k)∧
 (∀s ∈ l,gu B (zM vB.ownBlock (some g)) W (aP.I s))∧(∀y ∈ pre,gu B (zM vB.ownBlock (some g)) W (fZ.I y))∧gu B (zM vB.ownBlock (some g)) W (fun w2=>fP w2 w2.heap.size x.t.bM x.iK 0)
structure PM (T:Tp) (w1:World) (gD pb nb:Nat) (H:Option Nat) (W:World) (vT:Value) (dx:List fZ):Prop where
 box:W.heap[pb]? =some (.cells #[.slice (some ⟨gD,0,none⟩) 9 9,vT] 26 (0,0))
 dec:W.heap[gD]? =some (.cells (jg.flatMap KY).toArray 93 (0,0))
 nms:W.heap[nb]? =some (.cells XY 9 (0,0))
 gt:Ib (nb + 1) H W vT dx
 CY: ∀x ∈ dx,Q0 x
 nm:dx.map (·.t.nm)=Rj.take dx.length
 mi:dM W T H []
 km:Mm T none w1 W
 lt:T.bt < w1.heap.size∧T.bm < w1.heap.size∧T.B0<=w1.heap.size∧w1.heap.size<=gD∧gD < pb∧pb < nb
 hn: ∀k,H=some k->nb < k
section
variable {T:Tp} {w1 W W':World} {gD pb nb:Nat} {H H':Option Nat} {vT:Value} {dx:List fZ}
theorem PM.sz (h:PM T w1 gD pb nb H W vT dx):nb + 1<=W.heap.size:=(Array.getElem?_eq_some_iff.1 h.nms).1
theorem PM.go (h:PM T w1 gD pb nb H W vT dx) (hm:Mm T H W W') (hx:Hx W H H') (hi:dM W' T H' []):PM T w1 gD pb nb H' W' vT dx where
 box:=hm.keep h.box (by have:=h.lt; omega) (by have:=h.lt; omega) (fun e=>by have:=h.hn _ e; have:=h.lt; omega)
 dec:=hm.keep h.dec (by have:=h.lt; omega) (by have:=h.lt; omega) (fun e=>by have:=h.hn _ e; have:=h.lt; omega)
 nms:=hm.keep h.nms (by have:=h.lt; omega) (by have:=h.lt; omega) (fun e=>by have:=h.hn _ e; omega)
 gt:=h.gt.next (hm.Gi (by have:=h.lt; omega) (by have:=h.lt; omega)) hx
 CY:=h.CY
 nm:=h.nm
 mi:=hi
 km:=⟨hm.os.trans h.km.os,hm.tape.trans h.km.tape,hm.output.trans h.km.output,Nat.le_trans h.km.size hm.size,fun k hk h1 h2 _=>(hm.block k (Nat.lt_of_lt_of_le hk h.km.size) h1 h2 (fun e=>by have:=h.hn _ e; have:=h.lt; omega)).trans (h.km.block k hk h1 h2 (by simp))⟩
 lt:=h.lt
 hn:=fun k e=>by
  rcases hx with rfl | ⟨b,rfl,hb⟩
  ·exact h.hn k e
  ·injection e with e; have:=h.sz; omega
theorem PM.th (h:PM T w1 gD pb nb H W vT dx) (m:Int):PM T w1 gD pb nb H (W.setCell ⟨T.bm,1,none⟩ (.int .i64 m)) vT dx:=
 h.go ((Mm.refl T H W).sM (Hx.refl _ _) _ _) (Hx.refl _ _) (h.mi.th m)
theorem PM.push {x:fZ} {g cap n:Nat} (h:PM T w1 gD pb nb H W vT dx) (hx:gu (nb + 1) (zM vT.ownBlock H) W (fZ.I x)) (hok:Q0 x) (hnm:Rj[dx.length]? =some x.t.nm) (hn:n=dx.length + 1) (hown:W'.ownsRow (nb + 1) 63 4 (.slice (some ⟨g,0,none⟩) n cap) n (dx.flatMap fZ.f++fZ.f x)) (hg:W.grownBy W' vT.ownBlock) (hmv:vT.ownBlock=some g∨g=W.heap.size):
 PM T w1 gD pb nb H (W'.setCell ⟨pb,1,none⟩ (.slice (some ⟨g,0,none⟩) n cap)) (.slice (some ⟨g,0,none⟩) n cap) (dx++[x])∧W'.heap[pb]? =some (.cells #[.slice (some ⟨gD,0,none⟩) 9 9,vT] 26 (0,0)):=by
 have hlt:=h.gt.lt;have hB:Below (nb + 1) W W':=CF hg (fun k hk=>(hlt k hk).1) h.sz;have hbx:W'.heap[pb]? =_:=(hB.block pb (by have:=h.lt; omega)).trans h.box;refine ⟨⟨by rw [fT hbx]; rfl,(aV W' _ _ rfl (by have:=h.lt; show pb≠gD; omega)).trans ((hB.block gD (by have:=h.lt; omega)).trans h.dec),(aV W' _ _ rfl (by have:=h.lt; show pb≠nb; omega)).trans ((hB.block nb (Nat.lt_succ_self _)).trans h.nms),?_,?_,?_,?_,?_,h.lt,h.hn⟩,hbx⟩
 ·exact (h.gt.push hx hn hown hg hmv h.mi.hlt').next (nP.AV (qK _ _ _ (by have:=h.lt; show pb < nb + 1; omega))) (Hx.refl _ _)
 ·intro y hy;rcases List.mem_append.1 hy with hy | hy
  ·exact h.CY y hy
  ·rw [List.mem_singleton.1 hy]; exact hok
 ·rw [List.map_append,h.nm,List.length_append,List.length_singleton,List.take_add_one,hnm]; rfl
 ·have hi:dM W' T H []:=h.mi.grown hg (fun k e=>by have h1:=(hlt k e).1;exact ⟨by have:=h.lt; omega,by have:=h.lt; omega,by have:=h.lt; omega,h.gt.ne k e⟩);exact hi.set _ _ (by have:=h.lt; show T.B0<=pb; omega) (by have:=h.lt; show pb≠_; omega) (by have:=h.lt; show pb≠_; omega) (fun e=>by have:=h.hn pb e; have:=h.lt; omega)
 ·exact (h.km.then_ (hB.mono (by have:=h.lt; omega)) hB.size).set _ _ (by have:=h.lt; show _<=pb; omega)
end
theorem AX {w w':World} {B B' m n:Nat} {ty:TypeId} {v:Value} {xs:List Value} (h:w.ownsRow B ty m v n xs) (hk: ∀k,v.ownBlock=some k->w'.heap[k]? =w.heap[k]?) (hB:B'<=B):w'.ownsRow B' ty m v n xs:=by
 refine ⟨h.1,?_⟩;rcases h.2 with h1 | ⟨g,cap,cur,h1,h2,h3,h4⟩
 ·exact .inl h1
 ·exact .inr ⟨g,cap,cur,h1,Nat.le_trans hB h2,(hk g (by rw [h1]; rfl)).trans h3,h4⟩
theorem R6 {W:World} {gl:Nat} (h:W.heap[gl]? =some (.cells F8 9 (0,0))):fP W W.heap.size gV (some ⟨gl,0,none⟩) 0:=by
 have hl:=(Array.getElem?_eq_some_iff.1 h).1;exact ⟨⟨gl,0,rfl,hl,au h rfl,by unfold maxLen; decide⟩,⟨gl,0,rfl,hl,au h rfl,by unfold maxLen; decide⟩,trivial⟩
theorem ak2 {T:Tp} {w2 wa w9 W10:World} {gD pb nb gl tb gT B:Nat} {H H3:Option Nat} {vT vB:Value} {dx:List fZ} {s:ByteArray} {l:List aP} {ab:Option Addr} {cb:Nat} (hP:PM T w2 gD pb nb H wa vT dx) (hT:TM T wa H gl tb s H3 w9 vB l) (hv:vB= .slice ab l.length cb) (hB:B<=nb) (hlen:l.length<=5000) (hW: ∀k,k < w9.heap.size->vT.ownBlock≠some k->k≠pb->W10.heap[k]? =w9.heap[k]?) (hsz:w9.heap.size<=W10.heap.size) (hg:vT.ownBlock=some gT∨w9.heap.size<=gT):
 ER B gD W10 gT (dx++[⟨⟨s,0,gV,dD l⟩,some ⟨gl,0,none⟩,2,ab,cb⟩]):=by
 have Dt:=hP.gt.lt;have hvB:=hT.row.lt;have q1:=hT.lt; have q2:=hP.lt; have q3:=hP.sz;have TL: ∀k,gl<=k->k < w9.heap.size->k≠gT:=fun k h1 h2 e=>by
  rcases hg with h | h
  ·have:=(Dt gT h).2; omega
  ·omega
 have hne: ∀k,gl<=k->vT.ownBlock≠some k:=fun k h1 e=>by have:=(Dt k e).2; omega
 refine ⟨dx,_,l,vB,rfl,rfl,hv,AX hT.row.own (fun k e=>hW k (hvB k e).2 (hne k (by have:=(hvB k e).1; omega)) (by have:=(hvB k e).1; omega)) (by omega),hlen,hT.ok,fun k e=>⟨TL k (by have:=(hvB k e).1; omega) (hvB k e).2,by have:=(hvB k e).1; omega⟩,fun y hy w' h'=> ?_,fun y hy w' h'=> ?_,fun w' h'=> ?_⟩
 ·refine hT.row.stay y hy w' ⟨Nat.le_trans hsz h'.1,fun k h1 h2 h3=>(h'.2 k (by omega) (fun e=> ?_) (Nat.lt_of_lt_of_le h3 hsz)).trans (hW k h3 (hne k (by omega)) (by omega))⟩;rcases e with e | e
  ·exact h2 (.inl e)
  ·injection e with e; exact TL k (by omega) h3 e.symm
 ·refine hP.gt.stay y hy w' ⟨Nat.le_trans hT.km.1.size (Nat.le_trans hsz h'.1),fun k h1 h2 h3=> ?_⟩;have h4:k < w9.heap.size:=Nat.lt_of_lt_of_le h3 hT.km.1.size;refine (h'.2 k (by omega) (fun e=> ?_) (Nat.lt_of_lt_of_le h4 hsz)).trans ((hW k h4 (fun e=>h2 (.inl e)) (by omega)).trans (hT.km.1.block k h3 (by omega) (by omega) (fun e=>h2 (.inr e))));rcases e with e | e
  ·have:=(hvB k e).1; omega
  ·injection e with e;rcases hg with h | h
   ·exact h2 (.inl (by rw [h,e]))
   ·omega
 ·have hl:=(Array.getElem?_eq_some_iff.1 hT.loc).1;refine R6 ((h'.2 gl (by omega) (fun e=> ?_) (Nat.lt_of_lt_of_le hl hsz)).trans ((hW gl hl (hne gl (Nat.le_refl _)) (by omega)).trans hT.loc));rcases e with e | e
  ·have:=(hvB gl e).1; omega
  ·injection e with e; exact TL gl (Nat.le_refl _) hl e.symm
theorem Zd {T:Tp} {w w2 W:World} (hb:Below w.heap.size w w2) (hm:Mm T none w2 W) (h1:w.heap.size<=T.bt) (h2:w.heap.size<=T.bm):Below w.heap.size w W:=
 ⟨hm.os.trans hb.os,hm.tape.trans hb.tape,hm.output.trans hb.output,Nat.le_trans hb.size hm.size,fun k hk=>(hm.block k (Nat.lt_of_lt_of_le hk hb.size) (by omega) (by omega) (by simp)).trans (hb.block k hk)⟩
theorem Ol (p:Pr) (gI:ByteArray): ∀(l:List Th) (j:Nat) (f g:List (List UInt8)),(ji p gI l j f g).err=0->(ji p gI l j f g).line=0
 | [],_,_,_,_=>rfl
 | t ::r,j,f,g,h0=>by
   rw [ji] at h0 ⊢;split at h0
   ·rename_i h1; rw [h0] at h1; exact absurd h1 (by decide)
   ·rename_i h1;rw [if_neg h1];exact Ol p gI r _ _ _ h0
theorem ak8 {p:Pr} (h:(jr p).1=0):jr p=(0,0):=by
 refine Prod.ext h ?_;unfold jr at h ⊢;split at h
 ·exact absurd h (by decide)
 ·rename_i h1;rw [if_neg h1];split at h
  ·rename_i h2; rw [h] at h2; exact absurd h2 (by decide)
  ·rename_i h2;rw [if_neg h2];split at h
   ·exact absurd h (by decide)
   ·rename_i h3;rw [if_neg h3];split at h
    ·rename_i h4; rw [h] at h4; exact absurd h4 (by decide)
    ·rename_i h4;rw [if_neg h4];split at h
     ·exact absurd h (by decide)
     ·rename_i h5;rw [if_neg h5];exact Ol _ _ _ _ _ _ h
theorem U8 {dx:List fZ} (h1: ∀x ∈ dx,Q0 x) (h2:dx.map (·.t.nm)=Rj.take dx.length) (h3:1<=dx.length) (h4:dx.length<=4):nH ⟨jg,dx.map (·.t)⟩:=
 ⟨rfl,⟨dx.length,h4,h3,by rw [<- show Rj=[uj,Tt,Tv,Tw] from rfl,<- h2]; simp⟩,fun t ht=>by obtain ⟨x,hx,rfl⟩:=List.mem_map.1 ht;exact (h1 x hx).2.1⟩
theorem ER.next {B D g:Nat} {W W':World} {dx:List fZ} (h:ER B D W g dx) (ha:rT B W W'):ER B D W' g dx:=by
 obtain ⟨pre,x,l,vB,h1,h2,h3,h4,h5,h6,h7,h8,h9,h10⟩:=h;refine ⟨pre,x,l,vB,h1,h2,h3,AX h4 (fun k e=> ?_) (Nat.le_refl _),h5,h6,h7,fun y hy=>(h8 y hy).go (.AV ha) (fun _ _ _ e=>e),fun y hy=>(h9 y hy).go (.AV ha) (fun _ _ _ e=>e),h10.go (.AV ha) (fun _ _ _ e=>e)⟩;have:=h4.lt k e;exact ha.2 k this.1 this.2
theorem aK3:(Tryz.prog.info? 63).map (fun i=>(i.zero,i.size,i.bytes))=some (some (.agg #[.string ⟨#[]⟩,.int .i64 0,.slice none 0 0,.slice none 0 0]),4,72):=by kernel_rfl
theorem bh6 (x:fZ): ∀u ∈ fZ.f x,u.oneCell'=true:=by
 intro u hu; simp [fZ.f] at hu;rcases hu with rfl | rfl | rfl | rfl <;> rfl
structure uU (B:Nat) (W:World) (gD gT ay:Nat) (dx:List fZ):Prop where
 dec:W.heap[gD]? =some (.cells (jg.flatMap KY).toArray 93 (0,0))
 row:W.ownsRow B 63 4 (.slice (some ⟨gT,0,none⟩) dx.length ay) dx.length (dx.flatMap fZ.f)
 CY: ∀x ∈ dx,Q0 x
 made:nH ⟨jg,dx.map (·.t)⟩
 zero:jr ⟨jg,dx.map (·.t)⟩=(0,0)
 last:ER B gD W gT dx
 lt:B<=gD∧gD < gT
theorem uU.next {B gD gT ay:Nat} {W W':World} {dx:List fZ} (h:uU B W gD gT ay dx) (ha:rT B W W'):uU B W' gD gT ay dx:=
 ⟨(ha.2 gD h.lt.1 (Array.getElem?_eq_some_iff.1 h.dec).1).trans h.dec,AX h.row (fun k e=>by have:=h.row.lt k e; exact ha.2 k this.1 this.2) (Nat.le_refl _),h.CY,h.made,h.zero,h.last.next ha,h.lt⟩
theorem Qj {W:World} {gD:Nat} (h:W.heap[gD]? =some (.cells (jg.flatMap KY).toArray 93 (0,0))):jW W W.heap.size jg (some ⟨gD,0,none⟩) 0:=by
 have hg:Uv 0 W (.slice (some ⟨gD,0,none⟩) 9 9) jg:=Grow.made MR h (Nat.zero_le _) rfl (by unfold maxLen; decide);obtain ⟨ao,cap,e,-,hs⟩:=hg.says (fun d hd=>(aj6 d hd).1);injection e with e1 e2 e3;subst e1;exact hs.now
def st1:aP:=⟨dz 1 ⟨#[120]⟩ .nil 1 1 ⟨#[]⟩ .nil,.nil,.nil,jf none 0⟩
def EF (gl gB:Nat):fZ:=⟨⟨uj,0,gV,dD [st1]⟩,some ⟨gl,0,none⟩,2,some ⟨gB,0,none⟩,1⟩
theorem aI1 (gl gB:Nat):Q0 (EF gl gB):=⟨⟨⟨by show (4:Nat)<=maxLen; unfold maxLen; decide,wH,by show (2:Nat)<=maxLen; unfold maxLen; decide,by show (1:Nat)<=maxLen; unfold maxLen; decide⟩,Nat.le_refl 2⟩,rfl,⟨rfl,by show 0 < (1:Nat); decide⟩,by show (1:Nat)<=20; decide,⟨by decide,sb0,sb0,trivial⟩⟩
theorem ab4:jr ⟨jg,[⟨uj,0,gV,dD [st1]⟩]⟩=(0,0):=by decide +kernel
theorem ZP {w wf wg wi:World} {gE:Nat} (h1:wf.heap.size<=gE) (h0:w.heap.size < wf.heap.size) (h2:wg.heap[gE]? =some (.cells (jg.flatMap KY).toArray 93 (0,0))) (h3:gE < wg.heap.size) (hb:Below wg.heap.size wg wi) (hl:wi.heap[wg.heap.size]? =some (.cells F8 9 (0,0))) (hbw:Below w.heap.size w wg) (hr:wg.heap[w.heap.size]? =some (.cells #[.slice none 0 0,.slice none 0 0] 26 (0,0))):
 uU (w.heap.size + 1) ((((wi.setCell ⟨w.heap.size,0,none⟩ (.slice (some ⟨gE,0,none⟩) 9 9)).setCell ⟨w.heap.size,1,none⟩ (.slice (some ⟨wi.heap.size + 1,0,none⟩) 1 1)).alloc (.cells (aP.f st1).toArray 68)).alloc (.cells (fZ.f (EF wg.heap.size wi.heap.size)).toArray 63)) gE (wi.heap.size + 1) 1 [EF wg.heap.size wi.heap.size]∧
 Below w.heap.size w ((((wi.setCell ⟨w.heap.size,0,none⟩ (.slice (some ⟨gE,0,none⟩) 9 9)).setCell ⟨w.heap.size,1,none⟩ (.slice (some ⟨wi.heap.size + 1,0,none⟩) 1 1)).alloc (.cells (aP.f st1).toArray 68)).alloc (.cells (fZ.f (EF wg.heap.size wi.heap.size)).toArray 63)):=by
 have hlt:=(Array.getElem?_eq_some_iff.1 hl).1;have hwg:=(Array.getElem?_eq_some_iff.1 hr).1;have hA: ∀k,k < wi.heap.size->k≠w.heap.size->((((wi.setCell ⟨w.heap.size,0,none⟩ (.slice (some ⟨gE,0,none⟩) 9 9)).setCell ⟨w.heap.size,1,none⟩ (.slice (some ⟨wi.heap.size + 1,0,none⟩) 1 1)).alloc (.cells (aP.f st1).toArray 68)).alloc (.cells (fZ.f (EF wg.heap.size wi.heap.size)).toArray 63)).heap[k]? =wi.heap[k]?:=fun k hk hne=>by rw [heap_alloc_old _ _ (by simp [World.setCell]; omega),heap_alloc_old _ _ (by simpa [World.setCell] using hk),aV _ _ _ rfl (fun e=>hne e.symm),aV _ _ _ rfl (fun e=>hne e.symm)]
 have hz:((wi.setCell ⟨w.heap.size,0,none⟩ (.slice (some ⟨gE,0,none⟩) 9 9)).setCell ⟨w.heap.size,1,none⟩ (.slice (some ⟨wi.heap.size + 1,0,none⟩) 1 1)).heap.size=wi.heap.size:=by simp [World.setCell]
 have hB:((((wi.setCell ⟨w.heap.size,0,none⟩ (.slice (some ⟨gE,0,none⟩) 9 9)).setCell ⟨w.heap.size,1,none⟩ (.slice (some ⟨wi.heap.size + 1,0,none⟩) 1 1)).alloc (.cells (aP.f st1).toArray 68)).alloc (.cells (fZ.f (EF wg.heap.size wi.heap.size)).toArray 63)).heap[wi.heap.size]? =some (.cells (aP.f st1).toArray 68 (0,0)):=by rw [heap_alloc_old _ _ (by simp [World.setCell])];have:=heap_alloc_new ((wi.setCell ⟨w.heap.size,0,none⟩ (.slice (some ⟨gE,0,none⟩) 9 9)).setCell ⟨w.heap.size,1,none⟩ (.slice (some ⟨wi.heap.size + 1,0,none⟩) 1 1)) (.cells (aP.f st1).toArray 68);rw [hz] at this; exact this
 have hT:((((wi.setCell ⟨w.heap.size,0,none⟩ (.slice (some ⟨gE,0,none⟩) 9 9)).setCell ⟨w.heap.size,1,none⟩ (.slice (some ⟨wi.heap.size + 1,0,none⟩) 1 1)).alloc (.cells (aP.f st1).toArray 68)).alloc (.cells (fZ.f (EF wg.heap.size wi.heap.size)).toArray 63)).heap[wi.heap.size + 1]? =some (.cells (fZ.f (EF wg.heap.size wi.heap.size)).toArray 63 (0,0)):=by
  have e:(((wi.setCell ⟨w.heap.size,0,none⟩ (.slice (some ⟨gE,0,none⟩) 9 9)).setCell ⟨w.heap.size,1,none⟩ (.slice (some ⟨wi.heap.size + 1,0,none⟩) 1 1)).alloc (.cells (aP.f st1).toArray 68)).heap.size=wi.heap.size + 1:=by simp [World.setCell]
  have:=heap_alloc_new (((wi.setCell ⟨w.heap.size,0,none⟩ (.slice (some ⟨gE,0,none⟩) 9 9)).setCell ⟨w.heap.size,1,none⟩ (.slice (some ⟨wi.heap.size + 1,0,none⟩) 1 1)).alloc (.cells (aP.f st1).toArray 68)) (.cells (fZ.f (EF wg.heap.size wi.heap.size)).toArray 63);rw [e] at this; exact this
 have hbi:Below w.heap.size w wi:=hbw.trans (hb.mono hbw.size);have hsz:=hbi.size;have hbs:=hb.size;have hbz:Below w.heap.size w ((((wi.setCell ⟨w.heap.size,0,none⟩ (.slice (some ⟨gE,0,none⟩) 9 9)).setCell ⟨w.heap.size,1,none⟩ (.slice (some ⟨wi.heap.size + 1,0,none⟩) 1 1)).alloc (.cells (aP.f st1).toArray 68)).alloc (.cells (fZ.f (EF wg.heap.size wi.heap.size)).toArray 63)):=(((hbi.setCell (by simp) _).setCell (by simp) _).alloc (by rw [hz]; exact hsz) _).alloc (by simp [World.setCell]; omega) _;generalize ((((wi.setCell ⟨w.heap.size,0,none⟩ (.slice (some ⟨gE,0,none⟩) 9 9)).setCell ⟨w.heap.size,1,none⟩ (.slice (some ⟨wi.heap.size + 1,0,none⟩) 1 1)).alloc (.cells (aP.f st1).toArray 68)).alloc (.cells (fZ.f (EF wg.heap.size wi.heap.size)).toArray 63))=W at *;have hloc:W.heap[wg.heap.size]? =_:=(hA wg.heap.size hlt (by omega)).trans hl;have hok: ∀x ∈ [EF wg.heap.size wi.heap.size],Q0 x:=fun x hx=>by rw [List.mem_singleton.1 hx]; exact aI1 _ _
 refine ⟨⟨(hA gE (by have:=hb.size; omega) (by omega)).trans ((hb.block gE h3).trans h2),(Grow.made (f:=fZ.f) (m:=4) (xs:=[EF wg.heap.size wi.heap.size]) Aq (by rw [List.flatMap_singleton]; exact hT) (by omega) rfl (by show (1:Nat)<=maxLen; unfold maxLen; decide)).own,hok,U8 hok rfl (Nat.le_refl 1) (show (1:Nat)<=4 by decide),ab4,⟨[],_,[st1],.slice (some ⟨wi.heap.size,0,none⟩) 1 1,rfl,rfl,rfl,(Grow.made (f:=aP.f) (m:=11) (xs:=[st1]) Ap (by rw [List.flatMap_singleton]; exact hB) (by omega) rfl (by unfold maxLen; decide)).own,by decide,fun s hs=> ?_,fun k e=> ?_,fun s hs=> ?_,by simp,fun w' h'=> ?_⟩,by omega,by omega⟩,hbz⟩
 ·rw [List.mem_singleton.1 hs]; exact sw (by unfold bS; decide) (by unfold maxLen; decide) ⟨⟨by unfold bS; decide,by unfold bS; decide,rX,nil_le⟩,Nat.zero_le _⟩
 ·have e:wi.heap.size=k:=by injection e
  omega
 ·rw [List.mem_singleton.1 hs]; exact fun _ _=>⟨trivial,trivial,trivial,trivial⟩
 ·refine R6 ((h'.2 wg.heap.size (by omega) (fun e=> ?_) (Array.getElem?_eq_some_iff.1 hloc).1).trans hloc);rcases e with e | e
  ·have e:wi.heap.size=wg.heap.size:=by injection e
   omega
  ·have e:wi.heap.size + 1=wg.heap.size:=by injection e
   omega
def MkP (w:World) (e:Ending) (w':World):Prop:= ∃(gD gT ay:Nat) (dx:List fZ),e= .returned (.agg #[.slice (some ⟨gD,0,none⟩) 9 9,.slice (some ⟨gT,0,none⟩) dx.length ay])∧uU (w.heap.size + 1) w' gD gT ay dx∧Below w.heap.size w w'
def Z8:Prop:= ∀(p:Pr) (w:World) (aB aD:Option Addr) (aA ay:Nat),p.At w aB aD->p.ds.length<=aA->p.ts.length<=ay->
    Calls Tryz.prog 15 #[.agg #[.slice aB p.ds.length aA,.slice aD p.ts.length ay]] w fun e w'=>e= .returned (.tuple #[.int .i64 (jr p).1,.int .i64 (jr p).2])∧Below w.heap.size w w'
theorem XJ (hst: ∀T,Ee T 2) (href:Z8) (w:World) (zs:List Int) (ao:Option Addr) (cap:Nat) (hz:FK w w.heap.size zs ao) (hl:zs.length<=9223372036854775807):
 Calls Tryz.prog 5 #[.slice ao zs.length cap] w (MkP w):=by
 have HZ:=ah hz;clear hz;go_enter Tryz.func5,Tryz.ntmps5;go_upto_region 2 with fail;obtain ⟨w2,hw2⟩: ∃x,x=(((w.alloc (.cells #[.slice none 0 0,.slice none 0 0] 26)).alloc (.cells #[.slice ao zs.length cap,.int .i64 0] 56)).alloc (.cells #[.pointer (some ⟨w.heap.size + 1,0,none⟩),.int .i64 0,.int .i64 20,.bool false,.bool false,.bool false,.bool false,.slice none 0 0] 58)):=⟨_,rfl⟩;rw [<- hw2];obtain ⟨T,e0,e1,e2,e3,e4,e5⟩: ∃T:Tp,T.B0=w.heap.size∧w.heap.size + 1=T.bt∧w.heap.size + 1 + 1=T.bm∧T.ao=ao∧T.cap=cap∧T.zs=zs:=⟨⟨w.heap.size,w.heap.size + 1,w.heap.size + 1 + 1,ao,cap,zs,by omega,by omega,by omega⟩,rfl,rfl,rfl,rfl,rfl,rfl⟩;rw [e2,e1];have HS2:aj (w2.heap.size=w.heap.size + 3):=ah (by rw [hw2]; simp);have mZ:aj (Below w.heap.size w w2):=ah (by rw [hw2]; exact ((ak _ _).alloc (by simp) _).alloc (by simp <;> omega) _);have HR2:aj (w2.heap[w.heap.size]? =some (.cells #[.slice none 0 0,.slice none 0 0] 26 (0,0))):=ah (by rw [hw2,heap_alloc_old _ _ (by simp <;> omega),heap_alloc_old _ _ (by simp <;> omega)]; exact heap_alloc_new _ _);have UD:aj (dM w2 T none []):=ah (by
  have k1:w2.heap[T.bt]? =some (.cells #[.slice ao zs.length cap,.int .i64 0] 56 (0,0)):=by rw [hw2,<- e1,heap_alloc_old _ _ (by simp)];have:=heap_alloc_new (w.alloc (.cells #[.slice none 0 0,.slice none 0 0] 26)) (.cells #[.slice ao zs.length cap,.int .i64 0] 56);simpa using this
  have k2:w2.heap[T.bm]? =some (.cells #[.pointer (some ⟨w.heap.size + 1,0,none⟩),.int .i64 0,.int .i64 20,.bool false,.bool false,.bool false,.bool false,.slice none 0 0] 58 (0,0)):=by rw [hw2,<- e2];have:=heap_alloc_new ((w.alloc (.cells #[.slice none 0 0,.slice none 0 0] 26)).alloc (.cells #[.slice ao zs.length cap,.int .i64 0] 56)) (.cells #[.pointer (some ⟨w.heap.size + 1,0,none⟩),.int .i64 0,.int .i64 20,.bool false,.bool false,.bool false,.bool false,.slice none 0 0] 58);simpa using this
  refine ⟨⟨⟨0,Nat.zero_le _,by rw [k1,e3,e4,e5]; rfl⟩,by rw [e0,e3,e5]; exact HZ.o.below mZ.o,by rw [e5]; exact hl⟩,⟨0,20,false,false,false,false,.slice none 0 0,by unfold bS; decide,by rw [k2,e1],rfl,Grow.nil _ _ _ _ _ _⟩,by simp,by simp,by simp,by simp⟩)
 have aK:aj (T.B0=w.heap.size∧T.bt=w.heap.size + 1∧T.bm=w.heap.size + 2):=ah ⟨e0,e1.symm,by omega⟩;clear hw2 e0 e1 e2 e3 e4 e5 HZ;go_wp2_with fail;refine (O6 w2).mono ?_;rintro e w3 ⟨gD,rfl,hgD,FB,hb⟩;have P7:=ah (And.intro hgD (Array.getElem?_eq_some_iff.1 FB).1);have HI3:=ah (UD.o.below hb);have HB3:=ah hb;have HD3:=ah FB;clear hgD FB hb;go_upto_region 3 with fail;obtain ⟨pb,hpb⟩: ∃g,w3.heap.size=g:=⟨_,rfl⟩;generalize tQ:World.alloc w3 _=w4;have dO:aj (Below w3.heap.size w3 w4):=ah (by rw [<- tQ]; exact ak _ _);have wV:aj (w4.heap[pb]? =some (.cells #[.slice (some ⟨gD,0,none⟩) 9 9,.slice none 0 0] 26 (0,0))):=ah (by rw [<- tQ,<- hpb]; exact heap_alloc_new _ _);have HPB:=ah hpb;have HI4:=ah (HI3.o.below dO.o);have HD4:=ah ((dO.o.block _ P7.o.2).trans HD3.o);rw [hpb];clear tQ hpb HI3 HD3;have c0:=HI4.o.ptr;go_wp2_with fail;refine (lq T none [] 3 _ (by unfold bS; decide) HI4.o).mono ?_;rintro e w5 ⟨r,rfl,hr,-,hM,hI⟩;have hr3:r < 3:=by have:=hr (by decide); omega
 have hwn:IntKind.i64.wrap (2 + (r:Int))=2 + (r:Int):=IntWalk.i64_in _ (by omega);have iw:=ah hI;have fH:=ah hM;clear hM hI hr c0;go_upto_region 5 with fail;obtain ⟨nb,hnb⟩: ∃g,w5.heap.size=g:=⟨_,rfl⟩;generalize tC:World.alloc w5 _=w6;have HPM:aj (PM T w2 gD pb nb none w6 (.slice none 0 0) []):=ah (by
  have hb6:Below w5.heap.size w5 w6:=by rw [<- tC]; exact ak _ _
  have hn6:w6.heap[nb]? =some (.cells XY 9 (0,0)):=by rw [<- tC,<- hnb]; exact heap_alloc_new _ _
  have q1:=P7.o; have q2:=HPB.o; have q3:=aK.o; have q4:=HS2.o;have hp5:=fH.o.keep wV.o (by omega);have hd5:=fH.o.keep HD4.o (by omega);refine ⟨(hb6.block _ (Array.getElem?_eq_some_iff.1 hp5).1).trans hp5,(hb6.block _ (Array.getElem?_eq_some_iff.1 hd5).1).trans hd5,hn6,kP.nil _ _ _ _ _ _ _,by simp,rfl,iw.o.below hb6,?_,⟨by omega,by omega,by omega,by omega,by omega,?_⟩,by simp⟩
  ·exact (((Mm.of_below HB3.o).then_ (dO.o.mono HB3.o.size) dO.o.size).trans (Hx.refl _ _) fH.o.mm).then_ (hb6.mono (Nat.le_trans HB3.o.size (Nat.le_trans dO.o.size fH.o.size))) hb6.size
  ·have:=(Array.getElem?_eq_some_iff.1 hp5).1; omega)
 rw [hnb];have Ci:aj (w.heap.size<=gD):=ah (by have:=P7.o; have:=HS2.o; omega);clear tC hnb HI4 iw fH dO HB3 wV HD4 P7 HPB UD;go_wp2_with fail;go_loopw [7] (fun v7 wr=> ∃(k:Nat) (H:Option Nat) (vT:Value) (dx:List fZ),v7= .int .i64 k∧k<=2 + r∧dx.length=k∧PM T w2 gD pb nb H wr vT dx∧(0 < k-> ∃gT,vT.ownBlock=some gT∧ER (w.heap.size + 1) gD wr gT dx)) (fun i _=>2 + r - (intOf i).toNat)
 case atStart=>exact ⟨0,none,_,[],rfl,by omega,rfl,HPM.o,fun h=>absurd h (by decide)⟩
 case round=>
  obtain ⟨k,H,vT,dx,rfl,hk,aD5,hp,hlast⟩:=hrel;have HP:=ah hp;have tL:=ah aD5;have HLA:=ah hlast;clear hp aD5 hlast HPM;by_cases hlt:k < 2 + r
  ·clear HLA;obtain ⟨th,left,qa,qb,qc,qd,vH,kK,c0,c1,c2,c3,c4,c5,c6,c7,cf,hv,hrow⟩:=HP.o.mi.reads;have f1:=cf 1;clear c0 c2 c3 c4 c5 c6 c7 cf hv hrow kK;go_upto_region 9 with fail;generalize hW1:World.setCell wr _ _=wa;have J6:aj (PM T w2 gD pb nb H wa vT dx):=ah (by rw [<- hW1]; exact HP.o.th _);clear hW1 c1 f1 HP;obtain ⟨s,hs1,hs2,hs3⟩:=Rf (k:=k) (by omega);have cs:wa.cell? ⟨nb,k,none⟩=some (.string s):=(bg J6.o.nms hs2).2;have hk0:(0:Int)<=(k:Int):=by omega
   have hk4:(k:Int) < 4:=by omega
   have HS:=ah (And.intro hs1 hs3);clear hs1 hs2 hs3;go_upto_region 10 with fail;obtain ⟨gl,hgl⟩: ∃g,wa.heap.size=g:=⟨_,rfl⟩;obtain ⟨tb,htb⟩: ∃g,gl + 1=g:=⟨_,rfl⟩;generalize hWb:World.alloc (World.alloc wa _) _=wb;have Bt:aj (TM T wa H gl tb s H wb (.slice none 0 0) []):=ah (by rw [<- hWb,<- htb,<- hgl]; exact TM.start J6.o.mi J6.o.mi.hlt');have KE:=ah (And.intro hgl htb);rw [hgl,htb];clear hWb hgl htb cs
   go_upto_if 42 with fail
   go_cut [8] (fun s8 W'=>s8= .pointer (some ⟨tb,0,none⟩)∧ ∃vB l,l.length<=10∧TM T wa H gl tb s H W' vB l)
   case first=>
    by_cases hkz:k=0
    ·have aC8:((k:Int) == 0)=true:=(by rw [beq_iff_eq]; omega);clear hkz;have e28:decide ((k:Int) < 2 + (r:Int))=true:=(by rw [decide_eq_true_iff]; omega);go_wp2_with fail;rw [e28,aC8];go_loopw [9] (fun v9 wr=> ∃(q:Nat) (vB:Value) (l:List aP),v9= .int .i64 q∧1<=q∧q<=2 + r∧l.length + 1=q∧TM T wa H gl tb s H wr vB l) (fun i _=>2 + r - (intOf i).toNat)
     case atStart=>exact ⟨1,_,[],rfl,by decide,by omega,rfl,Bt.o⟩
     case round=>
      obtain ⟨q,vB,l,rfl,hq1,hq2,hql,vX⟩:=hrel;have HT:=ah vX;have HQ:=ah hql;clear vX hql Bt;by_cases hqn:q < 2 + r
      ·go_upto_region 14 with fail;have hd1:Below wr.heap.size wr (wr.drewN 1):=below_drewN (Below.refl _ _) 1;obtain ⟨s',hs1,hs2,hs3⟩:=Rf (k:=q) (by omega);have HN:aj (wr.heap[nb]? =some (.cells XY 9 (0,0))):=ah (J6.o.go HT.o.km.1 HT.o.km.2 HT.o.mi).nms;have Y0: ∀w',Below wr.heap.size wr w'->w'.cell? ⟨tb,3,none⟩=some vB:=fun w' h=>au ((h.block tb (Array.getElem?_eq_some_iff.1 HT.o.box).1).trans HT.o.box) rfl;have K1: ∀w',Below wr.heap.size wr w'->w'.cell? ⟨nb,q,none⟩=some (.string s'):=fun w' h=>au ((h.block nb (Array.getElem?_eq_some_iff.1 HN.o).1).trans HN.o) hs2;have hb0:(0:Int)<=(q:Int):=(by omega);have hb1:(q:Int) < 4:=(by omega);have HS':=ah hs3;clear hs1 hs2 hs3;refine bG (by kernel_rfl) rfl ?_;refine aY 0 8 [] [[],[0],[],[],[2,3],[2,3,4],[2,3,4,5],[2,3,4,5,6],[0,1,2,3,4,5,6,7],[0,1,2,3,4,5,6,7,8],[0,1,2,3,4,5,6,7,8,9]] [[],[],[],[],[],[],[],[]] (fun _ w'=>Below wr.heap.size wr w') (fun w w'=>Below w.heap.size w w') [48,49,50,51,52,53,54,55] rfl rfl (by rfl) (by kernel_rfl) (by kernel_rfl) (by kernel_rfl) (by kernel_rfl) (by kernel_rfl) (by rfl) (fun _=>Below.refl _ _) (by rfl) hd1 ?_;simp only [eP,jC]
       iterate 7
        apply aU.step
        case aM=>intro c A w' hok hC hO hD;have e8:=hO 8 (by rfl);have e6:=hO 6 (by rfl);have e9:=hO 9 (by rfl);simp [Act.eval] at e8 e6 e9;simp [Act.eval] at hD;simp [go_sem,gd,Oper.wp,hD,e8,e6,e9,Y0,hC,hb0,hb1,K1];exact aG.mk (Below.refl _ _) hC (bH.mk _ _)
        try simp only [bP]
       refine aU.some (fun v w'=> ∃bb,v= .slice (some ⟨bb,0,none⟩) 1 1∧wr.heap.size<=bb∧w'.heap[bb]? =some (.cells (aP.f (⟨dz 12 s' .nil 0 0 ⟨#[]⟩ .nil,.nil,.nil,oO⟩:aP)).toArray 68 (0,0))) ?_ ?_ ?_
       ·rintro v w1 w' hle ⟨g,h1,h2,h3⟩;exact ⟨g,h1,h2,(hle.block g (Array.getElem?_eq_some_iff.1 h3).1).trans h3⟩
       ·intro c A w' hok hC hO hD;simp [Act.eval] at hD;simp [go_sem,gd,Oper.wp,hD];exact aG.mk (d:=_) (v:= .slice (some ⟨_,0,none⟩) 1 1) (ak _ _) (hC.trans ((ak _ _).mono hC.size)) ⟨_,rfl,hC.size,heap_alloc_new _ _⟩
       try simp only [bP]
       refine aU.done ?_;intro wz bC
       try simp only [eP]
       iterate 7 refine jq ?_
       intro v7 h7;obtain ⟨bb,rfl,hbb,hcell⟩:=h7;clear hd1 Y0 K1 hb0 hb1;refine dJ.nil ?_;go_simp;refine bZ 8 [[],[0],[],[],[2,3],[2,3,4],[2,3,4,5],[2,3,4,5,6],[0,1,2,3,4,5,6,7],[0,1,2,3,4,5,6,7,8],[0,1,2,3,4,5,6,7,8,9]] rfl rfl rfl rfl rfl (by kernel_rfl) (by kernel_rfl) (by kernel_rfl) ?_;obtain ⟨i0,hi0,hz0,hz1,hz2⟩:=vZ (α:=Nat) (β:=Nat) LB;have Di:=ah (HT.o.go (Mm.of_below bC) (Hx.refl _ _) (HT.o.mi.below bC));have hkl:l.length + 1<=maxLen:=(by have:=HQ.o; unfold maxLen; omega);have hkb:(l.length + 1) * 176<=140737488355328:=(by have:=HQ.o; omega);refine wp_append_lies wz _ _ _ (by rfl) (tb + 1) 68 i0 _ 11 176 Tryz.underlying61 hi0 hz0 hz1 hz2 (by rfl) (by omega) vB l.length (l.flatMap aP.f) (by rfl) Di.o.row.own ⟨bb,0,none⟩ 1 1 (aP.f (⟨dz 12 s' .nil 0 0 ⟨#[]⟩ .nil,.nil,.nil,oO⟩:aP)) (by rfl) (by rfl) (gP hcell) (Kq _) (by decide) hkl hkb Di.o.sz _ rfl ?_;intro g' cap' w5 hown hgr hmv jy;clear hi0 hz0 hz1 hz2 hcell bC hbb hkl hkb;have Df:=ah (Di.o.push (ys:=[(⟨dz 12 s' .nil 0 0 ⟨#[]⟩ .nil,.nil,.nil,oO⟩:aP)]) (n:=l.length + 1) (fun y hy=>by rw [List.mem_singleton.1 hy]; exact fun _ _=>⟨trivial,trivial,trivial,trivial⟩) (fun y hy=>by rw [List.mem_singleton.1 hy]; exact xI (by unfold bS; decide) HS'.o wL uy sb0 sb0) rfl (by rw [List.flatMap_singleton]; exact hown) hgr hmv);have Br:=ah Df.o.1;have y3:w5.cell? ⟨tb,3,none⟩=some vB:=au Df.o.2 rfl;have f3:w5.frozen? ⟨tb,3,none⟩=false:=dH Df.o.2;clear hown hgr hmv jy Df Di;go_simp;refine aY 9 10 [] [[],[0],[],[],[2,3],[2,3,4],[2,3,4,5],[2,3,4,5,6],[0,1,2,3,4,5,6,7],[0,1,2,3,4,5,6,7,8],[0,1,2,3,4,5,6,7,8,9]] [[]] (fun _ w'=>w'=w5) (fun w w'=>w=w') [57] rfl rfl (by rfl) (by kernel_rfl) (by kernel_rfl) (by kernel_rfl) (by kernel_rfl) (by kernel_rfl) (by rfl) (fun _=>rfl) (by rfl) rfl ?_;simp only [eP,jC];apply aU.step
       case aM=>intro c A w' hok hC hO hD;have e8:=hO 8 (by rfl);simp [Act.eval] at e8;simp [Act.eval] at hD;simp [go_sem,gd,Oper.wp,hD,e8];exact aG.mk rfl hC (bH.mk _ _)
       try simp only [bP]
       refine aU.done ?_;intro wz bC
       try simp only [eP]
       refine jq ?_;refine dJ.nil ?_;go_simp;refine bZ 10 [[],[0],[],[],[2,3],[2,3,4],[2,3,4,5],[2,3,4,5,6],[0,1,2,3,4,5,6,7],[0,1,2,3,4,5,6,7,8],[0,1,2,3,4,5,6,7,8,9]] rfl rfl rfl rfl rfl (by kernel_rfl) (by kernel_rfl) (by kernel_rfl) ?_;subst bC;simp [go_sem,Oper.wp,y3,f3];refine bV rfl ?_;clear y3 f3;go_simp;go_wp2_with fail;go_roundw
       case rel=>exact ⟨q + 1,_,_,by go_num,by omega,by omega,by have:=HQ.o; simp; omega,Br.o⟩
       case measure=>simp [intOf]; omega
      ·go_wp2_with fail;go_meet;exact ⟨rfl,_,l,by have:=HQ.o; omega,HT.o⟩
    ·have aC8:((k:Int) == 0)=false:=(by rw [beq_eq_false_iff_ne]; omega);go_wp2_with fail;go_meet;exact ⟨rfl,_,[],by simp,Bt.o⟩
   obtain ⟨rfl,vB,l,aC9,vX⟩:=hcut;obtain ⟨wd,rfl⟩: ∃W:World,W=wc:=⟨_,rfl⟩;have HT:=ah vX;have HL:=ah aC9;clear vX aC9 Bt;go_upto_region 15 with fail;have HST:aj (∀w H (n:Int),dM w T H []->1<=n->n<=9->Calls Tryz.prog 14 #[.pointer (some ⟨T.bm,0,none⟩),.int .i64 2,.int .i64 n] w (Ta T H [] w)):=ah (fun w H n h1 h2 h3=>hst T w H [] n h1 (by decide) h2 h3);have HBM:aj (T.bt < wd.heap.size∧T.bm < wd.heap.size∧tb + 1<=wd.heap.size):=ah ⟨HT.o.mi.tape.lt,HT.o.mi.lt,HT.o.sz⟩;have hd1:CM T H wd (wd.drewN 1):=⟨H,HT.o.mi.below (below_drewN (Below.refl _ _) 1),Hx.refl _ _,Mm.of_below (below_drewN (Below.refl _ _) 1)⟩;have Y0: ∀w',CM T H wd w'->w'.cell? ⟨tb,3,none⟩=some vB:=fun w' ⟨H',h1,h2,h3⟩=>au (HT.o.go h3 h2 h1).box rfl;have K0: ∀w',CM T H wd w'->w'.cell? ⟨T.bm,0,none⟩=some (.pointer (some ⟨T.bt,0,none⟩)):=fun w' ⟨H',h1,_,_⟩=>h1.ptr;refine bG (by kernel_rfl) rfl ?_;refine aY 0 10 [] [[],[0],[],[],[3],[3,4],[3,4,5],[3,4,5,6],[3,4,5,6,7],[2,3,4,5,6,7,8],[0,1,2,3,4,5,6,7,8,9],[0,1,2,3,4,5,6,7,8,9,10],[0,1,2,3,4,5,6,7,8,9,10,11]] [[],[],[],[],[],[],[],[],[],[]] (fun _ w'=>CM T H wd w') (fun w w'=>Dj T w w') [58,59,60,61,62,63,64,65,66,67] rfl rfl (by rfl) (by kernel_rfl) (by kernel_rfl) (by kernel_rfl) (by kernel_rfl) (by kernel_rfl) (by rfl) (fun _=>Dj.refl _ _) (by rfl) hd1 ?_;simp only [eP,jC]
   iterate 7
    apply aU.step
    case aM=>intro c A w' hok hC hO hD;have e8:=hO 8 (by rfl);have e3:=hO 3 (by rfl);simp [Act.eval] at e8 e3;simp [Act.eval] at hD;simp [go_sem,gd,Oper.wp,hD,e8,e3,Y0,hC,K0];exact aG.mk (Dj.refl _ _) hC (bH.mk _ _)
    try simp only [bP]
   refine aU.some (fun v _=> ∃r':Nat,v= .int .i64 (r':Int)∧r' < 3) (fun _ _ _ _ h=>h) ?_ ?_
   ·intro c A w' hok hC hO hD;simp [Act.eval] at hD;simp [go_sem,gd,Oper.wp,hD];obtain ⟨H',h1,h2,h3⟩:=hC;refine (lq T H' [] 3 w' (by unfold bS; decide) h1).mono ?_;rintro e w2 ⟨r',rfl,hr1,-,hM,hI⟩;have hle:Dj T w' w2:=Dj.mk h1 hI (Hx.refl _ _) hM.mm;exact aG.mk hle (CM.le ⟨H',h1,h2,h3⟩ hle) ⟨r',rfl,by have:=hr1 (by decide); omega⟩
   refine aU.some (fun v w'=> ∃r':Nat,v= .int .i64 (1 + (r':Int))∧r' < 3) (fun _ _ _ _ h=>h) ?_ ?_
   ·intro c A w' hok hC hO hD;simp [Act.eval] at hD;obtain ⟨r',hr',h1⟩:=hD;have hwr:IntKind.i64.wrap (1 + (r':Int))=1 + (r':Int):=IntWalk.i64_in _ (by omega);simp [go_sem,gd,Oper.wp,hr',hwr];exact aG.mk (Dj.refl _ _) hC (⟨r',rfl,h1⟩)
   try simp only [bP]
   refine aU.some (fun v w'=> ∃(l2:List aP) (H2:Option Nat),dM w' T H2 []∧yP wd.heap.size H2 w' v l2∧(∀x ∈ l2,zf x.h x.b x.e)∧1<=l2.length∧l2.length<=9) ?_ ?_ ?_
   ·rintro v w1 w' hle ⟨l2,H2,h1,h2,h3⟩;obtain ⟨H3,k1,k2,k3⟩:=hle H2 h1;exact ⟨l2,H3,k1,h2.next (k3.Gi HBM.o.1 HBM.o.2.1) k2,h3⟩
   ·intro c A w' hok hC hO hD;simp [Act.eval] at hD;obtain ⟨bf3,⟨r',hr',h3'⟩,-⟩:=hD;simp [go_sem,gd,Oper.wp,bf3,hr'];obtain ⟨H',h1,h2,h3⟩:=hC;refine (HST.o w' H' (1 + (r':Int)) h1 (by omega) (by omega)).mono ?_;rintro e w2 ⟨v,l2,H2,rfl,hg,hok2,hl1,hl2,hx,hM,hI⟩;have hle:=Dj.mk h1 hI hx hM;exact aG.mk hle (CM.le ⟨H',h1,h2,h3⟩ hle) ⟨l2,H2,hI,hg.weak h3.size,hok2,hl1,hl2⟩
   try simp only [bP]
   refine aU.done ?_;intro wz bC
   try simp only [eP]
   iterate 7 refine jq ?_
   intro v7 h7 v8 h8 v9 h9;clear h7 h8;obtain ⟨l2,H2,hi2,hg2,hok2,hl1,hl2⟩:=h9;clear hd1 Y0 K0;refine MJ ?_;go_simp;obtain ⟨H2',k1,k2,k3⟩:=bC;obtain rfl:=hi2.uniq k1;have Di:=ah (HT.o.go k3 k2 k1);obtain ⟨g2,cap2,rfl,-,-⟩:=hg2.own.form (by omega);have HG2:=ah hg2;have uS:=ah (And.intro hok2 (And.intro hl1 hl2));have HVB:=ah HT.o.row.lt;clear hi2 hok2 hl1 hl2 k1 k2 k3 hg2;refine bZ 10 [[],[0],[],[],[3],[3,4],[3,4,5],[3,4,5,6],[3,4,5,6,7],[2,3,4,5,6,7,8],[0,1,2,3,4,5,6,7,8,9],[0,1,2,3,4,5,6,7,8,9,10],[0,1,2,3,4,5,6,7,8,9,10,11]] rfl rfl rfl rfl rfl (by kernel_rfl) (by kernel_rfl) (by kernel_rfl) ?_;obtain ⟨i0,hi0,hz0,hz1,hz2⟩:=vZ (α:=Nat) (β:=Nat) LB;have hkm:0 < l2.length:=uS.o.2.1;have hkl:l.length + l2.length<=maxLen:=by have:=HL.o; have:=uS.o.2.2; unfold maxLen; omega
   have hkb:(l.length + l2.length) * 176<=140737488355328:=by have:=HL.o; have:=uS.o.2.2; omega
   refine wp_append_lies wz _ _ _ (by rfl) (tb + 1) 68 i0 _ 11 176 Tryz.underlying61 hi0 hz0 hz1 hz2 (by rfl) (by omega) vB l.length (l.flatMap aP.f) (by rfl) Di.o.row.own ⟨g2,0,none⟩ l2.length cap2 (l2.flatMap aP.f) (by rfl) (um Ap l2) (kP.news Ap HG2.o rfl) (aL8 _) hkm hkl hkb Di.o.sz _ rfl ?_;intro g' cap' w5 hown hgr hmv jy;clear hi0 hz0 hz1 hz2 hkl hkb hkm;have Df:=ah (Di.o.push (ys:=l2) (n:=l.length + l2.length) (fun y hy=>(HG2.o.stay y hy).weak HBM.o.2.2 (fun k q1 q2 e=>by
    rcases e with e | e
    ·have:=(HVB.o k e).2; omega
    ·exact .inr e)) uS.o.1 rfl hown hgr hmv)
   have Br:=ah Df.o.1;have VX:aj (0 < (l++l2).length∧(l++l2).length<=19):=ah (by rw [List.length_append]; have:=HL.o; have:=uS.o.2.1; have:=uS.o.2.2; omega);have y3:w5.cell? ⟨tb,3,none⟩=some vB:=au Df.o.2 rfl;have f3:w5.frozen? ⟨tb,3,none⟩=false:=dH Df.o.2;clear hown hgr hmv jy Df Di HG2 uS HVB HL HT;generalize l++l2=l6 at *;go_simp;refine aY 11 12 [] [[],[0],[],[],[3],[3,4],[3,4,5],[3,4,5,6],[3,4,5,6,7],[2,3,4,5,6,7,8],[0,1,2,3,4,5,6,7,8,9],[0,1,2,3,4,5,6,7,8,9,10],[0,1,2,3,4,5,6,7,8,9,10,11]] [[]] (fun _ w'=>w'=w5) (fun w w'=>w=w') [69] rfl rfl (by rfl) (by kernel_rfl) (by kernel_rfl) (by kernel_rfl) (by kernel_rfl) (by kernel_rfl) (by rfl) (fun _=>rfl) (by rfl) rfl ?_;simp only [eP,jC];apply aU.step
   case aM=>intro c A w' hok hC hO hD;have e8:=hO 8 (by rfl);simp [Act.eval] at e8;simp [Act.eval] at hD;simp [go_sem,gd,Oper.wp,hD,e8];exact aG.mk rfl hC (bH.mk _ _)
   try simp only [bP]
   refine aU.done ?_;intro wz bC
   try simp only [eP]
   refine jq ?_;refine dJ.nil ?_;go_simp;refine bZ 12 [[],[0],[],[],[3],[3,4],[3,4,5],[3,4,5,6],[3,4,5,6,7],[2,3,4,5,6,7,8],[0,1,2,3,4,5,6,7,8,9],[0,1,2,3,4,5,6,7,8,9,10],[0,1,2,3,4,5,6,7,8,9,10,11]] rfl rfl rfl rfl rfl (by kernel_rfl) (by kernel_rfl) (by kernel_rfl) ?_;subst bC;simp [go_sem,Oper.wp,y3,f3];refine bV rfl ?_;clear y3 f3;go_simp;generalize fU:World.setCell wz _ _=w7 at *;clear fU;obtain ⟨v6,Cm⟩: ∃v,aj (TM T wa H gl tb s H2 w7 v l6):=⟨_,Br⟩;clear Br;have c0:=Cm.o.mi.ptr;go_upto_region 16 with fail;go_cut [79] (fun s79 W'=> ∃q:Bool,s79= .bool q∧TM T wa H gl tb s H2 W' v6 l6)
   case first=>
    cases hkb:((k:Int) == 0)
    ·go_wp2_with fail;go_meet;exact ⟨_,rfl,Cm.o⟩
    ·go_wp2_with fail;refine (lq T H2 [] 3 _ (by unfold bS; decide) Cm.o.mi).mono ?_;rintro e w8 ⟨r',rfl,-,-,hM,hI⟩;have Px:=ah (Cm.o.go hM.mm (Hx.refl _ _) hI);clear hM hI;go_wp2_with fail;go_meet;exact ⟨_,rfl,Px.o⟩
   obtain ⟨q,rfl,vX⟩:=hcut;obtain ⟨w8,rfl⟩: ∃W:World,W=wc:=⟨_,rfl⟩;have HT:=ah vX;clear vX Cm c0
   go_upto_if 79 with fail
   go_cut [8] (fun s8 W'=>s8= .pointer (some ⟨tb,0,none⟩)∧ ∃vB l,(0 < l.length∧l.length<=20)∧TM T wa H gl tb s H2 W' vB l)
   case first=>
    cases q
    ·go_wp2_with fail;go_meet;exact ⟨rfl,_,_,by have:=VX.o; omega,HT.o⟩
    ·go_upto_region 17 with fail;have hd1:Below w8.heap.size w8 (w8.drewN 1):=below_drewN (Below.refl _ _) 1;obtain ⟨s',hs1,hs2,hs3⟩:=Rf (k:=1) (by decide);have HN:aj (w8.heap[nb]? =some (.cells XY 9 (0,0))):=ah (J6.o.go HT.o.km.1 HT.o.km.2 HT.o.mi).nms;have Y0: ∀w',Below w8.heap.size w8 w'->w'.cell? ⟨tb,3,none⟩=some v6:=fun w' h=>au ((h.block tb (Array.getElem?_eq_some_iff.1 HT.o.box).1).trans HT.o.box) rfl;have K1: ∀w',Below w8.heap.size w8 w'->w'.cell? ⟨nb,1,none⟩=some (.string s'):=fun w' h=>au ((h.block nb (Array.getElem?_eq_some_iff.1 HN.o).1).trans HN.o) hs2;have HS':=ah hs3;clear hs1 hs2 hs3;refine bG (by kernel_rfl) rfl ?_;refine aY 0 7 [] [[],[0],[],[2],[2,3],[2,3,4],[2,3,4,5],[0,1,2,3,4,5,6],[0,1,2,3,4,5,6,7],[0,1,2,3,4,5,6,7,8]] [[],[],[],[],[],[],[]] (fun _ w'=>Below w8.heap.size w8 w') (fun w w'=>Below w.heap.size w w') [80,81,82,83,84,85,86] rfl rfl (by rfl) (by kernel_rfl) (by kernel_rfl) (by kernel_rfl) (by kernel_rfl) (by kernel_rfl) (by rfl) (fun _=>Below.refl _ _) (by rfl) hd1 ?_;simp only [eP,jC]
     iterate 6
      apply aU.step
      case aM=>intro c A w' hok hC hO hD;have e8:=hO 8 (by rfl);have e6:=hO 6 (by rfl);simp [Act.eval] at e8 e6;simp [Act.eval] at hD;simp [go_sem,gd,Oper.wp,hD,e8,e6,Y0,hC,K1];exact aG.mk (Below.refl _ _) hC (bH.mk _ _)
      try simp only [bP]
     refine aU.some (fun v w'=> ∃bb,v= .slice (some ⟨bb,0,none⟩) 1 1∧w8.heap.size<=bb∧w'.heap[bb]? =some (.cells (aP.f (⟨dz 13 s' .nil 0 0 ⟨#[]⟩ .nil,.nil,.nil,oO⟩:aP)).toArray 68 (0,0))) ?_ ?_ ?_
     ·rintro v w1 w' hle ⟨g,h1,h2,h3⟩;exact ⟨g,h1,h2,(hle.block g (Array.getElem?_eq_some_iff.1 h3).1).trans h3⟩
     ·intro c A w' hok hC hO hD;simp [Act.eval] at hD;simp [go_sem,gd,Oper.wp,hD];exact aG.mk (d:=_) (v:= .slice (some ⟨_,0,none⟩) 1 1) (ak _ _) (hC.trans ((ak _ _).mono hC.size)) ⟨_,rfl,hC.size,heap_alloc_new _ _⟩
     try simp only [bP]
     refine aU.done ?_;intro wz bC
     try simp only [eP]
     iterate 6 refine jq ?_
     intro v6 h6;obtain ⟨bb,rfl,hbb,hcell⟩:=h6;clear hd1 Y0 K1;refine MJ ?_;go_simp;refine bZ 7 [[],[0],[],[2],[2,3],[2,3,4],[2,3,4,5],[0,1,2,3,4,5,6],[0,1,2,3,4,5,6,7],[0,1,2,3,4,5,6,7,8]] rfl rfl rfl rfl rfl (by kernel_rfl) (by kernel_rfl) (by kernel_rfl) ?_;obtain ⟨i0,hi0,hz0,hz1,hz2⟩:=vZ (α:=Nat) (β:=Nat) LB;have Di:=ah (HT.o.go (Mm.of_below bC) (Hx.refl _ _) (HT.o.mi.below bC));have hkl:l6.length + 1<=maxLen:=(by have:=VX.o; unfold maxLen; omega);have hkb:(l6.length + 1) * 176<=140737488355328:=(by have:=VX.o; omega);refine wp_append_lies wz _ _ _ (by rfl) (tb + 1) 68 i0 _ 11 176 Tryz.underlying61 hi0 hz0 hz1 hz2 (by rfl) (by omega) v6 l6.length (l6.flatMap aP.f) (by rfl) Di.o.row.own ⟨bb,0,none⟩ 1 1 (aP.f (⟨dz 13 s' .nil 0 0 ⟨#[]⟩ .nil,.nil,.nil,oO⟩:aP)) (by rfl) (by rfl) (gP hcell) (Kq _) (by decide) hkl hkb Di.o.sz _ rfl ?_;intro g' cap' w5 hown hgr hmv jy;clear hi0 hz0 hz1 hz2 hcell bC hbb hkl hkb;have Df:=ah (Di.o.push (ys:=[(⟨dz 13 s' .nil 0 0 ⟨#[]⟩ .nil,.nil,.nil,oO⟩:aP)]) (n:=l6.length + 1) (fun y hy=>by rw [List.mem_singleton.1 hy]; exact fun _ _=>⟨trivial,trivial,trivial,trivial⟩) (fun y hy=>by rw [List.mem_singleton.1 hy]; exact xI (by unfold bS; decide) HS'.o wL uy sb0 sb0) rfl (by rw [List.flatMap_singleton]; exact hown) hgr hmv);have Br:=ah Df.o.1;have y3:w5.cell? ⟨tb,3,none⟩=some v6:=au Df.o.2 rfl;have f3:w5.frozen? ⟨tb,3,none⟩=false:=dH Df.o.2;clear hown hgr hmv jy Df Di;go_simp;refine aY 8 9 [] [[],[0],[],[2],[2,3],[2,3,4],[2,3,4,5],[0,1,2,3,4,5,6],[0,1,2,3,4,5,6,7],[0,1,2,3,4,5,6,7,8]] [[]] (fun _ w'=>w'=w5) (fun w w'=>w=w') [88] rfl rfl (by rfl) (by kernel_rfl) (by kernel_rfl) (by kernel_rfl) (by kernel_rfl) (by kernel_rfl) (by rfl) (fun _=>rfl) (by rfl) rfl ?_;simp only [eP,jC];apply aU.step
     case aM=>intro c A w' hok hC hO hD;have e8:=hO 8 (by rfl);simp [Act.eval] at e8;simp [Act.eval] at hD;simp [go_sem,gd,Oper.wp,hD,e8];exact aG.mk rfl hC (bH.mk _ _)
     try simp only [bP]
     refine aU.done ?_;intro wz bC
     try simp only [eP]
     refine jq ?_;refine dJ.nil ?_;go_simp;refine bZ 9 [[],[0],[],[2],[2,3],[2,3,4],[2,3,4,5],[0,1,2,3,4,5,6],[0,1,2,3,4,5,6,7],[0,1,2,3,4,5,6,7,8]] rfl rfl rfl rfl rfl (by kernel_rfl) (by kernel_rfl) (by kernel_rfl) ?_;subst bC;simp [go_sem,Oper.wp,y3,f3];refine bV rfl ?_;clear y3 f3;go_simp;go_wp2_with fail;go_meet;exact ⟨rfl,_,_,by rw [List.length_append]; have:=VX.o; simp; omega,Br.o⟩
   obtain ⟨rfl,vB,l,aD0,vX⟩:=hcut;obtain ⟨w9,rfl⟩: ∃W:World,W=wc:=⟨_,rfl⟩;have HT:=ah vX;have HL:=ah aD0;clear vX aD0 VX HST;have xM:=ah (J6.o.go HT.o.km.1 HT.o.km.2 HT.o.mi);obtain ⟨ab,cb,rfl,hst⟩:=yP.says HT.o.row HT.o.ok;have dF:=ah hst;clear hst;have y0:w9.cell? ⟨tb,0,none⟩=some (.string s):=au HT.o.box rfl;have y1:w9.cell? ⟨tb,1,none⟩=some (.int .i64 0):=au HT.o.box rfl;have y2:w9.cell? ⟨tb,2,none⟩=some (.slice (some ⟨gl,0,none⟩) 2 2):=au HT.o.box rfl;have y3:w9.cell? ⟨tb,3,none⟩=some (.slice ab (dD l).len cb):=au HT.o.box rfl;have yT:w9.cell? ⟨pb,1,none⟩=some vT:=au xM.o.box rfl;have HX:aj (gu (nb + 1) (zM vT.ownBlock H2) w9 (fZ.I (⟨⟨s,0,gV,dD l⟩,some ⟨gl,0,none⟩,2,ab,cb⟩:fZ))):=ah (fun w' h'=>by
    have q1:=J6.o.sz; have q2:=KE.o; have q3:=J6.o.gt.lt;have hl:=(Array.getElem?_eq_some_iff.1 HT.o.loc).1;refine ⟨R6 ((h'.2 gl (by omega) (fun e=> ?_) hl).trans HT.o.loc),dF.o w' (h'.weak (by omega) (fun k h1 h2 e=> ?_))⟩
    ·rcases e with e | e
     ·have:=(q3 gl e).2; omega
     ·have:=HT.o.hne gl e; omega
    ·rcases e with e | e
     ·have:=(q3 k e).2; omega
     ·exact e)
   have nK:aj (Q0 (⟨⟨s,0,gV,dD l⟩,some ⟨gl,0,none⟩,2,ab,cb⟩:fZ)):=ah ⟨⟨⟨HS.o.2,wH,by show (2:Nat)<=maxLen; unfold maxLen; decide,by show (dD l).len<=maxLen; rw [sD]; have:=HL.o; unfold maxLen; omega⟩,Nat.le_refl 2⟩,rfl,⟨rfl,by show 0 < (dD l).len; rw [sD]; have:=HL.o; omega⟩,by show (dD l).len<=20; rw [sD]; have:=HL.o; omega,OL HT.o.ok⟩;have Po:=ah (xM.o.go (Mm.of_below (ak w9 (.cells (fZ.f (⟨⟨s,0,gV,dD l⟩,some ⟨gl,0,none⟩,2,ab,cb⟩:fZ)).toArray 63))) (Hx.refl _ _) (xM.o.mi.below (ak _ _)));have jv:=ah (gP (heap_alloc_new w9 (.cells (fZ.f (⟨⟨s,0,gV,dD l⟩,some ⟨gl,0,none⟩,2,ab,cb⟩:fZ)).toArray 63)));obtain ⟨i0,hi,hz0,hz1,hz2⟩:=vZ (α:=Nat) (β:=Nat) aK3;have hbs:nb + 1<=w9.heap.size + 1:=Nat.le_succ_of_le xM.o.sz;have hkl:dx.length + 1<=maxLen:=by rw [tL.o]; unfold maxLen; omega
   have hkb:(dx.length + 1) * 72<=140737488355328:=by rw [tL.o]; omega
   go_wp2_with (at_builtin; refine wpList_append_lies _ rfl _ _ 24 rfl (nb + 1) 63 i0 _ 4 72 Tryz.underlying24 hi hz0 hz1 hz2 rfl (by decide) _ _ _ rfl Po.o.gt.own ⟨w9.heap.size,0,none⟩ 1 1 (fZ.f (⟨⟨s,0,gV,dD l⟩,some ⟨gl,0,none⟩,2,ab,cb⟩:fZ)) rfl rfl jv.o (bh6 _) (by decide) hkl hkb (by simpa using hbs) _ rfl ?_);clear hi hz0 hz1 hz2 hbs hkl hkb;intro g' cap2 Uq hown hgr hmv hlt';have YR:=ah (Po.o.push (HX.o.go (nP.of_below (ak _ _)) (fun _ _ _ e=>e)) nK.o (by rw [tL.o]; exact HS.o.1) rfl hown hgr (by simpa using hmv));have HLR:aj (ER (w.heap.size + 1) gD (Uq.setCell ⟨pb,1,none⟩ (.slice (some ⟨g',0,none⟩) (dx.length + 1) cap2)) g' (dx++[(⟨⟨s,0,gV,dD l⟩,some ⟨gl,0,none⟩,2,ab,cb⟩:fZ)])):=ah (ak2 J6.o HT.o (by rw [sD]) (by have:=Ci.o; have:=J6.o.lt; omega) (by have:=HL.o; omega) (fun k h1 h2 h3=>(aV _ _ _ rfl (by show pb≠k; omega)).trans ((hgr.block k (by simp; omega) (fun e=>h2 e.symm)).trans ((ak w9 _).block k h1))) (by have:=hgr.size; simp [World.setCell] at this ⊢; omega) (by
    rcases hmv with h | h
    ·exact .inl h
    ·right; omega))
   have z1:Uq.cell? ⟨pb,1,none⟩=some vT:=au YR.o.2 rfl;have f1:Uq.frozen? ⟨pb,1,none⟩=false:=dH YR.o.2;clear hown hgr hmv hlt' y0 y1 y2 y3 yT jv Po HX dF nK HT xM;go_wp2_with fail;go_roundw
   case rel=>exact ⟨k + 1,H2,_,_,by go_num,by omega,by simp [tL.o],YR.o.1,fun _=>⟨g',rfl,HLR.o⟩⟩
   case measure=>simp [intOf]; omega
  ·have hk2:k=2 + r:=by omega
   obtain ⟨gT,TL,hLR⟩:=HLA.o (by omega);obtain ⟨Gx,ay,rfl,-,-⟩:=HP.o.gt.own.form (by rw [tL.o]; omega);obtain rfl:Gx=gT:=by injection TL
   have HLR:=ah hLR;have HAT:aj (Pr.At wr ⟨jg,dx.map (·.t)⟩ (some ⟨gD,0,none⟩) (some ⟨Gx,0,none⟩)∧dx.length<=ay):=ah (by obtain ⟨ao,cp,e,hc,hs⟩:=Ib.says HP.o.gt (fun x hx=>(HP.o.CY x hx).1);injection e with e1 e2 e3;subst e1 e3;exact ⟨⟨by show 9<=maxLen; unfold maxLen; decide,by show (dx.map (·.t)).length<=maxLen; rw [List.length_map,tL.o]; unfold maxLen; omega,Qj HP.o.dec,hs.now⟩,hc⟩);have HRF:aj (Calls Tryz.prog 15 #[.agg #[.slice (some ⟨gD,0,none⟩) 9 9,.slice (some ⟨Gx,0,none⟩) dx.length ay]] wr fun e w'=>e= .returned (.tuple #[.int .i64 (jr ⟨jg,dx.map (·.t)⟩).1,.int .i64 (jr ⟨jg,dx.map (·.t)⟩).2])∧Below wr.heap.size wr w'):=ah (by have:=href ⟨jg,dx.map (·.t)⟩ wr (some ⟨gD,0,none⟩) (some ⟨Gx,0,none⟩) 9 ay HAT.o.1 (Nat.le_refl 9) (by show (dx.map (·.t)).length<=ay; rw [List.length_map]; exact HAT.o.2);rw [show (Pr.ts ⟨jg,dx.map (·.t)⟩).length=dx.length from List.length_map _] at this;exact this);have y0:=au (j:=0) HP.o.box rfl;have y1:=au (j:=1) HP.o.box rfl;have HRW:aj (wr.heap[w.heap.size]? =some (.cells #[.slice none 0 0,.slice none 0 0] 26 (0,0))):=ah (HP.o.km.keep HR2.o (by have:=aK.o; omega) (by have:=aK.o; omega) (by simp));have zU:aj (Below w.heap.size w wr):=ah (Zd mZ.o HP.o.km (by have:=aK.o; omega) (by have:=aK.o; omega));clear hLR TL HLA hk;go_wp2_with fail;refine HRF.o.mono ?_;rintro e wf ⟨rfl,hb⟩;have HBF:=ah hb;have HMO:aj ((jr ⟨jg,dx.map (·.t)⟩).1=0->uU (w.heap.size + 1) wf gD Gx ay dx):=ah (fun hz=>uU.next (W:=wr) ⟨HP.o.dec,AX HP.o.gt.own (fun _ _=>rfl) (by have:=Ci.o; have:=HP.o.lt; omega),HP.o.CY,U8 HP.o.CY HP.o.nm (by rw [tL.o]; omega) (by rw [tL.o]; omega),ak8 hz,HLR.o,by have:=HP.o.lt; have:=HS2.o; omega,by have:=(HP.o.gt.lt Gx rfl).1; have:=HP.o.lt; omega⟩ (dB hb));have z0:wf.cell? ⟨pb,0,none⟩=some (.slice (some ⟨gD,0,none⟩) 9 9):=au ((hb.block pb (Array.getElem?_eq_some_iff.1 HP.o.box).1).trans HP.o.box) rfl;have z1:wf.cell? ⟨pb,1,none⟩=some (.slice (some ⟨Gx,0,none⟩) dx.length ay):=au ((hb.block pb (Array.getElem?_eq_some_iff.1 HP.o.box).1).trans HP.o.box) rfl;have Mt:aj (wf.heap[w.heap.size]? =some (.cells #[.slice none 0 0,.slice none 0 0] 26 (0,0))):=ah ((hb.block _ (Array.getElem?_eq_some_iff.1 HRW.o).1).trans HRW.o);have Uy:aj (Below w.heap.size w wf):=ah (zU.o.trans (hb.mono zU.o.size));have r0:wf.cell? ⟨w.heap.size,0,none⟩=some (.slice none 0 0):=au Mt.o rfl;have r1:wf.cell? ⟨w.heap.size,1,none⟩=some (.slice none 0 0):=au Mt.o rfl;have rf: ∀j,wf.frozen? ⟨w.heap.size,j,none⟩=false:=fun j=>dH Mt.o;clear hb HRF HAT HBF HRW y0 y1;generalize jr ⟨jg,dx.map (·.t)⟩=res at *;obtain ⟨re,rl⟩:=res;cases hz:(re != 0)
   ·go_wp2_with fail;have hre:re=0:=(by simpa using hz);have NG:=ah ((HMO.o hre).next (rT.trans (qK wf ⟨w.heap.size,0,none⟩ (.slice (some ⟨gD,0,none⟩) 9 9) (Nat.lt_succ_self w.heap.size)) (qK (wf.setCell ⟨w.heap.size,0,none⟩ (.slice (some ⟨gD,0,none⟩) 9 9)) ⟨w.heap.size,1,none⟩ (.slice (some ⟨Gx,0,none⟩) dx.length ay) (Nat.lt_succ_self w.heap.size))));have jY:aj (Below w.heap.size w ((wf.setCell ⟨w.heap.size,0,none⟩ (.slice (some ⟨gD,0,none⟩) 9 9)).setCell ⟨w.heap.size,1,none⟩ (.slice (some ⟨Gx,0,none⟩) dx.length ay))):=ah ((Uy.o.setCell (by simp) _).setCell (by simp) _);exact bodyPost_ret (v:= .agg #[.slice (some ⟨gD,0,none⟩) 9 9,.slice (some ⟨Gx,0,none⟩) dx.length ay]) (by simp [results,Tryz.results5,go_sem,r0,r1]) rfl ⟨gD,Gx,ay,dx,rfl,NG.o,jY.o⟩
   ·clear HMO z0 z1 HP HLR tL;go_upto_region 21 with fail;go_wp2_with fail;refine (O6 wf).mono ?_;rintro e wg ⟨gE,rfl,hgE,hcE,hb⟩;have HE:=ah (And.intro hgE (And.intro hcE (Array.getElem?_eq_some_iff.1 hcE).1));have HBG:=ah (Uy.o.trans (hb.mono Uy.o.size));have E9:=ah ((hb.block _ (Array.getElem?_eq_some_iff.1 Mt.o).1).trans Mt.o);clear hgE hcE hb r0 r1 rf;go_wp2_with fail;refine (Iz 1 _).mono ?_;rintro e wh ⟨rfl,hb⟩;have HLh:aj (wh.heap[wg.heap.size]? =some (.cells F8 9 (0,0))∧wg.heap.size < wh.heap.size):=ah (by have h1:=(hb.block wg.heap.size (by simp)).trans (heap_alloc_new wg (.cells F8 9));exact ⟨h1,(Array.getElem?_eq_some_iff.1 h1).1⟩);have HBh:aj (Below wg.heap.size wg wh):=ah ((ak _ _).trans (hb.mono (by simp)));clear hb;go_wp2_with fail;refine (eZ ⟨#[120]⟩ 1 1 ⟨#[]⟩ .nil none 0 wh).mono ?_;rintro e wi ⟨rfl,hb⟩;have HLi:=ah ((hb.block _ HLh.o.2).trans HLh.o.1);have HBi:=ah (HBh.o.trans (hb.mono HBh.o.size));clear hb HLh HBh;have HRi:aj (wi.heap[w.heap.size]? =some (.cells #[.slice none 0 0,.slice none 0 0] 26 (0,0))):=ah ((HBi.o.block _ (Array.getElem?_eq_some_iff.1 E9.o).1).trans E9.o);have r0:wi.cell? ⟨w.heap.size,0,none⟩=some (.slice none 0 0):=au HRi.o rfl;have r1:wi.cell? ⟨w.heap.size,1,none⟩=some (.slice none 0 0):=au HRi.o rfl;have rf: ∀j,wi.frozen? ⟨w.heap.size,j,none⟩=false:=fun j=>dH HRi.o;have hlt2:w.heap.size < wi.heap.size:=(Array.getElem?_eq_some_iff.1 HRi.o).1;unfold dS dz jf;go_wp2_with fail;have NG:=ah (ZP HE.o.1 (by have:=Uy.o.size; have:=(Array.getElem?_eq_some_iff.1 Mt.o).1; omega) HE.o.2.1 HE.o.2.2 HBi.o HLi.o HBG.o E9.o);exact bodyPost_ret (v:= .agg #[.slice (some ⟨gE,0,none⟩) 9 9,.slice (some ⟨wi.heap.size + 1,0,none⟩) 1 1]) (by simp [results,Tryz.results5,go_sem,r0,r1,hlt2,Nat.lt_succ_of_lt hlt2]) rfl ⟨gE,wi.heap.size + 1,1,_,rfl,NG.o.1,NG.o.2⟩
theorem Dx {α:Type} {f:α->List Value} {m:Nat} {ty:TypeId} {B:Nat} {w:World} {g n cap:Nat} {xs:List α} (hf: ∀x,(f x).length=m) (h:w.ownsRow B ty m (.slice (some ⟨g,0,none⟩) n cap) xs.length (xs.flatMap f)):xs.length<=cap∧g < w.heap.size∧ ∀k x,xs[k]? =some x-> ∀j u,(f x)[j]? =some u->w.cell? ⟨g,k * m + j,none⟩=some u:=by
 rcases h.2 with ⟨h1,-⟩ | ⟨g',cap',cur,h1,h2,h3,h4,h5,h6,h7⟩
 ·cases h1
 ·injection h1 with e1 e2 e3; injection e1 with e1; injection e1 with e1; subst e1; subst e3;refine ⟨h4,(Array.getElem?_eq_some_iff.1 h3).1,fun k x hk j u hu=> ?_⟩;have hF:=flat_get hf xs k x j u hk hu;rw [<- h7] at hF;have hlt:=(List.getElem?_eq_some_iff.1 hF).1;rw [List.getElem?_take_of_lt (by rw [List.length_take] at hlt; omega)] at hF;exact au h3 (by rw [<- hF]; simp)
theorem Yd {B:Nat} {w:World} {g n cap:Nat} {xs:List fZ} (h:w.ownsRow B 63 4 (.slice (some ⟨g,0,none⟩) n cap) xs.length (xs.flatMap fZ.f)) (hx: ∀x ∈ xs,(x.t.Ok∧x.t.bM.length<=x.fq)∧x.I w):iN w w.heap.size (xs.map (·.t)) (some ⟨g,0,none⟩) 0:=by
 obtain ⟨-,hg,hc⟩:=Dx Aq h;exact OM xs 0 hx (fun i x hi=>⟨g,rfl,hg,fun j u hu=>by rw [Nat.zero_add]; exact hc i x hi j u hu⟩)
theorem Yc {B:Nat} {w:World} {v:Value} {xs:List aP} (h:w.ownsRow B 68 11 v xs.length (xs.flatMap aP.f)) {ao:Option Addr} {cap:Nat} (hv:v= .slice ao xs.length cap) (hx: ∀x ∈ xs,DN x.h x.b x.e∧x.I w):(dD xs).At w w.heap.size ao 0:=by
 rcases h.2 with ⟨h1,h0⟩ | ⟨g,cap',cur,h1,-⟩
 ·rw [List.length_eq_zero_iff.1 h0]; trivial
 ·rw [hv] at h1;injection h1 with e1 e2 e3;subst e1;rw [hv] at h;obtain ⟨-,hg,hc⟩:=Dx Ap h;exact Hz xs 0 hx (fun i x hi=>⟨g,rfl,hg,fun j u hu=>by rw [Nat.zero_add]; exact hc i x hi j u hu⟩)
structure LaR (B D:Nat) (W:World) (g:Nat) (pre:List fZ) (x:fZ) (l:List aP) (vB:Value):Prop where
 bd:x.t.body=dD l
 v:vB= .slice x.cu l.length x.bJ
 own:W.ownsRow B 68 11 vB l.length (l.flatMap aP.f)
 few:l.length<=5000
 ok: ∀s ∈ l,zf s.h s.b s.e
 ne: ∀k,vB.ownBlock=some k->k≠g∧D < k
 st: ∀s ∈ l,gu B (zM vB.ownBlock (some g)) W (aP.I s)
 pr: ∀y ∈ pre,gu B (zM vB.ownBlock (some g)) W (fZ.I y)
 lc:gu B (zM vB.ownBlock (some g)) W (fun w2=>fP w2 w2.heap.size x.t.bM x.iK 0)
theorem uU.la {B gD gT ay:Nat} {W:World} {dx:List fZ} (h:uU B W gD gT ay dx): ∃pre x l vB,dx=pre++[x]∧LaR B gD W gT pre x l vB:=by
 obtain ⟨pre,x,l,vB,h1,h2,h3,h4,h5,h6,h7,h8,h9,h10⟩:=h.last;exact ⟨pre,x,l,vB,h1,⟨h2,h3,h4,h5,h6,h7,h8,h9,h10⟩⟩
theorem uU.inner {B gD gT ay:Nat} {W:World} {dx:List fZ} (h:uU B W gD gT ay dx): ∀y ∈ dx,y.I W:=fun y hy=>by
 obtain ⟨pre,x,l,vB,e,hL⟩:=h.la;rw [e] at hy;rcases List.mem_append.1 hy with hy | hy
 ·exact (hL.pr y hy).now
 ·rw [List.mem_singleton.1 hy];exact ⟨hL.lc.now,by rw [hL.bd]; exact Yc hL.own hL.v (fun s hs=>⟨(hL.ok s hs).1,(hL.st s hs).now⟩)⟩
theorem uU.few {B gD gT ay:Nat} {W:World} {dx:List fZ} (h:uU B W gD gT ay dx):1<=dx.length∧dx.length<=4:=by
 obtain ⟨n,hn,h1,hm⟩:=h.made.ts;have:=congrArg List.length hm;simp at this; omega
theorem uU.at {B gD gT ay:Nat} {W:World} {dx:List fZ} (h:uU B W gD gT ay dx):Pr.At W ⟨jg,dx.map (·.t)⟩ (some ⟨gD,0,none⟩) (some ⟨gT,0,none⟩)∧dx.length<=ay:=by
 obtain ⟨hc,-,-⟩:=Dx Aq h.row;obtain ⟨n,hn,-,hm⟩:=h.made.ts;have hl:dx.length<=4:=by have:=congrArg List.length hm;simp at this; omega
 refine ⟨⟨by show 9<=maxLen; unfold maxLen; decide,by show (dx.map (·.t)).length<=maxLen; rw [List.length_map]; unfold maxLen; omega,Qj h.dec,?_⟩,hc⟩;exact Yd h.row (fun y hy=>⟨(h.CY y hy).1,h.inner y hy⟩)
theorem LaR.bM {B B' gD gT ay g' cap':Nat} {W W5:World} {pre:List fZ} {x:fZ} {l:List aP} {vB:Value} (h:uU B W gD gT ay (pre++[x])) (hL:LaR B gD W gT pre x l vB)
 (hown:W5.ownsRow B' 9 1 (.slice (some ⟨g',0,none⟩) 3 cap') 3 ((gV++[uj]).flatMap yN)) (hk: ∀k,B<=k->k < W.heap.size->k≠gT->W5.heap[k]? =W.heap[k]?) (hsz:W.heap.size<=W5.heap.size)
 (hrow:W5.ownsRow B 63 4 (.slice (some ⟨gT,0,none⟩) (pre.length + 1) ay) (pre.length + 1) ((pre++[(⟨{x.t with bM:=gV++[uj],line:=80},some ⟨g',0,none⟩,cap',x.cu,x.bJ⟩:fZ)]).flatMap fZ.f)):
 Pr.At W5 ⟨jg,pre.map (fun y:fZ=>y.t)++[{x.t with bM:=gV++[uj],line:=80}]⟩ (some ⟨gD,0,none⟩) (some ⟨gT,0,none⟩):=by
 have hst: ∀ {Q:World->Prop},gu B (zM vB.ownBlock (some gT)) W Q->Q W5:=fun hq=>hq W5 ⟨hsz,fun k h1 h2 h3=>hk k h1 h3 (fun e=>h2 (.inr (by rw [e])))⟩;have hx:=h.CY x (List.mem_append_right _ (List.mem_singleton.2 rfl));have hd:W5.heap[gD]? =some (.cells (jg.flatMap KY).toArray 93 (0,0)):=(hk gD h.lt.1 (Array.getElem?_eq_some_iff.1 h.dec).1 (by have:=h.lt.2; omega)).trans h.dec;obtain ⟨n,hn,-,hm⟩:=h.made.ts;have hl:pre.length + 1<=4:=by have:=congrArg List.length hm;simp at this; omega
 have e:pre.map (fun y:fZ=>y.t)++[{x.t with bM:=gV++[uj],line:=80}]=(pre++[(⟨{x.t with bM:=gV++[uj],line:=80},some ⟨g',0,none⟩,cap',x.cu,x.bJ⟩:fZ)]).map (fun y:fZ=>y.t):=by rw [List.map_append]; rfl
 obtain ⟨hcap,hg,hcs⟩:=Dx (xs:=gV++[uj]) (n:=3) Ar hown;refine ⟨by show 9<=maxLen; unfold maxLen; decide,?_,Qj hd,?_⟩
 ·show (pre.map (fun y:fZ=>y.t)++[_]).length<=maxLen;simp; unfold maxLen; omega
 ·show iN _ _ (pre.map (fun y:fZ=>y.t)++[_]) _ _;rw [e];refine Yd (by rw [List.length_append,List.length_singleton]; exact hrow) (fun y hy=> ?_);rcases List.mem_append.1 hy with hy | hy
  ·exact ⟨(h.CY y (List.mem_append_left _ hy)).1,hst (hL.pr y hy)⟩
  ·rw [List.mem_singleton.1 hy];refine ⟨⟨⟨hx.1.1.1,by show bS 80; unfold bS; decide,by show (3:Nat)<=maxLen; unfold maxLen; decide,hx.1.1.2.2.2⟩,hcap⟩,?_,?_⟩
   ·refine OO (gV++[uj]) 0 (fun s hs=> ?_) (fun i s hs=>⟨g',rfl,hg,fun j u hu=>by rw [Nat.zero_add]; exact hcs i s hs j u hu⟩);simp [gV] at hs;rcases hs with rfl | rfl | rfl <;> (unfold maxLen; decide)
   ·show x.t.body.At W5 W5.heap.size x.cu 0;rw [hL.bd];refine Yc (xs:=l) (v:=vB) (AX hL.own (fun k e=> ?_) (Nat.le_refl _)) hL.v (fun s hs=>⟨(hL.ok s hs).1,hst (hL.st s hs)⟩);have:=hL.own.lt k e;exact hk k this.1 this.2 (hL.ne k e).1
end Go.Proofs.YtfbbaiejbjdfbaaGreatDoor
