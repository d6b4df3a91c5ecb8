/-
  The maker's Program under way: what lies in memory, what stays. No program in sight.
-/
import Derived.Test.YtnknfoibmgphnaaDoorGPC
import Derived.Test.YtnknfoibmgphnaaDoorGPI
set_option linter.unusedSimpArgs false
set_option linter.unusedVariables false
namespace Go.Proofs.YtnknfoibmgphnaaDoor
open Go.RowKit
open Md
theorem cZ.uniq {T:Tp} {H H':Option Nat} {hs hs':List ByteArray} {w:World} (h:cZ w T H hs) (k:cZ w T H' hs'):H=H':=by
 obtain ⟨_,_,_,_,_,_,v,-,e1,e2,-⟩:=h.rY
 obtain ⟨_,_,_,_,_,_,v',-,k1,k2,-⟩:=k.rY
 rw [e1] at k1
 injection k1 with k1; injection k1 with k1 _ _; injection k1 with k1
 simp only [List.cons.injEq] at k1
 rw [← e2,← k2,k1.2.2.2.2.2.2.2.1]
theorem cZ.oI {T:Tp} {H:Option Nat} {w:World} (h:cZ w T H []) (m:Int):cZ (w.setCell ⟨T.bm,1,none⟩ (.int .i64 m)) T H []:=h.th m
def ql (T:Tp) (w w':World):Prop:= ∀H,cZ w T H []→ ∃H2,cZ w' T H2 []∧Hx w H H2∧Mm T H w w'
theorem ql.refl (T:Tp) (w:World):ql T w w:=fun H h=>⟨H,h,Hx.refl _ _,Mm.refl _ _ _⟩
theorem ql.mk {T:Tp} {H H2:Option Nat} {w w':World} (h:cZ w T H []) (hi:cZ w' T H2 []) (hx:Hx w H H2) (hm:Mm T H w w'):ql T w w':=fun H' h'=>by
 obtain rfl:=h.uniq h'
 exact ⟨H2,hi,hx,hm⟩
theorem ql.below {T:Tp} {w w':World} (hb:Below w.heap.size w w'):ql T w w':=fun H h=>⟨H,h.below hb,Hx.refl _ _,Mm.of_below hb⟩
def CM (T:Tp) (H:Option Nat) (W w':World):Prop:= ∃H',cZ w' T H' []∧Hx W H H'∧Mm T H W w'
theorem CM.le {T:Tp} {H:Option Nat} {W w1 w2:World} (h:CM T H W w1) (k:ql T w1 w2):CM T H W w2:=by
 obtain ⟨H1,h1,h2,h3⟩:=h
 obtain ⟨H2,k1,k2,k3⟩:=k H1 h1
 exact ⟨H2,k1,h2.trans k2 h3.size,h3.trans h2 k3⟩
def Ep:List ByteArray:=[gL,Lu,Lg,KI]
def Ir:Array Value:= #[.string ⟨#[109,97,105,110]⟩,.string ⟨#[116,49]⟩,.string ⟨#[116,50]⟩,.string ⟨#[116,51]⟩]
theorem DU {k:Nat} (h:k < 4): ∃s,Ep[k]? =some s∧Ir[k]? =some (.string s)∧s.size≤maxLen:=by
 have:k=0∨k=1∨k=2∨k=3:=by omega
 rcases this with rfl | rfl | rfl | rfl <;> exact ⟨_,rfl,rfl,by unfold maxLen; decide⟩
def El (x:bU):Prop:=(x.t.Ok∧x.t.bH.length≤x.gy)∧x.t.bH=gJ∧x.gy=2
def wG:Array Value:= #[.string ⟨#[97]⟩,.string ⟨#[98]⟩]
structure TM (T:Tp) (W0:World) (H0:Option Nat) (gl tb:Nat) (s:ByteArray) (H:Option Nat) (W:World) (vB:Value) (l:List aD):Prop where
 loc:W.heap[gl]? =some (.cells wG 9 (0,0))
 box:W.heap[tb]? =some (.cells #[.string s,.int .i64 0,.slice (some ⟨gl,0,none⟩) 2 2,vB] 35 (0,0))
 row:qy (tb + 1) H W vB l
 ok: ∀x ∈ l,ko x.h x.b x.e
 mi:cZ W T H []
 km:Mm T H0 W0 W∧Hx W0 H0 H
 lt:T.bt < gl∧T.bm < gl∧T.B0≤gl∧tb=gl + 1∧W0.heap.size=gl
 hne: ∀k,H=some k→k < gl∨tb < k
section
variable {T:Tp} {W0 W W':World} {H0 H H':Option Nat} {gl tb:Nat} {s:ByteArray} {vB:Value} {l:List aD}
theorem TM.sz (h:TM T W0 H0 gl tb s H W vB l):tb + 1≤W.heap.size:=(Array.getElem?_eq_some_iff.1 h.box).1
theorem TM.go (h:TM T W0 H0 gl tb s H W vB l) (hm:Mm T H W W') (hx:Hx W H H') (hi:cZ W' T H' []):TM T W0 H0 gl tb s H' W' vB l:=
 ⟨hm.keep h.loc (by have:=h.lt; omega) (by have:=h.lt; omega) (fun e=>by have:=h.hne _ e; have:=h.lt; omega),hm.keep h.box (by have:=h.lt; omega) (by have:=h.lt; omega) (fun e=>by have:=h.hne _ e; have:=h.lt; omega),
  h.row.next (hm.xX (by have:=h.lt; omega) (by have:=h.lt; omega)) hx,h.ok,hi,⟨h.km.1.trans h.km.2 hm,h.km.2.trans hx h.km.1.size⟩,h.lt,fun k e=>by
    rcases hx with rfl | ⟨b,rfl,hb⟩
    ·exact h.hne k e
    ·injection e with e; have:=h.sz; right; omega⟩
theorem TM.start (h:cZ W0 T H0 []) (hb: ∀k,H0=some k→k < W0.heap.size):TM T W0 H0 W0.heap.size (W0.heap.size + 1) s H0 ((W0.alloc (.cells wG 9)).alloc (.cells #[.string s,.int .i64 0,.slice (some ⟨W0.heap.size,0,none⟩) 2 2,.slice none 0 0] 35)) (.slice none 0 0) []:=by
 have b1:=ay W0 (.cells wG 9)
 have b2:=ay (W0.alloc (.cells wG 9)) (.cells #[.string s,.int .i64 0,.slice (some ⟨W0.heap.size,0,none⟩) 2 2,.slice none 0 0] 35)
 have e:(W0.alloc (.cells wG 9)).heap.size=W0.heap.size + 1:=by simp
 refine ⟨(b2.block _ (by rw [e]; exact Nat.lt_succ_self _)).trans (heap_alloc_new _ _),by rw [← e]; exact heap_alloc_new _ _,jd.nil _ _ _ _ _ _ _,by simp,(h.below b1).below b2,⟨(Mm.of_below b1).then_ (b2.mono (by rw [e]; exact Nat.le_succ _)) b2.size,Hx.refl _ _⟩,⟨h.tape.lt,h.lt,h.tape.b0,rfl,rfl⟩,fun k e=> .inl (hb k e)⟩
theorem TM.push {ys:List aD} {g cap n:Nat} (h:TM T W0 H0 gl tb s H W vB l) (hy: ∀y ∈ ys,fJ (tb + 1) (qo vB.ownBlock H) W (aD.I y)) (hok: ∀y ∈ ys,ko y.h y.b y.e) (hn:n=l.length + ys.length) (hown:W'.ownsRow (tb + 1) 42 11 (.slice (some ⟨g,0,none⟩) n cap) n (l.flatMap aD.f++ys.flatMap aD.f)) (hg:W.grownBy W' vB.ownBlock) (hmv:vB.ownBlock=some g∨g=W.heap.size):
 TM T W0 H0 gl tb s H (W'.setCell ⟨tb,3,none⟩ (.slice (some ⟨g,0,none⟩) n cap)) (.slice (some ⟨g,0,none⟩) n cap) (l++ys)∧W'.heap[tb]? =some (.cells #[.string s,.int .i64 0,.slice (some ⟨gl,0,none⟩) 2 2,vB] 35 (0,0)):=by
 have hlt:=h.row.lt
 have hB:Below (tb + 1) W W':=uh hg (fun k e=>(hlt k e).1) h.sz
 have hbx:W'.heap[tb]? =_:=(hB.block tb (Nat.lt_succ_self _)).trans h.box
 have hloc:W'.heap[gl]? =_:=(hB.block gl (by have:=h.lt; omega)).trans h.loc
 have hi:cZ W' T H []:=h.mi.grown hg (fun k e=>by
  have h1:=(hlt k e).1
  exact ⟨by have:=h.lt; omega,by have:=h.lt; omega,by have:=h.lt; omega,h.row.ne k e⟩)
 have hkm:Mm T H0 W0 W':=h.km.1.then_ (uh hg (fun k e=>by have:=(hlt k e).1; have:=h.lt; omega) h.km.1.size) hg.size
 have hrow:qy (tb + 1) H W' (.slice (some ⟨g,0,none⟩) n cap) (l++ys):=h.row.LA hy hn hown hg hmv h.mi.hlt'
 refine ⟨⟨(aO W' _ _ rfl (by have:=h.lt; show tb≠gl; omega)).trans hloc,by rw [dN hbx]; rfl,hrow.next (jT.rE (oD _ _ _ (Nat.lt_succ_self _))) (Hx.refl _ _),?_,?_,⟨hkm.set _ _ (by have:=h.lt; show _≤tb; omega),h.km.2⟩,h.lt,h.hne⟩,hbx⟩
 ·intro y OY
  rcases List.mem_append.1 OY with h1 | h1
  ·exact h.ok y h1
  ·exact hok y h1
 ·exact hi.set _ _ (by have:=h.lt; show T.B0≤tb; omega) (by have:=h.lt; show tb≠_; omega) (by have:=h.lt; show tb≠_; omega) (fun e=>by have:=h.hne tb e; have:=h.lt; omega)
end
def wP (B D:Nat) (W:World) (g:Nat) (bZ:List bU):Prop:= ∃(pre:List bU) (x:bU) (l:List aD) (vB:Value),bZ=pre++[x]∧x.t.body=aN l∧vB= .slice x.bg l.length x.aT∧
 W.ownsRow B 42 11 vB l.length (l.flatMap aD.f)∧l.length≤5000∧(∀s ∈ l,ko s.h s.b s.e)∧(∀k,vB.ownBlock=some k→k≠g∧D < k)∧
 (∀s ∈ l,fJ B (qo vB.ownBlock (some g)) W (aD.I s))∧(∀y ∈ pre,fJ B (qo vB.ownBlock (some g)) W (bU.I y))∧fJ B (qo vB.ownBlock (some g)) W (fun w2=>iD w2 w2.heap.size x.t.bH x.iQ 0)
structure PM (T:Tp) (w1:World) (gD pb nb:Nat) (H:Option Nat) (W:World) (vT:Value) (bZ:List bU):Prop where
 box:W.heap[pb]? =some (.cells #[.slice (some ⟨gD,0,none⟩) 9 9,vT] 26 (0,0))
 dec:W.heap[gD]? =some (.cells (gQ.flatMap rC).toArray 37 (0,0))
 nms:W.heap[nb]? =some (.cells Ir 9 (0,0))
 gt:yH (nb + 1) H W vT bZ
 uf: ∀x ∈ bZ,El x
 nm:bZ.map (·.t.nm)=Ep.take bZ.length
 mi:cZ W T H []
 km:Mm T none w1 W
 lt:T.bt < w1.heap.size∧T.bm < w1.heap.size∧T.B0≤w1.heap.size∧w1.heap.size≤gD∧gD < pb∧pb < nb
 hn: ∀k,H=some k→nb < k
section
variable {T:Tp} {w1 W W':World} {gD pb nb:Nat} {H H':Option Nat} {vT:Value} {bZ:List bU}
theorem PM.sz (h:PM T w1 gD pb nb H W vT bZ):nb + 1≤W.heap.size:=(Array.getElem?_eq_some_iff.1 h.nms).1
theorem PM.go (h:PM T w1 gD pb nb H W vT bZ) (hm:Mm T H W W') (hx:Hx W H H') (hi:cZ W' T H' []):PM T w1 gD pb nb H' W' vT bZ where
 box:=hm.keep h.box (by have:=h.lt; omega) (by have:=h.lt; omega) (fun e=>by have:=h.hn _ e; have:=h.lt; omega)
 dec:=hm.keep h.dec (by have:=h.lt; omega) (by have:=h.lt; omega) (fun e=>by have:=h.hn _ e; have:=h.lt; omega)
 nms:=hm.keep h.nms (by have:=h.lt; omega) (by have:=h.lt; omega) (fun e=>by have:=h.hn _ e; omega)
 gt:=h.gt.next (hm.xX (by have:=h.lt; omega) (by have:=h.lt; omega)) hx
 uf:=h.uf
 nm:=h.nm
 mi:=hi
 km:=⟨hm.os.trans h.km.os,hm.tape.trans h.km.tape,hm.output.trans h.km.output,Nat.le_trans h.km.size hm.size,fun k hk h1 h2 _=>(hm.block k (Nat.lt_of_lt_of_le hk h.km.size) h1 h2 (fun e=>by have:=h.hn _ e; have:=h.lt; omega)).trans (h.km.block k hk h1 h2 (by simp))⟩
 lt:=h.lt
 hn:=fun k e=>by
  rcases hx with rfl | ⟨b,rfl,hb⟩
  ·exact h.hn k e
  ·injection e with e; have:=h.sz; omega
theorem PM.th (h:PM T w1 gD pb nb H W vT bZ) (m:Int):PM T w1 gD pb nb H (W.setCell ⟨T.bm,1,none⟩ (.int .i64 m)) vT bZ:=
 h.go ((Mm.refl T H W).mJ (Hx.refl _ _) _ _) (Hx.refl _ _) (h.mi.th m)
theorem PM.push {x:bU} {g cap n:Nat} (h:PM T w1 gD pb nb H W vT bZ) (hx:fJ (nb + 1) (qo vT.ownBlock H) W (bU.I x)) (hok:El x) (hnm:Ep[bZ.length]? =some x.t.nm) (hn:n=bZ.length + 1) (hown:W'.ownsRow (nb + 1) 35 4 (.slice (some ⟨g,0,none⟩) n cap) n (bZ.flatMap bU.f++bU.f x)) (hg:W.grownBy W' vT.ownBlock) (hmv:vT.ownBlock=some g∨g=W.heap.size):
 PM T w1 gD pb nb H (W'.setCell ⟨pb,1,none⟩ (.slice (some ⟨g,0,none⟩) n cap)) (.slice (some ⟨g,0,none⟩) n cap) (bZ++[x])∧W'.heap[pb]? =some (.cells #[.slice (some ⟨gD,0,none⟩) 9 9,vT] 26 (0,0)):=by
 have hlt:=h.gt.lt
 have hB:Below (nb + 1) W W':=uh hg (fun k hk=>(hlt k hk).1) h.sz
 have hbx:W'.heap[pb]? =_:=(hB.block pb (by have:=h.lt; omega)).trans h.box
 refine ⟨⟨by rw [dN hbx]; rfl,(aO W' _ _ rfl (by have:=h.lt; show pb≠gD; omega)).trans ((hB.block gD (by have:=h.lt; omega)).trans h.dec),(aO W' _ _ rfl (by have:=h.lt; show pb≠nb; omega)).trans ((hB.block nb (Nat.lt_succ_self _)).trans h.nms),?_,?_,?_,?_,?_,h.lt,h.hn⟩,hbx⟩
 ·exact (h.gt.push hx hn hown hg hmv h.mi.hlt').next (jT.rE (oD _ _ _ (by have:=h.lt; show pb < nb + 1; omega))) (Hx.refl _ _)
 ·intro y hy
  rcases List.mem_append.1 hy with hy | hy
  ·exact h.uf y hy
  ·rw [List.mem_singleton.1 hy]; exact hok
 ·rw [List.map_append,h.nm,List.length_append,List.length_singleton,List.take_add_one,hnm]; rfl
 ·have hi:cZ W' T H []:=h.mi.grown hg (fun k e=>by
   have h1:=(hlt k e).1
   exact ⟨by have:=h.lt; omega,by have:=h.lt; omega,by have:=h.lt; omega,h.gt.ne k e⟩)
  exact hi.set _ _ (by have:=h.lt; show T.B0≤pb; omega) (by have:=h.lt; show pb≠_; omega) (by have:=h.lt; show pb≠_; omega) (fun e=>by have:=h.hn pb e; have:=h.lt; omega)
 ·exact (h.km.then_ (hB.mono (by have:=h.lt; omega)) hB.size).set _ _ (by have:=h.lt; show _≤pb; omega)
end
theorem iA {w w':World} {B B' m n:Nat} {ty:TypeId} {v:Value} {xs:List Value} (h:w.ownsRow B ty m v n xs) (hk: ∀k,v.ownBlock=some k→w'.heap[k]? =w.heap[k]?) (hB:B'≤B):w'.ownsRow B' ty m v n xs:=by
 refine ⟨h.1,?_⟩
 rcases h.2 with h1 | ⟨g,cap,cur,h1,h2,h3,h4⟩
 ·exact .inl h1
 ·exact .inr ⟨g,cap,cur,h1,Nat.le_trans hB h2,(hk g (by rw [h1]; rfl)).trans h3,h4⟩
theorem CJ {W:World} {gl:Nat} (h:W.heap[gl]? =some (.cells wG 9 (0,0))):iD W W.heap.size gJ (some ⟨gl,0,none⟩) 0:=by
 have hl:=(Array.getElem?_eq_some_iff.1 h).1
 exact ⟨⟨gl,0,rfl,hl,bL h rfl,by unfold maxLen; decide⟩,⟨gl,0,rfl,hl,bL h rfl,by unfold maxLen; decide⟩,trivial⟩
theorem MG {T:Tp} {w2 wa w9 NC:World} {gD pb nb gl tb gT B:Nat} {H H3:Option Nat} {vT vB:Value} {bZ:List bU} {s:ByteArray} {l:List aD} {ab:Option Addr} {cb:Nat} (hP:PM T w2 gD pb nb H wa vT bZ) (hT:TM T wa H gl tb s H3 w9 vB l) (hv:vB= .slice ab l.length cb) (hB:B≤nb) (hlen:l.length≤5000) (hW: ∀k,k < w9.heap.size→vT.ownBlock≠some k→k≠pb→NC.heap[k]? =w9.heap[k]?) (hsz:w9.heap.size≤NC.heap.size) (hg:vT.ownBlock=some gT∨w9.heap.size≤gT):
 wP B gD NC gT (bZ++[⟨⟨s,0,gJ,aN l⟩,some ⟨gl,0,none⟩,2,ab,cb⟩]):=by
 have Rh:=hP.gt.lt
 have hvB:=hT.row.lt
 have q1:=hT.lt; have q2:=hP.lt; have q3:=hP.sz
 have zZ: ∀k,gl≤k→k < w9.heap.size→k≠gT:=fun k h1 h2 e=>by
  rcases hg with h | h
  ·have:=(Rh gT h).2; omega
  ·omega
 have hne: ∀k,gl≤k→vT.ownBlock≠some k:=fun k h1 e=>by have:=(Rh k e).2; omega
 refine ⟨bZ,_,l,vB,rfl,rfl,hv,iA hT.row.own (fun k e=>hW k (hvB k e).2 (hne k (by have:=(hvB k e).1; omega)) (by have:=(hvB k e).1; omega)) (by omega),hlen,hT.ok,fun k e=>⟨zZ k (by have:=(hvB k e).1; omega) (hvB k e).2,by have:=(hvB k e).1; omega⟩,fun y hy w' h'=> ?_,fun y hy w' h'=> ?_,fun w' h'=> ?_⟩
 ·refine hT.row.stay y hy w' ⟨Nat.le_trans hsz h'.1,fun k h1 h2 h3=>(h'.2 k (by omega) (fun e=> ?_) (Nat.lt_of_lt_of_le h3 hsz)).trans (hW k h3 (hne k (by omega)) (by omega))⟩
  rcases e with e | e
  ·exact h2 (.inl e)
  ·injection e with e; exact zZ k (by omega) h3 e.symm
 ·refine hP.gt.stay y hy w' ⟨Nat.le_trans hT.km.1.size (Nat.le_trans hsz h'.1),fun k h1 h2 h3=> ?_⟩
  have h4:k < w9.heap.size:=Nat.lt_of_lt_of_le h3 hT.km.1.size
  refine (h'.2 k (by omega) (fun e=> ?_) (Nat.lt_of_lt_of_le h4 hsz)).trans ((hW k h4 (fun e=>h2 (.inl e)) (by omega)).trans (hT.km.1.block k h3 (by omega) (by omega) (fun e=>h2 (.inr e))))
  rcases e with e | e
  ·have:=(hvB k e).1; omega
  ·injection e with e
   rcases hg with h | h
   ·exact h2 (.inl (by rw [h,e]))
   ·omega
 ·have hl:=(Array.getElem?_eq_some_iff.1 hT.loc).1
  refine CJ ((h'.2 gl (by omega) (fun e=> ?_) (Nat.lt_of_lt_of_le hl hsz)).trans ((hW gl hl (hne gl (Nat.le_refl _)) (by omega)).trans hT.loc))
  rcases e with e | e
  ·have:=(hvB gl e).1; omega
  ·injection e with e; exact zZ gl (Nat.le_refl _) hl e.symm
theorem Kn {T:Tp} {w w2 W:World} (hb:Below w.heap.size w w2) (hm:Mm T none w2 W) (h1:w.heap.size≤T.bt) (h2:w.heap.size≤T.bm):Below w.heap.size w W:=
 ⟨hm.os.trans hb.os,hm.tape.trans hb.tape,hm.output.trans hb.output,Nat.le_trans hb.size hm.size,fun k hk=>(hm.block k (Nat.lt_of_lt_of_le hk hb.size) (by omega) (by omega) (by simp)).trans (hb.block k hk)⟩
theorem Cq (p:Pr) (dF:ByteArray): ∀(l:List Th) (j:Nat) (f g:List (List UInt8)),(gG p dF l j f g).err=0→(gG p dF l j f g).line=0
 | [],_,_,_,_=>rfl
 | t ::r,j,f,g,h0=>by
   rw [gG] at h0 ⊢
   split at h0
   ·rename_i h1; rw [h0] at h1; exact absurd h1 (by decide)
   ·rename_i h1
    rw [if_neg h1]
    exact Cq p dF r _ _ _ h0
theorem Ma {p:Pr} (h:(iV p).1=0):iV p=(0,0):=by
 refine Prod.ext h ?_
 unfold iV at h ⊢
 split at h
 ·exact absurd h (by decide)
 ·rename_i h1
  rw [if_neg h1]
  split at h
  ·rename_i h2; rw [h] at h2; exact absurd h2 (by decide)
  ·rename_i h2
   rw [if_neg h2]
   split at h
   ·exact absurd h (by decide)
   ·rename_i h3
    rw [if_neg h3]
    split at h
    ·rename_i h4; rw [h] at h4; exact absurd h4 (by decide)
    ·rename_i h4
     rw [if_neg h4]
     split at h
     ·exact absurd h (by decide)
     ·rename_i h5
      rw [if_neg h5]
      exact Cq _ _ _ _ _ _ h
theorem FU {bZ:List bU} (h1: ∀x ∈ bZ,El x) (h2:bZ.map (·.t.nm)=Ep.take bZ.length) (h3:1≤bZ.length) (h4:bZ.length≤4):wE ⟨gQ,bZ.map (·.t)⟩:=
 ⟨rfl,⟨bZ.length,h4,h3,by rw [← show Ep=[gL,Lu,Lg,KI] from rfl,← h2]; simp⟩,fun t ht=>by
  obtain ⟨x,hx,rfl⟩:=List.mem_map.1 ht
  exact (h1 x hx).2.1⟩
theorem wP.next {B D g:Nat} {W W':World} {bZ:List bU} (h:wP B D W g bZ) (ha:mI B W W'):wP B D W' g bZ:=by
 obtain ⟨pre,x,l,vB,h1,h2,h3,h4,h5,h6,h7,h8,h9,h10⟩:=h
 refine ⟨pre,x,l,vB,h1,h2,h3,iA h4 (fun k e=> ?_) (Nat.le_refl _),h5,h6,h7,fun y hy=>(h8 y hy).go (.rE ha) (fun _ _ _ e=>e),fun y hy=>(h9 y hy).go (.rE ha) (fun _ _ _ e=>e),h10.go (.rE ha) (fun _ _ _ e=>e)⟩
 have:=h4.lt k e
 exact ha.2 k this.1 this.2
theorem Q6:(Tryd.prog.info? 35).map (fun i=>(i.zero,i.size,i.bytes))=some (some (.agg #[.string ⟨#[]⟩,.int .i64 0,.slice none 0 0,.slice none 0 0]),4,72):=by kernel_rfl
theorem Sn (x:bU): ∀u ∈ bU.f x,u.oneCell'=true:=by
 intro u hu; simp [bU.f] at hu
 rcases hu with rfl | rfl | rfl | rfl <;> rfl
structure qB (B:Nat) (W:World) (gD gT av:Nat) (bZ:List bU):Prop where
 dec:W.heap[gD]? =some (.cells (gQ.flatMap rC).toArray 37 (0,0))
 row:W.ownsRow B 35 4 (.slice (some ⟨gT,0,none⟩) bZ.length av) bZ.length (bZ.flatMap bU.f)
 uf: ∀x ∈ bZ,El x
 made:wE ⟨gQ,bZ.map (·.t)⟩
 zero:iV ⟨gQ,bZ.map (·.t)⟩=(0,0)
 last:wP B gD W gT bZ
 lt:B≤gD∧gD < gT
theorem qB.next {B gD gT av:Nat} {W W':World} {bZ:List bU} (h:qB B W gD gT av bZ) (ha:mI B W W'):qB B W' gD gT av bZ:=
 ⟨(ha.2 gD h.lt.1 (Array.getElem?_eq_some_iff.1 h.dec).1).trans h.dec,iA h.row (fun k e=>by have:=h.row.lt k e; exact ha.2 k this.1 this.2) (Nat.le_refl _),h.uf,h.made,h.zero,h.last.next ha,h.lt⟩
theorem Aw {W:World} {gD:Nat} (h:W.heap[gD]? =some (.cells (gQ.flatMap rC).toArray 37 (0,0))):iZ W W.heap.size gQ (some ⟨gD,0,none⟩) 0:=by
 have hg:Gp 0 W (.slice (some ⟨gD,0,none⟩) 9 9) gQ:=Grow.made yF h (Nat.zero_le _) rfl (by unfold maxLen; decide)
 obtain ⟨ao,cap,e,-,hs⟩:=hg.says (fun d hd=>(ES d hd).1)
 injection e with e1 e2 e3
 subst e1
 exact hs.now
def st1:aD:=⟨aG 1 ⟨#[120]⟩ .nil 1 1 ⟨#[]⟩ .nil,.nil,.nil,aK none 0⟩
def vD (gl gB:Nat):bU:=⟨⟨gL,0,gJ,aN [st1]⟩,some ⟨gl,0,none⟩,2,some ⟨gB,0,none⟩,1⟩
theorem P5 (gl gB:Nat):El (vD gl gB):=⟨⟨⟨by show (4:Nat)≤maxLen; unfold maxLen; decide,ny,by show (2:Nat)≤maxLen; unfold maxLen; decide,by show (1:Nat)≤maxLen; unfold maxLen; decide⟩,Nat.le_refl 2⟩,rfl,rfl⟩
theorem Ki:iV ⟨gQ,[⟨gL,0,gJ,aN [st1]⟩]⟩=(0,0):=by decide +kernel
theorem JD {w wf wg wi:World} {gE:Nat} (h1:wf.heap.size≤gE) (h0:w.heap.size < wf.heap.size) (h2:wg.heap[gE]? =some (.cells (gQ.flatMap rC).toArray 37 (0,0))) (h3:gE < wg.heap.size) (hb:Below wg.heap.size wg wi) (hl:wi.heap[wg.heap.size]? =some (.cells wG 9 (0,0))) (hbw:Below w.heap.size w wg) (hr:wg.heap[w.heap.size]? =some (.cells #[.slice none 0 0,.slice none 0 0] 26 (0,0))):
 qB (w.heap.size + 1) ((((wi.setCell ⟨w.heap.size,0,none⟩ (.slice (some ⟨gE,0,none⟩) 9 9)).setCell ⟨w.heap.size,1,none⟩ (.slice (some ⟨wi.heap.size + 1,0,none⟩) 1 1)).alloc (.cells (aD.f st1).toArray 42)).alloc (.cells (bU.f (vD wg.heap.size wi.heap.size)).toArray 35)) gE (wi.heap.size + 1) 1 [vD wg.heap.size wi.heap.size]∧
 Below w.heap.size w ((((wi.setCell ⟨w.heap.size,0,none⟩ (.slice (some ⟨gE,0,none⟩) 9 9)).setCell ⟨w.heap.size,1,none⟩ (.slice (some ⟨wi.heap.size + 1,0,none⟩) 1 1)).alloc (.cells (aD.f st1).toArray 42)).alloc (.cells (bU.f (vD wg.heap.size wi.heap.size)).toArray 35)):=by
 have hlt:=(Array.getElem?_eq_some_iff.1 hl).1
 have hwg:=(Array.getElem?_eq_some_iff.1 hr).1
 have hA: ∀k,k < wi.heap.size→k≠w.heap.size→((((wi.setCell ⟨w.heap.size,0,none⟩ (.slice (some ⟨gE,0,none⟩) 9 9)).setCell ⟨w.heap.size,1,none⟩ (.slice (some ⟨wi.heap.size + 1,0,none⟩) 1 1)).alloc (.cells (aD.f st1).toArray 42)).alloc (.cells (bU.f (vD wg.heap.size wi.heap.size)).toArray 35)).heap[k]? =wi.heap[k]?:=fun k hk hne=>by
  rw [heap_alloc_old _ _ (by simp [World.setCell]; omega),heap_alloc_old _ _ (by simpa [World.setCell] using hk),aO _ _ _ rfl (fun e=>hne e.symm),aO _ _ _ rfl (fun e=>hne e.symm)]
 have hz:((wi.setCell ⟨w.heap.size,0,none⟩ (.slice (some ⟨gE,0,none⟩) 9 9)).setCell ⟨w.heap.size,1,none⟩ (.slice (some ⟨wi.heap.size + 1,0,none⟩) 1 1)).heap.size=wi.heap.size:=by simp [World.setCell]
 have hB:((((wi.setCell ⟨w.heap.size,0,none⟩ (.slice (some ⟨gE,0,none⟩) 9 9)).setCell ⟨w.heap.size,1,none⟩ (.slice (some ⟨wi.heap.size + 1,0,none⟩) 1 1)).alloc (.cells (aD.f st1).toArray 42)).alloc (.cells (bU.f (vD wg.heap.size wi.heap.size)).toArray 35)).heap[wi.heap.size]? =some (.cells (aD.f st1).toArray 42 (0,0)):=by
  rw [heap_alloc_old _ _ (by simp [World.setCell])]
  have:=heap_alloc_new ((wi.setCell ⟨w.heap.size,0,none⟩ (.slice (some ⟨gE,0,none⟩) 9 9)).setCell ⟨w.heap.size,1,none⟩ (.slice (some ⟨wi.heap.size + 1,0,none⟩) 1 1)) (.cells (aD.f st1).toArray 42)
  rw [hz] at this; exact this
 have hT:((((wi.setCell ⟨w.heap.size,0,none⟩ (.slice (some ⟨gE,0,none⟩) 9 9)).setCell ⟨w.heap.size,1,none⟩ (.slice (some ⟨wi.heap.size + 1,0,none⟩) 1 1)).alloc (.cells (aD.f st1).toArray 42)).alloc (.cells (bU.f (vD wg.heap.size wi.heap.size)).toArray 35)).heap[wi.heap.size + 1]? =some (.cells (bU.f (vD wg.heap.size wi.heap.size)).toArray 35 (0,0)):=by
  have e:(((wi.setCell ⟨w.heap.size,0,none⟩ (.slice (some ⟨gE,0,none⟩) 9 9)).setCell ⟨w.heap.size,1,none⟩ (.slice (some ⟨wi.heap.size + 1,0,none⟩) 1 1)).alloc (.cells (aD.f st1).toArray 42)).heap.size=wi.heap.size + 1:=by simp [World.setCell]
  have:=heap_alloc_new (((wi.setCell ⟨w.heap.size,0,none⟩ (.slice (some ⟨gE,0,none⟩) 9 9)).setCell ⟨w.heap.size,1,none⟩ (.slice (some ⟨wi.heap.size + 1,0,none⟩) 1 1)).alloc (.cells (aD.f st1).toArray 42)) (.cells (bU.f (vD wg.heap.size wi.heap.size)).toArray 35)
  rw [e] at this; exact this
 have hbi:Below w.heap.size w wi:=hbw.trans (hb.mono hbw.size)
 have hsz:=hbi.size
 have hbs:=hb.size
 have hbz:Below w.heap.size w ((((wi.setCell ⟨w.heap.size,0,none⟩ (.slice (some ⟨gE,0,none⟩) 9 9)).setCell ⟨w.heap.size,1,none⟩ (.slice (some ⟨wi.heap.size + 1,0,none⟩) 1 1)).alloc (.cells (aD.f st1).toArray 42)).alloc (.cells (bU.f (vD wg.heap.size wi.heap.size)).toArray 35)):=(((hbi.setCell (by simp) _).setCell (by simp) _).alloc (by rw [hz]; exact hsz) _).alloc (by simp [World.setCell]; omega) _
 generalize ((((wi.setCell ⟨w.heap.size,0,none⟩ (.slice (some ⟨gE,0,none⟩) 9 9)).setCell ⟨w.heap.size,1,none⟩ (.slice (some ⟨wi.heap.size + 1,0,none⟩) 1 1)).alloc (.cells (aD.f st1).toArray 42)).alloc (.cells (bU.f (vD wg.heap.size wi.heap.size)).toArray 35))=W at *
 have hloc:W.heap[wg.heap.size]? =_:=(hA wg.heap.size hlt (by omega)).trans hl
 have hok: ∀x ∈ [vD wg.heap.size wi.heap.size],El x:=fun x hx=>by rw [List.mem_singleton.1 hx]; exact P5 _ _
 refine ⟨⟨(hA gE (by have:=hb.size; omega) (by omega)).trans ((hb.block gE h3).trans h2),(Grow.made (f:=bU.f) (m:=4) (xs:=[vD wg.heap.size wi.heap.size]) jL (by rw [List.flatMap_singleton]; exact hT) (by omega) rfl (by show (1:Nat)≤maxLen; unfold maxLen; decide)).own,hok,FU hok rfl (Nat.le_refl 1) (show (1:Nat)≤4 by decide),Ki,⟨[],_,[st1],.slice (some ⟨wi.heap.size,0,none⟩) 1 1,rfl,rfl,rfl,(Grow.made (f:=aD.f) (m:=11) (xs:=[st1]) pQ (by rw [List.flatMap_singleton]; exact hB) (by omega) rfl (by unfold maxLen; decide)).own,by decide,fun s hs=> ?_,fun k e=> ?_,fun s hs=> ?_,by simp,fun w' h'=> ?_⟩,by omega,by omega⟩,hbz⟩
 ·rw [List.mem_singleton.1 hs]; exact mG (by unfold aX; decide) (by unfold maxLen; decide) ⟨by unfold aX; decide,by unfold aX; decide,jD,nil_le⟩
 ·have e:wi.heap.size=k:=by injection e
  omega
 ·rw [List.mem_singleton.1 hs]; exact fun _ _=>⟨trivial,trivial,trivial,trivial⟩
 ·refine CJ ((h'.2 wg.heap.size (by omega) (fun e=> ?_) (Array.getElem?_eq_some_iff.1 hloc).1).trans hloc)
  rcases e with e | e
  ·have e:wi.heap.size=wg.heap.size:=by injection e
   omega
  ·have e:wi.heap.size + 1=wg.heap.size:=by injection e
   omega
def QT (w:World) (e:Ending) (w':World):Prop:= ∃(gD gT av:Nat) (bZ:List bU),e= .returned (.agg #[.slice (some ⟨gD,0,none⟩) 9 9,.slice (some ⟨gT,0,none⟩) bZ.length av])∧qB (w.heap.size + 1) w' gD gT av bZ∧Below w.heap.size w w'
end Go.Proofs.YtnknfoibmgphnaaDoor
