/- The maker's Program under way: what lies in memory, what stays. No program in sight. And what hangs on it. -/
import Derived.Test.YtmildapbbcbbhaaGreatDoorGPK
import Derived.ArgAppend
set_option linter.unusedSimpArgs false
set_option linter.unusedVariables false
set_option maxHeartbeats 40000000
set_option maxRecDepth 1000000
namespace Go.Proofs.YtmildapbbcbbhaaGreatDoor
open Go.RowKit
open Md
theorem dS.uniq {T:Tp} {H H':Option Nat} {hs hs':List ByteArray} {w:World} (h:dS w T H hs) (k:dS w T H' hs'):H=H':=by
 obtain⟨_,_,_,_,_,_,v,-,e1,e2,-⟩:=h.AJ;obtain⟨_,_,_,_,_,_,v',-,k1,k2,-⟩:=k.AJ;rw[e1]at k1;injection k1 with k1;injection k1 with k1 _ _;injection k1 with k1;simp only[List.cons.injEq]at k1;rw[<- e2,<- k2,k1.2.2.2.2.2.2.2.1]
theorem dS.vF {T:Tp} {H:Option Nat} {w:World} (h:dS w T H []) (m:Int):dS (w.setCell ⟨T.bm,1,none⟩ (.int .i64 m)) T H []:=h.th m
def CY (T:Tp) (w w':World):Prop:= ∀H,dS w T H []->∃H2,dS w' T H2 []∧Hx w H H2∧Mm T H w w'
theorem CY.refl (T:Tp) (w:World):CY T w w:=λH h=>⟨H,h,Hx.refl _ _,Mm.refl _ _ _⟩
theorem CY.mk {T:Tp} {H H2:Option Nat} {w w':World} (h:dS w T H []) (hi:dS w' T H2 []) (hx:Hx w H H2) (hm:Mm T H w w'):CY T w w':=λH' h'=>by
 obtain rfl:=h.uniq h';exact⟨H2,hi,hx,hm⟩
theorem CY.below {T:Tp} {w w':World} (hb:Below w.heap.size w w'):CY T w w':=λH h=>⟨H,h.below hb,Hx.refl _ _,Mm.of_below hb⟩
def CM (T:Tp) (H:Option Nat) (W w':World):Prop:= ∃H',dS w' T H' []∧Hx W H H'∧Mm T H W w'
theorem CM.le {T:Tp} {H:Option Nat} {W w1 w2:World} (h:CM T H W w1) (k:CY T w1 w2):CM T H W w2:=by
 obtain⟨H1,h1,h2,h3⟩:=h;obtain⟨H2,k1,k2,k3⟩:=k H1 h1;exact⟨H2,k1,h2.trans k2 h3.size,h3.trans h2 k3⟩
def QI:List ByteArray:=[uV,bT1,bT2,bT3]
def XV:Array Value:= #[.string ⟨#[109,97,105,110]⟩,.string ⟨#[116,49]⟩,.string ⟨#[116,50]⟩,.string ⟨#[116,51]⟩]
theorem QF {k:Nat} (h:k<4): ∃s,QI[k]? =some s∧XV[k]? =some (.string s)∧s.size<=maxLen:=by
 have:k=0∨k=1∨k=2∨k=3:=by omega
 rcases this with rfl|rfl|rfl|rfl <;> exact⟨_,rfl,rfl,by unfold maxLen;decide⟩
def Ei (x:dU):Prop:=(x.t.Ok∧x.t.cO.length<=x.eX)∧x.t.cO=rO∧(x.eX=2∧0<x.t.body.len)∧x.t.body.len<=20∧Dx x.t.body
def F7:Array Value:= #[.string ⟨#[97]⟩,.string ⟨#[98]⟩]
structure TM (T:Tp) (W0:World) (H0:Option Nat) (gl tb:Nat) (s:ByteArray) (H:Option Nat) (W:World) (vB:Value) (l:List bP):Prop where
 loc:W.heap[gl]? =some (.cells F7 9 (0,0))
 box:W.heap[tb]? =some (.cells #[.string s,.int .i64 0,.slice (some ⟨gl,0,none⟩) 2 2,vB] 57 (0,0))
 row:xI (tb+1) H W vB l
 ok: ∀x∈l,xS x.h x.b x.e
 mi:dS W T H []
 km:Mm T H0 W0 W∧Hx W0 H0 H
 lt:T.bt<gl∧T.bm<gl∧T.B0<=gl∧tb=gl+1∧W0.heap.size=gl
 hne: ∀k,H=some k->k<gl∨tb<k
section
variable {T:Tp} {W0 W W':World} {H0 H H':Option Nat} {gl tb:Nat} {s:ByteArray} {vB:Value} {l:List bP}
theorem TM.sz (h:TM T W0 H0 gl tb s H W vB l):tb+1<=W.heap.size:=(aO h.box)
theorem TM.go (h:TM T W0 H0 gl tb s H W vB l) (hm:Mm T H W W') (hx:Hx W H H') (hi:dS W' T H' []):TM T W0 H0 gl tb s H' W' vB l:=
 ⟨hm.keep h.loc (by have:=h.lt;omega) (by have:=h.lt;omega) (λe=>by have:=h.hne _ e;have:=h.lt;omega),hm.keep h.box (by have:=h.lt;omega) (by have:=h.lt;omega) (λe=>by have:=h.hne _ e;have:=h.lt;omega),
  h.row.next (hm.Gj (by have:=h.lt;omega) (by have:=h.lt;omega)) hx,h.ok,hi,⟨h.km.1.trans h.km.2 hm,h.km.2.trans hx h.km.1.size⟩,h.lt,λk e=>by
    rcases hx with rfl|⟨b,rfl,hb⟩
    ·exact h.hne k e
    ·injection e with e;have:=h.sz;right;omega⟩
theorem TM.start (h:dS W0 T H0 []) (hb: ∀k,H0=some k->k<W0.heap.size):TM T W0 H0 W0.heap.size (W0.heap.size+1) s H0 ((W0.alloc (.cells F7 9)).alloc (.cells #[.string s,.int .i64 0,.slice (some ⟨W0.heap.size,0,none⟩) 2 2,.slice none 0 0] 57)) (.slice none 0 0) []:=by
 have b1:=au W0 (.cells F7 9);have b2:=au (W0.alloc (.cells F7 9)) (.cells #[.string s,.int .i64 0,.slice (some ⟨W0.heap.size,0,none⟩) 2 2,.slice none 0 0] 57);have e:(W0.alloc (.cells F7 9)).heap.size=W0.heap.size+1:=by simp
 refine⟨(b2.block _ (by rw[e];exact Nat.lt_succ_self _)).trans (heap_alloc_new _ _),by rw[<- e];exact heap_alloc_new _ _,kK.nil _ _ _ _ _ _ _,by simp,(h.below b1).below b2,⟨(Mm.of_below b1).then_ (b2.mono (by rw[e];exact gY _)) b2.size,Hx.refl _ _⟩,⟨h.tape.lt,h.lt,h.tape.b0,rfl,rfl⟩,λk e=> .inl (hb k e)⟩
theorem TM.push {ys:List bP} {g cap n:Nat} (h:TM T W0 H0 gl tb s H W vB l) (hy: ∀y∈ys,gL (tb+1) (yQ vB.ownBlock H) W (bP.I y)) (hok: ∀y∈ys,xS y.h y.b y.e) (hn:n=l.length+ys.length) (hown:W'.ownsRow (tb+1) 62 11 (.slice (some ⟨g,0,none⟩) n cap) n (l.flatMap bP.f++ys.flatMap bP.f)) (hg:W.grownBy W' vB.ownBlock) (hmv:vB.ownBlock=some g∨g=W.heap.size):
 TM T W0 H0 gl tb s H (W'.setCell ⟨tb,3,none⟩ (.slice (some ⟨g,0,none⟩) n cap)) (.slice (some ⟨g,0,none⟩) n cap) (l++ys)∧W'.heap[tb]? =some (.cells #[.string s,.int .i64 0,.slice (some ⟨gl,0,none⟩) 2 2,vB] 57 (0,0)):=by
 have hlt:=h.row.lt;have hB:Below (tb+1) W W':=Ch hg (λk e=>(hlt k e).1) h.sz;have hbx:W'.heap[tb]? =_:=(hB.block tb (Nat.lt_succ_self _)).trans h.box;have hloc:W'.heap[gl]? =_:=(hB.block gl (by have:=h.lt;omega)).trans h.loc;have hi:dS W' T H []:=h.mi.grown hg (λk e=>by have h1:=(hlt k e).1;exact⟨by have:=h.lt;omega,by have:=h.lt;omega,by have:=h.lt;omega,h.row.ne k e⟩);have hkm:Mm T H0 W0 W':=h.km.1.then_ (Ch hg (λk e=>by have:=(hlt k e).1;have:=h.lt;omega) h.km.1.size) hg.size;have hrow:xI (tb+1) H W' (.slice (some ⟨g,0,none⟩) n cap) (l++ys):=h.row.ao5 hy hn hown hg hmv h.mi.hlt';refine⟨⟨(bf W' _ _ rfl (by have:=h.lt;show tb≠gl;omega)).trans hloc,by rw[dh hbx];rfl,hrow.next (mX.zY (iF _ _ _ (Nat.lt_succ_self _))) (Hx.refl _ _),?_,?_,⟨hkm.set _ _ (by have:=h.lt;show _<=tb;omega),h.km.2⟩,h.lt,h.hne⟩,hbx⟩
 ·intro y hyy;rcases List.mem_append.1 hyy with h1|h1
  ·exact h.ok y h1
  ·exact hok y h1
 ·exact hi.set _ _ (by have:=h.lt;show T.B0<=tb;omega) (by have:=h.lt;show tb≠_;omega) (by have:=h.lt;show tb≠_;omega) (λe=>by have:=h.hne tb e;have:=h.lt;omega)
end
def EK (B D:Nat) (W:World) (g:Nat) (dW:List dU):Prop:= ∃(pre:List dU) (x:dU) (l:List bP) (vB:Value),dW=pre++[x]∧x.t.body=fM l∧vB= .slice x.dH l.length x.cu∧
 W.ownsRow B 62 11 vB l.length (l.flatMap bP.f)∧l.length<=5000∧(∀s∈l,xS s.h s.b s.e)∧(∀k,vB.ownBlock=some k->k≠g∧D<k)∧
 (∀s∈l,gL B (yQ vB.ownBlock (some g)) W (bP.I s))∧(∀y∈pre,gL B (yQ vB.ownBlock (some g)) W (dU.I y))∧gL B (yQ vB.ownBlock (some g)) W (λw2=>fJ w2 w2.heap.size x.t.cO x.iR 0)
structure PM (T:Tp) (w1:World) (gD pb nb:Nat) (H:Option Nat) (W:World) (vT:Value) (dW:List dU):Prop where
 box:W.heap[pb]? =some (.cells #[.slice (some ⟨gD,0,none⟩) 9 9,vT] 26 (0,0))
 dec:W.heap[gD]? =some (.cells (jB.flatMap oF).toArray 43 (0,0))
 nms:W.heap[nb]? =some (.cells XV 9 (0,0))
 gt:Ht (nb+1) H W vT dW
 FI: ∀x∈dW,Ei x
 nm:dW.map (·.t.nm)=QI.take dW.length
 mi:dS W T H []
 km:Mm T none w1 W
 lt:T.bt<w1.heap.size∧T.bm<w1.heap.size∧T.B0<=w1.heap.size∧w1.heap.size<=gD∧gD<pb∧pb<nb
 hn: ∀k,H=some k->nb<k
section
variable {T:Tp} {w1 W W':World} {gD pb nb:Nat} {H H':Option Nat} {vT:Value} {dW:List dU}
theorem PM.sz (h:PM T w1 gD pb nb H W vT dW):nb+1<=W.heap.size:=(aO h.nms)
theorem PM.go (h:PM T w1 gD pb nb H W vT dW) (hm:Mm T H W W') (hx:Hx W H H') (hi:dS W' T H' []):PM T w1 gD pb nb H' W' vT dW where
 box:=hm.keep h.box (by have:=h.lt;omega) (by have:=h.lt;omega) (λe=>by have:=h.hn _ e;have:=h.lt;omega)
 dec:=hm.keep h.dec (by have:=h.lt;omega) (by have:=h.lt;omega) (λe=>by have:=h.hn _ e;have:=h.lt;omega)
 nms:=hm.keep h.nms (by have:=h.lt;omega) (by have:=h.lt;omega) (λe=>by have:=h.hn _ e;omega)
 gt:=h.gt.next (hm.Gj (by have:=h.lt;omega) (by have:=h.lt;omega)) hx
 FI:=h.FI
 nm:=h.nm
 mi:=hi
 km:=⟨hm.os.trans h.km.os,hm.tape.trans h.km.tape,hm.output.trans h.km.output,aP h.km.size hm.size,λk hk h1 h2 _=>(hm.block k (aG hk h.km.size) h1 h2 (λe=>by have:=h.hn _ e;have:=h.lt;omega)).trans (h.km.block k hk h1 h2 (by simp))⟩
 lt:=h.lt
 hn:=λk e=>by
  rcases hx with rfl|⟨b,rfl,hb⟩
  ·exact h.hn k e
  ·injection e with e;have:=h.sz;omega
theorem PM.th (h:PM T w1 gD pb nb H W vT dW) (m:Int):PM T w1 gD pb nb H (W.setCell ⟨T.bm,1,none⟩ (.int .i64 m)) vT dW:=
 h.go ((Mm.refl T H W).qX (Hx.refl _ _) _ _) (Hx.refl _ _) (h.mi.th m)
theorem PM.push {x:dU} {g cap n:Nat} (h:PM T w1 gD pb nb H W vT dW) (hx:gL (nb+1) (yQ vT.ownBlock H) W (dU.I x)) (hok:Ei x) (hnm:QI[dW.length]? =some x.t.nm) (hn:n=dW.length+1) (hown:W'.ownsRow (nb+1) 57 4 (.slice (some ⟨g,0,none⟩) n cap) n (dW.flatMap dU.f++dU.f x)) (hg:W.grownBy W' vT.ownBlock) (hmv:vT.ownBlock=some g∨g=W.heap.size):
 PM T w1 gD pb nb H (W'.setCell ⟨pb,1,none⟩ (.slice (some ⟨g,0,none⟩) n cap)) (.slice (some ⟨g,0,none⟩) n cap) (dW++[x])∧W'.heap[pb]? =some (.cells #[.slice (some ⟨gD,0,none⟩) 9 9,vT] 26 (0,0)):=by
 have hlt:=h.gt.lt;have hB:Below (nb+1) W W':=Ch hg (λk hk=>(hlt k hk).1) h.sz;have hbx:W'.heap[pb]? =_:=(hB.block pb (by have:=h.lt;omega)).trans h.box;refine⟨⟨by rw[dh hbx];rfl,(bf W' _ _ rfl (by have:=h.lt;show pb≠gD;omega)).trans ((hB.block gD (by have:=h.lt;omega)).trans h.dec),(bf W' _ _ rfl (by have:=h.lt;show pb≠nb;omega)).trans ((hB.block nb (Nat.lt_succ_self _)).trans h.nms),?_,?_,?_,?_,?_,h.lt,h.hn⟩,hbx⟩
 ·exact(h.gt.push hx hn hown hg hmv h.mi.hlt').next (mX.zY (iF _ _ _ (by have:=h.lt;show pb<nb+1;omega))) (Hx.refl _ _)
 ·intro y hy;rcases List.mem_append.1 hy with hy|hy
  ·exact h.FI y hy
  ·rw[List.mem_singleton.1 hy];exact hok
 ·rw[List.map_append,h.nm,ay,List.length_singleton,List.take_add_one,hnm];rfl
 ·have hi:dS W' T H []:=h.mi.grown hg (λk e=>by have h1:=(hlt k e).1;exact⟨by have:=h.lt;omega,by have:=h.lt;omega,by have:=h.lt;omega,h.gt.ne k e⟩);exact hi.set _ _ (by have:=h.lt;show T.B0<=pb;omega) (by have:=h.lt;show pb≠_;omega) (by have:=h.lt;show pb≠_;omega) (λe=>by have:=h.hn pb e;have:=h.lt;omega)
 ·exact(h.km.then_ (hB.mono (by have:=h.lt;omega)) hB.size).set _ _ (by have:=h.lt;show _<=pb;omega)
end
theorem xB {w w':World} {B B' m n:Nat} {ty:TypeId} {v:Value} {xs:List Value} (h:w.ownsRow B ty m v n xs) (hk: ∀k,v.ownBlock=some k->w'.heap[k]? =w.heap[k]?) (hB:B'<=B):w'.ownsRow B' ty m v n xs:=by
 refine⟨h.1,?_⟩;rcases h.2 with h1|⟨g,cap,cur,h1,h2,h3,h4⟩
 ·exact .inl h1
 ·exact .inr ⟨g,cap,cur,h1,aP hB h2,(hk g (by rw[h1];rfl)).trans h3,h4⟩
theorem QE {W:World} {gl:Nat} (h:W.heap[gl]? =some (.cells F7 9 (0,0))):fJ W W.heap.size rO (some ⟨gl,0,none⟩) 0:=by
 have hl:=(aO h);exact⟨⟨gl,0,rfl,hl,aQ h rfl,by unfold maxLen;decide⟩,⟨gl,0,rfl,hl,aQ h rfl,by unfold maxLen;decide⟩,trivial⟩
theorem as9 {T:Tp} {w2 wa w9 FB:World} {gD pb nb gl tb gT B:Nat} {H H3:Option Nat} {vT vB:Value} {dW:List dU} {s:ByteArray} {l:List bP} {ab:Option Addr} {cb:Nat} (hP:PM T w2 gD pb nb H wa vT dW) (hT:TM T wa H gl tb s H3 w9 vB l) (hv:vB= .slice ab l.length cb) (hB:B<=nb) (hlen:l.length<=5000) (hW: ∀k,k<w9.heap.size->vT.ownBlock≠some k->k≠pb->FB.heap[k]? =w9.heap[k]?) (hsz:w9.heap.size<=FB.heap.size) (hg:vT.ownBlock=some gT∨w9.heap.size<=gT):
 EK B gD FB gT (dW++[⟨⟨s,0,rO,fM l⟩,some ⟨gl,0,none⟩,2,ab,cb⟩]):=by
 have ND:=hP.gt.lt;have hvB:=hT.row.lt;have q1:=hT.lt;have q2:=hP.lt;have q3:=hP.sz;have TD: ∀k,gl<=k->k<w9.heap.size->k≠gT:=λk h1 h2 e=>by
  rcases hg with h|h
  ·have:=(ND gT h).2;omega
  ·omega
 have hne: ∀k,gl<=k->vT.ownBlock≠some k:=λk h1 e=>by have:=(ND k e).2;omega
 refine⟨dW,_,l,vB,rfl,rfl,hv,xB hT.row.own (λk e=>hW k (hvB k e).2 (hne k (by have:=(hvB k e).1;omega)) (by have:=(hvB k e).1;omega)) (by omega),hlen,hT.ok,λk e=>⟨TD k (by have:=(hvB k e).1;omega) (hvB k e).2,by have:=(hvB k e).1;omega⟩,λy hy w' h'=> ?_,λy hy w' h'=> ?_,λw' h'=> ?_⟩
 ·refine hT.row.stay y hy w' ⟨aP hsz h'.1,λk h1 h2 h3=>(h'.2 k (by omega) (λe=> ?_) (aG h3 hsz)).trans (hW k h3 (hne k (by omega)) (by omega))⟩;rcases e with e|e
  ·exact h2 (.inl e)
  ·injection e with e;exact TD k (by omega) h3 e.symm
 ·refine hP.gt.stay y hy w' ⟨aP hT.km.1.size (aP hsz h'.1),λk h1 h2 h3=> ?_⟩;have h4:k<w9.heap.size:=aG h3 hT.km.1.size;refine(h'.2 k (by omega) (λe=> ?_) (aG h4 hsz)).trans ((hW k h4 (λe=>h2 (.inl e)) (by omega)).trans (hT.km.1.block k h3 (by omega) (by omega) (λe=>h2 (.inr e))));rcases e with e|e
  ·have:=(hvB k e).1;omega
  ·injection e with e;rcases hg with h|h
   ·exact h2 (.inl (by rw[h,e]))
   ·omega
 ·have hl:=(aO hT.loc);refine QE ((h'.2 gl (by omega) (λe=> ?_) (aG hl hsz)).trans ((hW gl hl (hne gl (aB _)) (by omega)).trans hT.loc));rcases e with e|e
  ·have:=(hvB gl e).1;omega
  ·injection e with e;exact TD gl (aB _) hl e.symm
theorem Zw {T:Tp} {w w2 W:World} (hb:Below w.heap.size w w2) (hm:Mm T none w2 W) (h1:w.heap.size<=T.bt) (h2:w.heap.size<=T.bm):Below w.heap.size w W:=
 ⟨hm.os.trans hb.os,hm.tape.trans hb.tape,hm.output.trans hb.output,aP hb.size hm.size,λk hk=>(hm.block k (aG hk hb.size) (by omega) (by omega) (by simp)).trans (hb.block k hk)⟩
theorem NU (p:Pr) (fU:ByteArray): ∀(l:List Th) (j:Nat) (f g:List (List UInt8)),(iP p fU l j f g).err=0->(iP p fU l j f g).line=0
 | [],_,_,_,_=>rfl
 |t::r,j,f,g,h0=>by
  rw[iP]at h0⊢;split at h0
  ·rename_i h1;rw[h0]at h1;exact absurd h1 (by decide)
  ·rename_i h1;rw[if_neg h1];exact NU p fU r _ _ _ h0
theorem au3 {p:Pr} (h:(jD p).1=0):jD p=(0,0):=by
 refine Prod.ext h ?_;unfold jD at h⊢;split at h
 ·exact absurd h (by decide)
 ·rename_i h1;rw[if_neg h1];split at h
  ·rename_i h2;rw[h]at h2;exact absurd h2 (by decide)
  ·rename_i h2;rw[if_neg h2];split at h
   ·exact absurd h (by decide)
   ·rename_i h3;rw[if_neg h3];split at h
    ·rename_i h4;rw[h]at h4;exact absurd h4 (by decide)
    ·rename_i h4;rw[if_neg h4];split at h
     ·exact absurd h (by decide)
     ·rename_i h5;rw[if_neg h5];exact NU _ _ _ _ _ _ h
theorem U6 {dW:List dU} (h1: ∀x∈dW,Ei x) (h2:dW.map (·.t.nm)=QI.take dW.length) (h3:1<=dW.length) (h4:dW.length<=4):CZ ⟨jB,dW.map (·.t)⟩:=
 ⟨rfl,⟨dW.length,h4,h3,by rw[<- show QI=[uV,bT1,bT2,bT3]from rfl,<- h2];simp⟩,λt ht=>by obtain⟨x,hx,rfl⟩:=List.mem_map.1 ht;exact(h1 x hx).2.1⟩
theorem EK.next {B D g:Nat} {W W':World} {dW:List dU} (h:EK B D W g dW) (ha:kG B W W'):EK B D W' g dW:=by
 obtain⟨pre,x,l,vB,h1,h2,h3,h4,h5,h6,h7,h8,h9,h10⟩:=h;refine⟨pre,x,l,vB,h1,h2,h3,xB h4 (λk e=> ?_) (aB _),h5,h6,h7,λy hy=>(h8 y hy).go (.zY ha) (λ_ _ _ e=>e),λy hy=>(h9 y hy).go (.zY ha) (λ_ _ _ e=>e),h10.go (.zY ha) (λ_ _ _ e=>e)⟩;have:=h4.lt k e;exact ha.2 k this.1 this.2
theorem aV3:(Tryz.prog.info? 57).map (λi=>(i.zero,i.size,i.bytes))=some (some (.agg #[.string ⟨#[]⟩,.int .i64 0,.slice none 0 0,.slice none 0 0]),4,72):=by kernel_rfl
theorem bw7 (x:dU): ∀u∈dU.f x,u.oneCell'=true:=by
 intro u hu;simp[dU.f]at hu;rcases hu with rfl|rfl|rfl|rfl <;> rfl
structure yR (B:Nat) (W:World) (gD gT aD:Nat) (dW:List dU):Prop where
 dec:W.heap[gD]? =some (.cells (jB.flatMap oF).toArray 43 (0,0))
 row:W.ownsRow B 57 4 (.slice (some ⟨gT,0,none⟩) dW.length aD) dW.length (dW.flatMap dU.f)
 FI: ∀x∈dW,Ei x
 made:CZ ⟨jB,dW.map (·.t)⟩
 zero:jD ⟨jB,dW.map (·.t)⟩=(0,0)
 last:EK B gD W gT dW
 lt:B<=gD∧gD<gT
theorem yR.next {B gD gT aD:Nat} {W W':World} {dW:List dU} (h:yR B W gD gT aD dW) (ha:kG B W W'):yR B W' gD gT aD dW:=
 ⟨(ha.2 gD h.lt.1 (aO h.dec)).trans h.dec,xB h.row (λk e=>by have:=h.row.lt k e;exact ha.2 k this.1 this.2) (aB _),h.FI,h.made,h.zero,h.last.next ha,h.lt⟩
theorem Q8 {W:World} {gD:Nat} (h:W.heap[gD]? =some (.cells (jB.flatMap oF).toArray 43 (0,0))):jo W W.heap.size jB (some ⟨gD,0,none⟩) 0:=by
 have hg:EI 0 W (.slice (some ⟨gD,0,none⟩) 9 9) jB:=Grow.made I7 h (bT _) rfl (by unfold maxLen;decide);obtain⟨ao,cap,e,-,hs⟩:=hg.says (λd hd=>(Ta d hd).1);injection e with e1 e2 e3;subst e1;exact hs.now
def st1:bP:=⟨fK 1 ⟨#[120]⟩ .nil 1 1 ⟨#[]⟩ .nil,.nil,.nil,jT none 0⟩
def EB (gl gB:Nat):dU:=⟨⟨uV,0,rO,fM [st1]⟩,some ⟨gl,0,none⟩,2,some ⟨gB,0,none⟩,1⟩
theorem aS8 (gl gB:Nat):Ei (EB gl gB):=⟨⟨⟨by show(4:Nat)<=maxLen;unfold maxLen;decide,rC,by show(2:Nat)<=maxLen;unfold maxLen;decide,by show(1:Nat)<=maxLen;unfold maxLen;decide⟩,aB 2⟩,rfl,⟨rfl,by show 0<(1:Nat);decide⟩,by show(1:Nat)<=20;decide,⟨by decide,sb0,sb0,trivial⟩⟩
theorem ag0:jD ⟨jB,[⟨uV,0,rO,fM [st1]⟩]⟩=(0,0):=by decide+kernel
theorem ab6 {w wf wg wi:World} {gE:Nat} (h1:wf.heap.size<=gE) (h0:w.heap.size<wf.heap.size) (h2:wg.heap[gE]? =some (.cells (jB.flatMap oF).toArray 43 (0,0))) (h3:gE<wg.heap.size) (hb:Below wg.heap.size wg wi) (hl:wi.heap[wg.heap.size]? =some (.cells F7 9 (0,0))) (hbw:Below w.heap.size w wg) (hr:wg.heap[w.heap.size]? =some (.cells #[.slice none 0 0,.slice none 0 0] 26 (0,0))):
 yR (w.heap.size+1) ((((wi.setCell ⟨w.heap.size,0,none⟩ (.slice (some ⟨gE,0,none⟩) 9 9)).setCell ⟨w.heap.size,1,none⟩ (.slice (some ⟨wi.heap.size+1,0,none⟩) 1 1)).alloc (.cells (bP.f st1).toArray 62)).alloc (.cells (dU.f (EB wg.heap.size wi.heap.size)).toArray 57)) gE (wi.heap.size+1) 1 [EB wg.heap.size wi.heap.size]∧
 Below w.heap.size w ((((wi.setCell ⟨w.heap.size,0,none⟩ (.slice (some ⟨gE,0,none⟩) 9 9)).setCell ⟨w.heap.size,1,none⟩ (.slice (some ⟨wi.heap.size+1,0,none⟩) 1 1)).alloc (.cells (bP.f st1).toArray 62)).alloc (.cells (dU.f (EB wg.heap.size wi.heap.size)).toArray 57)):=by
 have hlt:=(aO hl);have hwg:=(aO hr);have hA: ∀k,k<wi.heap.size->k≠w.heap.size->((((wi.setCell ⟨w.heap.size,0,none⟩ (.slice (some ⟨gE,0,none⟩) 9 9)).setCell ⟨w.heap.size,1,none⟩ (.slice (some ⟨wi.heap.size+1,0,none⟩) 1 1)).alloc (.cells (bP.f st1).toArray 62)).alloc (.cells (dU.f (EB wg.heap.size wi.heap.size)).toArray 57)).heap[k]? =wi.heap[k]?:=λk hk hne=>by rw[heap_alloc_old _ _ (by simp[World.setCell];omega),heap_alloc_old _ _ (by simpa[World.setCell]using hk),bf _ _ _ rfl (λe=>hne e.symm),bf _ _ _ rfl (λe=>hne e.symm)]
 have hz:((wi.setCell ⟨w.heap.size,0,none⟩ (.slice (some ⟨gE,0,none⟩) 9 9)).setCell ⟨w.heap.size,1,none⟩ (.slice (some ⟨wi.heap.size+1,0,none⟩) 1 1)).heap.size=wi.heap.size:=by simp[World.setCell]
 have hB:((((wi.setCell ⟨w.heap.size,0,none⟩ (.slice (some ⟨gE,0,none⟩) 9 9)).setCell ⟨w.heap.size,1,none⟩ (.slice (some ⟨wi.heap.size+1,0,none⟩) 1 1)).alloc (.cells (bP.f st1).toArray 62)).alloc (.cells (dU.f (EB wg.heap.size wi.heap.size)).toArray 57)).heap[wi.heap.size]? =some (.cells (bP.f st1).toArray 62 (0,0)):=by rw[heap_alloc_old _ _ (by simp[World.setCell])];have:=heap_alloc_new ((wi.setCell ⟨w.heap.size,0,none⟩ (.slice (some ⟨gE,0,none⟩) 9 9)).setCell ⟨w.heap.size,1,none⟩ (.slice (some ⟨wi.heap.size+1,0,none⟩) 1 1)) (.cells (bP.f st1).toArray 62);rw[hz]at this;exact this
 have hT:((((wi.setCell ⟨w.heap.size,0,none⟩ (.slice (some ⟨gE,0,none⟩) 9 9)).setCell ⟨w.heap.size,1,none⟩ (.slice (some ⟨wi.heap.size+1,0,none⟩) 1 1)).alloc (.cells (bP.f st1).toArray 62)).alloc (.cells (dU.f (EB wg.heap.size wi.heap.size)).toArray 57)).heap[wi.heap.size+1]? =some (.cells (dU.f (EB wg.heap.size wi.heap.size)).toArray 57 (0,0)):=by
  have e:(((wi.setCell ⟨w.heap.size,0,none⟩ (.slice (some ⟨gE,0,none⟩) 9 9)).setCell ⟨w.heap.size,1,none⟩ (.slice (some ⟨wi.heap.size+1,0,none⟩) 1 1)).alloc (.cells (bP.f st1).toArray 62)).heap.size=wi.heap.size+1:=by simp[World.setCell]
  have:=heap_alloc_new (((wi.setCell ⟨w.heap.size,0,none⟩ (.slice (some ⟨gE,0,none⟩) 9 9)).setCell ⟨w.heap.size,1,none⟩ (.slice (some ⟨wi.heap.size+1,0,none⟩) 1 1)).alloc (.cells (bP.f st1).toArray 62)) (.cells (dU.f (EB wg.heap.size wi.heap.size)).toArray 57);rw[e]at this;exact this
 have hbi:Below w.heap.size w wi:=hbw.trans (hb.mono hbw.size);have hsz:=hbi.size;have hbs:=hb.size;have hbz:Below w.heap.size w ((((wi.setCell ⟨w.heap.size,0,none⟩ (.slice (some ⟨gE,0,none⟩) 9 9)).setCell ⟨w.heap.size,1,none⟩ (.slice (some ⟨wi.heap.size+1,0,none⟩) 1 1)).alloc (.cells (bP.f st1).toArray 62)).alloc (.cells (dU.f (EB wg.heap.size wi.heap.size)).toArray 57)):=(((hbi.setCell (by simp) _).setCell (by simp) _).alloc (by rw[hz];exact hsz) _).alloc (by simp[World.setCell];omega) _;generalize ((((wi.setCell ⟨w.heap.size,0,none⟩ (.slice (some ⟨gE,0,none⟩) 9 9)).setCell ⟨w.heap.size,1,none⟩ (.slice (some ⟨wi.heap.size+1,0,none⟩) 1 1)).alloc (.cells (bP.f st1).toArray 62)).alloc (.cells (dU.f (EB wg.heap.size wi.heap.size)).toArray 57))=W at *;have hloc:W.heap[wg.heap.size]? =_:=(hA wg.heap.size hlt (by omega)).trans hl;have hok: ∀x∈ [EB wg.heap.size wi.heap.size],Ei x:=λx hx=>by rw[List.mem_singleton.1 hx];exact aS8 _ _
 refine⟨⟨(hA gE (by have:=hb.size;omega) (by omega)).trans ((hb.block gE h3).trans h2),(Grow.made (f:=dU.f) (m:=4) (xs:=[EB wg.heap.size wi.heap.size]) zx (by rw[List.flatMap_singleton];exact hT) (by omega) rfl (by show(1:Nat)<=maxLen;unfold maxLen;decide)).own,hok,U6 hok rfl (aB 1) (show(1:Nat)<=4 by decide),ag0,⟨[],_,[st1],.slice (some ⟨wi.heap.size,0,none⟩) 1 1,rfl,rfl,rfl,(Grow.made (f:=bP.f) (m:=11) (xs:=[st1]) zw (by rw[List.flatMap_singleton];exact hB) (by omega) rfl (by unfold maxLen;decide)).own,by decide,λs hs=> ?_,λk e=> ?_,λs hs=> ?_,by simp,λw' h'=> ?_⟩,by omega,by omega⟩,hbz⟩
 ·rw[List.mem_singleton.1 hs];exact qM (by unfold bW;decide) (by unfold maxLen;decide) ⟨⟨by unfold bW;decide,by unfold bW;decide,qI,nil_le⟩,bT _⟩
 ·have e:wi.heap.size=k:=by injection e
  omega
 ·rw[List.mem_singleton.1 hs];exact λ_ _=>⟨trivial,trivial,trivial,trivial⟩
 ·refine QE ((h'.2 wg.heap.size (by omega) (λe=> ?_) (aO hloc)).trans hloc);rcases e with e|e
  ·have e:wi.heap.size=wg.heap.size:=by injection e
   omega
  ·have e:wi.heap.size+1=wg.heap.size:=by injection e
   omega
def MkP (w:World) (e:Ending) (w':World):Prop:= ∃(gD gT aD:Nat) (dW:List dU),e= .returned (.agg #[.slice (some ⟨gD,0,none⟩) 9 9,.slice (some ⟨gT,0,none⟩) dW.length aD])∧yR (w.heap.size+1) w' gD gT aD dW∧Below w.heap.size w w'
def Zq:Prop:= ∀(p:Pr) (w:World) (aK aM:Option Addr) (aH aD:Nat),p.At w aK aM->p.ds.length<=aH->p.ts.length<=aD->
    Calls Tryz.prog 11 #[.agg #[.slice aK p.ds.length aH,.slice aM p.ts.length aD]] w λe w'=>e= .returned (.tuple #[.int .i64 (jD p).1,.int .i64 (jD p).2])∧Below w.heap.size w w'
theorem XQ (hst: ∀T,Ed T 2) (href:Zq) (w:World) (zs:List Int) (ao:Option Addr) (cap:Nat) (hz:FP w w.heap.size zs ao) (hl:zs.length<=9223372036854775807):
 Calls Tryz.prog 4 #[.slice ao zs.length cap] w (MkP w):=by
 have HZ:=ah hz;clear hz;go_enter Tryz.func4,Tryz.ntmps4;go_upto_region 2 with fail;obtain⟨w2,hw2⟩: ∃x,x=(((w.alloc (.cells #[.slice none 0 0,.slice none 0 0] 26)).alloc (.cells #[.slice ao zs.length cap,.int .i64 0] 50)).alloc (.cells #[.pointer (some ⟨w.heap.size+1,0,none⟩),.int .i64 0,.int .i64 20,.bool false,.bool false,.bool false,.bool false,.slice none 0 0] 52)):=⟨_,rfl⟩;rw[<- hw2];obtain⟨T,e0,e1,e2,e3,e4,e5⟩: ∃T:Tp,T.B0=w.heap.size∧w.heap.size+1=T.bt∧w.heap.size+1+1=T.bm∧T.ao=ao∧T.cap=cap∧T.zs=zs:=⟨⟨w.heap.size,w.heap.size+1,w.heap.size+1+1,ao,cap,zs,by omega,by omega,by omega⟩,rfl,rfl,rfl,rfl,rfl,rfl⟩;rw[e2,e1];have HS2:aj (w2.heap.size=w.heap.size+3):=ah (by rw[hw2];simp);have BG:aj (Below w.heap.size w w2):=ah (by rw[hw2];exact((au _ _).alloc (by simp) _).alloc (by simp <;> omega) _);have HR2:aj (w2.heap[w.heap.size]? =some (.cells #[.slice none 0 0,.slice none 0 0] 26 (0,0))):=ah (by rw[hw2,heap_alloc_old _ _ (by simp <;> omega),heap_alloc_old _ _ (by simp <;> omega)];exact heap_alloc_new _ _);have Uw:aj (dS w2 T none []):=ah (by
  have k1:w2.heap[T.bt]? =some (.cells #[.slice ao zs.length cap,.int .i64 0] 50 (0,0)):=by rw[hw2,<- e1,heap_alloc_old _ _ (by simp)];have:=heap_alloc_new (w.alloc (.cells #[.slice none 0 0,.slice none 0 0] 26)) (.cells #[.slice ao zs.length cap,.int .i64 0] 50);simpa using this
  have k2:w2.heap[T.bm]? =some (.cells #[.pointer (some ⟨w.heap.size+1,0,none⟩),.int .i64 0,.int .i64 20,.bool false,.bool false,.bool false,.bool false,.slice none 0 0] 52 (0,0)):=by rw[hw2,<- e2];have:=heap_alloc_new ((w.alloc (.cells #[.slice none 0 0,.slice none 0 0] 26)).alloc (.cells #[.slice ao zs.length cap,.int .i64 0] 50)) (.cells #[.pointer (some ⟨w.heap.size+1,0,none⟩),.int .i64 0,.int .i64 20,.bool false,.bool false,.bool false,.bool false,.slice none 0 0] 52);simpa using this
  refine⟨⟨⟨0,bT _,by rw[k1,e3,e4,e5];rfl⟩,by rw[e0,e3,e5];exact HZ.o.below BG.o,by rw[e5];exact hl⟩,⟨0,20,false,false,false,false,.slice none 0 0,by unfold bW;decide,by rw[k2,e1],rfl,Grow.nil _ _ _ _ _ _⟩,by simp,by simp,by simp,by simp⟩)
 have aZ:aj (T.B0=w.heap.size∧T.bt=w.heap.size+1∧T.bm=w.heap.size+2):=ah ⟨e0,e1.symm,by omega⟩;clear hw2 e0 e1 e2 e3 e4 e5 HZ;go_wp2_with fail;refine(Nr w2).mono ?_;rintro e w3 ⟨gD,rfl,hgD,KI,hb⟩;have OP:=ah (aI hgD (aO KI));have HI3:=ah (Uw.o.below hb);have HB3:=ah hb;have HD3:=ah KI;clear hgD KI hb;go_upto_region 3 with fail;generalize vY:World.alloc w3 _=w4;obtain⟨pb,hpb,eF,-,vk,-⟩:=oO vY;have MV:=ah hpb;have HI4:=ah (HI3.o.below eF.o);have HD4:=ah ((eF.o.block _ OP.o.2).trans HD3.o);rw[hpb];clear vY hpb HI3 HD3;have c0:=HI4.o.ptr;go_wp2_with fail;refine(kV T none [] 3 _ (by unfold bW;decide) HI4.o).mono ?_;rintro e w5 ⟨r,rfl,hr,-,hM,hI⟩;have hr3:r<3:=by have:=hr (by decide);omega
 have hwn:IntKind.i64.wrap (2+(r:Int))=2+(r:Int):=IntWalk.i64_in _ (by omega);have iA:=ah hI;have fZ:=ah hM;clear hM hI hr c0;go_upto_region 5 with fail;obtain⟨nb,hnb⟩: ∃g,w5.heap.size=g:=⟨_,rfl⟩;generalize yV:World.alloc w5 _=w6;have HPM:aj (PM T w2 gD pb nb none w6 (.slice none 0 0) []):=ah (by
  have hb6:Below w5.heap.size w5 w6:=by rw[<- yV];exact au _ _
  have hn6:w6.heap[nb]? =some (.cells XV 9 (0,0)):=by rw[<- yV,<- hnb];exact heap_alloc_new _ _
  have q1:=OP.o;have q2:=MV.o;have q3:=aZ.o;have q4:=HS2.o;have hp5:=fZ.o.keep vk.o (by omega);have hd5:=fZ.o.keep HD4.o (by omega);refine⟨(hb6.block _ (aO hp5)).trans hp5,(hb6.block _ (aO hd5)).trans hd5,hn6,kK.nil _ _ _ _ _ _ _,by simp,rfl,iA.o.below hb6,?_,⟨by omega,by omega,by omega,by omega,by omega,?_⟩,by simp⟩
  ·exact(((Mm.of_below HB3.o).then_ (eF.o.mono HB3.o.size) eF.o.size).trans (Hx.refl _ _) fZ.o.mm).then_ (hb6.mono (aP HB3.o.size (aP eF.o.size fZ.o.size))) hb6.size
  ·have:=(aO hp5);omega)
 rw[hnb];have kL:aj (w.heap.size<=gD):=ah (by have:=OP.o;have:=HS2.o;omega);clear yV hnb HI4 iA fZ eF HB3 vk HD4 OP MV Uw;go_wp2_with fail;go_loopw [7] (λv7 wr=> ∃(k:Nat) (H:Option Nat) (vT:Value) (dW:List dU),v7= .int .i64 k∧k<=2+r∧dW.length=k∧PM T w2 gD pb nb H wr vT dW∧(0<k->∃gT,vT.ownBlock=some gT∧EK (w.heap.size+1) gD wr gT dW)) (λi _=>2+r -(intOf i).toNat)
 case atStart=>exact⟨0,none,_,[],rfl,by omega,rfl,HPM.o,λh=>absurd h (by decide)⟩
 case round=>
  obtain⟨k,H,vT,dW,rfl,hk,aM3,hp,hlast⟩:=hrel;have HP:=ah hp;have rT:=ah aM3;have HLA:=ah hlast;clear hp aM3 hlast HPM;by_cases hlt:k<2+r
  ·clear HLA;obtain⟨th,left,qa,qb,qc,qd,vH,kD,c0,c1,c2,c3,c4,c5,c6,c7,cf,hv,hrow⟩:=HP.o.mi.reads;have f1:=cf 1;clear c0 c2 c3 c4 c5 c6 c7 cf hv hrow kD;go_upto_region 9 with fail;generalize hW1:World.setCell wr _ _=wa;have Iz:aj (PM T w2 gD pb nb H wa vT dW):=ah (by rw[<- hW1];exact HP.o.th _);clear hW1 c1 f1 HP;obtain⟨s,hs1,hs2,hs3⟩:=QF (k:=k) (by omega);have cs:wa.cell? ⟨nb,k,none⟩=some (.string s):=(bM Iz.o.nms hs2).2;have hk0:(0:Int)<=(k:Int):=by omega
   have hk4:(k:Int)<4:=by omega
   have HS:=ah (aI hs1 hs3);clear hs1 hs2 hs3;go_upto_region 10 with fail;obtain⟨gl,hgl⟩: ∃g,wa.heap.size=g:=⟨_,rfl⟩;obtain⟨tb,htb⟩: ∃g,gl+1=g:=⟨_,rfl⟩;generalize hWb:World.alloc (World.alloc wa _) _=wb;have IC:aj (TM T wa H gl tb s H wb (.slice none 0 0) []):=ah (by rw[<- hWb,<- htb,<- hgl];exact TM.start Iz.o.mi Iz.o.mi.hlt');have Wi:=ah (aI hgl htb);rw[hgl,htb];clear hWb hgl htb cs
   go_upto_if 42 with fail
   go_cut [8] (λs8 W'=>s8= .pointer (some ⟨tb,0,none⟩)∧∃vB l,l.length<=10∧TM T wa H gl tb s H W' vB l)
   case first=>
    by_cases hkz:k=0
    ·have aL3:((k:Int)==0)=true:=(by rw[beq_iff_eq];omega);clear hkz;have e28:decide ((k:Int)<2+(r:Int))=true:=(by rw[decide_eq_true_iff];omega);go_wp2_with fail;rw[e28,aL3];go_loopw [9] (λv9 wr=> ∃(q:Nat) (vB:Value) (l:List bP),v9= .int .i64 q∧1<=q∧q<=2+r∧l.length+1=q∧TM T wa H gl tb s H wr vB l) (λi _=>2+r -(intOf i).toNat)
     case atStart=>exact⟨1,_,[],rfl,by decide,by omega,rfl,IC.o⟩
     case round=>
      obtain⟨q,vB,l,rfl,hq1,hq2,hql,zV⟩:=hrel;have HT:=ah zV;have HQ:=ah hql;clear zV hql IC;by_cases hqn:q<2+r
      ·go_upto_region 14 with fail;have hd1:Below wr.heap.size wr (wr.drewN 1):=below_drewN (ak _ _) 1;obtain⟨s',hs1,hs2,hs3⟩:=QF (k:=q) (by omega);have HN:aj (wr.heap[nb]? =some (.cells XV 9 (0,0))):=ah (Iz.o.go HT.o.km.1 HT.o.km.2 HT.o.mi).nms;have Y0: ∀w',Below wr.heap.size wr w'->w'.cell? ⟨tb,3,none⟩=some vB:=λw' h=>aQ ((h.block tb (aO HT.o.box)).trans HT.o.box) rfl;have K1: ∀w',Below wr.heap.size wr w'->w'.cell? ⟨nb,q,none⟩=some (.string s'):=λw' h=>aQ ((h.block nb (aO HN.o)).trans HN.o) hs2;have hb0:(0:Int)<=(q:Int):=(by omega);have hb1:(q:Int)<4:=(by omega);have HS':=ah hs3;clear hs1 hs2 hs3;refine dI (by kernel_rfl) rfl ?_;refine dw 0 8 [] [[],[0],[],[],[2,3],[2,3,4],[2,3,4,5],[2,3,4,5,6],[0,1,2,3,4,5,6,7],[0,1,2,3,4,5,6,7,8],[0,1,2,3,4,5,6,7,8,9]] [[],[],[],[],[],[],[],[]] (λ_ w'=>Below wr.heap.size wr w') (λw w'=>Below w.heap.size w w') [48,49,50,51,52,53,54,55] rfl rfl (by rfl) (by kernel_rfl) (by kernel_rfl) (by kernel_rfl) (by kernel_rfl) (by kernel_rfl) (by rfl) (λ_=>ak _ _) (by rfl) hd1 ?_;simp only[iW,mU]
       iterate 7
        apply bS.step
        case bg=>intro c A w' hok hC hO hD;have e8:=hO 8 (by rfl);have e6:=hO 6 (by rfl);have e9:=hO 9 (by rfl);simp[Act.eval]at e8 e6 e9;simp[Act.eval]at hD;simp[go_sem,gd,Oper.wp,hD,e8,e6,e9,Y0,hC,hb0,hb1,K1];exact aR.mk (ak _ _) hC (bZ.mk _ _)
        try simp only[dR]
       refine bS.some (λv w'=> ∃bb,v= .slice (some ⟨bb,0,none⟩) 1 1∧wr.heap.size<=bb∧w'.heap[bb]? =some (.cells (bP.f (⟨fK 12 s' .nil 0 0 ⟨#[]⟩ .nil,.nil,.nil,qY⟩:bP)).toArray 62 (0,0))) ?_ ?_ ?_
       ·rintro v w1 w' hle ⟨g,h1,h2,h3⟩;exact⟨g,h1,h2,(hle.block g (aO h3)).trans h3⟩
       ·intro c A w' hok hC hO hD;simp[Act.eval]at hD;simp[go_sem,gd,Oper.wp,hD];exact aR.mk (d:=_) (v:= .slice (some ⟨_,0,none⟩) 1 1) (au _ _) (hC.trans ((au _ _).mono hC.size)) ⟨_,rfl,hC.size,heap_alloc_new _ _⟩
       try simp only[dR]
       refine bS.done ?_;intro wz dF
       try simp only[iW]
       iterate 7 refine nX ?_
       intro v7 h7;obtain⟨bb,rfl,hbb,hcell⟩:=h7;clear hd1 Y0 K1 hb0 hb1;refine dP.nil ?_;go_simp;refine fD 8 [[],[0],[],[],[2,3],[2,3,4],[2,3,4,5],[2,3,4,5,6],[0,1,2,3,4,5,6,7],[0,1,2,3,4,5,6,7,8],[0,1,2,3,4,5,6,7,8,9]] rfl rfl rfl rfl rfl (by kernel_rfl) (by kernel_rfl) (by kernel_rfl) ?_;obtain⟨i0,hi0,hz0,hz1,hz2⟩:=rW (α:=Nat) (β:=Nat) KR;have CX:=ah (HT.o.go (Mm.of_below dF) (Hx.refl _ _) (HT.o.mi.below dF));have hkl:l.length+1<=maxLen:=(by have:=HQ.o;unfold maxLen;omega);have hkb:(l.length+1)*176<=140737488355328:=(by have:=HQ.o;omega);refine wp_append_lies wz _ _ _ (by rfl) (tb+1) 62 i0 _ 11 176 Tryz.underlying55 hi0 hz0 hz1 hz2 (by rfl) (by omega) vB l.length (l.flatMap bP.f) (by rfl) CX.o.row.own ⟨bb,0,none⟩ 1 1 (bP.f (⟨fK 12 s' .nil 0 0 ⟨#[]⟩ .nil,.nil,.nil,qY⟩:bP)) (by rfl) (by rfl) (iM hcell) (JL _) (by decide) hkl hkb CX.o.sz _ rfl ?_;intro g' cap' w5 hown hgr hmv nY;clear hi0 hz0 hz1 hz2 hcell dF hbb hkl hkb;have ug:=ah (CX.o.push (ys:=[(⟨fK 12 s' .nil 0 0 ⟨#[]⟩ .nil,.nil,.nil,qY⟩:bP)]) (n:=l.length+1) (λy hy=>by rw[List.mem_singleton.1 hy];exact λ_ _=>⟨trivial,trivial,trivial,trivial⟩) (λy hy=>by rw[List.mem_singleton.1 hy];exact vM (by unfold bW;decide) HS'.o uY sI sb0 sb0) rfl (by rw[List.flatMap_singleton];exact hown) hgr hmv);have Av:=ah ug.o.1;have y3:w5.cell? ⟨tb,3,none⟩=some vB:=aQ ug.o.2 rfl;have f3:w5.frozen? ⟨tb,3,none⟩=false:=bH ug.o.2;clear hown hgr hmv nY ug CX;go_simp;refine dw 9 10 [] [[],[0],[],[],[2,3],[2,3,4],[2,3,4,5],[2,3,4,5,6],[0,1,2,3,4,5,6,7],[0,1,2,3,4,5,6,7,8],[0,1,2,3,4,5,6,7,8,9]] [[]] (λ_ w'=>w'=w5) (λw w'=>w=w') [57] rfl rfl (by rfl) (by kernel_rfl) (by kernel_rfl) (by kernel_rfl) (by kernel_rfl) (by kernel_rfl) (by rfl) (λ_=>rfl) (by rfl) rfl ?_;simp only[iW,mU];apply bS.step
       case bg=>intro c A w' hok hC hO hD;have e8:=hO 8 (by rfl);simp[Act.eval]at e8;simp[Act.eval]at hD;simp[go_sem,gd,Oper.wp,hD,e8];exact aR.mk rfl hC (bZ.mk _ _)
       try simp only[dR]
       refine bS.done ?_;intro wz dF
       try simp only[iW]
       refine nX ?_;refine dP.nil ?_;go_simp;refine fD 10 [[],[0],[],[],[2,3],[2,3,4],[2,3,4,5],[2,3,4,5,6],[0,1,2,3,4,5,6,7],[0,1,2,3,4,5,6,7,8],[0,1,2,3,4,5,6,7,8,9]] rfl rfl rfl rfl rfl (by kernel_rfl) (by kernel_rfl) (by kernel_rfl) ?_;subst dF;simp[go_sem,Oper.wp,y3,f3];refine eO rfl ?_;clear y3 f3;go_simp;go_wp2_with fail;go_roundw
       case rel=>exact⟨q+1,_,_,by go_num,by omega,by omega,by have:=HQ.o;simp;omega,Av.o⟩
       case measure=>simp[intOf];omega
      ·go_wp2_with fail;go_meet;exact⟨rfl,_,l,by have:=HQ.o;omega,HT.o⟩
    ·have aL3:((k:Int)==0)=false:=(by rw[beq_eq_false_iff_ne];omega);go_wp2_with fail;go_meet;exact⟨rfl,_,[],by simp,IC.o⟩
   obtain⟨rfl,vB,l,aL4,zV⟩:=hcut;obtain⟨wd,rfl⟩: ∃W:World,W=wc:=⟨_,rfl⟩;have HT:=ah zV;have HL:=ah aL4;clear zV aL4 IC;go_upto_region 15 with fail;have HST:aj (∀w H (n:Int),dS w T H []->1<=n->n<=9->Calls Tryz.prog 10 #[.pointer (some ⟨T.bm,0,none⟩),.int .i64 2,.int .i64 n] w (Sz T H [] w)):=ah (λw H n h1 h2 h3=>hst T w H [] n h1 (by decide) h2 h3);have HBM:aj (T.bt<wd.heap.size∧T.bm<wd.heap.size∧tb+1<=wd.heap.size):=ah ⟨HT.o.mi.tape.lt,HT.o.mi.lt,HT.o.sz⟩;have hd1:CM T H wd (wd.drewN 1):=⟨H,HT.o.mi.below (below_drewN (ak _ _) 1),Hx.refl _ _,Mm.of_below (below_drewN (ak _ _) 1)⟩;have Y0: ∀w',CM T H wd w'->w'.cell? ⟨tb,3,none⟩=some vB:=λw' ⟨H',h1,h2,h3⟩=>aQ (HT.o.go h3 h2 h1).box rfl;have K0: ∀w',CM T H wd w'->w'.cell? ⟨T.bm,0,none⟩=some (.pointer (some ⟨T.bt,0,none⟩)):=λw' ⟨H',h1,_,_⟩=>h1.ptr;refine dI (by kernel_rfl) rfl ?_;refine dw 0 10 [] [[],[0],[],[],[3],[3,4],[3,4,5],[3,4,5,6],[3,4,5,6,7],[2,3,4,5,6,7,8],[0,1,2,3,4,5,6,7,8,9],[0,1,2,3,4,5,6,7,8,9,10],[0,1,2,3,4,5,6,7,8,9,10,11]] [[],[],[],[],[],[],[],[],[],[]] (λ_ w'=>CM T H wd w') (λw w'=>CY T w w') [58,59,60,61,62,63,64,65,66,67] rfl rfl (by rfl) (by kernel_rfl) (by kernel_rfl) (by kernel_rfl) (by kernel_rfl) (by kernel_rfl) (by rfl) (λ_=>CY.refl _ _) (by rfl) hd1 ?_;simp only[iW,mU]
   iterate 7
    apply bS.step
    case bg=>intro c A w' hok hC hO hD;have e8:=hO 8 (by rfl);have e3:=hO 3 (by rfl);simp[Act.eval]at e8 e3;simp[Act.eval]at hD;simp[go_sem,gd,Oper.wp,hD,e8,e3,Y0,hC,K0];exact aR.mk (CY.refl _ _) hC (bZ.mk _ _)
    try simp only[dR]
   refine bS.some (λv _=> ∃r':Nat,v= .int .i64 (r':Int)∧r'<3) (λ_ _ _ _ h=>h) ?_ ?_
   ·intro c A w' hok hC hO hD;simp[Act.eval]at hD;simp[go_sem,gd,Oper.wp,hD];obtain⟨H',h1,h2,h3⟩:=hC;refine(kV T H' [] 3 w' (by unfold bW;decide) h1).mono ?_;rintro e w2 ⟨r',rfl,hr1,-,hM,hI⟩;have hle:CY T w' w2:=CY.mk h1 hI (Hx.refl _ _) hM.mm;exact aR.mk hle (CM.le ⟨H',h1,h2,h3⟩ hle) ⟨r',rfl,by have:=hr1 (by decide);omega⟩
   refine bS.some (λv w'=> ∃r':Nat,v= .int .i64 (1+(r':Int))∧r'<3) (λ_ _ _ _ h=>h) ?_ ?_
   ·intro c A w' hok hC hO hD;simp[Act.eval]at hD;obtain⟨r',hr',h1⟩:=hD;have hwr:IntKind.i64.wrap (1+(r':Int))=1+(r':Int):=IntWalk.i64_in _ (by omega);simp[go_sem,gd,Oper.wp,hr',hwr];exact aR.mk (CY.refl _ _) hC (⟨r',rfl,h1⟩)
   try simp only[dR]
   refine bS.some (λv w'=> ∃(l2:List bP) (H2:Option Nat),dS w' T H2 []∧xI wd.heap.size H2 w' v l2∧(∀x∈l2,xS x.h x.b x.e)∧1<=l2.length∧l2.length<=9) ?_ ?_ ?_
   ·rintro v w1 w' hle ⟨l2,H2,h1,h2,h3⟩;obtain⟨H3,k1,k2,k3⟩:=hle H2 h1;exact⟨l2,H3,k1,h2.next (k3.Gj HBM.o.1 HBM.o.2.1) k2,h3⟩
   ·intro c A w' hok hC hO hD;simp[Act.eval]at hD;obtain⟨bt8,⟨r',hr',h3'⟩,-⟩:=hD;simp[go_sem,gd,Oper.wp,bt8,hr'];obtain⟨H',h1,h2,h3⟩:=hC;refine(HST.o w' H' (1+(r':Int)) h1 (by omega) (by omega)).mono ?_;rintro e w2 ⟨v,l2,H2,rfl,hg,hok2,hl1,hl2,hx,hM,hI⟩;have hle:=CY.mk h1 hI hx hM;exact aR.mk hle (CM.le ⟨H',h1,h2,h3⟩ hle) ⟨l2,H2,hI,hg.weak h3.size,hok2,hl1,hl2⟩
   try simp only[dR]
   refine bS.done ?_;intro wz dF
   try simp only[iW]
   iterate 7 refine nX ?_
   intro v7 h7 v8 h8 v9 h9;clear h7 h8;obtain⟨l2,H2,hi2,hg2,hok2,hl1,hl2⟩:=h9;clear hd1 Y0 K0;refine LQ ?_;go_simp;obtain⟨H2',k1,k2,k3⟩:=dF;obtain rfl:=hi2.uniq k1;have CX:=ah (HT.o.go k3 k2 k1);obtain⟨g2,cap2,rfl,-,-⟩:=hg2.own.form (by omega);have HG2:=ah hg2;have qE:=ah (aI hok2 (aI hl1 hl2));have HVB:=ah HT.o.row.lt;clear hi2 hok2 hl1 hl2 k1 k2 k3 hg2;refine fD 10 [[],[0],[],[],[3],[3,4],[3,4,5],[3,4,5,6],[3,4,5,6,7],[2,3,4,5,6,7,8],[0,1,2,3,4,5,6,7,8,9],[0,1,2,3,4,5,6,7,8,9,10],[0,1,2,3,4,5,6,7,8,9,10,11]] rfl rfl rfl rfl rfl (by kernel_rfl) (by kernel_rfl) (by kernel_rfl) ?_;obtain⟨i0,hi0,hz0,hz1,hz2⟩:=rW (α:=Nat) (β:=Nat) KR;have hkm:0<l2.length:=qE.o.2.1;have hkl:l.length+l2.length<=maxLen:=by have:=HL.o;have:=qE.o.2.2;unfold maxLen;omega
   have hkb:(l.length+l2.length)*176<=140737488355328:=by have:=HL.o;have:=qE.o.2.2;omega
   refine wp_append_lies wz _ _ _ (by rfl) (tb+1) 62 i0 _ 11 176 Tryz.underlying55 hi0 hz0 hz1 hz2 (by rfl) (by omega) vB l.length (l.flatMap bP.f) (by rfl) CX.o.row.own ⟨g2,0,none⟩ l2.length cap2 (l2.flatMap bP.f) (by rfl) (sw zw l2) (kK.news zw HG2.o rfl) (aX3 _) hkm hkl hkb CX.o.sz _ rfl ?_;intro g' cap' w5 hown hgr hmv nY;clear hi0 hz0 hz1 hz2 hkl hkb hkm;have ug:=ah (CX.o.push (ys:=l2) (n:=l.length+l2.length) (λy hy=>(HG2.o.stay y hy).weak HBM.o.2.2 (λk q1 q2 e=>by
    rcases e with e|e
    ·have:=(HVB.o k e).2;omega
    ·exact .inr e)) qE.o.1 rfl hown hgr hmv)
   have Av:=ah ug.o.1;have Wm:aj (0<(l++l2).length∧(l++l2).length<=19):=ah (by rw[ay];have:=HL.o;have:=qE.o.2.1;have:=qE.o.2.2;omega);have y3:w5.cell? ⟨tb,3,none⟩=some vB:=aQ ug.o.2 rfl;have f3:w5.frozen? ⟨tb,3,none⟩=false:=bH ug.o.2;clear hown hgr hmv nY ug CX HG2 qE HVB HL HT;generalize l++l2=l6 at *;go_simp;refine dw 11 12 [] [[],[0],[],[],[3],[3,4],[3,4,5],[3,4,5,6],[3,4,5,6,7],[2,3,4,5,6,7,8],[0,1,2,3,4,5,6,7,8,9],[0,1,2,3,4,5,6,7,8,9,10],[0,1,2,3,4,5,6,7,8,9,10,11]] [[]] (λ_ w'=>w'=w5) (λw w'=>w=w') [69] rfl rfl (by rfl) (by kernel_rfl) (by kernel_rfl) (by kernel_rfl) (by kernel_rfl) (by kernel_rfl) (by rfl) (λ_=>rfl) (by rfl) rfl ?_;simp only[iW,mU];apply bS.step
   case bg=>intro c A w' hok hC hO hD;have e8:=hO 8 (by rfl);simp[Act.eval]at e8;simp[Act.eval]at hD;simp[go_sem,gd,Oper.wp,hD,e8];exact aR.mk rfl hC (bZ.mk _ _)
   try simp only[dR]
   refine bS.done ?_;intro wz dF
   try simp only[iW]
   refine nX ?_;refine dP.nil ?_;go_simp;refine fD 12 [[],[0],[],[],[3],[3,4],[3,4,5],[3,4,5,6],[3,4,5,6,7],[2,3,4,5,6,7,8],[0,1,2,3,4,5,6,7,8,9],[0,1,2,3,4,5,6,7,8,9,10],[0,1,2,3,4,5,6,7,8,9,10,11]] rfl rfl rfl rfl rfl (by kernel_rfl) (by kernel_rfl) (by kernel_rfl) ?_;subst dF;simp[go_sem,Oper.wp,y3,f3];refine eO rfl ?_;clear y3 f3;go_simp;generalize Ny:World.setCell wz _ _=w7 at *;clear Ny;obtain⟨v6,BS⟩: ∃v,aj (TM T wa H gl tb s H2 w7 v l6):=⟨_,Av⟩;clear Av;have c0:=BS.o.mi.ptr;go_upto_region 16 with fail;go_cut [79] (λs79 W'=> ∃q:Bool,s79= .bool q∧TM T wa H gl tb s H2 W' v6 l6)
   case first=>
    cases hkb:((k:Int)==0)
    ·go_wp2_with fail;go_meet;exact⟨_,rfl,BS.o⟩
    ·go_wp2_with fail;refine(kV T H2 [] 3 _ (by unfold bW;decide) BS.o.mi).mono ?_;rintro e w8 ⟨r',rfl,-,-,hM,hI⟩;have Pf:=ah (BS.o.go hM.mm (Hx.refl _ _) hI);clear hM hI;go_wp2_with fail;go_meet;exact⟨_,rfl,Pf.o⟩
   obtain⟨q,rfl,zV⟩:=hcut;obtain⟨w8,rfl⟩: ∃W:World,W=wc:=⟨_,rfl⟩;have HT:=ah zV;clear zV BS c0
   go_upto_if 79 with fail
   go_cut [8] (λs8 W'=>s8= .pointer (some ⟨tb,0,none⟩)∧∃vB l,(0<l.length∧l.length<=20)∧TM T wa H gl tb s H2 W' vB l)
   case first=>
    cases q
    ·go_wp2_with fail;go_meet;exact⟨rfl,_,_,by have:=Wm.o;omega,HT.o⟩
    ·go_upto_region 17 with fail;have hd1:Below w8.heap.size w8 (w8.drewN 1):=below_drewN (ak _ _) 1;obtain⟨s',hs1,hs2,hs3⟩:=QF (k:=1) (by decide);have HN:aj (w8.heap[nb]? =some (.cells XV 9 (0,0))):=ah (Iz.o.go HT.o.km.1 HT.o.km.2 HT.o.mi).nms;have Y0: ∀w',Below w8.heap.size w8 w'->w'.cell? ⟨tb,3,none⟩=some v6:=λw' h=>aQ ((h.block tb (aO HT.o.box)).trans HT.o.box) rfl;have K1: ∀w',Below w8.heap.size w8 w'->w'.cell? ⟨nb,1,none⟩=some (.string s'):=λw' h=>aQ ((h.block nb (aO HN.o)).trans HN.o) hs2;have HS':=ah hs3;clear hs1 hs2 hs3;refine dI (by kernel_rfl) rfl ?_;refine dw 0 7 [] [[],[0],[],[2],[2,3],[2,3,4],[2,3,4,5],[0,1,2,3,4,5,6],[0,1,2,3,4,5,6,7],[0,1,2,3,4,5,6,7,8]] [[],[],[],[],[],[],[]] (λ_ w'=>Below w8.heap.size w8 w') (λw w'=>Below w.heap.size w w') [80,81,82,83,84,85,86] rfl rfl (by rfl) (by kernel_rfl) (by kernel_rfl) (by kernel_rfl) (by kernel_rfl) (by kernel_rfl) (by rfl) (λ_=>ak _ _) (by rfl) hd1 ?_;simp only[iW,mU]
     iterate 6
      apply bS.step
      case bg=>intro c A w' hok hC hO hD;have e8:=hO 8 (by rfl);have e6:=hO 6 (by rfl);simp[Act.eval]at e8 e6;simp[Act.eval]at hD;simp[go_sem,gd,Oper.wp,hD,e8,e6,Y0,hC,K1];exact aR.mk (ak _ _) hC (bZ.mk _ _)
      try simp only[dR]
     refine bS.some (λv w'=> ∃bb,v= .slice (some ⟨bb,0,none⟩) 1 1∧w8.heap.size<=bb∧w'.heap[bb]? =some (.cells (bP.f (⟨fK 13 s' .nil 0 0 ⟨#[]⟩ .nil,.nil,.nil,qY⟩:bP)).toArray 62 (0,0))) ?_ ?_ ?_
     ·rintro v w1 w' hle ⟨g,h1,h2,h3⟩;exact⟨g,h1,h2,(hle.block g (aO h3)).trans h3⟩
     ·intro c A w' hok hC hO hD;simp[Act.eval]at hD;simp[go_sem,gd,Oper.wp,hD];exact aR.mk (d:=_) (v:= .slice (some ⟨_,0,none⟩) 1 1) (au _ _) (hC.trans ((au _ _).mono hC.size)) ⟨_,rfl,hC.size,heap_alloc_new _ _⟩
     try simp only[dR]
     refine bS.done ?_;intro wz dF
     try simp only[iW]
     iterate 6 refine nX ?_
     intro v6 h6;obtain⟨bb,rfl,hbb,hcell⟩:=h6;clear hd1 Y0 K1;refine LQ ?_;go_simp;refine fD 7 [[],[0],[],[2],[2,3],[2,3,4],[2,3,4,5],[0,1,2,3,4,5,6],[0,1,2,3,4,5,6,7],[0,1,2,3,4,5,6,7,8]] rfl rfl rfl rfl rfl (by kernel_rfl) (by kernel_rfl) (by kernel_rfl) ?_;obtain⟨i0,hi0,hz0,hz1,hz2⟩:=rW (α:=Nat) (β:=Nat) KR;have CX:=ah (HT.o.go (Mm.of_below dF) (Hx.refl _ _) (HT.o.mi.below dF));have hkl:l6.length+1<=maxLen:=(by have:=Wm.o;unfold maxLen;omega);have hkb:(l6.length+1)*176<=140737488355328:=(by have:=Wm.o;omega);refine wp_append_lies wz _ _ _ (by rfl) (tb+1) 62 i0 _ 11 176 Tryz.underlying55 hi0 hz0 hz1 hz2 (by rfl) (by omega) v6 l6.length (l6.flatMap bP.f) (by rfl) CX.o.row.own ⟨bb,0,none⟩ 1 1 (bP.f (⟨fK 13 s' .nil 0 0 ⟨#[]⟩ .nil,.nil,.nil,qY⟩:bP)) (by rfl) (by rfl) (iM hcell) (JL _) (by decide) hkl hkb CX.o.sz _ rfl ?_;intro g' cap' w5 hown hgr hmv nY;clear hi0 hz0 hz1 hz2 hcell dF hbb hkl hkb;have ug:=ah (CX.o.push (ys:=[(⟨fK 13 s' .nil 0 0 ⟨#[]⟩ .nil,.nil,.nil,qY⟩:bP)]) (n:=l6.length+1) (λy hy=>by rw[List.mem_singleton.1 hy];exact λ_ _=>⟨trivial,trivial,trivial,trivial⟩) (λy hy=>by rw[List.mem_singleton.1 hy];exact vM (by unfold bW;decide) HS'.o uY sI sb0 sb0) rfl (by rw[List.flatMap_singleton];exact hown) hgr hmv);have Av:=ah ug.o.1;have y3:w5.cell? ⟨tb,3,none⟩=some v6:=aQ ug.o.2 rfl;have f3:w5.frozen? ⟨tb,3,none⟩=false:=bH ug.o.2;clear hown hgr hmv nY ug CX;go_simp;refine dw 8 9 [] [[],[0],[],[2],[2,3],[2,3,4],[2,3,4,5],[0,1,2,3,4,5,6],[0,1,2,3,4,5,6,7],[0,1,2,3,4,5,6,7,8]] [[]] (λ_ w'=>w'=w5) (λw w'=>w=w') [88] rfl rfl (by rfl) (by kernel_rfl) (by kernel_rfl) (by kernel_rfl) (by kernel_rfl) (by kernel_rfl) (by rfl) (λ_=>rfl) (by rfl) rfl ?_;simp only[iW,mU];apply bS.step
     case bg=>intro c A w' hok hC hO hD;have e8:=hO 8 (by rfl);simp[Act.eval]at e8;simp[Act.eval]at hD;simp[go_sem,gd,Oper.wp,hD,e8];exact aR.mk rfl hC (bZ.mk _ _)
     try simp only[dR]
     refine bS.done ?_;intro wz dF
     try simp only[iW]
     refine nX ?_;refine dP.nil ?_;go_simp;refine fD 9 [[],[0],[],[2],[2,3],[2,3,4],[2,3,4,5],[0,1,2,3,4,5,6],[0,1,2,3,4,5,6,7],[0,1,2,3,4,5,6,7,8]] rfl rfl rfl rfl rfl (by kernel_rfl) (by kernel_rfl) (by kernel_rfl) ?_;subst dF;simp[go_sem,Oper.wp,y3,f3];refine eO rfl ?_;clear y3 f3;go_simp;go_wp2_with fail;go_meet;exact⟨rfl,_,_,by rw[ay];have:=Wm.o;simp;omega,Av.o⟩
   obtain⟨rfl,vB,l,aL5,zV⟩:=hcut;obtain⟨w9,rfl⟩: ∃W:World,W=wc:=⟨_,rfl⟩;have HT:=ah zV;have HL:=ah aL5;clear zV aL5 Wm HST;have zI:=ah (Iz.o.go HT.o.km.1 HT.o.km.2 HT.o.mi);obtain⟨ab,cb,rfl,hst⟩:=xI.says HT.o.row HT.o.ok;have dO:=ah hst;clear hst;obtain⟨y0,y1,y2,y3⟩:=cl4 HT.o.box;have yT:w9.cell? ⟨pb,1,none⟩=some vT:=aQ zI.o.box rfl;have HX:aj (gL (nb+1) (yQ vT.ownBlock H2) w9 (dU.I (⟨⟨s,0,rO,fM l⟩,some ⟨gl,0,none⟩,2,ab,cb⟩:dU))):=ah (λw' h'=>by
    have q1:=Iz.o.sz;have q2:=Wi.o;have q3:=Iz.o.gt.lt;have hl:=(aO HT.o.loc);refine⟨QE ((h'.2 gl (by omega) (λe=> ?_) hl).trans HT.o.loc),dO.o w' (h'.weak (by omega) (λk h1 h2 e=> ?_))⟩
    ·rcases e with e|e
     ·have:=(q3 gl e).2;omega
     ·have:=HT.o.hne gl e;omega
    ·rcases e with e|e
     ·have:=(q3 k e).2;omega
     ·exact e)
   have kU:aj (Ei (⟨⟨s,0,rO,fM l⟩,some ⟨gl,0,none⟩,2,ab,cb⟩:dU)):=ah ⟨⟨⟨HS.o.2,rC,by show(2:Nat)<=maxLen;unfold maxLen;decide,by show(fM l).len<=maxLen;rw[pU];have:=HL.o;unfold maxLen;omega⟩,aB 2⟩,rfl,⟨rfl,by show 0<(fM l).len;rw[pU];have:=HL.o;omega⟩,by show(fM l).len<=20;rw[pU];have:=HL.o;omega,Oq HT.o.ok⟩;have Sj:=ah (zI.o.go (Mm.of_below (au w9 (.cells (dU.f (⟨⟨s,0,rO,fM l⟩,some ⟨gl,0,none⟩,2,ab,cb⟩:dU)).toArray 57))) (Hx.refl _ _) (zI.o.mi.below (au _ _)));have jS:=ah (iM (heap_alloc_new w9 (.cells (dU.f (⟨⟨s,0,rO,fM l⟩,some ⟨gl,0,none⟩,2,ab,cb⟩:dU)).toArray 57)));obtain⟨i0,hi,hz0,hz1,hz2⟩:=rW (α:=Nat) (β:=Nat) aV3;have hbs:nb+1<=w9.heap.size+1:=Nat.le_succ_of_le zI.o.sz;have hkl:dW.length+1<=maxLen:=by rw[rT.o];unfold maxLen;omega
   have hkb:(dW.length+1)*72<=140737488355328:=by rw[rT.o];omega
   go_wp2_with (at_builtin;refine wpList_append_lies _ rfl _ _ 24 rfl (nb+1) 57 i0 _ 4 72 Tryz.underlying24 hi hz0 hz1 hz2 rfl (by decide) _ _ _ rfl Sj.o.gt.own ⟨w9.heap.size,0,none⟩ 1 1 (dU.f (⟨⟨s,0,rO,fM l⟩,some ⟨gl,0,none⟩,2,ab,cb⟩:dU)) rfl rfl jS.o (bw7 _) (by decide) hkl hkb (by simpa using hbs) _ rfl ?_);clear hi hz0 hz1 hz2 hbs hkl hkb;intro g' cap2 Rj hown hgr hmv hlt';have Za:=ah (Sj.o.push (HX.o.go (mX.of_below (au _ _)) (λ_ _ _ e=>e)) kU.o (by rw[rT.o];exact HS.o.1) rfl hown hgr (by simpa using hmv));have HLR:aj (EK (w.heap.size+1) gD (Rj.setCell ⟨pb,1,none⟩ (.slice (some ⟨g',0,none⟩) (dW.length+1) cap2)) g' (dW++[(⟨⟨s,0,rO,fM l⟩,some ⟨gl,0,none⟩,2,ab,cb⟩:dU)])):=ah (as9 Iz.o HT.o (by rw[pU]) (by have:=kL.o;have:=Iz.o.lt;omega) (by have:=HL.o;omega) (λk h1 h2 h3=>(bf _ _ _ rfl (by show pb≠k;omega)).trans ((hgr.block k (by simp;omega) (λe=>h2 e.symm)).trans ((au w9 _).block k h1))) (by have:=hgr.size;simp[World.setCell]at this⊢;omega) (by
    rcases hmv with h|h
    ·exact .inl h
    ·right;omega))
   have z1:Rj.cell? ⟨pb,1,none⟩=some vT:=aQ Za.o.2 rfl;have f1:Rj.frozen? ⟨pb,1,none⟩=false:=bH Za.o.2;clear hown hgr hmv hlt' y0 y1 y2 y3 yT jS Sj HX dO kU HT zI;go_wp2_with fail;go_roundw
   case rel=>exact⟨k+1,H2,_,_,by go_num,by omega,by simp[rT.o],Za.o.1,λ_=>⟨g',rfl,HLR.o⟩⟩
   case measure=>simp[intOf];omega
  ·have hk2:k=2+r:=by omega
   obtain⟨gT,TD,hLR⟩:=HLA.o (by omega);obtain⟨Gz,aD,rfl,-,-⟩:=HP.o.gt.own.form (by rw[rT.o];omega);obtain rfl:Gz=gT:=by injection TD
   have HLR:=ah hLR;have HAT:aj (Pr.At wr ⟨jB,dW.map (·.t)⟩ (some ⟨gD,0,none⟩) (some ⟨Gz,0,none⟩)∧dW.length<=aD):=ah (by obtain⟨ao,cp,e,hc,hs⟩:=Ht.says HP.o.gt (λx hx=>(HP.o.FI x hx).1);injection e with e1 e2 e3;subst e1 e3;exact⟨⟨by show 9<=maxLen;unfold maxLen;decide,by show(dW.map (·.t)).length<=maxLen;rw[gX,rT.o];unfold maxLen;omega,Q8 HP.o.dec,hs.now⟩,hc⟩);have HRF:aj (Calls Tryz.prog 11 #[.agg #[.slice (some ⟨gD,0,none⟩) 9 9,.slice (some ⟨Gz,0,none⟩) dW.length aD]] wr λe w'=>e= .returned (.tuple #[.int .i64 (jD ⟨jB,dW.map (·.t)⟩).1,.int .i64 (jD ⟨jB,dW.map (·.t)⟩).2])∧Below wr.heap.size wr w'):=ah (by have:=href ⟨jB,dW.map (·.t)⟩ wr (some ⟨gD,0,none⟩) (some ⟨Gz,0,none⟩) 9 aD HAT.o.1 (aB 9) (by show(dW.map (·.t)).length<=aD;rw[gX];exact HAT.o.2);rw[show(Pr.ts ⟨jB,dW.map (·.t)⟩).length=dW.length from gX _]at this;exact this);obtain⟨y0,y1⟩:=pK HP.o.box;have HRW:aj (wr.heap[w.heap.size]? =some (.cells #[.slice none 0 0,.slice none 0 0] 26 (0,0))):=ah (HP.o.km.keep HR2.o (by have:=aZ.o;omega) (by have:=aZ.o;omega) (by simp));have ax9:aj (Below w.heap.size w wr):=ah (Zw BG.o HP.o.km (by have:=aZ.o;omega) (by have:=aZ.o;omega));clear hLR TD HLA hk;go_wp2_with fail;refine HRF.o.mono ?_;rintro e wf ⟨rfl,hb⟩;have HBF:=ah hb;have HMO:aj ((jD ⟨jB,dW.map (·.t)⟩).1=0->yR (w.heap.size+1) wf gD Gz aD dW):=ah (λhz=>yR.next (W:=wr) ⟨HP.o.dec,xB HP.o.gt.own (λ_ _=>rfl) (by have:=kL.o;have:=HP.o.lt;omega),HP.o.FI,U6 HP.o.FI HP.o.nm (by rw[rT.o];omega) (by rw[rT.o];omega),au3 hz,HLR.o,by have:=HP.o.lt;have:=HS2.o;omega,by have:=(HP.o.gt.lt Gz rfl).1;have:=HP.o.lt;omega⟩ (bL hb));have z0:wf.cell? ⟨pb,0,none⟩=some (.slice (some ⟨gD,0,none⟩) 9 9):=aQ ((hb.block pb (aO HP.o.box)).trans HP.o.box) rfl;have z1:wf.cell? ⟨pb,1,none⟩=some (.slice (some ⟨Gz,0,none⟩) dW.length aD):=aQ ((hb.block pb (aO HP.o.box)).trans HP.o.box) rfl;have Uz:aj (wf.heap[w.heap.size]? =some (.cells #[.slice none 0 0,.slice none 0 0] 26 (0,0))):=ah ((hb.block _ (aO HRW.o)).trans HRW.o);have Uq:aj (Below w.heap.size w wf):=ah (ax9.o.trans (hb.mono ax9.o.size));obtain⟨r0,r1⟩:=pK Uz.o;have rf: ∀j,wf.frozen? ⟨w.heap.size,j,none⟩=false:=λj=>bH Uz.o;clear hb HRF HAT HBF HRW y0 y1;generalize jD ⟨jB,dW.map (·.t)⟩=res at *;obtain⟨re,rl⟩:=res;cases hz:(re != 0)
   ·go_wp2_with fail;have hre:re=0:=(by simpa using hz);have MU:=ah ((HMO.o hre).next (kG.trans (iF wf ⟨w.heap.size,0,none⟩ (.slice (some ⟨gD,0,none⟩) 9 9) (Nat.lt_succ_self w.heap.size)) (iF (wf.setCell ⟨w.heap.size,0,none⟩ (.slice (some ⟨gD,0,none⟩) 9 9)) ⟨w.heap.size,1,none⟩ (.slice (some ⟨Gz,0,none⟩) dW.length aD) (Nat.lt_succ_self w.heap.size))));have jH:aj (Below w.heap.size w ((wf.setCell ⟨w.heap.size,0,none⟩ (.slice (some ⟨gD,0,none⟩) 9 9)).setCell ⟨w.heap.size,1,none⟩ (.slice (some ⟨Gz,0,none⟩) dW.length aD))):=ah ((Uq.o.setCell (by simp) _).setCell (by simp) _);exact bodyPost_ret (v:= .agg #[.slice (some ⟨gD,0,none⟩) 9 9,.slice (some ⟨Gz,0,none⟩) dW.length aD]) (by simp[results,Tryz.results4,go_sem,r0,r1]) rfl ⟨gD,Gz,aD,dW,rfl,MU.o,jH.o⟩
   ·clear HMO z0 z1 HP HLR rT;go_upto_region 21 with fail;go_wp2_with fail;refine(Nr wf).mono ?_;rintro e wg ⟨gE,rfl,hgE,hcE,hb⟩;have HE:=ah (aI hgE (aI hcE (aO hcE)));have HBG:=ah (Uq.o.trans (hb.mono Uq.o.size));have P7:=jl hb Uz;clear hgE hcE hb r0 r1 rf;go_wp2_with fail;refine(Ii 1 _).mono ?_;rintro e wh ⟨rfl,hb⟩;have HLh:aj (wh.heap[wg.heap.size]? =some (.cells F7 9 (0,0))∧wg.heap.size<wh.heap.size):=ah (by have h1:=(hb.block wg.heap.size (by simp)).trans (heap_alloc_new wg (.cells F7 9));exact⟨h1,(aO h1)⟩);have HBh:aj (Below wg.heap.size wg wh):=ah ((au _ _).trans (hb.mono (by simp)));clear hb;go_wp2_with fail;refine(fG ⟨#[120]⟩ 1 1 ⟨#[]⟩ .nil none 0 wh).mono ?_;rintro e wi ⟨rfl,hb⟩;have HLi:=ah ((hb.block _ HLh.o.2).trans HLh.o.1);have HBi:=ah (HBh.o.trans (hb.mono HBh.o.size));clear hb HLh HBh;have HRi:aj (wi.heap[w.heap.size]? =some (.cells #[.slice none 0 0,.slice none 0 0] 26 (0,0))):=ah ((HBi.o.block _ (aO P7.o)).trans P7.o);obtain⟨r0,r1⟩:=pK HRi.o;have rf: ∀j,wi.frozen? ⟨w.heap.size,j,none⟩=false:=λj=>bH HRi.o;have hlt2:w.heap.size<wi.heap.size:=(aO HRi.o);unfold iy fK jT;go_wp2_with fail;have MU:=ah (ab6 HE.o.1 (by have:=Uq.o.size;have:=(aO Uz.o);omega) HE.o.2.1 HE.o.2.2 HBi.o HLi.o HBG.o P7.o);exact bodyPost_ret (v:= .agg #[.slice (some ⟨gE,0,none⟩) 9 9,.slice (some ⟨wi.heap.size+1,0,none⟩) 1 1]) (by simp[results,Tryz.results4,go_sem,r0,r1,hlt2,Nat.lt_succ_of_lt hlt2]) rfl ⟨gE,wi.heap.size+1,1,_,rfl,MU.o.1,MU.o.2⟩
theorem MB {P:Program} {o:Oper} {a:Act} {K:Act->World->Prop} {Q:Exit->Act->World->Prop} (w:World) (s x:Operand) (t:TypeId) (ho:o.op= .call {callee:= .builtin .append,args:= #[s,x],argTypes:= #[t,t]})
 (e:TypeId) (i:TypeInfo) (z:Value) (size bytes:Nat) (h1:P.underlying t=some (.slice e)) (h2:P.info? e=some i) (h3:i.zero=some z) (h4:i.size=size) (h5:i.bytes=bytes) (h6:z.cells.size=size) (h7:0<size)
 (b:Addr) (n cap:Nat) (olds:List Value) (hs:a.eval s= .slice (some b) n cap) (hlo:olds.length=n*size) (holds: ∀j u,olds[j]? =some u->w.cell? (b.add j)=some u)
 (ad:Addr) (m c:Nat) (news:List Value) (hx:a.eval x= .slice (some ad) m c) (hn:news.length=m*size) (hc: ∀j u,news[j]? =some u->w.cell? (ad.add j)=some u)
 (hfull:cap<n+m) (b1:n+m<=maxLen) (b2:(n+m)*bytes<=140737488355328)
 (h: ∀v' w',w'.ownsRow w.heap.size e size v' (n+m) (olds++news)->w.grownBy w' none->K (a.put o.dst v') w'):o.wp P a w K Q:=by
 obtain⟨v',w',hrun,r1,r2⟩:=run_append_arg_grows (P:=P) w t o.type e i z size bytes h1 h2 h3 h4 h5 h6 h7 b n cap olds hlo holds ad m c news hn hc hfull b1 b2;unfold Oper.wp execOp;simp only[ho,resolve,invoke,builtin,Sem.run_bind,Sem.run_pure,Result.andThen_ok,List.map_toArray,List.map_cons,List.map_nil,hs,hx,hrun];exact h v' w' r1 r2
theorem A9 {α:Type} {f:α->List Value} {m:Nat} {ty:TypeId} {B:Nat} {w:World} {g n cap:Nat} {xs:List α} (hf: ∀x,(f x).length=m) (h:w.ownsRow B ty m (.slice (some ⟨g,0,none⟩) n cap) xs.length (xs.flatMap f)):xs.length<=cap∧g<w.heap.size∧∀k x,xs[k]? =some x->∀j u,(f x)[j]? =some u->w.cell? ⟨g,k*m+j,none⟩=some u:=by
 rcases h.2 with⟨h1,-⟩|⟨g',cap',cur,h1,h2,h3,h4,h5,h6,h7⟩
 ·cases h1
 ·injection h1 with e1 e2 e3;injection e1 with e1;injection e1 with e1;subst e1;subst e3;refine⟨h4,(aO h3),λk x hk j u hu=> ?_⟩;have hF:=flat_get hf xs k x j u hk hu;rw[<- h7]at hF;have hlt:=(List.getElem?_eq_some_iff.1 hF).1;rw[List.getElem?_take_of_lt (by rw[List.length_take]at hlt;omega)]at hF;exact aQ h3 (by rw[<- hF];simp)
theorem Yg {B:Nat} {w:World} {g n cap:Nat} {xs:List dU} (h:w.ownsRow B 57 4 (.slice (some ⟨g,0,none⟩) n cap) xs.length (xs.flatMap dU.f)) (hx: ∀x∈xs,(x.t.Ok∧x.t.cO.length<=x.eX)∧x.I w):iJ w w.heap.size (xs.map (·.t)) (some ⟨g,0,none⟩) 0:=by
 obtain⟨-,hg,hc⟩:=A9 zx h;exact Ot xs 0 hx (λi x hi=>⟨g,rfl,hg,λj u hu=>by rw[aU];exact hc i x hi j u hu⟩)
theorem Yf {B:Nat} {w:World} {v:Value} {xs:List bP} (h:w.ownsRow B 62 11 v xs.length (xs.flatMap bP.f)) {ao:Option Addr} {cap:Nat} (hv:v= .slice ao xs.length cap) (hx: ∀x∈xs,vK x.h x.b x.e∧x.I w):(fM xs).At w w.heap.size ao 0:=by
 rcases h.2 with⟨h1,h0⟩|⟨g,cap',cur,h1,-⟩
 ·rw[List.length_eq_zero_iff.1 h0];trivial
 ·rw[hv]at h1;injection h1 with e1 e2 e3;subst e1;rw[hv]at h;obtain⟨-,hg,hc⟩:=A9 zw h;exact Hf xs 0 hx (λi x hi=>⟨g,rfl,hg,λj u hu=>by rw[aU];exact hc i x hi j u hu⟩)
structure LaR (B D:Nat) (W:World) (g:Nat) (pre:List dU) (x:dU) (l:List bP) (vB:Value):Prop where
 bd:x.t.body=fM l
 v:vB= .slice x.dH l.length x.cu
 own:W.ownsRow B 62 11 vB l.length (l.flatMap bP.f)
 few:l.length<=5000
 ok: ∀s∈l,xS s.h s.b s.e
 ne: ∀k,vB.ownBlock=some k->k≠g∧D<k
 st: ∀s∈l,gL B (yQ vB.ownBlock (some g)) W (bP.I s)
 pr: ∀y∈pre,gL B (yQ vB.ownBlock (some g)) W (dU.I y)
 lc:gL B (yQ vB.ownBlock (some g)) W (λw2=>fJ w2 w2.heap.size x.t.cO x.iR 0)
theorem yR.la {B gD gT aD:Nat} {W:World} {dW:List dU} (h:yR B W gD gT aD dW): ∃pre x l vB,dW=pre++[x]∧LaR B gD W gT pre x l vB:=by
 obtain⟨pre,x,l,vB,h1,h2,h3,h4,h5,h6,h7,h8,h9,h10⟩:=h.last;exact⟨pre,x,l,vB,h1,⟨h2,h3,h4,h5,h6,h7,h8,h9,h10⟩⟩
theorem yR.inner {B gD gT aD:Nat} {W:World} {dW:List dU} (h:yR B W gD gT aD dW): ∀y∈dW,y.I W:=λy hy=>by
 obtain⟨pre,x,l,vB,e,hL⟩:=h.la;rw[e]at hy;rcases List.mem_append.1 hy with hy|hy
 ·exact(hL.pr y hy).now
 ·rw[List.mem_singleton.1 hy];exact⟨hL.lc.now,by rw[hL.bd];exact Yf hL.own hL.v (λs hs=>⟨(hL.ok s hs).1,(hL.st s hs).now⟩)⟩
theorem yR.few {B gD gT aD:Nat} {W:World} {dW:List dU} (h:yR B W gD gT aD dW):1<=dW.length∧dW.length<=4:=by
 obtain⟨n,hn,h1,hm⟩:=h.made.ts;have:=congrArg List.length hm;simp at this;omega
theorem yR.at {B gD gT aD:Nat} {W:World} {dW:List dU} (h:yR B W gD gT aD dW):Pr.At W ⟨jB,dW.map (·.t)⟩ (some ⟨gD,0,none⟩) (some ⟨gT,0,none⟩)∧dW.length<=aD:=by
 obtain⟨hc,-,-⟩:=A9 zx h.row;obtain⟨n,hn,-,hm⟩:=h.made.ts;have hl:dW.length<=4:=by have:=congrArg List.length hm;simp at this;omega
 refine⟨⟨by show 9<=maxLen;unfold maxLen;decide,by show(dW.map (·.t)).length<=maxLen;rw[gX];unfold maxLen;omega,Q8 h.dec,?_⟩,hc⟩;exact Yg h.row (λy hy=>⟨(h.FI y hy).1,h.inner y hy⟩)
theorem LaR.cO {B B' gD gT aD g' cap':Nat} {W W5:World} {pre:List dU} {x:dU} {l:List bP} {vB:Value} (h:yR B W gD gT aD (pre++[x])) (hL:LaR B gD W gT pre x l vB)
 (hown:W5.ownsRow B' 9 1 (.slice (some ⟨g',0,none⟩) 3 cap') 3 ((rO++[uV]).flatMap rQ)) (hk: ∀k,B<=k->k<W.heap.size->k≠gT->W5.heap[k]? =W.heap[k]?) (hsz:W.heap.size<=W5.heap.size)
 (hrow:W5.ownsRow B 57 4 (.slice (some ⟨gT,0,none⟩) (pre.length+1) aD) (pre.length+1) ((pre++[(⟨{x.t with cO:=rO++[uV],line:=80},some ⟨g',0,none⟩,cap',x.dH,x.cu⟩:dU)]).flatMap dU.f)):
 Pr.At W5 ⟨jB,pre.map (λy:dU=>y.t)++[{x.t with cO:=rO++[uV],line:=80}]⟩ (some ⟨gD,0,none⟩) (some ⟨gT,0,none⟩):=by
 have hst: ∀ {Q:World->Prop},gL B (yQ vB.ownBlock (some gT)) W Q->Q W5:=λhq=>hq W5 ⟨hsz,λk h1 h2 h3=>hk k h1 h3 (λe=>h2 (.inr (by rw[e])))⟩;have hx:=h.FI x (List.mem_append_right _ (List.mem_singleton.2 rfl));have hd:W5.heap[gD]? =some (.cells (jB.flatMap oF).toArray 43 (0,0)):=(hk gD h.lt.1 (aO h.dec) (by have:=h.lt.2;omega)).trans h.dec;obtain⟨n,hn,-,hm⟩:=h.made.ts;have hl:pre.length+1<=4:=by have:=congrArg List.length hm;simp at this;omega
 have e:pre.map (λy:dU=>y.t)++[{x.t with cO:=rO++[uV],line:=80}]=(pre++[(⟨{x.t with cO:=rO++[uV],line:=80},some ⟨g',0,none⟩,cap',x.dH,x.cu⟩:dU)]).map (λy:dU=>y.t):=by rw[List.map_append];rfl
 obtain⟨hcap,hg,hcs⟩:=A9 (xs:=rO++[uV]) (n:=3) zy hown;refine⟨by show 9<=maxLen;unfold maxLen;decide,?_,Q8 hd,?_⟩
 ·show(pre.map (λy:dU=>y.t)++[_]).length<=maxLen;simp;unfold maxLen;omega
 ·show iJ _ _ (pre.map (λy:dU=>y.t)++[_]) _ _;rw[e];refine Yg (by rw[ay,List.length_singleton];exact hrow) (λy hy=> ?_);rcases List.mem_append.1 hy with hy|hy
  ·exact⟨(h.FI y (List.mem_append_left _ hy)).1,hst (hL.pr y hy)⟩
  ·rw[List.mem_singleton.1 hy];refine⟨⟨⟨hx.1.1.1,by show bW 80;unfold bW;decide,by show(3:Nat)<=maxLen;unfold maxLen;decide,hx.1.1.2.2.2⟩,hcap⟩,?_,?_⟩
   ·refine Ou (rO++[uV]) 0 (λs hs=> ?_) (λi s hs=>⟨g',rfl,hg,λj u hu=>by rw[aU];exact hcs i s hs j u hu⟩);simp[rO]at hs;rcases hs with rfl|rfl|rfl <;> (unfold maxLen;decide)
   ·show x.t.body.At W5 W5.heap.size x.dH 0;rw[hL.bd];refine Yf (xs:=l) (v:=vB) (xB hL.own (λk e=> ?_) (aB _)) hL.v (λs hs=>⟨(hL.ok s hs).1,hst (hL.st s hs)⟩);have:=hL.own.lt k e;exact hk k this.1 this.2 (hL.ne k e).1
end Go.Proofs.YtmildapbbcbbhaaGreatDoor
