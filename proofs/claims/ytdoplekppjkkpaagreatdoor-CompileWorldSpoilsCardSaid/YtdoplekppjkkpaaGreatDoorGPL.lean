/- The maker's Program under way: what lies in memory, what stays. No program in sight. And what hangs on it. -/
import Derived.Test.YtdoplekppjkkpaaGreatDoorGPK
set_option linter.unusedSimpArgs false
set_option linter.unusedVariables false
set_option maxHeartbeats 40000000
set_option maxRecDepth 1000000
namespace Go.Proofs.YtdoplekppjkkpaaGreatDoor
open Go.RowKit
open Md
theorem dN.uniq {T:Tp} {H H':Option Nat} {hs hs':List ByteArray} {w:World} (h:dN w T H hs) (k:dN w T H' hs'):H=H':=by
 obtain⟨_,_,_,_,_,_,v,-,e1,e2,-⟩:=h.Bw;obtain⟨_,_,_,_,_,_,v',-,k1,k2,-⟩:=k.Bw;rw[e1]at k1;injection k1 with k1;injection k1 with k1 _ _;injection k1 with k1;simp only[List.cons.injEq]at k1;rw[<- e2,<- k2,k1.2.2.2.2.2.2.2.1]
theorem dN.wV {T:Tp} {H:Option Nat} {w:World} (h:dN w T H []) (m:Int):dN (w.setCell ⟨T.bm,1,none⟩ (.int .i64 m)) T H []:=h.th m
def Dv (T:Tp) (w w':World):Prop:= ∀H,dN w T H []->∃H2,dN w' T H2 []∧Hx w H H2∧Mm T H w w'
theorem Dv.refl (T:Tp) (w:World):Dv T w w:=λH h=>⟨H,h,Hx.refl _ _,Mm.refl _ _ _⟩
theorem Dv.mk {T:Tp} {H H2:Option Nat} {w w':World} (h:dN w T H []) (hi:dN w' T H2 []) (hx:Hx w H H2) (hm:Mm T H w w'):Dv T w w':=λH' h'=>by
 obtain rfl:=h.uniq h';exact⟨H2,hi,hx,hm⟩
theorem Dv.below {T:Tp} {w w':World} (hb:Below w.heap.size w w'):Dv T w w':=λH h=>⟨H,h.below hb,Hx.refl _ _,Mm.of_below hb⟩
def CM (T:Tp) (H:Option Nat) (W w':World):Prop:= ∃H',dN w' T H' []∧Hx W H H'∧Mm T H W w'
theorem CM.le {T:Tp} {H:Option Nat} {W w1 w2:World} (h:CM T H W w1) (k:Dv T w1 w2):CM T H W w2:=by
 obtain⟨H1,h1,h2,h3⟩:=h;obtain⟨H2,k1,k2,k3⟩:=k H1 h1;exact⟨H2,k1,h2.trans k2 h3.size,h3.trans h2 k3⟩
def Rl:List ByteArray:=[xP,bT1,bT2,bT3]
def Yw:Array Value:= #[.string ⟨#[109,97,105,110]⟩,.string ⟨#[116,49]⟩,.string ⟨#[116,50]⟩,.string ⟨#[116,51]⟩]
theorem Ri {k:Nat} (h:k<4): ∃s,Rl[k]? =some s∧Yw[k]? =some (.string s)∧s.size<=maxLen:=by
 have:k=0∨k=1∨k=2∨k=3:=agH
 rcases this with rfl|rfl|rfl|rfl <;> exact⟨_,rfl,rfl,aeP⟩
def EO (x:fD):Prop:=(x.t.Ok∧x.t.cZ.length<=x.eU)∧x.t.cZ=su∧(x.eU=2∧0<x.t.body.len)∧x.t.body.len<=20∧Ee x.t.body
def FM:Array Value:= #[.string ⟨#[97]⟩,.string ⟨#[98]⟩]
structure TM (T:Tp) (W0:World) (H0:Option Nat) (gl tb:Nat) (s:ByteArray) (H:Option Nat) (W:World) (vB:Value) (l:List bQ):Prop where
 loc:W.heap[gl]? =some (.cells FM 9 (0,0))
 box:W.heap[tb]? =some (.cells #[.string s,.int .i64 0,.slice (some ⟨gl,0,none⟩) 2 2,vB] 59 (0,0))
 row:yS (tb+1) H W vB l
 ok: ∀x∈l,zh x.h x.b x.e
 mi:dN W T H []
 km:Mm T H0 W0 W∧Hx W0 H0 H
 lt:T.bt<gl∧T.bm<gl∧T.B0<=gl∧tb=gl+1∧W0.heap.size=gl
 hne: ∀k,H=some k->k<gl∨tb<k
section
variable {T:Tp} {W0 W W':World} {H0 H H':Option Nat} {gl tb:Nat} {s:ByteArray} {vB:Value} {l:List bQ}
theorem TM.sz (h:TM T W0 H0 gl tb s H W vB l):tb+1<=W.heap.size:=(aO h.box)
theorem TM.go (h:TM T W0 H0 gl tb s H W vB l) (hm:Mm T H W W') (hx:Hx W H H') (hi:dN W' T H' []):TM T W0 H0 gl tb s H' W' vB l:=
 ⟨hm.keep h.loc aeT aeT (λe=>aeD),hm.keep h.box aeT aeT (λe=>aeD),
  h.row.next (hm.He aeT aeT) hx,h.ok,hi,⟨h.km.1.trans h.km.2 hm,h.km.2.trans hx h.km.1.size⟩,h.lt,λk e=>by
    rcases hx with rfl|⟨b,rfl,hb⟩
    ·exact h.hne k e
    ·injection e with e;have:=h.sz;right;omega⟩
theorem TM.start (h:dN W0 T H0 []) (hb: ∀k,H0=some k->k<W0.heap.size):TM T W0 H0 W0.heap.size (W0.heap.size+1) s H0 ((W0.alloc (.cells FM 9)).alloc (.cells #[.string s,.int .i64 0,.slice (some ⟨W0.heap.size,0,none⟩) 2 2,.slice none 0 0] 59)) (.slice none 0 0) []:=by
 have b1:=ak W0 (.cells FM 9);have b2:=ak (W0.alloc (.cells FM 9)) (.cells #[.string s,.int .i64 0,.slice (some ⟨W0.heap.size,0,none⟩) 2 2,.slice none 0 0] 59);have e:(W0.alloc (.cells FM 9)).heap.size=W0.heap.size+1:=agJ
 refine⟨(b2.block _ (by rw[e];exact Nat.lt_succ_self _)).trans (heap_alloc_new _ _),by rw[<- e];exact heap_alloc_new _ _,kG.nil _ _ _ _ _ _ _,agJ,(h.below b1).below b2,⟨(Mm.of_below b1).then_ (b2.mono (by rw[e];exact jl _)) b2.size,Hx.refl _ _⟩,⟨h.tape.lt,h.lt,h.tape.b0,rfl,rfl⟩,λk e=> .inl (hb k e)⟩
theorem TM.push {ys:List bQ} {g cap n:Nat} (h:TM T W0 H0 gl tb s H W vB l) (hy: ∀y∈ys,gM (tb+1) (zY vB.ownBlock H) W (bQ.I y)) (hok: ∀y∈ys,zh y.h y.b y.e) (hn:n=l.length+ys.length) (hown:W'.ownsRow (tb+1) 74 11 (.slice (some ⟨g,0,none⟩) n cap) n (l.flatMap bQ.f++ys.flatMap bQ.f)) (hg:W.grownBy W' vB.ownBlock) (hmv:vB.ownBlock=some g∨g=W.heap.size):
 TM T W0 H0 gl tb s H (W'.setCell ⟨tb,3,none⟩ (.slice (some ⟨g,0,none⟩) n cap)) (.slice (some ⟨g,0,none⟩) n cap) (l++ys)∧W'.heap[tb]? =some (.cells #[.string s,.int .i64 0,.slice (some ⟨gl,0,none⟩) 2 2,vB] 59 (0,0)):=by
 have hlt:=h.row.lt;have hB:Below (tb+1) W W':=CP hg (λk e=>(hlt k e).1) h.sz;have hbx:W'.heap[tb]? =_:=(hB.block tb (Nat.lt_succ_self _)).trans h.box;have hloc:W'.heap[gl]? =_:=(hB.block gl aeT).trans h.loc;have hi:dN W' T H []:=h.mi.grown hg (λk e=>by have h1:=(hlt k e).1;exact⟨aeT,aeT,aeT,h.row.ne k e⟩);have hkm:Mm T H0 W0 W':=h.km.1.then_ (CP hg (λk e=>by have:=(hlt k e).1;have:=h.lt;omega) h.km.1.size) hg.size;have hrow:yS (tb+1) H W' (.slice (some ⟨g,0,none⟩) n cap) (l++ys):=h.row.as0 hy hn hown hg hmv h.mi.hlt';refine⟨⟨(bg W' _ _ rfl (by have:=h.lt;show tb≠gl;omega)).trans hloc,by rw[dI hbx];rfl,hrow.next (nu.AV (iL _ _ _ (Nat.lt_succ_self _))) (Hx.refl _ _),?_,?_,⟨hkm.set _ _ (by have:=h.lt;show _<=tb;omega),h.km.2⟩,h.lt,h.hne⟩,hbx⟩
 ·intro y hyy;rcases List.mem_append.1 hyy with h1|h1
  ·exact h.ok y h1
  ·exact hok y h1
 ·exact hi.set _ _ (by have:=h.lt;show T.B0<=tb;omega) aex aex (λe=>by have:=h.hne tb e;have:=h.lt;omega)
end
def Fq (B D:Nat) (W:World) (g:Nat) (eH:List fD):Prop:= ∃(pre:List fD) (x:fD) (l:List bQ) (vB:Value),eH=pre++[x]∧x.t.body=fM l∧vB= .slice x.dB l.length x.cu∧
 W.ownsRow B 74 11 vB l.length (l.flatMap bQ.f)∧l.length<=5000∧(∀s∈l,zh s.h s.b s.e)∧(∀k,vB.ownBlock=some k->k≠g∧D<k)∧
 (∀s∈l,gM B (zY vB.ownBlock (some g)) W (bQ.I s))∧(∀y∈pre,gM B (zY vB.ownBlock (some g)) W (fD.I y))∧gM B (zY vB.ownBlock (some g)) W (λw2=>fP w2 w2.heap.size x.t.cZ x.iU 0)
structure PM (T:Tp) (w1:World) (gD pb nb:Nat) (H:Option Nat) (W:World) (vT:Value) (eH:List fD):Prop where
 box:W.heap[pb]? =some (.cells #[.slice (some ⟨gD,0,none⟩) 9 9,vT] 35 (0,0))
 dec:W.heap[gD]? =some (.cells (mM.flatMap qK).toArray 55 (0,0))
 nms:W.heap[nb]? =some (.cells Yw 9 (0,0))
 gt:IY (nb+1) H W vT eH
 F5: ∀x∈eH,EO x
 nm:eH.map (·.t.nm)=Rl.take eH.length
 mi:dN W T H []
 km:Mm T none w1 W
 lt:T.bt<w1.heap.size∧T.bm<w1.heap.size∧T.B0<=w1.heap.size∧w1.heap.size<=gD∧gD<pb∧pb<nb
 hn: ∀k,H=some k->nb<k
section
variable {T:Tp} {w1 W W':World} {gD pb nb:Nat} {H H':Option Nat} {vT:Value} {eH:List fD}
theorem PM.sz (h:PM T w1 gD pb nb H W vT eH):nb+1<=W.heap.size:=(aO h.nms)
theorem PM.go (h:PM T w1 gD pb nb H W vT eH) (hm:Mm T H W W') (hx:Hx W H H') (hi:dN W' T H' []):PM T w1 gD pb nb H' W' vT eH where
 box:=hm.keep h.box aeT aeT (λe=>ado)
 dec:=hm.keep h.dec aeT aeT (λe=>ado)
 nms:=hm.keep h.nms aeT aeT (λe=>by have:=h.hn _ e;omega)
 gt:=h.gt.next (hm.He aeT aeT) hx
 F5:=h.F5
 nm:=h.nm
 mi:=hi
 km:=⟨hm.os.trans h.km.os,hm.tape.trans h.km.tape,hm.output.trans h.km.output,aJ h.km.size hm.size,λk hk h1 h2 _=>(hm.block k (aR hk h.km.size) h1 h2 (λe=>ado)).trans (h.km.block k hk h1 h2 agJ)⟩
 lt:=h.lt
 hn:=λk e=>by
  rcases hx with rfl|⟨b,rfl,hb⟩
  ·exact h.hn k e
  ·injection e with e;have:=h.sz;omega
theorem PM.th (h:PM T w1 gD pb nb H W vT eH) (m:Int):PM T w1 gD pb nb H (W.setCell ⟨T.bm,1,none⟩ (.int .i64 m)) vT eH:=
 h.go ((Mm.refl T H W).rD (Hx.refl _ _) _ _) (Hx.refl _ _) (h.mi.th m)
theorem PM.push {x:fD} {g cap n:Nat} (h:PM T w1 gD pb nb H W vT eH) (hx:gM (nb+1) (zY vT.ownBlock H) W (fD.I x)) (hok:EO x) (hnm:Rl[eH.length]? =some x.t.nm) (hn:n=eH.length+1) (hown:W'.ownsRow (nb+1) 59 4 (.slice (some ⟨g,0,none⟩) n cap) n (eH.flatMap fD.f++fD.f x)) (hg:W.grownBy W' vT.ownBlock) (hmv:vT.ownBlock=some g∨g=W.heap.size):
 PM T w1 gD pb nb H (W'.setCell ⟨pb,1,none⟩ (.slice (some ⟨g,0,none⟩) n cap)) (.slice (some ⟨g,0,none⟩) n cap) (eH++[x])∧W'.heap[pb]? =some (.cells #[.slice (some ⟨gD,0,none⟩) 9 9,vT] 35 (0,0)):=by
 have hlt:=h.gt.lt;have hB:Below (nb+1) W W':=CP hg (λk hk=>(hlt k hk).1) h.sz;have hbx:W'.heap[pb]? =_:=(hB.block pb aeT).trans h.box;refine⟨⟨by rw[dI hbx];rfl,(bg W' _ _ rfl (by have:=h.lt;show pb≠gD;omega)).trans ((hB.block gD aeT).trans h.dec),(bg W' _ _ rfl (by have:=h.lt;show pb≠nb;omega)).trans ((hB.block nb (Nat.lt_succ_self _)).trans h.nms),?_,?_,?_,?_,?_,h.lt,h.hn⟩,hbx⟩
 ·exact(h.gt.push hx hn hown hg hmv h.mi.hlt').next (nu.AV (iL _ _ _ (by have:=h.lt;show pb<nb+1;omega))) (Hx.refl _ _)
 ·intro y hy;rcases List.mem_append.1 hy with hy|hy
  ·exact h.F5 y hy
  ·rw[List.mem_singleton.1 hy];exact hok
 ·rw[List.map_append,h.nm,aA,List.length_singleton,List.take_add_one,hnm];rfl
 ·have hi:dN W' T H []:=h.mi.grown hg (λk e=>by have h1:=(hlt k e).1;exact⟨aeT,aeT,aeT,h.gt.ne k e⟩);exact hi.set _ _ (by have:=h.lt;show T.B0<=pb;omega) aey aey (λe=>by have:=h.hn pb e;have:=h.lt;omega)
 ·exact(h.km.then_ (hB.mono aeT) hB.size).set _ _ (by have:=h.lt;show _<=pb;omega)
end
theorem Ba {w w':World} {B B' m n:Nat} {ty:TypeId} {v:Value} {xs:List Value} (h:w.ownsRow B ty m v n xs) (hk: ∀k,v.ownBlock=some k->w'.heap[k]? =w.heap[k]?) (hB:B'<=B):w'.ownsRow B' ty m v n xs:=by
 refine⟨h.1,?_⟩;rcases h.2 with h1|⟨g,cap,cur,h1,h2,h3,h4⟩
 ·exact .inl h1
 ·exact .inr ⟨g,cap,cur,h1,aJ hB h2,(hk g ahs).trans h3,h4⟩
theorem Rh {W:World} {gl:Nat} (h:W.heap[gl]? =some (.cells FM 9 (0,0))):fP W W.heap.size su (some ⟨gl,0,none⟩) 0:=by
 have hl:=(aO h);exact⟨⟨gl,0,rfl,hl,aQ h rfl,aeP⟩,⟨gl,0,rfl,hl,aQ h rfl,aeP⟩,trivial⟩
theorem aw7 {T:Tp} {w2 wa w9 Gc:World} {gD pb nb gl tb gT B:Nat} {H H3:Option Nat} {vT vB:Value} {eH:List fD} {s:ByteArray} {l:List bQ} {ab:Option Addr} {cb:Nat} (hP:PM T w2 gD pb nb H wa vT eH) (hT:TM T wa H gl tb s H3 w9 vB l) (hv:vB= .slice ab l.length cb) (hB:B<=nb) (hlen:l.length<=5000) (hW: ∀k,k<w9.heap.size->vT.ownBlock≠some k->k≠pb->Gc.heap[k]? =w9.heap[k]?) (hsz:w9.heap.size<=Gc.heap.size) (hg:vT.ownBlock=some gT∨w9.heap.size<=gT):
 Fq B gD Gc gT (eH++[⟨⟨s,0,su,fM l⟩,some ⟨gl,0,none⟩,2,ab,cb⟩]):=by
 have Oq:=hP.gt.lt;have hvB:=hT.row.lt;have q1:=hT.lt;have q2:=hP.lt;have q3:=hP.sz;have Ud: ∀k,gl<=k->k<w9.heap.size->k≠gT:=λk h1 h2 e=>by
  rcases hg with h|h
  ·have:=(Oq gT h).2;omega
  ·omega
 have hne: ∀k,gl<=k->vT.ownBlock≠some k:=λk h1 e=>by have:=(Oq k e).2;omega
 refine⟨eH,_,l,vB,rfl,rfl,hv,Ba hT.row.own (λk e=>hW k (hvB k e).2 (hne k afE) afE) agH,hlen,hT.ok,λk e=>⟨Ud k afE (hvB k e).2,afE⟩,λy hy w' h'=> ?_,λy hy w' h'=> ?_,λw' h'=> ?_⟩
 ·refine hT.row.stay y hy w' ⟨aJ hsz h'.1,λk h1 h2 h3=>(h'.2 k agH (λe=> ?_) (aR h3 hsz)).trans (hW k h3 (hne k agH) agH)⟩;rcases e with e|e
  ·exact h2 (.inl e)
  ·injection e with e;exact Ud k agH h3 e.symm
 ·refine hP.gt.stay y hy w' ⟨aJ hT.km.1.size (aJ hsz h'.1),λk h1 h2 h3=> ?_⟩;have h4:k<w9.heap.size:=aR h3 hT.km.1.size;refine(h'.2 k agH (λe=> ?_) (aR h4 hsz)).trans ((hW k h4 (λe=>h2 (.inl e)) agH).trans (hT.km.1.block k h3 agH agH (λe=>h2 (.inr e))));rcases e with e|e
  ·have:=(hvB k e).1;omega
  ·injection e with e;rcases hg with h|h
   ·exact h2 (.inl (by rw[h,e]))
   ·omega
 ·have hl:=(aO hT.loc);refine Rh ((h'.2 gl agH (λe=> ?_) (aR hl hsz)).trans ((hW gl hl (hne gl (aB _)) agH).trans hT.loc));rcases e with e|e
  ·have:=(hvB gl e).1;omega
  ·injection e with e;exact Ud gl (aB _) hl e.symm
theorem ZW {T:Tp} {w w2 W:World} (hb:Below w.heap.size w w2) (hm:Mm T none w2 W) (h1:w.heap.size<=T.bt) (h2:w.heap.size<=T.bm):Below w.heap.size w W:=
 ⟨hm.os.trans hb.os,hm.tape.trans hb.tape,hm.output.trans hb.output,aJ hb.size hm.size,λk hk=>(hm.block k (aR hk hb.size) agH agH agJ).trans (hb.block k hk)⟩
theorem OA (p:Pr) (iB:ByteArray): ∀(l:List Th) (j:Nat) (f g:List (List UInt8)),(jA p iB l j f g).err=0->(jA p iB l j f g).line=0
 | [],_,_,_,_=>rfl
 |t::r,j,f,g,h0=>by
  rw[jA]at h0⊢;split at h0
  ·rename_i h1;rw[h0]at h1;exact absurd h1 agI
  ·rename_i h1;rw[if_neg h1];exact OA p iB r _ _ _ h0
theorem ax5 {p:Pr} (h:(ko p).1=0):ko p=(0,0):=by
 refine Prod.ext h ?_;unfold ko at h⊢;split at h
 ·exact absurd h agI
 ·rename_i h1;rw[if_neg h1];split at h
  ·rename_i h2;rw[h]at h2;exact absurd h2 agI
  ·rename_i h2;rw[if_neg h2];split at h
   ·exact absurd h agI
   ·rename_i h3;rw[if_neg h3];split at h
    ·rename_i h4;rw[h]at h4;exact absurd h4 agI
    ·rename_i h4;rw[if_neg h4];split at h
     ·exact absurd h agI
     ·rename_i h5;rw[if_neg h5];exact OA _ _ _ _ _ _ h
theorem Us {eH:List fD} (h1: ∀x∈eH,EO x) (h2:eH.map (·.t.nm)=Rl.take eH.length) (h3:1<=eH.length) (h4:eH.length<=4):an2 ⟨mM,eH.map (·.t)⟩:=
 ⟨rfl,⟨eH.length,h4,h3,by rw[<- show Rl=[xP,bT1,bT2,bT3]from rfl,<- h2];simp⟩,λt ht=>by obtain⟨x,hx,rfl⟩:=List.mem_map.1 ht;exact(h1 x hx).2.1⟩
theorem Fq.next {B D g:Nat} {W W':World} {eH:List fD} (h:Fq B D W g eH) (ha:kC B W W'):Fq B D W' g eH:=by
 obtain⟨pre,x,l,vB,h1,h2,h3,h4,h5,h6,h7,h8,h9,h10⟩:=h;refine⟨pre,x,l,vB,h1,h2,h3,Ba h4 (λk e=> ?_) (aB _),h5,h6,h7,λy hy=>(h8 y hy).go (.AV ha) (λ_ _ _ e=>e),λy hy=>(h9 y hy).go (.AV ha) (λ_ _ _ e=>e),h10.go (.AV ha) (λ_ _ _ e=>e)⟩;have:=h4.lt k e;exact ha.2 k this.1 this.2
theorem aY2:(Tryz.prog.info? 59).map (λi=>(i.zero,i.size,i.bytes))=some (some (.agg #[.string ⟨#[]⟩,.int .i64 0,.slice none 0 0,.slice none 0 0]),4,72):=agG
theorem bA9 (x:fD): ∀u∈fD.f x,u.oneCell'=true:=by
 intro u hu;simp[fD.f]at hu;rcases hu with rfl|rfl|rfl|rfl <;> rfl
structure AJ (B:Nat) (W:World) (gD gT aG:Nat) (eH:List fD):Prop where
 dec:W.heap[gD]? =some (.cells (mM.flatMap qK).toArray 55 (0,0))
 row:W.ownsRow B 59 4 (.slice (some ⟨gT,0,none⟩) eH.length aG) eH.length (eH.flatMap fD.f)
 F5: ∀x∈eH,EO x
 made:an2 ⟨mM,eH.map (·.t)⟩
 zero:ko ⟨mM,eH.map (·.t)⟩=(0,0)
 last:Fq B gD W gT eH
 lt:B<=gD∧gD<gT
theorem AJ.next {B gD gT aG:Nat} {W W':World} {eH:List fD} (h:AJ B W gD gT aG eH) (ha:kC B W W'):AJ B W' gD gT aG eH:=
 ⟨(ha.2 gD h.lt.1 (aO h.dec)).trans h.dec,Ba h.row (λk e=>by have:=h.row.lt k e;exact ha.2 k this.1 this.2) (aB _),h.F5,h.made,h.zero,h.last.next ha,h.lt⟩
theorem QB {W:World} {gD:Nat} (h:W.heap[gD]? =some (.cells (mM.flatMap qK).toArray 55 (0,0))):jv W W.heap.size mM (some ⟨gD,0,none⟩) 0:=by
 have hg:Fe 0 W (.slice (some ⟨gD,0,none⟩) 9 9) mM:=Grow.made MS h (bF _) rfl aeP;obtain⟨ao,cap,e,-,hs⟩:=hg.says (λd hd=>(av4 d hd).1);injection e with e1 e2 e3;subst e1;exact hs.now
def st1:bQ:=⟨fK 1 ⟨#[120]⟩ .nil 1 1 ⟨#[]⟩ .nil,.nil,.nil,jT none 0⟩
def Di (gl gB:Nat):fD:=⟨⟨xP,0,su,fM [st1]⟩,some ⟨gl,0,none⟩,2,some ⟨gB,0,none⟩,1⟩
theorem aV9 (gl gB:Nat):EO (Di gl gB):=⟨⟨⟨by show(4:Nat)<=maxLen;unfold maxLen;decide,wF,acv,acr⟩,aB 2⟩,rfl,⟨rfl,by show 0<(1:Nat);decide⟩,by show(1:Nat)<=20;decide,⟨agI,sb0,sb0,trivial⟩⟩
theorem ai5:ko ⟨mM,[⟨xP,0,su,fM [st1]⟩]⟩=(0,0):=agX
theorem ae3 {w wf wg wi:World} {gE:Nat} (h1:wf.heap.size<=gE) (h0:w.heap.size<wf.heap.size) (h2:wg.heap[gE]? =some (.cells (mM.flatMap qK).toArray 55 (0,0))) (h3:gE<wg.heap.size) (hb:Below wg.heap.size wg wi) (hl:wi.heap[wg.heap.size]? =some (.cells FM 9 (0,0))) (hbw:Below w.heap.size w wg) (hr:wg.heap[w.heap.size]? =some (.cells #[.slice none 0 0,.slice none 0 0] 35 (0,0))):
 AJ (w.heap.size+1) ((((wi.setCell ⟨w.heap.size,0,none⟩ (.slice (some ⟨gE,0,none⟩) 9 9)).setCell ⟨w.heap.size,1,none⟩ (.slice (some ⟨wi.heap.size+1,0,none⟩) 1 1)).alloc (.cells (bQ.f st1).toArray 74)).alloc (.cells (fD.f (Di wg.heap.size wi.heap.size)).toArray 59)) gE (wi.heap.size+1) 1 [Di wg.heap.size wi.heap.size]∧
 Below w.heap.size w ((((wi.setCell ⟨w.heap.size,0,none⟩ (.slice (some ⟨gE,0,none⟩) 9 9)).setCell ⟨w.heap.size,1,none⟩ (.slice (some ⟨wi.heap.size+1,0,none⟩) 1 1)).alloc (.cells (bQ.f st1).toArray 74)).alloc (.cells (fD.f (Di wg.heap.size wi.heap.size)).toArray 59)):=by
 have hlt:=(aO hl);have hwg:=(aO hr);have hA: ∀k,k<wi.heap.size->k≠w.heap.size->((((wi.setCell ⟨w.heap.size,0,none⟩ (.slice (some ⟨gE,0,none⟩) 9 9)).setCell ⟨w.heap.size,1,none⟩ (.slice (some ⟨wi.heap.size+1,0,none⟩) 1 1)).alloc (.cells (bQ.f st1).toArray 74)).alloc (.cells (fD.f (Di wg.heap.size wi.heap.size)).toArray 59)).heap[k]? =wi.heap[k]?:=λk hk hne=>by rw[heap_alloc_old _ _ (by simp[World.setCell];omega),heap_alloc_old _ _ (by simpa[World.setCell]using hk),bg _ _ _ rfl (λe=>hne e.symm),bg _ _ _ rfl (λe=>hne e.symm)]
 have hz:((wi.setCell ⟨w.heap.size,0,none⟩ (.slice (some ⟨gE,0,none⟩) 9 9)).setCell ⟨w.heap.size,1,none⟩ (.slice (some ⟨wi.heap.size+1,0,none⟩) 1 1)).heap.size=wi.heap.size:=aeU
 have hB:((((wi.setCell ⟨w.heap.size,0,none⟩ (.slice (some ⟨gE,0,none⟩) 9 9)).setCell ⟨w.heap.size,1,none⟩ (.slice (some ⟨wi.heap.size+1,0,none⟩) 1 1)).alloc (.cells (bQ.f st1).toArray 74)).alloc (.cells (fD.f (Di wg.heap.size wi.heap.size)).toArray 59)).heap[wi.heap.size]? =some (.cells (bQ.f st1).toArray 74 (0,0)):=by rw[heap_alloc_old _ _ aeU];have:=heap_alloc_new ((wi.setCell ⟨w.heap.size,0,none⟩ (.slice (some ⟨gE,0,none⟩) 9 9)).setCell ⟨w.heap.size,1,none⟩ (.slice (some ⟨wi.heap.size+1,0,none⟩) 1 1)) (.cells (bQ.f st1).toArray 74);rw[hz]at this;exact this
 have hT:((((wi.setCell ⟨w.heap.size,0,none⟩ (.slice (some ⟨gE,0,none⟩) 9 9)).setCell ⟨w.heap.size,1,none⟩ (.slice (some ⟨wi.heap.size+1,0,none⟩) 1 1)).alloc (.cells (bQ.f st1).toArray 74)).alloc (.cells (fD.f (Di wg.heap.size wi.heap.size)).toArray 59)).heap[wi.heap.size+1]? =some (.cells (fD.f (Di wg.heap.size wi.heap.size)).toArray 59 (0,0)):=by
  have e:(((wi.setCell ⟨w.heap.size,0,none⟩ (.slice (some ⟨gE,0,none⟩) 9 9)).setCell ⟨w.heap.size,1,none⟩ (.slice (some ⟨wi.heap.size+1,0,none⟩) 1 1)).alloc (.cells (bQ.f st1).toArray 74)).heap.size=wi.heap.size+1:=aeU
  have:=heap_alloc_new (((wi.setCell ⟨w.heap.size,0,none⟩ (.slice (some ⟨gE,0,none⟩) 9 9)).setCell ⟨w.heap.size,1,none⟩ (.slice (some ⟨wi.heap.size+1,0,none⟩) 1 1)).alloc (.cells (bQ.f st1).toArray 74)) (.cells (fD.f (Di wg.heap.size wi.heap.size)).toArray 59);rw[e]at this;exact this
 have hbi:Below w.heap.size w wi:=hbw.trans (hb.mono hbw.size);have hsz:=hbi.size;have hbs:=hb.size;have hbz:Below w.heap.size w ((((wi.setCell ⟨w.heap.size,0,none⟩ (.slice (some ⟨gE,0,none⟩) 9 9)).setCell ⟨w.heap.size,1,none⟩ (.slice (some ⟨wi.heap.size+1,0,none⟩) 1 1)).alloc (.cells (bQ.f st1).toArray 74)).alloc (.cells (fD.f (Di wg.heap.size wi.heap.size)).toArray 59)):=(((hbi.setCell agJ _).setCell agJ _).alloc (by rw[hz];exact hsz) _).alloc (by simp[World.setCell];omega) _;generalize ((((wi.setCell ⟨w.heap.size,0,none⟩ (.slice (some ⟨gE,0,none⟩) 9 9)).setCell ⟨w.heap.size,1,none⟩ (.slice (some ⟨wi.heap.size+1,0,none⟩) 1 1)).alloc (.cells (bQ.f st1).toArray 74)).alloc (.cells (fD.f (Di wg.heap.size wi.heap.size)).toArray 59))=W at *;have hloc:W.heap[wg.heap.size]? =_:=(hA wg.heap.size hlt agH).trans hl;have hok: ∀x∈ [Di wg.heap.size wi.heap.size],EO x:=λx hx=>by rw[List.mem_singleton.1 hx];exact aV9 _ _
 refine⟨⟨(hA gE (by have:=hb.size;omega) agH).trans ((hb.block gE h3).trans h2),(Grow.made (f:=fD.f) (m:=4) (xs:=[Di wg.heap.size wi.heap.size]) Ao (by rw[List.flatMap_singleton];exact hT) agH rfl acr).own,hok,Us hok rfl (aB 1) (show(1:Nat)<=4 by decide),ai5,⟨[],_,[st1],.slice (some ⟨wi.heap.size,0,none⟩) 1 1,rfl,rfl,rfl,(Grow.made (f:=bQ.f) (m:=11) (xs:=[st1]) Am (by rw[List.flatMap_singleton];exact hB) agH rfl aeP).own,agI,λs hs=> ?_,λk e=> ?_,λs hs=> ?_,agJ,λw' h'=> ?_⟩,agH,agH⟩,hbz⟩
 ·rw[List.mem_singleton.1 hs];exact qP aeO aeP ⟨⟨aeO,aeO,qL,nil_le⟩,bF _⟩
 ·have e:wi.heap.size=k:=by injection e
  omega
 ·rw[List.mem_singleton.1 hs];exact λ_ _=>⟨trivial,trivial,trivial,trivial⟩
 ·refine Rh ((h'.2 wg.heap.size agH (λe=> ?_) (aO hloc)).trans hloc);rcases e with e|e
  ·have e:wi.heap.size=wg.heap.size:=by injection e
   omega
  ·have e:wi.heap.size+1=wg.heap.size:=by injection e
   omega
def MkP (w:World) (e:Ending) (w':World):Prop:= ∃(gD gT aG:Nat) (eH:List fD),e= .returned (.agg #[.slice (some ⟨gD,0,none⟩) 9 9,.slice (some ⟨gT,0,none⟩) eH.length aG])∧AJ (w.heap.size+1) w' gD gT aG eH∧Below w.heap.size w w'
def ZR:Prop:= ∀(p:Pr) (w:World) (aK aM:Option Addr) (aH aG:Nat),p.At w aK aM->p.ds.length<=aH->p.ts.length<=aG->
    Calls Tryz.prog 9 #[.agg #[.slice aK p.ds.length aH,.slice aM p.ts.length aG]] w λe w'=>e= .returned (.tuple #[.int .i64 (ko p).1,.int .i64 (ko p).2])∧Below w.heap.size w w'
theorem Yr (hst: ∀T,EJ T 2) (href:ZR) (w:World) (zs:List Int) (ao:Option Addr) (cap:Nat) (hz:FX w w.heap.size zs ao) (hl:zs.length<=9223372036854775807):
 Calls Tryz.prog 5 #[.slice ao zs.length cap] w (MkP w):=by
 have HZ:=ah hz;clear hz;go_enter Tryz.func5,Tryz.ntmps5;go_upto_region 2 with fail;obtain⟨w2,hw2⟩: ∃x,x=(((w.alloc (.cells #[.slice none 0 0,.slice none 0 0] 35)).alloc (.cells #[.slice ao zs.length cap,.int .i64 0] 65)).alloc (.cells #[.pointer (some ⟨w.heap.size+1,0,none⟩),.int .i64 0,.int .i64 20,.bool false,.bool false,.bool false,.bool false,.slice none 0 0] 67)):=⟨_,rfl⟩;rw[<- hw2];obtain⟨T,e0,e1,e2,e3,e4,e5⟩: ∃T:Tp,T.B0=w.heap.size∧w.heap.size+1=T.bt∧w.heap.size+1+1=T.bm∧T.ao=ao∧T.cap=cap∧T.zs=zs:=⟨⟨w.heap.size,w.heap.size+1,w.heap.size+1+1,ao,cap,zs,agH,agH,agH⟩,rfl,rfl,rfl,rfl,rfl,rfl⟩;rw[e2,e1];have HS2:aj (w2.heap.size=w.heap.size+3):=ah (by rw[hw2];simp);have yt:aj (Below w.heap.size w w2):=ah (by rw[hw2];exact((ak _ _).alloc agJ _).alloc ahj _);have HR2:aj (w2.heap[w.heap.size]? =some (.cells #[.slice none 0 0,.slice none 0 0] 35 (0,0))):=ah (by rw[hw2,heap_alloc_old _ _ ahj,heap_alloc_old _ _ ahj];exact heap_alloc_new _ _);have UW:aj (dN w2 T none []):=ah (by
  have k1:w2.heap[T.bt]? =some (.cells #[.slice ao zs.length cap,.int .i64 0] 65 (0,0)):=by rw[hw2,<- e1,heap_alloc_old _ _ agJ];have:=heap_alloc_new (w.alloc (.cells #[.slice none 0 0,.slice none 0 0] 35)) (.cells #[.slice ao zs.length cap,.int .i64 0] 65);simpa using this
  have k2:w2.heap[T.bm]? =some (.cells #[.pointer (some ⟨w.heap.size+1,0,none⟩),.int .i64 0,.int .i64 20,.bool false,.bool false,.bool false,.bool false,.slice none 0 0] 67 (0,0)):=by rw[hw2,<- e2];have:=heap_alloc_new ((w.alloc (.cells #[.slice none 0 0,.slice none 0 0] 35)).alloc (.cells #[.slice ao zs.length cap,.int .i64 0] 65)) (.cells #[.pointer (some ⟨w.heap.size+1,0,none⟩),.int .i64 0,.int .i64 20,.bool false,.bool false,.bool false,.bool false,.slice none 0 0] 67);simpa using this
  refine⟨⟨⟨0,bF _,by rw[k1,e3,e4,e5];rfl⟩,by rw[e0,e3,e5];exact HZ.o.below yt.o,by rw[e5];exact hl⟩,⟨0,20,false,false,false,false,.slice none 0 0,aeO,by rw[k2,e1],rfl,Grow.nil _ _ _ _ _ _⟩,agJ,agJ,agJ,agJ⟩)
 have bf:aj (T.B0=w.heap.size∧T.bt=w.heap.size+1∧T.bm=w.heap.size+2):=ah ⟨e0,e1.symm,agH⟩;clear hw2 e0 e1 e2 e3 e4 e5 HZ;go_wp2_with fail;refine(Od w2).mono ?_;rintro e w3 ⟨gD,rfl,hgD,Gh,hb⟩;have Pt:=ah (aI hgD (aO Gh));have HI3:=ah (UW.o.below hb);have HB3:=ah hb;have HD3:=ah Gh;clear hgD Gh hb;go_upto_region 3 with fail;generalize um:World.alloc w3 _=w4;obtain⟨pb,hpb,dR,-,wP,-⟩:=qD um;have HPB:=ah hpb;have HI4:=ah (HI3.o.below dR.o);have HD4:=ah ((dR.o.block _ Pt.o.2).trans HD3.o);rw[hpb];clear um hpb HI3 HD3;have c0:=HI4.o.ptr;go_wp2_with fail;refine(kW T none [] 3 _ aeO HI4.o).mono ?_;rintro e w5 ⟨r,rfl,hr,-,hM,hI⟩;have hr3:r<3:=by have:=hr agI;omega
 have hwn:IntKind.i64.wrap (2+(r:Int))=2+(r:Int):=IntWalk.i64_in _ agH;have gL:=ah hI;have fZ:=ah hM;clear hM hI hr c0;go_upto_region 5 with fail;obtain⟨nb,hnb⟩: ∃g,w5.heap.size=g:=⟨_,rfl⟩;generalize sO:World.alloc w5 _=w6;have HPM:aj (PM T w2 gD pb nb none w6 (.slice none 0 0) []):=ah (by
  have hb6:Below w5.heap.size w5 w6:=by rw[<- sO];exact ak _ _
  have hn6:w6.heap[nb]? =some (.cells Yw 9 (0,0)):=by rw[<- sO,<- hnb];exact heap_alloc_new _ _
  have q1:=Pt.o;have q2:=HPB.o;have q3:=bf.o;have q4:=HS2.o;have hp5:=fZ.o.keep wP.o agH;have hd5:=fZ.o.keep HD4.o agH;refine⟨(hb6.block _ (aO hp5)).trans hp5,(hb6.block _ (aO hd5)).trans hd5,hn6,kG.nil _ _ _ _ _ _ _,agJ,rfl,gL.o.below hb6,?_,⟨agH,agH,agH,agH,agH,?_⟩,agJ⟩
  ·exact(((Mm.of_below HB3.o).then_ (dR.o.mono HB3.o.size) dR.o.size).trans (Hx.refl _ _) fZ.o.mm).then_ (hb6.mono (aJ HB3.o.size (aJ dR.o.size fZ.o.size))) hb6.size
  ·have:=(aO hp5);omega)
 rw[hnb];have kJ:aj (w.heap.size<=gD):=ah (by have:=Pt.o;have:=HS2.o;omega);clear sO hnb HI4 gL fZ dR HB3 wP HD4 Pt HPB UW;go_wp2_with fail;go_loopw [7] (λv7 wr=> ∃(k:Nat) (H:Option Nat) (vT:Value) (eH:List fD),v7= .int .i64 k∧k<=2+r∧eH.length=k∧PM T w2 gD pb nb H wr vT eH∧(0<k->∃gT,vT.ownBlock=some gT∧Fq (w.heap.size+1) gD wr gT eH)) (λi _=>2+r -(intOf i).toNat)
 case atStart=>exact⟨0,none,_,[],rfl,agH,rfl,HPM.o,λh=>absurd h agI⟩
 case round=>
  obtain⟨k,H,vT,eH,rfl,hk,aP9,hp,hlast⟩:=hrel;have HP:=ah hp;have sJ:=ah aP9;have HLA:=ah hlast;clear hp aP9 hlast HPM;by_cases hlt:k<2+r
  ·clear HLA;obtain⟨th,left,qa,qb,qc,qd,vH,ku,c0,c1,c2,c3,c4,c5,c6,c7,cf,hv,hrow⟩:=HP.o.mi.reads;have f1:=cf 1;clear c0 c2 c3 c4 c5 c6 c7 cf hv hrow ku;go_upto_region 9 with fail;generalize hW1:World.setCell wr _ _=wa;have Ju:aj (PM T w2 gD pb nb H wa vT eH):=ah (by rw[<- hW1];exact HP.o.th _);clear hW1 c1 f1 HP;obtain⟨s,hs1,hs2,hs3⟩:=Ri (k:=k) agH;have cs:wa.cell? ⟨nb,k,none⟩=some (.string s):=(bP Ju.o.nms hs2).2;have hk0:(0:Int)<=(k:Int):=by omega
   have hk4:(k:Int)<4:=agH
   have HS:=ah (aI hs1 hs3);clear hs1 hs2 hs3;go_upto_region 10 with fail;obtain⟨gl,hgl⟩: ∃g,wa.heap.size=g:=⟨_,rfl⟩;obtain⟨tb,htb⟩: ∃g,gl+1=g:=⟨_,rfl⟩;generalize hWb:World.alloc (World.alloc wa _) _=wb;have Jy:aj (TM T wa H gl tb s H wb (.slice none 0 0) []):=ah (by rw[<- hWb,<- htb,<- hgl];exact TM.start Ju.o.mi Ju.o.mi.hlt');have WE:=ah (aI hgl htb);rw[hgl,htb];clear hWb hgl htb cs
   go_upto_if 42 with fail
   go_cut [8] (λs8 W'=>s8= .pointer (some ⟨tb,0,none⟩)∧∃vB l,l.length<=10∧TM T wa H gl tb s H W' vB l)
   case first=>
    by_cases hkz:k=0
    ·have aP0:((k:Int)==0)=true:=(by rw[beq_iff_eq];omega);clear hkz;have e28:decide ((k:Int)<2+(r:Int))=true:=adl;go_wp2_with fail;rw[e28,aP0];go_loopw [9] (λv9 wr=> ∃(q:Nat) (vB:Value) (l:List bQ),v9= .int .i64 q∧1<=q∧q<=2+r∧l.length+1=q∧TM T wa H gl tb s H wr vB l) (λi _=>2+r -(intOf i).toNat)
     case atStart=>exact⟨1,_,[],rfl,agI,agH,rfl,Jy.o⟩
     case round=>
      obtain⟨q,vB,l,rfl,hq1,hq2,hql,AP⟩:=hrel;have HT:=ah AP;have HQ:=ah hql;clear AP hql Jy;by_cases hqn:q<2+r
      ·go_upto_region 14 with fail;have hd1:Below wr.heap.size wr (wr.drewN 1):=below_drewN (au _ _) 1;obtain⟨s',hs1,hs2,hs3⟩:=Ri (k:=q) agH;have HN:aj (wr.heap[nb]? =some (.cells Yw 9 (0,0))):=ah (Ju.o.go HT.o.km.1 HT.o.km.2 HT.o.mi).nms;have Y0: ∀w',Below wr.heap.size wr w'->w'.cell? ⟨tb,3,none⟩=some vB:=λw' h=>aQ ((h.block tb (aO HT.o.box)).trans HT.o.box) rfl;have K1: ∀w',Below wr.heap.size wr w'->w'.cell? ⟨nb,q,none⟩=some (.string s'):=λw' h=>aQ ((h.block nb (aO HN.o)).trans HN.o) hs2;have hb0:(0:Int)<=(q:Int):=agH;have hb1:(q:Int)<4:=agH;have HS':=ah hs3;clear hs1 hs2 hs3;refine eu agG rfl ?_;refine dD 0 8 [] [[],[0],[],[],[2,3],[2,3,4],[2,3,4,5],[2,3,4,5,6],[0,1,2,3,4,5,6,7],[0,1,2,3,4,5,6,7,8],[0,1,2,3,4,5,6,7,8,9]] [[],[],[],[],[],[],[],[]] (λ_ w'=>Below wr.heap.size wr w') (λw w'=>Below w.heap.size w w') [48,49,50,51,52,53,54,55] rfl rfl ahS agG agG agG agG agG ahS (λ_=>au _ _) ahS hd1 ?_;simp only[jH,nY]
       iterate 7
        apply bZ.step
        case bL=>intro c A w' hok hC hO hD;have e8:=hO 8 ahS;have e6:=hO 6 ahS;have e9:=hO 9 ahS;simp[Act.eval]at e8 e6 e9;simp[Act.eval]at hD;simp[go_sem,gd,Oper.wp,hD,e8,e6,e9,Y0,hC,hb0,hb1,K1];exact AaH
        try simp only[dY]
       refine bZ.some (λv w'=> ∃bb,v= .slice (some ⟨bb,0,none⟩) 1 1∧wr.heap.size<=bb∧w'.heap[bb]? =some (.cells (bQ.f (⟨fK 12 s' .nil 0 0 ⟨#[]⟩ .nil,.nil,.nil,rF⟩:bQ)).toArray 74 (0,0))) ?_ ?_ ?_
       ·rintro v w1 w' hle ⟨g,h1,h2,h3⟩;exact⟨g,h1,h2,(hle.block g (aO h3)).trans h3⟩
       ·intro c A w' hok hC hO hD;simp[Act.eval]at hD;simp[go_sem,gd,Oper.wp,hD];exact aV.mk (d:=_) (v:= .slice (some ⟨_,0,none⟩) 1 1) (ak _ _) (hC.trans ((ak _ _).mono hC.size)) ⟨_,rfl,hC.size,heap_alloc_new _ _⟩
       try simp only[dY]
       refine bZ.done ?_;intro wz dL
       try simp only[jH]
       iterate 7 refine tH ?_
       intro v7 h7;obtain⟨bb,rfl,hbb,hcell⟩:=h7;clear hd1 Y0 K1 hb0 hb1;refine eO.nil ?_;go_simp;refine dZ 8 [[],[0],[],[],[2,3],[2,3,4],[2,3,4,5],[2,3,4,5,6],[0,1,2,3,4,5,6,7],[0,1,2,3,4,5,6,7,8],[0,1,2,3,4,5,6,7,8,9]] rfl rfl rfl rfl rfl agG agG agG ?_;obtain⟨i0,hi0,hz0,hz1,hz2⟩:=vO (α:=Nat) (β:=Nat) LV;have Du:=ah (HT.o.go (Mm.of_below dL) (Hx.refl _ _) (HT.o.mi.below dL));have hkl:l.length+1<=maxLen:=(by have:=HQ.o;unfold maxLen;omega);have hkb:(l.length+1)*176<=140737488355328:=(by have:=HQ.o;omega);refine wp_append_lies wz _ _ _ ahS (tb+1) 74 i0 _ 11 176 Tryz.underlying57 hi0 hz0 hz1 hz2 ahS agH vB l.length (l.flatMap bQ.f) ahS Du.o.row.own ⟨bb,0,none⟩ 1 1 (bQ.f (⟨fK 12 s' .nil 0 0 ⟨#[]⟩ .nil,.nil,.nil,rF⟩:bQ)) ahS ahS (gP hcell) (KI _) agI hkl hkb Du.o.sz _ rfl ?_;intro g' cap' w5 hown hgr hmv jQ;clear hi0 hz0 hz1 hz2 hcell dL hbb hkl hkb;have uY:=ah (Du.o.push (ys:=[(⟨fK 12 s' .nil 0 0 ⟨#[]⟩ .nil,.nil,.nil,rF⟩:bQ)]) (n:=l.length+1) (λy hy=>aay) (λy hy=>aaz) rfl acW hgr hmv);have Br:=ah uY.o.1;have y3:w5.cell? ⟨tb,3,none⟩=some vB:=aQ uY.o.2 rfl;have f3:w5.frozen? ⟨tb,3,none⟩=false:=bK uY.o.2;clear hown hgr hmv jQ uY Du;go_simp;refine dD 9 10 [] [[],[0],[],[],[2,3],[2,3,4],[2,3,4,5],[2,3,4,5,6],[0,1,2,3,4,5,6,7],[0,1,2,3,4,5,6,7,8],[0,1,2,3,4,5,6,7,8,9]] [[]] (λ_ w'=>w'=w5) (λw w'=>w=w') [57] rfl rfl ahS agG agG agG agG agG ahS (λ_=>rfl) ahS rfl ?_;simp only[jH,nY];apply bZ.step
       case bL=>intro c A w' hok hC hO hD;have e8:=hO 8 ahS;simp[Act.eval]at e8;simp[Act.eval]at hD;simp[go_sem,gd,Oper.wp,hD,e8];exact aV.mk rfl hC (cB.mk _ _)
       try simp only[dY]
       refine bZ.done ?_;intro wz dL
       try simp only[jH]
       refine tH ?_;refine eO.nil ?_;go_simp;refine dZ 10 [[],[0],[],[],[2,3],[2,3,4],[2,3,4,5],[2,3,4,5,6],[0,1,2,3,4,5,6,7],[0,1,2,3,4,5,6,7,8],[0,1,2,3,4,5,6,7,8,9]] rfl rfl rfl rfl rfl agG agG agG ?_;subst dL;simp[go_sem,Oper.wp,y3,f3];refine fU rfl ?_;clear y3 f3;go_simp;go_wp2_with fail;go_roundw
       case rel=>exact⟨q+1,_,_,agL,agH,agH,by have:=HQ.o;simp;omega,Br.o⟩
       case measure=>simp[intOf];omega
      ·go_wp2_with fail;go_meet;exact⟨rfl,_,l,by have:=HQ.o;omega,HT.o⟩
    ·have aP0:((k:Int)==0)=false:=acy;go_wp2_with fail;go_meet;exact⟨rfl,_,[],agJ,Jy.o⟩
   obtain⟨rfl,vB,l,aP1,AP⟩:=hcut;obtain⟨wd,rfl⟩: ∃W:World,W=wc:=⟨_,rfl⟩;have HT:=ah AP;have HL:=ah aP1;clear AP aP1 Jy;go_upto_region 15 with fail;have HST:aj (∀w H (n:Int),dN w T H []->1<=n->n<=9->Calls Tryz.prog 14 #[.pointer (some ⟨T.bm,0,none⟩),.int .i64 2,.int .i64 n] w (TH T H [] w)):=ah (λw H n h1 h2 h3=>hst T w H [] n h1 agI h2 h3);have HBM:aj (T.bt<wd.heap.size∧T.bm<wd.heap.size∧tb+1<=wd.heap.size):=ah ⟨HT.o.mi.tape.lt,HT.o.mi.lt,HT.o.sz⟩;have hd1:CM T H wd (wd.drewN 1):=⟨H,HT.o.mi.below (below_drewN (au _ _) 1),Hx.refl _ _,Mm.of_below (below_drewN (au _ _) 1)⟩;have Y0: ∀w',CM T H wd w'->w'.cell? ⟨tb,3,none⟩=some vB:=λw' ⟨H',h1,h2,h3⟩=>aQ (HT.o.go h3 h2 h1).box rfl;have K0: ∀w',CM T H wd w'->w'.cell? ⟨T.bm,0,none⟩=some (.pointer (some ⟨T.bt,0,none⟩)):=λw' ⟨H',h1,_,_⟩=>h1.ptr;refine eu agG rfl ?_;refine dD 0 10 [] [[],[0],[],[],[3],[3,4],[3,4,5],[3,4,5,6],[3,4,5,6,7],[2,3,4,5,6,7,8],[0,1,2,3,4,5,6,7,8,9],[0,1,2,3,4,5,6,7,8,9,10],[0,1,2,3,4,5,6,7,8,9,10,11]] [[],[],[],[],[],[],[],[],[],[]] (λ_ w'=>CM T H wd w') (λw w'=>Dv T w w') [58,59,60,61,62,63,64,65,66,67] rfl rfl ahS agG agG agG agG agG ahS (λ_=>Dv.refl _ _) ahS hd1 ?_;simp only[jH,nY]
   iterate 7
    apply bZ.step
    case bL=>intro c A w' hok hC hO hD;have e8:=hO 8 ahS;have e3:=hO 3 ahS;simp[Act.eval]at e8 e3;simp[Act.eval]at hD;simp[go_sem,gd,Oper.wp,hD,e8,e3,Y0,hC,K0];exact aV.mk (Dv.refl _ _) hC (cB.mk _ _)
    try simp only[dY]
   refine bZ.some (λv _=> ∃r':Nat,v= .int .i64 (r':Int)∧r'<3) (λ_ _ _ _ h=>h) ?_ ?_
   ·intro c A w' hok hC hO hD;simp[Act.eval]at hD;simp[go_sem,gd,Oper.wp,hD];obtain⟨H',h1,h2,h3⟩:=hC;refine(kW T H' [] 3 w' aeO h1).mono ?_;rintro e w2 ⟨r',rfl,hr1,-,hM,hI⟩;have hle:Dv T w' w2:=Dv.mk h1 hI (Hx.refl _ _) hM.mm;exact aV.mk hle (CM.le ⟨H',h1,h2,h3⟩ hle) ⟨r',rfl,ady⟩
   refine bZ.some (λv w'=> ∃r':Nat,v= .int .i64 (1+(r':Int))∧r'<3) (λ_ _ _ _ h=>h) ?_ ?_
   ·intro c A w' hok hC hO hD;simp[Act.eval]at hD;obtain⟨r',hr',h1⟩:=hD;have hwr:IntKind.i64.wrap (1+(r':Int))=1+(r':Int):=IntWalk.i64_in _ agH;simp[go_sem,gd,Oper.wp,hr',hwr];exact aV.mk (Dv.refl _ _) hC (⟨r',rfl,h1⟩)
   try simp only[dY]
   refine bZ.some (λv w'=> ∃(l2:List bQ) (H2:Option Nat),dN w' T H2 []∧yS wd.heap.size H2 w' v l2∧(∀x∈l2,zh x.h x.b x.e)∧1<=l2.length∧l2.length<=9) ?_ ?_ ?_
   ·rintro v w1 w' hle ⟨l2,H2,h1,h2,h3⟩;obtain⟨H3,k1,k2,k3⟩:=hle H2 h1;exact⟨l2,H3,k1,h2.next (k3.He HBM.o.1 HBM.o.2.1) k2,h3⟩
   ·intro c A w' hok hC hO hD;simp[Act.eval]at hD;obtain⟨bx9,⟨r',hr',h3'⟩,-⟩:=hD;simp[go_sem,gd,Oper.wp,bx9,hr'];obtain⟨H',h1,h2,h3⟩:=hC;refine(HST.o w' H' (1+(r':Int)) h1 agH agH).mono ?_;rintro e w2 ⟨v,l2,H2,rfl,hg,hok2,hl1,hl2,hx,hM,hI⟩;have hle:=Dv.mk h1 hI hx hM;exact aV.mk hle (CM.le ⟨H',h1,h2,h3⟩ hle) ⟨l2,H2,hI,hg.weak h3.size,hok2,hl1,hl2⟩
   try simp only[dY]
   refine bZ.done ?_;intro wz dL
   try simp only[jH]
   iterate 7 refine tH ?_
   intro v7 h7 v8 h8 v9 h9;clear h7 h8;obtain⟨l2,H2,hi2,hg2,hok2,hl1,hl2⟩:=h9;clear hd1 Y0 K0;refine MK ?_;go_simp;obtain⟨H2',k1,k2,k3⟩:=dL;obtain rfl:=hi2.uniq k1;have Du:=ah (HT.o.go k3 k2 k1);obtain⟨g2,cap2,rfl,-,-⟩:=hg2.own.form agH;have HG2:=ah hg2;have qJ:=ah (aI hok2 (aI hl1 hl2));have HVB:=ah HT.o.row.lt;clear hi2 hok2 hl1 hl2 k1 k2 k3 hg2;refine dZ 10 [[],[0],[],[],[3],[3,4],[3,4,5],[3,4,5,6],[3,4,5,6,7],[2,3,4,5,6,7,8],[0,1,2,3,4,5,6,7,8,9],[0,1,2,3,4,5,6,7,8,9,10],[0,1,2,3,4,5,6,7,8,9,10,11]] rfl rfl rfl rfl rfl agG agG agG ?_;obtain⟨i0,hi0,hz0,hz1,hz2⟩:=vO (α:=Nat) (β:=Nat) LV;have hkm:0<l2.length:=qJ.o.2.1;have hkl:l.length+l2.length<=maxLen:=by have:=HL.o;have:=qJ.o.2.2;unfold maxLen;omega
   have hkb:(l.length+l2.length)*176<=140737488355328:=by have:=HL.o;have:=qJ.o.2.2;omega
   refine wp_append_lies wz _ _ _ ahS (tb+1) 74 i0 _ 11 176 Tryz.underlying57 hi0 hz0 hz1 hz2 ahS agH vB l.length (l.flatMap bQ.f) ahS Du.o.row.own ⟨g2,0,none⟩ l2.length cap2 (l2.flatMap bQ.f) ahS (ru Am l2) (kG.news Am HG2.o rfl) (ba1 _) hkm hkl hkb Du.o.sz _ rfl ?_;intro g' cap' w5 hown hgr hmv jQ;clear hi0 hz0 hz1 hz2 hkl hkb hkm;have uY:=ah (Du.o.push (ys:=l2) (n:=l.length+l2.length) (λy hy=>(HG2.o.stay y hy).weak HBM.o.2.2 (λk q1 q2 e=>by
    rcases e with e|e
    ·have:=(HVB.o k e).2;omega
    ·exact .inr e)) qJ.o.1 rfl hown hgr hmv)
   have Br:=ah uY.o.1;have WH:aj (0<(l++l2).length∧(l++l2).length<=19):=ah (by rw[aA];have:=HL.o;have:=qJ.o.2.1;have:=qJ.o.2.2;omega);have y3:w5.cell? ⟨tb,3,none⟩=some vB:=aQ uY.o.2 rfl;have f3:w5.frozen? ⟨tb,3,none⟩=false:=bK uY.o.2;clear hown hgr hmv jQ uY Du HG2 qJ HVB HL HT;generalize l++l2=l6 at *;go_simp;refine dD 11 12 [] [[],[0],[],[],[3],[3,4],[3,4,5],[3,4,5,6],[3,4,5,6,7],[2,3,4,5,6,7,8],[0,1,2,3,4,5,6,7,8,9],[0,1,2,3,4,5,6,7,8,9,10],[0,1,2,3,4,5,6,7,8,9,10,11]] [[]] (λ_ w'=>w'=w5) (λw w'=>w=w') [69] rfl rfl ahS agG agG agG agG agG ahS (λ_=>rfl) ahS rfl ?_;simp only[jH,nY];apply bZ.step
   case bL=>intro c A w' hok hC hO hD;have e8:=hO 8 ahS;simp[Act.eval]at e8;simp[Act.eval]at hD;simp[go_sem,gd,Oper.wp,hD,e8];exact aV.mk rfl hC (cB.mk _ _)
   try simp only[dY]
   refine bZ.done ?_;intro wz dL
   try simp only[jH]
   refine tH ?_;refine eO.nil ?_;go_simp;refine dZ 12 [[],[0],[],[],[3],[3,4],[3,4,5],[3,4,5,6],[3,4,5,6,7],[2,3,4,5,6,7,8],[0,1,2,3,4,5,6,7,8,9],[0,1,2,3,4,5,6,7,8,9,10],[0,1,2,3,4,5,6,7,8,9,10,11]] rfl rfl rfl rfl rfl agG agG agG ?_;subst dL;simp[go_sem,Oper.wp,y3,f3];refine fU rfl ?_;clear y3 f3;go_simp;generalize Ol:World.setCell wz _ _=w7 at *;clear Ol;obtain⟨v6,Cw⟩: ∃v,aj (TM T wa H gl tb s H2 w7 v l6):=⟨_,Br⟩;clear Br;have c0:=Cw.o.mi.ptr;go_upto_region 16 with fail;go_cut [79] (λs79 W'=> ∃q:Bool,s79= .bool q∧TM T wa H gl tb s H2 W' v6 l6)
   case first=>
    cases hkb:((k:Int)==0)
    ·go_wp2_with fail;go_meet;exact⟨_,rfl,Cw.o⟩
    ·go_wp2_with fail;refine(kW T H2 [] 3 _ aeO Cw.o.mi).mono ?_;rintro e w8 ⟨r',rfl,-,-,hM,hI⟩;have Q0:=ah (Cw.o.go hM.mm (Hx.refl _ _) hI);clear hM hI;go_wp2_with fail;go_meet;exact⟨_,rfl,Q0.o⟩
   obtain⟨q,rfl,AP⟩:=hcut;obtain⟨w8,rfl⟩: ∃W:World,W=wc:=⟨_,rfl⟩;have HT:=ah AP;clear AP Cw c0
   go_upto_if 79 with fail
   go_cut [8] (λs8 W'=>s8= .pointer (some ⟨tb,0,none⟩)∧∃vB l,(0<l.length∧l.length<=20)∧TM T wa H gl tb s H2 W' vB l)
   case first=>
    cases q
    ·go_wp2_with fail;go_meet;exact⟨rfl,_,_,by have:=WH.o;omega,HT.o⟩
    ·go_upto_region 17 with fail;have hd1:Below w8.heap.size w8 (w8.drewN 1):=below_drewN (au _ _) 1;obtain⟨s',hs1,hs2,hs3⟩:=Ri (k:=1) agI;have HN:aj (w8.heap[nb]? =some (.cells Yw 9 (0,0))):=ah (Ju.o.go HT.o.km.1 HT.o.km.2 HT.o.mi).nms;have Y0: ∀w',Below w8.heap.size w8 w'->w'.cell? ⟨tb,3,none⟩=some v6:=λw' h=>aQ ((h.block tb (aO HT.o.box)).trans HT.o.box) rfl;have K1: ∀w',Below w8.heap.size w8 w'->w'.cell? ⟨nb,1,none⟩=some (.string s'):=λw' h=>aQ ((h.block nb (aO HN.o)).trans HN.o) hs2;have HS':=ah hs3;clear hs1 hs2 hs3;refine eu agG rfl ?_;refine dD 0 7 [] [[],[0],[],[2],[2,3],[2,3,4],[2,3,4,5],[0,1,2,3,4,5,6],[0,1,2,3,4,5,6,7],[0,1,2,3,4,5,6,7,8]] [[],[],[],[],[],[],[]] (λ_ w'=>Below w8.heap.size w8 w') (λw w'=>Below w.heap.size w w') [80,81,82,83,84,85,86] rfl rfl ahS agG agG agG agG agG ahS (λ_=>au _ _) ahS hd1 ?_;simp only[jH,nY]
     iterate 6
      apply bZ.step
      case bL=>intro c A w' hok hC hO hD;have e8:=hO 8 ahS;have e6:=hO 6 ahS;simp[Act.eval]at e8 e6;simp[Act.eval]at hD;simp[go_sem,gd,Oper.wp,hD,e8,e6,Y0,hC,K1];exact AaH
      try simp only[dY]
     refine bZ.some (λv w'=> ∃bb,v= .slice (some ⟨bb,0,none⟩) 1 1∧w8.heap.size<=bb∧w'.heap[bb]? =some (.cells (bQ.f (⟨fK 13 s' .nil 0 0 ⟨#[]⟩ .nil,.nil,.nil,rF⟩:bQ)).toArray 74 (0,0))) ?_ ?_ ?_
     ·rintro v w1 w' hle ⟨g,h1,h2,h3⟩;exact⟨g,h1,h2,(hle.block g (aO h3)).trans h3⟩
     ·intro c A w' hok hC hO hD;simp[Act.eval]at hD;simp[go_sem,gd,Oper.wp,hD];exact aV.mk (d:=_) (v:= .slice (some ⟨_,0,none⟩) 1 1) (ak _ _) (hC.trans ((ak _ _).mono hC.size)) ⟨_,rfl,hC.size,heap_alloc_new _ _⟩
     try simp only[dY]
     refine bZ.done ?_;intro wz dL
     try simp only[jH]
     iterate 6 refine tH ?_
     intro v6 h6;obtain⟨bb,rfl,hbb,hcell⟩:=h6;clear hd1 Y0 K1;refine MK ?_;go_simp;refine dZ 7 [[],[0],[],[2],[2,3],[2,3,4],[2,3,4,5],[0,1,2,3,4,5,6],[0,1,2,3,4,5,6,7],[0,1,2,3,4,5,6,7,8]] rfl rfl rfl rfl rfl agG agG agG ?_;obtain⟨i0,hi0,hz0,hz1,hz2⟩:=vO (α:=Nat) (β:=Nat) LV;have Du:=ah (HT.o.go (Mm.of_below dL) (Hx.refl _ _) (HT.o.mi.below dL));have hkl:l6.length+1<=maxLen:=(by have:=WH.o;unfold maxLen;omega);have hkb:(l6.length+1)*176<=140737488355328:=(by have:=WH.o;omega);refine wp_append_lies wz _ _ _ ahS (tb+1) 74 i0 _ 11 176 Tryz.underlying57 hi0 hz0 hz1 hz2 ahS agH v6 l6.length (l6.flatMap bQ.f) ahS Du.o.row.own ⟨bb,0,none⟩ 1 1 (bQ.f (⟨fK 13 s' .nil 0 0 ⟨#[]⟩ .nil,.nil,.nil,rF⟩:bQ)) ahS ahS (gP hcell) (KI _) agI hkl hkb Du.o.sz _ rfl ?_;intro g' cap' w5 hown hgr hmv jQ;clear hi0 hz0 hz1 hz2 hcell dL hbb hkl hkb;have uY:=ah (Du.o.push (ys:=[(⟨fK 13 s' .nil 0 0 ⟨#[]⟩ .nil,.nil,.nil,rF⟩:bQ)]) (n:=l6.length+1) (λy hy=>aay) (λy hy=>aaz) rfl acW hgr hmv);have Br:=ah uY.o.1;have y3:w5.cell? ⟨tb,3,none⟩=some v6:=aQ uY.o.2 rfl;have f3:w5.frozen? ⟨tb,3,none⟩=false:=bK uY.o.2;clear hown hgr hmv jQ uY Du;go_simp;refine dD 8 9 [] [[],[0],[],[2],[2,3],[2,3,4],[2,3,4,5],[0,1,2,3,4,5,6],[0,1,2,3,4,5,6,7],[0,1,2,3,4,5,6,7,8]] [[]] (λ_ w'=>w'=w5) (λw w'=>w=w') [88] rfl rfl ahS agG agG agG agG agG ahS (λ_=>rfl) ahS rfl ?_;simp only[jH,nY];apply bZ.step
     case bL=>intro c A w' hok hC hO hD;have e8:=hO 8 ahS;simp[Act.eval]at e8;simp[Act.eval]at hD;simp[go_sem,gd,Oper.wp,hD,e8];exact aV.mk rfl hC (cB.mk _ _)
     try simp only[dY]
     refine bZ.done ?_;intro wz dL
     try simp only[jH]
     refine tH ?_;refine eO.nil ?_;go_simp;refine dZ 9 [[],[0],[],[2],[2,3],[2,3,4],[2,3,4,5],[0,1,2,3,4,5,6],[0,1,2,3,4,5,6,7],[0,1,2,3,4,5,6,7,8]] rfl rfl rfl rfl rfl agG agG agG ?_;subst dL;simp[go_sem,Oper.wp,y3,f3];refine fU rfl ?_;clear y3 f3;go_simp;go_wp2_with fail;go_meet;exact⟨rfl,_,_,by rw[aA];have:=WH.o;simp;omega,Br.o⟩
   obtain⟨rfl,vB,l,aP2,AP⟩:=hcut;obtain⟨w9,rfl⟩: ∃W:World,W=wc:=⟨_,rfl⟩;have HT:=ah AP;have HL:=ah aP2;clear AP aP2 WH HST;have AA:=ah (Ju.o.go HT.o.km.1 HT.o.km.2 HT.o.mi);obtain⟨ab,cb,rfl,hst⟩:=yS.says HT.o.row HT.o.ok;have dM:=ah hst;clear hst;obtain⟨y0,y1,y2,y3⟩:=cl4 HT.o.box;have yT:w9.cell? ⟨pb,1,none⟩=some vT:=aQ AA.o.box rfl;have HX:aj (gM (nb+1) (zY vT.ownBlock H2) w9 (fD.I (⟨⟨s,0,su,fM l⟩,some ⟨gl,0,none⟩,2,ab,cb⟩:fD))):=ah (λw' h'=>by
    have q1:=Ju.o.sz;have q2:=WE.o;have q3:=Ju.o.gt.lt;have hl:=(aO HT.o.loc);refine⟨Rh ((h'.2 gl agH (λe=> ?_) hl).trans HT.o.loc),dM.o w' (h'.weak agH (λk h1 h2 e=> ?_))⟩
    ·rcases e with e|e
     ·have:=(q3 gl e).2;omega
     ·have:=HT.o.hne gl e;omega
    ·rcases e with e|e
     ·have:=(q3 k e).2;omega
     ·exact e)
   have kK:aj (EO (⟨⟨s,0,su,fM l⟩,some ⟨gl,0,none⟩,2,ab,cb⟩:fD)):=ah ⟨⟨⟨HS.o.2,wF,acv,by show(fM l).len<=maxLen;rw[qh];have:=HL.o;unfold maxLen;omega⟩,aB 2⟩,rfl,⟨rfl,by show 0<(fM l).len;rw[qh];have:=HL.o;omega⟩,by show(fM l).len<=20;rw[qh];have:=HL.o;omega,P6 HT.o.ok⟩;have Tw:=ah (AA.o.go (Mm.of_below (ak w9 (.cells (fD.f (⟨⟨s,0,su,fM l⟩,some ⟨gl,0,none⟩,2,ab,cb⟩:fD)).toArray 59))) (Hx.refl _ _) (AA.o.mi.below (ak _ _)));have iX:=ah (gP (heap_alloc_new w9 (.cells (fD.f (⟨⟨s,0,su,fM l⟩,some ⟨gl,0,none⟩,2,ab,cb⟩:fD)).toArray 59)));obtain⟨i0,hi,hz0,hz1,hz2⟩:=vO (α:=Nat) (β:=Nat) aY2;have hbs:nb+1<=w9.heap.size+1:=Nat.le_succ_of_le AA.o.sz;have hkl:eH.length+1<=maxLen:=by rw[sJ.o];unfold maxLen;omega
   have hkb:(eH.length+1)*72<=140737488355328:=ahE
   go_wp2_with (at_builtin;refine wpList_append_lies _ rfl _ _ 33 rfl (nb+1) 59 i0 _ 4 72 Tryz.underlying33 hi hz0 hz1 hz2 rfl agI _ _ _ rfl Tw.o.gt.own ⟨w9.heap.size,0,none⟩ 1 1 (fD.f (⟨⟨s,0,su,fM l⟩,some ⟨gl,0,none⟩,2,ab,cb⟩:fD)) rfl rfl iX.o (bA9 _) agI hkl hkb aeV _ rfl ?_);clear hi hz0 hz1 hz2 hbs hkl hkb;intro g' cap2 UH hown hgr hmv hlt';have ZB:=ah (Tw.o.push (HX.o.go (nu.of_below (ak _ _)) (λ_ _ _ e=>e)) kK.o (by rw[sJ.o];exact HS.o.1) rfl hown hgr afm);have HLR:aj (Fq (w.heap.size+1) gD (UH.setCell ⟨pb,1,none⟩ (.slice (some ⟨g',0,none⟩) (eH.length+1) cap2)) g' (eH++[(⟨⟨s,0,su,fM l⟩,some ⟨gl,0,none⟩,2,ab,cb⟩:fD)])):=ah (aw7 Ju.o HT.o (by rw[qh]) (by have:=kJ.o;have:=Ju.o.lt;omega) (by have:=HL.o;omega) (λk h1 h2 h3=>(bg _ _ _ rfl (by show pb≠k;omega)).trans ((hgr.block k agK (λe=>h2 e.symm)).trans ((ak w9 _).block k h1))) (by have:=hgr.size;simp[World.setCell]at this⊢;omega) (by
    rcases hmv with h|h
    ·exact .inl h
    ·right;omega))
   have z1:UH.cell? ⟨pb,1,none⟩=some vT:=aQ ZB.o.2 rfl;have f1:UH.frozen? ⟨pb,1,none⟩=false:=bK ZB.o.2;clear hown hgr hmv hlt' y0 y1 y2 y3 yT iX Tw HX dM kK HT AA;go_wp2_with fail;go_roundw
   case rel=>exact⟨k+1,H2,_,_,agL,agH,by simp[sJ.o],ZB.o.1,λ_=>⟨g',rfl,HLR.o⟩⟩
   case measure=>simp[intOf];omega
  ·have hk2:k=2+r:=by omega
   obtain⟨gT,Ud,hLR⟩:=HLA.o agH;obtain⟨Ie,aG,rfl,-,-⟩:=HP.o.gt.own.form ahE;obtain rfl:Ie=gT:=by injection Ud
   have HLR:=ah hLR;have HAT:aj (Pr.At wr ⟨mM,eH.map (·.t)⟩ (some ⟨gD,0,none⟩) (some ⟨Ie,0,none⟩)∧eH.length<=aG):=ah (by obtain⟨ao,cp,e,hc,hs⟩:=IY.says HP.o.gt (λx hx=>(HP.o.F5 x hx).1);injection e with e1 e2 e3;subst e1 e3;exact⟨⟨adb,by show(eH.map (·.t)).length<=maxLen;rw[gH,sJ.o];unfold maxLen;omega,QB HP.o.dec,hs.now⟩,hc⟩);have HRF:aj (Calls Tryz.prog 9 #[.agg #[.slice (some ⟨gD,0,none⟩) 9 9,.slice (some ⟨Ie,0,none⟩) eH.length aG]] wr λe w'=>e= .returned (.tuple #[.int .i64 (ko ⟨mM,eH.map (·.t)⟩).1,.int .i64 (ko ⟨mM,eH.map (·.t)⟩).2])∧Below wr.heap.size wr w'):=ah (by have:=href ⟨mM,eH.map (·.t)⟩ wr (some ⟨gD,0,none⟩) (some ⟨Ie,0,none⟩) 9 aG HAT.o.1 (aB 9) (by show(eH.map (·.t)).length<=aG;rw[gH];exact HAT.o.2);rw[show(Pr.ts ⟨mM,eH.map (·.t)⟩).length=eH.length from gH _]at this;exact this);obtain⟨y0,y1⟩:=rU HP.o.box;have HRW:aj (wr.heap[w.heap.size]? =some (.cells #[.slice none 0 0,.slice none 0 0] 35 (0,0))):=ah (HP.o.km.keep HR2.o afR afR agJ);have aB3:aj (Below w.heap.size w wr):=ah (ZW yt.o HP.o.km afR afR);clear hLR Ud HLA hk;go_wp2_with fail;refine HRF.o.mono ?_;rintro e wf ⟨rfl,hb⟩;have HBF:=ah hb;have HMO:aj ((ko ⟨mM,eH.map (·.t)⟩).1=0->AJ (w.heap.size+1) wf gD Ie aG eH):=ah (λhz=>AJ.next (W:=wr) ⟨HP.o.dec,Ba HP.o.gt.own (λ_ _=>rfl) (by have:=kJ.o;have:=HP.o.lt;omega),HP.o.F5,Us HP.o.F5 HP.o.nm ahE ahE,ax5 hz,HLR.o,by have:=HP.o.lt;have:=HS2.o;omega,by have:=(HP.o.gt.lt Ie rfl).1;have:=HP.o.lt;omega⟩ (bS hb));have z0:wf.cell? ⟨pb,0,none⟩=some (.slice (some ⟨gD,0,none⟩) 9 9):=aQ ((hb.block pb (aO HP.o.box)).trans HP.o.box) rfl;have z1:wf.cell? ⟨pb,1,none⟩=some (.slice (some ⟨Ie,0,none⟩) eH.length aG):=aQ ((hb.block pb (aO HP.o.box)).trans HP.o.box) rfl;have V3:aj (wf.heap[w.heap.size]? =some (.cells #[.slice none 0 0,.slice none 0 0] 35 (0,0))):=ah ((hb.block _ (aO HRW.o)).trans HRW.o);have UN:aj (Below w.heap.size w wf):=ah (aB3.o.trans (hb.mono aB3.o.size));obtain⟨r0,r1⟩:=rU V3.o;have rf: ∀j,wf.frozen? ⟨w.heap.size,j,none⟩=false:=λj=>bK V3.o;clear hb HRF HAT HBF HRW y0 y1;generalize ko ⟨mM,eH.map (·.t)⟩=res at *;obtain⟨re,rl⟩:=res;cases hz:(re != 0)
   ·go_wp2_with fail;have hre:re=0:=(by simpa using hz);have NK:=ah ((HMO.o hre).next (kC.trans (iL wf ⟨w.heap.size,0,none⟩ (.slice (some ⟨gD,0,none⟩) 9 9) (Nat.lt_succ_self w.heap.size)) (iL (wf.setCell ⟨w.heap.size,0,none⟩ (.slice (some ⟨gD,0,none⟩) 9 9)) ⟨w.heap.size,1,none⟩ (.slice (some ⟨Ie,0,none⟩) eH.length aG) (Nat.lt_succ_self w.heap.size))));have uF:aj (Below w.heap.size w ((wf.setCell ⟨w.heap.size,0,none⟩ (.slice (some ⟨gD,0,none⟩) 9 9)).setCell ⟨w.heap.size,1,none⟩ (.slice (some ⟨Ie,0,none⟩) eH.length aG))):=ah ((UN.o.setCell agJ _).setCell agJ _);exact bodyPost_ret (v:= .agg #[.slice (some ⟨gD,0,none⟩) 9 9,.slice (some ⟨Ie,0,none⟩) eH.length aG]) (by simp[results,Tryz.results5,go_sem,r0,r1]) rfl ⟨gD,Ie,aG,eH,rfl,NK.o,uF.o⟩
   ·clear HMO z0 z1 HP HLR sJ;go_upto_region 21 with fail;go_wp2_with fail;refine(Od wf).mono ?_;rintro e wg ⟨gE,rfl,hgE,hcE,hb⟩;have HE:=ah (aI hgE (aI hcE (aO hcE)));have HBG:=ah (UN.o.trans (hb.mono UN.o.size));have PS:=jV hb V3;clear hgE hcE hb r0 r1 rf;go_wp2_with fail;refine(Jh 1 _).mono ?_;rintro e wh ⟨rfl,hb⟩;have HLh:aj (wh.heap[wg.heap.size]? =some (.cells FM 9 (0,0))∧wg.heap.size<wh.heap.size):=ah (by have h1:=(hb.block wg.heap.size agJ).trans (heap_alloc_new wg (.cells FM 9));exact⟨h1,(aO h1)⟩);have HBh:aj (Below wg.heap.size wg wh):=ah ((ak _ _).trans (hb.mono agJ));clear hb;go_wp2_with fail;refine(fH ⟨#[120]⟩ 1 1 ⟨#[]⟩ .nil none 0 wh).mono ?_;rintro e wi ⟨rfl,hb⟩;have HLi:=ah ((hb.block _ HLh.o.2).trans HLh.o.1);have HBi:=ah (HBh.o.trans (hb.mono HBh.o.size));clear hb HLh HBh;have HRi:aj (wi.heap[w.heap.size]? =some (.cells #[.slice none 0 0,.slice none 0 0] 35 (0,0))):=ah ((HBi.o.block _ (aO PS.o)).trans PS.o);obtain⟨r0,r1⟩:=rU HRi.o;have rf: ∀j,wi.frozen? ⟨w.heap.size,j,none⟩=false:=λj=>bK HRi.o;have hlt2:w.heap.size<wi.heap.size:=(aO HRi.o);unfold iE fK jT;go_wp2_with fail;have NK:=ah (ae3 HE.o.1 (by have:=UN.o.size;have:=(aO V3.o);omega) HE.o.2.1 HE.o.2.2 HBi.o HLi.o HBG.o PS.o);exact bodyPost_ret (v:= .agg #[.slice (some ⟨gE,0,none⟩) 9 9,.slice (some ⟨wi.heap.size+1,0,none⟩) 1 1]) (by simp[results,Tryz.results5,go_sem,r0,r1,hlt2,Nat.lt_succ_of_lt hlt2]) rfl ⟨gE,wi.heap.size+1,1,_,rfl,NK.o.1,NK.o.2⟩
theorem E5 {α:Type} {f:α->List Value} {m:Nat} {ty:TypeId} {B:Nat} {w:World} {g n cap:Nat} {xs:List α} (hf: ∀x,(f x).length=m) (h:w.ownsRow B ty m (.slice (some ⟨g,0,none⟩) n cap) xs.length (xs.flatMap f)):xs.length<=cap∧g<w.heap.size∧∀k x,xs[k]? =some x->∀j u,(f x)[j]? =some u->w.cell? ⟨g,k*m+j,none⟩=some u:=by
 rcases h.2 with⟨h1,-⟩|⟨g',cap',cur,h1,h2,h3,h4,h5,h6,h7⟩
 ·cases h1
 ·injection h1 with e1 e2 e3;injection e1 with e1;injection e1 with e1;subst e1;subst e3;refine⟨h4,(aO h3),λk x hk j u hu=> ?_⟩;have hF:=flat_get hf xs k x j u hk hu;rw[<- h7]at hF;have hlt:=(List.getElem?_eq_some_iff.1 hF).1;rw[List.getElem?_take_of_lt acF]at hF;exact aQ h3 ahp
theorem YE {B:Nat} {w:World} {g n cap:Nat} {xs:List fD} (h:w.ownsRow B 59 4 (.slice (some ⟨g,0,none⟩) n cap) xs.length (xs.flatMap fD.f)) (hx: ∀x∈xs,(x.t.Ok∧x.t.cZ.length<=x.eU)∧x.I w):iG w w.heap.size (xs.map (·.t)) (some ⟨g,0,none⟩) 0:=by
 obtain⟨-,hg,hc⟩:=E5 Ao h;exact P7 xs 0 hx (λi x hi=>⟨g,rfl,hg,λj u hu=>by rw[aU];exact hc i x hi j u hu⟩)
theorem YD {B:Nat} {w:World} {v:Value} {xs:List bQ} (h:w.ownsRow B 74 11 v xs.length (xs.flatMap bQ.f)) {ao:Option Addr} {cap:Nat} (hv:v= .slice ao xs.length cap) (hx: ∀x∈xs,xg x.h x.b x.e∧x.I w):(fM xs).At w w.heap.size ao 0:=by
 rcases h.2 with⟨h1,h0⟩|⟨g,cap',cur,h1,-⟩
 ·rw[List.length_eq_zero_iff.1 h0];trivial
 ·rw[hv]at h1;injection h1 with e1 e2 e3;subst e1;rw[hv]at h;obtain⟨-,hg,hc⟩:=E5 Am h;exact II xs 0 hx (λi x hi=>⟨g,rfl,hg,λj u hu=>by rw[aU];exact hc i x hi j u hu⟩)
structure LaR (B D:Nat) (W:World) (g:Nat) (pre:List fD) (x:fD) (l:List bQ) (vB:Value):Prop where
 bd:x.t.body=fM l
 v:vB= .slice x.dB l.length x.cu
 own:W.ownsRow B 74 11 vB l.length (l.flatMap bQ.f)
 few:l.length<=5000
 ok: ∀s∈l,zh s.h s.b s.e
 ne: ∀k,vB.ownBlock=some k->k≠g∧D<k
 st: ∀s∈l,gM B (zY vB.ownBlock (some g)) W (bQ.I s)
 pr: ∀y∈pre,gM B (zY vB.ownBlock (some g)) W (fD.I y)
 lc:gM B (zY vB.ownBlock (some g)) W (λw2=>fP w2 w2.heap.size x.t.cZ x.iU 0)
theorem AJ.la {B gD gT aG:Nat} {W:World} {eH:List fD} (h:AJ B W gD gT aG eH): ∃pre x l vB,eH=pre++[x]∧LaR B gD W gT pre x l vB:=by
 obtain⟨pre,x,l,vB,h1,h2,h3,h4,h5,h6,h7,h8,h9,h10⟩:=h.last;exact⟨pre,x,l,vB,h1,⟨h2,h3,h4,h5,h6,h7,h8,h9,h10⟩⟩
theorem AJ.inner {B gD gT aG:Nat} {W:World} {eH:List fD} (h:AJ B W gD gT aG eH): ∀y∈eH,y.I W:=λy hy=>by
 obtain⟨pre,x,l,vB,e,hL⟩:=h.la;rw[e]at hy;rcases List.mem_append.1 hy with hy|hy
 ·exact(hL.pr y hy).now
 ·rw[List.mem_singleton.1 hy];exact⟨hL.lc.now,by rw[hL.bd];exact YD hL.own hL.v (λs hs=>⟨(hL.ok s hs).1,(hL.st s hs).now⟩)⟩
theorem AJ.few {B gD gT aG:Nat} {W:World} {eH:List fD} (h:AJ B W gD gT aG eH):1<=eH.length∧eH.length<=4:=by
 obtain⟨n,hn,h1,hm⟩:=h.made.ts;have:=congrArg List.length hm;simp at this;omega
theorem AJ.at {B gD gT aG:Nat} {W:World} {eH:List fD} (h:AJ B W gD gT aG eH):Pr.At W ⟨mM,eH.map (·.t)⟩ (some ⟨gD,0,none⟩) (some ⟨gT,0,none⟩)∧eH.length<=aG:=by
 obtain⟨hc,-,-⟩:=E5 Ao h.row;obtain⟨n,hn,-,hm⟩:=h.made.ts;have hl:eH.length<=4:=abW
 refine⟨⟨adb,by show(eH.map (·.t)).length<=maxLen;rw[gH];unfold maxLen;omega,QB h.dec,?_⟩,hc⟩;exact YE h.row (λy hy=>⟨(h.F5 y hy).1,h.inner y hy⟩)
theorem LaR.cZ {B B' gD gT aG g' cap':Nat} {W W5:World} {pre:List fD} {x:fD} {l:List bQ} {vB:Value} (h:AJ B W gD gT aG (pre++[x])) (hL:LaR B gD W gT pre x l vB)
 (hown:W5.ownsRow B' 9 1 (.slice (some ⟨g',0,none⟩) 3 cap') 3 ((su++[xP]).flatMap sD)) (hk: ∀k,B<=k->k<W.heap.size->k≠gT->W5.heap[k]? =W.heap[k]?) (hsz:W.heap.size<=W5.heap.size)
 (hrow:W5.ownsRow B 59 4 (.slice (some ⟨gT,0,none⟩) (pre.length+1) aG) (pre.length+1) ((pre++[(⟨{x.t with cZ:=su++[xP],line:=80},some ⟨g',0,none⟩,cap',x.dB,x.cu⟩:fD)]).flatMap fD.f)):
 Pr.At W5 ⟨mM,pre.map (λy:fD=>y.t)++[{x.t with cZ:=su++[xP],line:=80}]⟩ (some ⟨gD,0,none⟩) (some ⟨gT,0,none⟩):=by
 have hst: ∀ {Q:World->Prop},gM B (zY vB.ownBlock (some gT)) W Q->Q W5:=λhq=>hq W5 ⟨hsz,λk h1 h2 h3=>hk k h1 h3 (λe=>h2 (.inr (by rw[e])))⟩;have hx:=h.F5 x (List.mem_append_right _ (List.mem_singleton.2 rfl));have hd:W5.heap[gD]? =some (.cells (mM.flatMap qK).toArray 55 (0,0)):=(hk gD h.lt.1 (aO h.dec) (by have:=h.lt.2;omega)).trans h.dec;obtain⟨n,hn,-,hm⟩:=h.made.ts;have hl:pre.length+1<=4:=abW
 have e:pre.map (λy:fD=>y.t)++[{x.t with cZ:=su++[xP],line:=80}]=(pre++[(⟨{x.t with cZ:=su++[xP],line:=80},some ⟨g',0,none⟩,cap',x.dB,x.cu⟩:fD)]).map (λy:fD=>y.t):=by rw[List.map_append];rfl
 obtain⟨hcap,hg,hcs⟩:=E5 (xs:=su++[xP]) (n:=3) Ap hown;refine⟨adb,?_,QB hd,?_⟩
 ·show(pre.map (λy:fD=>y.t)++[_]).length<=maxLen;simp;unfold maxLen;omega
 ·show iG _ _ (pre.map (λy:fD=>y.t)++[_]) _ _;rw[e];refine YE (by rw[aA,List.length_singleton];exact hrow) (λy hy=> ?_);rcases List.mem_append.1 hy with hy|hy
  ·exact⟨(h.F5 y (List.mem_append_left _ hy)).1,hst (hL.pr y hy)⟩
  ·rw[List.mem_singleton.1 hy];refine⟨⟨⟨hx.1.1.1,by show bY 80;unfold bY;decide,by show(3:Nat)<=maxLen;unfold maxLen;decide,hx.1.1.2.2.2⟩,hcap⟩,?_,?_⟩
   ·refine P8 (su++[xP]) 0 (λs hs=> ?_) (λi s hs=>⟨g',rfl,hg,λj u hu=>by rw[aU];exact hcs i s hs j u hu⟩);simp[su]at hs;rcases hs with rfl|rfl|rfl <;> (unfold maxLen;decide)
   ·show x.t.body.At W5 W5.heap.size x.dB 0;rw[hL.bd];refine YD (xs:=l) (v:=vB) (Ba hL.own (λk e=> ?_) (aB _)) hL.v (λs hs=>⟨(hL.ok s hs).1,hst (hL.st s hs)⟩);have:=hL.own.lt k e;exact hk k this.1 this.2 (hL.ne k e).1
end Go.Proofs.YtdoplekppjkkpaaGreatDoor
