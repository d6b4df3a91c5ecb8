/- The maker's Program under way: what lies in memory, what stays. No program in sight. And what hangs on it. -/
import Derived.Test.YtcjgfgkllmldpaaGreatDoorGPK
set_option linter.unusedSimpArgs false
set_option linter.unusedVariables false
set_option maxHeartbeats 40000000
set_option maxRecDepth 1000000
namespace Go.Proofs.YtcjgfgkllmldpaaGreatDoor
open Go.RowKit
open Md
theorem eH.uniq {T:Tp} {H H':Option Nat} {hs hs':List ByteArray} {w:World} (h:eH w T H hs) (k:eH w T H' hs'):H=H':=by
 obtain⟨_,_,_,_,_,_,v,-,e1,e2,-⟩:=h.Cx;obtain⟨_,_,_,_,_,_,v',-,k1,k2,-⟩:=k.Cx;rw[e1]at k1;injection k1 with k1;injection k1 with k1 _ _;injection k1 with k1;simp only[List.cons.injEq]at k1;rw[<- e2,<- k2,k1.2.2.2.2.2.2.2.1]
def J3 (T:Tp) (w w':World):Prop:= ∀H,eH w T H []->∃H2,eH w' T H2 []∧Hx w H H2∧Mm T H w w'
theorem J3.refl (T:Tp) (w:World):J3 T w w:=λH h=>⟨H,h,Hx.refl _ _,Mm.refl _ _ _⟩
theorem J3.mk {T:Tp} {H H2:Option Nat} {w w':World} (h:eH w T H []) (hi:eH w' T H2 []) (hx:Hx w H H2) (hm:Mm T H w w'):J3 T w w':=λH' h'=>by
 obtain rfl:=h.uniq h';exact⟨H2,hi,hx,hm⟩
def CM (T:Tp) (H:Option Nat) (W w':World):Prop:= ∃H',eH w' T H' []∧Hx W H H'∧Mm T H W w'
theorem CM.le {T:Tp} {H:Option Nat} {W w1 w2:World} (h:CM T H W w1) (k:J3 T w1 w2):CM T H W w2:=by
 obtain⟨H1,h1,h2,h3⟩:=h;obtain⟨H2,k1,k2,k3⟩:=k H1 h1;exact⟨H2,k1,h2.trans k2 h3.size,h3.trans h2 k3⟩
def Ve:List ByteArray:=[O8,bT1,bT2,bT3]
def nmM:Array Value:= #[.string ⟨#[109,97,105,110]⟩,.string ⟨#[116,49]⟩,.string ⟨#[116,50]⟩,.string ⟨#[116,51]⟩]
theorem Va {k:Nat} (h:k<4): ∃s,Ve[k]? =some s∧nmM[k]? =some (.string s)∧s.size<=maxLen:=by
 have:k=0∨k=1∨k=2∨k=3:=ahf
 rcases this with rfl|rfl|rfl|rfl <;> exact⟨_,rfl,rfl,afa⟩
def Gp (x:fZ):Prop:=(x.t.Ok∧x.t.cZ.length<=x.eF)∧x.t.cZ=Ce∧(x.eF=2∧0<x.t.body.len)∧x.t.body.len<=20∧FH x.t.body
def Iu:Array Value:= #[.string ⟨#[97]⟩,.string ⟨#[98]⟩]
structure TM (T:Tp) (W0:World) (H0:Option Nat) (gl tb:Nat) (s:ByteArray) (H:Option Nat) (W:World) (vB:Value) (l:List bU):Prop where
 loc:W.heap[gl]? =some (.cells Iu 9 (0,0))
 box:W.heap[tb]? =some (.cells #[.string s,.int .i64 0,.slice (some ⟨gl,0,none⟩) 2 2,vB] 63 (0,0))
 row:zK (tb+1) H W vB l
 ok: ∀x∈l,A8 x.h x.b x.e
 mi:eH W T H []
 km:Mm T H0 W0 W∧Hx W0 H0 H
 lt:T.bt<gl∧T.bm<gl∧T.B0<=gl∧tb=gl+1∧W0.heap.size=gl
 hne: ∀k,H=some k->k<gl∨tb<k
section
variable {T:Tp} {W0 W W':World} {H0 H H':Option Nat} {gl tb:Nat} {s:ByteArray} {vB:Value} {l:List bU}
theorem TM.sz (h:TM T W0 H0 gl tb s H W vB l):tb+1<=W.heap.size:=(aI h.box)
theorem TM.go (h:TM T W0 H0 gl tb s H W vB l) (hm:Mm T H W W') (hx:Hx W H H') (hi:eH W' T H' []):TM T W0 H0 gl tb s H' W' vB l:=
 ⟨hm.keep h.loc aff aff (λe=>aeQ),hm.keep h.box aff aff (λe=>aeQ),
  h.row.next (hm.JM aff aff) hx,h.ok,hi,⟨h.km.1.trans h.km.2 hm,h.km.2.trans hx h.km.1.size⟩,h.lt,λk e=>by
    rcases hx with rfl|⟨b,rfl,hb⟩
    ·exact h.hne k e
    ·injection e with e;have:=h.sz;right;omega⟩
theorem TM.start (h:eH W0 T H0 []) (hb: ∀k,H0=some k->k<W0.heap.size):TM T W0 H0 W0.heap.size (W0.heap.size+1) s H0 ((W0.alloc (.cells Iu 9)).alloc (.cells #[.string s,.int .i64 0,.slice (some ⟨W0.heap.size,0,none⟩) 2 2,.slice none 0 0] 63)) (.slice none 0 0) []:=by
 have b1:=aA W0 (.cells Iu 9);have b2:=aA (W0.alloc (.cells Iu 9)) (.cells #[.string s,.int .i64 0,.slice (some ⟨W0.heap.size,0,none⟩) 2 2,.slice none 0 0] 63);have e:(W0.alloc (.cells Iu 9)).heap.size=W0.heap.size+1:=ahh
 refine⟨(b2.block _ (by rw[e];exact Nat.lt_succ_self _)).trans (heap_alloc_new _ _),by rw[<- e];exact heap_alloc_new _ _,kR.nil _ _ _ _ _ _ _,ahh,(h.below b1).below b2,⟨(Mm.of_below b1).then_ (b2.mono (by rw[e];exact jv _)) b2.size,Hx.refl _ _⟩,⟨h.tape.lt,h.lt,h.tape.b0,rfl,rfl⟩,λk e=> .inl (hb k e)⟩
theorem TM.push {ys:List bU} {g cap n:Nat} (h:TM T W0 H0 gl tb s H W vB l) (hy: ∀y∈ys,iK (tb+1) (BI vB.ownBlock H) W (bU.I y)) (hok: ∀y∈ys,A8 y.h y.b y.e) (hn:n=l.length+ys.length) (hown:W'.ownsRow (tb+1) 82 11 (.slice (some ⟨g,0,none⟩) n cap) n (l.flatMap bU.f++ys.flatMap bU.f)) (hg:W.grownBy W' vB.ownBlock) (hmv:vB.ownBlock=some g∨g=W.heap.size):
 TM T W0 H0 gl tb s H (W'.setCell ⟨tb,3,none⟩ (.slice (some ⟨g,0,none⟩) n cap)) (.slice (some ⟨g,0,none⟩) n cap) (l++ys)∧W'.heap[tb]? =some (.cells #[.string s,.int .i64 0,.slice (some ⟨gl,0,none⟩) 2 2,vB] 63 (0,0)):=by
 have hlt:=h.row.lt;have hB:Below (tb+1) W W':=Ec hg (λk e=>(hlt k e).1) h.sz;have hbx:W'.heap[tb]? =_:=(hB.block tb (Nat.lt_succ_self _)).trans h.box;have hloc:W'.heap[gl]? =_:=(hB.block gl aff).trans h.loc;have hi:eH W' T H []:=h.mi.grown hg (λk e=>by have h1:=(hlt k e).1;exact⟨aff,aff,aff,h.row.ne k e⟩);have hkm:Mm T H0 W0 W':=h.km.1.then_ (Ec hg (λk e=>by have:=(hlt k e).1;have:=h.lt;omega) h.km.1.size) hg.size;have hrow:zK (tb+1) H W' (.slice (some ⟨g,0,none⟩) n cap) (l++ys):=h.row.aJ2 hy hn hown hg hmv h.mi.hlt';refine⟨⟨(bF W' _ _ rfl (by have:=h.lt;show tb≠gl;omega)).trans hloc,by rw[dQ hbx];rfl,hrow.next (nJ.EC (iM _ _ _ (Nat.lt_succ_self _))) (Hx.refl _ _),?_,?_,⟨hkm.set _ _ (by have:=h.lt;show _<=tb;omega),h.km.2⟩,h.lt,h.hne⟩,hbx⟩
 ·intro y hyy;rcases List.mem_append.1 hyy with h1|h1
  ·exact h.ok y h1
  ·exact hok y h1
 ·exact hi.set _ _ (by have:=h.lt;show T.B0<=tb;omega) aeK aeK (λe=>by have:=h.hne tb e;have:=h.lt;omega)
end
def Hu (B D:Nat) (W:World) (g:Nat) (eO:List fZ):Prop:= ∃(pre:List fZ) (x:fZ) (l:List bU) (vB:Value),eO=pre++[x]∧x.t.body=fQ l∧vB= .slice x.dR l.length x.dA∧
 W.ownsRow B 82 11 vB l.length (l.flatMap bU.f)∧l.length<=5000∧(∀s∈l,A8 s.h s.b s.e)∧(∀k,vB.ownBlock=some k->k≠g∧D<k)∧
 (∀s∈l,iK B (BI vB.ownBlock (some g)) W (bU.I s))∧(∀y∈pre,iK B (BI vB.ownBlock (some g)) W (fZ.I y))∧iK B (BI vB.ownBlock (some g)) W (λw2=>fT w2 w2.heap.size x.t.cZ x.iO 0)
structure PM (T:Tp) (w1:World) (gD pb nb:Nat) (H:Option Nat) (W:World) (vT:Value) (eO:List fZ):Prop where
 box:W.heap[pb]? =some (.cells #[.slice (some ⟨gD,0,none⟩) 9 9,vT] 52 (0,0))
 dec:W.heap[gD]? =some (.cells (ow.flatMap sF).toArray 118 (0,0))
 nms:W.heap[nb]? =some (.cells nmM 9 (0,0))
 gt:KY (nb+1) H W vT eO
 KF: ∀x∈eO,Gp x
 nm:eO.map (·.t.nm)=Ve.take eO.length
 mi:eH W T H []
 km:Mm T none w1 W
 lt:T.bt<w1.heap.size∧T.bm<w1.heap.size∧T.B0<=w1.heap.size∧w1.heap.size<=gD∧gD<pb∧pb<nb
 hn: ∀k,H=some k->nb<k
section
variable {T:Tp} {w1 W W':World} {gD pb nb:Nat} {H H':Option Nat} {vT:Value} {eO:List fZ}
theorem PM.sz (h:PM T w1 gD pb nb H W vT eO):nb+1<=W.heap.size:=(aI h.nms)
theorem PM.go (h:PM T w1 gD pb nb H W vT eO) (hm:Mm T H W W') (hx:Hx W H H') (hi:eH W' T H' []):PM T w1 gD pb nb H' W' vT eO where
 box:=hm.keep h.box aff aff (λe=>adv)
 dec:=hm.keep h.dec aff aff (λe=>adv)
 nms:=hm.keep h.nms aff aff (λe=>by have:=h.hn _ e;omega)
 gt:=h.gt.next (hm.JM aff aff) hx
 KF:=h.KF
 nm:=h.nm
 mi:=hi
 km:=⟨hm.os.trans h.km.os,hm.tape.trans h.km.tape,hm.output.trans h.km.output,aO h.km.size hm.size,λk hk h1 h2 _=>(hm.block k (aV hk h.km.size) h1 h2 (λe=>adv)).trans (h.km.block k hk h1 h2 ahh)⟩
 lt:=h.lt
 hn:=λk e=>by
  rcases hx with rfl|⟨b,rfl,hb⟩
  ·exact h.hn k e
  ·injection e with e;have:=h.sz;omega
theorem PM.th (h:PM T w1 gD pb nb H W vT eO) (m:Int):PM T w1 gD pb nb H (W.setCell ⟨T.bm,1,none⟩ (.int .i64 m)) vT eO:=
 h.go ((Mm.refl T H W).Nn (Hx.refl _ _) _ _) (Hx.refl _ _) (h.mi.th m)
theorem PM.push {x:fZ} {g cap n:Nat} (h:PM T w1 gD pb nb H W vT eO) (hx:iK (nb+1) (BI vT.ownBlock H) W (fZ.I x)) (hok:Gp x) (hnm:Ve[eO.length]? =some x.t.nm) (hn:n=eO.length+1) (hown:W'.ownsRow (nb+1) 63 4 (.slice (some ⟨g,0,none⟩) n cap) n (eO.flatMap fZ.f++fZ.f x)) (hg:W.grownBy W' vT.ownBlock) (hmv:vT.ownBlock=some g∨g=W.heap.size):
 PM T w1 gD pb nb H (W'.setCell ⟨pb,1,none⟩ (.slice (some ⟨g,0,none⟩) n cap)) (.slice (some ⟨g,0,none⟩) n cap) (eO++[x])∧W'.heap[pb]? =some (.cells #[.slice (some ⟨gD,0,none⟩) 9 9,vT] 52 (0,0)):=by
 have hlt:=h.gt.lt;have hB:Below (nb+1) W W':=Ec hg (λk hk=>(hlt k hk).1) h.sz;have hbx:W'.heap[pb]? =_:=(hB.block pb aff).trans h.box;refine⟨⟨by rw[dQ hbx];rfl,(bF W' _ _ rfl (by have:=h.lt;show pb≠gD;omega)).trans ((hB.block gD aff).trans h.dec),(bF W' _ _ rfl (by have:=h.lt;show pb≠nb;omega)).trans ((hB.block nb (Nat.lt_succ_self _)).trans h.nms),?_,?_,?_,?_,?_,h.lt,h.hn⟩,hbx⟩
 ·exact(h.gt.push hx hn hown hg hmv h.mi.hlt').next (nJ.EC (iM _ _ _ (by have:=h.lt;show pb<nb+1;omega))) (Hx.refl _ _)
 ·intro y hy;rcases List.mem_append.1 hy with hy|hy
  ·exact h.KF y hy
  ·rw[List.mem_singleton.1 hy];exact hok
 ·rw[List.map_append,h.nm,au,List.length_singleton,List.take_add_one,hnm];rfl
 ·have hi:eH W' T H []:=h.mi.grown hg (λk e=>by have h1:=(hlt k e).1;exact⟨aff,aff,aff,h.gt.ne k e⟩);exact hi.set _ _ (by have:=h.lt;show T.B0<=pb;omega) aeL aeL (λe=>by have:=h.hn pb e;have:=h.lt;omega)
 ·exact(h.km.then_ (hB.mono aff) hB.size).set _ _ (by have:=h.lt;show _<=pb;omega)
end
theorem Fu {w w':World} {B B' m n:Nat} {ty:TypeId} {v:Value} {xs:List Value} (h:w.ownsRow B ty m v n xs) (hk: ∀k,v.ownBlock=some k->w'.heap[k]? =w.heap[k]?) (hB:B'<=B):w'.ownsRow B' ty m v n xs:=by
 refine⟨h.1,?_⟩;rcases h.2 with h1|⟨g,cap,cur,h1,h2,h3,h4⟩
 ·exact .inl h1
 ·exact .inr ⟨g,cap,cur,h1,aO hB h2,(hk g ahP).trans h3,h4⟩
theorem V8 {W:World} {gl:Nat} (h:W.heap[gl]? =some (.cells Iu 9 (0,0))):fT W W.heap.size Ce (some ⟨gl,0,none⟩) 0:=by
 have hl:=(aI h);exact⟨⟨gl,0,rfl,hl,aG h rfl,afa⟩,⟨gl,0,rfl,hl,aG h rfl,afa⟩,trivial⟩
theorem aN6 {T:Tp} {w2 wa w9 J4:World} {gD pb nb gl tb gT B:Nat} {H H3:Option Nat} {vT vB:Value} {eO:List fZ} {s:ByteArray} {l:List bU} {ab:Option Addr} {cb:Nat} (hP:PM T w2 gD pb nb H wa vT eO) (hT:TM T wa H gl tb s H3 w9 vB l) (hv:vB= .slice ab l.length cb) (hB:B<=nb) (hlen:l.length<=5000) (hW: ∀k,k<w9.heap.size->vT.ownBlock≠some k->k≠pb->J4.heap[k]? =w9.heap[k]?) (hsz:w9.heap.size<=J4.heap.size) (hg:vT.ownBlock=some gT∨w9.heap.size<=gT):
 Hu B gD J4 gT (eO++[⟨⟨s,0,Ce,fQ l⟩,some ⟨gl,0,none⟩,2,ab,cb⟩]):=by
 have Fe:=hP.gt.lt;have hvB:=hT.row.lt;have q1:=hT.lt;have q2:=hP.lt;have q3:=hP.sz;have XC: ∀k,gl<=k->k<w9.heap.size->k≠gT:=λk h1 h2 e=>by
  rcases hg with h|h
  ·have:=(Fe gT h).2;omega
  ·omega
 have hne: ∀k,gl<=k->vT.ownBlock≠some k:=λk h1 e=>by have:=(Fe k e).2;omega
 refine⟨eO,_,l,vB,rfl,rfl,hv,Fu hT.row.own (λk e=>hW k (hvB k e).2 (hne k afQ) afQ) ahf,hlen,hT.ok,λk e=>⟨XC k afQ (hvB k e).2,afQ⟩,λy hy w' h'=> ?_,λy hy w' h'=> ?_,λw' h'=> ?_⟩
 ·refine hT.row.stay y hy w' ⟨aO hsz h'.1,λk h1 h2 h3=>(h'.2 k ahf (λe=> ?_) (aV h3 hsz)).trans (hW k h3 (hne k ahf) ahf)⟩;rcases e with e|e
  ·exact h2 (.inl e)
  ·injection e with e;exact XC k ahf h3 e.symm
 ·refine hP.gt.stay y hy w' ⟨aO hT.km.1.size (aO hsz h'.1),λk h1 h2 h3=> ?_⟩;have h4:k<w9.heap.size:=aV h3 hT.km.1.size;refine(h'.2 k ahf (λe=> ?_) (aV h4 hsz)).trans ((hW k h4 (λe=>h2 (.inl e)) ahf).trans (hT.km.1.block k h3 ahf ahf (λe=>h2 (.inr e))));rcases e with e|e
  ·have:=(hvB k e).1;omega
  ·injection e with e;rcases hg with h|h
   ·exact h2 (.inl (by rw[h,e]))
   ·omega
 ·have hl:=(aI hT.loc);refine V8 ((h'.2 gl ahf (λe=> ?_) (aV hl hsz)).trans ((hW gl hl (hne gl (aD _)) ahf).trans hT.loc));rcases e with e|e
  ·have:=(hvB gl e).1;omega
  ·injection e with e;exact XC gl (aD _) hl e.symm
theorem au5 {T:Tp} {w w2 W:World} (hb:Below w.heap.size w w2) (hm:Mm T none w2 W) (h1:w.heap.size<=T.bt) (h2:w.heap.size<=T.bm):Below w.heap.size w W:=
 ⟨hm.os.trans hb.os,hm.tape.trans hb.tape,hm.output.trans hb.output,aO hb.size hm.size,λk hk=>(hm.block k (aV hk hb.size) ahf ahf ahh).trans (hb.block k hk)⟩
theorem Rs (p:Pr) (iD:ByteArray): ∀(l:List Th) (j:Nat) (f g:List (List UInt8)),(jH p iD l j f g).err=0->(jH p iD l j f g).line=0
 | [],_,_,_,_=>rfl
 |t::r,j,f,g,h0=>by
  rw[jH]at h0⊢;split at h0
  ·rename_i h1;rw[h0]at h1;exact absurd h1 ahg
  ·rename_i h1;rw[if_neg h1];exact Rs p iD r _ _ _ h0
theorem aO4 {p:Pr} (h:(jL p).1=0):jL p=(0,0):=by
 refine Prod.ext h ?_;unfold jL at h⊢;split at h
 ·exact absurd h ahg
 ·rename_i h1;rw[if_neg h1];split at h
  ·rename_i h2;rw[h]at h2;exact absurd h2 ahg
  ·rename_i h2;rw[if_neg h2];split at h
   ·exact absurd h ahg
   ·rename_i h3;rw[if_neg h3];split at h
    ·rename_i h4;rw[h]at h4;exact absurd h4 ahg
    ·rename_i h4;rw[if_neg h4];split at h
     ·exact absurd h ahg
     ·rename_i h5;rw[if_neg h5];exact Rs _ _ _ _ _ _ h
theorem XU {eO:List fZ} (h1: ∀x∈eO,Gp x) (h2:eO.map (·.t.nm)=Ve.take eO.length) (h3:1<=eO.length) (h4:eO.length<=4):aF8 ⟨ow,eO.map (·.t)⟩:=
 ⟨rfl,⟨eO.length,h4,h3,by rw[<- show Ve=[O8,bT1,bT2,bT3]from rfl,<- h2];simp⟩,λt ht=>by obtain⟨x,hx,rfl⟩:=List.mem_map.1 ht;exact(h1 x hx).2.1⟩
theorem Hu.next {B D g:Nat} {W W':World} {eO:List fZ} (h:Hu B D W g eO) (ha:kT B W W'):Hu B D W' g eO:=by
 obtain⟨pre,x,l,vB,h1,h2,h3,h4,h5,h6,h7,h8,h9,h10⟩:=h;refine⟨pre,x,l,vB,h1,h2,h3,Fu h4 (λk e=> ?_) (aD _),h5,h6,h7,λy hy=>(h8 y hy).go (.EC ha) (λ_ _ _ e=>e),λy hy=>(h9 y hy).go (.EC ha) (λ_ _ _ e=>e),h10.go (.EC ha) (λ_ _ _ e=>e)⟩;have:=h4.lt k e;exact ha.2 k this.1 this.2
theorem bo4:(Tryz.prog.info? 63).map (λi=>(i.zero,i.size,i.bytes))=some (some (.agg #[.string ⟨#[]⟩,.int .i64 0,.slice none 0 0,.slice none 0 0]),4,72):=ahe
theorem bL4 (x:fZ): ∀u∈fZ.f x,u.oneCell'=true:=by
 intro u hu;simp[fZ.f]at hu;rcases hu with rfl|rfl|rfl|rfl <;> rfl
structure Cu (B:Nat) (W:World) (gD gT aH:Nat) (eO:List fZ):Prop where
 dec:W.heap[gD]? =some (.cells (ow.flatMap sF).toArray 118 (0,0))
 row:W.ownsRow B 63 4 (.slice (some ⟨gT,0,none⟩) eO.length aH) eO.length (eO.flatMap fZ.f)
 KF: ∀x∈eO,Gp x
 made:aF8 ⟨ow,eO.map (·.t)⟩
 zero:jL ⟨ow,eO.map (·.t)⟩=(0,0)
 last:Hu B gD W gT eO
 lt:B<=gD∧gD<gT
theorem Cu.next {B gD gT aH:Nat} {W W':World} {eO:List fZ} (h:Cu B W gD gT aH eO) (ha:kT B W W'):Cu B W' gD gT aH eO:=
 ⟨(ha.2 gD h.lt.1 (aI h.dec)).trans h.dec,Fu h.row (λk e=>by have:=h.row.lt k e;exact ha.2 k this.1 this.2) (aD _),h.KF,h.made,h.zero,h.last.next ha,h.lt⟩
theorem af3 {W:World} {gD:Nat} (h:W.heap[gD]? =some (.cells (ow.flatMap sF).toArray 118 (0,0))):jG W W.heap.size ow (some ⟨gD,0,none⟩) 0:=by
 have hg:He 0 W (.slice (some ⟨gD,0,none⟩) 9 9) ow:=Grow.made PU h (bC _) rfl afa;obtain⟨ao,cap,e,-,hs⟩:=hg.says (λd hd=>(aM2 d hd).1);injection e with e1 e2 e3;subst e1;exact hs.now
def st1:bU:=⟨fP 1 ⟨#[120]⟩ .nil 1 1 ⟨#[]⟩ .nil,.nil,.nil,kr none 0⟩
def EH (gl gB:Nat):fZ:=⟨⟨O8,0,Ce,fQ [st1]⟩,some ⟨gl,0,none⟩,2,some ⟨gB,0,none⟩,1⟩
theorem bm6 (gl gB:Nat):Gp (EH gl gB):=⟨⟨⟨by show(4:Nat)<=maxLen;unfold maxLen;decide,wS,acy,acu⟩,aD 2⟩,rfl,⟨rfl,by show 0<(1:Nat);decide⟩,by show(1:Nat)<=20;decide,⟨ahg,sb0,sb0,trivial⟩⟩
theorem aC2:jL ⟨ow,[⟨O8,0,Ce,fQ [st1]⟩]⟩=(0,0):=ahs
theorem ay6 {w wf wg wi:World} {gE:Nat} (h1:wf.heap.size<=gE) (h0:w.heap.size<wf.heap.size) (h2:wg.heap[gE]? =some (.cells (ow.flatMap sF).toArray 118 (0,0))) (h3:gE<wg.heap.size) (hb:Below wg.heap.size wg wi) (hl:wi.heap[wg.heap.size]? =some (.cells Iu 9 (0,0))) (hbw:Below w.heap.size w wg) (hr:wg.heap[w.heap.size]? =some (.cells #[.slice none 0 0,.slice none 0 0] 52 (0,0))):
 Cu (w.heap.size+1) ((((wi.setCell ⟨w.heap.size,0,none⟩ (.slice (some ⟨gE,0,none⟩) 9 9)).setCell ⟨w.heap.size,1,none⟩ (.slice (some ⟨wi.heap.size+1,0,none⟩) 1 1)).alloc (.cells (bU.f st1).toArray 82)).alloc (.cells (fZ.f (EH wg.heap.size wi.heap.size)).toArray 63)) gE (wi.heap.size+1) 1 [EH wg.heap.size wi.heap.size]∧
 Below w.heap.size w ((((wi.setCell ⟨w.heap.size,0,none⟩ (.slice (some ⟨gE,0,none⟩) 9 9)).setCell ⟨w.heap.size,1,none⟩ (.slice (some ⟨wi.heap.size+1,0,none⟩) 1 1)).alloc (.cells (bU.f st1).toArray 82)).alloc (.cells (fZ.f (EH wg.heap.size wi.heap.size)).toArray 63)):=by
 have hlt:=(aI hl);have hwg:=(aI hr);have hA: ∀k,k<wi.heap.size->k≠w.heap.size->((((wi.setCell ⟨w.heap.size,0,none⟩ (.slice (some ⟨gE,0,none⟩) 9 9)).setCell ⟨w.heap.size,1,none⟩ (.slice (some ⟨wi.heap.size+1,0,none⟩) 1 1)).alloc (.cells (bU.f st1).toArray 82)).alloc (.cells (fZ.f (EH wg.heap.size wi.heap.size)).toArray 63)).heap[k]? =wi.heap[k]?:=λk hk hne=>by rw[heap_alloc_old _ _ (by simp[World.setCell];omega),heap_alloc_old _ _ (by simpa[World.setCell]using hk),bF _ _ _ rfl (λe=>hne e.symm),bF _ _ _ rfl (λe=>hne e.symm)]
 have hz:((wi.setCell ⟨w.heap.size,0,none⟩ (.slice (some ⟨gE,0,none⟩) 9 9)).setCell ⟨w.heap.size,1,none⟩ (.slice (some ⟨wi.heap.size+1,0,none⟩) 1 1)).heap.size=wi.heap.size:=afp
 have hB:((((wi.setCell ⟨w.heap.size,0,none⟩ (.slice (some ⟨gE,0,none⟩) 9 9)).setCell ⟨w.heap.size,1,none⟩ (.slice (some ⟨wi.heap.size+1,0,none⟩) 1 1)).alloc (.cells (bU.f st1).toArray 82)).alloc (.cells (fZ.f (EH wg.heap.size wi.heap.size)).toArray 63)).heap[wi.heap.size]? =some (.cells (bU.f st1).toArray 82 (0,0)):=by rw[heap_alloc_old _ _ afp];have:=heap_alloc_new ((wi.setCell ⟨w.heap.size,0,none⟩ (.slice (some ⟨gE,0,none⟩) 9 9)).setCell ⟨w.heap.size,1,none⟩ (.slice (some ⟨wi.heap.size+1,0,none⟩) 1 1)) (.cells (bU.f st1).toArray 82);rw[hz]at this;exact this
 have hT:((((wi.setCell ⟨w.heap.size,0,none⟩ (.slice (some ⟨gE,0,none⟩) 9 9)).setCell ⟨w.heap.size,1,none⟩ (.slice (some ⟨wi.heap.size+1,0,none⟩) 1 1)).alloc (.cells (bU.f st1).toArray 82)).alloc (.cells (fZ.f (EH wg.heap.size wi.heap.size)).toArray 63)).heap[wi.heap.size+1]? =some (.cells (fZ.f (EH wg.heap.size wi.heap.size)).toArray 63 (0,0)):=by
  have e:(((wi.setCell ⟨w.heap.size,0,none⟩ (.slice (some ⟨gE,0,none⟩) 9 9)).setCell ⟨w.heap.size,1,none⟩ (.slice (some ⟨wi.heap.size+1,0,none⟩) 1 1)).alloc (.cells (bU.f st1).toArray 82)).heap.size=wi.heap.size+1:=afp
  have:=heap_alloc_new (((wi.setCell ⟨w.heap.size,0,none⟩ (.slice (some ⟨gE,0,none⟩) 9 9)).setCell ⟨w.heap.size,1,none⟩ (.slice (some ⟨wi.heap.size+1,0,none⟩) 1 1)).alloc (.cells (bU.f st1).toArray 82)) (.cells (fZ.f (EH wg.heap.size wi.heap.size)).toArray 63);rw[e]at this;exact this
 have hbi:Below w.heap.size w wi:=hbw.trans (hb.mono hbw.size);have hsz:=hbi.size;have hbs:=hb.size;have hbz:Below w.heap.size w ((((wi.setCell ⟨w.heap.size,0,none⟩ (.slice (some ⟨gE,0,none⟩) 9 9)).setCell ⟨w.heap.size,1,none⟩ (.slice (some ⟨wi.heap.size+1,0,none⟩) 1 1)).alloc (.cells (bU.f st1).toArray 82)).alloc (.cells (fZ.f (EH wg.heap.size wi.heap.size)).toArray 63)):=(((hbi.setCell ahh _).setCell ahh _).alloc (by rw[hz];exact hsz) _).alloc (by simp[World.setCell];omega) _;generalize ((((wi.setCell ⟨w.heap.size,0,none⟩ (.slice (some ⟨gE,0,none⟩) 9 9)).setCell ⟨w.heap.size,1,none⟩ (.slice (some ⟨wi.heap.size+1,0,none⟩) 1 1)).alloc (.cells (bU.f st1).toArray 82)).alloc (.cells (fZ.f (EH wg.heap.size wi.heap.size)).toArray 63))=W at *;have hloc:W.heap[wg.heap.size]? =_:=(hA wg.heap.size hlt ahf).trans hl;have hok: ∀x∈ [EH wg.heap.size wi.heap.size],Gp x:=λx hx=>by rw[List.mem_singleton.1 hx];exact bm6 _ _
 refine⟨⟨(hA gE (by have:=hb.size;omega) ahf).trans ((hb.block gE h3).trans h2),(Grow.made (f:=fZ.f) (m:=4) (xs:=[EH wg.heap.size wi.heap.size]) Bt (by rw[List.flatMap_singleton];exact hT) ahf rfl acu).own,hok,XU hok rfl (aD 1) (show(1:Nat)<=4 by decide),aC2,⟨[],_,[st1],.slice (some ⟨wi.heap.size,0,none⟩) 1 1,rfl,rfl,rfl,(Grow.made (f:=bU.f) (m:=11) (xs:=[st1]) Br (by rw[List.flatMap_singleton];exact hB) ahf rfl afa).own,ahg,λs hs=> ?_,λk e=> ?_,λs hs=> ?_,ahh,λw' h'=> ?_⟩,ahf,ahf⟩,hbz⟩
 ·rw[List.mem_singleton.1 hs];exact rQ ae8 afa ⟨⟨ae8,ae8,rH,nil_le⟩,bC _⟩
 ·have e:wi.heap.size=k:=by injection e
  omega
 ·rw[List.mem_singleton.1 hs];exact λ_ _=>⟨trivial,trivial,trivial,trivial⟩
 ·refine V8 ((h'.2 wg.heap.size ahf (λe=> ?_) (aI hloc)).trans hloc);rcases e with e|e
  ·have e:wi.heap.size=wg.heap.size:=by injection e
   omega
  ·have e:wi.heap.size+1=wg.heap.size:=by injection e
   omega
def MkP (w:World) (e:Ending) (w':World):Prop:= ∃(gD gT aH:Nat) (eO:List fZ),e= .returned (.agg #[.slice (some ⟨gD,0,none⟩) 9 9,.slice (some ⟨gT,0,none⟩) eO.length aH])∧Cu (w.heap.size+1) w' gD gT aH eO∧Below w.heap.size w w'
def au1:Prop:= ∀(p:Pr) (w:World) (aQ aR:Option Addr) (aJ aH:Nat),p.At w aQ aR->p.ds.length<=aJ->p.ts.length<=aH->
    Calls Tryz.prog 16 #[.agg #[.slice aQ p.ds.length aJ,.slice aR p.ts.length aH]] w λe w'=>e= .returned (.tuple #[.int .i64 (jL p).1,.int .i64 (jL p).2])∧Below w.heap.size w w'
theorem aj8 (hst: ∀T,Gj T 2) (href:au1) (w:World) (zs:List Int) (ao:Option Addr) (cap:Nat) (hz:FW w w.heap.size zs ao) (hl:zs.length<=9223372036854775807):
 Calls Tryz.prog 9 #[.slice ao zs.length cap] w (MkP w):=by
 have HZ:=ah hz;clear hz;go_enter Tryz.func9,Tryz.ntmps9;go_upto_region 2 with fail;obtain⟨w2,hw2⟩: ∃x,x=(((w.alloc (.cells #[.slice none 0 0,.slice none 0 0] 52)).alloc (.cells #[.slice ao zs.length cap,.int .i64 0] 73)).alloc (.cells #[.pointer (some ⟨w.heap.size+1,0,none⟩),.int .i64 0,.int .i64 20,.bool false,.bool false,.bool false,.bool false,.slice none 0 0] 75)):=⟨_,rfl⟩;rw[<- hw2];obtain⟨T,e0,e1,e2,e3,e4,e5⟩: ∃T:Tp,T.B0=w.heap.size∧w.heap.size+1=T.bt∧w.heap.size+1+1=T.bm∧T.ao=ao∧T.cap=cap∧T.zs=zs:=⟨⟨w.heap.size,w.heap.size+1,w.heap.size+1+1,ao,cap,zs,ahf,ahf,ahf⟩,rfl,rfl,rfl,rfl,rfl,rfl⟩;rw[e2,e1];have HS2:aj (w2.heap.size=w.heap.size+3):=ah (by rw[hw2];simp);have mZ:aj (Below w.heap.size w w2):=ah (by rw[hw2];exact((aA _ _).alloc ahh _).alloc ahF _);have HR2:aj (w2.heap[w.heap.size]? =some (.cells #[.slice none 0 0,.slice none 0 0] 52 (0,0))):=ah (by rw[hw2,heap_alloc_old _ _ ahF,heap_alloc_old _ _ ahF];exact heap_alloc_new _ _);have YC:aj (eH w2 T none []):=ah (by
  have k1:w2.heap[T.bt]? =some (.cells #[.slice ao zs.length cap,.int .i64 0] 73 (0,0)):=by rw[hw2,<- e1,heap_alloc_old _ _ ahh];have:=heap_alloc_new (w.alloc (.cells #[.slice none 0 0,.slice none 0 0] 52)) (.cells #[.slice ao zs.length cap,.int .i64 0] 73);simpa using this
  have k2:w2.heap[T.bm]? =some (.cells #[.pointer (some ⟨w.heap.size+1,0,none⟩),.int .i64 0,.int .i64 20,.bool false,.bool false,.bool false,.bool false,.slice none 0 0] 75 (0,0)):=by rw[hw2,<- e2];have:=heap_alloc_new ((w.alloc (.cells #[.slice none 0 0,.slice none 0 0] 52)).alloc (.cells #[.slice ao zs.length cap,.int .i64 0] 73)) (.cells #[.pointer (some ⟨w.heap.size+1,0,none⟩),.int .i64 0,.int .i64 20,.bool false,.bool false,.bool false,.bool false,.slice none 0 0] 75);simpa using this
  refine⟨⟨⟨0,bC _,by rw[k1,e3,e4,e5];rfl⟩,by rw[e0,e3,e5];exact HZ.o.below mZ.o,by rw[e5];exact hl⟩,⟨0,20,false,false,false,false,.slice none 0 0,ae8,by rw[k2,e1],rfl,Grow.nil _ _ _ _ _ _⟩,ahh,ahh,ahh,ahh⟩)
 have bJ:aj (T.B0=w.heap.size∧T.bt=w.heap.size+1∧T.bm=w.heap.size+2):=ah ⟨e0,e1.symm,ahf⟩;clear hw2 e0 e1 e2 e3 e4 e5 HZ;go_wp2_with fail;refine(QY w2).mono ?_;rintro e w3 ⟨gD,rfl,hgD,Ep,hb⟩;have SG:=ah (ay hgD (aI Ep));have HI3:=ah (YC.o.below hb);have HB3:=ah hb;have HD3:=ah Ep;clear hgD Ep hb;go_upto_region 3 with fail;generalize uM:World.alloc w3 _=w4;obtain⟨pb,hpb,dL,-,xC,-⟩:=oJ uM;have HPB:=ah hpb;have HI4:=ah (HI3.o.below dL.o);have HD4:=ah ((dL.o.block _ SG.o.2).trans HD3.o);rw[hpb];clear uM hpb HI3 HD3;have c0:=HI4.o.ptr;go_wp2_with fail;refine(lK T none [] 3 _ ae8 HI4.o).mono ?_;rintro e w5 ⟨r,rfl,hr,-,hM,hI⟩;have hr3:r<3:=by have:=hr ahg;omega
 have hwn:IntKind.i64.wrap (2+(r:Int))=2+(r:Int):=IntWalk.i64_in _ ahf;have gP:=ah hI;have fU:=ah hM;clear hM hI hr c0;go_upto_region 5 with fail;obtain⟨nb,hnb⟩: ∃g,w5.heap.size=g:=⟨_,rfl⟩;generalize tV:World.alloc w5 _=w6;have HPM:aj (PM T w2 gD pb nb none w6 (.slice none 0 0) []):=ah (by
  have hb6:Below w5.heap.size w5 w6:=by rw[<- tV];exact aA _ _
  have hn6:w6.heap[nb]? =some (.cells nmM 9 (0,0)):=by rw[<- tV,<- hnb];exact heap_alloc_new _ _
  have q1:=SG.o;have q2:=HPB.o;have q3:=bJ.o;have q4:=HS2.o;have hp5:=fU.o.keep xC.o ahf;have hd5:=fU.o.keep HD4.o ahf;refine⟨(hb6.block _ (aI hp5)).trans hp5,(hb6.block _ (aI hd5)).trans hd5,hn6,kR.nil _ _ _ _ _ _ _,ahh,rfl,gP.o.below hb6,?_,⟨ahf,ahf,ahf,ahf,ahf,?_⟩,ahh⟩
  ·exact(((Mm.of_below HB3.o).then_ (dL.o.mono HB3.o.size) dL.o.size).trans (Hx.refl _ _) fU.o.mm).then_ (hb6.mono (aO HB3.o.size (aO dL.o.size fU.o.size))) hb6.size
  ·have:=(aI hp5);omega)
 rw[hnb];have kW:aj (w.heap.size<=gD):=ah (by have:=SG.o;have:=HS2.o;omega);clear tV hnb HI4 gP fU dL HB3 xC HD4 SG HPB YC;go_wp2_with fail;go_loopw [7] (λv7 wr=> ∃(k:Nat) (H:Option Nat) (vT:Value) (eO:List fZ),v7= .int .i64 k∧k<=2+r∧eO.length=k∧PM T w2 gD pb nb H wr vT eO∧(0<k->∃gT,vT.ownBlock=some gT∧Hu (w.heap.size+1) gD wr gT eO)) (λi _=>2+r -(intOf i).toNat)
 case atStart=>exact⟨0,none,_,[],rfl,ahf,rfl,HPM.o,λh=>absurd h ahg⟩
 case round=>
  obtain⟨k,H,vT,eO,rfl,hk,bf1,hp,hlast⟩:=hrel;have HP:=ah hp;have tH:=ah bf1;have WT:=ah hlast;clear hp bf1 hlast HPM;by_cases hlt:k<2+r
  ·clear WT;obtain⟨th,left,qa,qb,qc,qd,vH,Kq,c0,c1,c2,c3,c4,c5,c6,c7,cf,hv,hrow⟩:=HP.o.mi.reads;have f1:=cf 1;clear c0 c2 c3 c4 c5 c6 c7 cf hv hrow Kq;go_upto_region 9 with fail;generalize hW1:World.setCell wr _ _=wa;have M5:aj (PM T w2 gD pb nb H wa vT eO):=ah (by rw[<- hW1];exact HP.o.th _);clear hW1 c1 f1 HP;obtain⟨s,hs1,hs2,hs3⟩:=Va (k:=k) ahf;have cs:wa.cell? ⟨nb,k,none⟩=some (.string s):=(bS M5.o.nms hs2).2;have hk0:(0:Int)<=(k:Int):=by omega
   have hk4:(k:Int)<4:=ahf
   have HS:=ah (ay hs1 hs3);clear hs1 hs2 hs3;go_upto_region 10 with fail;obtain⟨gl,hgl⟩: ∃g,wa.heap.size=g:=⟨_,rfl⟩;obtain⟨tb,htb⟩: ∃g,gl+1=g:=⟨_,rfl⟩;generalize hWb:World.alloc (World.alloc wa _) _=wb;have Cr:aj (TM T wa H gl tb s H wb (.slice none 0 0) []):=ah (by rw[<- hWb,<- htb,<- hgl];exact TM.start M5.o.mi M5.o.mi.hlt');have NG:=ah (ay hgl htb);rw[hgl,htb];clear hWb hgl htb cs
   go_upto_if 42 with fail
   go_cut [8] (λs8 W'=>s8= .pointer (some ⟨tb,0,none⟩)∧∃vB l,l.length<=10∧TM T wa H gl tb s H W' vB l)
   case first=>
    by_cases hkz:k=0
    ·have be3:((k:Int)==0)=true:=(by rw[beq_iff_eq];omega);clear hkz;have e28:decide ((k:Int)<2+(r:Int))=true:=adt;go_wp2_with fail;rw[e28,be3];go_loopw [9] (λv9 wr=> ∃(q:Nat) (vB:Value) (l:List bU),v9= .int .i64 q∧1<=q∧q<=2+r∧l.length+1=q∧TM T wa H gl tb s H wr vB l) (λi _=>2+r -(intOf i).toNat)
     case atStart=>exact⟨1,_,[],rfl,ahg,ahf,rfl,Cr.o⟩
     case round=>
      obtain⟨q,vB,l,rfl,hq1,hq2,hql,vg⟩:=hrel;have HT:=ah vg;have HQ:=ah hql;clear vg hql Cr;by_cases hqn:q<2+r
      ·go_upto_region 14 with fail;have hd1:Below wr.heap.size wr (wr.drewN 1):=below_drewN (ak _ _) 1;obtain⟨s',hs1,hs2,hs3⟩:=Va (k:=q) ahf;have HN:aj (wr.heap[nb]? =some (.cells nmM 9 (0,0))):=ah (M5.o.go HT.o.km.1 HT.o.km.2 HT.o.mi).nms;have Y0: ∀w',Below wr.heap.size wr w'->w'.cell? ⟨tb,3,none⟩=some vB:=λw' h=>aG ((h.block tb (aI HT.o.box)).trans HT.o.box) rfl;have K1: ∀w',Below wr.heap.size wr w'->w'.cell? ⟨nb,q,none⟩=some (.string s'):=λw' h=>aG ((h.block nb (aI HN.o)).trans HN.o) hs2;have hb0:(0:Int)<=(q:Int):=ahf;have hb1:(q:Int)<4:=ahf;have HS':=ah hs3;clear hs1 hs2 hs3;refine cK ahe rfl ?_;refine bW 0 8 [] [[],[0],[],[],[2,3],[2,3,4],[2,3,4,5],[2,3,4,5,6],[0,1,2,3,4,5,6,7],[0,1,2,3,4,5,6,7,8],[0,1,2,3,4,5,6,7,8,9]] [[],[],[],[],[],[],[],[]] (λ_ w'=>Below wr.heap.size wr w') (λw w'=>Below w.heap.size w w') [48,49,50,51,52,53,54,55] rfl rfl aix ahe ahe ahe ahe ahe aix (λ_=>ak _ _) aix hd1 ?_;simp only[gJ,kE]
       iterate 7
        apply bH.step
        case cu=>intro c A w' hok hC hO hD;have e8:=hO 8 aix;have e6:=hO 6 aix;have e9:=hO 9 aix;simp[Act.eval]at e8 e6 e9;simp[Act.eval]at hD;simp[go_sem,gd,Oper.wp,hD,e8,e6,e9,Y0,hC,hb0,hb1,K1];exact AbN
        try simp only[dI]
       refine bH.some (λv w'=> ∃bb,v= .slice (some ⟨bb,0,none⟩) 1 1∧wr.heap.size<=bb∧w'.heap[bb]? =some (.cells (bU.f (⟨fP 12 s' .nil 0 0 ⟨#[]⟩ .nil,.nil,.nil,rY⟩:bU)).toArray 82 (0,0))) ?_ ?_ ?_
       ·rintro v w1 w' hle ⟨g,h1,h2,h3⟩;exact⟨g,h1,h2,(hle.block g (aI h3)).trans h3⟩
       ·intro c A w' hok hC hO hD;simp[Act.eval]at hD;simp[go_sem,gd,Oper.wp,hD];exact aZ.mk (d:=_) (v:= .slice (some ⟨_,0,none⟩) 1 1) (aA _ _) (hC.trans ((aA _ _).mono hC.size)) ⟨_,rfl,hC.size,heap_alloc_new _ _⟩
       try simp only[dI]
       refine bH.done ?_;intro wz dx
       try simp only[gJ]
       iterate 7 refine kZ ?_
       intro v7 h7;obtain⟨bb,rfl,hbb,hcell⟩:=h7;clear hd1 Y0 K1 hb0 hb1;refine eY.nil ?_;go_simp;refine dD 8 [[],[0],[],[],[2,3],[2,3,4],[2,3,4,5],[2,3,4,5,6],[0,1,2,3,4,5,6,7],[0,1,2,3,4,5,6,7,8],[0,1,2,3,4,5,6,7,8,9]] rfl rfl rfl rfl rfl ahe ahe ahe ?_;obtain⟨i0,hi0,hz0,hz1,hz2⟩:=wu (α:=Nat) (β:=Nat) OD;have ET:=ah (HT.o.go (Mm.of_below dx) (Hx.refl _ _) (HT.o.mi.below dx));have hkl:l.length+1<=maxLen:=(by have:=HQ.o;unfold maxLen;omega);have hkb:(l.length+1)*176<=140737488355328:=(by have:=HQ.o;omega);refine wp_append_lies wz _ _ _ aix (tb+1) 82 i0 _ 11 176 Tryz.underlying61 hi0 hz0 hz1 hz2 aix ahf vB l.length (l.flatMap bU.f) aix ET.o.row.own ⟨bb,0,none⟩ 1 1 (bU.f (⟨fP 12 s' .nil 0 0 ⟨#[]⟩ .nil,.nil,.nil,rY⟩:bU)) aix aix (gG hcell) (Nt _) ahg hkl hkb ET.o.sz _ rfl ?_;intro g' cap' w5 hown hgr hmv jP;clear hi0 hz0 hz1 hz2 hcell dx hbb hkl hkb;have vO:=ah (ET.o.push (ys:=[(⟨fP 12 s' .nil 0 0 ⟨#[]⟩ .nil,.nil,.nil,rY⟩:bU)]) (n:=l.length+1) (λy hy=>aaA) (λy hy=>aaB) rfl ada hgr hmv);have Cq:=ah vO.o.1;have y3:w5.cell? ⟨tb,3,none⟩=some vB:=aG vO.o.2 rfl;have f3:w5.frozen? ⟨tb,3,none⟩=false:=bG vO.o.2;clear hown hgr hmv jP vO ET;go_simp;refine bW 9 10 [] [[],[0],[],[],[2,3],[2,3,4],[2,3,4,5],[2,3,4,5,6],[0,1,2,3,4,5,6,7],[0,1,2,3,4,5,6,7,8],[0,1,2,3,4,5,6,7,8,9]] [[]] (λ_ w'=>w'=w5) (λw w'=>w=w') [57] rfl rfl aix ahe ahe ahe ahe ahe aix (λ_=>rfl) aix rfl ?_;simp only[gJ,kE];apply bH.step
       case cu=>exact Abn
       try simp only[dI]
       refine bH.done ?_;intro wz dx
       try simp only[gJ]
       refine kZ ?_;refine eY.nil ?_;go_simp;refine dD 10 [[],[0],[],[],[2,3],[2,3,4],[2,3,4,5],[2,3,4,5,6],[0,1,2,3,4,5,6,7],[0,1,2,3,4,5,6,7,8],[0,1,2,3,4,5,6,7,8,9]] rfl rfl rfl rfl rfl ahe ahe ahe ?_;subst dx;simp[go_sem,Oper.wp,y3,f3];refine dH rfl ?_;clear y3 f3;go_simp;go_wp2_with fail;go_roundw
       case rel=>exact⟨q+1,_,_,ahj,ahf,ahf,by have:=HQ.o;simp;omega,Cq.o⟩
       case measure=>simp[intOf];omega
      ·go_wp2_with fail;go_meet;exact⟨rfl,_,l,by have:=HQ.o;omega,HT.o⟩
    ·have be3:((k:Int)==0)=false:=acA;go_wp2_with fail;go_meet;exact⟨rfl,_,[],ahh,Cr.o⟩
   obtain⟨rfl,vB,l,be4,vg⟩:=hcut;obtain⟨wd,rfl⟩: ∃W:World,W=wc:=⟨_,rfl⟩;have HT:=ah vg;have HL:=ah be4;clear vg be4 Cr;go_upto_region 15 with fail;have HST:aj (∀w H (n:Int),eH w T H []->1<=n->n<=9->Calls Tryz.prog 23 #[.pointer (some ⟨T.bm,0,none⟩),.int .i64 2,.int .i64 n] w (Xb T H [] w)):=ah (λw H n h1 h2 h3=>hst T w H [] n h1 ahg h2 h3);have HBM:aj (T.bt<wd.heap.size∧T.bm<wd.heap.size∧tb+1<=wd.heap.size):=ah ⟨HT.o.mi.tape.lt,HT.o.mi.lt,HT.o.sz⟩;have hd1:CM T H wd (wd.drewN 1):=⟨H,HT.o.mi.below (below_drewN (ak _ _) 1),Hx.refl _ _,Mm.of_below (below_drewN (ak _ _) 1)⟩;have Y0: ∀w',CM T H wd w'->w'.cell? ⟨tb,3,none⟩=some vB:=λw' ⟨H',h1,h2,h3⟩=>aG (HT.o.go h3 h2 h1).box rfl;have K0: ∀w',CM T H wd w'->w'.cell? ⟨T.bm,0,none⟩=some (.pointer (some ⟨T.bt,0,none⟩)):=λw' ⟨H',h1,_,_⟩=>h1.ptr;refine cK ahe rfl ?_;refine bW 0 10 [] [[],[0],[],[],[3],[3,4],[3,4,5],[3,4,5,6],[3,4,5,6,7],[2,3,4,5,6,7,8],[0,1,2,3,4,5,6,7,8,9],[0,1,2,3,4,5,6,7,8,9,10],[0,1,2,3,4,5,6,7,8,9,10,11]] [[],[],[],[],[],[],[],[],[],[]] (λ_ w'=>CM T H wd w') (λw w'=>J3 T w w') [58,59,60,61,62,63,64,65,66,67] rfl rfl aix ahe ahe ahe ahe ahe aix (λ_=>J3.refl _ _) aix hd1 ?_;simp only[gJ,kE]
   iterate 7
    apply bH.step
    case cu=>intro c A w' hok hC hO hD;have e8:=hO 8 aix;have e3:=hO 3 aix;simp[Act.eval]at e8 e3;simp[Act.eval]at hD;simp[go_sem,gd,Oper.wp,hD,e8,e3,Y0,hC,K0];exact aZ.mk (J3.refl _ _) hC (dO.mk _ _)
    try simp only[dI]
   refine bH.some (λv _=> ∃r':Nat,v= .int .i64 (r':Int)∧r'<3) (λ_ _ _ _ h=>h) ?_ ?_
   ·intro c A w' hok hC hO hD;simp[Act.eval]at hD;simp[go_sem,gd,Oper.wp,hD];obtain⟨H',h1,h2,h3⟩:=hC;refine(lK T H' [] 3 w' ae8 h1).mono ?_;rintro e w2 ⟨r',rfl,hr1,-,hM,hI⟩;have hle:J3 T w' w2:=J3.mk h1 hI (Hx.refl _ _) hM.mm;exact aZ.mk hle (CM.le ⟨H',h1,h2,h3⟩ hle) ⟨r',rfl,adG⟩
   refine bH.some (λv w'=> ∃r':Nat,v= .int .i64 (1+(r':Int))∧r'<3) (λ_ _ _ _ h=>h) ?_ ?_
   ·intro c A w' hok hC hO hD;simp[Act.eval]at hD;obtain⟨r',hr',h1⟩:=hD;have hwr:IntKind.i64.wrap (1+(r':Int))=1+(r':Int):=IntWalk.i64_in _ ahf;simp[go_sem,gd,Oper.wp,hr',hwr];exact aZ.mk (J3.refl _ _) hC (⟨r',rfl,h1⟩)
   try simp only[dI]
   refine bH.some (λv w'=> ∃(l2:List bU) (H2:Option Nat),eH w' T H2 []∧zK wd.heap.size H2 w' v l2∧(∀x∈l2,A8 x.h x.b x.e)∧1<=l2.length∧l2.length<=9) ?_ ?_ ?_
   ·rintro v w1 w' hle ⟨l2,H2,h1,h2,h3⟩;obtain⟨H3,k1,k2,k3⟩:=hle H2 h1;exact⟨l2,H3,k1,h2.next (k3.JM HBM.o.1 HBM.o.2.1) k2,h3⟩
   ·intro c A w' hok hC hO hD;simp[Act.eval]at hD;obtain⟨bJ1,⟨r',hr',h3'⟩,-⟩:=hD;simp[go_sem,gd,Oper.wp,bJ1,hr'];obtain⟨H',h1,h2,h3⟩:=hC;refine(HST.o w' H' (1+(r':Int)) h1 ahf ahf).mono ?_;rintro e w2 ⟨v,l2,H2,rfl,hg,hok2,hl1,hl2,hx,hM,hI⟩;have hle:=J3.mk h1 hI hx hM;exact aZ.mk hle (CM.le ⟨H',h1,h2,h3⟩ hle) ⟨l2,H2,hI,hg.weak h3.size,hok2,hl1,hl2⟩
   try simp only[dI]
   refine bH.done ?_;intro wz dx
   try simp only[gJ]
   iterate 7 refine kZ ?_
   intro v7 h7 v8 h8 v9 h9;clear h7 h8;obtain⟨l2,H2,hi2,hg2,hok2,hl1,hl2⟩:=h9;clear hd1 Y0 K0;refine PI ?_;go_simp;obtain⟨H2',k1,k2,k3⟩:=dx;obtain rfl:=hi2.uniq k1;have ET:=ah (HT.o.go k3 k2 k1);obtain⟨g2,cap2,rfl,-,-⟩:=hg2.own.form ahf;have HG2:=ah hg2;have qg:=ah (ay hok2 (ay hl1 hl2));have HVB:=ah HT.o.row.lt;clear hi2 hok2 hl1 hl2 k1 k2 k3 hg2;refine dD 10 [[],[0],[],[],[3],[3,4],[3,4,5],[3,4,5,6],[3,4,5,6,7],[2,3,4,5,6,7,8],[0,1,2,3,4,5,6,7,8,9],[0,1,2,3,4,5,6,7,8,9,10],[0,1,2,3,4,5,6,7,8,9,10,11]] rfl rfl rfl rfl rfl ahe ahe ahe ?_;obtain⟨i0,hi0,hz0,hz1,hz2⟩:=wu (α:=Nat) (β:=Nat) OD;have hkm:0<l2.length:=qg.o.2.1;have hkl:l.length+l2.length<=maxLen:=by have:=HL.o;have:=qg.o.2.2;unfold maxLen;omega
   have hkb:(l.length+l2.length)*176<=140737488355328:=by have:=HL.o;have:=qg.o.2.2;omega
   refine wp_append_lies wz _ _ _ aix (tb+1) 82 i0 _ 11 176 Tryz.underlying61 hi0 hz0 hz1 hz2 aix ahf vB l.length (l.flatMap bU.f) aix ET.o.row.own ⟨g2,0,none⟩ l2.length cap2 (l2.flatMap bU.f) aix (rW Br l2) (kR.news Br HG2.o rfl) (bq5 _) hkm hkl hkb ET.o.sz _ rfl ?_;intro g' cap' w5 hown hgr hmv jP;clear hi0 hz0 hz1 hz2 hkl hkb hkm;have vO:=ah (ET.o.push (ys:=l2) (n:=l.length+l2.length) (λy hy=>(HG2.o.stay y hy).weak HBM.o.2.2 (λk q1 q2 e=>by
    rcases e with e|e
    ·have:=(HVB.o k e).2;omega
    ·exact .inr e)) qg.o.1 rfl hown hgr hmv)
   have Cq:=ah vO.o.1;have HL6:aj (0<(l++l2).length∧(l++l2).length<=19):=ah (by rw[au];have:=HL.o;have:=qg.o.2.1;have:=qg.o.2.2;omega);have y3:w5.cell? ⟨tb,3,none⟩=some vB:=aG vO.o.2 rfl;have f3:w5.frozen? ⟨tb,3,none⟩=false:=bG vO.o.2;clear hown hgr hmv jP vO ET HG2 qg HVB HL HT;generalize l++l2=l6 at *;go_simp;refine bW 11 12 [] [[],[0],[],[],[3],[3,4],[3,4,5],[3,4,5,6],[3,4,5,6,7],[2,3,4,5,6,7,8],[0,1,2,3,4,5,6,7,8,9],[0,1,2,3,4,5,6,7,8,9,10],[0,1,2,3,4,5,6,7,8,9,10,11]] [[]] (λ_ w'=>w'=w5) (λw w'=>w=w') [69] rfl rfl aix ahe ahe ahe ahe ahe aix (λ_=>rfl) aix rfl ?_;simp only[gJ,kE];apply bH.step
   case cu=>exact Abn
   try simp only[dI]
   refine bH.done ?_;intro wz dx
   try simp only[gJ]
   refine kZ ?_;refine eY.nil ?_;go_simp;refine dD 12 [[],[0],[],[],[3],[3,4],[3,4,5],[3,4,5,6],[3,4,5,6,7],[2,3,4,5,6,7,8],[0,1,2,3,4,5,6,7,8,9],[0,1,2,3,4,5,6,7,8,9,10],[0,1,2,3,4,5,6,7,8,9,10,11]] rfl rfl rfl rfl rfl ahe ahe ahe ?_;subst dx;simp[go_sem,Oper.wp,y3,f3];refine dH rfl ?_;clear y3 f3;go_simp;generalize R9:World.setCell wz _ _=w7 at *;clear R9;obtain⟨v6,DR⟩: ∃v,aj (TM T wa H gl tb s H2 w7 v l6):=⟨_,Cq⟩;clear Cq;have c0:=DR.o.mi.ptr;go_upto_region 16 with fail;go_cut [79] (λs79 W'=> ∃q:Bool,s79= .bool q∧TM T wa H gl tb s H2 W' v6 l6)
   case first=>
    cases hkb:((k:Int)==0)
    ·go_wp2_with fail;go_meet;exact⟨_,rfl,DR.o⟩
    ·go_wp2_with fail;refine(lK T H2 [] 3 _ ae8 DR.o.mi).mono ?_;rintro e w8 ⟨r',rfl,-,-,hM,hI⟩;have Tx:=ah (DR.o.go hM.mm (Hx.refl _ _) hI);clear hM hI;go_wp2_with fail;go_meet;exact⟨_,rfl,Tx.o⟩
   obtain⟨q,rfl,vg⟩:=hcut;obtain⟨w8,rfl⟩: ∃W:World,W=wc:=⟨_,rfl⟩;have HT:=ah vg;clear vg DR c0
   go_upto_if 79 with fail
   go_cut [8] (λs8 W'=>s8= .pointer (some ⟨tb,0,none⟩)∧∃vB l,(0<l.length∧l.length<=20)∧TM T wa H gl tb s H2 W' vB l)
   case first=>
    cases q
    ·go_wp2_with fail;go_meet;exact⟨rfl,_,_,by have:=HL6.o;omega,HT.o⟩
    ·go_upto_region 17 with fail;have hd1:Below w8.heap.size w8 (w8.drewN 1):=below_drewN (ak _ _) 1;obtain⟨s',hs1,hs2,hs3⟩:=Va (k:=1) ahg;have HN:aj (w8.heap[nb]? =some (.cells nmM 9 (0,0))):=ah (M5.o.go HT.o.km.1 HT.o.km.2 HT.o.mi).nms;have Y0: ∀w',Below w8.heap.size w8 w'->w'.cell? ⟨tb,3,none⟩=some v6:=λw' h=>aG ((h.block tb (aI HT.o.box)).trans HT.o.box) rfl;have K1: ∀w',Below w8.heap.size w8 w'->w'.cell? ⟨nb,1,none⟩=some (.string s'):=λw' h=>aG ((h.block nb (aI HN.o)).trans HN.o) hs2;have HS':=ah hs3;clear hs1 hs2 hs3;refine cK ahe rfl ?_;refine bW 0 7 [] [[],[0],[],[2],[2,3],[2,3,4],[2,3,4,5],[0,1,2,3,4,5,6],[0,1,2,3,4,5,6,7],[0,1,2,3,4,5,6,7,8]] [[],[],[],[],[],[],[]] (λ_ w'=>Below w8.heap.size w8 w') (λw w'=>Below w.heap.size w w') [80,81,82,83,84,85,86] rfl rfl aix ahe ahe ahe ahe ahe aix (λ_=>ak _ _) aix hd1 ?_;simp only[gJ,kE]
     iterate 6
      apply bH.step
      case cu=>intro c A w' hok hC hO hD;have e8:=hO 8 aix;have e6:=hO 6 aix;simp[Act.eval]at e8 e6;simp[Act.eval]at hD;simp[go_sem,gd,Oper.wp,hD,e8,e6,Y0,hC,K1];exact AbN
      try simp only[dI]
     refine bH.some (λv w'=> ∃bb,v= .slice (some ⟨bb,0,none⟩) 1 1∧w8.heap.size<=bb∧w'.heap[bb]? =some (.cells (bU.f (⟨fP 13 s' .nil 0 0 ⟨#[]⟩ .nil,.nil,.nil,rY⟩:bU)).toArray 82 (0,0))) ?_ ?_ ?_
     ·rintro v w1 w' hle ⟨g,h1,h2,h3⟩;exact⟨g,h1,h2,(hle.block g (aI h3)).trans h3⟩
     ·intro c A w' hok hC hO hD;simp[Act.eval]at hD;simp[go_sem,gd,Oper.wp,hD];exact aZ.mk (d:=_) (v:= .slice (some ⟨_,0,none⟩) 1 1) (aA _ _) (hC.trans ((aA _ _).mono hC.size)) ⟨_,rfl,hC.size,heap_alloc_new _ _⟩
     try simp only[dI]
     refine bH.done ?_;intro wz dx
     try simp only[gJ]
     iterate 6 refine kZ ?_
     intro v6 h6;obtain⟨bb,rfl,hbb,hcell⟩:=h6;clear hd1 Y0 K1;refine PI ?_;go_simp;refine dD 7 [[],[0],[],[2],[2,3],[2,3,4],[2,3,4,5],[0,1,2,3,4,5,6],[0,1,2,3,4,5,6,7],[0,1,2,3,4,5,6,7,8]] rfl rfl rfl rfl rfl ahe ahe ahe ?_;obtain⟨i0,hi0,hz0,hz1,hz2⟩:=wu (α:=Nat) (β:=Nat) OD;have ET:=ah (HT.o.go (Mm.of_below dx) (Hx.refl _ _) (HT.o.mi.below dx));have hkl:l6.length+1<=maxLen:=(by have:=HL6.o;unfold maxLen;omega);have hkb:(l6.length+1)*176<=140737488355328:=(by have:=HL6.o;omega);refine wp_append_lies wz _ _ _ aix (tb+1) 82 i0 _ 11 176 Tryz.underlying61 hi0 hz0 hz1 hz2 aix ahf v6 l6.length (l6.flatMap bU.f) aix ET.o.row.own ⟨bb,0,none⟩ 1 1 (bU.f (⟨fP 13 s' .nil 0 0 ⟨#[]⟩ .nil,.nil,.nil,rY⟩:bU)) aix aix (gG hcell) (Nt _) ahg hkl hkb ET.o.sz _ rfl ?_;intro g' cap' w5 hown hgr hmv jP;clear hi0 hz0 hz1 hz2 hcell dx hbb hkl hkb;have vO:=ah (ET.o.push (ys:=[(⟨fP 13 s' .nil 0 0 ⟨#[]⟩ .nil,.nil,.nil,rY⟩:bU)]) (n:=l6.length+1) (λy hy=>aaA) (λy hy=>aaB) rfl ada hgr hmv);have Cq:=ah vO.o.1;have y3:w5.cell? ⟨tb,3,none⟩=some v6:=aG vO.o.2 rfl;have f3:w5.frozen? ⟨tb,3,none⟩=false:=bG vO.o.2;clear hown hgr hmv jP vO ET;go_simp;refine bW 8 9 [] [[],[0],[],[2],[2,3],[2,3,4],[2,3,4,5],[0,1,2,3,4,5,6],[0,1,2,3,4,5,6,7],[0,1,2,3,4,5,6,7,8]] [[]] (λ_ w'=>w'=w5) (λw w'=>w=w') [88] rfl rfl aix ahe ahe ahe ahe ahe aix (λ_=>rfl) aix rfl ?_;simp only[gJ,kE];apply bH.step
     case cu=>exact Abn
     try simp only[dI]
     refine bH.done ?_;intro wz dx
     try simp only[gJ]
     refine kZ ?_;refine eY.nil ?_;go_simp;refine dD 9 [[],[0],[],[2],[2,3],[2,3,4],[2,3,4,5],[0,1,2,3,4,5,6],[0,1,2,3,4,5,6,7],[0,1,2,3,4,5,6,7,8]] rfl rfl rfl rfl rfl ahe ahe ahe ?_;subst dx;simp[go_sem,Oper.wp,y3,f3];refine dH rfl ?_;clear y3 f3;go_simp;go_wp2_with fail;go_meet;exact⟨rfl,_,_,by rw[au];have:=HL6.o;simp;omega,Cq.o⟩
   obtain⟨rfl,vB,l,be5,vg⟩:=hcut;obtain⟨w9,rfl⟩: ∃W:World,W=wc:=⟨_,rfl⟩;have HT:=ah vg;have HL:=ah be5;clear vg be5 HL6 HST;have DK:=ah (M5.o.go HT.o.km.1 HT.o.km.2 HT.o.mi);obtain⟨ab,cb,rfl,hst⟩:=zK.says HT.o.row HT.o.ok;have eX:=ah hst;clear hst;obtain⟨y0,y1,y2,y3⟩:=cl4 HT.o.box;have yT:w9.cell? ⟨pb,1,none⟩=some vT:=aG DK.o.box rfl;have HX:aj (iK (nb+1) (BI vT.ownBlock H2) w9 (fZ.I (⟨⟨s,0,Ce,fQ l⟩,some ⟨gl,0,none⟩,2,ab,cb⟩:fZ))):=ah (λw' h'=>by
    have q1:=M5.o.sz;have q2:=NG.o;have q3:=M5.o.gt.lt;have hl:=(aI HT.o.loc);refine⟨V8 ((h'.2 gl ahf (λe=> ?_) hl).trans HT.o.loc),eX.o w' (h'.weak ahf (λk h1 h2 e=> ?_))⟩
    ·rcases e with e|e
     ·have:=(q3 gl e).2;omega
     ·have:=HT.o.hne gl e;omega
    ·rcases e with e|e
     ·have:=(q3 k e).2;omega
     ·exact e)
   have kK:aj (Gp (⟨⟨s,0,Ce,fQ l⟩,some ⟨gl,0,none⟩,2,ab,cb⟩:fZ)):=ah ⟨⟨⟨HS.o.2,wS,acy,by show(fQ l).len<=maxLen;rw[qz];have:=HL.o;unfold maxLen;omega⟩,aD 2⟩,rfl,⟨rfl,by show 0<(fQ l).len;rw[qz];have:=HL.o;omega⟩,by show(fQ l).len<=20;rw[qz];have:=HL.o;omega,Si HT.o.ok⟩;have WX:=ah (DK.o.go (Mm.of_below (aA w9 (.cells (fZ.f (⟨⟨s,0,Ce,fQ l⟩,some ⟨gl,0,none⟩,2,ab,cb⟩:fZ)).toArray 63))) (Hx.refl _ _) (DK.o.mi.below (aA _ _)));have iV:=ah (gG (heap_alloc_new w9 (.cells (fZ.f (⟨⟨s,0,Ce,fQ l⟩,some ⟨gl,0,none⟩,2,ab,cb⟩:fZ)).toArray 63)));obtain⟨i0,hi,hz0,hz1,hz2⟩:=wu (α:=Nat) (β:=Nat) bo4;have hbs:nb+1<=w9.heap.size+1:=Nat.le_succ_of_le DK.o.sz;have hkl:eO.length+1<=maxLen:=by rw[tH.o];unfold maxLen;omega
   have hkb:(eO.length+1)*72<=140737488355328:=ah5
   go_wp2_with (at_builtin;refine wpList_append_lies _ rfl _ _ 50 rfl (nb+1) 63 i0 _ 4 72 Tryz.underlying50 hi hz0 hz1 hz2 rfl ahg _ _ _ rfl WX.o.gt.own ⟨w9.heap.size,0,none⟩ 1 1 (fZ.f (⟨⟨s,0,Ce,fQ l⟩,some ⟨gl,0,none⟩,2,ab,cb⟩:fZ)) rfl rfl iV.o (bL4 _) ahg hkl hkb afe _ rfl ?_);clear hi hz0 hz1 hz2 hbs hkl hkb;intro g' cap2 Ym hown hgr hmv hlt';have as1:=ah (WX.o.push (HX.o.go (nJ.of_below (aA _ _)) (λ_ _ _ e=>e)) kK.o (by rw[tH.o];exact HS.o.1) rfl hown hgr afy);have HLR:aj (Hu (w.heap.size+1) gD (Ym.setCell ⟨pb,1,none⟩ (.slice (some ⟨g',0,none⟩) (eO.length+1) cap2)) g' (eO++[(⟨⟨s,0,Ce,fQ l⟩,some ⟨gl,0,none⟩,2,ab,cb⟩:fZ)])):=ah (aN6 M5.o HT.o (by rw[qz]) (by have:=kW.o;have:=M5.o.lt;omega) agT (λk h1 h2 h3=>(bF _ _ _ rfl (by show pb≠k;omega)).trans ((hgr.block k ahi (λe=>h2 e.symm)).trans ((aA w9 _).block k h1))) (by have:=hgr.size;simp[World.setCell]at this⊢;omega) (by
    rcases hmv with h|h
    ·exact .inl h
    ·right;omega))
   have z1:Ym.cell? ⟨pb,1,none⟩=some vT:=aG as1.o.2 rfl;have f1:Ym.frozen? ⟨pb,1,none⟩=false:=bG as1.o.2;clear hown hgr hmv hlt' y0 y1 y2 y3 yT iV WX HX eX kK HT DK;go_wp2_with fail;go_roundw
   case rel=>exact⟨k+1,H2,_,_,ahj,ahf,by simp[tH.o],as1.o.1,λ_=>⟨g',rfl,HLR.o⟩⟩
   case measure=>simp[intOf];omega
  ·have hk2:k=2+r:=by omega
   obtain⟨gT,XC,hLR⟩:=WT.o ahf;obtain⟨Ki,aH,rfl,-,-⟩:=HP.o.gt.own.form ah5;obtain rfl:Ki=gT:=by injection XC
   have HLR:=ah hLR;have HAT:aj (Pr.At wr ⟨ow,eO.map (·.t)⟩ (some ⟨gD,0,none⟩) (some ⟨Ki,0,none⟩)∧eO.length<=aH):=ah (by obtain⟨ao,cp,e,hc,hs⟩:=KY.says HP.o.gt (λx hx=>(HP.o.KF x hx).1);injection e with e1 e2 e3;subst e1 e3;exact⟨⟨aek,by show(eO.map (·.t)).length<=maxLen;rw[fM,tH.o];unfold maxLen;omega,af3 HP.o.dec,hs.now⟩,hc⟩);have HRF:aj (Calls Tryz.prog 16 #[.agg #[.slice (some ⟨gD,0,none⟩) 9 9,.slice (some ⟨Ki,0,none⟩) eO.length aH]] wr λe w'=>e= .returned (.tuple #[.int .i64 (jL ⟨ow,eO.map (·.t)⟩).1,.int .i64 (jL ⟨ow,eO.map (·.t)⟩).2])∧Below wr.heap.size wr w'):=ah (by have:=href ⟨ow,eO.map (·.t)⟩ wr (some ⟨gD,0,none⟩) (some ⟨Ki,0,none⟩) 9 aH HAT.o.1 (aD 9) (by show(eO.map (·.t)).length<=aH;rw[fM];exact HAT.o.2);rw[show(Pr.ts ⟨ow,eO.map (·.t)⟩).length=eO.length from fM _]at this;exact this);obtain⟨y0,y1⟩:=uK HP.o.box;have HRW:aj (wr.heap[w.heap.size]? =some (.cells #[.slice none 0 0,.slice none 0 0] 52 (0,0))):=ah (HP.o.km.keep HR2.o agl agl ahh);have zO:aj (Below w.heap.size w wr):=ah (au5 mZ.o HP.o.km agl agl);clear hLR XC WT hk;go_wp2_with fail;refine HRF.o.mono ?_;rintro e wf ⟨rfl,hb⟩;have HBF:=ah hb;have HMO:aj ((jL ⟨ow,eO.map (·.t)⟩).1=0->Cu (w.heap.size+1) wf gD Ki aH eO):=ah (λhz=>Cu.next (W:=wr) ⟨HP.o.dec,Fu HP.o.gt.own (λ_ _=>rfl) (by have:=kW.o;have:=HP.o.lt;omega),HP.o.KF,XU HP.o.KF HP.o.nm ah5 ah5,aO4 hz,HLR.o,by have:=HP.o.lt;have:=HS2.o;omega,by have:=(HP.o.gt.lt Ki rfl).1;have:=HP.o.lt;omega⟩ (bR hb));have z0:wf.cell? ⟨pb,0,none⟩=some (.slice (some ⟨gD,0,none⟩) 9 9):=aG ((hb.block pb (aI HP.o.box)).trans HP.o.box) rfl;have z1:wf.cell? ⟨pb,1,none⟩=some (.slice (some ⟨Ki,0,none⟩) eO.length aH):=aG ((hb.block pb (aI HP.o.box)).trans HP.o.box) rfl;have YF:aj (wf.heap[w.heap.size]? =some (.cells #[.slice none 0 0,.slice none 0 0] 52 (0,0))):=ah ((hb.block _ (aI HRW.o)).trans HRW.o);have Yv:aj (Below w.heap.size w wf):=ah (zO.o.trans (hb.mono zO.o.size));obtain⟨r0,r1⟩:=uK YF.o;have rf: ∀j,wf.frozen? ⟨w.heap.size,j,none⟩=false:=λj=>bG YF.o;clear hb HRF HAT HBF HRW y0 y1;generalize jL ⟨ow,eO.map (·.t)⟩=res at *;obtain⟨re,rl⟩:=res;cases hz:(re != 0)
   ·go_wp2_with fail;have hre:re=0:=(by simpa using hz);have Qv:=ah ((HMO.o hre).next (kT.trans (iM wf ⟨w.heap.size,0,none⟩ (.slice (some ⟨gD,0,none⟩) 9 9) (Nat.lt_succ_self w.heap.size)) (iM (wf.setCell ⟨w.heap.size,0,none⟩ (.slice (some ⟨gD,0,none⟩) 9 9)) ⟨w.heap.size,1,none⟩ (.slice (some ⟨Ki,0,none⟩) eO.length aH) (Nat.lt_succ_self w.heap.size))));have qN:aj (Below w.heap.size w ((wf.setCell ⟨w.heap.size,0,none⟩ (.slice (some ⟨gD,0,none⟩) 9 9)).setCell ⟨w.heap.size,1,none⟩ (.slice (some ⟨Ki,0,none⟩) eO.length aH))):=ah ((Yv.o.setCell ahh _).setCell ahh _);exact bodyPost_ret (v:= .agg #[.slice (some ⟨gD,0,none⟩) 9 9,.slice (some ⟨Ki,0,none⟩) eO.length aH]) (by simp[results,Tryz.results9,go_sem,r0,r1]) rfl ⟨gD,Ki,aH,eO,rfl,Qv.o,qN.o⟩
   ·clear HMO z0 z1 HP HLR tH;go_upto_region 21 with fail;go_wp2_with fail;refine(QY wf).mono ?_;rintro e wg ⟨gE,rfl,hgE,hcE,hb⟩;have HE:=ah (ay hgE (ay hcE (aI hcE)));have HBG:=ah (Yv.o.trans (hb.mono Yv.o.size));have Ga:=jq hb YF;clear hgE hcE hb r0 r1 rf;go_wp2_with fail;refine(Lx 1 _).mono ?_;rintro e wh ⟨rfl,hb⟩;have HLh:aj (wh.heap[wg.heap.size]? =some (.cells Iu 9 (0,0))∧wg.heap.size<wh.heap.size):=ah (by have h1:=(hb.block wg.heap.size ahh).trans (heap_alloc_new wg (.cells Iu 9));exact⟨h1,(aI h1)⟩);have HBh:aj (Below wg.heap.size wg wh):=ah ((aA _ _).trans (hb.mono ahh));clear hb;go_wp2_with fail;refine(fJ ⟨#[120]⟩ 1 1 ⟨#[]⟩ .nil none 0 wh).mono ?_;rintro e wi ⟨rfl,hb⟩;have HLi:=ah ((hb.block _ HLh.o.2).trans HLh.o.1);have HBi:=ah (HBh.o.trans (hb.mono HBh.o.size));clear hb HLh HBh;have HRi:aj (wi.heap[w.heap.size]? =some (.cells #[.slice none 0 0,.slice none 0 0] 52 (0,0))):=ah ((HBi.o.block _ (aI Ga.o)).trans Ga.o);obtain⟨r0,r1⟩:=uK HRi.o;have rf: ∀j,wi.frozen? ⟨w.heap.size,j,none⟩=false:=λj=>bG HRi.o;have hlt2:w.heap.size<wi.heap.size:=(aI HRi.o);unfold iG fP kr;go_wp2_with fail;have Qv:=ah (ay6 HE.o.1 (by have:=Yv.o.size;have:=(aI YF.o);omega) HE.o.2.1 HE.o.2.2 HBi.o HLi.o HBG.o Ga.o);exact bodyPost_ret (v:= .agg #[.slice (some ⟨gE,0,none⟩) 9 9,.slice (some ⟨wi.heap.size+1,0,none⟩) 1 1]) (by simp[results,Tryz.results9,go_sem,r0,r1,hlt2,Nat.lt_succ_of_lt hlt2]) rfl ⟨gE,wi.heap.size+1,1,_,rfl,Qv.o.1,Qv.o.2⟩
theorem KJ {α:Type} {f:α->List Value} {m:Nat} {ty:TypeId} {B:Nat} {w:World} {g n cap:Nat} {xs:List α} (hf: ∀x,(f x).length=m) (h:w.ownsRow B ty m (.slice (some ⟨g,0,none⟩) n cap) xs.length (xs.flatMap f)):xs.length<=cap∧g<w.heap.size∧∀k x,xs[k]? =some x->∀j u,(f x)[j]? =some u->w.cell? ⟨g,k*m+j,none⟩=some u:=by
 rcases h.2 with⟨h1,-⟩|⟨g',cap',cur,h1,h2,h3,h4,h5,h6,h7⟩
 ·cases h1
 ·injection h1 with e1 e2 e3;injection e1 with e1;injection e1 with e1;subst e1;subst e3;refine⟨h4,(aI h3),λk x hk j u hu=> ?_⟩;have hF:=flat_get hf xs k x j u hk hu;rw[<- h7]at hF;have hlt:=(List.getElem?_eq_some_iff.1 hF).1;rw[List.getElem?_take_of_lt acI]at hF;exact aG h3 ahL
theorem bl0 {B:Nat} {w:World} {g n cap:Nat} {xs:List fZ} (h:w.ownsRow B 63 4 (.slice (some ⟨g,0,none⟩) n cap) xs.length (xs.flatMap fZ.f)) (hx: ∀x∈xs,(x.t.Ok∧x.t.cZ.length<=x.eF)∧x.I w):iP w w.heap.size (xs.map (·.t)) (some ⟨g,0,none⟩) 0:=by
 obtain⟨-,hg,hc⟩:=KJ Bt h;exact Sj xs 0 hx (λi x hi=>⟨g,rfl,hg,λj u hu=>by rw[aU];exact hc i x hi j u hu⟩)
theorem bk9 {B:Nat} {w:World} {v:Value} {xs:List bU} (h:w.ownsRow B 82 11 v xs.length (xs.flatMap bU.f)) {ao:Option Addr} {cap:Nat} (hv:v= .slice ao xs.length cap) (hx: ∀x∈xs,A9 x.h x.b x.e∧x.I w):(fQ xs).At w w.heap.size ao 0:=by
 rcases h.2 with⟨h1,h0⟩|⟨g,cap',cur,h1,-⟩
 ·rw[List.length_eq_zero_iff.1 h0];trivial
 ·rw[hv]at h1;injection h1 with e1 e2 e3;subst e1;rw[hv]at h;obtain⟨-,hg,hc⟩:=KJ Br h;exact KR xs 0 hx (λi x hi=>⟨g,rfl,hg,λj u hu=>by rw[aU];exact hc i x hi j u hu⟩)
structure LaR (B D:Nat) (W:World) (g:Nat) (pre:List fZ) (x:fZ) (l:List bU) (vB:Value):Prop where
 bd:x.t.body=fQ l
 v:vB= .slice x.dR l.length x.dA
 own:W.ownsRow B 82 11 vB l.length (l.flatMap bU.f)
 few:l.length<=5000
 ok: ∀s∈l,A8 s.h s.b s.e
 ne: ∀k,vB.ownBlock=some k->k≠g∧D<k
 st: ∀s∈l,iK B (BI vB.ownBlock (some g)) W (bU.I s)
 pr: ∀y∈pre,iK B (BI vB.ownBlock (some g)) W (fZ.I y)
 lc:iK B (BI vB.ownBlock (some g)) W (λw2=>fT w2 w2.heap.size x.t.cZ x.iO 0)
theorem Cu.la {B gD gT aH:Nat} {W:World} {eO:List fZ} (h:Cu B W gD gT aH eO): ∃pre x l vB,eO=pre++[x]∧LaR B gD W gT pre x l vB:=by
 obtain⟨pre,x,l,vB,h1,h2,h3,h4,h5,h6,h7,h8,h9,h10⟩:=h.last;exact⟨pre,x,l,vB,h1,⟨h2,h3,h4,h5,h6,h7,h8,h9,h10⟩⟩
theorem Cu.inner {B gD gT aH:Nat} {W:World} {eO:List fZ} (h:Cu B W gD gT aH eO): ∀y∈eO,y.I W:=λy hy=>by
 obtain⟨pre,x,l,vB,e,hL⟩:=h.la;rw[e]at hy;rcases List.mem_append.1 hy with hy|hy
 ·exact(hL.pr y hy).now
 ·rw[List.mem_singleton.1 hy];exact⟨hL.lc.now,by rw[hL.bd];exact bk9 hL.own hL.v (λs hs=>⟨(hL.ok s hs).1,(hL.st s hs).now⟩)⟩
theorem Cu.few {B gD gT aH:Nat} {W:World} {eO:List fZ} (h:Cu B W gD gT aH eO):1<=eO.length∧eO.length<=4:=by
 obtain⟨n,hn,h1,hm⟩:=h.made.ts;have:=congrArg List.length hm;simp at this;omega
theorem Cu.at {B gD gT aH:Nat} {W:World} {eO:List fZ} (h:Cu B W gD gT aH eO):Pr.At W ⟨ow,eO.map (·.t)⟩ (some ⟨gD,0,none⟩) (some ⟨gT,0,none⟩)∧eO.length<=aH:=by
 obtain⟨hc,-,-⟩:=KJ Bt h.row;obtain⟨n,hn,-,hm⟩:=h.made.ts;have hl:eO.length<=4:=by have:=congrArg List.length hm;simp at this;omega
 refine⟨⟨aek,by show(eO.map (·.t)).length<=maxLen;rw[fM];unfold maxLen;omega,af3 h.dec,?_⟩,hc⟩;exact bl0 h.row (λy hy=>⟨(h.KF y hy).1,h.inner y hy⟩)
end Go.Proofs.YtcjgfgkllmldpaaGreatDoor
