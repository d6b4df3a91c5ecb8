/- Objects and code in memory; the state of a generator of code, and what stays. No walk in sight. And what hangs on it. -/
import Derived.Test.YtkmllehjemjgpaaGreatDoorGPJ
import Derived.Test.YtkmllehjemjgpaaGreatDoorGMB
import Derived.Test.YtkmllehjemjgpaaGreatDoorGMX
import Derived.Deep.AppendLies
set_option linter.unusedSimpArgs false
set_option linter.unusedVariables false
set_option maxHeartbeats 40000000
set_option maxRecDepth 1000000
namespace Go.Proofs.YtkmllehjemjgpaaGreatDoor
open Go.RowKit
open Md
namespace Md
section
variable {α:Type} {f:α->List Value} {m:Nat} {w w':World} {B B':Nat}
theorem dF.below (hb:Below B w w'): ∀ {l:List α} {ao:Option Addr} {k:Nat},dF f m w B l ao k->dF f m w' B l ao k
 | [],_,_,_=>trivial
 |_::_,_,_,⟨⟨b,off,e,hB,c⟩,hr⟩=>⟨⟨b,off,e,hB,λj u hu=>(hb.cell hB).trans (c j u hu)⟩,dF.below hb hr⟩
theorem dF.mono (h:B<=B'): ∀ {l:List α} {ao:Option Addr} {k:Nat},dF f m w B l ao k->dF f m w B' l ao k
 | [],_,_,_=>trivial
 |_::_,_,_,⟨⟨b,off,e,hB,c⟩,hr⟩=>⟨⟨b,off,e,Nat.lt_of_lt_of_le hB h,c⟩,dF.mono h hr⟩
theorem dF.same {l:List α} {ao:Option Addr} {k:Nat} (h:dF f m w w.heap.size l ao k) (hb:Below w.heap.size w w'):dF f m w' w'.heap.size l ao k:=(h.below hb).mono hb.size
theorem dF.at: ∀ {l:List α} {ao:Option Addr} {k:Nat} (i:Nat) (x:α),dF f m w B l ao k->l[i]? =some x->∃b off,ao=some ⟨b,off,none⟩∧b<B∧∀(j:Nat) (u:Value),(f x)[j]? =some u->w.cell? ⟨b,off+(k+i)*m+j,none⟩=some u
 | [],_,_,i,x,_,h=>by simp at h
 |y::r,_,k,0,x,⟨h1,_⟩,h=>by simp at h;subst h;exact h1
 |y::r,_,k,i+1,x,⟨_,h2⟩,h=>by have:=dF.at i x h2 (by simpa using h);rw[show k+(i+1)=k+1+i by omega];exact this
theorem dF.mk: ∀ {l:List α} {ao:Option Addr} {k:Nat},(∀(i:Nat) (x:α),l[i]? =some x->∃b off,ao=some ⟨b,off,none⟩∧b<B∧∀(j:Nat) (u:Value),(f x)[j]? =some u->w.cell? ⟨b,off+(k+i)*m+j,none⟩=some u)->dF f m w B l ao k
 | [],_,_,_=>trivial
 |x::r,_,k,h=>⟨h 0 x rfl,dF.mk (λi y hy=>by have:=h (i+1) y (by simpa using hy);rw[show k+1+i=k+(i+1) by omega];exact this)⟩
theorem eU {base:Nat} {T:TypeId} {v:Value} {xs:List α} (hf: ∀x,(f x).length=m) (h:w.ownsRow base T m v xs.length (xs.flatMap f)): ∃ao cap,v= .slice ao xs.length cap∧xs.length<=cap∧cap<=maxLen∧dF f m w w.heap.size xs ao 0:=by
 rcases h.2 with⟨rfl,hn⟩|⟨g,cap,cur,rfl,hb,hg,h1,h2,h3,h4⟩
 ·have:xs=[]:=List.eq_nil_of_length_eq_zero hn;subst this;exact⟨none,0,rfl,Nat.le_refl _,Nat.zero_le _,trivial⟩
 ·refine⟨_,_,rfl,h1,h2,dF.mk (λi x hx=>⟨g,0,rfl,(Array.getElem?_eq_some_iff.1 hg).1,λj u hu=> ?_⟩)⟩;have hF:=flat_get hf xs i x j u hx hu;rw[<- h4]at hF;have hlt:=(List.getElem?_eq_some_iff.1 hF).1;rw[List.getElem?_take_of_lt (by rw[List.length_take]at hlt;omega)]at hF;have:0+(0+i)*m+j=i*m+j:=by simp
  rw[this];exact au hg (by rw[<- hF];simp)
end
end Md
namespace Md
structure jf where
 aC:Option Addr
 aL:Option Addr
 aN:Option Addr
 aF:Option Addr
 aT:Option Addr
 aS:Option Addr
 cC:Nat
 cL:Nat
 cN:Nat
 cF:Nat
 cT:Nat
 cS:Nat
structure fJ (w:World) (B:Nat) (W:Wo) (s:jf):Prop where
 cs:dF jo 5 w B W.cs s.aC 0
 ls:dF ku 2 w B W.ls s.aL 0
 ns:dF rE 2 w B W.ns s.aN 0
 fs:eD w B W.fs s.aF 0
 ts:eD w B W.ts s.aT 0
 ss:dF pR 3 w B W.ss s.aS 0
 lc:W.cs.length<=maxLen
 ll:W.ls.length<=maxLen
 ln:W.ns.length<=maxLen
 lf:W.fs.length<=maxLen
 lt:W.ts.length<=maxLen
 lS:W.ss.length<=maxLen
 ok: ∀c∈W.cs,fD c.sz
theorem fJ.below {w w':World} {B:Nat} {W:Wo} {s:jf} (h:fJ w B W s) (hb:Below B w w'):fJ w' B W s:=
 ⟨h.cs.below hb,h.ls.below hb,h.ns.below hb,h.fs.below hb,h.ts.below hb,h.ss.below hb,h.lc,h.ll,h.ln,h.lf,h.lt,h.lS,h.ok⟩
theorem fJ.mono {w:World} {B B':Nat} {W:Wo} {s:jf} (h:fJ w B W s) (hb:B<=B'):fJ w B' W s:=
 ⟨h.cs.mono hb,h.ls.mono hb,h.ns.mono hb,h.fs.mono hb,h.ts.mono hb,h.ss.mono hb,h.lc,h.ll,h.ln,h.lf,h.lt,h.lS,h.ok⟩
theorem fJ.same {w w':World} {W:Wo} {s:jf} (h:fJ w w.heap.size W s) (hb:Below w.heap.size w w'):fJ w' w'.heap.size W s:=(h.below hb).mono hb.size
structure GL where
 B0:Nat
 gb:Nat
 B1:Nat
 b0:B0<=gb
 b1:gb<B1
def NV (W:Wo) (s:jf) (lc:List ByteArray) (al:Option Addr) (cl:Nat) (v:Value) (a b:Int):Array Value:=
 #[.slice s.aC W.cs.length s.cC,.slice s.aL W.ls.length s.cL,.slice s.aN W.ns.length s.cN,.slice s.aF W.fs.length s.cF,.slice s.aT W.ts.length s.cT,.slice s.aS W.ss.length s.cS,.slice al lc.length cl,v,.int .i64 a,.int .i64 b]
end Md
theorem yw: ∀x:bM,(jI x).length=6:=λ_=>rfl
structure Kg (L:GL) (v:Value) (w w':World):Prop where
 os:w'.os=w.os
 tape:w'.tape=w.tape
 output:w'.output=w.output
 size:w.heap.size<=w'.heap.size
 block: ∀k,k<w.heap.size->k≠L.gb->v.ownBlock≠some k->w'.heap[k]? =w.heap[k]?
def mH (w:World) (v v':Value):Prop:=v'.ownBlock=v.ownBlock∨∃g,v'.ownBlock=some g∧w.heap.size<=g
section
variable {L:GL} {v v1 v2:Value} {w w1 w2 w':World}
theorem Kg.refl (L:GL) (v:Value) (w:World):Kg L v w w:=⟨rfl,rfl,rfl,Nat.le_refl _,λ_ _ _ _=>rfl⟩
theorem Kg.of_below (h:Below w.heap.size w w'):Kg L v w w':=⟨h.os,h.tape,h.output,h.size,λk hk _ _=>h.block k hk⟩
theorem Kg.trans (h:Kg L v w w1) (ho:mH w v v1) (k:Kg L v1 w1 w2):Kg L v w w2:=
 ⟨k.os.trans h.os,k.tape.trans h.tape,k.output.trans h.output,Nat.le_trans h.size k.size,λj hj hc hv=>(k.block j (Nat.lt_of_lt_of_le hj h.size) hc (by
   rcases ho with e|⟨g,e,hg⟩
   ·rw[e];exact hv
   ·rw[e];intro e';injection e' with e';omega)).trans (h.block j hj hc hv)⟩
theorem Kg.below (h:Kg L v w w') (hB:L.B0<=w.heap.size) (hv: ∀k,v.ownBlock=some k->L.B1<=k):Below L.B0 w w':=
 ⟨h.os,h.tape,h.output,h.size,λk hk=>h.block k (by omega) (by have:=L.b0;omega) (λe=>by have:=hv k e;have:=L.b0;have:=L.b1;omega)⟩
theorem Kg.set (w:World) (j:Nat) (x:Value):Kg L v w (w.setCell ⟨L.gb,j,none⟩ x):=by
 have h:=bQ w ⟨L.gb,j,none⟩ x;exact⟨h.os,h.tape,h.output,h.size,λk hk hc _=>h.block k hk (by simp;exact hc)⟩
theorem mH.refl (w:World) (v:Value):mH w v v:= .inl rfl
theorem mH.trans (h:mH w v v1) (k:mH w1 v1 v2) (hs:w.heap.size<=w1.heap.size):mH w v v2:=by
 rcases k with e|⟨g,e,hg⟩
 ·rcases h with e'|⟨g,e',hg⟩
  ·exact .inl (e.trans e')
  ·exact .inr ⟨g,e.trans e',hg⟩
 ·exact .inr ⟨g,e,Nat.le_trans hs hg⟩
theorem mH.ne {k:Nat} (h:mH w v v1) (hk:k<w.heap.size) (hv:v.ownBlock≠some k):v1.ownBlock≠some k:=by
 rcases h with e|⟨g,e,hg⟩
 ·rw[e];exact hv
 ·rw[e];intro e';injection e' with e';omega
end
structure eX (T:TypeId) (w:World) (L:GL) (W:Wo) (s:jf) (lc:List ByteArray) (al:Option Addr) (cl:Nat) (v:Value) (code:List bM) (a b:Int):Prop where
 blk:w.heap[L.gb]? =some (.cells (NV W s lc al cl v a b) T (0,0))
 row:w.ownsRow L.B1 56 6 v code.length (code.flatMap jI)
 sz:L.B1<=w.heap.size
 wo:fJ w L.B0 W s
 few:lc.length<=1000
 lc:eD w L.B0 lc al 0
theorem nA {w:World} {b o:Nat} {cur cur':Array Value} {e:TypeId} {fr:Nat×Nat} (h:w.heap[b]? =some (.cells cur e fr)) (v:Value) (hc:cur.setIfInBounds o v=cur'):(w.setCell ⟨b,o,none⟩ v).heap[b]? =some (.cells cur' e fr):=by
 rw[<- hc];exact eZ h v
section
variable {T:TypeId} {w w':World} {L:GL} {W:Wo} {s:jf} {lc:List ByteArray} {al:Option Addr} {cl:Nat} {v:Value} {code:List bM} {a b:Int}
theorem eX.b0 (h:eX T w L W s lc al cl v code a b):L.B0<=w.heap.size:=by have:=h.sz;have:=L.b0;have:=L.b1;omega
theorem eX.own (h:eX T w L W s lc al cl v code a b): ∀k,v.ownBlock=some k->L.B1<=k∧k<w.heap.size:=h.row.lt
theorem eX.keep (h:eX T w L W s lc al cl v code a b) (hk:Kg L v w w'):Below L.B0 w w':=hk.below h.b0 (λk e=>(h.own k e).1)
theorem eX.form (h:eX T w L W s lc al cl v code a b): ∃ao cap,v= .slice ao code.length cap∧code.length<=cap∧cap<=maxLen:=by
 obtain⟨ao,cap,e,h1,h2,-⟩:=eU yw h.row;exact⟨ao,cap,e,h1,h2⟩
theorem eX.below (h:eX T w L W s lc al cl v code a b) (hb:Below w.heap.size w w'):eX T w' L W s lc al cl v code a b where
 blk:=(hb.block _ (Array.getElem?_eq_some_iff.1 h.blk).1).trans h.blk
 row:=h.row.kept (row:=none) ⟨hb.os,hb.tape,hb.output,hb.size,λk hk _=>hb.block k hk⟩ (by cases hv:v.ownBlock <;> simp)
 sz:=Nat.le_trans h.sz hb.size
 wo:=h.wo.below (hb.mono h.b0)
 few:=h.few
 lc:=h.lc.below (hb.mono h.b0)
theorem eX.cells (h:eX T w L W s lc al cl v code a b):L.gb<w.heap.size∧w.cell? ⟨L.gb,0,none⟩=some (.slice s.aC W.cs.length s.cC)∧w.cell? ⟨L.gb,1,none⟩=some (.slice s.aL W.ls.length s.cL)∧w.cell? ⟨L.gb,2,none⟩=some (.slice s.aN W.ns.length s.cN)∧w.cell? ⟨L.gb,3,none⟩=some (.slice s.aF W.fs.length s.cF)∧
 w.cell? ⟨L.gb,4,none⟩=some (.slice s.aT W.ts.length s.cT)∧w.cell? ⟨L.gb,5,none⟩=some (.slice s.aS W.ss.length s.cS)∧w.cell? ⟨L.gb,6,none⟩=some (.slice al lc.length cl)∧w.cell? ⟨L.gb,7,none⟩=some v∧w.cell? ⟨L.gb,8,none⟩=some (.int .i64 a)∧w.cell? ⟨L.gb,9,none⟩=some (.int .i64 b)∧∀j,w.frozen? ⟨L.gb,j,none⟩=false:=
 ⟨(Array.getElem?_eq_some_iff.1 h.blk).1,au h.blk rfl,au h.blk rfl,au h.blk rfl,au h.blk rfl,au h.blk rfl,au h.blk rfl,au h.blk rfl,au h.blk rfl,au h.blk rfl,au h.blk rfl,λ_=>bG h.blk⟩
theorem eX.setOf (h:eX T w L W s lc al cl v code a b) (j:Nat) (x:Value) (JC:List ByteArray) (al':Option Addr) (cl':Nat) (v':Value) (code':List bM) (a' b':Int)
 (hc:(NV W s lc al cl v a b).setIfInBounds j x=NV W s JC al' cl' v' a' b') (hl:eD w L.B0 JC al' 0) (hf:JC.length<=1000) (hr:w.ownsRow L.B1 56 6 v' code'.length (code'.flatMap jI)):eX T (w.setCell ⟨L.gb,j,none⟩ x) L W s JC al' cl' v' code' a' b':=by
 have hg:=bQ w ⟨L.gb,j,none⟩ x;have hb:Below L.B0 w (w.setCell ⟨L.gb,j,none⟩ x):=bL hg L.b0 h.b0;refine⟨nA h.blk _ hc,hr.kept hg ?_,Nat.le_trans h.sz hg.size,h.wo.below hb,hf,hl.below hb⟩;cases hv:v'.ownBlock with
 |none=>exact .inl rfl
 |some k=>refine .inr (λe=> ?_);have:=(hr.lt k hv).1;have:=L.b1;injection e with e;simp only at e;omega
theorem eX.FE (h:eX T w L W s lc al cl v code a b) (x:Int):eX T (w.setCell ⟨L.gb,8,none⟩ (.int .i64 x)) L W s lc al cl v code x b:=h.setOf 8 _ _ _ _ _ _ _ _ rfl h.lc h.few h.row
theorem eX.gJ (h:eX T w L W s lc al cl v code a b) (x:Int):eX T (w.setCell ⟨L.gb,9,none⟩ (.int .i64 x)) L W s lc al cl v code a x:=h.setOf 9 _ _ _ _ _ _ _ _ rfl h.lc h.few h.row
theorem eX.aX3 (h:eX T w L W s lc al cl v code a b) {JC:List ByteArray} {al':Option Addr} (cl':Nat) (hl:eD w L.B0 JC al' 0) (hf:JC.length<=1000):eX T (w.setCell ⟨L.gb,6,none⟩ (.slice al' JC.length cl')) L W s JC al' cl' v code a b:=h.setOf 6 _ _ _ _ _ _ _ _ rfl hl hf h.row
theorem eX.aX4 (h:eX T w L W s lc al cl v code a b):eX T (w.setCell ⟨L.gb,7,none⟩ (.slice none 0 0)) L W s lc al cl (.slice none 0 0) [] a b:=h.setOf 7 _ _ _ _ _ _ _ _ rfl h.lc h.few (World.ownsRow_nil _ _ _ _)
theorem eX.push {wz w4:World} {g' cap':Nat} (h:eX T w L W s lc al cl v code a b) (x:bM) (hb:Below w.heap.size w wz) (hown:w4.ownsRow L.B1 56 6 (.slice (some ⟨g',0,none⟩) (code.length+1) cap') (code.length+1) (code.flatMap jI++jI x)) (hgr:wz.grownBy w4 v.ownBlock) (hat:v.ownBlock=some g'∨wz.heap.size<=g'):
 eX T (w4.setCell ⟨L.gb,7,none⟩ (.slice (some ⟨g',0,none⟩) (code.length+1) cap')) L W s lc al cl (.slice (some ⟨g',0,none⟩) (code.length+1) cap') (code++[x]) a b∧
 Kg L v w (w4.setCell ⟨L.gb,7,none⟩ (.slice (some ⟨g',0,none⟩) (code.length+1) cap'))∧mH w v (.slice (some ⟨g',0,none⟩) (code.length+1) cap'):=by
 have hsz:w.heap.size<=w4.heap.size:=Nat.le_trans hb.size hgr.size;have hlow: ∀k,k<w.heap.size->v.ownBlock≠some k->w4.heap[k]? =w.heap[k]?:=λk hk hv=>(hgr.block k (Nat.lt_of_lt_of_le hk hb.size) (λe=>hv e.symm)).trans (hb.block k hk);have hnb: ∀k,k<L.B1->v.ownBlock≠some k:=λk hk e=>by have:=(h.own k e).1;omega
 have hbel:Below L.B0 w w4:=⟨hgr.os.trans hb.os,hgr.tape.trans hb.tape,hgr.output.trans hb.output,hsz,λk hk=>by have:=L.b0;have:=L.b1;have:=h.b0;exact hlow k (by omega) (hnb k (by omega))⟩;have h4:eX T w4 L W s lc al cl v code a b∨True:= .inr trivial;have hblk:w4.heap[L.gb]? =some (.cells (NV W s lc al cl v a b) T (0,0)):=(hlow _ (Array.getElem?_eq_some_iff.1 h.blk).1 (hnb _ L.b1)).trans h.blk;have hg:=bQ w4 ⟨L.gb,7,none⟩ (.slice (some ⟨g',0,none⟩) (code.length+1) cap');have hb2:Below L.B0 w4 (w4.setCell ⟨L.gb,7,none⟩ (.slice (some ⟨g',0,none⟩) (code.length+1) cap')):=bL hg L.b0 (Nat.le_trans h.b0 hsz);have hown':w4.ownsRow L.B1 56 6 (.slice (some ⟨g',0,none⟩) (code.length+1) cap') (code++[x]).length ((code++[x]).flatMap jI):=by rw[List.flatMap_append,List.flatMap_singleton,List.length_append];exact hown
 have hlt:=(hown.lt g' rfl).1;refine⟨⟨nA hblk _ rfl,hown'.kept hg (.inr ?_),Nat.le_trans (Nat.le_trans h.sz hsz) hg.size,(h.wo.below hbel).below hb2,h.few,(h.lc.below hbel).below hb2⟩,?_,?_⟩
 ·intro e;have:=L.b1;injection e with e;simp only at e;omega
 ·exact⟨hg.os.trans hbel.os,hg.tape.trans hbel.tape,hg.output.trans hbel.output,Nat.le_trans hsz hg.size,λk hk hc hv=>(hg.block k (Nat.lt_of_lt_of_le hk hsz) (by simp;exact hc)).trans (hlow k hk hv)⟩
 ·rcases hat with e|e
  ·exact .inl (by rw[e];rfl)
  ·exact .inr ⟨g',rfl,Nat.le_trans hb.size e⟩
end
section
variable {w:World} {base:Nat} {e:TypeId} {size:Nat} {n cap g:Nat} {xs:List Value}
theorem VA (h:w.ownsRow base e size (.slice (some ⟨g,0,none⟩) n cap) n xs) (j:Nat) (u:Value) (hj:j<xs.length):(w.setCell ⟨g,j,none⟩ u).ownsRow base e size (.slice (some ⟨g,0,none⟩) n cap) n (xs.set j u):=by
 rcases h.2 with⟨h1,-⟩|⟨g',cap',cur,e1,hb,hg,hc,hm,hs,ht⟩
 ·cases h1
 ·injection e1 with e1 e2 e3;injection e1 with e1;injection e1 with e1;subst e1;subst e3;refine⟨by rw[List.length_set];exact h.1,.inr ⟨g,cap,cur.setIfInBounds j u,rfl,hb,eZ hg u,hc,hm,by simpa using hs,?_⟩⟩;rw[Array.toList_setIfInBounds,<- ht,List.take_set]
end
theorem Lp {α:Type} {f:α->List Value} {m:Nat} (hf: ∀x,(f x).length=m): ∀(xs:List α) (k:Nat) (x y:α) (j:Nat) (u:Value),xs[k]? =some x->j<m->f y=(f x).set j u->(xs.flatMap f).set (k*m+j) u=(xs.set k y).flatMap f
 | [],_,_,_,_,_,h,_,_=>by simp at h
 |z::xs,0,x,y,j,u,h,hj,hy=>by simp at h;subst h;rw[List.flatMap_cons,List.set_cons_zero,List.flatMap_cons,Nat.zero_mul,Nat.zero_add,hy,List.set_append_left _ _ (by rw[hf];exact hj)]
 |z::xs,k+1,x,y,j,u,h,hj,hy=>by
  have ih:=Lp hf xs k x y j u (by simpa using h) hj hy;have e:(k+1)*m+j=m+(k*m+j):=by rw[Nat.add_mul];omega
  rw[List.flatMap_cons,List.set_cons_succ,List.flatMap_cons,<- ih,List.set_append_right _ _ (by rw[hf,e];omega),hf,e,Nat.add_sub_cancel_left]
section
variable {T:TypeId} {w w':World} {L:GL} {W:Wo} {s:jf} {lc:List ByteArray} {al:Option Addr} {cl:Nat} {v:Value} {code:List bM} {a b:Int}
theorem eX.patch {g cap:Nat} (h:eX T w L W s lc al cl (.slice (some ⟨g,0,none⟩) code.length cap) code a b) (k j:Nat) (x y:bM) (u:Value) (hx:code[k]? =some x) (hj:j<6) (hy:jI y=(jI x).set j u):
 eX T (w.setCell ⟨g,k*6+j,none⟩ u) L W s lc al cl (.slice (some ⟨g,0,none⟩) code.length cap) (code.set k y) a b∧Kg L (.slice (some ⟨g,0,none⟩) code.length cap) w (w.setCell ⟨g,k*6+j,none⟩ u):=by
 have hg:=bQ w ⟨g,k*6+j,none⟩ u;have hlt:=h.own g rfl;have hb:Below L.B0 w (w.setCell ⟨g,k*6+j,none⟩ u):=bL hg (by have:=L.b0;have:=L.b1;show L.B0<=g;omega) h.b0;have hk:k<code.length:=(List.getElem?_eq_some_iff.1 hx).1;have hjl:k*6+j<(code.flatMap jI).length:=by rw[Dl yw];omega
 refine⟨⟨(hg.block _ (Array.getElem?_eq_some_iff.1 h.blk).1 (by have:=L.b1;simp;omega)).trans h.blk,?_,Nat.le_trans h.sz hg.size,h.wo.below hb,h.few,h.lc.below hb⟩,hg.os,hg.tape,hg.output,hg.size,λi hi _ hv=>hg.block i hi (λe=>hv e.symm)⟩;have:=VA h.row (k*6+j) u hjl;rw[Lp yw code k x y j u hx hj hy]at this;rw[List.length_set];exact this
end
def nD (W:Wo) (s:jf):Value:= .agg #[.slice s.aC W.cs.length s.cC,.slice s.aL W.ls.length s.cL,.slice s.aN W.ns.length s.cN,.slice s.aF W.fs.length s.cF,.slice s.aT W.ts.length s.cT,.slice s.aS W.ss.length s.cS]
theorem ZM:(Tryz.prog.info? 56).map (λi=>(i.zero,i.size,i.bytes))=some (some (.agg #[.int .i64 0,.int .i64 0,.int .i64 0,.int .i64 0,.int .i64 0,.int .i64 0]),6,48):=by kernel_rfl
theorem wW {o:Option TypeInfo} {z:Option Value} {a b:Nat} (h:o.map (λi=>(i.zero,i.size,i.bytes))=some (z,a,b)): ∃i0,o=some i0∧i0.zero=z∧i0.size=a∧i0.bytes=b:=by
 cases o with
 |none=>cases h
 |some i=>simp at h;exact⟨i,rfl,h.1,h.2.1,h.2.2⟩
theorem aw4 (x:bM): ∀u∈jI x,u.oneCell'=true:=by
 intro u hu;simp[jI]at hu;rcases hu with rfl|rfl|rfl|rfl|rfl|rfl <;> rfl
def GQ (x:bM):Value:= .agg #[.int .i64 x.op,.int .i64 x.a,.int .i64 x.b,.int .i64 x.c,.int .i64 x.n,.int .i64 x.st]
def vG (T:TypeId) (w:World) (L:GL) (W:Wo) (s:jf) (lc:List ByteArray) (al:Option Addr) (cl:Nat) (v:Value) (code:List bM) (a b:Int) (xs:List bM) (w':World):Prop:=
 ∃v',eX T w' L W s lc al cl v' (code++xs) a b∧Kg L v w w'∧mH w v v'
section
variable {T:TypeId} {w w1 w2 w':World} {L:GL} {W:Wo} {s:jf} {lc:List ByteArray} {al:Option Addr} {cl:Nat} {v:Value} {code:List bM} {a b:Int} {xs ys:List bM}
theorem vG.start (h:eX T w L W s lc al cl v code a b):vG T w L W s lc al cl v code a b [] w:=⟨v,by simpa using h,Kg.refl _ _ _,.inl rfl⟩
theorem vG.pre (hb:Below w.heap.size w w1) (h:vG T w1 L W s lc al cl v code a b xs w'):vG T w L W s lc al cl v code a b xs w':=by
 obtain⟨v',h1,h2,h3⟩:=h;exact⟨v',h1,(Kg.of_below hb).trans (.inl rfl) h2,(mH.refl w v).trans h3 hb.size⟩
theorem vG.below (h:vG T w L W s lc al cl v code a b xs w1) (hb:Below w1.heap.size w1 w'):vG T w L W s lc al cl v code a b xs w':=by
 obtain⟨v',h1,h2,h3⟩:=h;exact⟨v',h1.below hb,h2.trans h3 (Kg.of_below hb),h3⟩
theorem vG.then (h:vG T w L W s lc al cl v code a b xs w1) (k: ∀v',eX T w1 L W s lc al cl v' (code++xs) a b->vG T w1 L W s lc al cl v' (code++xs) a b ys w'):vG T w L W s lc al cl v code a b (xs++ys) w':=by
 obtain⟨v',h1,h2,h3⟩:=h;obtain⟨v2,k1,k2,k3⟩:=k v' h1;exact⟨v2,by rw[<- List.append_assoc];exact k1,h2.trans h3 k2,h3.trans k3 h2.size⟩
end
structure jc (T:TypeId) (w:World) (L:GL) (W:Wo) (s:jf) (lc:List ByteArray) (al:Option Addr) (cl:Nat) (v:Value) (code:List bM) (a b:Int) (nb:Nat) (cs:Array Value) (ty:TypeId) (xs:List bM) (w2:World) (v2:Value):Prop where
 i:eX T w2 L W s lc al cl v2 (code++xs) a b
 k:Kg L v w w2
 o:mH w v v2
 x:w2.heap[nb]? =some (.cells cs ty (0,0))
 g:L.B1<=nb
 n:v2.ownBlock≠some nb
section
variable {T ty:TypeId} {w w1 w2 w':World} {L:GL} {W:Wo} {s:jf} {lc:List ByteArray} {al:Option Addr} {cl nb:Nat} {v v2:Value} {code:List bM} {a b:Int} {xs ys:List bM} {cs:Array Value}
theorem jc.start (h:eX T w L W s lc al cl v code a b) (hb:Below w.heap.size w w1) (hn:w.heap.size=nb) (hx:w1.heap[nb]? =some (.cells cs ty (0,0))):jc T w L W s lc al cl v code a b nb cs ty [] w1 v:=
 ⟨by simpa using h.below hb,Kg.of_below hb,.inl rfl,hx,by rw[<- hn];exact h.sz,λe=>by have:=(h.own _ e).2;omega⟩
theorem jc.then (h:jc T w L W s lc al cl v code a b nb cs ty xs w2 v2) (k:vG T w2 L W s lc al cl v2 (code++xs) a b ys w'): ∃v3,jc T w L W s lc al cl v code a b nb cs ty (xs++ys) w' v3:=by
 obtain⟨v3,k1,k2,k3⟩:=k;have hlt:=(Array.getElem?_eq_some_iff.1 h.x).1;exact⟨v3,by rw[<- List.append_assoc];exact k1,h.k.trans h.o k2,h.o.trans k3 h.k.size,(k2.block nb hlt (by have:=L.b1;have:=h.g;omega) h.n).trans h.x,h.g,k3.ne hlt h.n⟩
theorem jc.below (h:jc T w L W s lc al cl v code a b nb cs ty xs w2 v2) (hb:Below w2.heap.size w2 w'):jc T w L W s lc al cl v code a b nb cs ty xs w' v2:=
 ⟨h.i.below hb,h.k.trans h.o (Kg.of_below hb),h.o,(hb.block nb (Array.getElem?_eq_some_iff.1 h.x).1).trans h.x,h.g,h.n⟩
theorem jc.fin (h:jc T w L W s lc al cl v code a b nb cs ty xs w2 v2) (e:xs=ys):vG T w L W s lc al cl v code a b ys w2:=by
 subst e;exact⟨v2,h.i,h.k,h.o⟩
theorem jc.low (h:jc T w L W s lc al cl v code a b nb cs ty xs w2 v2) (h0:eX T w L W s lc al cl v code a b):Below L.B0 w w2:=h0.keep h.k
end
theorem fV {w:World} {L:GL} {W:Wo} {s:jf} {lc:List ByteArray} {al:Option Addr} {cl:Nat} {v:Value} {code:List bM} {a b:Int} (h:eX 49 w L W s lc al cl v code a b) (x:bM) (hl:code.length+1<=1000000000000):
 Calls Tryz.prog 13 #[.pointer (some ⟨L.gb,0,none⟩),GQ x] w λe w'=>e= .returned (.tuple #[])∧vG 49 w L W s lc al cl v code a b [{x with st:=b}] w':=by
 obtain⟨ao,cap,rfl,hcap,-⟩:=h.form;obtain⟨hlt,-,-,-,-,-,-,-,c7,c8,c9,cf⟩:=h.cells;have HI:=ah h;have HL:=ah hl;clear h hl;unfold GQ;go_enter Tryz.func13,Tryz.ntmps13;go_upto_region 2 with fail;obtain⟨nb,hnb⟩: ∃n,w.heap.size=n:=⟨_,rfl⟩;generalize hW:World.alloc w _=wq;have HB:aj (Below w.heap.size w wq):=ah (by rw[<- hW];exact ak _ _);have HX:aj (wq.heap[nb]? =some (.cells (jI {x with st:=b}).toArray 56 (0,0))):=ah (by rw[<- hW,<- hnb];exact heap_alloc_new _ _);have HQ:=ah (HI.o.below HB.o);have gB:aj (L.B1<=nb∧nb<wq.heap.size∧L.gb<wq.heap.size∧L.gb≠nb∧(Value.slice ao code.length cap).ownBlock≠some nb):=ah (by have h1:=HI.o.sz;have h2:=L.b1;refine⟨by omega,(Array.getElem?_eq_some_iff.1 HX.o).1,(Array.getElem?_eq_some_iff.1 HQ.o.blk).1,by omega,λe=> ?_⟩;have:=(HI.o.own _ e).2;omega);have HGV:aj ((Value.slice ao code.length cap).ownBlock≠some L.gb):=ah (λe=>by have:=(HI.o.own _ e).1;have:=L.b1;omega);have Tv:=ah HQ.o.cells.2.2.2.2.2.2.2.2.1;have HOW:aj (∀k,(Value.slice ao code.length cap).ownBlock=some k->k<wq.heap.size):=ah (λk e=>(HQ.o.own k e).2);rw[hnb];clear hW hnb c7 c8 c9 cf hlt;refine xB (sw wq 4 6 7 10 (Xk 56 6 wq L.B1 (Value.slice ao code.length cap).ownBlock (code.length+1) (code.flatMap jI++jI {x with st:=b})) ⟨L.gb,7,none⟩ (O7 (code.length+1)) (jI {x with st:=b}).toArray 56) (Ag.le wq.heap.size) [9,10,11,12,13,14,15,16,17,18] ⟨none,false,none⟩ (by kernel_rfl) (by kernel_rfl) (λg w=>Ag.le_refl _ g w) (by rfl) sw.start ?_;apply jh.step
 case aJ=>intro D A g w' hDn hC hO hD;have e0:=hO 0 (by rfl);simp[Act.eval]at e0;simp[gV,gN,dL,Act.eval,Region.binds]at hD;simp[go_sem,lg,Oper.wp,hD,e0];exact fu.mk (Ag.le_refl _ _ _) (hC.skip _ (by decide)) (gN.mk _ _ _)
 apply jh.step
 case aJ=>intro D A g w' hDn hC hO hD;have e0:=hO 0 (by rfl);simp[Act.eval]at e0;simp[gV,gN,dL,Act.eval,Region.binds]at hD;simp[go_sem,lg,Oper.wp,hD,e0];exact fu.mk (Ag.le_refl _ _ _) (hC.skip _ (by decide)) (gN.mk _ _ _)
 apply jh.step
 case aJ=>intro D A g w' hDn hC hO hD;simp[gV,gN,dL,Act.eval,Region.binds]at hD;simp[go_sem,lg,Oper.wp,hD];exact fu.mk (Ag.le_refl _ _ _) (hC.skip _ (by decide)) (gN.mk _ _ _)
 apply jh.step
 case aJ=>intro D A g w' hDn hC hO hD;simp[gV,gN,dL,Act.eval,Region.binds]at hD;simp[go_sem,lg,Oper.wp,hD];exact fu.mk (Ag.le_refl _ _ _) (hC.skip _ (by decide)) (gN.mk _ _ _)
 refine jh.some (λv g _=>v= .slice ao code.length cap∧g.h=true) (λv g w g' w' hle h=>⟨h.1,hle.2.1 h.2⟩) ?_ ?_
 ·intro D A g w' hDn hC hO hD;simp[gV,gN,dL,Act.eval,Region.binds]at hD;obtain⟨hp,hle,hm⟩:=hC.ZR hDn (by decide);have z3:=((hC.pre hp).cell (p:=⟨L.gb,7,none⟩) gB.o.2.2.1).trans Tv.o;simp[go_sem,lg,Oper.wp,hD,z3];exact fu.mk hle hm ⟨rfl,rfl⟩
 simp only[bP];apply jh.step
 case aJ=>intro D A g w' hDn hC hO hD;have e3:=hO 3 (by rfl);simp[Act.eval]at e3;have zc:=λ(j:Nat) (u:Value) (hu:(jI {x with st:=b})[j]? =some u)=>hC.cell gB.o.2.1 gB.o.2.2.2.2 gB.o.2.2.2.1 (au (j:=j) HX.o (by simpa using hu));have z0:=zc 0 _ rfl;have z1:=zc 1 _ rfl;have z2:=zc 2 _ rfl;have z3:=zc 3 _ rfl;have z4:=zc 4 _ rfl;have z5:=zc 5 _ rfl;simp[gV,gN,dL,Act.eval,Region.binds]at hD;simp[go_sem,lg,Oper.wp,hD,e3,z0,z1,z2,z3,z4,z5];exact fu.mk (Ag.le_refl _ _ _) (hC.skip _ (by decide)) (gN.mk _ _ _)
 refine jh.some (λv g _=> ∃b,v= .slice (some ⟨b,0,none⟩) 1 1∧g.o=some b) (λv g w g' w' hle h=>by obtain⟨b,h1,h2⟩:=h;exact⟨b,h1,hle.1 b h2⟩) ?_ ?_
 ·intro D A g w' hDn hC hO hD;simp[gV,gN,dL,Act.eval,Region.binds]at hD;simp[go_sem,lg,Oper.wp,hD];have hM:=hC.ax5 hDn (by decide);exact fu.mk hM.1 hM.2 ⟨_,rfl,rfl⟩
 refine jh.some (λv g _=> ∃q,g.p=some q∧v=O7 (code.length+1) q) (λv g w g' w' hle h=>by obtain⟨q,h1,h2⟩:=h;exact⟨q,hle.2.2.1 q h1,h2⟩) ?_ ?_
 ·intro D A g w' hDn hC hO hD;simp[gV,gN,dL,Act.eval,Region.binds]at hD;obtain⟨⟨hs1,hh⟩,bb,hs2,hb⟩:=hD;simp only[lg,if_true];have hbl:=hC.pre (hC.rU hDn);obtain⟨aV7,XL⟩:=hC.row bb hb;have hown:=(HQ.o.below hbl).row;obtain⟨i0,hi0,hz0,hz1,hz2⟩:=wW ZM;refine wp_append_lies w' _ _ _ (by rfl) L.B1 56 i0 _ 6 48 Tryz.underlying47 hi0 hz0 hz1 hz2 (by rfl) (by omega) (.slice ao code.length cap) code.length (code.flatMap jI) (by simp[Act.eval,hs1]) hown ⟨bb,0,none⟩ 1 1 (jI {x with st:=b}) (by simp[Act.eval,hs2]) (by rfl) (gq XL) (aw4 _) (by decide) (by have:=HL.o;unfold maxLen;omega) (by have:=HL.o;omega) (HQ.o.below hbl).sz _ rfl ?_;intro g' cap' w5 hown5 hgr hmv jw;have hM:=hC.ax6 (q:=(g',cap')) (w':=w5) hDn (by decide) hb hh ⟨hown5,gY (CF hbl) hgr,by rcases hmv with h|h;exact .inl h;exact .inr (by rw[h];exact hbl.size)⟩ hgr.size (λk h1 h2=>hgr.block k h2 (λe=>by have:=HOW.o k e.symm;omega));exact fu.mk hM.1 hM.2 ⟨(g',cap'),rfl,rfl⟩
 simp only[bP];apply jh.step
 case aJ=>intro D A g w' hDn hC hO hD;simp[gV,gN,dL,Act.eval,Region.binds]at hD;simp[go_sem,lg,Oper.wp,hD];exact fu.mk (Ag.le_refl _ _ _) (hC.skip _ (by decide)) (gN.mk _ _ _)
 apply jh.step
 case aJ=>intro D A g w' hDn hC hO hD;simp[gV,gN,dL,Act.eval,Region.binds]at hD;simp[go_sem,lg,Oper.wp,hD];exact fu.mk (Ag.le_refl _ _ _) (hC.skip _ (by decide)) (gN.mk _ _ _)
 refine jh.some (λ_ _ _=>True) (λ_ _ _ _ _ _ _=>trivial) ?_ ?_
 ·intro D A g w' hDn hC hO hD;simp[gV,gN,dL,Act.eval,Region.binds]at hD;obtain⟨hs1,⟨qa,qc,hq,hs2⟩,-⟩:=hD;have hR:=hC.post (qa,qc) hq hDn;have hblk:=hR.2.1.block L.gb gB.o.2.2.1 (λe=>HGV.o e.symm);have z3:=(World.cell?_of_block (a:=⟨L.gb,7,none⟩) hblk).trans Tv.o;have f3:w'.frozen? ⟨L.gb,7,none⟩=false:=by rw[World.frozen?_of_block (a:=⟨L.gb,7,none⟩) hblk];exact bG HQ.o.blk
  unfold O7 at hs2;simp[go_sem,lg,Oper.wp,hs1,hs2,z3,f3];have hM:=hC.ax7 hDn hq gB.o.2.2.1 (by decide) (by decide);exact fu.yQ (v:=undef) hM.1 hM.2 trivial
 refine jh.done ?_;intro D g wz hD hC;simp only[J8,List.nil_append,List.cons_append,List.map_cons,List.map_nil];intro v0 h0 v1 h1 v2 h2 v3 h3 v4 h4 v5 h5 v6 h6 v7 h7 v8 h8 v9 h9 v10 h10;obtain⟨q,hq,rfl⟩:=h7;obtain⟨w5,hR,hW⟩:=hC.fin q hq (hD 10 (by simp));have HP:=ah (HI.o.push (wz:=wq) (w4:=w5) (g':=q.1) (cap':=q.2) {x with st:=b} HB.o hR.1 hR.2.1 hR.2.2);clear hC hD;refine jB ?_;go_simp;go_wp2_with fail;refine bodyPost_end (v:= .tuple #[]) (by simp[results,Tryz.results13,go_sem]) rfl ⟨rfl,?_⟩;exact⟨_,HP.o⟩
namespace Md
theorem DJ (W:Wo) (lc:List ByteArray) (st op n:Int) (nm:ByteArray) (kids rest:bC) (d:Int):Ea W lc st (.cons op n nm kids rest) d=jl W lc st op n nm kids d++Ea W lc st rest (d+1):=rfl
theorem mG (op n:Int) (nm:ByteArray) (kids rest:bC):kZ (.cons op n nm kids rest)=(iY op n nm kids&&kZ rest):=rfl
theorem Dx (W:Wo) (op n:Int) (nm:ByteArray) (kids rest:bC):GX W (.cons op n nm kids rest)=(xR W op nm kids&&GX W rest):=rfl
theorem Il: ∀ {l:bC},l.len=0->l= .nil
 | .nil,_=>rfl
 | .cons _ _ _ _ _,h=>by simp[bC.len]at h
theorem R3: ∀ {l:bC},l.len=1->∃o n m k,l= .cons o n m k .nil
 | .nil,h=>by simp[bC.len]at h
 | .cons o n m k r,h=>⟨o,n,m,k,by rw[Il (l:=r) (by simpa[bC.len]using h)]⟩
theorem ad6: ∀ {l:bC},l.len=2->∃o n m k o' n' m' k',l= .cons o n m k (.cons o' n' m' k' .nil)
 | .nil,h=>by simp[bC.len]at h
 | .cons o n m k r,h=>by obtain⟨o',n',m',k',e⟩:=R3 (l:=r) (by simpa[bC.len]using h);exact⟨o,n,m,k,o',n',m',k',by rw[e]⟩
theorem JQ {W:Wo} {op n:Int} {nm:ByteArray} {kids:bC} (hs:iY op n nm kids=true) (ho:xR W op nm kids=true):
 (op=1∧kids= .nil)∨(op=2∧kids= .nil)∨(op=3∧0<=W.cell nm∧∃o n' m k,kids= .cons o n' m k .nil∧iY o n' m k=true∧xR W o m k=true)∨
 ((op=4∨op=5)∧∃o n' m k,kids= .cons o n' m k .nil∧iY o n' m k=true∧xR W o m k=true)∨
 (6<=op∧op<=18∧∃o n1 m k o' n2 m' k',kids= .cons o n1 m k (.cons o' n2 m' k' .nil)∧iY o n1 m k=true∧xR W o m k=true∧iY o' n2 m' k'=true∧xR W o' m' k'=true):=by
 unfold iY at hs;rw[Bool.and_eq_true]at hs;obtain⟨h1,h2⟩:=hs;unfold xR at ho;rw[Bool.and_eq_true]at ho;obtain⟨ho1,ho2⟩:=ho;unfold FH at h1;rw[Bool.and_eq_true,beq_iff_eq]at h1;have hl:=h1.1;unfold opsOf at hl;by_cases c1:(op==1||op==2)=true
 ·rw[if_pos c1]at hl;have hk:=Il (l:=kids) (by omega);rw[Bool.or_eq_true,beq_iff_eq,beq_iff_eq]at c1;rcases c1 with c|c
  ·exact .inl ⟨c,hk⟩
  ·exact .inr (.inl ⟨c,hk⟩)
 rw[if_neg c1]at hl;by_cases c2:(op==3||op==4||op==5)=true
 ·rw[if_pos c2]at hl;obtain⟨o,n',m,k,e⟩:=R3 (l:=kids) (by omega);subst e;rw[mG,Bool.and_eq_true]at h2;rw[Dx,Bool.and_eq_true]at ho2;rw[Bool.or_eq_true,Bool.or_eq_true,beq_iff_eq,beq_iff_eq,beq_iff_eq]at c2;rcases c2 with(c|c)|c
  ·subst c;exact .inr (.inr (.inl ⟨rfl,by simpa using ho1,o,n',m,k,rfl,h2.1,ho2.1⟩))
  ·exact .inr (.inr (.inr (.inl ⟨.inl c,o,n',m,k,rfl,h2.1,ho2.1⟩)))
  ·exact .inr (.inr (.inr (.inl ⟨.inr c,o,n',m,k,rfl,h2.1,ho2.1⟩)))
 rw[if_neg c2]at hl;by_cases c3:(decide (6<=op)&&decide (op<=18))=true
 ·rw[if_pos c3]at hl;rw[Bool.and_eq_true,decide_eq_true_eq,decide_eq_true_eq]at c3;obtain⟨o,n1,m,k,o',n2,m',k',e⟩:=ad6 (l:=kids) (by omega);subst e;rw[mG,mG,Bool.and_eq_true,Bool.and_eq_true]at h2;rw[Dx,Dx,Bool.and_eq_true,Bool.and_eq_true]at ho2;exact .inr (.inr (.inr (.inr ⟨c3.1,c3.2,o,n1,m,k,o',n2,m',k',rfl,h2.1,ho2.1,h2.2.1,ho2.2.1⟩)))
 ·rw[if_neg c3]at hl;omega
theorem FU {W:Wo} {nm:ByteArray} (h:0<=W.cell nm): ∃c,W.cs[(W.cell nm).toNat]? =some c∧W.size nm=c.sz∧c∈W.cs∧(W.cell nm).toNat<W.cs.length:=by
 have hlt:=ax3 h;rw[List.length_map]at hlt;have hlt:(W.cell nm).toNat<W.cs.length:=hlt;refine⟨W.cs[(W.cell nm).toNat],List.getElem?_eq_getElem hlt,?_,List.getElem_mem hlt,hlt⟩;unfold Wo.size;rw[List.getElem?_eq_getElem hlt];rfl
theorem Gi {W:Wo} {lc:List ByteArray} {st op n:Int} {nm:ByteArray} {o n1:Int} {m:ByteArray} {k:bC} {d:Int} (h:3<=op):jl W lc st op n nm (.cons o n1 m k .nil) d=jl W lc st o n1 m k d++[JH W op nm d st]:=by
 conv=>lhs;unfold jl
 rw[if_neg (by simp;omega),DJ,Ea,List.append_nil]
theorem Rq {W:Wo} {lc:List ByteArray} {st op n:Int} {nm:ByteArray} {o n1 o' n2:Int} {m m':ByteArray} {k k':bC} {d:Int} (h:3<=op):jl W lc st op n nm (.cons o n1 m k (.cons o' n2 m' k' .nil)) d=jl W lc st o n1 m k d++jl W lc st o' n2 m' k' (d+1)++[JH W op nm d st]:=by
 conv=>lhs;unfold jl
 rw[if_neg (by simp;omega),DJ,DJ,Ea,List.append_nil]
end Md
namespace Md
def GY (W:Wo) (h:cB):Prop:=Fx W h=true∧dU h<=300000
def qL (W:Wo) (lc:List ByteArray) (h:cB) (b e:aH) (nx pos:Nat):List bM:=
 CP W lc nx h (fF W lc nx h lc.length) (iH W lc b (nx+1) (pos+pG h (fF W lc nx h lc.length)))
  (iH W lc e (nx+1+bF b) (pos+pG h (fF W lc nx h lc.length)+(iH W lc b (nx+1) (pos+pG h (fF W lc nx h lc.length))).length+1)) e.none pos
theorem NU (W:Wo) (lc:List ByteArray) (h:cB) (b e r:aH) (nx pos:Nat):iH W lc (.cons h b e r) nx pos=qL W lc h b e nx pos++iH W lc r (nx+1+bF b+bF e) (pos+(qL W lc h b e nx pos).length):=rfl
theorem Rh (W:Wo) (lc:List ByteArray) (h:cB) (b e:aH) (nx pos:Nat):(qL W lc h b e nx pos).length<=dU h+iV b+iV e:=by
 unfold qL;have h1:=OX W lc nx h (iH W lc b (nx+1) (pos+pG h (fF W lc nx h lc.length))) (iH W lc e (nx+1+bF b) (pos+pG h (fF W lc nx h lc.length)+(iH W lc b (nx+1) (pos+pG h (fF W lc nx h lc.length))).length+1)) e.none pos;have h2:=mM W lc b (nx+1) (pos+pG h (fF W lc nx h lc.length));have h3:=mM W lc e (nx+1+bF b) (pos+pG h (fF W lc nx h lc.length)+(iH W lc b (nx+1) (pos+pG h (fF W lc nx h lc.length))).length+1);omega
def stA (h:cB) (b e:aH) (s:Sl):Array Value:= #[.int .i64 h.op,.int .i64 h.line,.string h.nm,.string h.arg,.slice s.eu h.idx.len s.dI,.int .i64 h.cu,.int .i64 h.xn,.string h.bZ,.slice s.dR h.aK.len s.cO,.slice s.bR b.len s.aY,.slice s.fH e.len s.dX]
end Md
theorem iX {w:World} {n:Nat} {h:cB} {b e:aH} {s:Sl} {t:TypeId} {f:Nat×Nat} (x:w.heap[n]? =some (.cells (stA h b e s) t f)):w.cell? ⟨n,0,none⟩=some (.int .i64 h.op)∧w.cell? ⟨n,1,none⟩=some (.int .i64 h.line)∧w.cell? ⟨n,2,none⟩=some (.string h.nm)∧w.cell? ⟨n,3,none⟩=some (.string h.arg)∧w.cell? ⟨n,4,none⟩=some (.slice s.eu h.idx.len s.dI)∧w.cell? ⟨n,5,none⟩=some (.int .i64 h.cu)∧w.cell? ⟨n,6,none⟩=some (.int .i64 h.xn)∧w.cell? ⟨n,7,none⟩=some (.string h.bZ)∧w.cell? ⟨n,8,none⟩=some (.slice s.dR h.aK.len s.cO)∧w.cell? ⟨n,9,none⟩=some (.slice s.bR b.len s.aY)∧w.cell? ⟨n,10,none⟩=some (.slice s.fH e.len s.dX):=
 ⟨au x rfl,au x rfl,au x rfl,au x rfl,au x rfl,au x rfl,au x rfl,au x rfl,au x rfl,au x rfl,au x rfl⟩
def Nt (w:World) (B:Nat) (h:cB) (b e:aH) (s:Sl):Prop:=uY h b e∧h.idx.At w B s.eu 0∧h.aK.At w B s.dR 0∧b.At w B s.bR 0∧e.At w B s.fH 0
theorem Nt.below {w w':World} {B:Nat} {h:cB} {b e:aH} {s:Sl} (hi:Nt w B h b e s) (hb:Below B w w'):Nt w' B h b e s:=
 ⟨hi.1,hi.2.1.below hb,hi.2.2.1.below hb,hi.2.2.2.1.below hb,hi.2.2.2.2.below hb⟩
theorem BG {w:World} {B:Nat} {h:cB} {b e r:aH} {ao:Option Addr} {k:Nat} (hat:(aH.cons h b e r).At w B ao k): ∃bl off s,ao=some ⟨bl,off,none⟩∧bl<B∧Nt w B h b e s∧
 (∀j u,(stA h b e s)[j]? =some u->w.cell? ⟨bl,off+k*11+j,none⟩=some u)∧r.At w B ao (k+1):=by
 obtain⟨⟨b',off,eu,dI,dR,cO,bR,aY,fH,dX,e',hB,c0,c1,c2,c3,c4,c5,c6,c7,c8,c9,c10,hok,h1,h2,h3,h4⟩,hr⟩:=hat;refine⟨b',off,⟨eu,dI,dR,cO,bR,aY,fH,dX⟩,e',hB,⟨hok,h1,h2,h3,h4⟩,λj u hu=> ?_,hr⟩;have hj:j<11:=(Array.getElem?_eq_some_iff.1 hu).1;have:j=0∨j=1∨j=2∨j=3∨j=4∨j=5∨j=6∨j=7∨j=8∨j=9∨j=10:=by omega
 rcases this with rfl|rfl|rfl|rfl|rfl|rfl|rfl|rfl|rfl|rfl|rfl <;> (simp[stA]at hu;subst hu;first|exact c0|exact c1|exact c2|exact c3|exact c4|exact c5|exact c6|exact c7|exact c8|exact c9|exact c10)
structure nW (w:World) (L:GL) (W:Wo) (code:List bM) (h:cB) (b e:aH) (sl:Sl) (nx:Nat):Prop where
 m:Nt w L.B0 h b e sl
 sh:mX h b.len e.len=true
 sb:eG b=true
 se:eG e=true
 ok:GY W h
 ob:b.Ev (GY W)
 oe:e.Ev (GY W)
 len:code.length+(dU h+iV b+iV e)<=1000000000000
 cnt:nx+(dU h+iV b+iV e)<=1000000000000
theorem nW.below {w w':World} {L:GL} {W:Wo} {code:List bM} {h:cB} {b e:aH} {sl:Sl} {nx:Nat} (p:nW w L W code h b e sl nx) (hb:Below L.B0 w w'):nW w' L W code h b e sl nx:=
 ⟨p.m.below hb,p.sh,p.sb,p.se,p.ok,p.ob,p.oe,p.len,p.cnt⟩
theorem nW.b7 {w:World} {L:GL} {W:Wo} {code:List bM} {h:cB} {b e:aH} {sl:Sl} {nx:Nat} (p:nW w L W code h b e sl nx):b.len<=maxLen:=p.m.1.2.2.2.2.2.2.1
theorem nW.e7 {w:World} {L:GL} {W:Wo} {code:List bM} {h:cB} {b e:aH} {sl:Sl} {nx:Nat} (p:nW w L W code h b e sl nx):e.len<=maxLen:=p.m.1.2.2.2.2.2.2.2
def Ba (Q:Int->Int->Prop) (T:TypeId) (w:World) (L:GL) (W:Wo) (s:jf) (lc:List ByteArray) (al:Option Addr) (cl:Nat) (v:Value) (code:List bM) (xs:List bM) (w':World):Prop:=
 ∃v' a' b',Q a' b'∧eX T w' L W s lc al cl v' (code++xs) a' b'∧Kg L v w w'∧mH w v v'
section
variable {Q:Int->Int->Prop} {T ty:TypeId} {w w1 w2 w':World} {L:GL} {W:Wo} {s:jf} {lc:List ByteArray} {al:Option Addr} {cl nb:Nat} {v v2:Value} {code:List bM} {a b:Int} {xs ys:List bM} {cs:Array Value}
theorem jc.list (h:jc T w L W s lc al cl v code a b nb cs ty xs w2 v2) (k:Ba Q T w2 L W s lc al cl v2 (code++xs) ys w'): ∃v3 a' b',Q a' b'∧jc T w L W s lc al cl v code a' b' nb cs ty (xs++ys) w' v3:=by
 obtain⟨v3,a',b',hq,k1,k2,k3⟩:=k;have hlt:=(Array.getElem?_eq_some_iff.1 h.x).1;exact⟨v3,a',b',hq,by rw[<- List.append_assoc];exact k1,h.k.trans h.o k2,h.o.trans k3 h.k.size,(k2.block nb hlt (by have:=L.b1;have:=h.g;omega) h.n).trans h.x,h.g,k3.ne hlt h.n⟩
theorem jc.jk (h:jc T w L W s lc al cl v code a b nb cs ty xs w2 v2) (hq:Q a b) (e:xs=ys):Ba Q T w L W s lc al cl v code ys w2:=by
 subst e;exact⟨v2,a,b,hq,h.i,h.k,h.o⟩
theorem jc.setOf (h:jc T w L W s lc al cl v code a b nb cs ty xs w2 v2) {j:Nat} {u:Value} {a' b':Int} (hi:eX T (w2.setCell ⟨L.gb,j,none⟩ u) L W s lc al cl v2 (code++xs) a' b'):jc T w L W s lc al cl v code a' b' nb cs ty xs (w2.setCell ⟨L.gb,j,none⟩ u) v2:=
 ⟨hi,h.k.trans h.o (Kg.set _ _ _),h.o,(bY _ _ _ rfl (by have:=L.b1;have:=h.g;show L.gb≠nb;omega)).trans h.x,h.g,h.n⟩
theorem jc.FE (h:jc T w L W s lc al cl v code a b nb cs ty xs w2 v2) (x:Int):jc T w L W s lc al cl v code x b nb cs ty xs (w2.setCell ⟨L.gb,8,none⟩ (.int .i64 x)) v2:=h.setOf (h.i.FE x)
theorem jc.gJ (h:jc T w L W s lc al cl v code a b nb cs ty xs w2 v2) (x:Int):jc T w L W s lc al cl v code a x nb cs ty xs (w2.setCell ⟨L.gb,9,none⟩ (.int .i64 x)) v2:=h.setOf (h.i.gJ x)
theorem eX.FC (h:eX T w L W s lc al cl v code a b) {k:Nat} {x:bM} (hx:code[k]? =some x): ∃g cap,v= .slice (some ⟨g,0,none⟩) code.length cap∧L.B1<=g∧(∀j u,(jI x)[j]? =some u->w.cell? ⟨g,k*6+j,none⟩=some u)∧∀j,w.frozen? ⟨g,j,none⟩=false:=by
 have hk:=(List.getElem?_eq_some_iff.1 hx).1;rcases h.row.2 with⟨-,hn⟩|⟨g,cap,cur,rfl,hb,hg,h1,h2,h3,h4⟩
 ·omega
 ·refine⟨g,cap,rfl,hb,λj u hu=> ?_,λ_=>bG hg⟩;have hF:=flat_get yw code k x j u hx hu;rw[<- h4]at hF;have hlt:=(List.getElem?_eq_some_iff.1 hF).1;rw[List.getElem?_take_of_lt (by rw[List.length_take]at hlt;omega)]at hF;exact au hg (by rw[<- hF];simp)
theorem jc.patch {g cap:Nat} (h:jc T w L W s lc al cl v code a b nb cs ty xs w2 (.slice (some ⟨g,0,none⟩) (code++xs).length cap)) (i j:Nat) (x y:bM) (u:Value) (hx:xs[i]? =some x) (hj:j<6) (hy:jI y=(jI x).set j u):
 jc T w L W s lc al cl v code a b nb cs ty (xs.set i y) (w2.setCell ⟨g,(code.length+i)*6+j,none⟩ u) (.slice (some ⟨g,0,none⟩) (code++xs).length cap):=by
 have hx':(code++xs)[code.length+i]? =some x:=by rw[List.getElem?_append_right (by omega)];simpa using hx
 obtain⟨p1,p2⟩:=h.i.patch (code.length+i) j x y u hx' hj hy;have hlt:=(Array.getElem?_eq_some_iff.1 h.x).1;have e:(code++xs).set (code.length+i) y=code++xs.set i y:=by rw[List.set_append_right _ _ (by omega)];simp
 rw[e]at p1;exact⟨p1,h.k.trans h.o p2,h.o,(p2.block nb hlt (by have:=L.b1;have:=h.g;omega) h.n).trans h.x,h.g,h.n⟩
end
theorem gQ {w:World} {L:GL} {W:Wo} {s:jf} {lc:List ByteArray} {al:Option Addr} {cl:Nat} {v:Value} {code:List bM} {a b:Int} (h:eX 62 w L W s lc al cl v code a b) (x:bM) (hl:code.length+1<=1000000000000):
 Calls Tryz.prog 17 #[.pointer (some ⟨L.gb,0,none⟩),GQ x] w λe w'=>e= .returned (.tuple #[])∧vG 62 w L W s lc al cl v code a b [{x with st:=a}] w':=by
 obtain⟨ao,cap,rfl,hcap,-⟩:=h.form;obtain⟨hlt,-,-,-,-,-,-,-,c7,c8,c9,cf⟩:=h.cells;have HI:=ah h;have HL:=ah hl;clear h hl;unfold GQ;go_enter Tryz.func17,Tryz.ntmps17;go_upto_region 2 with fail;obtain⟨nb,hnb⟩: ∃n,w.heap.size=n:=⟨_,rfl⟩;generalize hW:World.alloc w _=wq;have HB:aj (Below w.heap.size w wq):=ah (by rw[<- hW];exact ak _ _);have HX:aj (wq.heap[nb]? =some (.cells (jI {x with st:=a}).toArray 56 (0,0))):=ah (by rw[<- hW,<- hnb];exact heap_alloc_new _ _);have HQ:=ah (HI.o.below HB.o);have gB:aj (L.B1<=nb∧nb<wq.heap.size∧L.gb<wq.heap.size∧L.gb≠nb∧(Value.slice ao code.length cap).ownBlock≠some nb):=ah (by have h1:=HI.o.sz;have h2:=L.b1;refine⟨by omega,(Array.getElem?_eq_some_iff.1 HX.o).1,(Array.getElem?_eq_some_iff.1 HQ.o.blk).1,by omega,λe=> ?_⟩;have:=(HI.o.own _ e).2;omega);have HGV:aj ((Value.slice ao code.length cap).ownBlock≠some L.gb):=ah (λe=>by have:=(HI.o.own _ e).1;have:=L.b1;omega);have Tv:=ah HQ.o.cells.2.2.2.2.2.2.2.2.1;have HOW:aj (∀k,(Value.slice ao code.length cap).ownBlock=some k->k<wq.heap.size):=ah (λk e=>(HQ.o.own k e).2);rw[hnb];clear hW hnb c7 c8 c9 cf hlt;refine xB (sw wq 4 6 7 10 (Xk 56 6 wq L.B1 (Value.slice ao code.length cap).ownBlock (code.length+1) (code.flatMap jI++jI {x with st:=a})) ⟨L.gb,7,none⟩ (O7 (code.length+1)) (jI {x with st:=a}).toArray 56) (Ag.le wq.heap.size) [9,10,11,12,13,14,15,16,17,18] ⟨none,false,none⟩ (by kernel_rfl) (by kernel_rfl) (λg w=>Ag.le_refl _ g w) (by rfl) sw.start ?_;apply jh.step
 case aJ=>intro D A g w' hDn hC hO hD;have e0:=hO 0 (by rfl);simp[Act.eval]at e0;simp[gV,gN,dL,Act.eval,Region.binds]at hD;simp[go_sem,lg,Oper.wp,hD,e0];exact fu.mk (Ag.le_refl _ _ _) (hC.skip _ (by decide)) (gN.mk _ _ _)
 apply jh.step
 case aJ=>intro D A g w' hDn hC hO hD;have e0:=hO 0 (by rfl);simp[Act.eval]at e0;simp[gV,gN,dL,Act.eval,Region.binds]at hD;simp[go_sem,lg,Oper.wp,hD,e0];exact fu.mk (Ag.le_refl _ _ _) (hC.skip _ (by decide)) (gN.mk _ _ _)
 apply jh.step
 case aJ=>intro D A g w' hDn hC hO hD;simp[gV,gN,dL,Act.eval,Region.binds]at hD;simp[go_sem,lg,Oper.wp,hD];exact fu.mk (Ag.le_refl _ _ _) (hC.skip _ (by decide)) (gN.mk _ _ _)
 apply jh.step
 case aJ=>intro D A g w' hDn hC hO hD;simp[gV,gN,dL,Act.eval,Region.binds]at hD;simp[go_sem,lg,Oper.wp,hD];exact fu.mk (Ag.le_refl _ _ _) (hC.skip _ (by decide)) (gN.mk _ _ _)
 refine jh.some (λv g _=>v= .slice ao code.length cap∧g.h=true) (λv g w g' w' hle h=>⟨h.1,hle.2.1 h.2⟩) ?_ ?_
 ·intro D A g w' hDn hC hO hD;simp[gV,gN,dL,Act.eval,Region.binds]at hD;obtain⟨hp,hle,hm⟩:=hC.ZR hDn (by decide);have z3:=((hC.pre hp).cell (p:=⟨L.gb,7,none⟩) gB.o.2.2.1).trans Tv.o;simp[go_sem,lg,Oper.wp,hD,z3];exact fu.mk hle hm ⟨rfl,rfl⟩
 simp only[bP];apply jh.step
 case aJ=>intro D A g w' hDn hC hO hD;have e3:=hO 3 (by rfl);simp[Act.eval]at e3;have zc:=λ(j:Nat) (u:Value) (hu:(jI {x with st:=a})[j]? =some u)=>hC.cell gB.o.2.1 gB.o.2.2.2.2 gB.o.2.2.2.1 (au (j:=j) HX.o (by simpa using hu));have z0:=zc 0 _ rfl;have z1:=zc 1 _ rfl;have z2:=zc 2 _ rfl;have z3:=zc 3 _ rfl;have z4:=zc 4 _ rfl;have z5:=zc 5 _ rfl;simp[gV,gN,dL,Act.eval,Region.binds]at hD;simp[go_sem,lg,Oper.wp,hD,e3,z0,z1,z2,z3,z4,z5];exact fu.mk (Ag.le_refl _ _ _) (hC.skip _ (by decide)) (gN.mk _ _ _)
 refine jh.some (λv g _=> ∃b,v= .slice (some ⟨b,0,none⟩) 1 1∧g.o=some b) (λv g w g' w' hle h=>by obtain⟨b,h1,h2⟩:=h;exact⟨b,h1,hle.1 b h2⟩) ?_ ?_
 ·intro D A g w' hDn hC hO hD;simp[gV,gN,dL,Act.eval,Region.binds]at hD;simp[go_sem,lg,Oper.wp,hD];have hM:=hC.ax5 hDn (by decide);exact fu.mk hM.1 hM.2 ⟨_,rfl,rfl⟩
 refine jh.some (λv g _=> ∃q,g.p=some q∧v=O7 (code.length+1) q) (λv g w g' w' hle h=>by obtain⟨q,h1,h2⟩:=h;exact⟨q,hle.2.2.1 q h1,h2⟩) ?_ ?_
 ·intro D A g w' hDn hC hO hD;simp[gV,gN,dL,Act.eval,Region.binds]at hD;obtain⟨⟨hs1,hh⟩,bb,hs2,hb⟩:=hD;simp only[lg,if_true];have hbl:=hC.pre (hC.rU hDn);obtain⟨aV7,XL⟩:=hC.row bb hb;have hown:=(HQ.o.below hbl).row;obtain⟨i0,hi0,hz0,hz1,hz2⟩:=wW ZM;refine wp_append_lies w' _ _ _ (by rfl) L.B1 56 i0 _ 6 48 Tryz.underlying47 hi0 hz0 hz1 hz2 (by rfl) (by omega) (.slice ao code.length cap) code.length (code.flatMap jI) (by simp[Act.eval,hs1]) hown ⟨bb,0,none⟩ 1 1 (jI {x with st:=a}) (by simp[Act.eval,hs2]) (by rfl) (gq XL) (aw4 _) (by decide) (by have:=HL.o;unfold maxLen;omega) (by have:=HL.o;omega) (HQ.o.below hbl).sz _ rfl ?_;intro g' cap' w5 hown5 hgr hmv jw;have hM:=hC.ax6 (q:=(g',cap')) (w':=w5) hDn (by decide) hb hh ⟨hown5,gY (CF hbl) hgr,by rcases hmv with h|h;exact .inl h;exact .inr (by rw[h];exact hbl.size)⟩ hgr.size (λk h1 h2=>hgr.block k h2 (λe=>by have:=HOW.o k e.symm;omega));exact fu.mk hM.1 hM.2 ⟨(g',cap'),rfl,rfl⟩
 simp only[bP];apply jh.step
 case aJ=>intro D A g w' hDn hC hO hD;simp[gV,gN,dL,Act.eval,Region.binds]at hD;simp[go_sem,lg,Oper.wp,hD];exact fu.mk (Ag.le_refl _ _ _) (hC.skip _ (by decide)) (gN.mk _ _ _)
 apply jh.step
 case aJ=>intro D A g w' hDn hC hO hD;simp[gV,gN,dL,Act.eval,Region.binds]at hD;simp[go_sem,lg,Oper.wp,hD];exact fu.mk (Ag.le_refl _ _ _) (hC.skip _ (by decide)) (gN.mk _ _ _)
 refine jh.some (λ_ _ _=>True) (λ_ _ _ _ _ _ _=>trivial) ?_ ?_
 ·intro D A g w' hDn hC hO hD;simp[gV,gN,dL,Act.eval,Region.binds]at hD;obtain⟨hs1,⟨qa,qc,hq,hs2⟩,-⟩:=hD;have hR:=hC.post (qa,qc) hq hDn;have hblk:=hR.2.1.block L.gb gB.o.2.2.1 (λe=>HGV.o e.symm);have z3:=(World.cell?_of_block (a:=⟨L.gb,7,none⟩) hblk).trans Tv.o;have f3:w'.frozen? ⟨L.gb,7,none⟩=false:=by rw[World.frozen?_of_block (a:=⟨L.gb,7,none⟩) hblk];exact bG HQ.o.blk
  unfold O7 at hs2;simp[go_sem,lg,Oper.wp,hs1,hs2,z3,f3];have hM:=hC.ax7 hDn hq gB.o.2.2.1 (by decide) (by decide);exact fu.yQ (v:=undef) hM.1 hM.2 trivial
 refine jh.done ?_;intro D g wz hD hC;simp only[J8,List.nil_append,List.cons_append,List.map_cons,List.map_nil];intro v0 h0 v1 h1 v2 h2 v3 h3 v4 h4 v5 h5 v6 h6 v7 h7 v8 h8 v9 h9 v10 h10;obtain⟨q,hq,rfl⟩:=h7;obtain⟨w5,hR,hW⟩:=hC.fin q hq (hD 10 (by simp));have HP:=ah (HI.o.push (wz:=wq) (w4:=w5) (g':=q.1) (cap':=q.2) {x with st:=a} HB.o hR.1 hR.2.1 hR.2.2);clear hC hD;refine jB ?_;go_simp;go_wp2_with fail;refine bodyPost_end (v:= .tuple #[]) (by simp[results,Tryz.results17,go_sem]) rfl ⟨rfl,?_⟩;exact⟨_,HP.o⟩
end Go.Proofs.YtkmllehjemjgpaaGreatDoor
