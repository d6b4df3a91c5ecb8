/- The checker's state as data, and the contract of its statement at every operator. And what hangs on it. -/
import Derived.Test.YtmildapbbcbbhaaGreatDoorGMG
import Derived.Deep.RegionWith
set_option linter.unusedSimpArgs false
set_option linter.unusedVariables false
set_option maxHeartbeats 40000000
set_option maxRecDepth 1000000
namespace Go.Proofs.YtmildapbbcbbhaaGreatDoor
open Go.RowKit
namespace Md
structure Fr where
 h:dD
 b:aY
 e:aY
 s:Sl
def dA:List Fr->aY
 | []=> .nil
 |x::r=> .cons x.h x.b x.e (dA r)
def pR (h:dD) (b e:aY) (s:Sl):List Value:=[.int .i64 h.op,.int .i64 h.line,.string h.nm,.string h.arg,.slice s.fQ h.idx.len s.eU,.int .i64 h.dN,.int .i64 h.xn,.string h.dJ,.slice s.fT h.bG.len s.eu,.slice s.dH b.len s.cu,.slice s.iC e.len s.gy]
def AQ:List Fr->List Value
 | []=>[]
 |x::r=>pR x.h x.b x.e x.s++AQ r
theorem Es: ∀A:List Fr,(AQ A).length=A.length*11
 | []=>rfl
 |x::r=>by simp only[AQ,ay,Es r,aA];simp[pR];omega
theorem Cj: ∀(A:List Fr) (x:Fr),AQ (A++[x])=AQ A++pR x.h x.b x.e x.s
 | [],x=>by simp[AQ]
 |y::r,x=>by simp[AQ,Cj r x]
theorem rH: ∀A:List Fr,(dA A).len=A.length
 | []=>rfl
 |x::r=>by simp[dA,aY.len,rH r]
def tL (w:World) (B:Nat) (h:dD) (b e:aY) (s:Sl):Prop:=vK h b e∧h.idx.At w B s.fQ 0∧h.bG.At w B s.fT 0∧b.At w B s.dH 0∧e.At w B s.iC 0
theorem tL.below {w w':World} {B:Nat} {h:dD} {b e:aY} {s:Sl} (hi:tL w B h b e s) (hb:Below B w w'):tL w' B h b e s:=
 ⟨hi.1,hi.2.1.below hb,hi.2.2.1.below hb,hi.2.2.2.1.below hb,hi.2.2.2.2.below hb⟩
theorem tL.use {w:World} {B:Nat} {h:dD} {b e:aY} {s:Sl} (hi:tL w B h b e s) (hb:B<=w.heap.size):DF w h b e s:=
 ⟨hi.1,hi.2.1.mono hb,hi.2.2.1.mono hb,hi.2.2.2.1.mono hb,hi.2.2.2.2.mono hb⟩
def YT (w:World) (B:Nat) (A:List Fr):Prop:= ∀x∈A,tL w B x.h x.b x.e x.s
theorem V8 {w:World} {B B' g:Nat} (hB:B<=B') (hg:g<B'): ∀(A:List Fr) (k:Nat),(∀j u,(AQ A)[j]? =some u->w.cell? ⟨g,k*11+j,none⟩=some u)->YT w B A->(dA A).At w B' (some ⟨g,0,none⟩) k
 | [],_,_,_=>trivial
 |x::r,k,hc,hin=>by
  have hx:=hin x (by simp);have c: ∀j u,(pR x.h x.b x.e x.s)[j]? =some u->w.cell? ⟨g,0+k*11+j,none⟩=some u:=λj u hu=>by rw[aU];refine hc j u ?_;have:j<(pR x.h x.b x.e x.s).length:=(List.getElem?_eq_some_iff.1 hu).1;rw[AQ,List.getElem?_append_left this];exact hu
  refine⟨⟨g,0,x.s.fQ,x.s.eU,x.s.fT,x.s.eu,x.s.dH,x.s.cu,x.s.iC,x.s.gy,rfl,hg,c 0 _ rfl,c 1 _ rfl,c 2 _ rfl,c 3 _ rfl,c 4 _ rfl,c 5 _ rfl,c 6 _ rfl,c 7 _ rfl,c 8 _ rfl,c 9 _ rfl,c 10 _ rfl,hx.1,hx.2.1.mono hB,hx.2.2.1.mono hB,hx.2.2.2.1.mono hB,hx.2.2.2.2.mono hB⟩,?_⟩;refine V8 hB hg r (k+1) (λj u hu=> ?_) (λy hy=>hin y (by simp[hy]));have:=hc (11+j) u (by rw[AQ,List.getElem?_append_right (by simp[pR])];simpa[pR]using hu);rw[show(k+1)*11+j=k*11+(11+j) by omega];exact this
def jk (p:Pr) (j:Nat) (tn fU:ByteArray) (ar:aY) (f g:List UInt8->Bool) (h:dD):Int:=
 if h.op==1 then Cg p j h else if h.op==2||h.op==3 then jW p j h.dN h.xn h.dJ h.bG else
 if h.op==4 then gu [dQ (mean p j h.nm) [4],nest (fF ar [7]||qV ar h.nm [4])]else
 if h.op==5||h.op==6 then gu [dQ (mean p j h.nm) [5],nest (fF ar [7]||qV ar h.nm [5,6])]else
 if h.op==7 then nest (fF ar [7])else if h.op==8 then nest (fF ar [7,8])else
 if h.op==9||h.op==10||h.op==11 then gu [dQ (mean p j h.nm) [6],nest ((fF ar [7]|| !qV ar (jY p.ds h.nm) [4])||(h.op==9&&fF ar [8]))]else
 if h.op==12 then gu [dQ (mean p j h.nm) [8],nest (fF ar [7,8,3]||(h.nm.toList==tn.toList||h.nm.toList==fU.toList)),(kY (f h.nm.toList))]else
 if h.op==13 then gu [dQ (mean p j h.nm) [8],nest (fF ar [7,8]||h.nm.toList==tn.toList)]else
 if h.op==14 then gu [dQ (mean p j h.nm) [7],nest (fF ar [7,3]),(kY (g h.nm.toList)),jW p j h.dN h.xn h.dJ h.bG]else
 if h.op==15 then gu [dQ (mean p j h.nm) [1],dQ (mean p j h.arg) [7],nest (fF ar [7])]else 0
end Md
open Md
def ckV (p:Pr) (aK aM:Option Addr) (aH aD:Nat) (i:Int) (v:Value) (bs bt:Nat):Array Value:= #[.slice aK p.ds.length aH,.slice aM p.ts.length aD,.int .i64 i,v,.map (some bs),.map (some bt)]
structure Lay where
 B0:Nat
 B1:Nat
 bc:Nat
 bs:Nat
 bt:Nat
 c0:B0<=bc
 s0:B0<=bs
 t0:B0<=bt
 c1:bc<B1
 s1:bs<B1
 t1:bt<B1
 cs:bc≠bs
 ct:bc≠bt
 st:bs≠bt
 kw:0<B0
def SE (w:World) (B0:Nat) (p:Pr) (aK aM:Option Addr):Prop:=p.ds.length<=maxLen∧p.ts.length<=maxLen∧jo w B0 p.ds aK 0∧iJ w B0 p.ts aM 0∧eG w
theorem SE.below {w w':World} {L:Lay} {p:Pr} {aK aM:Option Addr} (h:SE w L.B0 p aK aM) (hb:Below L.B0 w w'):SE w' L.B0 p aK aM:=
 ⟨h.1,h.2.1,h.2.2.1.below hb,h.2.2.2.1.below hb,h.2.2.2.2.below hb L.kw⟩
theorem SE.use {w:World} {B0:Nat} {p:Pr} {aK aM:Option Addr} (h:SE w B0 p aK aM) (hB:B0<=w.heap.size):p.At w aK aM:=⟨h.1,h.2.1,h.2.2.1.mono hB,h.2.2.2.1.mono hB⟩
structure Kp (L:Lay) (v:Value) (w w':World):Prop where
 os:w'.os=w.os
 tape:w'.tape=w.tape
 output:w'.output=w.output
 size:w.heap.size<=w'.heap.size
 block: ∀k,k<w.heap.size->k≠L.bc->k≠L.bs->k≠L.bt->v.ownBlock≠some k->w'.heap[k]? =w.heap[k]?
def Ae (w:World) (v v':Value):Prop:=v'.ownBlock=v.ownBlock∨∃g,v'.ownBlock=some g∧w.heap.size<=g
theorem Kp.refl (L:Lay) (v:Value) (w:World):Kp L v w w:=⟨rfl,rfl,rfl,aB _,λ_ _ _ _ _ _=>rfl⟩
theorem Kp.of_below {L:Lay} {v:Value} {w w':World} (h:Below w.heap.size w w'):Kp L v w w':=⟨h.os,h.tape,h.output,h.size,λk hk _ _ _ _=>h.block k hk⟩
theorem Kp.trans {L:Lay} {v v1:Value} {w w1 w2:World} (h:Kp L v w w1) (ho:Ae w v v1∨v1.ownBlock=none) (k:Kp L v1 w1 w2):Kp L v w w2:=
 ⟨k.os.trans h.os,k.tape.trans h.tape,k.output.trans h.output,aP h.size k.size,λj hj hc hs ht hv=>(k.block j (aG hj h.size) hc hs ht (by
   rcases ho with(e|⟨g,e,hg⟩)|e
   ·rw[e];exact hv
   ·rw[e];intro e';injection e' with e';omega
   ·rw[e];simp)).trans (h.block j hj hc hs ht hv)⟩
theorem Kp.below {L:Lay} {v:Value} {w w':World} (h:Kp L v w w') (hB:L.B0<=w.heap.size) (hv: ∀k,v.ownBlock=some k->L.B1<=k):Below L.B0 w w':=
 ⟨h.os,h.tape,h.output,h.size,λk hk=>h.block k (by omega) (by have:=L.c0;omega) (by have:=L.s0;omega) (by have:=L.t0;omega) (λe=>by have:=hv k e;have:=L.c0;have:=L.c1;omega)⟩
theorem Kp.far {L:Lay} {v:Value} {w w':World} {k:Nat} (h:Kp L v w w') (hk:k<w.heap.size) (hB:L.B1<=k) (hv:v.ownBlock≠some k):w'.heap[k]? =w.heap[k]?:=
 h.block k hk (by have:=L.c1;omega) (by have:=L.s1;omega) (by have:=L.t1;omega) hv
theorem Ae.trans {w w1:World} {v v1 v2:Value} (h:Ae w v v1) (k:Ae w1 v1 v2) (hs:w.heap.size<=w1.heap.size):Ae w v v2:=by
 rcases k with e|⟨g,e,hg⟩
 ·rcases h with e'|⟨g,e',hg⟩
  ·exact .inl (e.trans e')
  ·exact .inr ⟨g,e.trans e',hg⟩
 ·exact .inr ⟨g,e,aP hs hg⟩
theorem Ae.ne {w:World} {v v':Value} {k:Nat} (h:Ae w v v') (hk:k<w.heap.size) (hv:v.ownBlock≠some k):v'.ownBlock≠some k:=by
 rcases h with e|⟨g,e,hg⟩
 ·rw[e];exact hv
 ·rw[e];intro e';injection e' with e';omega
structure mY (w:World) (L:Lay) (p:Pr) (aK aM:Option Addr) (aH aD:Nat) (i:Int) (A:List Fr) (f g:List UInt8->Bool) (n m:Nat) (v:Value):Prop where
 blk:w.heap[L.bc]? =some (.cells (ckV p aK aM aH aD i v L.bs L.bt) 126 (0,0))
 row:w.ownsRow L.B1 62 11 v A.length (AQ A)
 ms:jF w L.bs n f
 mt:jF w L.bt m g
 sz:L.B1<=w.heap.size
 dat:SE w L.B0 p aK aM
 qg:YT w L.B0 A
section
variable {w:World} {L:Lay} {p:Pr} {aK aM:Option Addr} {aH aD:Nat} {i:Int} {A:List Fr} {f g:List UInt8->Bool} {n m:Nat} {v:Value}
theorem mY.b0 (h:mY w L p aK aM aH aD i A f g n m v):L.B0<=w.heap.size:=by have:=h.sz;have:=L.c0;have:=L.c1;omega
theorem mY.form (h:mY w L p aK aM aH aD i A f g n m v): ∃cK bQ,v= .slice cK A.length bQ∧(dA A).At w w.heap.size cK 0:=by
 rcases h.row.2 with⟨rfl,hn⟩|⟨g',cap,cur,rfl,hb,hg,h1,h2,h3,h4⟩
 ·have:A=[]:=List.eq_nil_of_length_eq_zero hn;subst this;exact⟨none,0,rfl,trivial⟩
 ·refine⟨_,_,rfl,V8 h.b0 (aO hg) A 0 (λj u hu=> ?_) h.qg⟩;rw[Nat.zero_mul,aU,cell_of_row w g' j cur _ (0,0) hg];rw[<- h4,List.getElem?_take]at hu;split at hu
  ·simpa using hu
  ·cases hu
theorem eY {w:World} {b j:Nat} {cs:Array Value} {t:TypeId} {fr:Nat×Nat} {u:Value} (h:w.heap[b]? =some (.cells cs t fr)) (hu:cs[j]? =some u):b<w.heap.size∧w.cell? ⟨b,j,none⟩=some u:=
 ⟨(aO h),by rw[cell_of_row w b j cs t fr h];exact hu⟩
theorem mY.holds {cK:Option Addr} {bQ:Nat} (h:mY w L p aK aM aH aD i A f g n m (.slice cK A.length bQ)):Holds w (um L.bc p aK aM aH aD i cK (dA A).len bQ L.bs L.bt):=by
 have hb:=h.blk;rw[rH];exact⟨eY hb (j:=0) rfl,eY hb (j:=1) rfl,eY hb (j:=2) rfl,eY hb (j:=3) rfl,eY hb (j:=4) rfl,eY hb (j:=5) rfl,trivial⟩
theorem mY.below {w':World} (h:mY w L p aK aM aH aD i A f g n m v) (hb:Below w.heap.size w w'):mY w' L p aK aM aH aD i A f g n m v where
 blk:=(hb.block _ (aO h.blk)).trans h.blk
 row:=h.row.kept (row:=none) ⟨hb.os,hb.tape,hb.output,hb.size,λk hk _=>hb.block k hk⟩ (by cases hv:v.ownBlock <;> simp)
 ms:=h.ms.next hb
 mt:=h.mt.next hb
 sz:=aP h.sz hb.size
 dat:=h.dat.below (hb.mono h.b0)
 qg:=λx hx=>(h.qg x hx).below (hb.mono h.b0)
theorem mY.own_ne (h:mY w L p aK aM aH aD i A f g n m v) {b:Nat} (hb:b<L.B1):v.ownBlock=none∨v.ownBlock≠some b:=by
 cases hv:v.ownBlock with
 |none=>exact .inl rfl
 |some k=>refine .inr (λe=> ?_);injection e with e;subst e;have:=(h.row.lt _ hv).1;omega
theorem mY.bv9 {w':World} {f':List UInt8->Bool} {n':Nat} (h:mY w L p aK aM aH aD i A f g n m v) (hg:w.grownBy w' (some L.bs)) (hm:jF w' L.bs n' f'):mY w' L p aK aM aH aD i A f' g n' m v:=by
 have hbel:=cZ hg L.s0 h.b0;exact {blk:=(hg.block _ (aO h.blk) (by simp;exact L.cs)).trans h.blk,row:=h.row.kept hg (h.own_ne L.s1),ms:=hm,mt:=h.mt.same (hg.block _ h.mt.lt (by simp;exact L.st.symm)),sz:=aP h.sz hg.size,dat:=h.dat.below hbel,qg:=λx hx=>(h.qg x hx).below hbel}
theorem mY.bw0 {w':World} {g':List UInt8->Bool} {m':Nat} (h:mY w L p aK aM aH aD i A f g n m v) (hg:w.grownBy w' (some L.bt)) (hm:jF w' L.bt m' g'):mY w' L p aK aM aH aD i A f g' n m' v:=by
 have hbel:=cZ hg L.t0 h.b0;exact {blk:=(hg.block _ (aO h.blk) (by simp;exact L.ct)).trans h.blk,row:=h.row.kept hg (h.own_ne L.t1),ms:=h.ms.same (hg.block _ h.ms.lt (by simp;exact L.st)),mt:=hm,sz:=aP h.sz hg.size,dat:=h.dat.below hbel,qg:=λx hx=>(h.qg x hx).below hbel}
end
def fS (h:dD) (f:List UInt8->Bool):List UInt8->Bool:=if h.op==12 then zu f h.nm.toList else f
def gS (h:dD) (g:List UInt8->Bool):List UInt8->Bool:=if h.op==14 then zu g h.nm.toList else g
def nS (k:Int) (h:dD) (n:Nat):Nat:=if h.op==k then n+1 else n
def yY (w:World) (L:Lay) (p:Pr) (aK aM:Option Addr) (aH aD:Nat) (i:Int) (A:List Fr) (h:dD) (f g:List UInt8->Bool) (n m:Nat) (v:Value) (r:Int) (e:Ending) (w':World):Prop:=
 e= .returned (.int .i64 r)∧Kp L (.slice none 0 0) w w'∧mY w' L p aK aM aH aD i A (fS h f) (gS h g) (nS 12 h n) (nS 14 h m) v
theorem yY.plain {w w':World} {L:Lay} {p:Pr} {aK aM:Option Addr} {aH aD:Nat} {i:Int} {A:List Fr} {h:dD} {f g:List UInt8->Bool} {n m:Nat} {v:Value} {r x:Int} {e:Ending}
 (hI:mY w L p aK aM aH aD i A f g n m v) (h12:(h.op==12)=false) (tN:(h.op==14)=false) (hr:r=x) (hp:e= .returned (.int .i64 x)∧Below w.heap.size w w'):yY w L p aK aM aH aD i A h f g n m v r e w':=by
 subst hr;refine⟨hp.1,Kp.of_below hp.2,?_⟩;unfold fS gS nS;rw[h12,tN];exact hI.below hp.2
theorem mY.grow {w w':World} {L:Lay} {p:Pr} {aK aM:Option Addr} {aH aD:Nat} {i:Int} {A:List Fr} {f g:List UInt8->Bool} {n m:Nat} {v:Value} {b:Nat}
 (h:mY w L p aK aM aH aD i A f g n m v) (hb:L.B0<=b) (hb1:b<L.B1) (hg:w.grownBy w' (some b)):p.At w' aK aM∧eG w'∧∀cK bQ,v= .slice cK A.length bQ->(dA A).At w' w'.heap.size cK 0:=by
 have hbel:=cZ hg hb h.b0;have hd:=h.dat.below hbel;have hB:L.B0<=w'.heap.size:=aP h.b0 hg.size;refine⟨hd.use hB,hd.2.2.2.2,λcK bQ hv=> ?_⟩;rcases(h.row.kept hg (h.own_ne hb1)).2 with⟨e,hn⟩|⟨g',cap,cur,e,hbb,hgg,h1,h2,h3,h4⟩
 ·have:A=[]:=List.eq_nil_of_length_eq_zero hn;subst this;exact trivial
 ·rw[hv]at e;injection e with e1 e2 e3;subst e1;refine V8 hB (aO hgg) A 0 (λj u hu=> ?_) (λx hx=>(h.qg x hx).below hbel);rw[Nat.zero_mul,aU,cell_of_row w' g' j cur _ (0,0) hgg];rw[<- h4,List.getElem?_take]at hu;split at hu
  ·simpa using hu
  ·cases hu
theorem UQ (w:World) (L:Lay) (p:Pr) (aK aM:Option Addr) (aH aD:Nat) (j:Nat) (A:List Fr) (f g:List UInt8->Bool) (n m:Nat) (v:Value) (t t0:Th) (r r0:List Th) (hd:p.ts.drop j=t::r) (hts:p.ts=t0::r0) (hj:bW (j:Int)) (hA:A.length<=maxLen) (hn:n<maxLen) (hm:m<maxLen)
 (hI:mY w L p aK aM aH aD (j:Int) A f g n m v) (h:dD) (b e:aY) (s:Sl) (hin:tL w L.B0 h b e s):
 Calls Tryz.prog 89 #[.pointer (some ⟨L.bc,0,none⟩),iy h b e s] w (yY w L p aK aM aH aD (j:Int) A h f g n m v (jk p j t.nm t0.nm (dA A) f g h)):=by
 obtain⟨cK,bQ,rfl,hat⟩:=hI.form;have hp:=hI.dat.use hI.b0;have hin':=hin.use hI.b0;have eH:=hI.dat.2.2.2.2;have hal:(dA A).len<=maxLen:=by rw[rH];exact hA
 have hh:=hI.holds;by_cases h0:h.op<1∨15<h.op
 ·refine(qR p w aK aM aH aD j cK bQ L.bs L.bt L.bc h b e (dA A) s hj hp hin' eH hal hat hh (.inl ⟨h0,rfl⟩)).mono (λe' w' hr=>yY.plain hI ?_ ?_ ?_ hr)
  ·rw[beq_eq_false_iff_ne];omega
  ·rw[beq_eq_false_iff_ne];omega
  ·have hb: ∀k:Int,1<=k->k<=15->(h.op==k)=false:=λk h1 h2=>by rw[beq_eq_false_iff_ne];omega
   unfold jk;simp[hb]
 ·have hc:h.op=1∨(h.op=2∨h.op=3)∨h.op=4∨(h.op=5∨h.op=6)∨h.op=7∨h.op=8∨(h.op=9∨h.op=10∨h.op=11)∨h.op=12∨h.op=13∨h.op=14∨h.op=15:=by omega
  rcases hc with hc|hc|hc|hc|hc|hc|hc|hc|hc|hc|hc
  ·exact(qR p w aK aM aH aD j cK bQ L.bs L.bt L.bc h b e (dA A) s hj hp hin' eH hal hat hh (.inr (.inl ⟨hc,rfl⟩))).mono (λe' w' hr=>yY.plain hI (by rw[hc];rfl) (by rw[hc];rfl) (by unfold jk;simp[hc]) hr)
  ·exact(qR p w aK aM aH aD j cK bQ L.bs L.bt L.bc h b e (dA A) s hj hp hin' eH hal hat hh (.inr (.inr (.inl ⟨hc,rfl⟩)))).mono (λe' w' hr=>yY.plain hI (by rcases hc with hc|hc <;> (rw[hc];rfl)) (by rcases hc with hc|hc <;> (rw[hc];rfl)) (by unfold jk;rcases hc with hc|hc <;> simp[hc]) hr)
  ·exact(qR p w aK aM aH aD j cK bQ L.bs L.bt L.bc h b e (dA A) s hj hp hin' eH hal hat hh (.inr (.inr (.inr (.inl ⟨hc,rfl⟩))))).mono (λe' w' hr=>yY.plain hI (by rw[hc];rfl) (by rw[hc];rfl) (by unfold jk;simp[hc]) hr)
  ·exact(qR p w aK aM aH aD j cK bQ L.bs L.bt L.bc h b e (dA A) s hj hp hin' eH hal hat hh (.inr (.inr (.inr (.inr (.inl ⟨hc,rfl⟩)))))).mono (λe' w' hr=>yY.plain hI (by rcases hc with hc|hc <;> (rw[hc];rfl)) (by rcases hc with hc|hc <;> (rw[hc];rfl)) (by unfold jk;rcases hc with hc|hc <;> simp[hc]) hr)
  ·exact(qR p w aK aM aH aD j cK bQ L.bs L.bt L.bc h b e (dA A) s hj hp hin' eH hal hat hh (.inr (.inr (.inr (.inr (.inr (.inl ⟨hc,rfl⟩))))))).mono (λe' w' hr=>yY.plain hI (by rw[hc];rfl) (by rw[hc];rfl) (by unfold jk;simp[hc]) hr)
  ·exact(qR p w aK aM aH aD j cK bQ L.bs L.bt L.bc h b e (dA A) s hj hp hin' eH hal hat hh (.inr (.inr (.inr (.inr (.inr (.inr (.inl ⟨hc,rfl⟩)))))))).mono (λe' w' hr=>yY.plain hI (by rw[hc];rfl) (by rw[hc];rfl) (by unfold jk;simp[hc]) hr)
  ·exact(qR p w aK aM aH aD j cK bQ L.bs L.bt L.bc h b e (dA A) s hj hp hin' eH hal hat hh (.inr (.inr (.inr (.inr (.inr (.inr (.inr (.inl ⟨hc,rfl⟩))))))))).mono (λe' w' hr=>yY.plain hI (by rcases hc with hc|hc|hc <;> (rw[hc];rfl)) (by rcases hc with hc|hc|hc <;> (rw[hc];rfl)) (by unfold jk;rcases hc with hc|hc|hc <;> simp[hc]) hr)
  ·have hcl:=λw' (hg:w.grownBy w' (some L.bs))=>hI.grow L.s0 L.s1 hg;refine(ZC p w aK aM aH aD cK bQ L.bs L.bt L.bc j t t0 r r0 hd hts h b e (dA A) s hj (λw' hg=>(hcl w' hg).1) hin.1 (λw' hg=>(hin.2.2.1.below (cZ hg L.s0 hI.b0)).mono (aP hI.b0 hg.size)) (λw' hg=>(hcl w' hg).2.1) hal (λw' hg=>(hcl w' hg).2.2 _ _ rfl) hh L.cs n f hn hI.ms hc).mono ?_;rintro e' w' ⟨h1,h2,h3⟩;refine⟨by rw[h1];unfold jk;simp[hc],⟨h3.os,h3.tape,h3.output,h3.size,λk hk _ hs _ _=>h3.block k hk (by simp;exact hs)⟩,?_⟩;unfold fS gS nS;rw[hc];exact hI.bv9 h3 h2
  ·exact(qR p w aK aM aH aD j cK bQ L.bs L.bt L.bc h b e (dA A) s hj hp hin' eH hal hat hh (.inr (.inr (.inr (.inr (.inr (.inr (.inr (.inr (.inr ⟨hc,j,t,r,rfl,hd,rfl⟩)))))))))).mono (λe' w' hr=>yY.plain hI (by rw[hc];rfl) (by rw[hc];rfl) (by unfold jk;simp[hc]) hr)
  ·have hcl:=λw' (hg:w.grownBy w' (some L.bt))=>hI.grow L.t0 L.t1 hg;refine(ZE p w aK aM aH aD j cK bQ L.bs L.bt L.bc h b e (dA A) s hj (λw' hg=>(hcl w' hg).1) hin.1 (λw' hg=>(hin.2.2.1.below (cZ hg L.t0 hI.b0)).mono (aP hI.b0 hg.size)) (λw' hg=>(hcl w' hg).2.1) hal (λw' hg=>(hcl w' hg).2.2 _ _ rfl) hh L.ct m g hm hI.mt hc).mono ?_;rintro e' w' ⟨h1,h2,h3⟩;refine⟨by rw[h1];unfold jk;simp[hc],⟨h3.os,h3.tape,h3.output,h3.size,λk hk _ _ ht _=>h3.block k hk (by simp;exact ht)⟩,?_⟩;unfold fS gS nS;rw[hc];exact hI.bw0 h3 h2
  ·exact(qR p w aK aM aH aD j cK bQ L.bs L.bt L.bc h b e (dA A) s hj hp hin' eH hal hat hh (.inr (.inr (.inr (.inr (.inr (.inr (.inr (.inr (.inl ⟨hc,rfl⟩)))))))))).mono (λe' w' hr=>yY.plain hI (by rw[hc];rfl) (by rw[hc];rfl) (by unfold jk;simp[hc]) hr)
namespace Md
def aY.app:aY->aY->aY
 | .nil,s=>s
 | .cons h b e r,s=> .cons h b e (r.app s)
theorem zm: ∀(A:List Fr) (x:Fr),dA (A++[x])=(dA A).app (.cons x.h x.b x.e .nil)
 | [],_=>rfl
 |y::r,x=>by simp only[List.cons_append,dA,aY.app,zm r x]
structure ME where
 err:Int
 line:Int
 f:List (List UInt8)
 g:List (List UInt8)
def mem (l:List (List UInt8)):List UInt8->Bool:=λx=>l.contains x
def fL (k:Int) (h:dD) (f:List (List UInt8)):List (List UInt8):=if h.op==k then h.nm.toList::f else f
def gK (p:Pr) (j:Nat) (tn fU:ByteArray):aY->aY->List (List UInt8)->List (List UInt8)->ME
 | .nil,_,f,g=>⟨0,0,f,g⟩
 | .cons h b e r,ar,f,g=>
   if decide (6<ar.len+1)then⟨2,h.line,f,g⟩else
   if jk p j tn fU ar (mem f) (mem g) h != 0 then⟨jk p j tn fU ar (mem f) (mem g) h,h.line,f,g⟩else
   if(gK p j tn fU b (ar.app (.cons h b e .nil)) (fL 12 h f) (fL 14 h g)).err != 0 then gK p j tn fU b (ar.app (.cons h b e .nil)) (fL 12 h f) (fL 14 h g)else
   if(gK p j tn fU e (ar.app (.cons h b e .nil)) (gK p j tn fU b (ar.app (.cons h b e .nil)) (fL 12 h f) (fL 14 h g)).f (gK p j tn fU b (ar.app (.cons h b e .nil)) (fL 12 h f) (fL 14 h g)).g).err != 0 then
    gK p j tn fU e (ar.app (.cons h b e .nil)) (gK p j tn fU b (ar.app (.cons h b e .nil)) (fL 12 h f) (fL 14 h g)).f (gK p j tn fU b (ar.app (.cons h b e .nil)) (fL 12 h f) (fL 14 h g)).g else
   gK p j tn fU r ar (gK p j tn fU e (ar.app (.cons h b e .nil)) (gK p j tn fU b (ar.app (.cons h b e .nil)) (fL 12 h f) (fL 14 h g)).f (gK p j tn fU b (ar.app (.cons h b e .nil)) (fL 12 h f) (fL 14 h g)).g).f
    (gK p j tn fU e (ar.app (.cons h b e .nil)) (gK p j tn fU b (ar.app (.cons h b e .nil)) (fL 12 h f) (fL 14 h g)).f (gK p j tn fU b (ar.app (.cons h b e .nil)) (fL 12 h f) (fL 14 h g)).g).g
def ny (ns:List (List UInt8)) (f:List (List UInt8)):Prop:=f.Nodup∧∀x∈f,x∈ns
theorem ny.le {ns f:List (List UInt8)} (h:ny ns f):f.length<=ns.length:=h.1.length_le_of_subset (λ_ hx=>h.2 _ hx)
def kS (p:Pr):List (List UInt8):=p.ts.map λt=>t.nm.toList
def lF (p:Pr):List (List UInt8):=p.ds.map λd=>d.nm.toList
theorem kg: ∀ {l:List Int},gu l=0->∀x∈l,x=0
 | [],_,_,h=>by simp at h
 |a::r,h,x,hx=>by
  unfold gu at h;by_cases ha:(a != 0)=true
  ·rw[if_pos ha]at h;subst h;simp at ha
  ·rw[if_neg ha]at h;have ha':a=0:=by simpa using ha
   rcases List.mem_cons.1 hx with rfl|hx
   ·exact ha'
   ·exact kg h x hx
theorem sF {m k:Int} (h:dQ m [k]=0):m=k:=by
 unfold dQ at h;by_cases h0:(m==0)=true
 ·rw[if_pos h0]at h;simp at h
 ·rw[if_neg h0]at h;by_cases h1:([k].any λx=>m==x)=true
  ·simpa using h1
  ·rw[if_neg h1]at h;simp at h
theorem Lb {b:Bool} (h:kY b=0):b=false:=by cases b <;> simp[kY]at h⊢
theorem J6 {p:Pr} {j:Int} {nm:ByteArray} (h:mean p j nm=8):nm.toList∈kS p:=by
 unfold mean at h;split at h
 ·cases h
 ·cases hd:nT p.ds nm with
  |some m=>
   rw[hd]at h;unfold nT at hd;obtain⟨d,-,hm⟩:=Option.map_eq_some_iff.1 hd;exfalso
   have:gI d≠8:=by unfold gI;repeat' split
                   all_goals decide
   rw[hm]at this;exact this h
  |none=>
   rw[hd]at h;simp only[Option.getD_none]at h;unfold qL at h;split at h
   ·rename_i ha;obtain⟨t,ht,he⟩:=List.any_eq_true.1 ha;unfold kS;exact List.mem_map.2 ⟨t,ht,by simpa using he⟩
   ·cases h
theorem RD {p:Pr} {j:Int} {nm:ByteArray} (h:mean p j nm=7):nm.toList∈lF p:=by
 unfold mean at h;split at h
 ·cases h
 ·cases hd:nT p.ds nm with
  |some m=>unfold nT at hd;obtain⟨d,hf,-⟩:=Option.map_eq_some_iff.1 hd;unfold lF;exact List.mem_map.2 ⟨d,List.mem_of_find?_eq_some hf,by simpa using List.find?_some hf⟩
  |none=>rw[hd]at h;simp only[Option.getD_none]at h;unfold qL at h;split at h <;> cases h
theorem al6 {p:Pr} {j:Nat} {tn fU:ByteArray} {ar:aY} {f g:List (List UInt8)} {h:dD} (hf:ny (kS p) f) (h0:jk p j tn fU ar (mem f) (mem g) h=0):ny (kS p) (fL 12 h f):=by
 unfold fL;by_cases h12:(h.op==12)=true
 ·rw[if_pos h12];have e:h.op=12:=by simpa using h12
  have hs:jk p j tn fU ar (mem f) (mem g) h=gu [dQ (mean p j h.nm) [8],nest (fF ar [7,8,3]||(h.nm.toList==tn.toList||h.nm.toList==fU.toList)),(kY (mem f h.nm.toList))]:=by unfold jk;simp[e]
  rw[hs]at h0;have h1:=kg h0 _ (by simp:dQ (mean p j h.nm) [8]∈_);have h2:=kg h0 _ (by simp:kY (mem f h.nm.toList)∈_);refine⟨List.nodup_cons.2 ⟨?_,hf.1⟩,λx hx=> ?_⟩
  ·have:=Lb h2;unfold mem at this;simpa using this
  ·rcases List.mem_cons.1 hx with rfl|hx
   ·exact J6 (sF h1)
   ·exact hf.2 x hx
 ·rw[if_neg h12];exact hf
theorem al7 {p:Pr} {j:Nat} {tn fU:ByteArray} {ar:aY} {f g:List (List UInt8)} {h:dD} (hf:ny (lF p) g) (h0:jk p j tn fU ar (mem f) (mem g) h=0):ny (lF p) (fL 14 h g):=by
 unfold fL;by_cases h12:(h.op==14)=true
 ·rw[if_pos h12];have e:h.op=14:=by simpa using h12
  have hs:jk p j tn fU ar (mem f) (mem g) h=gu [dQ (mean p j h.nm) [7],nest (fF ar [7,3]),(kY (mem g h.nm.toList)),jW p j h.dN h.xn h.dJ h.bG]:=by unfold jk;simp[e]
  rw[hs]at h0;have h1:=kg h0 _ (by simp:dQ (mean p j h.nm) [7]∈_);have h2:=kg h0 _ (by simp:kY (mem g h.nm.toList)∈_);refine⟨List.nodup_cons.2 ⟨?_,hf.1⟩,λx hx=> ?_⟩
  ·have:=Lb h2;unfold mem at this;simpa using this
  ·rcases List.mem_cons.1 hx with rfl|hx
   ·exact RD (sF h1)
   ·exact hf.2 x hx
 ·rw[if_neg h12];exact hf
end Md
theorem mem_cons (x:List UInt8) (f:List (List UInt8)):zu (mem f) x=mem (x::f):=by
 funext y;unfold zu mem;by_cases h:y=x
 ·subst h;simp
 ·rw[if_neg h];simp[h]
theorem aG6 (h:dD) (f:List (List UInt8)):fS h (mem f)=mem (fL 12 h f):=by
 unfold fS fL;cases h.op==12 <;> simp[mem_cons]
theorem aH3 (h:dD) (f:List (List UInt8)):gS h (mem f)=mem (fL 14 h f):=by
 unfold gS fL;cases h.op==14 <;> simp[mem_cons]
theorem XR (k:Int) (h:dD) (f:List (List UInt8)):nS k h f.length=(fL k h f).length:=by
 unfold nS fL;cases h.op==k <;> simp
theorem QV (w:World) {a a':Addr} (v v':Value) (h:a.block≠a'.block):(w.setCell a v).setCell a' v'=(w.setCell a' v').setCell a v:=by
 unfold World.setCell;congr 1;refine Array.ext_getElem? (λk=> ?_);simp only[Array.getElem?_modify];by_cases h1:a'.block=k
 ·by_cases h2:a.block=k
  ·exact(h (h2.trans h1.symm)).elim
  ·simp[h1,h2]
 ·by_cases h2:a.block=k <;> simp[h1,h2]
theorem FJ {b:Nat} {a':Addr} (v':Value) (h:b≠a'.block): ∀(vs:List Value) (o:Nat) (w:World),(w.setCell a' v').setCells b o vs=(w.setCells b o vs).setCell a' v'
 | [],_,_=>rfl
 |v::vs,o,w=>by simp only[World.setCells];rw[<- QV w (a:=⟨b,o,none⟩) (a':=a') v v' h];exact FJ v' h vs (o+1) _
def PC (w4:World) (g o:Nat) (vs:List Value) (a:Addr) (v:Value):List Bool->World->Prop
 | [x,y],w'=>w'=(if y then(if x then w4.setCells g o vs else w4).setCell a v else(if x then w4.setCells g o vs else w4))
 |_,_=>False
theorem PC.bits {w4:World} {g o:Nat} {vs:List Value} {a:Addr} {v:Value} : ∀ {c:List Bool} {w':World},PC w4 g o vs a v c w'->∃x y,c=[x,y]
 | [x,y],_,_=>⟨x,y,rfl⟩
 | [],_,h=>h.elim
 | [_],_,h=>h.elim
 |_::_::_::_,_,h=>h.elim
theorem PC.skip {w4:World} {g o:Nat} {vs:List Value} {a:Addr} {v:Value} {a1 a2 i:Nat} {c:List Bool} {w':World} (h1:(a1==i)=false) (h2:(a2==i)=false) (h:PC w4 g o vs a v c w'):PC w4 g o vs a v (jw [a1,a2] c i) w':=by
 obtain⟨x,y,rfl⟩:=h.bits;simp only[jw,h1,h2,Bool.or_false];exact h
theorem PC.elt {w4:World} {g o:Nat} {vs:List Value} {a:Addr} {v:Value} {a1 a2 i:Nat} {y:Bool} {w':World} (hg:g≠a.block) (h1:(a1==i)=true) (h2:(a2==i)=false) (h:PC w4 g o vs a v [false,y] w'):PC w4 g o vs a v (jw [a1,a2] [false,y] i) (w'.setCells g o vs):=by
 simp only[jw,h1,h2,Bool.or_false,Bool.or_true];cases y
 ·have h:w'=w4:=h;subst h;rfl
 ·have h:w'=w4.setCell a v:=h;subst h;exact FJ v hg vs o w4
theorem PC.fld {w4:World} {g o:Nat} {vs:List Value} {a:Addr} {v:Value} {a1 a2 i:Nat} {x:Bool} {w':World} (h1:(a1==i)=false) (h2:(a2==i)=true) (h:PC w4 g o vs a v [x,false] w'):PC w4 g o vs a v (jw [a1,a2] [x,false] i) (w'.setCell a v):=by
 simp only[jw,h1,h2,Bool.or_false,Bool.or_true];cases x
 ·have h:w'=w4:=h;subst h;rfl
 ·have h:w'=w4.setCells g o vs:=h;subst h;rfl
theorem PC.Tc {w4:World} {g o:Nat} {vs:List Value} {a:Addr} {v:Value} {y:Bool} {w':World} (hg:g≠a.block) (h:PC w4 g o vs a v [false,y] w'):w'.heap[g]? =w4.heap[g]?:=by
 cases y
 ·have h:w'=w4:=h;rw[h]
 ·have h:w'=w4.setCell a v:=h;rw[h];exact bf w4 a v rfl (λe=>hg e.symm)
theorem PC.Tg {w4:World} {g o:Nat} {vs:List Value} {a:Addr} {v:Value} {x:Bool} {w':World} (hg:g≠a.block) (h:PC w4 g o vs a v [x,false] w') (hl:a.block<w4.heap.size):w'.heap[a.block]? =w4.heap[a.block]?:=by
 cases x
 ·have h:w'=w4:=h;rw[h]
 ·have h:w'=w4.setCells g o vs:=h;rw[h];exact(dX g vs o w4).block _ hl (by simp;exact λe=>hg e.symm)
section
variable {w:World} {L:Lay} {p:Pr} {aK aM:Option Addr} {aH aD:Nat} {i:Int} {A:List Fr} {f g:List UInt8->Bool} {n m:Nat} {v:Value}
theorem mY.push {wz w4:World} {g' cap':Nat} {zs:List Value} (h:mY w L p aK aM aH aD i A f g n m v) (x:Fr) (hx:tL w L.B0 x.h x.b x.e x.s) (hb:Below w.heap.size w wz) (hown:w4.ownsRow L.B1 62 11 (.slice (some ⟨g',0,none⟩) (A.length+1) cap') (A.length+1) (AQ A++zs)) (hgr:wz.grownBy w4 v.ownBlock) (hat:v.ownBlock=some g'∨g'=wz.heap.size):
 mY ((w4.setCells g' (A.length*11) (pR x.h x.b x.e x.s)).setCell ⟨L.bc,3,none⟩ (.slice (some ⟨g',0,none⟩) (A.length+1) cap')) L p aK aM aH aD i (A++[x]) f g n m (.slice (some ⟨g',0,none⟩) (A.length+1) cap')∧
 Kp L v w ((w4.setCells g' (A.length*11) (pR x.h x.b x.e x.s)).setCell ⟨L.bc,3,none⟩ (.slice (some ⟨g',0,none⟩) (A.length+1) cap'))∧Ae w v (.slice (some ⟨g',0,none⟩) (A.length+1) cap'):=by
 have hg1:=(hown.lt g' rfl).1;have hg2:=(hown.lt g' rfl).2;have hc1:=L.c1;have hs1:=L.s1;have ht1:=L.t1;have hput:=QN (vs:=pR x.h x.b x.e x.s) hown (Es A) rfl;generalize hw5:w4.setCells g' (A.length*11) (pR x.h x.b x.e x.s)=w5 at *;have hgw:w4.grownBy w5 (some g'):=by rw[<- hw5];exact dX _ _ _ _
 have hgz:=bY w5 ⟨L.bc,3,none⟩ (.slice (some ⟨g',0,none⟩) (A.length+1) cap');have hsz:w.heap.size<=w4.heap.size:=aP hb.size hgr.size;have hlow: ∀k,k<w.heap.size->v.ownBlock≠some k->w5.heap[k]? =w.heap[k]?:=λk hk hv=>by
  have hkg:k≠g':=by
   rcases hat with e|e
   ·intro e';exact hv (by rw[e,e'])
   ·have:=hb.size;omega
  rw[hgw.block k (by omega) (by simp;exact hkg),hgr.block k (aG hk hb.size) (λe=>hv e.symm),hb.block k hk]
 have hlow': ∀k,k<L.B1->w5.heap[k]? =w.heap[k]?:=λk hk=>hlow k (aG hk h.sz) (λe=>by have:=(h.row.lt k e).1;omega);have hkp:Kp L v w (w5.setCell ⟨L.bc,3,none⟩ (.slice (some ⟨g',0,none⟩) (A.length+1) cap')):=
  ⟨hgz.os.trans (hgw.os.trans (hgr.os.trans hb.os)),hgz.tape.trans (hgw.tape.trans (hgr.tape.trans hb.tape)),hgz.output.trans (hgw.output.trans (hgr.output.trans hb.output)),aP hsz (aP hgw.size hgz.size),λk hk hc _ _ hv=>
   (hgz.block k (aG hk (aP hsz hgw.size)) (by simp;exact hc)).trans (hlow k hk hv)⟩
 have hbel:=hkp.below h.b0 (λk e=>(h.row.lt k e).1);have EU: ∀k,k<L.B1->k≠L.bc->(w5.setCell ⟨L.bc,3,none⟩ (.slice (some ⟨g',0,none⟩) (A.length+1) cap')).heap[k]? =w.heap[k]?:=λk hk hc=>by rw[bf w5 ⟨L.bc,3,none⟩ _ rfl (λe=>hc e.symm)];exact hlow' k hk
 refine⟨?_,hkp,?_⟩
 ·refine {blk:= ?_,row:= ?_,ms:=h.ms.same (EU _ hs1 (λe=>L.cs e.symm)),mt:=h.mt.same (EU _ ht1 (λe=>L.ct e.symm)),sz:= ?_,dat:=h.dat.below hbel,qg:= ?_}
  ·exact dh ((hlow' _ hc1).trans h.blk) _
  ·rw[ay,Cj];refine hput.kept hgz (.inr ?_);simp[Value.ownBlock];omega
  ·exact aP h.sz hkp.size
  ·intro y hy;rcases List.mem_append.1 hy with hy|hy
   ·exact(h.qg y hy).below hbel
   ·obtain rfl:=List.mem_singleton.1 hy;exact hx.below hbel
 ·rcases hat with e|e
  ·exact .inl (by rw[e];rfl)
  ·exact .inr ⟨g',rfl,by rw[e];exact hb.size⟩
theorem mY.pop {wz:World} {g' cap':Nat} (x:Fr) (h:mY w L p aK aM aH aD i (A++[x]) f g n m (.slice (some ⟨g',0,none⟩) (A.length+1) cap')) (hb:Below w.heap.size w wz):
 mY (wz.setCell ⟨L.bc,3,none⟩ (.slice (some ⟨g',0,none⟩) A.length cap')) L p aK aM aH aD i A f g n m (.slice (some ⟨g',0,none⟩) A.length cap')∧
 Kp L (.slice (some ⟨g',0,none⟩) (A.length+1) cap') w (wz.setCell ⟨L.bc,3,none⟩ (.slice (some ⟨g',0,none⟩) A.length cap')):=by
 have hI:=h.below hb;have hc1:=L.c1;have hgz:=bY wz ⟨L.bc,3,none⟩ (.slice (some ⟨g',0,none⟩) A.length cap');have hkp:Kp L (.slice (some ⟨g',0,none⟩) (A.length+1) cap') w (wz.setCell ⟨L.bc,3,none⟩ (.slice (some ⟨g',0,none⟩) A.length cap')):=
  ⟨hgz.os.trans hb.os,hgz.tape.trans hb.tape,hgz.output.trans hb.output,aP hb.size hgz.size,λk hk hc _ _ _=>(hgz.block k (aG hk hb.size) (by simp;exact hc)).trans (hb.block k hk)⟩
 have hbel:Below L.B0 wz (wz.setCell ⟨L.bc,3,none⟩ (.slice (some ⟨g',0,none⟩) A.length cap')):=cZ hgz L.c0 hI.b0;have hrow:=hI.row;rw[ay,Cj]at hrow;have hg1:=(hrow.lt g' rfl).1;refine⟨{blk:=dh hI.blk _,row:=(NQ hrow (Es A)).kept hgz (.inr (by simp[Value.ownBlock];omega)),ms:=hI.ms.same (bf wz _ _ rfl L.cs),mt:=hI.mt.same (bf wz _ _ rfl L.ct),sz:=aP hI.sz hgz.size,dat:=hI.dat.below hbel,qg:=λy hy=>(hI.qg y (by simp[hy])).below hbel},hkp⟩
end
theorem aY.At.am7 {w:World} {B:Nat} {h:dD} {b e r:aY} {ao:Option Addr} {k:Nat} (hat:(aY.cons h b e r).At w B ao k): ∃bl off s,ao=some ⟨bl,off,none⟩∧bl<B∧tL w B h b e s∧
 w.cell? ⟨bl,off+k*11,none⟩=some (.int .i64 h.op)∧w.cell? ⟨bl,off+k*11+1,none⟩=some (.int .i64 h.line)∧w.cell? ⟨bl,off+k*11+2,none⟩=some (.string h.nm)∧w.cell? ⟨bl,off+k*11+3,none⟩=some (.string h.arg)∧w.cell? ⟨bl,off+k*11+4,none⟩=some (.slice s.fQ h.idx.len s.eU)∧
 w.cell? ⟨bl,off+k*11+5,none⟩=some (.int .i64 h.dN)∧w.cell? ⟨bl,off+k*11+6,none⟩=some (.int .i64 h.xn)∧w.cell? ⟨bl,off+k*11+7,none⟩=some (.string h.dJ)∧w.cell? ⟨bl,off+k*11+8,none⟩=some (.slice s.fT h.bG.len s.eu)∧
 w.cell? ⟨bl,off+k*11+9,none⟩=some (.slice s.dH b.len s.cu)∧w.cell? ⟨bl,off+k*11+10,none⟩=some (.slice s.iC e.len s.gy)∧r.At w B ao (k+1):=by
 obtain⟨⟨b,off,fQ,eU,fT,eu,dH,cu,iC,gy,e,hB,c0,c1,c2,c3,c4,c5,c6,c7,c8,c9,c10,hok,h1,h2,h3,h4⟩,hr⟩:=hat;exact⟨b,off,⟨fQ,eU,fT,eu,dH,cu,iC,gy⟩,e,hB,⟨hok,h1,h2,h3,h4⟩,c0,c1,c2,c3,c4,c5,c6,c7,c8,c9,c10,hr⟩
theorem PW {w:World} {nb:Nat} {h:dD} {b e:aY} {s:Sl} {t:TypeId} {fr:Nat×Nat} (hb:w.heap[nb]? =some (.cells (pR h b e s).toArray t fr)):w.cell? ⟨nb,0,none⟩=some (.int .i64 h.op)∧w.cell? ⟨nb,1,none⟩=some (.int .i64 h.line)∧w.cell? ⟨nb,2,none⟩=some (.string h.nm)∧w.cell? ⟨nb,3,none⟩=some (.string h.arg)∧w.cell? ⟨nb,4,none⟩=some (.slice s.fQ h.idx.len s.eU)∧w.cell? ⟨nb,5,none⟩=some (.int .i64 h.dN)∧w.cell? ⟨nb,6,none⟩=some (.int .i64 h.xn)∧w.cell? ⟨nb,7,none⟩=some (.string h.dJ)∧w.cell? ⟨nb,8,none⟩=some (.slice s.fT h.bG.len s.eu)∧w.cell? ⟨nb,9,none⟩=some (.slice s.dH b.len s.cu)∧w.cell? ⟨nb,10,none⟩=some (.slice s.iC e.len s.gy):=
 ⟨(eY hb (j:=0) rfl).2,(eY hb (j:=1) rfl).2,(eY hb (j:=2) rfl).2,(eY hb (j:=3) rfl).2,(eY hb (j:=4) rfl).2,(eY hb (j:=5) rfl).2,(eY hb (j:=6) rfl).2,(eY hb (j:=7) rfl).2,(eY hb (j:=8) rfl).2,(eY hb (j:=9) rfl).2,(eY hb (j:=10) rfl).2⟩
theorem qC {x y a b:Value} (h1:x=a) (h2:y=b):Ending.returned (.tuple #[x,y])= .returned (.tuple #[a,b]):=by rw[h1,h2]
theorem as6:(Tryz.prog.info? 62).map (λi=>(i.zero,i.size,i.bytes))=some (some (.agg #[.int .i64 0,.int .i64 0,.string ⟨#[]⟩,.string ⟨#[]⟩,.slice none 0 0,.int .i64 0,.int .i64 0,.string ⟨#[]⟩,.slice none 0 0,.slice none 0 0,.slice none 0 0]),11,176):=by kernel_rfl
def YQ:Array Value:= #[.int .i64 0,.int .i64 0,.string ⟨#[]⟩,.string ⟨#[]⟩,.slice none 0 0,.int .i64 0,.int .i64 0,.string ⟨#[]⟩,.slice none 0 0,.slice none 0 0,.slice none 0 0]
theorem Ud: ∃i0,Tryz.prog.info? 62=some i0∧i0.zero=some (.agg YQ)∧i0.size=11∧i0.bytes=176:=info_parts as6
theorem Ue:(Tryz.prog.info? 62).map (·.size)=some 11:=by kernel_rfl
theorem ix0 (a b:Option Addr) (l1 c1 l2 c2:Nat) (w:World):(Instr.index 149 (.agg #[.slice a l1 c1,.slice b l2 c2]) (.int .i64 0)).run Tryz.prog w= .ok (.slice a l1 c1) w:=by kernel_rfl
theorem ix1 (a b:Option Addr) (l1 c1 l2 c2:Nat) (w:World):(Instr.index 149 (.agg #[.slice a l1 c1,.slice b l2 c2]) (.int .i64 1)).run Tryz.prog w= .ok (.slice b l2 c2) w:=by kernel_rfl
def Q5 (p:Pr) (j:Nat) (tn fU:ByteArray) (e R ar Em:aY) (f g:List (List UInt8)):ME:=if(gK p j tn fU e Em f g).err != 0 then gK p j tn fU e Em f g else gK p j tn fU R ar (gK p j tn fU e Em f g).f (gK p j tn fU e Em f g).g
def aF8 (p:Pr) (j:Nat) (tn fU:ByteArray) (b e R ar Em:aY) (f g:List (List UInt8)):ME:=if(gK p j tn fU b Em f g).err != 0 then gK p j tn fU b Em f g else Q5 p j tn fU e R ar Em (gK p j tn fU b Em f g).f (gK p j tn fU b Em f g).g
def SQ (p:Pr) (j:Nat) (tn fU:ByteArray) (b e R ar Em:aY) (k:Nat) (f g:List (List UInt8)):ME:=if k=0 then aF8 p j tn fU b e R ar Em f g else if k=1 then Q5 p j tn fU e R ar Em f g else gK p j tn fU R ar f g
def ax1 (w:World) (L:Lay) (p:Pr) (aK aM:Option Addr) (aH aD:Nat) (i:Int) (A:List Fr) (v:Value) (r:ME) (e:Ending) (w':World):Prop:=
 e= .returned (.tuple #[.int .i64 r.err,.int .i64 r.line])∧Kp L v w w'∧(r.err=0->ny (kS p) r.f∧ny (lF p) r.g∧∃v',Ae w v v'∧mY w' L p aK aM aH aD i A (mem r.f) (mem r.g) r.f.length r.g.length v')
def DT (L:Lay) (p:Pr) (aK aM:Option Addr) (aH aD:Nat) (j:Nat) (t t0:Th) (l:aY):Prop:=
 ∀(w:World) (ao:Option Addr) (cap:Nat) (A:List Fr) (f g:List (List UInt8)) (v:Value),l.len<=maxLen->l.At w L.B0 ao 0->A.length<=6->ny (kS p) f->ny (lF p) g->mY w L p aK aM aH aD (j:Int) A (mem f) (mem g) f.length g.length v->
  Calls Tryz.prog 60 #[.pointer (some ⟨L.bc,0,none⟩),.slice ao l.len cap] w (ax1 w L p aK aM aH aD (j:Int) A v (gK p j t.nm t0.nm l (dA A) f g))
theorem Gs (L:Lay) (p:Pr) (aK aM:Option Addr) (aH aD:Nat) (j:Nat) (t t0:Th) (r r0:List Th) (hd:p.ts.drop j=t::r) (hts:p.ts=t0::r0) (hj:bW (j:Int)) (hT:p.ts.length<maxLen) (hD:p.ds.length<maxLen) (l:aY) (hall:l.All λ_ b e=>DT L p aK aM aH aD j t t0 b∧DT L p aK aM aH aD j t t0 e):DT L p aK aM aH aD j t t0 l:=by
 intro w ao cap A f g v hl hat hA hf hg hI;generalize hres:gK p j t.nm t0.nm l (dA A) f g=res;have HR:=ah hres;have HAT:=ah hat;have ku:=ah hall;have HF:=ah hf;have HG:=ah hg;have HI:=ah hI;unfold maxLen at hl;have HA:=ah hA;clear hres hat hall hf hg hI hA;go_enter Tryz.func60,Tryz.ntmps60;go_wp2_with fail;go_loopw [7,8,10,11,12,15,51,52] (λ_ _ _ _ _ s _ _ wr=> ∃(k:Nat) (R:aY) (f1 g1:List (List UInt8)) (v1:Value),s= .int .i64 k∧k+R.len=l.len∧res=gK p j t.nm t0.nm R (dA A) f1 g1∧(R.All λ_ b e=>DT L p aK aM aH aD j t t0 b∧DT L p aK aM aH aD j t t0 e)∧R.At wr L.B0 ao k∧ny (kS p) f1∧ny (lF p) g1∧Kp L v w wr∧Ae w v v1∧mY wr L p aK aM aH aD (j:Int) A (mem f1) (mem g1) f1.length g1.length v1) (λ_ _ _ _ _ s _ _ _=>l.len -(intOf s).toNat)
 case atStart=>exact⟨0,l,f,g,v,rfl,by simp,HR.o.symm,ku.o,HAT.o,HF.o,HG.o,Kp.refl _ _ _,.inl rfl,HI.o⟩
 case round=>
  obtain⟨k,R,f1,g1,v1,rfl,hlen,heq,hall,hrow,hf1,hg1,hKp,Xp,hI⟩:=hrel;have HE:=ah heq;have HK:=ah hKp;have HO:=ah Xp;clear heq hKp Xp;cases R with
  |nil=>
   obtain rfl:k=l.len:=by simpa[aY.len]using hlen
   have HX:aj (ax1 w L p aK aM aH aD (j:Int) A v res (.returned (.tuple #[.int .i64 0,.int .i64 0])) wr):=ah (by rw[HE.o];exact⟨rfl,HK.o,λ_=>⟨hf1,hg1,v1,HO.o,hI⟩⟩);clear hI hall hrow hf1 hg1 HE;go_wp2_with fail
   go_ret2
   exact HX.o
  |cons h b e R=>
   obtain⟨bl,off,s,rfl,hbl,hin,x0,x1,x2,x3,x4,x5,x6,x7,x8,x9,x10,hrest⟩:=aY.At.am7 hrow;have hkl:k<l.len:=by simp only[aY.len]at hlen;omega
   obtain⟨kN,xY⟩:=hall;obtain⟨cK,bQ,rfl,-⟩:=hI.form;have P9:=ah kN;have YU:=ah xY;have zG:=ah hf1;have qD:=ah hg1;have iq:=ah hin;have mQ:=ah hrest;have BK:=ah hI;clear hrow hin kN xY hf1 hg1 hrest hI;go_upto_region 4 with fail;generalize hW2:World.alloc wr _=W2;obtain⟨nb,hnb,yM,-,vQ,-⟩:=oO hW2;have HI2:=ah (BK.o.below yM.o);have qE:aj (Kp L v w W2):=ah (HK.o.trans (.inl HO.o) (Kp.of_below yM.o));have jE:aj (L.B1<=nb∧nb<W2.heap.size):=ah ⟨by rw[<- hnb];exact BK.o.sz,(aO vQ.o)⟩;have OZ:aj (Value.ownBlock (.slice cK A.length bQ)≠some nb):=ah (λe=>by have:=BK.o.row.lt _ e;omega);have HOZ:aj (w.heap.size<=W2.heap.size):=ah qE.o.size;rw[hnb];clear hW2 hnb x0 x1 x2 x3 x4 x5 x6 x7 x8 x9 x10 hbl;have c3:W2.cell? ⟨L.bc,3,none⟩=some (.slice cK A.length bQ):=(eY HI2.o.blk (j:=3) rfl).2;have hA6:=HA.o;obtain⟨y0,y1,y2,y3,y4,y5,y6,y7,y8,y9,jy⟩:=PW vQ.o;by_cases Qe:A.length=6
   ·have HX:aj (res=⟨2,h.line,f1,g1⟩):=ah (HE.o.trans (by rw[gK,if_pos (by rw[rH,Qe];rfl)]));rw[Qe]at c3;clear hA6;go_wp2_with fail;go_quiet (fail);go_wp2_with fail
    go_ret2
    refine⟨qC (by rw[HX.o];rfl) (by rw[HX.o];rfl),qE.o.trans (.inr rfl) (v1:= .slice none 0 0) (Kp.of_below (below_drewN (ak _ _) _)),λh0=> ?_⟩;rw[HX.o]at h0;cases h0
   ·have hA':A.length<6:=(by omega);have hdec:decide (6<(A.length:Int)+1)=false:=(by rw[decide_eq_false_iff_not];omega);go_wp2_with fail;refine(UQ W2 L p aK aM aH aD j A (mem f1) (mem g1) f1.length g1.length _ t t0 r r0 hd hts hj (by unfold maxLen;omega) (Nat.lt_of_le_of_lt zG.o.le (by simpa[kS]using hT)) (Nat.lt_of_le_of_lt qD.o.le (by simpa[lF]using hD)) HI2.o h b e s (iq.o.below (yM.o.mono BK.o.b0))).mono ?_;rintro e' w3 ⟨rfl,hK3,Co⟩;rw[aG6,aH3,XR,XR]at Co;have BH:aj (w3.heap[nb]? =some (.cells (pR h b e s).toArray 62 (0,0))):=ah ((hK3.far jE.o.2 jE.o.1 (by simp[Value.ownBlock])).trans vQ.o);have HI3:=ah Co;have sN:aj (Kp L v w w3):=ah (qE.o.trans (.inr rfl) hK3);have Jg:=ah hK3;have EZ:nb<w3.heap.size:=(aO BH.o);clear hK3 Co y0 y1 y2 y3 y4 y5 y6 y7 y8 y9 jy c3 hdec Qe;obtain⟨y0,y1,y2,y3,y4,y5,y6,y7,y8,y9,jy⟩:=PW BH.o;have c3:w3.cell? ⟨L.bc,3,none⟩=some (.slice cK A.length bQ):=(eY HI3.o.blk (j:=3) rfl).2;have HE2:aj (res=gK p j t.nm t0.nm (aY.cons h b e R) (dA A) f1 g1):=HE;have E8:aj (jk p j t.nm t0.nm (dA A) (mem f1) (mem g1) h=0->ny (kS p) (fL 12 h f1)∧ny (lF p) (fL 14 h g1)):=ah (λh0=>⟨al6 zG.o h0,al7 qD.o h0⟩);have HU:aj (gK p j t.nm t0.nm (aY.cons h b e R) (dA A) f1 g1=if jk p j t.nm t0.nm (dA A) (mem f1) (mem g1) h != 0 then⟨jk p j t.nm t0.nm (dA A) (mem f1) (mem g1) h,h.line,f1,g1⟩else SQ p j t.nm t0.nm b e R (dA A) ((dA A).app (.cons h b e .nil)) 0 (fL 12 h f1) (fL 14 h g1)):=ah (by rw[gK,if_neg (by rw[rH,decide_eq_true_iff];omega)];rfl);generalize jk p j t.nm t0.nm (dA A) (mem f1) (mem g1) h=x at *;cases hx:(x != 0)
    ·have HT:aj (res=SQ p j t.nm t0.nm b e R (dA A) ((dA A).app (.cons h b e .nil)) 0 (fL 12 h f1) (fL 14 h g1)):=ah (HE2.o.trans (HU.o.trans (by rw[hx];rfl)));have wO:=ah (E8.o (by simpa using hx));clear HU E8 HE HE2;go_upto_region 9 with fail;obtain⟨Y0,Y1,Y2,Y3,Y4,Y5,Y6,Y7,Y8,Y9,AB⟩:=LX EZ y0 y1 y2 y3 y4 y5 y6 y7 y8 y9 jy;have L3:=ko (by have:=HI3.o.sz;have:=L.c1;show L.bc<_;omega) c3;clear y0 y1 y2 y3 y4 y5 y6 y7 y8 y9 jy c3;refine dI (by kernel_rfl) rfl ?_;refine dw 0 7 [] [[],[0],[0,1],[0,1,2],[],[0,1,2,3],[],[0,1,2,3,4,5,6],[0,1,2,3,4,5,6,7],[0,1,2,3,4,5,6,7,8],[0,1,2,3,4,5,6,7],[0,1,2,3,4,5,6,7,10],[0,1,2,3,4,5,6,7,10,11]] [[],[],[],[],[],[],[]] (λ_ w'=>Below w3.heap.size w3 w') (λw w'=>Below w.heap.size w w') [36,37,38,39,40,41,42] rfl rfl (by rfl) (by kernel_rfl) (by kernel_rfl) (by kernel_rfl) (by kernel_rfl) (by kernel_rfl) (by rfl) (λ_=>ak _ _) (by rfl) (below_drewN (ak _ _) 1) ?_;simp only[iW,mU]
     iterate 6
      apply bS.step
      case bg=>intro c A w' hok hC hO hD;have e0:=hO 0 (by rfl);have e7:=hO 7 (by rfl);simp[Act.eval]at e0 e7;simp[Act.eval]at hD;simp[go_sem,gd,Oper.wp,hD,e0,e7,L3,hC,Y0,Y1,Y2,Y3,Y4,Y5,Y6,Y7,Y8,Y9,AB];exact aR.mk (ak _ _) hC (bZ.mk _ _)
     refine bS.some (λv w'=> ∃bb,v= .slice (some ⟨bb,0,none⟩) 1 1∧w'.heap[bb]? =some (.cells YQ 62 (0,0))) ?_ ?_ ?_
     ·rintro v w w' hle ⟨bb,rfl,hbb⟩;exact⟨bb,rfl,(hle.block bb (aO hbb)).trans hbb⟩
     ·intro c A w' hok hC hO hD;simp[go_sem,gd,Oper.wp];exact aR.mk (d:=_) (v:= .slice (some ⟨_,0,none⟩) 1 1) (au _ _) (hC.trans ((au _ _).mono hC.size)) ⟨_,rfl,heap_alloc_new _ _⟩
     try simp only[dR]
     refine bS.done ?_;intro wz dF;simp only[List.drop_zero];intro v0 h0 v1 h1 v2 h2 v3 h3 v4 h4 v5 h5 v6 h6;have h0':v0=_:=h0;have h1':v1=_:=h1;have h2':v2=_:=h2;have h3':v3=_:=h3;have h4':v4=_:=h4;have h5':v5=_:=h5;subst h0' h1' h2' h3' h4' h5';obtain⟨bb,rfl,hbb⟩:=h6;clear h0 h1 h2 h3 h4 h5;refine dP.nil ?_;go_simp;refine fD 7 [[],[0],[0,1],[0,1,2],[],[0,1,2,3],[],[0,1,2,3,4,5,6],[0,1,2,3,4,5,6,7],[0,1,2,3,4,5,6,7,8],[0,1,2,3,4,5,6,7],[0,1,2,3,4,5,6,7,10],[0,1,2,3,4,5,6,7,10,11]] rfl rfl rfl rfl rfl (by kernel_rfl) (by kernel_rfl) (by kernel_rfl) ?_;obtain⟨i0,hi0,hz0,hz1,hz2⟩:=Ud;have BM:=ah (HI3.o.below dF);refine wp_append_lies wz _ _ _ (by rfl) L.B1 62 i0 _ 11 176 Tryz.underlying55 hi0 hz0 hz1 hz2 (by rfl) (by omega) (.slice cK A.length bQ) A.length (AQ A) (by rfl) BM.o.row ⟨bb,0,none⟩ 1 1 YQ.toList (by rfl) (by rfl) (World.news_of_block hbb) (by decide) (by omega) (by unfold maxLen;omega) (by omega) BM.o.sz wz.heap.size rfl ?_;intro g' cap' w4 sD qh xZ Ct;clear hi0 hz0 hz1 hz2 hbb Y0 Y1 Y2 Y3 Y4 Y5 Y6 Y7 Y8 Y9 AB L3;have xM:=ah (HI3.o.push ⟨h,b,e,s⟩ (iq.o.below ((yM.o.mono BK.o.b0).trans (Jg.o.below HI2.o.b0 (by simp[Value.ownBlock])))) dF sD qh xZ);have hgb:=(sD.lt g' rfl).1;have eF:aj (w4.heap[L.bc]? =some (.cells (ckV p aK aM aH aD (j:Int) (.slice cK A.length bQ) L.bs L.bt) 126 (0,0))):=ah (by
      rw[qh.block _ (by have:=BM.o.sz;have:=L.c1;omega) (λe'=>by
       have:=BM.o.own_ne L.c1;rcases this with h1|h1
       ·rw[h1]at e';cases e'
       ·exact h1 e'.symm)]
      exact BM.o.blk)
     have rT:=ah (Ld sD);have EW:g'≠L.bc:=(by have:=L.c1;omega);clear sD qh xZ Ct hgb;go_simp;refine dw 8 13 [9,12] [[],[0],[0,1],[0,1,2],[],[0,1,2,3],[],[0,1,2,3,4,5,6],[0,1,2,3,4,5,6,7],[0,1,2,3,4,5,6,7,8],[0,1,2,3,4,5,6,7],[0,1,2,3,4,5,6,7,10],[0,1,2,3,4,5,6,7,10,11]] [[some false,none],[some false,none],[none,some false],[none,some false],[none,some false]] (PC w4 g' (A.length*11) (pR h b e s) ⟨L.bc,3,none⟩ (.slice (some ⟨g',0,none⟩) (A.length+1) cap')) (λ_ _=>True) [44,45,46] rfl rfl (by rfl) (by kernel_rfl) (by kernel_rfl) (by kernel_rfl) (by kernel_rfl) (by kernel_rfl) (by rfl) (λ_=>trivial) (by rfl) rfl ?_;simp only[iW,mU];have Tq:(0:Int)<=(A.length:Int):=(by omega);have hA1:(A.length:Int)<(A.length:Int)+1:=(by omega);apply bS.step
     case bg=>intro c A w' hok hC hO hD;have e43:=hO 43 (by rfl);have e41:=hO 41 (by rfl);simp[Act.eval]at e43 e41;simp[Act.eval]at hD;simp[go_sem,gd,Oper.wp,hD,e43,e41,hA1];exact aR.mk trivial (PC.skip (by rfl) (by rfl) hC) (bZ.mk _ _)
     refine bS.some (λ_ _=>True) (λ_ _ _ _ _=>trivial) ?_ ?_
     ·intro c A' w' hok hC hO hD;obtain⟨x,y,rfl⟩:=hC.bits;obtain⟨rfl,-⟩:=hok;have e40:=hO 40 (by rfl);simp[Act.eval]at hD;simp only[gd,if_true];refine wp_store_mid _ _ _ (by rfl) g' (A.length*11) (pR h b e s).toArray (by simp[Act.eval,hD]) (e40.trans (by rfl)) (EC rT.o (hC.Tc EW)) Ue (by simp[pR,Value.oneCell']) ?_;exact aR.Cx trivial (PC.elt EW (by rfl) (by rfl) hC) trivial
     try simp only[dR]
     iterate 2
      apply bS.step
      case bg=>intro c A w' hok hC hO hD;have e36:=hO 36 (by rfl);simp[Act.eval]at e36;simp[Act.eval]at hD;simp[go_sem,gd,Oper.wp,hD,e36];exact aR.mk trivial (PC.skip (by rfl) (by rfl) hC) (bZ.mk _ _)
     refine bS.some (λ_ _=>True) (λ_ _ _ _ _=>trivial) ?_ ?_
     ·intro c A' w' hok hC hO hD;obtain⟨x,y,rfl⟩:=hC.bits;obtain⟨rfl,-⟩:=hok;have e43:=hO 43 (by rfl);simp[Act.eval]at e43;simp[Act.eval]at hD;have hbk0:w'.heap[L.bc]? =w4.heap[L.bc]?:=PC.Tg (a:=⟨L.bc,3,none⟩) EW hC (aO eF.o);have hbk:=hbk0.trans eF.o;have hcl:w'.cell? ⟨L.bc,3,none⟩=some (.slice cK A.length bQ):=(eY hbk (j:=3) rfl).2;have hfr:w'.frozen? ⟨L.bc,3,none⟩=false:=bH hbk;simp[go_sem,gd,Oper.wp,hD,e43,hcl,hfr];exact aR.Cx (v:=undef) trivial (PC.fld (by rfl) (by rfl) hC) trivial
     simp only[List.nil_append,List.cons_append,List.drop_succ_cons,List.drop_zero];refine bS.done ?_;intro w5 Xm;simp only[List.drop_succ_cons,List.drop_zero];intro v0 h0 v1 h1 v2 h2 v3 h3 v4 h4;clear h0 h1 h2 h3 h4;refine dP.nil ?_;refine eO rfl ?_;have Kc:aj (w5=(w4.setCells g' (A.length*11) (pR h b e s)).setCell ⟨L.bc,3,none⟩ (.slice (some ⟨g',0,none⟩) (A.length+1) cap')):=ah Xm;rw[<- Kc.o]at xM;have iA:=ah xM.o.1;have Sc:aj (Kp L v w w5):=ah (sN.o.trans (.inl (HO.o.trans (.inl rfl) (aB _))) xM.o.2.1);have Jh:=ah xM.o.2.1;have LA:=ah xM.o.2.2;clear Xm Kc xM rT eF Tq hA1 EW;go_simp;have FU:aj (w5.heap[nb]? =some (.cells (pR h b e s).toArray 62 (0,0))):=ah ((Jh.o.far EZ jE.o.1 OZ.o).trans BH.o);have LB:=ah (LA.o.ne EZ OZ.o);have Si:aj (Ae w v (.slice (some ⟨g',0,none⟩) (A.length+1) cap')):=ah (HO.o.trans LA.o sN.o.size);have P6:aj (aY.At w5 L.B0 R (some ⟨bl,off,none⟩) (k+1)):=ah (mQ.o.below (((yM.o.mono BK.o.b0).trans (Jg.o.below HI2.o.b0 (by simp[Value.ownBlock]))).trans (Jh.o.below HI3.o.b0 (λq hq=>(HI3.o.row.lt q hq).1))));have mq:aj (b.len<=maxLen∧e.len<=maxLen):=ah iq.o.1.2.2.2.2.2.2;obtain⟨-,-,-,-,-,-,-,-,-,y9,jy⟩:=PW FU.o;clear hx EZ BM dF HI3 sN Jg BH Jh LA OZ HI2 qE vQ yM BK iq mQ HO HK zG qD HF HG HI HAT;go_wp2_with fail;go_loopw [10,11,12,52] (λ_ _ _ s52 wq=> ∃(kk:Nat) (f2 g2:List (List UInt8)) (v2:Value),s52= .int .i64 kk∧kk<=2∧res=SQ p j t.nm t0.nm b e R (dA A) ((dA A).app (.cons h b e .nil)) kk f2 g2∧ny (kS p) f2∧ny (lF p) g2∧Kp L v w wq∧Ae w v v2∧v2.ownBlock≠some nb∧wq.heap[nb]? =some (.cells (pR h b e s).toArray 62 (0,0))∧R.At wq L.B0 (some ⟨bl,off,none⟩) (k+1)∧mY wq L p aK aM aH aD (j:Int) (A++[⟨h,b,e,s⟩]) (mem f2) (mem g2) f2.length g2.length v2) (λ_ _ _ s52 _=>2 -(intOf s52).toNat)
     case atStart=>exact⟨0,_,_,_,rfl,by omega,HT.o,wO.o.1,wO.o.2,Sc.o,Si.o,LB.o,FU.o,P6.o,iA.o⟩
     case round=>
      obtain⟨kk,f2,g2,v2,rfl,hkk,heq2,hf2,hg2,Qg,Tv,aH9,aH8,hR6,KG⟩:=hrel;clear y9 jy;have Av:=ah heq2;have yN:=ah hf2;have HG2:=ah hg2;have FY:=ah Qg;have G5:=ah Tv;have LC:=ah aH9;have Dv:=ah aH8;have tK:=ah hR6;have xL:=ah KG;have HIS:=ah (KG.qg ⟨h,b,e,s⟩ (by simp));clear heq2 hf2 hg2 Qg Tv aH9 aH8 hR6 KG HT wO Sc Si LB FU P6 iA;have hk3:kk=0∨kk=1∨kk=2:=(by omega);have ixa:=ix0 s.dH s.iC b.len s.cu e.len s.gy;have ixb:=ix1 s.dH s.iC b.len s.cu e.len s.gy;rcases hk3 with rfl|rfl|rfl
      ·have xJ:aj (res=if(gK p j t.nm t0.nm b (dA (A++[⟨h,b,e,s⟩])) f2 g2).err != 0 then gK p j t.nm t0.nm b (dA (A++[⟨h,b,e,s⟩])) f2 g2 else Q5 p j t.nm t0.nm e R (dA A) (dA (A++[⟨h,b,e,s⟩])) (gK p j t.nm t0.nm b (dA (A++[⟨h,b,e,s⟩])) f2 g2).f (gK p j t.nm t0.nm b (dA (A++[⟨h,b,e,s⟩])) f2 g2).g):=ah (by rw[zm];exact Av.o);clear Av;go_wp2_with fail;refine(P9.o.1 _ s.dH s.cu (A++[⟨h,b,e,s⟩]) f2 g2 v2 mq.o.1 HIS.o.2.2.2.1 (by simp;omega) yN.o HG2.o xL.o).mono ?_;rintro e' w7 ⟨rfl,AV,GQ⟩;generalize gK p j t.nm t0.nm b (dA (A++[⟨h,b,e,s⟩])) f2 g2=r1 at *;have Ir:aj (Kp L v w w7):=ah (FY.o.trans (.inl G5.o) AV);have BQ:=ah GQ;have Am:aj (w7.heap[nb]? =some (.cells (pR h b e s).toArray 62 (0,0))):=ah ((AV.far (aO Dv.o) jE.o.1 LC.o).trans Dv.o);have kH:aj (R.At w7 L.B0 (some ⟨bl,off,none⟩) (k+1)):=ah (tK.o.below (AV.below xL.o.b0 (λq hq=>(xL.o.row.lt q hq).1)));clear AV GQ;cases hr1:(r1.err != 0)
       ·have BS:aj (res=SQ p j t.nm t0.nm b e R (dA A) ((dA A).app (.cons h b e .nil)) 1 r1.f r1.g):=ah (xJ.o.trans ((if_neg (by rw[hr1];decide)).trans (by first|rfl|(simp only[zm];rfl))));obtain⟨NC,GN,v7,GK,Df⟩:=BQ.o (by simpa using hr1);have BX:=ah (aI NC (aI GN (aI GK Df)));clear NC GN GK Df BQ xJ;go_wp2_with fail;go_roundw
        case rel=>exact⟨1,r1.f,r1.g,v7,rfl,by omega,BS.o,BX.o.1,BX.o.2.1,Ir.o,G5.o.trans BX.o.2.2.1 FY.o.size,BX.o.2.2.1.ne (aO Dv.o) LC.o,Am.o,kH.o,BX.o.2.2.2⟩
        case measure=>simp[intOf]
       ·have qG:aj (res=r1):=ah (xJ.o.trans (if_pos hr1));have HX0:aj (r1.err≠0):=ah (by simpa using hr1);clear xJ BQ;go_wp2_with fail
        go_ret2
        refine⟨qC (by rw[qG.o];rfl) (by rw[qG.o];rfl),Ir.o,λh0=> ?_⟩;rw[qG.o]at h0;exact(HX0.o h0).elim
      ·have xJ:aj (res=if(gK p j t.nm t0.nm e (dA (A++[⟨h,b,e,s⟩])) f2 g2).err != 0 then gK p j t.nm t0.nm e (dA (A++[⟨h,b,e,s⟩])) f2 g2 else gK p j t.nm t0.nm R (dA A) (gK p j t.nm t0.nm e (dA (A++[⟨h,b,e,s⟩])) f2 g2).f (gK p j t.nm t0.nm e (dA (A++[⟨h,b,e,s⟩])) f2 g2).g):=ah (by rw[zm];exact Av.o);clear Av;go_wp2_with fail;refine(P9.o.2 _ s.iC s.gy (A++[⟨h,b,e,s⟩]) f2 g2 v2 mq.o.2 HIS.o.2.2.2.2 (by simp;omega) yN.o HG2.o xL.o).mono ?_;rintro e' w7 ⟨rfl,AV,GQ⟩;generalize gK p j t.nm t0.nm e (dA (A++[⟨h,b,e,s⟩])) f2 g2=r1 at *;have Ir:aj (Kp L v w w7):=ah (FY.o.trans (.inl G5.o) AV);have BQ:=ah GQ;have Am:aj (w7.heap[nb]? =some (.cells (pR h b e s).toArray 62 (0,0))):=ah ((AV.far (aO Dv.o) jE.o.1 LC.o).trans Dv.o);have kH:aj (R.At w7 L.B0 (some ⟨bl,off,none⟩) (k+1)):=ah (tK.o.below (AV.below xL.o.b0 (λq hq=>(xL.o.row.lt q hq).1)));clear AV GQ;cases hr1:(r1.err != 0)
       ·have BS:aj (res=SQ p j t.nm t0.nm b e R (dA A) ((dA A).app (.cons h b e .nil)) 2 r1.f r1.g):=ah (xJ.o.trans ((if_neg (by rw[hr1];decide)).trans (by first|rfl|(simp only[zm];rfl))));obtain⟨NC,GN,v7,GK,Df⟩:=BQ.o (by simpa using hr1);have BX:=ah (aI NC (aI GN (aI GK Df)));clear NC GN GK Df BQ xJ;go_wp2_with fail;go_roundw
        case rel=>exact⟨2,r1.f,r1.g,v7,rfl,by omega,BS.o,BX.o.1,BX.o.2.1,Ir.o,G5.o.trans BX.o.2.2.1 FY.o.size,BX.o.2.2.1.ne (aO Dv.o) LC.o,Am.o,kH.o,BX.o.2.2.2⟩
        case measure=>simp[intOf]
       ·have qG:aj (res=r1):=ah (xJ.o.trans (if_pos hr1));have HX0:aj (r1.err≠0):=ah (by simpa using hr1);clear xJ BQ;go_wp2_with fail
        go_ret2
        refine⟨qC (by rw[qG.o];rfl) (by rw[qG.o];rfl),Ir.o,λh0=> ?_⟩;rw[qG.o]at h0;exact(HX0.o h0).elim
      ·have BS:aj (res=gK p j t.nm t0.nm R (dA A) f2 g2):=Av;obtain⟨g7,EN,rfl,hc7⟩: ∃g7 EN,v2= .slice (some ⟨g7,0,none⟩) (A.length+1) EN∧A.length+1<=EN:=by
        rcases xL.o.row.2 with⟨-,hn⟩|⟨g',cap,cur,e',-,-,hcc,-⟩
        ·simp at hn
        ·exact⟨g',cap,by rw[e'];simp,by simpa using hcc⟩
       have hcl: ∀w',Below (World.heap wr).size wr w'->w'.cell? ⟨L.bc,3,none⟩=some (.slice (some ⟨g7,0,none⟩) (A.length+1) EN):=λw' hb=>(hb.cell (p:=⟨L.bc,3,none⟩) (by have:=xL.o.sz;have:=L.c1;show L.bc<_;omega)).trans (eY xL.o.blk (j:=3) rfl).2;have hz1:(0:Int)<=(A.length:Int):=(by omega);have hz2:(A.length:Int)<=(EN:Int):=(by omega);have hwr:IntKind.i64.wrap (A.length:Int)=(A.length:Int):=IntWalk.i64_in _ (by omega);have F3:(A.length:Int)+1 -1=(A.length:Int):=(by omega);clear Av ixa ixb;go_upto_region 17 with fail;refine dI (by kernel_rfl) rfl ?_;refine dw 0 14 [] [[],[],[1],[1,2],[1,2,3],[],[5],[5,6],[5,6,7],[5,6,7,8],[5,6,7,8,9],[1,2,3,4,5,6,7,8,9,10],[0,1,2,3,4,5,6,7,8,9,10,11],[0,1,2,3,4,5,6,7,8,9,10,11,12],[0,1,2,3,4,5,6,7,8,9,10,11,12,13]] [[],[],[],[],[],[],[],[],[],[],[],[],[],[]] (λ_ w'=>Below (World.heap wr).size wr w') (λw w'=>Below w.heap.size w w') [66,67,68,69,70,71,72,73,74,75,76,77,78,79] rfl rfl (by rfl) (by kernel_rfl) (by kernel_rfl) (by kernel_rfl) (by kernel_rfl) (by kernel_rfl) (by rfl) (λ_=>ak _ _) (by rfl) (below_drewN (ak _ _) 1) ?_;simp only[iW,mU]
       iterate 14
        apply bS.step
        case bg=>intro c A w' hok hC hO hD;have e0:=hO 0 (by rfl);simp[Act.eval]at e0;simp[Act.eval]at hD;simp[go_sem,gd,Oper.wp,hD,e0,hcl,hC,F3,hwr,hz1,hz2];exact aR.mk (ak _ _) hC (bZ.mk _ _)
        try simp only[dR]
       try simp only[dR]
       refine bS.done ?_;intro wz dF;simp only[List.drop_zero];intro v0 h0 v1 h1 v2 h2 v3 h3 v4 h4 v5 h5 v6 h6 v7 h7 v8 h8 v9 h9 v10 h10 v11 h11 v12 h12 v13 zT;have Ju:v11=_:=h11;have M9:v13=_:=zT;subst Ju M9;clear h0 h1 h2 h3 h4 h5 h6 h7 h8 h9 h10 h11 h12 zT;refine dP.nil ?_;go_simp;have MW:=ah (mY.pop ⟨h,b,e,s⟩ xL.o dF);have hclz:wz.cell? ⟨L.bc,3,none⟩=some (.slice (some ⟨g7,0,none⟩) (A.length+1) EN):=hcl wz dF;have Ql:wz.frozen? ⟨L.bc,3,none⟩=false:=bH ((xL.o.below dF).blk);clear hcl F3 hwr;refine fD 14 [[],[],[1],[1,2],[1,2,3],[],[5],[5,6],[5,6,7],[5,6,7,8],[5,6,7,8,9],[1,2,3,4,5,6,7,8,9,10],[0,1,2,3,4,5,6,7,8,9,10,11],[0,1,2,3,4,5,6,7,8,9,10,11,12],[0,1,2,3,4,5,6,7,8,9,10,11,12,13]] rfl rfl rfl rfl rfl (by kernel_rfl) (by kernel_rfl) (by kernel_rfl) ?_;simp[go_sem,Oper.wp,hclz,Ql];refine eO rfl ?_;clear hclz Ql dF;go_simp;go_wp2_with fail;go_roundw
       case rel=>exact⟨k+1,R,f2,g2,.slice (some ⟨g7,0,none⟩) A.length EN,by go_num,by simp only[aY.len]at hlen;omega,BS.o,YU.o,tK.o.below (MW.o.2.below xL.o.b0 (λq hq=>(xL.o.row.lt q hq).1)),yN.o,HG2.o,FY.o.trans (.inl G5.o) MW.o.2,G5.o.trans (.inl rfl) FY.o.size,MW.o.1⟩
       case measure=>simp[intOf];omega
    ·have HX:aj (res=⟨x,h.line,f1,g1⟩):=ah (HE2.o.trans (HU.o.trans (by rw[hx];rfl)));have HX0:aj (x≠0):=ah (by simpa using hx);clear HU E8 HE HE2;go_wp2_with fail;go_quiet (fail);go_wp2_with fail
     go_ret2
     refine⟨qC (by rw[HX.o];rfl) (by rw[HX.o];rfl),sN.o.trans (.inr rfl) (v1:= .slice none 0 0) (Kp.of_below (below_drewN (ak _ _) _)),λh0=> ?_⟩;rw[HX.o]at h0;exact(HX0.o h0).elim
theorem UO (L:Lay) (p:Pr) (aK aM:Option Addr) (aH aD:Nat) (j:Nat) (t t0:Th) (r r0:List Th) (hd:p.ts.drop j=t::r) (hts:p.ts=t0::r0) (hj:bW (j:Int)) (hT:p.ts.length<maxLen) (hD:p.ds.length<maxLen) (l:aY):DT L p aK aM aH aD j t t0 l:=
 Gs L p aK aM aH aD j t t0 r r0 hd hts hj hT hD l (aY.nW (λ_ b e hb he=>⟨Gs L p aK aM aH aD j t t0 r r0 hd hts hj hT hD b hb,Gs L p aK aM aH aD j t t0 r r0 hd hts hj hT hD e he⟩) l)
namespace Md
def iP (p:Pr) (fU:ByteArray):List Th->Nat->List (List UInt8)->List (List UInt8)->ME
 | [],_,f,g=>⟨0,0,f,g⟩
 |t::r,j,f,g=>if(gK p j t.nm fU t.body .nil f g).err != 0 then gK p j t.nm fU t.body .nil f g else iP p fU r (j+1) (gK p j t.nm fU t.body .nil f g).f (gK p j t.nm fU t.body .nil f g).g
end Md
def an4 (n:Nat) (h:0<n):Lay where
 B0:=n
 B1:=n+4
 bc:=n+1+1+1
 bs:=n+1
 bt:=n+1+1
 c0:=by omega
 s0:=by omega
 t0:=by omega
 c1:=by omega
 s1:=by omega
 t1:=by omega
 cs:=by omega
 ct:=by omega
 st:=by omega
 kw:=h
theorem ar2 {p:Pr} {w W:World} {aK aM:Option Addr} {aH aD:Nat} (hp:p.At w aK aM) (eH:eG w)
 (hW:((((w.alloc (.cells #[.slice aK p.ds.length aH,.slice aM p.ts.length aD] 26)).alloc (.map #[] 0)).alloc (.map #[] 0)).alloc (.cells #[.slice aK p.ds.length aH,.slice aM p.ts.length aD,.int .i64 0,.slice none 0 0,.map (some (w.heap.size+1)),.map (some (w.heap.size+1+1))] 126))=W):
 mY W (an4 w.heap.size eH.lt) p aK aM aH aD 0 [] (mem []) (mem []) 0 0 (.slice none 0 0)∧Below w.heap.size w W∧W.heap[w.heap.size]? =some (.cells #[.slice aK p.ds.length aH,.slice aM p.ts.length aD] 26 (0,0)):=by
 have hb:Below w.heap.size w W:=by rw[<- hW];exact((((ak _ _).alloc (aB _) _).alloc (by simp) _).alloc (by simp;omega) _).alloc (by simp;omega) _
 have h0:W.heap[w.heap.size]? =some (.cells #[.slice aK p.ds.length aH,.slice aM p.ts.length aD] 26 (0,0)):=by rw[<- hW,heap_alloc_old _ _ (by simp;omega),heap_alloc_old _ _ (by simp;omega),heap_alloc_old _ _ (by simp)];exact heap_alloc_new _ _
 have h1:jF W (w.heap.size+1) 0 (mem []):=by
  have:=jF.made (w.alloc (.cells #[.slice aK p.ds.length aH,.slice aM p.ts.length aD] 26));have e:(w.alloc (.cells #[.slice aK p.ds.length aH,.slice aM p.ts.length aD] 26)).heap.size=w.heap.size+1:=by simp
  rw[e]at this;refine jF.same (f:=mem []) this ?_;rw[<- hW,heap_alloc_old _ _ (by simp),heap_alloc_old _ _ (by simp)]
 have h2:jF W (w.heap.size+1+1) 0 (mem []):=by
  have:=jF.made ((w.alloc (.cells #[.slice aK p.ds.length aH,.slice aM p.ts.length aD] 26)).alloc (.map #[] 0));have e:((w.alloc (.cells #[.slice aK p.ds.length aH,.slice aM p.ts.length aD] 26)).alloc (.map #[] 0)).heap.size=w.heap.size+1+1:=by simp
  rw[e]at this;refine jF.same (f:=mem []) this ?_;rw[<- hW,heap_alloc_old _ _ (by simp)]
 have h3:W.heap[w.heap.size+1+1+1]? =some (.cells (ckV p aK aM aH aD 0 (.slice none 0 0) (w.heap.size+1) (w.heap.size+1+1)) 126 (0,0)):=by
  rw[<- hW];have e:(((w.alloc (.cells #[.slice aK p.ds.length aH,.slice aM p.ts.length aD] 26)).alloc (.map #[] 0)).alloc (.map #[] 0)).heap.size=w.heap.size+1+1+1:=by simp
  rw[<- e];exact heap_alloc_new _ _
 refine⟨{blk:=h3,row:=World.ownsRow_nil _ _ _ _,ms:=h1,mt:=h2,sz:= ?_,dat:= ?_,qg:=by intro x hx;simp at hx},hb,h0⟩
 ·show w.heap.size+4<=W.heap.size;rw[<- hW];simp
 ·exact⟨hp.1,hp.2.1,hp.2.2.1.below hb,hp.2.2.2.below hb,eH.same hb⟩
theorem mY.ae3 {w:World} {L:Lay} {p:Pr} {aK aM:Option Addr} {aH aD:Nat} {i i':Int} {A:List Fr} {f g:List UInt8->Bool} {n m:Nat} {v:Value}
 (h:mY w L p aK aM aH aD i A f g n m v):mY (w.setCell ⟨L.bc,2,none⟩ (.int .i64 i')) L p aK aM aH aD i' A f g n m v:=by
 have hg:=bY w ⟨L.bc,2,none⟩ (.int .i64 i');have hbel:=cZ hg L.c0 h.b0;exact {blk:=by rw[dh h.blk];rfl,row:=h.row.kept hg (h.own_ne L.c1),ms:=h.ms.same (bf w _ _ rfl L.cs),mt:=h.mt.same (bf w _ _ rfl L.ct),sz:=aP h.sz hg.size,dat:=h.dat.below hbel,qg:=λx hx=>(h.qg x hx).below hbel}
theorem Rs (p:Pr) (w:World) (aK aM:Option Addr) (aH aD:Nat) (t0:Th) (r0:List Th) (hts:p.ts=t0::r0) (hT:p.ts.length<maxLen) (hD:p.ds.length<maxLen) (hp:p.At w aK aM) (eH:eG w):
 Calls Tryz.prog 33 #[.agg #[.slice aK p.ds.length aH,.slice aM p.ts.length aD]] w λe w'=>e= .returned (.tuple #[.int .i64 (iP p t0.nm p.ts 0 [] []).err,.int .i64 (iP p t0.nm p.ts 0 [] []).line])∧Below w.heap.size w w':=by
 generalize hres:iP p t0.nm p.ts 0 [] []=res;have HR:=ah hres;have HP:=ah hp;have jK:=ah eH;have qx:=ah hts;have HT:=ah hT;unfold maxLen at hT;clear hres hp eH hts;have hmm:= @run_makeMap Tryz.prog;go_enter Tryz.func33,Tryz.ntmps33;go_upto_region 2 with fail;generalize hW:World.alloc (World.alloc (World.alloc (World.alloc w _) _) _) _=W;generalize Value.agg #[_,_]=a0;have HS:=ah (ar2 HP.o jK.o hW);obtain⟨L,hL⟩: ∃L,an4 w.heap.size jK.o.lt=L:=⟨_,rfl⟩;have Xo:w.heap.size+1+1+1=L.bc:=by rw[<- hL];rfl
 have HL0:aj (w.heap.size=L.B0):=ah (by rw[<- hL];rfl);rw[hL]at HS;clear hW hL hmm;have c0:W.cell? ⟨w.heap.size,1,none⟩=some (.slice aM p.ts.length aD):=(eY HS.o.2.2 (j:=1) rfl).2;rw[Xo];clear Xo;go_wp2_with fail;go_loopw [5,6,7,8,17] (λ_ _ _ _ s wr=> ∃(k:Nat) (R:List Th) (f1 g1:List (List UInt8)) (v1:Value) (i1:Int),s= .int .i64 k∧k+R.length=p.ts.length∧p.ts.drop k=R∧res=iP p t0.nm R k f1 g1∧ny (kS p) f1∧ny (lF p) g1∧Below L.B0 w wr∧mY wr L p aK aM aH aD i1 [] (mem f1) (mem g1) f1.length g1.length v1) (λ_ _ _ _ s _=>p.ts.length -(intOf s).toNat)
 case atStart=>exact⟨0,p.ts,[],[],_,0,rfl,by simp,rfl,HR.o.symm,⟨List.nodup_nil,by simp⟩,⟨List.nodup_nil,by simp⟩,by rw[<- HL0.o];exact HS.o.2.1,HS.o.1⟩
 case round=>
  obtain⟨k,R,f1,g1,v1,i1,rfl,hlen,hdr,heq,hf1,hg1,hB,hI⟩:=hrel;have HE:=ah heq;have zG:=ah hf1;have qD:=ah hg1;have HB:=ah hB;have HI:=ah hI;have HDR:=ah hdr;clear heq hf1 hg1 hB hI hdr c0 HS;cases R with
  |nil=>
   obtain rfl:k=p.ts.length:=by simpa using hlen
   have HX:aj (res.err=0∧res.line=0):=ah (by rw[HE.o];exact⟨rfl,rfl⟩);go_wp2_with fail
   go_ret2
   exact⟨qC (by rw[HX.o.1];rfl) (by rw[HX.o.2];rfl),by rw[HL0.o];exact HB.o⟩
  |cons t R=>
   have hrow:=HI.o.dat.2.2.2.1.drop k;rw[HDR.o,aU]at hrow;obtain⟨⟨bl,off,iR,eX,dH,cu,rfl,hbl,x0,x1,x2,x3,hok,htx,hst,-⟩,-⟩:=hrow;simp only[aA]at hlen;have hkl:k<p.ts.length:=by omega
   have kU:=ah hok;have HST:=ah hst;clear hok hst htx hbl;go_upto_region 5 with fail;generalize hW2:World.alloc wr _=W2;obtain⟨nb,hnb,yM,-,vQ,-⟩:=oO hW2;have HI2:=ah (HI.o.below yM.o);have jE:aj (L.B1<=nb):=ah (by rw[<- hnb];exact HI.o.sz);have HB2:aj (Below L.B0 w W2):=ah (HB.o.trans (yM.o.mono HI.o.b0));have aC2:=ah (HST.o.below (yM.o.mono HI.o.b0));rw[hnb];clear hW2 hnb x0 x1 x2 x3 HST HB;have c2:W2.cell? ⟨L.bc,2,none⟩=some (.int .i64 i1):=(eY HI2.o.blk (j:=2) rfl).2;have f2:W2.frozen? ⟨L.bc,2,none⟩=false:=bH HI2.o.blk;go_upto_region 6 with fail;generalize hW3:World.setCell W2 _ _=W3;have tF:aj (W2.grownBy W3 (some L.bc)):=ah (by rw[<- hW3];exact bY _ _ _);have HI3:aj (mY W3 L p aK _ aH aD (k:Int) [] (mem f1) (mem g1) f1.length g1.length v1):=ah (by rw[<- hW3];exact HI2.o.ae3);have BH:aj (W3.heap[nb]? =some (.cells #[.string t.nm,.int .i64 t.line,.slice iR t.cO.length eX,.slice dH t.body.len cu] 57 (0,0))):=ah ((tF.o.block _ (aO vQ.o) (by have:=L.c1;have:=jE.o;simp;omega)).trans vQ.o);have nO:=ah (cZ tF.o L.c0 HI2.o.b0);have HB3:=ah (HB2.o.trans nO.o);have bn4:=ah (aC2.o.below nO.o);clear hW3 c2 f2 HI2 vQ yM HB2 aC2 nO HI;have y3:W3.cell? ⟨nb,3,none⟩=some (.slice dH t.body.len cu):=(eY BH.o (j:=3) rfl).2;have xJ:aj (res=if(gK p k t.nm t0.nm t.body (dA []) f1 g1).err != 0 then gK p k t.nm t0.nm t.body (dA []) f1 g1 else iP p t0.nm R (k+1) (gK p k t.nm t0.nm t.body (dA []) f1 g1).f (gK p k t.nm t0.nm t.body (dA []) f1 g1).g):=ah HE.o;clear HE;go_wp2_with fail;refine(UO L p _ _ aH aD k t t0 R r0 HDR.o qx.o (by unfold bW;omega) HT.o hD t.body W3 dH cu [] f1 g1 v1 kU.o.2.2.2 bn4.o (by simp) zG.o qD.o HI3.o).mono ?_;rintro e' w4 ⟨rfl,hK4,hq4⟩;generalize gK p k t.nm t0.nm t.body (dA []) f1 g1=r1 at *;have eF:=ah (HB3.o.trans (hK4.below HI3.o.b0 (λq hq=>(HI3.o.row.lt q hq).1)));have K6:=ah hq4;clear hK4 hq4;cases hr1:(r1.err != 0)
   ·have BS:aj (res=iP p t0.nm R (k+1) r1.f r1.g):=ah (xJ.o.trans (if_neg (by rw[hr1];decide)));obtain⟨NC,GN,v7,-,Df⟩:=K6.o (by simpa using hr1);have BX:=ah (aI NC (aI GN Df));have HD7:aj (p.ts.drop (k+1)=R):=ah (by rw[<- List.drop_drop,HDR.o];rfl);clear NC GN Df K6 xJ;go_wp2_with fail;go_roundw
    case rel=>exact⟨k+1,R,r1.f,r1.g,v7,_,by go_num,by omega,HD7.o,BS.o,BX.o.1,BX.o.2.1,eF.o,BX.o.2.2⟩
    case measure=>simp[intOf];omega
   ·have qG:aj (res=r1):=ah (xJ.o.trans (if_pos hr1));clear xJ K6;go_wp2_with fail
    go_ret2
    exact⟨qC (by rw[qG.o];rfl) (by rw[qG.o];rfl),by rw[HL0.o];exact eF.o⟩
namespace Md
def Gt:aY->Int->Int
 | .nil,n=>n
 | .cons _ b e r,n=>Gt r (wrap64 (n+(Gt b b.len+Gt e e.len)))
def EO (l:aY):Int:=Gt l l.len
end Md
theorem aw9 (n x:Int):wrap64 (n+wrap64 x)=wrap64 (n+x):=by
 unfold wrap64;omega
theorem wrap_in' (n x y:Int):wrap64 (wrap64 (n+x)+y)=wrap64 (n+(x+y)):=by
 unfold wrap64;omega
def Br (l:aY):Prop:= ∀(w:World) (ao:Option Addr) (cap:Nat),l.len<=maxLen->l.At w w.heap.size ao 0->
 Calls Tryz.prog 32 #[.slice ao l.len cap] w λe w'=>e= .returned (.int .i64 (EO l))∧Below w.heap.size w w'
theorem Jp (l:aY) (hall:l.All λ_ b e=>Br b∧Br e):Br l:=by
 intro w ao cap hl hat;generalize hres:EO l=res;have HR:=ah hres;have HAT:=ah hat;have ku:=ah hall;unfold maxLen at hl;clear hres hat hall;go_enter Tryz.func32,Tryz.ntmps32;go_wp2_with fail;go_loopw [3,5,10] (λs3 _ s wr=> ∃(k:Nat) (R:aY) (n:Int),s= .int .i64 k∧s3= .int .i64 n∧k+R.len=l.len∧res=Gt R n∧(R.All λ_ b e=>Br b∧Br e)∧R.At wr wr.heap.size ao k∧Below w.heap.size w wr) (λ_ _ s _=>l.len -(intOf s).toNat)
 case atStart=>exact⟨0,l,l.len,rfl,rfl,by simp,HR.o.symm,ku.o,HAT.o,ak _ _⟩
 case round=>
  obtain⟨k,R,n,rfl,rfl,hlen,heq,oZ,hrow,hB⟩:=hrel;have HE:=ah heq;have HB:=ah hB;clear heq hB;cases R with
  |nil=>
   obtain rfl:k=l.len:=by simpa[aY.len]using hlen
   go_wp2_with fail;go_ret;exact⟨bV HE.o.symm,HB.o⟩
  |cons h b e R=>
   obtain⟨bl,off,s,rfl,hbl,hin,x0,x1,x2,x3,x4,x5,x6,x7,x8,x9,x10,hrest⟩:=aY.At.head hrow;obtain⟨⟨hsb,hse⟩,Cq⟩:=oZ;have dO:=ah hsb;have E8:=ah hse;have iq:=ah hin;have hkl:k<l.len:=by simp only[aY.len]at hlen;omega
   clear hrow hin hsb hse;go_upto_region 5 with fail;obtain⟨nb,hnb⟩: ∃n,wr.heap.size=n:=⟨_,rfl⟩;generalize hW2:World.alloc wr _=W2;have HY:aj (Sit wr W2 (rA nb h b e s [])):=ah (by rw[<- hW2];exact(Sit.start wr).uW hnb _ _ _ _ _ _ _ _ _ _ _ _);rw[hnb];clear hW2 hnb x0 x1 x2 x3 x4 x5 x6 x7 x8 x9 x10;obtain⟨T,F,Af,hst,hF,hnext⟩:=calm W2;have HF:=ah hF;have dB:=ah hnext;clear hnext hF;have d0:=λx=>(HY.o.next (HF.o x)).2.1.2;have d1:=λx=>(HY.o.next (HF.o x)).2.2.1.2;have d2:=λx=>(HY.o.next (HF.o x)).2.2.2.1.2;have d3:=λx=>(HY.o.next (HF.o x)).2.2.2.2.1.2;have d4:=λx=>(HY.o.next (HF.o x)).2.2.2.2.2.1.2;have d5:=λx=>(HY.o.next (HF.o x)).2.2.2.2.2.2.1.2;have d6:=λx=>(HY.o.next (HF.o x)).2.2.2.2.2.2.2.1.2;have d7:=λx=>(HY.o.next (HF.o x)).2.2.2.2.2.2.2.2.1.2;have d8:=λx=>(HY.o.next (HF.o x)).2.2.2.2.2.2.2.2.2.1.2;have d9:=λx=>(HY.o.next (HF.o x)).2.2.2.2.2.2.2.2.2.2.1.2;have rV:=λx=>(HY.o.next (HF.o x)).2.2.2.2.2.2.2.2.2.2.2.1.2;clear d0 d1 d2 d3 d4 d5 d6 d7 d8;refine jh F (by kernel_rfl) (by kernel_rfl) hst ?_
   repeat (any_goals (first|go_big_quiet_step ((first|(go_at_call_of 32 (Value.slice s.dH b.len s.cu);refine(dO.o _ s.dH s.cu iq.o.1.2.2.2.2.2.2.1 ((iq.o.same HY.o.1).same (HF.o _)).2.2.2.1).mono ?_;rintro e w' ⟨rfl,hb⟩;exact⟨rfl,dB.o _ _ hb⟩)|(go_at_call_of 32 (Value.slice s.iC e.len s.gy);refine(E8.o _ s.iC s.gy iq.o.1.2.2.2.2.2.2.2 ((iq.o.same HY.o.1).same (HF.o _)).2.2.2.2).mono ?_;rintro e w' ⟨rfl,hb⟩;exact⟨rfl,dB.o _ _ hb⟩)))|(refine wpQuiet_step (λK hK=> ?_);go_simp;first|(refine hK _ ?_;clear hK K)|(split <;> first|(refine hK _ ?_;clear hK K)|(apply Exists.intro;refine⟨λ_=> ?_,hK _ ?_⟩;((first|(go_at_call_of 32 (Value.slice s.dH b.len s.cu);refine(dO.o _ s.dH s.cu iq.o.1.2.2.2.2.2.2.1 ((iq.o.same HY.o.1).same (HF.o _)).2.2.2.1).mono ?_;rintro e w' ⟨rfl,hb⟩;exact⟨rfl,dB.o _ _ hb⟩)|(go_at_call_of 32 (Value.slice s.iC e.len s.gy);refine(E8.o _ s.iC s.gy iq.o.1.2.2.2.2.2.2.2 ((iq.o.same HY.o.1).same (HF.o _)).2.2.2.2).mono ?_;rintro e w' ⟨rfl,hb⟩;exact⟨rfl,dB.o _ _ hb⟩)));clear hK K)))))
   all_goals (refine wpQuiet_nil ?_;rintro _ ⟨x,rfl⟩)
   have HB2:=ah (HY.o.1.trans ((HF.o x).mono HY.o.1.size));clear d9 rV HF dB hst;generalize F x=W3 at *;go_wp2_with fail;go_roundw
   case rel=>exact⟨k+1,R,_,by go_num,rfl,by simp only[aY.len]at hlen;omega,HE.o.trans (show Gt R (wrap64 (n+(EO b+EO e)))=_ by rw[<- aw9]),Cq,hrest.same HB2.o,HB.o.trans (HB2.o.mono HB.o.size)⟩
   case measure=>simp[intOf];omega
theorem WZ (l:aY):Br l:=Jp l (aY.nW (λ_ b e hb he=>⟨Jp b hb,Jp e he⟩) l)
namespace Md
def rF:List Th->Int->Int
 | [],n=>n
 |t::r,n=>rF r (wrap64 (n+EO t.body))
theorem ES: ∀(ds pre:List De) (c l n f:Int),(∀d∈ds,jG d=true)->(mg ds pre c l n f).1=0->c+l+n+f<=20->(ds.length:Int)+(c+l+n+f)<=20
 | [],_,_,_,_,_,_,_,h=>by simpa using h
 |d::r,pre,c,l,n,f,hs,h0,h=>by
  have hd:=yE (hs d (by simp));rw[Gv]at h0;split at h0
  ·simp at h0
  split at h0
  ·simp at h0
  split at h0
  ·simp at h0
  rename_i hlim;split at h0
  ·simp at h0
  split at h0
  ·simp at h0
  have hl:dc d c<=12∧dl d l<=4∧dn d n<=2∧df d f<=2:=by unfold lim at hlim;simp only[Bool.or_eq_true,decide_eq_true_eq,not_or]at hlim;omega
  have ih:=ES r (pre++[d]) _ _ _ _ (λx hx=>hs x (by simp[hx])) h0 (by omega);have hsum:c+l+n+f+1<=dc d c+dl d l+dn d n+df d f:=by
   unfold dc dl dn df;have hk:d.kind=1∨d.kind=2∨d.kind=3∨d.kind=4∨d.kind=5∨d.kind=6:=by omega
   rcases hk with hk|hk|hk|hk|hk|hk <;> simp[hk] <;> omega
  simp only[aA];omega
def jV (p:Pr):ByteArray:=(p.ts.head?.map (·.nm)).getD ⟨#[]⟩
def jD (p:Pr):Int×Int:=
 if !pE p then(3,0)else if(mg p.ds [] 0 0 0 0).1 != 0 then mg p.ds [] 0 0 0 0 else
 if decide ((4:Int)<p.ts.length)then(2,0)else if(kF p).1 != 0 then kF p else
 if decide (60<rF p.ts 0)then(2,0)else((iP p (jV p) p.ts 0 [] []).err,(iP p (jV p) p.ts 0 [] []).line)
end Md
theorem IK (p:Pr) (w:World) (aK aM:Option Addr) (aH aD:Nat) (hp:p.At w aK aM) (eH:eG w):
 Calls Tryz.prog 14 #[.agg #[.slice aK p.ds.length aH,.slice aM p.ts.length aD]] w λe w'=>e= .returned (.tuple #[.int .i64 (jD p).1,.int .i64 (jD p).2])∧Below w.heap.size w w':=by
 have HS:aj (jD p=if !pE p then(3,0)else if(mg p.ds [] 0 0 0 0).1 != 0 then mg p.ds [] 0 0 0 0 else
  if decide ((4:Int)<p.ts.length)then(2,0)else if(kF p).1 != 0 then kF p else
  if decide (60<rF p.ts 0)then(2,0)else((iP p (jV p) p.ts 0 [] []).err,(iP p (jV p) p.ts 0 [] []).line)):=ah rfl
 generalize jD p=res at *;have hld:=hp.1;have hlt:=hp.2.1;unfold maxLen at hld hlt;have HP:=ah hp;have jK:=ah eH;clear hp eH;go_enter Tryz.func14,Tryz.ntmps14;go_upto_region 1 with fail;generalize hW:World.alloc w _=W;generalize Value.agg #[_,_]=a0;have HX:=ah ((Sit.start w).wG rfl (.slice aK p.ds.length aH) (.slice aM p.ts.length aD) 26);rw[hW]at HX;clear hW;obtain⟨-,⟨-,c0⟩,⟨-,c1⟩,-⟩:=HX.o;go_wp2_with fail;refine(UH p _ aK aM aH aD (HP.o.same HX.o.1) (jK.o.same HX.o.1)).mono ?_;rintro e w1 ⟨rfl,hb1⟩;have HY:=ah (HX.o.next hb1);clear HX hb1 c0 c1;obtain⟨-,⟨-,c0⟩,⟨-,c1⟩,-⟩:=HY.o;have BR:aj (pE p=true->(∀d∈p.ds,jG d=true)∧∃t0 r0,p.ts=t0::r0):=ah (λh=>by
  unfold pE at h;simp only[aJ,List.all_eq_true,decide_eq_true_eq]at h;refine⟨h.1.1,?_⟩;cases hts:p.ts with
  |nil=>rw[hts]at h;simp at h
  |cons a b=>exact⟨a,b,rfl⟩)
 cases hS:pE p
 ·have HE:aj (res=(3,0)):=ah (HS.o.trans (by rw[hS];rfl));clear BR;go_wp2_with fail
  go_ret2
  exact⟨qC (by rw[HE.o];rfl) (by rw[HE.o];rfl),HY.o.1⟩
 ·have HE:aj (res=if(mg p.ds [] 0 0 0 0).1 != 0 then mg p.ds [] 0 0 0 0 else
   if decide ((4:Int)<p.ts.length)then(2,0)else if(kF p).1 != 0 then kF p else
   if decide (60<rF p.ts 0)then(2,0)else((iP p (jV p) p.ts 0 [] []).err,(iP p (jV p) p.ts 0 [] []).line)):=ah (HS.o.trans (by rw[hS];rfl))
  have wR:=ah (BR.o hS);have FV:aj ((mg p.ds [] 0 0 0 0).1=0->p.ds.length<=20):=ah (λh0=>by have:=ES p.ds [] 0 0 0 0 wR.o.1 h0 (by omega);omega);clear HS BR;go_wp2_with fail;refine(Jq p.ds _ aK aH HP.o.1 ((HP.o.same HY.o.1).2.2.1) wR.o.1).mono ?_;rintro e w2 ⟨rfl,hb2⟩;have HZ:=ah (HY.o.next hb2);clear HY hb2 c0 c1;obtain⟨-,⟨-,c0⟩,⟨-,c1⟩,-⟩:=HZ.o;generalize mg p.ds [] 0 0 0 0=dd at *;cases h1:(dd.1 != 0)
  case true=>
   have dL:aj (res=dd):=ah (HE.o.trans (if_pos h1));clear HE wR FV;go_wp2_with fail
   go_ret2
   exact⟨qC (by rw[dL.o];rfl) (by rw[dL.o];rfl),HZ.o.1⟩
  have HSU:=ah (FV.o (by simpa using h1));clear FV;have JY:aj (res=if decide ((4:Int)<p.ts.length)then(2,0)else if(kF p).1 != 0 then kF p else
   if decide (60<rF p.ts 0)then(2,0)else((iP p (jV p) p.ts 0 [] []).err,(iP p (jV p) p.ts 0 [] []).line)):=ah (HE.o.trans (if_neg (by rw[h1];decide)))
  clear HE;by_cases h4:(4:Int)<(p.ts.length:Int)
  ·have dL:aj (res=(2,0)):=ah (JY.o.trans (if_pos (by simpa using h4)));clear JY wR;go_wp2_with fail
   go_ret2
   exact⟨qC (by rw[dL.o];rfl) (by rw[dL.o];rfl),HZ.o.1⟩
  have HE2:aj (res=if(kF p).1 != 0 then kF p else
   if decide (60<rF p.ts 0)then(2,0)else((iP p (jV p) p.ts 0 [] []).err,(iP p (jV p) p.ts 0 [] []).line)):=ah (JY.o.trans (if_neg (by simpa using h4)))
  have h4':(p.ts.length:Int)<=4:=by omega
  have E9:aj (p.ts.length<=4):=ah (by omega);clear JY;go_wp2_with fail;refine(RO p _ aK aM aH aD (HP.o.same HZ.o.1) (by have:=HSU.o;have:=E9.o;unfold maxLen;omega)).mono ?_;rintro e w3 ⟨rfl,hb3⟩;have HV:=ah (HZ.o.next hb3);clear HZ hb3 c0 c1 h1;obtain⟨-,⟨-,c0⟩,⟨-,c1⟩,-⟩:=HV.o;generalize kF p=tt at *;cases h2:(tt.1 != 0)
  case true=>
   have dL:aj (res=tt):=ah (HE2.o.trans (if_pos h2));clear HE2 wR;go_wp2_with fail
   go_ret2
   exact⟨qC (by rw[dL.o];rfl) (by rw[dL.o];rfl),HV.o.1⟩
  have pG:aj (res=if decide (60<rF p.ts 0)then(2,0)else((iP p (jV p) p.ts 0 [] []).err,(iP p (jV p) p.ts 0 [] []).line)):=ah (HE2.o.trans (if_neg (by rw[h2];decide)));clear HE2;have qA:=(HP.o.same HV.o.1).2.2.2;go_wp2_with fail;go_loopw [8,10,40] (λs8 _ s wr=> ∃(k:Nat) (R:List Th) (n:Int),s= .int .i64 k∧s8= .int .i64 n∧k+R.length=p.ts.length∧rF p.ts 0=rF R n∧iJ wr wr.heap.size R aM k∧Sit w wr [(w.heap.size,0,(.slice aK p.ds.length aH)),(w.heap.size,1,(.slice aM p.ts.length aD))]) (λ_ _ s _=>p.ts.length -(intOf s).toNat)
  case atStart=>exact⟨0,p.ts,0,rfl,rfl,by simp,rfl,qA,HV.o⟩
  case round=>
   obtain⟨k,R,n,rfl,rfl,hlen,heq,hrow,hsit⟩:=hrel;have HU:=ah hsit;have HQ:=ah heq;clear hsit HV c0 c1 qA heq h2;obtain⟨-,⟨-,c0⟩,⟨-,c1⟩,-⟩:=HU.o;cases R with
   |nil=>
    obtain rfl:k=p.ts.length:=(by simpa using hlen);have HN:aj (rF p.ts 0=n):=HQ;by_cases h6:60<n
    ·have dL:aj (res=(2,0)):=ah (pG.o.trans (if_pos (by rw[HN.o];simpa using h6)));clear pG wR;go_wp2_with fail
     go_ret2
     exact⟨qC (by rw[dL.o];rfl) (by rw[dL.o];rfl),HU.o.1⟩
    ·have h6':n<=60:=(by omega);obtain⟨-,t0,r0,hts⟩:=wR.o;have qx:=ah hts;have HHN:aj (jV p=t0.nm):=ah (by unfold jV;rw[hts];rfl);have dL:aj (res=((iP p t0.nm p.ts 0 [] []).err,(iP p t0.nm p.ts 0 [] []).line)):=ah (pG.o.trans ((if_neg (by rw[HN.o];simpa using h6)).trans (by rw[HHN.o])));clear pG wR hts;go_wp2_with fail;refine(Rs p _ aK aM aH aD t0 r0 qx.o (by have:=E9.o;unfold maxLen;omega) (by have:=HSU.o;unfold maxLen;omega) (HP.o.same HU.o.1) (jK.o.same HU.o.1)).mono ?_;rintro e w4 ⟨rfl,hb4⟩;go_wp2_with fail
     go_ret2
     exact⟨qC (by rw[dL.o];rfl) (by rw[dL.o];rfl),(HU.o.next hb4).1⟩
   |cons t R=>
    obtain⟨⟨b,off,iR,eX,dH,cu,rfl,hB,x0,x1,x2,x3,hok,htx,hst,hcl⟩,hrest⟩:=hrow;simp only[aA]at hlen;have hkl:k<p.ts.length:=(by omega);have kU:=ah hok;have HST:=ah hst;clear hok htx hst hcl;go_upto_region 15 with fail;clear c0 c1;obtain⟨n2,hn2⟩: ∃n,wr.heap.size=n:=⟨_,rfl⟩;generalize hW2:World.alloc wr _=W2;have HB2:aj (Below wr.heap.size wr W2):=ah (by rw[<- hW2];exact au _ _);have HV:aj (Sit w W2 ((n2,0,.string t.nm)::(n2,1,.int .i64 t.line)::(n2,2,.slice iR t.cO.length eX)::(n2,3,.slice dH t.body.len cu)::[(w.heap.size,0,(.slice aK p.ds.length aH)),(w.heap.size,1,(.slice (some ⟨b,off,none⟩) p.ts.length aD))])):=ah (by rw[<- hW2];exact HU.o.zi hn2 _ _ _ _ _);rw[hn2];clear hW2 hn2 x0 x1 x2 x3;obtain⟨-,⟨-,c0⟩,⟨-,c1⟩,⟨-,c2⟩,⟨-,c3⟩,⟨-,c4⟩,⟨-,c5⟩,-⟩:=HV.o;go_wp2_with fail;refine(WZ t.body _ dH cu kU.o.2.2.2 (HST.o.same HB2.o)).mono ?_;rintro e' w4 ⟨rfl,hb4⟩;have nN:=ah (HB2.o.trans (hb4.mono HB2.o.size));clear hb4 c0 c1 c2 c3 c4 c5;go_wp2_with fail;go_roundw
    case rel=>exact⟨k+1,R,_,by go_num,rfl,by omega,HQ.o.trans rfl,hrest.same nN.o,HU.o.next nN.o⟩
    case measure=>simp[intOf];omega
end Go.Proofs.YtmildapbbcbbhaaGreatDoor
