/- The checker's state as data, and the contract of its statement at every operator. And what hangs on it. -/
import Derived.Test.YtdoplekppjkkpaaGreatDoorGMG
set_option linter.unusedSimpArgs false
set_option linter.unusedVariables false
set_option maxHeartbeats 40000000
set_option maxRecDepth 1000000
namespace Go.Proofs.YtdoplekppjkkpaaGreatDoor
open Go.RowKit
namespace Md
structure Fr where
 h:dF
 b:aZ
 e:aZ
 s:Sl
def dA:List Fr->aZ
 | []=> .nil
 |x::r=> .cons x.h x.b x.e (dA r)
def qg (h:dF) (b e:aZ) (s:Sl):List Value:=[.int .i64 h.op,.int .i64 h.line,.string h.nm,.string h.arg,.slice s.gU h.idx.len s.gy,.int .i64 h.dP,.int .i64 h.xn,.string h.dO,.slice s.fT h.bJ.len s.eB,.slice s.dB b.len s.cu,.slice s.iD e.len s.gu]
def BF:List Fr->List Value
 | []=>[]
 |x::r=>qg x.h x.b x.e x.s++BF r
theorem F3: ∀A:List Fr,(BF A).length=A.length*11
 | []=>rfl
 |x::r=>by simp only[BF,aA,F3 r,aD];simp[qg];omega
theorem CU: ∀(A:List Fr) (x:Fr),BF (A++[x])=BF A++qg x.h x.b x.e x.s
 | [],x=>by simp[BF]
 |y::r,x=>by simp[BF,CU r x]
theorem rW: ∀A:List Fr,(dA A).len=A.length
 | []=>rfl
 |x::r=>by simp[dA,aZ.len,rW r]
def uJ (w:World) (B:Nat) (h:dF) (b e:aZ) (s:Sl):Prop:=xg h b e∧h.idx.At w B s.gU 0∧h.bJ.At w B s.fT 0∧b.At w B s.dB 0∧e.At w B s.iD 0
theorem uJ.below {w w':World} {B:Nat} {h:dF} {b e:aZ} {s:Sl} (hi:uJ w B h b e s) (hb:Below B w w'):uJ w' B h b e s:=
 ⟨hi.1,hi.2.1.below hb,hi.2.2.1.below hb,hi.2.2.2.1.below hb,hi.2.2.2.2.below hb⟩
theorem uJ.use {w:World} {B:Nat} {h:dF} {b e:aZ} {s:Sl} (hi:uJ w B h b e s) (hb:B<=w.heap.size):Eh w h b e s:=
 ⟨hi.1,hi.2.1.mono hb,hi.2.2.1.mono hb,hi.2.2.2.1.mono hb,hi.2.2.2.2.mono hb⟩
def Zi (w:World) (B:Nat) (A:List Fr):Prop:= ∀x∈A,uJ w B x.h x.b x.e x.s
theorem Vr {w:World} {B B' g:Nat} (hB:B<=B') (hg:g<B'): ∀(A:List Fr) (k:Nat),(∀j u,(BF A)[j]? =some u->w.cell? ⟨g,k*11+j,none⟩=some u)->Zi w B A->(dA A).At w B' (some ⟨g,0,none⟩) k
 | [],_,_,_=>trivial
 |x::r,k,hc,hin=>by
  have hx:=hin x agJ;have c: ∀j u,(qg x.h x.b x.e x.s)[j]? =some u->w.cell? ⟨g,0+k*11+j,none⟩=some u:=λj u hu=>by rw[aU];refine hc j u ?_;have:j<(qg x.h x.b x.e x.s).length:=(List.getElem?_eq_some_iff.1 hu).1;rw[BF,List.getElem?_append_left this];exact hu
  refine⟨⟨g,0,x.s.gU,x.s.gy,x.s.fT,x.s.eB,x.s.dB,x.s.cu,x.s.iD,x.s.gu,rfl,hg,c 0 _ rfl,c 1 _ rfl,c 2 _ rfl,c 3 _ rfl,c 4 _ rfl,c 5 _ rfl,c 6 _ rfl,c 7 _ rfl,c 8 _ rfl,c 9 _ rfl,c 10 _ rfl,hx.1,hx.2.1.mono hB,hx.2.2.1.mono hB,hx.2.2.2.1.mono hB,hx.2.2.2.2.mono hB⟩,?_⟩;refine Vr hB hg r (k+1) (λj u hu=> ?_) (λy hy=>hin y ahc);have:=hc (11+j) u (by rw[BF,List.getElem?_append_right (by simp[qg])];simpa[qg]using hu);rw[show(k+1)*11+j=k*11+(11+j) by omega];exact this
def jG (p:Pr) (j:Nat) (tn iB:ByteArray) (ar:aZ) (f g:List UInt8->Bool) (h:dF):Int:=
 if h.op==1 then Ho p j h else if h.op==2||h.op==3 then lU p j h.dP h.xn h.dO h.bJ else
 if h.op==4 then gF [dQ (mean p j h.nm) [4],nest (fG ar [7]||rA ar h.nm [4])]else
 if h.op==5||h.op==6 then gF [dQ (mean p j h.nm) [5],nest (fG ar [7]||rA ar h.nm [5,6])]else
 if h.op==7 then nest (fG ar [7])else if h.op==8 then nest (fG ar [7,8])else
 if h.op==9||h.op==10||h.op==11 then gF [dQ (mean p j h.nm) [6],nest ((fG ar [7]|| !rA ar (pE p.ds h.nm) [4])||(h.op==9&&fG ar [8]))]else
 if h.op==12 then gF [dQ (mean p j h.nm) [8],nest (fG ar [7,8,3]||(h.nm.toList==tn.toList||h.nm.toList==iB.toList)),(lg (f h.nm.toList))]else
 if h.op==13 then gF [dQ (mean p j h.nm) [8],nest (fG ar [7,8]||h.nm.toList==tn.toList)]else
 if h.op==14 then gF [dQ (mean p j h.nm) [7],nest (fG ar [7,3]),(lg (g h.nm.toList)),lU p j h.dP h.xn h.dO h.bJ]else
 if h.op==15 then gF [dQ (mean p j h.nm) [1],dQ (mean p j h.arg) [7],nest (fG ar [7])]else 0
end Md
open Md
def ckV (p:Pr) (aK aM:Option Addr) (aH aG:Nat) (i:Int) (v:Value) (bs bt:Nat):Array Value:= #[.slice aK p.ds.length aH,.slice aM p.ts.length aG,.int .i64 i,v,.map (some bs),.map (some bt)]
structure Lay where
 B0:Nat
 B1:Nat
 bc:Nat
 bs:Nat
 bt:Nat
 c0:B0<=bc
 s0:B0<=bs
 t0:B0<=bt
 c1:bc<B1
 s1:bs<B1
 t1:bt<B1
 cs:bc≠bs
 ct:bc≠bt
 st:bs≠bt
 kw:0<B0
def TJ (w:World) (B0:Nat) (p:Pr) (aK aM:Option Addr):Prop:=p.ds.length<=maxLen∧p.ts.length<=maxLen∧jv w B0 p.ds aK 0∧iG w B0 p.ts aM 0∧dW w
theorem TJ.below {w w':World} {L:Lay} {p:Pr} {aK aM:Option Addr} (h:TJ w L.B0 p aK aM) (hb:Below L.B0 w w'):TJ w' L.B0 p aK aM:=
 ⟨h.1,h.2.1,h.2.2.1.below hb,h.2.2.2.1.below hb,h.2.2.2.2.below hb L.kw⟩
theorem TJ.use {w:World} {B0:Nat} {p:Pr} {aK aM:Option Addr} (h:TJ w B0 p aK aM) (hB:B0<=w.heap.size):p.At w aK aM:=⟨h.1,h.2.1,h.2.2.1.mono hB,h.2.2.2.1.mono hB⟩
structure Kp (L:Lay) (v:Value) (w w':World):Prop where
 os:w'.os=w.os
 tape:w'.tape=w.tape
 output:w'.output=w.output
 size:w.heap.size<=w'.heap.size
 block: ∀k,k<w.heap.size->k≠L.bc->k≠L.bs->k≠L.bt->v.ownBlock≠some k->w'.heap[k]? =w.heap[k]?
def Bd (w:World) (v v':Value):Prop:=v'.ownBlock=v.ownBlock∨∃g,v'.ownBlock=some g∧w.heap.size<=g
theorem Kp.refl (L:Lay) (v:Value) (w:World):Kp L v w w:=⟨rfl,rfl,rfl,aB _,λ_ _ _ _ _ _=>rfl⟩
theorem Kp.of_below {L:Lay} {v:Value} {w w':World} (h:Below w.heap.size w w'):Kp L v w w':=⟨h.os,h.tape,h.output,h.size,λk hk _ _ _ _=>h.block k hk⟩
theorem Kp.trans {L:Lay} {v v1:Value} {w w1 w2:World} (h:Kp L v w w1) (ho:Bd w v v1∨v1.ownBlock=none) (k:Kp L v1 w1 w2):Kp L v w w2:=
 ⟨k.os.trans h.os,k.tape.trans h.tape,k.output.trans h.output,aJ h.size k.size,λj hj hc hs ht hv=>(k.block j (aR hj h.size) hc hs ht (by
   rcases ho with(e|⟨g,e,hg⟩)|e
   ·rw[e];exact hv
   ·rw[e];intro e';injection e' with e';omega
   ·rw[e];simp)).trans (h.block j hj hc hs ht hv)⟩
theorem Kp.below {L:Lay} {v:Value} {w w':World} (h:Kp L v w w') (hB:L.B0<=w.heap.size) (hv: ∀k,v.ownBlock=some k->L.B1<=k):Below L.B0 w w':=
 ⟨h.os,h.tape,h.output,h.size,λk hk=>h.block k agH (by have:=L.c0;omega) (by have:=L.s0;omega) (by have:=L.t0;omega) (λe=>acw)⟩
theorem Kp.far {L:Lay} {v:Value} {w w':World} {k:Nat} (h:Kp L v w w') (hk:k<w.heap.size) (hB:L.B1<=k) (hv:v.ownBlock≠some k):w'.heap[k]? =w.heap[k]?:=
 h.block k hk afU (by have:=L.s1;omega) (by have:=L.t1;omega) hv
theorem Bd.trans {w w1:World} {v v1 v2:Value} (h:Bd w v v1) (k:Bd w1 v1 v2) (hs:w.heap.size<=w1.heap.size):Bd w v v2:=by
 rcases k with e|⟨g,e,hg⟩
 ·rcases h with e'|⟨g,e',hg⟩
  ·exact .inl (e.trans e')
  ·exact .inr ⟨g,e.trans e',hg⟩
 ·exact .inr ⟨g,e,aJ hs hg⟩
theorem Bd.ne {w:World} {v v':Value} {k:Nat} (h:Bd w v v') (hk:k<w.heap.size) (hv:v.ownBlock≠some k):v'.ownBlock≠some k:=by
 rcases h with e|⟨g,e,hg⟩
 ·rw[e];exact hv
 ·rw[e];intro e';injection e' with e';omega
structure ny (w:World) (L:Lay) (p:Pr) (aK aM:Option Addr) (aH aG:Nat) (i:Int) (A:List Fr) (f g:List UInt8->Bool) (n m:Nat) (v:Value):Prop where
 blk:w.heap[L.bc]? =some (.cells (ckV p aK aM aH aG i v L.bs L.bt) 152 (0,0))
 row:w.ownsRow L.B1 74 11 v A.length (BF A)
 ms:jI w L.bs n f
 mt:jI w L.bt m g
 sz:L.B1<=w.heap.size
 dat:TJ w L.B0 p aK aM
 qw:Zi w L.B0 A
section
variable {w:World} {L:Lay} {p:Pr} {aK aM:Option Addr} {aH aG:Nat} {i:Int} {A:List Fr} {f g:List UInt8->Bool} {n m:Nat} {v:Value}
theorem ny.b0 (h:ny w L p aK aM aH aG i A f g n m v):L.B0<=w.heap.size:=adU
theorem ny.form (h:ny w L p aK aM aH aG i A f g n m v): ∃cO bR,v= .slice cO A.length bR∧(dA A).At w w.heap.size cO 0:=by
 rcases h.row.2 with⟨rfl,hn⟩|⟨g',cap,cur,rfl,hb,hg,h1,h2,h3,h4⟩
 ·have:A=[]:=List.eq_nil_of_length_eq_zero hn;subst this;exact⟨none,0,rfl,trivial⟩
 ·refine⟨_,_,rfl,Vr h.b0 (aO hg) A 0 (λj u hu=> ?_) h.qw⟩;rw[Nat.zero_mul,aU,cell_of_row w g' j cur _ (0,0) hg];rw[<- h4,List.getElem?_take]at hu;split at hu
  ·simpa using hu
  ·cases hu
theorem eX {w:World} {b j:Nat} {cs:Array Value} {t:TypeId} {fr:Nat×Nat} {u:Value} (h:w.heap[b]? =some (.cells cs t fr)) (hu:cs[j]? =some u):b<w.heap.size∧w.cell? ⟨b,j,none⟩=some u:=
 ⟨(aO h),by rw[cell_of_row w b j cs t fr h];exact hu⟩
theorem ny.holds {cO:Option Addr} {bR:Nat} (h:ny w L p aK aM aH aG i A f g n m (.slice cO A.length bR)):Holds w (vC L.bc p aK aM aH aG i cO (dA A).len bR L.bs L.bt):=by
 have hb:=h.blk;rw[rW];exact⟨eX hb (j:=0) rfl,eX hb (j:=1) rfl,eX hb (j:=2) rfl,eX hb (j:=3) rfl,eX hb (j:=4) rfl,eX hb (j:=5) rfl,trivial⟩
theorem ny.below {w':World} (h:ny w L p aK aM aH aG i A f g n m v) (hb:Below w.heap.size w w'):ny w' L p aK aM aH aG i A f g n m v where
 blk:=(hb.block _ (aO h.blk)).trans h.blk
 row:=h.row.kept (row:=none) ⟨hb.os,hb.tape,hb.output,hb.size,λk hk _=>hb.block k hk⟩ acS
 ms:=h.ms.next hb
 mt:=h.mt.next hb
 sz:=aJ h.sz hb.size
 dat:=h.dat.below (hb.mono h.b0)
 qw:=λx hx=>(h.qw x hx).below (hb.mono h.b0)
theorem ny.own_ne (h:ny w L p aK aM aH aG i A f g n m v) {b:Nat} (hb:b<L.B1):v.ownBlock=none∨v.ownBlock≠some b:=by
 cases hv:v.ownBlock with
 |none=>exact .inl rfl
 |some k=>refine .inr (λe=> ?_);injection e with e;subst e;have:=(h.row.lt _ hv).1;omega
theorem ny.bA1 {w':World} {f':List UInt8->Bool} {n':Nat} (h:ny w L p aK aM aH aG i A f g n m v) (hg:w.grownBy w' (some L.bs)) (hm:jI w' L.bs n' f'):ny w' L p aK aM aH aG i A f' g n' m v:=by
 have hbel:=cK hg L.s0 h.b0;exact {blk:=(hg.block _ (aO h.blk) (by simp;exact L.cs)).trans h.blk,row:=h.row.kept hg (h.own_ne L.s1),ms:=hm,mt:=h.mt.same (hg.block _ h.mt.lt (by simp;exact L.st.symm)),sz:=aJ h.sz hg.size,dat:=h.dat.below hbel,qw:=λx hx=>(h.qw x hx).below hbel}
theorem ny.bA2 {w':World} {g':List UInt8->Bool} {m':Nat} (h:ny w L p aK aM aH aG i A f g n m v) (hg:w.grownBy w' (some L.bt)) (hm:jI w' L.bt m' g'):ny w' L p aK aM aH aG i A f g' n m' v:=by
 have hbel:=cK hg L.t0 h.b0;exact {blk:=(hg.block _ (aO h.blk) (by simp;exact L.ct)).trans h.blk,row:=h.row.kept hg (h.own_ne L.t1),ms:=h.ms.same (hg.block _ h.ms.lt (by simp;exact L.st)),mt:=hm,sz:=aJ h.sz hg.size,dat:=h.dat.below hbel,qw:=λx hx=>(h.qw x hx).below hbel}
end
def fS (h:dF) (f:List UInt8->Bool):List UInt8->Bool:=if h.op==12 then Ak f h.nm.toList else f
def gS (h:dF) (g:List UInt8->Bool):List UInt8->Bool:=if h.op==14 then Ak g h.nm.toList else g
def nS (k:Int) (h:dF) (n:Nat):Nat:=if h.op==k then n+1 else n
def zZ (w:World) (L:Lay) (p:Pr) (aK aM:Option Addr) (aH aG:Nat) (i:Int) (A:List Fr) (h:dF) (f g:List UInt8->Bool) (n m:Nat) (v:Value) (r:Int) (e:Ending) (w':World):Prop:=
 e= .returned (.int .i64 r)∧Kp L (.slice none 0 0) w w'∧ny w' L p aK aM aH aG i A (fS h f) (gS h g) (nS 12 h n) (nS 14 h m) v
theorem zZ.plain {w w':World} {L:Lay} {p:Pr} {aK aM:Option Addr} {aH aG:Nat} {i:Int} {A:List Fr} {h:dF} {f g:List UInt8->Bool} {n m:Nat} {v:Value} {r x:Int} {e:Ending}
 (hI:ny w L p aK aM aH aG i A f g n m v) (h12:(h.op==12)=false) (uM:(h.op==14)=false) (hr:r=x) (hp:e= .returned (.int .i64 x)∧Below w.heap.size w w'):zZ w L p aK aM aH aG i A h f g n m v r e w':=by
 subst hr;refine⟨hp.1,Kp.of_below hp.2,?_⟩;unfold fS gS nS;rw[h12,uM];exact hI.below hp.2
theorem ny.grow {w w':World} {L:Lay} {p:Pr} {aK aM:Option Addr} {aH aG:Nat} {i:Int} {A:List Fr} {f g:List UInt8->Bool} {n m:Nat} {v:Value} {b:Nat}
 (h:ny w L p aK aM aH aG i A f g n m v) (hb:L.B0<=b) (hb1:b<L.B1) (hg:w.grownBy w' (some b)):p.At w' aK aM∧dW w'∧∀cO bR,v= .slice cO A.length bR->(dA A).At w' w'.heap.size cO 0:=by
 have hbel:=cK hg hb h.b0;have hd:=h.dat.below hbel;have hB:L.B0<=w'.heap.size:=aJ h.b0 hg.size;refine⟨hd.use hB,hd.2.2.2.2,λcO bR hv=> ?_⟩;rcases(h.row.kept hg (h.own_ne hb1)).2 with⟨e,hn⟩|⟨g',cap,cur,e,hbb,hgg,h1,h2,h3,h4⟩
 ·have:A=[]:=List.eq_nil_of_length_eq_zero hn;subst this;exact trivial
 ·rw[hv]at e;injection e with e1 e2 e3;subst e1;refine Vr hB (aO hgg) A 0 (λj u hu=> ?_) (λx hx=>(h.qw x hx).below hbel);rw[Nat.zero_mul,aU,cell_of_row w' g' j cur _ (0,0) hgg];rw[<- h4,List.getElem?_take]at hu;split at hu
  ·simpa using hu
  ·cases hu
theorem Vh (w:World) (L:Lay) (p:Pr) (aK aM:Option Addr) (aH aG:Nat) (j:Nat) (A:List Fr) (f g:List UInt8->Bool) (n m:Nat) (v:Value) (t t0:Th) (r r0:List Th) (hd:p.ts.drop j=t::r) (hts:p.ts=t0::r0) (hj:bY (j:Int)) (hA:A.length<=maxLen) (hn:n<maxLen) (hm:m<maxLen)
 (hI:ny w L p aK aM aH aG (j:Int) A f g n m v) (h:dF) (b e:aZ) (s:Sl) (hin:uJ w L.B0 h b e s):
 Calls Tryz.prog 113 #[.pointer (some ⟨L.bc,0,none⟩),iE h b e s] w (zZ w L p aK aM aH aG (j:Int) A h f g n m v (jG p j t.nm t0.nm (dA A) f g h)):=by
 obtain⟨cO,bR,rfl,hat⟩:=hI.form;have hp:=hI.dat.use hI.b0;have hin':=hin.use hI.b0;have eG:=hI.dat.2.2.2.2;have hal:(dA A).len<=maxLen:=agF
 have hh:=hI.holds;by_cases h0:h.op<1∨15<h.op
 ·refine(qY p w aK aM aH aG j cO bR L.bs L.bt L.bc h b e (dA A) s hj hp hin' eG hal hat hh (.inl ⟨h0,rfl⟩)).mono (λe' w' hr=>zZ.plain hI ?_ ?_ ?_ hr)
  ·rw[beq_eq_false_iff_ne];omega
  ·rw[beq_eq_false_iff_ne];omega
  ·have hb: ∀k:Int,1<=k->k<=15->(h.op==k)=false:=λk h1 h2=>by rw[beq_eq_false_iff_ne];omega
   unfold jG;simp[hb]
 ·have hc:h.op=1∨(h.op=2∨h.op=3)∨h.op=4∨(h.op=5∨h.op=6)∨h.op=7∨h.op=8∨(h.op=9∨h.op=10∨h.op=11)∨h.op=12∨h.op=13∨h.op=14∨h.op=15:=by omega
  rcases hc with hc|hc|hc|hc|hc|hc|hc|hc|hc|hc|hc
  ·exact(qY p w aK aM aH aG j cO bR L.bs L.bt L.bc h b e (dA A) s hj hp hin' eG hal hat hh (.inr (.inl ⟨hc,rfl⟩))).mono (λe' w' hr=>zZ.plain hI agV agV afe hr)
  ·exact(qY p w aK aM aH aG j cO bR L.bs L.bt L.bc h b e (dA A) s hj hp hin' eG hal hat hh (.inr (.inr (.inl ⟨hc,rfl⟩)))).mono (λe' w' hr=>zZ.plain hI acM acM acd hr)
  ·exact(qY p w aK aM aH aG j cO bR L.bs L.bt L.bc h b e (dA A) s hj hp hin' eG hal hat hh (.inr (.inr (.inr (.inl ⟨hc,rfl⟩))))).mono (λe' w' hr=>zZ.plain hI agV agV afe hr)
  ·exact(qY p w aK aM aH aG j cO bR L.bs L.bt L.bc h b e (dA A) s hj hp hin' eG hal hat hh (.inr (.inr (.inr (.inr (.inl ⟨hc,rfl⟩)))))).mono (λe' w' hr=>zZ.plain hI acM acM acd hr)
  ·exact(qY p w aK aM aH aG j cO bR L.bs L.bt L.bc h b e (dA A) s hj hp hin' eG hal hat hh (.inr (.inr (.inr (.inr (.inr (.inl ⟨hc,rfl⟩))))))).mono (λe' w' hr=>zZ.plain hI agV agV afe hr)
  ·exact(qY p w aK aM aH aG j cO bR L.bs L.bt L.bc h b e (dA A) s hj hp hin' eG hal hat hh (.inr (.inr (.inr (.inr (.inr (.inr (.inl ⟨hc,rfl⟩)))))))).mono (λe' w' hr=>zZ.plain hI agV agV afe hr)
  ·exact(qY p w aK aM aH aG j cO bR L.bs L.bt L.bc h b e (dA A) s hj hp hin' eG hal hat hh (.inr (.inr (.inr (.inr (.inr (.inr (.inr (.inl ⟨hc,rfl⟩))))))))).mono (λe' w' hr=>zZ.plain hI acp acp (by unfold jG;rcases hc with hc|hc|hc <;> simp[hc]) hr)
  ·have hcl:=λw' (hg:w.grownBy w' (some L.bs))=>hI.grow L.s0 L.s1 hg;refine(aa1 p w aK aM aH aG cO bR L.bs L.bt L.bc j t t0 r r0 hd hts h b e (dA A) s hj (λw' hg=>(hcl w' hg).1) hin.1 (λw' hg=>(hin.2.2.1.below (cK hg L.s0 hI.b0)).mono (aJ hI.b0 hg.size)) (λw' hg=>(hcl w' hg).2.1) hal (λw' hg=>(hcl w' hg).2.2 _ _ rfl) hh L.cs n f hn hI.ms hc).mono ?_;rintro e' w' ⟨h1,h2,h3⟩;refine⟨by rw[h1];unfold jG;simp[hc],⟨h3.os,h3.tape,h3.output,h3.size,λk hk _ hs _ _=>h3.block k hk (by simp;exact hs)⟩,?_⟩;unfold fS gS nS;rw[hc];exact hI.bA1 h3 h2
  ·exact(qY p w aK aM aH aG j cO bR L.bs L.bt L.bc h b e (dA A) s hj hp hin' eG hal hat hh (.inr (.inr (.inr (.inr (.inr (.inr (.inr (.inr (.inr ⟨hc,j,t,r,rfl,hd,rfl⟩)))))))))).mono (λe' w' hr=>zZ.plain hI agV agV afe hr)
  ·have hcl:=λw' (hg:w.grownBy w' (some L.bt))=>hI.grow L.t0 L.t1 hg;refine(aa2 p w aK aM aH aG j cO bR L.bs L.bt L.bc h b e (dA A) s hj (λw' hg=>(hcl w' hg).1) hin.1 (λw' hg=>(hin.2.2.1.below (cK hg L.t0 hI.b0)).mono (aJ hI.b0 hg.size)) (λw' hg=>(hcl w' hg).2.1) hal (λw' hg=>(hcl w' hg).2.2 _ _ rfl) hh L.ct m g hm hI.mt hc).mono ?_;rintro e' w' ⟨h1,h2,h3⟩;refine⟨by rw[h1];unfold jG;simp[hc],⟨h3.os,h3.tape,h3.output,h3.size,λk hk _ _ ht _=>h3.block k hk (by simp;exact ht)⟩,?_⟩;unfold fS gS nS;rw[hc];exact hI.bA2 h3 h2
  ·exact(qY p w aK aM aH aG j cO bR L.bs L.bt L.bc h b e (dA A) s hj hp hin' eG hal hat hh (.inr (.inr (.inr (.inr (.inr (.inr (.inr (.inr (.inl ⟨hc,rfl⟩)))))))))).mono (λe' w' hr=>zZ.plain hI agV agV afe hr)
namespace Md
def aZ.app:aZ->aZ->aZ
 | .nil,s=>s
 | .cons h b e r,s=> .cons h b e (r.app s)
theorem Ae: ∀(A:List Fr) (x:Fr),dA (A++[x])=(dA A).app (.cons x.h x.b x.e .nil)
 | [],_=>rfl
 |y::r,x=>by simp only[List.cons_append,dA,aZ.app,Ae r x]
structure Nq where
 err:Int
 line:Int
 f:List (List UInt8)
 g:List (List UInt8)
def mem (l:List (List UInt8)):List UInt8->Bool:=λx=>l.contains x
def fL (k:Int) (h:dF) (f:List (List UInt8)):List (List UInt8):=if h.op==k then h.nm.toList::f else f
def gX (p:Pr) (j:Nat) (tn iB:ByteArray):aZ->aZ->List (List UInt8)->List (List UInt8)->Nq
 | .nil,_,f,g=>⟨0,0,f,g⟩
 | .cons h b e r,ar,f,g=>
   if decide (6<ar.len+1)then⟨2,h.line,f,g⟩else
   if jG p j tn iB ar (mem f) (mem g) h != 0 then⟨jG p j tn iB ar (mem f) (mem g) h,h.line,f,g⟩else
   if(gX p j tn iB b (ar.app (.cons h b e .nil)) (fL 12 h f) (fL 14 h g)).err != 0 then gX p j tn iB b (ar.app (.cons h b e .nil)) (fL 12 h f) (fL 14 h g)else
   if(gX p j tn iB e (ar.app (.cons h b e .nil)) (gX p j tn iB b (ar.app (.cons h b e .nil)) (fL 12 h f) (fL 14 h g)).f (gX p j tn iB b (ar.app (.cons h b e .nil)) (fL 12 h f) (fL 14 h g)).g).err != 0 then
    gX p j tn iB e (ar.app (.cons h b e .nil)) (gX p j tn iB b (ar.app (.cons h b e .nil)) (fL 12 h f) (fL 14 h g)).f (gX p j tn iB b (ar.app (.cons h b e .nil)) (fL 12 h f) (fL 14 h g)).g else
   gX p j tn iB r ar (gX p j tn iB e (ar.app (.cons h b e .nil)) (gX p j tn iB b (ar.app (.cons h b e .nil)) (fL 12 h f) (fL 14 h g)).f (gX p j tn iB b (ar.app (.cons h b e .nil)) (fL 12 h f) (fL 14 h g)).g).f
    (gX p j tn iB e (ar.app (.cons h b e .nil)) (gX p j tn iB b (ar.app (.cons h b e .nil)) (fL 12 h f) (fL 14 h g)).f (gX p j tn iB b (ar.app (.cons h b e .nil)) (fL 12 h f) (fL 14 h g)).g).g
def nG (ns:List (List UInt8)) (f:List (List UInt8)):Prop:=f.Nodup∧∀x∈f,x∈ns
theorem nG.le {ns f:List (List UInt8)} (h:nG ns f):f.length<=ns.length:=h.1.length_le_of_subset (λ_ hx=>h.2 _ hx)
def kS (p:Pr):List (List UInt8):=p.ts.map λt=>t.nm.toList
def lI (p:Pr):List (List UInt8):=p.ds.map λd=>d.nm.toList
theorem ni: ∀ {l:List Int},gF l=0->∀x∈l,x=0
 | [],_,_,h=>ahe
 |a::r,h,x,hx=>by
  unfold gF at h;by_cases ha:(a != 0)=true
  ·rw[if_pos ha]at h;subst h;simp at ha
  ·rw[if_neg ha]at h;have ha':a=0:=by simpa using ha
   rcases List.mem_cons.1 hx with rfl|hx
   ·exact ha'
   ·exact ni h x hx
theorem tN {m k:Int} (h:dQ m [k]=0):m=k:=by
 unfold dQ at h;by_cases h0:(m==0)=true
 ·rw[if_pos h0]at h;simp at h
 ·rw[if_neg h0]at h;by_cases h1:([k].any λx=>m==x)=true
  ·simpa using h1
  ·rw[if_neg h1]at h;simp at h
theorem M9 {b:Bool} (h:lg b=0):b=false:=by cases b <;> simp[lg]at h⊢
theorem JU {p:Pr} {j:Int} {nm:ByteArray} (h:mean p j nm=8):nm.toList∈kS p:=by
 unfold mean at h;split at h
 ·cases h
 ·cases hd:qA p.ds nm with
  |some m=>
   rw[hd]at h;unfold qA at hd;obtain⟨d,-,hm⟩:=Option.map_eq_some_iff.1 hd;exfalso
   have:gK d≠8:=by unfold gK;repeat' split
                   all_goals decide
   rw[hm]at this;exact this h
  |none=>
   rw[hd]at h;simp only[Option.getD_none]at h;unfold tQ at h;split at h
   ·rename_i ha;obtain⟨t,ht,he⟩:=List.any_eq_true.1 ha;unfold kS;exact List.mem_map.2 ⟨t,ht,ahd⟩
   ·cases h
theorem SK {p:Pr} {j:Int} {nm:ByteArray} (h:mean p j nm=7):nm.toList∈lI p:=by
 unfold mean at h;split at h
 ·cases h
 ·cases hd:qA p.ds nm with
  |some m=>unfold qA at hd;obtain⟨d,hf,-⟩:=Option.map_eq_some_iff.1 hd;unfold lI;exact List.mem_map.2 ⟨d,List.mem_of_find?_eq_some hf,by simpa using List.find?_some hf⟩
  |none=>rw[hd]at h;simp only[Option.getD_none]at h;unfold tQ at h;split at h <;> cases h
theorem ap5 {p:Pr} {j:Nat} {tn iB:ByteArray} {ar:aZ} {f g:List (List UInt8)} {h:dF} (hf:nG (kS p) f) (h0:jG p j tn iB ar (mem f) (mem g) h=0):nG (kS p) (fL 12 h f):=by
 unfold fL;by_cases h12:(h.op==12)=true
 ·rw[if_pos h12];have e:h.op=12:=by simpa using h12
  have hs:jG p j tn iB ar (mem f) (mem g) h=gF [dQ (mean p j h.nm) [8],nest (fG ar [7,8,3]||(h.nm.toList==tn.toList||h.nm.toList==iB.toList)),(lg (mem f h.nm.toList))]:=by unfold jG;simp[e]
  rw[hs]at h0;have h1:=ni h0 _ (by simp:dQ (mean p j h.nm) [8]∈_);have h2:=ni h0 _ (by simp:lg (mem f h.nm.toList)∈_);refine⟨List.nodup_cons.2 ⟨?_,hf.1⟩,λx hx=> ?_⟩
  ·have:=M9 h2;unfold mem at this;simpa using this
  ·rcases List.mem_cons.1 hx with rfl|hx
   ·exact JU (tN h1)
   ·exact hf.2 x hx
 ·rw[if_neg h12];exact hf
theorem ap6 {p:Pr} {j:Nat} {tn iB:ByteArray} {ar:aZ} {f g:List (List UInt8)} {h:dF} (hf:nG (lI p) g) (h0:jG p j tn iB ar (mem f) (mem g) h=0):nG (lI p) (fL 14 h g):=by
 unfold fL;by_cases h12:(h.op==14)=true
 ·rw[if_pos h12];have e:h.op=14:=by simpa using h12
  have hs:jG p j tn iB ar (mem f) (mem g) h=gF [dQ (mean p j h.nm) [7],nest (fG ar [7,3]),(lg (mem g h.nm.toList)),lU p j h.dP h.xn h.dO h.bJ]:=by unfold jG;simp[e]
  rw[hs]at h0;have h1:=ni h0 _ (by simp:dQ (mean p j h.nm) [7]∈_);have h2:=ni h0 _ (by simp:lg (mem g h.nm.toList)∈_);refine⟨List.nodup_cons.2 ⟨?_,hf.1⟩,λx hx=> ?_⟩
  ·have:=M9 h2;unfold mem at this;simpa using this
  ·rcases List.mem_cons.1 hx with rfl|hx
   ·exact SK (tN h1)
   ·exact hf.2 x hx
 ·rw[if_neg h12];exact hf
end Md
theorem mem_cons (x:List UInt8) (f:List (List UInt8)):Ak (mem f) x=mem (x::f):=by
 funext y;unfold Ak mem;by_cases h:y=x
 ·subst h;simp
 ·rw[if_neg h];simp[h]
theorem aK9 (h:dF) (f:List (List UInt8)):fS h (mem f)=mem (fL 12 h f):=by
 unfold fS fL;cases h.op==12 <;> simp[mem_cons]
theorem aL5 (h:dF) (f:List (List UInt8)):gS h (mem f)=mem (fL 14 h f):=by
 unfold gS fL;cases h.op==14 <;> simp[mem_cons]
theorem Yt (k:Int) (h:dF) (f:List (List UInt8)):nS k h f.length=(fL k h f).length:=by
 unfold nS fL;cases h.op==k <;> simp
theorem Rz (w:World) {a a':Addr} (v v':Value) (h:a.block≠a'.block):(w.setCell a v).setCell a' v'=(w.setCell a' v').setCell a v:=by
 unfold World.setCell;congr 1;refine Array.ext_getElem? (λk=> ?_);simp only[Array.getElem?_modify];by_cases h1:a'.block=k
 ·by_cases h2:a.block=k
  ·exact(h (h2.trans h1.symm)).elim
  ·simp[h1,h2]
 ·by_cases h2:a.block=k <;> simp[h1,h2]
theorem Gj {b:Nat} {a':Addr} (v':Value) (h:b≠a'.block): ∀(vs:List Value) (o:Nat) (w:World),(w.setCell a' v').setCells b o vs=(w.setCells b o vs).setCell a' v'
 | [],_,_=>rfl
 |v::vs,o,w=>by simp only[World.setCells];rw[<- Rz w (a:=⟨b,o,none⟩) (a':=a') v v' h];exact Gj v' h vs (o+1) _
def PC (w4:World) (g o:Nat) (vs:List Value) (a:Addr) (v:Value):List Bool->World->Prop
 | [x,y],w'=>w'=(if y then(if x then w4.setCells g o vs else w4).setCell a v else(if x then w4.setCells g o vs else w4))
 |_,_=>False
theorem PC.bits {w4:World} {g o:Nat} {vs:List Value} {a:Addr} {v:Value} : ∀ {c:List Bool} {w':World},PC w4 g o vs a v c w'->∃x y,c=[x,y]
 | [x,y],_,_=>⟨x,y,rfl⟩
 | [],_,h=>h.elim
 | [_],_,h=>h.elim
 |_::_::_::_,_,h=>h.elim
theorem PC.skip {w4:World} {g o:Nat} {vs:List Value} {a:Addr} {v:Value} {a1 a2 i:Nat} {c:List Bool} {w':World} (h1:(a1==i)=false) (h2:(a2==i)=false) (h:PC w4 g o vs a v c w'):PC w4 g o vs a v (jh [a1,a2] c i) w':=by
 obtain⟨x,y,rfl⟩:=h.bits;simp only[jh,h1,h2,Bool.or_false];exact h
theorem PC.elt {w4:World} {g o:Nat} {vs:List Value} {a:Addr} {v:Value} {a1 a2 i:Nat} {y:Bool} {w':World} (hg:g≠a.block) (h1:(a1==i)=true) (h2:(a2==i)=false) (h:PC w4 g o vs a v [false,y] w'):PC w4 g o vs a v (jh [a1,a2] [false,y] i) (w'.setCells g o vs):=by
 simp only[jh,h1,h2,Bool.or_false,Bool.or_true];cases y
 ·have h:w'=w4:=h;subst h;rfl
 ·have h:w'=w4.setCell a v:=h;subst h;exact Gj v hg vs o w4
theorem PC.fld {w4:World} {g o:Nat} {vs:List Value} {a:Addr} {v:Value} {a1 a2 i:Nat} {x:Bool} {w':World} (h1:(a1==i)=false) (h2:(a2==i)=true) (h:PC w4 g o vs a v [x,false] w'):PC w4 g o vs a v (jh [a1,a2] [x,false] i) (w'.setCell a v):=by
 simp only[jh,h1,h2,Bool.or_false,Bool.or_true];cases x
 ·have h:w'=w4:=h;subst h;rfl
 ·have h:w'=w4.setCells g o vs:=h;subst h;rfl
theorem PC.TY {w4:World} {g o:Nat} {vs:List Value} {a:Addr} {v:Value} {y:Bool} {w':World} (hg:g≠a.block) (h:PC w4 g o vs a v [false,y] w'):w'.heap[g]? =w4.heap[g]?:=by
 cases y
 ·have h:w'=w4:=h;rw[h]
 ·have h:w'=w4.setCell a v:=h;rw[h];exact bg w4 a v rfl (λe=>hg e.symm)
theorem PC.U3 {w4:World} {g o:Nat} {vs:List Value} {a:Addr} {v:Value} {x:Bool} {w':World} (hg:g≠a.block) (h:PC w4 g o vs a v [x,false] w') (hl:a.block<w4.heap.size):w'.heap[a.block]? =w4.heap[a.block]?:=by
 cases x
 ·have h:w'=w4:=h;rw[h]
 ·have h:w'=w4.setCells g o vs:=h;rw[h];exact(eD g vs o w4).block _ hl (by simp;exact λe=>hg e.symm)
section
variable {w:World} {L:Lay} {p:Pr} {aK aM:Option Addr} {aH aG:Nat} {i:Int} {A:List Fr} {f g:List UInt8->Bool} {n m:Nat} {v:Value}
theorem ny.push {wz w4:World} {g' cap':Nat} {zs:List Value} (h:ny w L p aK aM aH aG i A f g n m v) (x:Fr) (hx:uJ w L.B0 x.h x.b x.e x.s) (hb:Below w.heap.size w wz) (hown:w4.ownsRow L.B1 74 11 (.slice (some ⟨g',0,none⟩) (A.length+1) cap') (A.length+1) (BF A++zs)) (hgr:wz.grownBy w4 v.ownBlock) (hat:v.ownBlock=some g'∨g'=wz.heap.size):
 ny ((w4.setCells g' (A.length*11) (qg x.h x.b x.e x.s)).setCell ⟨L.bc,3,none⟩ (.slice (some ⟨g',0,none⟩) (A.length+1) cap')) L p aK aM aH aG i (A++[x]) f g n m (.slice (some ⟨g',0,none⟩) (A.length+1) cap')∧
 Kp L v w ((w4.setCells g' (A.length*11) (qg x.h x.b x.e x.s)).setCell ⟨L.bc,3,none⟩ (.slice (some ⟨g',0,none⟩) (A.length+1) cap'))∧Bd w v (.slice (some ⟨g',0,none⟩) (A.length+1) cap'):=by
 have hg1:=(hown.lt g' rfl).1;have hg2:=(hown.lt g' rfl).2;have hc1:=L.c1;have hs1:=L.s1;have ht1:=L.t1;have hput:=Rt (vs:=qg x.h x.b x.e x.s) hown (F3 A) rfl;generalize hw5:w4.setCells g' (A.length*11) (qg x.h x.b x.e x.s)=w5 at *;have hgw:w4.grownBy w5 (some g'):=by rw[<- hw5];exact eD _ _ _ _
 have hgz:=bU w5 ⟨L.bc,3,none⟩ (.slice (some ⟨g',0,none⟩) (A.length+1) cap');have hsz:w.heap.size<=w4.heap.size:=aJ hb.size hgr.size;have hlow: ∀k,k<w.heap.size->v.ownBlock≠some k->w5.heap[k]? =w.heap[k]?:=λk hk hv=>by
  have hkg:k≠g':=by
   rcases hat with e|e
   ·intro e';exact hv (by rw[e,e'])
   ·have:=hb.size;omega
  rw[hgw.block k agH (by simp;exact hkg),hgr.block k (aR hk hb.size) (λe=>hv e.symm),hb.block k hk]
 have hlow': ∀k,k<L.B1->w5.heap[k]? =w.heap[k]?:=λk hk=>hlow k (aR hk h.sz) (λe=>by have:=(h.row.lt k e).1;omega);have hkp:Kp L v w (w5.setCell ⟨L.bc,3,none⟩ (.slice (some ⟨g',0,none⟩) (A.length+1) cap')):=
  ⟨hgz.os.trans (hgw.os.trans (hgr.os.trans hb.os)),hgz.tape.trans (hgw.tape.trans (hgr.tape.trans hb.tape)),hgz.output.trans (hgw.output.trans (hgr.output.trans hb.output)),aJ hsz (aJ hgw.size hgz.size),λk hk hc _ _ hv=>
   (hgz.block k (aR hk (aJ hsz hgw.size)) aht).trans (hlow k hk hv)⟩
 have hbel:=hkp.below h.b0 (λk e=>(h.row.lt k e).1);have rX: ∀k,k<L.B1->k≠L.bc->(w5.setCell ⟨L.bc,3,none⟩ (.slice (some ⟨g',0,none⟩) (A.length+1) cap')).heap[k]? =w.heap[k]?:=λk hk hc=>by rw[bg w5 ⟨L.bc,3,none⟩ _ rfl (λe=>hc e.symm)];exact hlow' k hk
 refine⟨?_,hkp,?_⟩
 ·refine {blk:= ?_,row:= ?_,ms:=h.ms.same (rX _ hs1 (λe=>L.cs e.symm)),mt:=h.mt.same (rX _ ht1 (λe=>L.ct e.symm)),sz:= ?_,dat:=h.dat.below hbel,qw:= ?_}
  ·exact dI ((hlow' _ hc1).trans h.blk) _
  ·rw[aA,CU];refine hput.kept hgz (.inr ?_);simp[Value.ownBlock];omega
  ·exact aJ h.sz hkp.size
  ·intro y hy;rcases List.mem_append.1 hy with hy|hy
   ·exact(h.qw y hy).below hbel
   ·obtain rfl:=List.mem_singleton.1 hy;exact hx.below hbel
 ·rcases hat with e|e
  ·exact .inl ahf
  ·exact .inr ⟨g',rfl,afA⟩
theorem ny.pop {wz:World} {g' cap':Nat} (x:Fr) (h:ny w L p aK aM aH aG i (A++[x]) f g n m (.slice (some ⟨g',0,none⟩) (A.length+1) cap')) (hb:Below w.heap.size w wz):
 ny (wz.setCell ⟨L.bc,3,none⟩ (.slice (some ⟨g',0,none⟩) A.length cap')) L p aK aM aH aG i A f g n m (.slice (some ⟨g',0,none⟩) A.length cap')∧
 Kp L (.slice (some ⟨g',0,none⟩) (A.length+1) cap') w (wz.setCell ⟨L.bc,3,none⟩ (.slice (some ⟨g',0,none⟩) A.length cap')):=by
 have hI:=h.below hb;have hc1:=L.c1;have hgz:=bU wz ⟨L.bc,3,none⟩ (.slice (some ⟨g',0,none⟩) A.length cap');have hkp:Kp L (.slice (some ⟨g',0,none⟩) (A.length+1) cap') w (wz.setCell ⟨L.bc,3,none⟩ (.slice (some ⟨g',0,none⟩) A.length cap')):=
  ⟨hgz.os.trans hb.os,hgz.tape.trans hb.tape,hgz.output.trans hb.output,aJ hb.size hgz.size,λk hk hc _ _ _=>(hgz.block k (aR hk hb.size) aht).trans (hb.block k hk)⟩
 have hbel:Below L.B0 wz (wz.setCell ⟨L.bc,3,none⟩ (.slice (some ⟨g',0,none⟩) A.length cap')):=cK hgz L.c0 hI.b0;have hrow:=hI.row;rw[aA,CU]at hrow;have hg1:=(hrow.lt g' rfl).1;refine⟨{blk:=dI hI.blk _,row:=(Oz hrow (F3 A)).kept hgz (.inr aeJ),ms:=hI.ms.same (bg wz _ _ rfl L.cs),mt:=hI.mt.same (bg wz _ _ rfl L.ct),sz:=aJ hI.sz hgz.size,dat:=hI.dat.below hbel,qw:=λy hy=>(hI.qw y ahc).below hbel},hkp⟩
end
theorem aZ.At.aq7 {w:World} {B:Nat} {h:dF} {b e r:aZ} {ao:Option Addr} {k:Nat} (hat:(aZ.cons h b e r).At w B ao k): ∃bl off s,ao=some ⟨bl,off,none⟩∧bl<B∧uJ w B h b e s∧
 w.cell? ⟨bl,off+k*11,none⟩=some (.int .i64 h.op)∧w.cell? ⟨bl,off+k*11+1,none⟩=some (.int .i64 h.line)∧w.cell? ⟨bl,off+k*11+2,none⟩=some (.string h.nm)∧w.cell? ⟨bl,off+k*11+3,none⟩=some (.string h.arg)∧w.cell? ⟨bl,off+k*11+4,none⟩=some (.slice s.gU h.idx.len s.gy)∧
 w.cell? ⟨bl,off+k*11+5,none⟩=some (.int .i64 h.dP)∧w.cell? ⟨bl,off+k*11+6,none⟩=some (.int .i64 h.xn)∧w.cell? ⟨bl,off+k*11+7,none⟩=some (.string h.dO)∧w.cell? ⟨bl,off+k*11+8,none⟩=some (.slice s.fT h.bJ.len s.eB)∧
 w.cell? ⟨bl,off+k*11+9,none⟩=some (.slice s.dB b.len s.cu)∧w.cell? ⟨bl,off+k*11+10,none⟩=some (.slice s.iD e.len s.gu)∧r.At w B ao (k+1):=by
 obtain⟨⟨b,off,gU,gy,fT,eB,dB,cu,iD,gu,e,hB,c0,c1,c2,c3,c4,c5,c6,c7,c8,c9,c10,hok,h1,h2,h3,h4⟩,hr⟩:=hat;exact⟨b,off,⟨gU,gy,fT,eB,dB,cu,iD,gu⟩,e,hB,⟨hok,h1,h2,h3,h4⟩,c0,c1,c2,c3,c4,c5,c6,c7,c8,c9,c10,hr⟩
theorem Qu {w:World} {nb:Nat} {h:dF} {b e:aZ} {s:Sl} {t:TypeId} {fr:Nat×Nat} (hb:w.heap[nb]? =some (.cells (qg h b e s).toArray t fr)):w.cell? ⟨nb,0,none⟩=some (.int .i64 h.op)∧w.cell? ⟨nb,1,none⟩=some (.int .i64 h.line)∧w.cell? ⟨nb,2,none⟩=some (.string h.nm)∧w.cell? ⟨nb,3,none⟩=some (.string h.arg)∧w.cell? ⟨nb,4,none⟩=some (.slice s.gU h.idx.len s.gy)∧w.cell? ⟨nb,5,none⟩=some (.int .i64 h.dP)∧w.cell? ⟨nb,6,none⟩=some (.int .i64 h.xn)∧w.cell? ⟨nb,7,none⟩=some (.string h.dO)∧w.cell? ⟨nb,8,none⟩=some (.slice s.fT h.bJ.len s.eB)∧w.cell? ⟨nb,9,none⟩=some (.slice s.dB b.len s.cu)∧w.cell? ⟨nb,10,none⟩=some (.slice s.iD e.len s.gu):=
 ⟨(eX hb (j:=0) rfl).2,(eX hb (j:=1) rfl).2,(eX hb (j:=2) rfl).2,(eX hb (j:=3) rfl).2,(eX hb (j:=4) rfl).2,(eX hb (j:=5) rfl).2,(eX hb (j:=6) rfl).2,(eX hb (j:=7) rfl).2,(eX hb (j:=8) rfl).2,(eX hb (j:=9) rfl).2,(eX hb (j:=10) rfl).2⟩
theorem qG {x y a b:Value} (h1:x=a) (h2:y=b):Ending.returned (.tuple #[x,y])= .returned (.tuple #[a,b]):=by rw[h1,h2]
theorem aw4:(Tryz.prog.info? 74).map (λi=>(i.zero,i.size,i.bytes))=some (some (.agg #[.int .i64 0,.int .i64 0,.string ⟨#[]⟩,.string ⟨#[]⟩,.slice none 0 0,.int .i64 0,.int .i64 0,.string ⟨#[]⟩,.slice none 0 0,.slice none 0 0,.slice none 0 0]),11,176):=agG
def Zf:Array Value:= #[.int .i64 0,.int .i64 0,.string ⟨#[]⟩,.string ⟨#[]⟩,.slice none 0 0,.int .i64 0,.int .i64 0,.string ⟨#[]⟩,.slice none 0 0,.slice none 0 0,.slice none 0 0]
theorem Uz: ∃i0,Tryz.prog.info? 74=some i0∧i0.zero=some (.agg Zf)∧i0.size=11∧i0.bytes=176:=info_parts aw4
theorem UA:(Tryz.prog.info? 74).map (·.size)=some 11:=agG
theorem ix0 (a b:Option Addr) (l1 c1 l2 c2:Nat) (w:World):(Instr.index 179 (.agg #[.slice a l1 c1,.slice b l2 c2]) (.int .i64 0)).run Tryz.prog w= .ok (.slice a l1 c1) w:=agG
theorem ix1 (a b:Option Addr) (l1 c1 l2 c2:Nat) (w:World):(Instr.index 179 (.agg #[.slice a l1 c1,.slice b l2 c2]) (.int .i64 1)).run Tryz.prog w= .ok (.slice b l2 c2) w:=agG
def Qz (p:Pr) (j:Nat) (tn iB:ByteArray) (e R ar ER:aZ) (f g:List (List UInt8)):Nq:=if(gX p j tn iB e ER f g).err != 0 then gX p j tn iB e ER f g else gX p j tn iB R ar (gX p j tn iB e ER f g).f (gX p j tn iB e ER f g).g
def aK2 (p:Pr) (j:Nat) (tn iB:ByteArray) (b e R ar ER:aZ) (f g:List (List UInt8)):Nq:=if(gX p j tn iB b ER f g).err != 0 then gX p j tn iB b ER f g else Qz p j tn iB e R ar ER (gX p j tn iB b ER f g).f (gX p j tn iB b ER f g).g
def TV (p:Pr) (j:Nat) (tn iB:ByteArray) (b e R ar ER:aZ) (k:Nat) (f g:List (List UInt8)):Nq:=if k=0 then aK2 p j tn iB b e R ar ER f g else if k=1 then Qz p j tn iB e R ar ER f g else gX p j tn iB R ar f g
def aA6 (w:World) (L:Lay) (p:Pr) (aK aM:Option Addr) (aH aG:Nat) (i:Int) (A:List Fr) (v:Value) (r:Nq) (e:Ending) (w':World):Prop:=
 e= .returned (.tuple #[.int .i64 r.err,.int .i64 r.line])∧Kp L v w w'∧(r.err=0->nG (kS p) r.f∧nG (lI p) r.g∧∃v',Bd w v v'∧ny w' L p aK aM aH aG i A (mem r.f) (mem r.g) r.f.length r.g.length v')
def Ep (L:Lay) (p:Pr) (aK aM:Option Addr) (aH aG:Nat) (j:Nat) (t t0:Th) (l:aZ):Prop:=
 ∀(w:World) (ao:Option Addr) (cap:Nat) (A:List Fr) (f g:List (List UInt8)) (v:Value),l.len<=maxLen->l.At w L.B0 ao 0->A.length<=6->nG (kS p) f->nG (lI p) g->ny w L p aK aM aH aG (j:Int) A (mem f) (mem g) f.length g.length v->
  Calls Tryz.prog 81 #[.pointer (some ⟨L.bc,0,none⟩),.slice ao l.len cap] w (aA6 w L p aK aM aH aG (j:Int) A v (gX p j t.nm t0.nm l (dA A) f g))
theorem Hz (L:Lay) (p:Pr) (aK aM:Option Addr) (aH aG:Nat) (j:Nat) (t t0:Th) (r r0:List Th) (hd:p.ts.drop j=t::r) (hts:p.ts=t0::r0) (hj:bY (j:Int)) (hT:p.ts.length<maxLen) (hD:p.ds.length<maxLen) (l:aZ) (hall:l.All λ_ b e=>Ep L p aK aM aH aG j t t0 b∧Ep L p aK aM aH aG j t t0 e):Ep L p aK aM aH aG j t t0 l:=by
 intro w ao cap A f g v hl hat hA hf hg hI;generalize hres:gX p j t.nm t0.nm l (dA A) f g=res;have HR:=ah hres;have HAT:=ah hat;have jZ:=ah hall;have HF:=ah hf;have HG:=ah hg;have HI:=ah hI;unfold maxLen at hl;have HA:=ah hA;clear hres hat hall hf hg hI hA;go_enter Tryz.func81,Tryz.ntmps81;go_wp2_with fail;go_loopw [7,8,10,11,12,15,51,52] (λ_ _ _ _ _ s _ _ wr=> ∃(k:Nat) (R:aZ) (f1 g1:List (List UInt8)) (v1:Value),s= .int .i64 k∧k+R.len=l.len∧res=gX p j t.nm t0.nm R (dA A) f1 g1∧(R.All λ_ b e=>Ep L p aK aM aH aG j t t0 b∧Ep L p aK aM aH aG j t t0 e)∧R.At wr L.B0 ao k∧nG (kS p) f1∧nG (lI p) g1∧Kp L v w wr∧Bd w v v1∧ny wr L p aK aM aH aG (j:Int) A (mem f1) (mem g1) f1.length g1.length v1) (λ_ _ _ _ _ s _ _ _=>l.len -(intOf s).toNat)
 case atStart=>exact⟨0,l,f,g,v,rfl,agJ,HR.o.symm,jZ.o,HAT.o,HF.o,HG.o,Kp.refl _ _ _,.inl rfl,HI.o⟩
 case round=>
  obtain⟨k,R,f1,g1,v1,rfl,hlen,heq,hall,hrow,hf1,hg1,hKp,XO,hI⟩:=hrel;have HE:=ah heq;have HK:=ah hKp;have HO:=ah XO;clear heq hKp XO;cases R with
  |nil=>
   obtain rfl:k=l.len:=aeY
   have HX:aj (aA6 w L p aK aM aH aG (j:Int) A v res (.returned (.tuple #[.int .i64 0,.int .i64 0])) wr):=ah (by rw[HE.o];exact⟨rfl,HK.o,λ_=>⟨hf1,hg1,v1,HO.o,hI⟩⟩);clear hI hall hrow hf1 hg1 HE;go_wp2_with fail
   go_ret2
   exact HX.o
  |cons h b e R=>
   obtain⟨bl,off,s,rfl,hbl,hin,x0,x1,x2,x3,x4,x5,x6,x7,x8,x9,x10,hrest⟩:=aZ.At.aq7 hrow;have hkl:k<l.len:=acz
   obtain⟨kN,uO⟩:=hall;obtain⟨cO,bR,rfl,-⟩:=hI.form;have PV:=ah kN;have Zj:=ah uO;have Cn:=ah hf1;have qI:=ah hg1;have iA:=ah hin;have kL:=ah hrest;have Co:=ah hI;clear hrow hin kN uO hf1 hg1 hrest hI;go_upto_region 4 with fail;generalize hW2:World.alloc wr _=W2;obtain⟨nb,hnb,zQ,-,xB,-⟩:=qD hW2;have HI2:=ah (Co.o.below zQ.o);have qJ:aj (Kp L v w W2):=ah (HK.o.trans (.inl HO.o) (Kp.of_below zQ.o));have fC:aj (L.B1<=nb∧nb<W2.heap.size):=ah ⟨by rw[<- hnb];exact Co.o.sz,(aO xB.o)⟩;have PN:aj (Value.ownBlock (.slice cO A.length bR)≠some nb):=ah (λe=>by have:=Co.o.row.lt _ e;omega);have HOZ:aj (w.heap.size<=W2.heap.size):=ah qJ.o.size;rw[hnb];clear hW2 hnb x0 x1 x2 x3 x4 x5 x6 x7 x8 x9 x10 hbl;have c3:W2.cell? ⟨L.bc,3,none⟩=some (.slice cO A.length bR):=(eX HI2.o.blk (j:=3) rfl).2;have hA6:=HA.o;obtain⟨y0,y1,y2,y3,y4,y5,y6,y7,y8,y9,jD⟩:=Qu xB.o;by_cases QJ:A.length=6
   ·have HX:aj (res=⟨2,h.line,f1,g1⟩):=ah (HE.o.trans adZ);rw[QJ]at c3;clear hA6;go_wp2_with fail;go_quiet (fail);go_wp2_with fail
    go_ret2
    refine⟨qG aha aha,qJ.o.trans (.inr rfl) (v1:= .slice none 0 0) (Kp.of_below (below_drewN (au _ _) _)),λh0=> ?_⟩;rw[HX.o]at h0;cases h0
   ·have hA':A.length<6:=agH;have hdec:decide (6<(A.length:Int)+1)=false:=adf;go_wp2_with fail;refine(Vh W2 L p aK aM aH aG j A (mem f1) (mem g1) f1.length g1.length _ t t0 r r0 hd hts hj aeS (Nat.lt_of_le_of_lt Cn.o.le (by simpa[kS]using hT)) (Nat.lt_of_le_of_lt qI.o.le (by simpa[lI]using hD)) HI2.o h b e s (iA.o.below (zQ.o.mono Co.o.b0))).mono ?_;rintro e' w3 ⟨rfl,hK3,CY⟩;rw[aK9,aL5,Yt,Yt]at CY;have Ci:aj (w3.heap[nb]? =some (.cells (qg h b e s).toArray 74 (0,0))):=ah ((hK3.far fC.o.2 fC.o.1 afq).trans xB.o);have HI3:=ah CY;have tY:aj (Kp L v w w3):=ah (qJ.o.trans (.inr rfl) hK3);have JY:=ah hK3;have FH:nb<w3.heap.size:=(aO Ci.o);clear hK3 CY y0 y1 y2 y3 y4 y5 y6 y7 y8 y9 jD c3 hdec QJ;obtain⟨y0,y1,y2,y3,y4,y5,y6,y7,y8,y9,jD⟩:=Qu Ci.o;have c3:w3.cell? ⟨L.bc,3,none⟩=some (.slice cO A.length bR):=(eX HI3.o.blk (j:=3) rfl).2;have HE2:aj (res=gX p j t.nm t0.nm (aZ.cons h b e R) (dA A) f1 g1):=HE;have EB:aj (jG p j t.nm t0.nm (dA A) (mem f1) (mem g1) h=0->nG (kS p) (fL 12 h f1)∧nG (lI p) (fL 14 h g1)):=ah (λh0=>⟨ap5 Cn.o h0,ap6 qI.o h0⟩);have HU:aj (gX p j t.nm t0.nm (aZ.cons h b e R) (dA A) f1 g1=if jG p j t.nm t0.nm (dA A) (mem f1) (mem g1) h != 0 then⟨jG p j t.nm t0.nm (dA A) (mem f1) (mem g1) h,h.line,f1,g1⟩else TV p j t.nm t0.nm b e R (dA A) ((dA A).app (.cons h b e .nil)) 0 (fL 12 h f1) (fL 14 h g1)):=ah abw;generalize jG p j t.nm t0.nm (dA A) (mem f1) (mem g1) h=x at *;cases hx:(x != 0)
    ·have HT:aj (res=TV p j t.nm t0.nm b e R (dA A) ((dA A).app (.cons h b e .nil)) 0 (fL 12 h f1) (fL 14 h g1)):=ah (HE2.o.trans (HU.o.trans (by rw[hx];rfl)));have yu:=ah (EB.o agZ);clear HU EB HE HE2;go_upto_region 9 with fail;obtain⟨Y0,Y1,Y2,Y3,Y4,Y5,Y6,Y7,Y8,Y9,Bv⟩:=MO FH y0 y1 y2 y3 y4 y5 y6 y7 y8 y9 jD;have L3:=lG acg c3;clear y0 y1 y2 y3 y4 y5 y6 y7 y8 y9 jD c3;refine eu agG rfl ?_;refine dD 0 7 [] [[],[0],[0,1],[0,1,2],[],[0,1,2,3],[],[0,1,2,3,4,5,6],[0,1,2,3,4,5,6,7],[0,1,2,3,4,5,6,7,8],[0,1,2,3,4,5,6,7],[0,1,2,3,4,5,6,7,10],[0,1,2,3,4,5,6,7,10,11]] [[],[],[],[],[],[],[]] (λ_ w'=>Below w3.heap.size w3 w') (λw w'=>Below w.heap.size w w') [36,37,38,39,40,41,42] rfl rfl ahS agG agG agG agG agG ahS (λ_=>au _ _) ahS (below_drewN (au _ _) 1) ?_;simp only[jH,nY]
     iterate 6
      apply bZ.step
      case bL=>intro c A w' hok hC hO hD;have e0:=hO 0 ahS;have e7:=hO 7 ahS;simp[Act.eval]at e0 e7;simp[Act.eval]at hD;simp[go_sem,gd,Oper.wp,hD,e0,e7,L3,hC,Y0,Y1,Y2,Y3,Y4,Y5,Y6,Y7,Y8,Y9,Bv];exact AaH
     refine bZ.some (λv w'=> ∃bb,v= .slice (some ⟨bb,0,none⟩) 1 1∧w'.heap[bb]? =some (.cells Zf 74 (0,0))) ?_ ?_ ?_
     ·rintro v w w' hle ⟨bb,rfl,hbb⟩;exact⟨bb,rfl,(hle.block bb (aO hbb)).trans hbb⟩
     ·intro c A w' hok hC hO hD;simp[go_sem,gd,Oper.wp];exact aV.mk (d:=_) (v:= .slice (some ⟨_,0,none⟩) 1 1) (ak _ _) (hC.trans ((ak _ _).mono hC.size)) ⟨_,rfl,heap_alloc_new _ _⟩
     try simp only[dY]
     refine bZ.done ?_;intro wz dL;simp only[List.drop_zero];intro v0 h0 v1 h1 v2 h2 v3 h3 v4 h4 v5 h5 v6 h6;have h0':v0=_:=h0;have h1':v1=_:=h1;have h2':v2=_:=h2;have h3':v3=_:=h3;have h4':v4=_:=h4;have h5':v5=_:=h5;subst h0' h1' h2' h3' h4' h5';obtain⟨bb,rfl,hbb⟩:=h6;clear h0 h1 h2 h3 h4 h5;refine eO.nil ?_;go_simp;refine dZ 7 [[],[0],[0,1],[0,1,2],[],[0,1,2,3],[],[0,1,2,3,4,5,6],[0,1,2,3,4,5,6,7],[0,1,2,3,4,5,6,7,8],[0,1,2,3,4,5,6,7],[0,1,2,3,4,5,6,7,10],[0,1,2,3,4,5,6,7,10,11]] rfl rfl rfl rfl rfl agG agG agG ?_;obtain⟨i0,hi0,hz0,hz1,hz2⟩:=Uz;have Cq:=ah (HI3.o.below dL);refine wp_append_lies wz _ _ _ ahS L.B1 74 i0 _ 11 176 Tryz.underlying57 hi0 hz0 hz1 hz2 ahS agH (.slice cO A.length bR) A.length (BF A) ahS Cq.o.row ⟨bb,0,none⟩ 1 1 Zf.toList ahS ahS (World.news_of_block hbb) agI agH aeS agH Cq.o.sz wz.heap.size rfl ?_;intro g' cap' w4 tL qx vM D7;clear hi0 hz0 hz1 hz2 hbb Y0 Y1 Y2 Y3 Y4 Y5 Y6 Y7 Y8 Y9 Bv L3;have yY:=ah (HI3.o.push ⟨h,b,e,s⟩ (iA.o.below ((zQ.o.mono Co.o.b0).trans (JY.o.below HI2.o.b0 afq))) dL tL qx vM);have hgb:=(tL.lt g' rfl).1;have dR:aj (w4.heap[L.bc]? =some (.cells (ckV p aK aM aH aG (j:Int) (.slice cO A.length bR) L.bs L.bt) 152 (0,0))):=ah (by
      rw[qx.block _ (by have:=Cq.o.sz;have:=L.c1;omega) (λe'=>by
       have:=Cq.o.own_ne L.c1;rcases this with h1|h1
       ·rw[h1]at e';cases e'
       ·exact h1 e'.symm)]
      exact Cq.o.blk)
     have sJ:=ah (Mc tL);have FE:g'≠L.bc:=afU;clear tL qx vM D7 hgb;go_simp;refine dD 8 13 [9,12] [[],[0],[0,1],[0,1,2],[],[0,1,2,3],[],[0,1,2,3,4,5,6],[0,1,2,3,4,5,6,7],[0,1,2,3,4,5,6,7,8],[0,1,2,3,4,5,6,7],[0,1,2,3,4,5,6,7,10],[0,1,2,3,4,5,6,7,10,11]] [[some false,none],[some false,none],[none,some false],[none,some false],[none,some false]] (PC w4 g' (A.length*11) (qg h b e s) ⟨L.bc,3,none⟩ (.slice (some ⟨g',0,none⟩) (A.length+1) cap')) (λ_ _=>True) [44,45,46] rfl rfl ahS agG agG agG agG agG ahS (λ_=>trivial) ahS rfl ?_;simp only[jH,nY];have U7:(0:Int)<=(A.length:Int):=agH;have hA1:(A.length:Int)<(A.length:Int)+1:=agH;apply bZ.step
     case bL=>intro c A w' hok hC hO hD;have e43:=hO 43 ahS;have e41:=hO 41 ahS;simp[Act.eval]at e43 e41;simp[Act.eval]at hD;simp[go_sem,gd,Oper.wp,hD,e43,e41,hA1];exact aV.mk trivial (PC.skip ahS ahS hC) (cB.mk _ _)
     refine bZ.some (λ_ _=>True) (λ_ _ _ _ _=>trivial) ?_ ?_
     ·intro c A' w' hok hC hO hD;obtain⟨x,y,rfl⟩:=hC.bits;obtain⟨rfl,-⟩:=hok;have e40:=hO 40 ahS;simp[Act.eval]at hD;simp only[gd,if_true];refine wp_store_mid _ _ _ ahS g' (A.length*11) (qg h b e s).toArray afp (e40.trans ahS) (F8 sJ.o (hC.TY FE)) UA (by simp[qg,Value.oneCell']) ?_;exact aV.DY trivial (PC.elt FE ahS ahS hC) trivial
     try simp only[dY]
     iterate 2
      apply bZ.step
      case bL=>intro c A w' hok hC hO hD;have e36:=hO 36 ahS;simp[Act.eval]at e36;simp[Act.eval]at hD;simp[go_sem,gd,Oper.wp,hD,e36];exact aV.mk trivial (PC.skip ahS ahS hC) (cB.mk _ _)
     refine bZ.some (λ_ _=>True) (λ_ _ _ _ _=>trivial) ?_ ?_
     ·intro c A' w' hok hC hO hD;obtain⟨x,y,rfl⟩:=hC.bits;obtain⟨rfl,-⟩:=hok;have e43:=hO 43 ahS;simp[Act.eval]at e43;simp[Act.eval]at hD;have hbk0:w'.heap[L.bc]? =w4.heap[L.bc]?:=PC.U3 (a:=⟨L.bc,3,none⟩) FE hC (aO dR.o);have hbk:=hbk0.trans dR.o;have hcl:w'.cell? ⟨L.bc,3,none⟩=some (.slice cO A.length bR):=(eX hbk (j:=3) rfl).2;have hfr:w'.frozen? ⟨L.bc,3,none⟩=false:=bK hbk;simp[go_sem,gd,Oper.wp,hD,e43,hcl,hfr];exact aV.DY (v:=undef) trivial (PC.fld ahS ahS hC) trivial
     simp only[List.nil_append,List.cons_append,List.drop_succ_cons,List.drop_zero];refine bZ.done ?_;intro w5 XK;simp only[List.drop_succ_cons,List.drop_zero];intro v0 h0 v1 h1 v2 h2 v3 h3 v4 h4;clear h0 h1 h2 h3 h4;refine eO.nil ?_;refine fU rfl ?_;have tZ:aj (w5=(w4.setCells g' (A.length*11) (qg h b e s)).setCell ⟨L.bc,3,none⟩ (.slice (some ⟨g',0,none⟩) (A.length+1) cap')):=ah XK;rw[<- tZ.o]at yY;have gL:=ah yY.o.1;have Tq:aj (Kp L v w w5):=ah (tY.o.trans (.inl (HO.o.trans (.inl rfl) (aB _))) yY.o.2.1);have JZ:=ah yY.o.2.1;have Mx:=ah yY.o.2.2;clear XK tZ yY sJ dR U7 hA1 FE;go_simp;have Gx:aj (w5.heap[nb]? =some (.cells (qg h b e s).toArray 74 (0,0))):=ah ((JZ.o.far FH fC.o.1 PN.o).trans Ci.o);have MB:=ah (Mx.o.ne FH PN.o);have Tv:aj (Bd w v (.slice (some ⟨g',0,none⟩) (A.length+1) cap')):=ah (HO.o.trans Mx.o tY.o.size);have Jv:aj (aZ.At w5 L.B0 R (some ⟨bl,off,none⟩) (k+1)):=ah (kL.o.below (((zQ.o.mono Co.o.b0).trans (JY.o.below HI2.o.b0 afq)).trans (JZ.o.below HI3.o.b0 (λq hq=>(HI3.o.row.lt q hq).1))));have kI:aj (b.len<=maxLen∧e.len<=maxLen):=ah iA.o.1.2.2.2.2.2.2;obtain⟨-,-,-,-,-,-,-,-,-,y9,jD⟩:=Qu Gx.o;clear hx FH Cq dL HI3 tY JY Ci JZ Mx PN HI2 qJ xB zQ Co iA kL HO HK Cn qI HF HG HI HAT;go_wp2_with fail;go_loopw [10,11,12,52] (λ_ _ _ s52 wq=> ∃(kk:Nat) (f2 g2:List (List UInt8)) (v2:Value),s52= .int .i64 kk∧kk<=2∧res=TV p j t.nm t0.nm b e R (dA A) ((dA A).app (.cons h b e .nil)) kk f2 g2∧nG (kS p) f2∧nG (lI p) g2∧Kp L v w wq∧Bd w v v2∧v2.ownBlock≠some nb∧wq.heap[nb]? =some (.cells (qg h b e s).toArray 74 (0,0))∧R.At wq L.B0 (some ⟨bl,off,none⟩) (k+1)∧ny wq L p aK aM aH aG (j:Int) (A++[⟨h,b,e,s⟩]) (mem f2) (mem g2) f2.length g2.length v2) (λ_ _ _ s52 _=>2 -(intOf s52).toNat)
     case atStart=>exact⟨0,_,_,_,rfl,agH,HT.o,yu.o.1,yu.o.2,Tq.o,Tv.o,MB.o,Gx.o,Jv.o,gL.o⟩
     case round=>
      obtain⟨kk,f2,g2,v2,rfl,hkk,heq2,hf2,hg2,QL,U9,aL9,aL8,hR6,LH⟩:=hrel;clear y9 jD;have Br:=ah heq2;have Bn:=ah hf2;have HG2:=ah hg2;have GJ:=ah QL;have GK:=ah U9;have ME:=ah aL9;have Ed:=ah aL8;have uH:=ah hR6;have sG:=ah LH;have HIS:=ah (LH.qw ⟨h,b,e,s⟩ agJ);clear heq2 hf2 hg2 QL U9 aL9 aL8 hR6 LH HT yu Tq Tv MB Gx Jv gL;have hk3:kk=0∨kk=1∨kk=2:=agH;have ixa:=ix0 s.dB s.iD b.len s.cu e.len s.gu;have ixb:=ix1 s.dB s.iD b.len s.cu e.len s.gu;rcases hk3 with rfl|rfl|rfl
      ·have yU:aj (res=if(gX p j t.nm t0.nm b (dA (A++[⟨h,b,e,s⟩])) f2 g2).err != 0 then gX p j t.nm t0.nm b (dA (A++[⟨h,b,e,s⟩])) f2 g2 else Qz p j t.nm t0.nm e R (dA A) (dA (A++[⟨h,b,e,s⟩])) (gX p j t.nm t0.nm b (dA (A++[⟨h,b,e,s⟩])) f2 g2).f (gX p j t.nm t0.nm b (dA (A++[⟨h,b,e,s⟩])) f2 g2).g):=ah (by rw[Ae];exact Br.o);clear Br;go_wp2_with fail;refine(PV.o.1 _ s.dB s.cu (A++[⟨h,b,e,s⟩]) f2 g2 v2 kI.o.1 HIS.o.2.2.2.1 agK Bn.o HG2.o sG.o).mono ?_;rintro e' w7 ⟨rfl,BH,Io⟩;generalize gX p j t.nm t0.nm b (dA (A++[⟨h,b,e,s⟩])) f2 g2=r1 at *;have Jq:aj (Kp L v w w7):=ah (GJ.o.trans (.inl GK.o) BH);have Cu:=ah Io;have Gv:aj (w7.heap[nb]? =some (.cells (qg h b e s).toArray 74 (0,0))):=ah ((BH.far (aO Ed.o) fC.o.1 ME.o).trans Ed.o);have kD:aj (R.At w7 L.B0 (some ⟨bl,off,none⟩) (k+1)):=ah (uH.o.below (BH.below sG.o.b0 (λq hq=>(sG.o.row.lt q hq).1)));clear BH Io;cases hr1:(r1.err != 0)
       ·have Cw:aj (res=TV p j t.nm t0.nm b e R (dA A) ((dA A).app (.cons h b e .nil)) 1 r1.f r1.g):=ah (yU.o.trans ((if_neg ahC).trans aeo));obtain⟨Oo,Im,v7,Ik,DN⟩:=Cu.o afh;have Cx:=ah (aI Oo (aI Im (aI Ik DN)));clear Oo Im Ik DN Cu yU;go_wp2_with fail;go_roundw
        case rel=>exact⟨1,r1.f,r1.g,v7,rfl,agH,Cw.o,Cx.o.1,Cx.o.2.1,Jq.o,GK.o.trans Cx.o.2.2.1 GJ.o.size,Cx.o.2.2.1.ne (aO Ed.o) ME.o,Gv.o,kD.o,Cx.o.2.2.2⟩
        case measure=>simp[intOf]
       ·have wR:aj (res=r1):=ah (yU.o.trans (if_pos hr1));have HX0:aj (r1.err≠0):=ah afh;clear yU Cu;go_wp2_with fail
        go_ret2
        refine⟨qG ahm ahm,Jq.o,λh0=> ?_⟩;rw[wR.o]at h0;exact(HX0.o h0).elim
      ·have yU:aj (res=if(gX p j t.nm t0.nm e (dA (A++[⟨h,b,e,s⟩])) f2 g2).err != 0 then gX p j t.nm t0.nm e (dA (A++[⟨h,b,e,s⟩])) f2 g2 else gX p j t.nm t0.nm R (dA A) (gX p j t.nm t0.nm e (dA (A++[⟨h,b,e,s⟩])) f2 g2).f (gX p j t.nm t0.nm e (dA (A++[⟨h,b,e,s⟩])) f2 g2).g):=ah (by rw[Ae];exact Br.o);clear Br;go_wp2_with fail;refine(PV.o.2 _ s.iD s.gu (A++[⟨h,b,e,s⟩]) f2 g2 v2 kI.o.2 HIS.o.2.2.2.2 agK Bn.o HG2.o sG.o).mono ?_;rintro e' w7 ⟨rfl,BH,Io⟩;generalize gX p j t.nm t0.nm e (dA (A++[⟨h,b,e,s⟩])) f2 g2=r1 at *;have Jq:aj (Kp L v w w7):=ah (GJ.o.trans (.inl GK.o) BH);have Cu:=ah Io;have Gv:aj (w7.heap[nb]? =some (.cells (qg h b e s).toArray 74 (0,0))):=ah ((BH.far (aO Ed.o) fC.o.1 ME.o).trans Ed.o);have kD:aj (R.At w7 L.B0 (some ⟨bl,off,none⟩) (k+1)):=ah (uH.o.below (BH.below sG.o.b0 (λq hq=>(sG.o.row.lt q hq).1)));clear BH Io;cases hr1:(r1.err != 0)
       ·have Cw:aj (res=TV p j t.nm t0.nm b e R (dA A) ((dA A).app (.cons h b e .nil)) 2 r1.f r1.g):=ah (yU.o.trans ((if_neg ahC).trans aeo));obtain⟨Oo,Im,v7,Ik,DN⟩:=Cu.o afh;have Cx:=ah (aI Oo (aI Im (aI Ik DN)));clear Oo Im Ik DN Cu yU;go_wp2_with fail;go_roundw
        case rel=>exact⟨2,r1.f,r1.g,v7,rfl,agH,Cw.o,Cx.o.1,Cx.o.2.1,Jq.o,GK.o.trans Cx.o.2.2.1 GJ.o.size,Cx.o.2.2.1.ne (aO Ed.o) ME.o,Gv.o,kD.o,Cx.o.2.2.2⟩
        case measure=>simp[intOf]
       ·have wR:aj (res=r1):=ah (yU.o.trans (if_pos hr1));have HX0:aj (r1.err≠0):=ah afh;clear yU Cu;go_wp2_with fail
        go_ret2
        refine⟨qG ahm ahm,Jq.o,λh0=> ?_⟩;rw[wR.o]at h0;exact(HX0.o h0).elim
      ·have Cw:aj (res=gX p j t.nm t0.nm R (dA A) f2 g2):=Br;obtain⟨g7,Fx,rfl,hc7⟩: ∃g7 Fx,v2= .slice (some ⟨g7,0,none⟩) (A.length+1) Fx∧A.length+1<=Fx:=by
        rcases sG.o.row.2 with⟨-,hn⟩|⟨g',cap,cur,e',-,-,hcc,-⟩
        ·simp at hn
        ·exact⟨g',cap,by rw[e'];simp,by simpa using hcc⟩
       have hcl: ∀w',Below (World.heap wr).size wr w'->w'.cell? ⟨L.bc,3,none⟩=some (.slice (some ⟨g7,0,none⟩) (A.length+1) Fx):=λw' hb=>(hb.cell (p:=⟨L.bc,3,none⟩) (by have:=sG.o.sz;have:=L.c1;show L.bc<_;omega)).trans (eX sG.o.blk (j:=3) rfl).2;have hz1:(0:Int)<=(A.length:Int):=agH;have hz2:(A.length:Int)<=(Fx:Int):=agH;have hwr:IntKind.i64.wrap (A.length:Int)=(A.length:Int):=IntWalk.i64_in _ agH;have FI:(A.length:Int)+1 -1=(A.length:Int):=agH;clear Br ixa ixb;go_upto_region 17 with fail;refine eu agG rfl ?_;refine dD 0 14 [] [[],[],[1],[1,2],[1,2,3],[],[5],[5,6],[5,6,7],[5,6,7,8],[5,6,7,8,9],[1,2,3,4,5,6,7,8,9,10],[0,1,2,3,4,5,6,7,8,9,10,11],[0,1,2,3,4,5,6,7,8,9,10,11,12],[0,1,2,3,4,5,6,7,8,9,10,11,12,13]] [[],[],[],[],[],[],[],[],[],[],[],[],[],[]] (λ_ w'=>Below (World.heap wr).size wr w') (λw w'=>Below w.heap.size w w') [66,67,68,69,70,71,72,73,74,75,76,77,78,79] rfl rfl ahS agG agG agG agG agG ahS (λ_=>au _ _) ahS (below_drewN (au _ _) 1) ?_;simp only[jH,nY]
       iterate 14
        apply bZ.step
        case bL=>intro c A w' hok hC hO hD;have e0:=hO 0 ahS;simp[Act.eval]at e0;simp[Act.eval]at hD;simp[go_sem,gd,Oper.wp,hD,e0,hcl,hC,FI,hwr,hz1,hz2];exact AaH
        try simp only[dY]
       try simp only[dY]
       refine bZ.done ?_;intro wz dL;simp only[List.drop_zero];intro v0 h0 v1 h1 v2 h2 v3 h3 v4 h4 v5 h5 v6 h6 v7 h7 v8 h8 v9 h9 v10 h10 v11 h11 v12 h12 v13 AO;have QI:v11=_:=h11;have ab5:v13=_:=AO;subst QI ab5;clear h0 h1 h2 h3 h4 h5 h6 h7 h8 h9 h10 h11 h12 AO;refine eO.nil ?_;go_simp;have NM:=ah (ny.pop ⟨h,b,e,s⟩ sG.o dL);have hclz:wz.cell? ⟨L.bc,3,none⟩=some (.slice (some ⟨g7,0,none⟩) (A.length+1) Fx):=hcl wz dL;have QS:wz.frozen? ⟨L.bc,3,none⟩=false:=bK ((sG.o.below dL).blk);clear hcl FI hwr;refine dZ 14 [[],[],[1],[1,2],[1,2,3],[],[5],[5,6],[5,6,7],[5,6,7,8],[5,6,7,8,9],[1,2,3,4,5,6,7,8,9,10],[0,1,2,3,4,5,6,7,8,9,10,11],[0,1,2,3,4,5,6,7,8,9,10,11,12],[0,1,2,3,4,5,6,7,8,9,10,11,12,13]] rfl rfl rfl rfl rfl agG agG agG ?_;simp[go_sem,Oper.wp,hclz,QS];refine fU rfl ?_;clear hclz QS dL;go_simp;go_wp2_with fail;go_roundw
       case rel=>exact⟨k+1,R,f2,g2,.slice (some ⟨g7,0,none⟩) A.length Fx,agL,acz,Cw.o,Zj.o,uH.o.below (NM.o.2.below sG.o.b0 (λq hq=>(sG.o.row.lt q hq).1)),Bn.o,HG2.o,GJ.o.trans (.inl GK.o) NM.o.2,GK.o.trans (.inl rfl) GJ.o.size,NM.o.1⟩
       case measure=>simp[intOf];omega
    ·have HX:aj (res=⟨x,h.line,f1,g1⟩):=ah (HE2.o.trans (HU.o.trans (by rw[hx];rfl)));have HX0:aj (x≠0):=ah agZ;clear HU EB HE HE2;go_wp2_with fail;go_quiet (fail);go_wp2_with fail
     go_ret2
     refine⟨qG aha aha,tY.o.trans (.inr rfl) (v1:= .slice none 0 0) (Kp.of_below (below_drewN (au _ _) _)),λh0=> ?_⟩;rw[HX.o]at h0;exact(HX0.o h0).elim
theorem Vg (L:Lay) (p:Pr) (aK aM:Option Addr) (aH aG:Nat) (j:Nat) (t t0:Th) (r r0:List Th) (hd:p.ts.drop j=t::r) (hts:p.ts=t0::r0) (hj:bY (j:Int)) (hT:p.ts.length<maxLen) (hD:p.ds.length<maxLen) (l:aZ):Ep L p aK aM aH aG j t t0 l:=
 Hz L p aK aM aH aG j t t0 r r0 hd hts hj hT hD l (aZ.nQ (λ_ b e hb he=>⟨Hz L p aK aM aH aG j t t0 r r0 hd hts hj hT hD b hb,Hz L p aK aM aH aG j t t0 r r0 hd hts hj hT hD e he⟩) l)
namespace Md
def jA (p:Pr) (iB:ByteArray):List Th->Nat->List (List UInt8)->List (List UInt8)->Nq
 | [],_,f,g=>⟨0,0,f,g⟩
 |t::r,j,f,g=>if(gX p j t.nm iB t.body .nil f g).err != 0 then gX p j t.nm iB t.body .nil f g else jA p iB r (j+1) (gX p j t.nm iB t.body .nil f g).f (gX p j t.nm iB t.body .nil f g).g
end Md
def ar4 (n:Nat) (h:0<n):Lay where
 B0:=n
 B1:=n+4
 bc:=n+1+1+1
 bs:=n+1
 bt:=n+1+1
 c0:=agH
 s0:=agH
 t0:=agH
 c1:=agH
 s1:=agH
 t1:=agH
 cs:=agH
 ct:=agH
 st:=agH
 kw:=h
theorem av1 {p:Pr} {w W:World} {aK aM:Option Addr} {aH aG:Nat} (hp:p.At w aK aM) (eG:dW w)
 (hW:((((w.alloc (.cells #[.slice aK p.ds.length aH,.slice aM p.ts.length aG] 35)).alloc (.map #[] 0)).alloc (.map #[] 0)).alloc (.cells #[.slice aK p.ds.length aH,.slice aM p.ts.length aG,.int .i64 0,.slice none 0 0,.map (some (w.heap.size+1)),.map (some (w.heap.size+1+1))] 152))=W):
 ny W (ar4 w.heap.size eG.lt) p aK aM aH aG 0 [] (mem []) (mem []) 0 0 (.slice none 0 0)∧Below w.heap.size w W∧W.heap[w.heap.size]? =some (.cells #[.slice aK p.ds.length aH,.slice aM p.ts.length aG] 35 (0,0)):=by
 have hb:Below w.heap.size w W:=by rw[<- hW];exact((((au _ _).alloc (aB _) _).alloc agJ _).alloc agK _).alloc agK _
 have h0:W.heap[w.heap.size]? =some (.cells #[.slice aK p.ds.length aH,.slice aM p.ts.length aG] 35 (0,0)):=by rw[<- hW,heap_alloc_old _ _ agK,heap_alloc_old _ _ agK,heap_alloc_old _ _ agJ];exact heap_alloc_new _ _
 have h1:jI W (w.heap.size+1) 0 (mem []):=by
  have:=jI.made (w.alloc (.cells #[.slice aK p.ds.length aH,.slice aM p.ts.length aG] 35));have e:(w.alloc (.cells #[.slice aK p.ds.length aH,.slice aM p.ts.length aG] 35)).heap.size=w.heap.size+1:=agJ
  rw[e]at this;refine jI.same (f:=mem []) this ?_;rw[<- hW,heap_alloc_old _ _ agJ,heap_alloc_old _ _ agJ]
 have h2:jI W (w.heap.size+1+1) 0 (mem []):=by
  have:=jI.made ((w.alloc (.cells #[.slice aK p.ds.length aH,.slice aM p.ts.length aG] 35)).alloc (.map #[] 0));have e:((w.alloc (.cells #[.slice aK p.ds.length aH,.slice aM p.ts.length aG] 35)).alloc (.map #[] 0)).heap.size=w.heap.size+1+1:=agJ
  rw[e]at this;refine jI.same (f:=mem []) this ?_;rw[<- hW,heap_alloc_old _ _ agJ]
 have h3:W.heap[w.heap.size+1+1+1]? =some (.cells (ckV p aK aM aH aG 0 (.slice none 0 0) (w.heap.size+1) (w.heap.size+1+1)) 152 (0,0)):=by
  rw[<- hW];have e:(((w.alloc (.cells #[.slice aK p.ds.length aH,.slice aM p.ts.length aG] 35)).alloc (.map #[] 0)).alloc (.map #[] 0)).heap.size=w.heap.size+1+1+1:=agJ
  rw[<- e];exact heap_alloc_new _ _
 refine⟨{blk:=h3,row:=World.ownsRow_nil _ _ _ _,ms:=h1,mt:=h2,sz:= ?_,dat:= ?_,qw:=afO},hb,h0⟩
 ·show w.heap.size+4<=W.heap.size;rw[<- hW];simp
 ·exact⟨hp.1,hp.2.1,hp.2.2.1.below hb,hp.2.2.2.below hb,eG.same hb⟩
theorem ny.ag9 {w:World} {L:Lay} {p:Pr} {aK aM:Option Addr} {aH aG:Nat} {i i':Int} {A:List Fr} {f g:List UInt8->Bool} {n m:Nat} {v:Value}
 (h:ny w L p aK aM aH aG i A f g n m v):ny (w.setCell ⟨L.bc,2,none⟩ (.int .i64 i')) L p aK aM aH aG i' A f g n m v:=by
 have hg:=bU w ⟨L.bc,2,none⟩ (.int .i64 i');have hbel:=cK hg L.c0 h.b0;exact {blk:=agj,row:=h.row.kept hg (h.own_ne L.c1),ms:=h.ms.same (bg w _ _ rfl L.cs),mt:=h.mt.same (bg w _ _ rfl L.ct),sz:=aJ h.sz hg.size,dat:=h.dat.below hbel,qw:=λx hx=>(h.qw x hx).below hbel}
theorem Sr (p:Pr) (w:World) (aK aM:Option Addr) (aH aG:Nat) (t0:Th) (r0:List Th) (hts:p.ts=t0::r0) (hT:p.ts.length<maxLen) (hD:p.ds.length<maxLen) (hp:p.At w aK aM) (eG:dW w):
 Calls Tryz.prog 62 #[.agg #[.slice aK p.ds.length aH,.slice aM p.ts.length aG]] w λe w'=>e= .returned (.tuple #[.int .i64 (jA p t0.nm p.ts 0 [] []).err,.int .i64 (jA p t0.nm p.ts 0 [] []).line])∧Below w.heap.size w w':=by
 generalize hres:jA p t0.nm p.ts 0 [] []=res;have HR:=ah hres;have HP:=ah hp;have jX:=ah eG;have mg:=ah hts;have HT:=ah hT;unfold maxLen at hT;clear hres hp eG hts;have hmm:= @run_makeMap Tryz.prog;go_enter Tryz.func62,Tryz.ntmps62;go_upto_region 2 with fail;generalize hW:World.alloc (World.alloc (World.alloc (World.alloc w _) _) _) _=W;generalize Value.agg #[_,_]=a0;have HS:=ah (av1 HP.o jX.o hW);obtain⟨L,hL⟩: ∃L,ar4 w.heap.size jX.o.lt=L:=⟨_,rfl⟩;have XM:w.heap.size+1+1+1=L.bc:=by rw[<- hL];rfl
 have HL0:aj (w.heap.size=L.B0):=ah (by rw[<- hL];rfl);rw[hL]at HS;clear hW hL hmm;have c0:W.cell? ⟨w.heap.size,1,none⟩=some (.slice aM p.ts.length aG):=(eX HS.o.2.2 (j:=1) rfl).2;rw[XM];clear XM;go_wp2_with fail;go_loopw [5,6,7,8,17] (λ_ _ _ _ s wr=> ∃(k:Nat) (R:List Th) (f1 g1:List (List UInt8)) (v1:Value) (i1:Int),s= .int .i64 k∧k+R.length=p.ts.length∧p.ts.drop k=R∧res=jA p t0.nm R k f1 g1∧nG (kS p) f1∧nG (lI p) g1∧Below L.B0 w wr∧ny wr L p aK aM aH aG i1 [] (mem f1) (mem g1) f1.length g1.length v1) (λ_ _ _ _ s _=>p.ts.length -(intOf s).toNat)
 case atStart=>exact⟨0,p.ts,[],[],_,0,rfl,agJ,rfl,HR.o.symm,⟨List.nodup_nil,agJ⟩,⟨List.nodup_nil,agJ⟩,by rw[<- HL0.o];exact HS.o.2.1,HS.o.1⟩
 case round=>
  obtain⟨k,R,f1,g1,v1,i1,rfl,hlen,hdr,heq,hf1,hg1,hB,hI⟩:=hrel;have HE:=ah heq;have Cn:=ah hf1;have qI:=ah hg1;have HB:=ah hB;have HI:=ah hI;have HDR:=ah hdr;clear heq hf1 hg1 hB hI hdr c0 HS;cases R with
  |nil=>
   obtain rfl:k=p.ts.length:=aeQ
   have HX:aj (res.err=0∧res.line=0):=ah agC;go_wp2_with fail
   go_ret2
   exact⟨qG (by rw[HX.o.1];rfl) (by rw[HX.o.2];rfl),by rw[HL0.o];exact HB.o⟩
  |cons t R=>
   have hrow:=HI.o.dat.2.2.2.1.drop k;rw[HDR.o,aU]at hrow;obtain⟨⟨bl,off,iU,eU,dB,cu,rfl,hbl,x0,x1,x2,x3,hok,htx,hst,-⟩,-⟩:=hrow;simp only[aD]at hlen;have hkl:k<p.ts.length:=agH
   have kK:=ah hok;have HST:=ah hst;clear hok hst htx hbl;go_upto_region 5 with fail;generalize hW2:World.alloc wr _=W2;obtain⟨nb,hnb,zQ,-,xB,-⟩:=qD hW2;have HI2:=ah (HI.o.below zQ.o);have fC:aj (L.B1<=nb):=ah (by rw[<- hnb];exact HI.o.sz);have HB2:aj (Below L.B0 w W2):=ah (HB.o.trans (zQ.o.mono HI.o.b0));have aG1:=ah (HST.o.below (zQ.o.mono HI.o.b0));rw[hnb];clear hW2 hnb x0 x1 x2 x3 HST HB;have c2:W2.cell? ⟨L.bc,2,none⟩=some (.int .i64 i1):=(eX HI2.o.blk (j:=2) rfl).2;have f2:W2.frozen? ⟨L.bc,2,none⟩=false:=bK HI2.o.blk;go_upto_region 6 with fail;generalize hW3:World.setCell W2 _ _=W3;have rQ:aj (W2.grownBy W3 (some L.bc)):=ah (by rw[<- hW3];exact bU _ _ _);have HI3:aj (ny W3 L p aK _ aH aG (k:Int) [] (mem f1) (mem g1) f1.length g1.length v1):=ah (by rw[<- hW3];exact HI2.o.ag9);have Ci:aj (W3.heap[nb]? =some (.cells #[.string t.nm,.int .i64 t.line,.slice iU t.cZ.length eU,.slice dB t.body.len cu] 59 (0,0))):=ah ((rQ.o.block _ (aO xB.o) (by have:=L.c1;have:=fC.o;simp;omega)).trans xB.o);have nW:=ah (cK rQ.o L.c0 HI2.o.b0);have HB3:=ah (HB2.o.trans nW.o);have br6:=ah (aG1.o.below nW.o);clear hW3 c2 f2 HI2 xB zQ HB2 aG1 nW HI;have y3:W3.cell? ⟨nb,3,none⟩=some (.slice dB t.body.len cu):=(eX Ci.o (j:=3) rfl).2;have yU:aj (res=if(gX p k t.nm t0.nm t.body (dA []) f1 g1).err != 0 then gX p k t.nm t0.nm t.body (dA []) f1 g1 else jA p t0.nm R (k+1) (gX p k t.nm t0.nm t.body (dA []) f1 g1).f (gX p k t.nm t0.nm t.body (dA []) f1 g1).g):=ah HE.o;clear HE;go_wp2_with fail;refine(Vg L p _ _ aH aG k t t0 R r0 HDR.o mg.o afB HT.o hD t.body W3 dB cu [] f1 g1 v1 kK.o.2.2.2 br6.o agJ Cn.o qI.o HI3.o).mono ?_;rintro e' w4 ⟨rfl,hK4,hq4⟩;generalize gX p k t.nm t0.nm t.body (dA []) f1 g1=r1 at *;have dR:=ah (HB3.o.trans (hK4.below HI3.o.b0 (λq hq=>(HI3.o.row.lt q hq).1)));have KZ:=ah hq4;clear hK4 hq4;cases hr1:(r1.err != 0)
   ·have Cw:aj (res=jA p t0.nm R (k+1) r1.f r1.g):=ah (yU.o.trans (if_neg ahC));obtain⟨Oo,Im,v7,-,DN⟩:=KZ.o afh;have Cx:=ah (aI Oo (aI Im DN));have HD7:aj (p.ts.drop (k+1)=R):=ah aee;clear Oo Im DN KZ yU;go_wp2_with fail;go_roundw
    case rel=>exact⟨k+1,R,r1.f,r1.g,v7,_,agL,agH,HD7.o,Cw.o,Cx.o.1,Cx.o.2.1,dR.o,Cx.o.2.2⟩
    case measure=>simp[intOf];omega
   ·have wR:aj (res=r1):=ah (yU.o.trans (if_pos hr1));clear yU KZ;go_wp2_with fail
    go_ret2
    exact⟨qG ahm ahm,by rw[HL0.o];exact dR.o⟩
namespace Md
def I5:aZ->Int->Int
 | .nil,n=>n
 | .cons _ b e r,n=>I5 r (wrap64 (n+(I5 b b.len+I5 e e.len)))
def Fz (l:aZ):Int:=I5 l l.len
end Md
theorem aA3 (n x:Int):wrap64 (n+wrap64 x)=wrap64 (n+x):=by
 unfold wrap64;omega
theorem wrap_in' (n x y:Int):wrap64 (wrap64 (n+x)+y)=wrap64 (n+(x+y)):=by
 unfold wrap64;omega
def C9 (l:aZ):Prop:= ∀(w:World) (ao:Option Addr) (cap:Nat),l.len<=maxLen->l.At w w.heap.size ao 0->
 Calls Tryz.prog 61 #[.slice ao l.len cap] w λe w'=>e= .returned (.int .i64 (Fz l))∧Below w.heap.size w w'
theorem Kc (l:aZ) (hall:l.All λ_ b e=>C9 b∧C9 e):C9 l:=by
 intro w ao cap hl hat;generalize hres:Fz l=res;have HR:=ah hres;have HAT:=ah hat;have jZ:=ah hall;unfold maxLen at hl;clear hres hat hall;go_enter Tryz.func61,Tryz.ntmps61;go_wp2_with fail;go_loopw [3,5,10] (λs3 _ s wr=> ∃(k:Nat) (R:aZ) (n:Int),s= .int .i64 k∧s3= .int .i64 n∧k+R.len=l.len∧res=I5 R n∧(R.All λ_ b e=>C9 b∧C9 e)∧R.At wr wr.heap.size ao k∧Below w.heap.size w wr) (λ_ _ s _=>l.len -(intOf s).toNat)
 case atStart=>exact⟨0,l,l.len,rfl,rfl,agJ,HR.o.symm,jZ.o,HAT.o,au _ _⟩
 case round=>
  obtain⟨k,R,n,rfl,rfl,hlen,heq,pG,hrow,hB⟩:=hrel;have HE:=ah heq;have HB:=ah hB;clear heq hB;cases R with
  |nil=>
   obtain rfl:k=l.len:=aeY
   go_wp2_with fail;go_ret;exact⟨bV HE.o.symm,HB.o⟩
  |cons h b e R=>
   obtain⟨bl,off,s,rfl,hbl,hin,x0,x1,x2,x3,x4,x5,x6,x7,x8,x9,x10,hrest⟩:=aZ.At.head hrow;obtain⟨⟨hsb,hse⟩,D5⟩:=pG;have dM:=ah hsb;have EB:=ah hse;have iA:=ah hin;have hkl:k<l.len:=acz
   clear hrow hin hsb hse;go_upto_region 5 with fail;obtain⟨nb,hnb⟩: ∃n,wr.heap.size=n:=⟨_,rfl⟩;generalize hW2:World.alloc wr _=W2;have HY:aj (Sit wr W2 (rM nb h b e s [])):=ah aao;rw[hnb];clear hW2 hnb x0 x1 x2 x3 x4 x5 x6 x7 x8 x9 x10;obtain⟨T,F,Ah,hst,hF,hnext⟩:=calm W2;have HF:=ah hF;have dh:=ah hnext;clear hnext hF;have d0:=λx=>(HY.o.next (HF.o x)).2.1.2;have d1:=λx=>(HY.o.next (HF.o x)).2.2.1.2;have d2:=λx=>(HY.o.next (HF.o x)).2.2.2.1.2;have d3:=λx=>(HY.o.next (HF.o x)).2.2.2.2.1.2;have d4:=λx=>(HY.o.next (HF.o x)).2.2.2.2.2.1.2;have d5:=λx=>(HY.o.next (HF.o x)).2.2.2.2.2.2.1.2;have d6:=λx=>(HY.o.next (HF.o x)).2.2.2.2.2.2.2.1.2;have d7:=λx=>(HY.o.next (HF.o x)).2.2.2.2.2.2.2.2.1.2;have d8:=λx=>(HY.o.next (HF.o x)).2.2.2.2.2.2.2.2.2.1.2;have d9:=λx=>(HY.o.next (HF.o x)).2.2.2.2.2.2.2.2.2.2.1.2;have sN:=λx=>(HY.o.next (HF.o x)).2.2.2.2.2.2.2.2.2.2.2.1.2;clear d0 d1 d2 d3 d4 d5 d6 d7 d8;refine iI F agG agG hst ?_
   repeat (any_goals (first|go_big_quiet_step ((first|(go_at_call_of 61 (Value.slice s.dB b.len s.cu);refine(dM.o _ s.dB s.cu iA.o.1.2.2.2.2.2.2.1 ((iA.o.same HY.o.1).same (HF.o _)).2.2.2.1).mono ?_;rintro e w' ⟨rfl,hb⟩;exact⟨rfl,dh.o _ _ hb⟩)|(go_at_call_of 61 (Value.slice s.iD e.len s.gu);refine(EB.o _ s.iD s.gu iA.o.1.2.2.2.2.2.2.2 ((iA.o.same HY.o.1).same (HF.o _)).2.2.2.2).mono ?_;rintro e w' ⟨rfl,hb⟩;exact⟨rfl,dh.o _ _ hb⟩)))|(refine wpQuiet_step (λK hK=> ?_);go_simp;first|(refine hK _ ?_;clear hK K)|(split <;> first|(refine hK _ ?_;clear hK K)|(apply Exists.intro;refine⟨λ_=> ?_,hK _ ?_⟩;((first|(go_at_call_of 61 (Value.slice s.dB b.len s.cu);refine(dM.o _ s.dB s.cu iA.o.1.2.2.2.2.2.2.1 ((iA.o.same HY.o.1).same (HF.o _)).2.2.2.1).mono ?_;rintro e w' ⟨rfl,hb⟩;exact⟨rfl,dh.o _ _ hb⟩)|(go_at_call_of 61 (Value.slice s.iD e.len s.gu);refine(EB.o _ s.iD s.gu iA.o.1.2.2.2.2.2.2.2 ((iA.o.same HY.o.1).same (HF.o _)).2.2.2.2).mono ?_;rintro e w' ⟨rfl,hb⟩;exact⟨rfl,dh.o _ _ hb⟩)));clear hK K)))))
   all_goals (refine wpQuiet_nil ?_;rintro _ ⟨x,rfl⟩)
   have HB2:=ah (HY.o.1.trans ((HF.o x).mono HY.o.1.size));clear d9 sN HF dh hst;generalize F x=W3 at *;go_wp2_with fail;go_roundw
   case rel=>exact⟨k+1,R,_,agL,rfl,acz,HE.o.trans (show I5 R (wrap64 (n+(Fz b+Fz e)))=_ by rw[<- aA3]),D5,hrest.same HB2.o,HB.o.trans (HB2.o.mono HB.o.size)⟩
   case measure=>simp[intOf];omega
theorem Xq (l:aZ):C9 l:=Kc l (aZ.nQ (λ_ b e hb he=>⟨Kc b hb,Kc e he⟩) l)
namespace Md
def tJ:List Th->Int->Int
 | [],n=>n
 |t::r,n=>tJ r (wrap64 (n+Fz t.body))
theorem CQ: ∀(ds pre:List De) (c l n f:Int),(∀d∈ds,jw d=true)->(mK ds pre c l n f).1=0->c+l+n+f<=20->(ds.length:Int)+(c+l+n+f)<=20
 | [],_,_,_,_,_,_,_,h=>ahT
 |d::r,pre,c,l,n,f,hs,h0,h=>by
  have hd:=wO (hs d agJ);rw[I6]at h0;split at h0
  ·simp at h0
  split at h0
  ·simp at h0
  split at h0
  ·simp at h0
  rename_i hlim;split at h0
  ·simp at h0
  split at h0
  ·simp at h0
  have hl:dc d c<=12∧dl d l<=4∧dn d n<=2∧df d f<=2:=by unfold lim at hlim;simp only[Bool.or_eq_true,decide_eq_true_eq,not_or]at hlim;omega
  have ih:=CQ r (pre++[d]) _ _ _ _ (λx hx=>hs x (by simp[hx])) h0 agH;have hsum:c+l+n+f+1<=dc d c+dl d l+dn d n+df d f:=by
   unfold dc dl dn df;have hk:d.kind=1∨d.kind=2∨d.kind=3∨d.kind=4∨d.kind=5∨d.kind=6:=agH
   rcases hk with hk|hk|hk|hk|hk|hk <;> simp[hk] <;> omega
  simp only[aD];omega
def kH (p:Pr):ByteArray:=(p.ts.head?.map (·.nm)).getD ⟨#[]⟩
def ko (p:Pr):Int×Int:=
 if !rE p then(3,0)else if(mK p.ds [] 0 0 0 0).1 != 0 then mK p.ds [] 0 0 0 0 else
 if decide ((4:Int)<p.ts.length)then(2,0)else if(lM p).1 != 0 then lM p else
 if decide (60<tJ p.ts 0)then(2,0)else((jA p (kH p) p.ts 0 [] []).err,(jA p (kH p) p.ts 0 [] []).line)
end Md
theorem JD (p:Pr) (w:World) (aK aM:Option Addr) (aH aG:Nat) (hp:p.At w aK aM) (eG:dW w):
 Calls Tryz.prog 38 #[.agg #[.slice aK p.ds.length aH,.slice aM p.ts.length aG]] w λe w'=>e= .returned (.tuple #[.int .i64 (ko p).1,.int .i64 (ko p).2])∧Below w.heap.size w w':=by
 have HS:aj (ko p=if !rE p then(3,0)else if(mK p.ds [] 0 0 0 0).1 != 0 then mK p.ds [] 0 0 0 0 else
  if decide ((4:Int)<p.ts.length)then(2,0)else if(lM p).1 != 0 then lM p else
  if decide (60<tJ p.ts 0)then(2,0)else((jA p (kH p) p.ts 0 [] []).err,(jA p (kH p) p.ts 0 [] []).line)):=ah rfl
 generalize ko p=res at *;have hld:=hp.1;have hlt:=hp.2.1;unfold maxLen at hld hlt;have HP:=ah hp;have jX:=ah eG;clear hp eG;go_enter Tryz.func38,Tryz.ntmps38;go_upto_region 1 with fail;generalize hW:World.alloc w _=W;generalize Value.agg #[_,_]=a0;have HX:=ah ((Sit.start w).xV rfl (.slice aK p.ds.length aH) (.slice aM p.ts.length aG) 35);rw[hW]at HX;clear hW;obtain⟨-,⟨-,c0⟩,⟨-,c1⟩,-⟩:=HX.o;go_wp2_with fail;refine(Va p _ aK aM aH aG (HP.o.same HX.o.1) (jX.o.same HX.o.1)).mono ?_;rintro e w1 ⟨rfl,hb1⟩;have HY:=ah (HX.o.next hb1);clear HX hb1 c0 c1;obtain⟨-,⟨-,c0⟩,⟨-,c1⟩,-⟩:=HY.o;have Cv:aj (rE p=true->(∀d∈p.ds,jw d=true)∧∃t0 r0,p.ts=t0::r0):=ah (λh=>by
  unfold rE at h;simp only[aP,List.all_eq_true,decide_eq_true_eq]at h;refine⟨h.1.1,?_⟩;cases hts:p.ts with
  |nil=>rw[hts]at h;simp at h
  |cons a b=>exact⟨a,b,rfl⟩)
 cases hS:rE p
 ·have HE:aj (res=(3,0)):=ah (HS.o.trans ahK);clear Cv;go_wp2_with fail
  go_ret2
  exact⟨qG ahb ahb,HY.o.1⟩
 ·have HE:aj (res=if(mK p.ds [] 0 0 0 0).1 != 0 then mK p.ds [] 0 0 0 0 else
   if decide ((4:Int)<p.ts.length)then(2,0)else if(lM p).1 != 0 then lM p else
   if decide (60<tJ p.ts 0)then(2,0)else((jA p (kH p) p.ts 0 [] []).err,(jA p (kH p) p.ts 0 [] []).line)):=ah (HS.o.trans ahK)
  have yB:=ah (Cv.o hS);have Cm:aj ((mK p.ds [] 0 0 0 0).1=0->p.ds.length<=20):=ah (λh0=>abR);clear HS Cv;go_wp2_with fail;refine(Ke p.ds _ aK aH HP.o.1 ((HP.o.same HY.o.1).2.2.1) yB.o.1).mono ?_;rintro e w2 ⟨rfl,hb2⟩;have HZ:=ah (HY.o.next hb2);clear HY hb2 c0 c1;obtain⟨-,⟨-,c0⟩,⟨-,c1⟩,-⟩:=HZ.o;generalize mK p.ds [] 0 0 0 0=dd at *;cases h1:(dd.1 != 0)
  case true=>
   have dG:aj (res=dd):=ah (HE.o.trans (if_pos h1));clear HE yB Cm;go_wp2_with fail
   go_ret2
   exact⟨qG agN agN,HZ.o.1⟩
  have HSU:=ah (Cm.o agO);clear Cm;have G5:aj (res=if decide ((4:Int)<p.ts.length)then(2,0)else if(lM p).1 != 0 then lM p else
   if decide (60<tJ p.ts 0)then(2,0)else((jA p (kH p) p.ts 0 [] []).err,(jA p (kH p) p.ts 0 [] []).line)):=ah (HE.o.trans (if_neg agW))
  clear HE;by_cases h4:(4:Int)<(p.ts.length:Int)
  ·have dG:aj (res=(2,0)):=ah (G5.o.trans (if_pos ahr));clear G5 yB;go_wp2_with fail
   go_ret2
   exact⟨qG agN agN,HZ.o.1⟩
  have HE2:aj (res=if(lM p).1 != 0 then lM p else
   if decide (60<tJ p.ts 0)then(2,0)else((jA p (kH p) p.ts 0 [] []).err,(jA p (kH p) p.ts 0 [] []).line)):=ah (G5.o.trans (if_neg ahr))
  have h4':(p.ts.length:Int)<=4:=agH
  have EC:aj (p.ts.length<=4):=ah agH;clear G5;go_wp2_with fail;refine(Ta p _ aK aM aH aG (HP.o.same HZ.o.1) (by have:=HSU.o;have:=EC.o;unfold maxLen;omega)).mono ?_;rintro e w3 ⟨rfl,hb3⟩;have HV:=ah (HZ.o.next hb3);clear HZ hb3 c0 c1 h1;obtain⟨-,⟨-,c0⟩,⟨-,c1⟩,-⟩:=HV.o;generalize lM p=tt at *;cases h2:(tt.1 != 0)
  case true=>
   have dG:aj (res=tt):=ah (HE2.o.trans (if_pos h2));clear HE2 yB;go_wp2_with fail
   go_ret2
   exact⟨qG agN agN,HV.o.1⟩
  have kU:aj (res=if decide (60<tJ p.ts 0)then(2,0)else((jA p (kH p) p.ts 0 [] []).err,(jA p (kH p) p.ts 0 [] []).line)):=ah (HE2.o.trans (if_neg ahl));clear HE2;have qF:=(HP.o.same HV.o.1).2.2.2;go_wp2_with fail;go_loopw [8,10,40] (λs8 _ s wr=> ∃(k:Nat) (R:List Th) (n:Int),s= .int .i64 k∧s8= .int .i64 n∧k+R.length=p.ts.length∧tJ p.ts 0=tJ R n∧iG wr wr.heap.size R aM k∧Sit w wr [(w.heap.size,0,(.slice aK p.ds.length aH)),(w.heap.size,1,(.slice aM p.ts.length aG))]) (λ_ _ s _=>p.ts.length -(intOf s).toNat)
  case atStart=>exact⟨0,p.ts,0,rfl,rfl,agJ,rfl,qF,HV.o⟩
  case round=>
   obtain⟨k,R,n,rfl,rfl,hlen,heq,hrow,hsit⟩:=hrel;have HU:=ah hsit;have HQ:=ah heq;clear hsit HV c0 c1 qF heq h2;obtain⟨-,⟨-,c0⟩,⟨-,c1⟩,-⟩:=HU.o;cases R with
   |nil=>
    obtain rfl:k=p.ts.length:=aeQ;have HN:aj (tJ p.ts 0=n):=HQ;by_cases h6:60<n
    ·have dG:aj (res=(2,0)):=ah (kU.o.trans (if_pos afD));clear kU yB;go_wp2_with fail
     go_ret2
     exact⟨qG agN agN,HU.o.1⟩
    ·have h6':n<=60:=agH;obtain⟨-,t0,r0,hts⟩:=yB.o;have mg:=ah hts;have HHN:aj (kH p=t0.nm):=ah (by unfold kH;rw[hts];rfl);have dG:aj (res=((jA p t0.nm p.ts 0 [] []).err,(jA p t0.nm p.ts 0 [] []).line)):=ah (kU.o.trans ((if_neg afD).trans (by rw[HHN.o])));clear kU yB hts;go_wp2_with fail;refine(Sr p _ aK aM aH aG t0 r0 mg.o (by have:=EC.o;unfold maxLen;omega) (by have:=HSU.o;unfold maxLen;omega) (HP.o.same HU.o.1) (jX.o.same HU.o.1)).mono ?_;rintro e w4 ⟨rfl,hb4⟩;go_wp2_with fail
     go_ret2
     exact⟨qG agN agN,(HU.o.next hb4).1⟩
   |cons t R=>
    obtain⟨⟨b,off,iU,eU,dB,cu,rfl,hB,x0,x1,x2,x3,hok,htx,hst,hcl⟩,hrest⟩:=hrow;simp only[aD]at hlen;have hkl:k<p.ts.length:=agH;have kK:=ah hok;have HST:=ah hst;clear hok htx hst hcl;go_upto_region 15 with fail;clear c0 c1;obtain⟨n2,hn2⟩: ∃n,wr.heap.size=n:=⟨_,rfl⟩;generalize hW2:World.alloc wr _=W2;have HB2:aj (Below wr.heap.size wr W2):=ah afb;have HV:aj (Sit w W2 ((n2,0,.string t.nm)::(n2,1,.int .i64 t.line)::(n2,2,.slice iU t.cZ.length eU)::(n2,3,.slice dB t.body.len cu)::[(w.heap.size,0,(.slice aK p.ds.length aH)),(w.heap.size,1,(.slice (some ⟨b,off,none⟩) p.ts.length aG))])):=ah acU;rw[hn2];clear hW2 hn2 x0 x1 x2 x3;obtain⟨-,⟨-,c0⟩,⟨-,c1⟩,⟨-,c2⟩,⟨-,c3⟩,⟨-,c4⟩,⟨-,c5⟩,-⟩:=HV.o;go_wp2_with fail;refine(Xq t.body _ dB cu kK.o.2.2.2 (HST.o.same HB2.o)).mono ?_;rintro e' w4 ⟨rfl,hb4⟩;have kg:=ah (HB2.o.trans (hb4.mono HB2.o.size));clear hb4 c0 c1 c2 c3 c4 c5;go_wp2_with fail;go_roundw
    case rel=>exact⟨k+1,R,_,agL,rfl,agH,HQ.o.trans rfl,hrest.same kg.o,HU.o.next kg.o⟩
    case measure=>simp[intOf];omega
end Go.Proofs.YtdoplekppjkkpaaGreatDoor
