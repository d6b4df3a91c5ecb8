/- The checker's state as data, and the contract of its statement at every operator. And what hangs on it. -/
import Derived.Test.YtldapdcphphodaaGreatDoorGMG
import Derived.Deep.RegionWith
set_option linter.unusedSimpArgs false
set_option linter.unusedVariables false
set_option maxHeartbeats 40000000
set_option maxRecDepth 1000000
namespace Go.Proofs.YtldapdcphphodaaGreatDoor
open Go.RowKit
namespace Md
structure Fr where
 h:dM
 b:aY
 e:aY
 s:Sl
def dG:List Fr->aY
 | []=> .nil
 |x::r=> .cons x.h x.b x.e (dG r)
def oJ (h:dM) (b e:aY) (s:Sl):List Value:=[.int .i64 h.op,.int .i64 h.line,.string h.nm,.string h.arg,.slice s.fM h.idx.len s.eU,.int .i64 h.dQ,.int .i64 h.xn,.string h.dP,.slice s.fD h.bG.len s.dS,.slice s.dL b.len s.cK,.slice s.gJ e.len s.fH]
def Az:List Fr->List Value
 | []=>[]
 |x::r=>oJ x.h x.b x.e x.s++Az r
theorem Ei: ∀A:List Fr,(Az A).length=A.length*11
 | []=>rfl
 |x::r=>by simp only[Az,au,Ei r,ay];simp[oJ];omega
theorem BZ: ∀(A:List Fr) (x:Fr),Az (A++[x])=Az A++oJ x.h x.b x.e x.s
 | [],x=>by simp[Az]
 |y::r,x=>by simp[Az,BZ r x]
theorem rO: ∀A:List Fr,(dG A).len=A.length
 | []=>rfl
 |x::r=>by simp[dG,aY.len,rO r]
def tV (w:World) (B:Nat) (h:dM) (b e:aY) (s:Sl):Prop:=uE h b e∧h.idx.At w B s.fM 0∧h.bG.At w B s.fD 0∧b.At w B s.dL 0∧e.At w B s.gJ 0
theorem tV.below {w w':World} {B:Nat} {h:dM} {b e:aY} {s:Sl} (hi:tV w B h b e s) (hb:Below B w w'):tV w' B h b e s:=
 ⟨hi.1,hi.2.1.below hb,hi.2.2.1.below hb,hi.2.2.2.1.below hb,hi.2.2.2.2.below hb⟩
theorem tV.use {w:World} {B:Nat} {h:dM} {b e:aY} {s:Sl} (hi:tV w B h b e s) (hb:B<=w.heap.size):Dm w h b e s:=
 ⟨hi.1,hi.2.1.mono hb,hi.2.2.1.mono hb,hi.2.2.2.1.mono hb,hi.2.2.2.2.mono hb⟩
def Z7 (w:World) (B:Nat) (A:List Fr):Prop:= ∀x∈A,tV w B x.h x.b x.e x.s
theorem UY {w:World} {B B' g:Nat} (hB:B<=B') (hg:g<B'): ∀(A:List Fr) (k:Nat),(∀j u,(Az A)[j]? =some u->w.cell? ⟨g,k*11+j,none⟩=some u)->Z7 w B A->(dG A).At w B' (some ⟨g,0,none⟩) k
 | [],_,_,_=>trivial
 |x::r,k,hc,hin=>by
  have hx:=hin x ahg;have c: ∀j u,(oJ x.h x.b x.e x.s)[j]? =some u->w.cell? ⟨g,0+k*11+j,none⟩=some u:=λj u hu=>by rw[aV];refine hc j u ?_;have:j<(oJ x.h x.b x.e x.s).length:=(List.getElem?_eq_some_iff.1 hu).1;rw[Az,List.getElem?_append_left this];exact hu
  refine⟨⟨g,0,x.s.fM,x.s.eU,x.s.fD,x.s.dS,x.s.dL,x.s.cK,x.s.gJ,x.s.fH,rfl,hg,c 0 _ rfl,c 1 _ rfl,c 2 _ rfl,c 3 _ rfl,c 4 _ rfl,c 5 _ rfl,c 6 _ rfl,c 7 _ rfl,c 8 _ rfl,c 9 _ rfl,c 10 _ rfl,hx.1,hx.2.1.mono hB,hx.2.2.1.mono hB,hx.2.2.2.1.mono hB,hx.2.2.2.2.mono hB⟩,?_⟩;refine UY hB hg r (k+1) (λj u hu=> ?_) (λy hy=>hin y ahG);have:=hc (11+j) u (by rw[Az,List.getElem?_append_right (by simp[oJ])];simpa[oJ]using hu);rw[show(k+1)*11+j=k*11+(11+j) by omega];exact this
def jy (p:Pr) (j:Nat) (tn iK:ByteArray) (ar:aY) (f g:List UInt8->Bool) (h:dM):Int:=
 if h.op==1 then Gi p j h else if h.op==2||h.op==3 then kZ p j h.dQ h.xn h.dP h.bG else
 if h.op==4 then fQ [dU (mean p j h.nm) [4],nest (fG ar [7]||qR ar h.nm [4])]else
 if h.op==5||h.op==6 then fQ [dU (mean p j h.nm) [5],nest (fG ar [7]||qR ar h.nm [5,6])]else
 if h.op==7 then nest (fG ar [7])else if h.op==8 then nest (fG ar [7,8])else
 if h.op==9||h.op==10||h.op==11 then fQ [dU (mean p j h.nm) [6],nest ((fG ar [7]|| !qR ar (pE p.ds h.nm) [4])||(h.op==9&&fG ar [8]))]else
 if h.op==12 then fQ [dU (mean p j h.nm) [8],nest (fG ar [7,8,3]||(h.nm.toList==tn.toList||h.nm.toList==iK.toList)),(kQ (f h.nm.toList))]else
 if h.op==13 then fQ [dU (mean p j h.nm) [8],nest (fG ar [7,8]||h.nm.toList==tn.toList)]else
 if h.op==14 then fQ [dU (mean p j h.nm) [7],nest (fG ar [7,3]),(kQ (g h.nm.toList)),kZ p j h.dQ h.xn h.dP h.bG]else
 if h.op==15 then fQ [dU (mean p j h.nm) [1],dU (mean p j h.arg) [7],nest (fG ar [7])]else 0
end Md
open Md
def ckV (p:Pr) (aK aM:Option Addr) (aG aD:Nat) (i:Int) (v:Value) (bs bt:Nat):Array Value:= #[.slice aK p.ds.length aG,.slice aM p.ts.length aD,.int .i64 i,v,.map (some bs),.map (some bt)]
structure Lay where
 B0:Nat
 B1:Nat
 bc:Nat
 bs:Nat
 bt:Nat
 c0:B0<=bc
 s0:B0<=bs
 t0:B0<=bt
 c1:bc<B1
 s1:bs<B1
 t1:bt<B1
 cs:bc≠bs
 ct:bc≠bt
 st:bs≠bt
 kw:0<B0
def SN (w:World) (B0:Nat) (p:Pr) (aK aM:Option Addr):Prop:=p.ds.length<=maxLen∧p.ts.length<=maxLen∧iT w B0 p.ds aK 0∧gY w B0 p.ts aM 0∧dZ w
theorem SN.below {w w':World} {L:Lay} {p:Pr} {aK aM:Option Addr} (h:SN w L.B0 p aK aM) (hb:Below L.B0 w w'):SN w' L.B0 p aK aM:=
 ⟨h.1,h.2.1,h.2.2.1.below hb,h.2.2.2.1.below hb,h.2.2.2.2.below hb L.kw⟩
theorem SN.use {w:World} {B0:Nat} {p:Pr} {aK aM:Option Addr} (h:SN w B0 p aK aM) (hB:B0<=w.heap.size):p.At w aK aM:=⟨h.1,h.2.1,h.2.2.1.mono hB,h.2.2.2.1.mono hB⟩
structure Kp (L:Lay) (v:Value) (w w':World):Prop where
 os:w'.os=w.os
 tape:w'.tape=w.tape
 output:w'.output=w.output
 size:w.heap.size<=w'.heap.size
 block: ∀k,k<w.heap.size->k≠L.bc->k≠L.bs->k≠L.bt->v.ownBlock≠some k->w'.heap[k]? =w.heap[k]?
def Ac (w:World) (v v':Value):Prop:=v'.ownBlock=v.ownBlock∨∃g,v'.ownBlock=some g∧w.heap.size<=g
theorem Kp.refl (L:Lay) (v:Value) (w:World):Kp L v w w:=⟨rfl,rfl,rfl,aH _,λ_ _ _ _ _ _=>rfl⟩
theorem Kp.of_below {L:Lay} {v:Value} {w w':World} (h:Below w.heap.size w w'):Kp L v w w':=⟨h.os,h.tape,h.output,h.size,λk hk _ _ _ _=>h.block k hk⟩
theorem Kp.trans {L:Lay} {v v1:Value} {w w1 w2:World} (h:Kp L v w w1) (ho:Ac w v v1∨v1.ownBlock=none) (k:Kp L v1 w1 w2):Kp L v w w2:=
 ⟨k.os.trans h.os,k.tape.trans h.tape,k.output.trans h.output,aR h.size k.size,λj hj hc hs ht hv=>(k.block j (aJ hj h.size) hc hs ht (by
   rcases ho with(e|⟨g,e,hg⟩)|e
   ·rw[e];exact hv
   ·rw[e];intro e';injection e' with e';omega
   ·rw[e];simp)).trans (h.block j hj hc hs ht hv)⟩
theorem Kp.below {L:Lay} {v:Value} {w w':World} (h:Kp L v w w') (hB:L.B0<=w.heap.size) (hv: ∀k,v.ownBlock=some k->L.B1<=k):Below L.B0 w w':=
 ⟨h.os,h.tape,h.output,h.size,λk hk=>h.block k ahe (by have:=L.c0;omega) (by have:=L.s0;omega) (by have:=L.t0;omega) (λe=>acM)⟩
theorem Kp.far {L:Lay} {v:Value} {w w':World} {k:Nat} (h:Kp L v w w') (hk:k<w.heap.size) (hB:L.B1<=k) (hv:v.ownBlock≠some k):w'.heap[k]? =w.heap[k]?:=
 h.block k hk agA (by have:=L.s1;omega) (by have:=L.t1;omega) hv
theorem Ac.trans {w w1:World} {v v1 v2:Value} (h:Ac w v v1) (k:Ac w1 v1 v2) (hs:w.heap.size<=w1.heap.size):Ac w v v2:=by
 rcases k with e|⟨g,e,hg⟩
 ·rcases h with e'|⟨g,e',hg⟩
  ·exact .inl (e.trans e')
  ·exact .inr ⟨g,e.trans e',hg⟩
 ·exact .inr ⟨g,e,aR hs hg⟩
theorem Ac.ne {w:World} {v v':Value} {k:Nat} (h:Ac w v v') (hk:k<w.heap.size) (hv:v.ownBlock≠some k):v'.ownBlock≠some k:=by
 rcases h with e|⟨g,e,hg⟩
 ·rw[e];exact hv
 ·rw[e];intro e';injection e' with e';omega
structure mP (w:World) (L:Lay) (p:Pr) (aK aM:Option Addr) (aG aD:Nat) (i:Int) (A:List Fr) (f g:List UInt8->Bool) (n m:Nat) (v:Value):Prop where
 blk:w.heap[L.bc]? =some (.cells (ckV p aK aM aG aD i v L.bs L.bt) 127 (0,0))
 row:w.ownsRow L.B1 101 11 v A.length (Az A)
 ms:jr w L.bs n f
 mt:jr w L.bt m g
 sz:L.B1<=w.heap.size
 dat:SN w L.B0 p aK aM
 qd:Z7 w L.B0 A
section
variable {w:World} {L:Lay} {p:Pr} {aK aM:Option Addr} {aG aD:Nat} {i:Int} {A:List Fr} {f g:List UInt8->Bool} {n m:Nat} {v:Value}
theorem mP.b0 (h:mP w L p aK aM aG aD i A f g n m v):L.B0<=w.heap.size:=aen
theorem mP.form (h:mP w L p aK aM aG aD i A f g n m v): ∃dx bV,v= .slice dx A.length bV∧(dG A).At w w.heap.size dx 0:=by
 rcases h.row.2 with⟨rfl,hn⟩|⟨g',cap,cur,rfl,hb,hg,h1,h2,h3,h4⟩
 ·have:A=[]:=List.eq_nil_of_length_eq_zero hn;subst this;exact⟨none,0,rfl,trivial⟩
 ·refine⟨_,_,rfl,UY h.b0 (aU hg) A 0 (λj u hu=> ?_) h.qd⟩;rw[Nat.zero_mul,aV,cell_of_row w g' j cur _ (0,0) hg];rw[<- h4,List.getElem?_take]at hu;split at hu
  ·simpa using hu
  ·cases hu
theorem eX {w:World} {b j:Nat} {cs:Array Value} {t:TypeId} {fr:Nat×Nat} {u:Value} (h:w.heap[b]? =some (.cells cs t fr)) (hu:cs[j]? =some u):b<w.heap.size∧w.cell? ⟨b,j,none⟩=some u:=
 ⟨(aU h),by rw[cell_of_row w b j cs t fr h];exact hu⟩
theorem mP.holds {dx:Option Addr} {bV:Nat} (h:mP w L p aK aM aG aD i A f g n m (.slice dx A.length bV)):Holds w (uG L.bc p aK aM aG aD i dx (dG A).len bV L.bs L.bt):=by
 have hb:=h.blk;rw[rO];exact⟨eX hb (j:=0) rfl,eX hb (j:=1) rfl,eX hb (j:=2) rfl,eX hb (j:=3) rfl,eX hb (j:=4) rfl,eX hb (j:=5) rfl,trivial⟩
theorem mP.below {w':World} (h:mP w L p aK aM aG aD i A f g n m v) (hb:Below w.heap.size w w'):mP w' L p aK aM aG aD i A f g n m v where
 blk:=(hb.block _ (aU h.blk)).trans h.blk
 row:=h.row.kept (row:=none) ⟨hb.os,hb.tape,hb.output,hb.size,λk hk _=>hb.block k hk⟩ adp
 ms:=h.ms.next hb
 mt:=h.mt.next hb
 sz:=aR h.sz hb.size
 dat:=h.dat.below (hb.mono h.b0)
 qd:=λx hx=>(h.qd x hx).below (hb.mono h.b0)
theorem mP.own_ne (h:mP w L p aK aM aG aD i A f g n m v) {b:Nat} (hb:b<L.B1):v.ownBlock=none∨v.ownBlock≠some b:=by
 cases hv:v.ownBlock with
 |none=>exact .inl rfl
 |some k=>refine .inr (λe=> ?_);injection e with e;subst e;have:=(h.row.lt _ hv).1;omega
theorem mP.bq8 {w':World} {f':List UInt8->Bool} {n':Nat} (h:mP w L p aK aM aG aD i A f g n m v) (hg:w.grownBy w' (some L.bs)) (hm:jr w' L.bs n' f'):mP w' L p aK aM aG aD i A f' g n' m v:=by
 have hbel:=cZ hg L.s0 h.b0;exact {blk:=(hg.block _ (aU h.blk) (by simp;exact L.cs)).trans h.blk,row:=h.row.kept hg (h.own_ne L.s1),ms:=hm,mt:=h.mt.same (hg.block _ h.mt.lt (by simp;exact L.st.symm)),sz:=aR h.sz hg.size,dat:=h.dat.below hbel,qd:=λx hx=>(h.qd x hx).below hbel}
theorem mP.bq9 {w':World} {g':List UInt8->Bool} {m':Nat} (h:mP w L p aK aM aG aD i A f g n m v) (hg:w.grownBy w' (some L.bt)) (hm:jr w' L.bt m' g'):mP w' L p aK aM aG aD i A f g' n m' v:=by
 have hbel:=cZ hg L.t0 h.b0;exact {blk:=(hg.block _ (aU h.blk) (by simp;exact L.ct)).trans h.blk,row:=h.row.kept hg (h.own_ne L.t1),ms:=h.ms.same (hg.block _ h.ms.lt (by simp;exact L.st)),mt:=hm,sz:=aR h.sz hg.size,dat:=h.dat.below hbel,qd:=λx hx=>(h.qd x hx).below hbel}
end
def fS (h:dM) (f:List UInt8->Bool):List UInt8->Bool:=if h.op==12 then zG f h.nm.toList else f
def gS (h:dM) (g:List UInt8->Bool):List UInt8->Bool:=if h.op==14 then zG g h.nm.toList else g
def nS (k:Int) (h:dM) (n:Nat):Nat:=if h.op==k then n+1 else n
def zh (w:World) (L:Lay) (p:Pr) (aK aM:Option Addr) (aG aD:Nat) (i:Int) (A:List Fr) (h:dM) (f g:List UInt8->Bool) (n m:Nat) (v:Value) (r:Int) (e:Ending) (w':World):Prop:=
 e= .returned (.int .i64 r)∧Kp L (.slice none 0 0) w w'∧mP w' L p aK aM aG aD i A (fS h f) (gS h g) (nS 12 h n) (nS 14 h m) v
theorem zh.plain {w w':World} {L:Lay} {p:Pr} {aK aM:Option Addr} {aG aD:Nat} {i:Int} {A:List Fr} {h:dM} {f g:List UInt8->Bool} {n m:Nat} {v:Value} {r x:Int} {e:Ending}
 (hI:mP w L p aK aM aG aD i A f g n m v) (h12:(h.op==12)=false) (qD:(h.op==14)=false) (hr:r=x) (hp:e= .returned (.int .i64 x)∧Below w.heap.size w w'):zh w L p aK aM aG aD i A h f g n m v r e w':=by
 subst hr;refine⟨hp.1,Kp.of_below hp.2,?_⟩;unfold fS gS nS;rw[h12,qD];exact hI.below hp.2
theorem mP.grow {w w':World} {L:Lay} {p:Pr} {aK aM:Option Addr} {aG aD:Nat} {i:Int} {A:List Fr} {f g:List UInt8->Bool} {n m:Nat} {v:Value} {b:Nat}
 (h:mP w L p aK aM aG aD i A f g n m v) (hb:L.B0<=b) (hb1:b<L.B1) (hg:w.grownBy w' (some b)):p.At w' aK aM∧dZ w'∧∀dx bV,v= .slice dx A.length bV->(dG A).At w' w'.heap.size dx 0:=by
 have hbel:=cZ hg hb h.b0;have hd:=h.dat.below hbel;have hB:L.B0<=w'.heap.size:=aR h.b0 hg.size;refine⟨hd.use hB,hd.2.2.2.2,λdx bV hv=> ?_⟩;rcases(h.row.kept hg (h.own_ne hb1)).2 with⟨e,hn⟩|⟨g',cap,cur,e,hbb,hgg,h1,h2,h3,h4⟩
 ·have:A=[]:=List.eq_nil_of_length_eq_zero hn;subst this;exact trivial
 ·rw[hv]at e;injection e with e1 e2 e3;subst e1;refine UY hB (aU hgg) A 0 (λj u hu=> ?_) (λx hx=>(h.qd x hx).below hbel);rw[Nat.zero_mul,aV,cell_of_row w' g' j cur _ (0,0) hgg];rw[<- h4,List.getElem?_take]at hu;split at hu
  ·simpa using hu
  ·cases hu
theorem UL (w:World) (L:Lay) (p:Pr) (aK aM:Option Addr) (aG aD:Nat) (j:Nat) (A:List Fr) (f g:List UInt8->Bool) (n m:Nat) (v:Value) (t t0:Th) (r r0:List Th) (hd:p.ts.drop j=t::r) (hts:p.ts=t0::r0) (hj:dD (j:Int)) (hA:A.length<=maxLen) (hn:n<maxLen) (hm:m<maxLen)
 (hI:mP w L p aK aM aG aD (j:Int) A f g n m v) (h:dM) (b e:aY) (s:Sl) (hin:tV w L.B0 h b e s):
 Calls Tryz.prog 91 #[.pointer (some ⟨L.bc,0,none⟩),jH h b e s] w (zh w L p aK aM aG aD (j:Int) A h f g n m v (jy p j t.nm t0.nm (dG A) f g h)):=by
 obtain⟨dx,bV,rfl,hat⟩:=hI.form;have hp:=hI.dat.use hI.b0;have hin':=hin.use hI.b0;have eD:=hI.dat.2.2.2.2;have hal:(dG A).len<=maxLen:=ahc
 have hh:=hI.holds;by_cases h0:h.op<1∨15<h.op
 ·refine(qP p w aK aM aG aD j dx bV L.bs L.bt L.bc h b e (dG A) s hj hp hin' eD hal hat hh (.inl ⟨h0,rfl⟩)).mono (λe' w' hr=>zh.plain hI ?_ ?_ ?_ hr)
  ·rw[beq_eq_false_iff_ne];omega
  ·rw[beq_eq_false_iff_ne];omega
  ·have hb: ∀k:Int,1<=k->k<=15->(h.op==k)=false:=λk h1 h2=>by rw[beq_eq_false_iff_ne];omega
   unfold jy;simp[hb]
 ·have hc:h.op=1∨(h.op=2∨h.op=3)∨h.op=4∨(h.op=5∨h.op=6)∨h.op=7∨h.op=8∨(h.op=9∨h.op=10∨h.op=11)∨h.op=12∨h.op=13∨h.op=14∨h.op=15:=by omega
  rcases hc with hc|hc|hc|hc|hc|hc|hc|hc|hc|hc|hc
  ·exact(qP p w aK aM aG aD j dx bV L.bs L.bt L.bc h b e (dG A) s hj hp hin' eD hal hat hh (.inr (.inl ⟨hc,rfl⟩))).mono (λe' w' hr=>zh.plain hI aht aht afz hr)
  ·exact(qP p w aK aM aG aD j dx bV L.bs L.bt L.bc h b e (dG A) s hj hp hin' eD hal hat hh (.inr (.inr (.inl ⟨hc,rfl⟩)))).mono (λe' w' hr=>zh.plain hI adj adj acw hr)
  ·exact(qP p w aK aM aG aD j dx bV L.bs L.bt L.bc h b e (dG A) s hj hp hin' eD hal hat hh (.inr (.inr (.inr (.inl ⟨hc,rfl⟩))))).mono (λe' w' hr=>zh.plain hI aht aht afz hr)
  ·exact(qP p w aK aM aG aD j dx bV L.bs L.bt L.bc h b e (dG A) s hj hp hin' eD hal hat hh (.inr (.inr (.inr (.inr (.inl ⟨hc,rfl⟩)))))).mono (λe' w' hr=>zh.plain hI adj adj acw hr)
  ·exact(qP p w aK aM aG aD j dx bV L.bs L.bt L.bc h b e (dG A) s hj hp hin' eD hal hat hh (.inr (.inr (.inr (.inr (.inr (.inl ⟨hc,rfl⟩))))))).mono (λe' w' hr=>zh.plain hI aht aht afz hr)
  ·exact(qP p w aK aM aG aD j dx bV L.bs L.bt L.bc h b e (dG A) s hj hp hin' eD hal hat hh (.inr (.inr (.inr (.inr (.inr (.inr (.inl ⟨hc,rfl⟩)))))))).mono (λe' w' hr=>zh.plain hI aht aht afz hr)
  ·exact(qP p w aK aM aG aD j dx bV L.bs L.bt L.bc h b e (dG A) s hj hp hin' eD hal hat hh (.inr (.inr (.inr (.inr (.inr (.inr (.inr (.inl ⟨hc,rfl⟩))))))))).mono (λe' w' hr=>zh.plain hI acI acI (by unfold jy;rcases hc with hc|hc|hc <;> simp[hc]) hr)
  ·have hcl:=λw' (hg:w.grownBy w' (some L.bs))=>hI.grow L.s0 L.s1 hg;refine(ZV p w aK aM aG aD dx bV L.bs L.bt L.bc j t t0 r r0 hd hts h b e (dG A) s hj (λw' hg=>(hcl w' hg).1) hin.1 (λw' hg=>(hin.2.2.1.below (cZ hg L.s0 hI.b0)).mono (aR hI.b0 hg.size)) (λw' hg=>(hcl w' hg).2.1) hal (λw' hg=>(hcl w' hg).2.2 _ _ rfl) hh L.cs n f hn hI.ms hc).mono ?_;rintro e' w' ⟨h1,h2,h3⟩;refine⟨by rw[h1];unfold jy;simp[hc],⟨h3.os,h3.tape,h3.output,h3.size,λk hk _ hs _ _=>h3.block k hk (by simp;exact hs)⟩,?_⟩;unfold fS gS nS;rw[hc];exact hI.bq8 h3 h2
  ·exact(qP p w aK aM aG aD j dx bV L.bs L.bt L.bc h b e (dG A) s hj hp hin' eD hal hat hh (.inr (.inr (.inr (.inr (.inr (.inr (.inr (.inr (.inr ⟨hc,j,t,r,rfl,hd,rfl⟩)))))))))).mono (λe' w' hr=>zh.plain hI aht aht afz hr)
  ·have hcl:=λw' (hg:w.grownBy w' (some L.bt))=>hI.grow L.t0 L.t1 hg;refine(ZW p w aK aM aG aD j dx bV L.bs L.bt L.bc h b e (dG A) s hj (λw' hg=>(hcl w' hg).1) hin.1 (λw' hg=>(hin.2.2.1.below (cZ hg L.t0 hI.b0)).mono (aR hI.b0 hg.size)) (λw' hg=>(hcl w' hg).2.1) hal (λw' hg=>(hcl w' hg).2.2 _ _ rfl) hh L.ct m g hm hI.mt hc).mono ?_;rintro e' w' ⟨h1,h2,h3⟩;refine⟨by rw[h1];unfold jy;simp[hc],⟨h3.os,h3.tape,h3.output,h3.size,λk hk _ _ ht _=>h3.block k hk (by simp;exact ht)⟩,?_⟩;unfold fS gS nS;rw[hc];exact hI.bq9 h3 h2
  ·exact(qP p w aK aM aG aD j dx bV L.bs L.bt L.bc h b e (dG A) s hj hp hin' eD hal hat hh (.inr (.inr (.inr (.inr (.inr (.inr (.inr (.inr (.inl ⟨hc,rfl⟩)))))))))).mono (λe' w' hr=>zh.plain hI aht aht afz hr)
namespace Md
def aY.app:aY->aY->aY
 | .nil,s=>s
 | .cons h b e r,s=> .cons h b e (r.app s)
theorem zB: ∀(A:List Fr) (x:Fr),dG (A++[x])=(dG A).app (.cons x.h x.b x.e .nil)
 | [],_=>rfl
 |y::r,x=>by simp only[List.cons_append,dG,aY.app,zB r x]
structure MR where
 err:Int
 line:Int
 f:List (List UInt8)
 g:List (List UInt8)
def mem (l:List (List UInt8)):List UInt8->Bool:=λx=>l.contains x
def fL (k:Int) (h:dM) (f:List (List UInt8)):List (List UInt8):=if h.op==k then h.nm.toList::f else f
def gI (p:Pr) (j:Nat) (tn iK:ByteArray):aY->aY->List (List UInt8)->List (List UInt8)->MR
 | .nil,_,f,g=>⟨0,0,f,g⟩
 | .cons h b e r,ar,f,g=>
   if decide (6<ar.len+1)then⟨2,h.line,f,g⟩else
   if jy p j tn iK ar (mem f) (mem g) h != 0 then⟨jy p j tn iK ar (mem f) (mem g) h,h.line,f,g⟩else
   if(gI p j tn iK b (ar.app (.cons h b e .nil)) (fL 12 h f) (fL 14 h g)).err != 0 then gI p j tn iK b (ar.app (.cons h b e .nil)) (fL 12 h f) (fL 14 h g)else
   if(gI p j tn iK e (ar.app (.cons h b e .nil)) (gI p j tn iK b (ar.app (.cons h b e .nil)) (fL 12 h f) (fL 14 h g)).f (gI p j tn iK b (ar.app (.cons h b e .nil)) (fL 12 h f) (fL 14 h g)).g).err != 0 then
    gI p j tn iK e (ar.app (.cons h b e .nil)) (gI p j tn iK b (ar.app (.cons h b e .nil)) (fL 12 h f) (fL 14 h g)).f (gI p j tn iK b (ar.app (.cons h b e .nil)) (fL 12 h f) (fL 14 h g)).g else
   gI p j tn iK r ar (gI p j tn iK e (ar.app (.cons h b e .nil)) (gI p j tn iK b (ar.app (.cons h b e .nil)) (fL 12 h f) (fL 14 h g)).f (gI p j tn iK b (ar.app (.cons h b e .nil)) (fL 12 h f) (fL 14 h g)).g).f
    (gI p j tn iK e (ar.app (.cons h b e .nil)) (gI p j tn iK b (ar.app (.cons h b e .nil)) (fL 12 h f) (fL 14 h g)).f (gI p j tn iK b (ar.app (.cons h b e .nil)) (fL 12 h f) (fL 14 h g)).g).g
def nC (ns:List (List UInt8)) (f:List (List UInt8)):Prop:=f.Nodup∧∀x∈f,x∈ns
theorem nC.le {ns f:List (List UInt8)} (h:nC ns f):f.length<=ns.length:=h.1.length_le_of_subset (λ_ hx=>h.2 _ hx)
def kH (p:Pr):List (List UInt8):=p.ts.map λt=>t.nm.toList
def kS (p:Pr):List (List UInt8):=p.ds.map λd=>d.nm.toList
theorem mM: ∀ {l:List Int},fQ l=0->∀x∈l,x=0
 | [],_,_,h=>ahD
 |a::r,h,x,hx=>by
  unfold fQ at h;by_cases ha:(a != 0)=true
  ·rw[if_pos ha]at h;subst h;simp at ha
  ·rw[if_neg ha]at h;have ha':a=0:=by simpa using ha
   rcases List.mem_cons.1 hx with rfl|hx
   ·exact ha'
   ·exact mM h x hx
theorem sM {m k:Int} (h:dU m [k]=0):m=k:=by
 unfold dU at h;by_cases h0:(m==0)=true
 ·rw[if_pos h0]at h;simp at h
 ·rw[if_neg h0]at h;by_cases h1:([k].any λx=>m==x)=true
  ·simpa using h1
  ·rw[if_neg h1]at h;simp at h
theorem LB {b:Bool} (h:kQ b=0):b=false:=by cases b <;> simp[kQ]at h⊢
theorem Je {p:Pr} {j:Int} {nm:ByteArray} (h:mean p j nm=8):nm.toList∈kH p:=by
 unfold mean at h;split at h
 ·cases h
 ·cases hd:ql p.ds nm with
  |some m=>
   rw[hd]at h;unfold ql at hd;obtain⟨d,-,hm⟩:=Option.map_eq_some_iff.1 hd;exfalso
   have:fZ d≠8:=by unfold fZ;repeat' split
                   all_goals decide
   rw[hm]at this;exact this h
  |none=>
   rw[hd]at h;simp only[Option.getD_none]at h;unfold sO at h;split at h
   ·rename_i ha;obtain⟨t,ht,he⟩:=List.any_eq_true.1 ha;unfold kH;exact List.mem_map.2 ⟨t,ht,ahH⟩
   ·cases h
theorem RV {p:Pr} {j:Int} {nm:ByteArray} (h:mean p j nm=7):nm.toList∈kS p:=by
 unfold mean at h;split at h
 ·cases h
 ·cases hd:ql p.ds nm with
  |some m=>unfold ql at hd;obtain⟨d,hf,-⟩:=Option.map_eq_some_iff.1 hd;unfold kS;exact List.mem_map.2 ⟨d,List.mem_of_find?_eq_some hf,by simpa using List.find?_some hf⟩
  |none=>rw[hd]at h;simp only[Option.getD_none]at h;unfold sO at h;split at h <;> cases h
theorem al9 {p:Pr} {j:Nat} {tn iK:ByteArray} {ar:aY} {f g:List (List UInt8)} {h:dM} (hf:nC (kH p) f) (h0:jy p j tn iK ar (mem f) (mem g) h=0):nC (kH p) (fL 12 h f):=by
 unfold fL;by_cases h12:(h.op==12)=true
 ·rw[if_pos h12];have e:h.op=12:=by simpa using h12
  have hs:jy p j tn iK ar (mem f) (mem g) h=fQ [dU (mean p j h.nm) [8],nest (fG ar [7,8,3]||(h.nm.toList==tn.toList||h.nm.toList==iK.toList)),(kQ (mem f h.nm.toList))]:=by unfold jy;simp[e]
  rw[hs]at h0;have h1:=mM h0 _ (by simp:dU (mean p j h.nm) [8]∈_);have h2:=mM h0 _ (by simp:kQ (mem f h.nm.toList)∈_);refine⟨List.nodup_cons.2 ⟨?_,hf.1⟩,λx hx=> ?_⟩
  ·have:=LB h2;unfold mem at this;simpa using this
  ·rcases List.mem_cons.1 hx with rfl|hx
   ·exact Je (sM h1)
   ·exact hf.2 x hx
 ·rw[if_neg h12];exact hf
theorem am0 {p:Pr} {j:Nat} {tn iK:ByteArray} {ar:aY} {f g:List (List UInt8)} {h:dM} (hf:nC (kS p) g) (h0:jy p j tn iK ar (mem f) (mem g) h=0):nC (kS p) (fL 14 h g):=by
 unfold fL;by_cases h12:(h.op==14)=true
 ·rw[if_pos h12];have e:h.op=14:=by simpa using h12
  have hs:jy p j tn iK ar (mem f) (mem g) h=fQ [dU (mean p j h.nm) [7],nest (fG ar [7,3]),(kQ (mem g h.nm.toList)),kZ p j h.dQ h.xn h.dP h.bG]:=by unfold jy;simp[e]
  rw[hs]at h0;have h1:=mM h0 _ (by simp:dU (mean p j h.nm) [7]∈_);have h2:=mM h0 _ (by simp:kQ (mem g h.nm.toList)∈_);refine⟨List.nodup_cons.2 ⟨?_,hf.1⟩,λx hx=> ?_⟩
  ·have:=LB h2;unfold mem at this;simpa using this
  ·rcases List.mem_cons.1 hx with rfl|hx
   ·exact RV (sM h1)
   ·exact hf.2 x hx
 ·rw[if_neg h12];exact hf
end Md
theorem mem_cons (x:List UInt8) (f:List (List UInt8)):zG (mem f) x=mem (x::f):=by
 funext y;unfold zG mem;by_cases h:y=x
 ·subst h;simp
 ·rw[if_neg h];simp[h]
theorem aG7 (h:dM) (f:List (List UInt8)):fS h (mem f)=mem (fL 12 h f):=by
 unfold fS fL;cases h.op==12 <;> simp[mem_cons]
theorem aH2 (h:dM) (f:List (List UInt8)):gS h (mem f)=mem (fL 14 h f):=by
 unfold gS fL;cases h.op==14 <;> simp[mem_cons]
theorem XY (k:Int) (h:dM) (f:List (List UInt8)):nS k h f.length=(fL k h f).length:=by
 unfold nS fL;cases h.op==k <;> simp
theorem R6 (w:World) {a a':Addr} (v v':Value) (h:a.block≠a'.block):(w.setCell a v).setCell a' v'=(w.setCell a' v').setCell a v:=by
 unfold World.setCell;congr 1;refine Array.ext_getElem? (λk=> ?_);simp only[Array.getElem?_modify];by_cases h1:a'.block=k
 ·by_cases h2:a.block=k
  ·exact(h (h2.trans h1.symm)).elim
  ·simp[h1,h2]
 ·by_cases h2:a.block=k <;> simp[h1,h2]
theorem FD {b:Nat} {a':Addr} (v':Value) (h:b≠a'.block): ∀(vs:List Value) (o:Nat) (w:World),(w.setCell a' v').setCells b o vs=(w.setCells b o vs).setCell a' v'
 | [],_,_=>rfl
 |v::vs,o,w=>by simp only[World.setCells];rw[<- R6 w (a:=⟨b,o,none⟩) (a':=a') v v' h];exact FD v' h vs (o+1) _
def PC (w4:World) (g o:Nat) (vs:List Value) (a:Addr) (v:Value):List Bool->World->Prop
 | [x,y],w'=>w'=(if y then(if x then w4.setCells g o vs else w4).setCell a v else(if x then w4.setCells g o vs else w4))
 |_,_=>False
theorem PC.bits {w4:World} {g o:Nat} {vs:List Value} {a:Addr} {v:Value} : ∀ {c:List Bool} {w':World},PC w4 g o vs a v c w'->∃x y,c=[x,y]
 | [x,y],_,_=>⟨x,y,rfl⟩
 | [],_,h=>h.elim
 | [_],_,h=>h.elim
 |_::_::_::_,_,h=>h.elim
theorem PC.skip {w4:World} {g o:Nat} {vs:List Value} {a:Addr} {v:Value} {a1 a2 i:Nat} {c:List Bool} {w':World} (h1:(a1==i)=false) (h2:(a2==i)=false) (h:PC w4 g o vs a v c w'):PC w4 g o vs a v (iE [a1,a2] c i) w':=by
 obtain⟨x,y,rfl⟩:=h.bits;simp only[iE,h1,h2,Bool.or_false];exact h
theorem PC.elt {w4:World} {g o:Nat} {vs:List Value} {a:Addr} {v:Value} {a1 a2 i:Nat} {y:Bool} {w':World} (hg:g≠a.block) (h1:(a1==i)=true) (h2:(a2==i)=false) (h:PC w4 g o vs a v [false,y] w'):PC w4 g o vs a v (iE [a1,a2] [false,y] i) (w'.setCells g o vs):=by
 simp only[iE,h1,h2,Bool.or_false,Bool.or_true];cases y
 ·have h:w'=w4:=h;subst h;rfl
 ·have h:w'=w4.setCell a v:=h;subst h;exact FD v hg vs o w4
theorem PC.fld {w4:World} {g o:Nat} {vs:List Value} {a:Addr} {v:Value} {a1 a2 i:Nat} {x:Bool} {w':World} (h1:(a1==i)=false) (h2:(a2==i)=true) (h:PC w4 g o vs a v [x,false] w'):PC w4 g o vs a v (iE [a1,a2] [x,false] i) (w'.setCell a v):=by
 simp only[iE,h1,h2,Bool.or_false,Bool.or_true];cases x
 ·have h:w'=w4:=h;subst h;rfl
 ·have h:w'=w4.setCells g o vs:=h;subst h;rfl
theorem PC.Ti {w4:World} {g o:Nat} {vs:List Value} {a:Addr} {v:Value} {y:Bool} {w':World} (hg:g≠a.block) (h:PC w4 g o vs a v [false,y] w'):w'.heap[g]? =w4.heap[g]?:=by
 cases y
 ·have h:w'=w4:=h;rw[h]
 ·have h:w'=w4.setCell a v:=h;rw[h];exact dB w4 a v rfl (λe=>hg e.symm)
theorem PC.Tv {w4:World} {g o:Nat} {vs:List Value} {a:Addr} {v:Value} {x:Bool} {w':World} (hg:g≠a.block) (h:PC w4 g o vs a v [x,false] w') (hl:a.block<w4.heap.size):w'.heap[a.block]? =w4.heap[a.block]?:=by
 cases x
 ·have h:w'=w4:=h;rw[h]
 ·have h:w'=w4.setCells g o vs:=h;rw[h];exact(dN g vs o w4).block _ hl (by simp;exact λe=>hg e.symm)
section
variable {w:World} {L:Lay} {p:Pr} {aK aM:Option Addr} {aG aD:Nat} {i:Int} {A:List Fr} {f g:List UInt8->Bool} {n m:Nat} {v:Value}
theorem mP.push {wz w4:World} {g' cap':Nat} {zs:List Value} (h:mP w L p aK aM aG aD i A f g n m v) (x:Fr) (hx:tV w L.B0 x.h x.b x.e x.s) (hb:Below w.heap.size w wz) (hown:w4.ownsRow L.B1 101 11 (.slice (some ⟨g',0,none⟩) (A.length+1) cap') (A.length+1) (Az A++zs)) (hgr:wz.grownBy w4 v.ownBlock) (hat:v.ownBlock=some g'∨g'=wz.heap.size):
 mP ((w4.setCells g' (A.length*11) (oJ x.h x.b x.e x.s)).setCell ⟨L.bc,3,none⟩ (.slice (some ⟨g',0,none⟩) (A.length+1) cap')) L p aK aM aG aD i (A++[x]) f g n m (.slice (some ⟨g',0,none⟩) (A.length+1) cap')∧
 Kp L v w ((w4.setCells g' (A.length*11) (oJ x.h x.b x.e x.s)).setCell ⟨L.bc,3,none⟩ (.slice (some ⟨g',0,none⟩) (A.length+1) cap'))∧Ac w v (.slice (some ⟨g',0,none⟩) (A.length+1) cap'):=by
 have hg1:=(hown.lt g' rfl).1;have hg2:=(hown.lt g' rfl).2;have hc1:=L.c1;have hs1:=L.s1;have ht1:=L.t1;have hput:=QW (vs:=oJ x.h x.b x.e x.s) hown (Ei A) rfl;generalize hw5:w4.setCells g' (A.length*11) (oJ x.h x.b x.e x.s)=w5 at *;have hgw:w4.grownBy w5 (some g'):=by rw[<- hw5];exact dN _ _ _ _
 have hgz:=cB w5 ⟨L.bc,3,none⟩ (.slice (some ⟨g',0,none⟩) (A.length+1) cap');have hsz:w.heap.size<=w4.heap.size:=aR hb.size hgr.size;have hlow: ∀k,k<w.heap.size->v.ownBlock≠some k->w5.heap[k]? =w.heap[k]?:=λk hk hv=>by
  have hkg:k≠g':=by
   rcases hat with e|e
   ·intro e';exact hv (by rw[e,e'])
   ·have:=hb.size;omega
  rw[hgw.block k ahe (by simp;exact hkg),hgr.block k (aJ hk hb.size) (λe=>hv e.symm),hb.block k hk]
 have hlow': ∀k,k<L.B1->w5.heap[k]? =w.heap[k]?:=λk hk=>hlow k (aJ hk h.sz) (λe=>by have:=(h.row.lt k e).1;omega);have hkp:Kp L v w (w5.setCell ⟨L.bc,3,none⟩ (.slice (some ⟨g',0,none⟩) (A.length+1) cap')):=
  ⟨hgz.os.trans (hgw.os.trans (hgr.os.trans hb.os)),hgz.tape.trans (hgw.tape.trans (hgr.tape.trans hb.tape)),hgz.output.trans (hgw.output.trans (hgr.output.trans hb.output)),aR hsz (aR hgw.size hgz.size),λk hk hc _ _ hv=>
   (hgz.block k (aJ hk (aR hsz hgw.size)) ahP).trans (hlow k hk hv)⟩
 have hbel:=hkp.below h.b0 (λk e=>(h.row.lt k e).1);have EP: ∀k,k<L.B1->k≠L.bc->(w5.setCell ⟨L.bc,3,none⟩ (.slice (some ⟨g',0,none⟩) (A.length+1) cap')).heap[k]? =w.heap[k]?:=λk hk hc=>by rw[dB w5 ⟨L.bc,3,none⟩ _ rfl (λe=>hc e.symm)];exact hlow' k hk
 refine⟨?_,hkp,?_⟩
 ·refine {blk:= ?_,row:= ?_,ms:=h.ms.same (EP _ hs1 (λe=>L.cs e.symm)),mt:=h.mt.same (EP _ ht1 (λe=>L.ct e.symm)),sz:= ?_,dat:=h.dat.below hbel,qd:= ?_}
  ·exact dX ((hlow' _ hc1).trans h.blk) _
  ·rw[au,BZ];refine hput.kept hgz (.inr ?_);simp[Value.ownBlock];omega
  ·exact aR h.sz hkp.size
  ·intro y hy;rcases List.mem_append.1 hy with hy|hy
   ·exact(h.qd y hy).below hbel
   ·obtain rfl:=List.mem_singleton.1 hy;exact hx.below hbel
 ·rcases hat with e|e
  ·exact .inl ahK
  ·exact .inr ⟨g',rfl,afZ⟩
theorem mP.pop {wz:World} {g' cap':Nat} (x:Fr) (h:mP w L p aK aM aG aD i (A++[x]) f g n m (.slice (some ⟨g',0,none⟩) (A.length+1) cap')) (hb:Below w.heap.size w wz):
 mP (wz.setCell ⟨L.bc,3,none⟩ (.slice (some ⟨g',0,none⟩) A.length cap')) L p aK aM aG aD i A f g n m (.slice (some ⟨g',0,none⟩) A.length cap')∧
 Kp L (.slice (some ⟨g',0,none⟩) (A.length+1) cap') w (wz.setCell ⟨L.bc,3,none⟩ (.slice (some ⟨g',0,none⟩) A.length cap')):=by
 have hI:=h.below hb;have hc1:=L.c1;have hgz:=cB wz ⟨L.bc,3,none⟩ (.slice (some ⟨g',0,none⟩) A.length cap');have hkp:Kp L (.slice (some ⟨g',0,none⟩) (A.length+1) cap') w (wz.setCell ⟨L.bc,3,none⟩ (.slice (some ⟨g',0,none⟩) A.length cap')):=
  ⟨hgz.os.trans hb.os,hgz.tape.trans hb.tape,hgz.output.trans hb.output,aR hb.size hgz.size,λk hk hc _ _ _=>(hgz.block k (aJ hk hb.size) ahP).trans (hb.block k hk)⟩
 have hbel:Below L.B0 wz (wz.setCell ⟨L.bc,3,none⟩ (.slice (some ⟨g',0,none⟩) A.length cap')):=cZ hgz L.c0 hI.b0;have hrow:=hI.row;rw[au,BZ]at hrow;have hg1:=(hrow.lt g' rfl).1;refine⟨{blk:=dX hI.blk _,row:=(O1 hrow (Ei A)).kept hgz (.inr afj),ms:=hI.ms.same (dB wz _ _ rfl L.cs),mt:=hI.mt.same (dB wz _ _ rfl L.ct),sz:=aR hI.sz hgz.size,dat:=hI.dat.below hbel,qd:=λy hy=>(hI.qd y ahG).below hbel},hkp⟩
end
theorem aY.At.am7 {w:World} {B:Nat} {h:dM} {b e r:aY} {ao:Option Addr} {k:Nat} (hat:(aY.cons h b e r).At w B ao k): ∃bl off s,ao=some ⟨bl,off,none⟩∧bl<B∧tV w B h b e s∧
 w.cell? ⟨bl,off+k*11,none⟩=some (.int .i64 h.op)∧w.cell? ⟨bl,off+k*11+1,none⟩=some (.int .i64 h.line)∧w.cell? ⟨bl,off+k*11+2,none⟩=some (.string h.nm)∧w.cell? ⟨bl,off+k*11+3,none⟩=some (.string h.arg)∧w.cell? ⟨bl,off+k*11+4,none⟩=some (.slice s.fM h.idx.len s.eU)∧
 w.cell? ⟨bl,off+k*11+5,none⟩=some (.int .i64 h.dQ)∧w.cell? ⟨bl,off+k*11+6,none⟩=some (.int .i64 h.xn)∧w.cell? ⟨bl,off+k*11+7,none⟩=some (.string h.dP)∧w.cell? ⟨bl,off+k*11+8,none⟩=some (.slice s.fD h.bG.len s.dS)∧
 w.cell? ⟨bl,off+k*11+9,none⟩=some (.slice s.dL b.len s.cK)∧w.cell? ⟨bl,off+k*11+10,none⟩=some (.slice s.gJ e.len s.fH)∧r.At w B ao (k+1):=by
 obtain⟨⟨b,off,fM,eU,fD,dS,dL,cK,gJ,fH,e,hB,c0,c1,c2,c3,c4,c5,c6,c7,c8,c9,c10,hok,h1,h2,h3,h4⟩,hr⟩:=hat;exact⟨b,off,⟨fM,eU,fD,dS,dL,cK,gJ,fH⟩,e,hB,⟨hok,h1,h2,h3,h4⟩,c0,c1,c2,c3,c4,c5,c6,c7,c8,c9,c10,hr⟩
theorem vY {w:World} {nb:Nat} {h:dM} {b e:aY} {s:Sl} {t:TypeId} {fr:Nat×Nat} (hb:w.heap[nb]? =some (.cells (oJ h b e s).toArray t fr)):w.cell? ⟨nb,0,none⟩=some (.int .i64 h.op)∧w.cell? ⟨nb,1,none⟩=some (.int .i64 h.line)∧w.cell? ⟨nb,2,none⟩=some (.string h.nm)∧w.cell? ⟨nb,3,none⟩=some (.string h.arg)∧w.cell? ⟨nb,4,none⟩=some (.slice s.fM h.idx.len s.eU)∧w.cell? ⟨nb,5,none⟩=some (.int .i64 h.dQ)∧w.cell? ⟨nb,6,none⟩=some (.int .i64 h.xn)∧w.cell? ⟨nb,7,none⟩=some (.string h.dP)∧w.cell? ⟨nb,8,none⟩=some (.slice s.fD h.bG.len s.dS)∧w.cell? ⟨nb,9,none⟩=some (.slice s.dL b.len s.cK)∧w.cell? ⟨nb,10,none⟩=some (.slice s.gJ e.len s.fH):=
 ⟨(eX hb (j:=0) rfl).2,(eX hb (j:=1) rfl).2,(eX hb (j:=2) rfl).2,(eX hb (j:=3) rfl).2,(eX hb (j:=4) rfl).2,(eX hb (j:=5) rfl).2,(eX hb (j:=6) rfl).2,(eX hb (j:=7) rfl).2,(eX hb (j:=8) rfl).2,(eX hb (j:=9) rfl).2,(eX hb (j:=10) rfl).2⟩
theorem qy {x y a b:Value} (h1:x=a) (h2:y=b):Ending.returned (.tuple #[x,y])= .returned (.tuple #[a,b]):=by rw[h1,h2]
theorem as5:(Tryz.prog.info? 101).map (λi=>(i.zero,i.size,i.bytes))=some (some (.agg #[.int .i64 0,.int .i64 0,.string ⟨#[]⟩,.string ⟨#[]⟩,.slice none 0 0,.int .i64 0,.int .i64 0,.string ⟨#[]⟩,.slice none 0 0,.slice none 0 0,.slice none 0 0]),11,176):=ahd
def RA:Array Value:= #[.int .i64 0,.int .i64 0,.string ⟨#[]⟩,.string ⟨#[]⟩,.slice none 0 0,.int .i64 0,.int .i64 0,.string ⟨#[]⟩,.slice none 0 0,.slice none 0 0,.slice none 0 0]
theorem MH: ∃i0,Tryz.prog.info? 101=some i0∧i0.zero=some (.agg RA)∧i0.size=11∧i0.bytes=176:=info_parts as5
theorem MI:(Tryz.prog.info? 101).map (·.size)=some 11:=ahd
theorem ix0 (a b:Option Addr) (l1 c1 l2 c2:Nat) (w:World):(Instr.index 150 (.agg #[.slice a l1 c1,.slice b l2 c2]) (.int .i64 0)).run Tryz.prog w= .ok (.slice a l1 c1) w:=ahd
theorem ix1 (a b:Option Addr) (l1 c1 l2 c2:Nat) (w:World):(Instr.index 150 (.agg #[.slice a l1 c1,.slice b l2 c2]) (.int .i64 1)).run Tryz.prog w= .ok (.slice b l2 c2) w:=ahd
def PX (p:Pr) (j:Nat) (tn iK:ByteArray) (e R ar Ec:aY) (f g:List (List UInt8)):MR:=if(gI p j tn iK e Ec f g).err != 0 then gI p j tn iK e Ec f g else gI p j tn iK R ar (gI p j tn iK e Ec f g).f (gI p j tn iK e Ec f g).g
def aF7 (p:Pr) (j:Nat) (tn iK:ByteArray) (b e R ar Ec:aY) (f g:List (List UInt8)):MR:=if(gI p j tn iK b Ec f g).err != 0 then gI p j tn iK b Ec f g else PX p j tn iK e R ar Ec (gI p j tn iK b Ec f g).f (gI p j tn iK b Ec f g).g
def Tg (p:Pr) (j:Nat) (tn iK:ByteArray) (b e R ar Ec:aY) (k:Nat) (f g:List (List UInt8)):MR:=if k=0 then aF7 p j tn iK b e R ar Ec f g else if k=1 then PX p j tn iK e R ar Ec f g else gI p j tn iK R ar f g
def aw7 (w:World) (L:Lay) (p:Pr) (aK aM:Option Addr) (aG aD:Nat) (i:Int) (A:List Fr) (v:Value) (r:MR) (e:Ending) (w':World):Prop:=
 e= .returned (.tuple #[.int .i64 r.err,.int .i64 r.line])∧Kp L v w w'∧(r.err=0->nC (kH p) r.f∧nC (kS p) r.g∧∃v',Ac w v v'∧mP w' L p aK aM aG aD i A (mem r.f) (mem r.g) r.f.length r.g.length v')
def Dw (L:Lay) (p:Pr) (aK aM:Option Addr) (aG aD:Nat) (j:Nat) (t t0:Th) (l:aY):Prop:=
 ∀(w:World) (ao:Option Addr) (cap:Nat) (A:List Fr) (f g:List (List UInt8)) (v:Value),l.len<=maxLen->l.At w L.B0 ao 0->A.length<=6->nC (kH p) f->nC (kS p) g->mP w L p aK aM aG aD (j:Int) A (mem f) (mem g) f.length g.length v->
  Calls Tryz.prog 57 #[.pointer (some ⟨L.bc,0,none⟩),.slice ao l.len cap] w (aw7 w L p aK aM aG aD (j:Int) A v (gI p j t.nm t0.nm l (dG A) f g))
theorem Gp (L:Lay) (p:Pr) (aK aM:Option Addr) (aG aD:Nat) (j:Nat) (t t0:Th) (r r0:List Th) (hd:p.ts.drop j=t::r) (hts:p.ts=t0::r0) (hj:dD (j:Int)) (hT:p.ts.length<maxLen) (hD:p.ds.length<maxLen) (l:aY) (hall:l.All λ_ b e=>Dw L p aK aM aG aD j t t0 b∧Dw L p aK aM aG aD j t t0 e):Dw L p aK aM aG aD j t t0 l:=by
 intro w ao cap A f g v hl hat hA hf hg hI;generalize hres:gI p j t.nm t0.nm l (dG A) f g=res;have HR:=ah hres;have HAT:=ah hat;have jM:=ah hall;have HF:=ah hf;have HG:=ah hg;have HI:=ah hI;unfold maxLen at hl;have HA:=ah hA;clear hres hat hall hf hg hI hA;go_enter Tryz.func57,Tryz.ntmps57;go_wp2_with fail;go_loopw [7,8,10,11,12,15,51,52] (λ_ _ _ _ _ s _ _ wr=> ∃(k:Nat) (R:aY) (f1 g1:List (List UInt8)) (v1:Value),s= .int .i64 k∧k+R.len=l.len∧res=gI p j t.nm t0.nm R (dG A) f1 g1∧(R.All λ_ b e=>Dw L p aK aM aG aD j t t0 b∧Dw L p aK aM aG aD j t t0 e)∧R.At wr L.B0 ao k∧nC (kH p) f1∧nC (kS p) g1∧Kp L v w wr∧Ac w v v1∧mP wr L p aK aM aG aD (j:Int) A (mem f1) (mem g1) f1.length g1.length v1) (λ_ _ _ _ _ s _ _ _=>l.len -(intOf s).toNat)
 case atStart=>exact⟨0,l,f,g,v,rfl,ahg,HR.o.symm,jM.o,HAT.o,HF.o,HG.o,Kp.refl _ _ _,.inl rfl,HI.o⟩
 case round=>
  obtain⟨k,R,f1,g1,v1,rfl,hlen,heq,hall,hrow,hf1,hg1,hKp,Xt,hI⟩:=hrel;have HE:=ah heq;have HK:=ah hKp;have HO:=ah Xt;clear heq hKp Xt;cases R with
  |nil=>
   obtain rfl:k=l.len:=afs
   have HX:aj (aw7 w L p aK aM aG aD (j:Int) A v res (.returned (.tuple #[.int .i64 0,.int .i64 0])) wr):=ah (by rw[HE.o];exact⟨rfl,HK.o,λ_=>⟨hf1,hg1,v1,HO.o,hI⟩⟩);clear hI hall hrow hf1 hg1 HE;go_wp2_with fail
   go_ret2
   exact HX.o
  |cons h b e R=>
   obtain⟨bl,off,s,rfl,hbl,hin,x0,x1,x2,x3,x4,x5,x6,x7,x8,x9,x10,hrest⟩:=aY.At.am7 hrow;have hkl:k<l.len:=acO
   obtain⟨iI,qE⟩:=hall;obtain⟨dx,bV,rfl,-⟩:=hI.form;have P9:=ah iI;have Z8:=ah qE;have zM:=ah hf1;have rZ:=ah hg1;have fF:=ah hin;have kr:=ah hrest;have Bw:=ah hI;clear hrow hin iI qE hf1 hg1 hrest hI;go_upto_region 4 with fail;generalize hW2:World.alloc wr _=W2;obtain⟨nb,hnb,vN,-,kX,-⟩:=nI hW2;have HI2:=ah (Bw.o.below vN.o);have lI:aj (Kp L v w W2):=ah (HK.o.trans (.inl HO.o) (Kp.of_below vN.o));have iy:aj (L.B1<=nb∧nb<W2.heap.size):=ah ⟨by rw[<- hnb];exact Bw.o.sz,(aU kX.o)⟩;have OY:aj (Value.ownBlock (.slice dx A.length bV)≠some nb):=ah (λe=>by have:=Bw.o.row.lt _ e;omega);have HOZ:aj (w.heap.size<=W2.heap.size):=ah lI.o.size;rw[hnb];clear hW2 hnb x0 x1 x2 x3 x4 x5 x6 x7 x8 x9 x10 hbl;have c3:W2.cell? ⟨L.bc,3,none⟩=some (.slice dx A.length bV):=(eX HI2.o.blk (j:=3) rfl).2;have hA6:=HA.o;obtain⟨y0,y1,y2,y3,y4,y5,y6,y7,y8,y9,uo⟩:=vY kX.o;by_cases Qf:A.length=6
   ·have HX:aj (res=⟨2,h.line,f1,g1⟩):=ah (HE.o.trans aeu);rw[Qf]at c3;clear hA6;go_wp2_with fail;go_quiet (fail);go_wp2_with fail
    go_ret2
    refine⟨qy ahE ahE,lI.o.trans (.inr rfl) (v1:= .slice none 0 0) (Kp.of_below (below_drewN (ak _ _) _)),λh0=> ?_⟩;rw[HX.o]at h0;cases h0
   ·have hA':A.length<6:=ahe;have hdec:decide (6<(A.length:Int)+1)=false:=adE;go_wp2_with fail;refine(UL W2 L p aK aM aG aD j A (mem f1) (mem g1) f1.length g1.length _ t t0 r r0 hd hts hj afp (Nat.lt_of_le_of_lt zM.o.le (by simpa[kH]using hT)) (Nat.lt_of_le_of_lt rZ.o.le (by simpa[kS]using hD)) HI2.o h b e s (fF.o.below (vN.o.mono Bw.o.b0))).mono ?_;rintro e' w3 ⟨rfl,hK3,C9⟩;rw[aG7,aH2,XY,XY]at C9;have Bq:aj (w3.heap[nb]? =some (.cells (oJ h b e s).toArray 101 (0,0))):=ah ((hK3.far iy.o.2 iy.o.1 afG).trans kX.o);have HI3:=ah C9;have nY:aj (Kp L v w w3):=ah (lI.o.trans (.inr rfl) hK3);have Jq:=ah hK3;have ES:nb<w3.heap.size:=(aU Bq.o);clear hK3 C9 y0 y1 y2 y3 y4 y5 y6 y7 y8 y9 uo c3 hdec Qf;obtain⟨y0,y1,y2,y3,y4,y5,y6,y7,y8,y9,uo⟩:=vY Bq.o;have c3:w3.cell? ⟨L.bc,3,none⟩=some (.slice dx A.length bV):=(eX HI3.o.blk (j:=3) rfl).2;have HE2:aj (res=gI p j t.nm t0.nm (aY.cons h b e R) (dG A) f1 g1):=HE;have DR:aj (jy p j t.nm t0.nm (dG A) (mem f1) (mem g1) h=0->nC (kH p) (fL 12 h f1)∧nC (kS p) (fL 14 h g1)):=ah (λh0=>⟨al9 zM.o h0,am0 rZ.o h0⟩);have HU:aj (gI p j t.nm t0.nm (aY.cons h b e R) (dG A) f1 g1=if jy p j t.nm t0.nm (dG A) (mem f1) (mem g1) h != 0 then⟨jy p j t.nm t0.nm (dG A) (mem f1) (mem g1) h,h.line,f1,g1⟩else Tg p j t.nm t0.nm b e R (dG A) ((dG A).app (.cons h b e .nil)) 0 (fL 12 h f1) (fL 14 h g1)):=ah abF;generalize jy p j t.nm t0.nm (dG A) (mem f1) (mem g1) h=x at *;cases hx:(x != 0)
    ·have HT:aj (res=Tg p j t.nm t0.nm b e R (dG A) ((dG A).app (.cons h b e .nil)) 0 (fL 12 h f1) (fL 14 h g1)):=ah (HE2.o.trans (HU.o.trans (by rw[hx];rfl)));have wU:=ah (DR.o ahz);clear HU DR HE HE2;go_upto_region 9 with fail;obtain⟨Y0,Y1,Y2,Y3,Y4,Y5,Y6,Y7,Y8,Y9,pq⟩:=zw ES y0 y1 y2 y3 y4 y5 y6 y7 y8 y9 uo;have L3:=gQ acA c3;clear y0 y1 y2 y3 y4 y5 y6 y7 y8 y9 uo c3;refine bS ahd rfl ?_;refine bK 0 7 [] [[],[0],[0,1],[0,1,2],[],[0,1,2,3],[],[0,1,2,3,4,5,6],[0,1,2,3,4,5,6,7],[0,1,2,3,4,5,6,7,8],[0,1,2,3,4,5,6,7],[0,1,2,3,4,5,6,7,10],[0,1,2,3,4,5,6,7,10,11]] [[],[],[],[],[],[],[]] (λ_ w'=>Below w3.heap.size w3 w') (λw w'=>Below w.heap.size w w') [36,37,38,39,40,41,42] rfl rfl aip ahd ahd ahd ahd ahd aip (λ_=>ak _ _) aip (below_drewN (ak _ _) 1) ?_;simp only[eB,iP]
     iterate 6
      apply bf.step
      case aZ=>intro c A w' hok hC hO hD;have e0:=hO 0 aip;have e7:=hO 7 aip;simp[Act.eval]at e0 e7;simp[Act.eval]at hD;simp[go_sem,gd,Oper.wp,hD,e0,e7,L3,hC,Y0,Y1,Y2,Y3,Y4,Y5,Y6,Y7,Y8,Y9,pq];exact aO.mk (ak _ _) hC (bT.mk _ _)
     refine bf.some (λv w'=> ∃bb,v= .slice (some ⟨bb,0,none⟩) 1 1∧w'.heap[bb]? =some (.cells RA 101 (0,0))) ?_ ?_ ?_
     ·rintro v w w' hle ⟨bb,rfl,hbb⟩;exact⟨bb,rfl,(hle.block bb (aU hbb)).trans hbb⟩
     ·intro c A w' hok hC hO hD;simp[go_sem,gd,Oper.wp];exact aO.mk (d:=_) (v:= .slice (some ⟨_,0,none⟩) 1 1) (aA _ _) (hC.trans ((aA _ _).mono hC.size)) ⟨_,rfl,heap_alloc_new _ _⟩
     try simp only[bP]
     refine bf.done ?_;intro wz bR;simp only[List.drop_zero];intro v0 h0 v1 h1 v2 h2 v3 h3 v4 h4 v5 h5 v6 h6;have h0':v0=_:=h0;have h1':v1=_:=h1;have h2':v2=_:=h2;have h3':v3=_:=h3;have h4':v4=_:=h4;have h5':v5=_:=h5;subst h0' h1' h2' h3' h4' h5';obtain⟨bb,rfl,hbb⟩:=h6;clear h0 h1 h2 h3 h4 h5;refine dH.nil ?_;go_simp;refine dA 7 [[],[0],[0,1],[0,1,2],[],[0,1,2,3],[],[0,1,2,3,4,5,6],[0,1,2,3,4,5,6,7],[0,1,2,3,4,5,6,7,8],[0,1,2,3,4,5,6,7],[0,1,2,3,4,5,6,7,10],[0,1,2,3,4,5,6,7,10,11]] rfl rfl rfl rfl rfl ahd ahd ahd ?_;obtain⟨i0,hi0,hz0,hz1,hz2⟩:=MH;have DJ:=ah (HI3.o.below bR);refine wp_append_lies wz _ _ _ aip L.B1 101 i0 _ 11 176 Tryz.underlying57 hi0 hz0 hz1 hz2 aip ahe (.slice dx A.length bV) A.length (Az A) aip DJ.o.row ⟨bb,0,none⟩ 1 1 RA.toList aip aip (World.news_of_block hbb) ahf ahe afp ahe DJ.o.sz wz.heap.size rfl ?_;intro g' cap' w4 sK qh yj yu;clear hi0 hz0 hz1 hz2 hbb Y0 Y1 Y2 Y3 Y4 Y5 Y6 Y7 Y8 Y9 pq L3;have vU:=ah (HI3.o.push ⟨h,b,e,s⟩ (fF.o.below ((vN.o.mono Bw.o.b0).trans (Jq.o.below HI2.o.b0 afG))) bR sK qh yj);have hgb:=(sK.lt g' rfl).1;have eF:aj (w4.heap[L.bc]? =some (.cells (ckV p aK aM aG aD (j:Int) (.slice dx A.length bV) L.bs L.bt) 127 (0,0))):=ah (by
      rw[qh.block _ (by have:=DJ.o.sz;have:=L.c1;omega) (λe'=>by
       have:=DJ.o.own_ne L.c1;rcases this with h1|h1
       ·rw[h1]at e';cases e'
       ·exact h1 e'.symm)]
      exact DJ.o.blk)
     have sW:=ah (LG sK);have ER:g'≠L.bc:=agA;clear sK qh yj yu hgb;go_simp;refine bK 8 13 [9,12] [[],[0],[0,1],[0,1,2],[],[0,1,2,3],[],[0,1,2,3,4,5,6],[0,1,2,3,4,5,6,7],[0,1,2,3,4,5,6,7,8],[0,1,2,3,4,5,6,7],[0,1,2,3,4,5,6,7,10],[0,1,2,3,4,5,6,7,10,11]] [[some false,none],[some false,none],[none,some false],[none,some false],[none,some false]] (PC w4 g' (A.length*11) (oJ h b e s) ⟨L.bc,3,none⟩ (.slice (some ⟨g',0,none⟩) (A.length+1) cap')) (λ_ _=>True) [44,45,46] rfl rfl aip ahd ahd ahd ahd ahd aip (λ_=>trivial) aip rfl ?_;simp only[eB,iP];have Tx:(0:Int)<=(A.length:Int):=ahe;have hA1:(A.length:Int)<(A.length:Int)+1:=ahe;apply bf.step
     case aZ=>intro c A w' hok hC hO hD;have e43:=hO 43 aip;have e41:=hO 41 aip;simp[Act.eval]at e43 e41;simp[Act.eval]at hD;simp[go_sem,gd,Oper.wp,hD,e43,e41,hA1];exact aO.mk trivial (PC.skip aip aip hC) (bT.mk _ _)
     refine bf.some (λ_ _=>True) (λ_ _ _ _ _=>trivial) ?_ ?_
     ·intro c A' w' hok hC hO hD;obtain⟨x,y,rfl⟩:=hC.bits;obtain⟨rfl,-⟩:=hok;have e40:=hO 40 aip;simp[Act.eval]at hD;simp only[gd,if_true];refine wp_store_mid _ _ _ aip g' (A.length*11) (oJ h b e s).toArray afN (e40.trans aip) (Ey sW.o (hC.Ti ER)) MI (by simp[oJ,Value.oneCell']) ?_;exact aO.qK trivial (PC.elt ER aip aip hC) trivial
     try simp only[bP]
     iterate 2
      apply bf.step
      case aZ=>intro c A w' hok hC hO hD;have e36:=hO 36 aip;simp[Act.eval]at e36;simp[Act.eval]at hD;simp[go_sem,gd,Oper.wp,hD,e36];exact aO.mk trivial (PC.skip aip aip hC) (bT.mk _ _)
     refine bf.some (λ_ _=>True) (λ_ _ _ _ _=>trivial) ?_ ?_
     ·intro c A' w' hok hC hO hD;obtain⟨x,y,rfl⟩:=hC.bits;obtain⟨rfl,-⟩:=hok;have e43:=hO 43 aip;simp[Act.eval]at e43;simp[Act.eval]at hD;have hbk0:w'.heap[L.bc]? =w4.heap[L.bc]?:=PC.Tv (a:=⟨L.bc,3,none⟩) ER hC (aU eF.o);have hbk:=hbk0.trans eF.o;have hcl:w'.cell? ⟨L.bc,3,none⟩=some (.slice dx A.length bV):=(eX hbk (j:=3) rfl).2;have hfr:w'.frozen? ⟨L.bc,3,none⟩=false:=bC hbk;simp[go_sem,gd,Oper.wp,hD,e43,hcl,hfr];exact aO.qK (v:=undef) trivial (PC.fld aip aip hC) trivial
     simp only[List.nil_append,List.cons_append,List.drop_succ_cons,List.drop_zero];refine bf.done ?_;intro w5 Xo;simp only[List.drop_succ_cons,List.drop_zero];intro v0 h0 v1 h1 v2 h2 v3 h3 v4 h4;clear h0 h1 h2 h3 h4;refine dH.nil ?_;refine cO rfl ?_;have sZ:aj (w5=(w4.setCells g' (A.length*11) (oJ h b e s)).setCell ⟨L.bc,3,none⟩ (.slice (some ⟨g',0,none⟩) (A.length+1) cap')):=ah Xo;rw[<- sZ.o]at vU;have DF:=ah vU.o.1;have Cv:aj (Kp L v w w5):=ah (nY.o.trans (.inl (HO.o.trans (.inl rfl) (aH _))) vU.o.2.1);have Jr:=ah vU.o.2.1;have M4:=ah vU.o.2.2;clear Xo sZ vU sW eF Tx hA1 ER;go_simp;have FK:aj (w5.heap[nb]? =some (.cells (oJ h b e s).toArray 101 (0,0))):=ah ((Jr.o.far ES iy.o.1 OY.o).trans Bq.o);have M5:=ah (M4.o.ne ES OY.o);have SE:aj (Ac w v (.slice (some ⟨g',0,none⟩) (A.length+1) cap')):=ah (HO.o.trans M4.o nY.o.size);have P6:aj (aY.At w5 L.B0 R (some ⟨bl,off,none⟩) (k+1)):=ah (kr.o.below (((vN.o.mono Bw.o.b0).trans (Jq.o.below HI2.o.b0 afG)).trans (Jr.o.below HI3.o.b0 (λq hq=>(HI3.o.row.lt q hq).1))));have jv:aj (b.len<=maxLen∧e.len<=maxLen):=ah fF.o.1.2.2.2.2.2.2;obtain⟨-,-,-,-,-,-,-,-,-,y9,uo⟩:=vY FK.o;clear hx ES DJ bR HI3 nY Jq Bq Jr M4 OY HI2 lI kX vN Bw fF kr HO HK zM rZ HF HG HI HAT;go_wp2_with fail;go_loopw [10,11,12,52] (λ_ _ _ s52 wq=> ∃(kk:Nat) (f2 g2:List (List UInt8)) (v2:Value),s52= .int .i64 kk∧kk<=2∧res=Tg p j t.nm t0.nm b e R (dG A) ((dG A).app (.cons h b e .nil)) kk f2 g2∧nC (kH p) f2∧nC (kS p) g2∧Kp L v w wq∧Ac w v v2∧v2.ownBlock≠some nb∧wq.heap[nb]? =some (.cells (oJ h b e s).toArray 101 (0,0))∧R.At wq L.B0 (some ⟨bl,off,none⟩) (k+1)∧mP wq L p aK aM aG aD (j:Int) (A++[⟨h,b,e,s⟩]) (mem f2) (mem g2) f2.length g2.length v2) (λ_ _ _ s52 _=>2 -(intOf s52).toNat)
     case atStart=>exact⟨0,_,_,_,rfl,ahe,HT.o,wU.o.1,wU.o.2,Cv.o,SE.o,M5.o,FK.o,P6.o,DF.o⟩
     case round=>
      obtain⟨kk,f2,g2,v2,rfl,hkk,heq2,hf2,hg2,Qh,TA,aH8,aH7,hR6,La⟩:=hrel;clear y9 uo;have nZ:=ah heq2;have yN:=ah hf2;have HG2:=ah hg2;have FP:=ah Qh;have FT:=ah TA;have M6:=ah aH8;have Di:=ah aH7;have Kn:=ah hR6;have xP:=ah La;have HIS:=ah (La.qd ⟨h,b,e,s⟩ ahg);clear heq2 hf2 hg2 Qh TA aH8 aH7 hR6 La HT wU Cv SE M5 FK P6 DF;have hk3:kk=0∨kk=1∨kk=2:=ahe;have ixa:=ix0 s.dL s.gJ b.len s.cK e.len s.fH;have ixb:=ix1 s.dL s.gJ b.len s.cK e.len s.fH;rcases hk3 with rfl|rfl|rfl
      ·have vC:aj (res=if(gI p j t.nm t0.nm b (dG (A++[⟨h,b,e,s⟩])) f2 g2).err != 0 then gI p j t.nm t0.nm b (dG (A++[⟨h,b,e,s⟩])) f2 g2 else PX p j t.nm t0.nm e R (dG A) (dG (A++[⟨h,b,e,s⟩])) (gI p j t.nm t0.nm b (dG (A++[⟨h,b,e,s⟩])) f2 g2).f (gI p j t.nm t0.nm b (dG (A++[⟨h,b,e,s⟩])) f2 g2).g):=ah (by rw[zB];exact nZ.o);clear nZ;go_wp2_with fail;refine(P9.o.1 _ s.dL s.cK (A++[⟨h,b,e,s⟩]) f2 g2 v2 jv.o.1 HIS.o.2.2.2.1 ahh yN.o HG2.o xP.o).mono ?_;rintro e' w7 ⟨rfl,AB,GU⟩;generalize gI p j t.nm t0.nm b (dG (A++[⟨h,b,e,s⟩])) f2 g2=r1 at *;have IX:aj (Kp L v w w7):=ah (FP.o.trans (.inl FT.o) AB);have BD:=ah GU;have Dx:aj (w7.heap[nb]? =some (.cells (oJ h b e s).toArray 101 (0,0))):=ah ((AB.far (aU Di.o) iy.o.1 M6.o).trans Di.o);have Nf:aj (R.At w7 L.B0 (some ⟨bl,off,none⟩) (k+1)):=ah (Kn.o.below (AB.below xP.o.b0 (λq hq=>(xP.o.row.lt q hq).1)));clear AB GU;cases hr1:(r1.err != 0)
       ·have yR:aj (res=Tg p j t.nm t0.nm b e R (dG A) ((dG A).app (.cons h b e .nil)) 1 r1.f r1.g):=ah (vC.o.trans ((if_neg ahV).trans aeQ));obtain⟨NQ,GQ,v7,GH,CX⟩:=BD.o afC;have BI:=ah (aB NQ (aB GQ (aB GH CX)));clear NQ GQ GH CX BD vC;go_wp2_with fail;go_roundw
        case rel=>exact⟨1,r1.f,r1.g,v7,rfl,ahe,yR.o,BI.o.1,BI.o.2.1,IX.o,FT.o.trans BI.o.2.2.1 FP.o.size,BI.o.2.2.1.ne (aU Di.o) M6.o,Dx.o,Nf.o,BI.o.2.2.2⟩
        case measure=>simp[intOf]
       ·have Aq:aj (res=r1):=ah (vC.o.trans (if_pos hr1));have HX0:aj (r1.err≠0):=ah afC;clear vC BD;go_wp2_with fail
        go_ret2
        refine⟨qy ahM ahM,IX.o,λh0=> ?_⟩;rw[Aq.o]at h0;exact(HX0.o h0).elim
      ·have vC:aj (res=if(gI p j t.nm t0.nm e (dG (A++[⟨h,b,e,s⟩])) f2 g2).err != 0 then gI p j t.nm t0.nm e (dG (A++[⟨h,b,e,s⟩])) f2 g2 else gI p j t.nm t0.nm R (dG A) (gI p j t.nm t0.nm e (dG (A++[⟨h,b,e,s⟩])) f2 g2).f (gI p j t.nm t0.nm e (dG (A++[⟨h,b,e,s⟩])) f2 g2).g):=ah (by rw[zB];exact nZ.o);clear nZ;go_wp2_with fail;refine(P9.o.2 _ s.gJ s.fH (A++[⟨h,b,e,s⟩]) f2 g2 v2 jv.o.2 HIS.o.2.2.2.2 ahh yN.o HG2.o xP.o).mono ?_;rintro e' w7 ⟨rfl,AB,GU⟩;generalize gI p j t.nm t0.nm e (dG (A++[⟨h,b,e,s⟩])) f2 g2=r1 at *;have IX:aj (Kp L v w w7):=ah (FP.o.trans (.inl FT.o) AB);have BD:=ah GU;have Dx:aj (w7.heap[nb]? =some (.cells (oJ h b e s).toArray 101 (0,0))):=ah ((AB.far (aU Di.o) iy.o.1 M6.o).trans Di.o);have Nf:aj (R.At w7 L.B0 (some ⟨bl,off,none⟩) (k+1)):=ah (Kn.o.below (AB.below xP.o.b0 (λq hq=>(xP.o.row.lt q hq).1)));clear AB GU;cases hr1:(r1.err != 0)
       ·have yR:aj (res=Tg p j t.nm t0.nm b e R (dG A) ((dG A).app (.cons h b e .nil)) 2 r1.f r1.g):=ah (vC.o.trans ((if_neg ahV).trans aeQ));obtain⟨NQ,GQ,v7,GH,CX⟩:=BD.o afC;have BI:=ah (aB NQ (aB GQ (aB GH CX)));clear NQ GQ GH CX BD vC;go_wp2_with fail;go_roundw
        case rel=>exact⟨2,r1.f,r1.g,v7,rfl,ahe,yR.o,BI.o.1,BI.o.2.1,IX.o,FT.o.trans BI.o.2.2.1 FP.o.size,BI.o.2.2.1.ne (aU Di.o) M6.o,Dx.o,Nf.o,BI.o.2.2.2⟩
        case measure=>simp[intOf]
       ·have Aq:aj (res=r1):=ah (vC.o.trans (if_pos hr1));have HX0:aj (r1.err≠0):=ah afC;clear vC BD;go_wp2_with fail
        go_ret2
        refine⟨qy ahM ahM,IX.o,λh0=> ?_⟩;rw[Aq.o]at h0;exact(HX0.o h0).elim
      ·have yR:aj (res=gI p j t.nm t0.nm R (dG A) f2 g2):=nZ;obtain⟨g7,Dp,rfl,hc7⟩: ∃g7 Dp,v2= .slice (some ⟨g7,0,none⟩) (A.length+1) Dp∧A.length+1<=Dp:=by
        rcases xP.o.row.2 with⟨-,hn⟩|⟨g',cap,cur,e',-,-,hcc,-⟩
        ·simp at hn
        ·exact⟨g',cap,by rw[e'];simp,by simpa using hcc⟩
       have hcl: ∀w',Below (World.heap wr).size wr w'->w'.cell? ⟨L.bc,3,none⟩=some (.slice (some ⟨g7,0,none⟩) (A.length+1) Dp):=λw' hb=>(hb.cell (p:=⟨L.bc,3,none⟩) (by have:=xP.o.sz;have:=L.c1;show L.bc<_;omega)).trans (eX xP.o.blk (j:=3) rfl).2;have hz1:(0:Int)<=(A.length:Int):=ahe;have hz2:(A.length:Int)<=(Dp:Int):=ahe;have hwr:IntKind.i64.wrap (A.length:Int)=(A.length:Int):=IntWalk.i64_in _ ahe;have rQ:(A.length:Int)+1 -1=(A.length:Int):=ahe;clear nZ ixa ixb;go_upto_region 17 with fail;refine bS ahd rfl ?_;refine bK 0 14 [] [[],[],[1],[1,2],[1,2,3],[],[5],[5,6],[5,6,7],[5,6,7,8],[5,6,7,8,9],[1,2,3,4,5,6,7,8,9,10],[0,1,2,3,4,5,6,7,8,9,10,11],[0,1,2,3,4,5,6,7,8,9,10,11,12],[0,1,2,3,4,5,6,7,8,9,10,11,12,13]] [[],[],[],[],[],[],[],[],[],[],[],[],[],[]] (λ_ w'=>Below (World.heap wr).size wr w') (λw w'=>Below w.heap.size w w') [66,67,68,69,70,71,72,73,74,75,76,77,78,79] rfl rfl aip ahd ahd ahd ahd ahd aip (λ_=>ak _ _) aip (below_drewN (ak _ _) 1) ?_;simp only[eB,iP]
       iterate 14
        apply bf.step
        case aZ=>intro c A w' hok hC hO hD;have e0:=hO 0 aip;simp[Act.eval]at e0;simp[Act.eval]at hD;simp[go_sem,gd,Oper.wp,hD,e0,hcl,hC,rQ,hwr,hz1,hz2];exact aO.mk (ak _ _) hC (bT.mk _ _)
        try simp only[bP]
       try simp only[bP]
       refine bf.done ?_;intro wz bR;simp only[List.drop_zero];intro v0 h0 v1 h1 v2 h2 v3 h3 v4 h4 v5 h5 v6 h6 v7 h7 v8 h8 v9 h9 v10 h10 v11 h11 v12 h12 v13 tY;have JH:v11=_:=h11;have Mq:v13=_:=tY;subst JH Mq;clear h0 h1 h2 h3 h4 h5 h6 h7 h8 h9 h10 h11 h12 tY;refine dH.nil ?_;go_simp;have Na:=ah (mP.pop ⟨h,b,e,s⟩ xP.o bR);have hclz:wz.cell? ⟨L.bc,3,none⟩=some (.slice (some ⟨g7,0,none⟩) (A.length+1) Dp):=hcl wz bR;have Qq:wz.frozen? ⟨L.bc,3,none⟩=false:=bC ((xP.o.below bR).blk);clear hcl rQ hwr;refine dA 14 [[],[],[1],[1,2],[1,2,3],[],[5],[5,6],[5,6,7],[5,6,7,8],[5,6,7,8,9],[1,2,3,4,5,6,7,8,9,10],[0,1,2,3,4,5,6,7,8,9,10,11],[0,1,2,3,4,5,6,7,8,9,10,11,12],[0,1,2,3,4,5,6,7,8,9,10,11,12,13]] rfl rfl rfl rfl rfl ahd ahd ahd ?_;simp[go_sem,Oper.wp,hclz,Qq];refine cO rfl ?_;clear hclz Qq bR;go_simp;go_wp2_with fail;go_roundw
       case rel=>exact⟨k+1,R,f2,g2,.slice (some ⟨g7,0,none⟩) A.length Dp,ahi,acO,yR.o,Z8.o,Kn.o.below (Na.o.2.below xP.o.b0 (λq hq=>(xP.o.row.lt q hq).1)),yN.o,HG2.o,FP.o.trans (.inl FT.o) Na.o.2,FT.o.trans (.inl rfl) FP.o.size,Na.o.1⟩
       case measure=>simp[intOf];omega
    ·have HX:aj (res=⟨x,h.line,f1,g1⟩):=ah (HE2.o.trans (HU.o.trans (by rw[hx];rfl)));have HX0:aj (x≠0):=ah ahz;clear HU DR HE HE2;go_wp2_with fail;go_quiet (fail);go_wp2_with fail
     go_ret2
     refine⟨qy ahE ahE,nY.o.trans (.inr rfl) (v1:= .slice none 0 0) (Kp.of_below (below_drewN (ak _ _) _)),λh0=> ?_⟩;rw[HX.o]at h0;exact(HX0.o h0).elim
theorem UK (L:Lay) (p:Pr) (aK aM:Option Addr) (aG aD:Nat) (j:Nat) (t t0:Th) (r r0:List Th) (hd:p.ts.drop j=t::r) (hts:p.ts=t0::r0) (hj:dD (j:Int)) (hT:p.ts.length<maxLen) (hD:p.ds.length<maxLen) (l:aY):Dw L p aK aM aG aD j t t0 l:=
 Gp L p aK aM aG aD j t t0 r r0 hd hts hj hT hD l (aY.mW (λ_ b e hb he=>⟨Gp L p aK aM aG aD j t t0 r r0 hd hts hj hT hD b hb,Gp L p aK aM aG aD j t t0 r r0 hd hts hj hT hD e he⟩) l)
namespace Md
def jK (p:Pr) (iK:ByteArray):List Th->Nat->List (List UInt8)->List (List UInt8)->MR
 | [],_,f,g=>⟨0,0,f,g⟩
 |t::r,j,f,g=>if(gI p j t.nm iK t.body .nil f g).err != 0 then gI p j t.nm iK t.body .nil f g else jK p iK r (j+1) (gI p j t.nm iK t.body .nil f g).f (gI p j t.nm iK t.body .nil f g).g
end Md
def an3 (n:Nat) (h:0<n):Lay where
 B0:=n
 B1:=n+4
 bc:=n+1+1+1
 bs:=n+1
 bt:=n+1+1
 c0:=ahe
 s0:=ahe
 t0:=ahe
 c1:=ahe
 s1:=ahe
 t1:=ahe
 cs:=ahe
 ct:=ahe
 st:=ahe
 kw:=h
theorem aq7 {p:Pr} {w W:World} {aK aM:Option Addr} {aG aD:Nat} (hp:p.At w aK aM) (eD:dZ w)
 (hW:((((w.alloc (.cells #[.slice aK p.ds.length aG,.slice aM p.ts.length aD] 26)).alloc (.map #[] 0)).alloc (.map #[] 0)).alloc (.cells #[.slice aK p.ds.length aG,.slice aM p.ts.length aD,.int .i64 0,.slice none 0 0,.map (some (w.heap.size+1)),.map (some (w.heap.size+1+1))] 127))=W):
 mP W (an3 w.heap.size eD.lt) p aK aM aG aD 0 [] (mem []) (mem []) 0 0 (.slice none 0 0)∧Below w.heap.size w W∧W.heap[w.heap.size]? =some (.cells #[.slice aK p.ds.length aG,.slice aM p.ts.length aD] 26 (0,0)):=by
 have hb:Below w.heap.size w W:=by rw[<- hW];exact((((ak _ _).alloc (aH _) _).alloc ahg _).alloc ahh _).alloc ahh _
 have h0:W.heap[w.heap.size]? =some (.cells #[.slice aK p.ds.length aG,.slice aM p.ts.length aD] 26 (0,0)):=by rw[<- hW,heap_alloc_old _ _ ahh,heap_alloc_old _ _ ahh,heap_alloc_old _ _ ahg];exact heap_alloc_new _ _
 have h1:jr W (w.heap.size+1) 0 (mem []):=by
  have:=jr.made (w.alloc (.cells #[.slice aK p.ds.length aG,.slice aM p.ts.length aD] 26));have e:(w.alloc (.cells #[.slice aK p.ds.length aG,.slice aM p.ts.length aD] 26)).heap.size=w.heap.size+1:=ahg
  rw[e]at this;refine jr.same (f:=mem []) this ?_;rw[<- hW,heap_alloc_old _ _ ahg,heap_alloc_old _ _ ahg]
 have h2:jr W (w.heap.size+1+1) 0 (mem []):=by
  have:=jr.made ((w.alloc (.cells #[.slice aK p.ds.length aG,.slice aM p.ts.length aD] 26)).alloc (.map #[] 0));have e:((w.alloc (.cells #[.slice aK p.ds.length aG,.slice aM p.ts.length aD] 26)).alloc (.map #[] 0)).heap.size=w.heap.size+1+1:=ahg
  rw[e]at this;refine jr.same (f:=mem []) this ?_;rw[<- hW,heap_alloc_old _ _ ahg]
 have h3:W.heap[w.heap.size+1+1+1]? =some (.cells (ckV p aK aM aG aD 0 (.slice none 0 0) (w.heap.size+1) (w.heap.size+1+1)) 127 (0,0)):=by
  rw[<- hW];have e:(((w.alloc (.cells #[.slice aK p.ds.length aG,.slice aM p.ts.length aD] 26)).alloc (.map #[] 0)).alloc (.map #[] 0)).heap.size=w.heap.size+1+1+1:=ahg
  rw[<- e];exact heap_alloc_new _ _
 refine⟨{blk:=h3,row:=World.ownsRow_nil _ _ _ _,ms:=h1,mt:=h2,sz:= ?_,dat:= ?_,qd:=ags},hb,h0⟩
 ·show w.heap.size+4<=W.heap.size;rw[<- hW];simp
 ·exact⟨hp.1,hp.2.1,hp.2.2.1.below hb,hp.2.2.2.below hb,eD.same hb⟩
theorem mP.af7 {w:World} {L:Lay} {p:Pr} {aK aM:Option Addr} {aG aD:Nat} {i i':Int} {A:List Fr} {f g:List UInt8->Bool} {n m:Nat} {v:Value}
 (h:mP w L p aK aM aG aD i A f g n m v):mP (w.setCell ⟨L.bc,2,none⟩ (.int .i64 i')) L p aK aM aG aD i' A f g n m v:=by
 have hg:=cB w ⟨L.bc,2,none⟩ (.int .i64 i');have hbel:=cZ hg L.c0 h.b0;exact {blk:=agL,row:=h.row.kept hg (h.own_ne L.c1),ms:=h.ms.same (dB w _ _ rfl L.cs),mt:=h.mt.same (dB w _ _ rfl L.ct),sz:=aR h.sz hg.size,dat:=h.dat.below hbel,qd:=λx hx=>(h.qd x hx).below hbel}
theorem RI (p:Pr) (w:World) (aK aM:Option Addr) (aG aD:Nat) (t0:Th) (r0:List Th) (hts:p.ts=t0::r0) (hT:p.ts.length<maxLen) (hD:p.ds.length<maxLen) (hp:p.At w aK aM) (eD:dZ w):
 Calls Tryz.prog 36 #[.agg #[.slice aK p.ds.length aG,.slice aM p.ts.length aD]] w λe w'=>e= .returned (.tuple #[.int .i64 (jK p t0.nm p.ts 0 [] []).err,.int .i64 (jK p t0.nm p.ts 0 [] []).line])∧Below w.heap.size w w':=by
 generalize hres:jK p t0.nm p.ts 0 [] []=res;have HR:=ah hres;have HP:=ah hp;have jc:=ah eD;have lK:=ah hts;have HT:=ah hT;unfold maxLen at hT;clear hres hp eD hts;have hmm:= @run_makeMap Tryz.prog;go_enter Tryz.func36,Tryz.ntmps36;go_upto_region 2 with fail;generalize hW:World.alloc (World.alloc (World.alloc (World.alloc w _) _) _) _=W;generalize Value.agg #[_,_]=a0;have HS:=ah (aq7 HP.o jc.o hW);obtain⟨L,hL⟩: ∃L,an3 w.heap.size jc.o.lt=L:=⟨_,rfl⟩;have Xq:w.heap.size+1+1+1=L.bc:=by rw[<- hL];rfl
 have HL0:aj (w.heap.size=L.B0):=ah (by rw[<- hL];rfl);rw[hL]at HS;clear hW hL hmm;have c0:W.cell? ⟨w.heap.size,1,none⟩=some (.slice aM p.ts.length aD):=(eX HS.o.2.2 (j:=1) rfl).2;rw[Xq];clear Xq;go_wp2_with fail;go_loopw [5,6,7,8,17] (λ_ _ _ _ s wr=> ∃(k:Nat) (R:List Th) (f1 g1:List (List UInt8)) (v1:Value) (i1:Int),s= .int .i64 k∧k+R.length=p.ts.length∧p.ts.drop k=R∧res=jK p t0.nm R k f1 g1∧nC (kH p) f1∧nC (kS p) g1∧Below L.B0 w wr∧mP wr L p aK aM aG aD i1 [] (mem f1) (mem g1) f1.length g1.length v1) (λ_ _ _ _ s _=>p.ts.length -(intOf s).toNat)
 case atStart=>exact⟨0,p.ts,[],[],_,0,rfl,ahg,rfl,HR.o.symm,⟨List.nodup_nil,ahg⟩,⟨List.nodup_nil,ahg⟩,by rw[<- HL0.o];exact HS.o.2.1,HS.o.1⟩
 case round=>
  obtain⟨k,R,f1,g1,v1,i1,rfl,hlen,hdr,heq,hf1,hg1,hB,hI⟩:=hrel;have HE:=ah heq;have zM:=ah hf1;have rZ:=ah hg1;have HB:=ah hB;have HI:=ah hI;have HDR:=ah hdr;clear heq hf1 hg1 hB hI hdr c0 HS;cases R with
  |nil=>
   obtain rfl:k=p.ts.length:=afm
   have HX:aj (res.err=0∧res.line=0):=ah aha;go_wp2_with fail
   go_ret2
   exact⟨qy (by rw[HX.o.1];rfl) (by rw[HX.o.2];rfl),by rw[HL0.o];exact HB.o⟩
  |cons t R=>
   have hrow:=HI.o.dat.2.2.2.1.drop k;rw[HDR.o,aV]at hrow;obtain⟨⟨bl,off,gK,dW,dL,cK,rfl,hbl,x0,x1,x2,x3,hok,htx,hst,-⟩,-⟩:=hrow;simp only[ay]at hlen;have hkl:k<p.ts.length:=ahe
   have je:=ah hok;have HST:=ah hst;clear hok hst htx hbl;go_upto_region 5 with fail;generalize hW2:World.alloc wr _=W2;obtain⟨nb,hnb,vN,-,kX,-⟩:=nI hW2;have HI2:=ah (HI.o.below vN.o);have iy:aj (L.B1<=nb):=ah (by rw[<- hnb];exact HI.o.sz);have HB2:aj (Below L.B0 w W2):=ah (HB.o.trans (vN.o.mono HI.o.b0));have aB9:=ah (HST.o.below (vN.o.mono HI.o.b0));rw[hnb];clear hW2 hnb x0 x1 x2 x3 HST HB;have c2:W2.cell? ⟨L.bc,2,none⟩=some (.int .i64 i1):=(eX HI2.o.blk (j:=2) rfl).2;have f2:W2.frozen? ⟨L.bc,2,none⟩=false:=bC HI2.o.blk;go_upto_region 6 with fail;generalize hW3:World.setCell W2 _ _=W3;have nR:aj (W2.grownBy W3 (some L.bc)):=ah (by rw[<- hW3];exact cB _ _ _);have HI3:aj (mP W3 L p aK _ aG aD (k:Int) [] (mem f1) (mem g1) f1.length g1.length v1):=ah (by rw[<- hW3];exact HI2.o.af7);have Bq:aj (W3.heap[nb]? =some (.cells #[.string t.nm,.int .i64 t.line,.slice gK t.cu.length dW,.slice dL t.body.len cK] 59 (0,0))):=ah ((nR.o.block _ (aU kX.o) (by have:=L.c1;have:=iy.o;simp;omega)).trans kX.o);have nX:=ah (cZ nR.o L.c0 HI2.o.b0);have HB3:=ah (HB2.o.trans nX.o);have bi8:=ah (aB9.o.below nX.o);clear hW3 c2 f2 HI2 kX vN HB2 aB9 nX HI;have y3:W3.cell? ⟨nb,3,none⟩=some (.slice dL t.body.len cK):=(eX Bq.o (j:=3) rfl).2;have vC:aj (res=if(gI p k t.nm t0.nm t.body (dG []) f1 g1).err != 0 then gI p k t.nm t0.nm t.body (dG []) f1 g1 else jK p t0.nm R (k+1) (gI p k t.nm t0.nm t.body (dG []) f1 g1).f (gI p k t.nm t0.nm t.body (dG []) f1 g1).g):=ah HE.o;clear HE;go_wp2_with fail;refine(UK L p _ _ aG aD k t t0 R r0 HDR.o lK.o afM HT.o hD t.body W3 dL cK [] f1 g1 v1 je.o.2.2.2 bi8.o ahg zM.o rZ.o HI3.o).mono ?_;rintro e' w4 ⟨rfl,hK4,hq4⟩;generalize gI p k t.nm t0.nm t.body (dG []) f1 g1=r1 at *;have eF:=ah (HB3.o.trans (hK4.below HI3.o.b0 (λq hq=>(HI3.o.row.lt q hq).1)));have zO:=ah hq4;clear hK4 hq4;cases hr1:(r1.err != 0)
   ·have yR:aj (res=jK p t0.nm R (k+1) r1.f r1.g):=ah (vC.o.trans (if_neg ahV));obtain⟨NQ,GQ,v7,-,CX⟩:=zO.o afC;have BI:=ah (aB NQ (aB GQ CX));have HD7:aj (p.ts.drop (k+1)=R):=ah aeC;clear NQ GQ CX zO vC;go_wp2_with fail;go_roundw
    case rel=>exact⟨k+1,R,r1.f,r1.g,v7,_,ahi,ahe,HD7.o,yR.o,BI.o.1,BI.o.2.1,eF.o,BI.o.2.2⟩
    case measure=>simp[intOf];omega
   ·have Aq:aj (res=r1):=ah (vC.o.trans (if_pos hr1));clear vC zO;go_wp2_with fail
    go_ret2
    exact⟨qy ahM ahM,by rw[HL0.o];exact eF.o⟩
namespace Md
def Gq:aY->Int->Int
 | .nil,n=>n
 | .cons _ b e r,n=>Gq r (wrap64 (n+(Gq b b.len+Gq e e.len)))
def EL (l:aY):Int:=Gq l l.len
end Md
theorem aw5 (n x:Int):wrap64 (n+wrap64 x)=wrap64 (n+x):=by
 unfold wrap64;omega
theorem wrap_in' (n x y:Int):wrap64 (wrap64 (n+x)+y)=wrap64 (n+(x+y)):=by
 unfold wrap64;omega
def Bh (l:aY):Prop:= ∀(w:World) (ao:Option Addr) (cap:Nat),l.len<=maxLen->l.At w w.heap.size ao 0->
 Calls Tryz.prog 35 #[.slice ao l.len cap] w λe w'=>e= .returned (.int .i64 (EL l))∧Below w.heap.size w w'
theorem JA (l:aY) (hall:l.All λ_ b e=>Bh b∧Bh e):Bh l:=by
 intro w ao cap hl hat;generalize hres:EL l=res;have HR:=ah hres;have HAT:=ah hat;have jM:=ah hall;unfold maxLen at hl;clear hres hat hall;go_enter Tryz.func35,Tryz.ntmps35;go_wp2_with fail;go_loopw [3,5,10] (λs3 _ s wr=> ∃(k:Nat) (R:aY) (n:Int),s= .int .i64 k∧s3= .int .i64 n∧k+R.len=l.len∧res=Gq R n∧(R.All λ_ b e=>Bh b∧Bh e)∧R.At wr wr.heap.size ao k∧Below w.heap.size w wr) (λ_ _ s _=>l.len -(intOf s).toNat)
 case atStart=>exact⟨0,l,l.len,rfl,rfl,ahg,HR.o.symm,jM.o,HAT.o,ak _ _⟩
 case round=>
  obtain⟨k,R,n,rfl,rfl,hlen,heq,pI,hrow,hB⟩:=hrel;have HE:=ah heq;have HB:=ah hB;clear heq hB;cases R with
  |nil=>
   obtain rfl:k=l.len:=afs
   go_wp2_with fail;go_ret;exact⟨bW HE.o.symm,HB.o⟩
  |cons h b e R=>
   obtain⟨bl,off,s,rfl,hbl,hin,x0,x1,x2,x3,x4,x5,x6,x7,x8,x9,x10,hrest⟩:=aY.At.head hrow;obtain⟨⟨hsb,hse⟩,Cb⟩:=pI;have Ao:=ah hsb;have DR:=ah hse;have fF:=ah hin;have hkl:k<l.len:=acO
   clear hrow hin hsb hse;go_upto_region 5 with fail;obtain⟨nb,hnb⟩: ∃n,wr.heap.size=n:=⟨_,rfl⟩;generalize hW2:World.alloc wr _=W2;have HY:aj (Sit wr W2 (qY nb h b e s [])):=ah aay;rw[hnb];clear hW2 hnb x0 x1 x2 x3 x4 x5 x6 x7 x8 x9 x10;obtain⟨T,F,Ad,hst,hF,hnext⟩:=calm W2;have HF:=ah hF;have eH:=ah hnext;clear hnext hF;have d0:=λx=>(HY.o.next (HF.o x)).2.1.2;have d1:=λx=>(HY.o.next (HF.o x)).2.2.1.2;have d2:=λx=>(HY.o.next (HF.o x)).2.2.2.1.2;have d3:=λx=>(HY.o.next (HF.o x)).2.2.2.2.1.2;have d4:=λx=>(HY.o.next (HF.o x)).2.2.2.2.2.1.2;have d5:=λx=>(HY.o.next (HF.o x)).2.2.2.2.2.2.1.2;have d6:=λx=>(HY.o.next (HF.o x)).2.2.2.2.2.2.2.1.2;have d7:=λx=>(HY.o.next (HF.o x)).2.2.2.2.2.2.2.2.1.2;have d8:=λx=>(HY.o.next (HF.o x)).2.2.2.2.2.2.2.2.2.1.2;have d9:=λx=>(HY.o.next (HF.o x)).2.2.2.2.2.2.2.2.2.2.1.2;have sw:=λx=>(HY.o.next (HF.o x)).2.2.2.2.2.2.2.2.2.2.2.1.2;clear d0 d1 d2 d3 d4 d5 d6 d7 d8;refine iR F ahd ahd hst ?_
   repeat (any_goals (first|go_big_quiet_step ((first|(go_at_call_of 35 (Value.slice s.dL b.len s.cK);refine(Ao.o _ s.dL s.cK fF.o.1.2.2.2.2.2.2.1 ((fF.o.same HY.o.1).same (HF.o _)).2.2.2.1).mono ?_;rintro e w' ⟨rfl,hb⟩;exact⟨rfl,eH.o _ _ hb⟩)|(go_at_call_of 35 (Value.slice s.gJ e.len s.fH);refine(DR.o _ s.gJ s.fH fF.o.1.2.2.2.2.2.2.2 ((fF.o.same HY.o.1).same (HF.o _)).2.2.2.2).mono ?_;rintro e w' ⟨rfl,hb⟩;exact⟨rfl,eH.o _ _ hb⟩)))|(refine wpQuiet_step (λK hK=> ?_);go_simp;first|(refine hK _ ?_;clear hK K)|(split <;> first|(refine hK _ ?_;clear hK K)|(apply Exists.intro;refine⟨λ_=> ?_,hK _ ?_⟩;((first|(go_at_call_of 35 (Value.slice s.dL b.len s.cK);refine(Ao.o _ s.dL s.cK fF.o.1.2.2.2.2.2.2.1 ((fF.o.same HY.o.1).same (HF.o _)).2.2.2.1).mono ?_;rintro e w' ⟨rfl,hb⟩;exact⟨rfl,eH.o _ _ hb⟩)|(go_at_call_of 35 (Value.slice s.gJ e.len s.fH);refine(DR.o _ s.gJ s.fH fF.o.1.2.2.2.2.2.2.2 ((fF.o.same HY.o.1).same (HF.o _)).2.2.2.2).mono ?_;rintro e w' ⟨rfl,hb⟩;exact⟨rfl,eH.o _ _ hb⟩)));clear hK K)))))
   all_goals (refine wpQuiet_nil ?_;rintro _ ⟨x,rfl⟩)
   have HB2:=ah (HY.o.1.trans ((HF.o x).mono HY.o.1.size));clear d9 sw HF eH hst;generalize F x=W3 at *;go_wp2_with fail;go_roundw
   case rel=>exact⟨k+1,R,_,ahi,rfl,acO,HE.o.trans (show Gq R (wrap64 (n+(EL b+EL e)))=_ by rw[<- aw5]),Cb,hrest.same HB2.o,HB.o.trans (HB2.o.mono HB.o.size)⟩
   case measure=>simp[intOf];omega
theorem X7 (l:aY):Bh l:=JA l (aY.mW (λ_ b e hb he=>⟨JA b hb,JA e he⟩) l)
namespace Md
def sJ:List Th->Int->Int
 | [],n=>n
 |t::r,n=>sJ r (wrap64 (n+EL t.body))
theorem BU: ∀(ds pre:List De) (c l n f:Int),(∀d∈ds,iV d=true)->(lV ds pre c l n f).1=0->c+l+n+f<=20->(ds.length:Int)+(c+l+n+f)<=20
 | [],_,_,_,_,_,_,_,h=>aiq
 |d::r,pre,c,l,n,f,hs,h0,h=>by
  have hd:=vw (hs d ahg);rw[Gs]at h0;split at h0
  ·simp at h0
  split at h0
  ·simp at h0
  split at h0
  ·simp at h0
  rename_i hlim;split at h0
  ·simp at h0
  split at h0
  ·simp at h0
  have hl:dc d c<=12∧dl d l<=4∧dn d n<=2∧df d f<=2:=by unfold lim at hlim;simp only[Bool.or_eq_true,decide_eq_true_eq,not_or]at hlim;omega
  have ih:=BU r (pre++[d]) _ _ _ _ (λx hx=>hs x (by simp[hx])) h0 ahe;have hsum:c+l+n+f+1<=dc d c+dl d l+dn d n+df d f:=by
   unfold dc dl dn df;have hk:d.kind=1∨d.kind=2∨d.kind=3∨d.kind=4∨d.kind=5∨d.kind=6:=ahe
   rcases hk with hk|hk|hk|hk|hk|hk <;> simp[hk] <;> omega
  simp only[ay];omega
def kN (p:Pr):ByteArray:=(p.ts.head?.map (·.nm)).getD ⟨#[]⟩
def jC (p:Pr):Int×Int:=
 if !qz p then(3,0)else if(lV p.ds [] 0 0 0 0).1 != 0 then lV p.ds [] 0 0 0 0 else
 if decide ((4:Int)<p.ts.length)then(2,0)else if(kW p).1 != 0 then kW p else
 if decide (60<sJ p.ts 0)then(2,0)else((jK p (kN p) p.ts 0 [] []).err,(jK p (kN p) p.ts 0 [] []).line)
end Md
theorem Dk (p:Pr) (w:World) (aK aM:Option Addr) (aG aD:Nat) (hp:p.At w aK aM) (eD:dZ w):
 Calls Tryz.prog 16 #[.agg #[.slice aK p.ds.length aG,.slice aM p.ts.length aD]] w λe w'=>e= .returned (.tuple #[.int .i64 (jC p).1,.int .i64 (jC p).2])∧Below w.heap.size w w':=by
 have HS:aj (jC p=if !qz p then(3,0)else if(lV p.ds [] 0 0 0 0).1 != 0 then lV p.ds [] 0 0 0 0 else
  if decide ((4:Int)<p.ts.length)then(2,0)else if(kW p).1 != 0 then kW p else
  if decide (60<sJ p.ts 0)then(2,0)else((jK p (kN p) p.ts 0 [] []).err,(jK p (kN p) p.ts 0 [] []).line)):=ah rfl
 generalize jC p=res at *;have hld:=hp.1;have hlt:=hp.2.1;unfold maxLen at hld hlt;have HP:=ah hp;have jc:=ah eD;clear hp eD;go_enter Tryz.func16,Tryz.ntmps16;go_upto_region 1 with fail;generalize hW:World.alloc w _=W;generalize Value.agg #[_,_]=a0;have HX:=ah ((Sit.start w).wL rfl (.slice aK p.ds.length aG) (.slice aM p.ts.length aD) 26);rw[hW]at HX;clear hW;obtain⟨-,⟨-,c0⟩,⟨-,c1⟩,-⟩:=HX.o;go_wp2_with fail;refine(UD p _ aK aM aG aD (HP.o.same HX.o.1) (jc.o.same HX.o.1)).mono ?_;rintro e w1 ⟨rfl,hb1⟩;have HY:=ah (HX.o.next hb1);clear HX hb1 c0 c1;obtain⟨-,⟨-,c0⟩,⟨-,c1⟩,-⟩:=HY.o;have xU:aj (qz p=true->(∀d∈p.ds,iV d=true)∧∃t0 r0,p.ts=t0::r0):=ah (λh=>by
  unfold qz at h;simp only[aP,List.all_eq_true,decide_eq_true_eq]at h;refine⟨h.1.1,?_⟩;cases hts:p.ts with
  |nil=>rw[hts]at h;simp at h
  |cons a b=>exact⟨a,b,rfl⟩)
 cases hS:qz p
 ·have HE:aj (res=(3,0)):=ah (HS.o.trans ahZ);clear xU;go_wp2_with fail
  go_ret2
  exact⟨qy ahJ ahJ,HY.o.1⟩
 ·have HE:aj (res=if(lV p.ds [] 0 0 0 0).1 != 0 then lV p.ds [] 0 0 0 0 else
   if decide ((4:Int)<p.ts.length)then(2,0)else if(kW p).1 != 0 then kW p else
   if decide (60<sJ p.ts 0)then(2,0)else((jK p (kN p) p.ts 0 [] []).err,(jK p (kN p) p.ts 0 [] []).line)):=ah (HS.o.trans ahZ)
  have wY:=ah (xU.o hS);have xO:aj ((lV p.ds [] 0 0 0 0).1=0->p.ds.length<=20):=ah (λh0=>ach);clear HS xU;go_wp2_with fail;refine(JB p.ds _ aK aG HP.o.1 ((HP.o.same HY.o.1).2.2.1) wY.o.1).mono ?_;rintro e w2 ⟨rfl,hb2⟩;have HZ:=ah (HY.o.next hb2);clear HY hb2 c0 c1;obtain⟨-,⟨-,c0⟩,⟨-,c1⟩,-⟩:=HZ.o;generalize lV p.ds [] 0 0 0 0=dd at *;cases h1:(dd.1 != 0)
  case true=>
   have dJ:aj (res=dd):=ah (HE.o.trans (if_pos h1));clear HE wY xO;go_wp2_with fail
   go_ret2
   exact⟨qy ahk ahk,HZ.o.1⟩
  have HSU:=ah (xO.o ahl);clear xO;have Ka:aj (res=if decide ((4:Int)<p.ts.length)then(2,0)else if(kW p).1 != 0 then kW p else
   if decide (60<sJ p.ts 0)then(2,0)else((jK p (kN p) p.ts 0 [] []).err,(jK p (kN p) p.ts 0 [] []).line)):=ah (HE.o.trans (if_neg ahu))
  clear HE;by_cases h4:(4:Int)<(p.ts.length:Int)
  ·have dJ:aj (res=(2,0)):=ah (Ka.o.trans (if_pos ahO));clear Ka wY;go_wp2_with fail
   go_ret2
   exact⟨qy ahk ahk,HZ.o.1⟩
  have HE2:aj (res=if(kW p).1 != 0 then kW p else
   if decide (60<sJ p.ts 0)then(2,0)else((jK p (kN p) p.ts 0 [] []).err,(jK p (kN p) p.ts 0 [] []).line)):=ah (Ka.o.trans (if_neg ahO))
  have h4':(p.ts.length:Int)<=4:=ahe
  have J3:aj (p.ts.length<=4):=ah ahe;clear Ka;go_wp2_with fail;refine(Sj p _ aK aM aG aD (HP.o.same HZ.o.1) (by have:=HSU.o;have:=J3.o;unfold maxLen;omega)).mono ?_;rintro e w3 ⟨rfl,hb3⟩;have HV:=ah (HZ.o.next hb3);clear HZ hb3 c0 c1 h1;obtain⟨-,⟨-,c0⟩,⟨-,c1⟩,-⟩:=HV.o;generalize kW p=tt at *;cases h2:(tt.1 != 0)
  case true=>
   have dJ:aj (res=tt):=ah (HE2.o.trans (if_pos h2));clear HE2 wY;go_wp2_with fail
   go_ret2
   exact⟨qy ahk ahk,HV.o.1⟩
  have pO:aj (res=if decide (60<sJ p.ts 0)then(2,0)else((jK p (kN p) p.ts 0 [] []).err,(jK p (kN p) p.ts 0 [] []).line)):=ah (HE2.o.trans (if_neg ahL));clear HE2;have qw:=(HP.o.same HV.o.1).2.2.2;go_wp2_with fail;go_loopw [8,10,40] (λs8 _ s wr=> ∃(k:Nat) (R:List Th) (n:Int),s= .int .i64 k∧s8= .int .i64 n∧k+R.length=p.ts.length∧sJ p.ts 0=sJ R n∧gY wr wr.heap.size R aM k∧Sit w wr [(w.heap.size,0,(.slice aK p.ds.length aG)),(w.heap.size,1,(.slice aM p.ts.length aD))]) (λ_ _ s _=>p.ts.length -(intOf s).toNat)
  case atStart=>exact⟨0,p.ts,0,rfl,rfl,ahg,rfl,qw,HV.o⟩
  case round=>
   obtain⟨k,R,n,rfl,rfl,hlen,heq,hrow,hsit⟩:=hrel;have HU:=ah hsit;have HQ:=ah heq;clear hsit HV c0 c1 qw heq h2;obtain⟨-,⟨-,c0⟩,⟨-,c1⟩,-⟩:=HU.o;cases R with
   |nil=>
    obtain rfl:k=p.ts.length:=afm;have HN:aj (sJ p.ts 0=n):=HQ;by_cases h6:60<n
    ·have dJ:aj (res=(2,0)):=ah (pO.o.trans (if_pos agb));clear pO wY;go_wp2_with fail
     go_ret2
     exact⟨qy ahk ahk,HU.o.1⟩
    ·have h6':n<=60:=ahe;obtain⟨-,t0,r0,hts⟩:=wY.o;have lK:=ah hts;have HHN:aj (kN p=t0.nm):=ah (by unfold kN;rw[hts];rfl);have dJ:aj (res=((jK p t0.nm p.ts 0 [] []).err,(jK p t0.nm p.ts 0 [] []).line)):=ah (pO.o.trans ((if_neg agb).trans (by rw[HHN.o])));clear pO wY hts;go_wp2_with fail;refine(RI p _ aK aM aG aD t0 r0 lK.o (by have:=J3.o;unfold maxLen;omega) (by have:=HSU.o;unfold maxLen;omega) (HP.o.same HU.o.1) (jc.o.same HU.o.1)).mono ?_;rintro e w4 ⟨rfl,hb4⟩;go_wp2_with fail
     go_ret2
     exact⟨qy ahk ahk,(HU.o.next hb4).1⟩
   |cons t R=>
    obtain⟨⟨b,off,gK,dW,dL,cK,rfl,hB,x0,x1,x2,x3,hok,htx,hst,hcl⟩,hrest⟩:=hrow;simp only[ay]at hlen;have hkl:k<p.ts.length:=ahe;have je:=ah hok;have HST:=ah hst;clear hok htx hst hcl;go_upto_region 15 with fail;clear c0 c1;obtain⟨n2,hn2⟩: ∃n,wr.heap.size=n:=⟨_,rfl⟩;generalize hW2:World.alloc wr _=W2;have HB2:aj (Below wr.heap.size wr W2):=ah afQ;have HV:aj (Sit w W2 ((n2,0,.string t.nm)::(n2,1,.int .i64 t.line)::(n2,2,.slice gK t.cu.length dW)::(n2,3,.slice dL t.body.len cK)::[(w.heap.size,0,(.slice aK p.ds.length aG)),(w.heap.size,1,(.slice (some ⟨b,off,none⟩) p.ts.length aD))])):=ah ads;rw[hn2];clear hW2 hn2 x0 x1 x2 x3;obtain⟨-,⟨-,c0⟩,⟨-,c1⟩,⟨-,c2⟩,⟨-,c3⟩,⟨-,c4⟩,⟨-,c5⟩,-⟩:=HV.o;go_wp2_with fail;refine(X7 t.body _ dL cK je.o.2.2.2 (HST.o.same HB2.o)).mono ?_;rintro e' w4 ⟨rfl,hb4⟩;have jF:=ah (HB2.o.trans (hb4.mono HB2.o.size));clear hb4 c0 c1 c2 c3 c4 c5;go_wp2_with fail;go_roundw
    case rel=>exact⟨k+1,R,_,ahi,rfl,ahe,HQ.o.trans rfl,hrest.same jF.o,HU.o.next jF.o⟩
    case measure=>simp[intOf];omega
end Go.Proofs.YtldapdcphphodaaGreatDoor
