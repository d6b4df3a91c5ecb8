/- The checker's state as data, and the contract of its statement at every operator. And what hangs on it. -/
import Derived.Test.YtkmllehjemjgpaaGreatDoorGMG
import Derived.Test.YtkmllehjemjgpaaGreatDoorGMI
import Derived.Test.YtkmllehjemjgpaaGreatDoorGMB
set_option linter.unusedSimpArgs false
set_option linter.unusedVariables false
set_option maxHeartbeats 40000000
set_option maxRecDepth 1000000
namespace Go.Proofs.YtkmllehjemjgpaaGreatDoor
open Go.RowKit
namespace Md
structure Fr where
 h:cB
 b:aH
 e:aH
 s:Sl
def bS:List Fr->aH
 | []=> .nil
 |x::r=> .cons x.h x.b x.e (bS r)
def nI (h:cB) (b e:aH) (s:Sl):List Value:=[.int .i64 h.op,.int .i64 h.line,.string h.nm,.string h.arg,.slice s.eu h.idx.len s.dI,.int .i64 h.cu,.int .i64 h.xn,.string h.bZ,.slice s.dR h.aK.len s.cO,.slice s.bR b.len s.aY,.slice s.fH e.len s.dX]
def zy:List Fr->List Value
 | []=>[]
 |x::r=>nI x.h x.b x.e x.s++zy r
theorem CB: ∀A:List Fr,(zy A).length=A.length*11
 | []=>rfl
 |x::r=>by simp only[zy,List.length_append,CB r,List.length_cons];simp[nI];omega
theorem Aw: ∀(A:List Fr) (x:Fr),zy (A++[x])=zy A++nI x.h x.b x.e x.s
 | [],x=>by simp[zy]
 |y::r,x=>by simp[zy,Aw r x]
theorem qA: ∀A:List Fr,(bS A).len=A.length
 | []=>rfl
 |x::r=>by simp[bS,aH.len,qA r]
def rT (w:World) (B:Nat) (h:cB) (b e:aH) (s:Sl):Prop:=uY h b e∧h.idx.At w B s.eu 0∧h.aK.At w B s.dR 0∧b.At w B s.bR 0∧e.At w B s.fH 0
theorem rT.below {w w':World} {B:Nat} {h:cB} {b e:aH} {s:Sl} (hi:rT w B h b e s) (hb:Below B w w'):rT w' B h b e s:=
 ⟨hi.1,hi.2.1.below hb,hi.2.2.1.below hb,hi.2.2.2.1.below hb,hi.2.2.2.2.below hb⟩
theorem rT.use {w:World} {B:Nat} {h:cB} {b e:aH} {s:Sl} (hi:rT w B h b e s) (hb:B<=w.heap.size):BO w h b e s:=
 ⟨hi.1,hi.2.1.mono hb,hi.2.2.1.mono hb,hi.2.2.2.1.mono hb,hi.2.2.2.2.mono hb⟩
def WC (w:World) (B:Nat) (A:List Fr):Prop:= ∀x∈A,rT w B x.h x.b x.e x.s
theorem Sk {w:World} {B B' g:Nat} (hB:B<=B') (hg:g<B'): ∀(A:List Fr) (k:Nat),(∀j u,(zy A)[j]? =some u->w.cell? ⟨g,k*11+j,none⟩=some u)->WC w B A->(bS A).At w B' (some ⟨g,0,none⟩) k
 | [],_,_,_=>trivial
 |x::r,k,hc,hin=>by
  have hx:=hin x (by simp);have c: ∀j u,(nI x.h x.b x.e x.s)[j]? =some u->w.cell? ⟨g,0+k*11+j,none⟩=some u:=λj u hu=>by rw[Nat.zero_add];refine hc j u ?_;have:j<(nI x.h x.b x.e x.s).length:=(List.getElem?_eq_some_iff.1 hu).1;rw[zy,List.getElem?_append_left this];exact hu
  refine⟨⟨g,0,x.s.eu,x.s.dI,x.s.dR,x.s.cO,x.s.bR,x.s.aY,x.s.fH,x.s.dX,rfl,hg,c 0 _ rfl,c 1 _ rfl,c 2 _ rfl,c 3 _ rfl,c 4 _ rfl,c 5 _ rfl,c 6 _ rfl,c 7 _ rfl,c 8 _ rfl,c 9 _ rfl,c 10 _ rfl,hx.1,hx.2.1.mono hB,hx.2.2.1.mono hB,hx.2.2.2.1.mono hB,hx.2.2.2.2.mono hB⟩,?_⟩;refine Sk hB hg r (k+1) (λj u hu=> ?_) (λy hy=>hin y (by simp[hy]));have:=hc (11+j) u (by rw[zy,List.getElem?_append_right (by simp[nI])];simpa[nI]using hu);rw[show(k+1)*11+j=k*11+(11+j) by omega];exact this
def iP (p:Pr) (j:Nat) (tn gT:ByteArray) (ar:aH) (f g:List UInt8->Bool) (h:cB):Int:=
 if h.op==1 then EI p j h else if h.op==2||h.op==3 then kg p j h.cu h.xn h.bZ h.aK else
 if h.op==4 then eF [dh (mean p j h.nm) [4],nest (dW ar [7]||pY ar h.nm [4])]else
 if h.op==5||h.op==6 then eF [dh (mean p j h.nm) [5],nest (dW ar [7]||pY ar h.nm [5,6])]else
 if h.op==7 then nest (dW ar [7])else if h.op==8 then nest (dW ar [7,8])else
 if h.op==9||h.op==10||h.op==11 then eF [dh (mean p j h.nm) [6],nest ((dW ar [7]|| !pY ar (nU p.ds h.nm) [4])||(h.op==9&&dW ar [8]))]else
 if h.op==12 then eF [dh (mean p j h.nm) [8],nest (dW ar [7,8,3]||(h.nm.toList==tn.toList||h.nm.toList==gT.toList)),(jR (f h.nm.toList))]else
 if h.op==13 then eF [dh (mean p j h.nm) [8],nest (dW ar [7,8]||h.nm.toList==tn.toList)]else
 if h.op==14 then eF [dh (mean p j h.nm) [7],nest (dW ar [7,3]),(jR (g h.nm.toList)),kg p j h.cu h.xn h.bZ h.aK]else
 if h.op==15 then eF [dh (mean p j h.nm) [1],dh (mean p j h.arg) [7],nest (dW ar [7])]else 0
end Md
open Md
def ckV (p:Pr) (aB aD:Option Addr) (aA ay:Nat) (i:Int) (v:Value) (bs bt:Nat):Array Value:= #[.slice aB p.ds.length aA,.slice aD p.ts.length ay,.int .i64 i,v,.map (some bs),.map (some bt)]
structure Lay where
 B0:Nat
 B1:Nat
 bc:Nat
 bs:Nat
 bt:Nat
 c0:B0<=bc
 s0:B0<=bs
 t0:B0<=bt
 c1:bc<B1
 s1:bs<B1
 t1:bt<B1
 cs:bc≠bs
 ct:bc≠bt
 st:bs≠bt
 kw:0<B0
def Qo (w:World) (B0:Nat) (p:Pr) (aB aD:Option Addr):Prop:=p.ds.length<=maxLen∧p.ts.length<=maxLen∧gM w B0 p.ds aB 0∧fQ w B0 p.ts aD 0∧dD w
theorem Qo.below {w w':World} {L:Lay} {p:Pr} {aB aD:Option Addr} (h:Qo w L.B0 p aB aD) (hb:Below L.B0 w w'):Qo w' L.B0 p aB aD:=
 ⟨h.1,h.2.1,h.2.2.1.below hb,h.2.2.2.1.below hb,h.2.2.2.2.below hb L.kw⟩
theorem Qo.use {w:World} {B0:Nat} {p:Pr} {aB aD:Option Addr} (h:Qo w B0 p aB aD) (hB:B0<=w.heap.size):p.At w aB aD:=⟨h.1,h.2.1,h.2.2.1.mono hB,h.2.2.2.1.mono hB⟩
structure Kp (L:Lay) (v:Value) (w w':World):Prop where
 os:w'.os=w.os
 tape:w'.tape=w.tape
 output:w'.output=w.output
 size:w.heap.size<=w'.heap.size
 block: ∀k,k<w.heap.size->k≠L.bc->k≠L.bs->k≠L.bt->v.ownBlock≠some k->w'.heap[k]? =w.heap[k]?
def yV (w:World) (v v':Value):Prop:=v'.ownBlock=v.ownBlock∨∃g,v'.ownBlock=some g∧w.heap.size<=g
theorem Kp.refl (L:Lay) (v:Value) (w:World):Kp L v w w:=⟨rfl,rfl,rfl,Nat.le_refl _,λ_ _ _ _ _ _=>rfl⟩
theorem Kp.of_below {L:Lay} {v:Value} {w w':World} (h:Below w.heap.size w w'):Kp L v w w':=⟨h.os,h.tape,h.output,h.size,λk hk _ _ _ _=>h.block k hk⟩
theorem Kp.trans {L:Lay} {v v1:Value} {w w1 w2:World} (h:Kp L v w w1) (ho:yV w v v1∨v1.ownBlock=none) (k:Kp L v1 w1 w2):Kp L v w w2:=
 ⟨k.os.trans h.os,k.tape.trans h.tape,k.output.trans h.output,Nat.le_trans h.size k.size,λj hj hc hs ht hv=>(k.block j (Nat.lt_of_lt_of_le hj h.size) hc hs ht (by
   rcases ho with(e|⟨g,e,hg⟩)|e
   ·rw[e];exact hv
   ·rw[e];intro e';injection e' with e';omega
   ·rw[e];simp)).trans (h.block j hj hc hs ht hv)⟩
theorem Kp.below {L:Lay} {v:Value} {w w':World} (h:Kp L v w w') (hB:L.B0<=w.heap.size) (hv: ∀k,v.ownBlock=some k->L.B1<=k):Below L.B0 w w':=
 ⟨h.os,h.tape,h.output,h.size,λk hk=>h.block k (by omega) (by have:=L.c0;omega) (by have:=L.s0;omega) (by have:=L.t0;omega) (λe=>by have:=hv k e;have:=L.c0;have:=L.c1;omega)⟩
theorem Kp.far {L:Lay} {v:Value} {w w':World} {k:Nat} (h:Kp L v w w') (hk:k<w.heap.size) (hB:L.B1<=k) (hv:v.ownBlock≠some k):w'.heap[k]? =w.heap[k]?:=
 h.block k hk (by have:=L.c1;omega) (by have:=L.s1;omega) (by have:=L.t1;omega) hv
theorem yV.trans {w w1:World} {v v1 v2:Value} (h:yV w v v1) (k:yV w1 v1 v2) (hs:w.heap.size<=w1.heap.size):yV w v v2:=by
 rcases k with e|⟨g,e,hg⟩
 ·rcases h with e'|⟨g,e',hg⟩
  ·exact .inl (e.trans e')
  ·exact .inr ⟨g,e.trans e',hg⟩
 ·exact .inr ⟨g,e,Nat.le_trans hs hg⟩
theorem yV.ne {w:World} {v v':Value} {k:Nat} (h:yV w v v') (hk:k<w.heap.size) (hv:v.ownBlock≠some k):v'.ownBlock≠some k:=by
 rcases h with e|⟨g,e,hg⟩
 ·rw[e];exact hv
 ·rw[e];intro e';injection e' with e';omega
structure lG (w:World) (L:Lay) (p:Pr) (aB aD:Option Addr) (aA ay:Nat) (i:Int) (A:List Fr) (f g:List UInt8->Bool) (n m:Nat) (v:Value):Prop where
 blk:w.heap[L.bc]? =some (.cells (ckV p aB aD aA ay i v L.bs L.bt) 110 (0,0))
 row:w.ownsRow L.B1 90 11 v A.length (zy A)
 ms:iN w L.bs n f
 mt:iN w L.bt m g
 sz:L.B1<=w.heap.size
 dat:Qo w L.B0 p aB aD
 oJ:WC w L.B0 A
section
variable {w:World} {L:Lay} {p:Pr} {aB aD:Option Addr} {aA ay:Nat} {i:Int} {A:List Fr} {f g:List UInt8->Bool} {n m:Nat} {v:Value}
theorem lG.b0 (h:lG w L p aB aD aA ay i A f g n m v):L.B0<=w.heap.size:=by have:=h.sz;have:=L.c0;have:=L.c1;omega
theorem lG.form (h:lG w L p aB aD aA ay i A f g n m v): ∃bK aU,v= .slice bK A.length aU∧(bS A).At w w.heap.size bK 0:=by
 rcases h.row.2 with⟨rfl,hn⟩|⟨g',cap,cur,rfl,hb,hg,h1,h2,h3,h4⟩
 ·have:A=[]:=List.eq_nil_of_length_eq_zero hn;subst this;exact⟨none,0,rfl,trivial⟩
 ·refine⟨_,_,rfl,Sk h.b0 (Array.getElem?_eq_some_iff.1 hg).1 A 0 (λj u hu=> ?_) h.oJ⟩;rw[Nat.zero_mul,Nat.zero_add,cell_of_row w g' j cur _ (0,0) hg];rw[<- h4,List.getElem?_take]at hu;split at hu
  ·simpa using hu
  ·cases hu
theorem dO {w:World} {b j:Nat} {cs:Array Value} {t:TypeId} {fr:Nat×Nat} {u:Value} (h:w.heap[b]? =some (.cells cs t fr)) (hu:cs[j]? =some u):b<w.heap.size∧w.cell? ⟨b,j,none⟩=some u:=
 ⟨(Array.getElem?_eq_some_iff.1 h).1,by rw[cell_of_row w b j cs t fr h];exact hu⟩
theorem lG.holds {bK:Option Addr} {aU:Nat} (h:lG w L p aB aD aA ay i A f g n m (.slice bK A.length aU)):Holds w (sK L.bc p aB aD aA ay i bK (bS A).len aU L.bs L.bt):=by
 have hb:=h.blk;rw[qA];exact⟨dO hb (j:=0) rfl,dO hb (j:=1) rfl,dO hb (j:=2) rfl,dO hb (j:=3) rfl,dO hb (j:=4) rfl,dO hb (j:=5) rfl,trivial⟩
theorem lG.below {w':World} (h:lG w L p aB aD aA ay i A f g n m v) (hb:Below w.heap.size w w'):lG w' L p aB aD aA ay i A f g n m v where
 blk:=(hb.block _ (Array.getElem?_eq_some_iff.1 h.blk).1).trans h.blk
 row:=h.row.kept (row:=none) ⟨hb.os,hb.tape,hb.output,hb.size,λk hk _=>hb.block k hk⟩ (by cases hv:v.ownBlock <;> simp)
 ms:=h.ms.next hb
 mt:=h.mt.next hb
 sz:=Nat.le_trans h.sz hb.size
 dat:=h.dat.below (hb.mono h.b0)
 oJ:=λx hx=>(h.oJ x hx).below (hb.mono h.b0)
theorem lG.own_ne (h:lG w L p aB aD aA ay i A f g n m v) {b:Nat} (hb:b<L.B1):v.ownBlock=none∨v.ownBlock≠some b:=by
 cases hv:v.ownBlock with
 |none=>exact .inl rfl
 |some k=>refine .inr (λe=> ?_);injection e with e;subst e;have:=(h.row.lt _ hv).1;omega
theorem lG.aW9 {w':World} {f':List UInt8->Bool} {n':Nat} (h:lG w L p aB aD aA ay i A f g n m v) (hg:w.grownBy w' (some L.bs)) (hm:iN w' L.bs n' f'):lG w' L p aB aD aA ay i A f' g n' m v:=by
 have hbel:=bL hg L.s0 h.b0;exact {blk:=(hg.block _ (Array.getElem?_eq_some_iff.1 h.blk).1 (by simp;exact L.cs)).trans h.blk,row:=h.row.kept hg (h.own_ne L.s1),ms:=hm,mt:=h.mt.same (hg.block _ h.mt.lt (by simp;exact L.st.symm)),sz:=Nat.le_trans h.sz hg.size,dat:=h.dat.below hbel,oJ:=λx hx=>(h.oJ x hx).below hbel}
theorem lG.aX0 {w':World} {g':List UInt8->Bool} {m':Nat} (h:lG w L p aB aD aA ay i A f g n m v) (hg:w.grownBy w' (some L.bt)) (hm:iN w' L.bt m' g'):lG w' L p aB aD aA ay i A f g' n m' v:=by
 have hbel:=bL hg L.t0 h.b0;exact {blk:=(hg.block _ (Array.getElem?_eq_some_iff.1 h.blk).1 (by simp;exact L.ct)).trans h.blk,row:=h.row.kept hg (h.own_ne L.t1),ms:=h.ms.same (hg.block _ h.ms.lt (by simp;exact L.st)),mt:=hm,sz:=Nat.le_trans h.sz hg.size,dat:=h.dat.below hbel,oJ:=λx hx=>(h.oJ x hx).below hbel}
end
def fS (h:cB) (f:List UInt8->Bool):List UInt8->Bool:=if h.op==12 then yA f h.nm.toList else f
def gS (h:cB) (g:List UInt8->Bool):List UInt8->Bool:=if h.op==14 then yA g h.nm.toList else g
def nS (k:Int) (h:cB) (n:Nat):Nat:=if h.op==k then n+1 else n
def xS (w:World) (L:Lay) (p:Pr) (aB aD:Option Addr) (aA ay:Nat) (i:Int) (A:List Fr) (h:cB) (f g:List UInt8->Bool) (n m:Nat) (v:Value) (r:Int) (e:Ending) (w':World):Prop:=
 e= .returned (.int .i64 r)∧Kp L (.slice none 0 0) w w'∧lG w' L p aB aD aA ay i A (fS h f) (gS h g) (nS 12 h n) (nS 14 h m) v
theorem xS.plain {w w':World} {L:Lay} {p:Pr} {aB aD:Option Addr} {aA ay:Nat} {i:Int} {A:List Fr} {h:cB} {f g:List UInt8->Bool} {n m:Nat} {v:Value} {r x:Int} {e:Ending}
 (hI:lG w L p aB aD aA ay i A f g n m v) (h12:(h.op==12)=false) (um:(h.op==14)=false) (hr:r=x) (hp:e= .returned (.int .i64 x)∧Below w.heap.size w w'):xS w L p aB aD aA ay i A h f g n m v r e w':=by
 subst hr;refine⟨hp.1,Kp.of_below hp.2,?_⟩;unfold fS gS nS;rw[h12,um];exact hI.below hp.2
theorem lG.grow {w w':World} {L:Lay} {p:Pr} {aB aD:Option Addr} {aA ay:Nat} {i:Int} {A:List Fr} {f g:List UInt8->Bool} {n m:Nat} {v:Value} {b:Nat}
 (h:lG w L p aB aD aA ay i A f g n m v) (hb:L.B0<=b) (hb1:b<L.B1) (hg:w.grownBy w' (some b)):p.At w' aB aD∧dD w'∧∀bK aU,v= .slice bK A.length aU->(bS A).At w' w'.heap.size bK 0:=by
 have hbel:=bL hg hb h.b0;have hd:=h.dat.below hbel;have hB:L.B0<=w'.heap.size:=Nat.le_trans h.b0 hg.size;refine⟨hd.use hB,hd.2.2.2.2,λbK aU hv=> ?_⟩;rcases(h.row.kept hg (h.own_ne hb1)).2 with⟨e,hn⟩|⟨g',cap,cur,e,hbb,hgg,h1,h2,h3,h4⟩
 ·have:A=[]:=List.eq_nil_of_length_eq_zero hn;subst this;exact trivial
 ·rw[hv]at e;injection e with e1 e2 e3;subst e1;refine Sk hB (Array.getElem?_eq_some_iff.1 hgg).1 A 0 (λj u hu=> ?_) (λx hx=>(h.oJ x hx).below hbel);rw[Nat.zero_mul,Nat.zero_add,cell_of_row w' g' j cur _ (0,0) hgg];rw[<- h4,List.getElem?_take]at hu;split at hu
  ·simpa using hu
  ·cases hu
theorem RY (w:World) (L:Lay) (p:Pr) (aB aD:Option Addr) (aA ay:Nat) (j:Nat) (A:List Fr) (f g:List UInt8->Bool) (n m:Nat) (v:Value) (t t0:Th) (r r0:List Th) (hd:p.ts.drop j=t::r) (hts:p.ts=t0::r0) (hj:fD (j:Int)) (hA:A.length<=maxLen) (hn:n<maxLen) (hm:m<maxLen)
 (hI:lG w L p aB aD aA ay (j:Int) A f g n m v) (h:cB) (b e:aH) (s:Sl) (hin:rT w L.B0 h b e s):
 Calls Tryz.prog 81 #[.pointer (some ⟨L.bc,0,none⟩),jD h b e s] w (xS w L p aB aD aA ay (j:Int) A h f g n m v (iP p j t.nm t0.nm (bS A) f g h)):=by
 obtain⟨bK,aU,rfl,hat⟩:=hI.form;have hp:=hI.dat.use hI.b0;have hin':=hin.use hI.b0;have dG:=hI.dat.2.2.2.2;have hal:(bS A).len<=maxLen:=by rw[qA];exact hA
 have hh:=hI.holds;by_cases h0:h.op<1∨15<h.op
 ·refine(pW p w aB aD aA ay j bK aU L.bs L.bt L.bc h b e (bS A) s hj hp hin' dG hal hat hh (.inl ⟨h0,rfl⟩)).mono (λe' w' hr=>xS.plain hI ?_ ?_ ?_ hr)
  ·rw[beq_eq_false_iff_ne];omega
  ·rw[beq_eq_false_iff_ne];omega
  ·have hb: ∀k:Int,1<=k->k<=15->(h.op==k)=false:=λk h1 h2=>by rw[beq_eq_false_iff_ne];omega
   unfold iP;simp[hb]
 ·have hc:h.op=1∨(h.op=2∨h.op=3)∨h.op=4∨(h.op=5∨h.op=6)∨h.op=7∨h.op=8∨(h.op=9∨h.op=10∨h.op=11)∨h.op=12∨h.op=13∨h.op=14∨h.op=15:=by omega
  rcases hc with hc|hc|hc|hc|hc|hc|hc|hc|hc|hc|hc
  ·exact(pW p w aB aD aA ay j bK aU L.bs L.bt L.bc h b e (bS A) s hj hp hin' dG hal hat hh (.inr (.inl ⟨hc,rfl⟩))).mono (λe' w' hr=>xS.plain hI (by rw[hc];rfl) (by rw[hc];rfl) (by unfold iP;simp[hc]) hr)
  ·exact(pW p w aB aD aA ay j bK aU L.bs L.bt L.bc h b e (bS A) s hj hp hin' dG hal hat hh (.inr (.inr (.inl ⟨hc,rfl⟩)))).mono (λe' w' hr=>xS.plain hI (by rcases hc with hc|hc <;> (rw[hc];rfl)) (by rcases hc with hc|hc <;> (rw[hc];rfl)) (by unfold iP;rcases hc with hc|hc <;> simp[hc]) hr)
  ·exact(pW p w aB aD aA ay j bK aU L.bs L.bt L.bc h b e (bS A) s hj hp hin' dG hal hat hh (.inr (.inr (.inr (.inl ⟨hc,rfl⟩))))).mono (λe' w' hr=>xS.plain hI (by rw[hc];rfl) (by rw[hc];rfl) (by unfold iP;simp[hc]) hr)
  ·exact(pW p w aB aD aA ay j bK aU L.bs L.bt L.bc h b e (bS A) s hj hp hin' dG hal hat hh (.inr (.inr (.inr (.inr (.inl ⟨hc,rfl⟩)))))).mono (λe' w' hr=>xS.plain hI (by rcases hc with hc|hc <;> (rw[hc];rfl)) (by rcases hc with hc|hc <;> (rw[hc];rfl)) (by unfold iP;rcases hc with hc|hc <;> simp[hc]) hr)
  ·exact(pW p w aB aD aA ay j bK aU L.bs L.bt L.bc h b e (bS A) s hj hp hin' dG hal hat hh (.inr (.inr (.inr (.inr (.inr (.inl ⟨hc,rfl⟩))))))).mono (λe' w' hr=>xS.plain hI (by rw[hc];rfl) (by rw[hc];rfl) (by unfold iP;simp[hc]) hr)
  ·exact(pW p w aB aD aA ay j bK aU L.bs L.bt L.bc h b e (bS A) s hj hp hin' dG hal hat hh (.inr (.inr (.inr (.inr (.inr (.inr (.inl ⟨hc,rfl⟩)))))))).mono (λe' w' hr=>xS.plain hI (by rw[hc];rfl) (by rw[hc];rfl) (by unfold iP;simp[hc]) hr)
  ·exact(pW p w aB aD aA ay j bK aU L.bs L.bt L.bc h b e (bS A) s hj hp hin' dG hal hat hh (.inr (.inr (.inr (.inr (.inr (.inr (.inr (.inl ⟨hc,rfl⟩))))))))).mono (λe' w' hr=>xS.plain hI (by rcases hc with hc|hc|hc <;> (rw[hc];rfl)) (by rcases hc with hc|hc|hc <;> (rw[hc];rfl)) (by unfold iP;rcases hc with hc|hc|hc <;> simp[hc]) hr)
  ·have hcl:=λw' (hg:w.grownBy w' (some L.bs))=>hI.grow L.s0 L.s1 hg;refine(Xv p w aB aD aA ay bK aU L.bs L.bt L.bc j t t0 r r0 hd hts h b e (bS A) s hj (λw' hg=>(hcl w' hg).1) hin.1 (λw' hg=>(hin.2.2.1.below (bL hg L.s0 hI.b0)).mono (Nat.le_trans hI.b0 hg.size)) (λw' hg=>(hcl w' hg).2.1) hal (λw' hg=>(hcl w' hg).2.2 _ _ rfl) hh L.cs n f hn hI.ms hc).mono ?_;rintro e' w' ⟨h1,h2,h3⟩;refine⟨by rw[h1];unfold iP;simp[hc],⟨h3.os,h3.tape,h3.output,h3.size,λk hk _ hs _ _=>h3.block k hk (by simp;exact hs)⟩,?_⟩;unfold fS gS nS;rw[hc];exact hI.aW9 h3 h2
  ·exact(pW p w aB aD aA ay j bK aU L.bs L.bt L.bc h b e (bS A) s hj hp hin' dG hal hat hh (.inr (.inr (.inr (.inr (.inr (.inr (.inr (.inr (.inr ⟨hc,j,t,r,rfl,hd,rfl⟩)))))))))).mono (λe' w' hr=>xS.plain hI (by rw[hc];rfl) (by rw[hc];rfl) (by unfold iP;simp[hc]) hr)
  ·have hcl:=λw' (hg:w.grownBy w' (some L.bt))=>hI.grow L.t0 L.t1 hg;refine(Xw p w aB aD aA ay j bK aU L.bs L.bt L.bc h b e (bS A) s hj (λw' hg=>(hcl w' hg).1) hin.1 (λw' hg=>(hin.2.2.1.below (bL hg L.t0 hI.b0)).mono (Nat.le_trans hI.b0 hg.size)) (λw' hg=>(hcl w' hg).2.1) hal (λw' hg=>(hcl w' hg).2.2 _ _ rfl) hh L.ct m g hm hI.mt hc).mono ?_;rintro e' w' ⟨h1,h2,h3⟩;refine⟨by rw[h1];unfold iP;simp[hc],⟨h3.os,h3.tape,h3.output,h3.size,λk hk _ _ ht _=>h3.block k hk (by simp;exact ht)⟩,?_⟩;unfold fS gS nS;rw[hc];exact hI.aX0 h3 h2
  ·exact(pW p w aB aD aA ay j bK aU L.bs L.bt L.bc h b e (bS A) s hj hp hin' dG hal hat hh (.inr (.inr (.inr (.inr (.inr (.inr (.inr (.inr (.inl ⟨hc,rfl⟩)))))))))).mono (λe' w' hr=>xS.plain hI (by rw[hc];rfl) (by rw[hc];rfl) (by unfold iP;simp[hc]) hr)
namespace Md
def aH.app:aH->aH->aH
 | .nil,s=>s
 | .cons h b e r,s=> .cons h b e (r.app s)
theorem yt: ∀(A:List Fr) (x:Fr),bS (A++[x])=(bS A).app (.cons x.h x.b x.e .nil)
 | [],_=>rfl
 |y::r,x=>by simp only[List.cons_append,bS,aH.app,yt r x]
structure KC where
 err:Int
 line:Int
 f:List (List UInt8)
 g:List (List UInt8)
def mem (l:List (List UInt8)):List UInt8->Bool:=λx=>l.contains x
def fL (k:Int) (h:cB) (f:List (List UInt8)):List (List UInt8):=if h.op==k then h.nm.toList::f else f
def fG (p:Pr) (j:Nat) (tn gT:ByteArray):aH->aH->List (List UInt8)->List (List UInt8)->KC
 | .nil,_,f,g=>⟨0,0,f,g⟩
 | .cons h b e r,ar,f,g=>
   if decide (6<ar.len+1)then⟨2,h.line,f,g⟩else
   if iP p j tn gT ar (mem f) (mem g) h != 0 then⟨iP p j tn gT ar (mem f) (mem g) h,h.line,f,g⟩else
   if(fG p j tn gT b (ar.app (.cons h b e .nil)) (fL 12 h f) (fL 14 h g)).err != 0 then fG p j tn gT b (ar.app (.cons h b e .nil)) (fL 12 h f) (fL 14 h g)else
   if(fG p j tn gT e (ar.app (.cons h b e .nil)) (fG p j tn gT b (ar.app (.cons h b e .nil)) (fL 12 h f) (fL 14 h g)).f (fG p j tn gT b (ar.app (.cons h b e .nil)) (fL 12 h f) (fL 14 h g)).g).err != 0 then
    fG p j tn gT e (ar.app (.cons h b e .nil)) (fG p j tn gT b (ar.app (.cons h b e .nil)) (fL 12 h f) (fL 14 h g)).f (fG p j tn gT b (ar.app (.cons h b e .nil)) (fL 12 h f) (fL 14 h g)).g else
   fG p j tn gT r ar (fG p j tn gT e (ar.app (.cons h b e .nil)) (fG p j tn gT b (ar.app (.cons h b e .nil)) (fL 12 h f) (fL 14 h g)).f (fG p j tn gT b (ar.app (.cons h b e .nil)) (fL 12 h f) (fL 14 h g)).g).f
    (fG p j tn gT e (ar.app (.cons h b e .nil)) (fG p j tn gT b (ar.app (.cons h b e .nil)) (fL 12 h f) (fL 14 h g)).f (fG p j tn gT b (ar.app (.cons h b e .nil)) (fL 12 h f) (fL 14 h g)).g).g
def mg (ns:List (List UInt8)) (f:List (List UInt8)):Prop:=f.Nodup∧∀x∈f,x∈ns
theorem mg.le {ns f:List (List UInt8)} (h:mg ns f):f.length<=ns.length:=h.1.length_le_of_subset (λ_ hx=>h.2 _ hx)
def jK (p:Pr):List (List UInt8):=p.ts.map λt=>t.nm.toList
def jU (p:Pr):List (List UInt8):=p.ds.map λd=>d.nm.toList
theorem lq: ∀ {l:List Int},eF l=0->∀x∈l,x=0
 | [],_,_,h=>by simp at h
 |a::r,h,x,hx=>by
  unfold eF at h;by_cases ha:(a != 0)=true
  ·rw[if_pos ha]at h;subst h;simp at ha
  ·rw[if_neg ha]at h;have ha':a=0:=by simpa using ha
   rcases List.mem_cons.1 hx with rfl|hx
   ·exact ha'
   ·exact lq h x hx
theorem qR {m k:Int} (h:dh m [k]=0):m=k:=by
 unfold dh at h;by_cases h0:(m==0)=true
 ·rw[if_pos h0]at h;simp at h
 ·rw[if_neg h0]at h;by_cases h1:([k].any λx=>m==x)=true
  ·simpa using h1
  ·rw[if_neg h1]at h;simp at h
theorem JF {b:Bool} (h:jR b=0):b=false:=by cases b <;> simp[jR]at h⊢
theorem GV {p:Pr} {j:Int} {nm:ByteArray} (h:mean p j nm=8):nm.toList∈jK p:=by
 unfold mean at h;split at h
 ·cases h
 ·cases hd:oN p.ds nm with
  |some m=>
   rw[hd]at h;unfold oN at hd;obtain⟨d,-,hm⟩:=Option.map_eq_some_iff.1 hd;exfalso
   have:eO d≠8:=by unfold eO;repeat' split
                   all_goals decide
   rw[hm]at this;exact this h
  |none=>
   rw[hd]at h;simp only[Option.getD_none]at h;unfold qV at h;split at h
   ·rename_i ha;obtain⟨t,ht,he⟩:=List.any_eq_true.1 ha;unfold jK;exact List.mem_map.2 ⟨t,ht,by simpa using he⟩
   ·cases h
theorem PL {p:Pr} {j:Int} {nm:ByteArray} (h:mean p j nm=7):nm.toList∈jU p:=by
 unfold mean at h;split at h
 ·cases h
 ·cases hd:oN p.ds nm with
  |some m=>unfold oN at hd;obtain⟨d,hf,-⟩:=Option.map_eq_some_iff.1 hd;unfold jU;exact List.mem_map.2 ⟨d,List.mem_of_find?_eq_some hf,by simpa using List.find?_some hf⟩
  |none=>rw[hd]at h;simp only[Option.getD_none]at h;unfold qV at h;split at h <;> cases h
theorem Zz {p:Pr} {j:Nat} {tn gT:ByteArray} {ar:aH} {f g:List (List UInt8)} {h:cB} (hf:mg (jK p) f) (h0:iP p j tn gT ar (mem f) (mem g) h=0):mg (jK p) (fL 12 h f):=by
 unfold fL;by_cases h12:(h.op==12)=true
 ·rw[if_pos h12];have e:h.op=12:=by simpa using h12
  have hs:iP p j tn gT ar (mem f) (mem g) h=eF [dh (mean p j h.nm) [8],nest (dW ar [7,8,3]||(h.nm.toList==tn.toList||h.nm.toList==gT.toList)),(jR (mem f h.nm.toList))]:=by unfold iP;simp[e]
  rw[hs]at h0;have h1:=lq h0 _ (by simp:dh (mean p j h.nm) [8]∈_);have h2:=lq h0 _ (by simp:jR (mem f h.nm.toList)∈_);refine⟨List.nodup_cons.2 ⟨?_,hf.1⟩,λx hx=> ?_⟩
  ·have:=JF h2;unfold mem at this;simpa using this
  ·rcases List.mem_cons.1 hx with rfl|hx
   ·exact GV (qR h1)
   ·exact hf.2 x hx
 ·rw[if_neg h12];exact hf
theorem ZA {p:Pr} {j:Nat} {tn gT:ByteArray} {ar:aH} {f g:List (List UInt8)} {h:cB} (hf:mg (jU p) g) (h0:iP p j tn gT ar (mem f) (mem g) h=0):mg (jU p) (fL 14 h g):=by
 unfold fL;by_cases h12:(h.op==14)=true
 ·rw[if_pos h12];have e:h.op=14:=by simpa using h12
  have hs:iP p j tn gT ar (mem f) (mem g) h=eF [dh (mean p j h.nm) [7],nest (dW ar [7,3]),(jR (mem g h.nm.toList)),kg p j h.cu h.xn h.bZ h.aK]:=by unfold iP;simp[e]
  rw[hs]at h0;have h1:=lq h0 _ (by simp:dh (mean p j h.nm) [7]∈_);have h2:=lq h0 _ (by simp:jR (mem g h.nm.toList)∈_);refine⟨List.nodup_cons.2 ⟨?_,hf.1⟩,λx hx=> ?_⟩
  ·have:=JF h2;unfold mem at this;simpa using this
  ·rcases List.mem_cons.1 hx with rfl|hx
   ·exact PL (qR h1)
   ·exact hf.2 x hx
 ·rw[if_neg h12];exact hf
end Md
theorem mem_cons (x:List UInt8) (f:List (List UInt8)):yA (mem f) x=mem (x::f):=by
 funext y;unfold yA mem;by_cases h:y=x
 ·subst h;simp
 ·rw[if_neg h];simp[h]
theorem aq7 (h:cB) (f:List (List UInt8)):fS h (mem f)=mem (fL 12 h f):=by
 unfold fS fL;cases h.op==12 <;> simp[mem_cons]
theorem ar2 (h:cB) (f:List (List UInt8)):gS h (mem f)=mem (fL 14 h f):=by
 unfold gS fL;cases h.op==14 <;> simp[mem_cons]
theorem Vq (k:Int) (h:cB) (f:List (List UInt8)):nS k h f.length=(fL k h f).length:=by
 unfold nS fL;cases h.op==k <;> simp
theorem OP (w:World) {a a':Addr} (v v':Value) (h:a.block≠a'.block):(w.setCell a v).setCell a' v'=(w.setCell a' v').setCell a v:=by
 unfold World.setCell;congr 1;refine Array.ext_getElem? (λk=> ?_);simp only[Array.getElem?_modify];by_cases h1:a'.block=k
 ·by_cases h2:a.block=k
  ·exact(h (h2.trans h1.symm)).elim
  ·simp[h1,h2]
 ·by_cases h2:a.block=k <;> simp[h1,h2]
theorem E8 {b:Nat} {a':Addr} (v':Value) (h:b≠a'.block): ∀(vs:List Value) (o:Nat) (w:World),(w.setCell a' v').setCells b o vs=(w.setCells b o vs).setCell a' v'
 | [],_,_=>rfl
 |v::vs,o,w=>by simp only[World.setCells];rw[<- OP w (a:=⟨b,o,none⟩) (a':=a') v v' h];exact E8 v' h vs (o+1) _
def PC (w4:World) (g o:Nat) (vs:List Value) (a:Addr) (v:Value):List Bool->World->Prop
 | [x,y],w'=>w'=(if y then(if x then w4.setCells g o vs else w4).setCell a v else(if x then w4.setCells g o vs else w4))
 |_,_=>False
theorem PC.bits {w4:World} {g o:Nat} {vs:List Value} {a:Addr} {v:Value} : ∀ {c:List Bool} {w':World},PC w4 g o vs a v c w'->∃x y,c=[x,y]
 | [x,y],_,_=>⟨x,y,rfl⟩
 | [],_,h=>h.elim
 | [_],_,h=>h.elim
 |_::_::_::_,_,h=>h.elim
theorem PC.skip {w4:World} {g o:Nat} {vs:List Value} {a:Addr} {v:Value} {a1 a2 i:Nat} {c:List Bool} {w':World} (h1:(a1==i)=false) (h2:(a2==i)=false) (h:PC w4 g o vs a v c w'):PC w4 g o vs a v (gJ [a1,a2] c i) w':=by
 obtain⟨x,y,rfl⟩:=h.bits;simp only[gJ,h1,h2,Bool.or_false];exact h
theorem PC.elt {w4:World} {g o:Nat} {vs:List Value} {a:Addr} {v:Value} {a1 a2 i:Nat} {y:Bool} {w':World} (hg:g≠a.block) (h1:(a1==i)=true) (h2:(a2==i)=false) (h:PC w4 g o vs a v [false,y] w'):PC w4 g o vs a v (gJ [a1,a2] [false,y] i) (w'.setCells g o vs):=by
 simp only[gJ,h1,h2,Bool.or_false,Bool.or_true];cases y
 ·have h:w'=w4:=h;subst h;rfl
 ·have h:w'=w4.setCell a v:=h;subst h;exact E8 v hg vs o w4
theorem PC.fld {w4:World} {g o:Nat} {vs:List Value} {a:Addr} {v:Value} {a1 a2 i:Nat} {x:Bool} {w':World} (h1:(a1==i)=false) (h2:(a2==i)=true) (h:PC w4 g o vs a v [x,false] w'):PC w4 g o vs a v (gJ [a1,a2] [x,false] i) (w'.setCell a v):=by
 simp only[gJ,h1,h2,Bool.or_false,Bool.or_true];cases x
 ·have h:w'=w4:=h;subst h;rfl
 ·have h:w'=w4.setCells g o vs:=h;subst h;rfl
theorem PC.QB {w4:World} {g o:Nat} {vs:List Value} {a:Addr} {v:Value} {y:Bool} {w':World} (hg:g≠a.block) (h:PC w4 g o vs a v [false,y] w'):w'.heap[g]? =w4.heap[g]?:=by
 cases y
 ·have h:w'=w4:=h;rw[h]
 ·have h:w'=w4.setCell a v:=h;rw[h];exact bY w4 a v rfl (λe=>hg e.symm)
theorem PC.QF {w4:World} {g o:Nat} {vs:List Value} {a:Addr} {v:Value} {x:Bool} {w':World} (hg:g≠a.block) (h:PC w4 g o vs a v [x,false] w') (hl:a.block<w4.heap.size):w'.heap[a.block]? =w4.heap[a.block]?:=by
 cases x
 ·have h:w'=w4:=h;rw[h]
 ·have h:w'=w4.setCells g o vs:=h;rw[h];exact(bU g vs o w4).block _ hl (by simp;exact λe=>hg e.symm)
section
variable {w:World} {L:Lay} {p:Pr} {aB aD:Option Addr} {aA ay:Nat} {i:Int} {A:List Fr} {f g:List UInt8->Bool} {n m:Nat} {v:Value}
theorem lG.push {wz w4:World} {g' cap':Nat} {zs:List Value} (h:lG w L p aB aD aA ay i A f g n m v) (x:Fr) (hx:rT w L.B0 x.h x.b x.e x.s) (hb:Below w.heap.size w wz) (hown:w4.ownsRow L.B1 90 11 (.slice (some ⟨g',0,none⟩) (A.length+1) cap') (A.length+1) (zy A++zs)) (hgr:wz.grownBy w4 v.ownBlock) (hat:v.ownBlock=some g'∨g'=wz.heap.size):
 lG ((w4.setCells g' (A.length*11) (nI x.h x.b x.e x.s)).setCell ⟨L.bc,3,none⟩ (.slice (some ⟨g',0,none⟩) (A.length+1) cap')) L p aB aD aA ay i (A++[x]) f g n m (.slice (some ⟨g',0,none⟩) (A.length+1) cap')∧
 Kp L v w ((w4.setCells g' (A.length*11) (nI x.h x.b x.e x.s)).setCell ⟨L.bc,3,none⟩ (.slice (some ⟨g',0,none⟩) (A.length+1) cap'))∧yV w v (.slice (some ⟨g',0,none⟩) (A.length+1) cap'):=by
 have hg1:=(hown.lt g' rfl).1;have hg2:=(hown.lt g' rfl).2;have hc1:=L.c1;have hs1:=L.s1;have ht1:=L.t1;have hput:=OH (vs:=nI x.h x.b x.e x.s) hown (CB A) rfl;generalize hw5:w4.setCells g' (A.length*11) (nI x.h x.b x.e x.s)=w5 at *;have hgw:w4.grownBy w5 (some g'):=by rw[<- hw5];exact bU _ _ _ _
 have hgz:=bQ w5 ⟨L.bc,3,none⟩ (.slice (some ⟨g',0,none⟩) (A.length+1) cap');have hsz:w.heap.size<=w4.heap.size:=Nat.le_trans hb.size hgr.size;have hlow: ∀k,k<w.heap.size->v.ownBlock≠some k->w5.heap[k]? =w.heap[k]?:=λk hk hv=>by
  have hkg:k≠g':=by
   rcases hat with e|e
   ·intro e';exact hv (by rw[e,e'])
   ·have:=hb.size;omega
  rw[hgw.block k (by omega) (by simp;exact hkg),hgr.block k (Nat.lt_of_lt_of_le hk hb.size) (λe=>hv e.symm),hb.block k hk]
 have hlow': ∀k,k<L.B1->w5.heap[k]? =w.heap[k]?:=λk hk=>hlow k (Nat.lt_of_lt_of_le hk h.sz) (λe=>by have:=(h.row.lt k e).1;omega);have hkp:Kp L v w (w5.setCell ⟨L.bc,3,none⟩ (.slice (some ⟨g',0,none⟩) (A.length+1) cap')):=
  ⟨hgz.os.trans (hgw.os.trans (hgr.os.trans hb.os)),hgz.tape.trans (hgw.tape.trans (hgr.tape.trans hb.tape)),hgz.output.trans (hgw.output.trans (hgr.output.trans hb.output)),Nat.le_trans hsz (Nat.le_trans hgw.size hgz.size),λk hk hc _ _ hv=>
   (hgz.block k (Nat.lt_of_lt_of_le hk (Nat.le_trans hsz hgw.size)) (by simp;exact hc)).trans (hlow k hk hv)⟩
 have hbel:=hkp.below h.b0 (λk e=>(h.row.lt k e).1);have Dm: ∀k,k<L.B1->k≠L.bc->(w5.setCell ⟨L.bc,3,none⟩ (.slice (some ⟨g',0,none⟩) (A.length+1) cap')).heap[k]? =w.heap[k]?:=λk hk hc=>by rw[bY w5 ⟨L.bc,3,none⟩ _ rfl (λe=>hc e.symm)];exact hlow' k hk
 refine⟨?_,hkp,?_⟩
 ·refine {blk:= ?_,row:= ?_,ms:=h.ms.same (Dm _ hs1 (λe=>L.cs e.symm)),mt:=h.mt.same (Dm _ ht1 (λe=>L.ct e.symm)),sz:= ?_,dat:=h.dat.below hbel,oJ:= ?_}
  ·exact eZ ((hlow' _ hc1).trans h.blk) _
  ·rw[List.length_append,Aw];refine hput.kept hgz (.inr ?_);simp[Value.ownBlock];omega
  ·exact Nat.le_trans h.sz hkp.size
  ·intro y hy;rcases List.mem_append.1 hy with hy|hy
   ·exact(h.oJ y hy).below hbel
   ·obtain rfl:=List.mem_singleton.1 hy;exact hx.below hbel
 ·rcases hat with e|e
  ·exact .inl (by rw[e];rfl)
  ·exact .inr ⟨g',rfl,by rw[e];exact hb.size⟩
theorem lG.pop {wz:World} {g' cap':Nat} (x:Fr) (h:lG w L p aB aD aA ay i (A++[x]) f g n m (.slice (some ⟨g',0,none⟩) (A.length+1) cap')) (hb:Below w.heap.size w wz):
 lG (wz.setCell ⟨L.bc,3,none⟩ (.slice (some ⟨g',0,none⟩) A.length cap')) L p aB aD aA ay i A f g n m (.slice (some ⟨g',0,none⟩) A.length cap')∧
 Kp L (.slice (some ⟨g',0,none⟩) (A.length+1) cap') w (wz.setCell ⟨L.bc,3,none⟩ (.slice (some ⟨g',0,none⟩) A.length cap')):=by
 have hI:=h.below hb;have hc1:=L.c1;have hgz:=bQ wz ⟨L.bc,3,none⟩ (.slice (some ⟨g',0,none⟩) A.length cap');have hkp:Kp L (.slice (some ⟨g',0,none⟩) (A.length+1) cap') w (wz.setCell ⟨L.bc,3,none⟩ (.slice (some ⟨g',0,none⟩) A.length cap')):=
  ⟨hgz.os.trans hb.os,hgz.tape.trans hb.tape,hgz.output.trans hb.output,Nat.le_trans hb.size hgz.size,λk hk hc _ _ _=>(hgz.block k (Nat.lt_of_lt_of_le hk hb.size) (by simp;exact hc)).trans (hb.block k hk)⟩
 have hbel:Below L.B0 wz (wz.setCell ⟨L.bc,3,none⟩ (.slice (some ⟨g',0,none⟩) A.length cap')):=bL hgz L.c0 hI.b0;have hrow:=hI.row;rw[List.length_append,Aw]at hrow;have hg1:=(hrow.lt g' rfl).1;refine⟨{blk:=eZ hI.blk _,row:=(LJ hrow (CB A)).kept hgz (.inr (by simp[Value.ownBlock];omega)),ms:=hI.ms.same (bY wz _ _ rfl L.cs),mt:=hI.mt.same (bY wz _ _ rfl L.ct),sz:=Nat.le_trans hI.sz hgz.size,dat:=hI.dat.below hbel,oJ:=λy hy=>(hI.oJ y (by simp[hy])).below hbel},hkp⟩
end
end Go.Proofs.YtkmllehjemjgpaaGreatDoor
