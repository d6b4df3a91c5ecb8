/-
  The checker's state as data, and the contract of its statement at every operator.
  Contract of the checker's statement at every operator, over the checker's state.
  What the checker answers to a list of statements: plain, and its parts that the walk needs.
  A statement put on the checker's row of those that are around, and taken off. No walk in sight.
-/
import Derived.Test.YtnknfoibmgphnaaDoorGMG
import Derived.Test.YtnknfoibmgphnaaDoorGMdSt2
import Derived.Test.YtnknfoibmgphnaaDoorGMI
import Derived.Test.YtnknfoibmgphnaaDoorGMB
section
namespace Go.Proofs.YtnknfoibmgphnaaDoor
open Go.RowKit
namespace Md
structure Fr where
 h:eH
 b:aR
 e:aR
 s:Sl
def bF:List Fr→aR
 | []=> .nil
 | x ::r=> .cons x.h x.b x.e (bF r)
def kS (h:eH) (b e:aR) (s:Sl):List Value:=[.int .i64 h.op,.int .i64 h.line,.string h.nm,.string h.arg,.slice s.fU h.idx.len s.eG,.int .i64 h.dU,.int .i64 h.xn,.string h.dV,.slice s.dW h.bq.len s.cB,.slice s.bg b.len s.aT,.slice s.eY e.len s.dP]
def sF:List Fr→List Value
 | []=>[]
 | x ::r=>kS x.h x.b x.e x.s++sF r
theorem vV: ∀A:List Fr,(sF A).length=A.length * 11
 | []=>rfl
 | x ::r=>by simp only [sF,List.length_append,vV r,List.length_cons]; simp [kS]; omega
theorem tY: ∀(A:List Fr) (x:Fr),sF (A++[x])=sF A++kS x.h x.b x.e x.s
 | [],x=>by simp [sF]
 | y ::r,x=>by simp [sF,tY r x]
theorem mU: ∀A:List Fr,(bF A).len=A.length
 | []=>rfl
 | x ::r=>by simp [bF,aR.len,mU r]
def nQ (w:World) (B:Nat) (h:eH) (b e:aR) (s:Sl):Prop:=ko h b e∧h.idx.At w B s.fU 0∧h.bq.At w B s.dW 0∧b.At w B s.bg 0∧e.At w B s.eY 0
theorem nQ.below {w w':World} {B:Nat} {h:eH} {b e:aR} {s:Sl} (hi:nQ w B h b e s) (hb:Below B w w'):nQ w' B h b e s:=
 ⟨hi.1,hi.2.1.below hb,hi.2.2.1.below hb,hi.2.2.2.1.below hb,hi.2.2.2.2.below hb⟩
theorem nQ.use {w:World} {B:Nat} {h:eH} {b e:aR} {s:Sl} (hi:nQ w B h b e s) (hb:B≤w.heap.size):jE w h b e s:=
 ⟨hi.1,hi.2.1.mono hb,hi.2.2.1.mono hb,hi.2.2.2.1.mono hb,hi.2.2.2.2.mono hb⟩
def Kl (w:World) (B:Nat) (A:List Fr):Prop:= ∀x ∈ A,nQ w B x.h x.b x.e x.s
theorem G8 {w:World} {B B' g:Nat} (hB:B≤B') (hg:g < B'): ∀(A:List Fr) (k:Nat),(∀j u,(sF A)[j]? =some u→w.cell? ⟨g,k * 11 + j,none⟩=some u)→Kl w B A→(bF A).At w B' (some ⟨g,0,none⟩) k
 | [],_,_,_=>trivial
 | x ::r,k,hc,hin=>by
   have hx:=hin x (by simp)
   have c: ∀j u,(kS x.h x.b x.e x.s)[j]? =some u→w.cell? ⟨g,0 + k * 11 + j,none⟩=some u:=fun j u hu=>by
    rw [Nat.zero_add]
    refine hc j u ?_
    have:j < (kS x.h x.b x.e x.s).length:=(List.getElem?_eq_some_iff.1 hu).1
    rw [sF,List.getElem?_append_left this]; exact hu
   refine ⟨⟨g,0,x.s.fU,x.s.eG,x.s.dW,x.s.cB,x.s.bg,x.s.aT,x.s.eY,x.s.dP,rfl,hg,c 0 _ rfl,c 1 _ rfl,c 2 _ rfl,c 3 _ rfl,c 4 _ rfl,c 5 _ rfl,c 6 _ rfl,c 7 _ rfl,c 8 _ rfl,c 9 _ rfl,c 10 _ rfl,hx.1,hx.2.1.mono hB,hx.2.2.1.mono hB,hx.2.2.2.1.mono hB,hx.2.2.2.2.mono hB⟩,?_⟩
   refine G8 hB hg r (k + 1) (fun j u hu=> ?_) (fun y hy=>hin y (by simp [hy]))
   have:=hc (11 + j) u (by
    rw [sF,List.getElem?_append_right (by simp [kS])]
    simpa [kS] using hu)
   rw [show (k + 1) * 11 + j=k * 11 + (11 + j) by omega]; exact this
def iI (p:Pr) (j:Nat) (tn dF:ByteArray) (ar:aR) (f g:List UInt8→Bool) (h:eH):Int:=
 if h.op == 1 then tO p j h else if h.op == 2 || h.op == 3 then iE p j h.dU h.xn h.dV h.bq else
 if h.op == 4 then dR [bC (mean p j h.nm) [4],nest (dB ar [7] || kI ar h.nm [4])] else
 if h.op == 5 || h.op == 6 then dR [bC (mean p j h.nm) [5],nest (dB ar [7] || kI ar h.nm [5,6])] else
 if h.op == 7 then nest (dB ar [7]) else if h.op == 8 then nest (dB ar [7,8]) else
 if h.op == 9 || h.op == 10 || h.op == 11 then dR [bC (mean p j h.nm) [6],nest ((dB ar [7] || !kI ar (ig p.ds h.nm) [4]) || (h.op == 9 && dB ar [8]))] else
 if h.op == 12 then dR [bC (mean p j h.nm) [8],nest (dB ar [7,8,3] || (h.nm.toList == tn.toList || h.nm.toList == dF.toList)),(iN (f h.nm.toList))] else
 if h.op == 13 then dR [bC (mean p j h.nm) [8],nest (dB ar [7,8] || h.nm.toList == tn.toList)] else
 if h.op == 14 then dR [bC (mean p j h.nm) [7],nest (dB ar [7,3]),(iN (g h.nm.toList)),iE p j h.dU h.xn h.dV h.bq] else
 if h.op == 15 then dR [bC (mean p j h.nm) [1],bC (mean p j h.arg) [7],nest (dB ar [7])] else 0
end Md
open Md
def PG (p:Pr) (aC aF:Option Addr) (aA av:Nat) (i:Int) (v:Value) (bs bt:Nat):Array Value:= #[.slice aC p.ds.length aA,.slice aF p.ts.length av,.int .i64 i,v,.map (some bs),.map (some bt)]
structure Lay where
 B0:Nat
 B1:Nat
 bc:Nat
 bs:Nat
 bt:Nat
 c0:B0≤bc
 s0:B0≤bs
 t0:B0≤bt
 c1:bc < B1
 s1:bs < B1
 t1:bt < B1
 cs:bc≠bs
 ct:bc≠bt
 st:bs≠bt
 kw:0 < B0
def Fw (w:World) (B0:Nat) (p:Pr) (aC aF:Option Addr):Prop:=p.ds.length≤maxLen∧p.ts.length≤maxLen∧iZ w B0 p.ds aC 0∧iy w B0 p.ts aF 0∧dZ w
theorem Fw.below {w w':World} {L:Lay} {p:Pr} {aC aF:Option Addr} (h:Fw w L.B0 p aC aF) (hb:Below L.B0 w w'):Fw w' L.B0 p aC aF:=
 ⟨h.1,h.2.1,h.2.2.1.below hb,h.2.2.2.1.below hb,h.2.2.2.2.below hb L.kw⟩
theorem Fw.use {w:World} {B0:Nat} {p:Pr} {aC aF:Option Addr} (h:Fw w B0 p aC aF) (hB:B0≤w.heap.size):p.At w aC aF:=⟨h.1,h.2.1,h.2.2.1.mono hB,h.2.2.2.1.mono hB⟩
structure Kp (L:Lay) (v:Value) (w w':World):Prop where
 os:w'.os=w.os
 tape:w'.tape=w.tape
 output:w'.output=w.output
 size:w.heap.size≤w'.heap.size
 block: ∀k,k < w.heap.size→k≠L.bc→k≠L.bs→k≠L.bt→v.ownBlock≠some k→w'.heap[k]? =w.heap[k]?
def rU (w:World) (v v':Value):Prop:=v'.ownBlock=v.ownBlock∨ ∃g,v'.ownBlock=some g∧w.heap.size≤g
theorem Kp.refl (L:Lay) (v:Value) (w:World):Kp L v w w:=⟨rfl,rfl,rfl,Nat.le_refl _,fun _ _ _ _ _ _=>rfl⟩
theorem Kp.of_below {L:Lay} {v:Value} {w w':World} (h:Below w.heap.size w w'):Kp L v w w':=⟨h.os,h.tape,h.output,h.size,fun k hk _ _ _ _=>h.block k hk⟩
theorem Kp.trans {L:Lay} {v v1:Value} {w w1 w2:World} (h:Kp L v w w1) (ho:rU w v v1∨v1.ownBlock=none) (k:Kp L v1 w1 w2):Kp L v w w2:=
 ⟨k.os.trans h.os,k.tape.trans h.tape,k.output.trans h.output,Nat.le_trans h.size k.size,fun j hj hc hs ht hv=>(k.block j (Nat.lt_of_lt_of_le hj h.size) hc hs ht (by
   rcases ho with (e | ⟨g,e,hg⟩) | e
   ·rw [e]; exact hv
   ·rw [e]; intro e'; injection e' with e'; omega
   ·rw [e]; simp)).trans (h.block j hj hc hs ht hv)⟩
theorem Kp.below {L:Lay} {v:Value} {w w':World} (h:Kp L v w w') (hB:L.B0≤w.heap.size) (hv: ∀k,v.ownBlock=some k→L.B1≤k):Below L.B0 w w':=
 ⟨h.os,h.tape,h.output,h.size,fun k hk=>h.block k (by omega) (by have:=L.c0; omega) (by have:=L.s0; omega) (by have:=L.t0; omega) (fun e=>by have:=hv k e; have:=L.c0; have:=L.c1; omega)⟩
theorem Kp.far {L:Lay} {v:Value} {w w':World} {k:Nat} (h:Kp L v w w') (hk:k < w.heap.size) (hB:L.B1≤k) (hv:v.ownBlock≠some k):w'.heap[k]? =w.heap[k]?:=
 h.block k hk (by have:=L.c1; omega) (by have:=L.s1; omega) (by have:=L.t1; omega) hv
theorem rU.trans {w w1:World} {v v1 v2:Value} (h:rU w v v1) (k:rU w1 v1 v2) (hs:w.heap.size≤w1.heap.size):rU w v v2:=by
 rcases k with e | ⟨g,e,hg⟩
 ·rcases h with e' | ⟨g,e',hg⟩
  ·exact .inl (e.trans e')
  ·exact .inr ⟨g,e.trans e',hg⟩
 ·exact .inr ⟨g,e,Nat.le_trans hs hg⟩
theorem rU.ne {w:World} {v v':Value} {k:Nat} (h:rU w v v') (hk:k < w.heap.size) (hv:v.ownBlock≠some k):v'.ownBlock≠some k:=by
 rcases h with e | ⟨g,e,hg⟩
 ·rw [e]; exact hv
 ·rw [e]; intro e'; injection e' with e'; omega
structure jR (w:World) (L:Lay) (p:Pr) (aC aF:Option Addr) (aA av:Nat) (i:Int) (A:List Fr) (f g:List UInt8→Bool) (n m:Nat) (v:Value):Prop where
 blk:w.heap[L.bc]? =some (.cells (PG p aC aF aA av i v L.bs L.bt) 70 (0,0))
 row:w.ownsRow L.B1 42 11 v A.length (sF A)
 ms:iL w L.bs n f
 mt:iL w L.bt m g
 sz:L.B1≤w.heap.size
 dat:Fw w L.B0 p aC aF
 lK:Kl w L.B0 A
section
variable {w:World} {L:Lay} {p:Pr} {aC aF:Option Addr} {aA av:Nat} {i:Int} {A:List Fr} {f g:List UInt8→Bool} {n m:Nat} {v:Value}
theorem jR.b0 (h:jR w L p aC aF aA av i A f g n m v):L.B0≤w.heap.size:=by have:=h.sz; have:=L.c0; have:=L.c1; omega
theorem jR.form (h:jR w L p aC aF aA av i A f g n m v): ∃aJ aI,v= .slice aJ A.length aI∧(bF A).At w w.heap.size aJ 0:=by
 rcases h.row.2 with ⟨rfl,hn⟩ | ⟨g',cap,cur,rfl,hb,hg,h1,h2,h3,h4⟩
 ·have:A=[]:=List.eq_nil_of_length_eq_zero hn
  subst this
  exact ⟨none,0,rfl,trivial⟩
 ·refine ⟨_,_,rfl,G8 h.b0 (Array.getElem?_eq_some_iff.1 hg).1 A 0 (fun j u hu=> ?_) h.lK⟩
  rw [Nat.zero_mul,Nat.zero_add,cell_of_row w g' j cur _ (0,0) hg]
  rw [← h4,List.getElem?_take] at hu
  split at hu
  ·simpa using hu
  ·cases hu
theorem dM {w:World} {b j:Nat} {cs:Array Value} {t:TypeId} {fr:Nat × Nat} {u:Value} (h:w.heap[b]? =some (.cells cs t fr)) (hu:cs[j]? =some u):b < w.heap.size∧w.cell? ⟨b,j,none⟩=some u:=
 ⟨(Array.getElem?_eq_some_iff.1 h).1,by rw [cell_of_row w b j cs t fr h]; exact hu⟩
theorem jR.holds {aJ:Option Addr} {aI:Nat} (h:jR w L p aC aF aA av i A f g n m (.slice aJ A.length aI)):Holds w (iU L.bc p aC aF aA av i aJ (bF A).len aI L.bs L.bt):=by
 have hb:=h.blk
 rw [mU]
 exact ⟨dM hb (j:=0) rfl,dM hb (j:=1) rfl,dM hb (j:=2) rfl,dM hb (j:=3) rfl,dM hb (j:=4) rfl,dM hb (j:=5) rfl,trivial⟩
theorem jR.below {w':World} (h:jR w L p aC aF aA av i A f g n m v) (hb:Below w.heap.size w w'):jR w' L p aC aF aA av i A f g n m v where
 blk:=(hb.block _ (Array.getElem?_eq_some_iff.1 h.blk).1).trans h.blk
 row:=h.row.kept (row:=none) ⟨hb.os,hb.tape,hb.output,hb.size,fun k hk _=>hb.block k hk⟩ (by cases hv:v.ownBlock <;> simp)
 ms:=h.ms.next hb
 mt:=h.mt.next hb
 sz:=Nat.le_trans h.sz hb.size
 dat:=h.dat.below (hb.mono h.b0)
 lK:=fun x hx=>(h.lK x hx).below (hb.mono h.b0)
theorem jR.own_ne (h:jR w L p aC aF aA av i A f g n m v) {b:Nat} (hb:b < L.B1):v.ownBlock=none∨v.ownBlock≠some b:=by
 cases hv:v.ownBlock with
 | none=>exact .inl rfl
 | some k=>refine .inr (fun e=> ?_); injection e with e; subst e; have:=(h.row.lt _ hv).1; omega
theorem jR.SC {w':World} {f':List UInt8→Bool} {n':Nat} (h:jR w L p aC aF aA av i A f g n m v) (hg:w.grownBy w' (some L.bs)) (hm:iL w' L.bs n' f'):jR w' L p aC aF aA av i A f' g n' m v:=by
 have hbel:=fC hg L.s0 h.b0
 exact {blk:=(hg.block _ (Array.getElem?_eq_some_iff.1 h.blk).1 (by simp; exact L.cs)).trans h.blk,row:=h.row.kept hg (h.own_ne L.s1),ms:=hm,mt:=h.mt.same (hg.block _ h.mt.lt (by simp; exact L.st.symm)),sz:=Nat.le_trans h.sz hg.size,dat:=h.dat.below hbel,lK:=fun x hx=>(h.lK x hx).below hbel}
theorem jR.SK {w':World} {g':List UInt8→Bool} {m':Nat} (h:jR w L p aC aF aA av i A f g n m v) (hg:w.grownBy w' (some L.bt)) (hm:iL w' L.bt m' g'):jR w' L p aC aF aA av i A f g' n m' v:=by
 have hbel:=fC hg L.t0 h.b0
 exact {blk:=(hg.block _ (Array.getElem?_eq_some_iff.1 h.blk).1 (by simp; exact L.ct)).trans h.blk,row:=h.row.kept hg (h.own_ne L.t1),ms:=h.ms.same (hg.block _ h.ms.lt (by simp; exact L.st)),mt:=hm,sz:=Nat.le_trans h.sz hg.size,dat:=h.dat.below hbel,lK:=fun x hx=>(h.lK x hx).below hbel}
end
end Go.Proofs.YtnknfoibmgphnaaDoor
end
section
namespace Go.Proofs.YtnknfoibmgphnaaDoor
open Go.RowKit
open Md
def fS (h:eH) (f:List UInt8→Bool):List UInt8→Bool:=if h.op == 12 then ow f h.nm.toList else f
def gS (h:eH) (g:List UInt8→Bool):List UInt8→Bool:=if h.op == 14 then ow g h.nm.toList else g
def nS (k:Int) (h:eH) (n:Nat):Nat:=if h.op == k then n + 1 else n
def qR (w:World) (L:Lay) (p:Pr) (aC aF:Option Addr) (aA av:Nat) (i:Int) (A:List Fr) (h:eH) (f g:List UInt8→Bool) (n m:Nat) (v:Value) (r:Int) (e:Ending) (w':World):Prop:=
 e= .returned (.int .i64 r)∧Kp L (.slice none 0 0) w w'∧jR w' L p aC aF aA av i A (fS h f) (gS h g) (nS 12 h n) (nS 14 h m) v
theorem qR.plain {w w':World} {L:Lay} {p:Pr} {aC aF:Option Addr} {aA av:Nat} {i:Int} {A:List Fr} {h:eH} {f g:List UInt8→Bool} {n m:Nat} {v:Value} {r x:Int} {e:Ending}
 (hI:jR w L p aC aF aA av i A f g n m v) (h12:(h.op == 12)=false) (lG:(h.op == 14)=false) (hr:r=x) (hp:e= .returned (.int .i64 x)∧Below w.heap.size w w'):qR w L p aC aF aA av i A h f g n m v r e w':=by
 subst hr
 refine ⟨hp.1,Kp.of_below hp.2,?_⟩
 unfold fS gS nS
 rw [h12,lG]
 exact hI.below hp.2
theorem jR.grow {w w':World} {L:Lay} {p:Pr} {aC aF:Option Addr} {aA av:Nat} {i:Int} {A:List Fr} {f g:List UInt8→Bool} {n m:Nat} {v:Value} {b:Nat}
 (h:jR w L p aC aF aA av i A f g n m v) (hb:L.B0≤b) (hb1:b < L.B1) (hg:w.grownBy w' (some b)):p.At w' aC aF∧dZ w'∧ ∀aJ aI,v= .slice aJ A.length aI→(bF A).At w' w'.heap.size aJ 0:=by
 have hbel:=fC hg hb h.b0
 have hd:=h.dat.below hbel
 have hB:L.B0≤w'.heap.size:=Nat.le_trans h.b0 hg.size
 refine ⟨hd.use hB,hd.2.2.2.2,fun aJ aI hv=> ?_⟩
 rcases (h.row.kept hg (h.own_ne hb1)).2 with ⟨e,hn⟩ | ⟨g',cap,cur,e,hbb,hgg,h1,h2,h3,h4⟩
 ·have:A=[]:=List.eq_nil_of_length_eq_zero hn
  subst this; exact trivial
 ·rw [hv] at e
  injection e with e1 e2 e3
  subst e1
  refine G8 hB (Array.getElem?_eq_some_iff.1 hgg).1 A 0 (fun j u hu=> ?_) (fun x hx=>(h.lK x hx).below hbel)
  rw [Nat.zero_mul,Nat.zero_add,cell_of_row w' g' j cur _ (0,0) hgg]
  rw [← h4,List.getElem?_take] at hu
  split at hu
  ·simpa using hu
  ·cases hu
theorem G6 (w:World) (L:Lay) (p:Pr) (aC aF:Option Addr) (aA av:Nat) (j:Nat) (A:List Fr) (f g:List UInt8→Bool) (n m:Nat) (v:Value) (t t0:Th) (r r0:List Th) (hd:p.ts.drop j=t ::r) (hts:p.ts=t0 ::r0) (hj:aX (j:Int)) (hA:A.length≤maxLen) (hn:n < maxLen) (hm:m < maxLen)
 (hI:jR w L p aC aF aA av (j:Int) A f g n m v) (h:eH) (b e:aR) (s:Sl) (hin:nQ w L.B0 h b e s):
 Calls Tryd.prog 43 #[.pointer (some ⟨L.bc,0,none⟩),aY h b e s] w (qR w L p aC aF aA av (j:Int) A h f g n m v (iI p j t.nm t0.nm (bF A) f g h)):=by
 obtain ⟨aJ,aI,rfl,hat⟩:=hI.form
 have hp:=hI.dat.use hI.b0
 have hin':=hin.use hI.b0
 have dL:=hI.dat.2.2.2.2
 have hal:(bF A).len≤maxLen:=by rw [mU]; exact hA
 have hh:=hI.holds
 by_cases h0:h.op < 1∨15 < h.op
 ·refine (Mc p w aC aF aA av j aJ aI L.bs L.bt L.bc h b e (bF A) s hj hp hin' dL hal hat hh h0).mono (fun e' w' hr=>qR.plain hI ?_ ?_ ?_ hr)
  ·rw [beq_eq_false_iff_ne]; omega
  ·rw [beq_eq_false_iff_ne]; omega
  ·have hb: ∀k:Int,1≤k→k≤15→(h.op == k)=false:=fun k h1 h2=>by rw [beq_eq_false_iff_ne]; omega
   unfold iI
   simp [hb]
 ·have hc:h.op=1∨(h.op=2∨h.op=3)∨h.op=4∨(h.op=5∨h.op=6)∨h.op=7∨h.op=8∨(h.op=9∨h.op=10∨h.op=11)∨h.op=12∨h.op=13∨h.op=14∨h.op=15:=by omega
  rcases hc with hc | hc | hc | hc | hc | hc | hc | hc | hc | hc | hc
  ·exact (MI p w aC aF aA av j aJ aI L.bs L.bt L.bc h b e (bF A) s hj hp hin' dL hal hat hh hc).mono (fun e' w' hr=>qR.plain hI (by rw [hc]; rfl) (by rw [hc]; rfl) (by unfold iI; simp [hc]) hr)
  ·exact (JM p w aC aF aA av j aJ aI L.bs L.bt L.bc h b e (bF A) s hj hp hin' dL hal hat hh hc).mono (fun e' w' hr=>qR.plain hI (by rcases hc with hc | hc <;> (rw [hc]; rfl)) (by rcases hc with hc | hc <;> (rw [hc]; rfl)) (by unfold iI; rcases hc with hc | hc <;> simp [hc]) hr)
  ·exact (MS p w aC aF aA av j aJ aI L.bs L.bt L.bc h b e (bF A) s hj hp hin' dL hal hat hh hc).mono (fun e' w' hr=>qR.plain hI (by rw [hc]; rfl) (by rw [hc]; rfl) (by unfold iI; simp [hc]) hr)
  ·exact (Jz p w aC aF aA av j aJ aI L.bs L.bt L.bc h b e (bF A) s hj hp hin' dL hal hat hh hc).mono (fun e' w' hr=>qR.plain hI (by rcases hc with hc | hc <;> (rw [hc]; rfl)) (by rcases hc with hc | hc <;> (rw [hc]; rfl)) (by unfold iI; rcases hc with hc | hc <;> simp [hc]) hr)
  ·exact (Mw p w aC aF aA av j aJ aI L.bs L.bt L.bc h b e (bF A) s hj hp hin' dL hal hat hh hc).mono (fun e' w' hr=>qR.plain hI (by rw [hc]; rfl) (by rw [hc]; rfl) (by unfold iI; simp [hc]) hr)
  ·exact (Mr p w aC aF aA av j aJ aI L.bs L.bt L.bc h b e (bF A) s hj hp hin' dL hal hat hh hc).mono (fun e' w' hr=>qR.plain hI (by rw [hc]; rfl) (by rw [hc]; rfl) (by unfold iI; simp [hc]) hr)
  ·exact (N7 p w aC aF aA av j aJ aI L.bs L.bt L.bc h b e (bF A) s hj hp hin' dL hal hat hh hc).mono (fun e' w' hr=>qR.plain hI (by rcases hc with hc | hc | hc <;> (rw [hc]; rfl)) (by rcases hc with hc | hc | hc <;> (rw [hc]; rfl)) (by unfold iI; rcases hc with hc | hc | hc <;> simp [hc]) hr)
  ·have hcl:=fun w' (hg:w.grownBy w' (some L.bs))=>hI.grow L.s0 L.s1 hg
   refine (Ka p w aC aF aA av aJ aI L.bs L.bt L.bc j t t0 r r0 hd hts h b e (bF A) s hj (fun w' hg=>(hcl w' hg).1) hin.1 (fun w' hg=>(hin.2.2.1.below (fC hg L.s0 hI.b0)).mono (Nat.le_trans hI.b0 hg.size)) (fun w' hg=>(hcl w' hg).2.1) hal (fun w' hg=>(hcl w' hg).2.2 _ _ rfl) hh L.cs n f hn hI.ms hc).mono ?_
   rintro e' w' ⟨h1,h2,h3⟩
   refine ⟨by rw [h1]; unfold iI; simp [hc],⟨h3.os,h3.tape,h3.output,h3.size,fun k hk _ hs _ _=>h3.block k hk (by simp; exact hs)⟩,?_⟩
   unfold fS gS nS
   rw [hc]
   exact hI.SC h3 h2
  ·exact (JN p w aC aF aA av aJ aI L.bs L.bt L.bc j t r hd h b e (bF A) s hj hp hin' dL hal hat hh hc).mono (fun e' w' hr=>qR.plain hI (by rw [hc]; rfl) (by rw [hc]; rfl) (by unfold iI; simp [hc]) hr)
  ·have hcl:=fun w' (hg:w.grownBy w' (some L.bt))=>hI.grow L.t0 L.t1 hg
   refine (Ke p w aC aF aA av j aJ aI L.bs L.bt L.bc h b e (bF A) s hj (fun w' hg=>(hcl w' hg).1) hin.1 (fun w' hg=>(hin.2.2.1.below (fC hg L.t0 hI.b0)).mono (Nat.le_trans hI.b0 hg.size)) (fun w' hg=>(hcl w' hg).2.1) hal (fun w' hg=>(hcl w' hg).2.2 _ _ rfl) hh L.ct m g hm hI.mt hc).mono ?_
   rintro e' w' ⟨h1,h2,h3⟩
   refine ⟨by rw [h1]; unfold iI; simp [hc],⟨h3.os,h3.tape,h3.output,h3.size,fun k hk _ _ ht _=>h3.block k hk (by simp; exact ht)⟩,?_⟩
   unfold fS gS nS
   rw [hc]
   exact hI.SK h3 h2
  ·exact (Jq p w aC aF aA av aJ aI L.bs L.bt L.bc j h b e (bF A) s hj hp hin' dL hal hat hh hc).mono (fun e' w' hr=>qR.plain hI (by rw [hc]; rfl) (by rw [hc]; rfl) (by unfold iI; simp [hc]) hr)
end Go.Proofs.YtnknfoibmgphnaaDoor
end
section
namespace Go.Proofs.YtnknfoibmgphnaaDoor
open Go.RowKit
namespace Md
def aR.app:aR→aR→aR
 | .nil,s=>s
 | .cons h b e r,s=> .cons h b e (r.app s)
theorem qQ: ∀(A:List Fr) (x:Fr),bF (A++[x])=(bF A).app (.cons x.h x.b x.e .nil)
 | [],_=>rfl
 | y ::r,x=>by simp only [List.cons_append,bF,aR.app,qQ r x]
structure BI where
 err:Int
 line:Int
 f:List (List UInt8)
 g:List (List UInt8)
def mem (l:List (List UInt8)):List UInt8→Bool:=fun x=>l.contains x
def fL (k:Int) (h:eH) (f:List (List UInt8)):List (List UInt8):=if h.op == k then h.nm.toList ::f else f
def dh (p:Pr) (j:Nat) (tn dF:ByteArray):aR→aR→List (List UInt8)→List (List UInt8)→BI
 | .nil,_,f,g=>⟨0,0,f,g⟩
 | .cons h b e r,ar,f,g=>
   if decide (6 < ar.len + 1) then ⟨2,h.line,f,g⟩ else
   if iI p j tn dF ar (mem f) (mem g) h != 0 then ⟨iI p j tn dF ar (mem f) (mem g) h,h.line,f,g⟩ else
   if (dh p j tn dF b (ar.app (.cons h b e .nil)) (fL 12 h f) (fL 14 h g)).err != 0 then dh p j tn dF b (ar.app (.cons h b e .nil)) (fL 12 h f) (fL 14 h g) else
   if (dh p j tn dF e (ar.app (.cons h b e .nil)) (dh p j tn dF b (ar.app (.cons h b e .nil)) (fL 12 h f) (fL 14 h g)).f (dh p j tn dF b (ar.app (.cons h b e .nil)) (fL 12 h f) (fL 14 h g)).g).err != 0 then
    dh p j tn dF e (ar.app (.cons h b e .nil)) (dh p j tn dF b (ar.app (.cons h b e .nil)) (fL 12 h f) (fL 14 h g)).f (dh p j tn dF b (ar.app (.cons h b e .nil)) (fL 12 h f) (fL 14 h g)).g else
   dh p j tn dF r ar (dh p j tn dF e (ar.app (.cons h b e .nil)) (dh p j tn dF b (ar.app (.cons h b e .nil)) (fL 12 h f) (fL 14 h g)).f (dh p j tn dF b (ar.app (.cons h b e .nil)) (fL 12 h f) (fL 14 h g)).g).f
    (dh p j tn dF e (ar.app (.cons h b e .nil)) (dh p j tn dF b (ar.app (.cons h b e .nil)) (fL 12 h f) (fL 14 h g)).f (dh p j tn dF b (ar.app (.cons h b e .nil)) (fL 12 h f) (fL 14 h g)).g).g
def kg (ns:List (List UInt8)) (f:List (List UInt8)):Prop:=f.Nodup∧ ∀x ∈ f,x ∈ ns
theorem kg.le {ns f:List (List UInt8)} (h:kg ns f):f.length≤ns.length:=h.1.length_le_of_subset (fun _ hx=>h.2 _ hx)
def je (p:Pr):List (List UInt8):=p.ts.map fun t=>t.nm.toList
def jm (p:Pr):List (List UInt8):=p.ds.map fun d=>d.nm.toList
theorem pz: ∀ {l:List Int},dR l=0→ ∀x ∈ l,x=0
 | [],_,_,h=>by simp at h
 | a ::r,h,x,hx=>by
   unfold dR at h
   by_cases ha:(a != 0)=true
   ·rw [if_pos ha] at h; subst h; simp at ha
   ·rw [if_neg ha] at h
    have ha':a=0:=by simpa using ha
    rcases List.mem_cons.1 hx with rfl | hx
    ·exact ha'
    ·exact pz h x hx
theorem sP {m k:Int} (h:bC m [k]=0):m=k:=by
 unfold bC at h
 by_cases h0:(m == 0)=true
 ·rw [if_pos h0] at h; simp at h
 ·rw [if_neg h0] at h
  by_cases h1:([k].any fun x=>m == x)=true
  ·simpa using h1
  ·rw [if_neg h1] at h; simp at h
theorem A9 {b:Bool} (h:iN b=0):b=false:=by cases b <;> simp [iN] at h ⊢
theorem yY {p:Pr} {j:Int} {nm:ByteArray} (h:mean p j nm=8):nm.toList ∈ je p:=by
 unfold mean at h
 split at h
 ·cases h
 ·cases hd:lg p.ds nm with
  | some m=>
    rw [hd] at h
    unfold lg at hd
    obtain ⟨d,-,hm⟩:=Option.map_eq_some_iff.1 hd
    exfalso
    have:fu d≠8:=by unfold fu; repeat' split
                    all_goals decide
    rw [hm] at this; exact this h
  | none=>
    rw [hd] at h
    simp only [Option.getD_none] at h
    unfold lV at h
    split at h
    ·rename_i ha
     obtain ⟨t,ht,he⟩:=List.any_eq_true.1 ha
     unfold je
     exact List.mem_map.2 ⟨t,ht,by simpa using he⟩
    ·cases h
theorem EM {p:Pr} {j:Int} {nm:ByteArray} (h:mean p j nm=7):nm.toList ∈ jm p:=by
 unfold mean at h
 split at h
 ·cases h
 ·cases hd:lg p.ds nm with
  | some m=>
    unfold lg at hd
    obtain ⟨d,hf,-⟩:=Option.map_eq_some_iff.1 hd
    unfold jm
    exact List.mem_map.2 ⟨d,List.mem_of_find?_eq_some hf,by simpa using List.find?_some hf⟩
  | none=>
    rw [hd] at h
    simp only [Option.getD_none] at h
    unfold lV at h
    split at h <;> cases h
theorem Lm {p:Pr} {j:Nat} {tn dF:ByteArray} {ar:aR} {f g:List (List UInt8)} {h:eH} (hf:kg (je p) f) (h0:iI p j tn dF ar (mem f) (mem g) h=0):kg (je p) (fL 12 h f):=by
 unfold fL
 by_cases h12:(h.op == 12)=true
 ·rw [if_pos h12]
  have e:h.op=12:=by simpa using h12
  have hs:iI p j tn dF ar (mem f) (mem g) h=dR [bC (mean p j h.nm) [8],nest (dB ar [7,8,3] || (h.nm.toList == tn.toList || h.nm.toList == dF.toList)),(iN (mem f h.nm.toList))]:=by unfold iI; simp [e]
  rw [hs] at h0
  have h1:=pz h0 _ (by simp:bC (mean p j h.nm) [8] ∈ _)
  have h2:=pz h0 _ (by simp:iN (mem f h.nm.toList) ∈ _)
  refine ⟨List.nodup_cons.2 ⟨?_,hf.1⟩,fun x hx=> ?_⟩
  ·have:=A9 h2; unfold mem at this; simpa using this
  ·rcases List.mem_cons.1 hx with rfl | hx
   ·exact yY (sP h1)
   ·exact hf.2 x hx
 ·rw [if_neg h12]; exact hf
theorem LP {p:Pr} {j:Nat} {tn dF:ByteArray} {ar:aR} {f g:List (List UInt8)} {h:eH} (hf:kg (jm p) g) (h0:iI p j tn dF ar (mem f) (mem g) h=0):kg (jm p) (fL 14 h g):=by
 unfold fL
 by_cases h12:(h.op == 14)=true
 ·rw [if_pos h12]
  have e:h.op=14:=by simpa using h12
  have hs:iI p j tn dF ar (mem f) (mem g) h=dR [bC (mean p j h.nm) [7],nest (dB ar [7,3]),(iN (mem g h.nm.toList)),iE p j h.dU h.xn h.dV h.bq]:=by unfold iI; simp [e]
  rw [hs] at h0
  have h1:=pz h0 _ (by simp:bC (mean p j h.nm) [7] ∈ _)
  have h2:=pz h0 _ (by simp:iN (mem g h.nm.toList) ∈ _)
  refine ⟨List.nodup_cons.2 ⟨?_,hf.1⟩,fun x hx=> ?_⟩
  ·have:=A9 h2; unfold mem at this; simpa using this
  ·rcases List.mem_cons.1 hx with rfl | hx
   ·exact EM (sP h1)
   ·exact hf.2 x hx
 ·rw [if_neg h12]; exact hf
end Md
open Md
theorem mem_cons (x:List UInt8) (f:List (List UInt8)):ow (mem f) x=mem (x ::f):=by
 funext y; unfold ow mem; by_cases h:y=x
 ·subst h; simp
 ·rw [if_neg h]; simp [h]
theorem Oc (h:eH) (f:List (List UInt8)):fS h (mem f)=mem (fL 12 h f):=by
 unfold fS fL; cases h.op == 12 <;> simp [mem_cons]
theorem PO (h:eH) (f:List (List UInt8)):gS h (mem f)=mem (fL 14 h f):=by
 unfold gS fL; cases h.op == 14 <;> simp [mem_cons]
theorem Ie (k:Int) (h:eH) (f:List (List UInt8)):nS k h f.length=(fL k h f).length:=by
 unfold nS fL; cases h.op == k <;> simp
end Go.Proofs.YtnknfoibmgphnaaDoor
end
section
set_option linter.unusedVariables false
namespace Go.Proofs.YtnknfoibmgphnaaDoor
open Go.RowKit
open Md
theorem Ej (w:World) {a a':Addr} (v v':Value) (h:a.block≠a'.block):(w.setCell a v).setCell a' v'=(w.setCell a' v').setCell a v:=by
 unfold World.setCell
 congr 1
 refine Array.ext_getElem? (fun k=> ?_)
 simp only [Array.getElem?_modify]
 by_cases h1:a'.block=k
 ·by_cases h2:a.block=k
  ·exact (h (h2.trans h1.symm)).elim
  ·simp [h1,h2]
 ·by_cases h2:a.block=k <;> simp [h1,h2]
theorem rW {b:Nat} {a':Addr} (v':Value) (h:b≠a'.block): ∀(vs:List Value) (o:Nat) (w:World),(w.setCell a' v').setCells b o vs=(w.setCells b o vs).setCell a' v'
 | [],_,_=>rfl
 | v ::vs,o,w=>by
   simp only [World.setCells]
   rw [← Ej w (a:=⟨b,o,none⟩) (a':=a') v v' h]
   exact rW v' h vs (o + 1) _
def PC (w4:World) (g o:Nat) (vs:List Value) (a:Addr) (v:Value):List Bool→World→Prop
 | [x,y],w'=>w'=(if y then (if x then w4.setCells g o vs else w4).setCell a v else (if x then w4.setCells g o vs else w4))
 | _,_=>False
theorem PC.bits {w4:World} {g o:Nat} {vs:List Value} {a:Addr} {v:Value} : ∀ {c:List Bool} {w':World},PC w4 g o vs a v c w'→ ∃x y,c=[x,y]
 | [x,y],_,_=>⟨x,y,rfl⟩
 | [],_,h=>h.elim
 | [_],_,h=>h.elim
 | _ ::_ ::_ ::_,_,h=>h.elim
theorem PC.skip {w4:World} {g o:Nat} {vs:List Value} {a:Addr} {v:Value} {a1 a2 i:Nat} {c:List Bool} {w':World} (h1:(a1 == i)=false) (h2:(a2 == i)=false) (h:PC w4 g o vs a v c w'):PC w4 g o vs a v (kM [a1,a2] c i) w':=by
 obtain ⟨x,y,rfl⟩:=h.bits
 simp only [kM,h1,h2,Bool.or_false]; exact h
theorem PC.elt {w4:World} {g o:Nat} {vs:List Value} {a:Addr} {v:Value} {a1 a2 i:Nat} {y:Bool} {w':World} (hg:g≠a.block) (h1:(a1 == i)=true) (h2:(a2 == i)=false) (h:PC w4 g o vs a v [false,y] w'):PC w4 g o vs a v (kM [a1,a2] [false,y] i) (w'.setCells g o vs):=by
 simp only [kM,h1,h2,Bool.or_false,Bool.or_true]
 cases y
 ·have h:w'=w4:=h
  subst h; rfl
 ·have h:w'=w4.setCell a v:=h
  subst h; exact rW v hg vs o w4
theorem PC.QB {w4:World} {g o:Nat} {vs:List Value} {a:Addr} {v:Value} {a1 a2 i:Nat} {x:Bool} {w':World} (h1:(a1 == i)=false) (h2:(a2 == i)=true) (h:PC w4 g o vs a v [x,false] w'):PC w4 g o vs a v (kM [a1,a2] [x,false] i) (w'.setCell a v):=by
 simp only [kM,h1,h2,Bool.or_false,Bool.or_true]
 cases x
 ·have h:w'=w4:=h
  subst h; rfl
 ·have h:w'=w4.setCells g o vs:=h
  subst h; rfl
theorem PC.FM {w4:World} {g o:Nat} {vs:List Value} {a:Addr} {v:Value} {y:Bool} {w':World} (hg:g≠a.block) (h:PC w4 g o vs a v [false,y] w'):w'.heap[g]? =w4.heap[g]?:=by
 cases y
 ·have h:w'=w4:=h
  rw [h]
 ·have h:w'=w4.setCell a v:=h
  rw [h]; exact aO w4 a v rfl (fun e=>hg e.symm)
theorem PC.FL {w4:World} {g o:Nat} {vs:List Value} {a:Addr} {v:Value} {x:Bool} {w':World} (hg:g≠a.block) (h:PC w4 g o vs a v [x,false] w') (hl:a.block < w4.heap.size):w'.heap[a.block]? =w4.heap[a.block]?:=by
 cases x
 ·have h:w'=w4:=h
  rw [h]
 ·have h:w'=w4.setCells g o vs:=h
  rw [h]; exact (kH g vs o w4).block _ hl (by simp; exact fun e=>hg e.symm)
section
variable {w:World} {L:Lay} {p:Pr} {aC aF:Option Addr} {aA av:Nat} {i:Int} {A:List Fr} {f g:List UInt8→Bool} {n m:Nat} {v:Value}
theorem jR.push {wz w4:World} {g' cap':Nat} {zs:List Value} (h:jR w L p aC aF aA av i A f g n m v) (x:Fr) (hx:nQ w L.B0 x.h x.b x.e x.s) (hb:Below w.heap.size w wz) (hown:w4.ownsRow L.B1 42 11 (.slice (some ⟨g',0,none⟩) (A.length + 1) cap') (A.length + 1) (sF A++zs)) (hgr:wz.grownBy w4 v.ownBlock) (hat:v.ownBlock=some g'∨g'=wz.heap.size):
 jR ((w4.setCells g' (A.length * 11) (kS x.h x.b x.e x.s)).setCell ⟨L.bc,3,none⟩ (.slice (some ⟨g',0,none⟩) (A.length + 1) cap')) L p aC aF aA av i (A++[x]) f g n m (.slice (some ⟨g',0,none⟩) (A.length + 1) cap')∧
 Kp L v w ((w4.setCells g' (A.length * 11) (kS x.h x.b x.e x.s)).setCell ⟨L.bc,3,none⟩ (.slice (some ⟨g',0,none⟩) (A.length + 1) cap'))∧rU w v (.slice (some ⟨g',0,none⟩) (A.length + 1) cap'):=by
 have hg1:=(hown.lt g' rfl).1
 have hg2:=(hown.lt g' rfl).2
 have hc1:=L.c1
 have hs1:=L.s1
 have ht1:=L.t1
 have hput:=zR (vs:=kS x.h x.b x.e x.s) hown (vV A) rfl
 generalize Nz:w4.setCells g' (A.length * 11) (kS x.h x.b x.e x.s)=w5 at *
 have hgw:w4.grownBy w5 (some g'):=by rw [← Nz]; exact kH _ _ _ _
 have hgz:=dY w5 ⟨L.bc,3,none⟩ (.slice (some ⟨g',0,none⟩) (A.length + 1) cap')
 have hsz:w.heap.size≤w4.heap.size:=Nat.le_trans hb.size hgr.size
 have hlow: ∀k,k < w.heap.size→v.ownBlock≠some k→w5.heap[k]? =w.heap[k]?:=fun k hk hv=>by
  have hkg:k≠g':=by
   rcases hat with e | e
   ·intro e'; exact hv (by rw [e,e'])
   ·have:=hb.size; omega
  rw [hgw.block k (by omega) (by simp; exact hkg),hgr.block k (Nat.lt_of_lt_of_le hk hb.size) (fun e=>hv e.symm),hb.block k hk]
 have hlow': ∀k,k < L.B1→w5.heap[k]? =w.heap[k]?:=fun k hk=>hlow k (Nat.lt_of_lt_of_le hk h.sz) (fun e=>by have:=(h.row.lt k e).1; omega)
 have hkp:Kp L v w (w5.setCell ⟨L.bc,3,none⟩ (.slice (some ⟨g',0,none⟩) (A.length + 1) cap')):=
  ⟨hgz.os.trans (hgw.os.trans (hgr.os.trans hb.os)),hgz.tape.trans (hgw.tape.trans (hgr.tape.trans hb.tape)),hgz.output.trans (hgw.output.trans (hgr.output.trans hb.output)),Nat.le_trans hsz (Nat.le_trans hgw.size hgz.size),fun k hk hc _ _ hv=>
   (hgz.block k (Nat.lt_of_lt_of_le hk (Nat.le_trans hsz hgw.size)) (by simp; exact hc)).trans (hlow k hk hv)⟩
 have hbel:=hkp.below h.b0 (fun k e=>(h.row.lt k e).1)
 have wF: ∀k,k < L.B1→k≠L.bc→(w5.setCell ⟨L.bc,3,none⟩ (.slice (some ⟨g',0,none⟩) (A.length + 1) cap')).heap[k]? =w.heap[k]?:=fun k hk hc=>by
  rw [aO w5 ⟨L.bc,3,none⟩ _ rfl (fun e=>hc e.symm)]; exact hlow' k hk
 refine ⟨?_,hkp,?_⟩
 ·refine {blk:= ?_,row:= ?_,ms:=h.ms.same (wF _ hs1 (fun e=>L.cs e.symm)),mt:=h.mt.same (wF _ ht1 (fun e=>L.ct e.symm)),sz:= ?_,dat:=h.dat.below hbel,lK:= ?_}
  ·exact dN ((hlow' _ hc1).trans h.blk) _
  ·rw [List.length_append,tY]
   refine hput.kept hgz (.inr ?_)
   simp [Value.ownBlock]; omega
  ·exact Nat.le_trans h.sz hkp.size
  ·intro y hy
   rcases List.mem_append.1 hy with hy | hy
   ·exact (h.lK y hy).below hbel
   ·obtain rfl:=List.mem_singleton.1 hy; exact hx.below hbel
 ·rcases hat with e | e
  ·exact .inl (by rw [e]; rfl)
  ·exact .inr ⟨g',rfl,by rw [e]; exact hb.size⟩
theorem jR.pop {wz:World} {g' cap':Nat} (x:Fr) (h:jR w L p aC aF aA av i (A++[x]) f g n m (.slice (some ⟨g',0,none⟩) (A.length + 1) cap')) (hb:Below w.heap.size w wz):
 jR (wz.setCell ⟨L.bc,3,none⟩ (.slice (some ⟨g',0,none⟩) A.length cap')) L p aC aF aA av i A f g n m (.slice (some ⟨g',0,none⟩) A.length cap')∧
 Kp L (.slice (some ⟨g',0,none⟩) (A.length + 1) cap') w (wz.setCell ⟨L.bc,3,none⟩ (.slice (some ⟨g',0,none⟩) A.length cap')):=by
 have hI:=h.below hb
 have hc1:=L.c1
 have hgz:=dY wz ⟨L.bc,3,none⟩ (.slice (some ⟨g',0,none⟩) A.length cap')
 have hkp:Kp L (.slice (some ⟨g',0,none⟩) (A.length + 1) cap') w (wz.setCell ⟨L.bc,3,none⟩ (.slice (some ⟨g',0,none⟩) A.length cap')):=
  ⟨hgz.os.trans hb.os,hgz.tape.trans hb.tape,hgz.output.trans hb.output,Nat.le_trans hb.size hgz.size,fun k hk hc _ _ _=>(hgz.block k (Nat.lt_of_lt_of_le hk hb.size) (by simp; exact hc)).trans (hb.block k hk)⟩
 have hbel:Below L.B0 wz (wz.setCell ⟨L.bc,3,none⟩ (.slice (some ⟨g',0,none⟩) A.length cap')):=fC hgz L.c0 hI.b0
 have hrow:=hI.row
 rw [List.length_append,tY] at hrow
 have hg1:=(hrow.lt g' rfl).1
 refine ⟨{blk:=dN hI.blk _,row:=(Bp hrow (vV A)).kept hgz (.inr (by simp [Value.ownBlock]; omega)),ms:=hI.ms.same (aO wz _ _ rfl L.cs),mt:=hI.mt.same (aO wz _ _ rfl L.ct),sz:=Nat.le_trans hI.sz hgz.size,dat:=hI.dat.below hbel,lK:=fun y hy=>(hI.lK y (by simp [hy])).below hbel},hkp⟩
end
end Go.Proofs.YtnknfoibmgphnaaDoor
end
