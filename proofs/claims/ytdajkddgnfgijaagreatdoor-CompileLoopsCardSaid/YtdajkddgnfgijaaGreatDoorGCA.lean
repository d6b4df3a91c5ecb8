/-
  Objects and code in memory; the state of a generator of code, and what stays. No walk in sight.
  Contracts of the generators' emit and put.
  Shaped expressions by cases; the code of an expression, unrolled. Plain.
  A statement's frame: what the generators' functions are given and leave. No walk in sight.
-/
import Derived.Test.YtdajkddgnfgijaaGreatDoorGPJ
import Derived.Test.YtdajkddgnfgijaaGreatDoorGMB
import Derived.Test.YtdajkddgnfgijaaGreatDoorGMX
import Derived.Deep.AppendLies
section
set_option linter.unusedVariables false
set_option linter.unusedSimpArgs false
namespace Go.Proofs.YtdajkddgnfgijaaGreatDoor
open Go.RowKit
open Md
namespace Md
section
variable {α:Type} {f:α→List Value} {m:Nat} {w w':World} {B B':Nat}
theorem fT.below (hb:Below B w w'): ∀ {l:List α} {ao:Option Addr} {k:Nat},fT f m w B l ao k→fT f m w' B l ao k
 | [],_,_,_=>trivial
 | _ ::_,_,_,⟨⟨b,off,e,hB,c⟩,hr⟩=>⟨⟨b,off,e,hB,fun j u hu=>(hb.cell hB).trans (c j u hu)⟩,fT.below hb hr⟩
theorem fT.mono (h:B≤B'): ∀ {l:List α} {ao:Option Addr} {k:Nat},fT f m w B l ao k→fT f m w B' l ao k
 | [],_,_,_=>trivial
 | _ ::_,_,_,⟨⟨b,off,e,hB,c⟩,hr⟩=>⟨⟨b,off,e,Nat.lt_of_lt_of_le hB h,c⟩,fT.mono h hr⟩
theorem fT.same {l:List α} {ao:Option Addr} {k:Nat} (h:fT f m w w.heap.size l ao k) (hb:Below w.heap.size w w'):fT f m w' w'.heap.size l ao k:=(h.below hb).mono hb.size
theorem fT.at: ∀ {l:List α} {ao:Option Addr} {k:Nat} (i:Nat) (x:α),fT f m w B l ao k→l[i]? =some x→ ∃b off,ao=some ⟨b,off,none⟩∧b < B∧ ∀(j:Nat) (u:Value),(f x)[j]? =some u→w.cell? ⟨b,off + (k + i) * m + j,none⟩=some u
 | [],_,_,i,x,_,h=>by simp at h
 | y ::r,_,k,0,x,⟨h1,_⟩,h=>by simp at h; subst h; exact h1
 | y ::r,_,k,i + 1,x,⟨_,h2⟩,h=>by
   have:=fT.at i x h2 (by simpa using h)
   rw [show k + (i + 1)=k + 1 + i by omega]; exact this
theorem fT.mk: ∀ {l:List α} {ao:Option Addr} {k:Nat},(∀(i:Nat) (x:α),l[i]? =some x→ ∃b off,ao=some ⟨b,off,none⟩∧b < B∧ ∀(j:Nat) (u:Value),(f x)[j]? =some u→w.cell? ⟨b,off + (k + i) * m + j,none⟩=some u)→fT f m w B l ao k
 | [],_,_,_=>trivial
 | x ::r,_,k,h=>⟨h 0 x rfl,fT.mk (fun i y hy=>by
     have:=h (i + 1) y (by simpa using hy)
     rw [show k + 1 + i=k + (i + 1) by omega]; exact this)⟩
theorem gF {base:Nat} {T:TypeId} {v:Value} {xs:List α} (hf: ∀x,(f x).length=m) (h:w.ownsRow base T m v xs.length (xs.flatMap f)): ∃ao cap,v= .slice ao xs.length cap∧xs.length≤cap∧cap≤maxLen∧fT f m w w.heap.size xs ao 0:=by
 rcases h.2 with ⟨rfl,hn⟩ | ⟨g,cap,cur,rfl,hb,hg,h1,h2,h3,h4⟩
 ·have:xs=[]:=List.eq_nil_of_length_eq_zero hn
  subst this
  exact ⟨none,0,rfl,Nat.le_refl _,Nat.zero_le _,trivial⟩
 ·refine ⟨_,_,rfl,h1,h2,fT.mk (fun i x hx=>⟨g,0,rfl,(Array.getElem?_eq_some_iff.1 hg).1,fun j u hu=> ?_⟩)⟩
  have hF:=flat_get hf xs i x j u hx hu
  rw [← h4] at hF
  have hlt:=(List.getElem?_eq_some_iff.1 hF).1
  rw [List.getElem?_take_of_lt (by rw [List.length_take] at hlt; omega)] at hF
  have:0 + (0 + i) * m + j=i * m + j:=by simp
  rw [this]
  exact aB hg (by rw [← hF]; simp)
end
end Md
namespace Md
structure iE where
 aC:Option Addr
 aL:Option Addr
 aN:Option Addr
 aF:Option Addr
 aT:Option Addr
 aS:Option Addr
 cC:Nat
 cL:Nat
 cN:Nat
 cF:Nat
 cT:Nat
 cS:Nat
structure oI (w:World) (B:Nat) (W:Wo) (s:iE):Prop where
 cs:fT kR 5 w B W.cs s.aC 0
 ls:fT mQ 2 w B W.ls s.aL 0
 ns:fT sP 2 w B W.ns s.aN 0
 fs:gB w B W.fs s.aF 0
 ts:gB w B W.ts s.aT 0
 ss:fT uz 3 w B W.ss s.aS 0
 lc:W.cs.length≤maxLen
 ll:W.ls.length≤maxLen
 ln:W.ns.length≤maxLen
 lf:W.fs.length≤maxLen
 lt:W.ts.length≤maxLen
 lS:W.ss.length≤maxLen
 ok: ∀c ∈ W.cs,dR c.sz
theorem oI.below {w w':World} {B:Nat} {W:Wo} {s:iE} (h:oI w B W s) (hb:Below B w w'):oI w' B W s:=
 ⟨h.cs.below hb,h.ls.below hb,h.ns.below hb,h.fs.below hb,h.ts.below hb,h.ss.below hb,h.lc,h.ll,h.ln,h.lf,h.lt,h.lS,h.ok⟩
theorem oI.mono {w:World} {B B':Nat} {W:Wo} {s:iE} (h:oI w B W s) (hb:B≤B'):oI w B' W s:=
 ⟨h.cs.mono hb,h.ls.mono hb,h.ns.mono hb,h.fs.mono hb,h.ts.mono hb,h.ss.mono hb,h.lc,h.ll,h.ln,h.lf,h.lt,h.lS,h.ok⟩
theorem oI.same {w w':World} {W:Wo} {s:iE} (h:oI w w.heap.size W s) (hb:Below w.heap.size w w'):oI w' w'.heap.size W s:=(h.below hb).mono hb.size
structure GL where
 B0:Nat
 gb:Nat
 B1:Nat
 b0:B0≤gb
 b1:gb < B1
def KG (W:Wo) (s:iE) (lc:List ByteArray) (al:Option Addr) (cl:Nat) (v:Value) (a b:Int):Array Value:=
 #[.slice s.aC W.cs.length s.cC,.slice s.aL W.ls.length s.cL,.slice s.aN W.ns.length s.cN,.slice s.aF W.fs.length s.cF,.slice s.aT W.ts.length s.cT,.slice s.aS W.ss.length s.cS,.slice al lc.length cl,v,.int .i64 a,.int .i64 b]
end Md
theorem sZ: ∀x:bS,(kY x).length=6:=fun _=>rfl
structure Kg (L:GL) (v:Value) (w w':World):Prop where
 os:w'.os=w.os
 tape:w'.tape=w.tape
 output:w'.output=w.output
 size:w.heap.size≤w'.heap.size
 block: ∀k,k < w.heap.size→k≠L.gb→v.ownBlock≠some k→w'.heap[k]? =w.heap[k]?
def kG (w:World) (v v':Value):Prop:=v'.ownBlock=v.ownBlock∨ ∃g,v'.ownBlock=some g∧w.heap.size≤g
section
variable {L:GL} {v v1 v2:Value} {w w1 w2 w':World}
theorem Kg.refl (L:GL) (v:Value) (w:World):Kg L v w w:=⟨rfl,rfl,rfl,Nat.le_refl _,fun _ _ _ _=>rfl⟩
theorem Kg.of_below (h:Below w.heap.size w w'):Kg L v w w':=⟨h.os,h.tape,h.output,h.size,fun k hk _ _=>h.block k hk⟩
theorem Kg.trans (h:Kg L v w w1) (ho:kG w v v1) (k:Kg L v1 w1 w2):Kg L v w w2:=
 ⟨k.os.trans h.os,k.tape.trans h.tape,k.output.trans h.output,Nat.le_trans h.size k.size,fun j hj hc hv=>(k.block j (Nat.lt_of_lt_of_le hj h.size) hc (by
   rcases ho with e | ⟨g,e,hg⟩
   ·rw [e]; exact hv
   ·rw [e]; intro e'; injection e' with e'; omega)).trans (h.block j hj hc hv)⟩
theorem Kg.below (h:Kg L v w w') (hB:L.B0≤w.heap.size) (hv: ∀k,v.ownBlock=some k→L.B1≤k):Below L.B0 w w':=
 ⟨h.os,h.tape,h.output,h.size,fun k hk=>h.block k (by omega) (by have:=L.b0; omega) (fun e=>by have:=hv k e; have:=L.b0; have:=L.b1; omega)⟩
theorem Kg.set (w:World) (j:Nat) (x:Value):Kg L v w (w.setCell ⟨L.gb,j,none⟩ x):=by
 have h:=dO w ⟨L.gb,j,none⟩ x
 exact ⟨h.os,h.tape,h.output,h.size,fun k hk hc _=>h.block k hk (by simp; exact hc)⟩
theorem kG.refl (w:World) (v:Value):kG w v v:= .inl rfl
theorem kG.trans (h:kG w v v1) (k:kG w1 v1 v2) (hs:w.heap.size≤w1.heap.size):kG w v v2:=by
 rcases k with e | ⟨g,e,hg⟩
 ·rcases h with e' | ⟨g,e',hg⟩
  ·exact .inl (e.trans e')
  ·exact .inr ⟨g,e.trans e',hg⟩
 ·exact .inr ⟨g,e,Nat.le_trans hs hg⟩
theorem kG.ne {k:Nat} (h:kG w v v1) (hk:k < w.heap.size) (hv:v.ownBlock≠some k):v1.ownBlock≠some k:=by
 rcases h with e | ⟨g,e,hg⟩
 ·rw [e]; exact hv
 ·rw [e]; intro e'; injection e' with e'; omega
end
structure dX (T:TypeId) (w:World) (L:GL) (W:Wo) (s:iE) (lc:List ByteArray) (al:Option Addr) (cl:Nat) (v:Value) (code:List bS) (a b:Int):Prop where
 blk:w.heap[L.gb]? =some (.cells (KG W s lc al cl v a b) T (0,0))
 row:w.ownsRow L.B1 42 6 v code.length (code.flatMap kY)
 sz:L.B1≤w.heap.size
 wo:oI w L.B0 W s
 few:lc.length≤1000
 lc:gB w L.B0 lc al 0
theorem rQ {w:World} {b o:Nat} {cur cur':Array Value} {e:TypeId} {fr:Nat × Nat} (h:w.heap[b]? =some (.cells cur e fr)) (v:Value) (hc:cur.setIfInBounds o v=cur'):(w.setCell ⟨b,o,none⟩ v).heap[b]? =some (.cells cur' e fr):=by
 rw [← hc]; exact dV h v
section
variable {T:TypeId} {w w':World} {L:GL} {W:Wo} {s:iE} {lc:List ByteArray} {al:Option Addr} {cl:Nat} {v:Value} {code:List bS} {a b:Int}
theorem dX.b0 (h:dX T w L W s lc al cl v code a b):L.B0≤w.heap.size:=by have:=h.sz; have:=L.b0; have:=L.b1; omega
theorem dX.own (h:dX T w L W s lc al cl v code a b): ∀k,v.ownBlock=some k→L.B1≤k∧k < w.heap.size:=h.row.lt
theorem dX.keep (h:dX T w L W s lc al cl v code a b) (hk:Kg L v w w'):Below L.B0 w w':=hk.below h.b0 (fun k e=>(h.own k e).1)
theorem dX.form (h:dX T w L W s lc al cl v code a b): ∃ao cap,v= .slice ao code.length cap∧code.length≤cap∧cap≤maxLen:=by
 obtain ⟨ao,cap,e,h1,h2,-⟩:=gF sZ h.row
 exact ⟨ao,cap,e,h1,h2⟩
theorem dX.below (h:dX T w L W s lc al cl v code a b) (hb:Below w.heap.size w w'):dX T w' L W s lc al cl v code a b where
 blk:=(hb.block _ (Array.getElem?_eq_some_iff.1 h.blk).1).trans h.blk
 row:=h.row.kept (row:=none) ⟨hb.os,hb.tape,hb.output,hb.size,fun k hk _=>hb.block k hk⟩ (by cases hv:v.ownBlock <;> simp)
 sz:=Nat.le_trans h.sz hb.size
 wo:=h.wo.below (hb.mono h.b0)
 few:=h.few
 lc:=h.lc.below (hb.mono h.b0)
theorem dX.cells (h:dX T w L W s lc al cl v code a b):L.gb < w.heap.size∧w.cell? ⟨L.gb,0,none⟩=some (.slice s.aC W.cs.length s.cC)∧w.cell? ⟨L.gb,1,none⟩=some (.slice s.aL W.ls.length s.cL)∧w.cell? ⟨L.gb,2,none⟩=some (.slice s.aN W.ns.length s.cN)∧w.cell? ⟨L.gb,3,none⟩=some (.slice s.aF W.fs.length s.cF)∧
 w.cell? ⟨L.gb,4,none⟩=some (.slice s.aT W.ts.length s.cT)∧w.cell? ⟨L.gb,5,none⟩=some (.slice s.aS W.ss.length s.cS)∧w.cell? ⟨L.gb,6,none⟩=some (.slice al lc.length cl)∧w.cell? ⟨L.gb,7,none⟩=some v∧w.cell? ⟨L.gb,8,none⟩=some (.int .i64 a)∧w.cell? ⟨L.gb,9,none⟩=some (.int .i64 b)∧ ∀j,w.frozen? ⟨L.gb,j,none⟩=false:=
 ⟨(Array.getElem?_eq_some_iff.1 h.blk).1,aB h.blk rfl,aB h.blk rfl,aB h.blk rfl,aB h.blk rfl,aB h.blk rfl,aB h.blk rfl,aB h.blk rfl,aB h.blk rfl,aB h.blk rfl,aB h.blk rfl,fun _=>bH h.blk⟩
theorem dX.setOf (h:dX T w L W s lc al cl v code a b) (j:Nat) (x:Value) (DJ:List ByteArray) (al':Option Addr) (cl':Nat) (v':Value) (code':List bS) (a' b':Int)
 (hc:(KG W s lc al cl v a b).setIfInBounds j x=KG W s DJ al' cl' v' a' b') (hl:gB w L.B0 DJ al' 0) (hf:DJ.length≤1000) (hr:w.ownsRow L.B1 42 6 v' code'.length (code'.flatMap kY)):dX T (w.setCell ⟨L.gb,j,none⟩ x) L W s DJ al' cl' v' code' a' b':=by
 have hg:=dO w ⟨L.gb,j,none⟩ x
 have hb:Below L.B0 w (w.setCell ⟨L.gb,j,none⟩ x):=dB hg L.b0 h.b0
 refine ⟨rQ h.blk _ hc,hr.kept hg ?_,Nat.le_trans h.sz hg.size,h.wo.below hb,hf,hl.below hb⟩
 cases hv:v'.ownBlock with
 | none=>exact .inl rfl
 | some k=>refine .inr (fun e=> ?_); have:=(hr.lt k hv).1; have:=L.b1; injection e with e; simp only at e; omega
theorem dX.Qp (h:dX T w L W s lc al cl v code a b) (x:Int):dX T (w.setCell ⟨L.gb,8,none⟩ (.int .i64 x)) L W s lc al cl v code x b:=h.setOf 8 _ _ _ _ _ _ _ _ rfl h.lc h.few h.row
theorem dX.je (h:dX T w L W s lc al cl v code a b) (x:Int):dX T (w.setCell ⟨L.gb,9,none⟩ (.int .i64 x)) L W s lc al cl v code a x:=h.setOf 9 _ _ _ _ _ _ _ _ rfl h.lc h.few h.row
theorem dX.aa0 (h:dX T w L W s lc al cl v code a b) {DJ:List ByteArray} {al':Option Addr} (cl':Nat) (hl:gB w L.B0 DJ al' 0) (hf:DJ.length≤1000):dX T (w.setCell ⟨L.gb,6,none⟩ (.slice al' DJ.length cl')) L W s DJ al' cl' v code a b:=h.setOf 6 _ _ _ _ _ _ _ _ rfl hl hf h.row
theorem dX.ac6 (h:dX T w L W s lc al cl v code a b):dX T (w.setCell ⟨L.gb,7,none⟩ (.slice none 0 0)) L W s lc al cl (.slice none 0 0) [] a b:=h.setOf 7 _ _ _ _ _ _ _ _ rfl h.lc h.few (World.ownsRow_nil _ _ _ _)
theorem dX.push {wz w4:World} {g' cap':Nat} (h:dX T w L W s lc al cl v code a b) (x:bS) (hb:Below w.heap.size w wz) (hown:w4.ownsRow L.B1 42 6 (.slice (some ⟨g',0,none⟩) (code.length + 1) cap') (code.length + 1) (code.flatMap kY++kY x)) (hgr:wz.grownBy w4 v.ownBlock) (hat:v.ownBlock=some g'∨wz.heap.size≤g'):
 dX T (w4.setCell ⟨L.gb,7,none⟩ (.slice (some ⟨g',0,none⟩) (code.length + 1) cap')) L W s lc al cl (.slice (some ⟨g',0,none⟩) (code.length + 1) cap') (code++[x]) a b∧
 Kg L v w (w4.setCell ⟨L.gb,7,none⟩ (.slice (some ⟨g',0,none⟩) (code.length + 1) cap'))∧kG w v (.slice (some ⟨g',0,none⟩) (code.length + 1) cap'):=by
 have hsz:w.heap.size≤w4.heap.size:=Nat.le_trans hb.size hgr.size
 have hlow: ∀k,k < w.heap.size→v.ownBlock≠some k→w4.heap[k]? =w.heap[k]?:=fun k hk hv=>(hgr.block k (Nat.lt_of_lt_of_le hk hb.size) (fun e=>hv e.symm)).trans (hb.block k hk)
 have hnb: ∀k,k < L.B1→v.ownBlock≠some k:=fun k hk e=>by have:=(h.own k e).1; omega
 have hbel:Below L.B0 w w4:=⟨hgr.os.trans hb.os,hgr.tape.trans hb.tape,hgr.output.trans hb.output,hsz,fun k hk=>by have:=L.b0; have:=L.b1; have:=h.b0; exact hlow k (by omega) (hnb k (by omega))⟩
 have h4:dX T w4 L W s lc al cl v code a b∨True:= .inr trivial
 have hblk:w4.heap[L.gb]? =some (.cells (KG W s lc al cl v a b) T (0,0)):=(hlow _ (Array.getElem?_eq_some_iff.1 h.blk).1 (hnb _ L.b1)).trans h.blk
 have hg:=dO w4 ⟨L.gb,7,none⟩ (.slice (some ⟨g',0,none⟩) (code.length + 1) cap')
 have hb2:Below L.B0 w4 (w4.setCell ⟨L.gb,7,none⟩ (.slice (some ⟨g',0,none⟩) (code.length + 1) cap')):=dB hg L.b0 (Nat.le_trans h.b0 hsz)
 have hown':w4.ownsRow L.B1 42 6 (.slice (some ⟨g',0,none⟩) (code.length + 1) cap') (code++[x]).length ((code++[x]).flatMap kY):=by
  rw [List.flatMap_append,List.flatMap_singleton,List.length_append]; exact hown
 have hlt:=(hown.lt g' rfl).1
 refine ⟨⟨rQ hblk _ rfl,hown'.kept hg (.inr ?_),Nat.le_trans (Nat.le_trans h.sz hsz) hg.size,(h.wo.below hbel).below hb2,h.few,(h.lc.below hbel).below hb2⟩,?_,?_⟩
 ·intro e; have:=L.b1; injection e with e; simp only at e; omega
 ·exact ⟨hg.os.trans hbel.os,hg.tape.trans hbel.tape,hg.output.trans hbel.output,Nat.le_trans hsz hg.size,fun k hk hc hv=>(hg.block k (Nat.lt_of_lt_of_le hk hsz) (by simp; exact hc)).trans (hlow k hk hv)⟩
 ·rcases hat with e | e
  ·exact .inl (by rw [e]; rfl)
  ·exact .inr ⟨g',rfl,Nat.le_trans hb.size e⟩
end
section
variable {w:World} {base:Nat} {e:TypeId} {size:Nat} {n cap g:Nat} {xs:List Value}
theorem MV (h:w.ownsRow base e size (.slice (some ⟨g,0,none⟩) n cap) n xs) (j:Nat) (u:Value) (hj:j < xs.length):(w.setCell ⟨g,j,none⟩ u).ownsRow base e size (.slice (some ⟨g,0,none⟩) n cap) n (xs.set j u):=by
 rcases h.2 with ⟨h1,-⟩ | ⟨g',cap',cur,e1,hb,hg,hc,hm,hs,ht⟩
 ·cases h1
 ·injection e1 with e1 e2 e3; injection e1 with e1; injection e1 with e1; subst e1; subst e3
  refine ⟨by rw [List.length_set]; exact h.1,.inr ⟨g,cap,cur.setIfInBounds j u,rfl,hb,dV hg u,hc,hm,by simpa using hs,?_⟩⟩
  rw [Array.toList_setIfInBounds,← ht,List.take_set]
end
theorem Gb {α:Type} {f:α→List Value} {m:Nat} (hf: ∀x,(f x).length=m): ∀(xs:List α) (k:Nat) (x y:α) (j:Nat) (u:Value),xs[k]? =some x→j < m→f y=(f x).set j u→(xs.flatMap f).set (k * m + j) u=(xs.set k y).flatMap f
 | [],_,_,_,_,_,h,_,_=>by simp at h
 | z ::xs,0,x,y,j,u,h,hj,hy=>by
   simp at h; subst h
   rw [List.flatMap_cons,List.set_cons_zero,List.flatMap_cons,Nat.zero_mul,Nat.zero_add,hy,List.set_append_left _ _ (by rw [hf]; exact hj)]
 | z ::xs,k + 1,x,y,j,u,h,hj,hy=>by
   have ih:=Gb hf xs k x y j u (by simpa using h) hj hy
   have e:(k + 1) * m + j=m + (k * m + j):=by rw [Nat.add_mul]; omega
   rw [List.flatMap_cons,List.set_cons_succ,List.flatMap_cons,← ih,List.set_append_right _ _ (by rw [hf,e]; omega),hf,e,Nat.add_sub_cancel_left]
section
variable {T:TypeId} {w w':World} {L:GL} {W:Wo} {s:iE} {lc:List ByteArray} {al:Option Addr} {cl:Nat} {v:Value} {code:List bS} {a b:Int}
theorem dX.patch {g cap:Nat} (h:dX T w L W s lc al cl (.slice (some ⟨g,0,none⟩) code.length cap) code a b) (k j:Nat) (x y:bS) (u:Value) (hx:code[k]? =some x) (hj:j < 6) (hy:kY y=(kY x).set j u):
 dX T (w.setCell ⟨g,k * 6 + j,none⟩ u) L W s lc al cl (.slice (some ⟨g,0,none⟩) code.length cap) (code.set k y) a b∧Kg L (.slice (some ⟨g,0,none⟩) code.length cap) w (w.setCell ⟨g,k * 6 + j,none⟩ u):=by
 have hg:=dO w ⟨g,k * 6 + j,none⟩ u
 have hlt:=h.own g rfl
 have hb:Below L.B0 w (w.setCell ⟨g,k * 6 + j,none⟩ u):=dB hg (by have:=L.b0; have:=L.b1; show L.B0≤g; omega) h.b0
 have hk:k < code.length:=(List.getElem?_eq_some_iff.1 hx).1
 have hjl:k * 6 + j < (code.flatMap kY).length:=by rw [zl sZ]; omega
 refine ⟨⟨(hg.block _ (Array.getElem?_eq_some_iff.1 h.blk).1 (by have:=L.b1; simp; omega)).trans h.blk,?_,Nat.le_trans h.sz hg.size,h.wo.below hb,h.few,h.lc.below hb⟩,hg.os,hg.tape,hg.output,hg.size,fun i hi _ hv=>hg.block i hi (fun e=>hv e.symm)⟩
 have:=MV h.row (k * 6 + j) u hjl
 rw [Gb sZ code k x y j u hx hj hy] at this
 rw [List.length_set]; exact this
end
end Go.Proofs.YtdajkddgnfgijaaGreatDoor
end
section
set_option linter.unusedSimpArgs false
set_option linter.unusedVariables false
namespace Go.Proofs.YtdajkddgnfgijaaGreatDoor
open Go.RowKit
open Md
theorem Xv:(Tryz.prog.info? 42).map (fun i=>(i.zero,i.size,i.bytes))=some (some (.agg #[.int .i64 0,.int .i64 0,.int .i64 0,.int .i64 0,.int .i64 0,.int .i64 0]),6,48):=by kernel_rfl
theorem Ll {o:Option TypeInfo} {z:Option Value} {a b:Nat} (h:o.map (fun i=>(i.zero,i.size,i.bytes))=some (z,a,b)): ∃i0,o=some i0∧i0.zero=z∧i0.size=a∧i0.bytes=b:=by
 cases o with
 | none=>cases h
 | some i=>simp at h; exact ⟨i,rfl,h.1,h.2.1,h.2.2⟩
theorem ae2 (x:bS): ∀u ∈ kY x,u.oneCell'=true:=by
 intro u hu; simp [kY] at hu
 rcases hu with rfl | rfl | rfl | rfl | rfl | rfl <;> rfl
def Sm (x:bS):Value:= .agg #[.int .i64 x.op,.int .i64 x.a,.int .i64 x.b,.int .i64 x.c,.int .i64 x.n,.int .i64 x.st]
def uD (T:TypeId) (w:World) (L:GL) (W:Wo) (s:iE) (lc:List ByteArray) (al:Option Addr) (cl:Nat) (v:Value) (code:List bS) (a b:Int) (xs:List bS) (w':World):Prop:=
 ∃v',dX T w' L W s lc al cl v' (code++xs) a b∧Kg L v w w'∧kG w v v'
section
variable {T:TypeId} {w w1 w2 w':World} {L:GL} {W:Wo} {s:iE} {lc:List ByteArray} {al:Option Addr} {cl:Nat} {v:Value} {code:List bS} {a b:Int} {xs ys:List bS}
theorem uD.start (h:dX T w L W s lc al cl v code a b):uD T w L W s lc al cl v code a b [] w:=⟨v,by simpa using h,Kg.refl _ _ _,.inl rfl⟩
theorem uD.pre (hb:Below w.heap.size w w1) (h:uD T w1 L W s lc al cl v code a b xs w'):uD T w L W s lc al cl v code a b xs w':=by
 obtain ⟨v',h1,h2,h3⟩:=h
 exact ⟨v',h1,(Kg.of_below hb).trans (.inl rfl) h2,(kG.refl w v).trans h3 hb.size⟩
theorem uD.below (h:uD T w L W s lc al cl v code a b xs w1) (hb:Below w1.heap.size w1 w'):uD T w L W s lc al cl v code a b xs w':=by
 obtain ⟨v',h1,h2,h3⟩:=h
 exact ⟨v',h1.below hb,h2.trans h3 (Kg.of_below hb),h3⟩
theorem uD.then (h:uD T w L W s lc al cl v code a b xs w1) (k: ∀v',dX T w1 L W s lc al cl v' (code++xs) a b→uD T w1 L W s lc al cl v' (code++xs) a b ys w'):uD T w L W s lc al cl v code a b (xs++ys) w':=by
 obtain ⟨v',h1,h2,h3⟩:=h
 obtain ⟨v2,k1,k2,k3⟩:=k v' h1
 exact ⟨v2,by rw [← List.append_assoc]; exact k1,h2.trans h3 k2,h3.trans k3 h2.size⟩
end
structure gN (T:TypeId) (w:World) (L:GL) (W:Wo) (s:iE) (lc:List ByteArray) (al:Option Addr) (cl:Nat) (v:Value) (code:List bS) (a b:Int) (nb:Nat) (cs:Array Value) (ty:TypeId) (xs:List bS) (w2:World) (v2:Value):Prop where
 i:dX T w2 L W s lc al cl v2 (code++xs) a b
 k:Kg L v w w2
 o:kG w v v2
 x:w2.heap[nb]? =some (.cells cs ty (0,0))
 g:L.B1≤nb
 n:v2.ownBlock≠some nb
section
variable {T ty:TypeId} {w w1 w2 w':World} {L:GL} {W:Wo} {s:iE} {lc:List ByteArray} {al:Option Addr} {cl nb:Nat} {v v2:Value} {code:List bS} {a b:Int} {xs ys:List bS} {cs:Array Value}
theorem gN.start (h:dX T w L W s lc al cl v code a b) (hb:Below w.heap.size w w1) (hn:w.heap.size=nb) (hx:w1.heap[nb]? =some (.cells cs ty (0,0))):gN T w L W s lc al cl v code a b nb cs ty [] w1 v:=
 ⟨by simpa using h.below hb,Kg.of_below hb,.inl rfl,hx,by rw [← hn]; exact h.sz,fun e=>by have:=(h.own _ e).2; omega⟩
theorem gN.then (h:gN T w L W s lc al cl v code a b nb cs ty xs w2 v2) (k:uD T w2 L W s lc al cl v2 (code++xs) a b ys w'): ∃v3,gN T w L W s lc al cl v code a b nb cs ty (xs++ys) w' v3:=by
 obtain ⟨v3,k1,k2,k3⟩:=k
 have hlt:=(Array.getElem?_eq_some_iff.1 h.x).1
 exact ⟨v3,by rw [← List.append_assoc]; exact k1,h.k.trans h.o k2,h.o.trans k3 h.k.size,(k2.block nb hlt (by have:=L.b1; have:=h.g; omega) h.n).trans h.x,h.g,k3.ne hlt h.n⟩
theorem gN.below (h:gN T w L W s lc al cl v code a b nb cs ty xs w2 v2) (hb:Below w2.heap.size w2 w'):gN T w L W s lc al cl v code a b nb cs ty xs w' v2:=
 ⟨h.i.below hb,h.k.trans h.o (Kg.of_below hb),h.o,(hb.block nb (Array.getElem?_eq_some_iff.1 h.x).1).trans h.x,h.g,h.n⟩
theorem gN.fin (h:gN T w L W s lc al cl v code a b nb cs ty xs w2 v2) (e:xs=ys):uD T w L W s lc al cl v code a b ys w2:=by
 subst e; exact ⟨v2,h.i,h.k,h.o⟩
end
set_option maxHeartbeats 2000000 in
set_option maxRecDepth 100000 in
theorem eU {w:World} {L:GL} {W:Wo} {s:iE} {lc:List ByteArray} {al:Option Addr} {cl:Nat} {v:Value} {code:List bS} {a b:Int} (h:dX 90 w L W s lc al cl v code a b) (x:bS) (hl:code.length + 1≤1000000000000):
 Calls Tryz.prog 31 #[.pointer (some ⟨L.gb,0,none⟩),Sm x] w fun e w'=>e= .returned (.tuple #[])∧uD 90 w L W s lc al cl v code a b [{x with st:=b}] w':=by
 obtain ⟨ao,cap,rfl,hcap,-⟩:=h.form
 obtain ⟨hlt,-,-,-,-,-,-,-,c7,c8,c9,cf⟩:=h.cells
 have HI:=Lib.hid h
 have HL:=Lib.hid hl
 clear h hl
 unfold Sm
 go_enter Tryz.func31,Tryz.ntmps31
 go_upto_region 2 with fail
 obtain ⟨nb,hnb⟩: ∃n,w.heap.size=n:=⟨_,rfl⟩
 generalize hW:World.alloc w _=wq
 have HB:Hid (Below w.heap.size w wq):=Lib.hid (by rw [← hW]; exact aj _ _)
 have HX:Hid (wq.heap[nb]? =some (.cells (kY {x with st:=b}).toArray 42 (0,0))):=Lib.hid (by rw [← hW,← hnb]; exact heap_alloc_new _ _)
 have HQ:=Lib.hid (HI.out.below HB.out)
 have lI:Hid (L.B1≤nb∧nb < wq.heap.size∧L.gb < wq.heap.size∧L.gb≠nb∧(Value.slice ao code.length cap).ownBlock≠some nb):=Lib.hid (by
  have h1:=HI.out.sz; have h2:=L.b1
  refine ⟨by omega,(Array.getElem?_eq_some_iff.1 HX.out).1,(Array.getElem?_eq_some_iff.1 HQ.out.blk).1,by omega,fun e=> ?_⟩
  have:=(HI.out.own _ e).2; omega)
 have HGV:Hid ((Value.slice ao code.length cap).ownBlock≠some L.gb):=Lib.hid (fun e=>by have:=(HI.out.own _ e).1; have:=L.b1; omega)
 have YN:=Lib.hid HQ.out.cells.2.2.2.2.2.2.2.2.1
 have HOW:Hid (∀k,(Value.slice ao code.length cap).ownBlock=some k→k < wq.heap.size):=Lib.hid (fun k e=>(HQ.out.own k e).2)
 rw [hnb]
 clear hW hnb c7 c8 c9 cf hlt
 refine Eo (qB wq 4 6 7 10 (V8 42 6 wq L.B1 (Value.slice ao code.length cap).ownBlock (code.length + 1) (code.flatMap kY++kY {x with st:=b})) ⟨L.gb,7,none⟩ (Ry (code.length + 1)) (kY {x with st:=b}).toArray 42) (Ag.le wq.heap.size) [9,10,11,12,13,14,15,16,17,18] ⟨none,false,none⟩ (by kernel_rfl) (by kernel_rfl) (fun g w=>Ag.le_refl _ g w) (by rfl) qB.start ?_
 apply og.step
 case aD=>
  intro D A g w' hDn hC hO hD
  have e0:=hO 0 (by rfl)
  simp [Act.eval] at e0
  simp [oP,pG,au,Act.eval,Region.binds] at hD
  simp [go_sem,vS,Oper.wp,hD,e0]
  exact kr.mk (Ag.le_refl _ _ _) (hC.skip _ (by decide)) (pG.mk _ _ _)
 apply og.step
 case aD=>
  intro D A g w' hDn hC hO hD
  have e0:=hO 0 (by rfl)
  simp [Act.eval] at e0
  simp [oP,pG,au,Act.eval,Region.binds] at hD
  simp [go_sem,vS,Oper.wp,hD,e0]
  exact kr.mk (Ag.le_refl _ _ _) (hC.skip _ (by decide)) (pG.mk _ _ _)
 apply og.step
 case aD=>
  intro D A g w' hDn hC hO hD
  simp [oP,pG,au,Act.eval,Region.binds] at hD
  simp [go_sem,vS,Oper.wp,hD]
  exact kr.mk (Ag.le_refl _ _ _) (hC.skip _ (by decide)) (pG.mk _ _ _)
 apply og.step
 case aD=>
  intro D A g w' hDn hC hO hD
  simp [oP,pG,au,Act.eval,Region.binds] at hD
  simp [go_sem,vS,Oper.wp,hD]
  exact kr.mk (Ag.le_refl _ _ _) (hC.skip _ (by decide)) (pG.mk _ _ _)
 refine og.some (fun v g _=>v= .slice ao code.length cap∧g.h=true) (fun v g w g' w' hle h=>⟨h.1,hle.2.1 h.2⟩) ?_ ?_
 ·intro D A g w' hDn hC hO hD
  simp [oP,pG,au,Act.eval,Region.binds] at hD
  obtain ⟨hp,hle,hm⟩:=hC.mk8 hDn (by decide)
  have z3:=((hC.pre hp).cell (p:=⟨L.gb,7,none⟩) lI.out.2.2.1).trans YN.out
  simp [go_sem,vS,Oper.wp,hD,z3]
  exact kr.mk hle hm ⟨rfl,rfl⟩
 simp only [List.nil_append,List.cons_append]
 apply og.step
 case aD=>
  intro D A g w' hDn hC hO hD
  have e3:=hO 3 (by rfl)
  simp [Act.eval] at e3
  have zc:=fun (j:Nat) (u:Value) (hu:(kY {x with st:=b})[j]? =some u)=>hC.cell lI.out.2.1 lI.out.2.2.2.2 lI.out.2.2.2.1 (aB (j:=j) HX.out (by simpa using hu))
  have z0:=zc 0 _ rfl
  have z1:=zc 1 _ rfl
  have z2:=zc 2 _ rfl
  have z3:=zc 3 _ rfl
  have z4:=zc 4 _ rfl
  have z5:=zc 5 _ rfl
  simp [oP,pG,au,Act.eval,Region.binds] at hD
  simp [go_sem,vS,Oper.wp,hD,e3,z0,z1,z2,z3,z4,z5]
  exact kr.mk (Ag.le_refl _ _ _) (hC.skip _ (by decide)) (pG.mk _ _ _)
 refine og.some (fun v g _=> ∃b,v= .slice (some ⟨b,0,none⟩) 1 1∧g.o=some b) (fun v g w g' w' hle h=>by obtain ⟨b,h1,h2⟩:=h; exact ⟨b,h1,hle.1 b h2⟩) ?_ ?_
 ·intro D A g w' hDn hC hO hD
  simp [oP,pG,au,Act.eval,Region.binds] at hD
  simp [go_sem,vS,Oper.wp,hD]
  have hM:=hC.Zw hDn (by decide)
  exact kr.mk hM.1 hM.2 ⟨_,rfl,rfl⟩
 refine og.some (fun v g _=> ∃q,g.p=some q∧v=Ry (code.length + 1) q) (fun v g w g' w' hle h=>by obtain ⟨q,h1,h2⟩:=h; exact ⟨q,hle.2.2.1 q h1,h2⟩) ?_ ?_
 ·intro D A g w' hDn hC hO hD
  simp [oP,pG,au,Act.eval,Region.binds] at hD
  obtain ⟨⟨hs1,hh⟩,bb,hs2,hb⟩:=hD
  simp only [vS,if_true]
  have hbl:=hC.pre (hC.FJ hDn)
  obtain ⟨ap8,ad5⟩:=hC.row bb hb
  have hown:=(HQ.out.below hbl).row
  obtain ⟨i0,hi0,hz0,hz1,hz2⟩:=Ll Xv
  refine wp_append_lies w' _ _ _ (by rfl) L.B1 42 i0 _ 6 48 Tryz.underlying43 hi0 hz0 hz1 hz2 (by rfl) (by omega) (.slice ao code.length cap) code.length (code.flatMap kY) (by simp [Act.eval,hs1]) hown ⟨bb,0,none⟩ 1 1 (kY {x with st:=b}) (by simp [Act.eval,hs2]) (by rfl) (iQ ad5) (ae2 _) (by decide) (by have:=HL.out; unfold maxLen; omega) (by have:=HL.out; omega) (HQ.out.below hbl).sz _ rfl ?_
  intro g' cap' w5 hown5 hgr hmv kH
  have hM:=hC.aa2 (q:=(g',cap')) (w':=w5) hDn (by decide) hb hh ⟨hown5,eY (ET hbl) hgr,by rcases hmv with h | h; exact .inl h; exact .inr (by rw [h]; exact hbl.size)⟩ hgr.size (fun k h1 h2=>hgr.block k h2 (fun e=>by have:=HOW.out k e.symm; omega))
  exact kr.mk hM.1 hM.2 ⟨(g',cap'),rfl,rfl⟩
 simp only [List.nil_append,List.cons_append]
 apply og.step
 case aD=>
  intro D A g w' hDn hC hO hD
  simp [oP,pG,au,Act.eval,Region.binds] at hD
  simp [go_sem,vS,Oper.wp,hD]
  exact kr.mk (Ag.le_refl _ _ _) (hC.skip _ (by decide)) (pG.mk _ _ _)
 apply og.step
 case aD=>
  intro D A g w' hDn hC hO hD
  simp [oP,pG,au,Act.eval,Region.binds] at hD
  simp [go_sem,vS,Oper.wp,hD]
  exact kr.mk (Ag.le_refl _ _ _) (hC.skip _ (by decide)) (pG.mk _ _ _)
 refine og.some (fun _ _ _=>True) (fun _ _ _ _ _ _ _=>trivial) ?_ ?_
 ·intro D A g w' hDn hC hO hD
  simp [oP,pG,au,Act.eval,Region.binds] at hD
  obtain ⟨hs1,⟨qa,qc,hq,hs2⟩,-⟩:=hD
  have hR:=hC.post (qa,qc) hq hDn
  have hblk:=hR.2.1.block L.gb lI.out.2.2.1 (fun e=>HGV.out e.symm)
  have z3:=(World.cell?_of_block (a:=⟨L.gb,7,none⟩) hblk).trans YN.out
  have f3:w'.frozen? ⟨L.gb,7,none⟩=false:=by
   rw [World.frozen?_of_block (a:=⟨L.gb,7,none⟩) hblk]; exact bH HQ.out.blk
  unfold Ry at hs2
  simp [go_sem,vS,Oper.wp,hs1,hs2,z3,f3]
  have hM:=hC.ae3 hDn hq lI.out.2.2.1 (by decide) (by decide)
  exact kr.Gh (v:=undef) hM.1 hM.2 trivial
 refine og.done ?_
 intro D g wz hD hC
 simp only [Iz,List.nil_append,List.cons_append,List.map_cons,List.map_nil]
 intro v0 h0 v1 h1 v2 h2 v3 h3 v4 h4 v5 h5 v6 h6 v7 h7 v8 h8 v9 h9 v10 h10
 obtain ⟨q,hq,rfl⟩:=h7
 obtain ⟨w5,hR,hW⟩:=hC.fin q hq (hD 10 (by simp))
 have HP:=Lib.hid (HI.out.push (wz:=wq) (w4:=w5) (g':=q.1) (cap':=q.2) {x with st:=b} HB.out hR.1 hR.2.1 hR.2.2)
 clear hC hD
 refine xq ?_
 go_simp
 go_wp2_with fail
 refine bodyPost_end (v:= .tuple #[]) (by simp [results,Tryz.results31,go_sem]) rfl ⟨rfl,?_⟩
 exact ⟨_,HP.out⟩
end Go.Proofs.YtdajkddgnfgijaaGreatDoor
end
section
set_option linter.unusedVariables false
set_option linter.unusedSimpArgs false
namespace Go.Proofs.YtdajkddgnfgijaaGreatDoor
open Go.RowKit
namespace Md
theorem zo (W:Wo) (lc:List ByteArray) (st op n:Int) (nm:ByteArray) (kids rest:bL) (d:Int):zN W lc st (.cons op n nm kids rest) d=jX W lc st op n nm kids d++zN W lc st rest (d + 1):=rfl
theorem lM (op n:Int) (nm:ByteArray) (kids rest:bL):mO (.cons op n nm kids rest)=(jl op n nm kids && mO rest):=rfl
theorem zI (W:Wo) (op n:Int) (nm:ByteArray) (kids rest:bL):BX W (.cons op n nm kids rest)=(uo W op nm kids && BX W rest):=rfl
theorem D5: ∀ {l:bL},l.len=0→l= .nil
 | .nil,_=>rfl
 | .cons _ _ _ _ _,h=>by simp [bL.len] at h
theorem KJ: ∀ {l:bL},l.len=1→ ∃o n m k,l= .cons o n m k .nil
 | .nil,h=>by simp [bL.len] at h
 | .cons o n m k r,h=>⟨o,n,m,k,by rw [D5 (l:=r) (by simpa [bL.len] using h)]⟩
theorem U3: ∀ {l:bL},l.len=2→ ∃o n m k o' n' m' k',l= .cons o n m k (.cons o' n' m' k' .nil)
 | .nil,h=>by simp [bL.len] at h
 | .cons o n m k r,h=>by
   obtain ⟨o',n',m',k',e⟩:=KJ (l:=r) (by simpa [bL.len] using h)
   exact ⟨o,n,m,k,o',n',m',k',by rw [e]⟩
theorem Mg {W:Wo} {op n:Int} {nm:ByteArray} {kids:bL} (hs:jl op n nm kids=true) (ho:uo W op nm kids=true):
 (op=1∧kids= .nil)∨(op=2∧kids= .nil)∨(op=3∧0≤W.cell nm∧ ∃o n' m k,kids= .cons o n' m k .nil∧jl o n' m k=true∧uo W o m k=true)∨
 ((op=4∨op=5)∧ ∃o n' m k,kids= .cons o n' m k .nil∧jl o n' m k=true∧uo W o m k=true)∨
 (6≤op∧op≤18∧ ∃o n1 m k o' n2 m' k',kids= .cons o n1 m k (.cons o' n2 m' k' .nil)∧jl o n1 m k=true∧uo W o m k=true∧jl o' n2 m' k'=true∧uo W o' m' k'=true):=by
 unfold jl at hs
 rw [Bool.and_eq_true] at hs
 obtain ⟨h1,h2⟩:=hs
 unfold uo at ho
 rw [Bool.and_eq_true] at ho
 obtain ⟨ho1,ho2⟩:=ho
 unfold CY at h1
 rw [Bool.and_eq_true,beq_iff_eq] at h1
 have hl:=h1.1
 unfold opsOf at hl
 by_cases c1:(op == 1 || op == 2)=true
 ·rw [if_pos c1] at hl
  have hk:=D5 (l:=kids) (by omega)
  rw [Bool.or_eq_true,beq_iff_eq,beq_iff_eq] at c1
  rcases c1 with c | c
  ·exact .inl ⟨c,hk⟩
  ·exact .inr (.inl ⟨c,hk⟩)
 rw [if_neg c1] at hl
 by_cases c2:(op == 3 || op == 4 || op == 5)=true
 ·rw [if_pos c2] at hl
  obtain ⟨o,n',m,k,e⟩:=KJ (l:=kids) (by omega)
  subst e
  rw [lM,Bool.and_eq_true] at h2
  rw [zI,Bool.and_eq_true] at ho2
  rw [Bool.or_eq_true,Bool.or_eq_true,beq_iff_eq,beq_iff_eq,beq_iff_eq] at c2
  rcases c2 with (c | c) | c
  ·subst c
   exact .inr (.inr (.inl ⟨rfl,by simpa using ho1,o,n',m,k,rfl,h2.1,ho2.1⟩))
  ·exact .inr (.inr (.inr (.inl ⟨.inl c,o,n',m,k,rfl,h2.1,ho2.1⟩)))
  ·exact .inr (.inr (.inr (.inl ⟨.inr c,o,n',m,k,rfl,h2.1,ho2.1⟩)))
 rw [if_neg c2] at hl
 by_cases c3:(decide (6≤op) && decide (op≤18))=true
 ·rw [if_pos c3] at hl
  rw [Bool.and_eq_true,decide_eq_true_eq,decide_eq_true_eq] at c3
  obtain ⟨o,n1,m,k,o',n2,m',k',e⟩:=U3 (l:=kids) (by omega)
  subst e
  rw [lM,lM,Bool.and_eq_true,Bool.and_eq_true] at h2
  rw [zI,zI,Bool.and_eq_true,Bool.and_eq_true] at ho2
  exact .inr (.inr (.inr (.inr ⟨c3.1,c3.2,o,n1,m,k,o',n2,m',k',rfl,h2.1,ho2.1,h2.2.1,ho2.2.1⟩)))
 ·rw [if_neg c3] at hl; omega
theorem Ko {W:Wo} {nm:ByteArray} (h:0≤W.cell nm): ∃c,W.cs[(W.cell nm).toNat]? =some c∧W.size nm=c.sz∧c ∈ W.cs∧(W.cell nm).toNat < W.cs.length:=by
 have hlt:=Ux h
 rw [List.length_map] at hlt
 have hlt:(W.cell nm).toNat < W.cs.length:=hlt
 refine ⟨W.cs[(W.cell nm).toNat],List.getElem?_eq_getElem hlt,?_,List.getElem_mem hlt,hlt⟩
 unfold Wo.size
 rw [List.getElem?_eq_getElem hlt]; rfl
theorem Kz {W:Wo} {lc:List ByteArray} {st op n:Int} {nm:ByteArray} {o n1:Int} {m:ByteArray} {k:bL} {d:Int} (h:3≤op):jX W lc st op n nm (.cons o n1 m k .nil) d=jX W lc st o n1 m k d++[Ij W op nm d st]:=by
 conv=>lhs; unfold jX
 rw [if_neg (by simp; omega),zo,zN,List.append_nil]
theorem TF {W:Wo} {lc:List ByteArray} {st op n:Int} {nm:ByteArray} {o n1 o' n2:Int} {m m':ByteArray} {k k':bL} {d:Int} (h:3≤op):jX W lc st op n nm (.cons o n1 m k (.cons o' n2 m' k' .nil)) d=jX W lc st o n1 m k d++jX W lc st o' n2 m' k' (d + 1)++[Ij W op nm d st]:=by
 conv=>lhs; unfold jX
 rw [if_neg (by simp; omega),zo,zo,zN,List.append_nil]
end Md
end Go.Proofs.YtdajkddgnfgijaaGreatDoor
end
section
set_option linter.unusedVariables false
set_option linter.unusedSimpArgs false
namespace Go.Proofs.YtdajkddgnfgijaaGreatDoor
open Go.RowKit
namespace Md
def H7 (W:Wo) (h:aX):Prop:=Al W h=true∧gH h≤1000
def jP (W:Wo) (lc:List ByteArray) (h:aX) (b e:aP) (nx pos:Nat):List bS:=
 yV W lc nx h (fK W lc nx h lc.length) (iI W lc b (nx + 1) (pos + lH h (fK W lc nx h lc.length)))
  (iI W lc e (nx + 1 + bM b) (pos + lH h (fK W lc nx h lc.length) + (iI W lc b (nx + 1) (pos + lH h (fK W lc nx h lc.length))).length + 1)) e.none pos
theorem Qr (W:Wo) (lc:List ByteArray) (h:aX) (b e r:aP) (nx pos:Nat):iI W lc (.cons h b e r) nx pos=jP W lc h b e nx pos++iI W lc r (nx + 1 + bM b + bM e) (pos + (jP W lc h b e nx pos).length):=rfl
theorem SN (W:Wo) (lc:List ByteArray) (h:aX) (b e:aP) (nx pos:Nat):(jP W lc h b e nx pos).length≤gH h + kZ b + kZ e:=by
 unfold jP
 have h1:=IG W lc nx h (iI W lc b (nx + 1) (pos + lH h (fK W lc nx h lc.length))) (iI W lc e (nx + 1 + bM b) (pos + lH h (fK W lc nx h lc.length) + (iI W lc b (nx + 1) (pos + lH h (fK W lc nx h lc.length))).length + 1)) e.none pos
 have h2:=oC W lc b (nx + 1) (pos + lH h (fK W lc nx h lc.length))
 have h3:=oC W lc e (nx + 1 + bM b) (pos + lH h (fK W lc nx h lc.length) + (iI W lc b (nx + 1) (pos + lH h (fK W lc nx h lc.length))).length + 1)
 omega
def stA (h:aX) (b e:aP) (s:Sl):Array Value:= #[.int .i64 h.op,.int .i64 h.line,.string h.nm,.string h.arg,.slice s.dZ h.idx.len s.dG,.int .i64 h.dN,.int .i64 h.xn,.string h.dM,.slice s.dH h.aR.len s.bR,.slice s.bV b.len s.bC,.slice s.eB e.len s.dK]
end Md
open Md
def IX (w:World) (B:Nat) (h:aX) (b e:aP) (s:Sl):Prop:=sj h b e∧h.idx.At w B s.dZ 0∧h.aR.At w B s.dH 0∧b.At w B s.bV 0∧e.At w B s.eB 0
theorem IX.below {w w':World} {B:Nat} {h:aX} {b e:aP} {s:Sl} (hi:IX w B h b e s) (hb:Below B w w'):IX w' B h b e s:=
 ⟨hi.1,hi.2.1.below hb,hi.2.2.1.below hb,hi.2.2.2.1.below hb,hi.2.2.2.2.below hb⟩
theorem FZ {w:World} {B:Nat} {h:aX} {b e r:aP} {ao:Option Addr} {k:Nat} (hat:(aP.cons h b e r).At w B ao k): ∃bl off s,ao=some ⟨bl,off,none⟩∧bl < B∧IX w B h b e s∧
 (∀j u,(stA h b e s)[j]? =some u→w.cell? ⟨bl,off + k * 11 + j,none⟩=some u)∧r.At w B ao (k + 1):=by
 obtain ⟨⟨b',off,dZ,dG,dH,bR,bV,bC,eB,dK,e',hB,c0,c1,c2,c3,c4,c5,c6,c7,c8,c9,c10,hok,h1,h2,h3,h4⟩,hr⟩:=hat
 refine ⟨b',off,⟨dZ,dG,dH,bR,bV,bC,eB,dK⟩,e',hB,⟨hok,h1,h2,h3,h4⟩,fun j u hu=> ?_,hr⟩
 have hj:j < 11:=(Array.getElem?_eq_some_iff.1 hu).1
 have:j=0∨j=1∨j=2∨j=3∨j=4∨j=5∨j=6∨j=7∨j=8∨j=9∨j=10:=by omega
 rcases this with rfl | rfl | rfl | rfl | rfl | rfl | rfl | rfl | rfl | rfl | rfl <;> (simp [stA] at hu; subst hu; first | exact c0 | exact c1 | exact c2 | exact c3 | exact c4 | exact c5 | exact c6 | exact c7 | exact c8 | exact c9 | exact c10)
structure iB (w:World) (L:GL) (W:Wo) (code:List bS) (h:aX) (b e:aP) (sl:Sl) (nx:Nat):Prop where
 m:IX w L.B0 h b e sl
 sh:oK h b.len e.len=true
 sb:iy b=true
 se:iy e=true
 ok:H7 W h
 ob:b.Ev (H7 W)
 oe:e.Ev (H7 W)
 len:code.length + (gH h + kZ b + kZ e)≤1000000000000
 cnt:nx + (gH h + kZ b + kZ e)≤1000000000000
theorem iB.below {w w':World} {L:GL} {W:Wo} {code:List bS} {h:aX} {b e:aP} {sl:Sl} {nx:Nat} (p:iB w L W code h b e sl nx) (hb:Below L.B0 w w'):iB w' L W code h b e sl nx:=
 ⟨p.m.below hb,p.sh,p.sb,p.se,p.ok,p.ob,p.oe,p.len,p.cnt⟩
theorem iB.b7 {w:World} {L:GL} {W:Wo} {code:List bS} {h:aX} {b e:aP} {sl:Sl} {nx:Nat} (p:iB w L W code h b e sl nx):b.len≤maxLen:=p.m.1.2.2.2.2.2.2.1
theorem iB.e7 {w:World} {L:GL} {W:Wo} {code:List bS} {h:aX} {b e:aP} {sl:Sl} {nx:Nat} (p:iB w L W code h b e sl nx):e.len≤maxLen:=p.m.1.2.2.2.2.2.2.2
def oV (Q:Int→Int→Prop) (T:TypeId) (w:World) (L:GL) (W:Wo) (s:iE) (lc:List ByteArray) (al:Option Addr) (cl:Nat) (v:Value) (code:List bS) (xs:List bS) (w':World):Prop:=
 ∃v' a' b',Q a' b'∧dX T w' L W s lc al cl v' (code++xs) a' b'∧Kg L v w w'∧kG w v v'
section
variable {Q:Int→Int→Prop} {T ty:TypeId} {w w1 w2 w':World} {L:GL} {W:Wo} {s:iE} {lc:List ByteArray} {al:Option Addr} {cl nb:Nat} {v v2:Value} {code:List bS} {a b:Int} {xs ys:List bS} {cs:Array Value}
theorem gN.list (h:gN T w L W s lc al cl v code a b nb cs ty xs w2 v2) (k:oV Q T w2 L W s lc al cl v2 (code++xs) ys w'): ∃v3 a' b',Q a' b'∧gN T w L W s lc al cl v code a' b' nb cs ty (xs++ys) w' v3:=by
 obtain ⟨v3,a',b',hq,k1,k2,k3⟩:=k
 have hlt:=(Array.getElem?_eq_some_iff.1 h.x).1
 exact ⟨v3,a',b',hq,by rw [← List.append_assoc]; exact k1,h.k.trans h.o k2,h.o.trans k3 h.k.size,(k2.block nb hlt (by have:=L.b1; have:=h.g; omega) h.n).trans h.x,h.g,k3.ne hlt h.n⟩
theorem gN.nL (h:gN T w L W s lc al cl v code a b nb cs ty xs w2 v2) (hq:Q a b) (e:xs=ys):oV Q T w L W s lc al cl v code ys w2:=by
 subst e; exact ⟨v2,a,b,hq,h.i,h.k,h.o⟩
theorem gN.setOf (h:gN T w L W s lc al cl v code a b nb cs ty xs w2 v2) {j:Nat} {u:Value} {a' b':Int} (hi:dX T (w2.setCell ⟨L.gb,j,none⟩ u) L W s lc al cl v2 (code++xs) a' b'):gN T w L W s lc al cl v code a' b' nb cs ty xs (w2.setCell ⟨L.gb,j,none⟩ u) v2:=
 ⟨hi,h.k.trans h.o (Kg.set _ _ _),h.o,(bJ _ _ _ rfl (by have:=L.b1; have:=h.g; show L.gb≠nb; omega)).trans h.x,h.g,h.n⟩
theorem gN.Qp (h:gN T w L W s lc al cl v code a b nb cs ty xs w2 v2) (x:Int):gN T w L W s lc al cl v code x b nb cs ty xs (w2.setCell ⟨L.gb,8,none⟩ (.int .i64 x)) v2:=h.setOf (h.i.Qp x)
theorem gN.je (h:gN T w L W s lc al cl v code a b nb cs ty xs w2 v2) (x:Int):gN T w L W s lc al cl v code a x nb cs ty xs (w2.setCell ⟨L.gb,9,none⟩ (.int .i64 x)) v2:=h.setOf (h.i.je x)
theorem dX.M9 (h:dX T w L W s lc al cl v code a b) {k:Nat} {x:bS} (hx:code[k]? =some x): ∃g cap,v= .slice (some ⟨g,0,none⟩) code.length cap∧L.B1≤g∧(∀j u,(kY x)[j]? =some u→w.cell? ⟨g,k * 6 + j,none⟩=some u)∧ ∀j,w.frozen? ⟨g,j,none⟩=false:=by
 have hk:=(List.getElem?_eq_some_iff.1 hx).1
 rcases h.row.2 with ⟨-,hn⟩ | ⟨g,cap,cur,rfl,hb,hg,h1,h2,h3,h4⟩
 ·omega
 ·refine ⟨g,cap,rfl,hb,fun j u hu=> ?_,fun _=>bH hg⟩
  have hF:=flat_get sZ code k x j u hx hu
  rw [← h4] at hF
  have hlt:=(List.getElem?_eq_some_iff.1 hF).1
  rw [List.getElem?_take_of_lt (by rw [List.length_take] at hlt; omega)] at hF
  exact aB hg (by rw [← hF]; simp)
theorem gN.patch {g cap:Nat} (h:gN T w L W s lc al cl v code a b nb cs ty xs w2 (.slice (some ⟨g,0,none⟩) (code++xs).length cap)) (i j:Nat) (x y:bS) (u:Value) (hx:xs[i]? =some x) (hj:j < 6) (hy:kY y=(kY x).set j u):
 gN T w L W s lc al cl v code a b nb cs ty (xs.set i y) (w2.setCell ⟨g,(code.length + i) * 6 + j,none⟩ u) (.slice (some ⟨g,0,none⟩) (code++xs).length cap):=by
 have hx':(code++xs)[code.length + i]? =some x:=by rw [List.getElem?_append_right (by omega)]; simpa using hx
 obtain ⟨p1,p2⟩:=h.i.patch (code.length + i) j x y u hx' hj hy
 have hlt:=(Array.getElem?_eq_some_iff.1 h.x).1
 have e:(code++xs).set (code.length + i) y=code++xs.set i y:=by rw [List.set_append_right _ _ (by omega)]; simp
 rw [e] at p1
 exact ⟨p1,h.k.trans h.o p2,h.o,(p2.block nb hlt (by have:=L.b1; have:=h.g; omega) h.n).trans h.x,h.g,h.n⟩
end
end Go.Proofs.YtdajkddgnfgijaaGreatDoor
end
