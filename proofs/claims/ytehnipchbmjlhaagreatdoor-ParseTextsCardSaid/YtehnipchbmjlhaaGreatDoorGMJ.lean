/-
  The checker's state as data, and the contract of its statement at every operator.
  Contract of the checker's statement at every operator, over the checker's state.
  What the checker answers to a list of statements: plain, and its parts that the walk needs.
  A statement put on the checker's row of those that are around, and taken off. No walk in sight.
-/
import Derived.Test.YtehnipchbmjlhaaGreatDoorGMG
import Derived.Test.YtehnipchbmjlhaaGreatDoorGMH
import Derived.Test.YtehnipchbmjlhaaGreatDoorGMI
import Derived.Test.YtehnipchbmjlhaaGreatDoorGMB
section
namespace Go.Proofs.YtehnipchbmjlhaaGreatDoor
open Go.RowKit
namespace Md
structure Fr where
 h:aW
 b:aI
 e:aI
 s:Sl
def yO (h:aW) (b e:aI) (s:Sl):List Value:=[.int .i64 h.op,.int .i64 h.line,.string h.nm,.string h.arg,.slice s.eP h.idx.len s.dK,.int .i64 h.bM,.int .i64 h.xn,.string h.bP,.slice s.dJ h.aJ.len s.bS,.slice s.bR b.len s.aZ,.slice s.dY e.len s.dA]
def Dx:List Fr→List Value
 | []=>[]
 | x ::r=>yO x.h x.b x.e x.s++Dx r
theorem L9: ∀A:List Fr,(Dx A).length=A.length * 11
 | []=>rfl
 | x ::r=>by simp only [Dx,List.length_append,L9 r,List.length_cons]; simp [yO]; omega
theorem Io: ∀(A:List Fr) (x:Fr),Dx (A++[x])=Dx A++yO x.h x.b x.e x.s
 | [],x=>by simp [Dx]
 | y ::r,x=>by simp [Dx,Io r x]
def xg (w:World) (B:Nat) (h:aW) (b e:aI) (s:Sl):Prop:=oD h b e∧h.idx.At w B s.eP 0∧h.aJ.At w B s.dJ 0∧b.At w B s.bR 0∧e.At w B s.dY 0
theorem xg.below {w w':World} {B:Nat} {h:aW} {b e:aI} {s:Sl} (hi:xg w B h b e s) (hb:Below B w w'):xg w' B h b e s:=
 ⟨hi.1,hi.2.1.below hb,hi.2.2.1.below hb,hi.2.2.2.1.below hb,hi.2.2.2.2.below hb⟩
theorem xg.use {w:World} {B:Nat} {h:aW} {b e:aI} {s:Sl} (hi:xg w B h b e s) (hb:B≤w.heap.size):Ba w h b e s:=
 ⟨hi.1,hi.2.1.mono hb,hi.2.2.1.mono hb,hi.2.2.2.1.mono hb,hi.2.2.2.2.mono hb⟩
def ao7 (w:World) (B:Nat) (A:List Fr):Prop:= ∀x ∈ A,xg w B x.h x.b x.e x.s
end Md
open Md
def ckV (p:Pr) (bq bQ:Option Addr) (bg bn:Nat) (i:Int) (v:Value) (bs bt:Nat):Array Value:= #[.slice bq p.ds.length bg,.slice bQ p.ts.length bn,.int .i64 i,v,.map (some bs),.map (some bt)]
structure Lay where
 B0:Nat
 B1:Nat
 bc:Nat
 bs:Nat
 bt:Nat
 c0:B0≤bc
 s0:B0≤bs
 t0:B0≤bt
 c1:bc < B1
 s1:bs < B1
 t1:bt < B1
 cs:bc≠bs
 ct:bc≠bt
 st:bs≠bt
 kw:0 < B0
def M6 (w:World) (B0:Nat) (p:Pr) (bq bQ:Option Addr):Prop:=p.ds.length≤maxLen∧p.ts.length≤maxLen∧gU w B0 p.ds bq 0∧gP w B0 p.ts bQ 0∧dL w
theorem M6.below {w w':World} {L:Lay} {p:Pr} {bq bQ:Option Addr} (h:M6 w L.B0 p bq bQ) (hb:Below L.B0 w w'):M6 w' L.B0 p bq bQ:=
 ⟨h.1,h.2.1,h.2.2.1.below hb,h.2.2.2.1.below hb,h.2.2.2.2.below hb L.kw⟩
theorem M6.use {w:World} {B0:Nat} {p:Pr} {bq bQ:Option Addr} (h:M6 w B0 p bq bQ) (hB:B0≤w.heap.size):p.At w bq bQ:=⟨h.1,h.2.1,h.2.2.1.mono hB,h.2.2.2.1.mono hB⟩
structure Kp (L:Lay) (v:Value) (w w':World):Prop where
 os:w'.os=w.os
 tape:w'.tape=w.tape
 output:w'.output=w.output
 size:w.heap.size≤w'.heap.size
 block: ∀k,k < w.heap.size→k≠L.bc→k≠L.bs→k≠L.bt→v.ownBlock≠some k→w'.heap[k]? =w.heap[k]?
def A8 (w:World) (v v':Value):Prop:=v'.ownBlock=v.ownBlock∨ ∃g,v'.ownBlock=some g∧w.heap.size≤g
theorem Kp.refl (L:Lay) (v:Value) (w:World):Kp L v w w:=⟨rfl,rfl,rfl,Nat.le_refl _,fun _ _ _ _ _ _=>rfl⟩
theorem Kp.of_below {L:Lay} {v:Value} {w w':World} (h:Below w.heap.size w w'):Kp L v w w':=⟨h.os,h.tape,h.output,h.size,fun k hk _ _ _ _=>h.block k hk⟩
theorem Kp.trans {L:Lay} {v v1:Value} {w w1 w2:World} (h:Kp L v w w1) (ho:A8 w v v1∨v1.ownBlock=none) (k:Kp L v1 w1 w2):Kp L v w w2:=
 ⟨k.os.trans h.os,k.tape.trans h.tape,k.output.trans h.output,Nat.le_trans h.size k.size,fun j hj hc hs ht hv=>(k.block j (Nat.lt_of_lt_of_le hj h.size) hc hs ht (by
   rcases ho with (e | ⟨g,e,hg⟩) | e
   ·rw [e]; exact hv
   ·rw [e]; intro e'; injection e' with e'; omega
   ·rw [e]; simp)).trans (h.block j hj hc hs ht hv)⟩
theorem Kp.below {L:Lay} {v:Value} {w w':World} (h:Kp L v w w') (hB:L.B0≤w.heap.size) (hv: ∀k,v.ownBlock=some k→L.B1≤k):Below L.B0 w w':=
 ⟨h.os,h.tape,h.output,h.size,fun k hk=>h.block k (by omega) (by have:=L.c0; omega) (by have:=L.s0; omega) (by have:=L.t0; omega) (fun e=>by have:=hv k e; have:=L.c0; have:=L.c1; omega)⟩
theorem A8.trans {w w1:World} {v v1 v2:Value} (h:A8 w v v1) (k:A8 w1 v1 v2) (hs:w.heap.size≤w1.heap.size):A8 w v v2:=by
 rcases k with e | ⟨g,e,hg⟩
 ·rcases h with e' | ⟨g,e',hg⟩
  ·exact .inl (e.trans e')
  ·exact .inr ⟨g,e.trans e',hg⟩
 ·exact .inr ⟨g,e,Nat.le_trans hs hg⟩
theorem A8.ne {w:World} {v v':Value} {k:Nat} (h:A8 w v v') (hk:k < w.heap.size) (hv:v.ownBlock≠some k):v'.ownBlock≠some k:=by
 rcases h with e | ⟨g,e,hg⟩
 ·rw [e]; exact hv
 ·rw [e]; intro e'; injection e' with e'; omega
structure uL (w:World) (L:Lay) (p:Pr) (bq bQ:Option Addr) (bg bn:Nat) (i:Int) (A:List Fr) (f g:List UInt8→Bool) (n m:Nat) (v:Value):Prop where
 blk:w.heap[L.bc]? =some (.cells (ckV p bq bQ bg bn i v L.bs L.bt) 140 (0,0))
 row:w.ownsRow L.B1 89 11 v A.length (Dx A)
 ms:mh w L.bs n f
 mt:mh w L.bt m g
 sz:L.B1≤w.heap.size
 dat:M6 w L.B0 p bq bQ
 Mf:ao7 w L.B0 A
section
variable {w:World} {L:Lay} {p:Pr} {bq bQ:Option Addr} {bg bn:Nat} {i:Int} {A:List Fr} {f g:List UInt8→Bool} {n m:Nat} {v:Value}
theorem uL.b0 (h:uL w L p bq bQ bg bn i A f g n m v):L.B0≤w.heap.size:=by have:=h.sz; have:=L.c0; have:=L.c1; omega
theorem cZ {w:World} {b j:Nat} {cs:Array Value} {t:TypeId} {fr:Nat × Nat} {u:Value} (h:w.heap[b]? =some (.cells cs t fr)) (hu:cs[j]? =some u):b < w.heap.size∧w.cell? ⟨b,j,none⟩=some u:=
 ⟨(Array.getElem?_eq_some_iff.1 h).1,by rw [cell_of_row w b j cs t fr h]; exact hu⟩
theorem uL.below {w':World} (h:uL w L p bq bQ bg bn i A f g n m v) (hb:Below w.heap.size w w'):uL w' L p bq bQ bg bn i A f g n m v where
 blk:=(hb.block _ (Array.getElem?_eq_some_iff.1 h.blk).1).trans h.blk
 row:=h.row.kept (row:=none) ⟨hb.os,hb.tape,hb.output,hb.size,fun k hk _=>hb.block k hk⟩ (by cases hv:v.ownBlock <;> simp)
 ms:=h.ms.next hb
 mt:=h.mt.next hb
 sz:=Nat.le_trans h.sz hb.size
 dat:=h.dat.below (hb.mono h.b0)
 Mf:=fun x hx=>(h.Mf x hx).below (hb.mono h.b0)
theorem uL.own_ne (h:uL w L p bq bQ bg bn i A f g n m v) {b:Nat} (hb:b < L.B1):v.ownBlock=none∨v.ownBlock≠some b:=by
 cases hv:v.ownBlock with
 | none=>exact .inl rfl
 | some k=>refine .inr (fun e=> ?_); injection e with e; subst e; have:=(h.row.lt _ hv).1; omega
theorem uL.mU {w':World} {g':List UInt8→Bool} {m':Nat} (h:uL w L p bq bQ bg bn i A f g n m v) (hg:w.grownBy w' (some L.bt)) (hm:mh w' L.bt m' g'):uL w' L p bq bQ bg bn i A f g' n m' v:=by
 have hbel:=dX hg L.t0 h.b0
 exact {blk:=(hg.block _ (Array.getElem?_eq_some_iff.1 h.blk).1 (by simp; exact L.ct)).trans h.blk,row:=h.row.kept hg (h.own_ne L.t1),ms:=h.ms.same (hg.block _ h.ms.lt (by simp; exact L.st)),mt:=hm,sz:=Nat.le_trans h.sz hg.size,dat:=h.dat.below hbel,Mf:=fun x hx=>(h.Mf x hx).below hbel}
end
end Go.Proofs.YtehnipchbmjlhaaGreatDoor
end
section
namespace Go.Proofs.YtehnipchbmjlhaaGreatDoor
open Go.RowKit
open Md
def fS (h:aW) (f:List UInt8→Bool):List UInt8→Bool:=if h.op == 12 then Mi f h.nm.toList else f
def gS (h:aW) (g:List UInt8→Bool):List UInt8→Bool:=if h.op == 14 then Mi g h.nm.toList else g
def nS (k:Int) (h:aW) (n:Nat):Nat:=if h.op == k then n + 1 else n
def Zg (w:World) (L:Lay) (p:Pr) (bq bQ:Option Addr) (bg bn:Nat) (i:Int) (A:List Fr) (h:aW) (f g:List UInt8→Bool) (n m:Nat) (v:Value) (r:Int) (e:Ending) (w':World):Prop:=
 e= .returned (.int .i64 r)∧Kp L (.slice none 0 0) w w'∧uL w' L p bq bQ bg bn i A (fS h f) (gS h g) (nS 12 h n) (nS 14 h m) v
theorem Zg.plain {w w':World} {L:Lay} {p:Pr} {bq bQ:Option Addr} {bg bn:Nat} {i:Int} {A:List Fr} {h:aW} {f g:List UInt8→Bool} {n m:Nat} {v:Value} {r x:Int} {e:Ending}
 (hI:uL w L p bq bQ bg bn i A f g n m v) (h12:(h.op == 12)=false) (Gj:(h.op == 14)=false) (hr:r=x) (hp:e= .returned (.int .i64 x)∧Below w.heap.size w w'):Zg w L p bq bQ bg bn i A h f g n m v r e w':=by
 subst hr
 refine ⟨hp.1,Kp.of_below hp.2,?_⟩
 unfold fS gS nS
 rw [h12,Gj]
 exact hI.below hp.2
end Go.Proofs.YtehnipchbmjlhaaGreatDoor
end
section
namespace Go.Proofs.YtehnipchbmjlhaaGreatDoor
open Go.RowKit
namespace Md
def aI.app:aI→aI→aI
 | .nil,s=>s
 | .cons h b e r,s=> .cons h b e (r.app s)
def mem (l:List (List UInt8)):List UInt8→Bool:=fun x=>l.contains x
def Few (ns:List (List UInt8)) (f:List (List UInt8)):Prop:=f.Nodup∧ ∀x ∈ f,x ∈ ns
theorem Few.le {ns f:List (List UInt8)} (h:Few ns f):f.length≤ns.length:=h.1.length_le_of_subset (fun _ hx=>h.2 _ hx)
end Md
open Md
theorem mem_cons (x:List UInt8) (f:List (List UInt8)):Mi (mem f) x=mem (x ::f):=by
 funext y; unfold Mi mem; by_cases h:y=x
 ·subst h; simp
 ·rw [if_neg h]; simp [h]
end Go.Proofs.YtehnipchbmjlhaaGreatDoor
end
section
set_option linter.unusedVariables false
namespace Go.Proofs.YtehnipchbmjlhaaGreatDoor
open Go.RowKit
open Md
def PC (w4:World) (g o:Nat) (vs:List Value) (a:Addr) (v:Value):List Bool→World→Prop
 | [x,y],w'=>w'=(if y then (if x then w4.setCells g o vs else w4).setCell a v else (if x then w4.setCells g o vs else w4))
 | _,_=>False
theorem PC.bits {w4:World} {g o:Nat} {vs:List Value} {a:Addr} {v:Value} : ∀ {c:List Bool} {w':World},PC w4 g o vs a v c w'→ ∃x y,c=[x,y]
 | [x,y],_,_=>⟨x,y,rfl⟩
 | [],_,h=>h.elim
 | [_],_,h=>h.elim
 | _ ::_ ::_ ::_,_,h=>h.elim
theorem PC.skip {w4:World} {g o:Nat} {vs:List Value} {a:Addr} {v:Value} {a1 a2 i:Nat} {c:List Bool} {w':World} (h1:(a1 == i)=false) (h2:(a2 == i)=false) (h:PC w4 g o vs a v c w'):PC w4 g o vs a v (nC [a1,a2] c i) w':=by
 obtain ⟨x,y,rfl⟩:=h.bits
 simp only [nC,h1,h2,Bool.or_false]; exact h
section
variable {w:World} {L:Lay} {p:Pr} {bq bQ:Option Addr} {bg bn:Nat} {i:Int} {A:List Fr} {f g:List UInt8→Bool} {n m:Nat} {v:Value}
theorem uL.push {wz w4:World} {g' cap':Nat} {zs:List Value} (h:uL w L p bq bQ bg bn i A f g n m v) (x:Fr) (hx:xg w L.B0 x.h x.b x.e x.s) (hb:Below w.heap.size w wz) (hown:w4.ownsRow L.B1 89 11 (.slice (some ⟨g',0,none⟩) (A.length + 1) cap') (A.length + 1) (Dx A++zs)) (hgr:wz.grownBy w4 v.ownBlock) (hat:v.ownBlock=some g'∨g'=wz.heap.size):
 uL ((w4.setCells g' (A.length * 11) (yO x.h x.b x.e x.s)).setCell ⟨L.bc,3,none⟩ (.slice (some ⟨g',0,none⟩) (A.length + 1) cap')) L p bq bQ bg bn i (A++[x]) f g n m (.slice (some ⟨g',0,none⟩) (A.length + 1) cap')∧
 Kp L v w ((w4.setCells g' (A.length * 11) (yO x.h x.b x.e x.s)).setCell ⟨L.bc,3,none⟩ (.slice (some ⟨g',0,none⟩) (A.length + 1) cap'))∧A8 w v (.slice (some ⟨g',0,none⟩) (A.length + 1) cap'):=by
 have hg1:=(hown.lt g' rfl).1
 have hg2:=(hown.lt g' rfl).2
 have hc1:=L.c1
 have hs1:=L.s1
 have ht1:=L.t1
 have hput:=R8 (vs:=yO x.h x.b x.e x.s) hown (L9 A) rfl
 generalize hw5:w4.setCells g' (A.length * 11) (yO x.h x.b x.e x.s)=w5 at *
 have hgw:w4.grownBy w5 (some g'):=by rw [← hw5]; exact aO _ _ _ _
 have hgz:=bU w5 ⟨L.bc,3,none⟩ (.slice (some ⟨g',0,none⟩) (A.length + 1) cap')
 have hsz:w.heap.size≤w4.heap.size:=Nat.le_trans hb.size hgr.size
 have hlow: ∀k,k < w.heap.size→v.ownBlock≠some k→w5.heap[k]? =w.heap[k]?:=fun k hk hv=>by
  have hkg:k≠g':=by
   rcases hat with e | e
   ·intro e'; exact hv (by rw [e,e'])
   ·have:=hb.size; omega
  rw [hgw.block k (by omega) (by simp; exact hkg),hgr.block k (Nat.lt_of_lt_of_le hk hb.size) (fun e=>hv e.symm),hb.block k hk]
 have hlow': ∀k,k < L.B1→w5.heap[k]? =w.heap[k]?:=fun k hk=>hlow k (Nat.lt_of_lt_of_le hk h.sz) (fun e=>by have:=(h.row.lt k e).1; omega)
 have hkp:Kp L v w (w5.setCell ⟨L.bc,3,none⟩ (.slice (some ⟨g',0,none⟩) (A.length + 1) cap')):=
  ⟨hgz.os.trans (hgw.os.trans (hgr.os.trans hb.os)),hgz.tape.trans (hgw.tape.trans (hgr.tape.trans hb.tape)),hgz.output.trans (hgw.output.trans (hgr.output.trans hb.output)),Nat.le_trans hsz (Nat.le_trans hgw.size hgz.size),fun k hk hc _ _ hv=>
   (hgz.block k (Nat.lt_of_lt_of_le hk (Nat.le_trans hsz hgw.size)) (by simp; exact hc)).trans (hlow k hk hv)⟩
 have hbel:=hkp.below h.b0 (fun k e=>(h.row.lt k e).1)
 have Z7: ∀k,k < L.B1→k≠L.bc→(w5.setCell ⟨L.bc,3,none⟩ (.slice (some ⟨g',0,none⟩) (A.length + 1) cap')).heap[k]? =w.heap[k]?:=fun k hk hc=>by
  rw [aM w5 ⟨L.bc,3,none⟩ _ rfl (fun e=>hc e.symm)]; exact hlow' k hk
 refine ⟨?_,hkp,?_⟩
 ·refine {blk:= ?_,row:= ?_,ms:=h.ms.same (Z7 _ hs1 (fun e=>L.cs e.symm)),mt:=h.mt.same (Z7 _ ht1 (fun e=>L.ct e.symm)),sz:= ?_,dat:=h.dat.below hbel,Mf:= ?_}
  ·exact aR ((hlow' _ hc1).trans h.blk) _
  ·rw [List.length_append,Io]
   refine hput.kept hgz (.inr ?_)
   simp [Value.ownBlock]; omega
  ·exact Nat.le_trans h.sz hkp.size
  ·intro y hy
   rcases List.mem_append.1 hy with hy | hy
   ·exact (h.Mf y hy).below hbel
   ·obtain rfl:=List.mem_singleton.1 hy; exact hx.below hbel
 ·rcases hat with e | e
  ·exact .inl (by rw [e]; rfl)
  ·exact .inr ⟨g',rfl,by rw [e]; exact hb.size⟩
end
end Go.Proofs.YtehnipchbmjlhaaGreatDoor
end
