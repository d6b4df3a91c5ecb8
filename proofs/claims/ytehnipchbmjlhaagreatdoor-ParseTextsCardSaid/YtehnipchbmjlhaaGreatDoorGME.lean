/-
  Contracts of check.declared and check.meaning.
  Contracts of check.kindOf, extent, names, Expr.
  Maps that a call makes, keyed by texts, with integers and truth values: what they hold as a plain function.
  Contract of check.declarations.
  Contract of check.threads.
-/
import Derived.Test.YtehnipchbmjlhaaGreatDoorGMA
import Derived.Test.YtehnipchbmjlhaaGreatDoorGMC
import Derived.Deep.CutBlock
import Derived.Test.YtehnipchbmjlhaaGreatDoorGMB
import Derived.Maps.Own
import Derived.Maps.OwnSet
import Derived.Maps.Views
section
namespace Go.Proofs.YtehnipchbmjlhaaGreatDoor
open Go.RowKit
open Md
end Go.Proofs.YtehnipchbmjlhaaGreatDoor
end
section
namespace Go.Proofs.YtehnipchbmjlhaaGreatDoor
open Go.RowKit
namespace Md
def sO (w:World) (B:Nat):List Int→Option Addr→Nat→Prop
 | [],_,_=>True
 | s ::r,ao,k=>(∃b off,ao=some ⟨b,off,none⟩∧b < B∧w.cell? ⟨b,off + k,none⟩=some (.int .i64 s))∧sO w B r ao (k + 1)
section
variable {w w':World} {B B':Nat}
theorem sO.below (hb:Below B w w'): ∀ {l:List Int} {ao:Option Addr} {k:Nat},sO w B l ao k→sO w' B l ao k
 | [],_,_,_=>trivial
 | _ ::_,_,_,⟨⟨b,off,e,hB,c⟩,hr⟩=>⟨⟨b,off,e,hB,(hb.cell hB).trans c⟩,sO.below hb hr⟩
theorem sO.mono (h:B≤B'): ∀ {l:List Int} {ao:Option Addr} {k:Nat},sO w B l ao k→sO w B' l ao k
 | [],_,_,_=>trivial
 | _ ::_,_,_,⟨⟨b,off,e,hB,c⟩,hr⟩=>⟨⟨b,off,e,Nat.lt_of_lt_of_le hB h,c⟩,sO.mono h hr⟩
theorem sO.same {l:List Int} {ao:Option Addr} {k:Nat} (h:sO w w.heap.size l ao k) (hb:Below w.heap.size w w'):sO w' w'.heap.size l ao k:=(h.below hb).mono hb.size
end
def GH (m:Int) (l:List Int):Int:=if m == 0 then 5 else if l.any (fun k=>m == k) then 0 else 6
def I5:aH→Int→Int→Int × Int
 | .nil,n,d=>(n,d)
 | .cons _ _ _ kids rest,n,d=>I5 rest (wrap64 (n + (I5 kids 1 0).1)) (max d (wrap64 ((I5 kids 1 0).2 + 1)))
def ext (kids:aH):Int × Int:=((I5 kids 1 0).1,wrap64 ((I5 kids 1 0).2 + 1))
def TU (p:Pr) (i op:Int) (nm:ByteArray):Int:=if op == 2 then GH (mean p i nm) [1,2] else if op == 3 then GH (mean p i nm) [3] else 0
def N9 (p:Pr) (i:Int):aH→Int
 | .nil=>0
 | .cons op _ nm kids rest=>if TU p i op nm == 0 then (if N9 p i kids == 0 then N9 p i rest else N9 p i kids) else TU p i op nm
def ah5 (p:Pr) (i op:Int) (nm:ByteArray) (kids:aH):Int:=if TU p i op nm == 0 then N9 p i kids else TU p i op nm
def WC (p:Pr) (i op n:Int) (nm:ByteArray) (kids:aH):Int:=
 if dG op n nm kids then (if decide (24 < (ext kids).1) || decide (6 < (ext kids).2) then 2 else ah5 p i op nm kids) else 3
end Md
open Md
end Go.Proofs.YtehnipchbmjlhaaGreatDoor
end
section
namespace Go.Proofs.YtehnipchbmjlhaaGreatDoor
open Go.RowKit
open Md
theorem wF:Maps.Keyed Tryz.prog 9:=Maps.string_keyed Tryz.underlying9
theorem keyOf_str (s:ByteArray) (hs:s.size≤maxLen):keyOf Tryz.prog 9 (.string s)=some (.string s.toList):=by
 unfold keyOf mapKey; simp [Tryz.underlying9,hs,Lib.toList_data]
def nZ (w:World) (b n:Nat) (f:List UInt8→Int):Prop:=
 ∃D:DataW Unit,w.ownsMap Tryz.prog 9 (plainElem Tryz.prog 3) b n D∧ ∀l,D.atKey (.string l) (.lit (.int .i64 0))= .lit (.int .i64 (f l))
def lQ (w:World) (b n:Nat) (f:List UInt8→Bool):Prop:=
 ∃D:DataW Unit,w.ownsMap Tryz.prog 9 (plainElem Tryz.prog 4) b n D∧ ∀l,D.atKey (.string l) (.lit (.bool false))= .lit (.bool (f l))
theorem nZ.made (w:World):nZ (w.alloc (.map #[] 0)) w.heap.size 0 (fun _=>0):=⟨_,World.ownsMap_made w _ _ _,fun _=>rfl⟩
theorem lQ.made (w:World):lQ (w.alloc (.map #[] 0)) w.heap.size 0 (fun _=>false):=⟨_,World.ownsMap_made w _ _ _,fun _=>rfl⟩
theorem nZ.lt {w:World} {b n:Nat} {f:List UInt8→Int} (h:nZ w b n f):b < w.heap.size:=by obtain ⟨D,h,_⟩:=h; exact h.lt
theorem lQ.lt {w:World} {b n:Nat} {f:List UInt8→Bool} (h:lQ w b n f):b < w.heap.size:=by obtain ⟨D,h,_⟩:=h; exact h.lt
theorem nZ.same {w w':World} {b n:Nat} {f:List UInt8→Int} (h:nZ w b n f) (hb:w'.heap[b]? =w.heap[b]?):nZ w' b n f:=by
 obtain ⟨D,⟨es,clock,h1,h2⟩,h3⟩:=h; exact ⟨D,⟨es,clock,hb.trans h1,h2⟩,h3⟩
theorem lQ.same {w w':World} {b n:Nat} {f:List UInt8→Bool} (h:lQ w b n f) (hb:w'.heap[b]? =w.heap[b]?):lQ w' b n f:=by
 obtain ⟨D,⟨es,clock,h1,h2⟩,h3⟩:=h; exact ⟨D,⟨es,clock,hb.trans h1,h2⟩,h3⟩
theorem nZ.next {w w':World} {b n:Nat} {f:List UInt8→Int} (h:nZ w b n f) (hb:Below w.heap.size w w'):nZ w' b n f:=h.same (hb.block b h.lt)
theorem lQ.next {w w':World} {b n:Nat} {f:List UInt8→Bool} (h:lQ w b n f) (hb:Below w.heap.size w w'):lQ w' b n f:=h.same (hb.block b h.lt)
theorem al0 {v:Int} (hv:aV v):(Lit.int .i64 v).wf=true:=by
 unfold Lit.wf; rw [Bool.and_eq_true,decide_eq_true_iff,decide_eq_true_iff]; exact hv
theorem nZ.put {w:World} {b n:Nat} {f:List UInt8→Int} (h:nZ w b n f) (hn:n < maxLen) (s:ByteArray) (hs:s.size≤maxLen) (v:Int) (hv:aV v):
 ∃w',(Instr.mapUpdate 135 (.map (some b)) (.string s) (.int .i64 v)).run Tryz.prog w= .ok () w'∧nZ w' b (n + 1) (fun l=>if l=s.toList then v else f l)∧w.grownBy w' (some b):=by
 obtain ⟨D,ho,hf⟩:=h
 obtain ⟨w',hrun,ho',hg⟩:=ho.update (t:=135) wF Tryz.underlying135 hn (keyOf_str s hs) (plainElem_int Tryz.underlying3 (a:=v) (al0 hv))
 refine ⟨w',hrun,⟨_,ho',fun l=> ?_⟩,hg⟩
 show _=DataW.lit (.int .i64 (if l=s.toList then v else f l))
 by_cases hl:l=s.toList
 ·subst hl; rw [if_pos rfl,Maps.atKey_put_same ho.isMap (wF.key (keyOf_str s hs))]
 ·rw [if_neg hl,Maps.atKey_put_other (by intro h; injection h with h; exact hl h),hf]
theorem lQ.put {w:World} {b n:Nat} {f:List UInt8→Bool} (h:lQ w b n f) (hn:n < maxLen) (s:ByteArray) (hs:s.size≤maxLen) (v:Bool):
 ∃w',(Instr.mapUpdate 137 (.map (some b)) (.string s) (.bool v)).run Tryz.prog w= .ok () w'∧lQ w' b (n + 1) (fun l=>if l=s.toList then v else f l)∧w.grownBy w' (some b):=by
 obtain ⟨D,ho,hf⟩:=h
 obtain ⟨w',hrun,ho',hg⟩:=ho.update (t:=137) wF Tryz.underlying137 hn (keyOf_str s hs) (plainElem_bool Tryz.underlying4 v)
 refine ⟨w',hrun,⟨_,ho',fun l=> ?_⟩,hg⟩
 show _=DataW.lit (.bool (if l=s.toList then v else f l))
 by_cases hl:l=s.toList
 ·subst hl; rw [if_pos rfl,Maps.atKey_put_same ho.isMap (wF.key (keyOf_str s hs))]
 ·rw [if_neg hl,Maps.atKey_put_other (by intro h; injection h with h; exact hl h),hf]
end Go.Proofs.YtehnipchbmjlhaaGreatDoor
end
section
namespace Go.Proofs.YtehnipchbmjlhaaGreatDoor
open Go.RowKit
namespace Md
def dc (d:De) (c:Int):Int:=if d.kind == 1 || d.kind == 2 then c + max d.size 1 else c
end Md
open Md
theorem nZ.congr {w:World} {b n:Nat} {f g:List UInt8→Int} (h:nZ w b n f) (hfg: ∀l,f l=g l):nZ w b n g:=by
 obtain ⟨D,h1,h2⟩:=h; exact ⟨D,h1,fun l=>by rw [h2,hfg]⟩
theorem lQ.congr {w:World} {b n:Nat} {f g:List UInt8→Bool} (h:lQ w b n f) (hfg: ∀l,f l=g l):lQ w b n g:=by
 obtain ⟨D,h1,h2⟩:=h; exact ⟨D,h1,fun l=>by rw [h2,hfg]⟩
end Go.Proofs.YtehnipchbmjlhaaGreatDoor
end
section
namespace Go.Proofs.YtehnipchbmjlhaaGreatDoor
open Go.RowKit
namespace Md
end Md
open Md
theorem Holds.grown {W W':World} {bm:Nat} (hg:W.grownBy W' (some bm)): ∀ {l:List (Nat × Nat × Value)},(∀f ∈ l,f.1≠bm)→Holds W l→Holds W' l
 | [],_,_=>trivial
 | f ::_,hne,⟨⟨h1,h2⟩,h3⟩=>⟨⟨Nat.lt_of_lt_of_le h1 hg.size,(World.cell?_of_block (a:=⟨f.1,f.2.1,none⟩) (hg.block f.1 h1 (by have:=hne f (by simp); simp; exact this))).trans h2⟩,Holds.grown hg (fun x hx=>hne x (by simp [hx])) h3⟩
theorem Sit.grown {w W W':World} {fs:List (Nat × Nat × Value)} {bm:Nat} (h:Sit w W fs) (hg:W.grownBy W' (some bm)) (hb:w.heap.size≤bm) (hne: ∀f ∈ fs,f.1≠bm):Sit w W' fs:=
 ⟨h.1.trans (dX hg hb h.1.size),h.2.grown hg hne⟩
end Go.Proofs.YtehnipchbmjlhaaGreatDoor
end
