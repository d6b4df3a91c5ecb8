/-
  Contracts of check.declared and check.meaning.
  Contracts of check.kindOf, extent, names, Expr.
  Maps that a call makes, keyed by texts, with integers and truth values: what they hold as a plain function.
  Contract of check.declarations.
  Contract of check.threads.
-/
import Derived.Test.YtehnipchbmjlhaaGreatDoorGMA
import Derived.Test.YtehnipchbmjlhaaGreatDoorGMC
import Derived.Deep.CutBlock
import Derived.Test.YtehnipchbmjlhaaGreatDoorGMB
import Derived.Maps.Own
import Derived.Maps.OwnSet
import Derived.Maps.Views
section
namespace Go.Proofs.YtehnipchbmjlhaaGreatDoor
open Go.RowKit
open Md
end Go.Proofs.YtehnipchbmjlhaaGreatDoor
end
section
namespace Go.Proofs.YtehnipchbmjlhaaGreatDoor
open Go.RowKit
namespace Md
def tH (w:World) (B:Nat):List Int→Option Addr→Nat→Prop
 | [],_,_=>True
 | s ::r,ao,k=>(∃b off,ao=some ⟨b,off,none⟩∧b < B∧w.cell? ⟨b,off + k,none⟩=some (.int .i64 s))∧tH w B r ao (k + 1)
section
variable {w w':World} {B B':Nat}
theorem tH.below (hb:Below B w w'): ∀ {l:List Int} {ao:Option Addr} {k:Nat},tH w B l ao k→tH w' B l ao k
 | [],_,_,_=>trivial
 | _ ::_,_,_,⟨⟨b,off,e,hB,c⟩,hr⟩=>⟨⟨b,off,e,hB,(hb.cell hB).trans c⟩,tH.below hb hr⟩
theorem tH.mono (h:B≤B'): ∀ {l:List Int} {ao:Option Addr} {k:Nat},tH w B l ao k→tH w B' l ao k
 | [],_,_,_=>trivial
 | _ ::_,_,_,⟨⟨b,off,e,hB,c⟩,hr⟩=>⟨⟨b,off,e,Nat.lt_of_lt_of_le hB h,c⟩,tH.mono h hr⟩
theorem tH.same {l:List Int} {ao:Option Addr} {k:Nat} (h:tH w w.heap.size l ao k) (hb:Below w.heap.size w w'):tH w' w'.heap.size l ao k:=(h.below hb).mono hb.size
end
def H7 (m:Int) (l:List Int):Int:=if m == 0 then 5 else if l.any (fun k=>m == k) then 0 else 6
def J7:aH→Int→Int→Int × Int
 | .nil,n,d=>(n,d)
 | .cons _ _ _ kids rest,n,d=>J7 rest (wrap64 (n + (J7 kids 1 0).1)) (max d (wrap64 ((J7 kids 1 0).2 + 1)))
def ext (kids:aH):Int × Int:=((J7 kids 1 0).1,wrap64 ((J7 kids 1 0).2 + 1))
def Tn (p:Pr) (i op:Int) (nm:ByteArray):Int:=if op == 2 then H7 (mean p i nm) [1,2] else if op == 3 then H7 (mean p i nm) [3] else 0
def MN (p:Pr) (i:Int):aH→Int
 | .nil=>0
 | .cons op _ nm kids rest=>if Tn p i op nm == 0 then (if MN p i kids == 0 then MN p i rest else MN p i kids) else Tn p i op nm
def an8 (p:Pr) (i op:Int) (nm:ByteArray) (kids:aH):Int:=if Tn p i op nm == 0 then MN p i kids else Tn p i op nm
def VY (p:Pr) (i op n:Int) (nm:ByteArray) (kids:aH):Int:=
 if dI op n nm kids then (if decide (24 < (ext kids).1) || decide (6 < (ext kids).2) then 2 else an8 p i op nm kids) else 3
end Md
open Md
end Go.Proofs.YtehnipchbmjlhaaGreatDoor
end
section
namespace Go.Proofs.YtehnipchbmjlhaaGreatDoor
open Go.RowKit
open Md
theorem wH:Maps.Keyed Tryz.prog 9:=Maps.string_keyed Tryz.underlying9
theorem keyOf_str (s:ByteArray) (hs:s.size≤maxLen):keyOf Tryz.prog 9 (.string s)=some (.string s.toList):=by
 unfold keyOf mapKey; simp [Tryz.underlying9,hs,Lib.toList_data]
def oz (w:World) (b n:Nat) (f:List UInt8→Int):Prop:=
 ∃D:DataW Unit,w.ownsMap Tryz.prog 9 (plainElem Tryz.prog 3) b n D∧ ∀l,D.atKey (.string l) (.lit (.int .i64 0))= .lit (.int .i64 (f l))
def mh (w:World) (b n:Nat) (f:List UInt8→Bool):Prop:=
 ∃D:DataW Unit,w.ownsMap Tryz.prog 9 (plainElem Tryz.prog 4) b n D∧ ∀l,D.atKey (.string l) (.lit (.bool false))= .lit (.bool (f l))
theorem oz.made (w:World):oz (w.alloc (.map #[] 0)) w.heap.size 0 (fun _=>0):=⟨_,World.ownsMap_made w _ _ _,fun _=>rfl⟩
theorem mh.made (w:World):mh (w.alloc (.map #[] 0)) w.heap.size 0 (fun _=>false):=⟨_,World.ownsMap_made w _ _ _,fun _=>rfl⟩
theorem oz.lt {w:World} {b n:Nat} {f:List UInt8→Int} (h:oz w b n f):b < w.heap.size:=by obtain ⟨D,h,_⟩:=h; exact h.lt
theorem mh.lt {w:World} {b n:Nat} {f:List UInt8→Bool} (h:mh w b n f):b < w.heap.size:=by obtain ⟨D,h,_⟩:=h; exact h.lt
theorem oz.same {w w':World} {b n:Nat} {f:List UInt8→Int} (h:oz w b n f) (hb:w'.heap[b]? =w.heap[b]?):oz w' b n f:=by
 obtain ⟨D,⟨es,clock,h1,h2⟩,h3⟩:=h; exact ⟨D,⟨es,clock,hb.trans h1,h2⟩,h3⟩
theorem mh.same {w w':World} {b n:Nat} {f:List UInt8→Bool} (h:mh w b n f) (hb:w'.heap[b]? =w.heap[b]?):mh w' b n f:=by
 obtain ⟨D,⟨es,clock,h1,h2⟩,h3⟩:=h; exact ⟨D,⟨es,clock,hb.trans h1,h2⟩,h3⟩
theorem oz.next {w w':World} {b n:Nat} {f:List UInt8→Int} (h:oz w b n f) (hb:Below w.heap.size w w'):oz w' b n f:=h.same (hb.block b h.lt)
theorem mh.next {w w':World} {b n:Nat} {f:List UInt8→Bool} (h:mh w b n f) (hb:Below w.heap.size w w'):mh w' b n f:=h.same (hb.block b h.lt)
theorem ak6 {v:Int} (hv:aV v):(Lit.int .i64 v).wf=true:=by
 unfold Lit.wf; rw [Bool.and_eq_true,decide_eq_true_iff,decide_eq_true_iff]; exact hv
theorem oz.put {w:World} {b n:Nat} {f:List UInt8→Int} (h:oz w b n f) (hn:n < maxLen) (s:ByteArray) (hs:s.size≤maxLen) (v:Int) (hv:aV v):
 ∃w',(Instr.mapUpdate 135 (.map (some b)) (.string s) (.int .i64 v)).run Tryz.prog w= .ok () w'∧oz w' b (n + 1) (fun l=>if l=s.toList then v else f l)∧w.grownBy w' (some b):=by
 obtain ⟨D,ho,hf⟩:=h
 obtain ⟨w',hrun,ho',hg⟩:=ho.update (t:=135) wH Tryz.underlying135 hn (keyOf_str s hs) (plainElem_int Tryz.underlying3 (a:=v) (ak6 hv))
 refine ⟨w',hrun,⟨_,ho',fun l=> ?_⟩,hg⟩
 show _=DataW.lit (.int .i64 (if l=s.toList then v else f l))
 by_cases hl:l=s.toList
 ·subst hl; rw [if_pos rfl,Maps.atKey_put_same ho.isMap (wH.key (keyOf_str s hs))]
 ·rw [if_neg hl,Maps.atKey_put_other (by intro h; injection h with h; exact hl h),hf]
theorem mh.put {w:World} {b n:Nat} {f:List UInt8→Bool} (h:mh w b n f) (hn:n < maxLen) (s:ByteArray) (hs:s.size≤maxLen) (v:Bool):
 ∃w',(Instr.mapUpdate 137 (.map (some b)) (.string s) (.bool v)).run Tryz.prog w= .ok () w'∧mh w' b (n + 1) (fun l=>if l=s.toList then v else f l)∧w.grownBy w' (some b):=by
 obtain ⟨D,ho,hf⟩:=h
 obtain ⟨w',hrun,ho',hg⟩:=ho.update (t:=137) wH Tryz.underlying137 hn (keyOf_str s hs) (plainElem_bool Tryz.underlying4 v)
 refine ⟨w',hrun,⟨_,ho',fun l=> ?_⟩,hg⟩
 show _=DataW.lit (.bool (if l=s.toList then v else f l))
 by_cases hl:l=s.toList
 ·subst hl; rw [if_pos rfl,Maps.atKey_put_same ho.isMap (wH.key (keyOf_str s hs))]
 ·rw [if_neg hl,Maps.atKey_put_other (by intro h; injection h with h; exact hl h),hf]
end Go.Proofs.YtehnipchbmjlhaaGreatDoor
end
section
namespace Go.Proofs.YtehnipchbmjlhaaGreatDoor
open Go.RowKit
namespace Md
def dc (d:De) (c:Int):Int:=if d.kind == 1 || d.kind == 2 then c + max d.size 1 else c
end Md
open Md
theorem oz.congr {w:World} {b n:Nat} {f g:List UInt8→Int} (h:oz w b n f) (hfg: ∀l,f l=g l):oz w b n g:=by
 obtain ⟨D,h1,h2⟩:=h; exact ⟨D,h1,fun l=>by rw [h2,hfg]⟩
theorem mh.congr {w:World} {b n:Nat} {f g:List UInt8→Bool} (h:mh w b n f) (hfg: ∀l,f l=g l):mh w b n g:=by
 obtain ⟨D,h1,h2⟩:=h; exact ⟨D,h1,fun l=>by rw [h2,hfg]⟩
end Go.Proofs.YtehnipchbmjlhaaGreatDoor
end
section
namespace Go.Proofs.YtehnipchbmjlhaaGreatDoor
open Go.RowKit
namespace Md
end Md
open Md
theorem Holds.grown {W W':World} {bm:Nat} (hg:W.grownBy W' (some bm)): ∀ {l:List (Nat × Nat × Value)},(∀f ∈ l,f.1≠bm)→Holds W l→Holds W' l
 | [],_,_=>trivial
 | f ::_,hne,⟨⟨h1,h2⟩,h3⟩=>⟨⟨Nat.lt_of_lt_of_le h1 hg.size,(World.cell?_of_block (a:=⟨f.1,f.2.1,none⟩) (hg.block f.1 h1 (by have:=hne f (by simp); simp; exact this))).trans h2⟩,Holds.grown hg (fun x hx=>hne x (by simp [hx])) h3⟩
theorem Sit.grown {w W W':World} {fs:List (Nat × Nat × Value)} {bm:Nat} (h:Sit w W fs) (hg:W.grownBy W' (some bm)) (hb:w.heap.size≤bm) (hne: ∀f ∈ fs,f.1≠bm):Sit w W' fs:=
 ⟨h.1.trans (dX hg hb h.1.size),h.2.grown hg hne⟩
end Go.Proofs.YtehnipchbmjlhaaGreatDoor
end
