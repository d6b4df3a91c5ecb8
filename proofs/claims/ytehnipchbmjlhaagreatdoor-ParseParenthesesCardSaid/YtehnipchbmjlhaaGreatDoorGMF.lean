/-
  Contracts of check.first, nesting, and of the checker's kind, expr, own, mutexOf.
  Contracts of the checker's inside, insideNamed.
  Contract of the checker's assignment.
  Contract of check.once.
-/
import Derived.Test.YtehnipchbmjlhaaGreatDoorGMC
import Derived.Test.YtehnipchbmjlhaaGreatDoorGME
import Derived.Test.YtehnipchbmjlhaaGreatDoorGMB
section
namespace Go.Proofs.YtehnipchbmjlhaaGreatDoor
open Go.RowKit
namespace Md
def J4:List Int→Int
 | []=>0
 | a ::r=>if a != 0 then a else J4 r
end Md
open Md
section
variable (p:Pr) (w:World) (bq bQ:Option Addr) (bg bn:Nat) (i:Int) (Jy:Option Addr) (ak5 CQ bs bt bc:Nat)
end
end Go.Proofs.YtehnipchbmjlhaaGreatDoor
end
section
namespace Go.Proofs.YtehnipchbmjlhaaGreatDoor
open Go.RowKit
namespace Md
end Md
open Md
section
variable (p:Pr) (w:World) (bq bQ:Option Addr) (bg bn:Nat) (i:Int) (Jy:Option Addr) (CQ bs bt bc:Nat)
end
end Go.Proofs.YtehnipchbmjlhaaGreatDoor
end
section
set_option linter.unusedSimpArgs false
set_option linter.unusedVariables false
namespace Go.Proofs.YtehnipchbmjlhaaGreatDoor
open Go.RowKit
namespace Md
def ex1 (p:Pr) (i:Int):aH→Int
 | .nil=>0
 | .cons op n nm kids _=>WC p i op n nm kids
def YF (p:Pr) (i:Int) (h:aW):Int:=
 if decide ((h.idx.len:Int)=0) then J4 [GH (mean p i h.nm) [1,2],WC p i h.bP h.xn h.bM h.aJ] else J4 [GH (mean p i h.nm) [3],ex1 p i h.idx,WC p i h.bP h.xn h.bM h.aJ]
end Md
open Md
theorem dS.nil {w:World} {K:Act→Prop} {a:Act} (h:K a):dS w K [] a:=h
section
variable (p:Pr) (w:World) (bq bQ:Option Addr) (bg bn:Nat) (i:Int) (Jy:Option Addr) (ak5 CQ bs bt bc:Nat)
end
end Go.Proofs.YtehnipchbmjlhaaGreatDoor
end
section
namespace Go.Proofs.YtehnipchbmjlhaaGreatDoor
open Go.RowKit
open Md
def Nk (f:List UInt8→Bool) (l:List UInt8):List UInt8→Bool:=fun x=>if x=l then true else f x
end Go.Proofs.YtehnipchbmjlhaaGreatDoor
end
