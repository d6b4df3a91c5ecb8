/-
  Contracts of check.first, nesting, and of the checker's kind, expr, own, mutexOf.
  Contracts of the checker's inside, insideNamed.
  Contract of the checker's assignment.
  Contract of check.once.
-/
import Derived.Test.YtehnipchbmjlhaaGreatDoorGMC
import Derived.Test.YtehnipchbmjlhaaGreatDoorGME
import Derived.Test.YtehnipchbmjlhaaGreatDoorGMB
section
namespace Go.Proofs.YtehnipchbmjlhaaGreatDoor
open Go.RowKit
namespace Md
def JK:List Int→Int
 | []=>0
 | a ::r=>if a != 0 then a else JK r
end Md
open Md
section
variable (p:Pr) (w:World) (bq bQ:Option Addr) (bg bn:Nat) (i:Int) (K4:Option Addr) (am6 Cx bs bt bc:Nat)
end
end Go.Proofs.YtehnipchbmjlhaaGreatDoor
end
section
namespace Go.Proofs.YtehnipchbmjlhaaGreatDoor
open Go.RowKit
namespace Md
end Md
open Md
section
variable (p:Pr) (w:World) (bq bQ:Option Addr) (bg bn:Nat) (i:Int) (K4:Option Addr) (Cx bs bt bc:Nat)
end
end Go.Proofs.YtehnipchbmjlhaaGreatDoor
end
section
set_option linter.unusedSimpArgs false
set_option linter.unusedVariables false
namespace Go.Proofs.YtehnipchbmjlhaaGreatDoor
open Go.RowKit
namespace Md
def ex1 (p:Pr) (i:Int):aH→Int
 | .nil=>0
 | .cons op n nm kids _=>VY p i op n nm kids
def WO (p:Pr) (i:Int) (h:aW):Int:=
 if decide ((h.idx.len:Int)=0) then JK [H7 (mean p i h.nm) [1,2],VY p i h.bM h.xn h.bP h.aJ] else JK [H7 (mean p i h.nm) [3],ex1 p i h.idx,VY p i h.bM h.xn h.bP h.aJ]
end Md
open Md
theorem dU.nil {w:World} {K:Act→Prop} {a:Act} (h:K a):dU w K [] a:=h
section
variable (p:Pr) (w:World) (bq bQ:Option Addr) (bg bn:Nat) (i:Int) (K4:Option Addr) (am6 Cx bs bt bc:Nat)
end
end Go.Proofs.YtehnipchbmjlhaaGreatDoor
end
section
namespace Go.Proofs.YtehnipchbmjlhaaGreatDoor
open Go.RowKit
open Md
def Mi (f:List UInt8→Bool) (l:List UInt8):List UInt8→Bool:=fun x=>if x=l then true else f x
end Go.Proofs.YtehnipchbmjlhaaGreatDoor
end
