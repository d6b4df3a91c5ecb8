/-
  Contracts of check.first, nesting, and of the checker's kind, expr, own, mutexOf.
  Contracts of the checker's inside, insideNamed.
  Contract of the checker's assignment.
  Contract of check.once.
-/
import Derived.Test.YtehnipchbmjlhaaGreatDoorGMC
import Derived.Test.YtehnipchbmjlhaaGreatDoorGME
import Derived.Test.YtehnipchbmjlhaaGreatDoorGMB
set_option linter.unusedSimpArgs false
set_option linter.unusedVariables false
set_option maxHeartbeats 40000000
set_option maxRecDepth 1000000
section
namespace Go.Proofs.YtehnipchbmjlhaaGreatDoor
open Go.RowKit
namespace Md
def Il:List Int→Int
 | []=>0
 | a ::r=>if a != 0 then a else Il r
end Md
open Md
section
variable (p:Pr) (w:World) (bY dV:Option Addr) (bM bW:Nat) (i:Int) (J8:Option Addr) (an7 Dt bs bt bc:Nat)
end
end Go.Proofs.YtehnipchbmjlhaaGreatDoor
end
section
namespace Go.Proofs.YtehnipchbmjlhaaGreatDoor
open Go.RowKit
namespace Md
end Md
open Md
section
variable (p:Pr) (w:World) (bY dV:Option Addr) (bM bW:Nat) (i:Int) (J8:Option Addr) (Dt bs bt bc:Nat)
end
end Go.Proofs.YtehnipchbmjlhaaGreatDoor
end
section
namespace Go.Proofs.YtehnipchbmjlhaaGreatDoor
open Go.RowKit
namespace Md
def ex1 (p:Pr) (i:Int):aZ→Int
 | .nil=>0
 | .cons op n nm kids _=>Xj p i op n nm kids
def uZ (p:Pr) (i:Int) (h:bf):Int:=
 if decide ((h.idx.len:Int)=0) then Il [Hq (mean p i h.nm) [1,2],Xj p i h.bV h.xn h.bU h.aO] else Il [Hq (mean p i h.nm) [3],ex1 p i h.idx,Xj p i h.bV h.xn h.bU h.aO]
end Md
open Md
theorem eD.nil {w:World} {K:Act→Prop} {a:Act} (h:K a):eD w K [] a:=h
section
variable (p:Pr) (w:World) (bY dV:Option Addr) (bM bW:Nat) (i:Int) (J8:Option Addr) (an7 Dt bs bt bc:Nat)
end
end Go.Proofs.YtehnipchbmjlhaaGreatDoor
end
section
namespace Go.Proofs.YtehnipchbmjlhaaGreatDoor
open Go.RowKit
open Md
end Go.Proofs.YtehnipchbmjlhaaGreatDoor
end
