/-
  Weights of expressions and statements: how long their texts may be. No program in sight.
  A program, an expression as an argument: from what the row reads to the data of this proof.
-/
import Derived.Test.YtehnipchbmjlhaaGreatDoorGMA
import Derived.ProofKit
import Derived.OpenShut
import Derived.ChangeArms
import Derived.Deep.Slices
set_option linter.unusedSimpArgs false
set_option linter.unusedVariables false
set_option maxHeartbeats 40000000
set_option maxRecDepth 1000000
section
namespace Go.Proofs.YtehnipchbmjlhaaGreatDoor
open Go.RowKit
open Md
def rD:aZ→Nat
 | .nil=>0
 | .cons _ _ nm kids rest=>40 + nm.size + rD kids + rD rest
def mF (nm:ByteArray) (kids:aZ):Nat:=40 + nm.size + rD kids
def vJ (h:bf):Nat:=200 + h.nm.size + h.arg.size + rD h.idx + mF h.bU h.aO
def jU:aS→Nat
 | .nil=>0
 | .cons h b e r=>vJ h + 2 * jU b + 2 * jU e + jU r
end Go.Proofs.YtehnipchbmjlhaaGreatDoor
end
section
namespace Go.Proofs.YtehnipchbmjlhaaGreatDoor
open Go.ChangeShapes Go.WideShapes Go.ChangeAt Go.RowKit
open Md
section
variable {H:Type} {enc:TypeId × Value→H} {W:World} {base:Nat} {sp:Nat→Bool} {held:Bool}
end
end Go.Proofs.YtehnipchbmjlhaaGreatDoor
end
