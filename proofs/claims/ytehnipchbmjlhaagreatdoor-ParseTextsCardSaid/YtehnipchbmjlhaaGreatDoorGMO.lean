/-
  Weights of expressions and statements: how long their texts may be. No program in sight.
  A program, an expression as an argument: from what the row reads to the data of this proof.
-/
import Derived.Test.YtehnipchbmjlhaaGreatDoorGMA
import Derived.ProofKit
import Derived.OpenShut
import Derived.ChangeArms
import Derived.Deep.Slices
section
namespace Go.Proofs.YtehnipchbmjlhaaGreatDoor
open Go.RowKit
open Md
def pX:aH→Nat
 | .nil=>0
 | .cons _ _ nm kids rest=>40 + nm.size + pX kids + pX rest
def lD (nm:ByteArray) (kids:aH):Nat:=40 + nm.size + pX kids
def vG (h:aW):Nat:=200 + h.nm.size + h.arg.size + pX h.idx + lD h.bP h.aJ
def jw:aI→Nat
 | .nil=>0
 | .cons h b e r=>vG h + 2 * jw b + 2 * jw e + jw r
end Go.Proofs.YtehnipchbmjlhaaGreatDoor
end
section
set_option maxRecDepth 100000
set_option linter.unusedVariables false
set_option linter.unusedSimpArgs false
namespace Go.Proofs.YtehnipchbmjlhaaGreatDoor
open Go.ChangeShapes Go.WideShapes Go.ChangeAt Go.RowKit
open Md
section
variable {H:Type} {enc:TypeId × Value→H} {W:World} {base:Nat} {sp:Nat→Bool} {held:Bool}
end
end Go.Proofs.YtehnipchbmjlhaaGreatDoor
end
