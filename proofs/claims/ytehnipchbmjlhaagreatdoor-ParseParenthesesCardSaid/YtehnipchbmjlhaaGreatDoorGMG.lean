/-
  Contract of the checker's statement at an operator that is none.
  Contract of the checker's statement, operator by operator.
-/
import Derived.Test.YtehnipchbmjlhaaGreatDoorGMF
section
set_option linter.unusedSimpArgs false
set_option linter.unusedVariables false
namespace Go.Proofs.YtehnipchbmjlhaaGreatDoor
open Go.RowKit
open Md
section
variable (p:Pr) (w:World) (bq bQ:Option Addr) (bg bn:Nat) (i:Int) (K4:Option Addr) (Cx bs bt bc:Nat)
end
end Go.Proofs.YtehnipchbmjlhaaGreatDoor
end
section
set_option linter.unusedSimpArgs false
set_option linter.unusedVariables false
namespace Go.Proofs.YtehnipchbmjlhaaGreatDoor
open Go.RowKit
open Md
section
variable (p:Pr) (w:World) (bq bQ:Option Addr) (bg bn:Nat) (i:Int) (K4:Option Addr) (Cx bs bt bc:Nat)
end
end Go.Proofs.YtehnipchbmjlhaaGreatDoor
end
