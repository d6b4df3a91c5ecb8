/-
  Contract of the checker's statement at join and get.
-/
import Derived.Test.YtehnipchbmjlhaaGreatDoorGMG
set_option linter.unusedSimpArgs false
set_option linter.unusedVariables false
namespace Go.Proofs.YtehnipchbmjlhaaGreatDoor
open Go.RowKit
open Md
section
variable (p:Pr) (w:World) (bq bQ:Option Addr) (bg bn:Nat) (K4:Option Addr) (Cx bs bt bc:Nat)
end
end Go.Proofs.YtehnipchbmjlhaaGreatDoor
