/-
  Contract of the checker's statement at join and get.
-/
import Derived.Test.YtehnipchbmjlhaaGreatDoorGMG
set_option linter.unusedSimpArgs false
set_option linter.unusedVariables false
set_option maxHeartbeats 40000000
set_option maxRecDepth 1000000
namespace Go.Proofs.YtehnipchbmjlhaaGreatDoor
open Go.RowKit
open Md
section
variable (p:Pr) (w:World) (bY dV:Option Addr) (bM bW:Nat) (J8:Option Addr) (Dt bs bt bc:Nat)
end
end Go.Proofs.YtehnipchbmjlhaaGreatDoor
