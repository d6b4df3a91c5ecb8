/-
  Contract of the checker's statement at set.
  Contract of the checker's statement at spawn.
-/
import Derived.Test.YtehnipchbmjlhaaGreatDoorGMF
set_option linter.unusedSimpArgs false
set_option linter.unusedVariables false
set_option maxHeartbeats 40000000
set_option maxRecDepth 1000000
section
namespace Go.Proofs.YtehnipchbmjlhaaGreatDoor
open Go.RowKit
open Md
section
variable (p:Pr) (w:World) (bY dV:Option Addr) (bM bW:Nat) (i:Int) (J8:Option Addr) (Dt bs bt bc:Nat)
end
end Go.Proofs.YtehnipchbmjlhaaGreatDoor
end
section
namespace Go.Proofs.YtehnipchbmjlhaaGreatDoor
open Go.RowKit
open Md
section
variable (p:Pr) (w:World) (bY dV:Option Addr) (bM bW:Nat) (J8:Option Addr) (Dt bs bt bc:Nat)
end
end Go.Proofs.YtehnipchbmjlhaaGreatDoor
end
