/-
  Contracts of the reference's At, DeclAt, ThreadAt, KindOf, want, Nodes, names, Expr.
-/
import Derived.Test.YtdajkddgnfgijaaGreatDoorGME
namespace Go.Proofs.YtdajkddgnfgijaaGreatDoor
open Go.RowKit
namespace Md
def conv (m:Int):Int:=if m == 0 then 0 else if m == 1 then 8 else if m == 9 then 9 else m - 1
end Md
open Md
end Go.Proofs.YtdajkddgnfgijaaGreatDoor
