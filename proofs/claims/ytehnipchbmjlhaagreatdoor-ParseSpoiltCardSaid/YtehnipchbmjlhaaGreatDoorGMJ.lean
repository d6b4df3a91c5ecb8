/-
  The checker's state as data, and the contract of its statement at every operator.
  Contract of the checker's statement at every operator, over the checker's state.
  What the checker answers to a list of statements: plain, and its parts that the walk needs.
  A statement put on the checker's row of those that are around, and taken off. No walk in sight.
-/
import Derived.Test.YtehnipchbmjlhaaGreatDoorGMG
import Derived.Test.YtehnipchbmjlhaaGreatDoorGMH
import Derived.Test.YtehnipchbmjlhaaGreatDoorGMI
import Derived.Test.YtehnipchbmjlhaaGreatDoorGMB
set_option linter.unusedSimpArgs false
set_option linter.unusedVariables false
set_option maxHeartbeats 40000000
set_option maxRecDepth 1000000
section
namespace Go.Proofs.YtehnipchbmjlhaaGreatDoor
open Go.RowKit
namespace Md
structure Fr where
 h:bf
 b:aS
 e:aS
 s:Sl
def LX (h:bf) (b e:aS) (s:Sl):List Value:=[.int .i64 h.op,.int .i64 h.line,.string h.nm,.string h.arg,.slice s.fH h.idx.len s.dW,.int .i64 h.bV,.int .i64 h.xn,.string h.bU,.slice s.cB h.aO.len s.bF,.slice s.bC b.len s.aV,.slice s.eZ e.len s.dL]
end Md
open Md
section
theorem dB {w:World} {b j:Nat} {cs:Array Value} {t:TypeId} {fr:Nat × Nat} {u:Value} (h:w.heap[b]? =some (.cells cs t fr)) (hu:cs[j]? =some u):b < w.heap.size∧w.cell? ⟨b,j,none⟩=some u:=
 ⟨(Array.getElem?_eq_some_iff.1 h).1,by rw [cell_of_row w b j cs t fr h]; exact hu⟩
end
end Go.Proofs.YtehnipchbmjlhaaGreatDoor
end
section
namespace Go.Proofs.YtehnipchbmjlhaaGreatDoor
open Go.RowKit
open Md
end Go.Proofs.YtehnipchbmjlhaaGreatDoor
end
section
namespace Go.Proofs.YtehnipchbmjlhaaGreatDoor
open Go.RowKit
namespace Md
end Md
open Md
end Go.Proofs.YtehnipchbmjlhaaGreatDoor
end
section
namespace Go.Proofs.YtehnipchbmjlhaaGreatDoor
open Go.RowKit
open Md
end Go.Proofs.YtehnipchbmjlhaaGreatDoor
end
