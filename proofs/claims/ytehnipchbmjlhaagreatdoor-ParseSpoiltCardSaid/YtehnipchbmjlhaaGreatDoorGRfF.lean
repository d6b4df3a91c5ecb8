/-
  Contract of the reference's Expr.
-/
import Derived.Test.YtehnipchbmjlhaaGreatDoorGUD
import Derived.Test.YtehnipchbmjlhaaGreatDoorGUA
import Derived.Test.YtehnipchbmjlhaaGreatDoorGUB
import Derived.Test.YtehnipchbmjlhaaGreatDoorGRG
import Derived.Test.YtehnipchbmjlhaaGreatDoorGRE
set_option linter.unusedSimpArgs false
set_option linter.unusedVariables false
set_option maxHeartbeats 40000000
set_option maxRecDepth 1000000
namespace Go.Proofs.YtehnipchbmjlhaaGreatDoor
open Go.RowKit
open Md Pz
theorem XZ {w W:World} {ao:Option Addr} {cap:Nat} {ts:ak} (hW:w.alloc (.cells #[.slice ao ts.length cap,.int .i64 0,.int .i64 0] 93)=W) (ht:oI w w.heap.size ts ao 0) (ok: ∀t ∈ ts,xK t) (tl:(∀t ∈ ts,TL 4097 t)∧ts.length≤4096):bn W (qW w ao cap ts) (.go ts):=by
 subst hW
 exact ⟨⟨0,0,Nat.zero_le _,⟨rfl,rfl⟩,heap_alloc_new _ _⟩,ht.below (ah _ _),⟨ok,tl.2⟩,tl.1⟩
end Go.Proofs.YtehnipchbmjlhaaGreatDoor
