/-
  Contract of the checker's statement at set.
  Contract of the checker's statement at spawn.
-/
import Derived.Test.YtehnipchbmjlhaaGreatDoorGMF
section
set_option linter.unusedSimpArgs false
set_option linter.unusedVariables false
namespace Go.Proofs.YtehnipchbmjlhaaGreatDoor
open Go.RowKit
open Md
theorem MJ {b:Nat} {w1 w2 w3:World} (h:w1.grownBy w2 (some b)) (k:w2.grownBy w3 (some b)):w1.grownBy w3 (some b):=
 ⟨k.os.trans h.os,k.tape.trans h.tape,k.output.trans h.output,Nat.le_trans h.size k.size,fun j hj hne=>(k.block j (Nat.lt_of_lt_of_le hj h.size) hne).trans (h.block j hj hne)⟩
theorem Nf {b:Nat} {w w':World} (h:Below w.heap.size w w'):w.grownBy w' (some b):=⟨h.os,h.tape,h.output,h.size,fun k hk _=>h.block k hk⟩
def MC (W:World) (bm n:Nat) (f f':List UInt8→Bool) (β:Bool) (w':World):Prop:=W.grownBy w' (some bm)∧mh w' bm (n + β.toNat) (if β then f' else f)
theorem MC.below {W:World} {bm n:Nat} {f f':List UInt8→Bool} {β:Bool} {w' w2:World} (h:MC W bm n f f' β w') (hb:Below w'.heap.size w' w2):MC W bm n f f' β w2:=⟨MJ h.1 (Nf hb),h.2.next hb⟩
section
variable (p:Pr) (w:World) (bq bQ:Option Addr) (bg bn:Nat) (i:Int) (K4:Option Addr) (Cx bs bt bc:Nat)
end
end Go.Proofs.YtehnipchbmjlhaaGreatDoor
end
section
set_option linter.unusedSimpArgs false
set_option linter.unusedVariables false
namespace Go.Proofs.YtehnipchbmjlhaaGreatDoor
open Go.RowKit
open Md
section
variable (p:Pr) (w:World) (bq bQ:Option Addr) (bg bn:Nat) (K4:Option Addr) (Cx bs bt bc:Nat)
end
end Go.Proofs.YtehnipchbmjlhaaGreatDoor
end
