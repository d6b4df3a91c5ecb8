/-
  DERIVED. GIVEN WITH THE SEED: THE CARDS: each row of YtfbbaiejbjdfbaaGreatDoorRows.lean that lists a variable, with what it lists TIED to the program's text (the seventh form; the later family's looks); each row that meets fmt, with fmt's text TOLD by the authors' own Lean function (tested against real Go, not proved from fmt's source: count such statements apart). THE CARD IS WHAT COUNTS. Prove the row's statement (the work); the ties are given (YtfbbaiejbjdfbaaGreatDoorTie.lean); close each card by the builder's one call (the guide's Derived/Test/ToyasCard.lean, 'card_holds'). Laid BY PROGRAM, IN A SANDBOX (cutbox-door.mjs). By AI agents, Wed Nov 11 2026. No macro, syntax, notation, axiom, sorry.
-/
import Derived.Test.YtfbbaiejbjdfbaaGreatDoorRows
import GoSem.ClaimSeven
namespace Go.Proofs.YtfbbaiejbjdfbaaGreatDoor
namespace Rows

/-- THE TIED CARD OF 'interleavelaw06.CompileMade'. -/
def compileMadeCard : Claim7 := { stood := { row := compileMadeRow, standIns := [], harness := (true, "e04465be1d1eadc30f1752c177feab1628d9d89c4b679953f33a07266b0de9c1"), looks := false }, kinds := [], alts := [], laidByText := true, laidKinds := [.data], laidTests := true, laidLooks := .later }
def CompileMadeCardSaid : Prop := Claim7.holds Tryz.pinned (.plain (OpenSpec.ofChange compileMadeSpec)) compileMadeCard

/-- THE TIED CARD OF 'interleavelaw06.CompileSound'. -/
def compileSoundCard : Claim7 := { stood := { row := compileSoundRow, standIns := [], harness := (true, "e04465be1d1eadc30f1752c177feab1628d9d89c4b679953f33a07266b0de9c1"), looks := false }, kinds := [], alts := [], laidByText := true, laidKinds := [.data], laidTests := true, laidLooks := .later }
def CompileSoundCardSaid : Prop := Claim7.holds Tryz.pinned (.plain (OpenSpec.ofChange compileSoundSpec)) compileSoundCard

/-- THE SECOND FORM's CARD OF 'interleavelaw06.CompileMade'. -/
def compileMadeUptoCard : Claim7 := { stood := { row := compileMadeUptoRow, standIns := [], harness := (true, "e04465be1d1eadc30f1752c177feab1628d9d89c4b679953f33a07266b0de9c1"), looks := false }, kinds := [], alts := [], laidByText := true, laidKinds := [.data], laidTests := true, laidLooks := .later }
def CompileMadeUptoCardSaid : Prop := Claim7.holds Tryz.pinned (.plain (OpenSpec.upto compileMadeSpec)) compileMadeUptoCard

/-- THE SECOND FORM's CARD OF 'interleavelaw06.CompileSound'. -/
def compileSoundUptoCard : Claim7 := { stood := { row := compileSoundUptoRow, standIns := [], harness := (true, "e04465be1d1eadc30f1752c177feab1628d9d89c4b679953f33a07266b0de9c1"), looks := false }, kinds := [], alts := [], laidByText := true, laidKinds := [.data], laidTests := true, laidLooks := .later }
def CompileSoundUptoCardSaid : Prop := Claim7.holds Tryz.pinned (.plain (OpenSpec.upto compileSoundSpec)) compileSoundUptoCard
end Rows
end Go.Proofs.YtfbbaiejbjdfbaaGreatDoor
