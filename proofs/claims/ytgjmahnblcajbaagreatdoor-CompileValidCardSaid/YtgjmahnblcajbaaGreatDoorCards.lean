/-
  DERIVED. GIVEN WITH THE SEED: THE CARDS: each row of YtgjmahnblcajbaaGreatDoorRows.lean that lists a variable, with what it lists TIED to the program's text (the seventh form; the later family's looks); each row that meets fmt, with fmt's text TOLD by the authors' own Lean function (tested against real Go, not proved from fmt's source: count such statements apart). THE CARD IS WHAT COUNTS. Prove the row's statement (the work); the ties are given (YtgjmahnblcajbaaGreatDoorTie.lean); close each card by the builder's one call (the guide's Derived/Test/ToyasCard.lean, 'card_holds'). Laid BY PROGRAM, IN A SANDBOX (cutbox-door.mjs). By AI agents, Wed Nov 11 2026. No macro, syntax, notation, axiom, sorry.
-/
import Derived.Test.YtgjmahnblcajbaaGreatDoorRows
import GoSem.ClaimSeven
namespace Go.Proofs.YtgjmahnblcajbaaGreatDoor
namespace Rows

/-- THE TIED CARD OF 'interleavelaw06.CompileWorlds'. -/
def compileWorldsCard : Claim7 := { stood := { row := compileWorldsRow, standIns := [], harness := (true, "82ea8af9a94a56f4a33e2001676aa0ca0e17ccd668e4791122f9eee1a65a7375"), looks := true }, kinds := [], alts := [], laidByText := true, laidKinds := [.data, .data, .data, .data, .sentinel, .sentinel, .data, .pinned], laidTests := true, laidLooks := .later }
def CompileWorldsCardSaid : Prop := Claim7.holds Tryz.pinned (.plain (OpenSpec.ofChange compileWorldsSpec)) compileWorldsCard

/-- THE TIED CARD OF 'interleavelaw06.CompileValid'. -/
def compileValidCard : Claim7 := { stood := { row := compileValidRow, standIns := [], harness := (true, "82ea8af9a94a56f4a33e2001676aa0ca0e17ccd668e4791122f9eee1a65a7375"), looks := true }, kinds := [], alts := [], laidByText := true, laidKinds := [.data, .data, .data, .data, .sentinel, .sentinel, .data, .pinned], laidTests := true, laidLooks := .later }
def CompileValidCardSaid : Prop := Claim7.holds Tryz.pinned (.plain (OpenSpec.ofChange compileValidSpec)) compileValidCard

/-- THE TIED CARD OF 'interleavelaw06.CompileTells'. -/
def compileTellsCard : Claim7 := { stood := { row := compileTellsRow, standIns := [], harness := (true, "82ea8af9a94a56f4a33e2001676aa0ca0e17ccd668e4791122f9eee1a65a7375"), looks := true }, kinds := [], alts := [], laidByText := true, laidKinds := [.data, .data, .data, .data, .sentinel, .sentinel, .data, .pinned], laidTests := true, laidLooks := .later }
def CompileTellsCardSaid : Prop := Claim7.holds Tryz.pinned (.plain (OpenSpec.ofChange compileTellsSpec)) compileTellsCard

/-- THE SECOND FORM's CARD OF 'interleavelaw06.CompileWorlds'. -/
def compileWorldsUptoCard : Claim7 := { stood := { row := compileWorldsUptoRow, standIns := [], harness := (true, "82ea8af9a94a56f4a33e2001676aa0ca0e17ccd668e4791122f9eee1a65a7375"), looks := true }, kinds := [], alts := [], laidByText := true, laidKinds := [.data, .data, .data, .data, .sentinel, .sentinel, .data, .pinned], laidTests := true, laidLooks := .later }
def CompileWorldsUptoCardSaid : Prop := Claim7.holds Tryz.pinned (.plain (OpenSpec.upto compileWorldsSpec)) compileWorldsUptoCard

/-- THE SECOND FORM's CARD OF 'interleavelaw06.CompileValid'. -/
def compileValidUptoCard : Claim7 := { stood := { row := compileValidUptoRow, standIns := [], harness := (true, "82ea8af9a94a56f4a33e2001676aa0ca0e17ccd668e4791122f9eee1a65a7375"), looks := true }, kinds := [], alts := [], laidByText := true, laidKinds := [.data, .data, .data, .data, .sentinel, .sentinel, .data, .pinned], laidTests := true, laidLooks := .later }
def CompileValidUptoCardSaid : Prop := Claim7.holds Tryz.pinned (.plain (OpenSpec.upto compileValidSpec)) compileValidUptoCard

/-- THE SECOND FORM's CARD OF 'interleavelaw06.CompileTells'. -/
def compileTellsUptoCard : Claim7 := { stood := { row := compileTellsUptoRow, standIns := [], harness := (true, "82ea8af9a94a56f4a33e2001676aa0ca0e17ccd668e4791122f9eee1a65a7375"), looks := true }, kinds := [], alts := [], laidByText := true, laidKinds := [.data, .data, .data, .data, .sentinel, .sentinel, .data, .pinned], laidTests := true, laidLooks := .later }
def CompileTellsUptoCardSaid : Prop := Claim7.holds Tryz.pinned (.plain (OpenSpec.upto compileTellsSpec)) compileTellsUptoCard
end Rows
end Go.Proofs.YtgjmahnblcajbaaGreatDoor
