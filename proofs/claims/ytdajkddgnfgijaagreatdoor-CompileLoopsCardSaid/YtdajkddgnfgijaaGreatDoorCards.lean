/-
  DERIVED. GIVEN WITH THE SEED: THE CARDS: each row of YtdajkddgnfgijaaGreatDoorRows.lean that lists a variable, with what it lists TIED to the program's text (the seventh form; the later family's looks); each row that meets fmt, with fmt's text TOLD by the authors' own Lean function (tested against real Go, not proved from fmt's source: count such statements apart). THE CARD IS WHAT COUNTS. Prove the row's statement (the work); the ties are given (YtdajkddgnfgijaaGreatDoorTie.lean); close each card by the builder's one call (the guide's Derived/Test/ToyasCard.lean, 'card_holds'). Laid BY PROGRAM, IN A SANDBOX (cutbox-door.mjs). By AI agents, Wed Nov 11 2026. No macro, syntax, notation, axiom, sorry.
-/
import Derived.Test.YtdajkddgnfgijaaGreatDoorRows
import GoSem.ClaimSeven
namespace Go.Proofs.YtdajkddgnfgijaaGreatDoor
namespace Rows

/-- THE TIED CARD OF 'interleavelaw06.CompileLoops'. -/
def compileLoopsCard : Claim7 := { stood := { row := compileLoopsRow, standIns := [], harness := (true, "50340e30f6f17603b977721d1cf80464a1116bc67ee63688f1664d9d7e11481d"), looks := true }, kinds := [], alts := [], laidByText := true, laidKinds := [.data, .data, .data, .data, .sentinel, .sentinel, .data, .pinned], laidTests := true, laidLooks := .later }
def CompileLoopsCardSaid : Prop := Claim7.holds Tryz.pinned (.plain (OpenSpec.ofChange compileLoopsSpec)) compileLoopsCard

/-- THE TIED CARD OF 'interleavelaw06.CompileTells'. -/
def compileTellsCard : Claim7 := { stood := { row := compileTellsRow, standIns := [], harness := (true, "50340e30f6f17603b977721d1cf80464a1116bc67ee63688f1664d9d7e11481d"), looks := true }, kinds := [], alts := [], laidByText := true, laidKinds := [.data, .data, .data, .data, .sentinel, .sentinel, .data, .pinned], laidTests := true, laidLooks := .later }
def CompileTellsCardSaid : Prop := Claim7.holds Tryz.pinned (.plain (OpenSpec.ofChange compileTellsSpec)) compileTellsCard

/-- THE TIED CARD OF 'interleavelaw06.CompileLoose'. -/
def compileLooseCard : Claim7 := { stood := { row := compileLooseRow, standIns := [], harness := (true, "50340e30f6f17603b977721d1cf80464a1116bc67ee63688f1664d9d7e11481d"), looks := true }, kinds := [], alts := [], laidByText := true, laidKinds := [.data, .data, .data, .data, .sentinel, .sentinel, .data, .pinned], laidTests := true, laidLooks := .later }
def CompileLooseCardSaid : Prop := Claim7.holds Tryz.pinned (.plain (OpenSpec.ofChange compileLooseSpec)) compileLooseCard

/-- THE TIED CARD OF 'interleavelaw06.CompileWorlds'. -/
def compileWorldsCard : Claim7 := { stood := { row := compileWorldsRow, standIns := [], harness := (true, "50340e30f6f17603b977721d1cf80464a1116bc67ee63688f1664d9d7e11481d"), looks := true }, kinds := [], alts := [], laidByText := true, laidKinds := [.data, .data, .data, .data, .sentinel, .sentinel, .data, .pinned], laidTests := true, laidLooks := .later }
def CompileWorldsCardSaid : Prop := Claim7.holds Tryz.pinned (.plain (OpenSpec.ofChange compileWorldsSpec)) compileWorldsCard

/-- THE TIED CARD OF 'interleavelaw06.CompileWorldSpoils'. -/
def compileWorldSpoilsCard : Claim7 := { stood := { row := compileWorldSpoilsRow, standIns := [], harness := (true, "50340e30f6f17603b977721d1cf80464a1116bc67ee63688f1664d9d7e11481d"), looks := true }, kinds := [], alts := [], laidByText := true, laidKinds := [.data, .data, .data, .data, .sentinel, .sentinel, .data, .pinned], laidTests := true, laidLooks := .later }
def CompileWorldSpoilsCardSaid : Prop := Claim7.holds Tryz.pinned (.plain (OpenSpec.ofChange compileWorldSpoilsSpec)) compileWorldSpoilsCard

/-- THE TIED CARD OF 'interleavelaw06.CompileValid'. -/
def compileValidCard : Claim7 := { stood := { row := compileValidRow, standIns := [], harness := (true, "50340e30f6f17603b977721d1cf80464a1116bc67ee63688f1664d9d7e11481d"), looks := true }, kinds := [], alts := [], laidByText := true, laidKinds := [.data, .data, .data, .data, .sentinel, .sentinel, .data, .pinned], laidTests := true, laidLooks := .later }
def CompileValidCardSaid : Prop := Claim7.holds Tryz.pinned (.plain (OpenSpec.ofChange compileValidSpec)) compileValidCard

/-- THE TIED CARD OF 'interleavelaw06.CompileSpoils'. -/
def compileSpoilsCard : Claim7 := { stood := { row := compileSpoilsRow, standIns := [], harness := (true, "50340e30f6f17603b977721d1cf80464a1116bc67ee63688f1664d9d7e11481d"), looks := true }, kinds := [], alts := [], laidByText := true, laidKinds := [.data, .data, .data, .data, .sentinel, .sentinel, .data, .pinned], laidTests := true, laidLooks := .later }
def CompileSpoilsCardSaid : Prop := Claim7.holds Tryz.pinned (.plain (OpenSpec.ofChange compileSpoilsSpec)) compileSpoilsCard

/-- THE TIED CARD OF 'interleavelaw06.CompileUnused'. -/
def compileUnusedCard : Claim7 := { stood := { row := compileUnusedRow, standIns := [], harness := (true, "50340e30f6f17603b977721d1cf80464a1116bc67ee63688f1664d9d7e11481d"), looks := true }, kinds := [], alts := [], laidByText := true, laidKinds := [.data, .data, .data, .data, .sentinel, .sentinel, .data, .pinned], laidTests := true, laidLooks := .later }
def CompileUnusedCardSaid : Prop := Claim7.holds Tryz.pinned (.plain (OpenSpec.ofChange compileUnusedSpec)) compileUnusedCard

/-- THE SECOND FORM's CARD OF 'interleavelaw06.CompileLoops'. -/
def compileLoopsUptoCard : Claim7 := { stood := { row := compileLoopsUptoRow, standIns := [], harness := (true, "50340e30f6f17603b977721d1cf80464a1116bc67ee63688f1664d9d7e11481d"), looks := true }, kinds := [], alts := [], laidByText := true, laidKinds := [.data, .data, .data, .data, .sentinel, .sentinel, .data, .pinned], laidTests := true, laidLooks := .later }
def CompileLoopsUptoCardSaid : Prop := Claim7.holds Tryz.pinned (.plain (OpenSpec.upto compileLoopsSpec)) compileLoopsUptoCard

/-- THE SECOND FORM's CARD OF 'interleavelaw06.CompileTells'. -/
def compileTellsUptoCard : Claim7 := { stood := { row := compileTellsUptoRow, standIns := [], harness := (true, "50340e30f6f17603b977721d1cf80464a1116bc67ee63688f1664d9d7e11481d"), looks := true }, kinds := [], alts := [], laidByText := true, laidKinds := [.data, .data, .data, .data, .sentinel, .sentinel, .data, .pinned], laidTests := true, laidLooks := .later }
def CompileTellsUptoCardSaid : Prop := Claim7.holds Tryz.pinned (.plain (OpenSpec.upto compileTellsSpec)) compileTellsUptoCard

/-- THE SECOND FORM's CARD OF 'interleavelaw06.CompileLoose'. -/
def compileLooseUptoCard : Claim7 := { stood := { row := compileLooseUptoRow, standIns := [], harness := (true, "50340e30f6f17603b977721d1cf80464a1116bc67ee63688f1664d9d7e11481d"), looks := true }, kinds := [], alts := [], laidByText := true, laidKinds := [.data, .data, .data, .data, .sentinel, .sentinel, .data, .pinned], laidTests := true, laidLooks := .later }
def CompileLooseUptoCardSaid : Prop := Claim7.holds Tryz.pinned (.plain (OpenSpec.upto compileLooseSpec)) compileLooseUptoCard

/-- THE SECOND FORM's CARD OF 'interleavelaw06.CompileWorlds'. -/
def compileWorldsUptoCard : Claim7 := { stood := { row := compileWorldsUptoRow, standIns := [], harness := (true, "50340e30f6f17603b977721d1cf80464a1116bc67ee63688f1664d9d7e11481d"), looks := true }, kinds := [], alts := [], laidByText := true, laidKinds := [.data, .data, .data, .data, .sentinel, .sentinel, .data, .pinned], laidTests := true, laidLooks := .later }
def CompileWorldsUptoCardSaid : Prop := Claim7.holds Tryz.pinned (.plain (OpenSpec.upto compileWorldsSpec)) compileWorldsUptoCard

/-- THE SECOND FORM's CARD OF 'interleavelaw06.CompileWorldSpoils'. -/
def compileWorldSpoilsUptoCard : Claim7 := { stood := { row := compileWorldSpoilsUptoRow, standIns := [], harness := (true, "50340e30f6f17603b977721d1cf80464a1116bc67ee63688f1664d9d7e11481d"), looks := true }, kinds := [], alts := [], laidByText := true, laidKinds := [.data, .data, .data, .data, .sentinel, .sentinel, .data, .pinned], laidTests := true, laidLooks := .later }
def CompileWorldSpoilsUptoCardSaid : Prop := Claim7.holds Tryz.pinned (.plain (OpenSpec.upto compileWorldSpoilsSpec)) compileWorldSpoilsUptoCard

/-- THE SECOND FORM's CARD OF 'interleavelaw06.CompileValid'. -/
def compileValidUptoCard : Claim7 := { stood := { row := compileValidUptoRow, standIns := [], harness := (true, "50340e30f6f17603b977721d1cf80464a1116bc67ee63688f1664d9d7e11481d"), looks := true }, kinds := [], alts := [], laidByText := true, laidKinds := [.data, .data, .data, .data, .sentinel, .sentinel, .data, .pinned], laidTests := true, laidLooks := .later }
def CompileValidUptoCardSaid : Prop := Claim7.holds Tryz.pinned (.plain (OpenSpec.upto compileValidSpec)) compileValidUptoCard

/-- THE SECOND FORM's CARD OF 'interleavelaw06.CompileSpoils'. -/
def compileSpoilsUptoCard : Claim7 := { stood := { row := compileSpoilsUptoRow, standIns := [], harness := (true, "50340e30f6f17603b977721d1cf80464a1116bc67ee63688f1664d9d7e11481d"), looks := true }, kinds := [], alts := [], laidByText := true, laidKinds := [.data, .data, .data, .data, .sentinel, .sentinel, .data, .pinned], laidTests := true, laidLooks := .later }
def CompileSpoilsUptoCardSaid : Prop := Claim7.holds Tryz.pinned (.plain (OpenSpec.upto compileSpoilsSpec)) compileSpoilsUptoCard

/-- THE SECOND FORM's CARD OF 'interleavelaw06.CompileUnused'. -/
def compileUnusedUptoCard : Claim7 := { stood := { row := compileUnusedUptoRow, standIns := [], harness := (true, "50340e30f6f17603b977721d1cf80464a1116bc67ee63688f1664d9d7e11481d"), looks := true }, kinds := [], alts := [], laidByText := true, laidKinds := [.data, .data, .data, .data, .sentinel, .sentinel, .data, .pinned], laidTests := true, laidLooks := .later }
def CompileUnusedUptoCardSaid : Prop := Claim7.holds Tryz.pinned (.plain (OpenSpec.upto compileUnusedSpec)) compileUnusedUptoCard
end Rows
end Go.Proofs.YtdajkddgnfgijaaGreatDoor
