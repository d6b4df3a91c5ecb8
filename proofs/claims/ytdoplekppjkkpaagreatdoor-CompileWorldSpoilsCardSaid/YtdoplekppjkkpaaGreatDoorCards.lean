/-
  DERIVED. GIVEN WITH THE SEED: THE CARDS: each row of YtdoplekppjkkpaaGreatDoorRows.lean that lists a variable, with what it lists TIED to the program's text (the seventh form; the later family's looks); each row that meets fmt, with fmt's text TOLD by the authors' own Lean function (tested against real Go, not proved from fmt's source: count such statements apart). THE CARD IS WHAT COUNTS. Prove the row's statement (the work); the ties are given (YtdoplekppjkkpaaGreatDoorTie.lean); close each card by the builder's one call (the guide's Derived/Test/ToyasCard.lean, 'card_holds'). Laid BY PROGRAM, IN A SANDBOX (cutbox-door.mjs). By AI agents, Wed Nov 11 2026. No macro, syntax, notation, axiom, sorry.
-/
import Derived.Test.YtdoplekppjkkpaaGreatDoorRows
import GoSem.ClaimSeven
namespace Go.Proofs.YtdoplekppjkkpaaGreatDoor
namespace Rows

/-- THE TIED CARD OF 'interleavelaw06.CompileWorldSpoils'. -/
def compileWorldSpoilsCard : Claim7 := { stood := { row := compileWorldSpoilsRow, standIns := [], harness := (true, "af8e991512bb6a7e5b22d6eff56414b91c81581ebfe2858cb9281c30ccbca3c6"), looks := true }, kinds := [], alts := [], laidByText := true, laidKinds := [.data, .data, .data, .data, .sentinel, .sentinel, .data, .pinned], laidTests := true, laidLooks := .later }
def CompileWorldSpoilsCardSaid : Prop := Claim7.holds Tryz.pinned (.plain (OpenSpec.ofChange compileWorldSpoilsSpec)) compileWorldSpoilsCard

/-- THE SECOND FORM's CARD OF 'interleavelaw06.CompileWorldSpoils'. -/
def compileWorldSpoilsUptoCard : Claim7 := { stood := { row := compileWorldSpoilsUptoRow, standIns := [], harness := (true, "af8e991512bb6a7e5b22d6eff56414b91c81581ebfe2858cb9281c30ccbca3c6"), looks := true }, kinds := [], alts := [], laidByText := true, laidKinds := [.data, .data, .data, .data, .sentinel, .sentinel, .data, .pinned], laidTests := true, laidLooks := .later }
def CompileWorldSpoilsUptoCardSaid : Prop := Claim7.holds Tryz.pinned (.plain (OpenSpec.upto compileWorldSpoilsSpec)) compileWorldSpoilsUptoCard
end Rows
end Go.Proofs.YtdoplekppjkkpaaGreatDoor
