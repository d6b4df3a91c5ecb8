/-
  DERIVED. GIVEN WITH THE SEED: THE CARDS: each row of YtldapdcphphodaaGreatDoorRows.lean that lists a variable, with what it lists TIED to the program's text (the seventh form; the later family's looks); each row that meets fmt, with fmt's text TOLD by the authors' own Lean function (tested against real Go, not proved from fmt's source: count such statements apart). THE CARD IS WHAT COUNTS. Prove the row's statement (the work); the ties are given (YtldapdcphphodaaGreatDoorTie.lean); close each card by the builder's one call (the guide's Derived/Test/ToyasCard.lean, 'card_holds'). Laid BY PROGRAM, IN A SANDBOX (cutbox-door.mjs). By AI agents, Wed Nov 11 2026. No macro, syntax, notation, axiom, sorry.
-/
import Derived.Test.YtldapdcphphodaaGreatDoorRows
import GoSem.ClaimSeven
namespace Go.Proofs.YtldapdcphphodaaGreatDoor
namespace Rows

/-- THE TIED CARD OF 'interleavelaw06.CompileLoose'. -/
def compileLooseCard : Claim7 := { stood := { row := compileLooseRow, standIns := [], harness := (true, "a61fa83dad73759f59704912d24e215ab35ef2aa6f673697065b2a5f02059cc1"), looks := true }, kinds := [], alts := [], laidByText := true, laidKinds := [.data, .data, .data, .data, .sentinel, .sentinel, .data, .pinned], laidTests := true, laidLooks := .later }
def CompileLooseCardSaid : Prop := Claim7.holds Tryz.pinned (.plain (OpenSpec.ofChange compileLooseSpec)) compileLooseCard

/-- THE SECOND FORM's CARD OF 'interleavelaw06.CompileLoose'. -/
def compileLooseUptoCard : Claim7 := { stood := { row := compileLooseUptoRow, standIns := [], harness := (true, "a61fa83dad73759f59704912d24e215ab35ef2aa6f673697065b2a5f02059cc1"), looks := true }, kinds := [], alts := [], laidByText := true, laidKinds := [.data, .data, .data, .data, .sentinel, .sentinel, .data, .pinned], laidTests := true, laidLooks := .later }
def CompileLooseUptoCardSaid : Prop := Claim7.holds Tryz.pinned (.plain (OpenSpec.upto compileLooseSpec)) compileLooseUptoCard
end Rows
end Go.Proofs.YtldapdcphphodaaGreatDoor
