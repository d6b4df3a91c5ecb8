/-
  DERIVED. GIVEN WITH THE SEED: THE CARDS: each row of YtkajcclnlehkmaaGreatDoorRows.lean that lists a variable, with what it lists TIED to the program's text (the seventh form; the later family's looks); each row that meets fmt, with fmt's text TOLD by the authors' own Lean function (tested against real Go, not proved from fmt's source: count such statements apart). THE CARD IS WHAT COUNTS. Prove the row's statement (the work); the ties are given (YtkajcclnlehkmaaGreatDoorTie.lean); close each card by the builder's one call (the guide's Derived/Test/ToyasCard.lean, 'card_holds'). Laid BY PROGRAM, IN A SANDBOX (cutbox-door.mjs). By AI agents, Wed Nov 11 2026. No macro, syntax, notation, axiom, sorry.
-/
import Derived.Test.YtkajcclnlehkmaaGreatDoorRows
import GoSem.ClaimSeven
namespace Go.Proofs.YtkajcclnlehkmaaGreatDoor
namespace Rows

/-- THE TIED CARD OF 'interleavelaw02.ParseShapesNear'. -/
def parseShapesNearCard : Claim7 := { stood := { row := parseShapesNearRow, standIns := [], harness := (true, "66a83bb5f5712aa144b22407cfa5a8477cf6fce01743f4f8db5bf228d3b421ee"), looks := true }, kinds := [], alts := [], laidByText := true, laidKinds := [.data, .data, .data, .data, .sentinel, .sentinel, .data, .pinned], laidTests := true, laidLooks := .later }
def ParseShapesNearCardSaid : Prop := Claim7.holds Tryz.pinned (.plain (OpenSpec.ofChange parseShapesNearSpec)) parseShapesNearCard

/-- THE SECOND FORM's CARD OF 'interleavelaw02.ParseShapesNear'. -/
def parseShapesNearUptoCard : Claim7 := { stood := { row := parseShapesNearUptoRow, standIns := [], harness := (true, "66a83bb5f5712aa144b22407cfa5a8477cf6fce01743f4f8db5bf228d3b421ee"), looks := true }, kinds := [], alts := [], laidByText := true, laidKinds := [.data, .data, .data, .data, .sentinel, .sentinel, .data, .pinned], laidTests := true, laidLooks := .later }
def ParseShapesNearUptoCardSaid : Prop := Claim7.holds Tryz.pinned (.plain (OpenSpec.upto parseShapesNearSpec)) parseShapesNearUptoCard
end Rows
end Go.Proofs.YtkajcclnlehkmaaGreatDoor
