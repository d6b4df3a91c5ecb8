/-
  DERIVED. GIVEN WITH THE SEED: THE CARDS: each row of YtmildapbbcbbhaaGreatDoorRows.lean that lists a variable, with what it lists TIED to the program's text (the seventh form; the later family's looks); each row that meets fmt, with fmt's text TOLD by the authors' own Lean function (tested against real Go, not proved from fmt's source: count such statements apart). THE CARD IS WHAT COUNTS. Prove the row's statement (the work); the ties are given (YtmildapbbcbbhaaGreatDoorTie.lean); close each card by the builder's one call (the guide's Derived/Test/ToyasCard.lean, 'card_holds'). Laid BY PROGRAM, IN A SANDBOX (cutbox-door.mjs). By AI agents, Wed Nov 11 2026. No macro, syntax, notation, axiom, sorry.
-/
import Derived.Test.YtmildapbbcbbhaaGreatDoorRows
import GoSem.ClaimSeven
namespace Go.Proofs.YtmildapbbcbbhaaGreatDoor
namespace Rows

/-- THE TIED CARD OF 'interleavelaw06.CompileUnused'. -/
def compileUnusedCard : Claim7 := { stood := { row := compileUnusedRow, standIns := [], harness := (true, "ca927128445602326976aa61c224f96b6bd68677f56caab876c199376334bb3a"), looks := true }, kinds := [], alts := [], laidByText := true, laidKinds := [.data, .data, .data, .data, .sentinel, .sentinel, .data, .pinned], laidTests := true, laidLooks := .later }
def CompileUnusedCardSaid : Prop := Claim7.holds Tryz.pinned (.plain (OpenSpec.ofChange compileUnusedSpec)) compileUnusedCard

/-- THE SECOND FORM's CARD OF 'interleavelaw06.CompileUnused'. -/
def compileUnusedUptoCard : Claim7 := { stood := { row := compileUnusedUptoRow, standIns := [], harness := (true, "ca927128445602326976aa61c224f96b6bd68677f56caab876c199376334bb3a"), looks := true }, kinds := [], alts := [], laidByText := true, laidKinds := [.data, .data, .data, .data, .sentinel, .sentinel, .data, .pinned], laidTests := true, laidLooks := .later }
def CompileUnusedUptoCardSaid : Prop := Claim7.holds Tryz.pinned (.plain (OpenSpec.upto compileUnusedSpec)) compileUnusedUptoCard
end Rows
end Go.Proofs.YtmildapbbcbbhaaGreatDoor
