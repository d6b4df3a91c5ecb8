/-
  DERIVED. GIVEN WITH THE SEED: THE CARDS: each row of YtcjgfgkllmldpaaGreatDoorRows.lean that lists a variable, with what it lists TIED to the program's text (the seventh form; the later family's looks); each row that meets fmt, with fmt's text TOLD by the authors' own Lean function (tested against real Go, not proved from fmt's source: count such statements apart). THE CARD IS WHAT COUNTS. Prove the row's statement (the work); the ties are given (YtcjgfgkllmldpaaGreatDoorTie.lean); close each card by the builder's one call (the guide's Derived/Test/ToyasCard.lean, 'card_holds'). Laid BY PROGRAM, IN A SANDBOX (cutbox-door.mjs). By AI agents, Wed Nov 11 2026. No macro, syntax, notation, axiom, sorry.
-/
import Derived.Test.YtcjgfgkllmldpaaGreatDoorRows
import GoSem.ClaimSeven
namespace Go.Proofs.YtcjgfgkllmldpaaGreatDoor
namespace Rows

/-- THE TIED CARD OF 'interleavelaw06.CompileSpoils'. -/
def compileSpoilsCard : Claim7 := { stood := { row := compileSpoilsRow, standIns := [], harness := (true, "fb21c7554a1493c013420724306cb88e1e4f61a1af85619f9d18c8ac6cbd12c7"), looks := true }, kinds := [], alts := [], laidByText := true, laidKinds := [.data, .data, .data, .data, .sentinel, .sentinel, .data, .pinned], laidTests := true, laidLooks := .later }
def CompileSpoilsCardSaid : Prop := Claim7.holds Tryz.pinned (.plain (OpenSpec.ofChange compileSpoilsSpec)) compileSpoilsCard

/-- THE SECOND FORM's CARD OF 'interleavelaw06.CompileSpoils'. -/
def compileSpoilsUptoCard : Claim7 := { stood := { row := compileSpoilsUptoRow, standIns := [], harness := (true, "fb21c7554a1493c013420724306cb88e1e4f61a1af85619f9d18c8ac6cbd12c7"), looks := true }, kinds := [], alts := [], laidByText := true, laidKinds := [.data, .data, .data, .data, .sentinel, .sentinel, .data, .pinned], laidTests := true, laidLooks := .later }
def CompileSpoilsUptoCardSaid : Prop := Claim7.holds Tryz.pinned (.plain (OpenSpec.upto compileSpoilsSpec)) compileSpoilsUptoCard
end Rows
end Go.Proofs.YtcjgfgkllmldpaaGreatDoor
