/-
  DERIVED. GIVEN WITH THE SEED: THE CARDS: each row of YtkmllehjemjgpaaGreatDoorRows.lean that lists a variable, with what it lists TIED to the program's text (the seventh form; the later family's looks); each row that meets fmt, with fmt's text TOLD by the authors' own Lean function (tested against real Go, not proved from fmt's source: count such statements apart). THE CARD IS WHAT COUNTS. Prove the row's statement (the work); the ties are given (YtkmllehjemjgpaaGreatDoorTie.lean); close each card by the builder's one call (the guide's Derived/Test/ToyasCard.lean, 'card_holds'). Laid BY PROGRAM, IN A SANDBOX (cutbox-door.mjs). By AI agents, Wed Nov 11 2026. No macro, syntax, notation, axiom, sorry.
-/
import Derived.Test.YtkmllehjemjgpaaGreatDoorRows
import GoSem.ClaimSeven
namespace Go.Proofs.YtkmllehjemjgpaaGreatDoor
namespace Rows

/-- THE TIED CARD OF 'interleavelaw06.CompileTells'. -/
def compileTellsCard : Claim7 := { stood := { row := compileTellsRow, standIns := [], harness := (true, "0dc32dd85858c77261d1b292b661fe554ff99343a738efafa19ca2fc18875a19"), looks := true }, kinds := [], alts := [], laidByText := true, laidKinds := [.data, .data, .data, .data, .sentinel, .sentinel, .data, .pinned], laidTests := true, laidLooks := .later }
def CompileTellsCardSaid : Prop := Claim7.holds Tryz.pinned (.plain (OpenSpec.ofChange compileTellsSpec)) compileTellsCard

/-- THE SECOND FORM's CARD OF 'interleavelaw06.CompileTells'. -/
def compileTellsUptoCard : Claim7 := { stood := { row := compileTellsUptoRow, standIns := [], harness := (true, "0dc32dd85858c77261d1b292b661fe554ff99343a738efafa19ca2fc18875a19"), looks := true }, kinds := [], alts := [], laidByText := true, laidKinds := [.data, .data, .data, .data, .sentinel, .sentinel, .data, .pinned], laidTests := true, laidLooks := .later }
def CompileTellsUptoCardSaid : Prop := Claim7.holds Tryz.pinned (.plain (OpenSpec.upto compileTellsSpec)) compileTellsUptoCard
end Rows
end Go.Proofs.YtkmllehjemjgpaaGreatDoor
