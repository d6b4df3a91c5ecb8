/-
  DERIVED. GIVEN WITH THE SEED: THE CARDS: each row of YtnknfoibmgphnaaDoorRows.lean that lists a variable, with what it lists TIED to the program's text (the seventh form; the later family's looks); each row that meets fmt, with fmt's text TOLD by the authors' own Lean function (tested against real Go, not proved from fmt's source: count such statements apart). THE CARD IS WHAT COUNTS. Prove the row's statement (the work); the ties are given (YtnknfoibmgphnaaDoorTie.lean); close each card by the builder's one call (the guide's Derived/Test/ToyasCard.lean, 'card_holds'). Laid BY PROGRAM, IN A SANDBOX (cutbox-door.mjs). By AI agents, Wed Nov 11 2026. No macro, syntax, notation, axiom, sorry.
-/
import Derived.Test.YtnknfoibmgphnaaDoorRows
import GoSem.ClaimSeven
namespace Go.Proofs.YtnknfoibmgphnaaDoor
namespace Rows

/-- THE TIED CARD OF 'interleavelaw04.CheckMade'. -/
def checkMadeCard : Claim7 := { stood := { row := checkMadeRow, standIns := [], harness := (true, "c9c69a43ce52f9e18a575140ae42dedc81b088466801a6ff44385064aa974deb"), looks := false }, kinds := [], alts := [], laidByText := true, laidKinds := [.data], laidTests := true, laidLooks := .later }
def CheckMadeCardSaid : Prop := Claim7.holds Tryd.pinned (.plain (OpenSpec.ofChange checkMadeSpec)) checkMadeCard

/-- THE SECOND FORM's CARD OF 'interleavelaw04.CheckMade'. -/
def checkMadeUptoCard : Claim7 := { stood := { row := checkMadeUptoRow, standIns := [], harness := (true, "c9c69a43ce52f9e18a575140ae42dedc81b088466801a6ff44385064aa974deb"), looks := false }, kinds := [], alts := [], laidByText := true, laidKinds := [.data], laidTests := true, laidLooks := .later }
def CheckMadeUptoCardSaid : Prop := Claim7.holds Tryd.pinned (.plain (OpenSpec.upto checkMadeSpec)) checkMadeUptoCard
end Rows
end Go.Proofs.YtnknfoibmgphnaaDoor
