/-
  DERIVED. GIVEN WITH THE SEED: THE CARDS: each row of YtghdammalphmfaaDoorRows.lean that lists a variable, with what it lists TIED to the program's text (the seventh form; the later family's looks); each row that meets fmt, with fmt's text TOLD by the authors' own Lean function (tested against real Go, not proved from fmt's source: count such statements apart). THE CARD IS WHAT COUNTS. Prove the row's statement (the work); the ties are given (YtghdammalphmfaaDoorTie.lean); close each card by the builder's one call (the guide's Derived/Test/ToyasCard.lean, 'card_holds'). Laid BY PROGRAM, IN A SANDBOX (cutbox-door.mjs). By AI agents, Wed Nov 11 2026. No macro, syntax, notation, axiom, sorry.
-/
import Derived.Test.YtghdammalphmfaaDoorRows
import GoSem.ClaimSeven
namespace Go.Proofs.YtghdammalphmfaaDoor
namespace Rows

/-- THE TIED CARD OF 'interleavelaw04.CheckExprTells'. -/
def checkExprTellsCard : Claim7 := { stood := { row := checkExprTellsRow, standIns := [], harness := (true, "f923eead90fa1e51d54d576591835f0bb4fdbe4521fbcaa726de53625787fb34"), looks := false }, kinds := [], alts := [], laidByText := true, laidKinds := [.data], laidTests := true, laidLooks := .later }
def CheckExprTellsCardSaid : Prop := Claim7.holds Tryd.pinned (.plain (OpenSpec.ofChange checkExprTellsSpec)) checkExprTellsCard

/-- THE TIED CARD OF 'interleavelaw04.CheckTells'. -/
def checkTellsCard : Claim7 := { stood := { row := checkTellsRow, standIns := [], harness := (true, "f923eead90fa1e51d54d576591835f0bb4fdbe4521fbcaa726de53625787fb34"), looks := false }, kinds := [], alts := [], laidByText := true, laidKinds := [.data], laidTests := true, laidLooks := .later }
def CheckTellsCardSaid : Prop := Claim7.holds Tryd.pinned (.plain (OpenSpec.ofChange checkTellsSpec)) checkTellsCard

/-- THE TIED CARD OF 'interleavelaw04.CheckLoose'. -/
def checkLooseCard : Claim7 := { stood := { row := checkLooseRow, standIns := [], harness := (true, "f923eead90fa1e51d54d576591835f0bb4fdbe4521fbcaa726de53625787fb34"), looks := false }, kinds := [], alts := [], laidByText := true, laidKinds := [.data], laidTests := true, laidLooks := .later }
def CheckLooseCardSaid : Prop := Claim7.holds Tryd.pinned (.plain (OpenSpec.ofChange checkLooseSpec)) checkLooseCard

/-- THE TIED CARD OF 'interleavelaw04.CheckMade'. -/
def checkMadeCard : Claim7 := { stood := { row := checkMadeRow, standIns := [], harness := (true, "f923eead90fa1e51d54d576591835f0bb4fdbe4521fbcaa726de53625787fb34"), looks := false }, kinds := [], alts := [], laidByText := true, laidKinds := [.data], laidTests := true, laidLooks := .later }
def CheckMadeCardSaid : Prop := Claim7.holds Tryd.pinned (.plain (OpenSpec.ofChange checkMadeSpec)) checkMadeCard

/-- THE SECOND FORM's CARD OF 'interleavelaw04.CheckExprTells'. -/
def checkExprTellsUptoCard : Claim7 := { stood := { row := checkExprTellsUptoRow, standIns := [], harness := (true, "f923eead90fa1e51d54d576591835f0bb4fdbe4521fbcaa726de53625787fb34"), looks := false }, kinds := [], alts := [], laidByText := true, laidKinds := [.data], laidTests := true, laidLooks := .later }
def CheckExprTellsUptoCardSaid : Prop := Claim7.holds Tryd.pinned (.plain (OpenSpec.upto checkExprTellsSpec)) checkExprTellsUptoCard

/-- THE SECOND FORM's CARD OF 'interleavelaw04.CheckTells'. -/
def checkTellsUptoCard : Claim7 := { stood := { row := checkTellsUptoRow, standIns := [], harness := (true, "f923eead90fa1e51d54d576591835f0bb4fdbe4521fbcaa726de53625787fb34"), looks := false }, kinds := [], alts := [], laidByText := true, laidKinds := [.data], laidTests := true, laidLooks := .later }
def CheckTellsUptoCardSaid : Prop := Claim7.holds Tryd.pinned (.plain (OpenSpec.upto checkTellsSpec)) checkTellsUptoCard

/-- THE SECOND FORM's CARD OF 'interleavelaw04.CheckLoose'. -/
def checkLooseUptoCard : Claim7 := { stood := { row := checkLooseUptoRow, standIns := [], harness := (true, "f923eead90fa1e51d54d576591835f0bb4fdbe4521fbcaa726de53625787fb34"), looks := false }, kinds := [], alts := [], laidByText := true, laidKinds := [.data], laidTests := true, laidLooks := .later }
def CheckLooseUptoCardSaid : Prop := Claim7.holds Tryd.pinned (.plain (OpenSpec.upto checkLooseSpec)) checkLooseUptoCard

/-- THE SECOND FORM's CARD OF 'interleavelaw04.CheckMade'. -/
def checkMadeUptoCard : Claim7 := { stood := { row := checkMadeUptoRow, standIns := [], harness := (true, "f923eead90fa1e51d54d576591835f0bb4fdbe4521fbcaa726de53625787fb34"), looks := false }, kinds := [], alts := [], laidByText := true, laidKinds := [.data], laidTests := true, laidLooks := .later }
def CheckMadeUptoCardSaid : Prop := Claim7.holds Tryd.pinned (.plain (OpenSpec.upto checkMadeSpec)) checkMadeUptoCard
end Rows
end Go.Proofs.YtghdammalphmfaaDoor
