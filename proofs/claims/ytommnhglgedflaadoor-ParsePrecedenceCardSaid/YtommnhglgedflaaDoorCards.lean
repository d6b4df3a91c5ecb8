/-
  DERIVED. GIVEN WITH THE SEED: THE CARDS: each row of YtommnhglgedflaaDoorRows.lean that lists a variable, with what it lists TIED to the program's text (the seventh form; the later family's looks); each row that meets fmt, with fmt's text TOLD by the authors' own Lean function (tested against real Go, not proved from fmt's source: count such statements apart). THE CARD IS WHAT COUNTS. Prove the row's statement (the work); the ties are given (YtommnhglgedflaaDoorTie.lean); close each card by the builder's one call (the guide's Derived/Test/ToyasCard.lean, 'card_holds'). Laid BY PROGRAM, IN A SANDBOX (cutbox-door.mjs). By AI agents, Wed Nov 11 2026. No macro, syntax, notation, axiom, sorry.
-/
import Derived.Test.YtommnhglgedflaaDoorRows
import GoSem.ClaimSeven
namespace Go.Proofs.YtommnhglgedflaaDoor
namespace Rows

/-- THE TIED CARD OF 'interleavelaw02.ParsePrecedence'. -/
def parsePrecedenceCard : Claim7 := { stood := { row := parsePrecedenceRow, standIns := [], harness := (true, "762885223c050e426d63c364004a3ebc9dedda4aa4d29b1a9942babc716b0002"), looks := true }, kinds := [], alts := [], laidByText := true, laidKinds := [.data, .data, .data, .data, .sentinel, .sentinel, .data, .pinned], laidTests := true, laidLooks := .later }
def ParsePrecedenceCardSaid : Prop := Claim7.holds Tryd.pinned (.plain (OpenSpec.ofChange parsePrecedenceSpec)) parsePrecedenceCard

/-- THE TIED CARD OF 'interleavelaw02.ParseResults'. -/
def parseResultsCard : Claim7 := { stood := { row := parseResultsRow, standIns := [], harness := (true, "762885223c050e426d63c364004a3ebc9dedda4aa4d29b1a9942babc716b0002"), looks := true }, kinds := [], alts := [], laidByText := true, laidKinds := [.data, .data, .data, .data, .sentinel, .sentinel, .data, .pinned], laidTests := true, laidLooks := .later }
def ParseResultsCardSaid : Prop := Claim7.holds Tryd.pinned (.plain (OpenSpec.ofChange parseResultsSpec)) parseResultsCard

/-- THE TIED CARD OF 'interleavelaw02.ParseComparisons'. -/
def parseComparisonsCard : Claim7 := { stood := { row := parseComparisonsRow, standIns := [], harness := (true, "762885223c050e426d63c364004a3ebc9dedda4aa4d29b1a9942babc716b0002"), looks := true }, kinds := [], alts := [], laidByText := true, laidKinds := [.data, .data, .data, .data, .sentinel, .sentinel, .data, .pinned], laidTests := true, laidLooks := .later }
def ParseComparisonsCardSaid : Prop := Claim7.holds Tryd.pinned (.plain (OpenSpec.ofChange parseComparisonsSpec)) parseComparisonsCard

/-- THE SECOND FORM's CARD OF 'interleavelaw02.ParsePrecedence'. -/
def parsePrecedenceUptoCard : Claim7 := { stood := { row := parsePrecedenceUptoRow, standIns := [], harness := (true, "762885223c050e426d63c364004a3ebc9dedda4aa4d29b1a9942babc716b0002"), looks := true }, kinds := [], alts := [], laidByText := true, laidKinds := [.data, .data, .data, .data, .sentinel, .sentinel, .data, .pinned], laidTests := true, laidLooks := .later }
def ParsePrecedenceUptoCardSaid : Prop := Claim7.holds Tryd.pinned (.plain (OpenSpec.upto parsePrecedenceSpec)) parsePrecedenceUptoCard

/-- THE SECOND FORM's CARD OF 'interleavelaw02.ParseResults'. -/
def parseResultsUptoCard : Claim7 := { stood := { row := parseResultsUptoRow, standIns := [], harness := (true, "762885223c050e426d63c364004a3ebc9dedda4aa4d29b1a9942babc716b0002"), looks := true }, kinds := [], alts := [], laidByText := true, laidKinds := [.data, .data, .data, .data, .sentinel, .sentinel, .data, .pinned], laidTests := true, laidLooks := .later }
def ParseResultsUptoCardSaid : Prop := Claim7.holds Tryd.pinned (.plain (OpenSpec.upto parseResultsSpec)) parseResultsUptoCard

/-- THE SECOND FORM's CARD OF 'interleavelaw02.ParseComparisons'. -/
def parseComparisonsUptoCard : Claim7 := { stood := { row := parseComparisonsUptoRow, standIns := [], harness := (true, "762885223c050e426d63c364004a3ebc9dedda4aa4d29b1a9942babc716b0002"), looks := true }, kinds := [], alts := [], laidByText := true, laidKinds := [.data, .data, .data, .data, .sentinel, .sentinel, .data, .pinned], laidTests := true, laidLooks := .later }
def ParseComparisonsUptoCardSaid : Prop := Claim7.holds Tryd.pinned (.plain (OpenSpec.upto parseComparisonsSpec)) parseComparisonsUptoCard
end Rows
end Go.Proofs.YtommnhglgedflaaDoor
