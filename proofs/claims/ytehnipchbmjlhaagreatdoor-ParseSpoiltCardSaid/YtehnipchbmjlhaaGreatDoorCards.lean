/-
  DERIVED. GIVEN WITH THE SEED: THE CARDS: each row of YtehnipchbmjlhaaGreatDoorRows.lean that lists a variable, with what it lists TIED to the program's text (the seventh form; the later family's looks); each row that meets fmt, with fmt's text TOLD by the authors' own Lean function (tested against real Go, not proved from fmt's source: count such statements apart). THE CARD IS WHAT COUNTS. Prove the row's statement (the work); the ties are given (YtehnipchbmjlhaaGreatDoorTie.lean); close each card by the builder's one call (the guide's Derived/Test/ToyasCard.lean, 'card_holds'). Laid BY PROGRAM, IN A SANDBOX (cutbox-door.mjs). By AI agents, Wed Nov 11 2026. No macro, syntax, notation, axiom, sorry.
-/
import Derived.Test.YtehnipchbmjlhaaGreatDoorRows
import GoSem.ClaimSeven
namespace Go.Proofs.YtehnipchbmjlhaaGreatDoor
namespace Rows

/-- THE TIED CARD OF 'interleavelaw02.ParseTexts'. -/
def parseTextsCard : Claim7 := { stood := { row := parseTextsRow, standIns := [], harness := (true, "80ff4f9566b4878bf40e97e0c95a3794227dd78fe418a3793ace1456b408417a"), looks := true }, kinds := [], alts := [], laidByText := true, laidKinds := [.data, .data, .data, .data, .sentinel, .sentinel, .data, .pinned], laidTests := true, laidLooks := .later }
def ParseTextsCardSaid : Prop := Claim7.holds Tryz.pinned (.plain (OpenSpec.ofChange parseTextsSpec)) parseTextsCard

/-- THE TIED CARD OF 'interleavelaw02.ParseShapesNear'. -/
def parseShapesNearCard : Claim7 := { stood := { row := parseShapesNearRow, standIns := [], harness := (true, "80ff4f9566b4878bf40e97e0c95a3794227dd78fe418a3793ace1456b408417a"), looks := true }, kinds := [], alts := [], laidByText := true, laidKinds := [.data, .data, .data, .data, .sentinel, .sentinel, .data, .pinned], laidTests := true, laidLooks := .later }
def ParseShapesNearCardSaid : Prop := Claim7.holds Tryz.pinned (.plain (OpenSpec.ofChange parseShapesNearSpec)) parseShapesNearCard

/-- THE TIED CARD OF 'interleavelaw02.ParseSpoilt'. -/
def parseSpoiltCard : Claim7 := { stood := { row := parseSpoiltRow, standIns := [], harness := (true, "80ff4f9566b4878bf40e97e0c95a3794227dd78fe418a3793ace1456b408417a"), looks := true }, kinds := [], alts := [], laidByText := true, laidKinds := [.data, .data, .data, .data, .sentinel, .sentinel, .data, .pinned], laidTests := true, laidLooks := .later }
def ParseSpoiltCardSaid : Prop := Claim7.holds Tryz.pinned (.plain (OpenSpec.ofChange parseSpoiltSpec)) parseSpoiltCard

/-- THE TIED CARD OF 'interleavelaw02.ParseExprSpoilt'. -/
def parseExprSpoiltCard : Claim7 := { stood := { row := parseExprSpoiltRow, standIns := [], harness := (true, "80ff4f9566b4878bf40e97e0c95a3794227dd78fe418a3793ace1456b408417a"), looks := true }, kinds := [], alts := [], laidByText := true, laidKinds := [.data, .data, .data, .data, .sentinel, .sentinel, .data, .pinned], laidTests := true, laidLooks := .later }
def ParseExprSpoiltCardSaid : Prop := Claim7.holds Tryz.pinned (.plain (OpenSpec.ofChange parseExprSpoiltSpec)) parseExprSpoiltCard

/-- THE TIED CARD OF 'interleavelaw02.ParseParentheses'. -/
def parseParenthesesCard : Claim7 := { stood := { row := parseParenthesesRow, standIns := [], harness := (true, "80ff4f9566b4878bf40e97e0c95a3794227dd78fe418a3793ace1456b408417a"), looks := true }, kinds := [], alts := [], laidByText := true, laidKinds := [.data, .data, .data, .data, .sentinel, .sentinel, .data, .pinned], laidTests := true, laidLooks := .later }
def ParseParenthesesCardSaid : Prop := Claim7.holds Tryz.pinned (.plain (OpenSpec.ofChange parseParenthesesSpec)) parseParenthesesCard

/-- THE TIED CARD OF 'interleavelaw04.CheckCanonical'. -/
def checkCanonicalCard : Claim7 := { stood := { row := checkCanonicalRow, standIns := [], harness := (true, "80ff4f9566b4878bf40e97e0c95a3794227dd78fe418a3793ace1456b408417a"), looks := true }, kinds := [], alts := [], laidByText := true, laidKinds := [.data, .data, .data, .data, .sentinel, .sentinel, .data, .pinned], laidTests := true, laidLooks := .later }
def CheckCanonicalCardSaid : Prop := Claim7.holds Tryz.pinned (.plain (OpenSpec.ofChange checkCanonicalSpec)) checkCanonicalCard

/-- THE SECOND FORM's CARD OF 'interleavelaw02.ParseTexts'. -/
def parseTextsUptoCard : Claim7 := { stood := { row := parseTextsUptoRow, standIns := [], harness := (true, "80ff4f9566b4878bf40e97e0c95a3794227dd78fe418a3793ace1456b408417a"), looks := true }, kinds := [], alts := [], laidByText := true, laidKinds := [.data, .data, .data, .data, .sentinel, .sentinel, .data, .pinned], laidTests := true, laidLooks := .later }
def ParseTextsUptoCardSaid : Prop := Claim7.holds Tryz.pinned (.plain (OpenSpec.upto parseTextsSpec)) parseTextsUptoCard

/-- THE SECOND FORM's CARD OF 'interleavelaw02.ParseShapesNear'. -/
def parseShapesNearUptoCard : Claim7 := { stood := { row := parseShapesNearUptoRow, standIns := [], harness := (true, "80ff4f9566b4878bf40e97e0c95a3794227dd78fe418a3793ace1456b408417a"), looks := true }, kinds := [], alts := [], laidByText := true, laidKinds := [.data, .data, .data, .data, .sentinel, .sentinel, .data, .pinned], laidTests := true, laidLooks := .later }
def ParseShapesNearUptoCardSaid : Prop := Claim7.holds Tryz.pinned (.plain (OpenSpec.upto parseShapesNearSpec)) parseShapesNearUptoCard

/-- THE SECOND FORM's CARD OF 'interleavelaw02.ParseSpoilt'. -/
def parseSpoiltUptoCard : Claim7 := { stood := { row := parseSpoiltUptoRow, standIns := [], harness := (true, "80ff4f9566b4878bf40e97e0c95a3794227dd78fe418a3793ace1456b408417a"), looks := true }, kinds := [], alts := [], laidByText := true, laidKinds := [.data, .data, .data, .data, .sentinel, .sentinel, .data, .pinned], laidTests := true, laidLooks := .later }
def ParseSpoiltUptoCardSaid : Prop := Claim7.holds Tryz.pinned (.plain (OpenSpec.upto parseSpoiltSpec)) parseSpoiltUptoCard

/-- THE SECOND FORM's CARD OF 'interleavelaw02.ParseExprSpoilt'. -/
def parseExprSpoiltUptoCard : Claim7 := { stood := { row := parseExprSpoiltUptoRow, standIns := [], harness := (true, "80ff4f9566b4878bf40e97e0c95a3794227dd78fe418a3793ace1456b408417a"), looks := true }, kinds := [], alts := [], laidByText := true, laidKinds := [.data, .data, .data, .data, .sentinel, .sentinel, .data, .pinned], laidTests := true, laidLooks := .later }
def ParseExprSpoiltUptoCardSaid : Prop := Claim7.holds Tryz.pinned (.plain (OpenSpec.upto parseExprSpoiltSpec)) parseExprSpoiltUptoCard

/-- THE SECOND FORM's CARD OF 'interleavelaw02.ParseParentheses'. -/
def parseParenthesesUptoCard : Claim7 := { stood := { row := parseParenthesesUptoRow, standIns := [], harness := (true, "80ff4f9566b4878bf40e97e0c95a3794227dd78fe418a3793ace1456b408417a"), looks := true }, kinds := [], alts := [], laidByText := true, laidKinds := [.data, .data, .data, .data, .sentinel, .sentinel, .data, .pinned], laidTests := true, laidLooks := .later }
def ParseParenthesesUptoCardSaid : Prop := Claim7.holds Tryz.pinned (.plain (OpenSpec.upto parseParenthesesSpec)) parseParenthesesUptoCard

/-- THE SECOND FORM's CARD OF 'interleavelaw04.CheckCanonical'. -/
def checkCanonicalUptoCard : Claim7 := { stood := { row := checkCanonicalUptoRow, standIns := [], harness := (true, "80ff4f9566b4878bf40e97e0c95a3794227dd78fe418a3793ace1456b408417a"), looks := true }, kinds := [], alts := [], laidByText := true, laidKinds := [.data, .data, .data, .data, .sentinel, .sentinel, .data, .pinned], laidTests := true, laidLooks := .later }
def CheckCanonicalUptoCardSaid : Prop := Claim7.holds Tryz.pinned (.plain (OpenSpec.upto checkCanonicalSpec)) checkCanonicalUptoCard
end Rows
end Go.Proofs.YtehnipchbmjlhaaGreatDoor
