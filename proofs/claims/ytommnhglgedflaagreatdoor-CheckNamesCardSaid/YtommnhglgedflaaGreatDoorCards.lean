/-
  DERIVED. GIVEN WITH THE SEED: THE CARDS: each row of YtommnhglgedflaaGreatDoorRows.lean that lists a variable, with what it lists TIED to the program's text (the seventh form; the later family's looks); each row that meets fmt, with fmt's text TOLD by the authors' own Lean function (tested against real Go, not proved from fmt's source: count such statements apart). THE CARD IS WHAT COUNTS. Prove the row's statement (the work); the ties are given (YtommnhglgedflaaGreatDoorTie.lean); close each card by the builder's one call (the guide's Derived/Test/ToyasCard.lean, 'card_holds'). Laid BY PROGRAM, IN A SANDBOX (cutbox-door.mjs). By AI agents, Wed Nov 11 2026. No macro, syntax, notation, axiom, sorry.
-/
import Derived.Test.YtommnhglgedflaaGreatDoorRows
import GoSem.ClaimSeven
namespace Go.Proofs.YtommnhglgedflaaGreatDoor
namespace Rows

/-- THE TIED CARD OF 'interleavelaw02.ParseTexts'. -/
def parseTextsCard : Claim7 := { stood := { row := parseTextsRow, standIns := [], harness := (true, "7b96bf89ab02a4b8e8cc219a5f7a65f1527cef2a0af38e597490a64ce3bab7f5"), looks := true }, kinds := [], alts := [], laidByText := true, laidKinds := [.data, .data, .data, .data, .sentinel, .sentinel, .data, .pinned], laidTests := true, laidLooks := .later }
def ParseTextsCardSaid : Prop := Claim7.holds Tryz.pinned (.plain (OpenSpec.ofChange parseTextsSpec)) parseTextsCard

/-- THE TIED CARD OF 'interleavelaw02.ParseReads'. -/
def parseReadsCard : Claim7 := { stood := { row := parseReadsRow, standIns := [], harness := (true, "7b96bf89ab02a4b8e8cc219a5f7a65f1527cef2a0af38e597490a64ce3bab7f5"), looks := true }, kinds := [], alts := [], laidByText := true, laidKinds := [.data, .data, .data, .data, .sentinel, .sentinel, .data, .pinned], laidTests := true, laidLooks := .later }
def ParseReadsCardSaid : Prop := Claim7.holds Tryz.pinned (.plain (OpenSpec.ofChange parseReadsSpec)) parseReadsCard

/-- THE TIED CARD OF 'interleavelaw02.ParseExprReads'. -/
def parseExprReadsCard : Claim7 := { stood := { row := parseExprReadsRow, standIns := [], harness := (true, "7b96bf89ab02a4b8e8cc219a5f7a65f1527cef2a0af38e597490a64ce3bab7f5"), looks := true }, kinds := [], alts := [], laidByText := true, laidKinds := [.data, .data, .data, .data, .sentinel, .sentinel, .data, .pinned], laidTests := true, laidLooks := .later }
def ParseExprReadsCardSaid : Prop := Claim7.holds Tryz.pinned (.plain (OpenSpec.ofChange parseExprReadsSpec)) parseExprReadsCard

/-- THE TIED CARD OF 'interleavelaw02.ParseShapesNear'. -/
def parseShapesNearCard : Claim7 := { stood := { row := parseShapesNearRow, standIns := [], harness := (true, "7b96bf89ab02a4b8e8cc219a5f7a65f1527cef2a0af38e597490a64ce3bab7f5"), looks := true }, kinds := [], alts := [], laidByText := true, laidKinds := [.data, .data, .data, .data, .sentinel, .sentinel, .data, .pinned], laidTests := true, laidLooks := .later }
def ParseShapesNearCardSaid : Prop := Claim7.holds Tryz.pinned (.plain (OpenSpec.ofChange parseShapesNearSpec)) parseShapesNearCard

/-- THE TIED CARD OF 'interleavelaw02.ParseShapes'. -/
def parseShapesCard : Claim7 := { stood := { row := parseShapesRow, standIns := [], harness := (true, "7b96bf89ab02a4b8e8cc219a5f7a65f1527cef2a0af38e597490a64ce3bab7f5"), looks := true }, kinds := [], alts := [], laidByText := true, laidKinds := [.data, .data, .data, .data, .sentinel, .sentinel, .data, .pinned], laidTests := true, laidLooks := .later }
def ParseShapesCardSaid : Prop := Claim7.holds Tryz.pinned (.plain (OpenSpec.ofChange parseShapesSpec)) parseShapesCard

/-- THE TIED CARD OF 'interleavelaw02.ParseShapesExpr'. -/
def parseShapesExprCard : Claim7 := { stood := { row := parseShapesExprRow, standIns := [], harness := (true, "7b96bf89ab02a4b8e8cc219a5f7a65f1527cef2a0af38e597490a64ce3bab7f5"), looks := true }, kinds := [], alts := [], laidByText := true, laidKinds := [.data, .data, .data, .data, .sentinel, .sentinel, .data, .pinned], laidTests := true, laidLooks := .later }
def ParseShapesExprCardSaid : Prop := Claim7.holds Tryz.pinned (.plain (OpenSpec.ofChange parseShapesExprSpec)) parseShapesExprCard

/-- THE TIED CARD OF 'interleavelaw04.CheckNames'. -/
def checkNamesCard : Claim7 := { stood := { row := checkNamesRow, standIns := [], harness := (true, "7b96bf89ab02a4b8e8cc219a5f7a65f1527cef2a0af38e597490a64ce3bab7f5"), looks := true }, kinds := [], alts := [], laidByText := true, laidKinds := [.data, .data, .data, .data, .sentinel, .sentinel, .data, .pinned], laidTests := true, laidLooks := .later }
def CheckNamesCardSaid : Prop := Claim7.holds Tryz.pinned (.plain (OpenSpec.ofChange checkNamesSpec)) checkNamesCard

/-- THE TIED CARD OF 'interleavelaw04.CheckNesting'. -/
def checkNestingCard : Claim7 := { stood := { row := checkNestingRow, standIns := [], harness := (true, "7b96bf89ab02a4b8e8cc219a5f7a65f1527cef2a0af38e597490a64ce3bab7f5"), looks := true }, kinds := [], alts := [], laidByText := true, laidKinds := [.data, .data, .data, .data, .sentinel, .sentinel, .data, .pinned], laidTests := true, laidLooks := .later }
def CheckNestingCardSaid : Prop := Claim7.holds Tryz.pinned (.plain (OpenSpec.ofChange checkNestingSpec)) checkNestingCard

/-- THE TIED CARD OF 'interleavelaw04.CheckOnce'. -/
def checkOnceCard : Claim7 := { stood := { row := checkOnceRow, standIns := [], harness := (true, "7b96bf89ab02a4b8e8cc219a5f7a65f1527cef2a0af38e597490a64ce3bab7f5"), looks := true }, kinds := [], alts := [], laidByText := true, laidKinds := [.data, .data, .data, .data, .sentinel, .sentinel, .data, .pinned], laidTests := true, laidLooks := .later }
def CheckOnceCardSaid : Prop := Claim7.holds Tryz.pinned (.plain (OpenSpec.ofChange checkOnceSpec)) checkOnceCard

/-- THE SECOND FORM's CARD OF 'interleavelaw02.ParseTexts'. -/
def parseTextsUptoCard : Claim7 := { stood := { row := parseTextsUptoRow, standIns := [], harness := (true, "7b96bf89ab02a4b8e8cc219a5f7a65f1527cef2a0af38e597490a64ce3bab7f5"), looks := true }, kinds := [], alts := [], laidByText := true, laidKinds := [.data, .data, .data, .data, .sentinel, .sentinel, .data, .pinned], laidTests := true, laidLooks := .later }
def ParseTextsUptoCardSaid : Prop := Claim7.holds Tryz.pinned (.plain (OpenSpec.upto parseTextsSpec)) parseTextsUptoCard

/-- THE SECOND FORM's CARD OF 'interleavelaw02.ParseReads'. -/
def parseReadsUptoCard : Claim7 := { stood := { row := parseReadsUptoRow, standIns := [], harness := (true, "7b96bf89ab02a4b8e8cc219a5f7a65f1527cef2a0af38e597490a64ce3bab7f5"), looks := true }, kinds := [], alts := [], laidByText := true, laidKinds := [.data, .data, .data, .data, .sentinel, .sentinel, .data, .pinned], laidTests := true, laidLooks := .later }
def ParseReadsUptoCardSaid : Prop := Claim7.holds Tryz.pinned (.plain (OpenSpec.upto parseReadsSpec)) parseReadsUptoCard

/-- THE SECOND FORM's CARD OF 'interleavelaw02.ParseExprReads'. -/
def parseExprReadsUptoCard : Claim7 := { stood := { row := parseExprReadsUptoRow, standIns := [], harness := (true, "7b96bf89ab02a4b8e8cc219a5f7a65f1527cef2a0af38e597490a64ce3bab7f5"), looks := true }, kinds := [], alts := [], laidByText := true, laidKinds := [.data, .data, .data, .data, .sentinel, .sentinel, .data, .pinned], laidTests := true, laidLooks := .later }
def ParseExprReadsUptoCardSaid : Prop := Claim7.holds Tryz.pinned (.plain (OpenSpec.upto parseExprReadsSpec)) parseExprReadsUptoCard

/-- THE SECOND FORM's CARD OF 'interleavelaw02.ParseShapesNear'. -/
def parseShapesNearUptoCard : Claim7 := { stood := { row := parseShapesNearUptoRow, standIns := [], harness := (true, "7b96bf89ab02a4b8e8cc219a5f7a65f1527cef2a0af38e597490a64ce3bab7f5"), looks := true }, kinds := [], alts := [], laidByText := true, laidKinds := [.data, .data, .data, .data, .sentinel, .sentinel, .data, .pinned], laidTests := true, laidLooks := .later }
def ParseShapesNearUptoCardSaid : Prop := Claim7.holds Tryz.pinned (.plain (OpenSpec.upto parseShapesNearSpec)) parseShapesNearUptoCard

/-- THE SECOND FORM's CARD OF 'interleavelaw02.ParseShapes'. -/
def parseShapesUptoCard : Claim7 := { stood := { row := parseShapesUptoRow, standIns := [], harness := (true, "7b96bf89ab02a4b8e8cc219a5f7a65f1527cef2a0af38e597490a64ce3bab7f5"), looks := true }, kinds := [], alts := [], laidByText := true, laidKinds := [.data, .data, .data, .data, .sentinel, .sentinel, .data, .pinned], laidTests := true, laidLooks := .later }
def ParseShapesUptoCardSaid : Prop := Claim7.holds Tryz.pinned (.plain (OpenSpec.upto parseShapesSpec)) parseShapesUptoCard

/-- THE SECOND FORM's CARD OF 'interleavelaw02.ParseShapesExpr'. -/
def parseShapesExprUptoCard : Claim7 := { stood := { row := parseShapesExprUptoRow, standIns := [], harness := (true, "7b96bf89ab02a4b8e8cc219a5f7a65f1527cef2a0af38e597490a64ce3bab7f5"), looks := true }, kinds := [], alts := [], laidByText := true, laidKinds := [.data, .data, .data, .data, .sentinel, .sentinel, .data, .pinned], laidTests := true, laidLooks := .later }
def ParseShapesExprUptoCardSaid : Prop := Claim7.holds Tryz.pinned (.plain (OpenSpec.upto parseShapesExprSpec)) parseShapesExprUptoCard

/-- THE SECOND FORM's CARD OF 'interleavelaw04.CheckNames'. -/
def checkNamesUptoCard : Claim7 := { stood := { row := checkNamesUptoRow, standIns := [], harness := (true, "7b96bf89ab02a4b8e8cc219a5f7a65f1527cef2a0af38e597490a64ce3bab7f5"), looks := true }, kinds := [], alts := [], laidByText := true, laidKinds := [.data, .data, .data, .data, .sentinel, .sentinel, .data, .pinned], laidTests := true, laidLooks := .later }
def CheckNamesUptoCardSaid : Prop := Claim7.holds Tryz.pinned (.plain (OpenSpec.upto checkNamesSpec)) checkNamesUptoCard

/-- THE SECOND FORM's CARD OF 'interleavelaw04.CheckNesting'. -/
def checkNestingUptoCard : Claim7 := { stood := { row := checkNestingUptoRow, standIns := [], harness := (true, "7b96bf89ab02a4b8e8cc219a5f7a65f1527cef2a0af38e597490a64ce3bab7f5"), looks := true }, kinds := [], alts := [], laidByText := true, laidKinds := [.data, .data, .data, .data, .sentinel, .sentinel, .data, .pinned], laidTests := true, laidLooks := .later }
def CheckNestingUptoCardSaid : Prop := Claim7.holds Tryz.pinned (.plain (OpenSpec.upto checkNestingSpec)) checkNestingUptoCard

/-- THE SECOND FORM's CARD OF 'interleavelaw04.CheckOnce'. -/
def checkOnceUptoCard : Claim7 := { stood := { row := checkOnceUptoRow, standIns := [], harness := (true, "7b96bf89ab02a4b8e8cc219a5f7a65f1527cef2a0af38e597490a64ce3bab7f5"), looks := true }, kinds := [], alts := [], laidByText := true, laidKinds := [.data, .data, .data, .data, .sentinel, .sentinel, .data, .pinned], laidTests := true, laidLooks := .later }
def CheckOnceUptoCardSaid : Prop := Claim7.holds Tryz.pinned (.plain (OpenSpec.upto checkOnceSpec)) checkOnceUptoCard
end Rows
end Go.Proofs.YtommnhglgedflaaGreatDoor
