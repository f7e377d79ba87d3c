/-
  DERIVED. GIVEN WITH THE SEED: THE CARDS: each row of YtldcplgfkcionaaDoorRows.lean that lists a variable, with what it lists TIED to the program's text (the seventh form; the later family's looks); each row that meets fmt, with fmt's text TOLD by the authors' own Lean function (tested against real Go, not proved from fmt's source: count such statements apart). THE CARD IS WHAT COUNTS. Prove the row's statement (the work); the ties are given (YtldcplgfkcionaaDoorTie.lean); close each card by the builder's one call (the guide's Derived/Test/ToyasCard.lean, 'card_holds'). Laid BY PROGRAM, IN A SANDBOX (cutbox-door.mjs). By AI agents, Wed Nov 11 2026. No macro, syntax, notation, axiom, sorry.
-/
import Derived.Test.YtldcplgfkcionaaDoorRows
import GoSem.ClaimSeven
namespace Go.Proofs.YtldcplgfkcionaaDoor
namespace Rows

/-- THE TIED CARD OF 'spinetlaw02.LexTokens'. -/
def lexTokensCard : Claim7 := { stood := { row := lexTokensRow, standIns := [], harness := (true, "db1b1416e8b9191c37f8c5ab0231d3edbfa3db9fbc20d541cc041a0a251e15ff"), looks := true }, kinds := [], alts := [], laidByText := true, laidKinds := [.data, .data, .data, .handle, .sentinel, .sentinel], laidTests := true, laidLooks := .later }
def LexTokensCardSaid : Prop := Claim7.holds Tryd.pinned (.plain (OpenSpec.ofChange lexTokensSpec)) lexTokensCard

/-- THE TIED CARD OF 'spinetlaw02.LexTexts'. -/
def lexTextsCard : Claim7 := { stood := { row := lexTextsRow, standIns := [], harness := (true, "db1b1416e8b9191c37f8c5ab0231d3edbfa3db9fbc20d541cc041a0a251e15ff"), looks := true }, kinds := [], alts := [], laidByText := true, laidKinds := [.data, .data, .data, .handle, .sentinel, .sentinel], laidTests := true, laidLooks := .later }
def LexTextsCardSaid : Prop := Claim7.holds Tryd.pinned (.plain (OpenSpec.ofChange lexTextsSpec)) lexTextsCard

/-- THE TIED CARD OF 'spinetlaw02.LexBack'. -/
def lexBackCard : Claim7 := { stood := { row := lexBackRow, standIns := [], harness := (true, "db1b1416e8b9191c37f8c5ab0231d3edbfa3db9fbc20d541cc041a0a251e15ff"), looks := true }, kinds := [], alts := [], laidByText := true, laidKinds := [.data, .data, .data, .handle, .sentinel, .sentinel], laidTests := true, laidLooks := .later }
def LexBackCardSaid : Prop := Claim7.holds Tryd.pinned (.plain (OpenSpec.ofChange lexBackSpec)) lexBackCard

/-- THE TIED CARD OF 'spinetlaw03.ParseTexts'. -/
def parseTextsCard : Claim7 := { stood := { row := parseTextsRow, standIns := [], harness := (true, "db1b1416e8b9191c37f8c5ab0231d3edbfa3db9fbc20d541cc041a0a251e15ff"), looks := true }, kinds := [], alts := [], laidByText := true, laidKinds := [.data, .data, .data, .handle, .sentinel, .sentinel], laidTests := true, laidLooks := .later }
def ParseTextsCardSaid : Prop := Claim7.holds Tryd.pinned (.plain (OpenSpec.ofChange parseTextsSpec)) parseTextsCard

/-- THE TIED CARD OF 'spinetlaw03.ParsePrints'. -/
def parsePrintsCard : Claim7 := { stood := { row := parsePrintsRow, standIns := [], harness := (true, "db1b1416e8b9191c37f8c5ab0231d3edbfa3db9fbc20d541cc041a0a251e15ff"), looks := true }, kinds := [], alts := [], laidByText := true, laidKinds := [.data, .data, .data, .handle, .sentinel, .sentinel], laidTests := true, laidLooks := .later }
def ParsePrintsCardSaid : Prop := Claim7.holds Tryd.pinned (.plain (OpenSpec.ofChange parsePrintsSpec)) parsePrintsCard

/-- THE TIED CARD OF 'spinetlaw04.ExprTypes'. -/
def exprTypesCard : Claim7 := { stood := { row := exprTypesRow, standIns := [], harness := (true, "db1b1416e8b9191c37f8c5ab0231d3edbfa3db9fbc20d541cc041a0a251e15ff"), looks := true }, kinds := [], alts := [], laidByText := true, laidKinds := [.data, .data, .data, .sentinel, .sentinel], laidTests := true, laidLooks := .later }
def ExprTypesCardSaid : Prop := Claim7.holds Tryd.pinned (.plain (OpenSpec.ofChange exprTypesSpec)) exprTypesCard

/-- THE TIED CARD OF 'spinetlaw04.ExprValues'. -/
def exprValuesCard : Claim7 := { stood := { row := exprValuesRow, standIns := [], harness := (true, "db1b1416e8b9191c37f8c5ab0231d3edbfa3db9fbc20d541cc041a0a251e15ff"), looks := true }, kinds := [], alts := [], laidByText := true, laidKinds := [.data, .data, .data, .sentinel, .sentinel], laidTests := true, laidLooks := .later }
def ExprValuesCardSaid : Prop := Claim7.holds Tryd.pinned (.plain (OpenSpec.ofChange exprValuesSpec)) exprValuesCard

/-- THE TIED CARD OF 'spinetlaw04.ExprTyped'. -/
def exprTypedCard : Claim7 := { stood := { row := exprTypedRow, standIns := [], harness := (true, "db1b1416e8b9191c37f8c5ab0231d3edbfa3db9fbc20d541cc041a0a251e15ff"), looks := true }, kinds := [], alts := [], laidByText := true, laidKinds := [.data, .data, .data, .sentinel, .sentinel], laidTests := true, laidLooks := .later }
def ExprTypedCardSaid : Prop := Claim7.holds Tryd.pinned (.plain (OpenSpec.ofChange exprTypedSpec)) exprTypedCard

/-- THE TIED CARD OF 'spinetlaw04.ExprBoth'. -/
def exprBothCard : Claim7 := { stood := { row := exprBothRow, standIns := [], harness := (true, "db1b1416e8b9191c37f8c5ab0231d3edbfa3db9fbc20d541cc041a0a251e15ff"), looks := true }, kinds := [], alts := [], laidByText := true, laidKinds := [.data, .data, .data, .sentinel, .sentinel], laidTests := true, laidLooks := .later }
def ExprBothCardSaid : Prop := Claim7.holds Tryd.pinned (.plain (OpenSpec.ofChange exprBothSpec)) exprBothCard

/-- THE TIED CARD OF 'spinetlaw11.ActParts'. -/
def actPartsCard : Claim7 := { stood := { row := actPartsRow, standIns := [], harness := (true, "db1b1416e8b9191c37f8c5ab0231d3edbfa3db9fbc20d541cc041a0a251e15ff"), looks := true }, kinds := [], alts := [], laidByText := true, laidKinds := [.data, .data, .data, .sentinel, .sentinel], laidTests := true, laidLooks := .later }
def ActPartsCardSaid : Prop := Claim7.holds Tryd.pinned (.plain (OpenSpec.ofChange actPartsSpec)) actPartsCard

/-- THE SECOND FORM's CARD OF 'spinetlaw02.LexTokens'. -/
def lexTokensUptoCard : Claim7 := { stood := { row := lexTokensUptoRow, standIns := [], harness := (true, "db1b1416e8b9191c37f8c5ab0231d3edbfa3db9fbc20d541cc041a0a251e15ff"), looks := true }, kinds := [], alts := [], laidByText := true, laidKinds := [.data, .data, .data, .handle, .sentinel, .sentinel], laidTests := true, laidLooks := .later }
def LexTokensUptoCardSaid : Prop := Claim7.holds Tryd.pinned (.plain (OpenSpec.upto lexTokensSpec)) lexTokensUptoCard

/-- THE SECOND FORM's CARD OF 'spinetlaw02.LexTexts'. -/
def lexTextsUptoCard : Claim7 := { stood := { row := lexTextsUptoRow, standIns := [], harness := (true, "db1b1416e8b9191c37f8c5ab0231d3edbfa3db9fbc20d541cc041a0a251e15ff"), looks := true }, kinds := [], alts := [], laidByText := true, laidKinds := [.data, .data, .data, .handle, .sentinel, .sentinel], laidTests := true, laidLooks := .later }
def LexTextsUptoCardSaid : Prop := Claim7.holds Tryd.pinned (.plain (OpenSpec.upto lexTextsSpec)) lexTextsUptoCard

/-- THE SECOND FORM's CARD OF 'spinetlaw02.LexBack'. -/
def lexBackUptoCard : Claim7 := { stood := { row := lexBackUptoRow, standIns := [], harness := (true, "db1b1416e8b9191c37f8c5ab0231d3edbfa3db9fbc20d541cc041a0a251e15ff"), looks := true }, kinds := [], alts := [], laidByText := true, laidKinds := [.data, .data, .data, .handle, .sentinel, .sentinel], laidTests := true, laidLooks := .later }
def LexBackUptoCardSaid : Prop := Claim7.holds Tryd.pinned (.plain (OpenSpec.upto lexBackSpec)) lexBackUptoCard

/-- THE SECOND FORM's CARD OF 'spinetlaw03.ParseTexts'. -/
def parseTextsUptoCard : Claim7 := { stood := { row := parseTextsUptoRow, standIns := [], harness := (true, "db1b1416e8b9191c37f8c5ab0231d3edbfa3db9fbc20d541cc041a0a251e15ff"), looks := true }, kinds := [], alts := [], laidByText := true, laidKinds := [.data, .data, .data, .handle, .sentinel, .sentinel], laidTests := true, laidLooks := .later }
def ParseTextsUptoCardSaid : Prop := Claim7.holds Tryd.pinned (.plain (OpenSpec.upto parseTextsSpec)) parseTextsUptoCard

/-- THE SECOND FORM's CARD OF 'spinetlaw03.ParsePrints'. -/
def parsePrintsUptoCard : Claim7 := { stood := { row := parsePrintsUptoRow, standIns := [], harness := (true, "db1b1416e8b9191c37f8c5ab0231d3edbfa3db9fbc20d541cc041a0a251e15ff"), looks := true }, kinds := [], alts := [], laidByText := true, laidKinds := [.data, .data, .data, .handle, .sentinel, .sentinel], laidTests := true, laidLooks := .later }
def ParsePrintsUptoCardSaid : Prop := Claim7.holds Tryd.pinned (.plain (OpenSpec.upto parsePrintsSpec)) parsePrintsUptoCard

/-- THE SECOND FORM's CARD OF 'spinetlaw04.ExprTypes'. -/
def exprTypesUptoCard : Claim7 := { stood := { row := exprTypesUptoRow, standIns := [], harness := (true, "db1b1416e8b9191c37f8c5ab0231d3edbfa3db9fbc20d541cc041a0a251e15ff"), looks := true }, kinds := [], alts := [], laidByText := true, laidKinds := [.data, .data, .data, .sentinel, .sentinel], laidTests := true, laidLooks := .later }
def ExprTypesUptoCardSaid : Prop := Claim7.holds Tryd.pinned (.plain (OpenSpec.upto exprTypesSpec)) exprTypesUptoCard

/-- THE SECOND FORM's CARD OF 'spinetlaw04.ExprValues'. -/
def exprValuesUptoCard : Claim7 := { stood := { row := exprValuesUptoRow, standIns := [], harness := (true, "db1b1416e8b9191c37f8c5ab0231d3edbfa3db9fbc20d541cc041a0a251e15ff"), looks := true }, kinds := [], alts := [], laidByText := true, laidKinds := [.data, .data, .data, .sentinel, .sentinel], laidTests := true, laidLooks := .later }
def ExprValuesUptoCardSaid : Prop := Claim7.holds Tryd.pinned (.plain (OpenSpec.upto exprValuesSpec)) exprValuesUptoCard

/-- THE SECOND FORM's CARD OF 'spinetlaw04.ExprTyped'. -/
def exprTypedUptoCard : Claim7 := { stood := { row := exprTypedUptoRow, standIns := [], harness := (true, "db1b1416e8b9191c37f8c5ab0231d3edbfa3db9fbc20d541cc041a0a251e15ff"), looks := true }, kinds := [], alts := [], laidByText := true, laidKinds := [.data, .data, .data, .sentinel, .sentinel], laidTests := true, laidLooks := .later }
def ExprTypedUptoCardSaid : Prop := Claim7.holds Tryd.pinned (.plain (OpenSpec.upto exprTypedSpec)) exprTypedUptoCard

/-- THE SECOND FORM's CARD OF 'spinetlaw04.ExprBoth'. -/
def exprBothUptoCard : Claim7 := { stood := { row := exprBothUptoRow, standIns := [], harness := (true, "db1b1416e8b9191c37f8c5ab0231d3edbfa3db9fbc20d541cc041a0a251e15ff"), looks := true }, kinds := [], alts := [], laidByText := true, laidKinds := [.data, .data, .data, .sentinel, .sentinel], laidTests := true, laidLooks := .later }
def ExprBothUptoCardSaid : Prop := Claim7.holds Tryd.pinned (.plain (OpenSpec.upto exprBothSpec)) exprBothUptoCard

/-- THE SECOND FORM's CARD OF 'spinetlaw11.ActParts'. -/
def actPartsUptoCard : Claim7 := { stood := { row := actPartsUptoRow, standIns := [], harness := (true, "db1b1416e8b9191c37f8c5ab0231d3edbfa3db9fbc20d541cc041a0a251e15ff"), looks := true }, kinds := [], alts := [], laidByText := true, laidKinds := [.data, .data, .data, .sentinel, .sentinel], laidTests := true, laidLooks := .later }
def ActPartsUptoCardSaid : Prop := Claim7.holds Tryd.pinned (.plain (OpenSpec.upto actPartsSpec)) actPartsUptoCard
end Rows
end Go.Proofs.YtldcplgfkcionaaDoor
