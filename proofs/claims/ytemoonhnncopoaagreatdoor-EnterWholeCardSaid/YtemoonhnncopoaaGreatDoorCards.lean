/-
  DERIVED. GIVEN WITH THE SEED: THE CARDS: each row of YtemoonhnncopoaaGreatDoorRows.lean that lists a variable, with what it lists TIED to the program's text (the seventh form; the later family's looks); each row that meets fmt, with fmt's text TOLD by the authors' own Lean function (tested against real Go, not proved from fmt's source: count such statements apart). THE CARD IS WHAT COUNTS. Prove the row's statement (the work); the ties are given (YtemoonhnncopoaaGreatDoorTie.lean); close each card by the builder's one call (the guide's Derived/Test/ToyasCard.lean, 'card_holds'). Laid BY PROGRAM, IN A SANDBOX (cutbox-door.mjs). By AI agents, Wed Nov 11 2026. No macro, syntax, notation, axiom, sorry.
-/
import Derived.Test.YtemoonhnncopoaaGreatDoorRows
import GoSem.ClaimSeven
namespace Go.Proofs.YtemoonhnncopoaaGreatDoor
namespace Rows

/-- THE TIED CARD OF 'spinetlaw11.ActDoes'. -/
def actDoesCard : Claim7 := { stood := { row := actDoesRow, standIns := [], harness := (true, "9fd0e7dc9fdd022b711d959f4619605c8f9a7b0e89c436e56d7d7d2ac6624688"), looks := true }, kinds := [], alts := [], laidByText := true, laidKinds := [.data, .data, .data, .sentinel, .sentinel], laidTests := true, laidLooks := .later }
def ActDoesCardSaid : Prop := Claim7.holds Tryz.pinned (.plain (OpenSpec.ofChange actDoesSpec)) actDoesCard

/-- THE TIED CARD OF 'spinetlaw04.ExprTexts'. -/
def exprTextsCard : Claim7 := { stood := { row := exprTextsRow, standIns := [], harness := (true, "9fd0e7dc9fdd022b711d959f4619605c8f9a7b0e89c436e56d7d7d2ac6624688"), looks := true }, kinds := [], alts := [], laidByText := true, laidKinds := [.data, .data, .data, .handle, .sentinel, .sentinel], laidTests := true, laidLooks := .later }
def ExprTextsCardSaid : Prop := Claim7.holds Tryz.pinned (.plain (OpenSpec.ofChange exprTextsSpec)) exprTextsCard

/-- THE TIED CARD OF 'spinetlaw07.TreeOwn'. -/
def treeOwnCard : Claim7 := { stood := { row := treeOwnRow, standIns := [], harness := (true, "9fd0e7dc9fdd022b711d959f4619605c8f9a7b0e89c436e56d7d7d2ac6624688"), looks := true }, kinds := [], alts := [], laidByText := true, laidKinds := [.data, .data, .data, .sentinel, .sentinel], laidTests := true, laidLooks := .later }
def TreeOwnCardSaid : Prop := Claim7.holds Tryz.pinned (.plain (OpenSpec.ofChange treeOwnSpec)) treeOwnCard

/-- THE TIED CARD OF 'spinetlaw07.TreeOrder'. -/
def treeOrderCard : Claim7 := { stood := { row := treeOrderRow, standIns := [], harness := (true, "9fd0e7dc9fdd022b711d959f4619605c8f9a7b0e89c436e56d7d7d2ac6624688"), looks := true }, kinds := [], alts := [], laidByText := true, laidKinds := [.data, .data, .data, .sentinel, .sentinel], laidTests := true, laidLooks := .later }
def TreeOrderCardSaid : Prop := Claim7.holds Tryz.pinned (.plain (OpenSpec.ofChange treeOrderSpec)) treeOrderCard

/-- THE TIED CARD OF 'spinetlaw08.EnterReal'. -/
def enterRealCard : Claim7 := { stood := { row := enterRealRow, standIns := [], harness := (true, "9fd0e7dc9fdd022b711d959f4619605c8f9a7b0e89c436e56d7d7d2ac6624688"), looks := true }, kinds := [], alts := [], laidByText := true, laidKinds := [.data, .data, .data, .sentinel, .sentinel], laidTests := true, laidLooks := .later }
def EnterRealCardSaid : Prop := Claim7.holds Tryz.pinned (.plain (OpenSpec.ofChange enterRealSpec)) enterRealCard

/-- THE TIED CARD OF 'spinetlaw08.EnterSets'. -/
def enterSetsCard : Claim7 := { stood := { row := enterSetsRow, standIns := [], harness := (true, "9fd0e7dc9fdd022b711d959f4619605c8f9a7b0e89c436e56d7d7d2ac6624688"), looks := true }, kinds := [], alts := [], laidByText := true, laidKinds := [.data, .data, .data, .sentinel, .sentinel], laidTests := true, laidLooks := .later }
def EnterSetsCardSaid : Prop := Claim7.holds Tryz.pinned (.plain (OpenSpec.ofChange enterSetsSpec)) enterSetsCard

/-- THE TIED CARD OF 'spinetlaw08.EnterWhole'. -/
def enterWholeCard : Claim7 := { stood := { row := enterWholeRow, standIns := [], harness := (true, "9fd0e7dc9fdd022b711d959f4619605c8f9a7b0e89c436e56d7d7d2ac6624688"), looks := true }, kinds := [], alts := [], laidByText := true, laidKinds := [.data, .data, .data, .sentinel, .sentinel], laidTests := true, laidLooks := .later }
def EnterWholeCardSaid : Prop := Claim7.holds Tryz.pinned (.plain (OpenSpec.ofChange enterWholeSpec)) enterWholeCard

/-- THE TIED CARD OF 'spinetlaw05.ChartKids'. -/
def chartKidsCard : Claim7 := { stood := { row := chartKidsRow, standIns := [], harness := (true, "9fd0e7dc9fdd022b711d959f4619605c8f9a7b0e89c436e56d7d7d2ac6624688"), looks := true }, kinds := [], alts := [], laidByText := true, laidKinds := [.data, .data, .data, .handle, .sentinel, .sentinel], laidTests := true, laidLooks := .later }
def ChartKidsCardSaid : Prop := Claim7.holds Tryz.pinned (.plain (OpenSpec.ofChange chartKidsSpec)) chartKidsCard

/-- THE TIED CARD OF 'spinetlaw05.ChartOrder'. -/
def chartOrderCard : Claim7 := { stood := { row := chartOrderRow, standIns := [], harness := (true, "9fd0e7dc9fdd022b711d959f4619605c8f9a7b0e89c436e56d7d7d2ac6624688"), looks := true }, kinds := [], alts := [], laidByText := true, laidKinds := [.data, .data, .data, .handle, .sentinel, .sentinel], laidTests := true, laidLooks := .later }
def ChartOrderCardSaid : Prop := Claim7.holds Tryz.pinned (.plain (OpenSpec.ofChange chartOrderSpec)) chartOrderCard

/-- THE TIED CARD OF 'spinetlaw05.ChartLess'. -/
def chartLessCard : Claim7 := { stood := { row := chartLessRow, standIns := [], harness := (true, "9fd0e7dc9fdd022b711d959f4619605c8f9a7b0e89c436e56d7d7d2ac6624688"), looks := true }, kinds := [], alts := [], laidByText := true, laidKinds := [.data, .data, .data, .handle, .sentinel, .sentinel], laidTests := true, laidLooks := .later }
def ChartLessCardSaid : Prop := Claim7.holds Tryz.pinned (.plain (OpenSpec.ofChange chartLessSpec)) chartLessCard

/-- THE SECOND FORM's CARD OF 'spinetlaw11.ActDoes'. -/
def actDoesUptoCard : Claim7 := { stood := { row := actDoesUptoRow, standIns := [], harness := (true, "9fd0e7dc9fdd022b711d959f4619605c8f9a7b0e89c436e56d7d7d2ac6624688"), looks := true }, kinds := [], alts := [], laidByText := true, laidKinds := [.data, .data, .data, .sentinel, .sentinel], laidTests := true, laidLooks := .later }
def ActDoesUptoCardSaid : Prop := Claim7.holds Tryz.pinned (.plain (OpenSpec.upto actDoesSpec)) actDoesUptoCard

/-- THE SECOND FORM's CARD OF 'spinetlaw04.ExprTexts'. -/
def exprTextsUptoCard : Claim7 := { stood := { row := exprTextsUptoRow, standIns := [], harness := (true, "9fd0e7dc9fdd022b711d959f4619605c8f9a7b0e89c436e56d7d7d2ac6624688"), looks := true }, kinds := [], alts := [], laidByText := true, laidKinds := [.data, .data, .data, .handle, .sentinel, .sentinel], laidTests := true, laidLooks := .later }
def ExprTextsUptoCardSaid : Prop := Claim7.holds Tryz.pinned (.plain (OpenSpec.upto exprTextsSpec)) exprTextsUptoCard

/-- THE SECOND FORM's CARD OF 'spinetlaw07.TreeOwn'. -/
def treeOwnUptoCard : Claim7 := { stood := { row := treeOwnUptoRow, standIns := [], harness := (true, "9fd0e7dc9fdd022b711d959f4619605c8f9a7b0e89c436e56d7d7d2ac6624688"), looks := true }, kinds := [], alts := [], laidByText := true, laidKinds := [.data, .data, .data, .sentinel, .sentinel], laidTests := true, laidLooks := .later }
def TreeOwnUptoCardSaid : Prop := Claim7.holds Tryz.pinned (.plain (OpenSpec.upto treeOwnSpec)) treeOwnUptoCard

/-- THE SECOND FORM's CARD OF 'spinetlaw07.TreeOrder'. -/
def treeOrderUptoCard : Claim7 := { stood := { row := treeOrderUptoRow, standIns := [], harness := (true, "9fd0e7dc9fdd022b711d959f4619605c8f9a7b0e89c436e56d7d7d2ac6624688"), looks := true }, kinds := [], alts := [], laidByText := true, laidKinds := [.data, .data, .data, .sentinel, .sentinel], laidTests := true, laidLooks := .later }
def TreeOrderUptoCardSaid : Prop := Claim7.holds Tryz.pinned (.plain (OpenSpec.upto treeOrderSpec)) treeOrderUptoCard

/-- THE SECOND FORM's CARD OF 'spinetlaw08.EnterReal'. -/
def enterRealUptoCard : Claim7 := { stood := { row := enterRealUptoRow, standIns := [], harness := (true, "9fd0e7dc9fdd022b711d959f4619605c8f9a7b0e89c436e56d7d7d2ac6624688"), looks := true }, kinds := [], alts := [], laidByText := true, laidKinds := [.data, .data, .data, .sentinel, .sentinel], laidTests := true, laidLooks := .later }
def EnterRealUptoCardSaid : Prop := Claim7.holds Tryz.pinned (.plain (OpenSpec.upto enterRealSpec)) enterRealUptoCard

/-- THE SECOND FORM's CARD OF 'spinetlaw08.EnterSets'. -/
def enterSetsUptoCard : Claim7 := { stood := { row := enterSetsUptoRow, standIns := [], harness := (true, "9fd0e7dc9fdd022b711d959f4619605c8f9a7b0e89c436e56d7d7d2ac6624688"), looks := true }, kinds := [], alts := [], laidByText := true, laidKinds := [.data, .data, .data, .sentinel, .sentinel], laidTests := true, laidLooks := .later }
def EnterSetsUptoCardSaid : Prop := Claim7.holds Tryz.pinned (.plain (OpenSpec.upto enterSetsSpec)) enterSetsUptoCard

/-- THE SECOND FORM's CARD OF 'spinetlaw08.EnterWhole'. -/
def enterWholeUptoCard : Claim7 := { stood := { row := enterWholeUptoRow, standIns := [], harness := (true, "9fd0e7dc9fdd022b711d959f4619605c8f9a7b0e89c436e56d7d7d2ac6624688"), looks := true }, kinds := [], alts := [], laidByText := true, laidKinds := [.data, .data, .data, .sentinel, .sentinel], laidTests := true, laidLooks := .later }
def EnterWholeUptoCardSaid : Prop := Claim7.holds Tryz.pinned (.plain (OpenSpec.upto enterWholeSpec)) enterWholeUptoCard

/-- THE SECOND FORM's CARD OF 'spinetlaw05.ChartKids'. -/
def chartKidsUptoCard : Claim7 := { stood := { row := chartKidsUptoRow, standIns := [], harness := (true, "9fd0e7dc9fdd022b711d959f4619605c8f9a7b0e89c436e56d7d7d2ac6624688"), looks := true }, kinds := [], alts := [], laidByText := true, laidKinds := [.data, .data, .data, .handle, .sentinel, .sentinel], laidTests := true, laidLooks := .later }
def ChartKidsUptoCardSaid : Prop := Claim7.holds Tryz.pinned (.plain (OpenSpec.upto chartKidsSpec)) chartKidsUptoCard

/-- THE SECOND FORM's CARD OF 'spinetlaw05.ChartOrder'. -/
def chartOrderUptoCard : Claim7 := { stood := { row := chartOrderUptoRow, standIns := [], harness := (true, "9fd0e7dc9fdd022b711d959f4619605c8f9a7b0e89c436e56d7d7d2ac6624688"), looks := true }, kinds := [], alts := [], laidByText := true, laidKinds := [.data, .data, .data, .handle, .sentinel, .sentinel], laidTests := true, laidLooks := .later }
def ChartOrderUptoCardSaid : Prop := Claim7.holds Tryz.pinned (.plain (OpenSpec.upto chartOrderSpec)) chartOrderUptoCard

/-- THE SECOND FORM's CARD OF 'spinetlaw05.ChartLess'. -/
def chartLessUptoCard : Claim7 := { stood := { row := chartLessUptoRow, standIns := [], harness := (true, "9fd0e7dc9fdd022b711d959f4619605c8f9a7b0e89c436e56d7d7d2ac6624688"), looks := true }, kinds := [], alts := [], laidByText := true, laidKinds := [.data, .data, .data, .handle, .sentinel, .sentinel], laidTests := true, laidLooks := .later }
def ChartLessUptoCardSaid : Prop := Claim7.holds Tryz.pinned (.plain (OpenSpec.upto chartLessSpec)) chartLessUptoCard
end Rows
end Go.Proofs.YtemoonhnncopoaaGreatDoor
