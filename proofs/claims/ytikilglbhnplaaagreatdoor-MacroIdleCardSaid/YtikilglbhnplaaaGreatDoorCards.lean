/-
  DERIVED. GIVEN WITH THE SEED: THE CARDS: each row of YtikilglbhnplaaaGreatDoorRows.lean that lists a variable, with what it lists TIED to the program's text (the seventh form; the later family's looks); each row that meets fmt, with fmt's text TOLD by the authors' own Lean function (tested against real Go, not proved from fmt's source: count such statements apart). THE CARD IS WHAT COUNTS. Prove the row's statement (the work); the ties are given (YtikilglbhnplaaaGreatDoorTie.lean); close each card by the builder's one call (the guide's Derived/Test/ToyasCard.lean, 'card_holds'). Laid BY PROGRAM, IN A SANDBOX (cutbox-door.mjs). By AI agents, Wed Nov 11 2026. No macro, syntax, notation, axiom, sorry.
-/
import Derived.Test.YtikilglbhnplaaaGreatDoorRows
import GoSem.ClaimSeven
namespace Go.Proofs.YtikilglbhnplaaaGreatDoor
namespace Rows

/-- THE TIED CARD OF 'spinetlaw14.TableTree'. -/
def tableTreeCard : Claim7 := { stood := { row := tableTreeRow, standIns := [], harness := (true, "95ee4940e5c9e43066b465cb7dd9cf9888cf6ef2f54ab9881844c1b510a19d61"), looks := true }, kinds := [], alts := [], laidByText := true, laidKinds := [.data, .data, .data, .sentinel, .sentinel], laidTests := true, laidLooks := .later }
def TableTreeCardSaid : Prop := Claim7.holds Tryz.pinned (.plain (OpenSpec.ofChange tableTreeSpec)) tableTreeCard

/-- THE TIED CARD OF 'spinetlaw12.MicroWhole'. -/
def microWholeCard : Claim7 := { stood := { row := microWholeRow, standIns := [], harness := (true, "95ee4940e5c9e43066b465cb7dd9cf9888cf6ef2f54ab9881844c1b510a19d61"), looks := true }, kinds := [], alts := [], laidByText := true, laidKinds := [.data, .data, .data, .sentinel, .sentinel], laidTests := true, laidLooks := .later }
def MicroWholeCardSaid : Prop := Claim7.holds Tryz.pinned (.plain (OpenSpec.ofChange microWholeSpec)) microWholeCard

/-- THE TIED CARD OF 'spinetlaw13.MacroPlays'. -/
def macroPlaysCard : Claim7 := { stood := { row := macroPlaysRow, standIns := [], harness := (true, "95ee4940e5c9e43066b465cb7dd9cf9888cf6ef2f54ab9881844c1b510a19d61"), looks := true }, kinds := [], alts := [], laidByText := true, laidKinds := [.data, .data, .data, .sentinel, .sentinel], laidTests := true, laidLooks := .later }
def MacroPlaysCardSaid : Prop := Claim7.holds Tryz.pinned (.plain (OpenSpec.ofChange macroPlaysSpec)) macroPlaysCard

/-- THE TIED CARD OF 'spinetlaw13.MacroIdle'. -/
def macroIdleCard : Claim7 := { stood := { row := macroIdleRow, standIns := [], harness := (true, "95ee4940e5c9e43066b465cb7dd9cf9888cf6ef2f54ab9881844c1b510a19d61"), looks := true }, kinds := [], alts := [], laidByText := true, laidKinds := [.data, .data, .data, .sentinel, .sentinel], laidTests := true, laidLooks := .later }
def MacroIdleCardSaid : Prop := Claim7.holds Tryz.pinned (.plain (OpenSpec.ofChange macroIdleSpec)) macroIdleCard

/-- THE SECOND FORM's CARD OF 'spinetlaw14.TableTree'. -/
def tableTreeUptoCard : Claim7 := { stood := { row := tableTreeUptoRow, standIns := [], harness := (true, "95ee4940e5c9e43066b465cb7dd9cf9888cf6ef2f54ab9881844c1b510a19d61"), looks := true }, kinds := [], alts := [], laidByText := true, laidKinds := [.data, .data, .data, .sentinel, .sentinel], laidTests := true, laidLooks := .later }
def TableTreeUptoCardSaid : Prop := Claim7.holds Tryz.pinned (.plain (OpenSpec.upto tableTreeSpec)) tableTreeUptoCard

/-- THE SECOND FORM's CARD OF 'spinetlaw12.MicroWhole'. -/
def microWholeUptoCard : Claim7 := { stood := { row := microWholeUptoRow, standIns := [], harness := (true, "95ee4940e5c9e43066b465cb7dd9cf9888cf6ef2f54ab9881844c1b510a19d61"), looks := true }, kinds := [], alts := [], laidByText := true, laidKinds := [.data, .data, .data, .sentinel, .sentinel], laidTests := true, laidLooks := .later }
def MicroWholeUptoCardSaid : Prop := Claim7.holds Tryz.pinned (.plain (OpenSpec.upto microWholeSpec)) microWholeUptoCard

/-- THE SECOND FORM's CARD OF 'spinetlaw13.MacroPlays'. -/
def macroPlaysUptoCard : Claim7 := { stood := { row := macroPlaysUptoRow, standIns := [], harness := (true, "95ee4940e5c9e43066b465cb7dd9cf9888cf6ef2f54ab9881844c1b510a19d61"), looks := true }, kinds := [], alts := [], laidByText := true, laidKinds := [.data, .data, .data, .sentinel, .sentinel], laidTests := true, laidLooks := .later }
def MacroPlaysUptoCardSaid : Prop := Claim7.holds Tryz.pinned (.plain (OpenSpec.upto macroPlaysSpec)) macroPlaysUptoCard

/-- THE SECOND FORM's CARD OF 'spinetlaw13.MacroIdle'. -/
def macroIdleUptoCard : Claim7 := { stood := { row := macroIdleUptoRow, standIns := [], harness := (true, "95ee4940e5c9e43066b465cb7dd9cf9888cf6ef2f54ab9881844c1b510a19d61"), looks := true }, kinds := [], alts := [], laidByText := true, laidKinds := [.data, .data, .data, .sentinel, .sentinel], laidTests := true, laidLooks := .later }
def MacroIdleUptoCardSaid : Prop := Claim7.holds Tryz.pinned (.plain (OpenSpec.upto macroIdleSpec)) macroIdleUptoCard
end Rows
end Go.Proofs.YtikilglbhnplaaaGreatDoor
