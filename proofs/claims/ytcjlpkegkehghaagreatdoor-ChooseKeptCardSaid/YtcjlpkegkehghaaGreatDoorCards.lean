/-
  DERIVED. GIVEN WITH THE SEED: THE CARDS: each row of YtcjlpkegkehghaaGreatDoorRows.lean that lists a variable, with what it lists TIED to the program's text (the seventh form; the later family's looks); each row that meets fmt, with fmt's text TOLD by the authors' own Lean function (tested against real Go, not proved from fmt's source: count such statements apart). THE CARD IS WHAT COUNTS. Prove the row's statement (the work); the ties are given (YtcjlpkegkehghaaGreatDoorTie.lean); close each card by the builder's one call (the guide's Derived/Test/ToyasCard.lean, 'card_holds'). Laid BY PROGRAM, IN A SANDBOX (cutbox-door.mjs). By AI agents, Wed Nov 11 2026. No macro, syntax, notation, axiom, sorry.
-/
import Derived.Test.YtcjlpkegkehghaaGreatDoorRows
import GoSem.ClaimSeven
namespace Go.Proofs.YtcjlpkegkehghaaGreatDoor
namespace Rows

/-- THE TIED CARD OF 'spinetlaw10.ChooseGathers'. -/
def chooseGathersCard : Claim7 := { stood := { row := chooseGathersRow, standIns := [], harness := (true, "2940ca16679f6f9b14c9146783a6776b5c9a05fdd2ffc8cc2afd5c904c565fdf"), looks := true }, kinds := [], alts := [], laidByText := true, laidKinds := [.data, .data, .data, .sentinel, .sentinel], laidTests := true, laidLooks := .later }
def ChooseGathersCardSaid : Prop := Claim7.holds Tryz.pinned (.plain (OpenSpec.ofChange chooseGathersSpec)) chooseGathersCard

/-- THE TIED CARD OF 'spinetlaw10.ChooseReady'. -/
def chooseReadyCard : Claim7 := { stood := { row := chooseReadyRow, standIns := [], harness := (true, "2940ca16679f6f9b14c9146783a6776b5c9a05fdd2ffc8cc2afd5c904c565fdf"), looks := true }, kinds := [], alts := [], laidByText := true, laidKinds := [.data, .data, .data, .sentinel, .sentinel], laidTests := true, laidLooks := .later }
def ChooseReadyCardSaid : Prop := Claim7.holds Tryz.pinned (.plain (OpenSpec.ofChange chooseReadySpec)) chooseReadyCard

/-- THE TIED CARD OF 'spinetlaw10.ChooseKept'. -/
def chooseKeptCard : Claim7 := { stood := { row := chooseKeptRow, standIns := [], harness := (true, "2940ca16679f6f9b14c9146783a6776b5c9a05fdd2ffc8cc2afd5c904c565fdf"), looks := true }, kinds := [], alts := [], laidByText := true, laidKinds := [.data, .data, .data, .sentinel, .sentinel], laidTests := true, laidLooks := .later }
def ChooseKeptCardSaid : Prop := Claim7.holds Tryz.pinned (.plain (OpenSpec.ofChange chooseKeptSpec)) chooseKeptCard

/-- THE TIED CARD OF 'spinetlaw14.TableTree'. -/
def tableTreeCard : Claim7 := { stood := { row := tableTreeRow, standIns := [], harness := (true, "2940ca16679f6f9b14c9146783a6776b5c9a05fdd2ffc8cc2afd5c904c565fdf"), looks := true }, kinds := [], alts := [], laidByText := true, laidKinds := [.data, .data, .data, .sentinel, .sentinel], laidTests := true, laidLooks := .later }
def TableTreeCardSaid : Prop := Claim7.holds Tryz.pinned (.plain (OpenSpec.ofChange tableTreeSpec)) tableTreeCard

/-- THE TIED CARD OF 'spinetlaw12.MicroFirst'. -/
def microFirstCard : Claim7 := { stood := { row := microFirstRow, standIns := [], harness := (true, "2940ca16679f6f9b14c9146783a6776b5c9a05fdd2ffc8cc2afd5c904c565fdf"), looks := true }, kinds := [], alts := [], laidByText := true, laidKinds := [.data, .data, .data, .sentinel, .sentinel], laidTests := true, laidLooks := .later }
def MicroFirstCardSaid : Prop := Claim7.holds Tryz.pinned (.plain (OpenSpec.ofChange microFirstSpec)) microFirstCard

/-- THE TIED CARD OF 'spinetlaw12.MicroWhole'. -/
def microWholeCard : Claim7 := { stood := { row := microWholeRow, standIns := [], harness := (true, "2940ca16679f6f9b14c9146783a6776b5c9a05fdd2ffc8cc2afd5c904c565fdf"), looks := true }, kinds := [], alts := [], laidByText := true, laidKinds := [.data, .data, .data, .sentinel, .sentinel], laidTests := true, laidLooks := .later }
def MicroWholeCardSaid : Prop := Claim7.holds Tryz.pinned (.plain (OpenSpec.ofChange microWholeSpec)) microWholeCard

/-- THE TIED CARD OF 'spinetlaw13.MacroStarts'. -/
def macroStartsCard : Claim7 := { stood := { row := macroStartsRow, standIns := [], harness := (true, "2940ca16679f6f9b14c9146783a6776b5c9a05fdd2ffc8cc2afd5c904c565fdf"), looks := true }, kinds := [], alts := [], laidByText := true, laidKinds := [.data, .data, .data, .sentinel, .sentinel], laidTests := true, laidLooks := .later }
def MacroStartsCardSaid : Prop := Claim7.holds Tryz.pinned (.plain (OpenSpec.ofChange macroStartsSpec)) macroStartsCard

/-- THE TIED CARD OF 'spinetlaw13.MacroPlays'. -/
def macroPlaysCard : Claim7 := { stood := { row := macroPlaysRow, standIns := [], harness := (true, "2940ca16679f6f9b14c9146783a6776b5c9a05fdd2ffc8cc2afd5c904c565fdf"), looks := true }, kinds := [], alts := [], laidByText := true, laidKinds := [.data, .data, .data, .sentinel, .sentinel], laidTests := true, laidLooks := .later }
def MacroPlaysCardSaid : Prop := Claim7.holds Tryz.pinned (.plain (OpenSpec.ofChange macroPlaysSpec)) macroPlaysCard

/-- THE TIED CARD OF 'spinetlaw13.MacroIdle'. -/
def macroIdleCard : Claim7 := { stood := { row := macroIdleRow, standIns := [], harness := (true, "2940ca16679f6f9b14c9146783a6776b5c9a05fdd2ffc8cc2afd5c904c565fdf"), looks := true }, kinds := [], alts := [], laidByText := true, laidKinds := [.data, .data, .data, .sentinel, .sentinel], laidTests := true, laidLooks := .later }
def MacroIdleCardSaid : Prop := Claim7.holds Tryz.pinned (.plain (OpenSpec.ofChange macroIdleSpec)) macroIdleCard

/-- THE TIED CARD OF 'spinetlaw15.EngineStarts'. -/
def engineStartsCard : Claim7 := { stood := { row := engineStartsRow, standIns := [], harness := (true, "2940ca16679f6f9b14c9146783a6776b5c9a05fdd2ffc8cc2afd5c904c565fdf"), looks := true }, kinds := [], alts := [], laidByText := true, laidKinds := [.data, .data, .data, .sentinel, .sentinel], laidTests := true, laidLooks := .later }
def EngineStartsCardSaid : Prop := Claim7.holds Tryz.pinned (.plain (OpenSpec.ofChange engineStartsSpec)) engineStartsCard

/-- THE TIED CARD OF 'spinetlaw15.EngineMacro'. -/
def engineMacroCard : Claim7 := { stood := { row := engineMacroRow, standIns := [], harness := (true, "2940ca16679f6f9b14c9146783a6776b5c9a05fdd2ffc8cc2afd5c904c565fdf"), looks := true }, kinds := [], alts := [], laidByText := true, laidKinds := [.data, .data, .data, .sentinel, .sentinel], laidTests := true, laidLooks := .later }
def EngineMacroCardSaid : Prop := Claim7.holds Tryz.pinned (.plain (OpenSpec.ofChange engineMacroSpec)) engineMacroCard

/-- THE TIED CARD OF 'spinetlaw06.CodecBack'. -/
def codecBackCard : Claim7 := { stood := { row := codecBackRow, standIns := [], harness := (true, "2940ca16679f6f9b14c9146783a6776b5c9a05fdd2ffc8cc2afd5c904c565fdf"), looks := true }, kinds := [], alts := [], laidByText := true, laidKinds := [.data, .data, .data, .handle, .sentinel, .sentinel], laidTests := true, laidLooks := .later }
def CodecBackCardSaid : Prop := Claim7.holds Tryz.pinned (.plain (OpenSpec.ofChange codecBackSpec)) codecBackCard

/-- THE SECOND FORM's CARD OF 'spinetlaw10.ChooseGathers'. -/
def chooseGathersUptoCard : Claim7 := { stood := { row := chooseGathersUptoRow, standIns := [], harness := (true, "2940ca16679f6f9b14c9146783a6776b5c9a05fdd2ffc8cc2afd5c904c565fdf"), looks := true }, kinds := [], alts := [], laidByText := true, laidKinds := [.data, .data, .data, .sentinel, .sentinel], laidTests := true, laidLooks := .later }
def ChooseGathersUptoCardSaid : Prop := Claim7.holds Tryz.pinned (.plain (OpenSpec.upto chooseGathersSpec)) chooseGathersUptoCard

/-- THE SECOND FORM's CARD OF 'spinetlaw10.ChooseReady'. -/
def chooseReadyUptoCard : Claim7 := { stood := { row := chooseReadyUptoRow, standIns := [], harness := (true, "2940ca16679f6f9b14c9146783a6776b5c9a05fdd2ffc8cc2afd5c904c565fdf"), looks := true }, kinds := [], alts := [], laidByText := true, laidKinds := [.data, .data, .data, .sentinel, .sentinel], laidTests := true, laidLooks := .later }
def ChooseReadyUptoCardSaid : Prop := Claim7.holds Tryz.pinned (.plain (OpenSpec.upto chooseReadySpec)) chooseReadyUptoCard

/-- THE SECOND FORM's CARD OF 'spinetlaw10.ChooseKept'. -/
def chooseKeptUptoCard : Claim7 := { stood := { row := chooseKeptUptoRow, standIns := [], harness := (true, "2940ca16679f6f9b14c9146783a6776b5c9a05fdd2ffc8cc2afd5c904c565fdf"), looks := true }, kinds := [], alts := [], laidByText := true, laidKinds := [.data, .data, .data, .sentinel, .sentinel], laidTests := true, laidLooks := .later }
def ChooseKeptUptoCardSaid : Prop := Claim7.holds Tryz.pinned (.plain (OpenSpec.upto chooseKeptSpec)) chooseKeptUptoCard

/-- THE SECOND FORM's CARD OF 'spinetlaw14.TableTree'. -/
def tableTreeUptoCard : Claim7 := { stood := { row := tableTreeUptoRow, standIns := [], harness := (true, "2940ca16679f6f9b14c9146783a6776b5c9a05fdd2ffc8cc2afd5c904c565fdf"), looks := true }, kinds := [], alts := [], laidByText := true, laidKinds := [.data, .data, .data, .sentinel, .sentinel], laidTests := true, laidLooks := .later }
def TableTreeUptoCardSaid : Prop := Claim7.holds Tryz.pinned (.plain (OpenSpec.upto tableTreeSpec)) tableTreeUptoCard

/-- THE SECOND FORM's CARD OF 'spinetlaw12.MicroFirst'. -/
def microFirstUptoCard : Claim7 := { stood := { row := microFirstUptoRow, standIns := [], harness := (true, "2940ca16679f6f9b14c9146783a6776b5c9a05fdd2ffc8cc2afd5c904c565fdf"), looks := true }, kinds := [], alts := [], laidByText := true, laidKinds := [.data, .data, .data, .sentinel, .sentinel], laidTests := true, laidLooks := .later }
def MicroFirstUptoCardSaid : Prop := Claim7.holds Tryz.pinned (.plain (OpenSpec.upto microFirstSpec)) microFirstUptoCard

/-- THE SECOND FORM's CARD OF 'spinetlaw12.MicroWhole'. -/
def microWholeUptoCard : Claim7 := { stood := { row := microWholeUptoRow, standIns := [], harness := (true, "2940ca16679f6f9b14c9146783a6776b5c9a05fdd2ffc8cc2afd5c904c565fdf"), looks := true }, kinds := [], alts := [], laidByText := true, laidKinds := [.data, .data, .data, .sentinel, .sentinel], laidTests := true, laidLooks := .later }
def MicroWholeUptoCardSaid : Prop := Claim7.holds Tryz.pinned (.plain (OpenSpec.upto microWholeSpec)) microWholeUptoCard

/-- THE SECOND FORM's CARD OF 'spinetlaw13.MacroStarts'. -/
def macroStartsUptoCard : Claim7 := { stood := { row := macroStartsUptoRow, standIns := [], harness := (true, "2940ca16679f6f9b14c9146783a6776b5c9a05fdd2ffc8cc2afd5c904c565fdf"), looks := true }, kinds := [], alts := [], laidByText := true, laidKinds := [.data, .data, .data, .sentinel, .sentinel], laidTests := true, laidLooks := .later }
def MacroStartsUptoCardSaid : Prop := Claim7.holds Tryz.pinned (.plain (OpenSpec.upto macroStartsSpec)) macroStartsUptoCard

/-- THE SECOND FORM's CARD OF 'spinetlaw13.MacroPlays'. -/
def macroPlaysUptoCard : Claim7 := { stood := { row := macroPlaysUptoRow, standIns := [], harness := (true, "2940ca16679f6f9b14c9146783a6776b5c9a05fdd2ffc8cc2afd5c904c565fdf"), looks := true }, kinds := [], alts := [], laidByText := true, laidKinds := [.data, .data, .data, .sentinel, .sentinel], laidTests := true, laidLooks := .later }
def MacroPlaysUptoCardSaid : Prop := Claim7.holds Tryz.pinned (.plain (OpenSpec.upto macroPlaysSpec)) macroPlaysUptoCard

/-- THE SECOND FORM's CARD OF 'spinetlaw13.MacroIdle'. -/
def macroIdleUptoCard : Claim7 := { stood := { row := macroIdleUptoRow, standIns := [], harness := (true, "2940ca16679f6f9b14c9146783a6776b5c9a05fdd2ffc8cc2afd5c904c565fdf"), looks := true }, kinds := [], alts := [], laidByText := true, laidKinds := [.data, .data, .data, .sentinel, .sentinel], laidTests := true, laidLooks := .later }
def MacroIdleUptoCardSaid : Prop := Claim7.holds Tryz.pinned (.plain (OpenSpec.upto macroIdleSpec)) macroIdleUptoCard

/-- THE SECOND FORM's CARD OF 'spinetlaw15.EngineStarts'. -/
def engineStartsUptoCard : Claim7 := { stood := { row := engineStartsUptoRow, standIns := [], harness := (true, "2940ca16679f6f9b14c9146783a6776b5c9a05fdd2ffc8cc2afd5c904c565fdf"), looks := true }, kinds := [], alts := [], laidByText := true, laidKinds := [.data, .data, .data, .sentinel, .sentinel], laidTests := true, laidLooks := .later }
def EngineStartsUptoCardSaid : Prop := Claim7.holds Tryz.pinned (.plain (OpenSpec.upto engineStartsSpec)) engineStartsUptoCard

/-- THE SECOND FORM's CARD OF 'spinetlaw15.EngineMacro'. -/
def engineMacroUptoCard : Claim7 := { stood := { row := engineMacroUptoRow, standIns := [], harness := (true, "2940ca16679f6f9b14c9146783a6776b5c9a05fdd2ffc8cc2afd5c904c565fdf"), looks := true }, kinds := [], alts := [], laidByText := true, laidKinds := [.data, .data, .data, .sentinel, .sentinel], laidTests := true, laidLooks := .later }
def EngineMacroUptoCardSaid : Prop := Claim7.holds Tryz.pinned (.plain (OpenSpec.upto engineMacroSpec)) engineMacroUptoCard

/-- THE SECOND FORM's CARD OF 'spinetlaw06.CodecBack'. -/
def codecBackUptoCard : Claim7 := { stood := { row := codecBackUptoRow, standIns := [], harness := (true, "2940ca16679f6f9b14c9146783a6776b5c9a05fdd2ffc8cc2afd5c904c565fdf"), looks := true }, kinds := [], alts := [], laidByText := true, laidKinds := [.data, .data, .data, .handle, .sentinel, .sentinel], laidTests := true, laidLooks := .later }
def CodecBackUptoCardSaid : Prop := Claim7.holds Tryz.pinned (.plain (OpenSpec.upto codecBackSpec)) codecBackUptoCard
end Rows
end Go.Proofs.YtcjlpkegkehghaaGreatDoor
