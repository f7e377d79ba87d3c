/-
  NARROWER THAN 'FOR EVERY INPUT', by the rows' own cells (each row's printed sentence says how): ChooseGathers: laid · ChooseReady: laid · ChooseKept: laid · TableTree: laid · MicroFirst: laid · MicroWhole: laid · MacroStarts: laid · MacroPlays: laid · MacroIdle: laid · EngineStarts: laid · EngineMacro: laid · CodecBack: laid.
  DERIVED. THE GIVEN ROWS OF THIS SEAT. 12 by the template 'for every input the law returns true; each argument reads behind the call as it read before'; 0 by the template 'total and deterministic' (their statements: YtcjlpkegkehghaaGreatDoorTotals.lean).
  GIVEN WITH THE SEED: the statements are not yours to turn. If you find one false, say at which input.
  Laid BY PROGRAM, IN A SANDBOX (cutbox-rows.mjs): the forced cells as the released guide's own fill.sh prints them over the translation 6735ffb61d1ba885… (all of the seat's roots in one cut). By AI agents, Wed Nov 11 2026. No macro, syntax, notation, axiom, sorry.
-/
import Derived.Test.YtcjlpkegkehghaaGreatDoorChecked
import GoSem.Claim
import GoSem.ClaimJoined
import GoSem.ClaimMapViews
import Derived.JoinedTies
import Derived.KernelRfl
namespace Go.Proofs.YtcjlpkegkehghaaGreatDoor
/- THE CELL 'sum', in the pinned program and in every row, IS THE sha256 OF THE DUMP (.gsa) THAT YtcjlpkegkehghaaGreatDoorProg.lean LOADS. Nothing in Lean hashes anything: it is a label: what it is worth is what the hold of that sum in a sandbox is worth. -/
noncomputable def Tryz.pinned : Pinned := { name := "ytcjlpkegkehghaagreatdoor", sum := "6735ffb61d1ba8853d839587946e03cd88165d7c7813c72bc777099a3bed0e34", checked := Tryz.checked }
namespace Rows
def none {H : Type} : Left H := { results := [], args := [] }

/- WHAT THE LISTED PACKAGE-LEVEL VARIABLES READ AS WHEN THE CALL BEGINS. Each datum BY PROGRAM (the guide's laid-datum.mjs) off the statement by which the dump's own 'gosem.cut.vars' lays the variable. In a bare row this is a premise. The card (YtcjlpkegkehghaaGreatDoorCards.lean) ties it to the program's text. -/
def laid_math_bits_deBruijn32tab {H : Type} : DataW H := .agg [.lit (.int .u8 0), .lit (.int .u8 1), .lit (.int .u8 28), .lit (.int .u8 2), .lit (.int .u8 29), .lit (.int .u8 14), .lit (.int .u8 24), .lit (.int .u8 3), .lit (.int .u8 30), .lit (.int .u8 22), .lit (.int .u8 20), .lit (.int .u8 15), .lit (.int .u8 25), .lit (.int .u8 17), .lit (.int .u8 4), .lit (.int .u8 8), .lit (.int .u8 31), .lit (.int .u8 27), .lit (.int .u8 13), .lit (.int .u8 23), .lit (.int .u8 21), .lit (.int .u8 19), .lit (.int .u8 16), .lit (.int .u8 7), .lit (.int .u8 26), .lit (.int .u8 12), .lit (.int .u8 18), .lit (.int .u8 6), .lit (.int .u8 11), .lit (.int .u8 5), .lit (.int .u8 10), .lit (.int .u8 9)]
def laid_math_bits_deBruijn64tab {H : Type} : DataW H := .agg [.lit (.int .u8 0), .lit (.int .u8 1), .lit (.int .u8 56), .lit (.int .u8 2), .lit (.int .u8 57), .lit (.int .u8 49), .lit (.int .u8 28), .lit (.int .u8 3), .lit (.int .u8 61), .lit (.int .u8 58), .lit (.int .u8 42), .lit (.int .u8 50), .lit (.int .u8 38), .lit (.int .u8 29), .lit (.int .u8 17), .lit (.int .u8 4), .lit (.int .u8 62), .lit (.int .u8 47), .lit (.int .u8 59), .lit (.int .u8 36), .lit (.int .u8 45), .lit (.int .u8 43), .lit (.int .u8 51), .lit (.int .u8 22), .lit (.int .u8 53), .lit (.int .u8 39), .lit (.int .u8 33), .lit (.int .u8 30), .lit (.int .u8 24), .lit (.int .u8 18), .lit (.int .u8 12), .lit (.int .u8 5), .lit (.int .u8 63), .lit (.int .u8 55), .lit (.int .u8 48), .lit (.int .u8 27), .lit (.int .u8 60), .lit (.int .u8 41), .lit (.int .u8 37), .lit (.int .u8 16), .lit (.int .u8 46), .lit (.int .u8 35), .lit (.int .u8 44), .lit (.int .u8 21), .lit (.int .u8 52), .lit (.int .u8 32), .lit (.int .u8 23), .lit (.int .u8 11), .lit (.int .u8 54), .lit (.int .u8 26), .lit (.int .u8 40), .lit (.int .u8 15), .lit (.int .u8 34), .lit (.int .u8 20), .lit (.int .u8 31), .lit (.int .u8 10), .lit (.int .u8 25), .lit (.int .u8 14), .lit (.int .u8 19), .lit (.int .u8 9), .lit (.int .u8 13), .lit (.int .u8 8), .lit (.int .u8 7), .lit (.int .u8 6)]
def laid_internal_strconv_uint64pow10 {H : Type} : DataW H := .agg [.lit (.int .u64 1), .lit (.int .u64 10), .lit (.int .u64 100), .lit (.int .u64 1000), .lit (.int .u64 10000), .lit (.int .u64 100000), .lit (.int .u64 1000000), .lit (.int .u64 10000000), .lit (.int .u64 100000000), .lit (.int .u64 1000000000), .lit (.int .u64 10000000000), .lit (.int .u64 100000000000), .lit (.int .u64 1000000000000), .lit (.int .u64 10000000000000), .lit (.int .u64 100000000000000), .lit (.int .u64 1000000000000000), .lit (.int .u64 10000000000000000), .lit (.int .u64 100000000000000000), .lit (.int .u64 1000000000000000000), .lit (.int .u64 10000000000000000000)]
def laid_strconv_ErrRange {H : Type} : DataW H := .iface "*errors.errorString" (.ptr (.agg [.lit (.string [118, 97, 108, 117, 101, 32, 111, 117, 116, 32, 111, 102, 32, 114, 97, 110, 103, 101])]))
def laid_strconv_ErrSyntax {H : Type} : DataW H := .iface "*errors.errorString" (.ptr (.agg [.lit (.string [105, 110, 118, 97, 108, 105, 100, 32, 115, 121, 110, 116, 97, 120])]))
def laid_errors_errorType {H : Type} : DataW H := .iface "internal/reflectlite.rtype" (.agg [.ptr (.lit (.string [101, 114, 114, 111, 114]))])

/-- 'spinetlaw10.ChooseGathers': WHATEVER THE INPUT: true; the input reads as it did. -/
def chooseGathersSpec : ChangeSpec := { name := "chooseGathers", fn := fun _ => fun
  | [d1, d2, d3, d4] => { results := [.lit (.bool true)], args := [d1, d2, d3, d4] }
  | _ => none }
def chooseGathersRow : OpenClaim := { program := "ytcjlpkegkehghaagreatdoor", sum := "6735ffb61d1ba8853d839587946e03cd88165d7c7813c72bc777099a3bed0e34", func := "spinet/spinetlaw10.ChooseGathers", spec := "chooseGathers", unfollowed := true, recurses := true, named := ["strconv.ErrSyntax", "strconv.ErrRange", "internal/strconv.uint64pow10", "math/bits.deBruijn32tab", "math/bits.deBruijn64tab"], apart := false, laid := [("math/bits.deBruijn32tab", laid_math_bits_deBruijn32tab), ("math/bits.deBruijn64tab", laid_math_bits_deBruijn64tab), ("internal/strconv.uint64pow10", laid_internal_strconv_uint64pow10), ("strconv.ErrRange", laid_strconv_ErrRange), ("strconv.ErrSyntax", laid_strconv_ErrSyntax)] }
def ChooseGathersSaid : Prop := chooseGathersRow.holds Tryz.pinned (OpenSpec.ofChange chooseGathersSpec)

/-- ITS FALSE NEIGHBOUR: 'it returns false'. Refute it at one input. -/
def chooseGathersWrong : ChangeSpec := { name := "chooseGathers", fn := fun _ => fun
  | [d1, d2, d3, d4] => { results := [.lit (.bool false)], args := [d1, d2, d3, d4] }
  | _ => none }
def ChooseGathersWrongFalsely : Prop := chooseGathersRow.holds Tryz.pinned (OpenSpec.ofChange chooseGathersWrong)

/-- 'spinetlaw10.ChooseReady': WHATEVER THE INPUT: true; the input reads as it did. -/
def chooseReadySpec : ChangeSpec := { name := "chooseReady", fn := fun _ => fun
  | [d1, d2, d3, d4] => { results := [.lit (.bool true)], args := [d1, d2, d3, d4] }
  | _ => none }
def chooseReadyRow : OpenClaim := { program := "ytcjlpkegkehghaagreatdoor", sum := "6735ffb61d1ba8853d839587946e03cd88165d7c7813c72bc777099a3bed0e34", func := "spinet/spinetlaw10.ChooseReady", spec := "chooseReady", unfollowed := true, recurses := true, named := ["strconv.ErrSyntax", "strconv.ErrRange", "internal/strconv.uint64pow10", "math/bits.deBruijn32tab", "math/bits.deBruijn64tab"], apart := false, laid := [("math/bits.deBruijn32tab", laid_math_bits_deBruijn32tab), ("math/bits.deBruijn64tab", laid_math_bits_deBruijn64tab), ("internal/strconv.uint64pow10", laid_internal_strconv_uint64pow10), ("strconv.ErrRange", laid_strconv_ErrRange), ("strconv.ErrSyntax", laid_strconv_ErrSyntax)] }
def ChooseReadySaid : Prop := chooseReadyRow.holds Tryz.pinned (OpenSpec.ofChange chooseReadySpec)

/-- ITS FALSE NEIGHBOUR: 'it returns false'. Refute it at one input. -/
def chooseReadyWrong : ChangeSpec := { name := "chooseReady", fn := fun _ => fun
  | [d1, d2, d3, d4] => { results := [.lit (.bool false)], args := [d1, d2, d3, d4] }
  | _ => none }
def ChooseReadyWrongFalsely : Prop := chooseReadyRow.holds Tryz.pinned (OpenSpec.ofChange chooseReadyWrong)

/-- 'spinetlaw10.ChooseKept': WHATEVER THE INPUT: true; the input reads as it did. -/
def chooseKeptSpec : ChangeSpec := { name := "chooseKept", fn := fun _ => fun
  | [d1, d2, d3, d4] => { results := [.lit (.bool true)], args := [d1, d2, d3, d4] }
  | _ => none }
def chooseKeptRow : OpenClaim := { program := "ytcjlpkegkehghaagreatdoor", sum := "6735ffb61d1ba8853d839587946e03cd88165d7c7813c72bc777099a3bed0e34", func := "spinet/spinetlaw10.ChooseKept", spec := "chooseKept", unfollowed := true, recurses := true, named := ["strconv.ErrSyntax", "strconv.ErrRange", "internal/strconv.uint64pow10", "math/bits.deBruijn32tab", "math/bits.deBruijn64tab"], apart := false, laid := [("math/bits.deBruijn32tab", laid_math_bits_deBruijn32tab), ("math/bits.deBruijn64tab", laid_math_bits_deBruijn64tab), ("internal/strconv.uint64pow10", laid_internal_strconv_uint64pow10), ("strconv.ErrRange", laid_strconv_ErrRange), ("strconv.ErrSyntax", laid_strconv_ErrSyntax)] }
def ChooseKeptSaid : Prop := chooseKeptRow.holds Tryz.pinned (OpenSpec.ofChange chooseKeptSpec)

/-- ITS FALSE NEIGHBOUR: 'it returns false'. Refute it at one input. -/
def chooseKeptWrong : ChangeSpec := { name := "chooseKept", fn := fun _ => fun
  | [d1, d2, d3, d4] => { results := [.lit (.bool false)], args := [d1, d2, d3, d4] }
  | _ => none }
def ChooseKeptWrongFalsely : Prop := chooseKeptRow.holds Tryz.pinned (OpenSpec.ofChange chooseKeptWrong)

/-- 'spinetlaw14.TableTree': WHATEVER THE INPUT: true; the input reads as it did. -/
def tableTreeSpec : ChangeSpec := { name := "tableTree", fn := fun _ => fun
  | [d] => { results := [.lit (.bool true)], args := [d] }
  | _ => none }
def tableTreeRow : OpenClaim := { program := "ytcjlpkegkehghaagreatdoor", sum := "6735ffb61d1ba8853d839587946e03cd88165d7c7813c72bc777099a3bed0e34", func := "spinet/spinetlaw14.TableTree", spec := "tableTree", unfollowed := true, recurses := true, named := ["strconv.ErrSyntax", "strconv.ErrRange", "internal/strconv.uint64pow10", "math/bits.deBruijn32tab", "math/bits.deBruijn64tab"], apart := false, laid := [("math/bits.deBruijn32tab", laid_math_bits_deBruijn32tab), ("math/bits.deBruijn64tab", laid_math_bits_deBruijn64tab), ("internal/strconv.uint64pow10", laid_internal_strconv_uint64pow10), ("strconv.ErrRange", laid_strconv_ErrRange), ("strconv.ErrSyntax", laid_strconv_ErrSyntax)] }
def TableTreeSaid : Prop := tableTreeRow.holds Tryz.pinned (OpenSpec.ofChange tableTreeSpec)

/-- ITS FALSE NEIGHBOUR: 'it returns false'. Refute it at one input. -/
def tableTreeWrong : ChangeSpec := { name := "tableTree", fn := fun _ => fun
  | [d] => { results := [.lit (.bool false)], args := [d] }
  | _ => none }
def TableTreeWrongFalsely : Prop := tableTreeRow.holds Tryz.pinned (OpenSpec.ofChange tableTreeWrong)

/-- 'spinetlaw12.MicroFirst': WHATEVER THE INPUT: true; the input reads as it did. -/
def microFirstSpec : ChangeSpec := { name := "microFirst", fn := fun _ => fun
  | [d] => { results := [.lit (.bool true)], args := [d] }
  | _ => none }
def microFirstRow : OpenClaim := { program := "ytcjlpkegkehghaagreatdoor", sum := "6735ffb61d1ba8853d839587946e03cd88165d7c7813c72bc777099a3bed0e34", func := "spinet/spinetlaw12.MicroFirst", spec := "microFirst", unfollowed := true, recurses := true, named := ["strconv.ErrSyntax", "strconv.ErrRange", "internal/strconv.uint64pow10", "math/bits.deBruijn32tab", "math/bits.deBruijn64tab"], apart := false, laid := [("math/bits.deBruijn32tab", laid_math_bits_deBruijn32tab), ("math/bits.deBruijn64tab", laid_math_bits_deBruijn64tab), ("internal/strconv.uint64pow10", laid_internal_strconv_uint64pow10), ("strconv.ErrRange", laid_strconv_ErrRange), ("strconv.ErrSyntax", laid_strconv_ErrSyntax)] }
def MicroFirstSaid : Prop := microFirstRow.holds Tryz.pinned (OpenSpec.ofChange microFirstSpec)

/-- ITS FALSE NEIGHBOUR: 'it returns false'. Refute it at one input. -/
def microFirstWrong : ChangeSpec := { name := "microFirst", fn := fun _ => fun
  | [d] => { results := [.lit (.bool false)], args := [d] }
  | _ => none }
def MicroFirstWrongFalsely : Prop := microFirstRow.holds Tryz.pinned (OpenSpec.ofChange microFirstWrong)

/-- 'spinetlaw12.MicroWhole': WHATEVER THE INPUT: true; the input reads as it did. -/
def microWholeSpec : ChangeSpec := { name := "microWhole", fn := fun _ => fun
  | [d1, d2, d3] => { results := [.lit (.bool true)], args := [d1, d2, d3] }
  | _ => none }
def microWholeRow : OpenClaim := { program := "ytcjlpkegkehghaagreatdoor", sum := "6735ffb61d1ba8853d839587946e03cd88165d7c7813c72bc777099a3bed0e34", func := "spinet/spinetlaw12.MicroWhole", spec := "microWhole", unfollowed := true, recurses := true, named := ["strconv.ErrSyntax", "strconv.ErrRange", "internal/strconv.uint64pow10", "math/bits.deBruijn32tab", "math/bits.deBruijn64tab"], apart := false, laid := [("math/bits.deBruijn32tab", laid_math_bits_deBruijn32tab), ("math/bits.deBruijn64tab", laid_math_bits_deBruijn64tab), ("internal/strconv.uint64pow10", laid_internal_strconv_uint64pow10), ("strconv.ErrRange", laid_strconv_ErrRange), ("strconv.ErrSyntax", laid_strconv_ErrSyntax)] }
def MicroWholeSaid : Prop := microWholeRow.holds Tryz.pinned (OpenSpec.ofChange microWholeSpec)

/-- ITS FALSE NEIGHBOUR: 'it returns false'. Refute it at one input. -/
def microWholeWrong : ChangeSpec := { name := "microWhole", fn := fun _ => fun
  | [d1, d2, d3] => { results := [.lit (.bool false)], args := [d1, d2, d3] }
  | _ => none }
def MicroWholeWrongFalsely : Prop := microWholeRow.holds Tryz.pinned (OpenSpec.ofChange microWholeWrong)

/-- 'spinetlaw13.MacroStarts': WHATEVER THE INPUT: true; the input reads as it did. -/
def macroStartsSpec : ChangeSpec := { name := "macroStarts", fn := fun _ => fun
  | [d] => { results := [.lit (.bool true)], args := [d] }
  | _ => none }
def macroStartsRow : OpenClaim := { program := "ytcjlpkegkehghaagreatdoor", sum := "6735ffb61d1ba8853d839587946e03cd88165d7c7813c72bc777099a3bed0e34", func := "spinet/spinetlaw13.MacroStarts", spec := "macroStarts", unfollowed := true, recurses := true, named := ["strconv.ErrSyntax", "strconv.ErrRange", "internal/strconv.uint64pow10", "math/bits.deBruijn32tab", "math/bits.deBruijn64tab"], apart := false, laid := [("math/bits.deBruijn32tab", laid_math_bits_deBruijn32tab), ("math/bits.deBruijn64tab", laid_math_bits_deBruijn64tab), ("internal/strconv.uint64pow10", laid_internal_strconv_uint64pow10), ("strconv.ErrRange", laid_strconv_ErrRange), ("strconv.ErrSyntax", laid_strconv_ErrSyntax)] }
def MacroStartsSaid : Prop := macroStartsRow.holds Tryz.pinned (OpenSpec.ofChange macroStartsSpec)

/-- ITS FALSE NEIGHBOUR: 'it returns false'. Refute it at one input. -/
def macroStartsWrong : ChangeSpec := { name := "macroStarts", fn := fun _ => fun
  | [d] => { results := [.lit (.bool false)], args := [d] }
  | _ => none }
def MacroStartsWrongFalsely : Prop := macroStartsRow.holds Tryz.pinned (OpenSpec.ofChange macroStartsWrong)

/-- 'spinetlaw13.MacroPlays': WHATEVER THE INPUT: true; the input reads as it did. -/
def macroPlaysSpec : ChangeSpec := { name := "macroPlays", fn := fun _ => fun
  | [d1, d2] => { results := [.lit (.bool true)], args := [d1, d2] }
  | _ => none }
def macroPlaysRow : OpenClaim := { program := "ytcjlpkegkehghaagreatdoor", sum := "6735ffb61d1ba8853d839587946e03cd88165d7c7813c72bc777099a3bed0e34", func := "spinet/spinetlaw13.MacroPlays", spec := "macroPlays", unfollowed := true, recurses := true, named := ["strconv.ErrSyntax", "strconv.ErrRange", "internal/strconv.uint64pow10", "math/bits.deBruijn32tab", "math/bits.deBruijn64tab"], apart := false, laid := [("math/bits.deBruijn32tab", laid_math_bits_deBruijn32tab), ("math/bits.deBruijn64tab", laid_math_bits_deBruijn64tab), ("internal/strconv.uint64pow10", laid_internal_strconv_uint64pow10), ("strconv.ErrRange", laid_strconv_ErrRange), ("strconv.ErrSyntax", laid_strconv_ErrSyntax)] }
def MacroPlaysSaid : Prop := macroPlaysRow.holds Tryz.pinned (OpenSpec.ofChange macroPlaysSpec)

/-- ITS FALSE NEIGHBOUR: 'it returns false'. Refute it at one input. -/
def macroPlaysWrong : ChangeSpec := { name := "macroPlays", fn := fun _ => fun
  | [d1, d2] => { results := [.lit (.bool false)], args := [d1, d2] }
  | _ => none }
def MacroPlaysWrongFalsely : Prop := macroPlaysRow.holds Tryz.pinned (OpenSpec.ofChange macroPlaysWrong)

/-- 'spinetlaw13.MacroIdle': WHATEVER THE INPUT: true; the input reads as it did. -/
def macroIdleSpec : ChangeSpec := { name := "macroIdle", fn := fun _ => fun
  | [d1, d2, d3] => { results := [.lit (.bool true)], args := [d1, d2, d3] }
  | _ => none }
def macroIdleRow : OpenClaim := { program := "ytcjlpkegkehghaagreatdoor", sum := "6735ffb61d1ba8853d839587946e03cd88165d7c7813c72bc777099a3bed0e34", func := "spinet/spinetlaw13.MacroIdle", spec := "macroIdle", unfollowed := true, recurses := true, named := ["strconv.ErrSyntax", "strconv.ErrRange", "internal/strconv.uint64pow10", "math/bits.deBruijn32tab", "math/bits.deBruijn64tab"], apart := false, laid := [("math/bits.deBruijn32tab", laid_math_bits_deBruijn32tab), ("math/bits.deBruijn64tab", laid_math_bits_deBruijn64tab), ("internal/strconv.uint64pow10", laid_internal_strconv_uint64pow10), ("strconv.ErrRange", laid_strconv_ErrRange), ("strconv.ErrSyntax", laid_strconv_ErrSyntax)] }
def MacroIdleSaid : Prop := macroIdleRow.holds Tryz.pinned (OpenSpec.ofChange macroIdleSpec)

/-- ITS FALSE NEIGHBOUR: 'it returns false'. Refute it at one input. -/
def macroIdleWrong : ChangeSpec := { name := "macroIdle", fn := fun _ => fun
  | [d1, d2, d3] => { results := [.lit (.bool false)], args := [d1, d2, d3] }
  | _ => none }
def MacroIdleWrongFalsely : Prop := macroIdleRow.holds Tryz.pinned (OpenSpec.ofChange macroIdleWrong)

/-- 'spinetlaw15.EngineStarts': WHATEVER THE INPUT: true; the input reads as it did. -/
def engineStartsSpec : ChangeSpec := { name := "engineStarts", fn := fun _ => fun
  | [d] => { results := [.lit (.bool true)], args := [d] }
  | _ => none }
def engineStartsRow : OpenClaim := { program := "ytcjlpkegkehghaagreatdoor", sum := "6735ffb61d1ba8853d839587946e03cd88165d7c7813c72bc777099a3bed0e34", func := "spinet/spinetlaw15.EngineStarts", spec := "engineStarts", unfollowed := true, recurses := true, named := ["strconv.ErrSyntax", "strconv.ErrRange", "internal/strconv.uint64pow10", "math/bits.deBruijn32tab", "math/bits.deBruijn64tab"], apart := false, laid := [("math/bits.deBruijn32tab", laid_math_bits_deBruijn32tab), ("math/bits.deBruijn64tab", laid_math_bits_deBruijn64tab), ("internal/strconv.uint64pow10", laid_internal_strconv_uint64pow10), ("strconv.ErrRange", laid_strconv_ErrRange), ("strconv.ErrSyntax", laid_strconv_ErrSyntax)] }
def EngineStartsSaid : Prop := engineStartsRow.holds Tryz.pinned (OpenSpec.ofChange engineStartsSpec)

/-- ITS FALSE NEIGHBOUR: 'it returns false'. Refute it at one input. -/
def engineStartsWrong : ChangeSpec := { name := "engineStarts", fn := fun _ => fun
  | [d] => { results := [.lit (.bool false)], args := [d] }
  | _ => none }
def EngineStartsWrongFalsely : Prop := engineStartsRow.holds Tryz.pinned (OpenSpec.ofChange engineStartsWrong)

/-- 'spinetlaw15.EngineMacro': WHATEVER THE INPUT: true; the input reads as it did. -/
def engineMacroSpec : ChangeSpec := { name := "engineMacro", fn := fun _ => fun
  | [d1, d2] => { results := [.lit (.bool true)], args := [d1, d2] }
  | _ => none }
def engineMacroRow : OpenClaim := { program := "ytcjlpkegkehghaagreatdoor", sum := "6735ffb61d1ba8853d839587946e03cd88165d7c7813c72bc777099a3bed0e34", func := "spinet/spinetlaw15.EngineMacro", spec := "engineMacro", unfollowed := true, recurses := true, named := ["strconv.ErrSyntax", "strconv.ErrRange", "internal/strconv.uint64pow10", "math/bits.deBruijn32tab", "math/bits.deBruijn64tab"], apart := false, laid := [("math/bits.deBruijn32tab", laid_math_bits_deBruijn32tab), ("math/bits.deBruijn64tab", laid_math_bits_deBruijn64tab), ("internal/strconv.uint64pow10", laid_internal_strconv_uint64pow10), ("strconv.ErrRange", laid_strconv_ErrRange), ("strconv.ErrSyntax", laid_strconv_ErrSyntax)] }
def EngineMacroSaid : Prop := engineMacroRow.holds Tryz.pinned (OpenSpec.ofChange engineMacroSpec)

/-- ITS FALSE NEIGHBOUR: 'it returns false'. Refute it at one input. -/
def engineMacroWrong : ChangeSpec := { name := "engineMacro", fn := fun _ => fun
  | [d1, d2] => { results := [.lit (.bool false)], args := [d1, d2] }
  | _ => none }
def EngineMacroWrongFalsely : Prop := engineMacroRow.holds Tryz.pinned (OpenSpec.ofChange engineMacroWrong)

/-- 'spinetlaw06.CodecBack': WHATEVER THE INPUT: true; the input reads as it did. -/
def codecBackSpec : ChangeSpec := { name := "codecBack", fn := fun _ => fun
  | [d1, d2] => { results := [.lit (.bool true)], args := [d1, d2] }
  | _ => none }
def codecBackRow : OpenClaim := { program := "ytcjlpkegkehghaagreatdoor", sum := "6735ffb61d1ba8853d839587946e03cd88165d7c7813c72bc777099a3bed0e34", func := "spinet/spinetlaw06.CodecBack", spec := "codecBack", inPlace := ["internal/reflectlite.ValueOf", "(internal/reflectlite.Value).Type", "(internal/reflectlite.Value).IsNil", "internal/reflectlite.TypeOf", "(internal/reflectlite.Value).Elem", "(internal/reflectlite.Value).Set"], unfollowed := true, recurses := true, named := ["strconv.ErrSyntax", "strconv.ErrRange", "internal/strconv.uint64pow10", "math/bits.deBruijn32tab", "math/bits.deBruijn64tab", "errors.errorType"], apart := false, laid := [("math/bits.deBruijn32tab", laid_math_bits_deBruijn32tab), ("math/bits.deBruijn64tab", laid_math_bits_deBruijn64tab), ("internal/strconv.uint64pow10", laid_internal_strconv_uint64pow10), ("errors.errorType", laid_errors_errorType), ("strconv.ErrRange", laid_strconv_ErrRange), ("strconv.ErrSyntax", laid_strconv_ErrSyntax)] }
def CodecBackSaid : Prop := codecBackRow.holds Tryz.pinned (OpenSpec.ofChange codecBackSpec)

/-- ITS FALSE NEIGHBOUR: 'it returns false'. Refute it at one input. -/
def codecBackWrong : ChangeSpec := { name := "codecBack", fn := fun _ => fun
  | [d1, d2] => { results := [.lit (.bool false)], args := [d1, d2] }
  | _ => none }
def CodecBackWrongFalsely : Prop := codecBackRow.holds Tryz.pinned (OpenSpec.ofChange codecBackWrong)

/- THE SECOND FORM. 'bulk': how many values and letters a reading holds, each counted each time it is reached (what is shared counts as often as it is met; a slice's spare places count too). A statement '..UptoSaid' is the law's where the arguments, and the package variables that the reading takes, are together of bulk at most 1048576: NARROWER than '..Said'. Prove '..Said' where nothing that the law and all that it calls make is longer than what came in: it says more and counts as full. Else prove '..UptoSaid'. A law counts once. -/
mutual
def uptoBulk {H : Type} : DataW H → Nat
  | .lit (.string bytes) => bytes.length + 1
  | .lit _ => 1
  | .nil => 1
  | .ptr d => uptoBulk d + 1
  | .slice elems spare => uptoBulkAll elems + uptoBulkAll spare + 1
  | .agg parts => uptoBulkAll parts + 1
  | .iface _ d => uptoBulk d + 1
  | .map entries => uptoBulkEntries entries + 1
  | .held _ => 1
def uptoBulkAll {H : Type} : List (DataW H) → Nat
  | [] => 0
  | d :: r => uptoBulk d + uptoBulkAll r
def uptoBulkEntries {H : Type} : List (Lit × DataW H) → Nat
  | [] => 0
  | x :: r => uptoBulkEntry x + uptoBulkEntries r
def uptoBulkEntry {H : Type} : Lit × DataW H → Nat
  | (.string bytes, d) => bytes.length + uptoBulk d + 1
  | (_, d) => uptoBulk d + 1
 end
def uptoSmall : (H : Type) → List (DataW H) → Bool := fun _ ds => decide (uptoBulkAll ds ≤ 1048576)
def OpenSpec.upto (s : _root_.Go.ChangeSpec) : _root_.Go.OpenSpec := { _root_.Go.OpenSpec.ofChange s with cond := some uptoSmall }

/-- 'spinetlaw10.ChooseGathers', WHERE WHAT IT READS IS OF BULK AT MOST 1048576: true; the input reads as it did. -/
def chooseGathersUptoRow : OpenClaim := { program := "ytcjlpkegkehghaagreatdoor", sum := "6735ffb61d1ba8853d839587946e03cd88165d7c7813c72bc777099a3bed0e34", func := "spinet/spinetlaw10.ChooseGathers", spec := "chooseGathers", unfollowed := true, recurses := true, named := ["strconv.ErrSyntax", "strconv.ErrRange", "internal/strconv.uint64pow10", "math/bits.deBruijn32tab", "math/bits.deBruijn64tab"], apart := false, laid := [("math/bits.deBruijn32tab", laid_math_bits_deBruijn32tab), ("math/bits.deBruijn64tab", laid_math_bits_deBruijn64tab), ("internal/strconv.uint64pow10", laid_internal_strconv_uint64pow10), ("strconv.ErrRange", laid_strconv_ErrRange), ("strconv.ErrSyntax", laid_strconv_ErrSyntax)], narrowed := true }
def ChooseGathersUptoSaid : Prop := chooseGathersUptoRow.holds Tryz.pinned (OpenSpec.upto chooseGathersSpec)

/-- 'spinetlaw10.ChooseReady', WHERE WHAT IT READS IS OF BULK AT MOST 1048576: true; the input reads as it did. -/
def chooseReadyUptoRow : OpenClaim := { program := "ytcjlpkegkehghaagreatdoor", sum := "6735ffb61d1ba8853d839587946e03cd88165d7c7813c72bc777099a3bed0e34", func := "spinet/spinetlaw10.ChooseReady", spec := "chooseReady", unfollowed := true, recurses := true, named := ["strconv.ErrSyntax", "strconv.ErrRange", "internal/strconv.uint64pow10", "math/bits.deBruijn32tab", "math/bits.deBruijn64tab"], apart := false, laid := [("math/bits.deBruijn32tab", laid_math_bits_deBruijn32tab), ("math/bits.deBruijn64tab", laid_math_bits_deBruijn64tab), ("internal/strconv.uint64pow10", laid_internal_strconv_uint64pow10), ("strconv.ErrRange", laid_strconv_ErrRange), ("strconv.ErrSyntax", laid_strconv_ErrSyntax)], narrowed := true }
def ChooseReadyUptoSaid : Prop := chooseReadyUptoRow.holds Tryz.pinned (OpenSpec.upto chooseReadySpec)

/-- 'spinetlaw10.ChooseKept', WHERE WHAT IT READS IS OF BULK AT MOST 1048576: true; the input reads as it did. -/
def chooseKeptUptoRow : OpenClaim := { program := "ytcjlpkegkehghaagreatdoor", sum := "6735ffb61d1ba8853d839587946e03cd88165d7c7813c72bc777099a3bed0e34", func := "spinet/spinetlaw10.ChooseKept", spec := "chooseKept", unfollowed := true, recurses := true, named := ["strconv.ErrSyntax", "strconv.ErrRange", "internal/strconv.uint64pow10", "math/bits.deBruijn32tab", "math/bits.deBruijn64tab"], apart := false, laid := [("math/bits.deBruijn32tab", laid_math_bits_deBruijn32tab), ("math/bits.deBruijn64tab", laid_math_bits_deBruijn64tab), ("internal/strconv.uint64pow10", laid_internal_strconv_uint64pow10), ("strconv.ErrRange", laid_strconv_ErrRange), ("strconv.ErrSyntax", laid_strconv_ErrSyntax)], narrowed := true }
def ChooseKeptUptoSaid : Prop := chooseKeptUptoRow.holds Tryz.pinned (OpenSpec.upto chooseKeptSpec)

/-- 'spinetlaw14.TableTree', WHERE WHAT IT READS IS OF BULK AT MOST 1048576: true; the input reads as it did. -/
def tableTreeUptoRow : OpenClaim := { program := "ytcjlpkegkehghaagreatdoor", sum := "6735ffb61d1ba8853d839587946e03cd88165d7c7813c72bc777099a3bed0e34", func := "spinet/spinetlaw14.TableTree", spec := "tableTree", unfollowed := true, recurses := true, named := ["strconv.ErrSyntax", "strconv.ErrRange", "internal/strconv.uint64pow10", "math/bits.deBruijn32tab", "math/bits.deBruijn64tab"], apart := false, laid := [("math/bits.deBruijn32tab", laid_math_bits_deBruijn32tab), ("math/bits.deBruijn64tab", laid_math_bits_deBruijn64tab), ("internal/strconv.uint64pow10", laid_internal_strconv_uint64pow10), ("strconv.ErrRange", laid_strconv_ErrRange), ("strconv.ErrSyntax", laid_strconv_ErrSyntax)], narrowed := true }
def TableTreeUptoSaid : Prop := tableTreeUptoRow.holds Tryz.pinned (OpenSpec.upto tableTreeSpec)

/-- 'spinetlaw12.MicroFirst', WHERE WHAT IT READS IS OF BULK AT MOST 1048576: true; the input reads as it did. -/
def microFirstUptoRow : OpenClaim := { program := "ytcjlpkegkehghaagreatdoor", sum := "6735ffb61d1ba8853d839587946e03cd88165d7c7813c72bc777099a3bed0e34", func := "spinet/spinetlaw12.MicroFirst", spec := "microFirst", unfollowed := true, recurses := true, named := ["strconv.ErrSyntax", "strconv.ErrRange", "internal/strconv.uint64pow10", "math/bits.deBruijn32tab", "math/bits.deBruijn64tab"], apart := false, laid := [("math/bits.deBruijn32tab", laid_math_bits_deBruijn32tab), ("math/bits.deBruijn64tab", laid_math_bits_deBruijn64tab), ("internal/strconv.uint64pow10", laid_internal_strconv_uint64pow10), ("strconv.ErrRange", laid_strconv_ErrRange), ("strconv.ErrSyntax", laid_strconv_ErrSyntax)], narrowed := true }
def MicroFirstUptoSaid : Prop := microFirstUptoRow.holds Tryz.pinned (OpenSpec.upto microFirstSpec)

/-- 'spinetlaw12.MicroWhole', WHERE WHAT IT READS IS OF BULK AT MOST 1048576: true; the input reads as it did. -/
def microWholeUptoRow : OpenClaim := { program := "ytcjlpkegkehghaagreatdoor", sum := "6735ffb61d1ba8853d839587946e03cd88165d7c7813c72bc777099a3bed0e34", func := "spinet/spinetlaw12.MicroWhole", spec := "microWhole", unfollowed := true, recurses := true, named := ["strconv.ErrSyntax", "strconv.ErrRange", "internal/strconv.uint64pow10", "math/bits.deBruijn32tab", "math/bits.deBruijn64tab"], apart := false, laid := [("math/bits.deBruijn32tab", laid_math_bits_deBruijn32tab), ("math/bits.deBruijn64tab", laid_math_bits_deBruijn64tab), ("internal/strconv.uint64pow10", laid_internal_strconv_uint64pow10), ("strconv.ErrRange", laid_strconv_ErrRange), ("strconv.ErrSyntax", laid_strconv_ErrSyntax)], narrowed := true }
def MicroWholeUptoSaid : Prop := microWholeUptoRow.holds Tryz.pinned (OpenSpec.upto microWholeSpec)

/-- 'spinetlaw13.MacroStarts', WHERE WHAT IT READS IS OF BULK AT MOST 1048576: true; the input reads as it did. -/
def macroStartsUptoRow : OpenClaim := { program := "ytcjlpkegkehghaagreatdoor", sum := "6735ffb61d1ba8853d839587946e03cd88165d7c7813c72bc777099a3bed0e34", func := "spinet/spinetlaw13.MacroStarts", spec := "macroStarts", unfollowed := true, recurses := true, named := ["strconv.ErrSyntax", "strconv.ErrRange", "internal/strconv.uint64pow10", "math/bits.deBruijn32tab", "math/bits.deBruijn64tab"], apart := false, laid := [("math/bits.deBruijn32tab", laid_math_bits_deBruijn32tab), ("math/bits.deBruijn64tab", laid_math_bits_deBruijn64tab), ("internal/strconv.uint64pow10", laid_internal_strconv_uint64pow10), ("strconv.ErrRange", laid_strconv_ErrRange), ("strconv.ErrSyntax", laid_strconv_ErrSyntax)], narrowed := true }
def MacroStartsUptoSaid : Prop := macroStartsUptoRow.holds Tryz.pinned (OpenSpec.upto macroStartsSpec)

/-- 'spinetlaw13.MacroPlays', WHERE WHAT IT READS IS OF BULK AT MOST 1048576: true; the input reads as it did. -/
def macroPlaysUptoRow : OpenClaim := { program := "ytcjlpkegkehghaagreatdoor", sum := "6735ffb61d1ba8853d839587946e03cd88165d7c7813c72bc777099a3bed0e34", func := "spinet/spinetlaw13.MacroPlays", spec := "macroPlays", unfollowed := true, recurses := true, named := ["strconv.ErrSyntax", "strconv.ErrRange", "internal/strconv.uint64pow10", "math/bits.deBruijn32tab", "math/bits.deBruijn64tab"], apart := false, laid := [("math/bits.deBruijn32tab", laid_math_bits_deBruijn32tab), ("math/bits.deBruijn64tab", laid_math_bits_deBruijn64tab), ("internal/strconv.uint64pow10", laid_internal_strconv_uint64pow10), ("strconv.ErrRange", laid_strconv_ErrRange), ("strconv.ErrSyntax", laid_strconv_ErrSyntax)], narrowed := true }
def MacroPlaysUptoSaid : Prop := macroPlaysUptoRow.holds Tryz.pinned (OpenSpec.upto macroPlaysSpec)

/-- 'spinetlaw13.MacroIdle', WHERE WHAT IT READS IS OF BULK AT MOST 1048576: true; the input reads as it did. -/
def macroIdleUptoRow : OpenClaim := { program := "ytcjlpkegkehghaagreatdoor", sum := "6735ffb61d1ba8853d839587946e03cd88165d7c7813c72bc777099a3bed0e34", func := "spinet/spinetlaw13.MacroIdle", spec := "macroIdle", unfollowed := true, recurses := true, named := ["strconv.ErrSyntax", "strconv.ErrRange", "internal/strconv.uint64pow10", "math/bits.deBruijn32tab", "math/bits.deBruijn64tab"], apart := false, laid := [("math/bits.deBruijn32tab", laid_math_bits_deBruijn32tab), ("math/bits.deBruijn64tab", laid_math_bits_deBruijn64tab), ("internal/strconv.uint64pow10", laid_internal_strconv_uint64pow10), ("strconv.ErrRange", laid_strconv_ErrRange), ("strconv.ErrSyntax", laid_strconv_ErrSyntax)], narrowed := true }
def MacroIdleUptoSaid : Prop := macroIdleUptoRow.holds Tryz.pinned (OpenSpec.upto macroIdleSpec)

/-- 'spinetlaw15.EngineStarts', WHERE WHAT IT READS IS OF BULK AT MOST 1048576: true; the input reads as it did. -/
def engineStartsUptoRow : OpenClaim := { program := "ytcjlpkegkehghaagreatdoor", sum := "6735ffb61d1ba8853d839587946e03cd88165d7c7813c72bc777099a3bed0e34", func := "spinet/spinetlaw15.EngineStarts", spec := "engineStarts", unfollowed := true, recurses := true, named := ["strconv.ErrSyntax", "strconv.ErrRange", "internal/strconv.uint64pow10", "math/bits.deBruijn32tab", "math/bits.deBruijn64tab"], apart := false, laid := [("math/bits.deBruijn32tab", laid_math_bits_deBruijn32tab), ("math/bits.deBruijn64tab", laid_math_bits_deBruijn64tab), ("internal/strconv.uint64pow10", laid_internal_strconv_uint64pow10), ("strconv.ErrRange", laid_strconv_ErrRange), ("strconv.ErrSyntax", laid_strconv_ErrSyntax)], narrowed := true }
def EngineStartsUptoSaid : Prop := engineStartsUptoRow.holds Tryz.pinned (OpenSpec.upto engineStartsSpec)

/-- 'spinetlaw15.EngineMacro', WHERE WHAT IT READS IS OF BULK AT MOST 1048576: true; the input reads as it did. -/
def engineMacroUptoRow : OpenClaim := { program := "ytcjlpkegkehghaagreatdoor", sum := "6735ffb61d1ba8853d839587946e03cd88165d7c7813c72bc777099a3bed0e34", func := "spinet/spinetlaw15.EngineMacro", spec := "engineMacro", unfollowed := true, recurses := true, named := ["strconv.ErrSyntax", "strconv.ErrRange", "internal/strconv.uint64pow10", "math/bits.deBruijn32tab", "math/bits.deBruijn64tab"], apart := false, laid := [("math/bits.deBruijn32tab", laid_math_bits_deBruijn32tab), ("math/bits.deBruijn64tab", laid_math_bits_deBruijn64tab), ("internal/strconv.uint64pow10", laid_internal_strconv_uint64pow10), ("strconv.ErrRange", laid_strconv_ErrRange), ("strconv.ErrSyntax", laid_strconv_ErrSyntax)], narrowed := true }
def EngineMacroUptoSaid : Prop := engineMacroUptoRow.holds Tryz.pinned (OpenSpec.upto engineMacroSpec)

/-- 'spinetlaw06.CodecBack', WHERE WHAT IT READS IS OF BULK AT MOST 1048576: true; the input reads as it did. -/
def codecBackUptoRow : OpenClaim := { program := "ytcjlpkegkehghaagreatdoor", sum := "6735ffb61d1ba8853d839587946e03cd88165d7c7813c72bc777099a3bed0e34", func := "spinet/spinetlaw06.CodecBack", spec := "codecBack", inPlace := ["internal/reflectlite.ValueOf", "(internal/reflectlite.Value).Type", "(internal/reflectlite.Value).IsNil", "internal/reflectlite.TypeOf", "(internal/reflectlite.Value).Elem", "(internal/reflectlite.Value).Set"], unfollowed := true, recurses := true, named := ["strconv.ErrSyntax", "strconv.ErrRange", "internal/strconv.uint64pow10", "math/bits.deBruijn32tab", "math/bits.deBruijn64tab", "errors.errorType"], apart := false, laid := [("math/bits.deBruijn32tab", laid_math_bits_deBruijn32tab), ("math/bits.deBruijn64tab", laid_math_bits_deBruijn64tab), ("internal/strconv.uint64pow10", laid_internal_strconv_uint64pow10), ("errors.errorType", laid_errors_errorType), ("strconv.ErrRange", laid_strconv_ErrRange), ("strconv.ErrSyntax", laid_strconv_ErrSyntax)], narrowed := true }
def CodecBackUptoSaid : Prop := codecBackUptoRow.holds Tryz.pinned (OpenSpec.upto codecBackSpec)

end Rows
end Go.Proofs.YtcjlpkegkehghaaGreatDoor
