/- Texts of this claim, merged (PAllRef4). -/
import Derived.Test.YtcjlpkegkehghaaGreatDoorZChooseKept2
set_option linter.unusedVariables false
set_option linter.unusedSimpArgs false
section
namespace Go.Proofs.YtcjlpkegkehghaaGreatDoor.PAll
open Go.RowKit Go.Proofs.YtcjlpkegkehghaaGreatDoorW.PrintWords Go.Proofs.YtcjlpkegkehghaaGreatDoorW.PrintLast Go.Proofs.YtcjlpkegkehghaaGreatDoorW.PrintMore
attribute [local go_sem] max2_int min2_int max_two min_two max_three min_three max_four min_four   -- for this text's walks alone
def spinetref04_whole.f (a0 : Int) : Option (Int × Int × Int) := some (1, a0, 0)
def spinetref04_truth.f (a0 : Bool) : Option (Int × Int × Int) := if a0 = true then (some (2, 1, 0)) else (some (2, 0, 0))
def spinetref01_Sub.f (a0 : Int) (a1 : Int) : Option (Int) := some (wrap64 (IntKind.u64.wrap ((IntKind.u64.wrap (a0)) - (IntKind.u64.wrap (a1)))))
def spinetref01_Add.f (a0 : Int) (a1 : Int) : Option (Int) := some (wrap64 (IntKind.u64.wrap ((IntKind.u64.wrap (a0)) + (IntKind.u64.wrap (a1)))))
def spinetref01_Mul.f (a0 : Int) (a1 : Int) : Option (Int) := some (wrap64 (IntKind.u64.wrap ((IntKind.u64.wrap (a0)) * (IntKind.u64.wrap (a1)))))
def spinetref01_size.f (a0 : Int) : Option (Int) := if a0 < 0 then (some (IntKind.u64.wrap (-(IntKind.u64.wrap (a0))))) else (some (IntKind.u64.wrap (a0)))
def spinetref01_Div.f (a0 : Int) (a1 : Int) : Option (Int) := (spinetref01_size.f a0).bind fun t351 => ((spinetref01_size.f a1).bind fun t352 => (if t352 = 0 then (none) else (if ((decide (a0 < 0)) != (decide (a1 < 0))) = true then (some (wrap64 (IntKind.u64.wrap (-(IntKind.u64.wrap (Int.tdiv t351 t352)))))) else (some (wrap64 (IntKind.u64.wrap (Int.tdiv t351 t352)))))))
def spinetref01_Mod.f (a0 : Int) (a1 : Int) : Option (Int) := (spinetref01_Div.f a0 a1).bind fun t353 => ((spinetref01_Mul.f a1 t353).bind fun t354 => ((spinetref01_Sub.f a0 t354).bind fun t355 => (some t355)))
end Go.Proofs.YtcjlpkegkehghaaGreatDoor.PAll
end
