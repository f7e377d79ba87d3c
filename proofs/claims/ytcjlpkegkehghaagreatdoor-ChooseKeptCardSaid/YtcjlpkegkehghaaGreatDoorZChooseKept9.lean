/- Texts of this claim, merged (PAllInts). -/
import Derived.Test.YtcjlpkegkehghaaGreatDoorZChooseKept2
set_option linter.unusedVariables false
set_option linter.unusedSimpArgs false
section
namespace Go.Proofs.YtcjlpkegkehghaaGreatDoor.PAll
open Go.RowKit Go.Proofs.YtcjlpkegkehghaaGreatDoorW.PrintWords Go.Proofs.YtcjlpkegkehghaaGreatDoorW.PrintLast Go.Proofs.YtcjlpkegkehghaaGreatDoorW.PrintMore
attribute [local go_sem] max2_int min2_int max_two min_two max_three min_three max_four min_four   -- for this text's walks alone
def spinetref05_Ints.l0 : Nat → List Int → List Int → Int → Option (Bool)
 | 0, _, _, _ => none
 | k + 1, x0, x1, x5 => if x5 < (x0.length : Int) then (if 0 ≤ x5 then (if x5 < (x1.length : Int) then (if (rd x0 x5) = (rd x1 x5) then (spinetref05_Ints.l0 k x0 x1 (wrap64 (x5 + 1))) else (some false)) else (none)) else (none)) else (some true)
def spinetref05_Ints.f (k : Nat) (l0 : List Int) (l1 : List Int) : Option (Bool) := if (l0.length : Int) = (l1.length : Int) then (spinetref05_Ints.l0 k l0 l1 0) else (some false)
end Go.Proofs.YtcjlpkegkehghaaGreatDoor.PAll
end
