/- Texts of this claim, merged (PAllR7). -/
import Derived.Test.YtikilglbhnplaaaGreatDoorZMacroIdle2
set_option linter.unusedVariables false
set_option linter.unusedSimpArgs false
section
namespace Go.Proofs.YtikilglbhnplaaaGreatDoor.PAll
open Go.RowKit Go.Proofs.YtikilglbhnplaaaGreatDoorW.PrintWords Go.Proofs.YtikilglbhnplaaaGreatDoorW.PrintLast Go.Proofs.YtikilglbhnplaaaGreatDoorW.PrintMore
attribute [local go_sem] max2_int min2_int max_two min_two max_three min_three max_four min_four   -- for this text's walks alone
def spinetref07_Past.f (a0_0 : Int) (l0_1 : List (S66)) (l0_2 : List (S63)) (a1 : Int) : Option (Bool) := if 0 ≤ a1 then (if a1 < (l0_1.length : Int) then (if ((rd_T66 l0_1 a1).f0) = 5 then (some true) else (some (((rd_T66 l0_1 a1).f0) == 6))) else (none)) else (none)
def spinetref07_Has.l0 : Nat → Int → Int → Int → Option (Bool)
 | 0, _, _, _ => none
 | k + 1, x0, x1, x5 => if x5 < x1 then (spinetref07_Has.l0 k ((Int.tdiv x0 2) % 4294967296) x1 (wrap64 (x5 + 1))) else (if x1 ≥ 0 then (some ((Int.tmod x0 2) == 1)) else (some false))
def spinetref07_Has.f (k : Nat) (a0 : Int) (a1 : Int) : Option (Bool) := spinetref07_Has.l0 k a0 a1 0
end Go.Proofs.YtikilglbhnplaaaGreatDoor.PAll
end
