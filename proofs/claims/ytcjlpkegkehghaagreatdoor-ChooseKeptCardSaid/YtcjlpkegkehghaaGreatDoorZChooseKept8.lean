/- Texts of this claim, merged (PAllR7). -/
import Derived.Test.YtcjlpkegkehghaaGreatDoorZChooseKept2
set_option linter.unusedVariables false
set_option linter.unusedSimpArgs false
section
namespace Go.Proofs.YtcjlpkegkehghaaGreatDoor.PAll
open Go.RowKit Go.Proofs.YtcjlpkegkehghaaGreatDoorW.PrintWords Go.Proofs.YtcjlpkegkehghaaGreatDoorW.PrintLast Go.Proofs.YtcjlpkegkehghaaGreatDoorW.PrintMore
attribute [local go_sem] max2_int min2_int max_two min_two max_three min_three max_four min_four   -- for this text's walks alone
def spinetref07_Past.f (a0_0 : Int) (l0_1 : List (S93)) (l0_2 : List (S46)) (a1 : Int) : Option (Bool) := if 0 ≤ a1 then (if a1 < (l0_1.length : Int) then (if ((rd_T93 l0_1 a1).f0) = 5 then (some true) else (some (((rd_T93 l0_1 a1).f0) == 6))) else (none)) else (none)
def spinetref07_Has.l0 : Nat → Int → Int → Int → Option (Bool)
 | 0, _, _, _ => none
 | k + 1, x0, x1, x5 => if x5 < x1 then (spinetref07_Has.l0 k ((Int.tdiv x0 2) % 4294967296) x1 (wrap64 (x5 + 1))) else (if x1 ≥ 0 then (some ((Int.tmod x0 2) == 1)) else (some false))
def spinetref07_Has.f (k : Nat) (a0 : Int) (a1 : Int) : Option (Bool) := spinetref07_Has.l0 k a0 a1 0
attribute [local go_sem high] eqA174
def spinetref05_SameActs.l0 : Nat → List (S174) → List (S174) → Int → Option (Bool)
 | 0, _, _, _ => none
 | k + 1, x0, x1, x5 => if x5 < (x0.length : Int) then (if 0 ≤ x5 then (if x5 < (x1.length : Int) then (if (!(((rd_T174 x0 x5).f0) == ((rd_T174 x1 x5).f0)) || (!(((rd_T174 x0 x5).f1) == ((rd_T174 x1 x5).f1)) || (!(((rd_T174 x0 x5).f2) == ((rd_T174 x1 x5).f2)) || (!((((rd_T174 x0 x5).f3).toList) == (((rd_T174 x1 x5).f3).toList)))))) = true then (some false) else (spinetref05_SameActs.l0 k x0 x1 (wrap64 (x5 + 1)))) else (none)) else (none)) else (some true)
def spinetref05_SameActs.f (k : Nat) (l0 : List (S174)) (l1 : List (S174)) : Option (Bool) := if (l0.length : Int) = (l1.length : Int) then (spinetref05_SameActs.l0 k l0 l1 0) else (some false)
end Go.Proofs.YtcjlpkegkehghaaGreatDoor.PAll
end
