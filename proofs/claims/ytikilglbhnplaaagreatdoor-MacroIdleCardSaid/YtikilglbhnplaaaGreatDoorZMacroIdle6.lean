/- Texts of this claim, merged (PAllR5). -/
import Derived.Test.YtikilglbhnplaaaGreatDoorZMacroIdle2
set_option linter.unusedVariables false
set_option linter.unusedSimpArgs false
section
namespace Go.Proofs.YtikilglbhnplaaaGreatDoor.PAll
open Go.RowKit Go.Proofs.YtikilglbhnplaaaGreatDoorW.PrintWords Go.Proofs.YtikilglbhnplaaaGreatDoorW.PrintLast Go.Proofs.YtikilglbhnplaaaGreatDoorW.PrintMore
attribute [local go_sem] max2_int min2_int max_two min_two max_three min_three max_four min_four   -- for this text's walks alone
def spinetref05_Kids.l0 : Nat → Int → List Int → Int → Int → List (S66) → List (S63) → Option (List Int)
 | 0, _, _, _, _, _, _ => none
 | k + 1, x1, x5, x6, x338000, x338001, x338002 => if x6 < (x338001.length : Int) then (if 0 ≤ x6 then (if ((rd_T66 x338001 x6).f1) = x1 then (if ((rd_T66 x338001 x6).f0) = 5 then (spinetref05_Kids.l0 k x1 x5 (wrap64 (x6 + 1)) x338000 x338001 x338002) else (if ((rd_T66 x338001 x6).f0) = 6 then (spinetref05_Kids.l0 k x1 x5 (wrap64 (x6 + 1)) x338000 x338001 x338002) else (if x5.length < 17592186044416 then (spinetref05_Kids.l0 k x1 (x5 ++ [x6]) (wrap64 (x6 + 1)) x338000 x338001 x338002) else (none)))) else (spinetref05_Kids.l0 k x1 x5 (wrap64 (x6 + 1)) x338000 x338001 x338002)) else (none)) else (some x5)
def spinetref05_Kids.f (k : Nat) (a0_0 : Int) (l0_1 : List (S66)) (l0_2 : List (S63)) (a1 : Int) : Option (List Int) := spinetref05_Kids.l0 k a1 ([] : List Int) 0 a0_0 l0_1 l0_2
mutual
def spinetref05_In.j0 : Nat → Int → Int → Bool → Int → List (S66) → List (S63) → Option (Bool)
 | 0, _, _, _, _, _, _ => none
 | k + 1, x1, x2, x20, x307000, x307001, x307002 => if x20 = true then (some false) else (if 0 ≤ x1 then (if x1 < (x307001.length : Int) then (if ((rd_T66 x307001 x1).f1) < 0 then (some false) else (if ((rd_T66 x307001 x1).f1) ≥ x1 then (some false) else (if ((rd_T66 x307001 x1).f1) = x2 then (some true) else ((spinetref05_In.f k x307000 x307001 x307002 ((rd_T66 x307001 x1).f1) x2).bind fun t308 => (some t308))))) else (none)) else (none))
def spinetref05_In.f : Nat → Int → List (S66) → List (S63) → Int → Int → Option (Bool)
 | 0, _, _, _, _, _ => none
 | k + 1, a0_0, l0_1, l0_2, a1, a2 => if a1 < 1 then (spinetref05_In.j0 k a1 a2 true a0_0 l0_1 l0_2) else (if a1 ≥ (l0_1.length : Int) then (spinetref05_In.j0 k a1 a2 true a0_0 l0_1 l0_2) else (spinetref05_In.j0 k a1 a2 (decide (a2 < 0)) a0_0 l0_1 l0_2))
end
end Go.Proofs.YtikilglbhnplaaaGreatDoor.PAll
end
