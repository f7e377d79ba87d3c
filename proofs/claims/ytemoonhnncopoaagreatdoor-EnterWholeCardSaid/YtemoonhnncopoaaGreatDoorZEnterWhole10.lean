/- Texts of this claim, merged (PAllTwo). -/
import Derived.Test.YtemoonhnncopoaaGreatDoorZEnterWhole2
import Derived.Test.YtemoonhnncopoaaGreatDoorZEnterWhole8
set_option linter.unusedVariables false
set_option linter.unusedSimpArgs false
section
namespace Go.Proofs.YtemoonhnncopoaaGreatDoor.PAll
open Go.RowKit Go.Proofs.YtemoonhnncopoaaGreatDoorW.PrintWords Go.Proofs.YtemoonhnncopoaaGreatDoorW.PrintLast Go.Proofs.YtemoonhnncopoaaGreatDoorW.PrintMore
attribute [local go_sem] max2_int min2_int max_two min_two max_three min_three max_four min_four   -- for this text's walks alone
mutual
def spinetref04_two.j0 : Nat → Int → Bool → Int → Int → Int → Int → Option (Int × Int × Int)
 | 0, _, _, _, _, _, _ => none
 | k + 1, x0, x18, x227000, x227001, x228000, x228001 => if x18 = true then ((spinetref04_truth.f ((x227001 == x228001) == (x0 == 10))).bind fun bt229 => (some (bt229.1, bt229.2.1, bt229.2.2))) else (if x227000 = 2 then (if x0 = 12 then (if x227001 = 1 then ((spinetref04_truth.f (x228001 == 1)).bind fun bt232 => (some (bt232.1, bt232.2.1, bt232.2.2))) else ((spinetref04_truth.f false).bind fun bt235 => (some (bt235.1, bt235.2.1, bt235.2.2)))) else (if x0 = 13 then (if x227001 = 1 then ((spinetref04_truth.f true).bind fun bt238 => (some (bt238.1, bt238.2.1, bt238.2.2))) else ((spinetref04_truth.f (x228001 == 1)).bind fun bt241 => (some (bt241.1, bt241.2.1, bt241.2.2)))) else (some (0, 0, 8)))) else (if x0 = 6 then (spinetref04_two.j1 k x0 (x228001 == 0) x227000 x227001 x228000 x228001) else (if x0 = 7 then (spinetref04_two.j1 k x0 (x228001 == 0) x227000 x227001 x228000 x228001) else (spinetref04_two.j1 k x0 false x227000 x227001 x228000 x228001))))
def spinetref04_two.j1 : Nat → Int → Bool → Int → Int → Int → Int → Option (Int × Int × Int)
 | 0, _, _, _, _, _, _ => none
 | k + 1, x0, x64, x227000, x227001, x228000, x228001 => if x64 = true then (some (0, 0, 9)) else (if x0 = 3 then ((spinetref01_Add.f x227001 x228001).bind fun t244 => ((spinetref04_whole.f t244).bind fun bt245 => (some (bt245.1, bt245.2.1, bt245.2.2)))) else (if x0 = 4 then ((spinetref01_Sub.f x227001 x228001).bind fun t248 => ((spinetref04_whole.f t248).bind fun bt249 => (some (bt249.1, bt249.2.1, bt249.2.2)))) else (if x0 = 5 then ((spinetref01_Mul.f x227001 x228001).bind fun t252 => ((spinetref04_whole.f t252).bind fun bt253 => (some (bt253.1, bt253.2.1, bt253.2.2)))) else (if x0 = 6 then ((spinetref01_Div.f x227001 x228001).bind fun t256 => ((spinetref04_whole.f t256).bind fun bt257 => (some (bt257.1, bt257.2.1, bt257.2.2)))) else (if x0 = 7 then ((spinetref01_Mod.f x227001 x228001).bind fun t260 => ((spinetref04_whole.f t260).bind fun bt261 => (some (bt261.1, bt261.2.1, bt261.2.2)))) else (if x0 = 8 then ((spinetref04_truth.f (decide (x227001 < x228001))).bind fun bt264 => (some (bt264.1, bt264.2.1, bt264.2.2))) else (if x0 = 9 then ((spinetref04_truth.f (decide (x227001 ≤ x228001))).bind fun bt267 => (some (bt267.1, bt267.2.1, bt267.2.2))) else (some (0, 0, 8)))))))))
end
def spinetref04_two.f (k : Nat) (a0 : Int) (a1_0 : Int) (a1_1 : Int) (a2_0 : Int) (a2_1 : Int) : Option (Int × Int × Int) := if a1_0 = a2_0 then (if a0 = 10 then (spinetref04_two.j0 k a0 true a1_0 a1_1 a2_0 a2_1) else (spinetref04_two.j0 k a0 (a0 == 11) a1_0 a1_1 a2_0 a2_1)) else (some (0, 0, 8))
end Go.Proofs.YtemoonhnncopoaaGreatDoor.PAll
end
