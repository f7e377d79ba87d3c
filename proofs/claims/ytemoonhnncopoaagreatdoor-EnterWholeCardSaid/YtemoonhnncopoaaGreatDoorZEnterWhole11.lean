/- Texts of this claim, merged (PAllEnd). -/
import Derived.Test.YtemoonhnncopoaaGreatDoorZEnterWhole2
import Derived.Test.YtemoonhnncopoaaGreatDoorZEnterWhole10
set_option linter.unusedVariables false
set_option linter.unusedSimpArgs false
section
namespace Go.Proofs.YtemoonhnncopoaaGreatDoor.PAll
open Go.RowKit Go.Proofs.YtemoonhnncopoaaGreatDoorW.PrintWords Go.Proofs.YtemoonhnncopoaaGreatDoorW.PrintLast Go.Proofs.YtemoonhnncopoaaGreatDoorW.PrintMore
attribute [local go_sem] max2_int min2_int max_two min_two max_three min_three max_four min_four   -- for this text's walks alone
mutual
def spinetref04_End.j0 : Nat → Int → List Int → Bool → Bool → Int → Int → Int → Option (Int × Int × Int × Int)
 | 0, _, _, _, _, _, _, _ => none
 | k + 1, x1, x2, x4, x40, x273000, x273001, x273002 => if x40 = true then ((spinetref04_whole.f 0).bind fun bt276 => (some (bt276.1, bt276.2.1, bt276.2.2, x1))) else (if x4 = true then (some (0, 0, 4, x1)) else (if x273001 < (x2.length : Int) then (if 0 ≤ x273001 then ((spinetref04_whole.f (rd x2 x273001)).bind fun bt280 => (some (bt280.1, bt280.2.1, bt280.2.2, x1))) else (none)) else (some (0, 0, 4, x1))))
def spinetref04_End.j1 : Nat → List (S91) → Int → List Int → Int → Bool → Int → Bool → Int → Int → Int → Option (Int × Int × Int × Int)
 | 0, _, _, _, _, _, _, _, _, _, _ => none
 | k + 1, x0, x1, x2, x3, x4, x25, x61, x273000, x273001, x273002 => if x61 = true then ((spinetref04_truth.f (x273000 == 15)).bind fun bt283 => (some (bt283.1, bt283.2.1, bt283.2.2, x1))) else (if x25 = 14 then (spinetref04_End.j2 k x0 x1 x2 x3 x4 (x25 == 14) x273000 x273001 x273002) else (spinetref04_End.j2 k x0 x1 x2 x3 x4 (x25 == 19) x273000 x273001 x273002))
def spinetref04_End.j2 : Nat → List (S91) → Int → List Int → Int → Bool → Bool → Int → Int → Int → Option (Int × Int × Int × Int)
 | 0, _, _, _, _, _, _, _, _, _ => none
 | k + 1, x0, x1, x2, x3, x4, x69, x273000, x273001, x273002 => if x69 = true then ((spinetref04_End.f k x0 (wrap64 (x1 - 1)) x2 x3 x4).bind fun bt286 => (if bt286.2.2.1 = 0 then (if x273000 = 14 then (spinetref04_End.j3 k bt286.2.2.2 (bt286.1 == 2) x273000 x273001 x273002 bt286.1 bt286.2.1 bt286.2.2.1) else (spinetref04_End.j3 k bt286.2.2.2 false x273000 x273001 x273002 bt286.1 bt286.2.1 bt286.2.2.1)) else (some (bt286.1, bt286.2.1, bt286.2.2.1, bt286.2.2.2)))) else ((spinetref04_End.f k x0 (wrap64 (x1 - 1)) x2 x3 x4).bind fun bt298 => ((spinetref04_End.f k x0 (wrap64 (bt298.2.2.2 - 1)) x2 x3 x4).bind fun bt303 => (if bt303.2.2.1 = 0 then (if bt298.2.2.1 = 0 then ((spinetref04_two.f k x273000 bt303.1 bt303.2.1 bt298.1 bt298.2.1).bind fun bt308 => (if bt308.2.2 = 9 then (if x4 = true then ((spinetref04_whole.f 0).bind fun bt312 => (some (bt312.1, bt312.2.1, bt312.2.2, bt303.2.2.2))) else (some (bt308.1, bt308.2.1, bt308.2.2, bt303.2.2.2))) else (some (bt308.1, bt308.2.1, bt308.2.2, bt303.2.2.2)))) else (some (bt298.1, bt298.2.1, bt298.2.2.1, bt303.2.2.2))) else (some (bt303.1, bt303.2.1, bt303.2.2.1, bt303.2.2.2)))))
def spinetref04_End.j3 : Nat → Int → Bool → Int → Int → Int → Int → Int → Int → Option (Int × Int × Int × Int)
 | 0, _, _, _, _, _, _, _, _ => none
 | k + 1, x14, x95, x273000, x273001, x273002, x291000, x291001, x291002 => if x95 = true then ((spinetref04_truth.f (x291001 == 0)).bind fun bt291 => (some (bt291.1, bt291.2.1, bt291.2.2, x14))) else (if x273000 = 19 then (spinetref04_End.j4 k x14 (x291000 == 1) x291000 x291001 x291002) else (spinetref04_End.j4 k x14 false x291000 x291001 x291002))
def spinetref04_End.j4 : Nat → Int → Bool → Int → Int → Int → Option (Int × Int × Int × Int)
 | 0, _, _, _, _, _ => none
 | k + 1, x14, x110, x291000, x291001, x291002 => if x110 = true then ((spinetref01_Sub.f 0 x291001).bind fun t294 => ((spinetref04_whole.f t294).bind fun bt295 => (some (bt295.1, bt295.2.1, bt295.2.2, x14)))) else (some (0, 0, 8, x14))
def spinetref04_End.f : Nat → List (S91) → Int → List Int → Int → Bool → Option (Int × Int × Int × Int)
 | 0, _, _, _, _, _ => none
 | k + 1, l0, a1, l2, a3, a4 => if 0 ≤ a1 then (if a1 < (l0.length : Int) then (if ((rd_T91 l0 a1).f0) = 1 then ((spinetref04_whole.f ((rd_T91 l0 a1).f1)).bind fun bt273 => (some (bt273.1, bt273.2.1, bt273.2.2, a1))) else (if ((rd_T91 l0 a1).f0) = 2 then (if a4 = true then (spinetref04_End.j0 k a1 l2 a4 (decide (((rd_T91 l0 a1).f1) < a3)) ((rd_T91 l0 a1).f0) ((rd_T91 l0 a1).f1) ((rd_T91 l0 a1).f2)) else (spinetref04_End.j0 k a1 l2 a4 false ((rd_T91 l0 a1).f0) ((rd_T91 l0 a1).f1) ((rd_T91 l0 a1).f2))) else (if ((rd_T91 l0 a1).f0) = 15 then (spinetref04_End.j1 k l0 a1 l2 a3 a4 ((rd_T91 l0 a1).f0) (((rd_T91 l0 a1).f0) == 15) ((rd_T91 l0 a1).f0) ((rd_T91 l0 a1).f1) ((rd_T91 l0 a1).f2)) else (spinetref04_End.j1 k l0 a1 l2 a3 a4 ((rd_T91 l0 a1).f0) (((rd_T91 l0 a1).f0) == 16) ((rd_T91 l0 a1).f0) ((rd_T91 l0 a1).f1) ((rd_T91 l0 a1).f2))))) else (none)) else (none)
end
end Go.Proofs.YtemoonhnncopoaaGreatDoor.PAll
end
