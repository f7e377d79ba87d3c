/- The head of the parser's statements. -/
import Derived.Test.YtldcplgfkcionaaDoorRun
import Derived.Test.YtldcplgfkcionaaDoorRtext
import Derived.Test.YtldcplgfkcionaaDoorLexUp
import Derived.Test.YtldcplgfkcionaaDoorTold
set_option linter.unusedVariables false
set_option linter.unusedSimpArgs false
namespace Go.Proofs.YtldcplgfkcionaaDoor
open Go.RowKit PX Go.Proofs.YtldcplgfkcionaaDoorW.PrintWords
abbrev p3 : List T := [⟨2, 0, 0⟩, ⟨1, 1, 0⟩, ⟨3, 0, 0⟩, ⟨1, 2, 0⟩, ⟨8, 0, 0⟩]
theorem parsed_p3 : Parsed [97, 43, 49, 60, 50] (p3, .none) :=
  parsed_run 9 30 _ [⟨2, 0, 0⟩, ⟨3, 0, 1⟩, ⟨1, 1, 2⟩, ⟨8, 0, 3⟩, ⟨1, 2, 4⟩] ⟨5, p3, false⟩ (by decide) (by rfl) (by rfl)
theorem parsed_nil : Parsed [] ([], .spot 0 2) := parsed_run 2 30 [] [] ⟨0, [], true⟩ (by decide) (by rfl) (by rfl)
theorem text_p3 : ptextOf p3 = ([40, 40, 97, 43, 49, 41, 60, 50, 41], .none) := by
  have i1 : Lib.itoa 1 = [49] := by simp [Lib.itoa, Lib.decDigits]
  have i2 : Lib.itoa 2 = [50] := by simp [Lib.itoa, Lib.decDigits]
  have l1 : leafT ⟨1, 1, 0⟩ = [49] := by unfold leafT; rw [if_pos rfl]; exact i1
  have l2 : leafT ⟨1, 2, 0⟩ = [50] := by unfold leafT; rw [if_pos rfl]; exact i2
  have hv : valueT p3 = .ok [40, 40, 97, 43, 49, 41, 60, 50, 41] := by
    have ht : p3 = (Tr.two ⟨8, 0, 0⟩ (.two ⟨3, 0, 0⟩ (.leaf ⟨2, 0, 0⟩) (.leaf ⟨1, 1, 0⟩)) (.leaf ⟨1, 2, 0⟩)).flat := rfl
    have hwf : (Tr.two ⟨8, 0, 0⟩ (.two ⟨3, 0, 0⟩ (.leaf ⟨2, 0, 0⟩) (.leaf ⟨1, 1, 0⟩)) (.leaf ⟨1, 2, 0⟩)).wf := ⟨rfl, ⟨rfl, rfl, rfl⟩, rfl⟩
    rw [ht]
    unfold valueT
    rw [value_tree _ _ _ _ hwf]
    simp only [val, l1, l2]
    rfl
  unfold ptextOf
  rw [if_pos (by decide), hv]
  rfl
set_option maxHeartbeats 4000000 in
set_option maxRecDepth 100000 in
theorem up03 (w : World) (hw : LaidE w) : Calls Tryd.prog 20 #[] w fun e w' => e = .returned (.bool true) ∧ Below w.heap.size w w' := by
  have kb : (bytesArr [40, 40, 97, 43, 49, 41, 60, 50, 41]).toList = [40, 40, 97, 43, 49, 41, 60, 50, 41] := by rw [ByteArray.toList_eq]; rfl
  go_enter Tryd.func20, Tryd.ntmps20
  go_wp2_with fail
  refine (parse_any _ (by decide) _ hw.toLaid _ parsed_p3).mono ?_
  rintro e w1 ⟨v1, ev1, rfl, h1, rfl, hb1⟩
  obtain ⟨A1, c1, rfl, hc1, hC1⟩ := Kd.R_reads h1
  obtain ⟨ad1, hA1, _⟩ := PAll.at_T40 hC1 0 (by omega) (by decide)
  subst hA1
  have HC1 := Lib.hid hC1
  clear h1 hC1
  go_wp2_with fail
  refine (ptext_any (some ad1) c1 p3 _ hc1 HC1.out (by intro t ht; simp at ht; rcases ht with rfl | rfl | rfl | rfl | rfl <;> simp) (hw.below hb1).toLaid).mono ?_
  rw [text_p3]
  rintro e w2 ⟨ev2, rfl, rfl, hb2⟩
  have hb12 := below_then hb1 hb1.size hb2
  go_wp2_with fail
  refine (parse_any _ (by decide) _ (hw.below hb12).toLaid _ parsed_nil).mono ?_
  rintro e w3 ⟨v3, ev3, rfl, h3, ⟨g3, rfl, hg3, hs3⟩, hb3⟩
  have hb13 := below_then hb12 hb12.size hb3
  obtain ⟨ad', hA', x0, _, _⟩ := PAll.at_T40 (Kd.C_below HC1.out (hb2.trans (hb3.mono hb2.size))) 4 (by omega) (by decide)
  injection hA' with hA'
  subst hA'
  have y0 : w3.cell? ⟨ad1.block, ad1.off + 12, none⟩ = some (.int .i64 8) := x0
  have HS3 := Lib.hid hs3
  have HL3 := Lib.hid (hw.below hb13).typ
  clear x0 h3 hs3
  go_wp2_with fail
  refine (lawIs_hit g3 0 2 _ HS3.out HL3.out).mono ?_
  rintro e w4 ⟨rfl, hb4⟩
  go_wp2_with fail
  go_ret
  exact ⟨rfl, below_then hb13 hb13.size hb4⟩
end Go.Proofs.YtldcplgfkcionaaDoor
