/- The law LexTexts. -/
import Derived.Test.YtldcplgfkcionaaDoorLexUp
import Derived.Test.YtldcplgfkcionaaDoorRefText
import Derived.Test.YtldcplgfkcionaaDoorTokArg
set_option linter.unusedVariables false
set_option linter.unusedSimpArgs false
namespace Go.Proofs.YtldcplgfkcionaaDoor
open Go.RowKit PX Go.Proofs.YtldcplgfkcionaaDoorW.PrintWords
theorem textOf_er (l : List T) : (textOf l).2 = .none ∨ textOf l = ([], .code 1) := by
  unfold textOf
  split
  · exact .inl rfl
  · exact .inr rfl
set_option maxHeartbeats 8000000 in
set_option maxRecDepth 100000 in
theorem LexTexts_walk (w : World) (hw : LaidE w) (v0 : Value) (x0 : List (Int × Int × Int × Unit)) (h0 : RTok.slice.ok (fun b => b < w.heap.size) w [v0] x0) :
    Calls Tryd.prog 4 #[v0] w fun e w' => e = .returned (.bool true) ∧ Below w.heap.size w w' := by
  obtain ⟨A, cap, l, rfl, hc, hC, hwd⟩ := tokArg h0
  clear h0
  have HC := Lib.hid hC
  have HW := Lib.hid hwd.wide
  clear hC hwd
  by_cases h5 : 500 < l.length
  · go_enter Tryd.func4, Tryd.ntmps4
    go_wp2_with fail
    refine (up02 _ hw).mono ?_
    rintro e w1 ⟨rfl, hb1⟩
    go_wp2_with fail
    go_ret
    exact ⟨rfl, hb1⟩
  obtain ⟨k, hk⟩ := refText_f l (by omega) HW.out
  rcases textOf_er l with hx | hx
  · have HX := Lib.hid hx
    rw [hx] at hk
    have HK := Lib.hid hk
    clear hx hk
    go_enter Tryd.func4, Tryd.ntmps4
    go_wp2_with fail
    refine (up02 _ hw).mono ?_
    rintro e w1 ⟨rfl, hb1⟩
    go_wp2_with fail
    refine (text_any A cap l _ (by omega) hc (Kd.C_below HC.out hb1) HW.out (hw.below hb1).toLaid).mono ?_
    rw [HX.out]
    rintro e w2 ⟨ev2, rfl, rfl, hb2⟩
    have hb12 := below_then hb1 hb1.size hb2
    go_wp2_with fail
    refine (PAll.spinetref02_Text.calls k A cap l _ _ _ (Kd.C_below HC.out hb12) hc HK.out).mono ?_
    rintro e w3 ⟨rfl, hb3⟩
    have hb13 := below_then hb12 hb12.size hb3
    go_wp2_with fail
    go_ret
    exact ⟨by simp [bytesArr], hb13⟩
  · have HX := Lib.hid hx
    rw [hx] at hk
    have HK := Lib.hid (show PAll.spinetref02_Text.f k l = some (⟨#[]⟩, false) from hk)
    clear hx hk
    have k6 := eqErr
    go_enter Tryd.func4, Tryd.ntmps4
    go_wp2_with fail
    refine (up02 _ hw).mono ?_
    rintro e w1 ⟨rfl, hb1⟩
    go_wp2_with fail
    refine (text_any A cap l _ (by omega) hc (Kd.C_below HC.out hb1) HW.out (hw.below hb1).toLaid).mono ?_
    rw [HX.out]
    rintro e w2 ⟨ev2, rfl, rfl, hb2⟩
    have hb12 := below_then hb1 hb1.size hb2
    go_wp2_with fail
    refine (PAll.spinetref02_Text.calls k A cap l _ _ _ (Kd.C_below HC.out hb12) hc HK.out).mono ?_
    rintro e w3 ⟨rfl, hb3⟩
    have hb13 := below_then hb12 hb12.size hb3
    go_wp2_with fail
    go_ret
    exact ⟨rfl, hb13⟩
end Go.Proofs.YtldcplgfkcionaaDoor
