/- The heads of the lexer's statements. -/
import Derived.Test.YtldcplgfkcionaaDoorLexText
import Derived.Test.YtldcplgfkcionaaDoorIs
set_option linter.unusedVariables false
set_option linter.unusedSimpArgs false
namespace Go.Proofs.YtldcplgfkcionaaDoor
open Go.RowKit PX Go.Proofs.YtldcplgfkcionaaDoorW.PrintWords
structure LaidE (w : World) : Prop extends Laid w where
  typ : w.cell? ⟨0, 0, none⟩ = some (.iface 160 (.agg #[.pointer (some ⟨7, 25, none⟩)]))
theorem LaidE.below {w w' : World} (h : LaidE w) (hb : Below w.heap.size w w') : LaidE w' :=
  ⟨h.toLaid.below hb, (hb.cell (p := ⟨0, 0, none⟩) (World.block_lt_of_cell? w _ h.typ)).trans h.typ⟩
theorem lexed_a1 : lexed [97, 43, 49] = ([⟨2, 0, 0⟩, ⟨3, 0, 1⟩, ⟨1, 1, 2⟩], .none) := by
  unfold lexed
  rw [lexAt_tok (c := 97) (by decide) (k := 2) (n := 0) (m := 1) rfl, show ([97, 43, 49] : List UInt8).drop 1 = [43, 49] from rfl,
    lexAt_tok (c := 43) (by decide) (k := 3) (n := 0) (m := 1) rfl, show ([43, 49] : List UInt8).drop 1 = [49] from rfl,
    lexAt_tok (c := 49) (by decide) (k := 1) (n := 1) (m := 1) rfl, show ([49] : List UInt8).drop 1 = [] from rfl, lexAt_nil]
  rfl
theorem lexed_ae : lexed [97, 32, 61] = ([], .spot 2 2) := by
  unfold lexed
  rw [lexAt_tok (c := 97) (by decide) (k := 2) (n := 0) (m := 1) rfl, show ([97, 32, 61] : List UInt8).drop 1 = [32, 61] from rfl, lexAt_space, lexAt_bad (by decide) rfl]
  rfl
theorem text_a1 : textOf [⟨2, 0, 0⟩, ⟨3, 0, 1⟩, ⟨1, 1, 2⟩] = ([97, 32, 43, 32, 49], .none) := by
  have h1 : oneOf ⟨1, 1, 2⟩ = [49] := by
    simp [oneOf, Lib.itoa, Lib.decDigits]
  have h2 : oneOf ⟨2, 0, 0⟩ = [97] := rfl
  have h3 : oneOf ⟨3, 0, 1⟩ = [43] := rfl
  unfold textOf
  rw [if_pos (by intro t ht; simp at ht; rcases ht with rfl | rfl | rfl; rw [h2]; simp; rw [h3]; simp; rw [h1]; simp)]
  simp only [List.map_cons, List.map_nil, h1, h2, h3]
  rfl
set_option maxHeartbeats 4000000 in
set_option maxRecDepth 100000 in
theorem up02 (w : World) (hw : LaidE w) : Calls Tryd.prog 13 #[] w fun e w' => e = .returned (.bool true) ∧ Below w.heap.size w w' := by
  go_enter Tryd.func13, Tryd.ntmps13
  go_wp2_with fail
  refine (tokens_any _ (by decide) _ hw.toLaid).mono ?_
  rw [lexed_a1]
  rintro e w1 ⟨v1, ev1, rfl, h1, rfl, hb1⟩
  obtain ⟨A1, c1, rfl, hc1, hC1⟩ := Kd.R_reads h1
  obtain ⟨ad1, hA1, _⟩ := PAll.at_T40 hC1 0 (by omega) (by decide)
  subst hA1
  have HC1 := Lib.hid hC1
  clear h1 hC1
  go_wp2_with fail
  refine (tokens_any _ (by decide) _ (hw.below hb1).toLaid).mono ?_
  rw [lexed_ae]
  rintro e w2 ⟨v2, ev2, rfl, h2, ⟨g2, rfl, hg2, hs2⟩, hb2⟩
  have HS2 := Lib.hid hs2
  have HC2 := Lib.hid (Kd.C_below HC1.out hb2)
  clear h2 hs2
  go_wp2_with fail
  refine (text_any (some ad1) c1 [⟨2, 0, 0⟩, ⟨3, 0, 1⟩, ⟨1, 1, 2⟩] _ (by decide) hc1 HC2.out (by intro t ht; simp at ht; rcases ht with rfl | rfl | rfl <;> simp) ((hw.below hb1).below hb2).toLaid).mono ?_
  rw [text_a1]
  rintro e w3 ⟨ev3, rfl, rfl, hb3⟩
  obtain ⟨ad', hA', _, x1, _⟩ := PAll.at_T40 (Kd.C_below HC2.out hb3) 2 (by omega) (by decide)
  injection hA' with hA'
  subst hA'
  have y1 : w3.cell? ⟨ad1.block, ad1.off + 6 + 1, none⟩ = some (.int .i64 1) := x1
  have HS3 := Lib.hid ((hb3.block g2 (lt_of_block HS2.out)).trans HS2.out)
  have HL3 := Lib.hid (((hw.below hb1).below hb2).below hb3).typ
  have HB3 := Lib.hid (below_then (below_then hb1 hb1.size hb2) (Nat.le_trans hb1.size hb2.size) hb3)
  clear x1
  go_wp2_with fail
  refine (lawIs_hit g2 2 2 _ HS3.out HL3.out).mono ?_
  rintro e w4 ⟨rfl, hb4⟩
  go_wp2_with fail
  go_ret
  exact ⟨rfl, below_then HB3.out HB3.out.size hb4⟩
end Go.Proofs.YtldcplgfkcionaaDoor
