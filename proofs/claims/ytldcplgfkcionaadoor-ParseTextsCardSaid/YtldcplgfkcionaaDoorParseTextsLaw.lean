/- The law ParseTexts. -/
import Derived.Test.YtldcplgfkcionaaDoorUp03
import Derived.Test.YtldcplgfkcionaaDoorLexTokensLaw
set_option linter.unusedVariables false
set_option linter.unusedSimpArgs false
namespace Go.Proofs.YtldcplgfkcionaaDoor
open Go.RowKit PX Go.Proofs.YtldcplgfkcionaaDoorW.PrintWords
/-- What is told of an error: its number is one of api's, its place is there. -/
theorem lexed_er (s : List UInt8) : (lexed s).2 = .none ∨ (lexed s).2 = .code 3 ∨ ∃ a : Nat, (lexed s).2 = .spot a 2 := by
  unfold lexed
  split
  · exact .inr (.inl rfl)
  · split
    · exact .inl rfl
    · rename_i a _; exact .inr (.inr ⟨a, rfl⟩)
theorem lexAt_place (n : Nat) : ∀ (l : List UInt8) (a : Nat), l.length ≤ n → ∀ t ∈ (lexAt l a).1, 0 ≤ t.f2 := by
  induction n with
  | zero =>
    intro l a h t ht
    have : l = [] := List.length_eq_zero_iff.1 (by omega)
    subst this
    rw [lexAt_nil] at ht
    simp at ht
  | succ n ih =>
    intro l a h t ht
    cases l with
    | nil => rw [lexAt_nil] at ht; simp at ht
    | cons c l =>
      by_cases hc : c = 32
      · subst hc; rw [lexAt_space] at ht; exact ih l _ (by simpa using h) t ht
      · cases hf : first (c :: l) with
        | none => rw [lexAt_bad hc hf] at ht; simp at ht
        | some x =>
          obtain ⟨k, m, j⟩ := x
          rw [lexAt_tok hc hf] at ht
          rcases List.mem_cons.1 ht with rfl | ht
          · exact Int.natCast_nonneg a
          · have := first_pos hf
            exact ih _ _ (by rw [List.length_drop]; simp at h ⊢; omega) t ht
theorem lexed_place (s : List UInt8) : ∀ t ∈ (lexed s).1, 0 ≤ t.f2 := by
  unfold lexed
  split
  · simp
  · split
    · exact lexAt_place s.length s 0 (Nat.le_refl _)
    · simp
theorem parsed_er (s : List UInt8) (r : List T × Er) (h : Parsed s r) : (∀ c, r.2 = .code c → 1 ≤ c ∧ c ≤ 13) ∧ (∀ a c, r.2 = .spot a c → 0 ≤ a) ∧ (r.1.length ≤ 100) ∧ (r.2 ≠ .none → r.1 = []) := by
  unfold Parsed at h
  have hp := lexed_place s
  rcases lexed_er s with hx | hx | ⟨a, hx⟩
  · rw [hx] at h
    obtain ⟨R, hR, rfl⟩ := h
    unfold parsedOf
    split
    · rename_i hc
      refine ⟨fun c h => by simp at h, fun a c h => ?_, by simp, fun _ => rfl⟩
      simp only [Er.spot.injEq] at h
      obtain ⟨rfl, _⟩ := h
      split
      · rename_i hlt
        have : PAll.rd_T40 (lexed s).1 R.at_ = (lexed s).1[R.at_] := by simp [PAll.rd_T40, List.getD_eq_getElem?_getD, List.getElem?_eq_getElem hlt]
        rw [this]
        exact hp _ (List.getElem_mem hlt)
      · omega
    · split
      · refine ⟨fun c h => ?_, fun a c h => by simp at h, by simp, fun _ => rfl⟩
        simp only [Er.code.injEq] at h; omega
      · refine ⟨fun c h => by simp at h, fun a c h => by simp at h, by simp; omega, fun h => absurd rfl h⟩
  · rw [hx] at h
    subst h
    refine ⟨fun c h => ?_, fun a c h => by simp at h, by simp, fun _ => rfl⟩
    simp only [Er.code.injEq] at h; omega
  · rw [hx] at h
    subst h
    refine ⟨fun c h => by simp at h, fun a' c h => ?_, by simp, fun _ => rfl⟩
    simp only [Er.spot.injEq] at h; omega
set_option maxHeartbeats 8000000 in
set_option maxRecDepth 100000 in
theorem ParseTexts_walk (w : World) (hw : LaidE w) (s : ByteArray) (hs : s.size ≤ 140737488355328) :
    Calls Tryd.prog 6 #[.string s] w fun e w' => e = .returned (.bool true) ∧ Below w.heap.size w w' := by
  by_cases h3 : 3000 < s.size
  · go_enter Tryd.func6, Tryd.ntmps6
    go_wp2_with fail
    refine (up03 _ hw).mono ?_
    rintro e w1 ⟨rfl, hb1⟩
    go_wp2_with fail
    go_ret
    exact ⟨rfl, hb1⟩
  obtain ⟨r, hr⟩ := parsed_ex s.data.toList
  obtain ⟨e1, e2, e3, e4⟩ := parsed_er _ _ hr
  have HR := Lib.hid hr
  have HE := Lib.hid (And.intro e1 e2)
  clear hr e1 e2 e4
  go_enter Tryd.func6, Tryd.ntmps6
  go_wp2_with fail
  refine (up03 _ hw).mono ?_
  rintro e w1 ⟨rfl, hb1⟩
  go_wp2_with fail
  refine (parse_any s (by omega) _ (hw.below hb1).toLaid _ HR.out).mono ?_
  rintro e w2 ⟨v2, ev2, rfl, h2, he2, hb2⟩
  have hb12 := below_then hb1 hb1.size hb2
  obtain ⟨A2, c2, rfl, hc2, hC2⟩ := Kd.R_reads h2
  have HC2 := Lib.hid hC2
  have HE2 := Lib.hid he2
  clear h2 hC2 he2
  go_wp2_with fail
  refine (rparse_any s (by omega) _ _ HR.out).mono ?_
  rintro e w3 ⟨v3, rfl, h3, hb3⟩
  have hb13 := below_then hb12 hb12.size hb3
  obtain ⟨A3, c3, rfl, hc3, hC3⟩ := Kd.R_reads h3
  have HC3 := Lib.hid hC3
  have HE3 := Lib.hid (HE2.out.keep hb3)
  clear h3 hC3
  go_wp2_with fail
  refine (told_any _ _ _ _ HE3.out HE.out.1 HE.out.2 (hw.below hb13).typ).mono ?_
  rintro e w4 ⟨rfl, hb4⟩
  have hb14 := below_then hb13 hb13.size hb4
  go_wp2_with fail
  refine (same_any A2 A3 c2 c3 r.1 (by omega) _ (Kd.C_below HC2.out (hb3.trans (hb4.mono hb3.size))) hc2 (Kd.C_below HC3.out hb4) hc3).mono ?_
  rintro e w5 ⟨rfl, hb5⟩
  go_wp2_with fail
  go_ret
  exact ⟨rfl, below_then hb14 hb14.size hb5⟩
end Go.Proofs.YtldcplgfkcionaaDoor
