/- Texts put together: what the lexer makes of a text with a bracket behind it. Nothing of the program. -/
import Derived.Test.YtldcplgfkcionaaDoorLexp
set_option linter.unusedVariables false
set_option linter.unusedSimpArgs false
namespace Go.Proofs.YtldcplgfkcionaaDoor.PX
theorem takeWhile_stop (p : UInt8 → Bool) (l : List UInt8) (c : UInt8) (r : List UInt8) (hc : p c = false) : (l ++ c :: r).takeWhile p = l.takeWhile p := by
  induction l with
  | nil => simp [List.takeWhile_cons, hc]
  | cons a l ih =>
    rw [List.cons_append, List.takeWhile_cons, List.takeWhile_cons]
    split
    · rw [ih]
    · rfl
/-- A closing bracket ends what is ahead of it. -/
theorem first_close (l r : List UInt8) (hl : l ≠ []) : first (l ++ 41 :: r) = first l := by
  have h1 := takeWhile_stop isDigit l 41 r (by decide)
  have h2 := takeWhile_stop isLetter l 41 r (by decide)
  unfold first
  rw [h1, h2]
  have h3 : (l ++ 41 :: r).headD 0 = l.headD 0 := by
    cases l with
    | nil => exact absurd rfl hl
    | cons a l => rfl
  have h4 : signOf (l ++ 41 :: r) = signOf l := by
    cases l with
    | nil => exact absurd rfl hl
    | cons a l =>
      cases l with
      | nil =>
        show signOf (a :: 41 :: r) = signOf [a]
        simp [signOf]
      | cons b l => rfl
  rw [h3, h4]
/-- The tokens of a text, with a place added to each. -/
def shiftL (d : Int) (l : List T) : List T := l.map fun t => ⟨t.f0, t.f1, t.f2 + d⟩
theorem lexAt_close (n : Nat) : ∀ (l r : List UInt8) (a b : Nat) (ts : List T), l.length ≤ n → lexAt l a = (ts, none) →
    lexAt (l ++ 41 :: r) b = (shiftL ((b : Int) - a) ts ++ (lexAt (41 :: r) (b + l.length)).1, (lexAt (41 :: r) (b + l.length)).2) := by
  induction n with
  | zero =>
    intro l r a b ts h hx
    have : l = [] := List.length_eq_zero_iff.1 (by omega)
    subst this
    rw [lexAt_nil] at hx
    obtain rfl : [] = ts := (Prod.mk.inj hx).1
    simp [shiftL]
  | succ n ih =>
    intro l r a b ts h hx
    cases l with
    | nil =>
      rw [lexAt_nil] at hx
      obtain rfl : [] = ts := (Prod.mk.inj hx).1
      simp [shiftL]
    | cons c l =>
      by_cases hc : c = 32
      · subst hc
        rw [lexAt_space] at hx
        rw [List.cons_append, lexAt_space, ih l r (a + 1) (b + 1) ts (by simpa using h) hx]
        rw [show ((b + 1 : Nat) : Int) - ((a + 1 : Nat) : Int) = (b : Int) - a by omega, show b + 1 + l.length = b + (32 :: l).length by simp; omega]
      · cases hf : first (c :: l) with
        | none => rw [lexAt_bad hc hf] at hx; cases (Prod.mk.inj hx).2
        | some x =>
          obtain ⟨k, m, j⟩ := x
          have hp := first_pos hf
          rw [lexAt_tok hc hf] at hx
          obtain ⟨hx1, hx2⟩ := Prod.mk.inj hx
          have hf' : first (c :: (l ++ 41 :: r)) = some (k, m, j) := by
            rw [← List.cons_append, first_close _ _ (by simp)]; exact hf
          have hd : (c :: (l ++ 41 :: r)).drop j = (c :: l).drop j ++ 41 :: r := by
            rw [← List.cons_append, List.drop_append_of_le_length hp.2]
          have hi := ih ((c :: l).drop j) r (a + j) (b + j) (lexAt ((c :: l).drop j) (a + j)).1 (by rw [List.length_drop]; simp at h ⊢; omega) (Prod.ext rfl hx2)
          have hlen : b + j + ((c :: l).drop j).length = b + (c :: l).length := by rw [List.length_drop]; omega
          rw [List.cons_append, lexAt_tok hc hf', hd, hi, ← hx1, hlen]
          rw [show ((b + j : Nat) : Int) - ((a + j : Nat) : Int) = (b : Int) - a by omega]
          simp only [shiftL, List.map_cons, List.cons_append]
          rw [show (a : Int) + ((b : Int) - a) = b by omega]
end Go.Proofs.YtldcplgfkcionaaDoor.PX
