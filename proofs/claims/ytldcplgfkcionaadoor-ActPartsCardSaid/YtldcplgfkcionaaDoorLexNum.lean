/- What ParseInt makes of digits; the lists of words and signs. Nothing of the walk. -/
import Derived.Test.YtldcplgfkcionaaDoorLexp
import Derived.Test.YtldcplgfkcionaaDoorPAllLex
import Derived.Lib.ParseIntB
import Derived.Lib.Strings
set_option linter.unusedVariables false
set_option linter.unusedSimpArgs false
namespace Go.Proofs.YtldcplgfkcionaaDoor
open Go.RowKit PX
theorem foldl_ge (l : List UInt8) (a : Nat) : a ≤ l.foldl (fun n c => 10 * n + (c.toNat - 48)) a := by
  induction l generalizing a with
  | nil => simp
  | cons c l ih => simp only [List.foldl_cons]; have := ih (10 * a + (c.toNat - 48)); omega
theorem parseUintM_digits (l : List UInt8) (h : ∀ c ∈ l, isDigit c = true) (a : Nat) (ha : a ≤ 18446744073709551615) (v : Nat) (hv : l.foldl (fun n c => 10 * n + (c.toNat - 48)) a = v) :
    Lib.parseUintM 18446744073709551615 a l = if v ≤ 18446744073709551615 then .ok v else .range := by
  induction l generalizing a with
  | nil => obtain rfl : a = v := hv; simp [Lib.parseUintM, ha]
  | cons c l ih =>
    have hc := h c (by simp)
    simp only [isDigit, Bool.and_eq_true, decide_eq_true_eq] at hc
    have hg := foldl_ge l (10 * a + (c.toNat - 48))
    rw [List.foldl_cons] at hv
    rw [hv] at hg
    simp only [Lib.parseUintM]
    rw [if_pos hc]
    by_cases h1 : 1844674407370955162 ≤ a
    · rw [if_pos h1, if_neg (by omega)]
    · rw [if_neg h1]
      by_cases h2 : 18446744073709551615 < a * 10 + (c.toNat - 48)
      · rw [if_pos h2, if_neg (by omega)]
      · rw [if_neg h2]
        exact ih (fun c hc => h c (by simp [hc])) _ (by omega) (by rw [Nat.mul_comm a 10]; exact hv)
theorem parseInt_digits (l : List UInt8) (hl : l ≠ []) (h : ∀ c ∈ l, isDigit c = true) :
    Lib.parseIntB 64 l = if numOf l ≤ 9223372036854775807 then .ok (numOf l : Int) else .range := by
  obtain ⟨c, r, rfl⟩ : ∃ c r, l = c :: r := by cases l with
    | nil => exact absurd rfl hl
    | cons c r => exact ⟨c, r, rfl⟩
  have hc := h c (by simp)
  simp only [isDigit, Bool.and_eq_true, decide_eq_true_eq] at hc
  have e : Lib.parseUintB 64 (c :: r) = if numOf (c :: r) ≤ 18446744073709551615 then .ok (numOf (c :: r)) else .range := by
    unfold Lib.parseUintB
    rw [if_neg (by simp)]
    exact parseUintM_digits (c :: r) h 0 (by omega) _ rfl
  simp only [Lib.parseIntB]
  rw [if_neg (by omega), e]
  by_cases h1 : numOf (c :: r) ≤ 18446744073709551615
  · rw [if_pos h1]
    simp only
    by_cases h2 : numOf (c :: r) ≤ 9223372036854775807
    · rw [if_pos h2, if_neg (by simp; omega), if_neg (by simp; omega), if_neg (by omega)]
    · rw [if_neg h2, if_pos (by simp; omega)]
  · rw [if_neg h1, if_neg (by omega)]
theorem takeWhile_mem {α : Type} (p : α → Bool) (l : List α) : ∀ c ∈ l.takeWhile p, p c = true := by
  induction l with
  | nil => simp
  | cons a l ih =>
    intro c hc
    rw [List.takeWhile_cons] at hc
    split at hc
    · rename_i h
      rcases List.mem_cons.1 hc with rfl | hc
      · exact h
      · exact ih c hc
    · simp at hc
theorem take_takeWhile {α : Type} (p : α → Bool) (l : List α) : l.take (l.takeWhile p).length = l.takeWhile p := by
  induction l with
  | nil => rfl
  | cons a l ih => rw [List.takeWhile_cons]; split <;> simp [*]
/-- The words, and the signs, as lists. -/
def wordL : List PAll.S120 := [⟨⟨#[116, 114, 117, 101]⟩, 15⟩, ⟨⟨#[102, 97, 108, 115, 101]⟩, 16⟩, ⟨⟨#[97, 110, 100]⟩, 12⟩, ⟨⟨#[111, 114]⟩, 13⟩, ⟨⟨#[110, 111, 116]⟩, 14⟩]
def signL : List PAll.S120 := [⟨⟨#[60, 61]⟩, 9⟩, ⟨⟨#[61, 61]⟩, 10⟩, ⟨⟨#[33, 61]⟩, 11⟩, ⟨⟨#[43]⟩, 3⟩, ⟨⟨#[45]⟩, 4⟩, ⟨⟨#[42]⟩, 5⟩, ⟨⟨#[47]⟩, 6⟩, ⟨⟨#[37]⟩, 7⟩, ⟨⟨#[60]⟩, 8⟩, ⟨⟨#[40]⟩, 17⟩, ⟨⟨#[41]⟩, 18⟩]
theorem words_f : PAll.lex_words.f = some wordL := rfl
theorem signs_f : PAll.lex_signs.f = some signL := rfl
theorem word_hit (k : Nat) (hk : k < 5) (l : List UInt8) (h : (PAll.rd_T120 wordL k).f0.data.toList = l) : wordOf l = (PAll.rd_T120 wordL k).f1 ∧ wordOf l ≠ 0 := by
  subst h
  obtain rfl | rfl | rfl | rfl | rfl : k = 0 ∨ k = 1 ∨ k = 2 ∨ k = 3 ∨ k = 4 := by omega
  all_goals exact ⟨by decide, by decide⟩
theorem word_miss (l : List UInt8) (h : ∀ k : Nat, k < 5 → (PAll.rd_T120 wordL k).f0.data.toList ≠ l) : wordOf l = 0 := by
  unfold wordOf
  rw [if_neg (fun e => h 0 (by omega) e.symm), if_neg (fun e => h 1 (by omega) e.symm), if_neg (fun e => h 2 (by omega) e.symm), if_neg (fun e => h 3 (by omega) e.symm), if_neg (fun e => h 4 (by omega) e.symm)]
/-- Does a text begin with sign k? -/
def begins (l : List UInt8) (k : Nat) : Bool := Lib.hasPrefix l (PAll.rd_T120 signL k).f0.data.toList
theorem begins_nil (k : Nat) (hk : k < 11) : begins [] k = false := by
  obtain rfl | rfl | rfl | rfl | rfl | rfl | rfl | rfl | rfl | rfl | rfl : k = 0 ∨ k = 1 ∨ k = 2 ∨ k = 3 ∨ k = 4 ∨ k = 5 ∨ k = 6 ∨ k = 7 ∨ k = 8 ∨ k = 9 ∨ k = 10 := by omega
  all_goals rfl
theorem sign_hit (k : Nat) (hk : k < 11) (l : List UInt8) (h : ∀ j : Nat, j < k → begins l j = false) (hb : begins l k = true) :
    signOf l = ((PAll.rd_T120 signL k).f1, (PAll.rd_T120 signL k).f0.size) ∧ (signOf l).2 ≠ 0 := by
  match l, h, hb with
  | [], _, hb => rw [begins_nil k hk] at hb; cases hb
  | [c], h, hb =>
    obtain rfl | rfl | rfl | rfl | rfl | rfl | rfl | rfl | rfl | rfl | rfl : k = 0 ∨ k = 1 ∨ k = 2 ∨ k = 3 ∨ k = 4 ∨ k = 5 ∨ k = 6 ∨ k = 7 ∨ k = 8 ∨ k = 9 ∨ k = 10 := by omega
    all_goals
      simp [begins, Lib.hasPrefix, PAll.rd_T120, signL, List.isPrefixOf] at hb
      try (subst hb; exact ⟨rfl, by decide⟩)
  | c :: d :: r, h, hb =>
    have h0 := h 0
    have h1 := h 1
    have h2 := h 2
    obtain rfl | rfl | rfl | rfl | rfl | rfl | rfl | rfl | rfl | rfl | rfl : k = 0 ∨ k = 1 ∨ k = 2 ∨ k = 3 ∨ k = 4 ∨ k = 5 ∨ k = 6 ∨ k = 7 ∨ k = 8 ∨ k = 9 ∨ k = 10 := by omega
    all_goals
      simp [begins, Lib.hasPrefix, PAll.rd_T120, signL, List.isPrefixOf] at hb h0 h1 h2
    all_goals first
      | (obtain ⟨rfl, rfl⟩ := hb; exact ⟨rfl, by simp [signOf]⟩)
      | (subst hb
         simp only [signOf]
         rw [if_neg (by rintro ⟨e1, e2⟩; simp_all), if_neg (by rintro ⟨e1, e2⟩; simp_all), if_neg (by rintro ⟨e1, e2⟩; simp_all)]
         exact ⟨rfl, by decide⟩)
theorem sign_miss (l : List UInt8) (h : ∀ k : Nat, k < 11 → begins l k = false) : (signOf l).2 = 0 := by
  have h0 := h 0 (by omega)
  have h1 := h 1 (by omega)
  have h2 := h 2 (by omega)
  have h3 := h 3 (by omega)
  have h4 := h 4 (by omega)
  have h5 := h 5 (by omega)
  have h6 := h 6 (by omega)
  have h7 := h 7 (by omega)
  have h8 := h 8 (by omega)
  have h9 := h 9 (by omega)
  have h10 := h 10 (by omega)
  match l, h0, h1, h2, h3, h4, h5, h6, h7, h8, h9, h10 with
  | [], _, _, _, _, _, _, _, _, _, _, _ => rfl
  | [c], h0, h1, h2, h3, h4, h5, h6, h7, h8, h9, h10 =>
    simp [begins, Lib.hasPrefix, PAll.rd_T120, signL, List.isPrefixOf] at h0 h1 h2 h3 h4 h5 h6 h7 h8 h9 h10
    simp [signOf, signOf.oneSign, Ne.symm h3, Ne.symm h4, Ne.symm h5, Ne.symm h6, Ne.symm h7, Ne.symm h8, Ne.symm h9, Ne.symm h10]
  | c :: d :: r, h0, h1, h2, h3, h4, h5, h6, h7, h8, h9, h10 =>
    simp [begins, Lib.hasPrefix, PAll.rd_T120, signL, List.isPrefixOf] at h0 h1 h2 h3 h4 h5 h6 h7 h8 h9 h10
    simp only [signOf]
    rw [if_neg (by rintro ⟨rfl, rfl⟩; simp at h0), if_neg (by rintro ⟨rfl, rfl⟩; simp at h1), if_neg (by rintro ⟨rfl, rfl⟩; simp at h2)]
    simp [signOf.oneSign, Ne.symm h3, Ne.symm h4, Ne.symm h5, Ne.symm h6, Ne.symm h7, Ne.symm h8, Ne.symm h9, Ne.symm h10]
end Go.Proofs.YtldcplgfkcionaaDoor
