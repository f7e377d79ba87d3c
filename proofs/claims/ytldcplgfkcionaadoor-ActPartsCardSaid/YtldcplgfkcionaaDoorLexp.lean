/- The tokens of a text, and the text of tokens. Nothing of the program. -/
import Derived.Test.YtldcplgfkcionaaDoorPX
set_option linter.unusedVariables false
namespace Go.Proofs.YtldcplgfkcionaaDoor.PX
def isDigit (c : UInt8) : Bool := decide (48 ≤ c.toNat) && decide (c.toNat ≤ 57)
def isLetter (c : UInt8) : Bool := decide (97 ≤ c.toNat) && decide (c.toNat ≤ 122)
def numOf (l : List UInt8) : Nat := l.foldl (fun n c => 10 * n + (c.toNat - 48)) 0
/-- The kind of letters that are a word; 0: they are none. -/
def wordOf (l : List UInt8) : Int :=
  if l = [116, 114, 117, 101] then 15 else if l = [102, 97, 108, 115, 101] then 16 else if l = [97, 110, 100] then 12 else if l = [111, 114] then 13 else if l = [110, 111, 116] then 14 else 0
/-- The sign that a text begins with, and its bytes; 0: none. -/
def signOf : List UInt8 → Int × Nat
  | [] => (0, 0)
  | [c] => (oneSign c, if oneSign c = 0 then 0 else 1)
  | c :: d :: _ => if d = 61 ∧ c = 60 then (9, 2) else if d = 61 ∧ c = 61 then (10, 2) else if d = 61 ∧ c = 33 then (11, 2) else (oneSign c, if oneSign c = 0 then 0 else 1)
where oneSign (c : UInt8) : Int :=
  if c = 43 then 3 else if c = 45 then 4 else if c = 42 then 5 else if c = 47 then 6 else if c = 37 then 7 else if c = 60 then 8 else if c = 40 then 17 else if c = 41 then 18 else 0
/-- The token that a text begins with, but for its place, and its bytes. -/
def first (l : List UInt8) : Option (Int × Int × Nat) :=
  if 0 < (l.takeWhile isDigit).length then
    if numOf (l.takeWhile isDigit) ≤ 9223372036854775807 then some (1, numOf (l.takeWhile isDigit), (l.takeWhile isDigit).length) else none
  else if 0 < (l.takeWhile isLetter).length then
    if (l.takeWhile isLetter).length = 1 then some (2, (l.headD 0).toNat - 97, 1)
    else if wordOf (l.takeWhile isLetter) = 0 then none else some (wordOf (l.takeWhile isLetter), 0, (l.takeWhile isLetter).length)
  else if (signOf l).2 = 0 then none else some ((signOf l).1, 0, (signOf l).2)
theorem takeWhile_le {α : Type} (p : α → Bool) (l : List α) : (l.takeWhile p).length ≤ l.length := by
  induction l with
  | nil => simp
  | cons a l ih => simp only [List.takeWhile_cons]; split <;> simp; exact ih
theorem signOf_le (l : List UInt8) : (signOf l).2 ≤ l.length := by
  unfold signOf
  split
  · simp
  · simp only; split <;> simp
  · simp only [List.length_cons]; split <;> (try split) <;> (try split) <;> (try split) <;> simp <;> omega
theorem first_pos {l : List UInt8} {k n : Int} {m : Nat} (h : first l = some (k, n, m)) : 0 < m ∧ m ≤ l.length := by
  have h1 := takeWhile_le isDigit l
  have h2 := takeWhile_le isLetter l
  have h3 := signOf_le l
  unfold first at h
  split at h
  · split at h
    · simp only [Option.some.injEq, Prod.mk.injEq] at h; omega
    · cases h
  · split at h
    · split at h
      · simp only [Option.some.injEq, Prod.mk.injEq] at h; omega
      · split at h
        · cases h
        · simp only [Option.some.injEq, Prod.mk.injEq] at h; omega
    · split at h
      · cases h
      · simp only [Option.some.injEq, Prod.mk.injEq] at h; omega
/-- The tokens of a text from a place on, and the place of the first that is none. -/
def lexAt (l : List UInt8) (at_ : Nat) : List T × Option Nat :=
  match l with
  | [] => ([], none)
  | c :: l' =>
    if c = 32 then lexAt l' (at_ + 1)
    else match h : first (c :: l') with
      | none => ([], some at_)
      | some (k, n, m) => (⟨k, n, (at_ : Int)⟩ :: (lexAt ((c :: l').drop m) (at_ + m)).1, (lexAt ((c :: l').drop m) (at_ + m)).2)
termination_by l.length
decreasing_by
  · simp
  · have := first_pos h; simp only [List.length_drop, List.length_cons] at *; omega
theorem lexAt_nil (a : Nat) : lexAt [] a = ([], none) := by rw [lexAt]
theorem lexAt_space (l : List UInt8) (a : Nat) : lexAt (32 :: l) a = lexAt l (a + 1) := by rw [lexAt]; simp
theorem lexAt_bad {c : UInt8} {l : List UInt8} (hc : c ≠ 32) (h : first (c :: l) = none) (a : Nat) : lexAt (c :: l) a = ([], some a) := by
  rw [lexAt]; rw [if_neg hc]; split
  · rfl
  · rename_i h'; rw [h] at h'; cases h'
theorem lexAt_tok {c : UInt8} {l : List UInt8} (hc : c ≠ 32) {k n : Int} {m : Nat} (h : first (c :: l) = some (k, n, m)) (a : Nat) :
    lexAt (c :: l) a = (⟨k, n, (a : Int)⟩ :: (lexAt ((c :: l).drop m) (a + m)).1, (lexAt ((c :: l).drop m) (a + m)).2) := by
  rw [lexAt]; rw [if_neg hc]; split
  · rename_i h'; rw [h] at h'; cases h'
  · rename_i k' n' m' h'
    rw [h] at h'
    simp only [Option.some.injEq, Prod.mk.injEq] at h'
    obtain ⟨rfl, rfl, rfl⟩ := h'
    rfl
end Go.Proofs.YtldcplgfkcionaaDoor.PX
