/- A row in a ring, as plain lists: what is pushed, popped and stolen. -/
import Derived.Test.YtmjgbdmjeadmaaaBase
namespace Go.Proofs.Ytmjgbdmjeadmaaa
/-- The ring R holds xs, from place first on. -/
def Ring {α : Type} (R : List α) (first : Nat) (xs : List α) : Prop :=
  xs.length ≤ R.length ∧ (first < R.length ∨ first = 0) ∧ ∀ i (h : i < xs.length), R[(first + i) % R.length]? = some xs[i]
theorem at_eq {n f i : Nat} (hf : f < n) (hi : i < n) : (f + i) % n = if f + i < n then f + i else f + i - n := by
  split
  · exact Nat.mod_eq_of_lt (by assumption)
  · rw [Nat.mod_eq_sub_mod (by omega), Nat.mod_eq_of_lt (by omega)]
theorem at_ne {n f i j : Nat} (hf : f < n) (hi : i < n) (hj : j < n) (h : i ≠ j) : (f + i) % n ≠ (f + j) % n := by
  rw [at_eq hf hi, at_eq hf hj]
  split <;> split <;> omega
theorem at_lt {n f i : Nat} (hn : 0 < n) : (f + i) % n < n := Nat.mod_lt _ hn
theorem ring_push {α : Type} {R : List α} {first : Nat} {xs : List α} (h : Ring R first xs) (hl : xs.length < R.length) (x : α) : Ring (R.set ((first + xs.length) % R.length) x) first (xs ++ [x]) := by
  obtain ⟨h1, h2, h3⟩ := h
  have hf : first < R.length := by omega
  refine ⟨by simp; omega, by simpa using h2, fun i hi => ?_⟩
  simp at hi
  rw [List.length_set]
  by_cases hx : i < xs.length
  · rw [List.getElem?_set_ne (at_ne hf hl (by omega) (by omega)), h3 i hx, List.getElem_append_left hx]
  · obtain rfl : i = xs.length := by omega
    rw [List.getElem?_set_self (at_lt (by omega)), List.getElem_append_right (Nat.le_refl _)]
    simp
theorem ring_pop {α : Type} {R : List α} {first : Nat} {xs : List α} {x z : α} (h : Ring R first (xs ++ [x])) : R[(first + xs.length) % R.length]? = some x ∧ Ring (R.set ((first + xs.length) % R.length) z) first xs := by
  obtain ⟨h1, h2, h3⟩ := h
  simp at h1
  have hf : first < R.length := by omega
  refine ⟨by have := h3 xs.length (by simp); simpa using this, by simp; omega, by simpa using h2, fun i hi => ?_⟩
  rw [List.length_set, List.getElem?_set_ne (at_ne hf (by omega) (by omega) (by omega)), h3 i (by simp; omega), List.getElem_append_left hi]
theorem ring_steal {α : Type} {R : List α} {first : Nat} {xs : List α} {x z : α} (h : Ring R first (x :: xs)) : R[(first + 0) % R.length]? = some x ∧ Ring (R.set ((first + 0) % R.length) z) ((first + 1) % R.length) xs := by
  obtain ⟨h1, h2, h3⟩ := h
  simp at h1
  have hf : first < R.length := by omega
  refine ⟨h3 0 (by simp), by simp; omega, .inl (by rw [List.length_set]; exact at_lt (by omega)), fun i hi => ?_⟩
  have e : ((first + 1) % R.length + i) % R.length = (first + (i + 1)) % R.length := by rw [Nat.mod_add_mod]; congr 1; omega
  rw [List.length_set, e, List.getElem?_set_ne (at_ne hf (by omega) (by omega) (by omega)), h3 (i + 1) (by simp; omega)]
  rfl
theorem ring_grow {α : Type} {xs : List α} (z : α) (m : Nat) : Ring (xs ++ List.replicate m z) 0 xs :=
  ⟨by simp, .inr rfl, fun i hi => by
    rw [Nat.zero_add, Nat.mod_eq_of_lt (by simp; omega), List.getElem?_append_left hi, List.getElem?_eq_getElem hi]⟩
theorem ring_nil {α : Type} : Ring ([] : List α) 0 [] := ⟨by simp, .inr rfl, fun i hi => by simp at hi⟩
end Go.Proofs.Ytmjgbdmjeadmaaa
