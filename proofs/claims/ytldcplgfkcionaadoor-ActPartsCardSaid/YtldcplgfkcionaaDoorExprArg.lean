/- A slice of numbers that comes in. -/
import Derived.Test.YtldcplgfkcionaaDoorExpre
import Derived.OpenShut
set_option linter.unusedVariables false
set_option linter.unusedSimpArgs false
namespace Go.Proofs.YtldcplgfkcionaaDoor
open Go.RowKit Go.Proofs.YtldcplgfkcionaaDoorW.PrintWords
/-! ### numbers that come in -/
theorem numArg {w : World} {v : Value} {xs : List Int} (h : (Rep.int .i64).slice.ok (fun b => b < w.heap.size) w [v] xs) :
    ∃ A cap, v = .slice A xs.length cap ∧ xs.length ≤ cap ∧ NumsC w A xs.length xs ∧ ∀ x ∈ xs, -9223372036854775808 ≤ x ∧ x ≤ 9223372036854775807 := by
  obtain ⟨A, cap, hv, hA⟩ := Rep.slice_open h
  by_cases h0 : 0 < xs.length
  · obtain ⟨b, off, rfl, hb, hlt, hc1, hc2, hel⟩ := hA h0
    unfold maxLen at hc2
    have hel' : ∀ i (hi : i < xs.length), w.cell? ⟨b, off + i, none⟩ = some (.int .i64 xs[i]) ∧ (Lit.int .i64 xs[i]).wf = true := by
      intro i hi
      obtain ⟨c, hc, hcell, hok⟩ := hel i hi
      obtain ⟨rfl, hw⟩ := hok
      have := hcell 0 (by simp)
      have hs : (Rep.int .i64).size = 1 := rfl
      rw [hs, Nat.mul_one] at this
      exact ⟨this, hw⟩
    refine ⟨some ⟨b, off, none⟩, cap, hv, hc1, ⟨rfl, by omega, fun _ => ⟨⟨b, off, none⟩, rfl, ?_⟩⟩, ?_⟩
    · intro j p hj
      obtain ⟨hjl, rfl⟩ := List.getElem?_eq_some_iff.1 hj
      refine ⟨[.int .i64 xs[j]], rfl, rfl, ?_⟩
      intro i u hi
      rw [add_at]
      match i, hi with
      | 0, hi =>
        simp at hi; subst hi
        have := (hel' j hjl).1
        simpa [Kd.int, Kd.scalar] using this
      | n + 1, hi => simp at hi
    · intro t ht
      obtain ⟨j, hj, rfl⟩ := List.mem_iff_getElem.1 ht
      exact bounds_i64 (hel' j hj).2
  · have hx : xs = [] := by cases xs with
      | nil => rfl
      | cons a l => simp at h0
    subst hx
    exact ⟨A, cap, hv, Nat.zero_le _, ⟨rfl, by simp, fun h => by simp at h⟩, fun t ht => by cases ht⟩
end Go.Proofs.YtldcplgfkcionaaDoor
