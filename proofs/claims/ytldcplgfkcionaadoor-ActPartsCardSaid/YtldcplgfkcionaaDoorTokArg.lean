/- A slice of tokens that comes in. -/
import Derived.Test.YtldcplgfkcionaaDoorTok
import Derived.Test.YtldcplgfkcionaaDoorWid
import Derived.OpenShut
set_option linter.unusedVariables false
set_option linter.unusedSimpArgs false
namespace Go.Proofs.YtldcplgfkcionaaDoor
open Go.RowKit PX Go.Proofs.YtldcplgfkcionaaDoorW.PrintWords
def RTok : Rep (Int × Int × Int × Unit) := (Rep.int .i64).pair ((Rep.int .i64).pair ((Rep.int .i64).pair Rep.unit))
set_option maxRecDepth 100000 in
theorem RTok.reads : Reads Tryd.prog 40 RTok :=
  reads_struct Tryd.underlying40 (fields_cons rfl (reads_int Tryd.underlying3 (by kernel_rfl)) (fields_cons rfl (reads_int Tryd.underlying2 (by kernel_rfl)) (fields_cons rfl (reads_int Tryd.underlying3 (by kernel_rfl)) (fields_nil _ _)))) (by kernel_rfl)
/-- Every number as its type has it. -/
def Wide3 (l : List T) : Prop := ∀ t ∈ l, (-9223372036854775808 ≤ t.f0 ∧ t.f0 ≤ 9223372036854775807) ∧ (-9223372036854775808 ≤ t.f1 ∧ t.f1 ≤ 9223372036854775807) ∧ (-9223372036854775808 ≤ t.f2 ∧ t.f2 ≤ 9223372036854775807)
theorem Wide3.wide {l : List T} (h : Wide3 l) : Wide l := fun t ht => (h t ht).2.1
theorem tokArg {w : World} {v : Value} {xs : List (Int × Int × Int × Unit)} (h : RTok.slice.ok (fun b => b < w.heap.size) w [v] xs) :
    ∃ A cap, ∃ l : List T, v = .slice A l.length cap ∧ l.length ≤ cap ∧ ToksC w A l.length l ∧ Wide3 l := by
  obtain ⟨A, cap, hv, hA⟩ := Rep.slice_open h
  by_cases h0 : 0 < xs.length
  · obtain ⟨b, off, rfl, hb, hlt, hc1, hc2, hel⟩ := hA h0
    unfold maxLen at hc2
    have hel' : ∀ i (hi : i < xs.length), (w.cell? ⟨b, off + i * 3, none⟩ = some (.int .i64 xs[i].1) ∧ w.cell? ⟨b, off + i * 3 + 1, none⟩ = some (.int .i64 xs[i].2.1) ∧ w.cell? ⟨b, off + i * 3 + 2, none⟩ = some (.int .i64 xs[i].2.2.1)) ∧
        (Lit.int .i64 xs[i].1).wf = true ∧ (Lit.int .i64 xs[i].2.1).wf = true ∧ (Lit.int .i64 xs[i].2.2.1).wf = true := by
      intro i hi
      obtain ⟨c, hc, hcell, hok⟩ := hel i hi
      obtain ⟨c1, d1, rfl, _, ⟨rfl, hw1⟩, c2, d2, rfl, _, ⟨rfl, hw2⟩, c3, d3, rfl, _, ⟨rfl, hw3⟩, rfl⟩ := hok
      exact ⟨⟨hcell 0 (by simp), hcell 1 (by simp), hcell 2 (by simp)⟩, hw1, hw2, hw3⟩
    refine ⟨some ⟨b, off, none⟩, cap, xs.map fun t => ⟨t.1, t.2.1, t.2.2.1⟩, by rw [List.length_map]; exact hv, by rw [List.length_map]; exact hc1, ⟨rfl, by rw [List.length_map]; omega, fun _ => ⟨⟨b, off, none⟩, rfl, ?_⟩⟩, ?_⟩
    · intro j p hj
      rw [List.getElem?_map] at hj
      obtain ⟨t, ht, rfl⟩ := Option.map_eq_some_iff.1 hj
      obtain ⟨hjl, rfl⟩ := List.getElem?_eq_some_iff.1 ht
      obtain ⟨⟨x0, x1, x2⟩, _⟩ := hel' j hjl
      refine ⟨[.int .i64 xs[j].1, .int .i64 xs[j].2.1, .int .i64 xs[j].2.2.1], rfl, PAll.k40_mk w _, ?_⟩
      intro i u hi
      rw [add_at]
      show w.cell? ⟨b, off + (j * 3 + i), none⟩ = _
      rw [← Nat.add_assoc]
      match i, hi with
      | 0, hi => simp at hi; subst hi; exact x0
      | 1, hi => simp at hi; subst hi; exact x1
      | 2, hi => simp at hi; subst hi; exact x2
      | n + 3, hi => simp at hi
    · intro t ht
      obtain ⟨x, hx, rfl⟩ := List.mem_map.1 ht
      obtain ⟨j, hj, rfl⟩ := List.mem_iff_getElem.1 hx
      obtain ⟨_, w1, w2, w3⟩ := hel' j hj
      exact ⟨bounds_i64 w1, bounds_i64 w2, bounds_i64 w3⟩
  · have hx : xs = [] := by cases xs with
      | nil => rfl
      | cons a l => simp at h0
    subst hx
    exact ⟨A, cap, [], hv, Nat.zero_le _, ⟨rfl, by omega, fun h => by omega⟩, fun t ht => by cases ht⟩
end Go.Proofs.YtldcplgfkcionaaDoor
