/- A slice of actions that comes in. -/
import Derived.Test.YtldcplgfkcionaaDoorActp
import Derived.OpenShut
set_option linter.unusedVariables false
set_option linter.unusedSimpArgs false
namespace Go.Proofs.YtldcplgfkcionaaDoor
open Go.RowKit Go.Proofs.YtldcplgfkcionaaDoorW.PrintWords
def RAct : Rep (Int × Int × Int × ByteArray × Unit) := (Rep.int .i64).pair ((Rep.int .i64).pair ((Rep.int .i64).pair (Rep.str.pair Rep.unit)))
set_option maxRecDepth 100000 in
theorem RAct.reads : Reads Tryd.prog 105 RAct :=
  reads_struct Tryd.underlying105 (fields_cons rfl (reads_int Tryd.underlying3 (by kernel_rfl)) (fields_cons rfl (reads_int Tryd.underlying3 (by kernel_rfl)) (fields_cons rfl (reads_int Tryd.underlying3 (by kernel_rfl)) (fields_cons rfl (reads_str Tryd.underlying9 (by kernel_rfl)) (fields_nil _ _))))) (by kernel_rfl)
theorem actArg {w : World} {v : Value} {xs : List (Int × Int × Int × ByteArray × Unit)} (h : RAct.slice.ok (fun b => b < w.heap.size) w [v] xs) :
    ∃ A cap, ∃ l : List Ac, v = .slice A l.length cap ∧ l.length ≤ cap ∧ ActsC w A l.length l := by
  obtain ⟨A, cap, hv, hA⟩ := Rep.slice_open h
  by_cases h0 : 0 < xs.length
  · obtain ⟨b, off, rfl, hb, hlt, hc1, hc2, hel⟩ := hA h0
    unfold maxLen at hc2
    have hel' : ∀ i (hi : i < xs.length), w.cell? ⟨b, off + i * 4, none⟩ = some (.int .i64 xs[i].1) ∧ w.cell? ⟨b, off + i * 4 + 1, none⟩ = some (.int .i64 xs[i].2.1) ∧ w.cell? ⟨b, off + i * 4 + 2, none⟩ = some (.int .i64 xs[i].2.2.1) ∧ w.cell? ⟨b, off + i * 4 + 3, none⟩ = some (.string xs[i].2.2.2.1) := by
      intro i hi
      obtain ⟨c, hc, hcell, hok⟩ := hel i hi
      obtain ⟨c1, d1, rfl, _, ⟨rfl, hw1⟩, c2, d2, rfl, _, ⟨rfl, hw2⟩, c3, d3, rfl, _, ⟨rfl, hw3⟩, c4, d4, rfl, _, ⟨rfl, hw4⟩, rfl⟩ := hok
      exact ⟨hcell 0 (by simp), hcell 1 (by simp), hcell 2 (by simp), hcell 3 (by simp)⟩
    refine ⟨some ⟨b, off, none⟩, cap, xs.map fun t => ⟨t.1, t.2.1, t.2.2.1, t.2.2.2.1⟩, by rw [List.length_map]; exact hv, by rw [List.length_map]; exact hc1, ⟨rfl, by rw [List.length_map]; omega, fun _ => ⟨⟨b, off, none⟩, rfl, ?_⟩⟩⟩
    intro j p hj
    rw [List.getElem?_map] at hj
    obtain ⟨t, ht, rfl⟩ := Option.map_eq_some_iff.1 hj
    obtain ⟨hjl, rfl⟩ := List.getElem?_eq_some_iff.1 ht
    obtain ⟨x0, x1, x2, x3⟩ := hel' j hjl
    refine ⟨[.int .i64 xs[j].1, .int .i64 xs[j].2.1, .int .i64 xs[j].2.2.1, .string xs[j].2.2.2.1], rfl, PAll.k105_mk w _, ?_⟩
    intro i u hi
    rw [add_at]
    show w.cell? ⟨b, off + (j * 4 + i), none⟩ = _
    rw [← Nat.add_assoc]
    match i, hi with
    | 0, hi => simp at hi; subst hi; exact x0
    | 1, hi => simp at hi; subst hi; exact x1
    | 2, hi => simp at hi; subst hi; exact x2
    | 3, hi => simp at hi; subst hi; exact x3
    | n + 4, hi => simp at hi
  · have hx : xs = [] := by cases xs with
      | nil => rfl
      | cons a l => simp at h0
    subst hx
    exact ⟨A, cap, [], hv, Nat.zero_le _, ⟨rfl, by omega, fun h => by omega⟩⟩
end Go.Proofs.YtldcplgfkcionaaDoor
