/- Small laws on what a call lays, and what it lets be. -/
import Derived.Test.YtldcplgfkcionaaDoorBase
namespace Go.Proofs.YtldcplgfkcionaaDoor
open Go.RowKit
/-- A block that was laid ahead of a call, behind it. -/
theorem laid3 {w w2 : World} {x y z : Value} {t : TypeId} (hb : Below (w.alloc (.cells #[x, y, z] t)).heap.size (w.alloc (.cells #[x, y, z] t)) w2) :
    w2.cell? ⟨w.heap.size, 0, none⟩ = some x ∧ w2.cell? ⟨w.heap.size, 1, none⟩ = some y ∧ w2.cell? ⟨w.heap.size, 2, none⟩ = some z ∧
      w2.frozen? ⟨w.heap.size, 0, none⟩ = false ∧ w2.frozen? ⟨w.heap.size, 1, none⟩ = false ∧ w2.frozen? ⟨w.heap.size, 2, none⟩ = false ∧ w.heap.size < w2.heap.size ∧ Below w.heap.size w w2 := by
  have h := (hb.block w.heap.size (by simp)).trans (blk_new _ _)
  have hz := hb.size
  simp at hz
  exact ⟨blk_cell h 0, blk_cell h 1, blk_cell h 2, blk_free h 0, blk_free h 1, blk_free h 2, by omega, ((Below.refl _ _).alloc (Nat.le_refl _) _).trans (hb.mono (by simp))⟩
theorem below_set3 {B g : Nat} {w W : World} (h : Below B w W) (hB : B ≤ g) (a b c : Value) : Below B w (((W.setCell ⟨g, 0, none⟩ a).setCell ⟨g, 1, none⟩ b).setCell ⟨g, 2, none⟩ c) :=
  ((h.setCell hB _).setCell hB _).setCell hB _
theorem below_then {B : Nat} {w w1 w2 : World} (h : Below B w w1) (hB : B ≤ w1.heap.size) (k : Below w1.heap.size w1 w2) : Below B w w2 := h.trans (k.mono hB)
theorem below_drewN' {B : Nat} {w w' : World} (h : Below B w w') (n : Nat) : Below B w (w'.drewN n) := by
  induction n generalizing w' with
  | zero => exact h
  | succ n ih =>
    have := ih h.drew
    rw [World.drewN_drew, Nat.add_comm] at this
    exact this
end Go.Proofs.YtldcplgfkcionaaDoor
