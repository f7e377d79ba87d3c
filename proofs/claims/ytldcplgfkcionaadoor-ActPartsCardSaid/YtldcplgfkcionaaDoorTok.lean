/- Rows of tokens of the call's own, and errors. -/
import Derived.Test.YtldcplgfkcionaaDoorPX
import Derived.Test.YtldcplgfkcionaaDoorBox2
set_option linter.unusedVariables false
set_option linter.unusedSimpArgs false
namespace Go.Proofs.YtldcplgfkcionaaDoor
open Go.RowKit PX Go.Proofs.YtldcplgfkcionaaDoorW.PrintWords
/-- A row of tokens of the call's own. -/
abbrev Toks (w : World) (B : Nat) (v : Value) (l : List T) : Prop := Kd.R PAll.k40 40 w B (fun _ => True) v l
/-- A row of tokens that is read. -/
abbrev ToksC (w : World) (A : Option Addr) (n : Nat) (l : List T) : Prop := Kd.C PAll.k40 w A n l
section
variable {P : Program} {ops : Array Oper} {rest : List Oper} {o : Oper} {a : Act} {Q : Exit → Act → World → Prop}
/-- append(l, t), the token's cells having just been laid. -/
theorem tok_append {W : World} (hgd : o.guard = none) (s x : Operand)
    (ho : o.op = .call { callee := .builtin .append, args := #[s, x], argTypes := #[23, 23] })
    (B : Nat) (v : Value) (xs : List T) (k n c : Int) (hs : a.eval s = v) (N : Nat) (hx : a.eval x = .slice (some ⟨N, 0, none⟩) 1 1) (hN : N = W.heap.size)
    (HO : Toks W B v xs) (hB : B ≤ W.heap.size) (hl : xs.length < 1000000)
    (h : ∀ v1 w1, Toks w1 B v1 (xs ++ [⟨k, n, c⟩]) → W.grownBy w1 v.ownBlock → (v1.ownBlock = v.ownBlock ∨ ∃ b, v1.ownBlock = some b ∧ W.heap.size ≤ b) → wpList Tryd.prog ops Q rest (a.put o.dst v1) w1) :
    wpList Tryd.prog ops Q (o :: rest) a (W.alloc (.cells #[.int .i64 k, .int .i64 n, .int .i64 c] 40)) := by
  subst hN
  refine Kd.R_append PAll.k40 (w0 := W) B hgd s x 23 40 (.agg #[(.int .i64 0), (.int .i64 0), (.int .i64 0)]) 24 ho Tryd.underlying23 PAll.info40 rfl (by decide) (by omega) v xs (⟨k, n, c⟩ : T) [.int .i64 k, .int .i64 n, .int .i64 c]
    (fun _ => True) (fun _ => False) hs hx (PAll.k40_mkM _ _ _ (⟨k, n, c⟩ : T)) (fun _ hk => hk.elim) (fun _ _ => trivial) HO (Below.refl _ _) hB (by omega) ?_
  intro v1 w1 h1 _ h3 h4
  exact h v1 w1 h1 h3 h4
end
/-- An error: none, one of the numbers, or one with its place. -/
inductive Er where
  | none
  | code (c : Int)
  | spot (at_ c : Int)
/-- How an error lies in memory, at B or behind. -/
def ErV (B : Nat) (w : World) (v : Value) : Er → Prop
  | .none => v = .nilIface
  | .code c => v = .iface 28 (.int .i64 c)
  | .spot a c => ∃ g, v = .iface 74 (.pointer (some ⟨g, 0, none⟩)) ∧ B ≤ g ∧ w.heap[g]? = some (.cells #[.int .i64 a, .int .i64 c] 76 (0, 0))
theorem ErV.keep {B : Nat} {w w' : World} {v : Value} {e : Er} (h : ErV B w v e) (hb : Below w.heap.size w w') : ErV B w' v e := by
  cases e with
  | none => exact h
  | code c => exact h
  | spot a c =>
    obtain ⟨g, h1, h2, h3⟩ := h
    exact ⟨g, h1, h2, (hb.block g (lt_of_block h3)).trans h3⟩
theorem ErV.base {B B' : Nat} {w : World} {v : Value} {e : Er} (h : ErV B w v e) (hB : B' ≤ B) : ErV B' w v e := by
  cases e with
  | none => exact h
  | code c => exact h
  | spot a c =>
    obtain ⟨g, h1, h2, h3⟩ := h
    exact ⟨g, h1, Nat.le_trans hB h2, h3⟩
end Go.Proofs.YtldcplgfkcionaaDoor
