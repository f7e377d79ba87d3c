/- Texts of this claim, merged (Reg, PX, Evl, Chp, Base, Post, Box2, Tok, Parsep, Takes, Exprp, Alone, Exprw, Tail). -/
import Derived.Test.YtikilglbhnplaaaGreatDoorProg
import Derived.WalkKit
import Derived.ProofKit
import Derived.LaidEql
import Derived.WideLaws
import Derived.KernelRfl
import Derived.Lib.Hide
import Derived.OneCell
import Derived.OpenShut
import Derived.Deep.Slices
import Derived.Deep.LoopGhost
import Derived.Deep.Draws
import Derived.ChangeOld
import Derived.Maps.AppendAt
import Derived.Laws.Rows
import Derived.Deep.QuietTactic
import Derived.BigQuiet
import Derived.Outline
import Derived.Deep.AppendLies
import Derived.StillTail
import Derived.Deep.Quiet
import Derived.Test.YtikilglbhnplaaaGreatDoorZMacroIdle1
import Derived.Test.YtikilglbhnplaaaGreatDoorZMacroIdle2
set_option linter.unusedVariables false
set_option linter.unusedSimpArgs false
set_option maxRecDepth 100000
set_option maxHeartbeats 8000000
section
namespace Go.Proofs.YtikilglbhnplaaaGreatDoorW.PrintLast
section
variable {P : Program} {ops : Array Oper} {Q : Exit → Act → World → Prop} {S : World → Prop} {ds : List Nat}
theorem nxt_ {t : Nat → Array Bool} {k : Nat} {N : Tmp} {oi : Oper} {v : Value} {fuel : Nat} {a : Act} {w : World} (hi : ops[k]? = some oi) (hN : oi.dst = some N) (hc : takeB .any ops ds (t k) (t (k + 1)) k = true)
  (hQ : ∀ c a w, Q (.panic c) (a.put oi.dst v) w → Q (.panic c) a w) (hy : YieldsIf P ops S oi v a) (hS : S w) {a' : Act} (ha : a.put (some N) v = a')
  (h : wpAnyLast P .any ops Q S ds fuel (t (k + 1)) a' w) : wpAnyLast P .any ops Q S ds (fuel + 1) (t k) a w := take_ (t (k + 1)) hi hN hc hQ hy hS ha h
theorem pxt_ {t : Nat → Array Bool} {k : Nat} {N : Tmp} {oi : Oper} {v : Value} {fuel : Nat} {a : Act} {w : World} (hi : ops[k]? = some oi) (hN : oi.dst = some N) (hc : anyB .any ops (t k) (t (k + 1)) k = true)
  (hQ : ∀ c a w, Q (.panic c) (a.put oi.dst v) w → Q (.panic c) a w) (hy : Yields P ops oi v a) {a' : Act} (ha : a.put (some N) v = a')
  (h : wpAnyLast P .any ops Q S ds fuel (t (k + 1)) a' w) : wpAnyLast P .any ops Q S ds (fuel + 1) (t k) a w := pure_ (t (k + 1)) hi hN hc hQ hy ha h
end
def tf7 (k : Nat) : Array Bool := #[Nat.blt 0 k, Nat.blt 1 k, Nat.blt 2 k, Nat.blt 3 k, Nat.blt 4 k, Nat.blt 5 k, Nat.blt 6 k]
def tf8 (k : Nat) : Array Bool := #[Nat.blt 0 k, Nat.blt 1 k, Nat.blt 2 k, Nat.blt 3 k, Nat.blt 4 k, Nat.blt 5 k, Nat.blt 6 k, Nat.blt 7 k]
def tf10 (k : Nat) : Array Bool := #[Nat.blt 0 k, Nat.blt 1 k, Nat.blt 2 k, Nat.blt 3 k, Nat.blt 4 k, Nat.blt 5 k, Nat.blt 6 k, Nat.blt 7 k, Nat.blt 8 k, Nat.blt 9 k]
def tf11 (k : Nat) : Array Bool := #[Nat.blt 0 k, Nat.blt 1 k, Nat.blt 2 k, Nat.blt 3 k, Nat.blt 4 k, Nat.blt 5 k, Nat.blt 6 k, Nat.blt 7 k, Nat.blt 8 k, Nat.blt 9 k, Nat.blt 10 k]
def tf12 (k : Nat) : Array Bool := #[Nat.blt 0 k, Nat.blt 1 k, Nat.blt 2 k, Nat.blt 3 k, Nat.blt 4 k, Nat.blt 5 k, Nat.blt 6 k, Nat.blt 7 k, Nat.blt 8 k, Nat.blt 9 k, Nat.blt 10 k, Nat.blt 11 k]
def tf13 (k : Nat) : Array Bool := #[Nat.blt 0 k, Nat.blt 1 k, Nat.blt 2 k, Nat.blt 3 k, Nat.blt 4 k, Nat.blt 5 k, Nat.blt 6 k, Nat.blt 7 k, Nat.blt 8 k, Nat.blt 9 k, Nat.blt 10 k, Nat.blt 11 k, Nat.blt 12 k]
def tf15 (k : Nat) : Array Bool := #[Nat.blt 0 k, Nat.blt 1 k, Nat.blt 2 k, Nat.blt 3 k, Nat.blt 4 k, Nat.blt 5 k, Nat.blt 6 k, Nat.blt 7 k, Nat.blt 8 k, Nat.blt 9 k, Nat.blt 10 k, Nat.blt 11 k, Nat.blt 12 k, Nat.blt 13 k, Nat.blt 14 k]
def tf16 (k : Nat) : Array Bool := #[Nat.blt 0 k, Nat.blt 1 k, Nat.blt 2 k, Nat.blt 3 k, Nat.blt 4 k, Nat.blt 5 k, Nat.blt 6 k, Nat.blt 7 k, Nat.blt 8 k, Nat.blt 9 k, Nat.blt 10 k, Nat.blt 11 k, Nat.blt 12 k, Nat.blt 13 k, Nat.blt 14 k, Nat.blt 15 k]
def tf17 (k : Nat) : Array Bool := #[Nat.blt 0 k, Nat.blt 1 k, Nat.blt 2 k, Nat.blt 3 k, Nat.blt 4 k, Nat.blt 5 k, Nat.blt 6 k, Nat.blt 7 k, Nat.blt 8 k, Nat.blt 9 k, Nat.blt 10 k, Nat.blt 11 k, Nat.blt 12 k, Nat.blt 13 k, Nat.blt 14 k, Nat.blt 15 k, Nat.blt 16 k]
def tf18 (k : Nat) : Array Bool := #[Nat.blt 0 k, Nat.blt 1 k, Nat.blt 2 k, Nat.blt 3 k, Nat.blt 4 k, Nat.blt 5 k, Nat.blt 6 k, Nat.blt 7 k, Nat.blt 8 k, Nat.blt 9 k, Nat.blt 10 k, Nat.blt 11 k, Nat.blt 12 k, Nat.blt 13 k, Nat.blt 14 k, Nat.blt 15 k, Nat.blt 16 k, Nat.blt 17 k]
def tf20 (k : Nat) : Array Bool := #[Nat.blt 0 k, Nat.blt 1 k, Nat.blt 2 k, Nat.blt 3 k, Nat.blt 4 k, Nat.blt 5 k, Nat.blt 6 k, Nat.blt 7 k, Nat.blt 8 k, Nat.blt 9 k, Nat.blt 10 k, Nat.blt 11 k, Nat.blt 12 k, Nat.blt 13 k, Nat.blt 14 k, Nat.blt 15 k, Nat.blt 16 k, Nat.blt 17 k, Nat.blt 18 k, Nat.blt 19 k]
def tf21 (k : Nat) : Array Bool := #[Nat.blt 0 k, Nat.blt 1 k, Nat.blt 2 k, Nat.blt 3 k, Nat.blt 4 k, Nat.blt 5 k, Nat.blt 6 k, Nat.blt 7 k, Nat.blt 8 k, Nat.blt 9 k, Nat.blt 10 k, Nat.blt 11 k, Nat.blt 12 k, Nat.blt 13 k, Nat.blt 14 k, Nat.blt 15 k, Nat.blt 16 k, Nat.blt 17 k, Nat.blt 18 k, Nat.blt 19 k, Nat.blt 20 k]
def tf22 (k : Nat) : Array Bool := #[Nat.blt 0 k, Nat.blt 1 k, Nat.blt 2 k, Nat.blt 3 k, Nat.blt 4 k, Nat.blt 5 k, Nat.blt 6 k, Nat.blt 7 k, Nat.blt 8 k, Nat.blt 9 k, Nat.blt 10 k, Nat.blt 11 k, Nat.blt 12 k, Nat.blt 13 k, Nat.blt 14 k, Nat.blt 15 k, Nat.blt 16 k, Nat.blt 17 k, Nat.blt 18 k, Nat.blt 19 k, Nat.blt 20 k, Nat.blt 21 k]
def tf26 (k : Nat) : Array Bool := #[Nat.blt 0 k, Nat.blt 1 k, Nat.blt 2 k, Nat.blt 3 k, Nat.blt 4 k, Nat.blt 5 k, Nat.blt 6 k, Nat.blt 7 k, Nat.blt 8 k, Nat.blt 9 k, Nat.blt 10 k, Nat.blt 11 k, Nat.blt 12 k, Nat.blt 13 k, Nat.blt 14 k, Nat.blt 15 k, Nat.blt 16 k, Nat.blt 17 k, Nat.blt 18 k, Nat.blt 19 k, Nat.blt 20 k, Nat.blt 21 k, Nat.blt 22 k, Nat.blt 23 k, Nat.blt 24 k, Nat.blt 25 k]
def tf27 (k : Nat) : Array Bool := #[Nat.blt 0 k, Nat.blt 1 k, Nat.blt 2 k, Nat.blt 3 k, Nat.blt 4 k, Nat.blt 5 k, Nat.blt 6 k, Nat.blt 7 k, Nat.blt 8 k, Nat.blt 9 k, Nat.blt 10 k, Nat.blt 11 k, Nat.blt 12 k, Nat.blt 13 k, Nat.blt 14 k, Nat.blt 15 k, Nat.blt 16 k, Nat.blt 17 k, Nat.blt 18 k, Nat.blt 19 k, Nat.blt 20 k, Nat.blt 21 k, Nat.blt 22 k, Nat.blt 23 k, Nat.blt 24 k, Nat.blt 25 k, Nat.blt 26 k]
def bm7 (m : Nat) : Array Bool := #[m.testBit 0, m.testBit 1, m.testBit 2, m.testBit 3, m.testBit 4, m.testBit 5, m.testBit 6]
def bm10 (m : Nat) : Array Bool := #[m.testBit 0, m.testBit 1, m.testBit 2, m.testBit 3, m.testBit 4, m.testBit 5, m.testBit 6, m.testBit 7, m.testBit 8, m.testBit 9]
def bm15 (m : Nat) : Array Bool := #[m.testBit 0, m.testBit 1, m.testBit 2, m.testBit 3, m.testBit 4, m.testBit 5, m.testBit 6, m.testBit 7, m.testBit 8, m.testBit 9, m.testBit 10, m.testBit 11, m.testBit 12, m.testBit 13, m.testBit 14]
def bm16 (m : Nat) : Array Bool := #[m.testBit 0, m.testBit 1, m.testBit 2, m.testBit 3, m.testBit 4, m.testBit 5, m.testBit 6, m.testBit 7, m.testBit 8, m.testBit 9, m.testBit 10, m.testBit 11, m.testBit 12, m.testBit 13, m.testBit 14, m.testBit 15]
def bm18 (m : Nat) : Array Bool := #[m.testBit 0, m.testBit 1, m.testBit 2, m.testBit 3, m.testBit 4, m.testBit 5, m.testBit 6, m.testBit 7, m.testBit 8, m.testBit 9, m.testBit 10, m.testBit 11, m.testBit 12, m.testBit 13, m.testBit 14, m.testBit 15, m.testBit 16, m.testBit 17]
def bm20 (m : Nat) : Array Bool := #[m.testBit 0, m.testBit 1, m.testBit 2, m.testBit 3, m.testBit 4, m.testBit 5, m.testBit 6, m.testBit 7, m.testBit 8, m.testBit 9, m.testBit 10, m.testBit 11, m.testBit 12, m.testBit 13, m.testBit 14, m.testBit 15, m.testBit 16, m.testBit 17, m.testBit 18, m.testBit 19]
def bm22 (m : Nat) : Array Bool := #[m.testBit 0, m.testBit 1, m.testBit 2, m.testBit 3, m.testBit 4, m.testBit 5, m.testBit 6, m.testBit 7, m.testBit 8, m.testBit 9, m.testBit 10, m.testBit 11, m.testBit 12, m.testBit 13, m.testBit 14, m.testBit 15, m.testBit 16, m.testBit 17, m.testBit 18, m.testBit 19, m.testBit 20, m.testBit 21]
def bm27 (m : Nat) : Array Bool := #[m.testBit 0, m.testBit 1, m.testBit 2, m.testBit 3, m.testBit 4, m.testBit 5, m.testBit 6, m.testBit 7, m.testBit 8, m.testBit 9, m.testBit 10, m.testBit 11, m.testBit 12, m.testBit 13, m.testBit 14, m.testBit 15, m.testBit 16, m.testBit 17, m.testBit 18, m.testBit 19, m.testBit 20, m.testBit 21, m.testBit 22, m.testBit 23, m.testBit 24, m.testBit 25, m.testBit 26]
end Go.Proofs.YtikilglbhnplaaaGreatDoorW.PrintLast
end
section
namespace Go.Proofs.YtikilglbhnplaaaGreatDoor.PX
abbrev T := PAll.S131
abbrev V := Int × Int
end Go.Proofs.YtikilglbhnplaaaGreatDoor.PX
end
section
namespace Go.Proofs.YtikilglbhnplaaaGreatDoor
open Go.RowKit PX Go.Proofs.YtikilglbhnplaaaGreatDoorW.PrintWords
theorem ev_pos {α : Type} {c : Prop} [Decidable c] {g f : Nat → Option α} {r : α} (h : c) (k : Ev g r) : Ev (fun n => if c then g n else f n) r := by
 obtain ⟨K, hK⟩ := k
 exact ⟨K, fun n hn => by simp only [if_pos h]; exact hK n hn⟩
theorem ev_neg {α : Type} {c : Prop} [Decidable c] {g f : Nat → Option α} {r : α} (h : ¬ c) (k : Ev f r) : Ev (fun n => if c then g n else f n) r := by
 obtain ⟨K, hK⟩ := k
 exact ⟨K, fun n hn => by simp only [if_neg h]; exact hK n hn⟩
theorem w64 {x : Int} (h0 : -9223372036854775808 ≤ x) (h1 : x ≤ 9223372036854775807) : wrap64 x = x := by unfold wrap64; omega
end Go.Proofs.YtikilglbhnplaaaGreatDoor
end
section
namespace Go.Proofs.YtikilglbhnplaaaGreatDoor
open Go.RowKit PX Go.Proofs.YtikilglbhnplaaaGreatDoorW.PrintWords
abbrev Sta := PAll.S66
abbrev Tra := PAll.S63
def histP (k : Int) : Bool := k == 5 || k == 6
def inF (st : List Sta) : Nat → Int → Int → Bool
 | 0, _, _ => false
 | f + 1, s, b => if s > b ∧ 0 < s ∧ s < (st.length : Int) then (if (PAll.rd_T66 st s).f1 ≥ s then false else if (PAll.rd_T66 st s).f1 = b then true else inF st f (PAll.rd_T66 st s).f1 b) else false
def inC (st : List Sta) (s b : Int) : Bool := inF st s.toNat s b
theorem inF_two (st : List Sta) (b : Int) (n : Nat) : ∀ (p : Int) (f g : Nat), p.toNat ≤ n → p.toNat ≤ f → p.toNat ≤ g → inF st f p b = inF st g p b := by
 induction n with
 | zero =>
  intro p f g h _ _
  have no : ¬ (p > b ∧ 0 < p ∧ p < (st.length : Int)) := by omega
  cases f <;> cases g <;> simp only [inF, if_neg no]
 | succ n ih =>
  intro p f g h hf hg
  by_cases hc : p > b ∧ 0 < p ∧ p < (st.length : Int)
  ·obtain ⟨f, rfl⟩ : ∃ m, f = m + 1 := ⟨f - 1, by omega⟩
   obtain ⟨g, rfl⟩ : ∃ m, g = m + 1 := ⟨g - 1, by omega⟩
   simp only [inF, if_pos hc]
   by_cases h2 : (PAll.rd_T66 st p).f1 ≥ p
   ·rw [if_pos h2, if_pos h2]
   ·rw [if_neg h2, if_neg h2, ih (PAll.rd_T66 st p).f1 f g (by omega) (by omega) (by omega)]
  ·cases f <;> cases g <;> simp only [inF, if_neg hc]
theorem inC_eq (st : List Sta) (s b : Int) : inC st s b = if s > b ∧ 0 < s ∧ s < (st.length : Int) then (if (PAll.rd_T66 st s).f1 ≥ s then false else if (PAll.rd_T66 st s).f1 = b then true else inC st (PAll.rd_T66 st s).f1 b) else false := by
 unfold inC
 by_cases hc : s > b ∧ 0 < s ∧ s < (st.length : Int)
 ·obtain ⟨m, hm⟩ : ∃ m, s.toNat = m + 1 := ⟨s.toNat - 1, by omega⟩
  rw [hm]
  simp only [inF, if_pos hc]
  by_cases h2 : (PAll.rd_T66 st s).f1 ≥ s
  ·rw [if_pos h2, if_pos h2]
  ·rw [if_neg h2, if_neg h2, inF_two st b m (PAll.rd_T66 st s).f1 m (PAll.rd_T66 st s).f1.toNat (by omega) (by omega) (Nat.le_refl _)]
 ·rw [if_neg hc]
  cases s.toNat <;> simp only [inF, if_neg hc]
theorem inC_lt {st : List Sta} {s b : Int} (h : inC st s b = true) : b < s ∧ 0 < s ∧ s < (st.length : Int) := by
 rw [inC_eq] at h
 split at h
 ·omega
 ·cases h
def parP (st : List Sta) (i : Int) : Int :=
 if i = 0 then (if (PAll.rd_T66 st i).f1 = -1 then 0 else 1)
 else if (PAll.rd_T66 st i).f1 < 0 then 1
 else if (PAll.rd_T66 st i).f1 ≠ i - 1 ∧ inC st (i - 1) (PAll.rd_T66 st i).f1 = false then 1
 else if (PAll.rd_T66 st (PAll.rd_T66 st i).f1).f0 = 2 then (if (PAll.rd_T66 st i).f1 = 0 ∧ histP (PAll.rd_T66 st i).f0 = true then 10 else 0)
 else if (PAll.rd_T66 st (PAll.rd_T66 st i).f1).f0 = 3 then (if (PAll.rd_T66 st i).f0 = 4 then 10 else if (PAll.rd_T66 st i).f1 = 0 ∧ histP (PAll.rd_T66 st i).f0 = true then 10 else 0)
 else 10
def iniP (st : List Sta) (i : Int) : Bool :=
 if (PAll.rd_T66 st i).f0 ≠ 2 ∧ histP (PAll.rd_T66 st i).f0 = false then ((PAll.rd_T66 st i).f2.length : Int) == 0
 else if ((PAll.rd_T66 st i).f2.length : Int) ≠ 1 then false
 else if ¬ (0 ≤ rd (PAll.rd_T66 st i).f2 0 ∧ rd (PAll.rd_T66 st i).f2 0 < (st.length : Int)) then false
 else if histP (PAll.rd_T66 st (rd (PAll.rd_T66 st i).f2 0)).f0 = true then false
 else if (PAll.rd_T66 st i).f0 = 2 then inC st (rd (PAll.rd_T66 st i).f2 0) i
 else if (PAll.rd_T66 st i).f0 = 5 then (PAll.rd_T66 st (rd (PAll.rd_T66 st i).f2 0)).f1 == (PAll.rd_T66 st i).f1
 else inC st (rd (PAll.rd_T66 st i).f2 0) (PAll.rd_T66 st i).f1
def Ahead (st : List Sta) : Prop := ∀ i : Int, 0 ≤ i → i < (st.length : Int) → (PAll.rd_T66 st i).f1 < i ∧ (0 < i → 0 ≤ (PAll.rd_T66 st i).f1) ∧ (i = 0 → histP (PAll.rd_T66 st i).f0 = false)
def ownP (st : List Sta) (s : Int) : Int := if histP (PAll.rd_T66 st s).f0 = true then (PAll.rd_T66 st s).f1 else s
theorem own_in {st : List Sta} (ha : Ahead st) {s : Int} (h0 : 0 ≤ s) (h1 : s < (st.length : Int)) : 0 ≤ ownP st s ∧ ownP st s < (st.length : Int) := by
 obtain ⟨a1, a2, a3⟩ := ha s h0 h1
 unfold ownP
 split
 ·rename_i h
  by_cases hz : s = 0
  ·rw [a3 hz] at h; cases h
  ·have := a2 (by omega); omega
 ·omega
def innF (st : List Sta) : Nat → Int → Int → Int
 | 0, _, _ => -1
 | f + 1, s, b => if s ≥ 0 then (if inC st b s = true then s else innF st f (PAll.rd_T66 st s).f1 b) else -1
def innP (st : List Sta) (a b : Int) : Int := innF st (st.length + 1) (PAll.rd_T66 st a).f1 b
theorem innF_lt {st : List Sta} (ha : Ahead st) (b : Int) (f : Nat) : ∀ s : Int, s < (st.length : Int) → innF st f s b < (st.length : Int) := by
 induction f with
 | zero => intro s h2; simp only [innF]; omega
 | succ f ih =>
  intro s h2
  simp only [innF]
  by_cases h0 : s ≥ 0
  ·rw [if_pos h0]
   have := (ha s h0 h2).1
   split
   ·exact h2
   ·exact ih _ (by omega)
  ·rw [if_neg h0]; omega
theorem inn_lt {st : List Sta} (ha : Ahead st) (a b : Int) (h0 : 0 ≤ a) (h1 : a < (st.length : Int)) : innP st a b < (st.length : Int) := innF_lt ha b _ _ (by have := (ha a h0 h1).1; omega)
def pairP (st : List Sta) (a b0 : Int) : Bool :=
 decide (a ≠ ownP st b0) && !inC st a (ownP st b0) && !inC st (ownP st b0) a && decide (0 ≤ innP st a (ownP st b0)) && decide ((PAll.rd_T66 st (innP st a (ownP st b0))).f0 = 3)
def tgtF (st : List Sta) : List Int → List Int → Bool
 | _, [] => true
 | pre, a :: suf => if a = 0 ∨ ¬ (0 ≤ a ∧ a < (st.length : Int)) then false else if pre.all (pairP st (ownP st a)) = true then tgtF st (pre ++ [a]) suf else false
def tgtP (st : List Sta) (l : List Int) : Bool := if (l.length : Int) > 3 then false else tgtF st [] l
def kidsF (s : Int) : List Sta → Int → List Int
 | [], _ => []
 | x :: l, i => if x.f1 = s ∧ histP x.f0 = false then i :: kidsF s l (i + 1) else kidsF s l (i + 1)
def kidsP (st : List Sta) (s : Int) : List Int := kidsF s st 0
end Go.Proofs.YtikilglbhnplaaaGreatDoor
end
section
namespace Go
section
variable {P : Program} (w : World)
theorem run_equalIn_iface_int (d : Nat) {ti tn : TypeId} {ms : Array (String × TypeId)} {i : TypeInfo} {k : IntKind} (a b : Int)
  (hi : P.underlying ti = some (.interface ms)) (hn : P.underlying tn = some (.int k)) (hinfo : P.info? tn = some i) (hcomp : i.comparable = true) :
  (Op.equalIn (d + 2) ti (.iface tn (.int k a)) (.iface tn (.int k b))).run P w = .ok (a == b) w := by
 simp [Op.equalIn, run_underlying hi, run_underlying hn, typeInfo, hinfo, hcomp]
theorem run_eql_iface_int {ti tn : TypeId} {ms : Array (String × TypeId)} {i : TypeInfo} {k : IntKind} (a b : Int)
  (hi : P.underlying ti = some (.interface ms)) (hn : P.underlying tn = some (.int k)) (hinfo : P.info? tn = some i) (hcomp : i.comparable = true) :
  (binOp .eql ti (.iface tn (.int k a)) (.iface tn (.int k b))).run P w = .ok (.bool (a == b)) w := by
 simp only [binOp]
 simp [Op.equal, Op.maxDepth, run_equalIn_iface_int w 9998 a b hi hn hinfo hcomp]
theorem run_neq_iface_nil_left {ti : TypeId} {ms : Array (String × TypeId)} (tp : TypeId) (v : Value) (hi : P.underlying ti = some (.interface ms)) :
  (binOp .neq ti .nilIface (.iface tp v)).run P w = .ok (.bool true) w := by
 have h : ∀ d : Nat, (Op.equalIn (d + 1) ti .nilIface (.iface tp v)).run P w = .ok false w := fun d => by simp [Op.equalIn, run_underlying hi]
 simp only [binOp]
 simp [Op.equal, Op.maxDepth, h 9999]
end
end Go
namespace Go.Proofs.YtikilglbhnplaaaGreatDoor
open Go.RowKit
theorem ret_int {k : IntKind} {a b : Int} (h : a = b) : Ending.returned (.int k a) = .returned (.int k b) := by rw [h]
theorem ret_bool {a b : Bool} (h : a = b) : Ending.returned (.bool a) = .returned (.bool b) := by rw [h]
structure Chg (S : Nat → Prop) (w w' : World) : Prop where
 os : w'.os = w.os
 tape : w'.tape = w.tape
 output : w'.output = w.output
 size : w.heap.size ≤ w'.heap.size
 block : ∀ k, k < w.heap.size → ¬ S k → w'.heap[k]? = w.heap[k]?
namespace Chg
variable {S S' : Nat → Prop} {a b c : World}
theorem refl (S : Nat → Prop) (w : World) : Chg S w w := ⟨rfl, rfl, rfl, Nat.le_refl _, fun _ _ _ => rfl⟩
theorem trans' (h : Chg S a b) (k : Chg S' b c) (hS : ∀ i, i < a.heap.size → S' i → S i) : Chg S a c :=
 ⟨k.os.trans h.os, k.tape.trans h.tape, k.output.trans h.output, Nat.le_trans h.size k.size,
  fun i hi hs => (k.block i (Nat.lt_of_lt_of_le hi h.size) (fun e => hs (hS i hi e))).trans (h.block i hi hs)⟩
theorem trans (h : Chg S a b) (k : Chg S b c) : Chg S a c := h.trans' k fun _ _ h => h
theorem drew (h : Chg S a b) : Chg S a b.drew := ⟨h.os, h.tape, h.output, h.size, h.block⟩
theorem drewN (h : Chg S a b) (n : Nat) : Chg S a (b.drewN n) := ⟨h.os, h.tape, h.output, h.size, h.block⟩
theorem alloc (h : Chg S a b) (o : Obj) : Chg S a (b.alloc o) :=
 h.trans ⟨rfl, rfl, rfl, by simp, fun k hk _ => Below.heap_alloc _ _ _ hk⟩
theorem setCell (h : Chg S a b) {p : Addr} (hp : p.block < a.heap.size → S p.block) (u : Value) : Chg S a (b.setCell p u) :=
 ⟨h.os, h.tape, h.output, Nat.le_trans h.size (by simp [World.setCell]), fun k hk hs => by
  rw [Below.heap_setCell _ _ _ _ (fun e => by subst e; exact hs (hp hk))]; exact h.block k hk hs⟩
theorem below {B : Nat} (h : Chg S a b) (hB : B ≤ a.heap.size) (hS : ∀ k, k < B → ¬ S k) : Below B a b :=
 ⟨h.os, h.tape, h.output, h.size, fun k hk => h.block k (Nat.lt_of_lt_of_le hk hB) (hS k hk)⟩
theorem of_below (h : Below a.heap.size a b) : Chg S a b := ⟨h.os, h.tape, h.output, h.size, fun k hk _ => h.block k hk⟩
theorem of_grown {row : Option Nat} (h : a.grownBy b row) (hS : ∀ k, row = some k → k < a.heap.size → S k) : Chg S a b :=
 ⟨h.os, h.tape, h.output, h.size, fun k hk hs => h.block k hk fun e => hs (hS k e.symm hk)⟩
theorem blk (h : Chg S a b) {g : Nat} {o : Obj} (hg : a.heap[g]? = some o) (hs : ¬ S g) : b.heap[g]? = some o :=
 (h.block g (lt_of_block hg) hs).trans hg
theorem cell (h : Chg S a b) {p : Addr} (hp : p.block < a.heap.size) (hs : ¬ S p.block) : b.cell? p = a.cell? p := World.cell?_of_block (w := a) (h.block p.block hp hs)
end Chg
theorem blk_drewN {w : World} {g : Nat} {o : Obj} (n : Nat) (h : w.heap[g]? = some o) : (w.drewN n).heap[g]? = some o := h
theorem blk_drew {w : World} {g : Nat} {o : Obj} (h : w.heap[g]? = some o) : w.drew.heap[g]? = some o := h
theorem blk_alloc {w : World} {g : Nat} {o : Obj} (o' : Obj) (h : w.heap[g]? = some o) : (w.alloc o').heap[g]? = some o :=
 (Below.heap_alloc _ _ _ (lt_of_block h)).trans h
theorem blk_new (w : World) (o : Obj) : (w.alloc o).heap[w.heap.size]? = some o := heap_alloc_new w o
theorem blk_far {w : World} {g : Nat} {o : Obj} {p : Addr} (h : w.heap[g]? = some o) (hp : g ≠ p.block) (u : Value) : (w.setCell p u).heap[g]? = some o := (Below.heap_setCell w p u g hp).trans h
theorem blk_set {w : World} {g : Nat} {t : TypeId} {cs : Array Value} {fr : Nat × Nat} (h : w.heap[g]? = some (.cells cs t fr)) (i : Nat) (u : Value) :
  (w.setCell ⟨g, i, none⟩ u).heap[g]? = some (.cells (cs.setIfInBounds i u) t fr) := by
 have hlt := lt_of_block h
 have h' : w.heap[g] = .cells cs t fr := by simpa [Array.getElem?_eq_getElem hlt] using h
 show (w.heap.modify g _)[g]? = _
 rw [Array.getElem?_eq_getElem (by simpa using hlt), Array.getElem_modify_self, h']
 rfl
theorem blk_cell {w : World} {g : Nat} {t : TypeId} {cs : Array Value} {fr : Nat × Nat} (h : w.heap[g]? = some (.cells cs t fr)) (i : Nat) : w.cell? ⟨g, i, none⟩ = cs[i]? := by
 simp [World.cell?, h]
theorem blk_free {w : World} {g : Nat} {t : TypeId} {cs : Array Value} (h : w.heap[g]? = some (.cells cs t (0, 0))) (i : Nat) : w.frozen? ⟨g, i, none⟩ = false := by simp [World.frozen?, h]
structure Rep (α : Type) where
 size : Nat
 ok : (Nat → Prop) → World → List Value → α → Prop
 mono : ∀ {F F' : Nat → Prop} {w w' : World} {cs : List Value} {x : α}, (∀ b, F b → F' b) → (∀ b, F b → b < w.heap.size → w'.heap[b]? = w.heap[b]?) → ok F w cs x → ok F' w' cs x
def Rep.unit : Rep Unit := ⟨0, fun _ _ cs _ => cs = [], fun _ _ h => h⟩
def Rep.int (k : IntKind) : Rep Int := ⟨1, fun _ _ cs x => cs = [.int k x] ∧ (Lit.int k x).wf = true, fun _ _ h => h⟩
def Rep.bool : Rep Bool := ⟨1, fun _ _ cs x => cs = [.bool x], fun _ _ h => h⟩
def Rep.str : Rep ByteArray := ⟨1, fun _ _ cs x => cs = [.string x] ∧ x.size ≤ maxLen, fun _ _ h => h⟩
def Rep.pair {α β : Type} (R : Rep α) (S : Rep β) : Rep (α × β) :=
 ⟨R.size + S.size, fun F w cs x => ∃ c d, cs = c ++ d ∧ c.length = R.size ∧ R.ok F w c x.1 ∧ S.ok F w d x.2,
  fun hF hw ⟨c, d, h1, h2, h3, h4⟩ => ⟨c, d, h1, h2, R.mono hF hw h3, S.mono hF hw h4⟩⟩
theorem cell_agree {w w' : World} {b : Nat} (h : b < w.heap.size → w'.heap[b]? = w.heap[b]?) {o : Nat} {v : Value} (hc : w.cell? ⟨b, o, none⟩ = some v) : w'.cell? ⟨b, o, none⟩ = some v := by
 have hlt := World.block_lt_of_cell? w _ hc
 exact (World.cell?_of_block (w := w) (a := ⟨b, o, none⟩) (h hlt)).trans hc
def Rep.slice {α : Type} (R : Rep α) : Rep (List α) :=
 ⟨1, fun F w cs xs => (∃ a cap, cs = [.slice a 0 cap] ∧ xs = []) ∨
   ∃ b off cap, cs = [.slice (some ⟨b, off, none⟩) xs.length cap] ∧ F b ∧ b < w.heap.size ∧ xs ≠ [] ∧ xs.length ≤ cap ∧ cap ≤ maxLen ∧
    ∀ i (h : i < xs.length), ∃ c : List Value, c.length = R.size ∧ (∀ j (hj : j < c.length), w.cell? ⟨b, off + i * R.size + j, none⟩ = some c[j]) ∧ R.ok F w c xs[i],
  fun {F F' w w' cs xs} hF hw h => by
  rcases h with h | ⟨b, off, cap, h1, h2, hlt, h3, h4, h5, h6⟩
  ·exact .inl h
  ·refine .inr ⟨b, off, cap, h1, hF b h2, ?_, h3, h4, h5, fun i hi => ?_⟩
   ·have := hw b h2 hlt
    rw [Array.getElem?_eq_getElem hlt] at this
    exact lt_of_block this
   obtain ⟨c, hc, hcell, hok⟩ := h6 i hi
   exact ⟨c, hc, fun j hj => cell_agree (hw b h2) (hcell j hj), R.mono hF hw hok⟩⟩
theorem Rep.slice_open {α : Type} {R : Rep α} {F : Nat → Prop} {w : World} {v : Value} {xs : List α} (h : R.slice.ok F w [v] xs) :
  ∃ A cap, v = .slice A xs.length cap ∧ (0 < xs.length → ∃ b off, A = some ⟨b, off, none⟩ ∧ F b ∧ b < w.heap.size ∧ xs.length ≤ cap ∧ cap ≤ maxLen ∧
   ∀ i (h : i < xs.length), ∃ c : List Value, c.length = R.size ∧ (∀ j (hj : j < c.length), w.cell? ⟨b, off + i * R.size + j, none⟩ = some c[j]) ∧ R.ok F w c xs[i]) := by
 rcases h with ⟨a, cap, h1, rfl⟩ | ⟨b, off, cap, h1, h2, hlt, h3, h4, h5, h6⟩
 ·obtain rfl : v = .slice a 0 cap := by simpa using h1
  exact ⟨a, cap, rfl, fun h => by simp at h⟩
 ·obtain rfl : v = .slice (some ⟨b, off, none⟩) xs.length cap := by simpa using h1
  exact ⟨_, cap, rfl, fun h0 => ⟨b, off, rfl, h2, hlt, h4, h5, h6⟩⟩
def Reads {α : Type} (P : Program) (t : TypeId) (R : Rep α) : Prop :=
 R.size = P.cellsOf t ∧ ∀ {H : Type} (enc : TypeId × Value → H) (w : World) (fuel : Nat) (cs : List Value) (d : DataW H × List MemPlace),
  DataW.trod enc P w 0 (fun _ => true) true fuel t cs = some d → ∃ x, R.ok (fun b => b < w.heap.size) w cs x ∧ cs.length = R.size
theorem reads_int {P : Program} {t : TypeId} {k : IntKind} (ht : P.underlying t = some (.int k)) (hs : P.cellsOf t = 1) : Reads P t (Rep.int k) := by
 refine ⟨hs.symm, fun enc w fuel cs d h => ?_⟩
 obtain ⟨n, rfl, _, hw⟩ := DataW.trod_int ht h
 exact ⟨n, ⟨rfl, hw⟩, rfl⟩
theorem reads_bool {P : Program} {t : TypeId} (ht : P.underlying t = some .bool) (hs : P.cellsOf t = 1) : Reads P t Rep.bool := by
 refine ⟨hs.symm, fun enc w fuel cs d h => ?_⟩
 obtain ⟨b, rfl, _⟩ := DataW.trod_bool ht h
 exact ⟨b, rfl, rfl⟩
theorem reads_str {P : Program} {t : TypeId} (ht : P.underlying t = some .string) (hs : P.cellsOf t = 1) : Reads P t Rep.str := by
 refine ⟨hs.symm, fun enc w fuel cs d h => ?_⟩
 obtain ⟨b, rfl, _, hw⟩ := DataW.trod_string ht h
 exact ⟨b, ⟨rfl, hw⟩, rfl⟩
def FieldsOk {α : Type} (P : Program) (o : Nat) (fs : List Field) (R : Rep α) : Prop :=
 ∀ {H : Type} (enc : TypeId × Value → H) (w : World) (fuel : Nat) (cs : List Value),
  (∀ f, f ∈ fs → ∃ d, DataW.trod enc P w 0 (fun _ => true) true fuel f.type ((cs.drop f.offset).take (P.cellsOf f.type)) = some d) → o + R.size ≤ cs.length →
  ∃ x, R.ok (fun b => b < w.heap.size) w ((cs.drop o).take R.size) x
theorem fields_nil (P : Program) (o : Nat) : FieldsOk P o [] Rep.unit := fun enc w fuel cs _ _ => ⟨(), by simp [Rep.unit]⟩
theorem fields_cons {α β : Type} {P : Program} {o : Nat} {f : Field} {fs : List Field} {R : Rep α} {S : Rep β} (hf : f.offset = o) (hR : Reads P f.type R) (hS : FieldsOk P (o + R.size) fs S) :
  FieldsOk P o (f :: fs) (R.pair S) := by
 intro H enc w fuel cs h hl
 have hl' : o + (R.size + S.size) ≤ cs.length := hl
 obtain ⟨d, hd⟩ := h f (by simp)
 obtain ⟨x, hx, hlen⟩ := hR.2 enc w fuel _ d hd
 obtain ⟨y, hy⟩ := hS enc w fuel cs (fun g hg => h g (by simp [hg])) (by omega)
 rw [hf, ← hR.1] at hx hlen
 refine ⟨(x, y), (cs.drop o).take R.size, (cs.drop (o + R.size)).take S.size, ?_, hlen, hx, hy⟩
 show (cs.drop o).take (R.size + S.size) = _
 rw [List.take_add, List.drop_drop]
theorem reads_struct {α : Type} {P : Program} {t : TypeId} {fs : Array Field} {R : Rep α} (ht : P.underlying t = some (.struct fs)) (hf : FieldsOk P 0 fs.toList R) (hs : R.size = P.cellsOf t) : Reads P t R := by
 refine ⟨hs, fun enc w fuel cs d h => ?_⟩
 obtain ⟨xs, n, rfl, rfl, hl, hxs, hfs⟩ := DataW.trod_struct ht h
 obtain ⟨x, hx⟩ := hf enc w n cs (fun f hfm => by
  obtain ⟨i, hi⟩ := List.mem_iff_getElem?.1 hfm
  have hi' : fs[i]? = some f := by simpa using hi
  have hlt : i < fs.size := (Array.getElem?_eq_some_iff.1 hi').1
  have hlt' : i < xs.length := by omega
  exact ⟨xs[i], (hfs i f hi').trans (List.getElem?_eq_getElem hlt')⟩) (by omega)
 refine ⟨x, ?_, by omega⟩
 rw [List.drop_zero, List.take_of_length_le (by omega)] at hx
 exact hx
theorem choose_list {α : Type} (n : Nat) (p : Nat → α → Prop) (h : ∀ i, i < n → ∃ x, p i x) : ∃ xs : List α, xs.length = n ∧ ∀ i (hi : i < xs.length), p i xs[i] := by
 induction n with
 | zero => exact ⟨[], rfl, fun i hi => by simp at hi⟩
 | succ n ih =>
  obtain ⟨xs, hl, hxs⟩ := ih fun i hi => h i (by omega)
  obtain ⟨x, hx⟩ := h n (by omega)
  refine ⟨xs ++ [x], by simp [hl], fun i hi => ?_⟩
  by_cases hin : i < xs.length
  ·rw [List.getElem_append_left hin]; exact hxs i hin
  ·have : i = n := by simp at hi; omega
   subst this
   rw [List.getElem_append_right (by omega)]; simpa using hx
theorem spot_of_cell {w : World} {a : Addr} {v : Value} (h : w.cell? a = some v) : a.spot = none := by
 unfold World.cell? at h
 split at h
 ·split at h
  ·cases h
  ·rename_i hs; simpa using hs
 ·cases h
theorem add_at (b off n : Nat) : (⟨b, off, none⟩ : Addr).add n = ⟨b, off + n, none⟩ := by
 unfold Addr.add; split <;> simp_all
theorem reads_slice {α : Type} {P : Program} {t e : TypeId} {R : Rep α} (ht : P.underlying t = some (.slice e)) (hs : P.cellsOf t = 1) (he : Reads P e R) (hpos : 0 < R.size) : Reads P t R.slice := by
 refine ⟨hs.symm, fun enc w fuel cs d h => ?_⟩
 rcases DataW.trod_slice ht h with ⟨rfl, _⟩ | ⟨a, len, cap, elems, rest, n, rfl, rfl, _, _, hle, hcap, hlen, hel, _, _⟩
 ·exact ⟨[], .inl ⟨none, 0, rfl, rfl⟩, rfl⟩
 ·by_cases h0 : len = 0
  ·subst h0
   exact ⟨[], .inl ⟨some a, cap, rfl, rfl⟩, rfl⟩
  have key : ∀ i, i < len → ∃ x : α, ∃ c : List Value, c.length = R.size ∧ (∀ j (hj : j < c.length), w.cell? (a.add (i * R.size) |>.add j) = some c[j]) ∧ R.ok (fun b => b < w.heap.size) w c x := by
   intro i hi
   have := hel i hi
   rw [List.getElem?_eq_getElem (by omega)] at this
   obtain ⟨c, hc, hd⟩ := Option.bind_eq_some_iff.1 this
   obtain ⟨x, hx, hl⟩ := he.2 enc w n c _ hd
   obtain ⟨_, hl2, hcell⟩ := World.cells?_some hc
   refine ⟨x, c, hl, fun j hj => ?_, hx⟩
   rw [he.1, hcell j (by omega)]
   exact List.getElem?_eq_getElem hj
  obtain ⟨x0, c0, hc0, hcell0, _⟩ := key 0 (by omega)
  have hsp := hcell0 0 (by omega)
  have hblk := World.block_lt_of_cell? w _ hsp
  have hspot : a.spot = none := by
   have := spot_of_cell hsp
   simpa [Addr.add] using this
  obtain ⟨b, off, spot⟩ := a
  obtain rfl : spot = none := hspot
  simp only [add_at] at key hblk
  obtain ⟨xs, hxl, hxs⟩ := choose_list len _ key
  refine ⟨xs, .inr ⟨b, off, cap, by rw [hxl], hblk, hblk, fun e => by subst e; simp at hxl; omega, by omega, hcap, fun i hi => ?_⟩, rfl⟩
  exact hxs i hi
theorem own_shape {w : World} {B : Nat} {e : TypeId} {size n : Nat} {v : Value} {xs : List Value} (h : w.ownsRow B e size v n xs) (hn : 0 < n) :
  ∃ g cap, v = .slice (some ⟨g, 0, none⟩) n cap ∧ B ≤ g ∧ g < w.heap.size ∧ n ≤ cap ∧ cap ≤ maxLen ∧ (∀ j u, xs[j]? = some u → w.cell? ⟨g, j, none⟩ = some u) ∧ ∀ j, w.frozen? ⟨g, j, none⟩ = false := by
 obtain ⟨hl, ⟨rfl, rfl⟩ | ⟨g, cap, cur, rfl, hB, hg, hc, hm, hs, ht⟩⟩ := h
 ·omega
 refine ⟨g, cap, rfl, hB, lt_of_block hg, hc, hm, fun j u hj => ?_, fun j => blk_free hg j⟩
 rw [blk_cell hg j, ← Array.getElem?_toList]
 have hjl : j < xs.length := (List.getElem?_eq_some_iff.1 hj).1
 rw [← ht] at hj
 rw [List.getElem?_take] at hj
 split at hj
 ·exact hj
 ·cases hj
theorem own_slice {w : World} {B : Nat} {e : TypeId} {size n : Nat} {v : Value} {xs : List Value} (h : w.ownsRow B e size v n xs) : ∃ A cap, v = .slice A n cap := by
 obtain ⟨_, ⟨rfl, rfl⟩ | ⟨g, cap, cur, rfl, _⟩⟩ := h
 ·exact ⟨_, _, rfl⟩
 ·exact ⟨_, _, rfl⟩
theorem own_lt {w : World} {B : Nat} {e : TypeId} {size n : Nat} {v : Value} {xs : List Value} (h : w.ownsRow B e size v n xs) (k : Nat) (hk : v.ownBlock = some k) : B ≤ k ∧ k < w.heap.size := h.lt k hk
theorem own_chg {w w' : World} {B : Nat} {e : TypeId} {size n : Nat} {v : Value} {xs : List Value} {S : Nat → Prop} (h : w.ownsRow B e size v n xs) (hc : Chg S w w') (hs : ∀ k, v.ownBlock = some k → ¬ S k) : w'.ownsRow B e size v n xs := by
 obtain ⟨hl, ⟨rfl, rfl⟩ | ⟨g, cap, cur, rfl, hB, hg, r⟩⟩ := h
 ·exact ⟨hl, .inl ⟨rfl, rfl⟩⟩
 ·exact ⟨hl, .inr ⟨g, cap, cur, rfl, hB, hc.blk hg (hs g rfl), r⟩⟩
theorem own_far {w : World} {B : Nat} {e : TypeId} {size n : Nat} {v : Value} {xs : List Value} (h : w.ownsRow B e size v n xs) {p : Addr} (hp : v.ownBlock ≠ some p.block) (u : Value) : (w.setCell p u).ownsRow B e size v n xs := ownsRow_setCell_other h hp u
theorem blk_ne {w : World} {g g' : Nat} {t t' : TypeId} {cs cs' : Array Value} {fr fr' : Nat × Nat} (h : w.heap[g]? = some (.cells cs t fr)) (h' : w.heap[g']? = some (.cells cs' t' fr')) (hne : t ≠ t') : g ≠ g' := by
 rintro rfl
 rw [h] at h'
 injection h' with h'
 injection h' with _ ht
 exact hne ht
section app
variable {P : Program} {ops : Array Oper} {rest : List Oper} {o : Oper} {a : Act} {Q : Exit → Act → World → Prop}
theorem app_from {W : World} (hgd : o.guard = none) (s x : Operand) (t e : TypeId) (z : Value) (size bytes : Nat)
  (ho : o.op = .call { callee := .builtin .append, args := #[s, x], argTypes := #[t, t] })
  (ht : P.underlying t = some (.slice e)) (hinfo : (P.info? e).map (fun i => (i.zero, i.size, i.bytes)) = some (some z, size, bytes)) (hz : z.cells.size = size) (hs0 : 0 < size) (hb0 : 0 < bytes)
  (B : Nat) (v : Value) (n : Nat) (xs ys : List Value) (ad : Addr) (m c : Nat) (hs : a.eval s = v) (hx : a.eval x = .slice (some ad) m c) (hys : ys.length = m * size) (h1 : ∀ u ∈ ys, u.oneCell' = true)
  (hc : ∀ j u, ys[j]? = some u → W.cell? (ad.add j) = some u)
  (HO : W.ownsRow B e size v n xs) (hbase : B ≤ W.heap.size) (hl : (n + m) * bytes ≤ 140737488355328)
  (h : ∀ v1 w1, w1.ownsRow B e size v1 (n + m) (xs ++ ys) → Chg (fun k => v.ownBlock = some k) W w1 → (v1.ownBlock = v.ownBlock ∨ v1.ownBlock = some W.heap.size) → wpList P ops Q rest (a.put o.dst v1) w1) :
  wpList P ops Q (o :: rest) a W := by
 obtain ⟨i0, hi, hzz⟩ := Option.map_eq_some_iff.1 hinfo
 simp only [Prod.mk.injEq] at hzz
 obtain ⟨hz0, hz1, hz2⟩ := hzz
 have hlen : n + m ≤ 140737488355328 := Nat.le_trans (Nat.le_mul_of_pos_right _ hb0) hl
 refine wpList_append_own_at W hgd s x t ho B e i0 z size bytes ht hi hz0 hz1 hz2 hz hs0 v n xs hs HO ad m c ys hx hys hc h1 (by simp only [maxLen]; omega) hl hbase ?_
 intro v1 w1 hown hg _ hat
 exact h v1 w1 hown (Chg.of_grown hg fun k hk _ => hk) hat
theorem app_one {W : World} (hgd : o.guard = none) (s x : Operand) (t e : TypeId) (z : Value) (size bytes : Nat)
  (ho : o.op = .call { callee := .builtin .append, args := #[s, x], argTypes := #[t, t] })
  (ht : P.underlying t = some (.slice e)) (hinfo : (P.info? e).map (fun i => (i.zero, i.size, i.bytes)) = some (some z, size, bytes)) (hz : z.cells.size = size) (hs0 : 0 < size) (hb0 : 0 < bytes)
  (B : Nat) (v : Value) (n : Nat) (xs : List Value) (ys : Array Value) (N : Nat) (hs : a.eval s = v) (hx : a.eval x = .slice (some ⟨N, 0, none⟩) 1 1) (hN : N = W.heap.size) (hys : ys.size = size) (h1 : ∀ u ∈ ys.toList, u.oneCell' = true)
  (HO : W.ownsRow B e size v n xs) (hbase : B ≤ W.heap.size) (hl : (n + 1) * bytes ≤ 140737488355328)
  (h : ∀ v1 w1, w1.ownsRow B e size v1 (n + 1) (xs ++ ys.toList) → Chg (fun k => v.ownBlock = some k) W w1 → (v1.ownBlock = v.ownBlock ∨ ∃ b, v1.ownBlock = some b ∧ W.heap.size ≤ b) → wpList P ops Q rest (a.put o.dst v1) w1) :
  wpList P ops Q (o :: rest) a (W.alloc (.cells ys e)) := by
 subst hN
 refine app_from hgd s x t e z size bytes ho ht hinfo hz hs0 hb0 B v n xs ys.toList ⟨W.heap.size, 0, none⟩ 1 1 hs hx (by simp [hys]) h1
  (by simpa using World.news_of_block (cs := ys) (t := e) (fr := (0, 0)) (heap_alloc_new W (.cells ys e))) (HO.alloc _) (by simp; omega) hl ?_
 intro v1 w1 hown hg hat
 refine h v1 w1 hown (((Chg.refl (fun k => v.ownBlock = some k) W).alloc _).trans hg) ?_
 rcases hat with hat | hat
 ·exact .inl hat
 ·exact .inr ⟨_, hat, by simp⟩
end app
end Go.Proofs.YtikilglbhnplaaaGreatDoor
end
section
namespace Go.Proofs.YtikilglbhnplaaaGreatDoor.PX
def takes (t : T) : Int :=
 if t.f2 ≠ 0 ∨ t.f1 < 0 then -1
 else if t.f0 = 1 ∨ (t.f0 = 2 ∧ t.f1 ≤ 25) then 0
 else if t.f1 ≠ 0 then -1
 else if t.f0 = 15 ∨ t.f0 = 16 then 0
 else if t.f0 = 14 ∨ t.f0 = 19 then 1
 else if 3 ≤ t.f0 ∧ t.f0 ≤ 13 then 2
 else -1
theorem takes_cases (t : T) : takes t = -1 ∨ takes t = 0 ∨ takes t = 1 ∨ takes t = 2 := by unfold takes; split <;> (try split) <;> (try split) <;> (try split) <;> (try split) <;> (try split) <;> simp
def mayGo : List T → Int → Option Int
 | [], n => some n
 | t :: p, n => if takes t < 0 ∨ takes t > n then none else mayGo p (n + (1 - takes t))
def may (p : List T) : Bool := decide (p.length ≤ 100) && (mayGo p 0 == some 1)
theorem mayGo_append (p q : List T) (n : Int) : mayGo (p ++ q) n = (mayGo p n).bind (mayGo q) := by
 induction p generalizing n with
 | nil => rfl
 | cons t p ih => simp only [List.cons_append, mayGo]; split <;> simp [ih]
theorem mayGo_snoc (p : List T) (t : T) (n m : Int) (h : mayGo p n = some m) : mayGo (p ++ [t]) n = if takes t < 0 ∨ takes t > m then none else some (m + (1 - takes t)) := by
 rw [mayGo_append, h]; simp only [Option.bind_some, mayGo]
inductive Tr where
 | leaf (t : T)
 | one (t : T) (a : Tr)
 | two (t : T) (a b : Tr)
namespace Tr
def flat : Tr → List T
 | leaf t => [t]
 | one t a => a.flat ++ [t]
 | two t a b => a.flat ++ b.flat ++ [t]
def wf : Tr → Prop
 | leaf t => takes t = 0
 | one t a => takes t = 1 ∧ a.wf
 | two t a b => takes t = 2 ∧ a.wf ∧ b.wf
end Tr
def flats : List Tr → List T
 | [] => []
 | x :: l => x.flat ++ flats l
theorem flats_append (a b : List Tr) : flats (a ++ b) = flats a ++ flats b := by
 induction a with
 | nil => rfl
 | cons x a ih => simp [flats, ih]
theorem flats_one (x : Tr) : flats [x] = x.flat := by simp [flats]
theorem two_last {α : Type} (l : List α) (h : 2 ≤ l.length) : ∃ l' a b, l = l' ++ [a, b] := by
 obtain ⟨r, b, rfl⟩ : ∃ r b, l = r ++ [b] := ⟨l.dropLast, l.getLast (by intro e; subst e; simp at h), (List.dropLast_concat_getLast _).symm⟩
 obtain ⟨r', a, rfl⟩ : ∃ r' a, r = r' ++ [a] := ⟨r.dropLast, r.getLast (by intro e; subst e; simp at h), (List.dropLast_concat_getLast _).symm⟩
 exact ⟨r', a, b, by simp⟩
theorem one_last {α : Type} (l : List α) (h : 1 ≤ l.length) : ∃ l' a, l = l' ++ [a] :=
 ⟨l.dropLast, l.getLast (by intro e; subst e; simp at h), (List.dropLast_concat_getLast _).symm⟩
theorem trees_of (p : List T) : ∀ (S : List Tr) (m : Int), (∀ x ∈ S, x.wf) → mayGo p S.length = some m → ∃ S' : List Tr, (∀ x ∈ S', x.wf) ∧ (S'.length : Int) = m ∧ flats S' = flats S ++ p := by
 induction p with
 | nil => intro S m hS h; simp only [mayGo, Option.some.injEq] at h; exact ⟨S, hS, h, by simp⟩
 | cons t p ih =>
  intro S m hS h
  simp only [mayGo] at h
  split at h
  ·cases h
  rename_i hc
  rcases takes_cases t with e | e | e | e
  ·exact absurd (.inl (by omega)) hc
  ·obtain ⟨S', h1, h2, h3⟩ := ih (S ++ [.leaf t]) m (by intro x hx; simp at hx; rcases hx with hx | rfl; exact hS x hx; exact e) (by simpa [e] using h)
   exact ⟨S', h1, h2, by rw [h3, flats_append, flats_one]; simp [Tr.flat]⟩
  ·obtain ⟨l, a, rfl⟩ := one_last S (by omega)
   obtain ⟨S', h1, h2, h3⟩ := ih (l ++ [.one t a]) m (by intro x hx; simp at hx; rcases hx with hx | rfl; exact hS x (by simp [hx]); exact ⟨e, hS a (by simp)⟩) (by simpa [e] using h)
   exact ⟨S', h1, h2, by rw [h3, flats_append, flats_append, flats_one, flats_one]; simp [Tr.flat]⟩
  ·obtain ⟨l, a, b, rfl⟩ := two_last S (by omega)
   obtain ⟨S', h1, h2, h3⟩ := ih (l ++ [.two t a b]) m (by intro x hx; simp at hx; rcases hx with hx | rfl; exact hS x (by simp [hx]); exact ⟨e, hS a (by simp), hS b (by simp)⟩) (by
    have e1 : ((l ++ [a, b]).length : Int) + (1 - takes t) = ((l ++ [Tr.two t a b]).length : Int) := by simp [e]; omega
    rw [← e1]; exact h)
   exact ⟨S', h1, h2, by rw [h3, flats_append, flats_append, flats_one]; simp [Tr.flat, flats]⟩
theorem tree_of {p : List T} (h : mayGo p 0 = some 1) : ∃ x : Tr, x.wf ∧ p = x.flat := by
 obtain ⟨S, h1, h2, h3⟩ := trees_of p [] 1 (by simp) (by simpa using h)
 obtain ⟨x, rfl⟩ : ∃ x, S = [x] := by
  match S, h2 with
  | [x], _ => exact ⟨x, rfl⟩
  | [], h2 => simp at h2
  | _ :: _ :: _, h2 => simp at h2; omega
 exact ⟨x, h1 x (by simp), by rw [flats_one] at h3; simpa [flats] using h3.symm⟩
section machine
variable {V : Type} (lf : T → Except Int V) (op1 : T → V → Except Int V) (op2 : T → V → V → Except Int V)
def step (t : T) (l : List V) : Except Int (List V) :=
 if takes t = 0 then (lf t).map fun v => l ++ [v]
 else if takes t = 1 then match l.getLast? with
  | some a => (op1 t a).map fun v => l.dropLast ++ [v]
  | none => .error 0
 else match l.getLast?, l.dropLast.getLast? with
  | some b, some a => (op2 t a b).map fun v => l.dropLast.dropLast ++ [v]
  | _, _ => .error 0
theorem step_leaf {t : T} (h : takes t = 0) (l : List V) : step lf op1 op2 t l = (lf t).map fun v => l ++ [v] := by simp [step, h]
theorem step_one {t : T} (h : takes t = 1) (l : List V) (a : V) : step lf op1 op2 t (l ++ [a]) = (op1 t a).map fun v => l ++ [v] := by simp [step, h]
theorem step_two {t : T} (h : takes t = 2) (l : List V) (a b : V) : step lf op1 op2 t (l ++ [a, b]) = (op2 t a b).map fun v => l ++ [v] := by
 have e : l ++ [a, b] = (l ++ [a]) ++ [b] := by simp
 rw [e]
 simp [step, h]
def runs : List T → List V → Except Int (List V)
 | [], l => .ok l
 | t :: p, l => (step lf op1 op2 t l).bind (runs p)
theorem runs_append (p q : List T) (l : List V) : runs lf op1 op2 (p ++ q) l = (runs lf op1 op2 p l).bind (runs lf op1 op2 q) := by
 induction p generalizing l with
 | nil => rfl
 | cons t p ih =>
  simp only [List.cons_append, runs]
  cases step lf op1 op2 t l with
  | error e => rfl
  | ok l' => exact ih l'
def val : Tr → Except Int V
 | .leaf t => lf t
 | .one t a => (val a).bind (op1 t)
 | .two t a b => (val a).bind fun x => (val b).bind fun y => op2 t x y
theorem runs_len (p : List T) : ∀ (l l' : List V) (m : Int), runs lf op1 op2 p l = .ok l' → mayGo p l.length = some m → (l'.length : Int) = m := by
 induction p with
 | nil => intro l l' m h h2; simp only [runs, Except.ok.injEq] at h; simp only [mayGo, Option.some.injEq] at h2; rw [← h]; exact h2
 | cons t p ih =>
  intro l l' m h h2
  simp only [mayGo] at h2
  split at h2
  ·cases h2
  rename_i hc
  simp only [runs] at h
  cases hs : step lf op1 op2 t l with
  | error e => rw [hs] at h; cases h
  | ok l1 =>
   rw [hs] at h
   have hl : (l1.length : Int) = l.length + (1 - takes t) := by
    rcases takes_cases t with e | e | e | e
    ·exact absurd (.inl (by omega)) hc
    ·rw [step_leaf _ _ _ e] at hs
     cases hv : lf t with
     | error e => rw [hv] at hs; cases hs
     | ok v => rw [hv] at hs; simp only [Except.map, Except.ok.injEq] at hs; rw [← hs, e]; simp
    ·obtain ⟨r, a, rfl⟩ := one_last l (by omega)
     rw [step_one _ _ _ e] at hs
     cases hv : op1 t a with
     | error e => rw [hv] at hs; cases hs
     | ok v => rw [hv] at hs; simp only [Except.map, Except.ok.injEq] at hs; rw [← hs, e]; simp
    ·obtain ⟨r, a, b, rfl⟩ := two_last l (by omega)
     rw [step_two _ _ _ e] at hs
     cases hv : op2 t a b with
     | error e => rw [hv] at hs; cases hs
     | ok v => rw [hv] at hs; simp only [Except.map, Except.ok.injEq] at hs; rw [← hs, e]; simp; omega
   exact ih l1 l' m h (by rw [hl]; exact h2)
theorem mayGo_take {p : List T} {n m : Int} (h : mayGo p n = some m) (q : Nat) : ∃ k, mayGo (p.take q) n = some k := by
 have e : p = p.take q ++ p.drop q := (List.take_append_drop q p).symm
 rw [e, mayGo_append] at h
 cases hk : mayGo (p.take q) n with
 | none => rw [hk] at h; cases h
 | some k => exact ⟨k, rfl⟩
theorem may_at {p : List T} (h : mayGo p 0 = some 1) (q : Nat) (hq : q < p.length) {l : List V} (hr : runs lf op1 op2 (p.take q) [] = .ok l) :
  0 ≤ takes p[q] ∧ takes p[q] ≤ l.length := by
 obtain ⟨k, hk⟩ := mayGo_take h q
 have hl := runs_len lf op1 op2 (p.take q) [] l k hr hk
 obtain ⟨k', hk'⟩ := mayGo_take h (q + 1)
 rw [List.take_succ_eq_append_getElem hq, mayGo_snoc _ _ _ _ hk] at hk'
 split at hk'
 ·cases hk'
 ·rename_i hc; omega
theorem runs_snoc (p : List T) (q : Nat) (hq : q < p.length) {l : List V} (hr : runs lf op1 op2 (p.take q) [] = .ok l) : runs lf op1 op2 (p.take (q + 1)) [] = step lf op1 op2 p[q] l := by
 rw [List.take_succ_eq_append_getElem hq, runs_append, hr]
 simp only [Except.bind, runs]
 cases step lf op1 op2 p[q] l <;> rfl
theorem runs_fail (p : List T) (q : Nat) {e : Int} (hr : runs lf op1 op2 (p.take q) [] = .error e) : runs lf op1 op2 p [] = .error e := by
 have h : p = p.take q ++ p.drop q := (List.take_append_drop q p).symm
 rw [h, runs_append, hr]
 rfl
def value (p : List T) : Except Int V := (runs lf op1 op2 p []).bind fun l => match l with | v :: _ => .ok v | [] => .error 0
end machine
end Go.Proofs.YtikilglbhnplaaaGreatDoor.PX
end
section
namespace Go.Proofs.YtikilglbhnplaaaGreatDoor
open Go.RowKit
theorem laid3 {w w2 : World} {x y z : Value} {t : TypeId} (hb : Below (w.alloc (.cells #[x, y, z] t)).heap.size (w.alloc (.cells #[x, y, z] t)) w2) :
  w2.cell? ⟨w.heap.size, 0, none⟩ = some x ∧ w2.cell? ⟨w.heap.size, 1, none⟩ = some y ∧ w2.cell? ⟨w.heap.size, 2, none⟩ = some z ∧
   w2.frozen? ⟨w.heap.size, 0, none⟩ = false ∧ w2.frozen? ⟨w.heap.size, 1, none⟩ = false ∧ w2.frozen? ⟨w.heap.size, 2, none⟩ = false ∧ w.heap.size < w2.heap.size ∧ Below w.heap.size w w2 := by
 have h := (hb.block w.heap.size (by simp)).trans (blk_new _ _)
 have hz := hb.size
 simp at hz
 exact ⟨blk_cell h 0, blk_cell h 1, blk_cell h 2, blk_free h 0, blk_free h 1, blk_free h 2, by omega, ((Below.refl _ _).alloc (Nat.le_refl _) _).trans (hb.mono (by simp))⟩
theorem below_set3 {B g : Nat} {w W : World} (h : Below B w W) (hB : B ≤ g) (a b c : Value) : Below B w (((W.setCell ⟨g, 0, none⟩ a).setCell ⟨g, 1, none⟩ b).setCell ⟨g, 2, none⟩ c) :=
 ((h.setCell hB _).setCell hB _).setCell hB _
theorem below_then {B : Nat} {w w1 w2 : World} (h : Below B w w1) (hB : B ≤ w1.heap.size) (k : Below w1.heap.size w1 w2) : Below B w w2 := h.trans (k.mono hB)
theorem below_drewN' {B : Nat} {w w' : World} (h : Below B w w') (n : Nat) : Below B w (w'.drewN n) := by
 induction n generalizing w' with
 | zero => exact h
 | succ n ih =>
  have := ih h.drew
  rw [World.drewN_drew, Nat.add_comm] at this
  exact this
end Go.Proofs.YtikilglbhnplaaaGreatDoor
end
section
namespace Go.Proofs.YtikilglbhnplaaaGreatDoor
open Go.RowKit PX Go.Proofs.YtikilglbhnplaaaGreatDoorW.PrintWords
abbrev Toks (w : World) (B : Nat) (v : Value) (l : List T) : Prop := Kd.R PAll.k131 131 w B (fun _ => True) v l
abbrev ToksC (w : World) (A : Option Addr) (n : Nat) (l : List T) : Prop := Kd.C PAll.k131 w A n l
section
variable {P : Program} {ops : Array Oper} {rest : List Oper} {o : Oper} {a : Act} {Q : Exit → Act → World → Prop}
theorem tok_append {W : World} (hgd : o.guard = none) (s x : Operand)
  (ho : o.op = .call { callee := .builtin .append, args := #[s, x], argTypes := #[77, 77] })
  (B : Nat) (v : Value) (xs : List T) (k n c : Int) (hs : a.eval s = v) (N : Nat) (hx : a.eval x = .slice (some ⟨N, 0, none⟩) 1 1) (hN : N = W.heap.size)
  (HO : Toks W B v xs) (hB : B ≤ W.heap.size) (hl : xs.length < 1000000)
  (h : ∀ v1 w1, Toks w1 B v1 (xs ++ [⟨k, n, c⟩]) → W.grownBy w1 v.ownBlock → (v1.ownBlock = v.ownBlock ∨ ∃ b, v1.ownBlock = some b ∧ W.heap.size ≤ b) → wpList Tryz.prog ops Q rest (a.put o.dst v1) w1) :
  wpList Tryz.prog ops Q (o :: rest) a (W.alloc (.cells #[.int .i64 k, .int .i64 n, .int .i64 c] 131)) := by
 subst hN
 refine Kd.R_append PAll.k131 (w0 := W) B hgd s x 77 131 (.agg #[(.int .i64 0), (.int .i64 0), (.int .i64 0)]) 24 ho Tryz.underlying77 (by kernel_rfl) rfl (by decide) (by omega) v xs (⟨k, n, c⟩ : T) [.int .i64 k, .int .i64 n, .int .i64 c]
  (fun _ => True) (fun _ => False) hs hx (PAll.k131_mkM _ _ _ (⟨k, n, c⟩ : T)) (fun _ hk => hk.elim) (fun _ _ => trivial) HO (Below.refl _ _) hB (by omega) ?_
 intro v1 w1 h1 _ h3 h4
 exact h v1 w1 h1 h3 h4
end
inductive Er where
 | none
 | code (c : Int)
 | spot (at_ c : Int)
def ErV (B : Nat) (w : World) (v : Value) : Er → Prop
 | .none => v = .nilIface
 | .code c => v = .iface 67 (.int .i64 c)
 | .spot a c => ∃ g, v = .iface 132 (.pointer (some ⟨g, 0, none⟩)) ∧ B ≤ g ∧ w.heap[g]? = some (.cells #[.int .i64 a, .int .i64 c] 134 (0, 0))
end Go.Proofs.YtikilglbhnplaaaGreatDoor
end
section
namespace Go.Proofs.YtikilglbhnplaaaGreatDoor.PX
structure St where
 at_ : Nat
 out : List T
 bad : Bool
namespace St
def adv (s : St) : St := { s with at_ := s.at_ + 1 }
def put (s : St) (k n : Int) : St := { s with out := s.out ++ [⟨k, n, 0⟩] }
def fail (s : St) : St := { s with bad := true }
def see (l : List T) (s : St) : Int := if s.bad = true ∨ l.length ≤ s.at_ then 0 else (l[s.at_]?.getD ⟨0, 0, 0⟩).f0
def num (l : List T) (s : St) : Int := (l[s.at_]?.getD ⟨0, 0, 0⟩).f1
end St
def level (k : Int) : Nat := if k = 13 then 1 else if k = 12 then 2 else if 8 ≤ k ∧ k ≤ 11 then 3 else if k = 3 ∨ k = 4 then 4 else if 5 ≤ k ∧ k ≤ 7 then 5 else 0
inductive Pr (l : List T) : Bool → Nat → St → St → Prop
 | row {v : Nat} {s s1 s2 : St} (hv : v = 1 ∨ v = 2 ∨ v = 4 ∨ v = 5) (h1 : Pr l false (v + 1) s s1) (h2 : Pr l true v s1 s2) : Pr l false v s s2
 | stop {v : Nat} {s : St} (h : level (s.see l) ≠ v) : Pr l true v s s
 | more {v : Nat} {s s1 s2 : St} (h : level (s.see l) = v) (h1 : Pr l false (v + 1) s.adv s1) (h2 : Pr l true v (s1.put (s.see l) 0) s2) : Pr l true v s s2
 | not_ {s s1 : St} (h : s.see l = 14) (h1 : Pr l false 3 s.adv s1) : Pr l false 3 s (s1.put 14 0)
 | sum {s s1 : St} (h : s.see l ≠ 14) (h1 : Pr l false 4 s s1) (h2 : level (s1.see l) ≠ 3) : Pr l false 3 s s1
 | cmp {s s1 s2 : St} (h : s.see l ≠ 14) (h1 : Pr l false 4 s s1) (h2 : level (s1.see l) = 3) (h3 : Pr l false 4 s1.adv s2) : Pr l false 3 s (s2.put (s1.see l) 0)
 | neg {s s1 : St} (h : s.see l = 4) (h1 : Pr l false 6 s.adv s1) : Pr l false 6 s (s1.put 19 0)
 | leaf {s : St} (h : s.see l = 1 ∨ s.see l = 2 ∨ s.see l = 15 ∨ s.see l = 16) : Pr l false 6 s (s.adv.put (s.see l) (s.num l))
 | open_ {s s1 : St} (h : s.see l = 17) (h1 : Pr l false 1 s.adv s1) (h2 : s1.see l = 18) : Pr l false 6 s s1.adv
 | openBad {s s1 : St} (h : s.see l = 17) (h1 : Pr l false 1 s.adv s1) (h2 : s1.see l ≠ 18) : Pr l false 6 s s1.fail
 | none_ {s : St} (h : ¬(s.see l = 4 ∨ s.see l = 1 ∨ s.see l = 2 ∨ s.see l = 15 ∨ s.see l = 16 ∨ s.see l = 17)) : Pr l false 6 s s.fail
theorem see_lt {l : List T} {s : St} (h : s.see l ≠ 0) : s.at_ < l.length := by
 unfold St.see at h; split at h
 ·exact absurd rfl h
 ·rename_i hc; omega
theorem see_at {l : List T} {s : St} {k : Int} (h : s.see l = k) (hk : k ≠ 0) : s.at_ < l.length := see_lt (by omega)
theorem level_see {k : Int} {v : Nat} (h : level k = v) (hv : v ≠ 0) : k ≠ 0 := by
 rintro rfl; simp [level] at h; omega
theorem adv_at (s : St) : s.adv.at_ = s.at_ + 1 := rfl
theorem adv_out (s : St) : s.adv.out = s.out := rfl
theorem put_at (s : St) (k n : Int) : (s.put k n).at_ = s.at_ := rfl
theorem put_out (s : St) (k n : Int) : (s.put k n).out.length = s.out.length + 1 := by simp [St.put]
theorem fail_at (s : St) : s.fail.at_ = s.at_ := rfl
theorem fail_out (s : St) : s.fail.out = s.out := rfl
theorem Pr.le {l : List T} {b : Bool} {v : Nat} {s s' : St} (h : Pr l b v s s') (hv : v ≠ 0) (hs : s.at_ ≤ l.length) : s.at_ ≤ s'.at_ ∧ s'.at_ ≤ l.length ∧ s'.out.length + s.at_ ≤ s.out.length + s'.at_ := by
 induction h with
 | row _ h1 h2 i1 i2 => have := i1 (by omega) hs; have := i2 hv (by omega); omega
 | stop h => omega
 | more h h1 h2 i1 i2 =>
  have := see_lt (level_see h hv)
  have a := i1 (by omega) (by rw [adv_at]; omega)
  have b := i2 hv (by rw [put_at]; omega)
  simp only [adv_at, adv_out, put_at, put_out] at a b ⊢; omega
 | not_ h h1 i1 =>
  have := see_at h (by omega)
  have a := i1 (by omega) (by rw [adv_at]; omega)
  simp only [adv_at, adv_out, put_at, put_out] at a ⊢; omega
 | sum h h1 h2 i1 => exact i1 (by omega) hs
 | cmp h h1 h2 h3 i1 i3 =>
  have a := i1 (by omega) hs
  have := see_lt (level_see h2 (by omega))
  have b := i3 (by omega) (by rw [adv_at]; omega)
  simp only [adv_at, adv_out, put_at, put_out] at a b ⊢; omega
 | neg h h1 i1 =>
  have := see_at h (by omega)
  have a := i1 (by omega) (by rw [adv_at]; omega)
  simp only [adv_at, adv_out, put_at, put_out] at a ⊢; omega
 | leaf h =>
  have := see_lt (l := l) (fun e => by rw [e] at h; omega)
  simp only [adv_at, adv_out, put_at, put_out]; omega
 | open_ h h1 h2 i1 =>
  have := see_at h (by omega)
  have a := i1 (by omega) (by rw [adv_at]; omega)
  have := see_at h2 (by omega)
  simp only [adv_at, adv_out] at a ⊢; omega
 | openBad h h1 h2 i1 =>
  have := see_at h (by omega)
  have a := i1 (by omega) (by rw [adv_at]; omega)
  simp only [adv_at, adv_out, fail_at, fail_out] at a ⊢; omega
 | none_ h => simp only [fail_at, fail_out]; omega
end Go.Proofs.YtikilglbhnplaaaGreatDoor.PX
end
section
namespace Go.Proofs.YtikilglbhnplaaaGreatDoor
open Go.RowKit PX Go.Proofs.YtikilglbhnplaaaGreatDoorW.PrintWords
theorem takes0 {t : T} (h : takes t = 0) : (t.f0 = 1 ∨ t.f0 = 2 ∨ t.f0 = 15 ∨ t.f0 = 16) ∧ 0 ≤ t.f1 ∧ (t.f0 = 2 → t.f1 ≤ 25) := by
 unfold takes at h
 split at h
 ·cases h
 ·split at h
  ·omega
  ·split at h
   ·cases h
   ·split at h
    ·omega
    ·split at h
     ·cases h
     ·split at h <;> cases h
theorem takes1 {t : T} (h : takes t = 1) : t.f0 = 14 ∨ t.f0 = 19 := by
 unfold takes at h
 split at h
 ·cases h
 ·split at h
  ·cases h
  ·split at h
   ·cases h
   ·split at h
    ·cases h
    ·split at h
     ·omega
     ·split at h <;> cases h
theorem takes2 {t : T} (h : takes t = 2) : 3 ≤ t.f0 ∧ t.f0 ≤ 13 := by
 unfold takes at h
 split at h
 ·cases h
 ·split at h
  ·cases h
  ·split at h
   ·cases h
   ·split at h
    ·cases h
    ·split at h
     ·cases h
     ·split at h
      ·omega
      ·cases h
theorem takes_any (t : T) (w : World) : Calls Tryz.prog 152 #[.agg #[.int .i64 t.f0, .int .i64 t.f1, .int .i64 t.f2]] w fun e w' => e = .returned (.int .i64 (takes t)) ∧ Below w.heap.size w w' := by
 obtain ⟨k, n, c⟩ := t
 dsimp only
 have HB0 := Lib.hid ((Below.refl w.heap.size w).alloc (Nat.le_refl _) (.cells #[.int .i64 k, .int .i64 n, .int .i64 c] 131))
 have y0 : (w.alloc (.cells #[.int .i64 k, .int .i64 n, .int .i64 c] 131)).cell? ⟨w.heap.size, 0, none⟩ = some (.int .i64 k) := blk_cell (blk_new w (.cells #[.int .i64 k, .int .i64 n, .int .i64 c] 131)) 0
 have y1 : (w.alloc (.cells #[.int .i64 k, .int .i64 n, .int .i64 c] 131)).cell? ⟨w.heap.size, 1, none⟩ = some (.int .i64 n) := blk_cell (blk_new w (.cells #[.int .i64 k, .int .i64 n, .int .i64 c] 131)) 1
 have y2 : (w.alloc (.cells #[.int .i64 k, .int .i64 n, .int .i64 c] 131)).cell? ⟨w.heap.size, 2, none⟩ = some (.int .i64 c) := blk_cell (blk_new w (.cells #[.int .i64 k, .int .i64 n, .int .i64 c] 131)) 2
 cases h1 : (c != 0) with
 | true =>
  have HR : Hid (takes ⟨k, n, c⟩ = (-1)) := Lib.hid (by
   have gh1 := h1
   simp at gh1
   unfold takes
   dsimp only
   repeat (first | rw [if_pos (by omega)] | rw [if_neg (by omega)]))
  rw [HR.out]
  clear HR
  go_enter Tryz.func152, Tryz.ntmps152
  go_wp2_with fail
  go_ret
  exact ⟨rfl, HB0.out⟩
 | false =>
  cases h2 : decide (n < 0) with
  | true =>
   have HR : Hid (takes ⟨k, n, c⟩ = (-1)) := Lib.hid (by
    have gh1 := h1
    have gh2 := h2
    simp at gh1 gh2
    unfold takes
    dsimp only
    repeat (first | rw [if_pos (by omega)] | rw [if_neg (by omega)]))
   rw [HR.out]
   clear HR
   go_enter Tryz.func152, Tryz.ntmps152
   go_wp2_with fail
   go_ret
   exact ⟨rfl, HB0.out⟩
  | false =>
   cases h3 : (k == 1) with
   | true =>
    have HR : Hid (takes ⟨k, n, c⟩ = 0) := Lib.hid (by
     have gh1 := h1
     have gh2 := h2
     have gh3 := h3
     simp at gh1 gh2 gh3
     unfold takes
     dsimp only
     repeat (first | rw [if_pos (by omega)] | rw [if_neg (by omega)]))
    rw [HR.out]
    clear HR
    go_enter Tryz.func152, Tryz.ntmps152
    go_wp2_with fail
    go_ret
    exact ⟨rfl, HB0.out⟩
   | false =>
    cases h4 : (k == 2) with
    | true =>
     cases h5 : decide (n ≤ 25) with
     | true =>
      have HR : Hid (takes ⟨k, n, c⟩ = 0) := Lib.hid (by
       have gh1 := h1
       have gh2 := h2
       have gh3 := h3
       have gh4 := h4
       have gh5 := h5
       simp at gh1 gh2 gh3 gh4 gh5
       unfold takes
       dsimp only
       repeat (first | rw [if_pos (by omega)] | rw [if_neg (by omega)]))
      rw [HR.out]
      clear HR
      go_enter Tryz.func152, Tryz.ntmps152
      go_wp2_with fail
      go_ret
      exact ⟨rfl, HB0.out⟩
     | false =>
      have h6 : (n != 0) = true := by simp at h5; rw [bne_iff_ne]; omega
      have HR : Hid (takes ⟨k, n, c⟩ = (-1)) := Lib.hid (by
       have gh1 := h1
       have gh2 := h2
       have gh3 := h3
       have gh4 := h4
       have gh5 := h5
       simp at gh1 gh2 gh3 gh4 gh5
       unfold takes
       dsimp only
       repeat (first | rw [if_pos (by omega)] | rw [if_neg (by omega)]))
      rw [HR.out]
      clear HR
      go_enter Tryz.func152, Tryz.ntmps152
      go_wp2_with fail
      go_ret
      exact ⟨rfl, HB0.out⟩
    | false =>
     cases h6 : (n != 0) with
     | true =>
      have HR : Hid (takes ⟨k, n, c⟩ = (-1)) := Lib.hid (by
       have gh1 := h1
       have gh2 := h2
       have gh3 := h3
       have gh4 := h4
       have gh6 := h6
       simp at gh1 gh2 gh3 gh4 gh6
       unfold takes
       dsimp only
       repeat (first | rw [if_pos (by omega)] | rw [if_neg (by omega)]))
      rw [HR.out]
      clear HR
      go_enter Tryz.func152, Tryz.ntmps152
      go_wp2_with fail
      go_ret
      exact ⟨rfl, HB0.out⟩
     | false =>
      cases h7 : (k == 15) with
      | true =>
       have HR : Hid (takes ⟨k, n, c⟩ = 0) := Lib.hid (by
        have gh1 := h1
        have gh2 := h2
        have gh3 := h3
        have gh4 := h4
        have gh6 := h6
        have gh7 := h7
        simp at gh1 gh2 gh3 gh4 gh6 gh7
        unfold takes
        dsimp only
        repeat (first | rw [if_pos (by omega)] | rw [if_neg (by omega)]))
       rw [HR.out]
       clear HR
       go_enter Tryz.func152, Tryz.ntmps152
       go_wp2_with fail
       go_ret
       exact ⟨rfl, HB0.out⟩
      | false =>
       cases h8 : (k == 16) with
       | true =>
        have HR : Hid (takes ⟨k, n, c⟩ = 0) := Lib.hid (by
         have gh1 := h1
         have gh2 := h2
         have gh3 := h3
         have gh4 := h4
         have gh6 := h6
         have gh7 := h7
         have gh8 := h8
         simp at gh1 gh2 gh3 gh4 gh6 gh7 gh8
         unfold takes
         dsimp only
         repeat (first | rw [if_pos (by omega)] | rw [if_neg (by omega)]))
        rw [HR.out]
        clear HR
        go_enter Tryz.func152, Tryz.ntmps152
        go_wp2_with fail
        go_ret
        exact ⟨rfl, HB0.out⟩
       | false =>
        cases h9 : (k == 14) with
        | true =>
         have HR : Hid (takes ⟨k, n, c⟩ = 1) := Lib.hid (by
          have gh1 := h1
          have gh2 := h2
          have gh3 := h3
          have gh4 := h4
          have gh6 := h6
          have gh7 := h7
          have gh8 := h8
          have gh9 := h9
          simp at gh1 gh2 gh3 gh4 gh6 gh7 gh8 gh9
          unfold takes
          dsimp only
          repeat (first | rw [if_pos (by omega)] | rw [if_neg (by omega)]))
         rw [HR.out]
         clear HR
         go_enter Tryz.func152, Tryz.ntmps152
         go_wp2_with fail
         go_ret
         exact ⟨rfl, HB0.out⟩
        | false =>
         cases h10 : (k == 19) with
         | true =>
          have HR : Hid (takes ⟨k, n, c⟩ = 1) := Lib.hid (by
           have gh1 := h1
           have gh2 := h2
           have gh3 := h3
           have gh4 := h4
           have gh6 := h6
           have gh7 := h7
           have gh8 := h8
           have gh9 := h9
           have gh10 := h10
           simp at gh1 gh2 gh3 gh4 gh6 gh7 gh8 gh9 gh10
           unfold takes
           dsimp only
           repeat (first | rw [if_pos (by omega)] | rw [if_neg (by omega)]))
          rw [HR.out]
          clear HR
          go_enter Tryz.func152, Tryz.ntmps152
          go_wp2_with fail
          go_ret
          exact ⟨rfl, HB0.out⟩
         | false =>
          cases h11 : decide (k ≥ 3) with
          | true =>
           cases h12 : decide (k ≤ 13) with
           | true =>
            have HR : Hid (takes ⟨k, n, c⟩ = 2) := Lib.hid (by
             have gh1 := h1
             have gh2 := h2
             have gh3 := h3
             have gh4 := h4
             have gh6 := h6
             have gh7 := h7
             have gh8 := h8
             have gh9 := h9
             have gh10 := h10
             have gh11 := h11
             have gh12 := h12
             simp at gh1 gh2 gh3 gh4 gh6 gh7 gh8 gh9 gh10 gh11 gh12
             unfold takes
             dsimp only
             repeat (first | rw [if_pos (by omega)] | rw [if_neg (by omega)]))
            rw [HR.out]
            clear HR
            go_enter Tryz.func152, Tryz.ntmps152
            go_wp2_with fail
            go_ret
            exact ⟨rfl, HB0.out⟩
           | false =>
            have HR : Hid (takes ⟨k, n, c⟩ = (-1)) := Lib.hid (by
             have gh1 := h1
             have gh2 := h2
             have gh3 := h3
             have gh4 := h4
             have gh6 := h6
             have gh7 := h7
             have gh8 := h8
             have gh9 := h9
             have gh10 := h10
             have gh11 := h11
             have gh12 := h12
             simp at gh1 gh2 gh3 gh4 gh6 gh7 gh8 gh9 gh10 gh11 gh12
             unfold takes
             dsimp only
             repeat (first | rw [if_pos (by omega)] | rw [if_neg (by omega)]))
            rw [HR.out]
            clear HR
            go_enter Tryz.func152, Tryz.ntmps152
            go_wp2_with fail
            go_ret
            exact ⟨rfl, HB0.out⟩
          | false =>
           have HR : Hid (takes ⟨k, n, c⟩ = (-1)) := Lib.hid (by
            have gh1 := h1
            have gh2 := h2
            have gh3 := h3
            have gh4 := h4
            have gh6 := h6
            have gh7 := h7
            have gh8 := h8
            have gh9 := h9
            have gh10 := h10
            have gh11 := h11
            simp at gh1 gh2 gh3 gh4 gh6 gh7 gh8 gh9 gh10 gh11
            unfold takes
            dsimp only
            repeat (first | rw [if_pos (by omega)] | rw [if_neg (by omega)]))
           rw [HR.out]
           clear HR
           go_enter Tryz.func152, Tryz.ntmps152
           go_wp2_with fail
           go_ret
           exact ⟨rfl, HB0.out⟩
theorem may_any (A : Option Addr) (c : Nat) (l : List T) (w : World) (hC : ToksC w A l.length l) (hc : l.length ≤ c) :
  Calls Tryz.prog 141 #[.slice A l.length c] w fun e w' => e = .returned (.bool (may l)) ∧ Below w.heap.size w w' := by
 have HC := Lib.hid hC
 generalize hG : may l = G
 have HG : Hid ((decide (l.length ≤ 100) && (mayGo l 0 == some 1)) = G) := Lib.hid hG
 clear hC hG
 go_enter Tryz.func141, Tryz.ntmps141
 by_cases c1 : l.length ≤ 100
 rotate_left
 ·have d1 : decide ((l.length : Int) > 100) = true := decide_eq_true (by omega)
  have d1' : decide (100 < l.length) = true := decide_eq_true (by omega)
  have HR : Hid (false = G) := Lib.hid (by rw [← HG.out, decide_eq_false c1]; rfl)
  clear c1 HG
  go_wp2_with fail
  go_ret
  exact ⟨by rw [← HR.out]; rfl, Below.refl _ _⟩
 have d1 : decide ((l.length : Int) > 100) = false := decide_eq_false (by omega)
 have d1' : decide (100 < l.length) = false := decide_eq_false (by omega)
 have HG2 : Hid ((mayGo l 0 == some 1) = G) := Lib.hid (by rw [← HG.out, decide_eq_true c1]; rfl)
 clear HG
 go_wp2_with fail
 go_loopw [3, 12] (fun x i wr => ∃ (q n : Nat), x = .int .i64 n ∧ i = .int .i64 q ∧ q ≤ l.length ∧ n ≤ q ∧ Hid ((mayGo (l.drop q) n == some 1) = G) ∧ Hid (Below w.heap.size w wr)) (fun _ i _ => l.length - (intOf i).toNat)
 case atStart => exact ⟨0, 0, rfl, rfl, Nat.zero_le _, Nat.le_refl _, Lib.hid (by rw [List.drop_zero]; exact HG2.out), Lib.hid (Below.refl _ _)⟩
 case round =>
  clear HG2 d1 d1'
  obtain ⟨q, n, rfl, rfl, hq, hn, HE, HB⟩ := hrel
  by_cases hlt : q < l.length
  ·obtain ⟨ad, rfl, q0, q1, q2⟩ := PAll.at_T131 (Kd.C_below HC.out HB.out) (q : Int) (by omega) (by omega)
   rw [Int.toNat_natCast] at q0 q1 q2
   have p1 : ((q : Int) < (l.length : Int)) = True := eq_true (by omega)
   have HE2 := HE.out
   have hrd : PAll.rd_T131 l (q : Int) = l[q] := by simp [PAll.rd_T131, List.getD_eq_getElem?_getD, List.getElem?_eq_getElem hlt]
   rw [List.drop_eq_getElem_cons hlt, ← hrd] at HE2
   simp only [mayGo] at HE2
   clear HE hrd
   have HT := takes_cases (PAll.rd_T131 l (q : Int))
   have HTA := takes_any (PAll.rd_T131 l (q : Int))
   generalize (PAll.rd_T131 l (q : Int)) = t at *
   generalize takes t = k at *
   obtain ⟨f0, f1, f2⟩ := t
   dsimp only at HTA q0 q1 q2
   have HT2 := Lib.hid HT
   have HE3 := Lib.hid HE2
   clear HT HE2
   go_wp2_with fail
   refine (HTA _).mono ?_
   rintro e w2 ⟨rfl, hb2⟩
   have HB2 : Hid (Below w.heap.size w w2) := Lib.hid ((HB.out.alloc HB.out.size _).trans (hb2.mono ((HB.out.alloc HB.out.size _).size)))
   clear hb2 HTA q0 q1 q2
   cases c1 : decide (k < 0) with
   | true =>
    have HR : Hid (false = G) := Lib.hid (by have g1 := c1; simp at g1; rw [← HE3.out, if_pos (.inl g1)]; rfl)
    go_wp2_with fail
    go_ret
    exact ⟨by rw [← HR.out]; rfl, HB2.out⟩
   | false =>
    cases c2 : decide (k > (n : Int)) with
    | true =>
     have HR : Hid (false = G) := Lib.hid (by have g1 := c2; simp at g1; rw [← HE3.out, if_pos (.inr g1)]; rfl)
     go_wp2_with fail
     go_ret
     exact ⟨by rw [← HR.out]; rfl, HB2.out⟩
    | false =>
     have HR : Hid (0 ≤ k ∧ k ≤ (n : Int) ∧ ((mayGo (l.drop (q + 1)) ((n : Int) + (1 - k))) == some 1) = G) := Lib.hid (by have g1 := c1; have g2 := c2; simp at g1 g2; exact ⟨g1, g2, by rw [← HE3.out, if_neg (by omega)]⟩)
     obtain ⟨m, HM⟩ : ∃ m : Nat, Hid ((n : Int) + (1 - k) = (m : Int)) := ⟨((n : Int) + (1 - k)).toNat, Lib.hid (by have := HR.out.1; have := HR.out.2.1; omega)⟩
     go_wp2_with fail
     have := HR.out.1
     have := HR.out.2.1
     have hm := HM.out
     have hl := HC.out.2.1
     go_roundw
     case rel => exact ⟨q + 1, m, by rw [show wrap64 (1 - k) = 1 - k from w64 (by omega) (by omega), hm, w64 (by omega) (by omega)], by go_num, by omega, by omega, Lib.hid (by rw [← HM.out]; exact HR.out.2.2), HB2⟩
     case measure => simp [intOf]; omega
  ·obtain rfl : q = l.length := by omega
   have HE3 : Hid (((n : Int) == 1) = G) := Lib.hid (by rw [← HE.out, List.drop_length]; rfl)
   have p1 : ((l.length : Int) < (l.length : Int)) = False := eq_false (by omega)
   clear HE
   go_wp2_with fail
   go_ret
   exact ⟨by rw [← HE3.out]; rfl, HB.out⟩
end Go.Proofs.YtikilglbhnplaaaGreatDoor
end
section
namespace Go.Proofs.YtikilglbhnplaaaGreatDoor
open Go.RowKit Go.Proofs.YtikilglbhnplaaaGreatDoorW.PrintWords
open PX (T V Tr takes runs val value mayGo may tree_of takes_cases)
def truthV (b : Bool) : V := (2, if b then 1 else 0)
def wholeV (n : Int) : V := (1, n)
def lookV (typed : Bool) (vars : Int) (env : List Int) (v : Int) : Option Int :=
 if typed then if v < vars then some 0 else none else if v < env.length then some (rd env v) else none
def leafE (look : Int → Option Int) (t : T) : Except Int V :=
 if t.f0 = 1 then .ok (wholeV t.f1) else if t.f0 = 2 then (match look t.f1 with | some n => .ok (wholeV n) | none => .error 4) else .ok (truthV (t.f0 == 15))
def oneE (t : T) (a : V) : Except Int V :=
 if t.f0 = 19 ∧ a.1 = 1 then .ok (wholeV (wrap64 (-a.2))) else if t.f0 = 14 ∧ a.1 = 2 then .ok (truthV (a.2 == 0)) else .error 8
def numE (k a b : Int) : Except Int V :=
 if k = 3 then .ok (wholeV (wrap64 (a + b))) else if k = 4 then .ok (wholeV (wrap64 (a - b))) else if k = 5 then .ok (wholeV (wrap64 (a * b)))
 else if k = 6 then (if b = 0 then .error 9 else .ok (wholeV (wrap64 (a.tdiv b)))) else if k = 7 then (if b = 0 then .error 9 else .ok (wholeV (a.tmod b)))
 else if k = 8 then .ok (truthV (decide (a < b))) else if k = 9 then .ok (truthV (decide (a ≤ b))) else .error 8
def bothE (k : Int) (a b : V) : Except Int V :=
 if a.1 ≠ b.1 then .error 8 else if k = 10 then .ok (truthV (a.2 == b.2)) else if k = 11 then .ok (truthV (!(a.2 == b.2)))
 else if a.1 = 1 then numE k a.2 b.2
 else if k = 12 then .ok (truthV (decide (wrap64 (a.2 + b.2) > 1))) else if k = 13 then .ok (truthV (decide (wrap64 (a.2 + b.2) > 0))) else .error 8
def zeroE (typed : Bool) : Except Int V → Except Int V
 | .error e => if e = 9 ∧ typed = true then .ok (wholeV 0) else .error e
 | .ok v => .ok v
def twoE (typed : Bool) (t : T) (a b : V) : Except Int V := zeroE typed (bothE t.f0 a b)
abbrev runsE (look : Int → Option Int) (typed : Bool) := runs (leafE look) oneE (twoE typed)
abbrev stepE (look : Int → Option Int) (typed : Bool) := PX.step (leafE look) oneE (twoE typed)
abbrev valueE (look : Int → Option Int) (typed : Bool) := value (leafE look) oneE (twoE typed)
end Go.Proofs.YtikilglbhnplaaaGreatDoor
end
section
namespace Go.Proofs.YtikilglbhnplaaaGreatDoor
open Go.RowKit Go.Proofs.YtikilglbhnplaaaGreatDoorW.PrintWords
open PX (T V)
theorem below_set2 {B g : Nat} {w W : World} (h : Below B w W) (hB : B ≤ g) (a b : Value) : Below B w ((W.setCell ⟨g, 0, none⟩ a).setCell ⟨g, 1, none⟩ b) :=
 (h.setCell hB _).setCell hB _
theorem blk_set2 {w : World} {g : Nat} {x y : Value} {t : TypeId} {fr : Nat × Nat} (h : w.heap[g]? = some (.cells #[x, y] t fr)) (a b : Value) : ((w.setCell ⟨g, 0, none⟩ a).setCell ⟨g, 1, none⟩ b).heap[g]? = some (.cells #[a, b] t fr) :=
 blk_set (blk_set h 0 a) 1 b
def agV (v : V) : Value := .agg #[.int .i64 v.1, .int .i64 v.2]
def retE (e : Except Int V) : Value := match e with | .ok v => .tuple #[agV v, .nilIface] | .error c => .tuple #[agV (0, 0), .iface 67 (.int .i64 c)]
theorem whole_any (n : Int) (w : World) : Calls Tryz.prog 145 #[.int .i64 n] w fun e w' => e = .returned (agV (wholeV n)) ∧ Below w.heap.size w w' := by
 go_enter Tryz.func145, Tryz.ntmps145
 go_wp2_with fail
 refine bodyPost_ret (results_cell_row rfl _ _ w.heap.size 147 #[.int .i64 _, .int .i64 _] (0, 0) _ rfl (blk_new w _) Tryz.underlying147 rfl (by kernel_rfl)) rfl ?_
 exact ⟨rfl, (Below.refl _ w).alloc (Nat.le_refl _) _⟩
theorem truth_any (b : Bool) (w : World) : Calls Tryz.prog 153 #[.bool b] w fun e w' => e = .returned (agV (truthV b)) ∧ Below w.heap.size w w' := by
 cases b <;>
 ·go_enter Tryz.func153, Tryz.ntmps153
  go_wp2_with fail
  refine bodyPost_ret (results_cell_row rfl _ _ w.heap.size 147 #[.int .i64 _, .int .i64 _] (0, 0) _ rfl (blk_new w _) Tryz.underlying147 rfl (by kernel_rfl)) rfl ?_
  exact ⟨rfl, (Below.refl _ w).alloc (Nat.le_refl _) _⟩
def errOf (e : Option Int) : Value := match e with | none => .nilIface | some c => .iface 67 (.int .i64 c)
theorem nadd_any (a b : Int) (w : World) : Calls Tryz.prog 164 #[.int .i64 a, .int .i64 b] w fun e w' => e = .returned (.int .i64 (wrap64 (a + b))) ∧ Below w.heap.size w w' := by
 go_enter Tryz.func164, Tryz.ntmps164
 go_wp2_with fail
 go_ret
 exact ⟨rfl, Below.refl _ _⟩
theorem nsub_any (a b : Int) (w : World) : Calls Tryz.prog 165 #[.int .i64 a, .int .i64 b] w fun e w' => e = .returned (.int .i64 (wrap64 (a - b))) ∧ Below w.heap.size w w' := by
 go_enter Tryz.func165, Tryz.ntmps165
 go_wp2_with fail
 go_ret
 exact ⟨rfl, Below.refl _ _⟩
theorem nmul_any (a b : Int) (w : World) : Calls Tryz.prog 166 #[.int .i64 a, .int .i64 b] w fun e w' => e = .returned (.int .i64 (wrap64 (a * b))) ∧ Below w.heap.size w w' := by
 go_enter Tryz.func166, Tryz.ntmps166
 go_wp2_with fail
 go_ret
 exact ⟨rfl, Below.refl _ _⟩
theorem nneg_any (a : Int) (w : World) : Calls Tryz.prog 154 #[.int .i64 a] w fun e w' => e = .returned (.int .i64 (wrap64 (-a))) ∧ Below w.heap.size w w' := by
 go_enter Tryz.func154, Tryz.ntmps154
 go_wp2_with fail
 go_ret
 exact ⟨rfl, Below.refl _ _⟩
theorem ndiv0_any (a : Int) (w : World) : Calls Tryz.prog 167 #[.int .i64 a, .int .i64 0] w fun e w' => e = .returned (.tuple #[.int .i64 0, errOf (some 9)]) ∧ Below w.heap.size w w' := by
 go_enter Tryz.func167, Tryz.ntmps167
 go_wp2_with fail
 refine bodyPost_ret (results_tmp2 rfl _ _ _) rfl ?_
 exact ⟨rfl, Below.refl _ _⟩
theorem ndiv_any (a b : Int) (h : ¬ b = 0) (w : World) : Calls Tryz.prog 167 #[.int .i64 a, .int .i64 b] w fun e w' => e = .returned (.tuple #[.int .i64 (wrap64 (a.tdiv b)), errOf none]) ∧ Below w.heap.size w w' := by
 have h1 : (b == 0) = false := beq_eq_false_iff_ne.mpr h
 go_enter Tryz.func167, Tryz.ntmps167
 go_wp2_with fail
 refine bodyPost_ret (results_tmp2 rfl _ _ _) rfl ?_
 exact ⟨rfl, Below.refl _ _⟩
theorem nmod0_any (a : Int) (w : World) : Calls Tryz.prog 168 #[.int .i64 a, .int .i64 0] w fun e w' => e = .returned (.tuple #[.int .i64 0, errOf (some 9)]) ∧ Below w.heap.size w w' := by
 go_enter Tryz.func168, Tryz.ntmps168
 go_wp2_with fail
 refine bodyPost_ret (results_tmp2 rfl _ _ _) rfl ?_
 exact ⟨rfl, Below.refl _ _⟩
theorem nmod_any (a b : Int) (h : ¬ b = 0) (w : World) : Calls Tryz.prog 168 #[.int .i64 a, .int .i64 b] w fun e w' => e = .returned (.tuple #[.int .i64 (a.tmod b), errOf none]) ∧ Below w.heap.size w w' := by
 have h1 : (b == 0) = false := beq_eq_false_iff_ne.mpr h
 go_enter Tryz.func168, Tryz.ntmps168
 go_wp2_with fail
 refine bodyPost_ret (results_tmp2 rfl _ _ _) rfl ?_
 exact ⟨rfl, Below.refl _ _⟩
theorem laid22 {w w2 : World} {x y : Value} {t t' : TypeId} {z z' : Value}
  (hb : Below ((w.alloc (.cells #[x, y] t)).alloc (.cells #[z, z'] t')).heap.size ((w.alloc (.cells #[x, y] t)).alloc (.cells #[z, z'] t')) w2) :
  w2.heap[w.heap.size + 1]? = some (.cells #[z, z'] t' (0, 0)) ∧ w2.cell? ⟨w.heap.size + 1, 0, none⟩ = some z ∧ w2.cell? ⟨w.heap.size + 1, 1, none⟩ = some z' ∧
   w2.frozen? ⟨w.heap.size + 1, 0, none⟩ = false ∧ w2.frozen? ⟨w.heap.size + 1, 1, none⟩ = false ∧ w.heap.size + 1 < w2.heap.size ∧ Below w.heap.size w w2 := by
 have hz := hb.size
 simp at hz
 have e1 : (w.alloc (.cells #[x, y] t)).heap.size = w.heap.size + 1 := by simp
 have h1 := (hb.block (w.heap.size + 1) (by simp)).trans (e1 ▸ blk_new (w.alloc (.cells #[x, y] t)) (.cells #[z, z'] t'))
 exact ⟨h1, blk_cell h1 0, blk_cell h1 1, blk_free h1 0, blk_free h1 1, by omega, (((Below.refl _ _).alloc (Nat.le_refl _) _).alloc (by simp) _).trans (hb.mono (by simp; omega))⟩
theorem alone_any (k : Int) (a : V) (w : World) : Calls Tryz.prog 143 #[.int .i64 k, agV a] w fun e w' => e = .returned (retE (oneE ⟨k, 0, 0⟩ a)) ∧ Below w.heap.size w w' := by
 obtain ⟨ka, na⟩ := a
 obtain ⟨hk, c0, c1, f0, f1, hlt, hbw⟩ := laid22 (Below.refl ((w.alloc (.cells #[.int .i64 ka, .int .i64 na] 147)).alloc (.cells #[.int .i64 0, .int .i64 0] 147)).heap.size ((w.alloc (.cells #[.int .i64 ka, .int .i64 na] 147)).alloc (.cells #[.int .i64 0, .int .i64 0] 147)))
 have hx := blk_alloc (.cells #[.int .i64 0, .int .i64 0] 147) (blk_new w (.cells #[.int .i64 ka, .int .i64 na] 147))
 have x0 := blk_cell hx 0
 have x1 := blk_cell hx 1
 have HK := Lib.hid hk
 have HBW := Lib.hid hbw
 clear hk hbw hx
 simp only [agV]
 cases k1 : (k == 19) with
 | true =>
  obtain rfl : k = 19 := by simpa using k1
  cases k2 : (ka == 1) with
  | true =>
   obtain rfl : ka = 1 := by simpa using k2
   go_enter Tryz.func143, Tryz.ntmps143
   go_wp2_with fail
   refine (nneg_any _ _).mono ?_
   rintro e w1 ⟨rfl, hb1⟩
   go_wp2_with fail
   refine (whole_any _ _).mono ?_
   rintro e w2 ⟨rfl, hb2⟩
   obtain ⟨hk, c0, c1, f0, f1, hlt, hbw⟩ := laid22 (hb1.trans (hb2.mono hb1.size))
   have HK := Lib.hid hk
   clear hk hb1 hb2
   simp only [agV, wholeV]
   go_wp2_with fail
   refine bodyPost_ret (results_ct rfl _ _ (w.heap.size + 1) 147 #[.int .i64 _, .int .i64 _] (0, 0) _ rfl (blk_set2 HK.out _ _) Tryz.underlying147 rfl (by kernel_rfl)) rfl ?_
   exact ⟨rfl, below_set2 hbw (by omega) _ _⟩
  | false =>
   have hR : oneE ⟨19, 0, 0⟩ (ka, na) = .error 8 := by have := k2; simp at this; simp [oneE, this]
   rw [hR]
   go_enter Tryz.func143, Tryz.ntmps143
   go_wp2_with fail
   refine bodyPost_ret (results_ct rfl _ _ (w.heap.size + 1) 147 #[.int .i64 _, .int .i64 _] (0, 0) _ rfl HK.out Tryz.underlying147 rfl (by kernel_rfl)) rfl ?_
   exact ⟨rfl, HBW.out⟩
 | false =>
  cases k3 : (k == 14) with
  | true =>
   obtain rfl : k = 14 := by simpa using k3
   cases k2 : (ka == 2) with
   | true =>
    obtain rfl : ka = 2 := by simpa using k2
    have hR : oneE ⟨14, 0, 0⟩ (2, na) = .ok (truthV (na == 0)) := by simp [oneE]
    rw [hR]
    generalize hbn : (na == 0) = bn
    go_enter Tryz.func143, Tryz.ntmps143
    go_wp2_with fail
    refine (truth_any _ _).mono ?_
    rintro e w2 ⟨rfl, hb2⟩
    obtain ⟨hk, c0, c1, f0, f1, hlt, hbw⟩ := laid22 hb2
    have HK := Lib.hid hk
    clear hk hb2
    simp only [agV]
    go_wp2_with fail
    refine bodyPost_ret (results_ct rfl _ _ (w.heap.size + 1) 147 #[.int .i64 _, .int .i64 _] (0, 0) _ rfl (blk_set2 HK.out _ _) Tryz.underlying147 rfl (by kernel_rfl)) rfl ?_
    exact ⟨rfl, below_set2 hbw (by omega) _ _⟩
   | false =>
    have hR : oneE ⟨14, 0, 0⟩ (ka, na) = .error 8 := by have := k2; simp at this; simp [oneE, this]
    rw [hR]
    go_enter Tryz.func143, Tryz.ntmps143
    go_wp2_with fail
    refine bodyPost_ret (results_ct rfl _ _ (w.heap.size + 1) 147 #[.int .i64 _, .int .i64 _] (0, 0) _ rfl HK.out Tryz.underlying147 rfl (by kernel_rfl)) rfl ?_
    exact ⟨rfl, HBW.out⟩
  | false =>
   have hR : oneE ⟨k, 0, 0⟩ (ka, na) = .error 8 := by have g1 := k1; have g3 := k3; simp at g1 g3; simp [oneE, g1, g3]
   rw [hR]
   go_enter Tryz.func143, Tryz.ntmps143
   go_wp2_with fail
   refine bodyPost_ret (results_ct rfl _ _ (w.heap.size + 1) 147 #[.int .i64 _, .int .i64 _] (0, 0) _ rfl HK.out Tryz.underlying147 rfl (by kernel_rfl)) rfl ?_
   exact ⟨rfl, HBW.out⟩
end Go.Proofs.YtikilglbhnplaaaGreatDoor
end
section
namespace Go.Proofs.YtikilglbhnplaaaGreatDoor
open Go.RowKit Go.Proofs.YtikilglbhnplaaaGreatDoorW.PrintWords
open PX (T V)
theorem laid2 {w w2 : World} {x y : Value} {t : TypeId} (hb : Below (w.alloc (.cells #[x, y] t)).heap.size (w.alloc (.cells #[x, y] t)) w2) :
  w2.heap[w.heap.size]? = some (.cells #[x, y] t (0, 0)) ∧ w2.cell? ⟨w.heap.size, 0, none⟩ = some x ∧ w2.cell? ⟨w.heap.size, 1, none⟩ = some y ∧
   w2.frozen? ⟨w.heap.size, 0, none⟩ = false ∧ w2.frozen? ⟨w.heap.size, 1, none⟩ = false ∧ w.heap.size < w2.heap.size ∧ Below w.heap.size w w2 := by
 have h := (hb.block w.heap.size (by simp)).trans (blk_new _ _)
 have hz := hb.size
 simp at hz
 exact ⟨h, blk_cell h 0, blk_cell h 1, blk_free h 0, blk_free h 1, by omega, ((Below.refl _ _).alloc (Nat.le_refl _) _).trans (hb.mono (by simp))⟩
theorem oneE_kind (t : T) (a : V) : oneE t a = oneE ⟨t.f0, 0, 0⟩ a := rfl
theorem run_add (args : Array Value) (w : World) : (callFunc 164 args).run Tryz.prog w = .ok (.enter 164 args) w := by
 simp [callFunc, Tryz.func164]; rfl
theorem run_sub (args : Array Value) (w : World) : (callFunc 165 args).run Tryz.prog w = .ok (.enter 165 args) w := by
 simp [callFunc, Tryz.func165]; rfl
theorem run_mul (args : Array Value) (w : World) : (callFunc 166 args).run Tryz.prog w = .ok (.enter 166 args) w := by
 simp [callFunc, Tryz.func166]; rfl
theorem run_div (args : Array Value) (w : World) : (callFunc 167 args).run Tryz.prog w = .ok (.enter 167 args) w := by
 simp [callFunc, Tryz.func167]; rfl
theorem run_mod (args : Array Value) (w : World) : (callFunc 168 args).run Tryz.prog w = .ok (.enter 168 args) w := by
 simp [callFunc, Tryz.func168]; rfl
theorem plain_any (f : FuncId) (hrun : ∀ (args : Array Value) (w : World), (callFunc f args).run Tryz.prog w = .ok (.enter f args) w) (a b r : Int) (hf : ∀ w, Calls Tryz.prog f #[.int .i64 a, .int .i64 b] w fun e w' => e = .returned (.int .i64 r) ∧ Below w.heap.size w w')
  (ga gb : Nat) (w : World) (ha : w.cell? ⟨ga, 0, none⟩ = some (.int .i64 a)) (hb : w.cell? ⟨gb, 0, none⟩ = some (.int .i64 b)) :
  Calls Tryz.prog 162 #[.func (.func f) #[] #[], .pointer (some ⟨ga, 0, none⟩), .pointer (some ⟨gb, 0, none⟩)] w fun e w' => e = .returned (retE (.ok (wholeV r))) ∧ Below w.heap.size w w' := by
 have HF := Lib.hid hf
 clear hf
 have a' := (((Below.refl w.heap.size w).alloc (Nat.le_refl _) (.cells #[.int .i64 0, .int .i64 0] 147)).cell (p := ⟨ga, 0, none⟩) (World.block_lt_of_cell? w _ ha)).trans ha
 have b' := (((Below.refl w.heap.size w).alloc (Nat.le_refl _) (.cells #[.int .i64 0, .int .i64 0] 147)).cell (p := ⟨gb, 0, none⟩) (World.block_lt_of_cell? w _ hb)).trans hb
 go_enter Tryz.func162, Tryz.ntmps162
 go_wp2_with fail
 refine (HF.out _).mono ?_
 rintro e w1 ⟨rfl, hb1⟩
 go_wp2_with fail
 refine (whole_any _ _).mono ?_
 rintro e w2 ⟨rfl, hb2⟩
 obtain ⟨hk, c0, c1, f0, f1, hlt, hbw⟩ := laid2 (hb1.trans (hb2.mono hb1.size))
 have HK := Lib.hid hk
 clear hk hb1 hb2 a' b'
 simp only [agV, wholeV]
 go_wp2_with fail
 refine bodyPost_ret (results_ct rfl _ _ w.heap.size 147 #[.int .i64 _, .int .i64 _] (0, 0) _ rfl (blk_set2 HK.out _ _) Tryz.underlying147 rfl (by kernel_rfl)) rfl ?_
 exact ⟨rfl, below_set2 hbw (Nat.le_refl _) _ _⟩
def optE (r : Int) (c : Option Int) : Except Int V := match c with | none => .ok (wholeV r) | some x => .error x
theorem run_plain (args : Array Value) (w : World) : (callFunc 162 args).run Tryz.prog w = .ok (.enter 162 args) w := by
 simp [callFunc, Tryz.func162]; rfl
theorem run_part (args : Array Value) (w : World) : (callFunc 163 args).run Tryz.prog w = .ok (.enter 163 args) w := by
 simp [callFunc, Tryz.func163]; rfl
theorem part_any (f : FuncId) (hrun : ∀ (args : Array Value) (w : World), (callFunc f args).run Tryz.prog w = .ok (.enter f args) w) (a b r : Int) (c : Option Int) (hf : ∀ w, Calls Tryz.prog f #[.int .i64 a, .int .i64 b] w fun e w' => e = .returned (.tuple #[.int .i64 r, errOf c]) ∧ Below w.heap.size w w')
  (ga gb : Nat) (w : World) (ha : w.cell? ⟨ga, 0, none⟩ = some (.int .i64 a)) (hb : w.cell? ⟨gb, 0, none⟩ = some (.int .i64 b)) :
  Calls Tryz.prog 163 #[.func (.func f) #[] #[], .pointer (some ⟨ga, 0, none⟩), .pointer (some ⟨gb, 0, none⟩)] w fun e w' => e = .returned (retE (optE r c)) ∧ Below w.heap.size w w' := by
 have HF := Lib.hid hf
 clear hf
 have a' := (((Below.refl w.heap.size w).alloc (Nat.le_refl _) (.cells #[.int .i64 0, .int .i64 0] 147)).cell (p := ⟨ga, 0, none⟩) (World.block_lt_of_cell? w _ ha)).trans ha
 have b' := (((Below.refl w.heap.size w).alloc (Nat.le_refl _) (.cells #[.int .i64 0, .int .i64 0] 147)).cell (p := ⟨gb, 0, none⟩) (World.block_lt_of_cell? w _ hb)).trans hb
 cases c with
 | none =>
  go_enter Tryz.func163, Tryz.ntmps163
  go_wp2_with fail
  refine (HF.out _).mono ?_
  rintro e w1 ⟨rfl, hb1⟩
  simp only [errOf]
  go_wp2_with fail
  refine (whole_any _ _).mono ?_
  rintro e w2 ⟨rfl, hb2⟩
  obtain ⟨hk, c0, c1, f0, f1, hlt, hbw⟩ := laid2 (hb1.trans (hb2.mono hb1.size))
  have HK := Lib.hid hk
  clear hk hb1 hb2 a' b'
  simp only [agV, wholeV]
  go_wp2_with fail
  refine bodyPost_ret (results_ct rfl _ _ w.heap.size 147 #[.int .i64 _, .int .i64 _] (0, 0) _ rfl (blk_set2 HK.out _ _) Tryz.underlying147 rfl (by kernel_rfl)) rfl ?_
  exact ⟨rfl, below_set2 hbw (Nat.le_refl _) _ _⟩
 | some x =>
  go_enter Tryz.func163, Tryz.ntmps163
  go_wp2_with fail
  refine (HF.out _).mono ?_
  rintro e w1 ⟨rfl, hb1⟩
  simp only [errOf]
  obtain ⟨hk, c0, c1, f0, f1, hlt, hbw⟩ := laid2 hb1
  have HK := Lib.hid hk
  clear hk hb1 a' b'
  go_wp2_with fail
  refine bodyPost_ret (results_ct rfl _ _ w.heap.size 147 #[.int .i64 _, .int .i64 _] (0, 0) _ rfl (blk_set2 HK.out _ _) Tryz.underlying147 rfl (by kernel_rfl)) rfl ?_
  exact ⟨rfl, below_set2 hbw (Nat.le_refl _) _ _⟩
theorem laid112 {w w2 : World} {x y : Value} {t t' : TypeId} {z : Value} {z' : Value}
  (hb : Below (((w.alloc (.cells #[x] t)).alloc (.cells #[y] t)).alloc (.cells #[z, z'] t')).heap.size (((w.alloc (.cells #[x] t)).alloc (.cells #[y] t)).alloc (.cells #[z, z'] t')) w2) :
  w2.heap[w.heap.size + 1 + 1]? = some (.cells #[z, z'] t' (0, 0)) ∧ w2.cell? ⟨w.heap.size, 0, none⟩ = some x ∧ w2.cell? ⟨w.heap.size + 1, 0, none⟩ = some y ∧ w2.cell? ⟨w.heap.size + 1 + 1, 0, none⟩ = some z ∧ w2.cell? ⟨w.heap.size + 1 + 1, 1, none⟩ = some z' ∧
   w2.frozen? ⟨w.heap.size + 1 + 1, 0, none⟩ = false ∧ w2.frozen? ⟨w.heap.size + 1 + 1, 1, none⟩ = false ∧ w.heap.size + 1 + 1 < w2.heap.size ∧ Below w.heap.size w w2 := by
 have hz := hb.size
 simp at hz
 have e1 : (w.alloc (.cells #[x] t)).heap.size = w.heap.size + 1 := by simp
 have e2 : ((w.alloc (.cells #[x] t)).alloc (.cells #[y] t)).heap.size = w.heap.size + 1 + 1 := by simp
 have h2 := (hb.block (w.heap.size + 1 + 1) (by simp)).trans (e2 ▸ blk_new ((w.alloc (.cells #[x] t)).alloc (.cells #[y] t)) (.cells #[z, z'] t'))
 have h1 := (hb.block (w.heap.size + 1) (by simp)).trans (blk_alloc _ (e1 ▸ blk_new (w.alloc (.cells #[x] t)) (.cells #[y] t)))
 have h0 := (hb.block w.heap.size (by simp; omega)).trans (blk_alloc _ (blk_alloc _ (blk_new w (.cells #[x] t))))
 exact ⟨h2, blk_cell h0 0, blk_cell h1 0, blk_cell h2 0, blk_cell h2 1, blk_free h2 0, blk_free h2 1, by omega, ((((Below.refl _ _).alloc (Nat.le_refl _) _).alloc (by simp) _).alloc (by simp; omega) _).trans (hb.mono (by simp; omega))⟩
theorem numbers_any (k a b : Int) (w : World) : Calls Tryz.prog 155 #[.int .i64 k, .int .i64 a, .int .i64 b] w fun e w' => e = .returned (retE (numE k a b)) ∧ Below w.heap.size w w' := by
 have hmf : ∀ (fn : Fn) (first cap : Array Value) (w : World), (Instr.makeFunc fn first cap).run Tryz.prog w = .ok (.func fn first cap) w := fun _ _ _ _ => rfl
 have r1 := run_plain
 have r2 := run_part
 obtain ⟨_, a0, b0, _, _, _, _, _, _⟩ := laid112 (Below.refl (((w.alloc (.cells #[.int .i64 a] 2)).alloc (.cells #[.int .i64 b] 2)).alloc (.cells #[.int .i64 0, .int .i64 0] 147)).heap.size (((w.alloc (.cells #[.int .i64 a] 2)).alloc (.cells #[.int .i64 b] 2)).alloc (.cells #[.int .i64 0, .int .i64 0] 147)))
 by_cases h3 : k = 3
 ·subst h3
  go_enter Tryz.func155, Tryz.ntmps155
  go_wp2_with fail
  refine (plain_any 164 run_add a b (wrap64 (a + b)) (nadd_any a b) _ _ _ a0 b0).mono ?_
  rintro e w1 ⟨rfl, hb1⟩
  obtain ⟨hk, c0, c1, d0, d1, f0, f1, hlt, hbw⟩ := laid112 hb1
  have HK := Lib.hid hk
  clear hk hb1 a0 b0
  simp only [retE, agV, wholeV]
  go_wp2_with fail
  refine bodyPost_ret (results_ct rfl _ _ (w.heap.size + 1 + 1) 147 #[.int .i64 _, .int .i64 _] (0, 0) _ rfl (blk_set2 HK.out _ _) Tryz.underlying147 rfl (by kernel_rfl)) rfl ?_
  exact ⟨by rw [numE, if_pos rfl]; rfl, below_set2 hbw (by omega) _ _⟩
 by_cases h4 : k = 4
 ·subst h4
  go_enter Tryz.func155, Tryz.ntmps155
  go_wp2_with fail
  refine (plain_any 165 run_sub a b (wrap64 (a - b)) (nsub_any a b) _ _ _ a0 b0).mono ?_
  rintro e w1 ⟨rfl, hb1⟩
  obtain ⟨hk, c0, c1, d0, d1, f0, f1, hlt, hbw⟩ := laid112 hb1
  have HK := Lib.hid hk
  clear hk hb1 a0 b0
  simp only [retE, agV, wholeV]
  go_wp2_with fail
  refine bodyPost_ret (results_ct rfl _ _ (w.heap.size + 1 + 1) 147 #[.int .i64 _, .int .i64 _] (0, 0) _ rfl (blk_set2 HK.out _ _) Tryz.underlying147 rfl (by kernel_rfl)) rfl ?_
  exact ⟨rfl, below_set2 hbw (by omega) _ _⟩
 by_cases h5 : k = 5
 ·subst h5
  go_enter Tryz.func155, Tryz.ntmps155
  go_wp2_with fail
  refine (plain_any 166 run_mul a b (wrap64 (a * b)) (nmul_any a b) _ _ _ a0 b0).mono ?_
  rintro e w1 ⟨rfl, hb1⟩
  obtain ⟨hk, c0, c1, d0, d1, f0, f1, hlt, hbw⟩ := laid112 hb1
  have HK := Lib.hid hk
  clear hk hb1 a0 b0
  simp only [retE, agV, wholeV]
  go_wp2_with fail
  refine bodyPost_ret (results_ct rfl _ _ (w.heap.size + 1 + 1) 147 #[.int .i64 _, .int .i64 _] (0, 0) _ rfl (blk_set2 HK.out _ _) Tryz.underlying147 rfl (by kernel_rfl)) rfl ?_
  exact ⟨rfl, below_set2 hbw (by omega) _ _⟩
 by_cases h6 : k = 6
 ·subst h6
  by_cases hz : b = 0
  ·subst hz
   go_enter Tryz.func155, Tryz.ntmps155
   go_wp2_with fail
   refine (part_any 167 run_div a 0 (0) (some 9) (ndiv0_any a) _ _ _ a0 b0).mono ?_
   rintro e w1 ⟨rfl, hb1⟩
   obtain ⟨hk, c0, c1, d0, d1, f0, f1, hlt, hbw⟩ := laid112 hb1
   have HK := Lib.hid hk
   clear hk hb1 a0 b0
   simp only [optE, retE, agV, wholeV]
   go_wp2_with fail
   refine bodyPost_ret (results_ct rfl _ _ (w.heap.size + 1 + 1) 147 #[.int .i64 _, .int .i64 _] (0, 0) _ rfl (blk_set2 HK.out _ _) Tryz.underlying147 rfl (by kernel_rfl)) rfl ?_
   exact ⟨rfl, below_set2 hbw (by omega) _ _⟩
  ·have hN : numE 6 a b = .ok (wholeV (wrap64 (a.tdiv b))) := by simp [numE, hz]
   rw [hN]
   clear hN
   go_enter Tryz.func155, Tryz.ntmps155
   go_wp2_with fail
   refine (part_any 167 run_div a b (wrap64 (a.tdiv b)) (none) (ndiv_any a b hz) _ _ _ a0 b0).mono ?_
   rintro e w1 ⟨rfl, hb1⟩
   obtain ⟨hk, c0, c1, d0, d1, f0, f1, hlt, hbw⟩ := laid112 hb1
   have HK := Lib.hid hk
   clear hk hb1 a0 b0
   simp only [optE, retE, agV, wholeV]
   go_wp2_with fail
   refine bodyPost_ret (results_ct rfl _ _ (w.heap.size + 1 + 1) 147 #[.int .i64 _, .int .i64 _] (0, 0) _ rfl (blk_set2 HK.out _ _) Tryz.underlying147 rfl (by kernel_rfl)) rfl ?_
   exact ⟨rfl, below_set2 hbw (by omega) _ _⟩
 by_cases h7 : k = 7
 ·subst h7
  by_cases hz : b = 0
  ·subst hz
   go_enter Tryz.func155, Tryz.ntmps155
   go_wp2_with fail
   refine (part_any 168 run_mod a 0 (0) (some 9) (nmod0_any a) _ _ _ a0 b0).mono ?_
   rintro e w1 ⟨rfl, hb1⟩
   obtain ⟨hk, c0, c1, d0, d1, f0, f1, hlt, hbw⟩ := laid112 hb1
   have HK := Lib.hid hk
   clear hk hb1 a0 b0
   simp only [optE, retE, agV, wholeV]
   go_wp2_with fail
   refine bodyPost_ret (results_ct rfl _ _ (w.heap.size + 1 + 1) 147 #[.int .i64 _, .int .i64 _] (0, 0) _ rfl (blk_set2 HK.out _ _) Tryz.underlying147 rfl (by kernel_rfl)) rfl ?_
   exact ⟨rfl, below_set2 hbw (by omega) _ _⟩
  ·have hN : numE 7 a b = .ok (wholeV (a.tmod b)) := by simp [numE, hz]
   rw [hN]
   clear hN
   go_enter Tryz.func155, Tryz.ntmps155
   go_wp2_with fail
   refine (part_any 168 run_mod a b (a.tmod b) (none) (nmod_any a b hz) _ _ _ a0 b0).mono ?_
   rintro e w1 ⟨rfl, hb1⟩
   obtain ⟨hk, c0, c1, d0, d1, f0, f1, hlt, hbw⟩ := laid112 hb1
   have HK := Lib.hid hk
   clear hk hb1 a0 b0
   simp only [optE, retE, agV, wholeV]
   go_wp2_with fail
   refine bodyPost_ret (results_ct rfl _ _ (w.heap.size + 1 + 1) 147 #[.int .i64 _, .int .i64 _] (0, 0) _ rfl (blk_set2 HK.out _ _) Tryz.underlying147 rfl (by kernel_rfl)) rfl ?_
   exact ⟨rfl, below_set2 hbw (by omega) _ _⟩
 by_cases h8 : k = 8
 ·subst h8
  have hN : numE 8 a b = .ok (truthV (decide (a < b))) := rfl
  rw [hN]
  clear hN
  go_enter Tryz.func155, Tryz.ntmps155
  go_wp2_with fail
  refine (truth_any _ _).mono ?_
  rintro e w1 ⟨rfl, hb1⟩
  obtain ⟨hk, c0, c1, d0, d1, f0, f1, hlt, hbw⟩ := laid112 hb1
  have HK := Lib.hid hk
  clear hk hb1 a0 b0
  simp only [agV]
  go_wp2_with fail
  refine bodyPost_ret (results_ct rfl _ _ (w.heap.size + 1 + 1) 147 #[.int .i64 _, .int .i64 _] (0, 0) _ rfl (blk_set2 HK.out _ _) Tryz.underlying147 rfl (by kernel_rfl)) rfl ?_
  exact ⟨rfl, below_set2 hbw (by omega) _ _⟩
 by_cases h9 : k = 9
 ·subst h9
  have hN : numE 9 a b = .ok (truthV (decide (a ≤ b))) := rfl
  rw [hN]
  clear hN
  go_enter Tryz.func155, Tryz.ntmps155
  go_wp2_with fail
  refine (truth_any _ _).mono ?_
  rintro e w1 ⟨rfl, hb1⟩
  obtain ⟨hk, c0, c1, d0, d1, f0, f1, hlt, hbw⟩ := laid112 hb1
  have HK := Lib.hid hk
  clear hk hb1 a0 b0
  simp only [agV]
  go_wp2_with fail
  refine bodyPost_ret (results_ct rfl _ _ (w.heap.size + 1 + 1) 147 #[.int .i64 _, .int .i64 _] (0, 0) _ rfl (blk_set2 HK.out _ _) Tryz.underlying147 rfl (by kernel_rfl)) rfl ?_
  exact ⟨rfl, below_set2 hbw (by omega) _ _⟩
 have hN : numE k a b = .error 8 := by simp [numE, h3, h4, h5, h6, h7, h8, h9]
 rw [hN]
 have n3 : (k == 3) = false := beq_eq_false_iff_ne.mpr h3
 have n4 : (k == 4) = false := beq_eq_false_iff_ne.mpr h4
 have n5 : (k == 5) = false := beq_eq_false_iff_ne.mpr h5
 have n6 : (k == 6) = false := beq_eq_false_iff_ne.mpr h6
 have n7 : (k == 7) = false := beq_eq_false_iff_ne.mpr h7
 have n8 : (k == 8) = false := beq_eq_false_iff_ne.mpr h8
 have n9 : (k == 9) = false := beq_eq_false_iff_ne.mpr h9
 clear hN h3 h4 h5 h6 h7 h8 h9
 obtain ⟨hk, c0, c1, d0, d1, f0, f1, hlt, hbw⟩ := laid112 (Below.refl (((w.alloc (.cells #[.int .i64 a] 2)).alloc (.cells #[.int .i64 b] 2)).alloc (.cells #[.int .i64 0, .int .i64 0] 147)).heap.size (((w.alloc (.cells #[.int .i64 a] 2)).alloc (.cells #[.int .i64 b] 2)).alloc (.cells #[.int .i64 0, .int .i64 0] 147)))
 have HK := Lib.hid hk
 clear hk
 go_enter Tryz.func155, Tryz.ntmps155
 go_wp2_with fail
 refine bodyPost_ret (results_ct rfl _ _ (w.heap.size + 1 + 1) 147 #[.int .i64 _, .int .i64 _] (0, 0) _ rfl HK.out Tryz.underlying147 rfl (by kernel_rfl)) rfl ?_
 exact ⟨rfl, hbw⟩
end Go.Proofs.YtikilglbhnplaaaGreatDoor
end
section
namespace Go.Proofs.YtikilglbhnplaaaGreatDoor
open Go.RowKit
section
variable {P : Program} {ops : Array Oper} {md : Region.Mode} {C : World → Prop}
def anyHead (P : Program) (md : Region.Mode) (ops : Array Oper) (C : World → Prop) (n : Nat) (L : Array Bool → Act → Prop) : Nat → Array Bool → Act → Prop
 | 0, listed, a => L listed a
 | f + 1, listed, a => Region.ready md ops listed ≠ [] ∧ ∀ i ∈ Region.ready md ops listed, i < n ∧ qOp P ops C i (anyHead P md ops C n L f (listed.setIfInBounds i true)) a
theorem any_of_head {n g : Nat} {L : Array Bool → Act → Prop} {Q' : Exit → Act → World → Prop} (hL : ∀ listed a w, C w → L listed a → wpAny P md ops Q' g listed a w) :
  ∀ (f : Nat) (listed : Array Bool) (a : Act) (w : World), C w → anyHead P md ops C n L f listed a → wpAny P md ops Q' (f + g) listed a w
 | 0, _, _, _, hw, h => by rw [Nat.zero_add]; exact hL _ _ _ hw h
 | f + 1, _, _, _, hw, h => by
  rw [show f + 1 + g = (f + g) + 1 by omega]
  exact ⟨fun h0 => absurd h0 h.1, fun i hi => wpOp_of_qOp hw (fun a' w' hw' h' => any_of_head hL f _ a' w' hw' h') (h.2 i hi).2⟩
theorem head_first {n i : Nat} {oi : Oper} {v : Value} {L : Array Bool → Act → Prop} (hi : ops[i]? = some oi) (hsel : ∀ (j : Nat) (o : Oper) cs b, ops[j]? = some o → o.op ≠ .select cs b)
  (hs : Region.sinkB md ops n = true) (hc : Region.chainB md ops n = true) (hn : n < ops.size) (hin : i < n)
  (hdone : ∀ listed a, L listed a → ∀ j ∈ Region.ready md ops listed, n ≤ j) (f : Nat) :
  ∀ (listed : Array Bool) (a : Act), HeadInv md ops n listed →
   (∀ j oj, ops[j]? = some oj → j ≠ i → listed.getD j true = false → (∀ e ∈ oj.after, Region.binds md e = true → e.on ≠ i) → oi.apart ops oj = true) →
   i ∈ Region.ready md ops listed → YieldsIn P ops C oi v a →
   anyHead P md ops C n L f (listed.setIfInBounds i true) (a.put oi.dst v) → anyHead P md ops C n L (f + 1) listed a := by
 have low : ∀ (listed : Array Bool), HeadInv md ops n listed → i ∈ Region.ready md ops listed → ∀ j ∈ Region.ready md ops listed, j < n := by
  intro listed inv hr j hj
  have hun := (mem_ready.1 hr).1
  rcases Nat.lt_or_ge j n with h | h
  ·exact h
  ·exact absurd hj (tail_waits hs hc hn inv _ i rfl hin hun j h)
 have some_ : ∀ (listed : Array Bool), i ∈ Region.ready md ops listed → Region.ready md ops listed ≠ [] := fun listed hr h => by rw [h] at hr; cases hr
 induction f with
 | zero =>
  intro listed a inv _ hr hy H
  refine ⟨some_ listed hr, fun j hj => ⟨low listed inv hr j hj, ?_⟩⟩
  by_cases hji : j = i
  ·rw [hji]; exact hy.qOp hi H
  ·have := hdone _ _ H j (ready_mono hj hji)
   have := low listed inv hr j hj
   omega
 | succ f ih =>
  intro listed a inv hfree hr hy H
  refine ⟨some_ listed hr, fun j hj => ⟨low listed inv hr j hj, ?_⟩⟩
  by_cases hji : j = i
  ·rw [hji]; exact hy.qOp hi H
  obtain ⟨hjun, oj, hoj, hall⟩ := mem_ready.1 hj
  have hun := (mem_ready.1 hr).1
  have h2 := qOp_put hoj (hfree j oj hoj hji hjun fun e he hb heq => by
   have h1 := hall e he hb
   rw [heq, getD_both hun] at h1
   cases h1) (fun cs b => hsel i oi cs b hi) (fun cs b => hsel j oj cs b hoj) hy (H.2 j (ready_mono hj hji)).2
  refine qOp_mono (fun a' h3 => ih (listed.setIfInBounds j true) a' (inv.set hj (low listed inv hr j hj)) (fun k ok hk hki hun' hno => hfree k ok hk hki ?_ hno) (ready_mono hr (Ne.symm hji)) h3.1 ?_) h2
  ·by_cases hjk : j = k
   ·exact hjk ▸ hjun
   ·rwa [getD_set_ne true hjk] at hun'
  ·rw [Array.setIfInBounds_comm _ _ hji]
   exact h3.2
theorem head_lex {n g : Nat} {Lq : Act → Prop} (hsel : Region.noSelect ops = true) (hs : Region.sinkB md ops n = true) (hc : Region.chainB md ops n = true) (hn : n < ops.size) :
  ∀ (l : List Oper) (k : Nat) (listed : Array Bool) (a : Act), (∀ j, j < l.length → l[j]? = ops[k + j]?) → k + l.length = n → HeadInv md ops n listed →
  Region.lexHead md ops g l.length k listed = true → wpQuiet P ops C Lq l a →
  anyHead P md ops C n (fun listed' a' => Region.seqB md ops g n listed' = true ∧ Lq a') l.length listed a
 | [], k, _, _, _, hk, _, hB, h => by
  obtain rfl : k = n := by simpa using hk
  exact ⟨by simpa [Region.lexHead] using hB, h⟩
 | o :: l, k, listed, a, hl, hk, inv, hB, h => by
  have h0 : ops[k]? = some o := by simpa using (hl 0 (by simp)).symm
  simp only [List.length_cons, Region.lexHead, Bool.and_eq_true] at hB hk
  have hkn : k < n := by omega
  have hr : k ∈ Region.ready md ops listed := by simpa using hB.1.1
  obtain ⟨v, hy, hK⟩ := yieldsIn_of_qOp (P := P) (C := C) (K := wpQuiet P ops C Lq l) h0 (by unfold qOp; simp only [h0]; exact h)
  refine head_first h0 (Region.noSelect_spec hsel) hs hc hn hkn (fun listed' a' hL => seqB_ready hL.1) l.length listed a inv (Region.free_spec h0 hB.1.2) hr hy ?_
  exact head_lex hsel hs hc hn l (k + 1) _ _ (fun j hj => by have := hl (j + 1) (by simp; omega); simpa [Nat.add_assoc, Nat.add_comm 1 j] using this) (by omega) (inv.set hr hkn) hB.2 hK
theorem region_quiet_tail {id : Nat} {Q : Exit → Act → World → Prop} {a : Act} {w : World} {l : List Oper} (n : Nat) (hm : P.follows .mixedOrders = true) (hB : Region.lexTailB .any l.toArray n = true)
  (h : wpQuiet P l.toArray (fun w' => ∃ n, w' = w.drewN n) (fun a' => ∀ w', (∃ n, w' = w.drewN n) → wpList P l.toArray Q (l.drop n) a' w') (l.take n) a) : (Code.region id l.toArray true).wp P Q a w := by
 simp only [Region.lexTailB, Bool.and_eq_true, decide_eq_true_eq] at hB
 obtain ⟨⟨⟨⟨hsel, hn⟩, hs⟩, hc⟩, hlex⟩ := hB
 have hn' : n < l.length := by simpa using hn
 have htl : (l.take n).length = n := by simp; omega
 have hdl : (l.drop n).length = l.toArray.size - n := by simp
 have inv0 : HeadInv .any l.toArray n (Array.replicate l.toArray.size false) :=
  ⟨by simp, fun j oj _ hl => (by rw [getD_replicate_false] at hl; cases hl), fun t _ ht => getD_in (by simpa using ht) (getD_replicate_false _ _)⟩
 have H := head_lex (P := P) (C := fun w' => ∃ n, w' = w.drewN n) (md := .any) (g := l.toArray.size - n) hsel hs hc hn (l.take n) 0 _ a (fun j hj => by
  have hj' : j < n := by rw [htl] at hj; exact hj
  simp [hj']) (by simpa using htl) inv0 (by rw [htl]; exact hlex) h
 refine wp_region_any hm ?_
 have := any_of_head (Q' := Q) (g := l.toArray.size - n) (fun listed a' w' hw' hL => by
  have := wpAny_of_seq (md := .any) (Q' := Q) (l.drop n) n listed a' w' (fun j => by simp [List.getElem?_drop]) (by rw [hdl]; exact hL.1) (hL.2 w' hw')
  rwa [hdl] at this) _ _ _ { w with drawn := w.drawn + 1 } ⟨1, rfl⟩ H
 rw [htl, show n + (l.toArray.size - n) = l.toArray.size by omega] at this
 exact this
end
end Go.Proofs.YtikilglbhnplaaaGreatDoor
end
