/- What the reference's numbers come to. Nothing of the walk. -/
import Derived.Test.YtldcplgfkcionaaDoorBase
import Derived.Test.YtldcplgfkcionaaDoorPAllRef4
set_option linter.unusedVariables false
set_option linter.unusedSimpArgs false
namespace Go.Proofs.YtldcplgfkcionaaDoor
open Go.RowKit Go.Proofs.YtldcplgfkcionaaDoorW.PrintWords
theorem u64w (n : Int) : IntKind.u64.wrap n = n % 18446744073709551616 := by rw [IntKind.wrap_u64]
theorem wq (x : Nat) : wrap64 (IntKind.u64.wrap x) = wrap64 x := by
  rw [u64w]; unfold wrap64; omega
theorem wn (x : Nat) : wrap64 (IntKind.u64.wrap (-(IntKind.u64.wrap x))) = wrap64 (-x) := by
  rw [u64w, u64w]; unfold wrap64; omega
theorem tdiv_nn (a b : Int) (ha : 0 ≤ a) (hb : 0 ≤ b) : a.tdiv b = ((a.natAbs / b.natAbs : Nat) : Int) := by
  obtain ⟨n, rfl⟩ := Int.eq_ofNat_of_zero_le ha
  obtain ⟨m, rfl⟩ := Int.eq_ofNat_of_zero_le hb
  simp
theorem tdiv_pn (a b : Int) (ha : 0 ≤ a) (hb : b < 0) : a.tdiv b = -((a.natAbs / b.natAbs : Nat) : Int) := by
  have := tdiv_nn a (-b) ha (by omega)
  rw [Int.tdiv_neg] at this
  simp at this ⊢; omega
theorem tdiv_np (a b : Int) (ha : a < 0) (hb : 0 ≤ b) : a.tdiv b = -((a.natAbs / b.natAbs : Nat) : Int) := by
  have := tdiv_nn (-a) b (by omega) hb
  rw [Int.neg_tdiv] at this
  simp at this ⊢; omega
theorem tdiv_neg2 (a b : Int) (ha : a < 0) (hb : b < 0) : a.tdiv b = ((a.natAbs / b.natAbs : Nat) : Int) := by
  have := tdiv_nn (-a) (-b) (by omega) (by omega)
  rw [Int.neg_tdiv, Int.tdiv_neg] at this
  simp at this ⊢; omega
theorem w64_ex (x : Int) : ∃ k : Int, wrap64 x = x + k * 18446744073709551616 := ⟨-((x + 9223372036854775808) / 18446744073709551616), by unfold wrap64; omega⟩
theorem w64_eq (x y k : Int) (h : x = y + k * 18446744073709551616) : wrap64 x = wrap64 y := by subst h; unfold wrap64; omega
theorem w64_mul (b x : Int) : wrap64 (b * wrap64 x) = wrap64 (b * x) := by
  obtain ⟨k, h⟩ := w64_ex x; exact w64_eq _ _ (b * k) (by rw [h, Int.mul_add, Int.mul_assoc])
theorem w64_sub (a x : Int) : wrap64 (a - wrap64 x) = wrap64 (a - x) := by
  obtain ⟨k, h⟩ := w64_ex x; exact w64_eq _ _ (-k) (by rw [h]; omega)
theorem u64_ex (x : Int) : ∃ k : Int, IntKind.u64.wrap x = x + k * 18446744073709551616 := ⟨-(x / 18446744073709551616), by rw [u64w]; omega⟩
theorem tmod_bounds (a b : Int) (h1 : -9223372036854775808 ≤ a) (h2 : a ≤ 9223372036854775807) : -9223372036854775808 ≤ a.tmod b ∧ a.tmod b ≤ 9223372036854775807 := by
  by_cases ha : 0 ≤ a
  · have := Int.tmod_nonneg b ha
    have h := Int.natAbs_tmod a b
    have := Nat.mod_le a.natAbs b.natAbs
    omega
  · have h := Int.natAbs_tmod a b
    have := Nat.mod_le a.natAbs b.natAbs
    have h3 := Int.tmod_nonneg b (a := -a) (by omega)
    rw [Int.neg_tmod] at h3
    omega
theorem mod_back (a b : Int) (h1 : -9223372036854775808 ≤ a) (h2 : a ≤ 9223372036854775807) : wrap64 (a - wrap64 (b * wrap64 (a.tdiv b))) = a.tmod b := by
  rw [w64_sub, ← w64_sub, w64_mul, w64_sub, ← Int.tmod_def]
  exact IntWalk.wrap64_in _ (tmod_bounds a b h1 h2)
theorem wrap_in (x : Int) : -9223372036854775808 ≤ wrap64 x ∧ wrap64 x ≤ 9223372036854775807 := by unfold wrap64; omega
theorem radd_f (a b : Int) : PAll.spinetref01_Add.f a b = some (wrap64 (a + b)) := by
  unfold PAll.spinetref01_Add.f
  obtain ⟨k, h⟩ := u64_ex a
  obtain ⟨l, h2⟩ := u64_ex b
  obtain ⟨m, h3⟩ := u64_ex (IntKind.u64.wrap a + IntKind.u64.wrap b)
  rw [h3]
  congr 1
  exact w64_eq _ _ (k + l + m) (by rw [h, h2]; omega)
theorem rsub_f (a b : Int) : PAll.spinetref01_Sub.f a b = some (wrap64 (a - b)) := by
  unfold PAll.spinetref01_Sub.f
  obtain ⟨k, h⟩ := u64_ex a
  obtain ⟨l, h2⟩ := u64_ex b
  obtain ⟨m, h3⟩ := u64_ex (IntKind.u64.wrap a - IntKind.u64.wrap b)
  rw [h3]
  congr 1
  exact w64_eq _ _ (k - l + m) (by rw [h, h2]; omega)
theorem rmul_f (a b : Int) : PAll.spinetref01_Mul.f a b = some (wrap64 (a * b)) := by
  unfold PAll.spinetref01_Mul.f
  obtain ⟨k, h⟩ := u64_ex a
  obtain ⟨l, h2⟩ := u64_ex b
  obtain ⟨m, h3⟩ := u64_ex (IntKind.u64.wrap a * IntKind.u64.wrap b)
  rw [h3]
  congr 1
  refine w64_eq _ _ (a * l + k * b + k * 18446744073709551616 * l + m) ?_
  rw [h, h2]
  simp only [Int.add_mul, Int.mul_add, Int.mul_assoc, Int.mul_comm, Int.mul_left_comm]
  omega
theorem rsize_f (a : Int) (h1 : -9223372036854775808 ≤ a) (h2 : a ≤ 9223372036854775807) : PAll.spinetref01_size.f a = some (a.natAbs : Int) := by
  unfold PAll.spinetref01_size.f
  split
  · congr 1; simp only [u64w]; omega
  · congr 1; simp only [u64w]; omega
theorem rdiv_f (a b : Int) (h1 : -9223372036854775808 ≤ a) (h2 : a ≤ 9223372036854775807) (h3 : -9223372036854775808 ≤ b) (h4 : b ≤ 9223372036854775807) (hb : ¬ b = 0) : PAll.spinetref01_Div.f a b = some (wrap64 (a.tdiv b)) := by
  unfold PAll.spinetref01_Div.f
  rw [rsize_f a h1 h2, rsize_f b h3 h4]
  simp only [Option.bind_some]
  rw [if_neg (by omega)]
  have ec : (a.natAbs : Int).tdiv b.natAbs = ((a.natAbs / b.natAbs : Nat) : Int) := by simp
  rw [ec]
  by_cases ha : a < 0
  · have dA : decide (a < 0) = true := decide_eq_true ha
    by_cases hb' : b < 0
    · have dB : decide (b < 0) = true := decide_eq_true hb'
      rw [dA, dB, if_neg (by decide), wq, tdiv_neg2 a b ha hb']
    · have dB : decide (b < 0) = false := decide_eq_false hb'
      rw [dA, dB, if_pos (by decide), wn, tdiv_np a b ha (by omega)]
  · have dA : decide (a < 0) = false := decide_eq_false ha
    by_cases hb' : b < 0
    · have dB : decide (b < 0) = true := decide_eq_true hb'
      rw [dA, dB, if_pos (by decide), wn, tdiv_pn a b (by omega) hb']
    · have dB : decide (b < 0) = false := decide_eq_false hb'
      rw [dA, dB, if_neg (by decide), wq, tdiv_nn a b (by omega) (by omega)]
theorem rmod_f (a b : Int) (h1 : -9223372036854775808 ≤ a) (h2 : a ≤ 9223372036854775807) (h3 : -9223372036854775808 ≤ b) (h4 : b ≤ 9223372036854775807) (hb : ¬ b = 0) : PAll.spinetref01_Mod.f a b = some (a.tmod b) := by
  unfold PAll.spinetref01_Mod.f
  rw [rdiv_f a b h1 h2 h3 h4 hb]
  simp only [Option.bind_some]
  rw [rmul_f]
  simp only [Option.bind_some]
  rw [rsub_f, mod_back a b h1 h2]
  rfl
end Go.Proofs.YtldcplgfkcionaaDoor
