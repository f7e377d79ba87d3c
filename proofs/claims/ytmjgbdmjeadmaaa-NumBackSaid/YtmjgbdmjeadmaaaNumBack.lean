/- 'NumBack' returns true for every two numbers: what was added is taken away again, quotient times b and rest together are a, and the rest is less than b and of a's sign. No condition. -/
import Derived.Test.YtmjgbdmjeadmaaaNum
import Derived.Lib.Hide
namespace Go.Proofs.Ytmjgbdmjeadmaaa
open Go.RowKit
theorem divq (a b q : Int) (w : World) (hb : ¬ b = 0) (h : Hid (wrap64 (a.tdiv b) = q)) : Calls Try.prog 14 #[.int .i64 a, .int .i64 b] w fun e w' => e = .returned (.tuple #[.int .i64 q, .nilIface]) ∧ w = w' := by
  rw [← h.out]; exact div_any a b w hb
theorem modr (a b r : Int) (w : World) (hb : ¬ b = 0) (h : Hid (a.tmod b = r)) : Calls Try.prog 15 #[.int .i64 a, .int .i64 b] w fun e w' => e = .returned (.tuple #[.int .i64 r, .nilIface]) ∧ w = w' := by
  rw [← h.out]; exact mod_any a b w hb
theorem divz (a b : Int) (w : World) (h : (b == 0) = true) : Calls Try.prog 14 #[.int .i64 a, .int .i64 b] w fun e w' => e = .returned (.tuple #[.int .i64 0, .iface 27 (.int .i64 9)]) ∧ w = w' := by
  obtain rfl : b = 0 := by simpa using h
  exact div_zero a w
theorem modz (a b : Int) (w : World) (h : (b == 0) = true) : Calls Try.prog 15 #[.int .i64 a, .int .i64 b] w fun e w' => e = .returned (.tuple #[.int .i64 0, .iface 27 (.int .i64 9)]) ∧ w = w' := by
  obtain rfl : b = 0 := by simpa using h
  exact mod_zero a w
theorem back1 (a b : Int) (h1 : -9223372036854775808 ≤ a) (h2 : a ≤ 9223372036854775807) : wrap64 (wrap64 (a + b) - b) = a := by
  have e : wrap64 (a + b) - b = wrap64 (a + b) + (-b) := by omega
  rw [e, w64_add]; unfold wrap64; omega
theorem back2 (a : Int) : wrap64 (a + wrap64 (-a)) = 0 := by
  rw [Int.add_comm, w64_add]; unfold wrap64; omega
theorem back3 (a b : Int) (h1 : -9223372036854775808 ≤ a) (h2 : a ≤ 9223372036854775807) : wrap64 (wrap64 (wrap64 (a.tdiv b) * b) + a.tmod b) = a := by
  rw [w64_add, Int.mul_comm, Int.add_comm, ← w64_add, Int.add_comm]
  have := w64_mul b (a.tdiv b)
  have e2 : wrap64 (b * wrap64 (a.tdiv b) + wrap64 (a.tmod b)) = wrap64 (wrap64 (b * wrap64 (a.tdiv b)) + wrap64 (a.tmod b)) := (w64_add _ _).symm
  rw [e2, this, w64_add, Int.add_comm, w64_add, Int.add_comm, Int.mul_tdiv_add_tmod]
  exact IntWalk.wrap64_in _ ⟨h1, h2⟩
set_option maxHeartbeats 4000000 in
theorem NumBack_walk (a b : Int) (w : World) (h1 : -9223372036854775808 ≤ a) (h2 : a ≤ 9223372036854775807) (h3 : -9223372036854775808 ≤ b) (h4 : b ≤ 9223372036854775807) : Calls Try.prog 5 #[.int .i64 a, .int .i64 b] w fun e w' => e = .returned (.bool true) ∧ w = w' := by
  have hu24 := Try.underlying24
  have e1 : (wrap64 (wrap64 (a + b) - b) != a) = false := bne_eq_false_iff_eq.2 (back1 a b h1 h2)
  have e2 : (wrap64 (a + wrap64 (-a)) != 0) = false := bne_eq_false_iff_eq.2 (back2 a)
  have e3 : (wrap64 (a * b) != wrap64 (b * a)) = false := bne_eq_false_iff_eq.2 (by rw [Int.mul_comm])
  by_cases hb : b = 0
  · have hz : (b == 0) = true := by simpa using hb
    clear hb
    go_enter Try.func5, Try.ntmps5
    go_wp2_with (first | (go_at_call 13; refine (up_any _).mono ?_; rintro e w' ⟨rfl, rfl⟩) | (go_at_call 18; refine (mul_any _ _ _).mono ?_; rintro e w' ⟨rfl, rfl⟩) | (go_at_call 19; refine (add_any _ _ _).mono ?_; rintro e w' ⟨rfl, rfl⟩) | (go_at_call 20; refine (sub_any _ _ _).mono ?_; rintro e w' ⟨rfl, rfl⟩) | (go_at_call 21; refine (neg_any _ _).mono ?_; rintro e w' ⟨rfl, rfl⟩) | (go_at_call 14; refine (divz _ _ _ hz).mono ?_; rintro e w' ⟨rfl, rfl⟩) | (go_at_call 15; refine (modz _ _ _ hz).mono ?_; rintro e w' ⟨rfl, rfl⟩))
    go_ret
    exact ⟨rfl, rfl⟩
  · have k1 := back3 a b h1 h2
    have k2 := tmod_bounds a b h1 h2
    have k3 : 0 ≤ a → 0 ≤ a.tmod b := Int.tmod_nonneg b
    have k4 : a ≤ 0 → a.tmod b ≤ 0 := fun h => by
      have := Int.tmod_nonneg b (a := -a) (by omega); rw [Int.neg_tmod] at this; omega
    have k5 : (a.tmod b).natAbs < b.natAbs := by
      rw [Int.natAbs_tmod]; exact Nat.mod_lt _ (by omega)
    generalize hr : a.tmod b = r at *
    generalize hq : wrap64 (a.tdiv b) = q at *
    have HR : Hid (a.tmod b = r) := Lib.hid hr
    have HQ : Hid (wrap64 (a.tdiv b) = q) := Lib.hid hq
    have e4 : (wrap64 (wrap64 (q * b) + r) != a) = false := bne_eq_false_iff_eq.2 k1
    clear hr hq k1
    have tri : ∀ x : Int, (x < 0) ∨ (x ≤ 0 ∧ 0 ≤ x) ∨ 0 < x := fun x => by omega
    rcases tri r with hr | ⟨hr1, hr2⟩ | hr <;> rcases tri a with ha | ⟨ha1, ha2⟩ | ha <;> rcases Int.lt_trichotomy b 0 with hb2 | hb2 | hb2
    all_goals
      clear tri
      first
      | omega
      | (clear hb
         go_enter Try.func5, Try.ntmps5
         go_wp2_with (first | (go_at_call 13; refine (up_any _).mono ?_; rintro e w' ⟨rfl, rfl⟩) | (go_at_call 18; refine (mul_any _ _ _).mono ?_; rintro e w' ⟨rfl, rfl⟩) | (go_at_call 19; refine (add_any _ _ _).mono ?_; rintro e w' ⟨rfl, rfl⟩) | (go_at_call 20; refine (sub_any _ _ _).mono ?_; rintro e w' ⟨rfl, rfl⟩) | (go_at_call 21; refine (neg_any _ _).mono ?_; rintro e w' ⟨rfl, rfl⟩) | (go_at_call 14; refine (divq _ _ _ _ (by omega) HQ).mono ?_; rintro e w' ⟨rfl, rfl⟩) | (go_at_call 15; refine (modr _ _ _ _ (by omega) HR).mono ?_; rintro e w' ⟨rfl, rfl⟩))
         go_ret
         first | exact ⟨rfl, rfl⟩ | exact ⟨ret_bool (by simp <;> omega), rfl⟩)
end Go.Proofs.Ytmjgbdmjeadmaaa
