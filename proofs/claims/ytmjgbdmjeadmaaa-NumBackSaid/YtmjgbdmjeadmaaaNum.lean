import Derived.Test.YtmjgbdmjeadmaaaProg
import Derived.WalkKit
import Derived.LaidEql
import Derived.WideLaws
import Derived.KernelRfl
import Derived.Outline
namespace Go
section
variable {P : Program} (w : World)
theorem run_equalIn_iface_int (d : Nat) {ti tn : TypeId} {ms : Array (String × TypeId)} {i : TypeInfo} {k : IntKind} (a b : Int)
    (hi : P.underlying ti = some (.interface ms)) (hn : P.underlying tn = some (.int k)) (hinfo : P.info? tn = some i) (hcomp : i.comparable = true) :
    (Op.equalIn (d + 2) ti (.iface tn (.int k a)) (.iface tn (.int k b))).run P w = .ok (a == b) w := by
  simp [Op.equalIn, run_underlying hi, run_underlying hn, typeInfo, hinfo, hcomp]
theorem run_eql_iface_int {ti tn : TypeId} {ms : Array (String × TypeId)} {i : TypeInfo} {k : IntKind} (a b : Int)
    (hi : P.underlying ti = some (.interface ms)) (hn : P.underlying tn = some (.int k)) (hinfo : P.info? tn = some i) (hcomp : i.comparable = true) :
    (binOp .eql ti (.iface tn (.int k a)) (.iface tn (.int k b))).run P w = .ok (.bool (a == b)) w := by
  simp only [binOp]
  simp [Op.equal, Op.maxDepth, run_equalIn_iface_int w 9998 a b hi hn hinfo hcomp]
end
end Go
namespace Go.Proofs.Ytmjgbdmjeadmaaa
open Go.RowKit
theorem info27 : (Try.prog.info? 27).map (·.comparable) = some true := by kernel_rfl
theorem eqErr (w : World) (a b : Int) : (binOp .eql 24 (.iface 27 (.int .i64 a)) (.iface 27 (.int .i64 b))).run Try.prog w = .ok (.bool (a == b)) w := by
  obtain ⟨i, h, hc⟩ := Option.map_eq_some_iff.1 info27
  exact run_eql_iface_int w a b Try.underlying24 Try.underlying27 h hc
theorem up_any (w : World) : Calls Try.prog 13 #[] w fun e w' => e = .returned (.bool true) ∧ w = w' := by
  have he := eqErr
  have hu24 := Try.underlying24
  go_enter Try.func13, Try.ntmps13
  go_wp2
  go_ret
  exact ⟨rfl, rfl⟩


theorem ret_int {k : IntKind} {a b : Int} (h : a = b) : Ending.returned (.int k a) = .returned (.int k b) := by rw [h]
theorem ret_bool {a b : Bool} (h : a = b) : Ending.returned (.bool a) = .returned (.bool b) := by rw [h]
theorem u64w (n : Int) : IntKind.u64.wrap n = n % 18446744073709551616 := by rw [IntKind.wrap_u64]
theorem size_any (a : Int) (w : World) (h1 : -9223372036854775808 ≤ a) (h2 : a ≤ 9223372036854775807) : Calls Try.prog 50 #[.int .i64 a] w fun e w' => e = .returned (.int .u64 (a.natAbs : Int)) ∧ w = w' := by
  by_cases h : a < 0
  all_goals
    go_enter Try.func50, Try.ntmps50
    go_wp2
    go_ret
    exact ⟨ret_int (by (try simp only [u64w]); omega), rfl⟩
theorem wq (x : Nat) : wrap64 (IntKind.u64.wrap x) = wrap64 x := by
  rw [u64w]; unfold wrap64; omega
theorem wn (x : Nat) : wrap64 (IntKind.u64.wrap (-(IntKind.u64.wrap x))) = wrap64 (-x) := by
  rw [u64w, u64w]; unfold wrap64; omega
theorem tdiv_nn (a b : Int) (ha : 0 ≤ a) (hb : 0 ≤ b) : a.tdiv b = ((a.natAbs / b.natAbs : Nat) : Int) := by
  obtain ⟨n, rfl⟩ := Int.eq_ofNat_of_zero_le ha
  obtain ⟨m, rfl⟩ := Int.eq_ofNat_of_zero_le hb
  simp
theorem tdiv_pn (a b : Int) (ha : 0 ≤ a) (hb : b < 0) : a.tdiv b = -((a.natAbs / b.natAbs : Nat) : Int) := by
  have := tdiv_nn a (-b) ha (by omega)
  rw [Int.tdiv_neg] at this
  simp at this ⊢; omega
theorem tdiv_np (a b : Int) (ha : a < 0) (hb : 0 ≤ b) : a.tdiv b = -((a.natAbs / b.natAbs : Nat) : Int) := by
  have := tdiv_nn (-a) b (by omega) hb
  rw [Int.neg_tdiv] at this
  simp at this ⊢; omega
theorem tdiv_neg2 (a b : Int) (ha : a < 0) (hb : b < 0) : a.tdiv b = ((a.natAbs / b.natAbs : Nat) : Int) := by
  have := tdiv_nn (-a) (-b) (by omega) (by omega)
  rw [Int.neg_tdiv, Int.tdiv_neg] at this
  simp at this ⊢; omega
theorem refdiv_any (a b : Int) (w : World) (h1 : -9223372036854775808 ≤ a) (h2 : a ≤ 9223372036854775807) (h3 : -9223372036854775808 ≤ b) (h4 : b ≤ 9223372036854775807) (hb : ¬ b = 0) : Calls Try.prog 16 #[.int .i64 a, .int .i64 b] w fun e w' => e = .returned (.int .i64 (wrap64 (a.tdiv b))) ∧ w = w' := by
  have hz : ¬ (b.natAbs : Int) = 0 := by omega
  by_cases ha : a < 0 <;> by_cases hb : b < 0
  · have dA : decide (a < 0) = true := decide_eq_true ha
    have dB : decide (b < 0) = true := decide_eq_true hb
    go_enter Try.func16, Try.ntmps16
    go_wp2_with (go_at_call 50; refine (size_any _ _ (by omega) (by omega)).mono ?_; rintro e w' ⟨rfl, rfl⟩)
    go_ret
    have E := tdiv_neg2 a b ha hb
    have ec : (a.natAbs : Int) / b.natAbs = ((a.natAbs / b.natAbs : Nat) : Int) := by simp
    exact ⟨ret_int (by rw [E, ← wq, ← ec]), rfl⟩
  · have dA : decide (a < 0) = true := decide_eq_true ha
    have dB : decide (b < 0) = false := decide_eq_false hb
    go_enter Try.func16, Try.ntmps16
    go_wp2_with (go_at_call 50; refine (size_any _ _ (by omega) (by omega)).mono ?_; rintro e w' ⟨rfl, rfl⟩)
    go_ret
    have E := tdiv_np a b ha (by omega)
    have ec : (a.natAbs : Int) / b.natAbs = ((a.natAbs / b.natAbs : Nat) : Int) := by simp
    exact ⟨ret_int (by rw [E, ← wn, ← ec]), rfl⟩
  · have dA : decide (a < 0) = false := decide_eq_false ha
    have dB : decide (b < 0) = true := decide_eq_true hb
    go_enter Try.func16, Try.ntmps16
    go_wp2_with (go_at_call 50; refine (size_any _ _ (by omega) (by omega)).mono ?_; rintro e w' ⟨rfl, rfl⟩)
    go_ret
    have E := tdiv_pn a b (by omega) hb
    have ec : (a.natAbs : Int) / b.natAbs = ((a.natAbs / b.natAbs : Nat) : Int) := by simp
    exact ⟨ret_int (by rw [E, ← wn, ← ec]), rfl⟩
  · have dA : decide (a < 0) = false := decide_eq_false ha
    have dB : decide (b < 0) = false := decide_eq_false hb
    go_enter Try.func16, Try.ntmps16
    go_wp2_with (go_at_call 50; refine (size_any _ _ (by omega) (by omega)).mono ?_; rintro e w' ⟨rfl, rfl⟩)
    go_ret
    have E := tdiv_nn a b (by omega) (by omega)
    have ec : (a.natAbs : Int) / b.natAbs = ((a.natAbs / b.natAbs : Nat) : Int) := by simp
    exact ⟨ret_int (by rw [E, ← wq, ← ec]), rfl⟩

theorem div_zero (a : Int) (w : World) : Calls Try.prog 14 #[.int .i64 a, .int .i64 0] w fun e w' => e = .returned (.tuple #[.int .i64 0, .iface 27 (.int .i64 9)]) ∧ w = w' := by
  go_enter Try.func14, Try.ntmps14
  go_wp2
  go_ret2
  exact ⟨rfl, rfl⟩
theorem div_any (a b : Int) (w : World) (hb : ¬ b = 0) : Calls Try.prog 14 #[.int .i64 a, .int .i64 b] w fun e w' => e = .returned (.tuple #[.int .i64 (wrap64 (a.tdiv b)), .nilIface]) ∧ w = w' := by
  go_enter Try.func14, Try.ntmps14
  go_wp2
  go_ret2
  exact ⟨rfl, rfl⟩
theorem mod_zero (a : Int) (w : World) : Calls Try.prog 15 #[.int .i64 a, .int .i64 0] w fun e w' => e = .returned (.tuple #[.int .i64 0, .iface 27 (.int .i64 9)]) ∧ w = w' := by
  go_enter Try.func15, Try.ntmps15
  go_wp2
  go_ret2
  exact ⟨rfl, rfl⟩
theorem mod_any (a b : Int) (w : World) (hb : ¬ b = 0) : Calls Try.prog 15 #[.int .i64 a, .int .i64 b] w fun e w' => e = .returned (.tuple #[.int .i64 (a.tmod b), .nilIface]) ∧ w = w' := by
  go_enter Try.func15, Try.ntmps15
  go_wp2
  go_ret2
  exact ⟨rfl, rfl⟩
theorem refadd_any (a b : Int) (w : World) : Calls Try.prog 23 #[.int .i64 a, .int .i64 b] w fun e w' => e = .returned (.int .i64 (wrap64 (a + b))) ∧ w = w' := by
  go_enter Try.func23, Try.ntmps23
  go_wp2
  go_ret
  exact ⟨ret_int (by simp only [u64w]; unfold wrap64; omega), rfl⟩
theorem refsub_any (a b : Int) (w : World) : Calls Try.prog 24 #[.int .i64 a, .int .i64 b] w fun e w' => e = .returned (.int .i64 (wrap64 (a - b))) ∧ w = w' := by
  go_enter Try.func24, Try.ntmps24
  go_wp2
  go_ret
  exact ⟨ret_int (by simp only [u64w]; unfold wrap64; omega), rfl⟩
theorem refmul_any (a b : Int) (w : World) : Calls Try.prog 25 #[.int .i64 a, .int .i64 b] w fun e w' => e = .returned (.int .i64 (wrap64 (a * b))) ∧ w = w' := by
  go_enter Try.func25, Try.ntmps25
  go_wp2
  go_ret
  exact ⟨ret_int (by simp only [u64w, ← Int.mul_emod]; unfold wrap64; omega), rfl⟩
theorem w64_ex (x : Int) : ∃ k : Int, wrap64 x = x + k * 18446744073709551616 := ⟨-((x + 9223372036854775808) / 18446744073709551616), by unfold wrap64; omega⟩
theorem w64_eq (x y k : Int) (h : x = y + k * 18446744073709551616) : wrap64 x = wrap64 y := by subst h; unfold wrap64; omega
theorem w64_add (x y : Int) : wrap64 (wrap64 x + y) = wrap64 (x + y) := by
  obtain ⟨k, h⟩ := w64_ex x; exact w64_eq _ _ k (by rw [h]; omega)
theorem w64_mul (b x : Int) : wrap64 (b * wrap64 x) = wrap64 (b * x) := by
  obtain ⟨k, h⟩ := w64_ex x; exact w64_eq _ _ (b * k) (by rw [h, Int.mul_add, Int.mul_assoc])
theorem w64_sub (a x : Int) : wrap64 (a - wrap64 x) = wrap64 (a - x) := by
  obtain ⟨k, h⟩ := w64_ex x; exact w64_eq _ _ (-k) (by rw [h]; omega)
theorem tmod_bounds (a b : Int) (h1 : -9223372036854775808 ≤ a) (h2 : a ≤ 9223372036854775807) : -9223372036854775808 ≤ a.tmod b ∧ a.tmod b ≤ 9223372036854775807 := by
  by_cases ha : 0 ≤ a
  · have := Int.tmod_nonneg b ha
    have h := Int.natAbs_tmod a b
    have := Nat.mod_le a.natAbs b.natAbs
    omega
  · have h := Int.natAbs_tmod a b
    have := Nat.mod_le a.natAbs b.natAbs
    have h3 := Int.tmod_nonneg b (a := -a) (by omega)
    rw [Int.neg_tmod] at h3
    omega
theorem mod_back (a b : Int) (h1 : -9223372036854775808 ≤ a) (h2 : a ≤ 9223372036854775807) : wrap64 (a - wrap64 (b * wrap64 (a.tdiv b))) = a.tmod b := by
  rw [w64_sub, ← w64_sub, w64_mul, w64_sub, ← Int.tmod_def]
  exact IntWalk.wrap64_in _ (tmod_bounds a b h1 h2)
theorem refmod_any (a b : Int) (w : World) (h1 : -9223372036854775808 ≤ a) (h2 : a ≤ 9223372036854775807) (h3 : -9223372036854775808 ≤ b) (h4 : b ≤ 9223372036854775807) (hb : ¬ b = 0) : Calls Try.prog 17 #[.int .i64 a, .int .i64 b] w fun e w' => e = .returned (.int .i64 (a.tmod b)) ∧ w = w' := by
  go_enter Try.func17, Try.ntmps17
  go_wp2_with (first | (go_at_call 16; refine (refdiv_any _ _ _ h1 h2 h3 h4 hb).mono ?_; rintro e w' ⟨rfl, rfl⟩) | (go_at_call 25; refine (refmul_any _ _ _).mono ?_; rintro e w' ⟨rfl, rfl⟩) | (go_at_call 24; refine (refsub_any _ _ _).mono ?_; rintro e w' ⟨rfl, rfl⟩))
  go_ret
  exact ⟨ret_int (mod_back a b h1 h2), rfl⟩
theorem NumParts_walk (a b : Int) (w : World) (h1 : -9223372036854775808 ≤ a) (h2 : a ≤ 9223372036854775807) (h3 : -9223372036854775808 ≤ b) (h4 : b ≤ 9223372036854775807) : Calls Try.prog 3 #[.int .i64 a, .int .i64 b] w fun e w' => e = .returned (.bool true) ∧ w = w' := by
  have he := eqErr
  have hu24 := Try.underlying24
  by_cases hb : b = 0
  · subst hb
    go_enter Try.func3, Try.ntmps3
    go_wp2_with (first | (go_at_call 13; refine (up_any _).mono ?_; rintro e w' ⟨rfl, rfl⟩) | (go_at_call 14; refine (div_zero _ _).mono ?_; rintro e w' ⟨rfl, rfl⟩) | (go_at_call 15; refine (mod_zero _ _).mono ?_; rintro e w' ⟨rfl, rfl⟩))
    go_ret
    exact ⟨rfl, rfl⟩
  · go_enter Try.func3, Try.ntmps3
    go_wp2_with (first | (go_at_call 13; refine (up_any _).mono ?_; rintro e w' ⟨rfl, rfl⟩) | (go_at_call 14; refine (div_any _ _ _ hb).mono ?_; rintro e w' ⟨rfl, rfl⟩) | (go_at_call 15; refine (mod_any _ _ _ hb).mono ?_; rintro e w' ⟨rfl, rfl⟩) | (go_at_call 16; refine (refdiv_any _ _ _ h1 h2 h3 h4 hb).mono ?_; rintro e w' ⟨rfl, rfl⟩) | (go_at_call 17; refine (refmod_any _ _ _ h1 h2 h3 h4 hb).mono ?_; rintro e w' ⟨rfl, rfl⟩))
    go_ret
    exact ⟨rfl, rfl⟩

theorem add_any (a b : Int) (w : World) : Calls Try.prog 19 #[.int .i64 a, .int .i64 b] w fun e w' => e = .returned (.int .i64 (wrap64 (a + b))) ∧ w = w' := by
  go_enter Try.func19, Try.ntmps19
  go_wp2
  go_ret
  exact ⟨rfl, rfl⟩
theorem sub_any (a b : Int) (w : World) : Calls Try.prog 20 #[.int .i64 a, .int .i64 b] w fun e w' => e = .returned (.int .i64 (wrap64 (a - b))) ∧ w = w' := by
  go_enter Try.func20, Try.ntmps20
  go_wp2
  go_ret
  exact ⟨rfl, rfl⟩
theorem mul_any (a b : Int) (w : World) : Calls Try.prog 18 #[.int .i64 a, .int .i64 b] w fun e w' => e = .returned (.int .i64 (wrap64 (a * b))) ∧ w = w' := by
  go_enter Try.func18, Try.ntmps18
  go_wp2
  go_ret
  exact ⟨rfl, rfl⟩
theorem neg_any (a : Int) (w : World) : Calls Try.prog 21 #[.int .i64 a] w fun e w' => e = .returned (.int .i64 (wrap64 (-a))) ∧ w = w' := by
  go_enter Try.func21, Try.ntmps21
  go_wp2
  go_ret
  exact ⟨rfl, rfl⟩
def big (a b : Int) : Bool := decide (a + b < -9223372036854775808 ∨ a + b > 9223372036854775807)
theorem big_any (a b : Int) (w : World) (h1 : -9223372036854775808 ≤ a) (h2 : a ≤ 9223372036854775807) (h3 : -9223372036854775808 ≤ b) (h4 : b ≤ 9223372036854775807) : Calls Try.prog 22 #[.int .i64 a, .int .i64 b] w fun e w' => e = .returned (.tuple #[.int .i64 (wrap64 (a + b)), .bool (big a b)]) ∧ w = w' := by
  rcases dA : decide (a < 0) with _ | _ <;> rcases dB : decide (b < 0) with _ | _ <;> rcases dS : decide (wrap64 (a + b) < 0) with _ | _
  all_goals
    go_enter Try.func22, Try.ntmps22
    go_wp2
    go_ret2
    refine ⟨?_, rfl⟩
    simp only [decide_eq_true_eq, decide_eq_false_iff_not] at dA dB dS
    unfold wrap64 at dS
    have e : ∀ x : Bool, x = big a b → Ending.returned (.tuple #[.int .i64 (wrap64 (a + b)), .bool x]) = .returned (.tuple #[.int .i64 (wrap64 (a + b)), .bool (big a b)]) := fun x h => by rw [h]
    refine e _ ?_
    unfold big
    first | exact (decide_eq_true (by omega)).symm | exact (decide_eq_false (by omega)).symm
theorem refbig_any (a b : Int) (w : World) (h1 : -9223372036854775808 ≤ a) (h2 : a ≤ 9223372036854775807) (h3 : -9223372036854775808 ≤ b) (h4 : b ≤ 9223372036854775807) : Calls Try.prog 26 #[.int .i64 a, .int .i64 b] w fun e w' => e = .returned (.bool (big a b)) ∧ w = w' := by
  rcases dA : decide (a < 0) with _ | _ <;> rcases dB : decide (b < 0) with _ | _ <;> rcases dA' : decide (0 < a) with _ | _ <;> rcases dB' : decide (0 < b) with _ | _
  all_goals
    simp only [decide_eq_true_eq, decide_eq_false_iff_not] at dA dB dA' dB'
    first
    | omega
    | (go_enter Try.func26, Try.ntmps26
       go_wp2
       go_ret
       refine ⟨ret_bool ?_, rfl⟩
       unfold big
       first | rfl | exact (decide_eq_false (by omega)).symm | (rw [decide_eq_decide]; omega))
theorem NumRing_mul (a b c : Int) : wrap64 (a * wrap64 (b + c)) = wrap64 (wrap64 (a * b) + wrap64 (a * c)) := by
  rw [w64_mul, w64_add, Int.add_comm (a * b), w64_add, Int.mul_add, Int.add_comm (a * c)]
theorem NumRing_add (a b c : Int) : wrap64 (wrap64 (a + b) + c) = wrap64 (a + wrap64 (b + c)) := by
  rw [w64_add, Int.add_comm a (wrap64 _), w64_add]; congr 1; omega
theorem NumRing_mul2 (a b c : Int) : wrap64 (wrap64 (a * b) * c) = wrap64 (a * wrap64 (b * c)) := by
  rw [w64_mul, Int.mul_comm, w64_mul, Int.mul_comm c, Int.mul_assoc]
theorem NumRing_walk (a b c : Int) (w : World) : Calls Try.prog 4 #[.int .i64 a, .int .i64 b, .int .i64 c] w fun e w' => e = .returned (.bool true) ∧ w = w' := by
  have e1 : (wrap64 (a * wrap64 (b + c)) == wrap64 (wrap64 (a * b) + wrap64 (a * c))) = true := beq_iff_eq.2 (NumRing_mul a b c)
  have e2 : (wrap64 (wrap64 (a + b) + c) == wrap64 (a + wrap64 (b + c))) = true := beq_iff_eq.2 (NumRing_add a b c)
  have e3 : (wrap64 (wrap64 (a * b) * c) == wrap64 (a * wrap64 (b * c))) = true := beq_iff_eq.2 (NumRing_mul2 a b c)
  go_enter Try.func4, Try.ntmps4
  go_wp2_with (first | (go_at_call 13; refine (up_any _).mono ?_; rintro e w' ⟨rfl, rfl⟩) | (go_at_call 18; refine (mul_any _ _ _).mono ?_; rintro e w' ⟨rfl, rfl⟩) | (go_at_call 19; refine (add_any _ _ _).mono ?_; rintro e w' ⟨rfl, rfl⟩))
  go_ret
  exact ⟨rfl, rfl⟩
theorem NumSums_walk (a b : Int) (w : World) (h1 : -9223372036854775808 ≤ a) (h2 : a ≤ 9223372036854775807) (h3 : -9223372036854775808 ≤ b) (h4 : b ≤ 9223372036854775807) : Calls Try.prog 6 #[.int .i64 a, .int .i64 b] w fun e w' => e = .returned (.bool true) ∧ w = w' := by
  have e1 : (wrap64 (-a) == wrap64 (0 - a)) = true := beq_iff_eq.2 (by rw [Int.zero_sub])
  go_enter Try.func6, Try.ntmps6
  go_wp2_with (first | (go_at_call 13; refine (up_any _).mono ?_; rintro e w' ⟨rfl, rfl⟩) | (go_at_call 18; refine (mul_any _ _ _).mono ?_; rintro e w' ⟨rfl, rfl⟩) | (go_at_call 19; refine (add_any _ _ _).mono ?_; rintro e w' ⟨rfl, rfl⟩) | (go_at_call 20; refine (sub_any _ _ _).mono ?_; rintro e w' ⟨rfl, rfl⟩) | (go_at_call 21; refine (neg_any _ _).mono ?_; rintro e w' ⟨rfl, rfl⟩) | (go_at_call 22; refine (big_any _ _ _ h1 h2 h3 h4).mono ?_; rintro e w' ⟨rfl, rfl⟩) | (go_at_call 23; refine (refadd_any _ _ _).mono ?_; rintro e w' ⟨rfl, rfl⟩) | (go_at_call 24; refine (refsub_any _ _ _).mono ?_; rintro e w' ⟨rfl, rfl⟩) | (go_at_call 25; refine (refmul_any _ _ _).mono ?_; rintro e w' ⟨rfl, rfl⟩) | (go_at_call 26; refine (refbig_any _ _ _ h1 h2 h3 h4).mono ?_; rintro e w' ⟨rfl, rfl⟩))
  go_ret
  exact ⟨rfl, rfl⟩

end Go.Proofs.Ytmjgbdmjeadmaaa
