/- What the statements ask of errors: Code. -/
import Derived.Test.YtldcplgfkcionaaDoorErr
import Derived.Test.YtldcplgfkcionaaDoorTok
set_option linter.unusedVariables false
set_option linter.unusedSimpArgs false
namespace Go.Proofs.YtldcplgfkcionaaDoor
open Go.RowKit PX Go.Proofs.YtldcplgfkcionaaDoorW.PrintWords
set_option maxHeartbeats 4000000 in
set_option maxRecDepth 100000 in
theorem code_none (w : World) : Calls Tryd.prog 31 #[.nilIface] w fun e w' => e = .returned (.int .i64 0) ∧ w = w' := by
  go_enter Tryd.func31, Tryd.ntmps31
  go_wp2_with fail
  go_ret
  exact ⟨rfl, rfl⟩
set_option maxHeartbeats 4000000 in
set_option maxRecDepth 100000 in
theorem code_code (c : Int) (h1 : 1 ≤ c) (h2 : c ≤ 13) (w : World) : Calls Tryd.prog 31 #[.iface 28 (.int .i64 c)] w fun e w' => e = .returned (.int .i64 c) ∧ w = w' := by
  have k6 := eqErr
  go_enter Tryd.func31, Tryd.ntmps31
  go_wp2_with fail
  go_loop [3] (fun i => ∃ k : Nat, 1 ≤ k ∧ (k : Int) ≤ c ∧ i = .int .i64 k) (fun i => 20 - (intOf i).toNat)
  case atStart => exact ⟨1, by omega, by omega, rfl⟩
  case round =>
    obtain ⟨k, hk1, hk2, rfl⟩ := hrel
    have p1 : ((k : Int) ≤ 13) = True := eq_true (by omega)
    by_cases hkc : (k : Int) = c
    · subst hkc
      have e1 : ((k : Int) == (k : Int)) = true := beq_self_eq_true _
      go_wp2_with fail
      go_ret
      exact ⟨rfl, rfl⟩
    · have e1 : (c == (k : Int)) = false := beq_eq_false_iff_ne.mpr (by omega)
      go_wp2_with fail
      go_round
      case rel => exact ⟨k + 1, by omega, by omega, by go_num⟩
      case measure => simp [intOf]; omega
end Go.Proofs.YtldcplgfkcionaaDoor
