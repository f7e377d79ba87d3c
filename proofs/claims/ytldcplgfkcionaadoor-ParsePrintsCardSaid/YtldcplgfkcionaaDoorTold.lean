/- What the statements ask of errors: Code, Told. -/
import Derived.Test.YtldcplgfkcionaaDoorRparse
import Derived.Test.YtldcplgfkcionaaDoorIs
import Derived.Test.YtldcplgfkcionaaDoorErr
set_option linter.unusedVariables false
set_option linter.unusedSimpArgs false
namespace Go.Proofs.YtldcplgfkcionaaDoor
open Go.RowKit PX Go.Proofs.YtldcplgfkcionaaDoorW.PrintWords
set_option maxHeartbeats 4000000 in
set_option maxRecDepth 100000 in
theorem code_none (w : World) : Calls Tryd.prog 31 #[.nilIface] w fun e w' => e = .returned (.int .i64 0) ∧ w = w' := by
  go_enter Tryd.func31, Tryd.ntmps31
  go_wp2_with fail
  go_ret
  exact ⟨rfl, rfl⟩
set_option maxHeartbeats 4000000 in
set_option maxRecDepth 100000 in
theorem code_code (c : Int) (h1 : 1 ≤ c) (h2 : c ≤ 13) (w : World) : Calls Tryd.prog 31 #[.iface 28 (.int .i64 c)] w fun e w' => e = .returned (.int .i64 c) ∧ w = w' := by
  have k6 := eqErr
  go_enter Tryd.func31, Tryd.ntmps31
  go_wp2_with fail
  go_loop [3] (fun i => ∃ k : Nat, 1 ≤ k ∧ (k : Int) ≤ c ∧ i = .int .i64 k) (fun i => 20 - (intOf i).toNat)
  case atStart => exact ⟨1, by omega, by omega, rfl⟩
  case round =>
    obtain ⟨k, hk1, hk2, rfl⟩ := hrel
    have p1 : ((k : Int) ≤ 13) = True := eq_true (by omega)
    by_cases hkc : (k : Int) = c
    · subst hkc
      have e1 : ((k : Int) == (k : Int)) = true := beq_self_eq_true _
      go_wp2_with fail
      go_ret
      exact ⟨rfl, rfl⟩
    · have e1 : (c == (k : Int)) = false := beq_eq_false_iff_ne.mpr (by omega)
      go_wp2_with fail
      go_round
      case rel => exact ⟨k + 1, by omega, by omega, by go_num⟩
      case measure => simp [intOf]; omega
set_option maxHeartbeats 4000000 in
set_option maxRecDepth 100000 in
/-- An error is the one of its number, at its place. -/
theorem told_any (B : Nat) (ev : Value) (e : Er) (w : World) (he : ErV B w ev e) (hc : ∀ c, e = .code c → 1 ≤ c ∧ c ≤ 13) (ha : ∀ a c, e = .spot a c → 0 ≤ a)
    (hg : w.cell? ⟨0, 0, none⟩ = some (.iface 160 (.agg #[.pointer (some ⟨7, 25, none⟩)]))) :
    Calls Tryd.prog 23 #[ev, .int .i64 e.bad, .int .i64 e.place] w fun e w' => e = .returned (.bool true) ∧ Below w.heap.size w w' := by
  cases e with
  | none =>
    obtain rfl : ev = .nilIface := he
    go_enter Tryd.func23, Tryd.ntmps23
    simp only [Er.bad, Er.place]
    go_wp2_with fail
    refine (code_none _).mono ?_
    rintro e w' ⟨rfl, rfl⟩
    go_wp2_with fail
    go_ret
    exact ⟨rfl, Below.refl _ _⟩
  | code c =>
    obtain rfl : ev = .iface 28 (.int .i64 c) := he
    obtain ⟨h1, h2⟩ := hc c rfl
    clear hc
    go_enter Tryd.func23, Tryd.ntmps23
    simp only [Er.bad, Er.place]
    go_wp2_with fail
    refine (code_code c h1 h2 _).mono ?_
    rintro e w' ⟨rfl, rfl⟩
    go_wp2_with fail
    go_ret
    exact ⟨rfl, Below.refl _ _⟩
  | spot a c =>
    obtain ⟨g, rfl, hB, hg2⟩ := he
    have h1 := ha a c rfl
    have HG := Lib.hid hg
    have HS := Lib.hid hg2
    clear ha hg hg2
    have p1 : (a < 0) = False := eq_false (by omega)
    go_enter Tryd.func23, Tryd.ntmps23
    simp only [Er.bad, Er.place]
    go_wp2_with fail
    refine (lawIs_hit g a c _ HS.out HG.out).mono ?_
    rintro e w' ⟨rfl, hb⟩
    go_wp2_with fail
    go_ret
    exact ⟨rfl, hb⟩
end Go.Proofs.YtldcplgfkcionaaDoor
