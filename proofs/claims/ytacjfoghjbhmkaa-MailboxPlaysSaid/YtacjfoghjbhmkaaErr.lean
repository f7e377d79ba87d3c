/- Errors compared. -/
import Derived.Test.YtacjfoghjbhmkaaBase
namespace Go.Proofs.Ytacjfoghjbhmkaa
open Go.RowKit
theorem code_info : (Try.prog.info? 32).map (·.comparable) = some true := by kernel_rfl
theorem eqErr (w : World) (a b : Int) : (binOp .eql 26 (.iface 32 (.int .i64 a)) (.iface 32 (.int .i64 b))).run Try.prog w = .ok (.bool (a == b)) w := by
  obtain ⟨i, h, hc⟩ := Option.map_eq_some_iff.1 code_info
  exact run_eql_iface_int w a b Try.underlying26 Try.underlying32 h hc
theorem neErr (w : World) (a b : Int) : (binOp .neq 26 (.iface 32 (.int .i64 a)) (.iface 32 (.int .i64 b))).run Try.prog w = .ok (.bool (!(a == b))) w := by
  obtain ⟨i, h, hc⟩ := Option.map_eq_some_iff.1 code_info
  exact run_neq_iface_int w a b Try.underlying26 Try.underlying32 h hc
theorem neErrNil (w : World) (v : Value) : (binOp .neq 26 .nilIface (.iface 32 v)).run Try.prog w = .ok (.bool true) w :=
  run_neq_iface_nil_left w _ v Try.underlying26
end Go.Proofs.Ytacjfoghjbhmkaa
