/- Errors compared. -/
import Derived.Test.YtldcplgfkcionaaDoorBase
namespace Go.Proofs.YtldcplgfkcionaaDoor
open Go.RowKit
theorem code_info : (Tryd.prog.info? 28).map (·.comparable) = some true := by kernel_rfl
theorem eqErr (w : World) (a b : Int) : (binOp .eql 25 (.iface 28 (.int .i64 a)) (.iface 28 (.int .i64 b))).run Tryd.prog w = .ok (.bool (a == b)) w := by
  obtain ⟨i, h, hc⟩ := Option.map_eq_some_iff.1 code_info
  exact run_eql_iface_int w a b Tryd.underlying25 Tryd.underlying28 h hc
theorem neErr (w : World) (a b : Int) : (binOp .neq 25 (.iface 28 (.int .i64 a)) (.iface 28 (.int .i64 b))).run Tryd.prog w = .ok (.bool (!(a == b))) w := by
  obtain ⟨i, h, hc⟩ := Option.map_eq_some_iff.1 code_info
  exact run_neq_iface_int w a b Tryd.underlying25 Tryd.underlying28 h hc
theorem neErrNil (w : World) (v : Value) : (binOp .neq 25 .nilIface (.iface 28 v)).run Tryd.prog w = .ok (.bool true) w :=
  run_neq_iface_nil_left w _ v Tryd.underlying25
end Go.Proofs.YtldcplgfkcionaaDoor
