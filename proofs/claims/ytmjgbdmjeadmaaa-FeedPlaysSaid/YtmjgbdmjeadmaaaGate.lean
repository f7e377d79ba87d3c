/- What the methods of a gate do, state by state. -/
import Derived.Test.YtmjgbdmjeadmaaaBase
namespace Go.Proofs.Ytmjgbdmjeadmaaa
open Go.RowKit
theorem code_info : (Try.prog.info? 27).map (·.comparable) = some true := by kernel_rfl
theorem eqErr (w : World) (a b : Int) : (binOp .eql 24 (.iface 27 (.int .i64 a)) (.iface 27 (.int .i64 b))).run Try.prog w = .ok (.bool (a == b)) w := by
  obtain ⟨i, h, hc⟩ := Option.map_eq_some_iff.1 code_info
  exact run_eql_iface_int w a b Try.underlying24 Try.underlying27 h hc
theorem neErr (w : World) (a b : Int) : (binOp .neq 24 (.iface 27 (.int .i64 a)) (.iface 27 (.int .i64 b))).run Try.prog w = .ok (.bool (!(a == b))) w := by
  obtain ⟨i, h, hc⟩ := Option.map_eq_some_iff.1 code_info
  exact run_neq_iface_int w a b Try.underlying24 Try.underlying27 h hc
theorem neErrNil (w : World) (v : Value) : (binOp .neq 24 .nilIface (.iface 27 v)).run Try.prog w = .ok (.bool true) w :=
  run_neq_iface_nil_left w _ v Try.underlying24
/-- A gate in state s at block g. -/
def IsGate (w : World) (g : Nat) (s : Int) : Prop := w.heap[g]? = some (.cells #[.int .i64 s] 36 (0, 0))
def gWake (s : Int) : Int := if s = 0 then 1 else if s = 2 then 3 else s
def gEnd (s : Int) (more : Bool) : Int := if s < 2 then s else if more || s == 3 then 1 else 0
theorem four {s : Int} (h0 : 0 ≤ s) (h3 : s ≤ 3) : s = 0 ∨ s = 1 ∨ s = 2 ∨ s = 3 := by omega
theorem gate_wake (w : World) (g : Nat) (s : Int) (h0 : 0 ≤ s) (h3 : s ≤ 3) (h : IsGate w g s) :
    Calls Try.prog 29 #[.pointer (some ⟨g, 0, none⟩)] w fun e w' => e = .returned (.bool (s == 0)) ∧ IsGate w' g (gWake s) ∧ Chg (· = g) w w' := by
  have H := Lib.hid h
  have hc := blk_cell h 0
  have hf := blk_free h 0
  clear h
  rcases four h0 h3 with rfl | rfl | rfl | rfl
  all_goals
    go_enter Try.func29, Try.ntmps29
    go_wp2
    go_ret
    first
    | exact ⟨rfl, H.out, Chg.refl _ _⟩
    | exact ⟨rfl, blk_set H.out 0 _, (Chg.refl (· = g) _).setCell (fun _ => rfl) _⟩
theorem gate_begin (w : World) (g : Nat) (s : Int) (h0 : 0 ≤ s) (h3 : s ≤ 3) (h : IsGate w g s) :
    Calls Try.prog 30 #[.pointer (some ⟨g, 0, none⟩)] w fun e w' => e = .returned (if s = 1 then .nilIface else .iface 27 (.int .i64 7)) ∧ IsGate w' g (if s = 1 then 2 else s) ∧ Chg (· = g) w w' := by
  have H := Lib.hid h
  have hc := blk_cell h 0
  have hf := blk_free h 0
  clear h
  rcases four h0 h3 with rfl | rfl | rfl | rfl
  all_goals
    go_enter Try.func30, Try.ntmps30
    go_wp2
    go_ret
    first
    | exact ⟨rfl, H.out, Chg.refl _ _⟩
    | exact ⟨rfl, blk_set H.out 0 _, (Chg.refl (· = g) _).setCell (fun _ => rfl) _⟩
set_option maxHeartbeats 1000000 in
theorem gate_end (w : World) (g : Nat) (s : Int) (m : Bool) (h0 : 0 ≤ s) (h3 : s ≤ 3) (h : IsGate w g s) :
    Calls Try.prog 31 #[.pointer (some ⟨g, 0, none⟩), .bool m] w fun e w' => e = .returned (.tuple #[.bool (decide (2 ≤ s) && (m || s == 3)), if s < 2 then .iface 27 (.int .i64 7) else .nilIface]) ∧ IsGate w' g (gEnd s m) ∧ Chg (· = g) w w' := by
  have H := Lib.hid h
  have hc := blk_cell h 0
  have hf := blk_free h 0
  clear h
  rcases four h0 h3 with rfl | rfl | rfl | rfl <;> cases m
  all_goals
    go_enter Try.func31, Try.ntmps31
    go_wp2
    go_ret2
    first
    | exact ⟨rfl, H.out, Chg.refl _ _⟩
    | exact ⟨rfl, blk_set H.out 0 _, (Chg.refl (· = g) _).setCell (fun _ => rfl) _⟩
    | exact ⟨rfl, blk_set (blk_set H.out 0 _) 0 _, ((Chg.refl (· = g) _).setCell (fun _ => rfl) _).setCell (fun _ => rfl) _⟩
theorem gate_state (w : World) (g : Nat) (s : Int) (h : IsGate w g s) :
    Calls Try.prog 32 #[.pointer (some ⟨g, 0, none⟩)] w fun e w' => e = .returned (.int .i64 s) ∧ w = w' := by
  have hc := blk_cell h 0
  clear h
  go_enter Try.func32, Try.ntmps32
  go_wp2
  go_ret
  exact ⟨rfl, rfl⟩
end Go.Proofs.Ytmjgbdmjeadmaaa
