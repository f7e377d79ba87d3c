/- What Type, Eval and Of do. -/
import Derived.Test.YtldcplgfkcionaaDoorExprun
set_option linter.unusedVariables false
set_option linter.unusedSimpArgs false
namespace Go.Proofs.YtldcplgfkcionaaDoor
open Go.RowKit Go.Proofs.YtldcplgfkcionaaDoorW.PrintWords
open PX (T V Tr takes may)
/-- A row of numbers that is read. -/
abbrev NumsC (w : World) (A : Option Addr) (n : Nat) (l : List Int) : Prop := Kd.C (Kd.int .i64) w A n l
theorem nums_at {w : World} {A : Option Addr} {l : List Int} (h : NumsC w A l.length l) (j : Nat) (hj : j < l.length) : ∃ ad, A = some ad ∧ w.cell? (ad.add j) = some (.int .i64 l[j]) := by
  obtain ⟨ad, hA, hc⟩ := h.2.2 (by omega)
  obtain ⟨c, h1, h2, h3⟩ := hc j l[j] (List.getElem?_eq_getElem hj)
  refine ⟨ad, hA, ?_⟩
  obtain rfl : c = [.int .i64 l[j]] := h2
  have := h3 0 _ rfl
  simpa [Kd.int, Kd.scalar] using this
theorem run_type1 (args : Array Value) (w : World) : (callFunc 57 args).run Tryd.prog w = .ok (.enter 57 args) w := by
  simp [callFunc, Tryd.func57]; rfl
theorem run_eval1 (args : Array Value) (w : World) : (callFunc 59 args).run Tryd.prog w = .ok (.enter 59 args) w := by
  simp [callFunc, Tryd.func59]; rfl
set_option maxHeartbeats 4000000 in
set_option maxRecDepth 100000 in
theorem look_type (g : Nat) (vars : Int) (w : World) (hg : w.cell? ⟨g, 0, none⟩ = some (.int .i64 vars)) : LookC 57 (.pointer (some ⟨g, 0, none⟩)) (lookV true vars []) w.heap.size w := by
  intro w' hw v h0 h1
  have hc := (hw.cell (p := ⟨g, 0, none⟩) (World.block_lt_of_cell? _ _ hg)).trans hg
  have e1 : (lookV true vars [] v).getD 0 = 0 := by unfold lookV; rw [if_pos rfl]; split <;> rfl
  have e2 : (lookV true vars [] v).isSome = decide (v < vars) := by
    unfold lookV; rw [if_pos rfl]
    by_cases h : v < vars
    · rw [if_pos h]; simp [h]
    · rw [if_neg h]; simp [h]
  rw [e1, e2]
  clear hw hg e1 e2
  go_enter Tryd.func57, Tryd.ntmps57
  go_wp2_with fail
  repeat (go_quiet (fail); try go_wp2)
  go_ret2
  exact ⟨rfl, _, rfl⟩
set_option maxHeartbeats 4000000 in
set_option maxRecDepth 100000 in
theorem look_eval (g : Nat) (A : Option Addr) (cap : Nat) (env : List Int) (w : World) (hg : w.cell? ⟨g, 0, none⟩ = some (.slice A env.length cap)) (hC : NumsC w A env.length env) : LookC 59 (.pointer (some ⟨g, 0, none⟩)) (lookV false 0 env) w.heap.size w := by
  intro w' hw v h0 h1
  have hc := (hw.cell (p := ⟨g, 0, none⟩) (World.block_lt_of_cell? _ _ hg)).trans hg
  have HC := Lib.hid (Kd.C_below hC hw)
  obtain ⟨n, rfl⟩ := Int.eq_ofNat_of_zero_le h0
  by_cases hlt : n < env.length
  · have e1 : lookV false 0 env n = some env[n] := by
      unfold lookV
      rw [if_neg (by simp), if_pos (by omega)]
      simp [rd, List.getD_eq_getElem?_getD, List.getElem?_eq_getElem hlt]
    rw [e1]
    obtain ⟨ad, hA, hx⟩ := nums_at HC.out n hlt
    subst hA
    have HX := Lib.hid e1
    clear hw hg e1 hC
    generalize env[n] = x at *
    have p1 : ((n : Int) ≥ (env.length : Int)) = False := eq_false (by omega)
    have p2 : ((env.length : Int) ≤ (n : Int)) = False := eq_false (by omega)
    have p3 : (0 ≤ (n : Int)) = True := eq_true (by omega)
    have p4 : ((n : Int) < (env.length : Int)) = True := eq_true (by omega)
    simp only [Option.getD_some, Option.isSome_some]
    go_enter Tryd.func59, Tryd.ntmps59
    go_wp2_with fail
    repeat (go_quiet (fail); try go_wp2)
    go_ret2
    exact ⟨rfl, 0, rfl⟩
  · have e1 : lookV false 0 env n = none := by
      unfold lookV
      rw [if_neg (by simp), if_neg (by omega)]
    rw [e1]
    clear hw hg e1 hC
    have p1 : ((n : Int) ≥ (env.length : Int)) = True := eq_true (by omega)
    have p2 : ((env.length : Int) ≤ (n : Int)) = True := eq_true (by omega)
    simp only [Option.getD_none, Option.isSome_none]
    go_enter Tryd.func59, Tryd.ntmps59
    go_wp2_with fail
    repeat (go_quiet (fail); try go_wp2)
    go_ret2
    exact ⟨rfl, 0, rfl⟩
def kindR (e : Except Int V) : Int := match e with | .ok v => v.1 | .error _ => 0
def errR (e : Except Int V) : Value := match e with | .ok _ => .nilIface | .error c => .iface 28 (.int .i64 c)
set_option maxHeartbeats 4000000 in
set_option maxRecDepth 100000 in
theorem type_any (A : Option Addr) (cap : Nat) (p : List T) (vars : Int) (w : World) (hc : p.length ≤ cap) (hC : ToksC w A p.length p) :
    Calls Tryd.prog 29 #[.slice A p.length cap, .int .i64 vars] w fun e w' => e = .returned (.tuple #[.int .i64 (kindR (runR (lookV true vars []) true p)), errR (runR (lookV true vars []) true p)]) ∧ Below w.heap.size w w' := by
  have hmf : ∀ (fn : Fn) (first cap : Array Value) (w : World), (Instr.makeFunc fn first cap).run Tryd.prog w = .ok (.func fn first cap) w := fun _ _ _ _ => rfl
  have HC := Lib.hid (Kd.C_alloc hC (.cells #[.int .i64 vars] 3))
  have HL := Lib.hid (look_type w.heap.size vars (w.alloc (.cells #[.int .i64 vars] 3)) (blk_cell (blk_new _ _) 0))
  clear hC
  go_enter Tryd.func29, Tryd.ntmps29
  go_wp2_with fail
  refine (run_any 57 run_type1 _ (lookV true vars []) true A cap p _ hc HC.out HL.out).mono ?_
  rintro e w1 ⟨rfl, hb1⟩
  have hbw : Below w.heap.size w w1 := ((Below.refl _ _).alloc (Nat.le_refl _) _).trans (hb1.mono (by simp))
  cases hr : runR (lookV true vars []) true p with
  | ok v =>
    have HR := Lib.hid hr
    clear hr
    simp only [retE, agV]
    go_wp2_with fail
    go_ret2
    exact ⟨by rw [HR.out]; rfl, hbw.alloc hbw.size _⟩
  | error c =>
    have HR := Lib.hid hr
    clear hr
    simp only [retE, agV]
    go_wp2_with fail
    go_ret2
    exact ⟨by rw [HR.out]; rfl, hbw.alloc hbw.size _⟩
set_option maxHeartbeats 4000000 in
set_option maxRecDepth 100000 in
theorem eval_any (A : Option Addr) (cap : Nat) (p : List T) (E : Option Addr) (ecap : Nat) (env : List Int) (w : World) (hc : p.length ≤ cap) (hC : ToksC w A p.length p) (hE : NumsC w E env.length env) :
    Calls Tryd.prog 32 #[.slice A p.length cap, .slice E env.length ecap] w fun e w' => e = .returned (retE (runR (lookV false 0 env) false p)) ∧ Below w.heap.size w w' := by
  have hmf : ∀ (fn : Fn) (first cap : Array Value) (w : World), (Instr.makeFunc fn first cap).run Tryd.prog w = .ok (.func fn first cap) w := fun _ _ _ _ => rfl
  have HC := Lib.hid (Kd.C_alloc (Kd.C_alloc hC (.cells #[.slice E env.length ecap] 52)) (.cells #[.int .i64 0, .int .i64 0] 54))
  have hcell : ((w.alloc (.cells #[.slice E env.length ecap] 52)).alloc (.cells #[.int .i64 0, .int .i64 0] 54)).cell? ⟨w.heap.size, 0, none⟩ = some (.slice E env.length ecap) := blk_cell (blk_alloc _ (blk_new _ _)) 0
  have HL := Lib.hid (look_eval w.heap.size E ecap env ((w.alloc (.cells #[.slice E env.length ecap] 52)).alloc (.cells #[.int .i64 0, .int .i64 0] 54)) hcell (Kd.C_alloc (Kd.C_alloc hE _) _))
  clear hC hE hcell
  go_enter Tryd.func32, Tryd.ntmps32
  go_wp2_with fail
  refine (run_any 59 run_eval1 _ (lookV false 0 env) false A cap p _ hc HC.out HL.out).mono ?_
  rintro e w1 ⟨rfl, hb1⟩
  have e1 : (w.alloc (.cells #[.slice E env.length ecap] 52)).heap.size = w.heap.size + 1 := by simp
  have hk : w1.heap[w.heap.size + 1]? = some (.cells #[.int .i64 0, .int .i64 0] 54 (0, 0)) := (hb1.block (w.heap.size + 1) (by simp)).trans (e1 ▸ blk_new (w.alloc (.cells #[.slice E env.length ecap] 52)) (.cells #[.int .i64 0, .int .i64 0] 54))
  have HK := Lib.hid hk
  have hbw : Below w.heap.size w w1 := (((Below.refl _ _).alloc (Nat.le_refl _) _).alloc (by simp) _).trans (hb1.mono (by simp; omega))
  have c0 : w1.cell? ⟨w.heap.size + 1, 0, none⟩ = some (.int .i64 0) := blk_cell hk 0
  have c1 : w1.cell? ⟨w.heap.size + 1, 1, none⟩ = some (.int .i64 0) := blk_cell hk 1
  have f0 : w1.frozen? ⟨w.heap.size + 1, 0, none⟩ = false := blk_free hk 0
  have f1 : w1.frozen? ⟨w.heap.size + 1, 1, none⟩ = false := blk_free hk 1
  clear hk hb1 e1
  cases hr : runR (lookV false 0 env) false p with
  | ok v =>
    have HR := Lib.hid hr
    clear hr
    simp only [retE, agV]
    go_wp2_with fail
    refine bodyPost_ret (results_ct rfl _ _ (w.heap.size + 1) 54 #[.int .i64 _, .int .i64 _] (0, 0) _ rfl (blk_set2 HK.out _ _) Tryd.underlying54 rfl (by kernel_rfl)) rfl ?_
    exact ⟨by rw [HR.out]; rfl, below_set2 hbw (by omega) _ _⟩
  | error c =>
    have HR := Lib.hid hr
    clear hr
    simp only [retE, agV]
    go_wp2_with fail
    refine bodyPost_ret (results_ct rfl _ _ (w.heap.size + 1) 54 #[.int .i64 _, .int .i64 _] (0, 0) _ rfl (blk_set2 HK.out _ _) Tryd.underlying54 rfl (by kernel_rfl)) rfl ?_
    exact ⟨by rw [HR.out]; rfl, below_set2 hbw (by omega) _ _⟩
end Go.Proofs.YtldcplgfkcionaaDoor
