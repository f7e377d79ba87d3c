/- What the functions of one token do: leaf, numbers, both. -/
import Derived.Test.YtldcplgfkcionaaDoorExprp
import Derived.Test.YtldcplgfkcionaaDoorPAllPar
import Derived.Test.YtldcplgfkcionaaDoorBox2
set_option linter.unusedVariables false
set_option linter.unusedSimpArgs false
namespace Go.Proofs.YtldcplgfkcionaaDoor
open Go.RowKit Go.Proofs.YtldcplgfkcionaaDoorW.PrintWords
open PX (T V)
theorem laid2 {w w2 : World} {x y : Value} {t : TypeId} (hb : Below (w.alloc (.cells #[x, y] t)).heap.size (w.alloc (.cells #[x, y] t)) w2) :
    w2.heap[w.heap.size]? = some (.cells #[x, y] t (0, 0)) ∧ w2.cell? ⟨w.heap.size, 0, none⟩ = some x ∧ w2.cell? ⟨w.heap.size, 1, none⟩ = some y ∧
      w2.frozen? ⟨w.heap.size, 0, none⟩ = false ∧ w2.frozen? ⟨w.heap.size, 1, none⟩ = false ∧ w.heap.size < w2.heap.size ∧ Below w.heap.size w w2 := by
  have h := (hb.block w.heap.size (by simp)).trans (blk_new _ _)
  have hz := hb.size
  simp at hz
  exact ⟨h, blk_cell h 0, blk_cell h 1, blk_free h 0, blk_free h 1, by omega, ((Below.refl _ _).alloc (Nat.le_refl _) _).trans (hb.mono (by simp))⟩
theorem below_set2 {B g : Nat} {w W : World} (h : Below B w W) (hB : B ≤ g) (a b : Value) : Below B w ((W.setCell ⟨g, 0, none⟩ a).setCell ⟨g, 1, none⟩ b) :=
  (h.setCell hB _).setCell hB _
theorem blk_set2 {w : World} {g : Nat} {x y : Value} {t : TypeId} {fr : Nat × Nat} (h : w.heap[g]? = some (.cells #[x, y] t fr)) (a b : Value) : ((w.setCell ⟨g, 0, none⟩ a).setCell ⟨g, 1, none⟩ b).heap[g]? = some (.cells #[a, b] t fr) :=
  blk_set (blk_set h 0 a) 1 b
def agV (v : V) : Value := .agg #[.int .i64 v.1, .int .i64 v.2]
/-- What a function of tokens hands back. -/
def retE (e : Except Int V) : Value := match e with | .ok v => .tuple #[agV v, .nilIface] | .error c => .tuple #[agV (0, 0), .iface 28 (.int .i64 c)]
theorem whole_any (n : Int) (w : World) : Calls Tryd.prog 88 #[.int .i64 n] w fun e w' => e = .returned (agV (wholeV n)) ∧ Below w.heap.size w w' :=
  PAll.expr_whole.calls n 1 n w rfl
theorem truth_any (b : Bool) (w : World) : Calls Tryd.prog 108 #[.bool b] w fun e w' => e = .returned (agV (truthV b)) ∧ Below w.heap.size w w' :=
  (PAll.expr_truth.calls b 2 (if b then 1 else 0) w (by cases b <;> rfl))
theorem alone_f (k : Int) (a : V) : PAll.expr_alone.f 3 k a.1 a.2 = some (match oneE ⟨k, 0, 0⟩ a with | .ok v => (v.1, v.2, none) | .error c => (0, 0, some c)) := by
  simp only [PAll.expr_alone.f, PAll.expr_alone.j0, PAll.num_Neg.f, PAll.expr_whole.f, PAll.expr_truth.f, oneE, Option.bind_some, beq_iff_eq]
  by_cases h19 : k = 19
  · subst h19
    by_cases h1 : a.1 = 1
    · simp [h1, wholeV]
    · simp [h1]
  · by_cases h14 : k = 14
    · subst h14
      by_cases h2 : a.1 = 2
      · by_cases h0 : a.2 = 0
        · simp [h2, h0, truthV]
        · simp [h2, h0, truthV]
      · simp [h2]
    · simp [h19, h14]
theorem oneE_kind (t : T) (a : V) : oneE t a = oneE ⟨t.f0, 0, 0⟩ a := rfl
theorem alone_any (k : Int) (a : V) (w : World) : Calls Tryd.prog 86 #[.int .i64 k, agV a] w fun e w' => e = .returned (retE (oneE ⟨k, 0, 0⟩ a)) ∧ Below w.heap.size w w' := by
  have h := alone_f k a
  cases hx : oneE ⟨k, 0, 0⟩ a with
  | ok v => rw [hx] at h; exact PAll.expr_alone.calls 3 k a.1 a.2 _ _ _ w h
  | error c => rw [hx] at h; exact PAll.expr_alone.calls 3 k a.1 a.2 _ _ _ w h
theorem run_add (args : Array Value) (w : World) : (callFunc 130 args).run Tryd.prog w = .ok (.enter 130 args) w := by
  simp [callFunc, Tryd.func130]; rfl
theorem run_sub (args : Array Value) (w : World) : (callFunc 131 args).run Tryd.prog w = .ok (.enter 131 args) w := by
  simp [callFunc, Tryd.func131]; rfl
theorem run_mul (args : Array Value) (w : World) : (callFunc 132 args).run Tryd.prog w = .ok (.enter 132 args) w := by
  simp [callFunc, Tryd.func132]; rfl
theorem run_div (args : Array Value) (w : World) : (callFunc 133 args).run Tryd.prog w = .ok (.enter 133 args) w := by
  simp [callFunc, Tryd.func133]; rfl
theorem run_mod (args : Array Value) (w : World) : (callFunc 134 args).run Tryd.prog w = .ok (.enter 134 args) w := by
  simp [callFunc, Tryd.func134]; rfl
set_option maxHeartbeats 4000000 in
set_option maxRecDepth 100000 in
/-- What 'plain' makes of a function of two numbers. -/
theorem plain_any (f : FuncId) (hrun : ∀ (args : Array Value) (w : World), (callFunc f args).run Tryd.prog w = .ok (.enter f args) w) (a b r : Int) (hf : ∀ w, Calls Tryd.prog f #[.int .i64 a, .int .i64 b] w fun e w' => e = .returned (.int .i64 r) ∧ Below w.heap.size w w')
    (ga gb : Nat) (w : World) (ha : w.cell? ⟨ga, 0, none⟩ = some (.int .i64 a)) (hb : w.cell? ⟨gb, 0, none⟩ = some (.int .i64 b)) :
    Calls Tryd.prog 128 #[.func (.func f) #[] #[], .pointer (some ⟨ga, 0, none⟩), .pointer (some ⟨gb, 0, none⟩)] w fun e w' => e = .returned (retE (.ok (wholeV r))) ∧ Below w.heap.size w w' := by
  have HF := Lib.hid hf
  clear hf
  have a' := (((Below.refl w.heap.size w).alloc (Nat.le_refl _) (.cells #[.int .i64 0, .int .i64 0] 54)).cell (p := ⟨ga, 0, none⟩) (World.block_lt_of_cell? w _ ha)).trans ha
  have b' := (((Below.refl w.heap.size w).alloc (Nat.le_refl _) (.cells #[.int .i64 0, .int .i64 0] 54)).cell (p := ⟨gb, 0, none⟩) (World.block_lt_of_cell? w _ hb)).trans hb
  go_enter Tryd.func128, Tryd.ntmps128
  go_wp2_with fail
  refine (HF.out _).mono ?_
  rintro e w1 ⟨rfl, hb1⟩
  go_wp2_with fail
  refine (whole_any _ _).mono ?_
  rintro e w2 ⟨rfl, hb2⟩
  obtain ⟨hk, c0, c1, f0, f1, hlt, hbw⟩ := laid2 (hb1.trans (hb2.mono hb1.size))
  have HK := Lib.hid hk
  clear hk hb1 hb2 a' b'
  simp only [agV, wholeV]
  go_wp2_with fail
  refine bodyPost_ret (results_ct rfl _ _ w.heap.size 54 #[.int .i64 _, .int .i64 _] (0, 0) _ rfl (blk_set2 HK.out _ _) Tryd.underlying54 rfl (by kernel_rfl)) rfl ?_
  exact ⟨rfl, below_set2 hbw (Nat.le_refl _) _ _⟩
def optE (r : Int) (c : Option Int) : Except Int V := match c with | none => .ok (wholeV r) | some x => .error x
def errOf (e : Option Int) : Value := match e with | none => .nilIface | some c => .iface 28 (.int .i64 c)
theorem run_plain (args : Array Value) (w : World) : (callFunc 128 args).run Tryd.prog w = .ok (.enter 128 args) w := by
  simp [callFunc, Tryd.func128]; rfl
theorem run_part (args : Array Value) (w : World) : (callFunc 129 args).run Tryd.prog w = .ok (.enter 129 args) w := by
  simp [callFunc, Tryd.func129]; rfl
set_option maxHeartbeats 4000000 in
set_option maxRecDepth 100000 in
/-- What 'part' makes of a function of two numbers that may have a mishap. -/
theorem part_any (f : FuncId) (hrun : ∀ (args : Array Value) (w : World), (callFunc f args).run Tryd.prog w = .ok (.enter f args) w) (a b r : Int) (c : Option Int) (hf : ∀ w, Calls Tryd.prog f #[.int .i64 a, .int .i64 b] w fun e w' => e = .returned (.tuple #[.int .i64 r, errOf c]) ∧ Below w.heap.size w w')
    (ga gb : Nat) (w : World) (ha : w.cell? ⟨ga, 0, none⟩ = some (.int .i64 a)) (hb : w.cell? ⟨gb, 0, none⟩ = some (.int .i64 b)) :
    Calls Tryd.prog 129 #[.func (.func f) #[] #[], .pointer (some ⟨ga, 0, none⟩), .pointer (some ⟨gb, 0, none⟩)] w fun e w' => e = .returned (retE (optE r c)) ∧ Below w.heap.size w w' := by
  have HF := Lib.hid hf
  clear hf
  have a' := (((Below.refl w.heap.size w).alloc (Nat.le_refl _) (.cells #[.int .i64 0, .int .i64 0] 54)).cell (p := ⟨ga, 0, none⟩) (World.block_lt_of_cell? w _ ha)).trans ha
  have b' := (((Below.refl w.heap.size w).alloc (Nat.le_refl _) (.cells #[.int .i64 0, .int .i64 0] 54)).cell (p := ⟨gb, 0, none⟩) (World.block_lt_of_cell? w _ hb)).trans hb
  cases c with
  | none =>
    go_enter Tryd.func129, Tryd.ntmps129
    go_wp2_with fail
    refine (HF.out _).mono ?_
    rintro e w1 ⟨rfl, hb1⟩
    simp only [errOf]
    go_wp2_with fail
    refine (whole_any _ _).mono ?_
    rintro e w2 ⟨rfl, hb2⟩
    obtain ⟨hk, c0, c1, f0, f1, hlt, hbw⟩ := laid2 (hb1.trans (hb2.mono hb1.size))
    have HK := Lib.hid hk
    clear hk hb1 hb2 a' b'
    simp only [agV, wholeV]
    go_wp2_with fail
    refine bodyPost_ret (results_ct rfl _ _ w.heap.size 54 #[.int .i64 _, .int .i64 _] (0, 0) _ rfl (blk_set2 HK.out _ _) Tryd.underlying54 rfl (by kernel_rfl)) rfl ?_
    exact ⟨rfl, below_set2 hbw (Nat.le_refl _) _ _⟩
  | some x =>
    go_enter Tryd.func129, Tryd.ntmps129
    go_wp2_with fail
    refine (HF.out _).mono ?_
    rintro e w1 ⟨rfl, hb1⟩
    simp only [errOf]
    obtain ⟨hk, c0, c1, f0, f1, hlt, hbw⟩ := laid2 hb1
    have HK := Lib.hid hk
    clear hk hb1 a' b'
    go_wp2_with fail
    refine bodyPost_ret (results_ct rfl _ _ w.heap.size 54 #[.int .i64 _, .int .i64 _] (0, 0) _ rfl (blk_set2 HK.out _ _) Tryd.underlying54 rfl (by kernel_rfl)) rfl ?_
    exact ⟨rfl, below_set2 hbw (Nat.le_refl _) _ _⟩
/-- Blocks laid ahead of a call: two boxes, and a result. -/
theorem laid112 {w w2 : World} {x y : Value} {t t' : TypeId} {z : Value} {z' : Value}
    (hb : Below (((w.alloc (.cells #[x] t)).alloc (.cells #[y] t)).alloc (.cells #[z, z'] t')).heap.size (((w.alloc (.cells #[x] t)).alloc (.cells #[y] t)).alloc (.cells #[z, z'] t')) w2) :
    w2.heap[w.heap.size + 1 + 1]? = some (.cells #[z, z'] t' (0, 0)) ∧ w2.cell? ⟨w.heap.size, 0, none⟩ = some x ∧ w2.cell? ⟨w.heap.size + 1, 0, none⟩ = some y ∧ w2.cell? ⟨w.heap.size + 1 + 1, 0, none⟩ = some z ∧ w2.cell? ⟨w.heap.size + 1 + 1, 1, none⟩ = some z' ∧
      w2.frozen? ⟨w.heap.size + 1 + 1, 0, none⟩ = false ∧ w2.frozen? ⟨w.heap.size + 1 + 1, 1, none⟩ = false ∧ w.heap.size + 1 + 1 < w2.heap.size ∧ Below w.heap.size w w2 := by
  have hz := hb.size
  simp at hz
  have e1 : (w.alloc (.cells #[x] t)).heap.size = w.heap.size + 1 := by simp
  have e2 : ((w.alloc (.cells #[x] t)).alloc (.cells #[y] t)).heap.size = w.heap.size + 1 + 1 := by simp
  have h2 := (hb.block (w.heap.size + 1 + 1) (by simp)).trans (e2 ▸ blk_new ((w.alloc (.cells #[x] t)).alloc (.cells #[y] t)) (.cells #[z, z'] t'))
  have h1 := (hb.block (w.heap.size + 1) (by simp)).trans (blk_alloc _ (e1 ▸ blk_new (w.alloc (.cells #[x] t)) (.cells #[y] t)))
  have h0 := (hb.block w.heap.size (by simp; omega)).trans (blk_alloc _ (blk_alloc _ (blk_new w (.cells #[x] t))))
  exact ⟨h2, blk_cell h0 0, blk_cell h1 0, blk_cell h2 0, blk_cell h2 1, blk_free h2 0, blk_free h2 1, by omega, ((((Below.refl _ _).alloc (Nat.le_refl _) _).alloc (by simp) _).alloc (by simp; omega) _).trans (hb.mono (by simp; omega))⟩
set_option maxHeartbeats 8000000 in
set_option maxRecDepth 100000 in
theorem numbers_any (k a b : Int) (w : World) : Calls Tryd.prog 110 #[.int .i64 k, .int .i64 a, .int .i64 b] w fun e w' => e = .returned (retE (numE k a b)) ∧ Below w.heap.size w w' := by
  have hmf : ∀ (fn : Fn) (first cap : Array Value) (w : World), (Instr.makeFunc fn first cap).run Tryd.prog w = .ok (.func fn first cap) w := fun _ _ _ _ => rfl
  have r1 := run_plain
  have r2 := run_part
  obtain ⟨_, a0, b0, _, _, _, _, _, _⟩ := laid112 (Below.refl (((w.alloc (.cells #[.int .i64 a] 2)).alloc (.cells #[.int .i64 b] 2)).alloc (.cells #[.int .i64 0, .int .i64 0] 54)).heap.size (((w.alloc (.cells #[.int .i64 a] 2)).alloc (.cells #[.int .i64 b] 2)).alloc (.cells #[.int .i64 0, .int .i64 0] 54)))
  by_cases h3 : k = 3
  · subst h3
    go_enter Tryd.func110, Tryd.ntmps110
    go_wp2_with fail
    refine (plain_any 130 run_add a b (wrap64 (a + b)) (fun w => (PAll.num_Add.calls a b _ w rfl).mono fun e w' ⟨h, hd⟩ => ⟨h, hd.below⟩) _ _ _ a0 b0).mono ?_
    rintro e w1 ⟨rfl, hb1⟩
    obtain ⟨hk, c0, c1, d0, d1, f0, f1, hlt, hbw⟩ := laid112 hb1
    have HK := Lib.hid hk
    clear hk hb1 a0 b0
    simp only [retE, agV, wholeV]
    go_wp2_with fail
    refine bodyPost_ret (results_ct rfl _ _ (w.heap.size + 1 + 1) 54 #[.int .i64 _, .int .i64 _] (0, 0) _ rfl (blk_set2 HK.out _ _) Tryd.underlying54 rfl (by kernel_rfl)) rfl ?_
    exact ⟨by rw [numE, if_pos rfl]; rfl, below_set2 hbw (by omega) _ _⟩
  by_cases h4 : k = 4
  · subst h4
    go_enter Tryd.func110, Tryd.ntmps110
    go_wp2_with fail
    refine (plain_any 131 run_sub a b (wrap64 (a - b)) (fun w => (PAll.num_Sub.calls a b _ w rfl).mono fun e w' ⟨h, hd⟩ => ⟨h, hd.below⟩) _ _ _ a0 b0).mono ?_
    rintro e w1 ⟨rfl, hb1⟩
    obtain ⟨hk, c0, c1, d0, d1, f0, f1, hlt, hbw⟩ := laid112 hb1
    have HK := Lib.hid hk
    clear hk hb1 a0 b0
    simp only [retE, agV, wholeV]
    go_wp2_with fail
    refine bodyPost_ret (results_ct rfl _ _ (w.heap.size + 1 + 1) 54 #[.int .i64 _, .int .i64 _] (0, 0) _ rfl (blk_set2 HK.out _ _) Tryd.underlying54 rfl (by kernel_rfl)) rfl ?_
    exact ⟨rfl, below_set2 hbw (by omega) _ _⟩
  by_cases h5 : k = 5
  · subst h5
    go_enter Tryd.func110, Tryd.ntmps110
    go_wp2_with fail
    refine (plain_any 132 run_mul a b (wrap64 (a * b)) (fun w => (PAll.num_Mul.calls a b _ w rfl).mono fun e w' ⟨h, hd⟩ => ⟨h, hd.below⟩) _ _ _ a0 b0).mono ?_
    rintro e w1 ⟨rfl, hb1⟩
    obtain ⟨hk, c0, c1, d0, d1, f0, f1, hlt, hbw⟩ := laid112 hb1
    have HK := Lib.hid hk
    clear hk hb1 a0 b0
    simp only [retE, agV, wholeV]
    go_wp2_with fail
    refine bodyPost_ret (results_ct rfl _ _ (w.heap.size + 1 + 1) 54 #[.int .i64 _, .int .i64 _] (0, 0) _ rfl (blk_set2 HK.out _ _) Tryd.underlying54 rfl (by kernel_rfl)) rfl ?_
    exact ⟨rfl, below_set2 hbw (by omega) _ _⟩
  by_cases h6 : k = 6
  · subst h6
    by_cases hz : b = 0
    · subst hz
      go_enter Tryd.func110, Tryd.ntmps110
      go_wp2_with fail
      refine (part_any 133 run_div a 0 (0) (some 9) (fun w => (PAll.num_Div.calls a 0 0 (some 9) w rfl).mono fun e w' ⟨h, hd⟩ => ⟨h, hd.below⟩) _ _ _ a0 b0).mono ?_
      rintro e w1 ⟨rfl, hb1⟩
      obtain ⟨hk, c0, c1, d0, d1, f0, f1, hlt, hbw⟩ := laid112 hb1
      have HK := Lib.hid hk
      clear hk hb1 a0 b0
      simp only [optE, retE, agV, wholeV]
      go_wp2_with fail
      refine bodyPost_ret (results_ct rfl _ _ (w.heap.size + 1 + 1) 54 #[.int .i64 _, .int .i64 _] (0, 0) _ rfl (blk_set2 HK.out _ _) Tryd.underlying54 rfl (by kernel_rfl)) rfl ?_
      exact ⟨rfl, below_set2 hbw (by omega) _ _⟩
    · have hN : numE 6 a b = .ok (wholeV (wrap64 (a.tdiv b))) := by simp [numE, hz]
      rw [hN]
      clear hN
      go_enter Tryd.func110, Tryd.ntmps110
      go_wp2_with fail
      refine (part_any 133 run_div a b (wrap64 (a.tdiv b)) (none) (fun w => (PAll.num_Div.calls a b (wrap64 (a.tdiv b)) none w (by unfold PAll.num_Div.f; rw [if_neg hz])).mono fun e w' ⟨h, hd⟩ => ⟨h, hd.below⟩) _ _ _ a0 b0).mono ?_
      rintro e w1 ⟨rfl, hb1⟩
      obtain ⟨hk, c0, c1, d0, d1, f0, f1, hlt, hbw⟩ := laid112 hb1
      have HK := Lib.hid hk
      clear hk hb1 a0 b0
      simp only [optE, retE, agV, wholeV]
      go_wp2_with fail
      refine bodyPost_ret (results_ct rfl _ _ (w.heap.size + 1 + 1) 54 #[.int .i64 _, .int .i64 _] (0, 0) _ rfl (blk_set2 HK.out _ _) Tryd.underlying54 rfl (by kernel_rfl)) rfl ?_
      exact ⟨rfl, below_set2 hbw (by omega) _ _⟩
  by_cases h7 : k = 7
  · subst h7
    by_cases hz : b = 0
    · subst hz
      go_enter Tryd.func110, Tryd.ntmps110
      go_wp2_with fail
      refine (part_any 134 run_mod a 0 (0) (some 9) (fun w => (PAll.num_Mod.calls a 0 0 (some 9) w rfl).mono fun e w' ⟨h, hd⟩ => ⟨h, hd.below⟩) _ _ _ a0 b0).mono ?_
      rintro e w1 ⟨rfl, hb1⟩
      obtain ⟨hk, c0, c1, d0, d1, f0, f1, hlt, hbw⟩ := laid112 hb1
      have HK := Lib.hid hk
      clear hk hb1 a0 b0
      simp only [optE, retE, agV, wholeV]
      go_wp2_with fail
      refine bodyPost_ret (results_ct rfl _ _ (w.heap.size + 1 + 1) 54 #[.int .i64 _, .int .i64 _] (0, 0) _ rfl (blk_set2 HK.out _ _) Tryd.underlying54 rfl (by kernel_rfl)) rfl ?_
      exact ⟨rfl, below_set2 hbw (by omega) _ _⟩
    · have hN : numE 7 a b = .ok (wholeV (a.tmod b)) := by simp [numE, hz]
      rw [hN]
      clear hN
      go_enter Tryd.func110, Tryd.ntmps110
      go_wp2_with fail
      refine (part_any 134 run_mod a b (a.tmod b) (none) (fun w => (PAll.num_Mod.calls a b (a.tmod b) none w (by unfold PAll.num_Mod.f; rw [if_neg hz])).mono fun e w' ⟨h, hd⟩ => ⟨h, hd.below⟩) _ _ _ a0 b0).mono ?_
      rintro e w1 ⟨rfl, hb1⟩
      obtain ⟨hk, c0, c1, d0, d1, f0, f1, hlt, hbw⟩ := laid112 hb1
      have HK := Lib.hid hk
      clear hk hb1 a0 b0
      simp only [optE, retE, agV, wholeV]
      go_wp2_with fail
      refine bodyPost_ret (results_ct rfl _ _ (w.heap.size + 1 + 1) 54 #[.int .i64 _, .int .i64 _] (0, 0) _ rfl (blk_set2 HK.out _ _) Tryd.underlying54 rfl (by kernel_rfl)) rfl ?_
      exact ⟨rfl, below_set2 hbw (by omega) _ _⟩
  by_cases h8 : k = 8
  · subst h8
    have hN : numE 8 a b = .ok (truthV (decide (a < b))) := rfl
    rw [hN]
    clear hN
    go_enter Tryd.func110, Tryd.ntmps110
    go_wp2_with fail
    refine (truth_any _ _).mono ?_
    rintro e w1 ⟨rfl, hb1⟩
    obtain ⟨hk, c0, c1, d0, d1, f0, f1, hlt, hbw⟩ := laid112 hb1
    have HK := Lib.hid hk
    clear hk hb1 a0 b0
    simp only [agV]
    go_wp2_with fail
    refine bodyPost_ret (results_ct rfl _ _ (w.heap.size + 1 + 1) 54 #[.int .i64 _, .int .i64 _] (0, 0) _ rfl (blk_set2 HK.out _ _) Tryd.underlying54 rfl (by kernel_rfl)) rfl ?_
    exact ⟨rfl, below_set2 hbw (by omega) _ _⟩
  by_cases h9 : k = 9
  · subst h9
    have hN : numE 9 a b = .ok (truthV (decide (a ≤ b))) := rfl
    rw [hN]
    clear hN
    go_enter Tryd.func110, Tryd.ntmps110
    go_wp2_with fail
    refine (truth_any _ _).mono ?_
    rintro e w1 ⟨rfl, hb1⟩
    obtain ⟨hk, c0, c1, d0, d1, f0, f1, hlt, hbw⟩ := laid112 hb1
    have HK := Lib.hid hk
    clear hk hb1 a0 b0
    simp only [agV]
    go_wp2_with fail
    refine bodyPost_ret (results_ct rfl _ _ (w.heap.size + 1 + 1) 54 #[.int .i64 _, .int .i64 _] (0, 0) _ rfl (blk_set2 HK.out _ _) Tryd.underlying54 rfl (by kernel_rfl)) rfl ?_
    exact ⟨rfl, below_set2 hbw (by omega) _ _⟩
  have hN : numE k a b = .error 8 := by simp [numE, h3, h4, h5, h6, h7, h8, h9]
  rw [hN]
  have n3 : (k == 3) = false := beq_eq_false_iff_ne.mpr h3
  have n4 : (k == 4) = false := beq_eq_false_iff_ne.mpr h4
  have n5 : (k == 5) = false := beq_eq_false_iff_ne.mpr h5
  have n6 : (k == 6) = false := beq_eq_false_iff_ne.mpr h6
  have n7 : (k == 7) = false := beq_eq_false_iff_ne.mpr h7
  have n8 : (k == 8) = false := beq_eq_false_iff_ne.mpr h8
  have n9 : (k == 9) = false := beq_eq_false_iff_ne.mpr h9
  clear hN h3 h4 h5 h6 h7 h8 h9
  obtain ⟨hk, c0, c1, d0, d1, f0, f1, hlt, hbw⟩ := laid112 (Below.refl (((w.alloc (.cells #[.int .i64 a] 2)).alloc (.cells #[.int .i64 b] 2)).alloc (.cells #[.int .i64 0, .int .i64 0] 54)).heap.size (((w.alloc (.cells #[.int .i64 a] 2)).alloc (.cells #[.int .i64 b] 2)).alloc (.cells #[.int .i64 0, .int .i64 0] 54)))
  have HK := Lib.hid hk
  clear hk
  go_enter Tryd.func110, Tryd.ntmps110
  go_wp2_with fail
  refine bodyPost_ret (results_ct rfl _ _ (w.heap.size + 1 + 1) 54 #[.int .i64 _, .int .i64 _] (0, 0) _ rfl HK.out Tryd.underlying54 rfl (by kernel_rfl)) rfl ?_
  exact ⟨rfl, hbw⟩
end Go.Proofs.YtldcplgfkcionaaDoor
