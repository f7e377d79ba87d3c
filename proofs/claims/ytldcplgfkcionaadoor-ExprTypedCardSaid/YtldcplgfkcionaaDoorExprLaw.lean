/- The laws ExprTypes and ExprValues. -/
import Derived.Test.YtldcplgfkcionaaDoorExprof
import Derived.Test.YtldcplgfkcionaaDoorPAllType
import Derived.Test.YtldcplgfkcionaaDoorTokArg
set_option linter.unusedVariables false
set_option linter.unusedSimpArgs false
namespace Go.Proofs.YtldcplgfkcionaaDoor
open Go.RowKit Go.Proofs.YtldcplgfkcionaaDoorW.PrintWords
open PX (T V Tr takes may mayGo tree_of value_tree)
def badR (e : Except Int V) : Int := match e with | .ok _ => 0 | .error c => c
def valR (e : Except Int V) : V := match e with | .ok v => v | .error _ => (0, 0)
theorem runR_ok (look : Int → Option Int) (typed : Bool) (hl : ∀ v n, look v = some n → -9223372036854775808 ≤ n ∧ n ≤ 9223372036854775807) (p : List T) (hw : Wide p) : match runR look typed p with | .ok v => VOk v | .error c => c = 2 ∨ c = 4 ∨ c = 8 ∨ c = 9 := by
  cases hm : may p with
  | true =>
    have hmg : mayGo p 0 = some 1 := by unfold may at hm; simp at hm; exact hm.2
    obtain ⟨x, hwf, rfl⟩ := tree_of hmg
    have hv : runR look typed x.flat = valE look typed x := by unfold runR; rw [if_pos hm]; exact value_tree _ _ _ x hwf
    rw [hv]
    have := valE_ok look typed hl x hw
    cases h : valE look typed x with
    | ok v => rw [h] at this; exact this
    | error c => rw [h] at this; simp only [EOk] at this; simp only; omega
  | false =>
    have : runR look typed p = .error 2 := by unfold runR; rw [if_neg (by simp [hm])]
    rw [this]
    exact .inl rfl
theorem end_all (p : List T) (hm : may p = true) (hw : Wide p) (env : List Int) (hen : env.length ≤ 1000000) (he : ∀ x ∈ env, -9223372036854775808 ≤ x ∧ x ≤ 9223372036854775807) (vars : Int) (typed : Bool) :
    Ev (fun k => PAll.spinetref04_End.f k p (wrap64 ((p.length : Int) - 1)) env vars typed) ((encE (runR (lookV typed vars env) typed p)).1, (encE (runR (lookV typed vars env) typed p)).2.1, (encE (runR (lookV typed vars env) typed p)).2.2, 0) := by
  have hmg : mayGo p 0 = some 1 := by unfold may at hm; simp at hm; exact hm.2
  have hl : p.length ≤ 100 := by unfold may at hm; simp at hm; exact hm.1
  obtain ⟨x, hwf, rfl⟩ := tree_of hmg
  have hv : runR (lookV typed vars env) typed x.flat = valE (lookV typed vars env) typed x := by
    unfold runR; rw [if_pos hm]; exact value_tree _ _ _ x hwf
  rw [hv]
  have := end_ev x.flat (by omega) hw env hen he vars typed x [] [] hwf (by simp)
  have e1 : wrap64 ((x.flat.length : Int) - 1) = ((([] : List T).length + x.flat.length : Nat) : Int) - 1 := by
    rw [w64 (by omega) (by omega)]; simp
  rw [e1]
  exact this
theorem rtype_f (p : List T) (hl : p.length ≤ 1000000) (hw : Wide p) (vars : Int) : ∃ k, PAll.spinetref04_Type.f k p vars = some (kindR (runR (lookV true vars []) true p), badR (runR (lookV true vars []) true p)) := by
  have h1 : Ev (fun k => PAll.spinetref03_May.f k p) (may p) := by
    obtain ⟨k, hk⟩ := rmay_f p hl
    exact Ev.of (fun k => PAll.spinetref03_May.mono _ k) hk
  refine Ev.rounds (?_ : Ev (fun k => PAll.spinetref04_Type.f k p vars) _)
  unfold PAll.spinetref04_Type.f
  refine Ev.bind h1 ?_
  cases hm : may p with
  | true =>
    refine ev_pos rfl ?_
    refine Ev.bind (end_all p hm hw [] (by simp) (by simp) vars true) ?_
    cases runR (lookV true vars []) true p <;> exact Ev.now _
  | false =>
    refine ev_neg (by simp) ?_
    have : runR (lookV true vars []) true p = .error 2 := by unfold runR; rw [if_neg (by simp [hm])]
    rw [this]
    exact Ev.now _
theorem reval_f (p : List T) (hl : p.length ≤ 1000000) (hw : Wide p) (env : List Int) (hen : env.length ≤ 1000000) (he : ∀ x ∈ env, -9223372036854775808 ≤ x ∧ x ≤ 9223372036854775807) :
    ∃ k, PAll.spinetref04_Eval.f k p env = some ((valR (runR (lookV false 0 env) false p)).1, (valR (runR (lookV false 0 env) false p)).2, badR (runR (lookV false 0 env) false p)) := by
  have h1 : Ev (fun k => PAll.spinetref03_May.f k p) (may p) := by
    obtain ⟨k, hk⟩ := rmay_f p hl
    exact Ev.of (fun k => PAll.spinetref03_May.mono _ k) hk
  refine Ev.rounds (?_ : Ev (fun k => PAll.spinetref04_Eval.f k p env) _)
  unfold PAll.spinetref04_Eval.f
  refine Ev.bind h1 ?_
  cases hm : may p with
  | true =>
    refine ev_pos rfl ?_
    refine Ev.bind (end_all p hm hw env hen he 0 false) ?_
    cases runR (lookV false 0 env) false p <;> exact Ev.now _
  | false =>
    refine ev_neg (by simp) ?_
    have : runR (lookV false 0 env) false p = .error 2 := by unfold runR; rw [if_neg (by simp [hm])]
    rw [this]
    exact Ev.now _
theorem codeR_any (look : Int → Option Int) (typed : Bool) (hl : ∀ v n, look v = some n → -9223372036854775808 ≤ n ∧ n ≤ 9223372036854775807) (p : List T) (hw : Wide p) (w : World) :
    Calls Tryd.prog 31 #[errR (runR look typed p)] w fun e w' => e = .returned (.int .i64 (badR (runR look typed p))) ∧ w = w' := by
  have := runR_ok look typed hl p hw
  cases h : runR look typed p with
  | ok v => exact code_none w
  | error c => rw [h] at this; simp only at this; exact code_code c (by omega) (by omega) w
set_option maxHeartbeats 8000000 in
set_option maxRecDepth 100000 in
theorem ExprTypes_walk (w : World) (hw : Laid w) (v0 : Value) (x0 : List (Int × Int × Int × Unit)) (v1 : Value) (x1 : Int) (h0 : RTok.slice.ok (fun b => b < w.heap.size) w [v0] x0) (h1 : (Rep.int .i64).ok (fun b => b < w.heap.size) w [v1] x1) :
    Calls Tryd.prog 8 #[v0, v1] w fun e w' => e = .returned (.bool true) ∧ Below w.heap.size w w' := by
  obtain ⟨A, cap, p, rfl, hc, hC, hwd⟩ := tokArg h0
  obtain ⟨h1, hx⟩ := h1
  obtain rfl : v1 = .int .i64 x1 := by simpa using h1
  clear h0 h1
  have HC := Lib.hid hC
  have HW := Lib.hid hwd.wide
  clear hC hwd
  by_cases h3 : 300 < p.length
  · go_enter Tryd.func8, Tryd.ntmps8
    go_wp2_with fail
    refine (up04 _ hw).mono ?_
    rintro e w1 ⟨rfl, hb1⟩
    go_wp2_with fail
    go_ret
    exact ⟨rfl, hb1⟩
  obtain ⟨k, hk⟩ := rtype_f p (by omega) HW.out x1
  have hcd := codeR_any (lookV true x1 []) true (lookV_ok true x1 [] (by simp)) p HW.out
  have HK := Lib.hid hk
  have HCD := Lib.hid hcd
  clear hk hcd
  go_enter Tryd.func8, Tryd.ntmps8
  go_wp2_with fail
  refine (up04 _ hw).mono ?_
  rintro e w1 ⟨rfl, hb1⟩
  go_wp2_with fail
  refine (type_any A cap p x1 _ hc (Kd.C_below HC.out hb1)).mono ?_
  rintro e w2 ⟨rfl, hb2⟩
  have hb12 := below_then hb1 hb1.size hb2
  go_wp2_with fail
  refine (PAll.spinetref04_Type.calls k A cap p x1 _ _ _ (Kd.C_below HC.out hb12) hc HK.out).mono ?_
  rintro e w3 ⟨rfl, hb3⟩
  have hb13 := below_then hb12 hb12.size hb3
  go_wp2_with fail
  refine (HCD.out _).mono ?_
  rintro e w4 ⟨rfl, rfl⟩
  go_wp2_with fail
  go_ret
  exact ⟨rfl, hb13⟩
/-! ### numbers that come in -/
theorem numArg {w : World} {v : Value} {xs : List Int} (h : (Rep.int .i64).slice.ok (fun b => b < w.heap.size) w [v] xs) :
    ∃ A cap, v = .slice A xs.length cap ∧ xs.length ≤ cap ∧ NumsC w A xs.length xs ∧ ∀ x ∈ xs, -9223372036854775808 ≤ x ∧ x ≤ 9223372036854775807 := by
  obtain ⟨A, cap, hv, hA⟩ := Rep.slice_open h
  by_cases h0 : 0 < xs.length
  · obtain ⟨b, off, rfl, hb, hlt, hc1, hc2, hel⟩ := hA h0
    unfold maxLen at hc2
    have hel' : ∀ i (hi : i < xs.length), w.cell? ⟨b, off + i, none⟩ = some (.int .i64 xs[i]) ∧ (Lit.int .i64 xs[i]).wf = true := by
      intro i hi
      obtain ⟨c, hc, hcell, hok⟩ := hel i hi
      obtain ⟨rfl, hw⟩ := hok
      have := hcell 0 (by simp)
      have hs : (Rep.int .i64).size = 1 := rfl
      rw [hs, Nat.mul_one] at this
      exact ⟨this, hw⟩
    refine ⟨some ⟨b, off, none⟩, cap, hv, hc1, ⟨rfl, by omega, fun _ => ⟨⟨b, off, none⟩, rfl, ?_⟩⟩, ?_⟩
    · intro j p hj
      obtain ⟨hjl, rfl⟩ := List.getElem?_eq_some_iff.1 hj
      refine ⟨[.int .i64 xs[j]], rfl, rfl, ?_⟩
      intro i u hi
      rw [add_at]
      match i, hi with
      | 0, hi =>
        simp at hi; subst hi
        have := (hel' j hjl).1
        simpa [Kd.int, Kd.scalar] using this
      | n + 1, hi => simp at hi
    · intro t ht
      obtain ⟨j, hj, rfl⟩ := List.mem_iff_getElem.1 ht
      exact bounds_i64 (hel' j hj).2
  · have hx : xs = [] := by cases xs with
      | nil => rfl
      | cons a l => simp at h0
    subst hx
    exact ⟨A, cap, hv, Nat.zero_le _, ⟨rfl, by simp, fun h => by simp at h⟩, fun t ht => by cases ht⟩
theorem retE_eq (e : Except Int V) : retE e = .tuple #[agV (valR e), errR e] := by cases e <;> rfl
set_option maxHeartbeats 8000000 in
set_option maxRecDepth 100000 in
theorem ExprValues_walk (w : World) (hw : Laid w) (v0 : Value) (x0 : List (Int × Int × Int × Unit)) (v1 : Value) (x1 : List Int) (h0 : RTok.slice.ok (fun b => b < w.heap.size) w [v0] x0) (h1 : (Rep.int .i64).slice.ok (fun b => b < w.heap.size) w [v1] x1) :
    Calls Tryd.prog 9 #[v0, v1] w fun e w' => e = .returned (.bool true) ∧ Below w.heap.size w w' := by
  obtain ⟨A, cap, p, rfl, hc, hC, hwd⟩ := tokArg h0
  obtain ⟨E, ecap, rfl, hec, hE, hen⟩ := numArg h1
  clear h0 h1
  have HC := Lib.hid hC
  have HE := Lib.hid hE
  have HW := Lib.hid hwd.wide
  have HEN := Lib.hid hen
  clear hC hwd hE hen
  by_cases h3 : 300 < p.length
  · go_enter Tryd.func9, Tryd.ntmps9
    go_wp2_with fail
    refine (up04 _ hw).mono ?_
    rintro e w1 ⟨rfl, hb1⟩
    go_wp2_with fail
    go_ret
    exact ⟨rfl, hb1⟩
  by_cases h4 : 100 < x1.length
  · have q3 : decide ((300 : Int) < (p.length : Int)) = false := decide_eq_false (by omega)
    have q4 : decide ((p.length : Int) > 300) = false := decide_eq_false (by omega)
    go_enter Tryd.func9, Tryd.ntmps9
    go_wp2_with fail
    refine (up04 _ hw).mono ?_
    rintro e w1 ⟨rfl, hb1⟩
    go_wp2_with fail
    go_ret
    exact ⟨rfl, hb1⟩
  obtain ⟨k, hk⟩ := reval_f p (by omega) HW.out x1 (by omega) HEN.out
  have hcd := codeR_any (lookV false 0 x1) false (lookV_ok false 0 x1 HEN.out) p HW.out
  have HK := Lib.hid hk
  have HCD := Lib.hid hcd
  have q3 : decide ((p.length : Int) > 300) = false := decide_eq_false (by omega)
  have q4 : decide ((x1.length : Int) > 100) = false := decide_eq_false (by omega)
  clear hk hcd
  have kv := eqVal
  go_enter Tryd.func9, Tryd.ntmps9
  go_wp2_with fail
  refine (up04 _ hw).mono ?_
  rintro e w1 ⟨rfl, hb1⟩
  go_wp2_with fail
  refine (eval_any A cap p E ecap x1 _ hc (Kd.C_below HC.out hb1) (Kd.C_below HE.out hb1)).mono ?_
  rw [retE_eq]
  generalize runR (lookV false 0 x1) false p = r at *
  rintro e w2 ⟨rfl, hb2⟩
  have hb12 := below_then hb1 hb1.size hb2
  have hb12' := hb12.alloc hb12.size (.cells #[.int .i64 (valR r).1, .int .i64 (valR r).2] 54)
  simp only [agV]
  go_wp2_with fail
  refine (PAll.spinetref04_Eval.calls k A cap p E ecap x1 _ _ _ _ (Kd.C_below HC.out hb12') hc (Kd.C_below HE.out hb12') hec HK.out).mono ?_
  rintro e w3 ⟨rfl, hb3⟩
  obtain ⟨hk, c0, c1, f0, f1, hlt, hbw⟩ := laid2 hb3
  have hb13 := hb12.trans (hbw.mono hb12.size)
  have hal : Below w3.heap.size w3 (w3.alloc (.cells #[.int .i64 (valR r).1, .int .i64 (valR r).2] 54)) := (Below.refl _ _).alloc (Nat.le_refl _) _
  have d0 := (hal.cell (p := ⟨w2.heap.size, 0, none⟩) hlt).trans c0
  have d1 := (hal.cell (p := ⟨w2.heap.size, 1, none⟩) hlt).trans c1
  have hbf := hb13.trans (hal.mono hb13.size)
  clear hk hb3 c0 c1 f0 f1 hb12'
  generalize valR r = v at *
  go_wp2_with fail
  refine (HCD.out _).mono ?_
  rintro e w4 ⟨rfl, rfl⟩
  go_wp2_with fail
  go_ret
  exact ⟨rfl, hbf⟩
end Go.Proofs.YtldcplgfkcionaaDoor
