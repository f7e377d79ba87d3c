/- The law ExprTyped. -/
import Derived.Test.YtldcplgfkcionaaDoorExprLaw
set_option linter.unusedVariables false
set_option linter.unusedSimpArgs false
namespace Go.Proofs.YtldcplgfkcionaaDoor
open Go.RowKit Go.Proofs.YtldcplgfkcionaaDoorW.PrintWords
open PX (T V Tr takes may mayGo tree_of value_tree val)
/-! ### the plain law -/
/-- What a type has to do with a value. -/
def Fits (te ve : Except Int V) : Prop := match te with
  | .ok t => (∃ v, ve = .ok v ∧ v.1 = t.1 ∧ VOk v) ∨ ve = .error 9
  | .error _ => ∃ c, ve = .error c
theorem num_kind (k a b a' b' : Int) : (zeroE true (numE k a b) = .error 8 ∧ zeroE true (numE k a' b') = .error 8) ∨ ∃ w w', zeroE true (numE k a b) = .ok w ∧ zeroE true (numE k a' b') = .ok w' ∧ w.1 = w'.1 := by
  by_cases h3 : k = 3
  · subst h3; exact .inr ⟨_, _, rfl, rfl, rfl⟩
  by_cases h4 : k = 4
  · subst h4; exact .inr ⟨_, _, rfl, rfl, rfl⟩
  by_cases h5 : k = 5
  · subst h5; exact .inr ⟨_, _, rfl, rfl, rfl⟩
  have div : ∀ x y : Int, ∃ w, zeroE true (numE 6 x y) = .ok w ∧ w.1 = 1 := by
    intro x y
    by_cases hz : y = 0
    · subst hz; exact ⟨_, rfl, rfl⟩
    · exact ⟨wholeV (wrap64 (x.tdiv y)), by simp [numE, hz, zeroE], rfl⟩
  have mod : ∀ x y : Int, ∃ w, zeroE true (numE 7 x y) = .ok w ∧ w.1 = 1 := by
    intro x y
    by_cases hz : y = 0
    · subst hz; exact ⟨_, rfl, rfl⟩
    · exact ⟨wholeV (x.tmod y), by simp [numE, hz, zeroE], rfl⟩
  by_cases h6 : k = 6
  · subst h6
    obtain ⟨w, h1, h2⟩ := div a b
    obtain ⟨w', h1', h2'⟩ := div a' b'
    exact .inr ⟨w, w', h1, h1', by rw [h2, h2']⟩
  by_cases h7 : k = 7
  · subst h7
    obtain ⟨w, h1, h2⟩ := mod a b
    obtain ⟨w', h1', h2'⟩ := mod a' b'
    exact .inr ⟨w, w', h1, h1', by rw [h2, h2']⟩
  by_cases h8 : k = 8
  · subst h8; exact .inr ⟨_, _, rfl, rfl, rfl⟩
  by_cases h9 : k = 9
  · subst h9; exact .inr ⟨_, _, rfl, rfl, rfl⟩
  exact .inl ⟨by simp [numE, h3, h4, h5, h6, h7, h8, h9, zeroE], by simp [numE, h3, h4, h5, h6, h7, h8, h9, zeroE]⟩
theorem both_kind (k : Int) (a b a' b' : V) (ha : a.1 = a'.1) (hb : b.1 = b'.1) : (zeroE true (bothE k a b) = .error 8 ∧ zeroE true (bothE k a' b') = .error 8) ∨ ∃ w w', zeroE true (bothE k a b) = .ok w ∧ zeroE true (bothE k a' b') = .ok w' ∧ w.1 = w'.1 := by
  obtain ⟨ak, an⟩ := a
  obtain ⟨bk, bn⟩ := b
  obtain ⟨ak', an'⟩ := a'
  obtain ⟨bk', bn'⟩ := b'
  obtain rfl : ak = ak' := ha
  obtain rfl : bk = bk' := hb
  simp only [bothE]
  by_cases h : ak ≠ bk
  · rw [if_pos h, if_pos h]; exact .inl ⟨rfl, rfl⟩
  rw [if_neg h, if_neg h]
  by_cases h10 : k = 10
  · subst h10; exact .inr ⟨_, _, rfl, rfl, rfl⟩
  rw [if_neg h10, if_neg h10]
  by_cases h11 : k = 11
  · subst h11; exact .inr ⟨_, _, rfl, rfl, rfl⟩
  rw [if_neg h11, if_neg h11]
  by_cases h1 : ak = 1
  · rw [if_pos h1, if_pos h1]; exact num_kind k _ _ _ _
  rw [if_neg h1, if_neg h1]
  by_cases h12 : k = 12
  · subst h12; exact .inr ⟨_, _, rfl, rfl, rfl⟩
  rw [if_neg h12, if_neg h12]
  by_cases h13 : k = 13
  · subst h13; exact .inr ⟨_, _, rfl, rfl, rfl⟩
  rw [if_neg h13, if_neg h13]
  exact .inl ⟨rfl, rfl⟩
theorem fits_tree (env : List Int) (he : ∀ x ∈ env, -9223372036854775808 ≤ x ∧ x ≤ 9223372036854775807) (x : Tr) (hx : ∀ t ∈ x.flat, -9223372036854775808 ≤ t.f1 ∧ t.f1 ≤ 9223372036854775807) :
    Fits (valE (lookV true env.length []) true x) (valE (lookV false 0 env) false x) := by
  induction x with
  | leaf t =>
    have hok := leafE_ok (lookV_ok false 0 env he) (hx t (by simp [Tr.flat]))
    show Fits (leafE (lookV true env.length []) t) (leafE (lookV false 0 env) t)
    unfold leafE at hok ⊢
    by_cases h1 : t.f0 = 1
    · rw [if_pos h1] at hok; rw [if_pos h1, if_pos h1]; exact .inl ⟨_, rfl, rfl, hok⟩
    rw [if_neg h1] at hok; rw [if_neg h1, if_neg h1]
    by_cases h2 : t.f0 = 2
    · rw [if_pos h2] at hok; rw [if_pos h2, if_pos h2]
      by_cases hv : t.f1 < env.length
      · have e1 : lookV true env.length [] t.f1 = some 0 := by unfold lookV; rw [if_pos rfl, if_pos hv]
        have e2 : lookV false 0 env t.f1 = some (rd env t.f1) := by unfold lookV; rw [if_neg (by simp), if_pos hv]
        rw [e2] at hok
        rw [e1, e2]; exact .inl ⟨_, rfl, rfl, hok⟩
      · have e1 : lookV true env.length [] t.f1 = none := by unfold lookV; rw [if_pos rfl, if_neg hv]
        have e2 : lookV false 0 env t.f1 = none := by unfold lookV; rw [if_neg (by simp), if_neg hv]
        rw [e1, e2]; exact ⟨_, rfl⟩
    rw [if_neg h2, if_neg h2]; exact .inl ⟨_, rfl, rfl, truthV_ok _⟩
  | one t a ih =>
    have h1 := ih (fun t ht => hx t (by simp [Tr.flat, ht]))
    show Fits ((valE (lookV true env.length []) true a).bind (oneE t)) ((valE (lookV false 0 env) false a).bind (oneE t))
    cases hT : valE (lookV true env.length []) true a with
    | error c =>
      rw [hT] at h1
      obtain ⟨c', h1⟩ := h1
      rw [h1]; exact ⟨c', rfl⟩
    | ok tv =>
      rw [hT] at h1
      rcases h1 with ⟨v, h1, hk, hv⟩ | h1
      · rw [h1]
        show Fits (oneE t tv) (oneE t v)
        have hok := oneE_ok t v
        unfold oneE at hok ⊢
        rw [hk] at hok ⊢
        by_cases h19 : t.f0 = 19 ∧ tv.1 = 1
        · rw [if_pos h19] at hok; rw [if_pos h19, if_pos h19]; exact .inl ⟨_, rfl, rfl, hok⟩
        rw [if_neg h19] at hok; rw [if_neg h19, if_neg h19]
        by_cases h14 : t.f0 = 14 ∧ tv.1 = 2
        · rw [if_pos h14, if_pos h14]; exact .inl ⟨_, rfl, rfl, truthV_ok _⟩
        rw [if_neg h14, if_neg h14]; exact ⟨_, rfl⟩
      · rw [h1]
        show Fits (oneE t tv) (.error 9)
        cases oneE t tv with
        | ok w => exact .inr rfl
        | error c => exact ⟨_, rfl⟩
  | two t a b ia ib =>
    have h1 := ia (fun t ht => hx t (by simp [Tr.flat, ht]))
    have h2 := ib (fun t ht => hx t (by simp [Tr.flat, ht]))
    show Fits ((valE (lookV true env.length []) true a).bind fun v => (valE (lookV true env.length []) true b).bind fun u => twoE true t v u) ((valE (lookV false 0 env) false a).bind fun v => (valE (lookV false 0 env) false b).bind fun u => twoE false t v u)
    cases hT : valE (lookV true env.length []) true a with
    | error c =>
      rw [hT] at h1
      obtain ⟨c', h1⟩ := h1
      rw [h1]; exact ⟨c', rfl⟩
    | ok tv =>
      rw [hT] at h1
      have any9 : ∀ e : Except Int V, Fits e (.error 9) := fun e => by
        cases e with
        | ok w => exact .inr rfl
        | error c => exact ⟨_, rfl⟩
      rcases h1 with ⟨v, h1, hk, hv⟩ | h1
      · rw [h1]
        cases hU : valE (lookV true env.length []) true b with
        | error c =>
          rw [hU] at h2
          obtain ⟨c', h2⟩ := h2
          rw [h2]; exact ⟨c', rfl⟩
        | ok tu =>
          rw [hU] at h2
          rcases h2 with ⟨u, h2, hk2, hu⟩ | h2
          · rw [h2]
            show Fits (twoE true t tv tu) (twoE false t v u)
            have hbo := bothE_ok t.f0 (b := u) hv
            unfold twoE
            rcases both_kind t.f0 tv tu v u hk.symm hk2.symm with ⟨e1, e2⟩ | ⟨z, z', e1, e2, e3⟩
            · rw [e1]
              cases hb : bothE t.f0 v u with
              | ok z => rw [hb] at e2; cases e2
              | error c => exact ⟨c, by simp [zeroE]⟩
            · rw [e1]
              cases hb : bothE t.f0 v u with
              | ok y =>
                rw [hb] at e2 hbo
                have : y = z' := by simpa [zeroE] using e2
                subst this
                exact .inl ⟨y, rfl, e3.symm, hbo⟩
              | error c =>
                rw [hb] at e2
                by_cases h9 : c = 9
                · subst h9; exact .inr rfl
                · simp [zeroE, h9] at e2
          · rw [h2]; exact any9 _
      · rw [h1]; exact any9 _
theorem fits_run (env : List Int) (he : ∀ x ∈ env, -9223372036854775808 ≤ x ∧ x ≤ 9223372036854775807) (p : List T) (hw : Wide p) : Fits (runR (lookV true env.length []) true p) (runR (lookV false 0 env) false p) := by
  cases hm : may p with
  | true =>
    have hmg : mayGo p 0 = some 1 := by unfold may at hm; simp at hm; exact hm.2
    obtain ⟨x, hwf, rfl⟩ := tree_of hmg
    have e1 : runR (lookV true env.length []) true x.flat = valE (lookV true env.length []) true x := by unfold runR; rw [if_pos hm]; exact value_tree _ _ _ x hwf
    have e2 : runR (lookV false 0 env) false x.flat = valE (lookV false 0 env) false x := by unfold runR; rw [if_pos hm]; exact value_tree _ _ _ x hwf
    rw [e1, e2]
    exact fits_tree env he x hw
  | false =>
    have e1 : runR (lookV true env.length []) true p = .error 2 := by unfold runR; rw [if_neg (by simp [hm])]
    have e2 : runR (lookV false 0 env) false p = .error 2 := by unfold runR; rw [if_neg (by simp [hm])]
    rw [e1, e2]
    exact ⟨_, rfl⟩
set_option maxHeartbeats 8000000 in
set_option maxRecDepth 100000 in
theorem ExprTyped_walk (w : World) (hw : Laid w) (v0 : Value) (x0 : List (Int × Int × Int × Unit)) (v1 : Value) (x1 : List Int) (h0 : RTok.slice.ok (fun b => b < w.heap.size) w [v0] x0) (h1 : (Rep.int .i64).slice.ok (fun b => b < w.heap.size) w [v1] x1) :
    Calls Tryd.prog 10 #[v0, v1] w fun e w' => e = .returned (.bool true) ∧ Below w.heap.size w w' := by
  obtain ⟨A, cap, p, rfl, hc, hC, hwd⟩ := tokArg h0
  obtain ⟨E, ecap, rfl, hec, hE, hen⟩ := numArg h1
  clear h0 h1
  have HC := Lib.hid hC
  have HE := Lib.hid hE
  have HW := Lib.hid hwd.wide
  have HEN := Lib.hid hen
  clear hC hwd hE hen
  by_cases h3 : 300 < p.length
  · go_enter Tryd.func10, Tryd.ntmps10
    go_wp2_with fail
    refine (up04 _ hw).mono ?_
    rintro e w1 ⟨rfl, hb1⟩
    go_wp2_with fail
    go_ret
    exact ⟨rfl, hb1⟩
  have q3 : decide ((p.length : Int) > 300) = false := decide_eq_false (by omega)
  by_cases h4 : 100 < x1.length
  · go_enter Tryd.func10, Tryd.ntmps10
    go_wp2_with fail
    refine (up04 _ hw).mono ?_
    rintro e w1 ⟨rfl, hb1⟩
    go_wp2_with fail
    go_ret
    exact ⟨rfl, hb1⟩
  have q4 : decide ((x1.length : Int) > 100) = false := decide_eq_false (by omega)
  have hfit := fits_run x1 HEN.out p HW.out
  have HF := Lib.hid hfit
  have k6 := eqErr
  clear hfit
  go_enter Tryd.func10, Tryd.ntmps10
  go_wp2_with fail
  refine (up04 _ hw).mono ?_
  rintro e w1 ⟨rfl, hb1⟩
  go_wp2_with fail
  refine (type_any A cap p x1.length _ hc (Kd.C_below HC.out hb1)).mono ?_
  rintro e w2 ⟨rfl, hb2⟩
  have hb12 := below_then hb1 hb1.size hb2
  go_wp2_with fail
  refine (eval_any A cap p E ecap x1 _ hc (Kd.C_below HC.out hb12) (Kd.C_below HE.out hb12)).mono ?_
  rintro e w3 ⟨rfl, hb3⟩
  have hb13 := below_then hb12 hb12.size hb3
  have hbf := fun (a b : Int) => hb13.alloc hb13.size (.cells #[.int .i64 a, .int .i64 b] 54)
  have HBF := Lib.hid hbf
  clear hb1 hb2 hb3 hb12 hb13 hbf
  generalize runR (lookV true x1.length []) true p = te at *
  generalize runR (lookV false 0 x1) false p = ve at *
  cases te with
  | error c =>
    obtain ⟨c', rfl⟩ : ∃ c, ve = .error c := HF.out
    simp only [kindR, errR, retE, agV]
    go_wp2_with fail
    go_ret
    exact ⟨rfl, HBF.out _ _⟩
  | ok tv =>
    rcases HF.out with ⟨v, rfl, hk, hv⟩ | rfl
    · obtain ⟨hv1, hv2⟩ := hv
      obtain ⟨vk, vn⟩ := v
      obtain ⟨tk, tn⟩ := tv
      obtain rfl : vk = tk := hk
      rcases hv1 with rfl | ⟨rfl, rfl | rfl⟩
      all_goals
        simp only [kindR, errR, retE, agV]
        go_wp2_with fail
        go_ret
        exact ⟨rfl, HBF.out _ _⟩
    · simp only [kindR, errR, retE, agV]
      go_wp2_with fail
      go_ret
      exact ⟨rfl, HBF.out _ _⟩
end Go.Proofs.YtldcplgfkcionaaDoor
