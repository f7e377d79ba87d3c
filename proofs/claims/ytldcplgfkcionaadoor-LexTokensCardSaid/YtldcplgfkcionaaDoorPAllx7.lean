-- PRINTED by print.py (a twelfth state) out of the translation. Not trusted: Lean checks it.
import Derived.Test.YtldcplgfkcionaaDoorPAllx0
namespace Go.Proofs.YtldcplgfkcionaaDoor.PAll
open Go.RowKit Go.Proofs.YtldcplgfkcionaaDoorW.PrintWords Go.Proofs.YtldcplgfkcionaaDoorW.PrintLast Go.Proofs.YtldcplgfkcionaaDoorW.PrintMore
attribute [local go_sem] max2_int min2_int max_two min_two max_three min_three max_four min_four   -- for this text's walks alone
set_option linter.unusedVariables false
set_option linter.unusedSimpArgs false

/-! ### spinetref03_Level: function 83 -/
mutual
def spinetref03_Level.j0 : Nat → Int → Bool → Option (Int)
  | 0, _, _ => none
  | k + 1, x0, x9 => if x9 = true then (some 3) else (if x0 = 3 then (spinetref03_Level.j1 k x0 true) else (spinetref03_Level.j1 k x0 (x0 == 4)))
def spinetref03_Level.j1 : Nat → Int → Bool → Option (Int)
  | 0, _, _ => none
  | k + 1, x0, x16 => if x16 = true then (some 4) else (if x0 ≥ 5 then (if x0 ≤ 7 then (some 5) else (some 0)) else (some 0))
end
def spinetref03_Level.f (k : Nat) (a0 : Int) : Option (Int) := if a0 = 13 then (some 1) else (if a0 = 12 then (some 2) else (if a0 ≥ 8 then (spinetref03_Level.j0 k a0 (decide (a0 ≤ 11))) else (spinetref03_Level.j0 k a0 false)))
theorem spinetref03_Level.mono_l : ∀ k, (∀ y0 y1, LeO (spinetref03_Level.j0 k y0 y1) (spinetref03_Level.j0 (k + 1) y0 y1)) ∧ (∀ y0 y1, LeO (spinetref03_Level.j1 k y0 y1) (spinetref03_Level.j1 (k + 1) y0 y1))
  | 0 => ⟨fun _ _ r h => by simp [spinetref03_Level.j0] at h, fun _ _ r h => by simp [spinetref03_Level.j1] at h⟩
  | k + 1 => by
    obtain ⟨ih0, ih1⟩ := spinetref03_Level.mono_l k
    refine ⟨?_, ?_⟩
    · intro y0 y1
      unfold spinetref03_Level.j0
      repeat' first
      | (with_reducible exact ih0 _ _)
      | (with_reducible exact ih1 _ _)
      | (with_reducible exact LeO.refl _)
      | (with_reducible exact LeO.none _)
      | (with_reducible refine LeO.ite ?_ ?_)
      | (with_reducible refine LeO.bind ?_ (fun _ => ?_))
      | exact ih0 _ _
      | exact ih1 _ _
      | exact LeO.none _
      | refine LeO.ite ?_ ?_
      | refine LeO.bind ?_ (fun _ => ?_)
    · intro y0 y1
      unfold spinetref03_Level.j1
      repeat' first
      | (with_reducible exact ih0 _ _)
      | (with_reducible exact ih1 _ _)
      | (with_reducible exact LeO.refl _)
      | (with_reducible exact LeO.none _)
      | (with_reducible refine LeO.ite ?_ ?_)
      | (with_reducible refine LeO.bind ?_ (fun _ => ?_))
      | exact ih0 _ _
      | exact ih1 _ _
      | exact LeO.none _
      | refine LeO.ite ?_ ?_
      | refine LeO.bind ?_ (fun _ => ?_)
theorem spinetref03_Level.mono : ∀ a0 k, LeO (spinetref03_Level.f k a0) (spinetref03_Level.f (k + 1) a0) := by
  intro a0 k
  obtain ⟨ih0, ih1⟩ := spinetref03_Level.mono_l k
  unfold spinetref03_Level.f
  repeat' first
      | (with_reducible exact ih0 _ _)
      | (with_reducible exact ih1 _ _)
      | (with_reducible exact LeO.refl _)
      | (with_reducible exact LeO.none _)
      | (with_reducible refine LeO.ite ?_ ?_)
      | (with_reducible refine LeO.bind ?_ (fun _ => ?_))
      | exact ih0 _ _
      | exact ih1 _ _
      | exact LeO.none _
      | refine LeO.ite ?_ ?_
      | refine LeO.bind ?_ (fun _ => ?_)
set_option maxHeartbeats 8000000 in
set_option maxRecDepth 100000 in
theorem spinetref03_Level.calls (k : Nat) (a0 : Int) (r : Int) (w : World) (h : spinetref03_Level.f k a0 = some r) :
    Calls Tryd.prog 83 #[.int .i64 a0] w fun e w' => e = .returned (.int .i64 r) ∧ Drawn0 w w' := by
  have H : (if a0 = 13 then (some 1) else (if a0 = 12 then (some 2) else (if a0 ≥ 8 then (spinetref03_Level.j0 k a0 (decide (a0 ≤ 11))) else (spinetref03_Level.j0 k a0 false)))) = some r := h
  clear h
  by_cases c2 : a0 = 13
  · rw [if_pos c2] at H
    have c2b0 : (a0 == 13) = true := beq_iff_eq.mpr c2
    have c2b1 : (a0 != 13) = false := bne_eq_false_iff_eq.mpr c2
    clear c2
    obtain rfl := Option.some.inj H
    go_enter Tryd.func83, Tryd.ntmps83
    go_wp2
    go_ret
    exact ⟨by first | rfl | (simp; done) | (simp [*]; done), by repeat (first | exact Drawn0.refl _ | apply Drawn0.step)⟩
  · rw [if_neg c2] at H
    have c2b0 : (a0 == 13) = false := beq_eq_false_iff_ne.mpr c2
    have c2b1 : (a0 != 13) = true := bne_iff_ne.mpr c2
    by_cases c3 : a0 = 12
    · rw [if_pos c3] at H
      have c3b0 : (a0 == 12) = true := beq_iff_eq.mpr c3
      have c3b1 : (a0 != 12) = false := bne_eq_false_iff_eq.mpr c3
      clear c3
      obtain rfl := Option.some.inj H
      go_enter Tryd.func83, Tryd.ntmps83
      go_wp2
      go_ret
      exact ⟨by first | rfl | (simp; done) | (simp [*]; done), by repeat (first | exact Drawn0.refl _ | apply Drawn0.step)⟩
    · rw [if_neg c3] at H
      have c3b0 : (a0 == 12) = false := beq_eq_false_iff_ne.mpr c3
      have c3b1 : (a0 != 12) = true := bne_iff_ne.mpr c3
      have HC4 := Aside0.mk H
      clear H
      go_enter Tryd.func83, Tryd.ntmps83
      go_upto_region 5 with (fail)
      go_cut [9] (fun v9 wc => ∃ (kq : Nat) (x9_3 : Bool), v9 = .bool x9_3 ∧ Aside0 (spinetref03_Level.j0 kq a0 x9_3 = some r) ∧ Aside0 (kq ≤ k) ∧ Drawn0 w wc)
      case first =>
        have H := HC4.out
        clear HC4
        by_cases c5 : a0 ≥ 8
        · rw [if_pos c5] at H
          have c5b0 : decide (8 ≤ a0) = true := decide_eq_true c5
          clear c5
          (first | rw [c5b0] | (simp only [i64_w, i32_w]; rw [c5b0]) | skip)
          have H' := Aside0.mk H
          clear H
          go_wp2
          go_meet
          case rel => exact ⟨_, (decide (a0 ≤ 11)), (by first | rfl | (simp; done) | (simp [*]; done)), H', ⟨by first | omega | exact Nat.le_refl _⟩, by repeat (first | exact Drawn0.refl _ | apply Drawn0.step)⟩
        · rw [if_neg c5] at H
          have c5b0 : decide (8 ≤ a0) = false := decide_eq_false c5
          clear c5
          (first | rw [c5b0] | (simp only [i64_w, i32_w]; rw [c5b0]) | skip)
          have H' := Aside0.mk H
          clear H
          go_wp2
          go_meet
          case rel => exact ⟨_, (false), (by first | rfl | (simp; done) | (simp [*]; done)), H', ⟨by first | omega | exact Nat.le_refl _⟩, by repeat (first | exact Drawn0.refl _ | apply Drawn0.step)⟩
      case rest =>
        clear HC4
        try clear c2
        try clear c2b0
        try clear c2b1
        try clear p2
        try clear c3
        try clear c3b0
        try clear c3b1
        try clear c5
        try clear c5b0
        obtain ⟨kq, x9_3, rfl, HA, HJ3, ⟨mc3, rfl⟩⟩ := hcut
        cases kq with
        | zero => exact absurd HA.out (by simp [spinetref03_Level.j0])
        | succ kj3 =>
          have H := HA.out
          clear HA
          simp only [spinetref03_Level.j0] at H
          by_cases c6 : x9_3 = true
          · subst c6
            have H1 : (some 3) = some r := by rw [if_pos rfl] at H; exact H
            clear H
            have H := H1
            clear H1
            obtain rfl := Option.some.inj H
            go_wp2
            go_ret
            exact ⟨by first | rfl | (simp; done) | (simp [*]; done), by repeat (first | exact Drawn0.refl _ | apply Drawn0.step)⟩
          · replace c6 := Bool.eq_false_iff.mpr c6
            subst c6
            have H1 : (if a0 = 3 then (spinetref03_Level.j1 kj3 a0 true) else (spinetref03_Level.j1 kj3 a0 (a0 == 4))) = some r := by rw [if_neg (show ¬ (false = true) by decide)] at H; exact H
            clear H
            have H := H1
            clear H1
            have HC7 := Aside0.mk H
            clear H
            go_upto_region 7 with (fail)
            go_cut [16] (fun v16 wc => ∃ (kq : Nat) (x16_6 : Bool), v16 = .bool x16_6 ∧ Aside0 (spinetref03_Level.j1 kq a0 x16_6 = some r) ∧ Aside0 (kq ≤ kj3) ∧ Drawn0 w wc)
            case first =>
              have H := HC7.out
              clear HC7
              by_cases c8 : a0 = 3
              · rw [if_pos c8] at H
                have c8b0 : (a0 == 3) = true := beq_iff_eq.mpr c8
                have c8b1 : (a0 != 3) = false := bne_eq_false_iff_eq.mpr c8
                clear c8
                (first | rw [c8b0] | (simp only [i64_w, i32_w]; rw [c8b0]) | skip)
                have H' := Aside0.mk H
                clear H
                go_wp2
                go_meet
                case rel => exact ⟨_, (true), (by first | rfl | (simp; done) | (simp [*]; done)), H', ⟨by have := HJ3.out; first | omega | exact Nat.le_refl _⟩, by repeat (first | exact Drawn0.refl _ | apply Drawn0.step)⟩
              · rw [if_neg c8] at H
                have c8b0 : (a0 == 3) = false := beq_eq_false_iff_ne.mpr c8
                have c8b1 : (a0 != 3) = true := bne_iff_ne.mpr c8
                (first | rw [c8b0] | (simp only [i64_w, i32_w]; rw [c8b0]) | skip)
                have H' := Aside0.mk H
                clear H
                go_wp2
                go_meet
                case rel => exact ⟨_, ((a0 == 4)), (by first | rfl | (simp; done) | (simp [*]; done)), H', ⟨by have := HJ3.out; first | omega | exact Nat.le_refl _⟩, by repeat (first | exact Drawn0.refl _ | apply Drawn0.step)⟩
            case rest =>
              clear HC7
              try clear c2
              try clear c2b0
              try clear c2b1
              try clear p2
              try clear c3
              try clear c3b0
              try clear c3b1
              try clear c5
              try clear c5b0
              try clear c6
              try clear c8
              try clear c8b0
              try clear c8b1
              try clear p2
              obtain ⟨kq, x16_6, rfl, HA, HJ6, ⟨mc6, rfl⟩⟩ := hcut
              cases kq with
              | zero => exact absurd HA.out (by simp [spinetref03_Level.j1])
              | succ kj6 =>
                have H := HA.out
                clear HA
                simp only [spinetref03_Level.j1] at H
                by_cases c9 : x16_6 = true
                · subst c9
                  have H1 : (some 4) = some r := by rw [if_pos rfl] at H; exact H
                  clear H
                  have H := H1
                  clear H1
                  obtain rfl := Option.some.inj H
                  go_wp2
                  go_ret
                  exact ⟨by first | rfl | (simp; done) | (simp [*]; done), by repeat (first | exact Drawn0.refl _ | apply Drawn0.step)⟩
                · replace c9 := Bool.eq_false_iff.mpr c9
                  subst c9
                  have H1 : (if a0 ≥ 5 then (if a0 ≤ 7 then (some 5) else (some 0)) else (some 0)) = some r := by rw [if_neg (show ¬ (false = true) by decide)] at H; exact H
                  clear H
                  have H := H1
                  clear H1
                  by_cases c10 : a0 ≥ 5
                  · rw [if_pos c10] at H
                    have c10b0 : decide (5 ≤ a0) = true := decide_eq_true c10
                    clear c10
                    by_cases c11 : a0 ≤ 7
                    · rw [if_pos c11] at H
                      have c11b0 : decide (a0 ≤ 7) = true := decide_eq_true c11
                      clear c11
                      obtain rfl := Option.some.inj H
                      go_wp2
                      go_ret
                      exact ⟨by first | rfl | (simp; done) | (simp [*]; done), by repeat (first | exact Drawn0.refl _ | apply Drawn0.step)⟩
                    · rw [if_neg c11] at H
                      have c11b0 : decide (a0 ≤ 7) = false := decide_eq_false c11
                      clear c11
                      obtain rfl := Option.some.inj H
                      go_wp2
                      go_ret
                      exact ⟨by first | rfl | (simp; done) | (simp [*]; done), by repeat (first | exact Drawn0.refl _ | apply Drawn0.step)⟩
                  · rw [if_neg c10] at H
                    have c10b0 : decide (5 ≤ a0) = false := decide_eq_false c10
                    clear c10
                    obtain rfl := Option.some.inj H
                    go_wp2
                    go_ret
                    exact ⟨by first | rfl | (simp; done) | (simp [*]; done), by repeat (first | exact Drawn0.refl _ | apply Drawn0.step)⟩

end Go.Proofs.YtldcplgfkcionaaDoor.PAll
