/- Texts of this claim, merged (PAllRef2). -/
import Derived.Test.YtemoonhnncopoaaGreatDoorZActDoes2
section
namespace Go.Proofs.YtemoonhnncopoaaGreatDoor.PAll
open Go.RowKit Go.Proofs.YtemoonhnncopoaaGreatDoorW.PrintWords Go.Proofs.YtemoonhnncopoaaGreatDoorW.PrintLast Go.Proofs.YtemoonhnncopoaaGreatDoorW.PrintMore
attribute [local go_sem] max2_int min2_int max_two min_two max_three min_three max_four min_four   -- for this text's walks alone
set_option linter.unusedVariables false
set_option linter.unusedSimpArgs false
def spinetref02_Word.f (a0 : ByteArray) : Option (Int) := if a0.toList = ([116, 114, 117, 101] : List UInt8) then (some 15) else (if a0.toList = ([102, 97, 108, 115, 101] : List UInt8) then (some 16) else (if a0.toList = ([97, 110, 100] : List UInt8) then (some 12) else (if a0.toList = ([111, 114] : List UInt8) then (some 13) else (if a0.toList = ([110, 111, 116] : List UInt8) then (some 14) else (some 0)))))
set_option maxHeartbeats 8000000 in
set_option maxRecDepth 100000 in
theorem spinetref02_Word.calls (a0 : ByteArray) (r : Int) (w : World) (h : spinetref02_Word.f a0 = some r) :
    Calls Tryz.prog 116 #[.string a0] w fun e w' => e = .returned (.int .i64 r) ∧ Drawn0 w w' := by
  have H : (if a0.toList = ([116, 114, 117, 101] : List UInt8) then (some 15) else (if a0.toList = ([102, 97, 108, 115, 101] : List UInt8) then (some 16) else (if a0.toList = ([97, 110, 100] : List UInt8) then (some 12) else (if a0.toList = ([111, 114] : List UInt8) then (some 13) else (if a0.toList = ([110, 111, 116] : List UInt8) then (some 14) else (some 0)))))) = some r := h
  clear h
  by_cases c2 : a0.toList = ([116, 114, 117, 101] : List UInt8)
  · rw [if_pos c2] at H
    have c2b0 : (a0.toList == ([116, 114, 117, 101] : List UInt8)) = true := beq_iff_eq.mpr c2
    have c2b1 : (a0.toList != ([116, 114, 117, 101] : List UInt8)) = false := bne_eq_false_iff_eq.mpr c2
    clear c2
    obtain rfl := Option.some.inj H
    go_enter Tryz.func116, Tryz.ntmps116
    go_wp2
    go_ret
    exact ⟨by first | rfl | (simp; done) | (simp [*]; done), by repeat (first | exact Drawn0.refl _ | apply Drawn0.step)⟩
  · rw [if_neg c2] at H
    have c2b0 : (a0.toList == ([116, 114, 117, 101] : List UInt8)) = false := beq_eq_false_iff_ne.mpr c2
    have c2b1 : (a0.toList != ([116, 114, 117, 101] : List UInt8)) = true := bne_iff_ne.mpr c2
    by_cases c3 : a0.toList = ([102, 97, 108, 115, 101] : List UInt8)
    · rw [if_pos c3] at H
      have c3b0 : (a0.toList == ([102, 97, 108, 115, 101] : List UInt8)) = true := beq_iff_eq.mpr c3
      have c3b1 : (a0.toList != ([102, 97, 108, 115, 101] : List UInt8)) = false := bne_eq_false_iff_eq.mpr c3
      clear c3
      obtain rfl := Option.some.inj H
      go_enter Tryz.func116, Tryz.ntmps116
      go_wp2
      go_ret
      exact ⟨by first | rfl | (simp; done) | (simp [*]; done), by repeat (first | exact Drawn0.refl _ | apply Drawn0.step)⟩
    · rw [if_neg c3] at H
      have c3b0 : (a0.toList == ([102, 97, 108, 115, 101] : List UInt8)) = false := beq_eq_false_iff_ne.mpr c3
      have c3b1 : (a0.toList != ([102, 97, 108, 115, 101] : List UInt8)) = true := bne_iff_ne.mpr c3
      by_cases c4 : a0.toList = ([97, 110, 100] : List UInt8)
      · rw [if_pos c4] at H
        have c4b0 : (a0.toList == ([97, 110, 100] : List UInt8)) = true := beq_iff_eq.mpr c4
        have c4b1 : (a0.toList != ([97, 110, 100] : List UInt8)) = false := bne_eq_false_iff_eq.mpr c4
        clear c4
        obtain rfl := Option.some.inj H
        go_enter Tryz.func116, Tryz.ntmps116
        go_wp2
        go_ret
        exact ⟨by first | rfl | (simp; done) | (simp [*]; done), by repeat (first | exact Drawn0.refl _ | apply Drawn0.step)⟩
      · rw [if_neg c4] at H
        have c4b0 : (a0.toList == ([97, 110, 100] : List UInt8)) = false := beq_eq_false_iff_ne.mpr c4
        have c4b1 : (a0.toList != ([97, 110, 100] : List UInt8)) = true := bne_iff_ne.mpr c4
        by_cases c5 : a0.toList = ([111, 114] : List UInt8)
        · rw [if_pos c5] at H
          have c5b0 : (a0.toList == ([111, 114] : List UInt8)) = true := beq_iff_eq.mpr c5
          have c5b1 : (a0.toList != ([111, 114] : List UInt8)) = false := bne_eq_false_iff_eq.mpr c5
          clear c5
          obtain rfl := Option.some.inj H
          go_enter Tryz.func116, Tryz.ntmps116
          go_wp2
          go_ret
          exact ⟨by first | rfl | (simp; done) | (simp [*]; done), by repeat (first | exact Drawn0.refl _ | apply Drawn0.step)⟩
        · rw [if_neg c5] at H
          have c5b0 : (a0.toList == ([111, 114] : List UInt8)) = false := beq_eq_false_iff_ne.mpr c5
          have c5b1 : (a0.toList != ([111, 114] : List UInt8)) = true := bne_iff_ne.mpr c5
          by_cases c6 : a0.toList = ([110, 111, 116] : List UInt8)
          · rw [if_pos c6] at H
            have c6b0 : (a0.toList == ([110, 111, 116] : List UInt8)) = true := beq_iff_eq.mpr c6
            have c6b1 : (a0.toList != ([110, 111, 116] : List UInt8)) = false := bne_eq_false_iff_eq.mpr c6
            clear c6
            obtain rfl := Option.some.inj H
            go_enter Tryz.func116, Tryz.ntmps116
            go_wp2
            go_ret
            exact ⟨by first | rfl | (simp; done) | (simp [*]; done), by repeat (first | exact Drawn0.refl _ | apply Drawn0.step)⟩
          · rw [if_neg c6] at H
            have c6b0 : (a0.toList == ([110, 111, 116] : List UInt8)) = false := beq_eq_false_iff_ne.mpr c6
            have c6b1 : (a0.toList != ([110, 111, 116] : List UInt8)) = true := bne_iff_ne.mpr c6
            obtain rfl := Option.some.inj H
            go_enter Tryz.func116, Tryz.ntmps116
            go_wp2
            go_ret
            exact ⟨by first | rfl | (simp; done) | (simp [*]; done), by repeat (first | exact Drawn0.refl _ | apply Drawn0.step)⟩
mutual
def spinetref02_sign.j0 : Nat → ByteArray → Bool → Option (Int × Int)
  | 0, _, _ => none
  | k + 1, x0, x11 => if x11 = true then (if 0 < (x0.size : Int) then (if (bt x0 0) = 60 then (some (9, 2)) else (if (bt x0 0) = 61 then (some (10, 2)) else (if (bt x0 0) = 33 then (some (11, 2)) else (spinetref02_sign.j1 k x0)))) else (none)) else (spinetref02_sign.j1 k x0)
def spinetref02_sign.j1 : Nat → ByteArray → Option (Int × Int)
  | 0, _ => none
  | k + 1, x0 => if 0 < (x0.size : Int) then (if (bt x0 0) = 43 then (some (3, 1)) else (if (bt x0 0) = 45 then (some (4, 1)) else (if (bt x0 0) = 42 then (some (5, 1)) else (if (bt x0 0) = 47 then (some (6, 1)) else (if (bt x0 0) = 37 then (some (7, 1)) else (if (bt x0 0) = 60 then (some (8, 1)) else (if (bt x0 0) = 40 then (some (17, 1)) else (if (bt x0 0) = 41 then (some (18, 1)) else (some (0, 0)))))))))) else (none)
end
def spinetref02_sign.f (k : Nat) (a0 : ByteArray) : Option (Int × Int) := if (a0.size : Int) > 1 then (if 1 < (a0.size : Int) then (spinetref02_sign.j0 k a0 ((bt a0 1) == 61)) else (none)) else (spinetref02_sign.j0 k a0 false)
set_option maxHeartbeats 8000000 in
set_option maxRecDepth 100000 in
theorem spinetref02_sign.calls (k : Nat) (a0 : ByteArray) (r1 : Int) (r2 : Int) (w : World) (h : spinetref02_sign.f k a0 = some (r1, r2)) :
    Calls Tryz.prog 117 #[.string a0] w fun e w' => e = .returned (.tuple #[.int .i64 r1, .int .i64 r2]) ∧ Drawn0 w w' := by
  have H : (if (a0.size : Int) > 1 then (if 1 < (a0.size : Int) then (spinetref02_sign.j0 k a0 ((bt a0 1) == 61)) else (none)) else (spinetref02_sign.j0 k a0 false)) = some (r1, r2) := h
  clear h
  have HC2 := Aside0.mk H
  clear H
  go_enter Tryz.func117, Tryz.ntmps117
  go_upto_region 1 with (fail)
  go_cut [11] (fun v11 wc => ∃ (kq : Nat) (x11_1 : Bool), v11 = .bool x11_1 ∧ Aside0 (spinetref02_sign.j0 kq a0 x11_1 = some (r1, r2)) ∧ Aside0 (kq ≤ k) ∧ Drawn0 w wc)
  case first =>
    have H := HC2.out
    clear HC2
    by_cases c3 : (a0.size : Int) > 1
    · rw [if_pos c3] at H
      have c3b0 : decide (1 < (a0.size : Int)) = true := decide_eq_true c3
      have c3b1 : decide (1 < a0.size) = true := decide_eq_true (by omega)
      clear c3
      (first | rw [c3b0] | (simp only [i64_w, i32_w]; rw [c3b0]) | skip)
      by_cases c4 : 1 < (a0.size : Int)
      · rw [if_pos c4] at H
        have c4b0 : decide (1 < (a0.size : Int)) = true := decide_eq_true c4
        have c4b1 : decide (1 < a0.size) = true := decide_eq_true (by omega)
        clear c4
        have H' := Aside0.mk H
        clear H
        have p5 : 0 ≤ (1 : Int) := (by omega)
        have q5 : 1 < a0.size := (by have : (1 : Int) < (a0.size : Int) := of_decide_eq_true (by first | (with_reducible assumption) | assumption); omega)
        have hx5 : ∀ h : 1 < a0.size, ((a0[1]'h).toNat : Int) = bt a0 1 := bt_at a0 1
        clear p5
        have qi5 : (1 < (a0.size : Int)) = True := eq_true (of_decide_eq_true (by first | (with_reducible assumption) | assumption))
        replace q5 := eq_true q5
        go_wp2
        go_meet
        case rel => exact ⟨_, (((bt a0 1) == 61)), (by first | rfl | (simp; done) | (simp [*]; done)), H', ⟨by first | omega | exact Nat.le_refl _⟩, by repeat (first | exact Drawn0.refl _ | apply Drawn0.step)⟩
      · rw [if_neg c4] at H
        exact absurd H (by simp)
    · rw [if_neg c3] at H
      have c3b0 : decide (1 < (a0.size : Int)) = false := decide_eq_false c3
      have c3b1 : decide (1 < a0.size) = false := decide_eq_false (by omega)
      clear c3
      (first | rw [c3b0] | (simp only [i64_w, i32_w]; rw [c3b0]) | skip)
      have H' := Aside0.mk H
      clear H
      go_wp2
      go_meet
      case rel => exact ⟨_, (false), (by first | rfl | (simp; done) | (simp [*]; done)), H', ⟨by first | omega | exact Nat.le_refl _⟩, by repeat (first | exact Drawn0.refl _ | apply Drawn0.step)⟩
  case rest =>
    clear HC2
    try clear c1
    try clear p2
    try clear c3
    try clear c3b0
    try clear c3b1
    try clear c4
    try clear c4b0
    try clear c4b1
    try clear p5
    try clear q5
    try clear hx5
    try clear qi5
    try clear p5
    try clear q5
    obtain ⟨kq, x11_1, rfl, HA, HJ1, ⟨mc1, rfl⟩⟩ := hcut
    cases kq with
    | zero => exact absurd HA.out (by simp [spinetref02_sign.j0])
    | succ kj1 =>
      have H := HA.out
      clear HA
      simp only [spinetref02_sign.j0] at H
      have HC6 := Aside0.mk H
      clear H
      go_upto_if 11 with (fail)
      go_cut [] (fun wc => ∃ (kq : Nat), Aside0 (spinetref02_sign.j1 kq a0 = some (r1, r2)) ∧ Aside0 (kq ≤ kj1) ∧ Drawn0 w wc)
      case first =>
        have H := HC6.out
        clear HC6
        by_cases c7 : x11_1 = true
        · subst c7
          have H1 : (if 0 < (a0.size : Int) then (if (bt a0 0) = 60 then (some (9, 2)) else (if (bt a0 0) = 61 then (some (10, 2)) else (if (bt a0 0) = 33 then (some (11, 2)) else (spinetref02_sign.j1 kj1 a0)))) else (none)) = some (r1, r2) := by rw [if_pos rfl] at H; exact H
          clear H
          have H := H1
          clear H1
          by_cases c8 : 0 < (a0.size : Int)
          · rw [if_pos c8] at H
            have c8b0 : decide (0 < (a0.size : Int)) = true := decide_eq_true c8
            have c8b1 : decide (0 < a0.size) = true := decide_eq_true (by omega)
            clear c8
            (first | rw [c8b0] | (simp only [i64_w, i32_w]; rw [c8b0]) | skip)
            by_cases c10 : (bt a0 0) = 60
            · rw [if_pos c10] at H
              have c10b0 : ((bt a0 0) == 60) = true := beq_iff_eq.mpr c10
              have c10b1 : ((bt a0 0) != 60) = false := bne_eq_false_iff_eq.mpr c10
              clear c10
              simp only [Option.some.injEq, Prod.mk.injEq] at H
              obtain ⟨rfl, rfl⟩ := H
              have p9 : 0 ≤ (0 : Int) := (by omega)
              have q9 : 0 < a0.size := (by have : (0 : Int) < (a0.size : Int) := of_decide_eq_true (by first | (with_reducible assumption) | assumption); omega)
              have hx9 : ∀ h : 0 < a0.size, ((a0[0]'h).toNat : Int) = bt a0 0 := bt_at a0 0
              clear p9
              have qi9 : (0 < (a0.size : Int)) = True := eq_true (of_decide_eq_true (by first | (with_reducible assumption) | assumption))
              replace q9 := eq_true q9
              go_wp2
              go_ret2
              exact ⟨by first | rfl | (simp; done) | (simp [*]; done), by repeat (first | exact Drawn0.refl _ | apply Drawn0.step)⟩
            · rw [if_neg c10] at H
              have c10b0 : ((bt a0 0) == 60) = false := beq_eq_false_iff_ne.mpr c10
              have c10b1 : ((bt a0 0) != 60) = true := bne_iff_ne.mpr c10
              by_cases c11 : (bt a0 0) = 61
              · rw [if_pos c11] at H
                have c11b0 : ((bt a0 0) == 61) = true := beq_iff_eq.mpr c11
                have c11b1 : ((bt a0 0) != 61) = false := bne_eq_false_iff_eq.mpr c11
                clear c11
                simp only [Option.some.injEq, Prod.mk.injEq] at H
                obtain ⟨rfl, rfl⟩ := H
                have p9 : 0 ≤ (0 : Int) := (by omega)
                have q9 : 0 < a0.size := (by have : (0 : Int) < (a0.size : Int) := of_decide_eq_true (by first | (with_reducible assumption) | assumption); omega)
                have hx9 : ∀ h : 0 < a0.size, ((a0[0]'h).toNat : Int) = bt a0 0 := bt_at a0 0
                clear p9
                have qi9 : (0 < (a0.size : Int)) = True := eq_true (of_decide_eq_true (by first | (with_reducible assumption) | assumption))
                replace q9 := eq_true q9
                go_wp2
                go_ret2
                exact ⟨by first | rfl | (simp; done) | (simp [*]; done), by repeat (first | exact Drawn0.refl _ | apply Drawn0.step)⟩
              · rw [if_neg c11] at H
                have c11b0 : ((bt a0 0) == 61) = false := beq_eq_false_iff_ne.mpr c11
                have c11b1 : ((bt a0 0) != 61) = true := bne_iff_ne.mpr c11
                by_cases c12 : (bt a0 0) = 33
                · rw [if_pos c12] at H
                  have c12b0 : ((bt a0 0) == 33) = true := beq_iff_eq.mpr c12
                  have c12b1 : ((bt a0 0) != 33) = false := bne_eq_false_iff_eq.mpr c12
                  clear c12
                  simp only [Option.some.injEq, Prod.mk.injEq] at H
                  obtain ⟨rfl, rfl⟩ := H
                  have p9 : 0 ≤ (0 : Int) := (by omega)
                  have q9 : 0 < a0.size := (by have : (0 : Int) < (a0.size : Int) := of_decide_eq_true (by first | (with_reducible assumption) | assumption); omega)
                  have hx9 : ∀ h : 0 < a0.size, ((a0[0]'h).toNat : Int) = bt a0 0 := bt_at a0 0
                  clear p9
                  have qi9 : (0 < (a0.size : Int)) = True := eq_true (of_decide_eq_true (by first | (with_reducible assumption) | assumption))
                  replace q9 := eq_true q9
                  go_wp2
                  go_ret2
                  exact ⟨by first | rfl | (simp; done) | (simp [*]; done), by repeat (first | exact Drawn0.refl _ | apply Drawn0.step)⟩
                · rw [if_neg c12] at H
                  have c12b0 : ((bt a0 0) == 33) = false := beq_eq_false_iff_ne.mpr c12
                  have c12b1 : ((bt a0 0) != 33) = true := bne_iff_ne.mpr c12
                  have H' := Aside0.mk H
                  clear H
                  have p9 : 0 ≤ (0 : Int) := (by omega)
                  have q9 : 0 < a0.size := (by have : (0 : Int) < (a0.size : Int) := of_decide_eq_true (by first | (with_reducible assumption) | assumption); omega)
                  have hx9 : ∀ h : 0 < a0.size, ((a0[0]'h).toNat : Int) = bt a0 0 := bt_at a0 0
                  clear p9
                  have qi9 : (0 < (a0.size : Int)) = True := eq_true (of_decide_eq_true (by first | (with_reducible assumption) | assumption))
                  replace q9 := eq_true q9
                  go_wp2
                  go_meet
                  case rel => exact ⟨_, H', ⟨by have := HJ1.out; first | omega | exact Nat.le_refl _⟩, by repeat (first | exact Drawn0.refl _ | apply Drawn0.step)⟩
          · rw [if_neg c8] at H
            exact absurd H (by simp)
        · replace c7 := Bool.eq_false_iff.mpr c7
          subst c7
          have H1 : (spinetref02_sign.j1 kj1 a0) = some (r1, r2) := by rw [if_neg (show ¬ (false = true) by decide)] at H; exact H
          clear H
          have H := H1
          clear H1
          have H' := Aside0.mk H
          clear H
          go_wp2
          go_meet
          case rel => exact ⟨_, H', ⟨by have := HJ1.out; first | omega | exact Nat.le_refl _⟩, by repeat (first | exact Drawn0.refl _ | apply Drawn0.step)⟩
      case rest =>
        clear HC6
        try clear c1
        try clear p2
        try clear c3
        try clear c3b0
        try clear c3b1
        try clear c4
        try clear c4b0
        try clear c4b1
        try clear p5
        try clear q5
        try clear hx5
        try clear qi5
        try clear c7
        try clear c8
        try clear c8b0
        try clear c8b1
        try clear p9
        try clear q9
        try clear hx9
        try clear qi9
        try clear c10
        try clear c10b0
        try clear c10b1
        try clear c11
        try clear c11b0
        try clear c11b1
        try clear c12
        try clear c12b0
        try clear c12b1
        try clear p2
        try clear p5
        try clear p9
        try clear q5
        try clear q9
        obtain ⟨kq, HA, HJ5, ⟨mc5, rfl⟩⟩ := hcut
        cases kq with
        | zero => exact absurd HA.out (by simp [spinetref02_sign.j1])
        | succ kj5 =>
          have H := HA.out
          clear HA
          simp only [spinetref02_sign.j1] at H
          by_cases c13 : 0 < (a0.size : Int)
          · rw [if_pos c13] at H
            have c13b0 : decide (0 < (a0.size : Int)) = true := decide_eq_true c13
            have c13b1 : decide (0 < a0.size) = true := decide_eq_true (by omega)
            clear c13
            by_cases c15 : (bt a0 0) = 43
            · rw [if_pos c15] at H
              have c15b0 : ((bt a0 0) == 43) = true := beq_iff_eq.mpr c15
              have c15b1 : ((bt a0 0) != 43) = false := bne_eq_false_iff_eq.mpr c15
              clear c15
              simp only [Option.some.injEq, Prod.mk.injEq] at H
              obtain ⟨rfl, rfl⟩ := H
              have p14 : 0 ≤ (0 : Int) := (by omega)
              have q14 : 0 < a0.size := (by have : (0 : Int) < (a0.size : Int) := of_decide_eq_true (by first | (with_reducible assumption) | assumption); omega)
              have hx14 : ∀ h : 0 < a0.size, ((a0[0]'h).toNat : Int) = bt a0 0 := bt_at a0 0
              clear p14
              have qi14 : (0 < (a0.size : Int)) = True := eq_true (of_decide_eq_true (by first | (with_reducible assumption) | assumption))
              replace q14 := eq_true q14
              go_wp2
              go_ret2
              exact ⟨by first | rfl | (simp; done) | (simp [*]; done), by repeat (first | exact Drawn0.refl _ | apply Drawn0.step)⟩
            · rw [if_neg c15] at H
              have c15b0 : ((bt a0 0) == 43) = false := beq_eq_false_iff_ne.mpr c15
              have c15b1 : ((bt a0 0) != 43) = true := bne_iff_ne.mpr c15
              by_cases c16 : (bt a0 0) = 45
              · rw [if_pos c16] at H
                have c16b0 : ((bt a0 0) == 45) = true := beq_iff_eq.mpr c16
                have c16b1 : ((bt a0 0) != 45) = false := bne_eq_false_iff_eq.mpr c16
                clear c16
                simp only [Option.some.injEq, Prod.mk.injEq] at H
                obtain ⟨rfl, rfl⟩ := H
                have p14 : 0 ≤ (0 : Int) := (by omega)
                have q14 : 0 < a0.size := (by have : (0 : Int) < (a0.size : Int) := of_decide_eq_true (by first | (with_reducible assumption) | assumption); omega)
                have hx14 : ∀ h : 0 < a0.size, ((a0[0]'h).toNat : Int) = bt a0 0 := bt_at a0 0
                clear p14
                have qi14 : (0 < (a0.size : Int)) = True := eq_true (of_decide_eq_true (by first | (with_reducible assumption) | assumption))
                replace q14 := eq_true q14
                go_wp2
                go_ret2
                exact ⟨by first | rfl | (simp; done) | (simp [*]; done), by repeat (first | exact Drawn0.refl _ | apply Drawn0.step)⟩
              · rw [if_neg c16] at H
                have c16b0 : ((bt a0 0) == 45) = false := beq_eq_false_iff_ne.mpr c16
                have c16b1 : ((bt a0 0) != 45) = true := bne_iff_ne.mpr c16
                by_cases c17 : (bt a0 0) = 42
                · rw [if_pos c17] at H
                  have c17b0 : ((bt a0 0) == 42) = true := beq_iff_eq.mpr c17
                  have c17b1 : ((bt a0 0) != 42) = false := bne_eq_false_iff_eq.mpr c17
                  clear c17
                  simp only [Option.some.injEq, Prod.mk.injEq] at H
                  obtain ⟨rfl, rfl⟩ := H
                  have p14 : 0 ≤ (0 : Int) := (by omega)
                  have q14 : 0 < a0.size := (by have : (0 : Int) < (a0.size : Int) := of_decide_eq_true (by first | (with_reducible assumption) | assumption); omega)
                  have hx14 : ∀ h : 0 < a0.size, ((a0[0]'h).toNat : Int) = bt a0 0 := bt_at a0 0
                  clear p14
                  have qi14 : (0 < (a0.size : Int)) = True := eq_true (of_decide_eq_true (by first | (with_reducible assumption) | assumption))
                  replace q14 := eq_true q14
                  go_wp2
                  go_ret2
                  exact ⟨by first | rfl | (simp; done) | (simp [*]; done), by repeat (first | exact Drawn0.refl _ | apply Drawn0.step)⟩
                · rw [if_neg c17] at H
                  have c17b0 : ((bt a0 0) == 42) = false := beq_eq_false_iff_ne.mpr c17
                  have c17b1 : ((bt a0 0) != 42) = true := bne_iff_ne.mpr c17
                  by_cases c18 : (bt a0 0) = 47
                  · rw [if_pos c18] at H
                    have c18b0 : ((bt a0 0) == 47) = true := beq_iff_eq.mpr c18
                    have c18b1 : ((bt a0 0) != 47) = false := bne_eq_false_iff_eq.mpr c18
                    clear c18
                    simp only [Option.some.injEq, Prod.mk.injEq] at H
                    obtain ⟨rfl, rfl⟩ := H
                    have p14 : 0 ≤ (0 : Int) := (by omega)
                    have q14 : 0 < a0.size := (by have : (0 : Int) < (a0.size : Int) := of_decide_eq_true (by first | (with_reducible assumption) | assumption); omega)
                    have hx14 : ∀ h : 0 < a0.size, ((a0[0]'h).toNat : Int) = bt a0 0 := bt_at a0 0
                    clear p14
                    have qi14 : (0 < (a0.size : Int)) = True := eq_true (of_decide_eq_true (by first | (with_reducible assumption) | assumption))
                    replace q14 := eq_true q14
                    go_wp2
                    go_ret2
                    exact ⟨by first | rfl | (simp; done) | (simp [*]; done), by repeat (first | exact Drawn0.refl _ | apply Drawn0.step)⟩
                  · rw [if_neg c18] at H
                    have c18b0 : ((bt a0 0) == 47) = false := beq_eq_false_iff_ne.mpr c18
                    have c18b1 : ((bt a0 0) != 47) = true := bne_iff_ne.mpr c18
                    by_cases c19 : (bt a0 0) = 37
                    · rw [if_pos c19] at H
                      have c19b0 : ((bt a0 0) == 37) = true := beq_iff_eq.mpr c19
                      have c19b1 : ((bt a0 0) != 37) = false := bne_eq_false_iff_eq.mpr c19
                      clear c19
                      simp only [Option.some.injEq, Prod.mk.injEq] at H
                      obtain ⟨rfl, rfl⟩ := H
                      have p14 : 0 ≤ (0 : Int) := (by omega)
                      have q14 : 0 < a0.size := (by have : (0 : Int) < (a0.size : Int) := of_decide_eq_true (by first | (with_reducible assumption) | assumption); omega)
                      have hx14 : ∀ h : 0 < a0.size, ((a0[0]'h).toNat : Int) = bt a0 0 := bt_at a0 0
                      clear p14
                      have qi14 : (0 < (a0.size : Int)) = True := eq_true (of_decide_eq_true (by first | (with_reducible assumption) | assumption))
                      replace q14 := eq_true q14
                      go_wp2
                      go_ret2
                      exact ⟨by first | rfl | (simp; done) | (simp [*]; done), by repeat (first | exact Drawn0.refl _ | apply Drawn0.step)⟩
                    · rw [if_neg c19] at H
                      have c19b0 : ((bt a0 0) == 37) = false := beq_eq_false_iff_ne.mpr c19
                      have c19b1 : ((bt a0 0) != 37) = true := bne_iff_ne.mpr c19
                      by_cases c20 : (bt a0 0) = 60
                      · rw [if_pos c20] at H
                        have c20b0 : ((bt a0 0) == 60) = true := beq_iff_eq.mpr c20
                        have c20b1 : ((bt a0 0) != 60) = false := bne_eq_false_iff_eq.mpr c20
                        clear c20
                        simp only [Option.some.injEq, Prod.mk.injEq] at H
                        obtain ⟨rfl, rfl⟩ := H
                        have p14 : 0 ≤ (0 : Int) := (by omega)
                        have q14 : 0 < a0.size := (by have : (0 : Int) < (a0.size : Int) := of_decide_eq_true (by first | (with_reducible assumption) | assumption); omega)
                        have hx14 : ∀ h : 0 < a0.size, ((a0[0]'h).toNat : Int) = bt a0 0 := bt_at a0 0
                        clear p14
                        have qi14 : (0 < (a0.size : Int)) = True := eq_true (of_decide_eq_true (by first | (with_reducible assumption) | assumption))
                        replace q14 := eq_true q14
                        go_wp2
                        go_ret2
                        exact ⟨by first | rfl | (simp; done) | (simp [*]; done), by repeat (first | exact Drawn0.refl _ | apply Drawn0.step)⟩
                      · rw [if_neg c20] at H
                        have c20b0 : ((bt a0 0) == 60) = false := beq_eq_false_iff_ne.mpr c20
                        have c20b1 : ((bt a0 0) != 60) = true := bne_iff_ne.mpr c20
                        by_cases c21 : (bt a0 0) = 40
                        · rw [if_pos c21] at H
                          have c21b0 : ((bt a0 0) == 40) = true := beq_iff_eq.mpr c21
                          have c21b1 : ((bt a0 0) != 40) = false := bne_eq_false_iff_eq.mpr c21
                          clear c21
                          simp only [Option.some.injEq, Prod.mk.injEq] at H
                          obtain ⟨rfl, rfl⟩ := H
                          have p14 : 0 ≤ (0 : Int) := (by omega)
                          have q14 : 0 < a0.size := (by have : (0 : Int) < (a0.size : Int) := of_decide_eq_true (by first | (with_reducible assumption) | assumption); omega)
                          have hx14 : ∀ h : 0 < a0.size, ((a0[0]'h).toNat : Int) = bt a0 0 := bt_at a0 0
                          clear p14
                          have qi14 : (0 < (a0.size : Int)) = True := eq_true (of_decide_eq_true (by first | (with_reducible assumption) | assumption))
                          replace q14 := eq_true q14
                          go_wp2
                          go_ret2
                          exact ⟨by first | rfl | (simp; done) | (simp [*]; done), by repeat (first | exact Drawn0.refl _ | apply Drawn0.step)⟩
                        · rw [if_neg c21] at H
                          have c21b0 : ((bt a0 0) == 40) = false := beq_eq_false_iff_ne.mpr c21
                          have c21b1 : ((bt a0 0) != 40) = true := bne_iff_ne.mpr c21
                          by_cases c22 : (bt a0 0) = 41
                          · rw [if_pos c22] at H
                            have c22b0 : ((bt a0 0) == 41) = true := beq_iff_eq.mpr c22
                            have c22b1 : ((bt a0 0) != 41) = false := bne_eq_false_iff_eq.mpr c22
                            clear c22
                            simp only [Option.some.injEq, Prod.mk.injEq] at H
                            obtain ⟨rfl, rfl⟩ := H
                            have p14 : 0 ≤ (0 : Int) := (by omega)
                            have q14 : 0 < a0.size := (by have : (0 : Int) < (a0.size : Int) := of_decide_eq_true (by first | (with_reducible assumption) | assumption); omega)
                            have hx14 : ∀ h : 0 < a0.size, ((a0[0]'h).toNat : Int) = bt a0 0 := bt_at a0 0
                            clear p14
                            have qi14 : (0 < (a0.size : Int)) = True := eq_true (of_decide_eq_true (by first | (with_reducible assumption) | assumption))
                            replace q14 := eq_true q14
                            go_wp2
                            go_ret2
                            exact ⟨by first | rfl | (simp; done) | (simp [*]; done), by repeat (first | exact Drawn0.refl _ | apply Drawn0.step)⟩
                          · rw [if_neg c22] at H
                            have c22b0 : ((bt a0 0) == 41) = false := beq_eq_false_iff_ne.mpr c22
                            have c22b1 : ((bt a0 0) != 41) = true := bne_iff_ne.mpr c22
                            simp only [Option.some.injEq, Prod.mk.injEq] at H
                            obtain ⟨rfl, rfl⟩ := H
                            have p14 : 0 ≤ (0 : Int) := (by omega)
                            have q14 : 0 < a0.size := (by have : (0 : Int) < (a0.size : Int) := of_decide_eq_true (by first | (with_reducible assumption) | assumption); omega)
                            have hx14 : ∀ h : 0 < a0.size, ((a0[0]'h).toNat : Int) = bt a0 0 := bt_at a0 0
                            clear p14
                            have qi14 : (0 < (a0.size : Int)) = True := eq_true (of_decide_eq_true (by first | (with_reducible assumption) | assumption))
                            replace q14 := eq_true q14
                            go_wp2
                            go_ret2
                            exact ⟨by first | rfl | (simp; done) | (simp [*]; done), by repeat (first | exact Drawn0.refl _ | apply Drawn0.step)⟩
          · rw [if_neg c13] at H
            exact absurd H (by simp)
mutual
def spinetref02_Tokens.l0 : Nat → ByteArray → List (S91) → Int → Option ((List (S91)) × Int)
  | 0, _, _, _ => none
  | k + 1, x0, x4, x5 => if x5 < (x0.size : Int) then (if 0 ≤ x5 then (if (bt x0 x5) = 32 then (spinetref02_Tokens.l0 k x0 x4 (wrap64 (x5 + 1))) else (if (bt x0 x5) ≥ 48 then (spinetref02_Tokens.j1 k x0 x4 x5 (bt x0 x5) x5 (decide ((bt x0 x5) ≤ 57))) else (spinetref02_Tokens.j1 k x0 x4 x5 (bt x0 x5) x5 false))) else (none)) else (some (x4, (-1)))
def spinetref02_Tokens.j1 : Nat → ByteArray → List (S91) → Int → Int → Int → Bool → Option ((List (S91)) × Int)
  | 0, _, _, _, _, _, _ => none
  | k + 1, x0, x4, x5, x6, x7, x31 => if x31 = true then (spinetref02_Tokens.l1 k x0 x4 x5 x7 0 false) else (if x6 ≥ 97 then (spinetref02_Tokens.j4 k x0 x4 x5 x6 x7 (decide (x6 ≤ 122))) else (spinetref02_Tokens.j4 k x0 x4 x5 x6 x7 false))
def spinetref02_Tokens.l1 : Nat → ByteArray → List (S91) → Int → Int → Int → Bool → Option ((List (S91)) × Int)
  | 0, _, _, _, _, _, _ => none
  | k + 1, x0, x4, x5, x7, x8, x9 => if x7 < (x0.size : Int) then (if 0 ≤ x7 then (if (bt x0 x7) ≥ 48 then (spinetref02_Tokens.j3 k x0 x4 x5 x7 x8 x9 (decide ((bt x0 x7) ≤ 57))) else (spinetref02_Tokens.j3 k x0 x4 x5 x7 x8 x9 false)) else (none)) else (spinetref02_Tokens.j3 k x0 x4 x5 x7 x8 x9 false)
def spinetref02_Tokens.j3 : Nat → ByteArray → List (S91) → Int → Int → Int → Bool → Bool → Option ((List (S91)) × Int)
  | 0, _, _, _, _, _, _, _ => none
  | k + 1, x0, x4, x5, x7, x8, x9, x47 => if x47 = true then (if 0 ≤ x7 then (if x7 < (x0.size : Int) then (if x8 > (IntKind.u64.wrap (Int.tdiv (IntKind.u64.wrap (9223372036854775807 - (IntKind.u64.wrap ((IntKind.u64.wrap (bt x0 x7)) - 48)))) 10)) then (spinetref02_Tokens.l1 k x0 x4 x5 (wrap64 (x7 + 1)) x8 true) else (if x9 = true then (spinetref02_Tokens.l1 k x0 x4 x5 (wrap64 (x7 + 1)) x8 x9) else (spinetref02_Tokens.l1 k x0 x4 x5 (wrap64 (x7 + 1)) (IntKind.u64.wrap ((IntKind.u64.wrap (10 * x8)) + (IntKind.u64.wrap ((IntKind.u64.wrap (bt x0 x7)) - 48)))) x9))) else (none)) else (none)) else (if x9 = true then (some (([] : List (S91)), x5)) else (if x4.length < 5864062014805 then (spinetref02_Tokens.l0 k x0 (x4 ++ [(⟨1, wrap64 (x8), x5⟩ : S91)]) x7) else (none)))
def spinetref02_Tokens.j4 : Nat → ByteArray → List (S91) → Int → Int → Int → Bool → Option ((List (S91)) × Int)
  | 0, _, _, _, _, _, _ => none
  | k + 1, x0, x4, x5, x6, x7, x81 => if x81 = true then (spinetref02_Tokens.l2 k x0 x4 x5 x6 x7) else (if 0 ≤ x5 then (if x5 ≤ (x0.size : Int) then ((spinetref02_sign.f k (x0.extract (x5 : Int).toNat x0.size)).bind fun bt199 => (if bt199.2 = 0 then (some (([] : List (S91)), x5)) else (if x4.length < 5864062014805 then (spinetref02_Tokens.l0 k x0 (x4 ++ [(⟨bt199.1, 0, x5⟩ : S91)]) (wrap64 (x5 + bt199.2))) else (none)))) else (none)) else (none))
def spinetref02_Tokens.j6 : Nat → ByteArray → List (S91) → Int → Int → Int → Option ((List (S91)) × Int)
  | 0, _, _, _, _, _ => none
  | k + 1, x0, x4, x5, x6, x7 => if 0 ≤ x5 then (if x5 ≤ x7 then (if x7 ≤ (x0.size : Int) then ((spinetref02_Word.f (x0.extract (x5 : Int).toNat (x7 : Int).toNat)).bind fun t192 => (if x7 = (wrap64 (x5 + 1)) then (if x4.length < 5864062014805 then (spinetref02_Tokens.l0 k x0 (x4 ++ [(⟨2, wrap64 ((wrap64 (x6)) - 97), x5⟩ : S91)]) x7) else (none)) else (if t192 = 0 then (some (([] : List (S91)), x5)) else (if x4.length < 5864062014805 then (spinetref02_Tokens.l0 k x0 (x4 ++ [(⟨t192, 0, x5⟩ : S91)]) x7) else (none))))) else (none)) else (none)) else (none)
def spinetref02_Tokens.l2 : Nat → ByteArray → List (S91) → Int → Int → Int → Option ((List (S91)) × Int)
  | 0, _, _, _, _, _ => none
  | k + 1, x0, x4, x5, x6, x7 => if x7 < (x0.size : Int) then (if 0 ≤ x7 then (if (bt x0 x7) ≥ 97 then (if (bt x0 x7) ≤ 122 then (spinetref02_Tokens.l2 k x0 x4 x5 x6 (wrap64 (x7 + 1))) else (spinetref02_Tokens.j6 k x0 x4 x5 x6 x7)) else (spinetref02_Tokens.j6 k x0 x4 x5 x6 x7)) else (none)) else (spinetref02_Tokens.j6 k x0 x4 x5 x6 x7)
end
def spinetref02_Tokens.f (k : Nat) (a0 : ByteArray) : Option ((List (S91)) × Int) := spinetref02_Tokens.l0 k a0 ([] : List (S91)) 0
set_option maxHeartbeats 8000000 in
set_option maxRecDepth 100000 in
theorem spinetref02_Tokens.calls (k : Nat) (a0 : ByteArray) (r1 : List (S91)) (r2 : Int) (w : World) (h : spinetref02_Tokens.f k a0 = some (r1, r2)) :
    Calls Tryz.prog 85 #[.string a0] w fun e w' => ∃ v0_ : Value, e = .returned (.tuple #[v0_, .int .i64 r2]) ∧ Kd.R k91 91 w' w.heap.size (fun _ => True) v0_ r1 ∧ Below w.heap.size w w' := by
  have hu91 := Tryz.underlying91
  have HB := Aside0.mk (Below.refl w.heap.size w)
  have H : (spinetref02_Tokens.l0 k a0 ([] : List (S91)) 0) = some (r1, r2) := h
  clear h
  have H' := Aside0.mk H
  clear H
  go_enter Tryz.func85, Tryz.ntmps85
  go_wp2
  go_loopg [4, 5] k (fun kq v4 v5 w' => ∃ (x4_1 : List (S91)) (x5_1 : Int), v5 = .int .i64 x5_1 ∧ Aside0 (spinetref02_Tokens.l0 kq a0 x4_1 x5_1 = some (r1, r2)) ∧ Aside0 (kq ≤ k) ∧ Aside0 (Kd.R k91 91 w' w.heap.size (fun _ => True) v4 x4_1) ∧ Aside0 (Below w.heap.size w w'))
  case atStart => exact ⟨(([] : List (S91))), (0), (by first | rfl | (simp; done) | (simp [*]; done)), H', ⟨Nat.le_refl _⟩, ⟨by first | exact Kd.R_nil _ _ _ _ _ | exact Kd.N_nil _ _ _ _ _ | exact Kd.V_nil _ _ _ _ _ | exact Kd.Q_nil _ _ _ _ _ | exact Kd.S_nil _ _ _ _ _⟩, ⟨by repeat (first | (with_reducible first | exact HB.out | apply below_alloc | apply pw_below_drewN | apply below_drew1) | exact HB.out)⟩⟩
  case round =>
    clear H'
    obtain ⟨x4_1, x5_1, rfl, HA, HK1, HO_4, HB⟩ := hrel
    cases gk with
    | zero => exact absurd HA.out (by simp [spinetref02_Tokens.l0])
    | succ k1 =>
      have H := HA.out
      clear HA
      simp only [spinetref02_Tokens.l0] at H
      by_cases c2 : x5_1 < (a0.size : Int)
      · rw [if_pos c2] at H
        have c2b0 : decide (x5_1 < (a0.size : Int)) = true := decide_eq_true c2
        clear c2
        by_cases c3 : 0 ≤ x5_1
        · rw [if_pos c3] at H
          have c3b0 : decide (0 ≤ x5_1) = true := decide_eq_true c3
          clear c3
          by_cases c5 : (bt a0 x5_1) = 32
          · rw [if_pos c5] at H
            have c5b0 : ((bt a0 x5_1) == 32) = true := beq_iff_eq.mpr c5
            have c5b1 : ((bt a0 x5_1) != 32) = false := bne_eq_false_iff_eq.mpr c5
            clear c5
            have H' := Aside0.mk H
            clear H
            have p4 : 0 ≤ (x5_1 : Int) := of_decide_eq_true (by first | (with_reducible assumption) | assumption)
            have q4 : x5_1 < (a0.size : Int) := of_decide_eq_true (by first | (with_reducible assumption) | assumption)
            have hx4 := bt_at a0 x5_1
            replace p4 := eq_true p4
            replace q4 := eq_true q4
            go_wp2
            go_roundg k1
            case measure => have := HK1.out; omega
            case rel => exact ⟨(x4_1), (wrap64 (x5_1 + 1)), (by first | rfl | (simp; done) | (simp [*]; done)), H', ⟨by have := HK1.out; omega⟩, ⟨by (with_reducible repeat (first | apply Kd.R_alloc | apply Kd.R_drewN | apply Kd.R_drew)); exact HO_4.out⟩, ⟨by repeat (first | (with_reducible first | exact HB.out | apply below_alloc | apply pw_below_drewN | apply below_drew1) | exact HB.out)⟩⟩
          · rw [if_neg c5] at H
            have c5b0 : ((bt a0 x5_1) == 32) = false := beq_eq_false_iff_ne.mpr c5
            have c5b1 : ((bt a0 x5_1) != 32) = true := bne_iff_ne.mpr c5
            have HC6 := Aside0.mk H
            clear H
            have p4 : 0 ≤ (x5_1 : Int) := of_decide_eq_true (by first | (with_reducible assumption) | assumption)
            have q4 : x5_1 < (a0.size : Int) := of_decide_eq_true (by first | (with_reducible assumption) | assumption)
            have hx4 := bt_at a0 x5_1
            replace p4 := eq_true p4
            replace q4 := eq_true q4
            go_upto_region 8 with (fail)
            go_cut [31] (fun v31 wc => ∃ (kq : Nat) (x31_5 : Bool), v31 = .bool x31_5 ∧ Aside0 (spinetref02_Tokens.j1 kq a0 x4_1 x5_1 (bt a0 x5_1) x5_1 x31_5 = some (r1, r2)) ∧ Aside0 (kq ≤ k1) ∧ Aside0 (Kd.R k91 91 wc w.heap.size (fun _ => True) u4 x4_1) ∧ Aside0 (Below w.heap.size w wc))
            case first =>
              have H := HC6.out
              clear HC6
              by_cases c7 : (bt a0 x5_1) ≥ 48
              · rw [if_pos c7] at H
                have c7b0 : decide (48 ≤ (bt a0 x5_1)) = true := decide_eq_true c7
                clear c7
                (first | rw [c7b0] | (simp only [i64_w, i32_w]; rw [c7b0]) | skip)
                have H' := Aside0.mk H
                clear H
                go_wp2
                go_meet
                case rel => exact ⟨_, (decide ((bt a0 x5_1) ≤ 57)), (by first | rfl | (simp; done) | (simp [*]; done)), H', ⟨by have := HK1.out; first | omega | exact Nat.le_refl _⟩, ⟨by (with_reducible repeat (first | apply Kd.R_alloc | apply Kd.R_drewN | apply Kd.R_drew)); exact HO_4.out⟩, ⟨by repeat (first | (with_reducible first | exact HB.out | apply below_alloc | apply pw_below_drewN | apply below_drew1) | exact HB.out)⟩⟩
              · rw [if_neg c7] at H
                have c7b0 : decide (48 ≤ (bt a0 x5_1)) = false := decide_eq_false c7
                clear c7
                (first | rw [c7b0] | (simp only [i64_w, i32_w]; rw [c7b0]) | skip)
                have H' := Aside0.mk H
                clear H
                go_wp2
                go_meet
                case rel => exact ⟨_, (false), (by first | rfl | (simp; done) | (simp [*]; done)), H', ⟨by have := HK1.out; first | omega | exact Nat.le_refl _⟩, ⟨by (with_reducible repeat (first | apply Kd.R_alloc | apply Kd.R_drewN | apply Kd.R_drew)); exact HO_4.out⟩, ⟨by repeat (first | (with_reducible first | exact HB.out | apply below_alloc | apply pw_below_drewN | apply below_drew1) | exact HB.out)⟩⟩
            case rest =>
              clear HC6
              try clear c2
              try clear c2b0
              try clear p2
              try clear c3
              try clear c3b0
              try clear p4
              try clear q4
              try clear hx4
              try clear c5
              try clear c5b0
              try clear c5b1
              try clear p6
              try clear c7
              try clear c7b0
              try clear p4
              try clear q4
              obtain ⟨kq, x31_5, rfl, HA, HJ5, HO_4, HB⟩ := hcut
              cases kq with
              | zero => exact absurd HA.out (by simp [spinetref02_Tokens.j1])
              | succ kj5 =>
                have H := HA.out
                clear HA
                simp only [spinetref02_Tokens.j1] at H
                by_cases c8 : x31_5 = true
                · subst c8
                  have H1 : (spinetref02_Tokens.l1 kj5 a0 x4_1 x5_1 x5_1 0 false) = some (r1, r2) := by rw [if_pos rfl] at H; exact H
                  clear H
                  have H := H1
                  clear H1
                  have H' := Aside0.mk H
                  clear H
                  go_wp2
                  go_loopg [7, 8, 9] kj5 (fun kq v7 v8 v9 w' => ∃ (x7_3 : Int) (x8_3 : Int) (x9_3 : Bool), v7 = .int .i64 x7_3 ∧ v8 = .int .u64 x8_3 ∧ v9 = .bool x9_3 ∧ Aside0 (spinetref02_Tokens.l1 kq a0 x4_1 x5_1 x7_3 x8_3 x9_3 = some (r1, r2)) ∧ Aside0 (kq ≤ kj5) ∧ Aside0 (Kd.R k91 91 w' w.heap.size (fun _ => True) u4 x4_1) ∧ Aside0 (Below w.heap.size w w'))
                  case atStart => exact ⟨(x5_1), (0), (false), (by first | rfl | (simp; done) | (simp [*]; done)), (by first | rfl | (simp; done) | (simp [*]; done)), (by first | rfl | (simp; done) | (simp [*]; done)), H', ⟨Nat.le_refl _⟩, ⟨by (with_reducible repeat (first | apply Kd.R_alloc | apply Kd.R_drewN | apply Kd.R_drew)); exact HO_4.out⟩, ⟨by repeat (first | (with_reducible first | exact HB.out | apply below_alloc | apply pw_below_drewN | apply below_drew1) | exact HB.out)⟩⟩
                  case round =>
                    clear H'
                    try clear c2
                    try clear c2b0
                    try clear p2
                    try clear c3
                    try clear c3b0
                    try clear p4
                    try clear q4
                    try clear hx4
                    try clear c5
                    try clear c5b0
                    try clear c5b1
                    try clear p6
                    try clear c7
                    try clear c7b0
                    try clear c8
                    try clear p2
                    try clear p4
                    try clear p6
                    try clear q4
                    obtain ⟨x7_3, x8_3, x9_3, rfl, rfl, rfl, HA, HK3, HO_4, HB⟩ := hrel
                    cases gk with
                    | zero => exact absurd HA.out (by simp [spinetref02_Tokens.l1])
                    | succ k3 =>
                      have H := HA.out
                      clear HA
                      simp only [spinetref02_Tokens.l1] at H
                      have HC9 := Aside0.mk H
                      clear H
                      go_upto_region 11 with (fail)
                      go_cut [47] (fun v47 wc => ∃ (kq : Nat) (x47_8 : Bool), v47 = .bool x47_8 ∧ Aside0 (spinetref02_Tokens.j3 kq a0 x4_1 x5_1 x7_3 x8_3 x9_3 x47_8 = some (r1, r2)) ∧ Aside0 (kq ≤ k3) ∧ Aside0 (Kd.R k91 91 wc w.heap.size (fun _ => True) u4 x4_1) ∧ Aside0 (Below w.heap.size w wc))
                      case first =>
                        have H := HC9.out
                        clear HC9
                        by_cases c10 : x7_3 < (a0.size : Int)
                        · rw [if_pos c10] at H
                          have c10b0 : decide (x7_3 < (a0.size : Int)) = true := decide_eq_true c10
                          clear c10
                          (first | rw [c10b0] | (simp only [i64_w, i32_w]; rw [c10b0]) | skip)
                          by_cases c11 : 0 ≤ x7_3
                          · rw [if_pos c11] at H
                            have c11b0 : decide (0 ≤ x7_3) = true := decide_eq_true c11
                            clear c11
                            by_cases c13 : (bt a0 x7_3) ≥ 48
                            · rw [if_pos c13] at H
                              have c13b0 : decide (48 ≤ (bt a0 x7_3)) = true := decide_eq_true c13
                              clear c13
                              have H' := Aside0.mk H
                              clear H
                              have p12 : 0 ≤ (x7_3 : Int) := of_decide_eq_true (by first | (with_reducible assumption) | assumption)
                              have q12 : x7_3 < (a0.size : Int) := of_decide_eq_true (by first | (with_reducible assumption) | assumption)
                              have hx12 := bt_at a0 x7_3
                              replace p12 := eq_true p12
                              replace q12 := eq_true q12
                              have p14 : 0 ≤ (x7_3 : Int) := of_decide_eq_true (by first | (with_reducible assumption) | assumption)
                              have q14 : x7_3 < (a0.size : Int) := of_decide_eq_true (by first | (with_reducible assumption) | assumption)
                              have hx14 := bt_at a0 x7_3
                              replace p14 := eq_true p14
                              replace q14 := eq_true q14
                              go_wp2
                              go_meet
                              case rel => exact ⟨_, (decide ((bt a0 x7_3) ≤ 57)), (by first | rfl | (simp; done) | (simp [*]; done)), H', ⟨by have := HK1.out; have := HJ5.out; have := HK3.out; first | omega | exact Nat.le_refl _⟩, ⟨by (with_reducible repeat (first | apply Kd.R_alloc | apply Kd.R_drewN | apply Kd.R_drew)); exact HO_4.out⟩, ⟨by repeat (first | (with_reducible first | exact HB.out | apply below_alloc | apply pw_below_drewN | apply below_drew1) | exact HB.out)⟩⟩
                            · rw [if_neg c13] at H
                              have c13b0 : decide (48 ≤ (bt a0 x7_3)) = false := decide_eq_false c13
                              clear c13
                              have H' := Aside0.mk H
                              clear H
                              have p12 : 0 ≤ (x7_3 : Int) := of_decide_eq_true (by first | (with_reducible assumption) | assumption)
                              have q12 : x7_3 < (a0.size : Int) := of_decide_eq_true (by first | (with_reducible assumption) | assumption)
                              have hx12 := bt_at a0 x7_3
                              replace p12 := eq_true p12
                              replace q12 := eq_true q12
                              go_wp2
                              go_meet
                              case rel => exact ⟨_, (false), (by first | rfl | (simp; done) | (simp [*]; done)), H', ⟨by have := HK1.out; have := HJ5.out; have := HK3.out; first | omega | exact Nat.le_refl _⟩, ⟨by (with_reducible repeat (first | apply Kd.R_alloc | apply Kd.R_drewN | apply Kd.R_drew)); exact HO_4.out⟩, ⟨by repeat (first | (with_reducible first | exact HB.out | apply below_alloc | apply pw_below_drewN | apply below_drew1) | exact HB.out)⟩⟩
                          · rw [if_neg c11] at H
                            exact absurd H (by simp)
                        · rw [if_neg c10] at H
                          have c10b0 : decide (x7_3 < (a0.size : Int)) = false := decide_eq_false c10
                          clear c10
                          (first | rw [c10b0] | (simp only [i64_w, i32_w]; rw [c10b0]) | skip)
                          have H' := Aside0.mk H
                          clear H
                          go_wp2
                          go_meet
                          case rel => exact ⟨_, (false), (by first | rfl | (simp; done) | (simp [*]; done)), H', ⟨by have := HK1.out; have := HJ5.out; have := HK3.out; first | omega | exact Nat.le_refl _⟩, ⟨by (with_reducible repeat (first | apply Kd.R_alloc | apply Kd.R_drewN | apply Kd.R_drew)); exact HO_4.out⟩, ⟨by repeat (first | (with_reducible first | exact HB.out | apply below_alloc | apply pw_below_drewN | apply below_drew1) | exact HB.out)⟩⟩
                      case rest =>
                        clear HC9
                        try clear c1
                        try clear p1
                        try clear q1
                        try clear hx1
                        try clear c2
                        try clear c2b0
                        try clear p2
                        try clear c3
                        try clear c3b0
                        try clear p4
                        try clear q4
                        try clear hx4
                        try clear c5
                        try clear c5b0
                        try clear c5b1
                        try clear p6
                        try clear c7
                        try clear c7b0
                        try clear c8
                        try clear c10
                        try clear c10b0
                        try clear c11
                        try clear c11b0
                        try clear p12
                        try clear q12
                        try clear hx12
                        try clear c13
                        try clear c13b0
                        try clear p14
                        try clear q14
                        try clear hx14
                        try clear p12
                        try clear p14
                        try clear p2
                        try clear p4
                        try clear p6
                        try clear q12
                        try clear q14
                        try clear q4
                        obtain ⟨kq, x47_8, rfl, HA, HJ8, HO_4, HB⟩ := hcut
                        cases kq with
                        | zero => exact absurd HA.out (by simp [spinetref02_Tokens.j3])
                        | succ kj8 =>
                          have H := HA.out
                          clear HA
                          simp only [spinetref02_Tokens.j3] at H
                          by_cases c15 : x47_8 = true
                          · subst c15
                            have H1 : (if 0 ≤ x7_3 then (if x7_3 < (a0.size : Int) then (if x8_3 > (IntKind.u64.wrap (Int.tdiv (IntKind.u64.wrap (9223372036854775807 - (IntKind.u64.wrap ((IntKind.u64.wrap (bt a0 x7_3)) - 48)))) 10)) then (spinetref02_Tokens.l1 kj8 a0 x4_1 x5_1 (wrap64 (x7_3 + 1)) x8_3 true) else (if x9_3 = true then (spinetref02_Tokens.l1 kj8 a0 x4_1 x5_1 (wrap64 (x7_3 + 1)) x8_3 x9_3) else (spinetref02_Tokens.l1 kj8 a0 x4_1 x5_1 (wrap64 (x7_3 + 1)) (IntKind.u64.wrap ((IntKind.u64.wrap (10 * x8_3)) + (IntKind.u64.wrap ((IntKind.u64.wrap (bt a0 x7_3)) - 48)))) x9_3))) else (none)) else (none)) = some (r1, r2) := by rw [if_pos rfl] at H; exact H
                            clear H
                            have H := H1
                            clear H1
                            by_cases c16 : 0 ≤ x7_3
                            · rw [if_pos c16] at H
                              have c16b0 : decide (0 ≤ x7_3) = true := decide_eq_true c16
                              clear c16
                              by_cases c17 : x7_3 < (a0.size : Int)
                              · rw [if_pos c17] at H
                                have c17b0 : decide (x7_3 < (a0.size : Int)) = true := decide_eq_true c17
                                clear c17
                                by_cases c19 : x8_3 > (IntKind.u64.wrap (Int.tdiv (IntKind.u64.wrap (9223372036854775807 - (IntKind.u64.wrap ((IntKind.u64.wrap (bt a0 x7_3)) - 48)))) 10))
                                · rw [if_pos c19] at H
                                  have c19b0 : decide ((IntKind.u64.wrap (Int.tdiv (IntKind.u64.wrap (9223372036854775807 - (IntKind.u64.wrap ((IntKind.u64.wrap (bt a0 x7_3)) - 48)))) 10)) < x8_3) = true := decide_eq_true c19
                                  clear c19
                                  have H' := Aside0.mk H
                                  clear H
                                  have p18 : 0 ≤ (x7_3 : Int) := of_decide_eq_true (by first | (with_reducible assumption) | assumption)
                                  have q18 : x7_3 < (a0.size : Int) := of_decide_eq_true (by first | (with_reducible assumption) | assumption)
                                  have hx18 := bt_at a0 x7_3
                                  replace p18 := eq_true p18
                                  replace q18 := eq_true q18
                                  go_wp2
                                  go_roundg kj8
                                  case measure => have := HK1.out; have := HJ5.out; have := HK3.out; have := HJ8.out; omega
                                  case rel => exact ⟨(wrap64 (x7_3 + 1)), (x8_3), (true), (by first | rfl | (simp; done) | (simp [*]; done)), (by first | rfl | (simp; done) | (simp [*]; done)), (by first | rfl | (simp; done) | (simp [*]; done)), H', ⟨by have := HK1.out; have := HJ5.out; have := HK3.out; have := HJ8.out; omega⟩, ⟨by (with_reducible repeat (first | apply Kd.R_alloc | apply Kd.R_drewN | apply Kd.R_drew)); exact HO_4.out⟩, ⟨by repeat (first | (with_reducible first | exact HB.out | apply below_alloc | apply pw_below_drewN | apply below_drew1) | exact HB.out)⟩⟩
                                · rw [if_neg c19] at H
                                  have c19b0 : decide ((IntKind.u64.wrap (Int.tdiv (IntKind.u64.wrap (9223372036854775807 - (IntKind.u64.wrap ((IntKind.u64.wrap (bt a0 x7_3)) - 48)))) 10)) < x8_3) = false := decide_eq_false c19
                                  clear c19
                                  by_cases c20 : x9_3 = true
                                  · subst c20
                                    have H1 : (spinetref02_Tokens.l1 kj8 a0 x4_1 x5_1 (wrap64 (x7_3 + 1)) x8_3 true) = some (r1, r2) := by rw [if_pos rfl] at H; exact H
                                    clear H
                                    have H := H1
                                    clear H1
                                    have H' := Aside0.mk H
                                    clear H
                                    have p18 : 0 ≤ (x7_3 : Int) := of_decide_eq_true (by first | (with_reducible assumption) | assumption)
                                    have q18 : x7_3 < (a0.size : Int) := of_decide_eq_true (by first | (with_reducible assumption) | assumption)
                                    have hx18 := bt_at a0 x7_3
                                    replace p18 := eq_true p18
                                    replace q18 := eq_true q18
                                    go_wp2
                                    go_roundg kj8
                                    case measure => have := HK1.out; have := HJ5.out; have := HK3.out; have := HJ8.out; omega
                                    case rel => exact ⟨(wrap64 (x7_3 + 1)), (x8_3), (true), (by first | rfl | (simp; done) | (simp [*]; done)), (by first | rfl | (simp; done) | (simp [*]; done)), (by first | rfl | (simp; done) | (simp [*]; done)), H', ⟨by have := HK1.out; have := HJ5.out; have := HK3.out; have := HJ8.out; omega⟩, ⟨by (with_reducible repeat (first | apply Kd.R_alloc | apply Kd.R_drewN | apply Kd.R_drew)); exact HO_4.out⟩, ⟨by repeat (first | (with_reducible first | exact HB.out | apply below_alloc | apply pw_below_drewN | apply below_drew1) | exact HB.out)⟩⟩
                                  · replace c20 := Bool.eq_false_iff.mpr c20
                                    subst c20
                                    have H1 : (spinetref02_Tokens.l1 kj8 a0 x4_1 x5_1 (wrap64 (x7_3 + 1)) (IntKind.u64.wrap ((IntKind.u64.wrap (10 * x8_3)) + (IntKind.u64.wrap ((IntKind.u64.wrap (bt a0 x7_3)) - 48)))) false) = some (r1, r2) := by rw [if_neg (show ¬ (false = true) by decide)] at H; exact H
                                    clear H
                                    have H := H1
                                    clear H1
                                    have H' := Aside0.mk H
                                    clear H
                                    have p18 : 0 ≤ (x7_3 : Int) := of_decide_eq_true (by first | (with_reducible assumption) | assumption)
                                    have q18 : x7_3 < (a0.size : Int) := of_decide_eq_true (by first | (with_reducible assumption) | assumption)
                                    have hx18 := bt_at a0 x7_3
                                    replace p18 := eq_true p18
                                    replace q18 := eq_true q18
                                    go_wp2
                                    go_roundg kj8
                                    case measure => have := HK1.out; have := HJ5.out; have := HK3.out; have := HJ8.out; omega
                                    case rel => exact ⟨(wrap64 (x7_3 + 1)), (IntKind.u64.wrap ((IntKind.u64.wrap (10 * x8_3)) + (IntKind.u64.wrap ((IntKind.u64.wrap (bt a0 x7_3)) - 48)))), (false), (by first | rfl | (simp; done) | (simp [*]; done)), (by first | rfl | (simp; done) | (simp [*]; done)), (by first | rfl | (simp; done) | (simp [*]; done)), H', ⟨by have := HK1.out; have := HJ5.out; have := HK3.out; have := HJ8.out; omega⟩, ⟨by (with_reducible repeat (first | apply Kd.R_alloc | apply Kd.R_drewN | apply Kd.R_drew)); exact HO_4.out⟩, ⟨by repeat (first | (with_reducible first | exact HB.out | apply below_alloc | apply pw_below_drewN | apply below_drew1) | exact HB.out)⟩⟩
                              · rw [if_neg c17] at H
                                exact absurd H (by simp)
                            · rw [if_neg c16] at H
                              exact absurd H (by simp)
                          · replace c15 := Bool.eq_false_iff.mpr c15
                            subst c15
                            have H1 : (if x9_3 = true then (some (([] : List (S91)), x5_1)) else (if x4_1.length < 5864062014805 then (spinetref02_Tokens.l0 kj8 a0 (x4_1 ++ [(⟨1, wrap64 (x8_3), x5_1⟩ : S91)]) x7_3) else (none))) = some (r1, r2) := by rw [if_neg (show ¬ (false = true) by decide)] at H; exact H
                            clear H
                            have H := H1
                            clear H1
                            by_cases c21 : x9_3 = true
                            · subst c21
                              have H1 : (some (([] : List (S91)), x5_1)) = some (r1, r2) := by rw [if_pos rfl] at H; exact H
                              clear H
                              have H := H1
                              clear H1
                              simp only [Option.some.injEq, Prod.mk.injEq] at H
                              obtain ⟨rfl, rfl⟩ := H
                              go_wp2
                              go_ret2
                              exact ⟨_, by first | rfl | (simp [errW_none, errW_some] <;> rfl) | (simp [*, errW_none, errW_some] <;> rfl), by first | exact Kd.R_nil _ _ _ _ _ | exact Kd.N_nil _ _ _ _ _ | exact Kd.V_nil _ _ _ _ _ | exact Kd.Q_nil _ _ _ _ _ | exact Kd.S_nil _ _ _ _ _, by repeat (first | (with_reducible first | exact HB.out | apply below_alloc | apply pw_below_drewN | apply below_drew1) | exact HB.out)⟩
                            · replace c21 := Bool.eq_false_iff.mpr c21
                              subst c21
                              have H1 : (if x4_1.length < 5864062014805 then (spinetref02_Tokens.l0 kj8 a0 (x4_1 ++ [(⟨1, wrap64 (x8_3), x5_1⟩ : S91)]) x7_3) else (none)) = some (r1, r2) := by rw [if_neg (show ¬ (false = true) by decide)] at H; exact H
                              clear H
                              have H := H1
                              clear H1
                              by_cases c22 : x4_1.length < 5864062014805
                              · rw [if_pos c22] at H
                                have LMc22 := Aside0.mk c22
                                clear c22
                                obtain ⟨y189, hy189⟩ : ∃ y_ : List (S91), y_ = (x4_1 ++ [(⟨1, wrap64 (x8_3), x5_1⟩ : S91)]) := ⟨_, rfl⟩
                                replace H : (spinetref02_Tokens.l0 kj8 a0 y189 x7_3) = some (r1, r2) := by first | (rw [hy189]; with_reducible exact H) | (have H2_ := (Option.bind_some _ _).symm.trans H; rw [hy189]; with_reducible exact H2_) | (have H2_ := (Option.bind_some _ _).symm.trans H; with_reducible exact H2_) | with_reducible exact H | (rw [hy189]; exact H) | exact H
                                have Ny189 := Aside0.mk hy189
                                clear hy189
                                have H' := Aside0.mk H
                                clear H
                                go_wp2_with (first | ((with_reducible refine gate_builtin (b := .append) (xs := #[.tmp 68, .tmp 73]) rfl ?_); at_builtin; refine Kd.R_append k91 (w0 := w) w.heap.size rfl (.tmp 68) (.tmp 73) 92 91 (.agg #[(.int .i64 0), (.int .i64 0), (.int .i64 0)]) 24 rfl Tryz.underlying92 info91 rfl (by decide) (by omega) u4 x4_1 (⟨1, wrap64 (x8_3), x5_1⟩ : S91) [.int .i64 1, .int .i64 (wrap64 (x8_3)), .int .i64 x5_1] (fun _ => True) (fun _ => False) rfl rfl ?aP (fun _ hk => hk.elim) ?aF ?aO ?aB ?aS ?aL ?_; (case aP => exact k91_mkM _ _ _ (⟨1, wrap64 (x8_3), x5_1⟩ : S91)); (case aB => exact (by repeat (first | (with_reducible first | exact HB.out | apply below_alloc | apply pw_below_drewN | apply below_drew1) | exact HB.out))); (case aF => exact (fun _ _ => trivial)); (case aO => exact (by (with_reducible repeat (first | apply Kd.R_alloc | apply Kd.R_drewN | apply Kd.R_drew)); exact HO_4.out)); (case aS => exact (below_size (by repeat (first | (with_reducible first | exact HB.out | apply below_alloc | apply pw_below_drewN | apply below_drew1) | exact HB.out)))); (case aL => have := LMc22.out; omega); intro v190 w23 ho hb hg hat; rw [← Ny189.out] at ho; have n0_ := Aside0.mk (hb); have n1_ := Aside0.mk (ho); clear HB; clear HO_4; have HB := n0_; have HO191 := n1_; clear n0_ n1_; clear ho hb hg hat))
                                go_roundg kj8
                                case measure => have := HK1.out; have := HJ5.out; have := HK3.out; have := HJ8.out; omega
                                case rel => exact ⟨(y189), (x7_3), (by first | rfl | (simp; done) | (simp [*]; done)), H', ⟨by have := HK1.out; have := HJ5.out; have := HK3.out; have := HJ8.out; omega⟩, ⟨by (with_reducible repeat (first | apply Kd.R_alloc | apply Kd.R_drewN | apply Kd.R_drew)); exact HO191.out⟩, ⟨by repeat (first | (with_reducible first | exact HB.out | apply below_alloc | apply pw_below_drewN | apply below_drew1) | exact HB.out)⟩⟩
                              · rw [if_neg c22] at H
                                exact absurd H (by simp)
                · replace c8 := Bool.eq_false_iff.mpr c8
                  subst c8
                  have H1 : (if (bt a0 x5_1) ≥ 97 then (spinetref02_Tokens.j4 kj5 a0 x4_1 x5_1 (bt a0 x5_1) x5_1 (decide ((bt a0 x5_1) ≤ 122))) else (spinetref02_Tokens.j4 kj5 a0 x4_1 x5_1 (bt a0 x5_1) x5_1 false)) = some (r1, r2) := by rw [if_neg (show ¬ (false = true) by decide)] at H; exact H
                  clear H
                  have H := H1
                  clear H1
                  have HC24 := Aside0.mk H
                  clear H
                  go_upto_region 22 with (fail)
                  go_cut [81] (fun v81 wc => ∃ (kq : Nat) (x81_23 : Bool), v81 = .bool x81_23 ∧ Aside0 (spinetref02_Tokens.j4 kq a0 x4_1 x5_1 (bt a0 x5_1) x5_1 x81_23 = some (r1, r2)) ∧ Aside0 (kq ≤ kj5) ∧ Aside0 (Kd.R k91 91 wc w.heap.size (fun _ => True) u4 x4_1) ∧ Aside0 (Below w.heap.size w wc))
                  case first =>
                    have H := HC24.out
                    clear HC24
                    by_cases c25 : (bt a0 x5_1) ≥ 97
                    · rw [if_pos c25] at H
                      have c25b0 : decide (97 ≤ (bt a0 x5_1)) = true := decide_eq_true c25
                      clear c25
                      (first | rw [c25b0] | (simp only [i64_w, i32_w]; rw [c25b0]) | skip)
                      have H' := Aside0.mk H
                      clear H
                      go_wp2
                      go_meet
                      case rel => exact ⟨_, (decide ((bt a0 x5_1) ≤ 122)), (by first | rfl | (simp; done) | (simp [*]; done)), H', ⟨by have := HK1.out; have := HJ5.out; first | omega | exact Nat.le_refl _⟩, ⟨by (with_reducible repeat (first | apply Kd.R_alloc | apply Kd.R_drewN | apply Kd.R_drew)); exact HO_4.out⟩, ⟨by repeat (first | (with_reducible first | exact HB.out | apply below_alloc | apply pw_below_drewN | apply below_drew1) | exact HB.out)⟩⟩
                    · rw [if_neg c25] at H
                      have c25b0 : decide (97 ≤ (bt a0 x5_1)) = false := decide_eq_false c25
                      clear c25
                      (first | rw [c25b0] | (simp only [i64_w, i32_w]; rw [c25b0]) | skip)
                      have H' := Aside0.mk H
                      clear H
                      go_wp2
                      go_meet
                      case rel => exact ⟨_, (false), (by first | rfl | (simp; done) | (simp [*]; done)), H', ⟨by have := HK1.out; have := HJ5.out; first | omega | exact Nat.le_refl _⟩, ⟨by (with_reducible repeat (first | apply Kd.R_alloc | apply Kd.R_drewN | apply Kd.R_drew)); exact HO_4.out⟩, ⟨by repeat (first | (with_reducible first | exact HB.out | apply below_alloc | apply pw_below_drewN | apply below_drew1) | exact HB.out)⟩⟩
                  case rest =>
                    clear HC24
                    try clear c1
                    try clear p1
                    try clear q1
                    try clear hx1
                    try clear c2
                    try clear c2b0
                    try clear p2
                    try clear c3
                    try clear c3b0
                    try clear p4
                    try clear q4
                    try clear hx4
                    try clear c5
                    try clear c5b0
                    try clear c5b1
                    try clear p6
                    try clear c7
                    try clear c7b0
                    try clear c8
                    try clear c10
                    try clear c10b0
                    try clear c11
                    try clear c11b0
                    try clear p12
                    try clear q12
                    try clear hx12
                    try clear c13
                    try clear c13b0
                    try clear p14
                    try clear q14
                    try clear hx14
                    try clear c15
                    try clear c16
                    try clear c16b0
                    try clear c17
                    try clear c17b0
                    try clear p18
                    try clear q18
                    try clear hx18
                    try clear c19
                    try clear c19b0
                    try clear c20
                    try clear c21
                    try clear c22
                    try clear c25
                    try clear c25b0
                    try clear p1
                    try clear p12
                    try clear p14
                    try clear p18
                    try clear p2
                    try clear p4
                    try clear p6
                    try clear q1
                    try clear q12
                    try clear q14
                    try clear q18
                    try clear q4
                    obtain ⟨kq, x81_23, rfl, HA, HJ23, HO_4, HB⟩ := hcut
                    cases kq with
                    | zero => exact absurd HA.out (by simp [spinetref02_Tokens.j4])
                    | succ kj23 =>
                      have H := HA.out
                      clear HA
                      simp only [spinetref02_Tokens.j4] at H
                      by_cases c26 : x81_23 = true
                      · subst c26
                        have H1 : (spinetref02_Tokens.l2 kj23 a0 x4_1 x5_1 (bt a0 x5_1) x5_1) = some (r1, r2) := by rw [if_pos rfl] at H; exact H
                        clear H
                        have H := H1
                        clear H1
                        have HC27 := Aside0.mk H
                        clear H
                        go_upto_block 4 with (fail)
                        go_cut [7] (fun v7 wc => ∃ (kq : Nat) (x7_26 : Int), v7 = .int .i64 x7_26 ∧ Aside0 (spinetref02_Tokens.j6 kq a0 x4_1 x5_1 (bt a0 x5_1) x7_26 = some (r1, r2)) ∧ Aside0 (kq ≤ kj23) ∧ Aside0 (Kd.R k91 91 wc w.heap.size (fun _ => True) u4 x4_1) ∧ Aside0 (Below w.heap.size w wc))
                        case first =>
                          have H := HC27.out
                          clear HC27
                          have H' := Aside0.mk H
                          clear H
                          go_wp2
                          go_loopg [7] kj23 (fun kq v7 w' => ∃ (x7_4 : Int), v7 = .int .i64 x7_4 ∧ Aside0 (spinetref02_Tokens.l2 kq a0 x4_1 x5_1 (bt a0 x5_1) x7_4 = some (r1, r2)) ∧ Aside0 (kq ≤ kj23) ∧ Aside0 (Kd.R k91 91 w' w.heap.size (fun _ => True) u4 x4_1) ∧ Aside0 (Below w.heap.size w w'))
                          case atStart => exact ⟨(x5_1), (by first | rfl | (simp; done) | (simp [*]; done)), H', ⟨Nat.le_refl _⟩, ⟨by (with_reducible repeat (first | apply Kd.R_alloc | apply Kd.R_drewN | apply Kd.R_drew)); exact HO_4.out⟩, ⟨by repeat (first | (with_reducible first | exact HB.out | apply below_alloc | apply pw_below_drewN | apply below_drew1) | exact HB.out)⟩⟩
                          case round =>
                            clear H'
                            try clear c1
                            try clear p1
                            try clear q1
                            try clear hx1
                            try clear c2
                            try clear c2b0
                            try clear p2
                            try clear c3
                            try clear c3b0
                            try clear p4
                            try clear q4
                            try clear hx4
                            try clear c5
                            try clear c5b0
                            try clear c5b1
                            try clear p6
                            try clear c7
                            try clear c7b0
                            try clear c8
                            try clear c10
                            try clear c10b0
                            try clear c11
                            try clear c11b0
                            try clear p12
                            try clear q12
                            try clear hx12
                            try clear c13
                            try clear c13b0
                            try clear p14
                            try clear q14
                            try clear hx14
                            try clear c15
                            try clear c16
                            try clear c16b0
                            try clear c17
                            try clear c17b0
                            try clear p18
                            try clear q18
                            try clear hx18
                            try clear c19
                            try clear c19b0
                            try clear c20
                            try clear c21
                            try clear c22
                            try clear c25
                            try clear c25b0
                            try clear c26
                            try clear p1
                            try clear p12
                            try clear p14
                            try clear p18
                            try clear p2
                            try clear p4
                            try clear p6
                            try clear q1
                            try clear q12
                            try clear q14
                            try clear q18
                            try clear q4
                            obtain ⟨x7_4, rfl, HA, HK4, HO_4, HB⟩ := hrel
                            cases gk with
                            | zero => exact absurd HA.out (by simp [spinetref02_Tokens.l2])
                            | succ k4 =>
                              have H := HA.out
                              clear HA
                              simp only [spinetref02_Tokens.l2] at H
                              by_cases c28 : x7_4 < (a0.size : Int)
                              · rw [if_pos c28] at H
                                have c28b0 : decide (x7_4 < (a0.size : Int)) = true := decide_eq_true c28
                                clear c28
                                (first | rw [c28b0] | (simp only [i64_w, i32_w]; rw [c28b0]) | skip)
                                by_cases c29 : 0 ≤ x7_4
                                · rw [if_pos c29] at H
                                  have c29b0 : decide (0 ≤ x7_4) = true := decide_eq_true c29
                                  clear c29
                                  by_cases c31 : (bt a0 x7_4) ≥ 97
                                  · rw [if_pos c31] at H
                                    have c31b0 : decide (97 ≤ (bt a0 x7_4)) = true := decide_eq_true c31
                                    clear c31
                                    by_cases c33 : (bt a0 x7_4) ≤ 122
                                    · rw [if_pos c33] at H
                                      have c33b0 : decide ((bt a0 x7_4) ≤ 122) = true := decide_eq_true c33
                                      clear c33
                                      have H' := Aside0.mk H
                                      clear H
                                      have p30 : 0 ≤ (x7_4 : Int) := of_decide_eq_true (by first | (with_reducible assumption) | assumption)
                                      have q30 : x7_4 < (a0.size : Int) := of_decide_eq_true (by first | (with_reducible assumption) | assumption)
                                      have hx30 := bt_at a0 x7_4
                                      replace p30 := eq_true p30
                                      replace q30 := eq_true q30
                                      have p32 : 0 ≤ (x7_4 : Int) := of_decide_eq_true (by first | (with_reducible assumption) | assumption)
                                      have q32 : x7_4 < (a0.size : Int) := of_decide_eq_true (by first | (with_reducible assumption) | assumption)
                                      have hx32 := bt_at a0 x7_4
                                      replace p32 := eq_true p32
                                      replace q32 := eq_true q32
                                      go_wp2
                                      go_roundg k4
                                      case measure => have := HK1.out; have := HJ5.out; have := HJ23.out; have := HK4.out; omega
                                      case rel => exact ⟨(wrap64 (x7_4 + 1)), (by first | rfl | (simp; done) | (simp [*]; done)), H', ⟨by have := HK1.out; have := HJ5.out; have := HJ23.out; have := HK4.out; omega⟩, ⟨by (with_reducible repeat (first | apply Kd.R_alloc | apply Kd.R_drewN | apply Kd.R_drew)); exact HO_4.out⟩, ⟨by repeat (first | (with_reducible first | exact HB.out | apply below_alloc | apply pw_below_drewN | apply below_drew1) | exact HB.out)⟩⟩
                                    · rw [if_neg c33] at H
                                      have c33b0 : decide ((bt a0 x7_4) ≤ 122) = false := decide_eq_false c33
                                      clear c33
                                      have H' := Aside0.mk H
                                      clear H
                                      have p30 : 0 ≤ (x7_4 : Int) := of_decide_eq_true (by first | (with_reducible assumption) | assumption)
                                      have q30 : x7_4 < (a0.size : Int) := of_decide_eq_true (by first | (with_reducible assumption) | assumption)
                                      have hx30 := bt_at a0 x7_4
                                      replace p30 := eq_true p30
                                      replace q30 := eq_true q30
                                      have p32 : 0 ≤ (x7_4 : Int) := of_decide_eq_true (by first | (with_reducible assumption) | assumption)
                                      have q32 : x7_4 < (a0.size : Int) := of_decide_eq_true (by first | (with_reducible assumption) | assumption)
                                      have hx32 := bt_at a0 x7_4
                                      replace p32 := eq_true p32
                                      replace q32 := eq_true q32
                                      go_wp2
                                      go_meet
                                      case rel => exact ⟨_, (x7_4), (by first | rfl | (simp; done) | (simp [*]; done)), H', ⟨by have := HK1.out; have := HJ5.out; have := HJ23.out; have := HK4.out; first | omega | exact Nat.le_refl _⟩, ⟨by (with_reducible repeat (first | apply Kd.R_alloc | apply Kd.R_drewN | apply Kd.R_drew)); exact HO_4.out⟩, ⟨by repeat (first | (with_reducible first | exact HB.out | apply below_alloc | apply pw_below_drewN | apply below_drew1) | exact HB.out)⟩⟩
                                  · rw [if_neg c31] at H
                                    have c31b0 : decide (97 ≤ (bt a0 x7_4)) = false := decide_eq_false c31
                                    clear c31
                                    have H' := Aside0.mk H
                                    clear H
                                    have p30 : 0 ≤ (x7_4 : Int) := of_decide_eq_true (by first | (with_reducible assumption) | assumption)
                                    have q30 : x7_4 < (a0.size : Int) := of_decide_eq_true (by first | (with_reducible assumption) | assumption)
                                    have hx30 := bt_at a0 x7_4
                                    replace p30 := eq_true p30
                                    replace q30 := eq_true q30
                                    go_wp2
                                    go_meet
                                    case rel => exact ⟨_, (x7_4), (by first | rfl | (simp; done) | (simp [*]; done)), H', ⟨by have := HK1.out; have := HJ5.out; have := HJ23.out; have := HK4.out; first | omega | exact Nat.le_refl _⟩, ⟨by (with_reducible repeat (first | apply Kd.R_alloc | apply Kd.R_drewN | apply Kd.R_drew)); exact HO_4.out⟩, ⟨by repeat (first | (with_reducible first | exact HB.out | apply below_alloc | apply pw_below_drewN | apply below_drew1) | exact HB.out)⟩⟩
                                · rw [if_neg c29] at H
                                  exact absurd H (by simp)
                              · rw [if_neg c28] at H
                                have c28b0 : decide (x7_4 < (a0.size : Int)) = false := decide_eq_false c28
                                clear c28
                                (first | rw [c28b0] | (simp only [i64_w, i32_w]; rw [c28b0]) | skip)
                                have H' := Aside0.mk H
                                clear H
                                go_wp2
                                go_meet
                                case rel => exact ⟨_, (x7_4), (by first | rfl | (simp; done) | (simp [*]; done)), H', ⟨by have := HK1.out; have := HJ5.out; have := HJ23.out; have := HK4.out; first | omega | exact Nat.le_refl _⟩, ⟨by (with_reducible repeat (first | apply Kd.R_alloc | apply Kd.R_drewN | apply Kd.R_drew)); exact HO_4.out⟩, ⟨by repeat (first | (with_reducible first | exact HB.out | apply below_alloc | apply pw_below_drewN | apply below_drew1) | exact HB.out)⟩⟩
                        case rest =>
                          clear HC27
                          try clear c1
                          try clear p1
                          try clear q1
                          try clear hx1
                          try clear c2
                          try clear c2b0
                          try clear p2
                          try clear c3
                          try clear c3b0
                          try clear p3
                          try clear q3
                          try clear hx3
                          try clear p4
                          try clear q4
                          try clear hx4
                          try clear c5
                          try clear c5b0
                          try clear c5b1
                          try clear p6
                          try clear c7
                          try clear c7b0
                          try clear c8
                          try clear c10
                          try clear c10b0
                          try clear c11
                          try clear c11b0
                          try clear p12
                          try clear q12
                          try clear hx12
                          try clear c13
                          try clear c13b0
                          try clear p14
                          try clear q14
                          try clear hx14
                          try clear c15
                          try clear c16
                          try clear c16b0
                          try clear c17
                          try clear c17b0
                          try clear p18
                          try clear q18
                          try clear hx18
                          try clear c19
                          try clear c19b0
                          try clear c20
                          try clear c21
                          try clear c22
                          try clear c25
                          try clear c25b0
                          try clear c26
                          try clear c28
                          try clear c28b0
                          try clear c29
                          try clear c29b0
                          try clear p30
                          try clear q30
                          try clear hx30
                          try clear c31
                          try clear c31b0
                          try clear p32
                          try clear q32
                          try clear hx32
                          try clear c33
                          try clear c33b0
                          try clear p1
                          try clear p12
                          try clear p14
                          try clear p18
                          try clear p2
                          try clear p30
                          try clear p32
                          try clear p4
                          try clear p6
                          try clear q1
                          try clear q12
                          try clear q14
                          try clear q18
                          try clear q30
                          try clear q32
                          try clear q4
                          obtain ⟨kq, x7_26, rfl, HA, HJ26, HO_4, HB⟩ := hcut
                          cases kq with
                          | zero => exact absurd HA.out (by simp [spinetref02_Tokens.j6])
                          | succ kj26 =>
                            have H := HA.out
                            clear HA
                            simp only [spinetref02_Tokens.j6] at H
                            by_cases c34 : 0 ≤ x5_1
                            · rw [if_pos c34] at H
                              have c34b0 := eq_true c34
                              have c34b1 : decide (0 ≤ x5_1) = true := decide_eq_true c34
                              clear c34
                              by_cases c35 : x5_1 ≤ x7_26
                              · rw [if_pos c35] at H
                                have c35b0 := eq_true c35
                                have c35b1 : decide (x5_1 ≤ x7_26) = true := decide_eq_true c35
                                clear c35
                                by_cases c36 : x7_26 ≤ (a0.size : Int)
                                · rw [if_pos c36] at H
                                  have c36b0 := eq_true c36
                                  have c36b1 : decide (x7_26 ≤ (a0.size : Int)) = true := decide_eq_true c36
                                  clear c36
                                  replace H := Option.bind_eq_some_iff.mp H
                                  obtain ⟨t192, A370, H⟩ := H
                                  replace H : (if x7_26 = (wrap64 (x5_1 + 1)) then (if x4_1.length < 5864062014805 then (spinetref02_Tokens.l0 kj26 a0 (x4_1 ++ [(⟨2, wrap64 ((wrap64 ((bt a0 x5_1))) - 97), x5_1⟩ : S91)]) x7_26) else (none)) else (if t192 = 0 then (some (([] : List (S91)), x5_1)) else (if x4_1.length < 5864062014805 then (spinetref02_Tokens.l0 kj26 a0 (x4_1 ++ [(⟨t192, 0, x5_1⟩ : S91)]) x7_26) else (none)))) = some (r1, r2) := H
                                  have A37 := Aside0.mk A370
                                  clear A370
                                  by_cases c38 : x7_26 = (wrap64 (x5_1 + 1))
                                  · rw [if_pos c38] at H
                                    have c38b0 : (x7_26 == (wrap64 (x5_1 + 1))) = true := beq_iff_eq.mpr c38
                                    have c38b1 : (x7_26 != (wrap64 (x5_1 + 1))) = false := bne_eq_false_iff_eq.mpr c38
                                    clear c38
                                    by_cases c39 : x4_1.length < 5864062014805
                                    · rw [if_pos c39] at H
                                      have LMc39 := Aside0.mk c39
                                      clear c39
                                      obtain ⟨y193, hy193⟩ : ∃ y_ : List (S91), y_ = (x4_1 ++ [(⟨2, wrap64 ((wrap64 ((bt a0 x5_1))) - 97), x5_1⟩ : S91)]) := ⟨_, rfl⟩
                                      replace H : (spinetref02_Tokens.l0 kj26 a0 y193 x7_26) = some (r1, r2) := by first | (rw [hy193]; with_reducible exact H) | (have H2_ := (Option.bind_some _ _).symm.trans H; rw [hy193]; with_reducible exact H2_) | (have H2_ := (Option.bind_some _ _).symm.trans H; with_reducible exact H2_) | with_reducible exact H | (rw [hy193]; exact H) | exact H
                                      have Ny193 := Aside0.mk hy193
                                      clear hy193
                                      have H' := Aside0.mk H
                                      clear H
                                      go_wp2_with (first | ((with_reducible refine gate_callee (f := 116) rfl ?_); refine goesL_ (some 104) rfl rfl Tryz.func116 (by kernel_rfl) rfl #[.string (a0.extract (x5_1 : Int).toNat (x7_26 : Int).toNat)] rfl (by (try simp only [List.map_toArray, List.map_cons, List.map_nil]); first | done | rfl | (simp only [List.length_drop, List.length_take]; rfl)) ?_; (with_reducible refine (spinetref02_Word.calls (a0.extract (x5_1 : Int).toNat (x7_26 : Int).toNat) t192 _ A37.out).mono ?_); rintro e w' ⟨rfl, ⟨nd, rfl⟩⟩; refine ⟨_, rfl, ?_⟩) | ((with_reducible refine gate_builtin (b := .append) (xs := #[.tmp 109, .tmp 115]) rfl ?_); at_builtin; refine Kd.R_append k91 (w0 := w) w.heap.size rfl (.tmp 109) (.tmp 115) 92 91 (.agg #[(.int .i64 0), (.int .i64 0), (.int .i64 0)]) 24 rfl Tryz.underlying92 info91 rfl (by decide) (by omega) u4 x4_1 (⟨2, wrap64 ((wrap64 ((bt a0 x5_1))) - 97), x5_1⟩ : S91) [.int .i64 2, .int .i64 (wrap64 ((wrap64 ((bt a0 x5_1))) - 97)), .int .i64 x5_1] (fun _ => True) (fun _ => False) rfl rfl ?aP (fun _ hk => hk.elim) ?aF ?aO ?aB ?aS ?aL ?_; (case aP => exact k91_mkM _ _ _ (⟨2, wrap64 ((wrap64 ((bt a0 x5_1))) - 97), x5_1⟩ : S91)); (case aB => exact (by repeat (first | (with_reducible first | exact HB.out | apply below_alloc | apply pw_below_drewN | apply below_drew1) | exact HB.out))); (case aF => exact (fun _ _ => trivial)); (case aO => exact (by (with_reducible repeat (first | apply Kd.R_alloc | apply Kd.R_drewN | apply Kd.R_drew)); exact HO_4.out)); (case aS => exact (below_size (by repeat (first | (with_reducible first | exact HB.out | apply below_alloc | apply pw_below_drewN | apply below_drew1) | exact HB.out)))); (case aL => have := LMc39.out; omega); intro v194 w40 ho hb hg hat; rw [← Ny193.out] at ho; have n0_ := Aside0.mk (hb); have n1_ := Aside0.mk (ho); clear HB; clear HO_4; have HB := n0_; have HO195 := n1_; clear n0_ n1_; clear ho hb hg hat))
                                      go_roundg kj26
                                      case measure => have := HK1.out; have := HJ5.out; have := HJ23.out; have := HJ26.out; omega
                                      case rel => exact ⟨(y193), (x7_26), (by first | rfl | (simp; done) | (simp [*]; done)), H', ⟨by have := HK1.out; have := HJ5.out; have := HJ23.out; have := HJ26.out; omega⟩, ⟨by (with_reducible repeat (first | apply Kd.R_alloc | apply Kd.R_drewN | apply Kd.R_drew)); exact HO195.out⟩, ⟨by repeat (first | (with_reducible first | exact HB.out | apply below_alloc | apply pw_below_drewN | apply below_drew1) | exact HB.out)⟩⟩
                                    · rw [if_neg c39] at H
                                      exact absurd H (by simp)
                                  · rw [if_neg c38] at H
                                    have c38b0 : (x7_26 == (wrap64 (x5_1 + 1))) = false := beq_eq_false_iff_ne.mpr c38
                                    have c38b1 : (x7_26 != (wrap64 (x5_1 + 1))) = true := bne_iff_ne.mpr c38
                                    by_cases c41 : t192 = 0
                                    · rw [if_pos c41] at H
                                      have c41b0 : (t192 == 0) = true := beq_iff_eq.mpr c41
                                      have c41b1 : (t192 != 0) = false := bne_eq_false_iff_eq.mpr c41
                                      clear c41
                                      simp only [Option.some.injEq, Prod.mk.injEq] at H
                                      obtain ⟨rfl, rfl⟩ := H
                                      go_wp2_with (first | ((with_reducible refine gate_callee (f := 116) rfl ?_); refine goesL_ (some 104) rfl rfl Tryz.func116 (by kernel_rfl) rfl #[.string (a0.extract (x5_1 : Int).toNat (x7_26 : Int).toNat)] rfl (by (try simp only [List.map_toArray, List.map_cons, List.map_nil]); first | done | rfl | (simp only [List.length_drop, List.length_take]; rfl)) ?_; (with_reducible refine (spinetref02_Word.calls (a0.extract (x5_1 : Int).toNat (x7_26 : Int).toNat) t192 _ A37.out).mono ?_); rintro e w' ⟨rfl, ⟨nd, rfl⟩⟩; refine ⟨_, rfl, ?_⟩))
                                      go_ret2
                                      exact ⟨_, by first | rfl | (simp [errW_none, errW_some] <;> rfl) | (simp [*, errW_none, errW_some] <;> rfl), by first | exact Kd.R_nil _ _ _ _ _ | exact Kd.N_nil _ _ _ _ _ | exact Kd.V_nil _ _ _ _ _ | exact Kd.Q_nil _ _ _ _ _ | exact Kd.S_nil _ _ _ _ _, by repeat (first | (with_reducible first | exact HB.out | apply below_alloc | apply pw_below_drewN | apply below_drew1) | exact HB.out)⟩
                                    · rw [if_neg c41] at H
                                      have c41b0 : (t192 == 0) = false := beq_eq_false_iff_ne.mpr c41
                                      have c41b1 : (t192 != 0) = true := bne_iff_ne.mpr c41
                                      by_cases c42 : x4_1.length < 5864062014805
                                      · rw [if_pos c42] at H
                                        have LMc42 := Aside0.mk c42
                                        clear c42
                                        obtain ⟨y196, hy196⟩ : ∃ y_ : List (S91), y_ = (x4_1 ++ [(⟨t192, 0, x5_1⟩ : S91)]) := ⟨_, rfl⟩
                                        replace H : (spinetref02_Tokens.l0 kj26 a0 y196 x7_26) = some (r1, r2) := by first | (rw [hy196]; with_reducible exact H) | (have H2_ := (Option.bind_some _ _).symm.trans H; rw [hy196]; with_reducible exact H2_) | (have H2_ := (Option.bind_some _ _).symm.trans H; with_reducible exact H2_) | with_reducible exact H | (rw [hy196]; exact H) | exact H
                                        have Ny196 := Aside0.mk hy196
                                        clear hy196
                                        have H' := Aside0.mk H
                                        clear H
                                        go_wp2_with (first | ((with_reducible refine gate_callee (f := 116) rfl ?_); refine goesL_ (some 104) rfl rfl Tryz.func116 (by kernel_rfl) rfl #[.string (a0.extract (x5_1 : Int).toNat (x7_26 : Int).toNat)] rfl (by (try simp only [List.map_toArray, List.map_cons, List.map_nil]); first | done | rfl | (simp only [List.length_drop, List.length_take]; rfl)) ?_; (with_reducible refine (spinetref02_Word.calls (a0.extract (x5_1 : Int).toNat (x7_26 : Int).toNat) t192 _ A37.out).mono ?_); rintro e w' ⟨rfl, ⟨nd, rfl⟩⟩; refine ⟨_, rfl, ?_⟩) | ((with_reducible refine gate_builtin (b := .append) (xs := #[.tmp 119, .tmp 123]) rfl ?_); at_builtin; refine Kd.R_append k91 (w0 := w) w.heap.size rfl (.tmp 119) (.tmp 123) 92 91 (.agg #[(.int .i64 0), (.int .i64 0), (.int .i64 0)]) 24 rfl Tryz.underlying92 info91 rfl (by decide) (by omega) u4 x4_1 (⟨t192, 0, x5_1⟩ : S91) [.int .i64 t192, .int .i64 0, .int .i64 x5_1] (fun _ => True) (fun _ => False) rfl rfl ?aP (fun _ hk => hk.elim) ?aF ?aO ?aB ?aS ?aL ?_; (case aP => exact k91_mkM _ _ _ (⟨t192, 0, x5_1⟩ : S91)); (case aB => exact (by repeat (first | (with_reducible first | exact HB.out | apply below_alloc | apply pw_below_drewN | apply below_drew1) | exact HB.out))); (case aF => exact (fun _ _ => trivial)); (case aO => exact (by (with_reducible repeat (first | apply Kd.R_alloc | apply Kd.R_drewN | apply Kd.R_drew)); exact HO_4.out)); (case aS => exact (below_size (by repeat (first | (with_reducible first | exact HB.out | apply below_alloc | apply pw_below_drewN | apply below_drew1) | exact HB.out)))); (case aL => have := LMc42.out; omega); intro v197 w43 ho hb hg hat; rw [← Ny196.out] at ho; have n0_ := Aside0.mk (hb); have n1_ := Aside0.mk (ho); clear HB; clear HO_4; have HB := n0_; have HO198 := n1_; clear n0_ n1_; clear ho hb hg hat))
                                        go_roundg kj26
                                        case measure => have := HK1.out; have := HJ5.out; have := HJ23.out; have := HJ26.out; omega
                                        case rel => exact ⟨(y196), (x7_26), (by first | rfl | (simp; done) | (simp [*]; done)), H', ⟨by have := HK1.out; have := HJ5.out; have := HJ23.out; have := HJ26.out; omega⟩, ⟨by (with_reducible repeat (first | apply Kd.R_alloc | apply Kd.R_drewN | apply Kd.R_drew)); exact HO198.out⟩, ⟨by repeat (first | (with_reducible first | exact HB.out | apply below_alloc | apply pw_below_drewN | apply below_drew1) | exact HB.out)⟩⟩
                                      · rw [if_neg c42] at H
                                        exact absurd H (by simp)
                                · rw [if_neg c36] at H
                                  exact absurd H (by simp)
                              · rw [if_neg c35] at H
                                exact absurd H (by simp)
                            · rw [if_neg c34] at H
                              exact absurd H (by simp)
                      · replace c26 := Bool.eq_false_iff.mpr c26
                        subst c26
                        have H1 : (if 0 ≤ x5_1 then (if x5_1 ≤ (a0.size : Int) then ((spinetref02_sign.f kj23 (a0.extract (x5_1 : Int).toNat a0.size)).bind fun bt199 => (if bt199.2 = 0 then (some (([] : List (S91)), x5_1)) else (if x4_1.length < 5864062014805 then (spinetref02_Tokens.l0 kj23 a0 (x4_1 ++ [(⟨bt199.1, 0, x5_1⟩ : S91)]) (wrap64 (x5_1 + bt199.2))) else (none)))) else (none)) else (none)) = some (r1, r2) := by rw [if_neg (show ¬ (false = true) by decide)] at H; exact H
                        clear H
                        have H := H1
                        clear H1
                        by_cases c44 : 0 ≤ x5_1
                        · rw [if_pos c44] at H
                          have c44b0 := eq_true c44
                          have c44b1 : decide (0 ≤ x5_1) = true := decide_eq_true c44
                          clear c44
                          by_cases c45 : x5_1 ≤ (a0.size : Int)
                          · rw [if_pos c45] at H
                            have c45b0 := eq_true c45
                            have c45b1 : decide (x5_1 ≤ (a0.size : Int)) = true := decide_eq_true c45
                            clear c45
                            replace H := Option.bind_eq_some_iff.mp H
                            obtain ⟨⟨t199, t200⟩, A460, H⟩ := H
                            replace H : (if t200 = 0 then (some (([] : List (S91)), x5_1)) else (if x4_1.length < 5864062014805 then (spinetref02_Tokens.l0 kj23 a0 (x4_1 ++ [(⟨t199, 0, x5_1⟩ : S91)]) (wrap64 (x5_1 + t200))) else (none))) = some (r1, r2) := H
                            have A46 := Aside0.mk A460
                            clear A460
                            by_cases c47 : t200 = 0
                            · rw [if_pos c47] at H
                              have c47b0 : (t200 == 0) = true := beq_iff_eq.mpr c47
                              have c47b1 : (t200 != 0) = false := bne_eq_false_iff_eq.mpr c47
                              clear c47
                              simp only [Option.some.injEq, Prod.mk.injEq] at H
                              obtain ⟨rfl, rfl⟩ := H
                              go_wp2_with (first | ((with_reducible refine gate_callee (f := 117) rfl ?_); refine goesL_ (some 131) rfl rfl Tryz.func117 (by kernel_rfl) rfl #[.string (a0.extract (x5_1 : Int).toNat a0.size)] rfl (by (try simp only [List.map_toArray, List.map_cons, List.map_nil]); first | done | rfl | (simp only [List.length_drop, List.length_take]; rfl)) ?_; (with_reducible refine (spinetref02_sign.calls kj23 (a0.extract (x5_1 : Int).toNat a0.size) t199 t200 _ A46.out).mono ?_); rintro e w' ⟨rfl, ⟨nd, rfl⟩⟩; refine ⟨_, rfl, ?_⟩))
                              go_ret2
                              exact ⟨_, by first | rfl | (simp [errW_none, errW_some] <;> rfl) | (simp [*, errW_none, errW_some] <;> rfl), by first | exact Kd.R_nil _ _ _ _ _ | exact Kd.N_nil _ _ _ _ _ | exact Kd.V_nil _ _ _ _ _ | exact Kd.Q_nil _ _ _ _ _ | exact Kd.S_nil _ _ _ _ _, by repeat (first | (with_reducible first | exact HB.out | apply below_alloc | apply pw_below_drewN | apply below_drew1) | exact HB.out)⟩
                            · rw [if_neg c47] at H
                              have c47b0 : (t200 == 0) = false := beq_eq_false_iff_ne.mpr c47
                              have c47b1 : (t200 != 0) = true := bne_iff_ne.mpr c47
                              by_cases c48 : x4_1.length < 5864062014805
                              · rw [if_pos c48] at H
                                have LMc48 := Aside0.mk c48
                                clear c48
                                obtain ⟨y201, hy201⟩ : ∃ y_ : List (S91), y_ = (x4_1 ++ [(⟨t199, 0, x5_1⟩ : S91)]) := ⟨_, rfl⟩
                                replace H : (spinetref02_Tokens.l0 kj23 a0 y201 (wrap64 (x5_1 + t200))) = some (r1, r2) := by first | (rw [hy201]; with_reducible exact H) | (have H2_ := (Option.bind_some _ _).symm.trans H; rw [hy201]; with_reducible exact H2_) | (have H2_ := (Option.bind_some _ _).symm.trans H; with_reducible exact H2_) | with_reducible exact H | (rw [hy201]; exact H) | exact H
                                have Ny201 := Aside0.mk hy201
                                clear hy201
                                have H' := Aside0.mk H
                                clear H
                                go_wp2_with (first | ((with_reducible refine gate_callee (f := 117) rfl ?_); refine goesL_ (some 131) rfl rfl Tryz.func117 (by kernel_rfl) rfl #[.string (a0.extract (x5_1 : Int).toNat a0.size)] rfl (by (try simp only [List.map_toArray, List.map_cons, List.map_nil]); first | done | rfl | (simp only [List.length_drop, List.length_take]; rfl)) ?_; (with_reducible refine (spinetref02_sign.calls kj23 (a0.extract (x5_1 : Int).toNat a0.size) t199 t200 _ A46.out).mono ?_); rintro e w' ⟨rfl, ⟨nd, rfl⟩⟩; refine ⟨_, rfl, ?_⟩) | ((with_reducible refine gate_builtin (b := .append) (xs := #[.tmp 137, .tmp 141]) rfl ?_); at_builtin; refine Kd.R_append k91 (w0 := w) w.heap.size rfl (.tmp 137) (.tmp 141) 92 91 (.agg #[(.int .i64 0), (.int .i64 0), (.int .i64 0)]) 24 rfl Tryz.underlying92 info91 rfl (by decide) (by omega) u4 x4_1 (⟨t199, 0, x5_1⟩ : S91) [.int .i64 t199, .int .i64 0, .int .i64 x5_1] (fun _ => True) (fun _ => False) rfl rfl ?aP (fun _ hk => hk.elim) ?aF ?aO ?aB ?aS ?aL ?_; (case aP => exact k91_mkM _ _ _ (⟨t199, 0, x5_1⟩ : S91)); (case aB => exact (by repeat (first | (with_reducible first | exact HB.out | apply below_alloc | apply pw_below_drewN | apply below_drew1) | exact HB.out))); (case aF => exact (fun _ _ => trivial)); (case aO => exact (by (with_reducible repeat (first | apply Kd.R_alloc | apply Kd.R_drewN | apply Kd.R_drew)); exact HO_4.out)); (case aS => exact (below_size (by repeat (first | (with_reducible first | exact HB.out | apply below_alloc | apply pw_below_drewN | apply below_drew1) | exact HB.out)))); (case aL => have := LMc48.out; omega); intro v202 w49 ho hb hg hat; rw [← Ny201.out] at ho; have n0_ := Aside0.mk (hb); have n1_ := Aside0.mk (ho); clear HB; clear HO_4; have HB := n0_; have HO203 := n1_; clear n0_ n1_; clear ho hb hg hat))
                                go_roundg kj23
                                case measure => have := HK1.out; have := HJ5.out; have := HJ23.out; omega
                                case rel => exact ⟨(y201), (wrap64 (x5_1 + t200)), (by first | rfl | (simp; done) | (simp [*]; done)), H', ⟨by have := HK1.out; have := HJ5.out; have := HJ23.out; omega⟩, ⟨by (with_reducible repeat (first | apply Kd.R_alloc | apply Kd.R_drewN | apply Kd.R_drew)); exact HO203.out⟩, ⟨by repeat (first | (with_reducible first | exact HB.out | apply below_alloc | apply pw_below_drewN | apply below_drew1) | exact HB.out)⟩⟩
                              · rw [if_neg c48] at H
                                exact absurd H (by simp)
                          · rw [if_neg c45] at H
                            exact absurd H (by simp)
                        · rw [if_neg c44] at H
                          exact absurd H (by simp)
        · rw [if_neg c3] at H
          exact absurd H (by simp)
      · rw [if_neg c2] at H
        have c2b0 : decide (x5_1 < (a0.size : Int)) = false := decide_eq_false c2
        clear c2
        simp only [Option.some.injEq, Prod.mk.injEq] at H
        obtain ⟨rfl, rfl⟩ := H
        go_wp2
        go_ret2
        exact ⟨_, by first | rfl | (simp [errW_none, errW_some] <;> rfl) | (simp [*, errW_none, errW_some] <;> rfl), by (with_reducible repeat (first | apply Kd.R_alloc | apply Kd.R_drewN | apply Kd.R_drew)); exact HO_4.out, by repeat (first | (with_reducible first | exact HB.out | apply below_alloc | apply pw_below_drewN | apply below_drew1) | exact HB.out)⟩
end Go.Proofs.YtemoonhnncopoaaGreatDoor.PAll
end
