-- printed by the kit's print.py, regrouped by repack.py
import Derived.Test.YtldcplgfkcionaaDoorPAllT
import Derived.Test.YtldcplgfkcionaaDoorPAllRef2
namespace Go.Proofs.YtldcplgfkcionaaDoor.PAll
open Go.RowKit Go.Proofs.YtldcplgfkcionaaDoorW.PrintWords Go.Proofs.YtldcplgfkcionaaDoorW.PrintLast Go.Proofs.YtldcplgfkcionaaDoorW.PrintMore
attribute [local go_sem] max2_int min2_int max_two min_two max_three min_three max_four min_four   -- for this text's walks alone
set_option linter.unusedVariables false
set_option linter.unusedSimpArgs false

/-! ### spinetref02_Text: function 19 -/
mutual
def spinetref02_Text.l0 : Nat → List (S40) → ByteArray → Int → Option (ByteArray × Bool)
  | 0, _, _, _ => none
  | k + 1, x0, x4, x5 => if x5 < (x0.length : Int) then (if 0 ≤ x5 then (if ((rd_T40 x0 x5).f0) = 1 then (spinetref02_Text.j1 k x0 x4 x5 (⟨#[]⟩ : ByteArray) (decide (((rd_T40 x0 x5).f1) ≥ 0))) else (spinetref02_Text.j1 k x0 x4 x5 (⟨#[]⟩ : ByteArray) false)) else (none)) else (some (x4, true))
def spinetref02_Text.j3 : Nat → List (S40) → ByteArray → Int → ByteArray → Option (ByteArray × Bool)
  | 0, _, _, _, _ => none
  | k + 1, x0, x4, x5, x6 => if x6.toList = ([] : List UInt8) then (some ((⟨#[]⟩ : ByteArray), false)) else (if x5 > 0 then (if x4.size + 1 ≤ 9223372036854775807 then (if (x4 ++ (⟨#[32]⟩ : ByteArray)).size + x6.size ≤ 9223372036854775807 then (spinetref02_Text.l0 k x0 ((x4 ++ (⟨#[32]⟩ : ByteArray)) ++ x6) (wrap64 (x5 + 1))) else (none)) else (none)) else (if x4.size + x6.size ≤ 9223372036854775807 then (spinetref02_Text.l0 k x0 (x4 ++ x6) (wrap64 (x5 + 1))) else (none)))
def spinetref02_Text.j1 : Nat → List (S40) → ByteArray → Int → ByteArray → Bool → Option (ByteArray × Bool)
  | 0, _, _, _, _, _ => none
  | k + 1, x0, x4, x5, x6, x13 => if x13 = true then (if 0 ≤ x5 then (if x5 < (x0.length : Int) then ((spinetref02_Digits.f k ((rd_T40 x0 x5).f1)).bind fun t325 => (spinetref02_Text.j3 k x0 x4 x5 t325)) else (none)) else (none)) else (if 0 ≤ x5 then (if x5 < (x0.length : Int) then (if ((rd_T40 x0 x5).f0) = 2 then (if ((rd_T40 x0 x5).f1) ≥ 0 then (spinetref02_Text.j2 k x0 x4 x5 x6 (decide (((rd_T40 x0 x5).f1) < 26))) else (spinetref02_Text.j2 k x0 x4 x5 x6 false)) else (spinetref02_Text.j2 k x0 x4 x5 x6 false)) else (none)) else (none))
def spinetref02_Text.j2 : Nat → List (S40) → ByteArray → Int → ByteArray → Bool → Option (ByteArray × Bool)
  | 0, _, _, _, _, _ => none
  | k + 1, x0, x4, x5, x6, x34 => if x34 = true then (if 0 ≤ x5 then (if x5 < (x0.length : Int) then (spinetref02_Text.j3 k x0 x4 x5 (strOfNums (([(wrap64 (97 + ((rd_T40 x0 x5).f1))) % 256] : List Int)))) else (none)) else (none)) else (if 0 ≤ x5 then (if x5 < (x0.length : Int) then (if ((rd_T40 x0 x5).f1) = 0 then ((spinetref02_Sign.f ((rd_T40 x0 x5).f0)).bind fun t335 => (spinetref02_Text.j3 k x0 x4 x5 t335)) else (spinetref02_Text.j3 k x0 x4 x5 x6)) else (none)) else (none))
end
def spinetref02_Text.f (k : Nat) (l0 : List (S40)) : Option (ByteArray × Bool) := spinetref02_Text.l0 k l0 (⟨#[]⟩ : ByteArray) 0
theorem spinetref02_Text.mono_l : ∀ k, (∀ y0 y1 y2, LeO (spinetref02_Text.l0 k y0 y1 y2) (spinetref02_Text.l0 (k + 1) y0 y1 y2)) ∧ (∀ y0 y1 y2 y3, LeO (spinetref02_Text.j3 k y0 y1 y2 y3) (spinetref02_Text.j3 (k + 1) y0 y1 y2 y3)) ∧ (∀ y0 y1 y2 y3 y4, LeO (spinetref02_Text.j1 k y0 y1 y2 y3 y4) (spinetref02_Text.j1 (k + 1) y0 y1 y2 y3 y4)) ∧ (∀ y0 y1 y2 y3 y4, LeO (spinetref02_Text.j2 k y0 y1 y2 y3 y4) (spinetref02_Text.j2 (k + 1) y0 y1 y2 y3 y4))
  | 0 => ⟨fun _ _ _ r h => by simp [spinetref02_Text.l0] at h, fun _ _ _ _ r h => by simp [spinetref02_Text.j3] at h, fun _ _ _ _ _ r h => by simp [spinetref02_Text.j1] at h, fun _ _ _ _ _ r h => by simp [spinetref02_Text.j2] at h⟩
  | k + 1 => by
    obtain ⟨ih0, ih1, ih2, ih3⟩ := spinetref02_Text.mono_l k
    refine ⟨?_, ?_, ?_, ?_⟩
    · intro y0 y1 y2
      unfold spinetref02_Text.l0
      repeat' first
      | (with_reducible exact ih0 _ _ _)
      | (with_reducible exact ih1 _ _ _ _)
      | (with_reducible exact ih2 _ _ _ _ _)
      | (with_reducible exact ih3 _ _ _ _ _)
      | (with_reducible exact spinetref02_Digits.mono _ _)
      | (with_reducible exact LeO.refl _)
      | (with_reducible exact LeO.none _)
      | (with_reducible refine LeO.ite ?_ ?_)
      | (with_reducible refine LeO.bind ?_ (fun _ => ?_))
      | exact ih0 _ _ _
      | exact ih1 _ _ _ _
      | exact ih2 _ _ _ _ _
      | exact ih3 _ _ _ _ _
      | exact spinetref02_Digits.mono _ _
      | exact LeO.none _
      | refine LeO.ite ?_ ?_
      | refine LeO.bind ?_ (fun _ => ?_)
    · intro y0 y1 y2 y3
      unfold spinetref02_Text.j3
      repeat' first
      | (with_reducible exact ih0 _ _ _)
      | (with_reducible exact ih1 _ _ _ _)
      | (with_reducible exact ih2 _ _ _ _ _)
      | (with_reducible exact ih3 _ _ _ _ _)
      | (with_reducible exact spinetref02_Digits.mono _ _)
      | (with_reducible exact LeO.refl _)
      | (with_reducible exact LeO.none _)
      | (with_reducible refine LeO.ite ?_ ?_)
      | (with_reducible refine LeO.bind ?_ (fun _ => ?_))
      | exact ih0 _ _ _
      | exact ih1 _ _ _ _
      | exact ih2 _ _ _ _ _
      | exact ih3 _ _ _ _ _
      | exact spinetref02_Digits.mono _ _
      | exact LeO.none _
      | refine LeO.ite ?_ ?_
      | refine LeO.bind ?_ (fun _ => ?_)
    · intro y0 y1 y2 y3 y4
      unfold spinetref02_Text.j1
      repeat' first
      | (with_reducible exact ih0 _ _ _)
      | (with_reducible exact ih1 _ _ _ _)
      | (with_reducible exact ih2 _ _ _ _ _)
      | (with_reducible exact ih3 _ _ _ _ _)
      | (with_reducible exact spinetref02_Digits.mono _ _)
      | (with_reducible exact LeO.refl _)
      | (with_reducible exact LeO.none _)
      | (with_reducible refine LeO.ite ?_ ?_)
      | (with_reducible refine LeO.bind ?_ (fun _ => ?_))
      | exact ih0 _ _ _
      | exact ih1 _ _ _ _
      | exact ih2 _ _ _ _ _
      | exact ih3 _ _ _ _ _
      | exact spinetref02_Digits.mono _ _
      | exact LeO.none _
      | refine LeO.ite ?_ ?_
      | refine LeO.bind ?_ (fun _ => ?_)
    · intro y0 y1 y2 y3 y4
      unfold spinetref02_Text.j2
      repeat' first
      | (with_reducible exact ih0 _ _ _)
      | (with_reducible exact ih1 _ _ _ _)
      | (with_reducible exact ih2 _ _ _ _ _)
      | (with_reducible exact ih3 _ _ _ _ _)
      | (with_reducible exact spinetref02_Digits.mono _ _)
      | (with_reducible exact LeO.refl _)
      | (with_reducible exact LeO.none _)
      | (with_reducible refine LeO.ite ?_ ?_)
      | (with_reducible refine LeO.bind ?_ (fun _ => ?_))
      | exact ih0 _ _ _
      | exact ih1 _ _ _ _
      | exact ih2 _ _ _ _ _
      | exact ih3 _ _ _ _ _
      | exact spinetref02_Digits.mono _ _
      | exact LeO.none _
      | refine LeO.ite ?_ ?_
      | refine LeO.bind ?_ (fun _ => ?_)
theorem spinetref02_Text.mono : ∀ a0 k, LeO (spinetref02_Text.f k a0) (spinetref02_Text.f (k + 1) a0) := by
  intro a0 k
  obtain ⟨ih0, ih1, ih2, ih3⟩ := spinetref02_Text.mono_l k
  unfold spinetref02_Text.f
  repeat' first
      | (with_reducible exact ih0 _ _ _)
      | (with_reducible exact ih1 _ _ _ _)
      | (with_reducible exact ih2 _ _ _ _ _)
      | (with_reducible exact ih3 _ _ _ _ _)
      | (with_reducible exact spinetref02_Digits.mono _ _)
      | (with_reducible exact LeO.refl _)
      | (with_reducible exact LeO.none _)
      | (with_reducible refine LeO.ite ?_ ?_)
      | (with_reducible refine LeO.bind ?_ (fun _ => ?_))
      | exact ih0 _ _ _
      | exact ih1 _ _ _ _
      | exact ih2 _ _ _ _ _
      | exact ih3 _ _ _ _ _
      | exact spinetref02_Digits.mono _ _
      | exact LeO.none _
      | refine LeO.ite ?_ ?_
      | refine LeO.bind ?_ (fun _ => ?_)
set_option maxHeartbeats 8000000 in
set_option maxRecDepth 100000 in
theorem spinetref02_Text.calls (k : Nat) (A0 : Option Addr) (c0 : Nat) (l0 : List (S40)) (r1 : ByteArray) (r2 : Bool) (w : World) (hr0 : Kd.C k40 w A0 l0.length l0) (hc0 : l0.length ≤ c0) (h : spinetref02_Text.f k l0 = some (r1, r2)) :
    Calls Tryd.prog 19 #[.slice A0 l0.length c0] w fun e w' => e = .returned (.tuple #[.string r1, .bool r2]) ∧ Below w.heap.size w w' := by
  have HR0 := Aside0.mk hr0
  have HC0 := Aside0.mk hc0
  clear hr0 hc0
  have HB := Aside0.mk (Below.refl w.heap.size w)
  have H : (spinetref02_Text.l0 k l0 (⟨#[]⟩ : ByteArray) 0) = some (r1, r2) := h
  clear h
  have H' := Aside0.mk H
  clear H
  go_enter Tryd.func19, Tryd.ntmps19
  go_wp2
  go_loopg [4, 5] k (fun kq v4 v5 w' => ∃ (x4_1 : ByteArray) (x5_1 : Int), v4 = .string x4_1 ∧ v5 = .int .i64 x5_1 ∧ Aside0 (spinetref02_Text.l0 kq l0 x4_1 x5_1 = some (r1, r2)) ∧ Aside0 (kq ≤ k) ∧ Aside0 (Below w.heap.size w w'))
  case atStart => exact ⟨((⟨#[]⟩ : ByteArray)), (0), (by first | rfl | (simp; done) | (simp [*]; done)), (by first | rfl | (simp; done) | (simp [*]; done)), H', ⟨Nat.le_refl _⟩, ⟨by repeat (first | (with_reducible first | exact HB.out | apply below_alloc | apply pw_below_drewN | apply below_drew1) | exact HB.out)⟩⟩
  case round =>
    clear H'
    try clear c1
    obtain ⟨x4_1, x5_1, rfl, rfl, HA, HK1, HB⟩ := hrel
    cases gk with
    | zero => exact absurd HA.out (by simp [spinetref02_Text.l0])
    | succ k1 =>
      have H := HA.out
      clear HA
      simp only [spinetref02_Text.l0] at H
      by_cases c2 : x5_1 < (l0.length : Int)
      · rw [if_pos c2] at H
        have c2b0 : decide (x5_1 < (l0.length : Int)) = true := decide_eq_true c2
        clear c2
        have HC3 := Aside0.mk H
        clear H
        go_upto_block 2 with (fail)
        go_cut [6] (fun v6 wc => ∃ (kq : Nat) (x6_2 : ByteArray), v6 = .string x6_2 ∧ Aside0 (spinetref02_Text.j3 kq l0 x4_1 x5_1 x6_2 = some (r1, r2)) ∧ Aside0 (kq ≤ k1) ∧ Aside0 (Below w.heap.size w wc))
        case first =>
          have H := HC3.out
          clear HC3
          have HC4 := Aside0.mk H
          clear H
          go_upto_region 6 with (fail)
          go_cut [13] (fun v13 wc => ∃ (kq : Nat) (x13_3 : Bool), v13 = .bool x13_3 ∧ Aside0 (spinetref02_Text.j1 kq l0 x4_1 x5_1 (⟨#[]⟩ : ByteArray) x13_3 = some (r1, r2)) ∧ Aside0 (kq ≤ k1) ∧ Aside0 (Below w.heap.size w wc))
          case first =>
            have H := HC4.out
            clear HC4
            by_cases c5 : 0 ≤ x5_1
            · rw [if_pos c5] at H
              have c5b0 : decide (0 ≤ x5_1) = true := decide_eq_true c5
              clear c5
              (first | rw [c5b0] | (simp only [i64_w, i32_w]; rw [c5b0]) | skip)
              by_cases c6 : ((rd_T40 l0 x5_1).f0) = 1
              · rw [if_pos c6] at H
                have c6b0 : (((rd_T40 l0 x5_1).f0) == 1) = true := beq_iff_eq.mpr c6
                have c6b1 : (((rd_T40 l0 x5_1).f0) != 1) = false := bne_eq_false_iff_eq.mpr c6
                clear c6
                have H' := Aside0.mk H
                clear H
                have p322 : 0 ≤ (x5_1 : Int) := of_decide_eq_true (by first | (with_reducible assumption) | assumption)
                have q322 : x5_1 < (l0.length : Int) := of_decide_eq_true (by first | (with_reducible assumption) | assumption)
                obtain ⟨ad322, e322, hx322_0, hx322_1, hx322_2⟩ := at_T40 HR0.out x5_1 p322 q322
                cases e322
                replace hx322_0 := (HB.out.cell (World.block_lt_of_cell? w _ hx322_0)).trans hx322_0
                replace hx322_1 := (HB.out.cell (World.block_lt_of_cell? w _ hx322_1)).trans hx322_1
                replace hx322_2 := (HB.out.cell (World.block_lt_of_cell? w _ hx322_2)).trans hx322_2
                replace p322 := eq_true p322
                replace q322 := eq_true q322
                have p323 : 0 ≤ (x5_1 : Int) := of_decide_eq_true (by first | (with_reducible assumption) | assumption)
                have q323 : x5_1 < (l0.length : Int) := of_decide_eq_true (by first | (with_reducible assumption) | assumption)
                obtain ⟨ad323, e323, hx323_0, hx323_1, hx323_2⟩ := at_T40 HR0.out x5_1 p323 q323
                obtain rfl : ad322 = ad323 := (by injection e323)
                replace hx323_0 := (HB.out.cell (World.block_lt_of_cell? w _ hx323_0)).trans hx323_0
                replace hx323_1 := (HB.out.cell (World.block_lt_of_cell? w _ hx323_1)).trans hx323_1
                replace hx323_2 := (HB.out.cell (World.block_lt_of_cell? w _ hx323_2)).trans hx323_2
                replace p323 := eq_true p323
                replace q323 := eq_true q323
                go_wp2
                go_meet
                case rel => exact ⟨_, (decide (((rd_T40 l0 x5_1).f1) ≥ 0)), (by first | rfl | (simp; done) | (simp [*]; done)), H', ⟨by have := HK1.out; first | omega | exact Nat.le_refl _⟩, ⟨by repeat (first | (with_reducible first | exact HB.out | apply below_alloc | apply pw_below_drewN | apply below_drew1) | exact HB.out)⟩⟩
              · rw [if_neg c6] at H
                have c6b0 : (((rd_T40 l0 x5_1).f0) == 1) = false := beq_eq_false_iff_ne.mpr c6
                have c6b1 : (((rd_T40 l0 x5_1).f0) != 1) = true := bne_iff_ne.mpr c6
                have H' := Aside0.mk H
                clear H
                have p322 : 0 ≤ (x5_1 : Int) := of_decide_eq_true (by first | (with_reducible assumption) | assumption)
                have q322 : x5_1 < (l0.length : Int) := of_decide_eq_true (by first | (with_reducible assumption) | assumption)
                obtain ⟨ad322, e322, hx322_0, hx322_1, hx322_2⟩ := at_T40 HR0.out x5_1 p322 q322
                cases e322
                replace hx322_0 := (HB.out.cell (World.block_lt_of_cell? w _ hx322_0)).trans hx322_0
                replace hx322_1 := (HB.out.cell (World.block_lt_of_cell? w _ hx322_1)).trans hx322_1
                replace hx322_2 := (HB.out.cell (World.block_lt_of_cell? w _ hx322_2)).trans hx322_2
                replace p322 := eq_true p322
                replace q322 := eq_true q322
                go_wp2
                go_meet
                case rel => exact ⟨_, (false), (by first | rfl | (simp; done) | (simp [*]; done)), H', ⟨by have := HK1.out; first | omega | exact Nat.le_refl _⟩, ⟨by repeat (first | (with_reducible first | exact HB.out | apply below_alloc | apply pw_below_drewN | apply below_drew1) | exact HB.out)⟩⟩
            · rw [if_neg c5] at H
              exact absurd H (by simp)
          case rest =>
            clear HC4
            try clear c1
            try clear c2
            try clear c2b0
            try clear p2
            try clear p3
            try clear q3
            try clear hx3
            try clear c5
            try clear c5b0
            try clear c6
            try clear c6b0
            try clear c6b1
            try clear hx322_0
            try clear hx322_1
            try clear hx322_2
            try clear hx323_0
            try clear hx323_1
            try clear hx323_2
            try clear p322
            try clear p323
            try clear q322
            try clear q323
            obtain ⟨kq, x13_3, rfl, HA, HJ3, HB⟩ := hcut
            cases kq with
            | zero => exact absurd HA.out (by simp [spinetref02_Text.j1])
            | succ kj3 =>
              have H := HA.out
              clear HA
              simp only [spinetref02_Text.j1] at H
              by_cases c7 : x13_3 = true
              · subst c7
                have H1 : (if 0 ≤ x5_1 then (if x5_1 < (l0.length : Int) then ((spinetref02_Digits.f kj3 ((rd_T40 l0 x5_1).f1)).bind fun t325 => (spinetref02_Text.j3 kj3 l0 x4_1 x5_1 t325)) else (none)) else (none)) = some (r1, r2) := by rw [if_pos rfl] at H; exact H
                clear H
                have H := H1
                clear H1
                by_cases c8 : 0 ≤ x5_1
                · rw [if_pos c8] at H
                  have c8b0 : decide (0 ≤ x5_1) = true := decide_eq_true c8
                  clear c8
                  by_cases c9 : x5_1 < (l0.length : Int)
                  · rw [if_pos c9] at H
                    have c9b0 : decide (x5_1 < (l0.length : Int)) = true := decide_eq_true c9
                    clear c9
                    replace H := Option.bind_eq_some_iff.mp H
                    obtain ⟨t325, A100, H⟩ := H
                    replace H : (spinetref02_Text.j3 kj3 l0 x4_1 x5_1 t325) = some (r1, r2) := H
                    have A10 := Aside0.mk A100
                    clear A100
                    have H' := Aside0.mk H
                    clear H
                    have p324 : 0 ≤ (x5_1 : Int) := of_decide_eq_true (by first | (with_reducible assumption) | assumption)
                    have q324 : x5_1 < (l0.length : Int) := of_decide_eq_true (by first | (with_reducible assumption) | assumption)
                    obtain ⟨ad324, e324, hx324_0, hx324_1, hx324_2⟩ := at_T40 HR0.out x5_1 p324 q324
                    cases e324
                    replace hx324_0 := (HB.out.cell (World.block_lt_of_cell? w _ hx324_0)).trans hx324_0
                    replace hx324_1 := (HB.out.cell (World.block_lt_of_cell? w _ hx324_1)).trans hx324_1
                    replace hx324_2 := (HB.out.cell (World.block_lt_of_cell? w _ hx324_2)).trans hx324_2
                    replace p324 := eq_true p324
                    replace q324 := eq_true q324
                    go_wp2_with (first | ((with_reducible refine gate_callee (f := 48) rfl ?_); refine goesL_ (some 33) rfl rfl Tryd.func48 (by kernel_rfl) rfl #[.int .i64 ((rd_T40 l0 x5_1).f1)] rfl (by (try simp only [List.map_toArray, List.map_cons, List.map_nil]); first | done | rfl | (simp only [List.length_drop, List.length_take]; rfl)) ?_; (with_reducible refine (spinetref02_Digits.calls kj3 ((rd_T40 l0 x5_1).f1) t325 _ A10.out).mono ?_); rintro e w11 ⟨rfl, hb⟩; refine ⟨_, rfl, ?_⟩; have n0_ := Aside0.mk (below_step (by repeat (first | (with_reducible first | exact HB.out | apply below_alloc | apply pw_below_drewN | apply below_drew1) | exact HB.out)) hb); clear HB; have HB := n0_; clear n0_; (try clear hb); (try clear hb2); (try clear hk); (try clear hi)))
                    go_meet
                    case rel => exact ⟨_, (t325), (by first | rfl | (simp; done) | (simp [*]; done)), H', ⟨by have := HK1.out; have := HJ3.out; first | omega | exact Nat.le_refl _⟩, ⟨by repeat (first | (with_reducible first | exact HB.out | apply below_alloc | apply pw_below_drewN | apply below_drew1) | exact HB.out)⟩⟩
                  · rw [if_neg c9] at H
                    exact absurd H (by simp)
                · rw [if_neg c8] at H
                  exact absurd H (by simp)
              · replace c7 := Bool.eq_false_iff.mpr c7
                subst c7
                have H1 : (if 0 ≤ x5_1 then (if x5_1 < (l0.length : Int) then (if ((rd_T40 l0 x5_1).f0) = 2 then (if ((rd_T40 l0 x5_1).f1) ≥ 0 then (spinetref02_Text.j2 kj3 l0 x4_1 x5_1 (⟨#[]⟩ : ByteArray) (decide (((rd_T40 l0 x5_1).f1) < 26))) else (spinetref02_Text.j2 kj3 l0 x4_1 x5_1 (⟨#[]⟩ : ByteArray) false)) else (spinetref02_Text.j2 kj3 l0 x4_1 x5_1 (⟨#[]⟩ : ByteArray) false)) else (none)) else (none)) = some (r1, r2) := by rw [if_neg (show ¬ (false = true) by decide)] at H; exact H
                clear H
                have H := H1
                clear H1
                have HC12 := Aside0.mk H
                clear H
                go_upto_region 8 with (fail)
                go_cut [34] (fun v34 wc => ∃ (kq : Nat) (x34_11 : Bool), v34 = .bool x34_11 ∧ Aside0 (spinetref02_Text.j2 kq l0 x4_1 x5_1 (⟨#[]⟩ : ByteArray) x34_11 = some (r1, r2)) ∧ Aside0 (kq ≤ kj3) ∧ Aside0 (Below w.heap.size w wc))
                case first =>
                  have H := HC12.out
                  clear HC12
                  by_cases c13 : 0 ≤ x5_1
                  · rw [if_pos c13] at H
                    have c13b0 : decide (0 ≤ x5_1) = true := decide_eq_true c13
                    clear c13
                    (first | rw [c13b0] | (simp only [i64_w, i32_w]; rw [c13b0]) | skip)
                    by_cases c14 : x5_1 < (l0.length : Int)
                    · rw [if_pos c14] at H
                      have c14b0 : decide (x5_1 < (l0.length : Int)) = true := decide_eq_true c14
                      clear c14
                      by_cases c15 : ((rd_T40 l0 x5_1).f0) = 2
                      · rw [if_pos c15] at H
                        have c15b0 : (((rd_T40 l0 x5_1).f0) == 2) = true := beq_iff_eq.mpr c15
                        have c15b1 : (((rd_T40 l0 x5_1).f0) != 2) = false := bne_eq_false_iff_eq.mpr c15
                        clear c15
                        by_cases c16 : ((rd_T40 l0 x5_1).f1) ≥ 0
                        · rw [if_pos c16] at H
                          have c16b0 : decide (0 ≤ ((rd_T40 l0 x5_1).f1)) = true := decide_eq_true c16
                          clear c16
                          have H' := Aside0.mk H
                          clear H
                          have p326 : 0 ≤ (x5_1 : Int) := of_decide_eq_true (by first | (with_reducible assumption) | assumption)
                          have q326 : x5_1 < (l0.length : Int) := of_decide_eq_true (by first | (with_reducible assumption) | assumption)
                          obtain ⟨ad326, e326, hx326_0, hx326_1, hx326_2⟩ := at_T40 HR0.out x5_1 p326 q326
                          cases e326
                          replace hx326_0 := (HB.out.cell (World.block_lt_of_cell? w _ hx326_0)).trans hx326_0
                          replace hx326_1 := (HB.out.cell (World.block_lt_of_cell? w _ hx326_1)).trans hx326_1
                          replace hx326_2 := (HB.out.cell (World.block_lt_of_cell? w _ hx326_2)).trans hx326_2
                          replace p326 := eq_true p326
                          replace q326 := eq_true q326
                          have p327 : 0 ≤ (x5_1 : Int) := of_decide_eq_true (by first | (with_reducible assumption) | assumption)
                          have q327 : x5_1 < (l0.length : Int) := of_decide_eq_true (by first | (with_reducible assumption) | assumption)
                          obtain ⟨ad327, e327, hx327_0, hx327_1, hx327_2⟩ := at_T40 HR0.out x5_1 p327 q327
                          obtain rfl : ad326 = ad327 := (by injection e327)
                          replace hx327_0 := (HB.out.cell (World.block_lt_of_cell? w _ hx327_0)).trans hx327_0
                          replace hx327_1 := (HB.out.cell (World.block_lt_of_cell? w _ hx327_1)).trans hx327_1
                          replace hx327_2 := (HB.out.cell (World.block_lt_of_cell? w _ hx327_2)).trans hx327_2
                          replace p327 := eq_true p327
                          replace q327 := eq_true q327
                          have p328 : 0 ≤ (x5_1 : Int) := of_decide_eq_true (by first | (with_reducible assumption) | assumption)
                          have q328 : x5_1 < (l0.length : Int) := of_decide_eq_true (by first | (with_reducible assumption) | assumption)
                          obtain ⟨ad328, e328, hx328_0, hx328_1, hx328_2⟩ := at_T40 HR0.out x5_1 p328 q328
                          obtain rfl : ad326 = ad328 := (by injection e328)
                          replace hx328_0 := (HB.out.cell (World.block_lt_of_cell? w _ hx328_0)).trans hx328_0
                          replace hx328_1 := (HB.out.cell (World.block_lt_of_cell? w _ hx328_1)).trans hx328_1
                          replace hx328_2 := (HB.out.cell (World.block_lt_of_cell? w _ hx328_2)).trans hx328_2
                          replace p328 := eq_true p328
                          replace q328 := eq_true q328
                          go_wp2
                          go_meet
                          case rel => exact ⟨_, (decide (((rd_T40 l0 x5_1).f1) < 26)), (by first | rfl | (simp; done) | (simp [*]; done)), H', ⟨by have := HK1.out; have := HJ3.out; first | omega | exact Nat.le_refl _⟩, ⟨by repeat (first | (with_reducible first | exact HB.out | apply below_alloc | apply pw_below_drewN | apply below_drew1) | exact HB.out)⟩⟩
                        · rw [if_neg c16] at H
                          have c16b0 : decide (0 ≤ ((rd_T40 l0 x5_1).f1)) = false := decide_eq_false c16
                          clear c16
                          have H' := Aside0.mk H
                          clear H
                          have p326 : 0 ≤ (x5_1 : Int) := of_decide_eq_true (by first | (with_reducible assumption) | assumption)
                          have q326 : x5_1 < (l0.length : Int) := of_decide_eq_true (by first | (with_reducible assumption) | assumption)
                          obtain ⟨ad326, e326, hx326_0, hx326_1, hx326_2⟩ := at_T40 HR0.out x5_1 p326 q326
                          cases e326
                          replace hx326_0 := (HB.out.cell (World.block_lt_of_cell? w _ hx326_0)).trans hx326_0
                          replace hx326_1 := (HB.out.cell (World.block_lt_of_cell? w _ hx326_1)).trans hx326_1
                          replace hx326_2 := (HB.out.cell (World.block_lt_of_cell? w _ hx326_2)).trans hx326_2
                          replace p326 := eq_true p326
                          replace q326 := eq_true q326
                          have p327 : 0 ≤ (x5_1 : Int) := of_decide_eq_true (by first | (with_reducible assumption) | assumption)
                          have q327 : x5_1 < (l0.length : Int) := of_decide_eq_true (by first | (with_reducible assumption) | assumption)
                          obtain ⟨ad327, e327, hx327_0, hx327_1, hx327_2⟩ := at_T40 HR0.out x5_1 p327 q327
                          obtain rfl : ad326 = ad327 := (by injection e327)
                          replace hx327_0 := (HB.out.cell (World.block_lt_of_cell? w _ hx327_0)).trans hx327_0
                          replace hx327_1 := (HB.out.cell (World.block_lt_of_cell? w _ hx327_1)).trans hx327_1
                          replace hx327_2 := (HB.out.cell (World.block_lt_of_cell? w _ hx327_2)).trans hx327_2
                          replace p327 := eq_true p327
                          replace q327 := eq_true q327
                          go_wp2
                          go_meet
                          case rel => exact ⟨_, (false), (by first | rfl | (simp; done) | (simp [*]; done)), H', ⟨by have := HK1.out; have := HJ3.out; first | omega | exact Nat.le_refl _⟩, ⟨by repeat (first | (with_reducible first | exact HB.out | apply below_alloc | apply pw_below_drewN | apply below_drew1) | exact HB.out)⟩⟩
                      · rw [if_neg c15] at H
                        have c15b0 : (((rd_T40 l0 x5_1).f0) == 2) = false := beq_eq_false_iff_ne.mpr c15
                        have c15b1 : (((rd_T40 l0 x5_1).f0) != 2) = true := bne_iff_ne.mpr c15
                        have H' := Aside0.mk H
                        clear H
                        have p326 : 0 ≤ (x5_1 : Int) := of_decide_eq_true (by first | (with_reducible assumption) | assumption)
                        have q326 : x5_1 < (l0.length : Int) := of_decide_eq_true (by first | (with_reducible assumption) | assumption)
                        obtain ⟨ad326, e326, hx326_0, hx326_1, hx326_2⟩ := at_T40 HR0.out x5_1 p326 q326
                        cases e326
                        replace hx326_0 := (HB.out.cell (World.block_lt_of_cell? w _ hx326_0)).trans hx326_0
                        replace hx326_1 := (HB.out.cell (World.block_lt_of_cell? w _ hx326_1)).trans hx326_1
                        replace hx326_2 := (HB.out.cell (World.block_lt_of_cell? w _ hx326_2)).trans hx326_2
                        replace p326 := eq_true p326
                        replace q326 := eq_true q326
                        go_wp2
                        go_meet
                        case rel => exact ⟨_, (false), (by first | rfl | (simp; done) | (simp [*]; done)), H', ⟨by have := HK1.out; have := HJ3.out; first | omega | exact Nat.le_refl _⟩, ⟨by repeat (first | (with_reducible first | exact HB.out | apply below_alloc | apply pw_below_drewN | apply below_drew1) | exact HB.out)⟩⟩
                    · rw [if_neg c14] at H
                      exact absurd H (by simp)
                  · rw [if_neg c13] at H
                    exact absurd H (by simp)
                case rest =>
                  clear HC12
                  try clear c1
                  try clear c2
                  try clear c2b0
                  try clear p2
                  try clear p3
                  try clear q3
                  try clear hx3
                  try clear c4
                  try clear c5
                  try clear c5b0
                  try clear c6
                  try clear c6b0
                  try clear c6b1
                  try clear c7
                  try clear c8
                  try clear c8b0
                  try clear c9
                  try clear c9b0
                  try clear c13
                  try clear c13b0
                  try clear c14
                  try clear c14b0
                  try clear c15
                  try clear c15b0
                  try clear c15b1
                  try clear c16
                  try clear c16b0
                  try clear hx322_0
                  try clear hx322_1
                  try clear hx322_2
                  try clear hx323_0
                  try clear hx323_1
                  try clear hx323_2
                  try clear hx324_0
                  try clear hx324_1
                  try clear hx324_2
                  try clear hx326_0
                  try clear hx326_1
                  try clear hx326_2
                  try clear hx327_0
                  try clear hx327_1
                  try clear hx327_2
                  try clear hx328_0
                  try clear hx328_1
                  try clear hx328_2
                  try clear p2
                  try clear p3
                  try clear p322
                  try clear p323
                  try clear p324
                  try clear p326
                  try clear p327
                  try clear p328
                  try clear q3
                  try clear q322
                  try clear q323
                  try clear q324
                  try clear q326
                  try clear q327
                  try clear q328
                  obtain ⟨kq, x34_11, rfl, HA, HJ11, HB⟩ := hcut
                  cases kq with
                  | zero => exact absurd HA.out (by simp [spinetref02_Text.j2])
                  | succ kj11 =>
                    have H := HA.out
                    clear HA
                    simp only [spinetref02_Text.j2] at H
                    by_cases c17 : x34_11 = true
                    · subst c17
                      have H1 : (if 0 ≤ x5_1 then (if x5_1 < (l0.length : Int) then (spinetref02_Text.j3 kj11 l0 x4_1 x5_1 (strOfNums (([(wrap64 (97 + ((rd_T40 l0 x5_1).f1))) % 256] : List Int)))) else (none)) else (none)) = some (r1, r2) := by rw [if_pos rfl] at H; exact H
                      clear H
                      have H := H1
                      clear H1
                      by_cases c18 : 0 ≤ x5_1
                      · rw [if_pos c18] at H
                        have c18b0 : decide (0 ≤ x5_1) = true := decide_eq_true c18
                        clear c18
                        by_cases c19 : x5_1 < (l0.length : Int)
                        · rw [if_pos c19] at H
                          have c19b0 : decide (x5_1 < (l0.length : Int)) = true := decide_eq_true c19
                          clear c19
                          obtain ⟨y330, hy330⟩ : ∃ y_ : List Int, y_ = (([(wrap64 (97 + ((rd_T40 l0 x5_1).f1))) % 256] : List Int)) := ⟨_, rfl⟩
                          replace H : (spinetref02_Text.j3 kj11 l0 x4_1 x5_1 (strOfNums y330)) = some (r1, r2) := by first | (rw [hy330]; with_reducible exact H) | (have H2_ := (Option.bind_some _ _).symm.trans H; rw [hy330]; with_reducible exact H2_) | (have H2_ := (Option.bind_some _ _).symm.trans H; with_reducible exact H2_) | with_reducible exact H | (rw [hy330]; exact H) | exact H
                          have Ny330 := Aside0.mk hy330
                          clear hy330
                          have H' := Aside0.mk H
                          clear H
                          have p329 : 0 ≤ (x5_1 : Int) := of_decide_eq_true (by first | (with_reducible assumption) | assumption)
                          have q329 : x5_1 < (l0.length : Int) := of_decide_eq_true (by first | (with_reducible assumption) | assumption)
                          obtain ⟨ad329, e329, hx329_0, hx329_1, hx329_2⟩ := at_T40 HR0.out x5_1 p329 q329
                          cases e329
                          replace hx329_0 := (HB.out.cell (World.block_lt_of_cell? w _ hx329_0)).trans hx329_0
                          replace hx329_1 := (HB.out.cell (World.block_lt_of_cell? w _ hx329_1)).trans hx329_1
                          replace hx329_2 := (HB.out.cell (World.block_lt_of_cell? w _ hx329_2)).trans hx329_2
                          replace p329 := eq_true p329
                          replace q329 := eq_true q329
                          go_wp2_with (first | ((with_reducible refine gate_dst (N := 64) rfl ?_); refine Kd.R_lit (Kd.int .u8) _ 5 ?hg (N := 64) ?hd (xs := ([(wrap64 (97 + ((rd_T40 l0 x5_1).f1))) % 256] : List Int)) (inner := [.int .u8 ((wrap64 (97 + ((rd_T40 l0 x5_1).f1))) % 256)]) (ok := fun _ => True) (okp := fun _ => True) ?hr ?hp (fun _ hk => hk) trivial (Below.refl _ _) (Nat.le_refl _) (by simp) ?_; (case hd => rfl); (case hg => rfl); (case hr => first | (go_simp; done) | (go_simp; rfl)); (case hp => exact (Reps.one (show Kd.M (Kd.int .u8) _ _ _ ((wrap64 (97 + ((rd_T40 l0 x5_1).f1))) % 256) [.int .u8 ((wrap64 (97 + ((rd_T40 l0 x5_1).f1))) % 256)] from rfl) (Reps.none _ _))); intro v331 w20 ho21 hb hg_ hnew_; clear hg_ hnew_; (first | rw [← Ny330.out] at ho21 | (simp only [Int.reduceToNat] at ho21; rw [← Ny330.out] at ho21)); have n0_ := Aside0.mk (Kd.R_lower ho21 (below_size (by repeat (first | (with_reducible first | exact HB.out | apply below_alloc | apply pw_below_drewN | apply below_drew1) | exact HB.out)))); have n1_ := Aside0.mk (below_step (by repeat (first | (with_reducible first | exact HB.out | apply below_alloc | apply pw_below_drewN | apply below_drew1) | exact HB.out)) hb); clear HB; have HO332 := n0_; have HB := n1_; clear n0_ n1_; clear hb ho21; have hcv22 := own_string (P := Tryd.prog) Tryd.underlying87 Tryd.underlying5 Tryd.underlying9 (Kd.own_of_R HO332.out)))
                          go_meet
                          case rel => exact ⟨_, (strOfNums y330), (by first | rfl | (simp; done) | (simp [*]; done)), H', ⟨by have := HK1.out; have := HJ3.out; have := HJ11.out; first | omega | exact Nat.le_refl _⟩, ⟨by repeat (first | (with_reducible first | exact HB.out | apply below_alloc | apply pw_below_drewN | apply below_drew1) | exact HB.out)⟩⟩
                        · rw [if_neg c19] at H
                          exact absurd H (by simp)
                      · rw [if_neg c18] at H
                        exact absurd H (by simp)
                    · replace c17 := Bool.eq_false_iff.mpr c17
                      subst c17
                      have H1 : (if 0 ≤ x5_1 then (if x5_1 < (l0.length : Int) then (if ((rd_T40 l0 x5_1).f1) = 0 then ((spinetref02_Sign.f ((rd_T40 l0 x5_1).f0)).bind fun t335 => (spinetref02_Text.j3 kj11 l0 x4_1 x5_1 t335)) else (spinetref02_Text.j3 kj11 l0 x4_1 x5_1 (⟨#[]⟩ : ByteArray))) else (none)) else (none)) = some (r1, r2) := by rw [if_neg (show ¬ (false = true) by decide)] at H; exact H
                      clear H
                      have H := H1
                      clear H1
                      by_cases c23 : 0 ≤ x5_1
                      · rw [if_pos c23] at H
                        have c23b0 : decide (0 ≤ x5_1) = true := decide_eq_true c23
                        clear c23
                        by_cases c24 : x5_1 < (l0.length : Int)
                        · rw [if_pos c24] at H
                          have c24b0 : decide (x5_1 < (l0.length : Int)) = true := decide_eq_true c24
                          clear c24
                          by_cases c25 : ((rd_T40 l0 x5_1).f1) = 0
                          · rw [if_pos c25] at H
                            have c25b0 : (((rd_T40 l0 x5_1).f1) == 0) = true := beq_iff_eq.mpr c25
                            have c25b1 : (((rd_T40 l0 x5_1).f1) != 0) = false := bne_eq_false_iff_eq.mpr c25
                            clear c25
                            replace H := Option.bind_eq_some_iff.mp H
                            obtain ⟨t335, A260, H⟩ := H
                            replace H : (spinetref02_Text.j3 kj11 l0 x4_1 x5_1 t335) = some (r1, r2) := H
                            have A26 := Aside0.mk A260
                            clear A260
                            have H' := Aside0.mk H
                            clear H
                            have p333 : 0 ≤ (x5_1 : Int) := of_decide_eq_true (by first | (with_reducible assumption) | assumption)
                            have q333 : x5_1 < (l0.length : Int) := of_decide_eq_true (by first | (with_reducible assumption) | assumption)
                            obtain ⟨ad333, e333, hx333_0, hx333_1, hx333_2⟩ := at_T40 HR0.out x5_1 p333 q333
                            cases e333
                            replace hx333_0 := (HB.out.cell (World.block_lt_of_cell? w _ hx333_0)).trans hx333_0
                            replace hx333_1 := (HB.out.cell (World.block_lt_of_cell? w _ hx333_1)).trans hx333_1
                            replace hx333_2 := (HB.out.cell (World.block_lt_of_cell? w _ hx333_2)).trans hx333_2
                            replace p333 := eq_true p333
                            replace q333 := eq_true q333
                            have p334 : 0 ≤ (x5_1 : Int) := of_decide_eq_true (by first | (with_reducible assumption) | assumption)
                            have q334 : x5_1 < (l0.length : Int) := of_decide_eq_true (by first | (with_reducible assumption) | assumption)
                            obtain ⟨ad334, e334, hx334_0, hx334_1, hx334_2⟩ := at_T40 HR0.out x5_1 p334 q334
                            obtain rfl : ad333 = ad334 := (by injection e334)
                            replace hx334_0 := (HB.out.cell (World.block_lt_of_cell? w _ hx334_0)).trans hx334_0
                            replace hx334_1 := (HB.out.cell (World.block_lt_of_cell? w _ hx334_1)).trans hx334_1
                            replace hx334_2 := (HB.out.cell (World.block_lt_of_cell? w _ hx334_2)).trans hx334_2
                            replace p334 := eq_true p334
                            replace q334 := eq_true q334
                            go_wp2_with (first | ((with_reducible refine gate_callee (f := 49) rfl ?_); refine goesL_ (some 78) rfl rfl Tryd.func49 (by kernel_rfl) rfl #[.int .i64 ((rd_T40 l0 x5_1).f0)] rfl (by (try simp only [List.map_toArray, List.map_cons, List.map_nil]); first | done | rfl | (simp only [List.length_drop, List.length_take]; rfl)) ?_; (with_reducible refine (spinetref02_Sign.calls ((rd_T40 l0 x5_1).f0) t335 _ A26.out).mono ?_); rintro e w' ⟨rfl, ⟨nd, rfl⟩⟩; refine ⟨_, rfl, ?_⟩))
                            go_meet
                            case rel => exact ⟨_, (t335), (by first | rfl | (simp; done) | (simp [*]; done)), H', ⟨by have := HK1.out; have := HJ3.out; have := HJ11.out; first | omega | exact Nat.le_refl _⟩, ⟨by repeat (first | (with_reducible first | exact HB.out | apply below_alloc | apply pw_below_drewN | apply below_drew1) | exact HB.out)⟩⟩
                          · rw [if_neg c25] at H
                            have c25b0 : (((rd_T40 l0 x5_1).f1) == 0) = false := beq_eq_false_iff_ne.mpr c25
                            have c25b1 : (((rd_T40 l0 x5_1).f1) != 0) = true := bne_iff_ne.mpr c25
                            have H' := Aside0.mk H
                            clear H
                            have p333 : 0 ≤ (x5_1 : Int) := of_decide_eq_true (by first | (with_reducible assumption) | assumption)
                            have q333 : x5_1 < (l0.length : Int) := of_decide_eq_true (by first | (with_reducible assumption) | assumption)
                            obtain ⟨ad333, e333, hx333_0, hx333_1, hx333_2⟩ := at_T40 HR0.out x5_1 p333 q333
                            cases e333
                            replace hx333_0 := (HB.out.cell (World.block_lt_of_cell? w _ hx333_0)).trans hx333_0
                            replace hx333_1 := (HB.out.cell (World.block_lt_of_cell? w _ hx333_1)).trans hx333_1
                            replace hx333_2 := (HB.out.cell (World.block_lt_of_cell? w _ hx333_2)).trans hx333_2
                            replace p333 := eq_true p333
                            replace q333 := eq_true q333
                            go_wp2
                            go_meet
                            case rel => exact ⟨_, ((⟨#[]⟩ : ByteArray)), (by first | rfl | (simp; done) | (simp [*]; done)), H', ⟨by have := HK1.out; have := HJ3.out; have := HJ11.out; first | omega | exact Nat.le_refl _⟩, ⟨by repeat (first | (with_reducible first | exact HB.out | apply below_alloc | apply pw_below_drewN | apply below_drew1) | exact HB.out)⟩⟩
                        · rw [if_neg c24] at H
                          exact absurd H (by simp)
                      · rw [if_neg c23] at H
                        exact absurd H (by simp)
        case rest =>
          clear HC3
          try clear c1
          try clear c2
          try clear c2b0
          try clear p2
          try clear hcv2
          try clear p3
          try clear q3
          try clear hx3
          try clear c4
          try clear c5
          try clear c5b0
          try clear c6
          try clear c6b0
          try clear c6b1
          try clear p6
          try clear c7
          try clear c8
          try clear c8b0
          try clear c9
          try clear c9b0
          try clear c13
          try clear c13b0
          try clear c14
          try clear c14b0
          try clear c15
          try clear c15b0
          try clear c15b1
          try clear c16
          try clear c16b0
          try clear c17
          try clear c18
          try clear c18b0
          try clear c19
          try clear c19b0
          try clear hcv22
          try clear c23
          try clear c23b0
          try clear c24
          try clear c24b0
          try clear c25
          try clear c25b0
          try clear c25b1
          try clear hx322_0
          try clear hx322_1
          try clear hx322_2
          try clear hx323_0
          try clear hx323_1
          try clear hx323_2
          try clear hx324_0
          try clear hx324_1
          try clear hx324_2
          try clear hx326_0
          try clear hx326_1
          try clear hx326_2
          try clear hx327_0
          try clear hx327_1
          try clear hx327_2
          try clear hx328_0
          try clear hx328_1
          try clear hx328_2
          try clear hx329_0
          try clear hx329_1
          try clear hx329_2
          try clear hx333_0
          try clear hx333_1
          try clear hx333_2
          try clear hx334_0
          try clear hx334_1
          try clear hx334_2
          try clear p2
          try clear p3
          try clear p322
          try clear p323
          try clear p324
          try clear p326
          try clear p327
          try clear p328
          try clear p329
          try clear p333
          try clear p334
          try clear q3
          try clear q322
          try clear q323
          try clear q324
          try clear q326
          try clear q327
          try clear q328
          try clear q329
          try clear q333
          try clear q334
          obtain ⟨kq, x6_2, rfl, HA, HJ2, HB⟩ := hcut
          cases kq with
          | zero => exact absurd HA.out (by simp [spinetref02_Text.j3])
          | succ kj2 =>
            have H := HA.out
            clear HA
            simp only [spinetref02_Text.j3] at H
            by_cases c27 : x6_2.toList = ([] : List UInt8)
            · rw [if_pos c27] at H
              have c27b0 : (x6_2.toList == ([] : List UInt8)) = true := beq_iff_eq.mpr c27
              have c27b1 : (x6_2.toList != ([] : List UInt8)) = false := bne_eq_false_iff_eq.mpr c27
              clear c27
              simp only [Option.some.injEq, Prod.mk.injEq] at H
              obtain ⟨rfl, rfl⟩ := H
              go_wp2
              go_ret2
              exact ⟨by first | rfl | (simp [errW_none, errW_some] <;> rfl) | (simp [*, errW_none, errW_some] <;> rfl), by repeat (first | (with_reducible first | exact HB.out | apply below_alloc | apply pw_below_drewN | apply below_drew1) | exact HB.out)⟩
            · rw [if_neg c27] at H
              have c27b0 : (x6_2.toList == ([] : List UInt8)) = false := beq_eq_false_iff_ne.mpr c27
              have c27b1 : (x6_2.toList != ([] : List UInt8)) = true := bne_iff_ne.mpr c27
              by_cases c28 : x5_1 > 0
              · rw [if_pos c28] at H
                have c28b0 : decide (0 < x5_1) = true := decide_eq_true c28
                clear c28
                by_cases c29 : x4_1.size + 1 ≤ 9223372036854775807
                · rw [if_pos c29] at H
                  have c29b0 := eq_true c29
                  have c29b1 : decide (x4_1.size + 1 ≤ 9223372036854775807) = true := decide_eq_true c29
                  try have c29b2 : (9223372036854775807 < x4_1.size + 1) = False := eq_false (Nat.not_lt.2 c29)
                  by_cases c30 : (x4_1 ++ (⟨#[32]⟩ : ByteArray)).size + x6_2.size ≤ 9223372036854775807
                  · rw [if_pos c30] at H
                    have c30b0 := eq_true c30
                    have c30b1 : decide ((x4_1 ++ (⟨#[32]⟩ : ByteArray)).size + x6_2.size ≤ 9223372036854775807) = true := decide_eq_true c30
                    try have c30b2 : (9223372036854775807 < (x4_1 ++ (⟨#[32]⟩ : ByteArray)).size + x6_2.size) = False := eq_false (Nat.not_lt.2 c30)
                    have H' := Aside0.mk H
                    clear H
                    go_wp2
                    go_roundg kj2
                    case measure => have := HK1.out; have := HJ2.out; omega
                    case rel => exact ⟨((x4_1 ++ (⟨#[32]⟩ : ByteArray)) ++ x6_2), (wrap64 (x5_1 + 1)), (by first | rfl | (simp; done) | (simp [*]; done)), (by first | rfl | (simp; done) | (simp [*]; done)), H', ⟨by have := HK1.out; have := HJ2.out; omega⟩, ⟨by repeat (first | (with_reducible first | exact HB.out | apply below_alloc | apply pw_below_drewN | apply below_drew1) | exact HB.out)⟩⟩
                  · rw [if_neg c30] at H
                    exact absurd H (by simp)
                · rw [if_neg c29] at H
                  exact absurd H (by simp)
              · rw [if_neg c28] at H
                have c28b0 : decide (0 < x5_1) = false := decide_eq_false c28
                clear c28
                by_cases c31 : x4_1.size + x6_2.size ≤ 9223372036854775807
                · rw [if_pos c31] at H
                  have c31b0 := eq_true c31
                  have c31b1 : decide (x4_1.size + x6_2.size ≤ 9223372036854775807) = true := decide_eq_true c31
                  try have c31b2 : (9223372036854775807 < x4_1.size + x6_2.size) = False := eq_false (Nat.not_lt.2 c31)
                  have H' := Aside0.mk H
                  clear H
                  go_wp2
                  go_roundg kj2
                  case measure => have := HK1.out; have := HJ2.out; omega
                  case rel => exact ⟨(x4_1 ++ x6_2), (wrap64 (x5_1 + 1)), (by first | rfl | (simp; done) | (simp [*]; done)), (by first | rfl | (simp; done) | (simp [*]; done)), H', ⟨by have := HK1.out; have := HJ2.out; omega⟩, ⟨by repeat (first | (with_reducible first | exact HB.out | apply below_alloc | apply pw_below_drewN | apply below_drew1) | exact HB.out)⟩⟩
                · rw [if_neg c31] at H
                  exact absurd H (by simp)
      · rw [if_neg c2] at H
        have c2b0 : decide (x5_1 < (l0.length : Int)) = false := decide_eq_false c2
        clear c2
        simp only [Option.some.injEq, Prod.mk.injEq] at H
        obtain ⟨rfl, rfl⟩ := H
        go_wp2
        go_ret2
        exact ⟨by first | rfl | (simp [errW_none, errW_some] <;> rfl) | (simp [*, errW_none, errW_some] <;> rfl), by repeat (first | (with_reducible first | exact HB.out | apply below_alloc | apply pw_below_drewN | apply below_drew1) | exact HB.out)⟩

-- NOT PRINTED: function 4 (spinetlaw02_LexTexts)

-- NOT PRINTED: function 5 (spinetlaw02_LexBack)

-- NOT PRINTED: function 55 (parse_sign)

-- NOT PRINTED: function 25 (parse_Text)

-- NOT PRINTED: function 20 (spinetlaw03_up)

end Go.Proofs.YtldcplgfkcionaaDoor.PAll
