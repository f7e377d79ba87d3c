/- Texts of this claim, merged (PAllR5). -/
import Derived.Test.YtemoonhnncopoaaGreatDoorZChartOrder2
section
namespace Go.Proofs.YtemoonhnncopoaaGreatDoor.PAll
open Go.RowKit Go.Proofs.YtemoonhnncopoaaGreatDoorW.PrintWords Go.Proofs.YtemoonhnncopoaaGreatDoorW.PrintLast Go.Proofs.YtemoonhnncopoaaGreatDoorW.PrintMore
attribute [local go_sem] max2_int min2_int max_two min_two max_three min_three max_four min_four   -- for this text's walks alone
set_option linter.unusedVariables false
set_option linter.unusedSimpArgs false
def spinetref05_Kids.f (k : Nat) (a0_0 : Int) (l0_1 : List (S54)) (l0_2 : List (S56)) (a1 : Int) : Option (List Int) := spinetref05_Kids.l0 k a1 ([] : List Int) 0 a0_0 l0_1 l0_2
mutual
def spinetref05_In.j0 : Nat → Int → Int → Bool → Int → List (S54) → List (S56) → Option (Bool)
  | 0, _, _, _, _, _, _ => none
  | k + 1, x1, x2, x20, x437000, x437001, x437002 => if x20 = true then (some false) else (if 0 ≤ x1 then (if x1 < (x437001.length : Int) then (if ((rd_T54 x437001 x1).f1) < 0 then (some false) else (if ((rd_T54 x437001 x1).f1) ≥ x1 then (some false) else (if ((rd_T54 x437001 x1).f1) = x2 then (some true) else ((spinetref05_In.f k x437000 x437001 x437002 ((rd_T54 x437001 x1).f1) x2).bind fun t438 => (some t438))))) else (none)) else (none))
def spinetref05_In.f : Nat → Int → List (S54) → List (S56) → Int → Int → Option (Bool)
  | 0, _, _, _, _, _ => none
  | k + 1, a0_0, l0_1, l0_2, a1, a2 => if a1 < 1 then (spinetref05_In.j0 k a1 a2 true a0_0 l0_1 l0_2) else (if a1 ≥ (l0_1.length : Int) then (spinetref05_In.j0 k a1 a2 true a0_0 l0_1 l0_2) else (spinetref05_In.j0 k a1 a2 (decide (a2 < 0)) a0_0 l0_1 l0_2))
end
set_option maxHeartbeats 8000000 in
set_option maxRecDepth 100000 in
theorem spinetref05_In.calls (k : Nat) : ∀ (a0_0 : Int) (A0_1 : Option Addr) (c0_1 : Nat) (l0_1 : List (S54)) (A0_2 : Option Addr) (c0_2 : Nat) (l0_2 : List (S56)) (a1 : Int) (a2 : Int) (r : Bool) (w : World) (hr0_1 : Kd.C k54 w A0_1 l0_1.length l0_1) (hc0_1 : l0_1.length ≤ c0_1) (hr0_2 : Kd.C k56 w A0_2 l0_2.length l0_2) (hc0_2 : l0_2.length ≤ c0_2) (h : spinetref05_In.f k a0_0 l0_1 l0_2 a1 a2 = some r),
    Calls Tryz.prog 46 #[.agg #[.int .i64 a0_0, .slice A0_1 l0_1.length c0_1, .slice A0_2 l0_2.length c0_2], .int .i64 a1, .int .i64 a2] w fun e w' => e = .returned (.bool r) ∧ Below w.heap.size w w' := by
  induction k using Nat.strongRecOn with
  | _ k ih =>
  intro a0_0 A0_1 c0_1 l0_1 A0_2 c0_2 l0_2 a1 a2 r w hr0_1 hc0_1 hr0_2 hc0_2 h
  cases k with
  | zero => exact absurd h (by simp [spinetref05_In.f])
  | succ k =>
  simp only [spinetref05_In.f] at h
  have hu47 := Tryz.underlying47
  have HR0_1 := Aside0.mk hr0_1
  have HC0_1 := Aside0.mk hc0_1
  clear hr0_1 hc0_1
  have HR0_2 := Aside0.mk hr0_2
  have HC0_2 := Aside0.mk hc0_2
  clear hr0_2 hc0_2
  have HB := Aside0.mk (Below.refl w.heap.size w)
  have H : (if a1 < 1 then (spinetref05_In.j0 k a1 a2 true a0_0 l0_1 l0_2) else (if a1 ≥ (l0_1.length : Int) then (spinetref05_In.j0 k a1 a2 true a0_0 l0_1 l0_2) else (spinetref05_In.j0 k a1 a2 (decide (a2 < 0)) a0_0 l0_1 l0_2))) = some r := h
  clear h
  have HC4 := Aside0.mk H
  clear H
  go_enter Tryz.func46, Tryz.ntmps46
  go_upto_region 1 with (first | ((with_reducible refine gate_dst (N := 3) rfl ?_); (try (refine gate_guard (by rfl) ?_; dsimp only)); refine box_event ?hg (N := 3) ?hd (cs := #[.int .i64 a0_0, .slice A0_1 l0_1.length c0_1, .slice A0_2 l0_2.length c0_2]) (t := 47) ?hr ?_; (case hd => rfl); (case hg => rfl); (case hr => first | (go_simp; done) | (go_simp; rfl)); intro gb436 hg w5 hbox hb; have n0_ := Aside0.mk (below_step (by repeat (first | (with_reducible first | exact HB.out | apply below_alloc | apply pw_below_drewN | apply below_drew1) | exact HB.out)) hb); have n1_ := Aside0.mk (hbox); have n2_ := Aside0.mk ((by rw [hg]; exact (below_size (by repeat (first | (with_reducible first | exact HB.out | apply below_alloc | apply pw_below_drewN | apply below_drew1) | exact HB.out))) : w.heap.size ≤ gb436)); have n3_ := Aside0.mk ((by rw [hg]; exact (below_size (by repeat (first | (with_reducible first | exact HB.out | apply below_alloc | apply pw_below_drewN | apply below_drew1) | exact HB.out))) : w.heap.size ≤ gb436)); clear HB; have HB := n0_; have BK436 := n1_; have GW436 := n2_; have GE436 := n3_; clear n0_ n1_ n2_ n3_; clear hb hbox hg))
  (try simp only [Act.put, List.setIfInBounds_toArray, List.set_cons_zero, List.set_cons_succ])
  go_cut [20] (fun v20 wc => ∃ (kq : Nat) (x20_3 : Bool), v20 = .bool x20_3 ∧ Aside0 (spinetref05_In.j0 kq a1 a2 x20_3 a0_0 l0_1 l0_2 = some r) ∧ Aside0 (kq ≤ k) ∧ Aside0 (wc.heap[gb436]? = some (.cells #[.int .i64 a0_0, (.slice A0_1 l0_1.length c0_1), (.slice A0_2 l0_2.length c0_2)] 47 (0, 0))) ∧ Aside0 (Below w.heap.size w wc))
  case first =>
    have H := HC4.out
    clear HC4
    by_cases c6 : a1 < 1
    · rw [if_pos c6] at H
      have c6b0 : decide (a1 < 1) = true := decide_eq_true c6
      clear c6
      (first | rw [c6b0] | (simp only [i64_w, i32_w]; rw [c6b0]) | skip)
      have H' := Aside0.mk H
      clear H
      go_wp2
      go_meet
      case rel => exact ⟨_, (true), (by first | rfl | (simp; done) | (simp [*]; done)), H', ⟨by first | omega | exact Nat.le_refl _⟩, ⟨by (with_reducible repeat (first | refine blk_drewN ?_ _ | refine blk_drew ?_ | refine blk_alloc ?_ _)); exact BK436.out⟩, ⟨by repeat (first | (with_reducible first | exact HB.out | apply below_alloc | apply pw_below_drewN | apply below_drew1 | refine below_set ?_ GE436.out) | exact HB.out)⟩⟩
    · rw [if_neg c6] at H
      have c6b0 : decide (a1 < 1) = false := decide_eq_false c6
      clear c6
      (first | rw [c6b0] | (simp only [i64_w, i32_w]; rw [c6b0]) | skip)
      by_cases c7 : a1 ≥ (l0_1.length : Int)
      · rw [if_pos c7] at H
        have c7b0 : decide ((l0_1.length : Int) ≤ a1) = true := decide_eq_true c7
        clear c7
        have H' := Aside0.mk H
        clear H
        have hcz8_0 : w5.cell? ⟨gb436, 0, none⟩ = some (.int .i64 a0_0) := (blk_cell BK436.out 0).trans rfl
        have hcz8_1 : w5.cell? ⟨gb436, 1, none⟩ = some (.slice A0_1 l0_1.length c0_1) := (blk_cell BK436.out 1).trans rfl
        have hcz8_2 : w5.cell? ⟨gb436, 2, none⟩ = some (.slice A0_2 l0_2.length c0_2) := (blk_cell BK436.out 2).trans rfl
        have hfz8_0 := blk_frozen BK436.out 0
        have hfz8_1 := blk_frozen BK436.out 1
        have hfz8_2 := blk_frozen BK436.out 2
        go_wp2
        go_meet
        case rel => exact ⟨_, (true), (by first | rfl | (simp; done) | (simp [*]; done)), H', ⟨by first | omega | exact Nat.le_refl _⟩, ⟨by (with_reducible repeat (first | refine blk_drewN ?_ _ | refine blk_drew ?_ | refine blk_alloc ?_ _)); exact BK436.out⟩, ⟨by repeat (first | (with_reducible first | exact HB.out | apply below_alloc | apply pw_below_drewN | apply below_drew1 | refine below_set ?_ GE436.out) | exact HB.out)⟩⟩
      · rw [if_neg c7] at H
        have c7b0 : decide ((l0_1.length : Int) ≤ a1) = false := decide_eq_false c7
        clear c7
        have H' := Aside0.mk H
        clear H
        have hcz9_0 : w5.cell? ⟨gb436, 0, none⟩ = some (.int .i64 a0_0) := (blk_cell BK436.out 0).trans rfl
        have hcz9_1 : w5.cell? ⟨gb436, 1, none⟩ = some (.slice A0_1 l0_1.length c0_1) := (blk_cell BK436.out 1).trans rfl
        have hcz9_2 : w5.cell? ⟨gb436, 2, none⟩ = some (.slice A0_2 l0_2.length c0_2) := (blk_cell BK436.out 2).trans rfl
        have hfz9_0 := blk_frozen BK436.out 0
        have hfz9_1 := blk_frozen BK436.out 1
        have hfz9_2 := blk_frozen BK436.out 2
        go_wp2
        go_meet
        case rel => exact ⟨_, (decide (a2 < 0)), (by first | rfl | (simp; done) | (simp [*]; done)), H', ⟨by first | omega | exact Nat.le_refl _⟩, ⟨by (with_reducible repeat (first | refine blk_drewN ?_ _ | refine blk_drew ?_ | refine blk_alloc ?_ _)); exact BK436.out⟩, ⟨by repeat (first | (with_reducible first | exact HB.out | apply below_alloc | apply pw_below_drewN | apply below_drew1 | refine below_set ?_ GE436.out) | exact HB.out)⟩⟩
  case rest =>
    clear HC4
    try clear p2
    try clear c4
    try clear c6
    try clear c6b0
    try clear c7
    try clear c7b0
    try clear hcz8_0
    try clear hcz8_1
    try clear hcz8_2
    try clear hcz9_0
    try clear hcz9_1
    try clear hcz9_2
    try clear hfz8_0
    try clear hfz8_1
    try clear hfz8_2
    try clear hfz9_0
    try clear hfz9_1
    try clear hfz9_2
    obtain ⟨kq, x20_3, rfl, HA, HJ3, BK436, HB⟩ := hcut
    cases kq with
    | zero => exact absurd HA.out (by simp [spinetref05_In.j0])
    | succ kj3 =>
      have H := HA.out
      clear HA
      simp only [spinetref05_In.j0] at H
      by_cases c10 : x20_3 = true
      · subst c10
        have H1 : (some false) = some r := by rw [if_pos rfl] at H; exact H
        clear H
        have H := H1
        clear H1
        obtain rfl := Option.some.inj H
        go_wp2
        go_ret
        exact ⟨by first | rfl | (simp [errW_none, errW_some] <;> rfl) | (simp [*, errW_none, errW_some] <;> rfl), by repeat (first | (with_reducible first | exact HB.out | apply below_alloc | apply pw_below_drewN | apply below_drew1 | refine below_set ?_ GE436.out) | exact HB.out)⟩
      · replace c10 := Bool.eq_false_iff.mpr c10
        subst c10
        have H1 : (if 0 ≤ a1 then (if a1 < (l0_1.length : Int) then (if ((rd_T54 l0_1 a1).f1) < 0 then (some false) else (if ((rd_T54 l0_1 a1).f1) ≥ a1 then (some false) else (if ((rd_T54 l0_1 a1).f1) = a2 then (some true) else ((spinetref05_In.f kj3 a0_0 l0_1 l0_2 ((rd_T54 l0_1 a1).f1) a2).bind fun t438 => (some t438))))) else (none)) else (none)) = some r := by rw [if_neg (show ¬ (false = true) by decide)] at H; exact H
        clear H
        have H := H1
        clear H1
        by_cases c11 : 0 ≤ a1
        · rw [if_pos c11] at H
          have c11b0 : decide (0 ≤ a1) = true := decide_eq_true c11
          clear c11
          by_cases c12 : a1 < (l0_1.length : Int)
          · rw [if_pos c12] at H
            have c12b0 : decide (a1 < (l0_1.length : Int)) = true := decide_eq_true c12
            clear c12
            by_cases c13 : ((rd_T54 l0_1 a1).f1) < 0
            · rw [if_pos c13] at H
              have c13b0 : decide (((rd_T54 l0_1 a1).f1) < 0) = true := decide_eq_true c13
              clear c13
              obtain rfl := Option.some.inj H
              have hcz14_0 : wc.cell? ⟨gb436, 0, none⟩ = some (.int .i64 a0_0) := (blk_cell BK436.out 0).trans rfl
              have hcz14_1 : wc.cell? ⟨gb436, 1, none⟩ = some (.slice A0_1 l0_1.length c0_1) := (blk_cell BK436.out 1).trans rfl
              have hcz14_2 : wc.cell? ⟨gb436, 2, none⟩ = some (.slice A0_2 l0_2.length c0_2) := (blk_cell BK436.out 2).trans rfl
              have hfz14_0 := blk_frozen BK436.out 0
              have hfz14_1 := blk_frozen BK436.out 1
              have hfz14_2 := blk_frozen BK436.out 2
              have p437 : 0 ≤ (a1 : Int) := of_decide_eq_true (by first | (with_reducible assumption) | assumption)
              have q437 : a1 < (l0_1.length : Int) := of_decide_eq_true (by first | (with_reducible assumption) | assumption)
              obtain ⟨ad437, A437_2, c437_2, A437_3, c437_3, A437_4, c437_4, e437, hx437_0, hx437_1, hx437_2, hx437_3, hx437_4, hl437_2, hi437_2, hl437_3, hi437_3, hl437_4, hi437_4⟩ := at_T54 HR0_1.out a1 p437 q437
              cases e437
              replace hx437_0 := (HB.out.cell (World.block_lt_of_cell? w _ hx437_0)).trans hx437_0
              replace hx437_1 := (HB.out.cell (World.block_lt_of_cell? w _ hx437_1)).trans hx437_1
              replace hx437_2 := (HB.out.cell (World.block_lt_of_cell? w _ hx437_2)).trans hx437_2
              replace hx437_3 := (HB.out.cell (World.block_lt_of_cell? w _ hx437_3)).trans hx437_3
              replace hx437_4 := (HB.out.cell (World.block_lt_of_cell? w _ hx437_4)).trans hx437_4
              have HR437_2 := Aside0.mk hi437_2
              have HC437_2 := Aside0.mk hl437_2
              clear hi437_2 hl437_2
              have HR437_3 := Aside0.mk hi437_3
              have HC437_3 := Aside0.mk hl437_3
              clear hi437_3 hl437_3
              have HR437_4 := Aside0.mk hi437_4
              have HC437_4 := Aside0.mk hl437_4
              clear hi437_4 hl437_4
              replace p437 := eq_true p437
              replace q437 := eq_true q437
              go_wp2
              go_ret
              exact ⟨by first | rfl | (simp [errW_none, errW_some] <;> rfl) | (simp [*, errW_none, errW_some] <;> rfl), by repeat (first | (with_reducible first | exact HB.out | apply below_alloc | apply pw_below_drewN | apply below_drew1 | refine below_set ?_ GE436.out) | exact HB.out)⟩
            · rw [if_neg c13] at H
              have c13b0 : decide (((rd_T54 l0_1 a1).f1) < 0) = false := decide_eq_false c13
              clear c13
              by_cases c15 : ((rd_T54 l0_1 a1).f1) ≥ a1
              · rw [if_pos c15] at H
                have c15b0 : decide (a1 ≤ ((rd_T54 l0_1 a1).f1)) = true := decide_eq_true c15
                clear c15
                obtain rfl := Option.some.inj H
                have hcz16_0 : wc.cell? ⟨gb436, 0, none⟩ = some (.int .i64 a0_0) := (blk_cell BK436.out 0).trans rfl
                have hcz16_1 : wc.cell? ⟨gb436, 1, none⟩ = some (.slice A0_1 l0_1.length c0_1) := (blk_cell BK436.out 1).trans rfl
                have hcz16_2 : wc.cell? ⟨gb436, 2, none⟩ = some (.slice A0_2 l0_2.length c0_2) := (blk_cell BK436.out 2).trans rfl
                have hfz16_0 := blk_frozen BK436.out 0
                have hfz16_1 := blk_frozen BK436.out 1
                have hfz16_2 := blk_frozen BK436.out 2
                have p437 : 0 ≤ (a1 : Int) := of_decide_eq_true (by first | (with_reducible assumption) | assumption)
                have q437 : a1 < (l0_1.length : Int) := of_decide_eq_true (by first | (with_reducible assumption) | assumption)
                obtain ⟨ad437, A437_2, c437_2, A437_3, c437_3, A437_4, c437_4, e437, hx437_0, hx437_1, hx437_2, hx437_3, hx437_4, hl437_2, hi437_2, hl437_3, hi437_3, hl437_4, hi437_4⟩ := at_T54 HR0_1.out a1 p437 q437
                cases e437
                replace hx437_0 := (HB.out.cell (World.block_lt_of_cell? w _ hx437_0)).trans hx437_0
                replace hx437_1 := (HB.out.cell (World.block_lt_of_cell? w _ hx437_1)).trans hx437_1
                replace hx437_2 := (HB.out.cell (World.block_lt_of_cell? w _ hx437_2)).trans hx437_2
                replace hx437_3 := (HB.out.cell (World.block_lt_of_cell? w _ hx437_3)).trans hx437_3
                replace hx437_4 := (HB.out.cell (World.block_lt_of_cell? w _ hx437_4)).trans hx437_4
                have HR437_2 := Aside0.mk hi437_2
                have HC437_2 := Aside0.mk hl437_2
                clear hi437_2 hl437_2
                have HR437_3 := Aside0.mk hi437_3
                have HC437_3 := Aside0.mk hl437_3
                clear hi437_3 hl437_3
                have HR437_4 := Aside0.mk hi437_4
                have HC437_4 := Aside0.mk hl437_4
                clear hi437_4 hl437_4
                replace p437 := eq_true p437
                replace q437 := eq_true q437
                go_wp2
                go_ret
                exact ⟨by first | rfl | (simp [errW_none, errW_some] <;> rfl) | (simp [*, errW_none, errW_some] <;> rfl), by repeat (first | (with_reducible first | exact HB.out | apply below_alloc | apply pw_below_drewN | apply below_drew1 | refine below_set ?_ GE436.out) | exact HB.out)⟩
              · rw [if_neg c15] at H
                have c15b0 : decide (a1 ≤ ((rd_T54 l0_1 a1).f1)) = false := decide_eq_false c15
                clear c15
                by_cases c17 : ((rd_T54 l0_1 a1).f1) = a2
                · rw [if_pos c17] at H
                  have c17b0 : (((rd_T54 l0_1 a1).f1) == a2) = true := beq_iff_eq.mpr c17
                  have c17b1 : (((rd_T54 l0_1 a1).f1) != a2) = false := bne_eq_false_iff_eq.mpr c17
                  clear c17
                  obtain rfl := Option.some.inj H
                  have hcz18_0 : wc.cell? ⟨gb436, 0, none⟩ = some (.int .i64 a0_0) := (blk_cell BK436.out 0).trans rfl
                  have hcz18_1 : wc.cell? ⟨gb436, 1, none⟩ = some (.slice A0_1 l0_1.length c0_1) := (blk_cell BK436.out 1).trans rfl
                  have hcz18_2 : wc.cell? ⟨gb436, 2, none⟩ = some (.slice A0_2 l0_2.length c0_2) := (blk_cell BK436.out 2).trans rfl
                  have hfz18_0 := blk_frozen BK436.out 0
                  have hfz18_1 := blk_frozen BK436.out 1
                  have hfz18_2 := blk_frozen BK436.out 2
                  have p437 : 0 ≤ (a1 : Int) := of_decide_eq_true (by first | (with_reducible assumption) | assumption)
                  have q437 : a1 < (l0_1.length : Int) := of_decide_eq_true (by first | (with_reducible assumption) | assumption)
                  obtain ⟨ad437, A437_2, c437_2, A437_3, c437_3, A437_4, c437_4, e437, hx437_0, hx437_1, hx437_2, hx437_3, hx437_4, hl437_2, hi437_2, hl437_3, hi437_3, hl437_4, hi437_4⟩ := at_T54 HR0_1.out a1 p437 q437
                  cases e437
                  replace hx437_0 := (HB.out.cell (World.block_lt_of_cell? w _ hx437_0)).trans hx437_0
                  replace hx437_1 := (HB.out.cell (World.block_lt_of_cell? w _ hx437_1)).trans hx437_1
                  replace hx437_2 := (HB.out.cell (World.block_lt_of_cell? w _ hx437_2)).trans hx437_2
                  replace hx437_3 := (HB.out.cell (World.block_lt_of_cell? w _ hx437_3)).trans hx437_3
                  replace hx437_4 := (HB.out.cell (World.block_lt_of_cell? w _ hx437_4)).trans hx437_4
                  have HR437_2 := Aside0.mk hi437_2
                  have HC437_2 := Aside0.mk hl437_2
                  clear hi437_2 hl437_2
                  have HR437_3 := Aside0.mk hi437_3
                  have HC437_3 := Aside0.mk hl437_3
                  clear hi437_3 hl437_3
                  have HR437_4 := Aside0.mk hi437_4
                  have HC437_4 := Aside0.mk hl437_4
                  clear hi437_4 hl437_4
                  replace p437 := eq_true p437
                  replace q437 := eq_true q437
                  go_wp2
                  go_ret
                  exact ⟨by first | rfl | (simp [errW_none, errW_some] <;> rfl) | (simp [*, errW_none, errW_some] <;> rfl), by repeat (first | (with_reducible first | exact HB.out | apply below_alloc | apply pw_below_drewN | apply below_drew1 | refine below_set ?_ GE436.out) | exact HB.out)⟩
                · rw [if_neg c17] at H
                  have c17b0 : (((rd_T54 l0_1 a1).f1) == a2) = false := beq_eq_false_iff_ne.mpr c17
                  have c17b1 : (((rd_T54 l0_1 a1).f1) != a2) = true := bne_iff_ne.mpr c17
                  replace H := Option.bind_eq_some_iff.mp H
                  obtain ⟨t438, A190, H⟩ := H
                  replace H : (some t438) = some r := H
                  have A19 := Aside0.mk A190
                  clear A190
                  obtain rfl := Option.some.inj H
                  have hcz20_0 : wc.cell? ⟨gb436, 0, none⟩ = some (.int .i64 a0_0) := (blk_cell BK436.out 0).trans rfl
                  have hcz20_1 : wc.cell? ⟨gb436, 1, none⟩ = some (.slice A0_1 l0_1.length c0_1) := (blk_cell BK436.out 1).trans rfl
                  have hcz20_2 : wc.cell? ⟨gb436, 2, none⟩ = some (.slice A0_2 l0_2.length c0_2) := (blk_cell BK436.out 2).trans rfl
                  have hfz20_0 := blk_frozen BK436.out 0
                  have hfz20_1 := blk_frozen BK436.out 1
                  have hfz20_2 := blk_frozen BK436.out 2
                  have p437 : 0 ≤ (a1 : Int) := of_decide_eq_true (by first | (with_reducible assumption) | assumption)
                  have q437 : a1 < (l0_1.length : Int) := of_decide_eq_true (by first | (with_reducible assumption) | assumption)
                  obtain ⟨ad437, A437_2, c437_2, A437_3, c437_3, A437_4, c437_4, e437, hx437_0, hx437_1, hx437_2, hx437_3, hx437_4, hl437_2, hi437_2, hl437_3, hi437_3, hl437_4, hi437_4⟩ := at_T54 HR0_1.out a1 p437 q437
                  cases e437
                  replace hx437_0 := (HB.out.cell (World.block_lt_of_cell? w _ hx437_0)).trans hx437_0
                  replace hx437_1 := (HB.out.cell (World.block_lt_of_cell? w _ hx437_1)).trans hx437_1
                  replace hx437_2 := (HB.out.cell (World.block_lt_of_cell? w _ hx437_2)).trans hx437_2
                  replace hx437_3 := (HB.out.cell (World.block_lt_of_cell? w _ hx437_3)).trans hx437_3
                  replace hx437_4 := (HB.out.cell (World.block_lt_of_cell? w _ hx437_4)).trans hx437_4
                  have HR437_2 := Aside0.mk hi437_2
                  have HC437_2 := Aside0.mk hl437_2
                  clear hi437_2 hl437_2
                  have HR437_3 := Aside0.mk hi437_3
                  have HC437_3 := Aside0.mk hl437_3
                  clear hi437_3 hl437_3
                  have HR437_4 := Aside0.mk hi437_4
                  have HC437_4 := Aside0.mk hl437_4
                  clear hi437_4 hl437_4
                  replace p437 := eq_true p437
                  replace q437 := eq_true q437
                  go_wp2_with (first | (go_at_call 46; (with_reducible refine (ih kj3 (by have := HJ3.out; omega) a0_0 _ _ l0_1 _ _ l0_2 ((rd_T54 l0_1 a1).f1) a2 t438 _ ?side1 ?side2 ?side3 ?side4 A19.out).mono ?_); (case side1 => repeat (first | exact (Kd.C_below HR0_1.out HB.out) | (with_reducible refine Kd.C_alloc ?_ _) | (with_reducible refine Kd.C_drewN ?_ _) | (with_reducible refine Kd.C_drew ?_))); (case side2 => exact HC0_1.out); (case side3 => repeat (first | exact (Kd.C_below HR0_2.out HB.out) | (with_reducible refine Kd.C_alloc ?_ _) | (with_reducible refine Kd.C_drewN ?_ _) | (with_reducible refine Kd.C_drew ?_))); (case side4 => exact HC0_2.out); rintro e w21 ⟨rfl, hb⟩; have n0_ := Aside0.mk (blk_below (g := gb436) (o := .cells #[.int .i64 a0_0, .slice (some ad437) l0_1.length c0_1, .slice A0_2 l0_2.length c0_2] 47 (0, 0)) (by (with_reducible repeat (first | refine blk_drewN ?_ _ | refine blk_drew ?_ | refine blk_alloc ?_ _)); exact BK436.out) hb); have n1_ := Aside0.mk (below_step (by repeat (first | (with_reducible first | exact HB.out | apply below_alloc | apply pw_below_drewN | apply below_drew1 | refine below_set ?_ GE436.out) | exact HB.out)) hb); clear BK436; clear HB; have BK436 := n0_; have HB := n1_; clear n0_ n1_; (try clear hb); (try clear hb2); (try clear hk); (try clear hi)))
                  go_ret
                  exact ⟨by first | rfl | (simp [errW_none, errW_some] <;> rfl) | (simp [*, errW_none, errW_some] <;> rfl), by repeat (first | (with_reducible first | exact HB.out | apply below_alloc | apply pw_below_drewN | apply below_drew1 | refine below_set ?_ GE436.out) | exact HB.out)⟩
          · rw [if_neg c12] at H
            exact absurd H (by simp)
        · rw [if_neg c11] at H
          exact absurd H (by simp)
end Go.Proofs.YtemoonhnncopoaaGreatDoor.PAll
end
