/- Texts of this claim, merged (PAllCpar). -/
import Derived.Test.YtemoonhnncopoaaGreatDoorZEnterWhole2
import Derived.Test.YtemoonhnncopoaaGreatDoorZEnterWhole3
set_option linter.unusedVariables false
set_option linter.unusedSimpArgs false
set_option maxRecDepth 100000
set_option maxHeartbeats 8000000
section
namespace Go.Proofs.YtemoonhnncopoaaGreatDoor.PAll
open Go.RowKit Go.Proofs.YtemoonhnncopoaaGreatDoorW.PrintWords Go.Proofs.YtemoonhnncopoaaGreatDoorW.PrintLast Go.Proofs.YtemoonhnncopoaaGreatDoorW.PrintMore
attribute [local go_sem] max2_int min2_int max_two min_two max_three min_three max_four min_four   -- for this text's walks alone
def chart_checker_parent.j0 : Nat → Bool → Int → List (S54) → List (S56) → Int → Int → List Int → List (S80) → List (S80) → Option (Int)
 | 0, _, _, _, _, _, _, _, _, _ => none
 | k + 1, x36, x367000, x367001, x367002, x369000, x369001, x369002, x369003, x369004 => if x36 = true then (some 1) else (if 0 ≤ x369001 then (if x369001 < (x367001.length : Int) then (if ((rd_T54 x367001 x369001).f0) = 2 then (if x369001 = 0 then ((chart_history.f x369000).bind fun t371 => (if t371 = true then (some 10) else (some 0))) else (some 0)) else (if ((rd_T54 x367001 x369001).f0) = 3 then (if x369000 = 4 then (some 10) else (if x369001 = 0 then ((chart_history.f x369000).bind fun t372 => (if t372 = true then (some 10) else (some 0))) else (some 0))) else (some 10))) else (none)) else (none))
def chart_checker_parent.f (k : Nat) (a0_0 : Int) (l0_1 : List (S54)) (l0_2 : List (S56)) (a1 : Int) : Option (Int) := if 0 ≤ a1 then (if a1 < (l0_1.length : Int) then (if a1 = 0 then (if ((rd_T54 l0_1 a1).f1) = (-1) then (some 0) else (some 1)) else (if ((rd_T54 l0_1 a1).f1) < 0 then (chart_checker_parent.j0 k true a0_0 l0_1 l0_2 ((rd_T54 l0_1 a1).f0) ((rd_T54 l0_1 a1).f1) ((rd_T54 l0_1 a1).f2) ((rd_T54 l0_1 a1).f3) ((rd_T54 l0_1 a1).f4)) else (if ((rd_T54 l0_1 a1).f1) = (wrap64 (a1 - 1)) then (chart_checker_parent.j0 k false a0_0 l0_1 l0_2 ((rd_T54 l0_1 a1).f0) ((rd_T54 l0_1 a1).f1) ((rd_T54 l0_1 a1).f2) ((rd_T54 l0_1 a1).f3) ((rd_T54 l0_1 a1).f4)) else ((chart_checker_in.f k a0_0 l0_1 l0_2 (wrap64 (a1 - 1)) ((rd_T54 l0_1 a1).f1)).bind fun t369 => (chart_checker_parent.j0 k (!t369) a0_0 l0_1 l0_2 ((rd_T54 l0_1 a1).f0) ((rd_T54 l0_1 a1).f1) ((rd_T54 l0_1 a1).f2) ((rd_T54 l0_1 a1).f3) ((rd_T54 l0_1 a1).f4)))))) else (none)) else (none)
theorem chart_checker_parent.calls (k : Nat) (a0_0 : Int) (A0_1 : Option Addr) (c0_1 : Nat) (l0_1 : List (S54)) (A0_2 : Option Addr) (c0_2 : Nat) (l0_2 : List (S56)) (a1 : Int) (r : Int) (w : World) (hr0_1 : Kd.C k54 w A0_1 l0_1.length l0_1) (hc0_1 : l0_1.length ≤ c0_1) (hr0_2 : Kd.C k56 w A0_2 l0_2.length l0_2) (hc0_2 : l0_2.length ≤ c0_2) (h : chart_checker_parent.f k a0_0 l0_1 l0_2 a1 = some r) :
  Calls Tryz.prog 101 #[.agg #[.int .i64 a0_0, .slice A0_1 l0_1.length c0_1, .slice A0_2 l0_2.length c0_2], .int .i64 a1] w fun e w' => e = .returned (.int .i64 r) ∧ Below w.heap.size w w' := by
 have hu124 := Tryz.underlying124
 have hu54 := Tryz.underlying54
 have HR0_1 := Aside0.mk hr0_1
 have HC0_1 := Aside0.mk hc0_1
 clear hr0_1 hc0_1
 have HR0_2 := Aside0.mk hr0_2
 have HC0_2 := Aside0.mk hc0_2
 clear hr0_2 hc0_2
 have HB := Aside0.mk (Below.refl w.heap.size w)
 have H : (if 0 ≤ a1 then (if a1 < (l0_1.length : Int) then (if a1 = 0 then (if ((rd_T54 l0_1 a1).f1) = (-1) then (some 0) else (some 1)) else (if ((rd_T54 l0_1 a1).f1) < 0 then (chart_checker_parent.j0 k true a0_0 l0_1 l0_2 ((rd_T54 l0_1 a1).f0) ((rd_T54 l0_1 a1).f1) ((rd_T54 l0_1 a1).f2) ((rd_T54 l0_1 a1).f3) ((rd_T54 l0_1 a1).f4)) else (if ((rd_T54 l0_1 a1).f1) = (wrap64 (a1 - 1)) then (chart_checker_parent.j0 k false a0_0 l0_1 l0_2 ((rd_T54 l0_1 a1).f0) ((rd_T54 l0_1 a1).f1) ((rd_T54 l0_1 a1).f2) ((rd_T54 l0_1 a1).f3) ((rd_T54 l0_1 a1).f4)) else ((chart_checker_in.f k a0_0 l0_1 l0_2 (wrap64 (a1 - 1)) ((rd_T54 l0_1 a1).f1)).bind fun t369 => (chart_checker_parent.j0 k (!t369) a0_0 l0_1 l0_2 ((rd_T54 l0_1 a1).f0) ((rd_T54 l0_1 a1).f1) ((rd_T54 l0_1 a1).f2) ((rd_T54 l0_1 a1).f3) ((rd_T54 l0_1 a1).f4)))))) else (none)) else (none)) = some r := h
 clear h
 by_cases c3 : 0 ≤ a1
 ·rw [if_pos c3] at H
  have c3b0 : decide (0 ≤ a1) = true := decide_eq_true c3
  clear c3
  by_cases c4 : a1 < (l0_1.length : Int)
  ·rw [if_pos c4] at H
   have c4b0 : decide (a1 < (l0_1.length : Int)) = true := decide_eq_true c4
   clear c4
   by_cases c5 : a1 = 0
   ·rw [if_pos c5] at H
    have c5b0 : (a1 == 0) = true := beq_iff_eq.mpr c5
    have c5b1 : (a1 != 0) = false := bne_eq_false_iff_eq.mpr c5
    clear c5
    by_cases c6 : ((rd_T54 l0_1 a1).f1) = (-1)
    ·rw [if_pos c6] at H
     have c6b0 : (((rd_T54 l0_1 a1).f1) == (-1)) = true := beq_iff_eq.mpr c6
     have c6b1 : (((rd_T54 l0_1 a1).f1) != (-1)) = false := bne_eq_false_iff_eq.mpr c6
     clear c6
     obtain rfl := Option.some.inj H
     go_enter Tryz.func101, Tryz.ntmps101
     go_wp2_with (first | ((with_reducible refine gate_dst (N := 2) rfl ?_); refine box_event ?hg (N := 2) ?hd (cs := #[.int .i64 a0_0, .slice A0_1 l0_1.length c0_1, .slice A0_2 l0_2.length c0_2]) (t := 124) ?hr ?_; (case hd => rfl); (case hg => rfl); (case hr => first | (go_simp; done) | (go_simp; rfl)); intro gb366 hg w7 hbox hb; have n0_ := Aside0.mk (below_step (by repeat (first | (with_reducible first | exact HB.out | apply below_alloc | apply pw_below_drewN | apply below_drew1) | exact HB.out)) hb); have n1_ := Aside0.mk (hbox); have n2_ := Aside0.mk ((by rw [hg]; exact (below_size (by repeat (first | (with_reducible first | exact HB.out | apply below_alloc | apply pw_below_drewN | apply below_drew1) | exact HB.out))) : w.heap.size ≤ gb366)); have n3_ := Aside0.mk ((by rw [hg]; exact (below_size (by repeat (first | (with_reducible first | exact HB.out | apply below_alloc | apply pw_below_drewN | apply below_drew1) | exact HB.out))) : w.heap.size ≤ gb366)); clear HB; have HB := n0_; have BK366 := n1_; have GW366 := n2_; have GE366 := n3_; clear n0_ n1_ n2_ n3_; clear hb hbox hg; have hcz8_0 : w7.cell? ⟨gb366, 0, none⟩ = some (.int .i64 a0_0) := (blk_cell BK366.out 0).trans rfl; have hcz8_1 : w7.cell? ⟨gb366, 1, none⟩ = some (.slice A0_1 l0_1.length c0_1) := (blk_cell BK366.out 1).trans rfl; have hcz8_2 : w7.cell? ⟨gb366, 2, none⟩ = some (.slice A0_2 l0_2.length c0_2) := (blk_cell BK366.out 2).trans rfl; have hfz8_0 := blk_frozen BK366.out 0; have hfz8_1 := blk_frozen BK366.out 1; have hfz8_2 := blk_frozen BK366.out 2; have p367 : 0 ≤ (a1 : Int) := of_decide_eq_true (by first | (with_reducible assumption) | assumption); have q367 : a1 < (l0_1.length : Int) := of_decide_eq_true (by first | (with_reducible assumption) | assumption); obtain ⟨ad367, A367_2, c367_2, A367_3, c367_3, A367_4, c367_4, e367, hx367_0, hx367_1, hx367_2, hx367_3, hx367_4, hl367_2, hi367_2, hl367_3, hi367_3, hl367_4, hi367_4⟩ := at_T54 HR0_1.out a1 p367 q367; cases e367; replace hx367_0 := (HB.out.cell (World.block_lt_of_cell? w _ hx367_0)).trans hx367_0; replace hx367_1 := (HB.out.cell (World.block_lt_of_cell? w _ hx367_1)).trans hx367_1; replace hx367_2 := (HB.out.cell (World.block_lt_of_cell? w _ hx367_2)).trans hx367_2; replace hx367_3 := (HB.out.cell (World.block_lt_of_cell? w _ hx367_3)).trans hx367_3; replace hx367_4 := (HB.out.cell (World.block_lt_of_cell? w _ hx367_4)).trans hx367_4; have HR367_2 := Aside0.mk hi367_2; have HC367_2 := Aside0.mk hl367_2; clear hi367_2 hl367_2; have HR367_3 := Aside0.mk hi367_3; have HC367_3 := Aside0.mk hl367_3; clear hi367_3 hl367_3; have HR367_4 := Aside0.mk hi367_4; have HC367_4 := Aside0.mk hl367_4; clear hi367_4 hl367_4; replace p367 := eq_true p367; replace q367 := eq_true q367) | ((with_reducible refine gate_dst (N := 5) rfl ?_); refine box_event ?hg (N := 5) ?hd (cs := #[.int .i64 0, .int .i64 0, .slice none 0 0, .slice none 0 0, .slice none 0 0]) (t := 54) ?hr ?_; (case hd => rfl); (case hg => rfl); (case hr => first | (go_simp; done) | (go_simp; rfl)); intro gb368 hg w9 hbox hb; have n0_ := Aside0.mk (blk_below (g := gb366) (o := .cells #[.int .i64 a0_0, .slice (some ad367) l0_1.length c0_1, .slice A0_2 l0_2.length c0_2] 124 (0, 0)) (by (with_reducible repeat (first | refine blk_drewN ?_ _ | refine blk_drew ?_ | refine blk_alloc ?_ _)); exact BK366.out) hb); have n1_ := Aside0.mk (below_step (by repeat (first | (with_reducible first | exact HB.out | apply below_alloc | apply pw_below_drewN | apply below_drew1 | refine below_set ?_ GE366.out) | exact HB.out)) hb); have n2_ := Aside0.mk (hbox); have n3_ := Aside0.mk ((by rw [hg]; exact (below_size (by repeat (first | (with_reducible first | exact HB.out | apply below_alloc | apply pw_below_drewN | apply below_drew1 | refine below_set ?_ GE366.out) | exact HB.out))) : w.heap.size ≤ gb368)); have n4_ := Aside0.mk ((by rw [hg]; exact (below_size (by repeat (first | (with_reducible first | exact HB.out | apply below_alloc | apply pw_below_drewN | apply below_drew1 | refine below_set ?_ GE366.out) | exact HB.out))) : w.heap.size ≤ gb368)); have n5_ := Aside0.mk ((by rw [hg]; exact Nat.ne_of_lt (blk_lt (g := gb366) (o := .cells #[.int .i64 a0_0, .slice (some ad367) l0_1.length c0_1, .slice A0_2 l0_2.length c0_2] 124 (0, 0)) (by (with_reducible repeat (first | refine blk_drewN ?_ _ | refine blk_drew ?_ | refine blk_alloc ?_ _)); exact BK366.out)) : gb366 ≠ gb368)); have n6_ := Aside0.mk ((by rw [hg]; exact Nat.ne_of_gt (blk_lt (g := gb366) (o := .cells #[.int .i64 a0_0, .slice (some ad367) l0_1.length c0_1, .slice A0_2 l0_2.length c0_2] 124 (0, 0)) (by (with_reducible repeat (first | refine blk_drewN ?_ _ | refine blk_drew ?_ | refine blk_alloc ?_ _)); exact BK366.out)) : gb368 ≠ gb366)); clear BK366; clear HB; have BK366 := n0_; have HB := n1_; have BK368 := n2_; have GW368 := n3_; have GE368 := n4_; have NB366_368 := n5_; have NB368_366 := n6_; clear n0_ n1_ n2_ n3_ n4_ n5_ n6_; clear hb hbox hg; have hnb10 := NB368_366.out; have hnc10 := NB366_368.out; have hcz11_0 : w9.cell? ⟨gb368, 0, none⟩ = some (.int .i64 0) := (blk_cell BK368.out 0).trans rfl; have hcz11_1 : w9.cell? ⟨gb368, 1, none⟩ = some (.int .i64 0) := (blk_cell BK368.out 1).trans rfl; have hcz11_2 : w9.cell? ⟨gb368, 2, none⟩ = some (.slice none 0 0) := (blk_cell BK368.out 2).trans rfl; have hcz11_3 : w9.cell? ⟨gb368, 3, none⟩ = some (.slice none 0 0) := (blk_cell BK368.out 3).trans rfl; have hcz11_4 : w9.cell? ⟨gb368, 4, none⟩ = some (.slice none 0 0) := (blk_cell BK368.out 4).trans rfl; have hfz11_0 := blk_frozen BK368.out 0; have hfz11_1 := blk_frozen BK368.out 1; have hfz11_2 := blk_frozen BK368.out 2; have hfz11_3 := blk_frozen BK368.out 3; have hfz11_4 := blk_frozen BK368.out 4))
     go_ret
     exact ⟨by first | rfl | (simp [errW_none, errW_some] <;> rfl) | (simp [*, errW_none, errW_some] <;> rfl), by repeat (first | (with_reducible first | exact HB.out | apply below_alloc | apply pw_below_drewN | apply below_drew1 | refine below_set ?_ GE366.out | refine below_set ?_ GE368.out) | exact HB.out)⟩
    ·rw [if_neg c6] at H
     have c6b0 : (((rd_T54 l0_1 a1).f1) == (-1)) = false := beq_eq_false_iff_ne.mpr c6
     have c6b1 : (((rd_T54 l0_1 a1).f1) != (-1)) = true := bne_iff_ne.mpr c6
     obtain rfl := Option.some.inj H
     go_enter Tryz.func101, Tryz.ntmps101
     go_wp2_with (first | ((with_reducible refine gate_dst (N := 2) rfl ?_); refine box_event ?hg (N := 2) ?hd (cs := #[.int .i64 a0_0, .slice A0_1 l0_1.length c0_1, .slice A0_2 l0_2.length c0_2]) (t := 124) ?hr ?_; (case hd => rfl); (case hg => rfl); (case hr => first | (go_simp; done) | (go_simp; rfl)); intro gb366 hg w12 hbox hb; have n0_ := Aside0.mk (below_step (by repeat (first | (with_reducible first | exact HB.out | apply below_alloc | apply pw_below_drewN | apply below_drew1) | exact HB.out)) hb); have n1_ := Aside0.mk (hbox); have n2_ := Aside0.mk ((by rw [hg]; exact (below_size (by repeat (first | (with_reducible first | exact HB.out | apply below_alloc | apply pw_below_drewN | apply below_drew1) | exact HB.out))) : w.heap.size ≤ gb366)); have n3_ := Aside0.mk ((by rw [hg]; exact (below_size (by repeat (first | (with_reducible first | exact HB.out | apply below_alloc | apply pw_below_drewN | apply below_drew1) | exact HB.out))) : w.heap.size ≤ gb366)); clear HB; have HB := n0_; have BK366 := n1_; have GW366 := n2_; have GE366 := n3_; clear n0_ n1_ n2_ n3_; clear hb hbox hg; have hcz13_0 : w12.cell? ⟨gb366, 0, none⟩ = some (.int .i64 a0_0) := (blk_cell BK366.out 0).trans rfl; have hcz13_1 : w12.cell? ⟨gb366, 1, none⟩ = some (.slice A0_1 l0_1.length c0_1) := (blk_cell BK366.out 1).trans rfl; have hcz13_2 : w12.cell? ⟨gb366, 2, none⟩ = some (.slice A0_2 l0_2.length c0_2) := (blk_cell BK366.out 2).trans rfl; have hfz13_0 := blk_frozen BK366.out 0; have hfz13_1 := blk_frozen BK366.out 1; have hfz13_2 := blk_frozen BK366.out 2; have p367 : 0 ≤ (a1 : Int) := of_decide_eq_true (by first | (with_reducible assumption) | assumption); have q367 : a1 < (l0_1.length : Int) := of_decide_eq_true (by first | (with_reducible assumption) | assumption); obtain ⟨ad367, A367_2, c367_2, A367_3, c367_3, A367_4, c367_4, e367, hx367_0, hx367_1, hx367_2, hx367_3, hx367_4, hl367_2, hi367_2, hl367_3, hi367_3, hl367_4, hi367_4⟩ := at_T54 HR0_1.out a1 p367 q367; cases e367; replace hx367_0 := (HB.out.cell (World.block_lt_of_cell? w _ hx367_0)).trans hx367_0; replace hx367_1 := (HB.out.cell (World.block_lt_of_cell? w _ hx367_1)).trans hx367_1; replace hx367_2 := (HB.out.cell (World.block_lt_of_cell? w _ hx367_2)).trans hx367_2; replace hx367_3 := (HB.out.cell (World.block_lt_of_cell? w _ hx367_3)).trans hx367_3; replace hx367_4 := (HB.out.cell (World.block_lt_of_cell? w _ hx367_4)).trans hx367_4; have HR367_2 := Aside0.mk hi367_2; have HC367_2 := Aside0.mk hl367_2; clear hi367_2 hl367_2; have HR367_3 := Aside0.mk hi367_3; have HC367_3 := Aside0.mk hl367_3; clear hi367_3 hl367_3; have HR367_4 := Aside0.mk hi367_4; have HC367_4 := Aside0.mk hl367_4; clear hi367_4 hl367_4; replace p367 := eq_true p367; replace q367 := eq_true q367) | ((with_reducible refine gate_dst (N := 5) rfl ?_); refine box_event ?hg (N := 5) ?hd (cs := #[.int .i64 0, .int .i64 0, .slice none 0 0, .slice none 0 0, .slice none 0 0]) (t := 54) ?hr ?_; (case hd => rfl); (case hg => rfl); (case hr => first | (go_simp; done) | (go_simp; rfl)); intro gb368 hg w14 hbox hb; have n0_ := Aside0.mk (blk_below (g := gb366) (o := .cells #[.int .i64 a0_0, .slice (some ad367) l0_1.length c0_1, .slice A0_2 l0_2.length c0_2] 124 (0, 0)) (by (with_reducible repeat (first | refine blk_drewN ?_ _ | refine blk_drew ?_ | refine blk_alloc ?_ _)); exact BK366.out) hb); have n1_ := Aside0.mk (below_step (by repeat (first | (with_reducible first | exact HB.out | apply below_alloc | apply pw_below_drewN | apply below_drew1 | refine below_set ?_ GE366.out) | exact HB.out)) hb); have n2_ := Aside0.mk (hbox); have n3_ := Aside0.mk ((by rw [hg]; exact (below_size (by repeat (first | (with_reducible first | exact HB.out | apply below_alloc | apply pw_below_drewN | apply below_drew1 | refine below_set ?_ GE366.out) | exact HB.out))) : w.heap.size ≤ gb368)); have n4_ := Aside0.mk ((by rw [hg]; exact (below_size (by repeat (first | (with_reducible first | exact HB.out | apply below_alloc | apply pw_below_drewN | apply below_drew1 | refine below_set ?_ GE366.out) | exact HB.out))) : w.heap.size ≤ gb368)); have n5_ := Aside0.mk ((by rw [hg]; exact Nat.ne_of_lt (blk_lt (g := gb366) (o := .cells #[.int .i64 a0_0, .slice (some ad367) l0_1.length c0_1, .slice A0_2 l0_2.length c0_2] 124 (0, 0)) (by (with_reducible repeat (first | refine blk_drewN ?_ _ | refine blk_drew ?_ | refine blk_alloc ?_ _)); exact BK366.out)) : gb366 ≠ gb368)); have n6_ := Aside0.mk ((by rw [hg]; exact Nat.ne_of_gt (blk_lt (g := gb366) (o := .cells #[.int .i64 a0_0, .slice (some ad367) l0_1.length c0_1, .slice A0_2 l0_2.length c0_2] 124 (0, 0)) (by (with_reducible repeat (first | refine blk_drewN ?_ _ | refine blk_drew ?_ | refine blk_alloc ?_ _)); exact BK366.out)) : gb368 ≠ gb366)); clear BK366; clear HB; have BK366 := n0_; have HB := n1_; have BK368 := n2_; have GW368 := n3_; have GE368 := n4_; have NB366_368 := n5_; have NB368_366 := n6_; clear n0_ n1_ n2_ n3_ n4_ n5_ n6_; clear hb hbox hg; have hnb15 := NB368_366.out; have hnc15 := NB366_368.out; have hcz16_0 : w14.cell? ⟨gb368, 0, none⟩ = some (.int .i64 0) := (blk_cell BK368.out 0).trans rfl; have hcz16_1 : w14.cell? ⟨gb368, 1, none⟩ = some (.int .i64 0) := (blk_cell BK368.out 1).trans rfl; have hcz16_2 : w14.cell? ⟨gb368, 2, none⟩ = some (.slice none 0 0) := (blk_cell BK368.out 2).trans rfl; have hcz16_3 : w14.cell? ⟨gb368, 3, none⟩ = some (.slice none 0 0) := (blk_cell BK368.out 3).trans rfl; have hcz16_4 : w14.cell? ⟨gb368, 4, none⟩ = some (.slice none 0 0) := (blk_cell BK368.out 4).trans rfl; have hfz16_0 := blk_frozen BK368.out 0; have hfz16_1 := blk_frozen BK368.out 1; have hfz16_2 := blk_frozen BK368.out 2; have hfz16_3 := blk_frozen BK368.out 3; have hfz16_4 := blk_frozen BK368.out 4))
     go_ret
     exact ⟨by first | rfl | (simp [errW_none, errW_some] <;> rfl) | (simp [*, errW_none, errW_some] <;> rfl), by repeat (first | (with_reducible first | exact HB.out | apply below_alloc | apply pw_below_drewN | apply below_drew1 | refine below_set ?_ GE366.out | refine below_set ?_ GE368.out) | exact HB.out)⟩
   ·rw [if_neg c5] at H
    have c5b0 : (a1 == 0) = false := beq_eq_false_iff_ne.mpr c5
    have c5b1 : (a1 != 0) = true := bne_iff_ne.mpr c5
    have HC17 := Aside0.mk H
    clear H
    go_enter Tryz.func101, Tryz.ntmps101
    go_upto_region 6 with (first | ((with_reducible refine gate_dst (N := 2) rfl ?_); refine box_event ?hg (N := 2) ?hd (cs := #[.int .i64 a0_0, .slice A0_1 l0_1.length c0_1, .slice A0_2 l0_2.length c0_2]) (t := 124) ?hr ?_; (case hd => rfl); (case hg => rfl); (case hr => first | (go_simp; done) | (go_simp; rfl)); intro gb366 hg w18 hbox hb; have n0_ := Aside0.mk (below_step (by repeat (first | (with_reducible first | exact HB.out | apply below_alloc | apply pw_below_drewN | apply below_drew1) | exact HB.out)) hb); have n1_ := Aside0.mk (hbox); have n2_ := Aside0.mk ((by rw [hg]; exact (below_size (by repeat (first | (with_reducible first | exact HB.out | apply below_alloc | apply pw_below_drewN | apply below_drew1) | exact HB.out))) : w.heap.size ≤ gb366)); have n3_ := Aside0.mk ((by rw [hg]; exact (below_size (by repeat (first | (with_reducible first | exact HB.out | apply below_alloc | apply pw_below_drewN | apply below_drew1) | exact HB.out))) : w.heap.size ≤ gb366)); clear HB; have HB := n0_; have BK366 := n1_; have GW366 := n2_; have GE366 := n3_; clear n0_ n1_ n2_ n3_; clear hb hbox hg; have hcz19_0 : w18.cell? ⟨gb366, 0, none⟩ = some (.int .i64 a0_0) := (blk_cell BK366.out 0).trans rfl; have hcz19_1 : w18.cell? ⟨gb366, 1, none⟩ = some (.slice A0_1 l0_1.length c0_1) := (blk_cell BK366.out 1).trans rfl; have hcz19_2 : w18.cell? ⟨gb366, 2, none⟩ = some (.slice A0_2 l0_2.length c0_2) := (blk_cell BK366.out 2).trans rfl; have hfz19_0 := blk_frozen BK366.out 0; have hfz19_1 := blk_frozen BK366.out 1; have hfz19_2 := blk_frozen BK366.out 2; have p367 : 0 ≤ (a1 : Int) := of_decide_eq_true (by first | (with_reducible assumption) | assumption); have q367 : a1 < (l0_1.length : Int) := of_decide_eq_true (by first | (with_reducible assumption) | assumption); obtain ⟨ad367, A367_2, c367_2, A367_3, c367_3, A367_4, c367_4, e367, hx367_0, hx367_1, hx367_2, hx367_3, hx367_4, hl367_2, hi367_2, hl367_3, hi367_3, hl367_4, hi367_4⟩ := at_T54 HR0_1.out a1 p367 q367; cases e367; replace hx367_0 := (HB.out.cell (World.block_lt_of_cell? w _ hx367_0)).trans hx367_0; replace hx367_1 := (HB.out.cell (World.block_lt_of_cell? w _ hx367_1)).trans hx367_1; replace hx367_2 := (HB.out.cell (World.block_lt_of_cell? w _ hx367_2)).trans hx367_2; replace hx367_3 := (HB.out.cell (World.block_lt_of_cell? w _ hx367_3)).trans hx367_3; replace hx367_4 := (HB.out.cell (World.block_lt_of_cell? w _ hx367_4)).trans hx367_4; have HR367_2 := Aside0.mk hi367_2; have HC367_2 := Aside0.mk hl367_2; clear hi367_2 hl367_2; have HR367_3 := Aside0.mk hi367_3; have HC367_3 := Aside0.mk hl367_3; clear hi367_3 hl367_3; have HR367_4 := Aside0.mk hi367_4; have HC367_4 := Aside0.mk hl367_4; clear hi367_4 hl367_4; replace p367 := eq_true p367; replace q367 := eq_true q367) | ((with_reducible refine gate_dst (N := 5) rfl ?_); refine box_event ?hg (N := 5) ?hd (cs := #[.int .i64 0, .int .i64 0, .slice none 0 0, .slice none 0 0, .slice none 0 0]) (t := 54) ?hr ?_; (case hd => rfl); (case hg => rfl); (case hr => first | (go_simp; done) | (go_simp; rfl)); intro gb368 hg w20 hbox hb; have n0_ := Aside0.mk (blk_below (g := gb366) (o := .cells #[.int .i64 a0_0, .slice (some ad367) l0_1.length c0_1, .slice A0_2 l0_2.length c0_2] 124 (0, 0)) (by (with_reducible repeat (first | refine blk_drewN ?_ _ | refine blk_drew ?_ | refine blk_alloc ?_ _)); exact BK366.out) hb); have n1_ := Aside0.mk (below_step (by repeat (first | (with_reducible first | exact HB.out | apply below_alloc | apply pw_below_drewN | apply below_drew1 | refine below_set ?_ GE366.out) | exact HB.out)) hb); have n2_ := Aside0.mk (hbox); have n3_ := Aside0.mk ((by rw [hg]; exact (below_size (by repeat (first | (with_reducible first | exact HB.out | apply below_alloc | apply pw_below_drewN | apply below_drew1 | refine below_set ?_ GE366.out) | exact HB.out))) : w.heap.size ≤ gb368)); have n4_ := Aside0.mk ((by rw [hg]; exact (below_size (by repeat (first | (with_reducible first | exact HB.out | apply below_alloc | apply pw_below_drewN | apply below_drew1 | refine below_set ?_ GE366.out) | exact HB.out))) : w.heap.size ≤ gb368)); have n5_ := Aside0.mk ((by rw [hg]; exact Nat.ne_of_lt (blk_lt (g := gb366) (o := .cells #[.int .i64 a0_0, .slice (some ad367) l0_1.length c0_1, .slice A0_2 l0_2.length c0_2] 124 (0, 0)) (by (with_reducible repeat (first | refine blk_drewN ?_ _ | refine blk_drew ?_ | refine blk_alloc ?_ _)); exact BK366.out)) : gb366 ≠ gb368)); have n6_ := Aside0.mk ((by rw [hg]; exact Nat.ne_of_gt (blk_lt (g := gb366) (o := .cells #[.int .i64 a0_0, .slice (some ad367) l0_1.length c0_1, .slice A0_2 l0_2.length c0_2] 124 (0, 0)) (by (with_reducible repeat (first | refine blk_drewN ?_ _ | refine blk_drew ?_ | refine blk_alloc ?_ _)); exact BK366.out)) : gb368 ≠ gb366)); clear BK366; clear HB; have BK366 := n0_; have HB := n1_; have BK368 := n2_; have GW368 := n3_; have GE368 := n4_; have NB366_368 := n5_; have NB368_366 := n6_; clear n0_ n1_ n2_ n3_ n4_ n5_ n6_; clear hb hbox hg; have hnb21 := NB368_366.out; have hnc21 := NB366_368.out; have hcz22_0 : w20.cell? ⟨gb368, 0, none⟩ = some (.int .i64 0) := (blk_cell BK368.out 0).trans rfl; have hcz22_1 : w20.cell? ⟨gb368, 1, none⟩ = some (.int .i64 0) := (blk_cell BK368.out 1).trans rfl; have hcz22_2 : w20.cell? ⟨gb368, 2, none⟩ = some (.slice none 0 0) := (blk_cell BK368.out 2).trans rfl; have hcz22_3 : w20.cell? ⟨gb368, 3, none⟩ = some (.slice none 0 0) := (blk_cell BK368.out 3).trans rfl; have hcz22_4 : w20.cell? ⟨gb368, 4, none⟩ = some (.slice none 0 0) := (blk_cell BK368.out 4).trans rfl; have hfz22_0 := blk_frozen BK368.out 0; have hfz22_1 := blk_frozen BK368.out 1; have hfz22_2 := blk_frozen BK368.out 2; have hfz22_3 := blk_frozen BK368.out 3; have hfz22_4 := blk_frozen BK368.out 4))
    (try simp only [Act.put, List.setIfInBounds_toArray, List.set_cons_zero, List.set_cons_succ])
    go_cut [36] (fun v36 wc => ∃ (kq : Nat) (x36_16 : Bool), v36 = .bool x36_16 ∧ Aside0 (chart_checker_parent.j0 kq x36_16 a0_0 l0_1 l0_2 ((rd_T54 l0_1 a1).f0) ((rd_T54 l0_1 a1).f1) ((rd_T54 l0_1 a1).f2) ((rd_T54 l0_1 a1).f3) ((rd_T54 l0_1 a1).f4) = some r) ∧ Aside0 (kq ≤ k) ∧ Aside0 (wc.heap[gb366]? = some (.cells #[.int .i64 a0_0, (.slice (some ad367) l0_1.length c0_1), (.slice A0_2 l0_2.length c0_2)] 124 (0, 0))) ∧ Aside0 (wc.heap[gb368]? = some (.cells #[.int .i64 ((rd_T54 l0_1 a1).f0), .int .i64 ((rd_T54 l0_1 a1).f1), (.slice A367_2 ((rd_T54 l0_1 a1).f2).length c367_2), (.slice A367_3 ((rd_T54 l0_1 a1).f3).length c367_3), (.slice A367_4 ((rd_T54 l0_1 a1).f4).length c367_4)] 54 (0, 0))) ∧ Aside0 (Below w.heap.size w wc))
    case first =>
     have H := HC17.out
     clear HC17
     by_cases c23 : ((rd_T54 l0_1 a1).f1) < 0
     ·rw [if_pos c23] at H
      have c23b0 : decide (((rd_T54 l0_1 a1).f1) < 0) = true := decide_eq_true c23
      clear c23
      (first | rw [c23b0] | (simp only [i64_w, i32_w]; rw [c23b0]) | skip)
      have H' := Aside0.mk H
      clear H
      have hnb24 := NB368_366.out
      have hnc24 := NB366_368.out
      have hcz25_0 : w20.cell? ⟨gb368, 0, none⟩ = some (.int .i64 0) := (blk_cell BK368.out 0).trans rfl
      have hcz25_1 : w20.cell? ⟨gb368, 1, none⟩ = some (.int .i64 0) := (blk_cell BK368.out 1).trans rfl
      have hcz25_2 : w20.cell? ⟨gb368, 2, none⟩ = some (.slice none 0 0) := (blk_cell BK368.out 2).trans rfl
      have hcz25_3 : w20.cell? ⟨gb368, 3, none⟩ = some (.slice none 0 0) := (blk_cell BK368.out 3).trans rfl
      have hcz25_4 : w20.cell? ⟨gb368, 4, none⟩ = some (.slice none 0 0) := (blk_cell BK368.out 4).trans rfl
      have hfz25_0 := blk_frozen BK368.out 0
      have hfz25_1 := blk_frozen BK368.out 1
      have hfz25_2 := blk_frozen BK368.out 2
      have hfz25_3 := blk_frozen BK368.out 3
      have hfz25_4 := blk_frozen BK368.out 4
      go_wp2
      go_meet
      case rel => exact ⟨_, (true), (by first | rfl | (simp; done) | (simp [*]; done)), H', ⟨by first | omega | exact Nat.le_refl _⟩, ⟨by (with_reducible repeat (first | refine blk_drewN ?_ _ | refine blk_drew ?_ | refine blk_alloc ?_ _)); refine blk_far ?_ NB366_368.out _; (with_reducible repeat (first | refine blk_drewN ?_ _ | refine blk_drew ?_ | refine blk_alloc ?_ _)); refine blk_far ?_ NB366_368.out _; (with_reducible repeat (first | refine blk_drewN ?_ _ | refine blk_drew ?_ | refine blk_alloc ?_ _)); refine blk_far ?_ NB366_368.out _; (with_reducible repeat (first | refine blk_drewN ?_ _ | refine blk_drew ?_ | refine blk_alloc ?_ _)); refine blk_far ?_ NB366_368.out _; (with_reducible repeat (first | refine blk_drewN ?_ _ | refine blk_drew ?_ | refine blk_alloc ?_ _)); refine blk_far ?_ NB366_368.out _; (with_reducible repeat (first | refine blk_drewN ?_ _ | refine blk_drew ?_ | refine blk_alloc ?_ _)); exact BK366.out⟩, ⟨by (with_reducible repeat (first | refine blk_drewN ?_ _ | refine blk_drew ?_ | refine blk_alloc ?_ _)); refine blk_put (cs := #[.int .i64 ((rd_T54 l0_1 a1).f0), .int .i64 ((rd_T54 l0_1 a1).f1), .slice A367_2 ((rd_T54 l0_1 a1).f2).length c367_2, .slice A367_3 ((rd_T54 l0_1 a1).f3).length c367_3, .slice none 0 0]) ?_ 4 _ rfl; (with_reducible repeat (first | refine blk_drewN ?_ _ | refine blk_drew ?_ | refine blk_alloc ?_ _)); refine blk_put (cs := #[.int .i64 ((rd_T54 l0_1 a1).f0), .int .i64 ((rd_T54 l0_1 a1).f1), .slice A367_2 ((rd_T54 l0_1 a1).f2).length c367_2, .slice none 0 0, .slice none 0 0]) ?_ 3 _ rfl; (with_reducible repeat (first | refine blk_drewN ?_ _ | refine blk_drew ?_ | refine blk_alloc ?_ _)); refine blk_put (cs := #[.int .i64 ((rd_T54 l0_1 a1).f0), .int .i64 ((rd_T54 l0_1 a1).f1), .slice none 0 0, .slice none 0 0, .slice none 0 0]) ?_ 2 _ rfl; (with_reducible repeat (first | refine blk_drewN ?_ _ | refine blk_drew ?_ | refine blk_alloc ?_ _)); refine blk_put (cs := #[.int .i64 ((rd_T54 l0_1 a1).f0), .int .i64 0, .slice none 0 0, .slice none 0 0, .slice none 0 0]) ?_ 1 _ rfl; (with_reducible repeat (first | refine blk_drewN ?_ _ | refine blk_drew ?_ | refine blk_alloc ?_ _)); refine blk_put (cs := #[.int .i64 0, .int .i64 0, .slice none 0 0, .slice none 0 0, .slice none 0 0]) ?_ 0 _ rfl; (with_reducible repeat (first | refine blk_drewN ?_ _ | refine blk_drew ?_ | refine blk_alloc ?_ _)); exact BK368.out⟩, ⟨by repeat (first | (with_reducible first | exact HB.out | apply below_alloc | apply pw_below_drewN | apply below_drew1 | refine below_set ?_ GE366.out | refine below_set ?_ GE368.out) | exact HB.out)⟩⟩
     ·rw [if_neg c23] at H
      have c23b0 : decide (((rd_T54 l0_1 a1).f1) < 0) = false := decide_eq_false c23
      clear c23
      (first | rw [c23b0] | (simp only [i64_w, i32_w]; rw [c23b0]) | skip)
      by_cases c26 : ((rd_T54 l0_1 a1).f1) = (wrap64 (a1 - 1))
      ·rw [if_pos c26] at H
       have c26b0 : (((rd_T54 l0_1 a1).f1) == (wrap64 (a1 - 1))) = true := beq_iff_eq.mpr c26
       have c26b1 : (((rd_T54 l0_1 a1).f1) != (wrap64 (a1 - 1))) = false := bne_eq_false_iff_eq.mpr c26
       clear c26
       have H' := Aside0.mk H
       clear H
       have hnb27 := NB368_366.out
       have hnc27 := NB366_368.out
       have hcz28_0 : w20.cell? ⟨gb368, 0, none⟩ = some (.int .i64 0) := (blk_cell BK368.out 0).trans rfl
       have hcz28_1 : w20.cell? ⟨gb368, 1, none⟩ = some (.int .i64 0) := (blk_cell BK368.out 1).trans rfl
       have hcz28_2 : w20.cell? ⟨gb368, 2, none⟩ = some (.slice none 0 0) := (blk_cell BK368.out 2).trans rfl
       have hcz28_3 : w20.cell? ⟨gb368, 3, none⟩ = some (.slice none 0 0) := (blk_cell BK368.out 3).trans rfl
       have hcz28_4 : w20.cell? ⟨gb368, 4, none⟩ = some (.slice none 0 0) := (blk_cell BK368.out 4).trans rfl
       have hfz28_0 := blk_frozen BK368.out 0
       have hfz28_1 := blk_frozen BK368.out 1
       have hfz28_2 := blk_frozen BK368.out 2
       have hfz28_3 := blk_frozen BK368.out 3
       have hfz28_4 := blk_frozen BK368.out 4
       go_wp2
       go_meet
       case rel => exact ⟨_, (false), (by first | rfl | (simp; done) | (simp [*]; done)), H', ⟨by first | omega | exact Nat.le_refl _⟩, ⟨by (with_reducible repeat (first | refine blk_drewN ?_ _ | refine blk_drew ?_ | refine blk_alloc ?_ _)); refine blk_far ?_ NB366_368.out _; (with_reducible repeat (first | refine blk_drewN ?_ _ | refine blk_drew ?_ | refine blk_alloc ?_ _)); refine blk_far ?_ NB366_368.out _; (with_reducible repeat (first | refine blk_drewN ?_ _ | refine blk_drew ?_ | refine blk_alloc ?_ _)); refine blk_far ?_ NB366_368.out _; (with_reducible repeat (first | refine blk_drewN ?_ _ | refine blk_drew ?_ | refine blk_alloc ?_ _)); refine blk_far ?_ NB366_368.out _; (with_reducible repeat (first | refine blk_drewN ?_ _ | refine blk_drew ?_ | refine blk_alloc ?_ _)); refine blk_far ?_ NB366_368.out _; (with_reducible repeat (first | refine blk_drewN ?_ _ | refine blk_drew ?_ | refine blk_alloc ?_ _)); exact BK366.out⟩, ⟨by (with_reducible repeat (first | refine blk_drewN ?_ _ | refine blk_drew ?_ | refine blk_alloc ?_ _)); refine blk_put (cs := #[.int .i64 ((rd_T54 l0_1 a1).f0), .int .i64 ((rd_T54 l0_1 a1).f1), .slice A367_2 ((rd_T54 l0_1 a1).f2).length c367_2, .slice A367_3 ((rd_T54 l0_1 a1).f3).length c367_3, .slice none 0 0]) ?_ 4 _ rfl; (with_reducible repeat (first | refine blk_drewN ?_ _ | refine blk_drew ?_ | refine blk_alloc ?_ _)); refine blk_put (cs := #[.int .i64 ((rd_T54 l0_1 a1).f0), .int .i64 ((rd_T54 l0_1 a1).f1), .slice A367_2 ((rd_T54 l0_1 a1).f2).length c367_2, .slice none 0 0, .slice none 0 0]) ?_ 3 _ rfl; (with_reducible repeat (first | refine blk_drewN ?_ _ | refine blk_drew ?_ | refine blk_alloc ?_ _)); refine blk_put (cs := #[.int .i64 ((rd_T54 l0_1 a1).f0), .int .i64 ((rd_T54 l0_1 a1).f1), .slice none 0 0, .slice none 0 0, .slice none 0 0]) ?_ 2 _ rfl; (with_reducible repeat (first | refine blk_drewN ?_ _ | refine blk_drew ?_ | refine blk_alloc ?_ _)); refine blk_put (cs := #[.int .i64 ((rd_T54 l0_1 a1).f0), .int .i64 0, .slice none 0 0, .slice none 0 0, .slice none 0 0]) ?_ 1 _ rfl; (with_reducible repeat (first | refine blk_drewN ?_ _ | refine blk_drew ?_ | refine blk_alloc ?_ _)); refine blk_put (cs := #[.int .i64 0, .int .i64 0, .slice none 0 0, .slice none 0 0, .slice none 0 0]) ?_ 0 _ rfl; (with_reducible repeat (first | refine blk_drewN ?_ _ | refine blk_drew ?_ | refine blk_alloc ?_ _)); exact BK368.out⟩, ⟨by repeat (first | (with_reducible first | exact HB.out | apply below_alloc | apply pw_below_drewN | apply below_drew1 | refine below_set ?_ GE366.out | refine below_set ?_ GE368.out) | exact HB.out)⟩⟩
      ·rw [if_neg c26] at H
       have c26b0 : (((rd_T54 l0_1 a1).f1) == (wrap64 (a1 - 1))) = false := beq_eq_false_iff_ne.mpr c26
       have c26b1 : (((rd_T54 l0_1 a1).f1) != (wrap64 (a1 - 1))) = true := bne_iff_ne.mpr c26
       replace H := Option.bind_eq_some_iff.mp H
       obtain ⟨t369, A290, H⟩ := H
       replace H : (chart_checker_parent.j0 k (!t369) a0_0 l0_1 l0_2 ((rd_T54 l0_1 a1).f0) ((rd_T54 l0_1 a1).f1) ((rd_T54 l0_1 a1).f2) ((rd_T54 l0_1 a1).f3) ((rd_T54 l0_1 a1).f4)) = some r := H
       have A29 := Aside0.mk A290
       clear A290
       have H' := Aside0.mk H
       clear H
       have hnb30 := NB368_366.out
       have hnc30 := NB366_368.out
       have hcz31_0 : w20.cell? ⟨gb368, 0, none⟩ = some (.int .i64 0) := (blk_cell BK368.out 0).trans rfl
       have hcz31_1 : w20.cell? ⟨gb368, 1, none⟩ = some (.int .i64 0) := (blk_cell BK368.out 1).trans rfl
       have hcz31_2 : w20.cell? ⟨gb368, 2, none⟩ = some (.slice none 0 0) := (blk_cell BK368.out 2).trans rfl
       have hcz31_3 : w20.cell? ⟨gb368, 3, none⟩ = some (.slice none 0 0) := (blk_cell BK368.out 3).trans rfl
       have hcz31_4 : w20.cell? ⟨gb368, 4, none⟩ = some (.slice none 0 0) := (blk_cell BK368.out 4).trans rfl
       have hfz31_0 := blk_frozen BK368.out 0
       have hfz31_1 := blk_frozen BK368.out 1
       have hfz31_2 := blk_frozen BK368.out 2
       have hfz31_3 := blk_frozen BK368.out 3
       have hfz31_4 := blk_frozen BK368.out 4
       have hcz32_0 : w20.cell? ⟨gb366, 0, none⟩ = some (.int .i64 a0_0) := (blk_cell BK366.out 0).trans rfl
       have hcz32_1 : w20.cell? ⟨gb366, 1, none⟩ = some (.slice (some ad367) l0_1.length c0_1) := (blk_cell BK366.out 1).trans rfl
       have hcz32_2 : w20.cell? ⟨gb366, 2, none⟩ = some (.slice A0_2 l0_2.length c0_2) := (blk_cell BK366.out 2).trans rfl
       have hfz32_0 := blk_frozen BK366.out 0
       have hfz32_1 := blk_frozen BK366.out 1
       have hfz32_2 := blk_frozen BK366.out 2
       go_wp2_with (first | (go_at_call 136; (with_reducible refine (chart_checker_in.calls k a0_0 _ _ l0_1 _ _ l0_2 (wrap64 (a1 - 1)) ((rd_T54 l0_1 a1).f1) t369 _ ?side1 ?side2 ?side3 ?side4 A29.out).mono ?_); (case side1 => exact Kd.C_below HR0_1.out (by repeat (first | (with_reducible first | exact HB.out | apply below_alloc | apply pw_below_drewN | apply below_drew1 | refine below_set ?_ GE366.out | refine below_set ?_ GE368.out) | exact HB.out))); (case side2 => exact HC0_1.out); (case side3 => exact Kd.C_below HR0_2.out (by repeat (first | (with_reducible first | exact HB.out | apply below_alloc | apply pw_below_drewN | apply below_drew1 | refine below_set ?_ GE366.out | refine below_set ?_ GE368.out) | exact HB.out))); (case side4 => exact HC0_2.out); rintro e w33 ⟨rfl, hb⟩; have n0_ := Aside0.mk (blk_below (g := gb366) (o := .cells #[.int .i64 a0_0, .slice (some ad367) l0_1.length c0_1, .slice A0_2 l0_2.length c0_2] 124 (0, 0)) (by (with_reducible repeat (first | refine blk_drewN ?_ _ | refine blk_drew ?_ | refine blk_alloc ?_ _)); refine blk_far ?_ NB366_368.out _; (with_reducible repeat (first | refine blk_drewN ?_ _ | refine blk_drew ?_ | refine blk_alloc ?_ _)); refine blk_far ?_ NB366_368.out _; (with_reducible repeat (first | refine blk_drewN ?_ _ | refine blk_drew ?_ | refine blk_alloc ?_ _)); refine blk_far ?_ NB366_368.out _; (with_reducible repeat (first | refine blk_drewN ?_ _ | refine blk_drew ?_ | refine blk_alloc ?_ _)); refine blk_far ?_ NB366_368.out _; (with_reducible repeat (first | refine blk_drewN ?_ _ | refine blk_drew ?_ | refine blk_alloc ?_ _)); refine blk_far ?_ NB366_368.out _; (with_reducible repeat (first | refine blk_drewN ?_ _ | refine blk_drew ?_ | refine blk_alloc ?_ _)); exact BK366.out) hb); have n1_ := Aside0.mk (blk_below (g := gb368) (o := .cells #[.int .i64 ((rd_T54 l0_1 a1).f0), .int .i64 ((rd_T54 l0_1 a1).f1), .slice A367_2 ((rd_T54 l0_1 a1).f2).length c367_2, .slice A367_3 ((rd_T54 l0_1 a1).f3).length c367_3, .slice A367_4 ((rd_T54 l0_1 a1).f4).length c367_4] 54 (0, 0)) (by (with_reducible repeat (first | refine blk_drewN ?_ _ | refine blk_drew ?_ | refine blk_alloc ?_ _)); refine blk_put (cs := #[.int .i64 ((rd_T54 l0_1 a1).f0), .int .i64 ((rd_T54 l0_1 a1).f1), .slice A367_2 ((rd_T54 l0_1 a1).f2).length c367_2, .slice A367_3 ((rd_T54 l0_1 a1).f3).length c367_3, .slice none 0 0]) ?_ 4 _ rfl; (with_reducible repeat (first | refine blk_drewN ?_ _ | refine blk_drew ?_ | refine blk_alloc ?_ _)); refine blk_put (cs := #[.int .i64 ((rd_T54 l0_1 a1).f0), .int .i64 ((rd_T54 l0_1 a1).f1), .slice A367_2 ((rd_T54 l0_1 a1).f2).length c367_2, .slice none 0 0, .slice none 0 0]) ?_ 3 _ rfl; (with_reducible repeat (first | refine blk_drewN ?_ _ | refine blk_drew ?_ | refine blk_alloc ?_ _)); refine blk_put (cs := #[.int .i64 ((rd_T54 l0_1 a1).f0), .int .i64 ((rd_T54 l0_1 a1).f1), .slice none 0 0, .slice none 0 0, .slice none 0 0]) ?_ 2 _ rfl; (with_reducible repeat (first | refine blk_drewN ?_ _ | refine blk_drew ?_ | refine blk_alloc ?_ _)); refine blk_put (cs := #[.int .i64 ((rd_T54 l0_1 a1).f0), .int .i64 0, .slice none 0 0, .slice none 0 0, .slice none 0 0]) ?_ 1 _ rfl; (with_reducible repeat (first | refine blk_drewN ?_ _ | refine blk_drew ?_ | refine blk_alloc ?_ _)); refine blk_put (cs := #[.int .i64 0, .int .i64 0, .slice none 0 0, .slice none 0 0, .slice none 0 0]) ?_ 0 _ rfl; (with_reducible repeat (first | refine blk_drewN ?_ _ | refine blk_drew ?_ | refine blk_alloc ?_ _)); exact BK368.out) hb); have n2_ := Aside0.mk (below_step (by repeat (first | (with_reducible first | exact HB.out | apply below_alloc | apply pw_below_drewN | apply below_drew1 | refine below_set ?_ GE366.out | refine below_set ?_ GE368.out) | exact HB.out)) hb); clear BK366; clear BK368; clear HB; have BK366 := n0_; have BK368 := n1_; have HB := n2_; clear n0_ n1_ n2_; (try clear hb); (try clear hb2); (try clear hk); (try clear hi)))
       go_meet
       case rel => exact ⟨_, (!t369), (by first | rfl | (simp; done) | (simp [*]; done)), H', ⟨by first | omega | exact Nat.le_refl _⟩, ⟨by (with_reducible repeat (first | refine blk_drewN ?_ _ | refine blk_drew ?_ | refine blk_alloc ?_ _)); exact BK366.out⟩, ⟨by (with_reducible repeat (first | refine blk_drewN ?_ _ | refine blk_drew ?_ | refine blk_alloc ?_ _)); exact BK368.out⟩, ⟨by repeat (first | (with_reducible first | exact HB.out | apply below_alloc | apply pw_below_drewN | apply below_drew1 | refine below_set ?_ GE366.out | refine below_set ?_ GE368.out) | exact HB.out)⟩⟩
    case rest =>
     clear HC17
     try clear c1
     try clear c2
     try clear p2
     try clear c3
     try clear c3b0
     try clear p3
     try clear q3
     try clear hx3
     try clear c4
     try clear c4b0
     try clear c5
     try clear c5b0
     try clear c5b1
     try clear c6
     try clear c6b0
     try clear c6b1
     try clear p6
     try clear c10
     try clear c15
     try clear c21
     try clear c23
     try clear c23b0
     try clear c24
     try clear c26
     try clear c26b0
     try clear c26b1
     try clear c27
     try clear c30
     try clear hcz11_0
     try clear hcz11_1
     try clear hcz11_2
     try clear hcz11_3
     try clear hcz11_4
     try clear hcz13_0
     try clear hcz13_1
     try clear hcz13_2
     try clear hcz16_0
     try clear hcz16_1
     try clear hcz16_2
     try clear hcz16_3
     try clear hcz16_4
     try clear hcz19_0
     try clear hcz19_1
     try clear hcz19_2
     try clear hcz22_0
     try clear hcz22_1
     try clear hcz22_2
     try clear hcz22_3
     try clear hcz22_4
     try clear hcz25_0
     try clear hcz25_1
     try clear hcz25_2
     try clear hcz25_3
     try clear hcz25_4
     try clear hcz28_0
     try clear hcz28_1
     try clear hcz28_2
     try clear hcz28_3
     try clear hcz28_4
     try clear hcz31_0
     try clear hcz31_1
     try clear hcz31_2
     try clear hcz31_3
     try clear hcz31_4
     try clear hcz32_0
     try clear hcz32_1
     try clear hcz32_2
     try clear hcz8_0
     try clear hcz8_1
     try clear hcz8_2
     try clear hfz11_0
     try clear hfz11_1
     try clear hfz11_2
     try clear hfz11_3
     try clear hfz11_4
     try clear hfz13_0
     try clear hfz13_1
     try clear hfz13_2
     try clear hfz16_0
     try clear hfz16_1
     try clear hfz16_2
     try clear hfz16_3
     try clear hfz16_4
     try clear hfz19_0
     try clear hfz19_1
     try clear hfz19_2
     try clear hfz22_0
     try clear hfz22_1
     try clear hfz22_2
     try clear hfz22_3
     try clear hfz22_4
     try clear hfz25_0
     try clear hfz25_1
     try clear hfz25_2
     try clear hfz25_3
     try clear hfz25_4
     try clear hfz28_0
     try clear hfz28_1
     try clear hfz28_2
     try clear hfz28_3
     try clear hfz28_4
     try clear hfz31_0
     try clear hfz31_1
     try clear hfz31_2
     try clear hfz31_3
     try clear hfz31_4
     try clear hfz32_0
     try clear hfz32_1
     try clear hfz32_2
     try clear hfz8_0
     try clear hfz8_1
     try clear hfz8_2
     try clear hx367_0
     try clear hx367_1
     try clear hx367_2
     try clear hx367_3
     try clear hx367_4
     try clear p367
     try clear q367
     obtain ⟨kq, x36_16, rfl, HA, HJ16, BK366, BK368, HB⟩ := hcut
     cases kq with
     | zero => exact absurd HA.out (by simp [chart_checker_parent.j0])
     | succ kj16 =>
      have H := HA.out
      clear HA
      simp only [chart_checker_parent.j0] at H
      by_cases c34 : x36_16 = true
      ·subst c34
       have H1 : (some 1) = some r := by rw [if_pos rfl] at H; exact H
       clear H
       have H := H1
       clear H1
       obtain rfl := Option.some.inj H
       go_wp2
       go_ret
       exact ⟨by first | rfl | (simp [errW_none, errW_some] <;> rfl) | (simp [*, errW_none, errW_some] <;> rfl), by repeat (first | (with_reducible first | exact HB.out | apply below_alloc | apply pw_below_drewN | apply below_drew1 | refine below_set ?_ GE366.out | refine below_set ?_ GE368.out) | exact HB.out)⟩
      ·replace c34 := Bool.eq_false_iff.mpr c34
       subst c34
       have H1 : (if 0 ≤ ((rd_T54 l0_1 a1).f1) then (if ((rd_T54 l0_1 a1).f1) < (l0_1.length : Int) then (if ((rd_T54 l0_1 ((rd_T54 l0_1 a1).f1)).f0) = 2 then (if ((rd_T54 l0_1 a1).f1) = 0 then ((chart_history.f ((rd_T54 l0_1 a1).f0)).bind fun t371 => (if t371 = true then (some 10) else (some 0))) else (some 0)) else (if ((rd_T54 l0_1 ((rd_T54 l0_1 a1).f1)).f0) = 3 then (if ((rd_T54 l0_1 a1).f0) = 4 then (some 10) else (if ((rd_T54 l0_1 a1).f1) = 0 then ((chart_history.f ((rd_T54 l0_1 a1).f0)).bind fun t372 => (if t372 = true then (some 10) else (some 0))) else (some 0))) else (some 10))) else (none)) else (none)) = some r := by rw [if_neg (show ¬ (false = true) by decide)] at H; exact H
       clear H
       have H := H1
       clear H1
       by_cases c35 : 0 ≤ ((rd_T54 l0_1 a1).f1)
       ·rw [if_pos c35] at H
        have c35b0 : decide (0 ≤ ((rd_T54 l0_1 a1).f1)) = true := decide_eq_true c35
        clear c35
        by_cases c36 : ((rd_T54 l0_1 a1).f1) < (l0_1.length : Int)
        ·rw [if_pos c36] at H
         have c36b0 : decide (((rd_T54 l0_1 a1).f1) < (l0_1.length : Int)) = true := decide_eq_true c36
         clear c36
         by_cases c37 : ((rd_T54 l0_1 ((rd_T54 l0_1 a1).f1)).f0) = 2
         ·rw [if_pos c37] at H
          have c37b0 : (((rd_T54 l0_1 ((rd_T54 l0_1 a1).f1)).f0) == 2) = true := beq_iff_eq.mpr c37
          have c37b1 : (((rd_T54 l0_1 ((rd_T54 l0_1 a1).f1)).f0) != 2) = false := bne_eq_false_iff_eq.mpr c37
          clear c37
          by_cases c38 : ((rd_T54 l0_1 a1).f1) = 0
          ·rw [if_pos c38] at H
           have c38b0 : (((rd_T54 l0_1 a1).f1) == 0) = true := beq_iff_eq.mpr c38
           have c38b1 : (((rd_T54 l0_1 a1).f1) != 0) = false := bne_eq_false_iff_eq.mpr c38
           clear c38
           replace H := Option.bind_eq_some_iff.mp H
           obtain ⟨t371, A390, H⟩ := H
           replace H : (if t371 = true then (some 10) else (some 0)) = some r := H
           have A39 := Aside0.mk A390
           clear A390
           by_cases c40 : t371 = true
           ·subst c40
            have H1 : (some 10) = some r := by rw [if_pos rfl] at H; exact H
            clear H
            have H := H1
            clear H1
            obtain rfl := Option.some.inj H
            have hnb41 := NB366_368.out
            have hnc41 := NB368_366.out
            have hcz42_0 : wc.cell? ⟨gb366, 0, none⟩ = some (.int .i64 a0_0) := (blk_cell BK366.out 0).trans rfl
            have hcz42_1 : wc.cell? ⟨gb366, 1, none⟩ = some (.slice (some ad367) l0_1.length c0_1) := (blk_cell BK366.out 1).trans rfl
            have hcz42_2 : wc.cell? ⟨gb366, 2, none⟩ = some (.slice A0_2 l0_2.length c0_2) := (blk_cell BK366.out 2).trans rfl
            have hfz42_0 := blk_frozen BK366.out 0
            have hfz42_1 := blk_frozen BK366.out 1
            have hfz42_2 := blk_frozen BK366.out 2
            have hcz43_0 : wc.cell? ⟨gb368, 0, none⟩ = some (.int .i64 ((rd_T54 l0_1 a1).f0)) := (blk_cell BK368.out 0).trans rfl
            have hcz43_1 : wc.cell? ⟨gb368, 1, none⟩ = some (.int .i64 ((rd_T54 l0_1 a1).f1)) := (blk_cell BK368.out 1).trans rfl
            have hcz43_2 : wc.cell? ⟨gb368, 2, none⟩ = some (.slice A367_2 ((rd_T54 l0_1 a1).f2).length c367_2) := (blk_cell BK368.out 2).trans rfl
            have hcz43_3 : wc.cell? ⟨gb368, 3, none⟩ = some (.slice A367_3 ((rd_T54 l0_1 a1).f3).length c367_3) := (blk_cell BK368.out 3).trans rfl
            have hcz43_4 : wc.cell? ⟨gb368, 4, none⟩ = some (.slice A367_4 ((rd_T54 l0_1 a1).f4).length c367_4) := (blk_cell BK368.out 4).trans rfl
            have hfz43_0 := blk_frozen BK368.out 0
            have hfz43_1 := blk_frozen BK368.out 1
            have hfz43_2 := blk_frozen BK368.out 2
            have hfz43_3 := blk_frozen BK368.out 3
            have hfz43_4 := blk_frozen BK368.out 4
            have p370 : 0 ≤ (((rd_T54 l0_1 a1).f1) : Int) := of_decide_eq_true (by first | (with_reducible assumption) | assumption)
            have q370 : ((rd_T54 l0_1 a1).f1) < (l0_1.length : Int) := of_decide_eq_true (by first | (with_reducible assumption) | assumption)
            obtain ⟨ad370, A370_2, c370_2, A370_3, c370_3, A370_4, c370_4, e370, hx370_0, hx370_1, hx370_2, hx370_3, hx370_4, hl370_2, hi370_2, hl370_3, hi370_3, hl370_4, hi370_4⟩ := at_T54 HR0_1.out ((rd_T54 l0_1 a1).f1) p370 q370
            obtain rfl : ad367 = ad370 := (by injection e370)
            replace hx370_0 := (HB.out.cell (World.block_lt_of_cell? w _ hx370_0)).trans hx370_0
            replace hx370_1 := (HB.out.cell (World.block_lt_of_cell? w _ hx370_1)).trans hx370_1
            replace hx370_2 := (HB.out.cell (World.block_lt_of_cell? w _ hx370_2)).trans hx370_2
            replace hx370_3 := (HB.out.cell (World.block_lt_of_cell? w _ hx370_3)).trans hx370_3
            replace hx370_4 := (HB.out.cell (World.block_lt_of_cell? w _ hx370_4)).trans hx370_4
            have HR370_2 := Aside0.mk hi370_2
            have HC370_2 := Aside0.mk hl370_2
            clear hi370_2 hl370_2
            have HR370_3 := Aside0.mk hi370_3
            have HC370_3 := Aside0.mk hl370_3
            clear hi370_3 hl370_3
            have HR370_4 := Aside0.mk hi370_4
            have HC370_4 := Aside0.mk hl370_4
            clear hi370_4 hl370_4
            replace p370 := eq_true p370
            replace q370 := eq_true q370
            go_wp2_with (first | (go_at_call 76; (with_reducible refine (chart_history.calls ((rd_T54 l0_1 a1).f0) true _ A39.out).mono ?_); rintro e w' ⟨rfl, ⟨nd, rfl⟩⟩))
            go_ret
            exact ⟨by first | rfl | (simp [errW_none, errW_some] <;> rfl) | (simp [*, errW_none, errW_some] <;> rfl), by repeat (first | (with_reducible first | exact HB.out | apply below_alloc | apply pw_below_drewN | apply below_drew1 | refine below_set ?_ GE366.out | refine below_set ?_ GE368.out) | exact HB.out)⟩
           ·replace c40 := Bool.eq_false_iff.mpr c40
            subst c40
            have H1 : (some 0) = some r := by rw [if_neg (show ¬ (false = true) by decide)] at H; exact H
            clear H
            have H := H1
            clear H1
            obtain rfl := Option.some.inj H
            have hnb44 := NB366_368.out
            have hnc44 := NB368_366.out
            have hcz45_0 : wc.cell? ⟨gb366, 0, none⟩ = some (.int .i64 a0_0) := (blk_cell BK366.out 0).trans rfl
            have hcz45_1 : wc.cell? ⟨gb366, 1, none⟩ = some (.slice (some ad367) l0_1.length c0_1) := (blk_cell BK366.out 1).trans rfl
            have hcz45_2 : wc.cell? ⟨gb366, 2, none⟩ = some (.slice A0_2 l0_2.length c0_2) := (blk_cell BK366.out 2).trans rfl
            have hfz45_0 := blk_frozen BK366.out 0
            have hfz45_1 := blk_frozen BK366.out 1
            have hfz45_2 := blk_frozen BK366.out 2
            have hcz46_0 : wc.cell? ⟨gb368, 0, none⟩ = some (.int .i64 ((rd_T54 l0_1 a1).f0)) := (blk_cell BK368.out 0).trans rfl
            have hcz46_1 : wc.cell? ⟨gb368, 1, none⟩ = some (.int .i64 ((rd_T54 l0_1 a1).f1)) := (blk_cell BK368.out 1).trans rfl
            have hcz46_2 : wc.cell? ⟨gb368, 2, none⟩ = some (.slice A367_2 ((rd_T54 l0_1 a1).f2).length c367_2) := (blk_cell BK368.out 2).trans rfl
            have hcz46_3 : wc.cell? ⟨gb368, 3, none⟩ = some (.slice A367_3 ((rd_T54 l0_1 a1).f3).length c367_3) := (blk_cell BK368.out 3).trans rfl
            have hcz46_4 : wc.cell? ⟨gb368, 4, none⟩ = some (.slice A367_4 ((rd_T54 l0_1 a1).f4).length c367_4) := (blk_cell BK368.out 4).trans rfl
            have hfz46_0 := blk_frozen BK368.out 0
            have hfz46_1 := blk_frozen BK368.out 1
            have hfz46_2 := blk_frozen BK368.out 2
            have hfz46_3 := blk_frozen BK368.out 3
            have hfz46_4 := blk_frozen BK368.out 4
            have p370 : 0 ≤ (((rd_T54 l0_1 a1).f1) : Int) := of_decide_eq_true (by first | (with_reducible assumption) | assumption)
            have q370 : ((rd_T54 l0_1 a1).f1) < (l0_1.length : Int) := of_decide_eq_true (by first | (with_reducible assumption) | assumption)
            obtain ⟨ad370, A370_2, c370_2, A370_3, c370_3, A370_4, c370_4, e370, hx370_0, hx370_1, hx370_2, hx370_3, hx370_4, hl370_2, hi370_2, hl370_3, hi370_3, hl370_4, hi370_4⟩ := at_T54 HR0_1.out ((rd_T54 l0_1 a1).f1) p370 q370
            obtain rfl : ad367 = ad370 := (by injection e370)
            replace hx370_0 := (HB.out.cell (World.block_lt_of_cell? w _ hx370_0)).trans hx370_0
            replace hx370_1 := (HB.out.cell (World.block_lt_of_cell? w _ hx370_1)).trans hx370_1
            replace hx370_2 := (HB.out.cell (World.block_lt_of_cell? w _ hx370_2)).trans hx370_2
            replace hx370_3 := (HB.out.cell (World.block_lt_of_cell? w _ hx370_3)).trans hx370_3
            replace hx370_4 := (HB.out.cell (World.block_lt_of_cell? w _ hx370_4)).trans hx370_4
            have HR370_2 := Aside0.mk hi370_2
            have HC370_2 := Aside0.mk hl370_2
            clear hi370_2 hl370_2
            have HR370_3 := Aside0.mk hi370_3
            have HC370_3 := Aside0.mk hl370_3
            clear hi370_3 hl370_3
            have HR370_4 := Aside0.mk hi370_4
            have HC370_4 := Aside0.mk hl370_4
            clear hi370_4 hl370_4
            replace p370 := eq_true p370
            replace q370 := eq_true q370
            go_wp2_with (first | (go_at_call 76; (with_reducible refine (chart_history.calls ((rd_T54 l0_1 a1).f0) false _ A39.out).mono ?_); rintro e w' ⟨rfl, ⟨nd, rfl⟩⟩))
            go_ret
            exact ⟨by first | rfl | (simp [errW_none, errW_some] <;> rfl) | (simp [*, errW_none, errW_some] <;> rfl), by repeat (first | (with_reducible first | exact HB.out | apply below_alloc | apply pw_below_drewN | apply below_drew1 | refine below_set ?_ GE366.out | refine below_set ?_ GE368.out) | exact HB.out)⟩
          ·rw [if_neg c38] at H
           have c38b0 : (((rd_T54 l0_1 a1).f1) == 0) = false := beq_eq_false_iff_ne.mpr c38
           have c38b1 : (((rd_T54 l0_1 a1).f1) != 0) = true := bne_iff_ne.mpr c38
           obtain rfl := Option.some.inj H
           have hnb47 := NB366_368.out
           have hnc47 := NB368_366.out
           have hcz48_0 : wc.cell? ⟨gb366, 0, none⟩ = some (.int .i64 a0_0) := (blk_cell BK366.out 0).trans rfl
           have hcz48_1 : wc.cell? ⟨gb366, 1, none⟩ = some (.slice (some ad367) l0_1.length c0_1) := (blk_cell BK366.out 1).trans rfl
           have hcz48_2 : wc.cell? ⟨gb366, 2, none⟩ = some (.slice A0_2 l0_2.length c0_2) := (blk_cell BK366.out 2).trans rfl
           have hfz48_0 := blk_frozen BK366.out 0
           have hfz48_1 := blk_frozen BK366.out 1
           have hfz48_2 := blk_frozen BK366.out 2
           have hcz49_0 : wc.cell? ⟨gb368, 0, none⟩ = some (.int .i64 ((rd_T54 l0_1 a1).f0)) := (blk_cell BK368.out 0).trans rfl
           have hcz49_1 : wc.cell? ⟨gb368, 1, none⟩ = some (.int .i64 ((rd_T54 l0_1 a1).f1)) := (blk_cell BK368.out 1).trans rfl
           have hcz49_2 : wc.cell? ⟨gb368, 2, none⟩ = some (.slice A367_2 ((rd_T54 l0_1 a1).f2).length c367_2) := (blk_cell BK368.out 2).trans rfl
           have hcz49_3 : wc.cell? ⟨gb368, 3, none⟩ = some (.slice A367_3 ((rd_T54 l0_1 a1).f3).length c367_3) := (blk_cell BK368.out 3).trans rfl
           have hcz49_4 : wc.cell? ⟨gb368, 4, none⟩ = some (.slice A367_4 ((rd_T54 l0_1 a1).f4).length c367_4) := (blk_cell BK368.out 4).trans rfl
           have hfz49_0 := blk_frozen BK368.out 0
           have hfz49_1 := blk_frozen BK368.out 1
           have hfz49_2 := blk_frozen BK368.out 2
           have hfz49_3 := blk_frozen BK368.out 3
           have hfz49_4 := blk_frozen BK368.out 4
           have p370 : 0 ≤ (((rd_T54 l0_1 a1).f1) : Int) := of_decide_eq_true (by first | (with_reducible assumption) | assumption)
           have q370 : ((rd_T54 l0_1 a1).f1) < (l0_1.length : Int) := of_decide_eq_true (by first | (with_reducible assumption) | assumption)
           obtain ⟨ad370, A370_2, c370_2, A370_3, c370_3, A370_4, c370_4, e370, hx370_0, hx370_1, hx370_2, hx370_3, hx370_4, hl370_2, hi370_2, hl370_3, hi370_3, hl370_4, hi370_4⟩ := at_T54 HR0_1.out ((rd_T54 l0_1 a1).f1) p370 q370
           obtain rfl : ad367 = ad370 := (by injection e370)
           replace hx370_0 := (HB.out.cell (World.block_lt_of_cell? w _ hx370_0)).trans hx370_0
           replace hx370_1 := (HB.out.cell (World.block_lt_of_cell? w _ hx370_1)).trans hx370_1
           replace hx370_2 := (HB.out.cell (World.block_lt_of_cell? w _ hx370_2)).trans hx370_2
           replace hx370_3 := (HB.out.cell (World.block_lt_of_cell? w _ hx370_3)).trans hx370_3
           replace hx370_4 := (HB.out.cell (World.block_lt_of_cell? w _ hx370_4)).trans hx370_4
           have HR370_2 := Aside0.mk hi370_2
           have HC370_2 := Aside0.mk hl370_2
           clear hi370_2 hl370_2
           have HR370_3 := Aside0.mk hi370_3
           have HC370_3 := Aside0.mk hl370_3
           clear hi370_3 hl370_3
           have HR370_4 := Aside0.mk hi370_4
           have HC370_4 := Aside0.mk hl370_4
           clear hi370_4 hl370_4
           replace p370 := eq_true p370
           replace q370 := eq_true q370
           go_wp2
           go_ret
           exact ⟨by first | rfl | (simp [errW_none, errW_some] <;> rfl) | (simp [*, errW_none, errW_some] <;> rfl), by repeat (first | (with_reducible first | exact HB.out | apply below_alloc | apply pw_below_drewN | apply below_drew1 | refine below_set ?_ GE366.out | refine below_set ?_ GE368.out) | exact HB.out)⟩
         ·rw [if_neg c37] at H
          have c37b0 : (((rd_T54 l0_1 ((rd_T54 l0_1 a1).f1)).f0) == 2) = false := beq_eq_false_iff_ne.mpr c37
          have c37b1 : (((rd_T54 l0_1 ((rd_T54 l0_1 a1).f1)).f0) != 2) = true := bne_iff_ne.mpr c37
          by_cases c50 : ((rd_T54 l0_1 ((rd_T54 l0_1 a1).f1)).f0) = 3
          ·rw [if_pos c50] at H
           have c50b0 : (((rd_T54 l0_1 ((rd_T54 l0_1 a1).f1)).f0) == 3) = true := beq_iff_eq.mpr c50
           have c50b1 : (((rd_T54 l0_1 ((rd_T54 l0_1 a1).f1)).f0) != 3) = false := bne_eq_false_iff_eq.mpr c50
           clear c50
           by_cases c51 : ((rd_T54 l0_1 a1).f0) = 4
           ·rw [if_pos c51] at H
            have c51b0 : (((rd_T54 l0_1 a1).f0) == 4) = true := beq_iff_eq.mpr c51
            have c51b1 : (((rd_T54 l0_1 a1).f0) != 4) = false := bne_eq_false_iff_eq.mpr c51
            clear c51
            obtain rfl := Option.some.inj H
            have hnb52 := NB366_368.out
            have hnc52 := NB368_366.out
            have hcz53_0 : wc.cell? ⟨gb366, 0, none⟩ = some (.int .i64 a0_0) := (blk_cell BK366.out 0).trans rfl
            have hcz53_1 : wc.cell? ⟨gb366, 1, none⟩ = some (.slice (some ad367) l0_1.length c0_1) := (blk_cell BK366.out 1).trans rfl
            have hcz53_2 : wc.cell? ⟨gb366, 2, none⟩ = some (.slice A0_2 l0_2.length c0_2) := (blk_cell BK366.out 2).trans rfl
            have hfz53_0 := blk_frozen BK366.out 0
            have hfz53_1 := blk_frozen BK366.out 1
            have hfz53_2 := blk_frozen BK366.out 2
            have hcz54_0 : wc.cell? ⟨gb368, 0, none⟩ = some (.int .i64 ((rd_T54 l0_1 a1).f0)) := (blk_cell BK368.out 0).trans rfl
            have hcz54_1 : wc.cell? ⟨gb368, 1, none⟩ = some (.int .i64 ((rd_T54 l0_1 a1).f1)) := (blk_cell BK368.out 1).trans rfl
            have hcz54_2 : wc.cell? ⟨gb368, 2, none⟩ = some (.slice A367_2 ((rd_T54 l0_1 a1).f2).length c367_2) := (blk_cell BK368.out 2).trans rfl
            have hcz54_3 : wc.cell? ⟨gb368, 3, none⟩ = some (.slice A367_3 ((rd_T54 l0_1 a1).f3).length c367_3) := (blk_cell BK368.out 3).trans rfl
            have hcz54_4 : wc.cell? ⟨gb368, 4, none⟩ = some (.slice A367_4 ((rd_T54 l0_1 a1).f4).length c367_4) := (blk_cell BK368.out 4).trans rfl
            have hfz54_0 := blk_frozen BK368.out 0
            have hfz54_1 := blk_frozen BK368.out 1
            have hfz54_2 := blk_frozen BK368.out 2
            have hfz54_3 := blk_frozen BK368.out 3
            have hfz54_4 := blk_frozen BK368.out 4
            have p370 : 0 ≤ (((rd_T54 l0_1 a1).f1) : Int) := of_decide_eq_true (by first | (with_reducible assumption) | assumption)
            have q370 : ((rd_T54 l0_1 a1).f1) < (l0_1.length : Int) := of_decide_eq_true (by first | (with_reducible assumption) | assumption)
            obtain ⟨ad370, A370_2, c370_2, A370_3, c370_3, A370_4, c370_4, e370, hx370_0, hx370_1, hx370_2, hx370_3, hx370_4, hl370_2, hi370_2, hl370_3, hi370_3, hl370_4, hi370_4⟩ := at_T54 HR0_1.out ((rd_T54 l0_1 a1).f1) p370 q370
            obtain rfl : ad367 = ad370 := (by injection e370)
            replace hx370_0 := (HB.out.cell (World.block_lt_of_cell? w _ hx370_0)).trans hx370_0
            replace hx370_1 := (HB.out.cell (World.block_lt_of_cell? w _ hx370_1)).trans hx370_1
            replace hx370_2 := (HB.out.cell (World.block_lt_of_cell? w _ hx370_2)).trans hx370_2
            replace hx370_3 := (HB.out.cell (World.block_lt_of_cell? w _ hx370_3)).trans hx370_3
            replace hx370_4 := (HB.out.cell (World.block_lt_of_cell? w _ hx370_4)).trans hx370_4
            have HR370_2 := Aside0.mk hi370_2
            have HC370_2 := Aside0.mk hl370_2
            clear hi370_2 hl370_2
            have HR370_3 := Aside0.mk hi370_3
            have HC370_3 := Aside0.mk hl370_3
            clear hi370_3 hl370_3
            have HR370_4 := Aside0.mk hi370_4
            have HC370_4 := Aside0.mk hl370_4
            clear hi370_4 hl370_4
            replace p370 := eq_true p370
            replace q370 := eq_true q370
            go_wp2
            go_ret
            exact ⟨by first | rfl | (simp [errW_none, errW_some] <;> rfl) | (simp [*, errW_none, errW_some] <;> rfl), by repeat (first | (with_reducible first | exact HB.out | apply below_alloc | apply pw_below_drewN | apply below_drew1 | refine below_set ?_ GE366.out | refine below_set ?_ GE368.out) | exact HB.out)⟩
           ·rw [if_neg c51] at H
            have c51b0 : (((rd_T54 l0_1 a1).f0) == 4) = false := beq_eq_false_iff_ne.mpr c51
            have c51b1 : (((rd_T54 l0_1 a1).f0) != 4) = true := bne_iff_ne.mpr c51
            by_cases c55 : ((rd_T54 l0_1 a1).f1) = 0
            ·rw [if_pos c55] at H
             have c55b0 : (((rd_T54 l0_1 a1).f1) == 0) = true := beq_iff_eq.mpr c55
             have c55b1 : (((rd_T54 l0_1 a1).f1) != 0) = false := bne_eq_false_iff_eq.mpr c55
             clear c55
             replace H := Option.bind_eq_some_iff.mp H
             obtain ⟨t372, A560, H⟩ := H
             replace H : (if t372 = true then (some 10) else (some 0)) = some r := H
             have A56 := Aside0.mk A560
             clear A560
             by_cases c57 : t372 = true
             ·subst c57
              have H1 : (some 10) = some r := by rw [if_pos rfl] at H; exact H
              clear H
              have H := H1
              clear H1
              obtain rfl := Option.some.inj H
              have hnb58 := NB366_368.out
              have hnc58 := NB368_366.out
              have hcz59_0 : wc.cell? ⟨gb366, 0, none⟩ = some (.int .i64 a0_0) := (blk_cell BK366.out 0).trans rfl
              have hcz59_1 : wc.cell? ⟨gb366, 1, none⟩ = some (.slice (some ad367) l0_1.length c0_1) := (blk_cell BK366.out 1).trans rfl
              have hcz59_2 : wc.cell? ⟨gb366, 2, none⟩ = some (.slice A0_2 l0_2.length c0_2) := (blk_cell BK366.out 2).trans rfl
              have hfz59_0 := blk_frozen BK366.out 0
              have hfz59_1 := blk_frozen BK366.out 1
              have hfz59_2 := blk_frozen BK366.out 2
              have hcz60_0 : wc.cell? ⟨gb368, 0, none⟩ = some (.int .i64 ((rd_T54 l0_1 a1).f0)) := (blk_cell BK368.out 0).trans rfl
              have hcz60_1 : wc.cell? ⟨gb368, 1, none⟩ = some (.int .i64 ((rd_T54 l0_1 a1).f1)) := (blk_cell BK368.out 1).trans rfl
              have hcz60_2 : wc.cell? ⟨gb368, 2, none⟩ = some (.slice A367_2 ((rd_T54 l0_1 a1).f2).length c367_2) := (blk_cell BK368.out 2).trans rfl
              have hcz60_3 : wc.cell? ⟨gb368, 3, none⟩ = some (.slice A367_3 ((rd_T54 l0_1 a1).f3).length c367_3) := (blk_cell BK368.out 3).trans rfl
              have hcz60_4 : wc.cell? ⟨gb368, 4, none⟩ = some (.slice A367_4 ((rd_T54 l0_1 a1).f4).length c367_4) := (blk_cell BK368.out 4).trans rfl
              have hfz60_0 := blk_frozen BK368.out 0
              have hfz60_1 := blk_frozen BK368.out 1
              have hfz60_2 := blk_frozen BK368.out 2
              have hfz60_3 := blk_frozen BK368.out 3
              have hfz60_4 := blk_frozen BK368.out 4
              have p370 : 0 ≤ (((rd_T54 l0_1 a1).f1) : Int) := of_decide_eq_true (by first | (with_reducible assumption) | assumption)
              have q370 : ((rd_T54 l0_1 a1).f1) < (l0_1.length : Int) := of_decide_eq_true (by first | (with_reducible assumption) | assumption)
              obtain ⟨ad370, A370_2, c370_2, A370_3, c370_3, A370_4, c370_4, e370, hx370_0, hx370_1, hx370_2, hx370_3, hx370_4, hl370_2, hi370_2, hl370_3, hi370_3, hl370_4, hi370_4⟩ := at_T54 HR0_1.out ((rd_T54 l0_1 a1).f1) p370 q370
              obtain rfl : ad367 = ad370 := (by injection e370)
              replace hx370_0 := (HB.out.cell (World.block_lt_of_cell? w _ hx370_0)).trans hx370_0
              replace hx370_1 := (HB.out.cell (World.block_lt_of_cell? w _ hx370_1)).trans hx370_1
              replace hx370_2 := (HB.out.cell (World.block_lt_of_cell? w _ hx370_2)).trans hx370_2
              replace hx370_3 := (HB.out.cell (World.block_lt_of_cell? w _ hx370_3)).trans hx370_3
              replace hx370_4 := (HB.out.cell (World.block_lt_of_cell? w _ hx370_4)).trans hx370_4
              have HR370_2 := Aside0.mk hi370_2
              have HC370_2 := Aside0.mk hl370_2
              clear hi370_2 hl370_2
              have HR370_3 := Aside0.mk hi370_3
              have HC370_3 := Aside0.mk hl370_3
              clear hi370_3 hl370_3
              have HR370_4 := Aside0.mk hi370_4
              have HC370_4 := Aside0.mk hl370_4
              clear hi370_4 hl370_4
              replace p370 := eq_true p370
              replace q370 := eq_true q370
              go_wp2_with (first | (go_at_call 76; (with_reducible refine (chart_history.calls ((rd_T54 l0_1 a1).f0) true _ A56.out).mono ?_); rintro e w' ⟨rfl, ⟨nd, rfl⟩⟩))
              go_ret
              exact ⟨by first | rfl | (simp [errW_none, errW_some] <;> rfl) | (simp [*, errW_none, errW_some] <;> rfl), by repeat (first | (with_reducible first | exact HB.out | apply below_alloc | apply pw_below_drewN | apply below_drew1 | refine below_set ?_ GE366.out | refine below_set ?_ GE368.out) | exact HB.out)⟩
             ·replace c57 := Bool.eq_false_iff.mpr c57
              subst c57
              have H1 : (some 0) = some r := by rw [if_neg (show ¬ (false = true) by decide)] at H; exact H
              clear H
              have H := H1
              clear H1
              obtain rfl := Option.some.inj H
              have hnb61 := NB366_368.out
              have hnc61 := NB368_366.out
              have hcz62_0 : wc.cell? ⟨gb366, 0, none⟩ = some (.int .i64 a0_0) := (blk_cell BK366.out 0).trans rfl
              have hcz62_1 : wc.cell? ⟨gb366, 1, none⟩ = some (.slice (some ad367) l0_1.length c0_1) := (blk_cell BK366.out 1).trans rfl
              have hcz62_2 : wc.cell? ⟨gb366, 2, none⟩ = some (.slice A0_2 l0_2.length c0_2) := (blk_cell BK366.out 2).trans rfl
              have hfz62_0 := blk_frozen BK366.out 0
              have hfz62_1 := blk_frozen BK366.out 1
              have hfz62_2 := blk_frozen BK366.out 2
              have hcz63_0 : wc.cell? ⟨gb368, 0, none⟩ = some (.int .i64 ((rd_T54 l0_1 a1).f0)) := (blk_cell BK368.out 0).trans rfl
              have hcz63_1 : wc.cell? ⟨gb368, 1, none⟩ = some (.int .i64 ((rd_T54 l0_1 a1).f1)) := (blk_cell BK368.out 1).trans rfl
              have hcz63_2 : wc.cell? ⟨gb368, 2, none⟩ = some (.slice A367_2 ((rd_T54 l0_1 a1).f2).length c367_2) := (blk_cell BK368.out 2).trans rfl
              have hcz63_3 : wc.cell? ⟨gb368, 3, none⟩ = some (.slice A367_3 ((rd_T54 l0_1 a1).f3).length c367_3) := (blk_cell BK368.out 3).trans rfl
              have hcz63_4 : wc.cell? ⟨gb368, 4, none⟩ = some (.slice A367_4 ((rd_T54 l0_1 a1).f4).length c367_4) := (blk_cell BK368.out 4).trans rfl
              have hfz63_0 := blk_frozen BK368.out 0
              have hfz63_1 := blk_frozen BK368.out 1
              have hfz63_2 := blk_frozen BK368.out 2
              have hfz63_3 := blk_frozen BK368.out 3
              have hfz63_4 := blk_frozen BK368.out 4
              have p370 : 0 ≤ (((rd_T54 l0_1 a1).f1) : Int) := of_decide_eq_true (by first | (with_reducible assumption) | assumption)
              have q370 : ((rd_T54 l0_1 a1).f1) < (l0_1.length : Int) := of_decide_eq_true (by first | (with_reducible assumption) | assumption)
              obtain ⟨ad370, A370_2, c370_2, A370_3, c370_3, A370_4, c370_4, e370, hx370_0, hx370_1, hx370_2, hx370_3, hx370_4, hl370_2, hi370_2, hl370_3, hi370_3, hl370_4, hi370_4⟩ := at_T54 HR0_1.out ((rd_T54 l0_1 a1).f1) p370 q370
              obtain rfl : ad367 = ad370 := (by injection e370)
              replace hx370_0 := (HB.out.cell (World.block_lt_of_cell? w _ hx370_0)).trans hx370_0
              replace hx370_1 := (HB.out.cell (World.block_lt_of_cell? w _ hx370_1)).trans hx370_1
              replace hx370_2 := (HB.out.cell (World.block_lt_of_cell? w _ hx370_2)).trans hx370_2
              replace hx370_3 := (HB.out.cell (World.block_lt_of_cell? w _ hx370_3)).trans hx370_3
              replace hx370_4 := (HB.out.cell (World.block_lt_of_cell? w _ hx370_4)).trans hx370_4
              have HR370_2 := Aside0.mk hi370_2
              have HC370_2 := Aside0.mk hl370_2
              clear hi370_2 hl370_2
              have HR370_3 := Aside0.mk hi370_3
              have HC370_3 := Aside0.mk hl370_3
              clear hi370_3 hl370_3
              have HR370_4 := Aside0.mk hi370_4
              have HC370_4 := Aside0.mk hl370_4
              clear hi370_4 hl370_4
              replace p370 := eq_true p370
              replace q370 := eq_true q370
              go_wp2_with (first | (go_at_call 76; (with_reducible refine (chart_history.calls ((rd_T54 l0_1 a1).f0) false _ A56.out).mono ?_); rintro e w' ⟨rfl, ⟨nd, rfl⟩⟩))
              go_ret
              exact ⟨by first | rfl | (simp [errW_none, errW_some] <;> rfl) | (simp [*, errW_none, errW_some] <;> rfl), by repeat (first | (with_reducible first | exact HB.out | apply below_alloc | apply pw_below_drewN | apply below_drew1 | refine below_set ?_ GE366.out | refine below_set ?_ GE368.out) | exact HB.out)⟩
            ·rw [if_neg c55] at H
             have c55b0 : (((rd_T54 l0_1 a1).f1) == 0) = false := beq_eq_false_iff_ne.mpr c55
             have c55b1 : (((rd_T54 l0_1 a1).f1) != 0) = true := bne_iff_ne.mpr c55
             obtain rfl := Option.some.inj H
             have hnb64 := NB366_368.out
             have hnc64 := NB368_366.out
             have hcz65_0 : wc.cell? ⟨gb366, 0, none⟩ = some (.int .i64 a0_0) := (blk_cell BK366.out 0).trans rfl
             have hcz65_1 : wc.cell? ⟨gb366, 1, none⟩ = some (.slice (some ad367) l0_1.length c0_1) := (blk_cell BK366.out 1).trans rfl
             have hcz65_2 : wc.cell? ⟨gb366, 2, none⟩ = some (.slice A0_2 l0_2.length c0_2) := (blk_cell BK366.out 2).trans rfl
             have hfz65_0 := blk_frozen BK366.out 0
             have hfz65_1 := blk_frozen BK366.out 1
             have hfz65_2 := blk_frozen BK366.out 2
             have hcz66_0 : wc.cell? ⟨gb368, 0, none⟩ = some (.int .i64 ((rd_T54 l0_1 a1).f0)) := (blk_cell BK368.out 0).trans rfl
             have hcz66_1 : wc.cell? ⟨gb368, 1, none⟩ = some (.int .i64 ((rd_T54 l0_1 a1).f1)) := (blk_cell BK368.out 1).trans rfl
             have hcz66_2 : wc.cell? ⟨gb368, 2, none⟩ = some (.slice A367_2 ((rd_T54 l0_1 a1).f2).length c367_2) := (blk_cell BK368.out 2).trans rfl
             have hcz66_3 : wc.cell? ⟨gb368, 3, none⟩ = some (.slice A367_3 ((rd_T54 l0_1 a1).f3).length c367_3) := (blk_cell BK368.out 3).trans rfl
             have hcz66_4 : wc.cell? ⟨gb368, 4, none⟩ = some (.slice A367_4 ((rd_T54 l0_1 a1).f4).length c367_4) := (blk_cell BK368.out 4).trans rfl
             have hfz66_0 := blk_frozen BK368.out 0
             have hfz66_1 := blk_frozen BK368.out 1
             have hfz66_2 := blk_frozen BK368.out 2
             have hfz66_3 := blk_frozen BK368.out 3
             have hfz66_4 := blk_frozen BK368.out 4
             have p370 : 0 ≤ (((rd_T54 l0_1 a1).f1) : Int) := of_decide_eq_true (by first | (with_reducible assumption) | assumption)
             have q370 : ((rd_T54 l0_1 a1).f1) < (l0_1.length : Int) := of_decide_eq_true (by first | (with_reducible assumption) | assumption)
             obtain ⟨ad370, A370_2, c370_2, A370_3, c370_3, A370_4, c370_4, e370, hx370_0, hx370_1, hx370_2, hx370_3, hx370_4, hl370_2, hi370_2, hl370_3, hi370_3, hl370_4, hi370_4⟩ := at_T54 HR0_1.out ((rd_T54 l0_1 a1).f1) p370 q370
             obtain rfl : ad367 = ad370 := (by injection e370)
             replace hx370_0 := (HB.out.cell (World.block_lt_of_cell? w _ hx370_0)).trans hx370_0
             replace hx370_1 := (HB.out.cell (World.block_lt_of_cell? w _ hx370_1)).trans hx370_1
             replace hx370_2 := (HB.out.cell (World.block_lt_of_cell? w _ hx370_2)).trans hx370_2
             replace hx370_3 := (HB.out.cell (World.block_lt_of_cell? w _ hx370_3)).trans hx370_3
             replace hx370_4 := (HB.out.cell (World.block_lt_of_cell? w _ hx370_4)).trans hx370_4
             have HR370_2 := Aside0.mk hi370_2
             have HC370_2 := Aside0.mk hl370_2
             clear hi370_2 hl370_2
             have HR370_3 := Aside0.mk hi370_3
             have HC370_3 := Aside0.mk hl370_3
             clear hi370_3 hl370_3
             have HR370_4 := Aside0.mk hi370_4
             have HC370_4 := Aside0.mk hl370_4
             clear hi370_4 hl370_4
             replace p370 := eq_true p370
             replace q370 := eq_true q370
             go_wp2
             go_ret
             exact ⟨by first | rfl | (simp [errW_none, errW_some] <;> rfl) | (simp [*, errW_none, errW_some] <;> rfl), by repeat (first | (with_reducible first | exact HB.out | apply below_alloc | apply pw_below_drewN | apply below_drew1 | refine below_set ?_ GE366.out | refine below_set ?_ GE368.out) | exact HB.out)⟩
          ·rw [if_neg c50] at H
           have c50b0 : (((rd_T54 l0_1 ((rd_T54 l0_1 a1).f1)).f0) == 3) = false := beq_eq_false_iff_ne.mpr c50
           have c50b1 : (((rd_T54 l0_1 ((rd_T54 l0_1 a1).f1)).f0) != 3) = true := bne_iff_ne.mpr c50
           obtain rfl := Option.some.inj H
           have hnb67 := NB366_368.out
           have hnc67 := NB368_366.out
           have hcz68_0 : wc.cell? ⟨gb366, 0, none⟩ = some (.int .i64 a0_0) := (blk_cell BK366.out 0).trans rfl
           have hcz68_1 : wc.cell? ⟨gb366, 1, none⟩ = some (.slice (some ad367) l0_1.length c0_1) := (blk_cell BK366.out 1).trans rfl
           have hcz68_2 : wc.cell? ⟨gb366, 2, none⟩ = some (.slice A0_2 l0_2.length c0_2) := (blk_cell BK366.out 2).trans rfl
           have hfz68_0 := blk_frozen BK366.out 0
           have hfz68_1 := blk_frozen BK366.out 1
           have hfz68_2 := blk_frozen BK366.out 2
           have hcz69_0 : wc.cell? ⟨gb368, 0, none⟩ = some (.int .i64 ((rd_T54 l0_1 a1).f0)) := (blk_cell BK368.out 0).trans rfl
           have hcz69_1 : wc.cell? ⟨gb368, 1, none⟩ = some (.int .i64 ((rd_T54 l0_1 a1).f1)) := (blk_cell BK368.out 1).trans rfl
           have hcz69_2 : wc.cell? ⟨gb368, 2, none⟩ = some (.slice A367_2 ((rd_T54 l0_1 a1).f2).length c367_2) := (blk_cell BK368.out 2).trans rfl
           have hcz69_3 : wc.cell? ⟨gb368, 3, none⟩ = some (.slice A367_3 ((rd_T54 l0_1 a1).f3).length c367_3) := (blk_cell BK368.out 3).trans rfl
           have hcz69_4 : wc.cell? ⟨gb368, 4, none⟩ = some (.slice A367_4 ((rd_T54 l0_1 a1).f4).length c367_4) := (blk_cell BK368.out 4).trans rfl
           have hfz69_0 := blk_frozen BK368.out 0
           have hfz69_1 := blk_frozen BK368.out 1
           have hfz69_2 := blk_frozen BK368.out 2
           have hfz69_3 := blk_frozen BK368.out 3
           have hfz69_4 := blk_frozen BK368.out 4
           have p370 : 0 ≤ (((rd_T54 l0_1 a1).f1) : Int) := of_decide_eq_true (by first | (with_reducible assumption) | assumption)
           have q370 : ((rd_T54 l0_1 a1).f1) < (l0_1.length : Int) := of_decide_eq_true (by first | (with_reducible assumption) | assumption)
           obtain ⟨ad370, A370_2, c370_2, A370_3, c370_3, A370_4, c370_4, e370, hx370_0, hx370_1, hx370_2, hx370_3, hx370_4, hl370_2, hi370_2, hl370_3, hi370_3, hl370_4, hi370_4⟩ := at_T54 HR0_1.out ((rd_T54 l0_1 a1).f1) p370 q370
           obtain rfl : ad367 = ad370 := (by injection e370)
           replace hx370_0 := (HB.out.cell (World.block_lt_of_cell? w _ hx370_0)).trans hx370_0
           replace hx370_1 := (HB.out.cell (World.block_lt_of_cell? w _ hx370_1)).trans hx370_1
           replace hx370_2 := (HB.out.cell (World.block_lt_of_cell? w _ hx370_2)).trans hx370_2
           replace hx370_3 := (HB.out.cell (World.block_lt_of_cell? w _ hx370_3)).trans hx370_3
           replace hx370_4 := (HB.out.cell (World.block_lt_of_cell? w _ hx370_4)).trans hx370_4
           have HR370_2 := Aside0.mk hi370_2
           have HC370_2 := Aside0.mk hl370_2
           clear hi370_2 hl370_2
           have HR370_3 := Aside0.mk hi370_3
           have HC370_3 := Aside0.mk hl370_3
           clear hi370_3 hl370_3
           have HR370_4 := Aside0.mk hi370_4
           have HC370_4 := Aside0.mk hl370_4
           clear hi370_4 hl370_4
           replace p370 := eq_true p370
           replace q370 := eq_true q370
           go_wp2
           go_ret
           exact ⟨by first | rfl | (simp [errW_none, errW_some] <;> rfl) | (simp [*, errW_none, errW_some] <;> rfl), by repeat (first | (with_reducible first | exact HB.out | apply below_alloc | apply pw_below_drewN | apply below_drew1 | refine below_set ?_ GE366.out | refine below_set ?_ GE368.out) | exact HB.out)⟩
        ·rw [if_neg c36] at H
         exact absurd H (by simp)
       ·rw [if_neg c35] at H
        exact absurd H (by simp)
  ·rw [if_neg c4] at H
   exact absurd H (by simp)
 ·rw [if_neg c3] at H
  exact absurd H (by simp)
end Go.Proofs.YtemoonhnncopoaaGreatDoor.PAll
end
