/- Texts of this claim, merged (PAllCini). -/
import Derived.Test.YtemoonhnncopoaaGreatDoorZEnterWhole2
import Derived.Test.YtemoonhnncopoaaGreatDoorZEnterWhole3
import Derived.Test.YtemoonhnncopoaaGreatDoorZEnterWhole5
set_option linter.unusedVariables false
set_option linter.unusedSimpArgs false
set_option maxRecDepth 100000
set_option maxHeartbeats 8000000
section
namespace Go.Proofs.YtemoonhnncopoaaGreatDoor.PAll
open Go.RowKit Go.Proofs.YtemoonhnncopoaaGreatDoorW.PrintWords Go.Proofs.YtemoonhnncopoaaGreatDoorW.PrintLast Go.Proofs.YtemoonhnncopoaaGreatDoorW.PrintMore
attribute [local go_sem] max2_int min2_int max_two min_two max_three min_three max_four min_four   -- for this text's walks alone
mutual
def chart_checker_initial.j0 : Nat → Int → Bool → Int → List (S54) → List (S56) → Int → Int → List Int → List (S80) → List (S80) → Option (Bool)
 | 0, _, _, _, _, _, _, _, _, _, _ => none
 | k + 1, x1, x21, x375000, x375001, x375002, x377000, x377001, x377002, x377003, x377004 => if x21 = true then (some ((x377002.length : Int) == 0)) else (if (x377002.length : Int) = 1 then (if 0 < (x377002.length : Int) then ((chart_checker_there.f x375000 x375001 x375002 (rd x377002 0)).bind fun t379 => (if t379 = true then (if 0 ≤ (rd x377002 0) then (if (rd x377002 0) < (x375001.length : Int) then ((chart_history.f ((rd_T54 x375001 (rd x377002 0)).f0)).bind fun t382 => (chart_checker_initial.j1 k x1 t382 x375000 x375001 x375002 x377000 x377001 x377002 x377003 x377004)) else (none)) else (none)) else (chart_checker_initial.j1 k x1 true x375000 x375001 x375002 x377000 x377001 x377002 x377003 x377004))) else (none)) else (chart_checker_initial.j1 k x1 true x375000 x375001 x375002 x377000 x377001 x377002 x377003 x377004))
def chart_checker_initial.j1 : Nat → Int → Bool → Int → List (S54) → List (S56) → Int → Int → List Int → List (S80) → List (S80) → Option (Bool)
 | 0, _, _, _, _, _, _, _, _, _, _ => none
 | k + 1, x1, x51, x375000, x375001, x375002, x377000, x377001, x377002, x377003, x377004 => if x51 = true then (some false) else (if 0 < (x377002.length : Int) then (if x377000 = 2 then ((chart_checker_in.f k x375000 x375001 x375002 (rd x377002 0) x1).bind fun t384 => (some t384)) else (if x377000 = 5 then (if 0 ≤ (rd x377002 0) then (if (rd x377002 0) < (x375001.length : Int) then (some (((rd_T54 x375001 (rd x377002 0)).f1) == x377001)) else (none)) else (none)) else ((chart_checker_in.f k x375000 x375001 x375002 (rd x377002 0) x377001).bind fun t386 => (some t386)))) else (none))
end
def chart_checker_initial.f (k : Nat) (a0_0 : Int) (l0_1 : List (S54)) (l0_2 : List (S56)) (a1 : Int) : Option (Bool) := if 0 ≤ a1 then (if a1 < (l0_1.length : Int) then (if ((rd_T54 l0_1 a1).f0) = 2 then (chart_checker_initial.j0 k a1 false a0_0 l0_1 l0_2 ((rd_T54 l0_1 a1).f0) ((rd_T54 l0_1 a1).f1) ((rd_T54 l0_1 a1).f2) ((rd_T54 l0_1 a1).f3) ((rd_T54 l0_1 a1).f4)) else ((chart_history.f ((rd_T54 l0_1 a1).f0)).bind fun t377 => (chart_checker_initial.j0 k a1 (!t377) a0_0 l0_1 l0_2 ((rd_T54 l0_1 a1).f0) ((rd_T54 l0_1 a1).f1) ((rd_T54 l0_1 a1).f2) ((rd_T54 l0_1 a1).f3) ((rd_T54 l0_1 a1).f4)))) else (none)) else (none)
def chart_checker_initial.T4 : Bool × List (List Nat × List Nat) := (true, [([], []), ([0], [0]), ([1], [1]), ([2], [2]), ([3], [3]), ([4], [4]), ([4], [4]), ([6, 4], [4, 6]), ([7, 4], [4, 7]), ([8, 4], [4, 8]), ([5, 9, 4, 4], [4, 5, 9]), ([10, 4], [4, 10]), ([4, 11], [4, 11]), ([12, 10], [12]), ([13], [13]), ([14, 13], [13, 14]), ([15, 13], [13, 15]), ([13], [13]), ([17, 13], [13, 17]), ([18, 13], [13, 18]), ([19, 13], [13, 19]), ([16, 20, 13], [13, 16, 20]), ([21, 13], [13, 21]), ([22, 13], [13, 22]), ([23, 13, 13], [13, 23]), ([13, 24], [13, 24])])
def chart_checker_initial.B4 : List Nat := [0, 1, 3, 7, 15, 31, 31, 95, 223, 479, 1023, 2047, 4095, 8191, 16383, 32767, 65535, 16383, 147455, 409599, 933887, 2097151, 4194303, 8388607, 16777215, 33554431]
theorem chart_checker_initial.tab4 : rtab .any (opsOf Tryz.f102 4) = chart_checker_initial.T4 := by kernel_rfl
theorem chart_checker_initial.bits4 : waitsOk chart_checker_initial.T4.2 chart_checker_initial.B4 = true := by kernel_rfl
def chart_checker_initial.T11 : Bool × List (List Nat × List Nat) := (true, [([], []), ([0], [0]), ([1], [1]), ([], []), ([2, 3], [2, 3]), ([4], [4]), ([5], [5]), ([], []), ([7], [7]), ([6, 8], [6, 8]), ([9, 0, 1, 2, 3, 4, 5, 6, 7, 8, 9], [9])])
def chart_checker_initial.B11 : List Nat := [0, 1, 3, 0, 15, 31, 63, 0, 128, 511, 1023]
theorem chart_checker_initial.tab11 : rtab .any (opsOf Tryz.f102 11) = chart_checker_initial.T11 := by kernel_rfl
theorem chart_checker_initial.bits11 : waitsOk chart_checker_initial.T11.2 chart_checker_initial.B11 = true := by kernel_rfl
theorem chart_checker_initial.calls (k : Nat) (a0_0 : Int) (A0_1 : Option Addr) (c0_1 : Nat) (l0_1 : List (S54)) (A0_2 : Option Addr) (c0_2 : Nat) (l0_2 : List (S56)) (a1 : Int) (r : Bool) (w : World) (hr0_1 : Kd.C k54 w A0_1 l0_1.length l0_1) (hc0_1 : l0_1.length ≤ c0_1) (hr0_2 : Kd.C k56 w A0_2 l0_2.length l0_2) (hc0_2 : l0_2.length ≤ c0_2) (h : chart_checker_initial.f k a0_0 l0_1 l0_2 a1 = some r) :
  Calls Tryz.prog 102 #[.agg #[.int .i64 a0_0, .slice A0_1 l0_1.length c0_1, .slice A0_2 l0_2.length c0_2], .int .i64 a1] w fun e w' => e = .returned (.bool r) ∧ Below w.heap.size w w' := by
 have hu124 := Tryz.underlying124
 have hu54 := Tryz.underlying54
 have HR0_1 := Aside0.mk hr0_1
 have HC0_1 := Aside0.mk hc0_1
 clear hr0_1 hc0_1
 have HR0_2 := Aside0.mk hr0_2
 have HC0_2 := Aside0.mk hc0_2
 clear hr0_2 hc0_2
 have HB := Aside0.mk (Below.refl w.heap.size w)
 have H : (if 0 ≤ a1 then (if a1 < (l0_1.length : Int) then (if ((rd_T54 l0_1 a1).f0) = 2 then (chart_checker_initial.j0 k a1 false a0_0 l0_1 l0_2 ((rd_T54 l0_1 a1).f0) ((rd_T54 l0_1 a1).f1) ((rd_T54 l0_1 a1).f2) ((rd_T54 l0_1 a1).f3) ((rd_T54 l0_1 a1).f4)) else ((chart_history.f ((rd_T54 l0_1 a1).f0)).bind fun t377 => (chart_checker_initial.j0 k a1 (!t377) a0_0 l0_1 l0_2 ((rd_T54 l0_1 a1).f0) ((rd_T54 l0_1 a1).f1) ((rd_T54 l0_1 a1).f2) ((rd_T54 l0_1 a1).f3) ((rd_T54 l0_1 a1).f4)))) else (none)) else (none)) = some r := h
 clear h
 by_cases c3 : 0 ≤ a1
 ·rw [if_pos c3] at H
  have c3b0 : decide (0 ≤ a1) = true := decide_eq_true c3
  clear c3
  by_cases c4 : a1 < (l0_1.length : Int)
  ·rw [if_pos c4] at H
   have c4b0 : decide (a1 < (l0_1.length : Int)) = true := decide_eq_true c4
   clear c4
   have HC5 := Aside0.mk H
   clear H
   go_enter Tryz.func102, Tryz.ntmps102
   go_upto_region 2 with (first | ((with_reducible refine gate_dst (N := 2) rfl ?_); refine box_event ?hg (N := 2) ?hd (cs := #[.int .i64 a0_0, .slice A0_1 l0_1.length c0_1, .slice A0_2 l0_2.length c0_2]) (t := 124) ?hr ?_; (case hd => rfl); (case hg => rfl); (case hr => first | (go_simp; done) | (go_simp; rfl)); intro gb374 hg w6 hbox hb; have n0_ := Aside0.mk (below_step (by repeat (first | (with_reducible first | exact HB.out | apply below_alloc | apply pw_below_drewN | apply below_drew1) | exact HB.out)) hb); have n1_ := Aside0.mk (hbox); have n2_ := Aside0.mk ((by rw [hg]; exact (below_size (by repeat (first | (with_reducible first | exact HB.out | apply below_alloc | apply pw_below_drewN | apply below_drew1) | exact HB.out))) : w.heap.size ≤ gb374)); have n3_ := Aside0.mk ((by rw [hg]; exact (below_size (by repeat (first | (with_reducible first | exact HB.out | apply below_alloc | apply pw_below_drewN | apply below_drew1) | exact HB.out))) : w.heap.size ≤ gb374)); clear HB; have HB := n0_; have BK374 := n1_; have GW374 := n2_; have GE374 := n3_; clear n0_ n1_ n2_ n3_; clear hb hbox hg; have hcz7_0 : w6.cell? ⟨gb374, 0, none⟩ = some (.int .i64 a0_0) := (blk_cell BK374.out 0).trans rfl; have hcz7_1 : w6.cell? ⟨gb374, 1, none⟩ = some (.slice A0_1 l0_1.length c0_1) := (blk_cell BK374.out 1).trans rfl; have hcz7_2 : w6.cell? ⟨gb374, 2, none⟩ = some (.slice A0_2 l0_2.length c0_2) := (blk_cell BK374.out 2).trans rfl; have hfz7_0 := blk_frozen BK374.out 0; have hfz7_1 := blk_frozen BK374.out 1; have hfz7_2 := blk_frozen BK374.out 2; have p375 : 0 ≤ (a1 : Int) := of_decide_eq_true (by first | (with_reducible assumption) | assumption); have q375 : a1 < (l0_1.length : Int) := of_decide_eq_true (by first | (with_reducible assumption) | assumption); obtain ⟨ad375, A375_2, c375_2, A375_3, c375_3, A375_4, c375_4, e375, hx375_0, hx375_1, hx375_2, hx375_3, hx375_4, hl375_2, hi375_2, hl375_3, hi375_3, hl375_4, hi375_4⟩ := at_T54 HR0_1.out a1 p375 q375; cases e375; replace hx375_0 := (HB.out.cell (World.block_lt_of_cell? w _ hx375_0)).trans hx375_0; replace hx375_1 := (HB.out.cell (World.block_lt_of_cell? w _ hx375_1)).trans hx375_1; replace hx375_2 := (HB.out.cell (World.block_lt_of_cell? w _ hx375_2)).trans hx375_2; replace hx375_3 := (HB.out.cell (World.block_lt_of_cell? w _ hx375_3)).trans hx375_3; replace hx375_4 := (HB.out.cell (World.block_lt_of_cell? w _ hx375_4)).trans hx375_4; have HR375_2 := Aside0.mk hi375_2; have HC375_2 := Aside0.mk hl375_2; clear hi375_2 hl375_2; have HR375_3 := Aside0.mk hi375_3; have HC375_3 := Aside0.mk hl375_3; clear hi375_3 hl375_3; have HR375_4 := Aside0.mk hi375_4; have HC375_4 := Aside0.mk hl375_4; clear hi375_4 hl375_4; replace p375 := eq_true p375; replace q375 := eq_true q375) | ((with_reducible refine gate_dst (N := 5) rfl ?_); refine box_event ?hg (N := 5) ?hd (cs := #[.int .i64 0, .int .i64 0, .slice none 0 0, .slice none 0 0, .slice none 0 0]) (t := 54) ?hr ?_; (case hd => rfl); (case hg => rfl); (case hr => first | (go_simp; done) | (go_simp; rfl)); intro gb376 hg w8 hbox hb; have n0_ := Aside0.mk (blk_below (g := gb374) (o := .cells #[.int .i64 a0_0, .slice (some ad375) l0_1.length c0_1, .slice A0_2 l0_2.length c0_2] 124 (0, 0)) (by (with_reducible repeat (first | refine blk_drewN ?_ _ | refine blk_drew ?_ | refine blk_alloc ?_ _)); exact BK374.out) hb); have n1_ := Aside0.mk (below_step (by repeat (first | (with_reducible first | exact HB.out | apply below_alloc | apply pw_below_drewN | apply below_drew1 | refine below_set ?_ GE374.out) | exact HB.out)) hb); have n2_ := Aside0.mk (hbox); have n3_ := Aside0.mk ((by rw [hg]; exact (below_size (by repeat (first | (with_reducible first | exact HB.out | apply below_alloc | apply pw_below_drewN | apply below_drew1 | refine below_set ?_ GE374.out) | exact HB.out))) : w.heap.size ≤ gb376)); have n4_ := Aside0.mk ((by rw [hg]; exact (below_size (by repeat (first | (with_reducible first | exact HB.out | apply below_alloc | apply pw_below_drewN | apply below_drew1 | refine below_set ?_ GE374.out) | exact HB.out))) : w.heap.size ≤ gb376)); have n5_ := Aside0.mk ((by rw [hg]; exact Nat.ne_of_lt (blk_lt (g := gb374) (o := .cells #[.int .i64 a0_0, .slice (some ad375) l0_1.length c0_1, .slice A0_2 l0_2.length c0_2] 124 (0, 0)) (by (with_reducible repeat (first | refine blk_drewN ?_ _ | refine blk_drew ?_ | refine blk_alloc ?_ _)); exact BK374.out)) : gb374 ≠ gb376)); have n6_ := Aside0.mk ((by rw [hg]; exact Nat.ne_of_gt (blk_lt (g := gb374) (o := .cells #[.int .i64 a0_0, .slice (some ad375) l0_1.length c0_1, .slice A0_2 l0_2.length c0_2] 124 (0, 0)) (by (with_reducible repeat (first | refine blk_drewN ?_ _ | refine blk_drew ?_ | refine blk_alloc ?_ _)); exact BK374.out)) : gb376 ≠ gb374)); clear BK374; clear HB; have BK374 := n0_; have HB := n1_; have BK376 := n2_; have GW376 := n3_; have GE376 := n4_; have NB374_376 := n5_; have NB376_374 := n6_; clear n0_ n1_ n2_ n3_ n4_ n5_ n6_; clear hb hbox hg; have hnb9 := NB376_374.out; have hnc9 := NB374_376.out; have hcz10_0 : w8.cell? ⟨gb376, 0, none⟩ = some (.int .i64 0) := (blk_cell BK376.out 0).trans rfl; have hcz10_1 : w8.cell? ⟨gb376, 1, none⟩ = some (.int .i64 0) := (blk_cell BK376.out 1).trans rfl; have hcz10_2 : w8.cell? ⟨gb376, 2, none⟩ = some (.slice none 0 0) := (blk_cell BK376.out 2).trans rfl; have hcz10_3 : w8.cell? ⟨gb376, 3, none⟩ = some (.slice none 0 0) := (blk_cell BK376.out 3).trans rfl; have hcz10_4 : w8.cell? ⟨gb376, 4, none⟩ = some (.slice none 0 0) := (blk_cell BK376.out 4).trans rfl; have hfz10_0 := blk_frozen BK376.out 0; have hfz10_1 := blk_frozen BK376.out 1; have hfz10_2 := blk_frozen BK376.out 2; have hfz10_3 := blk_frozen BK376.out 3; have hfz10_4 := blk_frozen BK376.out 4))
   (try simp only [Act.put, List.setIfInBounds_toArray, List.set_cons_zero, List.set_cons_succ])
   go_cut [21] (fun v21 wc => ∃ (kq : Nat) (x21_4 : Bool), v21 = .bool x21_4 ∧ Aside0 (chart_checker_initial.j0 kq a1 x21_4 a0_0 l0_1 l0_2 ((rd_T54 l0_1 a1).f0) ((rd_T54 l0_1 a1).f1) ((rd_T54 l0_1 a1).f2) ((rd_T54 l0_1 a1).f3) ((rd_T54 l0_1 a1).f4) = some r) ∧ Aside0 (kq ≤ k) ∧ Aside0 (wc.heap[gb374]? = some (.cells #[.int .i64 a0_0, (.slice (some ad375) l0_1.length c0_1), (.slice A0_2 l0_2.length c0_2)] 124 (0, 0))) ∧ Aside0 (wc.heap[gb376]? = some (.cells #[.int .i64 ((rd_T54 l0_1 a1).f0), .int .i64 ((rd_T54 l0_1 a1).f1), (.slice A375_2 ((rd_T54 l0_1 a1).f2).length c375_2), (.slice A375_3 ((rd_T54 l0_1 a1).f3).length c375_3), (.slice A375_4 ((rd_T54 l0_1 a1).f4).length c375_4)] 54 (0, 0))) ∧ Aside0 (Below w.heap.size w wc))
   case first =>
    have H := HC5.out
    clear HC5
    by_cases c11 : ((rd_T54 l0_1 a1).f0) = 2
    ·rw [if_pos c11] at H
     have c11b0 : (((rd_T54 l0_1 a1).f0) == 2) = true := beq_iff_eq.mpr c11
     have c11b1 : (((rd_T54 l0_1 a1).f0) != 2) = false := bne_eq_false_iff_eq.mpr c11
     clear c11
     (first | rw [c11b0] | (simp only [i64_w, i32_w]; rw [c11b0]) | skip)
     have H' := Aside0.mk H
     clear H
     have hnb12 := NB376_374.out
     have hnc12 := NB374_376.out
     have hcz13_0 : w8.cell? ⟨gb376, 0, none⟩ = some (.int .i64 0) := (blk_cell BK376.out 0).trans rfl
     have hcz13_1 : w8.cell? ⟨gb376, 1, none⟩ = some (.int .i64 0) := (blk_cell BK376.out 1).trans rfl
     have hcz13_2 : w8.cell? ⟨gb376, 2, none⟩ = some (.slice none 0 0) := (blk_cell BK376.out 2).trans rfl
     have hcz13_3 : w8.cell? ⟨gb376, 3, none⟩ = some (.slice none 0 0) := (blk_cell BK376.out 3).trans rfl
     have hcz13_4 : w8.cell? ⟨gb376, 4, none⟩ = some (.slice none 0 0) := (blk_cell BK376.out 4).trans rfl
     have hfz13_0 := blk_frozen BK376.out 0
     have hfz13_1 := blk_frozen BK376.out 1
     have hfz13_2 := blk_frozen BK376.out 2
     have hfz13_3 := blk_frozen BK376.out 3
     have hfz13_4 := blk_frozen BK376.out 4
     go_wp2
     go_meet
     case rel => exact ⟨_, (false), (by first | rfl | (simp; done) | (simp [*]; done)), H', ⟨by first | omega | exact Nat.le_refl _⟩, ⟨by (with_reducible repeat (first | refine blk_drewN ?_ _ | refine blk_drew ?_ | refine blk_alloc ?_ _)); refine blk_far ?_ NB374_376.out _; (with_reducible repeat (first | refine blk_drewN ?_ _ | refine blk_drew ?_ | refine blk_alloc ?_ _)); refine blk_far ?_ NB374_376.out _; (with_reducible repeat (first | refine blk_drewN ?_ _ | refine blk_drew ?_ | refine blk_alloc ?_ _)); refine blk_far ?_ NB374_376.out _; (with_reducible repeat (first | refine blk_drewN ?_ _ | refine blk_drew ?_ | refine blk_alloc ?_ _)); refine blk_far ?_ NB374_376.out _; (with_reducible repeat (first | refine blk_drewN ?_ _ | refine blk_drew ?_ | refine blk_alloc ?_ _)); refine blk_far ?_ NB374_376.out _; (with_reducible repeat (first | refine blk_drewN ?_ _ | refine blk_drew ?_ | refine blk_alloc ?_ _)); exact BK374.out⟩, ⟨by (with_reducible repeat (first | refine blk_drewN ?_ _ | refine blk_drew ?_ | refine blk_alloc ?_ _)); refine blk_put (cs := #[.int .i64 ((rd_T54 l0_1 a1).f0), .int .i64 ((rd_T54 l0_1 a1).f1), .slice A375_2 ((rd_T54 l0_1 a1).f2).length c375_2, .slice A375_3 ((rd_T54 l0_1 a1).f3).length c375_3, .slice none 0 0]) ?_ 4 _ rfl; (with_reducible repeat (first | refine blk_drewN ?_ _ | refine blk_drew ?_ | refine blk_alloc ?_ _)); refine blk_put (cs := #[.int .i64 ((rd_T54 l0_1 a1).f0), .int .i64 ((rd_T54 l0_1 a1).f1), .slice A375_2 ((rd_T54 l0_1 a1).f2).length c375_2, .slice none 0 0, .slice none 0 0]) ?_ 3 _ rfl; (with_reducible repeat (first | refine blk_drewN ?_ _ | refine blk_drew ?_ | refine blk_alloc ?_ _)); refine blk_put (cs := #[.int .i64 ((rd_T54 l0_1 a1).f0), .int .i64 ((rd_T54 l0_1 a1).f1), .slice none 0 0, .slice none 0 0, .slice none 0 0]) ?_ 2 _ rfl; (with_reducible repeat (first | refine blk_drewN ?_ _ | refine blk_drew ?_ | refine blk_alloc ?_ _)); refine blk_put (cs := #[.int .i64 ((rd_T54 l0_1 a1).f0), .int .i64 0, .slice none 0 0, .slice none 0 0, .slice none 0 0]) ?_ 1 _ rfl; (with_reducible repeat (first | refine blk_drewN ?_ _ | refine blk_drew ?_ | refine blk_alloc ?_ _)); refine blk_put (cs := #[.int .i64 0, .int .i64 0, .slice none 0 0, .slice none 0 0, .slice none 0 0]) ?_ 0 _ rfl; (with_reducible repeat (first | refine blk_drewN ?_ _ | refine blk_drew ?_ | refine blk_alloc ?_ _)); exact BK376.out⟩, ⟨by repeat (first | (with_reducible first | exact HB.out | apply below_alloc | apply pw_below_drewN | apply below_drew1 | refine below_set ?_ GE374.out | refine below_set ?_ GE376.out) | exact HB.out)⟩⟩
    ·rw [if_neg c11] at H
     have c11b0 : (((rd_T54 l0_1 a1).f0) == 2) = false := beq_eq_false_iff_ne.mpr c11
     have c11b1 : (((rd_T54 l0_1 a1).f0) != 2) = true := bne_iff_ne.mpr c11
     (first | rw [c11b0] | (simp only [i64_w, i32_w]; rw [c11b0]) | skip)
     replace H := Option.bind_eq_some_iff.mp H
     obtain ⟨t377, A140, H⟩ := H
     replace H : (chart_checker_initial.j0 k a1 (!t377) a0_0 l0_1 l0_2 ((rd_T54 l0_1 a1).f0) ((rd_T54 l0_1 a1).f1) ((rd_T54 l0_1 a1).f2) ((rd_T54 l0_1 a1).f3) ((rd_T54 l0_1 a1).f4)) = some r := H
     have A14 := Aside0.mk A140
     clear A140
     have H' := Aside0.mk H
     clear H
     have hnb15 := NB376_374.out
     have hnc15 := NB374_376.out
     have hcz16_0 : w8.cell? ⟨gb376, 0, none⟩ = some (.int .i64 0) := (blk_cell BK376.out 0).trans rfl
     have hcz16_1 : w8.cell? ⟨gb376, 1, none⟩ = some (.int .i64 0) := (blk_cell BK376.out 1).trans rfl
     have hcz16_2 : w8.cell? ⟨gb376, 2, none⟩ = some (.slice none 0 0) := (blk_cell BK376.out 2).trans rfl
     have hcz16_3 : w8.cell? ⟨gb376, 3, none⟩ = some (.slice none 0 0) := (blk_cell BK376.out 3).trans rfl
     have hcz16_4 : w8.cell? ⟨gb376, 4, none⟩ = some (.slice none 0 0) := (blk_cell BK376.out 4).trans rfl
     have hfz16_0 := blk_frozen BK376.out 0
     have hfz16_1 := blk_frozen BK376.out 1
     have hfz16_2 := blk_frozen BK376.out 2
     have hfz16_3 := blk_frozen BK376.out 3
     have hfz16_4 := blk_frozen BK376.out 4
     go_wp2_with (first | (go_at_call 76; (with_reducible refine (chart_history.calls ((rd_T54 l0_1 a1).f0) t377 _ A14.out).mono ?_); rintro e w' ⟨rfl, ⟨nd, rfl⟩⟩))
     go_meet
     case rel => exact ⟨_, (!t377), (by first | rfl | (simp; done) | (simp [*]; done)), H', ⟨by first | omega | exact Nat.le_refl _⟩, ⟨by (with_reducible repeat (first | refine blk_drewN ?_ _ | refine blk_drew ?_ | refine blk_alloc ?_ _)); refine blk_far ?_ NB374_376.out _; (with_reducible repeat (first | refine blk_drewN ?_ _ | refine blk_drew ?_ | refine blk_alloc ?_ _)); refine blk_far ?_ NB374_376.out _; (with_reducible repeat (first | refine blk_drewN ?_ _ | refine blk_drew ?_ | refine blk_alloc ?_ _)); refine blk_far ?_ NB374_376.out _; (with_reducible repeat (first | refine blk_drewN ?_ _ | refine blk_drew ?_ | refine blk_alloc ?_ _)); refine blk_far ?_ NB374_376.out _; (with_reducible repeat (first | refine blk_drewN ?_ _ | refine blk_drew ?_ | refine blk_alloc ?_ _)); refine blk_far ?_ NB374_376.out _; (with_reducible repeat (first | refine blk_drewN ?_ _ | refine blk_drew ?_ | refine blk_alloc ?_ _)); exact BK374.out⟩, ⟨by (with_reducible repeat (first | refine blk_drewN ?_ _ | refine blk_drew ?_ | refine blk_alloc ?_ _)); refine blk_put (cs := #[.int .i64 ((rd_T54 l0_1 a1).f0), .int .i64 ((rd_T54 l0_1 a1).f1), .slice A375_2 ((rd_T54 l0_1 a1).f2).length c375_2, .slice A375_3 ((rd_T54 l0_1 a1).f3).length c375_3, .slice none 0 0]) ?_ 4 _ rfl; (with_reducible repeat (first | refine blk_drewN ?_ _ | refine blk_drew ?_ | refine blk_alloc ?_ _)); refine blk_put (cs := #[.int .i64 ((rd_T54 l0_1 a1).f0), .int .i64 ((rd_T54 l0_1 a1).f1), .slice A375_2 ((rd_T54 l0_1 a1).f2).length c375_2, .slice none 0 0, .slice none 0 0]) ?_ 3 _ rfl; (with_reducible repeat (first | refine blk_drewN ?_ _ | refine blk_drew ?_ | refine blk_alloc ?_ _)); refine blk_put (cs := #[.int .i64 ((rd_T54 l0_1 a1).f0), .int .i64 ((rd_T54 l0_1 a1).f1), .slice none 0 0, .slice none 0 0, .slice none 0 0]) ?_ 2 _ rfl; (with_reducible repeat (first | refine blk_drewN ?_ _ | refine blk_drew ?_ | refine blk_alloc ?_ _)); refine blk_put (cs := #[.int .i64 ((rd_T54 l0_1 a1).f0), .int .i64 0, .slice none 0 0, .slice none 0 0, .slice none 0 0]) ?_ 1 _ rfl; (with_reducible repeat (first | refine blk_drewN ?_ _ | refine blk_drew ?_ | refine blk_alloc ?_ _)); refine blk_put (cs := #[.int .i64 0, .int .i64 0, .slice none 0 0, .slice none 0 0, .slice none 0 0]) ?_ 0 _ rfl; (with_reducible repeat (first | refine blk_drewN ?_ _ | refine blk_drew ?_ | refine blk_alloc ?_ _)); exact BK376.out⟩, ⟨by repeat (first | (with_reducible first | exact HB.out | apply below_alloc | apply pw_below_drewN | apply below_drew1 | refine below_set ?_ GE374.out | refine below_set ?_ GE376.out) | exact HB.out)⟩⟩
   case rest =>
    clear HC5
    try clear c1
    try clear p2
    try clear c3
    try clear c3b0
    try clear p3
    try clear q3
    try clear hx3
    try clear c4
    try clear c4b0
    try clear c9
    try clear c10
    try clear c11
    try clear c11b0
    try clear c11b1
    try clear c12
    try clear c15
    try clear hcz10_0
    try clear hcz10_1
    try clear hcz10_2
    try clear hcz10_3
    try clear hcz10_4
    try clear hcz13_0
    try clear hcz13_1
    try clear hcz13_2
    try clear hcz13_3
    try clear hcz13_4
    try clear hcz16_0
    try clear hcz16_1
    try clear hcz16_2
    try clear hcz16_3
    try clear hcz16_4
    try clear hcz7_0
    try clear hcz7_1
    try clear hcz7_2
    try clear hfz10_0
    try clear hfz10_1
    try clear hfz10_2
    try clear hfz10_3
    try clear hfz10_4
    try clear hfz13_0
    try clear hfz13_1
    try clear hfz13_2
    try clear hfz13_3
    try clear hfz13_4
    try clear hfz16_0
    try clear hfz16_1
    try clear hfz16_2
    try clear hfz16_3
    try clear hfz16_4
    try clear hfz7_0
    try clear hfz7_1
    try clear hfz7_2
    try clear hx375_0
    try clear hx375_1
    try clear hx375_2
    try clear hx375_3
    try clear hx375_4
    try clear p375
    try clear q375
    obtain ⟨kq, x21_4, rfl, HA, HJ4, BK374, BK376, HB⟩ := hcut
    cases kq with
    | zero => exact absurd HA.out (by simp [chart_checker_initial.j0])
    | succ kj4 =>
     have H := HA.out
     clear HA
     simp only [chart_checker_initial.j0] at H
     by_cases c17 : x21_4 = true
     ·subst c17
      have H1 : (some ((((rd_T54 l0_1 a1).f2).length : Int) == 0)) = some r := by rw [if_pos rfl] at H; exact H
      clear H
      have H := H1
      clear H1
      obtain rfl := Option.some.inj H
      have hnb18 := NB376_374.out
      have hnc18 := NB374_376.out
      have hcz19_0 : wc.cell? ⟨gb376, 0, none⟩ = some (.int .i64 ((rd_T54 l0_1 a1).f0)) := (blk_cell BK376.out 0).trans rfl
      have hcz19_1 : wc.cell? ⟨gb376, 1, none⟩ = some (.int .i64 ((rd_T54 l0_1 a1).f1)) := (blk_cell BK376.out 1).trans rfl
      have hcz19_2 : wc.cell? ⟨gb376, 2, none⟩ = some (.slice A375_2 ((rd_T54 l0_1 a1).f2).length c375_2) := (blk_cell BK376.out 2).trans rfl
      have hcz19_3 : wc.cell? ⟨gb376, 3, none⟩ = some (.slice A375_3 ((rd_T54 l0_1 a1).f3).length c375_3) := (blk_cell BK376.out 3).trans rfl
      have hcz19_4 : wc.cell? ⟨gb376, 4, none⟩ = some (.slice A375_4 ((rd_T54 l0_1 a1).f4).length c375_4) := (blk_cell BK376.out 4).trans rfl
      have hfz19_0 := blk_frozen BK376.out 0
      have hfz19_1 := blk_frozen BK376.out 1
      have hfz19_2 := blk_frozen BK376.out 2
      have hfz19_3 := blk_frozen BK376.out 3
      have hfz19_4 := blk_frozen BK376.out 4
      go_wp2
      go_ret
      exact ⟨by first | rfl | (simp [errW_none, errW_some] <;> rfl) | (simp [*, errW_none, errW_some] <;> rfl), by repeat (first | (with_reducible first | exact HB.out | apply below_alloc | apply pw_below_drewN | apply below_drew1 | refine below_set ?_ GE374.out | refine below_set ?_ GE376.out) | exact HB.out)⟩
     ·replace c17 := Bool.eq_false_iff.mpr c17
      subst c17
      have H1 : (if (((rd_T54 l0_1 a1).f2).length : Int) = 1 then (if 0 < (((rd_T54 l0_1 a1).f2).length : Int) then ((chart_checker_there.f a0_0 l0_1 l0_2 (rd ((rd_T54 l0_1 a1).f2) 0)).bind fun t379 => (if t379 = true then (if 0 ≤ (rd ((rd_T54 l0_1 a1).f2) 0) then (if (rd ((rd_T54 l0_1 a1).f2) 0) < (l0_1.length : Int) then ((chart_history.f ((rd_T54 l0_1 (rd ((rd_T54 l0_1 a1).f2) 0)).f0)).bind fun t382 => (chart_checker_initial.j1 kj4 a1 t382 a0_0 l0_1 l0_2 ((rd_T54 l0_1 a1).f0) ((rd_T54 l0_1 a1).f1) ((rd_T54 l0_1 a1).f2) ((rd_T54 l0_1 a1).f3) ((rd_T54 l0_1 a1).f4))) else (none)) else (none)) else (chart_checker_initial.j1 kj4 a1 true a0_0 l0_1 l0_2 ((rd_T54 l0_1 a1).f0) ((rd_T54 l0_1 a1).f1) ((rd_T54 l0_1 a1).f2) ((rd_T54 l0_1 a1).f3) ((rd_T54 l0_1 a1).f4)))) else (none)) else (chart_checker_initial.j1 kj4 a1 true a0_0 l0_1 l0_2 ((rd_T54 l0_1 a1).f0) ((rd_T54 l0_1 a1).f1) ((rd_T54 l0_1 a1).f2) ((rd_T54 l0_1 a1).f3) ((rd_T54 l0_1 a1).f4))) = some r := by rw [if_neg (show ¬ (false = true) by decide)] at H; exact H
      clear H
      have H := H1
      clear H1
      have HC20 := Aside0.mk H
      clear H
      go_upto_region 4 with (fail)
      go_cut [51] (fun v51 wc => ∃ (kq : Nat) (x51_19 : Bool), v51 = .bool x51_19 ∧ Aside0 (chart_checker_initial.j1 kq a1 x51_19 a0_0 l0_1 l0_2 ((rd_T54 l0_1 a1).f0) ((rd_T54 l0_1 a1).f1) ((rd_T54 l0_1 a1).f2) ((rd_T54 l0_1 a1).f3) ((rd_T54 l0_1 a1).f4) = some r) ∧ Aside0 (kq ≤ kj4) ∧ Aside0 (wc.heap[gb374]? = some (.cells #[.int .i64 a0_0, (.slice (some ad375) l0_1.length c0_1), (.slice A0_2 l0_2.length c0_2)] 124 (0, 0))) ∧ Aside0 (wc.heap[gb376]? = some (.cells #[.int .i64 ((rd_T54 l0_1 a1).f0), .int .i64 ((rd_T54 l0_1 a1).f1), (.slice A375_2 ((rd_T54 l0_1 a1).f2).length c375_2), (.slice A375_3 ((rd_T54 l0_1 a1).f3).length c375_3), (.slice A375_4 ((rd_T54 l0_1 a1).f4).length c375_4)] 54 (0, 0))) ∧ Aside0 (Below w.heap.size w wc))
      case first =>
       have H := HC20.out
       clear HC20
       by_cases c21 : (((rd_T54 l0_1 a1).f2).length : Int) = 1
       ·rw [if_pos c21] at H
        have c21b0 : ((((rd_T54 l0_1 a1).f2).length : Int) == 1) = true := beq_iff_eq.mpr c21
        have c21b1 : ((((rd_T54 l0_1 a1).f2).length : Int) != 1) = false := bne_eq_false_iff_eq.mpr c21
        clear c21
        (first | rw [c21b0] | (simp only [i64_w, i32_w]; rw [c21b0]) | skip)
        by_cases c22 : 0 < (((rd_T54 l0_1 a1).f2).length : Int)
        ·rw [if_pos c22] at H
         have c22b0 : decide (0 < (((rd_T54 l0_1 a1).f2).length : Int)) = true := decide_eq_true c22
         have c22b1 : decide (0 < ((rd_T54 l0_1 a1).f2).length) = true := decide_eq_true (by omega)
         clear c22
         replace H := Option.bind_eq_some_iff.mp H
         obtain ⟨t379, A230, H⟩ := H
         replace H : (if t379 = true then (if 0 ≤ (rd ((rd_T54 l0_1 a1).f2) 0) then (if (rd ((rd_T54 l0_1 a1).f2) 0) < (l0_1.length : Int) then ((chart_history.f ((rd_T54 l0_1 (rd ((rd_T54 l0_1 a1).f2) 0)).f0)).bind fun t382 => (chart_checker_initial.j1 kj4 a1 t382 a0_0 l0_1 l0_2 ((rd_T54 l0_1 a1).f0) ((rd_T54 l0_1 a1).f1) ((rd_T54 l0_1 a1).f2) ((rd_T54 l0_1 a1).f3) ((rd_T54 l0_1 a1).f4))) else (none)) else (none)) else (chart_checker_initial.j1 kj4 a1 true a0_0 l0_1 l0_2 ((rd_T54 l0_1 a1).f0) ((rd_T54 l0_1 a1).f1) ((rd_T54 l0_1 a1).f2) ((rd_T54 l0_1 a1).f3) ((rd_T54 l0_1 a1).f4))) = some r := H
         have A23 := Aside0.mk A230
         clear A230
         by_cases c24 : t379 = true
         ·subst c24
          have H1 : (if 0 ≤ (rd ((rd_T54 l0_1 a1).f2) 0) then (if (rd ((rd_T54 l0_1 a1).f2) 0) < (l0_1.length : Int) then ((chart_history.f ((rd_T54 l0_1 (rd ((rd_T54 l0_1 a1).f2) 0)).f0)).bind fun t382 => (chart_checker_initial.j1 kj4 a1 t382 a0_0 l0_1 l0_2 ((rd_T54 l0_1 a1).f0) ((rd_T54 l0_1 a1).f1) ((rd_T54 l0_1 a1).f2) ((rd_T54 l0_1 a1).f3) ((rd_T54 l0_1 a1).f4))) else (none)) else (none)) = some r := by rw [if_pos rfl] at H; exact H
          clear H
          have H := H1
          clear H1
          by_cases c25 : 0 ≤ (rd ((rd_T54 l0_1 a1).f2) 0)
          ·rw [if_pos c25] at H
           have c25b0 : decide (0 ≤ (rd ((rd_T54 l0_1 a1).f2) 0)) = true := decide_eq_true c25
           clear c25
           by_cases c26 : (rd ((rd_T54 l0_1 a1).f2) 0) < (l0_1.length : Int)
           ·rw [if_pos c26] at H
            have c26b0 : decide ((rd ((rd_T54 l0_1 a1).f2) 0) < (l0_1.length : Int)) = true := decide_eq_true c26
            clear c26
            replace H := Option.bind_eq_some_iff.mp H
            obtain ⟨t382, A270, H⟩ := H
            replace H : (chart_checker_initial.j1 kj4 a1 t382 a0_0 l0_1 l0_2 ((rd_T54 l0_1 a1).f0) ((rd_T54 l0_1 a1).f1) ((rd_T54 l0_1 a1).f2) ((rd_T54 l0_1 a1).f3) ((rd_T54 l0_1 a1).f4)) = some r := H
            have A27 := Aside0.mk A270
            clear A270
            have H' := Aside0.mk H
            clear H
            try go_wp2
            have n0_ := Aside0.mk (blk_drew BK374.out)
            have n1_ := Aside0.mk (blk_drew BK376.out)
            have n2_ := Aside0.mk (below_drew1 HB.out)
            clear BK374
            clear BK376
            clear HB
            have BK374 := n0_
            have BK376 := n1_
            have HB := n2_
            clear n0_ n1_ n2_
            have p378 : 0 ≤ (0 : Int) := (by omega)
            have q378 : 0 < (((rd_T54 l0_1 a1).f2).length : Int) := of_decide_eq_true (by first | (with_reducible assumption) | assumption)
            obtain ⟨ad378, e378, hx378_0⟩ := Kd.at_int HR375_2.out 0 p378 q378
            have hw378_0 := hx378_0
            (try rw [show ((0 : Int)).toNat = 0 from rfl] at hw378_0)
            (try rw [show 0 * 1 = 0 from rfl] at hw378_0)
            (try rw [Addr.add_zero'] at hw378_0)
            cases e378
            have qi378 : (0 < ((rd_T54 l0_1 a1).f2).length) = True := eq_true (by omega)
            (try rw [show ((0 : Int)).toNat = 0 from rfl] at hx378_0)
            (try rw [Addr.add_zero'] at hx378_0)
            replace hx378_0 := (HB.out.cell (World.block_lt_of_cell? w _ hx378_0)).trans hx378_0
            replace p378 := eq_true p378
            replace q378 := eq_true q378
            have p380 : 0 ≤ (0 : Int) := (by omega)
            have q380 : 0 < (((rd_T54 l0_1 a1).f2).length : Int) := of_decide_eq_true (by first | (with_reducible assumption) | assumption)
            obtain ⟨ad380, e380, hx380_0⟩ := Kd.at_int HR375_2.out 0 p380 q380
            have hw380_0 := hx380_0
            (try rw [show ((0 : Int)).toNat = 0 from rfl] at hw380_0)
            (try rw [show 0 * 1 = 0 from rfl] at hw380_0)
            (try rw [Addr.add_zero'] at hw380_0)
            obtain rfl : ad378 = ad380 := (by injection e380)
            have qi380 : (0 < ((rd_T54 l0_1 a1).f2).length) = True := eq_true (by omega)
            (try rw [show ((0 : Int)).toNat = 0 from rfl] at hx380_0)
            (try rw [Addr.add_zero'] at hx380_0)
            replace hx380_0 := (HB.out.cell (World.block_lt_of_cell? w _ hx380_0)).trans hx380_0
            replace p380 := eq_true p380
            replace q380 := eq_true q380
            have p381 : 0 ≤ ((rd ((rd_T54 l0_1 a1).f2) 0) : Int) := of_decide_eq_true (by first | (with_reducible assumption) | assumption)
            have q381 : (rd ((rd_T54 l0_1 a1).f2) 0) < (l0_1.length : Int) := of_decide_eq_true (by first | (with_reducible assumption) | assumption)
            obtain ⟨ad381, A381_2, c381_2, A381_3, c381_3, A381_4, c381_4, e381, hx381_0, hx381_1, hx381_2, hx381_3, hx381_4, hl381_2, hi381_2, hl381_3, hi381_3, hl381_4, hi381_4⟩ := at_T54 HR0_1.out (rd ((rd_T54 l0_1 a1).f2) 0) p381 q381
            have hw381_4 := hx381_4
            have hw381_3 := hx381_3
            have hw381_2 := hx381_2
            have hw381_1 := hx381_1
            have hw381_0 := hx381_0
            obtain rfl : ad375 = ad381 := (by injection e381)
            replace hx381_0 := (HB.out.cell (World.block_lt_of_cell? w _ hx381_0)).trans hx381_0
            replace hx381_1 := (HB.out.cell (World.block_lt_of_cell? w _ hx381_1)).trans hx381_1
            replace hx381_2 := (HB.out.cell (World.block_lt_of_cell? w _ hx381_2)).trans hx381_2
            replace hx381_3 := (HB.out.cell (World.block_lt_of_cell? w _ hx381_3)).trans hx381_3
            replace hx381_4 := (HB.out.cell (World.block_lt_of_cell? w _ hx381_4)).trans hx381_4
            have HR381_2 := Aside0.mk hi381_2
            have HC381_2 := Aside0.mk hl381_2
            clear hi381_2 hl381_2
            have HR381_3 := Aside0.mk hi381_3
            have HC381_3 := Aside0.mk hl381_3
            clear hi381_3 hl381_3
            have HR381_4 := Aside0.mk hi381_4
            have HC381_4 := Aside0.mk hl381_4
            clear hi381_4 hl381_4
            replace p381 := eq_true p381
            replace q381 := eq_true q381
            refine start_ (n := 26) (S := fun w' => w'.cell? ⟨gb376, 0, none⟩ = some (.int .i64 ((rd_T54 l0_1 a1).f0)) ∧ w'.cell? ⟨gb376, 1, none⟩ = some (.int .i64 ((rd_T54 l0_1 a1).f1)) ∧ w'.cell? ⟨gb376, 2, none⟩ = some (.slice (some ad378) ((rd_T54 l0_1 a1).f2).length c375_2) ∧ w'.cell? ⟨gb376, 3, none⟩ = some (.slice A375_3 ((rd_T54 l0_1 a1).f3).length c375_3) ∧ w'.cell? ⟨gb376, 4, none⟩ = some (.slice A375_4 ((rd_T54 l0_1 a1).f4).length c375_4) ∧ w'.cell? ⟨gb374, 0, none⟩ = some (.int .i64 a0_0) ∧ w'.cell? ⟨gb374, 1, none⟩ = some (.slice (some ad375) l0_1.length c0_1) ∧ w'.cell? ⟨gb374, 2, none⟩ = some (.slice A0_2 l0_2.length c0_2) ∧ w'.cell? ad378 = some (.int .i64 (rd ((rd_T54 l0_1 a1).f2) 0)) ∧ w'.cell? ad378 = some (.int .i64 (rd ((rd_T54 l0_1 a1).f2) 0)) ∧ w'.cell? (ad375.add (((rd ((rd_T54 l0_1 a1).f2) 0)).toNat * 5)) = some (.int .i64 ((rd_T54 l0_1 (rd ((rd_T54 l0_1 a1).f2) 0)).f0)) ∧ w'.cell? ⟨(ad375.add (((rd ((rd_T54 l0_1 a1).f2) 0)).toNat * 5)).block, (ad375.add (((rd ((rd_T54 l0_1 a1).f2) 0)).toNat * 5)).off + 1, none⟩ = some (.int .i64 ((rd_T54 l0_1 (rd ((rd_T54 l0_1 a1).f2) 0)).f1)) ∧ w'.cell? ⟨(ad375.add (((rd ((rd_T54 l0_1 a1).f2) 0)).toNat * 5)).block, (ad375.add (((rd ((rd_T54 l0_1 a1).f2) 0)).toNat * 5)).off + 2, none⟩ = some (.slice A381_2 ((rd_T54 l0_1 (rd ((rd_T54 l0_1 a1).f2) 0)).f2).length c381_2) ∧ w'.cell? ⟨(ad375.add (((rd ((rd_T54 l0_1 a1).f2) 0)).toNat * 5)).block, (ad375.add (((rd ((rd_T54 l0_1 a1).f2) 0)).toNat * 5)).off + 3, none⟩ = some (.slice A381_3 ((rd_T54 l0_1 (rd ((rd_T54 l0_1 a1).f2) 0)).f3).length c381_3) ∧ w'.cell? ⟨(ad375.add (((rd ((rd_T54 l0_1 a1).f2) 0)).toNat * 5)).block, (ad375.add (((rd ((rd_T54 l0_1 a1).f2) 0)).toNat * 5)).off + 4, none⟩ = some (.slice A381_4 ((rd_T54 l0_1 (rd ((rd_T54 l0_1 a1).f2) 0)).f4).length c381_4)) (ds := []) #[false, false, false, false, false, false, false, false, false, false, false, false, false, false, false, false, false, false, false, false, false, false, false, false, false, false] (by kernel_rfl) rfl rfl ⟨(blk_cell BK376.out 0).trans rfl, (blk_cell BK376.out 1).trans rfl, (blk_cell BK376.out 2).trans rfl, (blk_cell BK376.out 3).trans rfl, (blk_cell BK376.out 4).trans rfl, (blk_cell BK374.out 0).trans rfl, (blk_cell BK374.out 1).trans rfl, (blk_cell BK374.out 2).trans rfl, ((HB.out.cell (World.block_lt_of_cell? w _ hw378_0)).trans hw378_0), ((HB.out.cell (World.block_lt_of_cell? w _ hw380_0)).trans hw380_0), ((HB.out.cell (World.block_lt_of_cell? w _ hw381_0)).trans hw381_0), ((HB.out.cell (World.block_lt_of_cell? w _ hw381_1)).trans hw381_1), ((HB.out.cell (World.block_lt_of_cell? w _ hw381_2)).trans hw381_2), ((HB.out.cell (World.block_lt_of_cell? w _ hw381_3)).trans hw381_3), ((HB.out.cell (World.block_lt_of_cell? w _ hw381_4)).trans hw381_4)⟩ (fun hHeld => ?_); refine with_tabW chart_checker_initial.tab4 chart_checker_initial.bits4 (fun HT_ HW_ => ?_)
            generalize wc.drew = w28 at BK374 BK376 HB HR381_2 HR381_3 HR381_4 hx378_0 hx380_0 hx381_0 hx381_1 hx381_2 hx381_3 hx381_4 hHeld ⊢
            refine pure_ (i := 0) (N := some 26) (v := ?_) (a' := ?_) #[true, false, false, false, false, false, false, false, false, false, false, false, false, false, false, false, false, false, false, false, false, false, false, false, false, false] rfl rfl (any_of HT_.out (by kernel_rfl)) (fun _ _ _ h => h) (Or.inl ⟨by rfl, ?_⟩) ?_ ?_
            rotate_left
            ·intro w'
             go_simp
             with_reducible rfl
            rotate_left
            ·simp only [Act.put, List.setIfInBounds_toArray, List.set_cons_zero, List.set_cons_succ, i64_w, i32_w]
             rfl
            refine take_ (i := 1) (N := some 27) (v := ?_) (a' := ?_) #[true, true, false, false, false, false, false, false, false, false, false, false, false, false, false, false, false, false, false, false, false, false, false, false, false, false] rfl rfl (take_ofW HT_.out HW_.out (by kernel_rfl)) (fun _ _ _ h => h) (Or.inl ⟨by rfl, ?_⟩) hHeld ?_ ?_
            rotate_left
            ·rintro w' ⟨s0, s1, s2, s3, s4, s5, s6, s7, s8, s9, s10, s11, s12, s13, s14⟩
             go_simp
             with_reducible rfl
            rotate_left
            ·simp only [Act.put, List.setIfInBounds_toArray, List.set_cons_zero, List.set_cons_succ, i64_w, i32_w]
             rfl
            refine pure_ (i := 2) (N := some 28) (v := ?_) (a' := ?_) #[true, true, true, false, false, false, false, false, false, false, false, false, false, false, false, false, false, false, false, false, false, false, false, false, false, false] rfl rfl (any_of HT_.out (by kernel_rfl)) (fun _ _ _ h => h) (Or.inl ⟨by rfl, ?_⟩) ?_ ?_
            rotate_left
            ·intro w'
             go_simp
             with_reducible rfl
            rotate_left
            ·simp only [Act.put, List.setIfInBounds_toArray, List.set_cons_zero, List.set_cons_succ, i64_w, i32_w]
             rfl
            refine pure_ (i := 3) (N := some 29) (v := ?_) (a' := ?_) #[true, true, true, true, false, false, false, false, false, false, false, false, false, false, false, false, false, false, false, false, false, false, false, false, false, false] rfl rfl (any_of HT_.out (by kernel_rfl)) (fun _ _ _ h => h) (Or.inl ⟨by rfl, ?_⟩) ?_ ?_
            rotate_left
            ·intro w'
             go_simp
             with_reducible rfl
            rotate_left
            ·simp only [Act.put, List.setIfInBounds_toArray, List.set_cons_zero, List.set_cons_succ, i64_w, i32_w]
             rfl
            refine pure_ (i := 4) (N := some 30) (v := ?_) (a' := ?_) #[true, true, true, true, true, false, false, false, false, false, false, false, false, false, false, false, false, false, false, false, false, false, false, false, false, false] rfl rfl (any_of HT_.out (by kernel_rfl)) (fun _ _ _ h => h) (Or.inl ⟨by rfl, ?_⟩) ?_ ?_
            rotate_left
            ·intro w'
             go_simp
             with_reducible rfl
            rotate_left
            ·simp only [Act.put, List.setIfInBounds_toArray, List.set_cons_zero, List.set_cons_succ, i64_w, i32_w]
             rfl
            refine pure_ (i := 6) (N := some 32) (v := ?_) (a' := ?_) #[true, true, true, true, true, false, true, false, false, false, false, false, false, false, false, false, false, false, false, false, false, false, false, false, false, false] rfl rfl (any_of HT_.out (by kernel_rfl)) (fun _ _ _ h => h) (Or.inl ⟨by rfl, ?_⟩) ?_ ?_
            rotate_left
            ·intro w'
             go_simp
             with_reducible rfl
            rotate_left
            ·simp only [Act.put, List.setIfInBounds_toArray, List.set_cons_zero, List.set_cons_succ, i64_w, i32_w]
             rfl
            refine take_ (i := 5) (N := some 31) (v := ?_) (a' := ?_) #[true, true, true, true, true, true, true, false, false, false, false, false, false, false, false, false, false, false, false, false, false, false, false, false, false, false] rfl rfl (take_ofW HT_.out HW_.out (by kernel_rfl)) (fun _ _ _ h => h) (Or.inl ⟨by rfl, ?_⟩) hHeld ?_ ?_
            rotate_left
            ·rintro w' ⟨s0, s1, s2, s3, s4, s5, s6, s7, s8, s9, s10, s11, s12, s13, s14⟩
             go_simp
             with_reducible rfl
            rotate_left
            ·simp only [Act.put, List.setIfInBounds_toArray, List.set_cons_zero, List.set_cons_succ, i64_w, i32_w]
             rfl
            refine take_ (i := 7) (N := some 33) (v := ?_) (a' := ?_) #[true, true, true, true, true, true, true, true, false, false, false, false, false, false, false, false, false, false, false, false, false, false, false, false, false, false] rfl rfl (take_ofW HT_.out HW_.out (by kernel_rfl)) (fun _ _ _ h => h) (Or.inl ⟨by rfl, ?_⟩) hHeld ?_ ?_
            rotate_left
            ·rintro w' ⟨s0, s1, s2, s3, s4, s5, s6, s7, s8, s9, s10, s11, s12, s13, s14⟩
             go_simp
             with_reducible rfl
            rotate_left
            ·simp only [Act.put, List.setIfInBounds_toArray, List.set_cons_zero, List.set_cons_succ, i64_w, i32_w]
             rfl
            refine pure_ (i := 8) (N := some 34) (v := ?_) (a' := ?_) #[true, true, true, true, true, true, true, true, true, false, false, false, false, false, false, false, false, false, false, false, false, false, false, false, false, false] rfl rfl (any_of HT_.out (by kernel_rfl)) (fun _ _ _ h => h) (Or.inl ⟨by rfl, ?_⟩) ?_ ?_
            rotate_left
            ·intro w'
             go_simp
             with_reducible rfl
            rotate_left
            ·simp only [Act.put, List.setIfInBounds_toArray, List.set_cons_zero, List.set_cons_succ, i64_w, i32_w]
             rfl
            refine take_ (i := 9) (N := some 35) (v := ?_) (a' := ?_) #[true, true, true, true, true, true, true, true, true, true, false, false, false, false, false, false, false, false, false, false, false, false, false, false, false, false] rfl rfl (take_ofW HT_.out HW_.out (by kernel_rfl)) (fun _ _ _ h => h) (Or.inl ⟨by rfl, ?_⟩) hHeld ?_ ?_
            rotate_left
            ·rintro w' ⟨s0, s1, s2, s3, s4, s5, s6, s7, s8, s9, s10, s11, s12, s13, s14⟩
             go_simp
             with_reducible rfl
            rotate_left
            ·simp only [Act.put, List.setIfInBounds_toArray, List.set_cons_zero, List.set_cons_succ, i64_w, i32_w]
             rfl
            refine one_ (i := 10) (N := some 36) #[true, true, true, true, true, true, true, true, true, true, true, false, false, false, false, false, false, false, false, false, false, false, false, false, false, false] rfl rfl (one_of HT_.out (by kernel_rfl)) (by decide) (fun K hK => ?_)
            refine goes_ Tryz.func104 (by kernel_rfl) rfl #[.agg #[.int .i64 a0_0, .slice (some ad375) l0_1.length c0_1, .slice A0_2 l0_2.length c0_2], .int .i64 (rd ((rd_T54 l0_1 a1).f2) 0)] (by rfl) rfl rfl (by (try simp only [List.map_toArray, List.map_cons, List.map_nil]); first | done | rfl | (simp only [List.length_drop, List.length_take]; rfl)) ?_
            with_reducible refine (chart_checker_there.calls a0_0 _ _ l0_1 _ _ l0_2 (rd ((rd_T54 l0_1 a1).f2) 0) true _ ?side1 ?side2 ?side3 ?side4 A23.out).mono ?_
            (case side1 => repeat (first | exact (Kd.C_below HR0_1.out HB.out) | (with_reducible refine Kd.C_alloc ?_ _) | (with_reducible refine Kd.C_drewN ?_ _) | (with_reducible refine Kd.C_drew ?_)))
            (case side2 => exact HC0_1.out)
            (case side3 => repeat (first | exact (Kd.C_below HR0_2.out HB.out) | (with_reducible refine Kd.C_alloc ?_ _) | (with_reducible refine Kd.C_drewN ?_ _) | (with_reducible refine Kd.C_drew ?_)))
            (case side4 => exact HC0_2.out)
            rintro e w29 ⟨rfl, hb⟩
            refine ⟨_, rfl, ?_⟩
            have n0_ := Aside0.mk (blk_below (g := gb374) (o := .cells #[.int .i64 a0_0, .slice (some ad375) l0_1.length c0_1, .slice A0_2 l0_2.length c0_2] 124 (0, 0)) (by (with_reducible repeat (first | refine blk_drewN ?_ _ | refine blk_drew ?_ | refine blk_alloc ?_ _)); exact BK374.out) hb)
            have n1_ := Aside0.mk (blk_below (g := gb376) (o := .cells #[.int .i64 ((rd_T54 l0_1 a1).f0), .int .i64 ((rd_T54 l0_1 a1).f1), .slice (some ad378) ((rd_T54 l0_1 a1).f2).length c375_2, .slice A375_3 ((rd_T54 l0_1 a1).f3).length c375_3, .slice A375_4 ((rd_T54 l0_1 a1).f4).length c375_4] 54 (0, 0)) (by (with_reducible repeat (first | refine blk_drewN ?_ _ | refine blk_drew ?_ | refine blk_alloc ?_ _)); exact BK376.out) hb)
            have n2_ := Aside0.mk (below_step (by repeat (first | (with_reducible first | exact HB.out | apply below_alloc | apply pw_below_drewN | apply below_drew1 | refine below_set ?_ GE374.out | refine below_set ?_ GE376.out) | exact HB.out)) hb)
            clear BK374
            clear BK376
            clear HB
            have BK374 := n0_
            have BK376 := n1_
            have HB := n2_
            clear n0_ n1_ n2_
            (try clear hb)
            (try clear hb2)
            (try clear hk)
            (try clear hi)
            refine hK.out _ _ ⟨(blk_cell BK376.out 0).trans rfl, (blk_cell BK376.out 1).trans rfl, (blk_cell BK376.out 2).trans rfl, (blk_cell BK376.out 3).trans rfl, (blk_cell BK376.out 4).trans rfl, (blk_cell BK374.out 0).trans rfl, (blk_cell BK374.out 1).trans rfl, (blk_cell BK374.out 2).trans rfl, ((HB.out.cell (World.block_lt_of_cell? w _ hw378_0)).trans hw378_0), ((HB.out.cell (World.block_lt_of_cell? w _ hw380_0)).trans hw380_0), ((HB.out.cell (World.block_lt_of_cell? w _ hw381_0)).trans hw381_0), ((HB.out.cell (World.block_lt_of_cell? w _ hw381_1)).trans hw381_1), ((HB.out.cell (World.block_lt_of_cell? w _ hw381_2)).trans hw381_2), ((HB.out.cell (World.block_lt_of_cell? w _ hw381_3)).trans hw381_3), ((HB.out.cell (World.block_lt_of_cell? w _ hw381_4)).trans hw381_4)⟩ (fun hHeld => ?_)
            clear hK K
            refine norm_ (a' := ?_) ?_ ?_
            rotate_left
            ·show Act.put _ (some 36) _ = _
             simp only [Act.put, List.setIfInBounds_toArray, List.set_cons_zero, List.set_cons_succ, i64_w, i32_w]
             rfl
            refine pure_ (i := 11) (N := some 37) (v := ?_) (a' := ?_) #[true, true, true, true, true, true, true, true, true, true, true, true, false, false, false, false, false, false, false, false, false, false, false, false, false, false] rfl rfl (any_of HT_.out (by kernel_rfl)) (fun _ _ _ h => h) (Or.inl ⟨by rfl, ?_⟩) ?_ ?_
            rotate_left
            ·intro w'
             go_simp
             with_reducible rfl
            rotate_left
            ·simp only [Act.put, List.setIfInBounds_toArray, List.set_cons_zero, List.set_cons_succ, i64_w, i32_w]
             rfl
            refine pure_ (i := 12) (N := some 38) (v := ?_) (a' := ?_) #[true, true, true, true, true, true, true, true, true, true, true, true, true, false, false, false, false, false, false, false, false, false, false, false, false, false] rfl rfl (any_of HT_.out (by kernel_rfl)) (fun _ _ _ h => h) (Or.inl ⟨by rfl, ?_⟩) ?_ ?_
            rotate_left
            ·intro w'
             go_simp
             with_reducible rfl
            rotate_left
            ·simp only [Act.put, List.setIfInBounds_toArray, List.set_cons_zero, List.set_cons_succ, i64_w, i32_w]
             rfl
            refine pure_ (i := 13) (N := some 39) (v := ?_) (a' := ?_) #[true, true, true, true, true, true, true, true, true, true, true, true, true, true, false, false, false, false, false, false, false, false, false, false, false, false] rfl rfl (any_of HT_.out (by kernel_rfl)) (fun _ _ _ h => h) (Or.inl ⟨by rfl, ?_⟩) ?_ ?_
            rotate_left
            ·intro w'
             go_simp
             with_reducible rfl
            rotate_left
            ·simp only [Act.put, List.setIfInBounds_toArray, List.set_cons_zero, List.set_cons_succ, i64_w, i32_w]
             rfl
            refine pure_ (i := 14) (N := some 40) (v := ?_) (a' := ?_) #[true, true, true, true, true, true, true, true, true, true, true, true, true, true, true, false, false, false, false, false, false, false, false, false, false, false] rfl rfl (any_of HT_.out (by kernel_rfl)) (fun _ _ _ h => h) (Or.inl ⟨by rfl, ?_⟩) ?_ ?_
            rotate_left
            ·intro w'
             go_simp
             with_reducible rfl
            rotate_left
            ·simp only [Act.put, List.setIfInBounds_toArray, List.set_cons_zero, List.set_cons_succ, i64_w, i32_w]
             rfl
            refine pure_ (i := 15) (N := some 41) (v := ?_) (a' := ?_) #[true, true, true, true, true, true, true, true, true, true, true, true, true, true, true, true, false, false, false, false, false, false, false, false, false, false] rfl rfl (any_of HT_.out (by kernel_rfl)) (fun _ _ _ h => h) (Or.inl ⟨by rfl, ?_⟩) ?_ ?_
            rotate_left
            ·intro w'
             go_simp
             with_reducible rfl
            rotate_left
            ·simp only [Act.put, List.setIfInBounds_toArray, List.set_cons_zero, List.set_cons_succ, i64_w, i32_w]
             rfl
            refine pure_ (i := 17) (N := some 43) (v := ?_) (a' := ?_) #[true, true, true, true, true, true, true, true, true, true, true, true, true, true, true, true, false, true, false, false, false, false, false, false, false, false] rfl rfl (any_of HT_.out (by kernel_rfl)) (fun _ _ _ h => h) (Or.inl ⟨by rfl, ?_⟩) ?_ ?_
            rotate_left
            ·intro w'
             go_simp
             with_reducible rfl
            rotate_left
            ·simp only [Act.put, List.setIfInBounds_toArray, List.set_cons_zero, List.set_cons_succ, i64_w, i32_w]
             rfl
            refine take_ (i := 16) (N := some 42) (v := ?_) (a' := ?_) #[true, true, true, true, true, true, true, true, true, true, true, true, true, true, true, true, true, true, false, false, false, false, false, false, false, false] rfl rfl (take_ofW HT_.out HW_.out (by kernel_rfl)) (fun _ _ _ h => h) (Or.inl ⟨by rfl, ?_⟩) hHeld ?_ ?_
            rotate_left
            ·rintro w' ⟨s0, s1, s2, s3, s4, s5, s6, s7, s8, s9, s10, s11, s12, s13, s14⟩
             go_simp
             with_reducible rfl
            rotate_left
            ·simp only [Act.put, List.setIfInBounds_toArray, List.set_cons_zero, List.set_cons_succ, i64_w, i32_w]
             rfl
            refine take_ (i := 18) (N := some 44) (v := ?_) (a' := ?_) #[true, true, true, true, true, true, true, true, true, true, true, true, true, true, true, true, true, true, true, false, false, false, false, false, false, false] rfl rfl (take_ofW HT_.out HW_.out (by kernel_rfl)) (fun _ _ _ h => h) (Or.inl ⟨by rfl, ?_⟩) hHeld ?_ ?_
            rotate_left
            ·rintro w' ⟨s0, s1, s2, s3, s4, s5, s6, s7, s8, s9, s10, s11, s12, s13, s14⟩
             go_simp
             with_reducible rfl
            rotate_left
            ·simp only [Act.put, List.setIfInBounds_toArray, List.set_cons_zero, List.set_cons_succ, i64_w, i32_w]
             rfl
            refine pure_ (i := 19) (N := some 45) (v := ?_) (a' := ?_) #[true, true, true, true, true, true, true, true, true, true, true, true, true, true, true, true, true, true, true, true, false, false, false, false, false, false] rfl rfl (any_of HT_.out (by kernel_rfl)) (fun _ _ _ h => h) (Or.inl ⟨by rfl, ?_⟩) ?_ ?_
            rotate_left
            ·intro w'
             go_simp
             with_reducible rfl
            rotate_left
            ·simp only [Act.put, List.setIfInBounds_toArray, List.set_cons_zero, List.set_cons_succ, i64_w, i32_w]
             rfl
            refine take_ (i := 20) (N := some 46) (v := ?_) (a' := ?_) #[true, true, true, true, true, true, true, true, true, true, true, true, true, true, true, true, true, true, true, true, true, false, false, false, false, false] rfl rfl (take_ofW HT_.out HW_.out (by kernel_rfl)) (fun _ _ _ h => h) (Or.inl ⟨by rfl, ?_⟩) hHeld ?_ ?_
            rotate_left
            ·rintro w' ⟨s0, s1, s2, s3, s4, s5, s6, s7, s8, s9, s10, s11, s12, s13, s14⟩
             go_simp
             with_reducible rfl
            rotate_left
            ·simp only [Act.put, List.setIfInBounds_toArray, List.set_cons_zero, List.set_cons_succ, i64_w, i32_w]
             rfl
            refine pure_ (i := 21) (N := some 47) (v := ?_) (a' := ?_) #[true, true, true, true, true, true, true, true, true, true, true, true, true, true, true, true, true, true, true, true, true, true, false, false, false, false] rfl rfl (any_of HT_.out (by kernel_rfl)) (fun _ _ _ h => h) (Or.inl ⟨by rfl, ?_⟩) ?_ ?_
            rotate_left
            ·intro w'
             go_simp
             with_reducible rfl
            rotate_left
            ·simp only [Act.put, List.setIfInBounds_toArray, List.set_cons_zero, List.set_cons_succ, i64_w, i32_w]
             rfl
            refine pure_ (i := 22) (N := some 48) (v := ?_) (a' := ?_) #[true, true, true, true, true, true, true, true, true, true, true, true, true, true, true, true, true, true, true, true, true, true, true, false, false, false] rfl rfl (any_of HT_.out (by kernel_rfl)) (fun _ _ _ h => h) (Or.inl ⟨by rfl, ?_⟩) ?_ ?_
            rotate_left
            ·intro w'
             go_simp
             with_reducible rfl
            rotate_left
            ·simp only [Act.put, List.setIfInBounds_toArray, List.set_cons_zero, List.set_cons_succ, i64_w, i32_w]
             rfl
            refine take_ (i := 23) (N := some 49) (v := ?_) (a' := ?_) #[true, true, true, true, true, true, true, true, true, true, true, true, true, true, true, true, true, true, true, true, true, true, true, true, false, false] rfl rfl (take_ofW HT_.out HW_.out (by kernel_rfl)) (fun _ _ _ h => h) (Or.inl ⟨by rfl, ?_⟩) hHeld ?_ ?_
            rotate_left
            ·rintro w' ⟨s0, s1, s2, s3, s4, s5, s6, s7, s8, s9, s10, s11, s12, s13, s14⟩
             go_simp
             with_reducible rfl
            rotate_left
            ·simp only [Act.put, List.setIfInBounds_toArray, List.set_cons_zero, List.set_cons_succ, i64_w, i32_w]
             rfl
            refine one_ (i := 24) (N := some 50) #[true, true, true, true, true, true, true, true, true, true, true, true, true, true, true, true, true, true, true, true, true, true, true, true, true, false] rfl rfl (one_of HT_.out (by kernel_rfl)) (by decide) (fun K hK => ?_)
            refine goes_ Tryz.func76 (by kernel_rfl) rfl #[.int .i64 ((rd_T54 l0_1 (rd ((rd_T54 l0_1 a1).f2) 0)).f0)] (by rfl) rfl rfl (by (try simp only [List.map_toArray, List.map_cons, List.map_nil]); first | done | rfl | (simp only [List.length_drop, List.length_take]; rfl)) ?_
            with_reducible refine (chart_history.calls ((rd_T54 l0_1 (rd ((rd_T54 l0_1 a1).f2) 0)).f0) t382 _ A27.out).mono ?_
            rintro e w' ⟨rfl, ⟨nd, rfl⟩⟩
            refine ⟨_, rfl, ?_⟩
            refine hK.out _ _ ⟨(blk_cell BK376.out 0).trans rfl, (blk_cell BK376.out 1).trans rfl, (blk_cell BK376.out 2).trans rfl, (blk_cell BK376.out 3).trans rfl, (blk_cell BK376.out 4).trans rfl, (blk_cell BK374.out 0).trans rfl, (blk_cell BK374.out 1).trans rfl, (blk_cell BK374.out 2).trans rfl, ((HB.out.cell (World.block_lt_of_cell? w _ hw378_0)).trans hw378_0), ((HB.out.cell (World.block_lt_of_cell? w _ hw380_0)).trans hw380_0), ((HB.out.cell (World.block_lt_of_cell? w _ hw381_0)).trans hw381_0), ((HB.out.cell (World.block_lt_of_cell? w _ hw381_1)).trans hw381_1), ((HB.out.cell (World.block_lt_of_cell? w _ hw381_2)).trans hw381_2), ((HB.out.cell (World.block_lt_of_cell? w _ hw381_3)).trans hw381_3), ((HB.out.cell (World.block_lt_of_cell? w _ hw381_4)).trans hw381_4)⟩ (fun hHeld => ?_)
            clear hK K
            refine norm_ (a' := ?_) ?_ ?_
            rotate_left
            ·show Act.put _ (some 50) _ = _
             simp only [Act.put, List.setIfInBounds_toArray, List.set_cons_zero, List.set_cons_succ, i64_w, i32_w]
             rfl
            refine pure_ (i := 25) (N := some 51) (v := ?_) (a' := ?_) #[true, true, true, true, true, true, true, true, true, true, true, true, true, true, true, true, true, true, true, true, true, true, true, true, true, true] rfl rfl (any_of HT_.out (by kernel_rfl)) (fun _ _ _ h => h) (Or.inl ⟨by rfl, ?_⟩) ?_ ?_
            rotate_left
            ·intro w'
             go_simp
             with_reducible rfl
            rotate_left
            ·simp only [Act.put, List.setIfInBounds_toArray, List.set_cons_zero, List.set_cons_succ, i64_w, i32_w]
             rfl
            refine done_ (done_of HT_.out (by kernel_rfl)) ?_
            try go_wp2
            go_meet
            case rel => exact ⟨_, (t382), (by first | rfl | (simp; done) | (simp [*]; done)), H', ⟨by have := HJ4.out; first | omega | exact Nat.le_refl _⟩, ⟨by (with_reducible repeat (first | refine blk_drewN ?_ _ | refine blk_drew ?_ | refine blk_alloc ?_ _)); exact BK374.out⟩, ⟨by (with_reducible repeat (first | refine blk_drewN ?_ _ | refine blk_drew ?_ | refine blk_alloc ?_ _)); exact BK376.out⟩, ⟨by repeat (first | (with_reducible first | exact HB.out | apply below_alloc | apply pw_below_drewN | apply below_drew1 | refine below_set ?_ GE374.out | refine below_set ?_ GE376.out) | exact HB.out)⟩⟩
           ·rw [if_neg c26] at H
            exact absurd H (by simp)
          ·rw [if_neg c25] at H
           exact absurd H (by simp)
         ·replace c24 := Bool.eq_false_iff.mpr c24
          subst c24
          have H1 : (chart_checker_initial.j1 kj4 a1 true a0_0 l0_1 l0_2 ((rd_T54 l0_1 a1).f0) ((rd_T54 l0_1 a1).f1) ((rd_T54 l0_1 a1).f2) ((rd_T54 l0_1 a1).f3) ((rd_T54 l0_1 a1).f4)) = some r := by rw [if_neg (show ¬ (false = true) by decide)] at H; exact H
          clear H
          have H := H1
          clear H1
          have H' := Aside0.mk H
          clear H
          try go_wp2
          have n0_ := Aside0.mk (blk_drew BK374.out)
          have n1_ := Aside0.mk (blk_drew BK376.out)
          have n2_ := Aside0.mk (below_drew1 HB.out)
          clear BK374
          clear BK376
          clear HB
          have BK374 := n0_
          have BK376 := n1_
          have HB := n2_
          clear n0_ n1_ n2_
          have p378 : 0 ≤ (0 : Int) := (by omega)
          have q378 : 0 < (((rd_T54 l0_1 a1).f2).length : Int) := of_decide_eq_true (by first | (with_reducible assumption) | assumption)
          obtain ⟨ad378, e378, hx378_0⟩ := Kd.at_int HR375_2.out 0 p378 q378
          have hw378_0 := hx378_0
          (try rw [show ((0 : Int)).toNat = 0 from rfl] at hw378_0)
          (try rw [show 0 * 1 = 0 from rfl] at hw378_0)
          (try rw [Addr.add_zero'] at hw378_0)
          cases e378
          have qi378 : (0 < ((rd_T54 l0_1 a1).f2).length) = True := eq_true (by omega)
          (try rw [show ((0 : Int)).toNat = 0 from rfl] at hx378_0)
          (try rw [Addr.add_zero'] at hx378_0)
          replace hx378_0 := (HB.out.cell (World.block_lt_of_cell? w _ hx378_0)).trans hx378_0
          replace p378 := eq_true p378
          replace q378 := eq_true q378
          refine start_ (n := 26) (S := fun w' => w'.cell? ⟨gb376, 0, none⟩ = some (.int .i64 ((rd_T54 l0_1 a1).f0)) ∧ w'.cell? ⟨gb376, 1, none⟩ = some (.int .i64 ((rd_T54 l0_1 a1).f1)) ∧ w'.cell? ⟨gb376, 2, none⟩ = some (.slice (some ad378) ((rd_T54 l0_1 a1).f2).length c375_2) ∧ w'.cell? ⟨gb376, 3, none⟩ = some (.slice A375_3 ((rd_T54 l0_1 a1).f3).length c375_3) ∧ w'.cell? ⟨gb376, 4, none⟩ = some (.slice A375_4 ((rd_T54 l0_1 a1).f4).length c375_4) ∧ w'.cell? ⟨gb374, 0, none⟩ = some (.int .i64 a0_0) ∧ w'.cell? ⟨gb374, 1, none⟩ = some (.slice (some ad375) l0_1.length c0_1) ∧ w'.cell? ⟨gb374, 2, none⟩ = some (.slice A0_2 l0_2.length c0_2) ∧ w'.cell? ad378 = some (.int .i64 (rd ((rd_T54 l0_1 a1).f2) 0))) (ds := []) #[false, false, false, false, false, false, false, false, false, false, false, false, false, false, false, false, false, false, false, false, false, false, false, false, false, false] (by kernel_rfl) rfl rfl ⟨(blk_cell BK376.out 0).trans rfl, (blk_cell BK376.out 1).trans rfl, (blk_cell BK376.out 2).trans rfl, (blk_cell BK376.out 3).trans rfl, (blk_cell BK376.out 4).trans rfl, (blk_cell BK374.out 0).trans rfl, (blk_cell BK374.out 1).trans rfl, (blk_cell BK374.out 2).trans rfl, ((HB.out.cell (World.block_lt_of_cell? w _ hw378_0)).trans hw378_0)⟩ (fun hHeld => ?_); refine with_tabW chart_checker_initial.tab4 chart_checker_initial.bits4 (fun HT_ HW_ => ?_)
          generalize wc.drew = w30 at BK374 BK376 HB hx378_0 hHeld ⊢
          refine pure_ (i := 0) (N := some 26) (v := ?_) (a' := ?_) #[true, false, false, false, false, false, false, false, false, false, false, false, false, false, false, false, false, false, false, false, false, false, false, false, false, false] rfl rfl (any_of HT_.out (by kernel_rfl)) (fun _ _ _ h => h) (Or.inl ⟨by rfl, ?_⟩) ?_ ?_
          rotate_left
          ·intro w'
           go_simp
           with_reducible rfl
          rotate_left
          ·simp only [Act.put, List.setIfInBounds_toArray, List.set_cons_zero, List.set_cons_succ, i64_w, i32_w]
           rfl
          refine take_ (i := 1) (N := some 27) (v := ?_) (a' := ?_) #[true, true, false, false, false, false, false, false, false, false, false, false, false, false, false, false, false, false, false, false, false, false, false, false, false, false] rfl rfl (take_ofW HT_.out HW_.out (by kernel_rfl)) (fun _ _ _ h => h) (Or.inl ⟨by rfl, ?_⟩) hHeld ?_ ?_
          rotate_left
          ·rintro w' ⟨s0, s1, s2, s3, s4, s5, s6, s7, s8⟩
           go_simp
           with_reducible rfl
          rotate_left
          ·simp only [Act.put, List.setIfInBounds_toArray, List.set_cons_zero, List.set_cons_succ, i64_w, i32_w]
           rfl
          refine pure_ (i := 2) (N := some 28) (v := ?_) (a' := ?_) #[true, true, true, false, false, false, false, false, false, false, false, false, false, false, false, false, false, false, false, false, false, false, false, false, false, false] rfl rfl (any_of HT_.out (by kernel_rfl)) (fun _ _ _ h => h) (Or.inl ⟨by rfl, ?_⟩) ?_ ?_
          rotate_left
          ·intro w'
           go_simp
           with_reducible rfl
          rotate_left
          ·simp only [Act.put, List.setIfInBounds_toArray, List.set_cons_zero, List.set_cons_succ, i64_w, i32_w]
           rfl
          refine pure_ (i := 3) (N := some 29) (v := ?_) (a' := ?_) #[true, true, true, true, false, false, false, false, false, false, false, false, false, false, false, false, false, false, false, false, false, false, false, false, false, false] rfl rfl (any_of HT_.out (by kernel_rfl)) (fun _ _ _ h => h) (Or.inl ⟨by rfl, ?_⟩) ?_ ?_
          rotate_left
          ·intro w'
           go_simp
           with_reducible rfl
          rotate_left
          ·simp only [Act.put, List.setIfInBounds_toArray, List.set_cons_zero, List.set_cons_succ, i64_w, i32_w]
           rfl
          refine pure_ (i := 4) (N := some 30) (v := ?_) (a' := ?_) #[true, true, true, true, true, false, false, false, false, false, false, false, false, false, false, false, false, false, false, false, false, false, false, false, false, false] rfl rfl (any_of HT_.out (by kernel_rfl)) (fun _ _ _ h => h) (Or.inl ⟨by rfl, ?_⟩) ?_ ?_
          rotate_left
          ·intro w'
           go_simp
           with_reducible rfl
          rotate_left
          ·simp only [Act.put, List.setIfInBounds_toArray, List.set_cons_zero, List.set_cons_succ, i64_w, i32_w]
           rfl
          refine pure_ (i := 6) (N := some 32) (v := ?_) (a' := ?_) #[true, true, true, true, true, false, true, false, false, false, false, false, false, false, false, false, false, false, false, false, false, false, false, false, false, false] rfl rfl (any_of HT_.out (by kernel_rfl)) (fun _ _ _ h => h) (Or.inl ⟨by rfl, ?_⟩) ?_ ?_
          rotate_left
          ·intro w'
           go_simp
           with_reducible rfl
          rotate_left
          ·simp only [Act.put, List.setIfInBounds_toArray, List.set_cons_zero, List.set_cons_succ, i64_w, i32_w]
           rfl
          refine take_ (i := 5) (N := some 31) (v := ?_) (a' := ?_) #[true, true, true, true, true, true, true, false, false, false, false, false, false, false, false, false, false, false, false, false, false, false, false, false, false, false] rfl rfl (take_ofW HT_.out HW_.out (by kernel_rfl)) (fun _ _ _ h => h) (Or.inl ⟨by rfl, ?_⟩) hHeld ?_ ?_
          rotate_left
          ·rintro w' ⟨s0, s1, s2, s3, s4, s5, s6, s7, s8⟩
           go_simp
           with_reducible rfl
          rotate_left
          ·simp only [Act.put, List.setIfInBounds_toArray, List.set_cons_zero, List.set_cons_succ, i64_w, i32_w]
           rfl
          refine take_ (i := 7) (N := some 33) (v := ?_) (a' := ?_) #[true, true, true, true, true, true, true, true, false, false, false, false, false, false, false, false, false, false, false, false, false, false, false, false, false, false] rfl rfl (take_ofW HT_.out HW_.out (by kernel_rfl)) (fun _ _ _ h => h) (Or.inl ⟨by rfl, ?_⟩) hHeld ?_ ?_
          rotate_left
          ·rintro w' ⟨s0, s1, s2, s3, s4, s5, s6, s7, s8⟩
           go_simp
           with_reducible rfl
          rotate_left
          ·simp only [Act.put, List.setIfInBounds_toArray, List.set_cons_zero, List.set_cons_succ, i64_w, i32_w]
           rfl
          refine pure_ (i := 8) (N := some 34) (v := ?_) (a' := ?_) #[true, true, true, true, true, true, true, true, true, false, false, false, false, false, false, false, false, false, false, false, false, false, false, false, false, false] rfl rfl (any_of HT_.out (by kernel_rfl)) (fun _ _ _ h => h) (Or.inl ⟨by rfl, ?_⟩) ?_ ?_
          rotate_left
          ·intro w'
           go_simp
           with_reducible rfl
          rotate_left
          ·simp only [Act.put, List.setIfInBounds_toArray, List.set_cons_zero, List.set_cons_succ, i64_w, i32_w]
           rfl
          refine take_ (i := 9) (N := some 35) (v := ?_) (a' := ?_) #[true, true, true, true, true, true, true, true, true, true, false, false, false, false, false, false, false, false, false, false, false, false, false, false, false, false] rfl rfl (take_ofW HT_.out HW_.out (by kernel_rfl)) (fun _ _ _ h => h) (Or.inl ⟨by rfl, ?_⟩) hHeld ?_ ?_
          rotate_left
          ·rintro w' ⟨s0, s1, s2, s3, s4, s5, s6, s7, s8⟩
           go_simp
           with_reducible rfl
          rotate_left
          ·simp only [Act.put, List.setIfInBounds_toArray, List.set_cons_zero, List.set_cons_succ, i64_w, i32_w]
           rfl
          refine one_ (i := 10) (N := some 36) #[true, true, true, true, true, true, true, true, true, true, true, false, false, false, false, false, false, false, false, false, false, false, false, false, false, false] rfl rfl (one_of HT_.out (by kernel_rfl)) (by decide) (fun K hK => ?_)
          refine goes_ Tryz.func104 (by kernel_rfl) rfl #[.agg #[.int .i64 a0_0, .slice (some ad375) l0_1.length c0_1, .slice A0_2 l0_2.length c0_2], .int .i64 (rd ((rd_T54 l0_1 a1).f2) 0)] (by rfl) rfl rfl (by (try simp only [List.map_toArray, List.map_cons, List.map_nil]); first | done | rfl | (simp only [List.length_drop, List.length_take]; rfl)) ?_
          with_reducible refine (chart_checker_there.calls a0_0 _ _ l0_1 _ _ l0_2 (rd ((rd_T54 l0_1 a1).f2) 0) false _ ?side1 ?side2 ?side3 ?side4 A23.out).mono ?_
          (case side1 => repeat (first | exact (Kd.C_below HR0_1.out HB.out) | (with_reducible refine Kd.C_alloc ?_ _) | (with_reducible refine Kd.C_drewN ?_ _) | (with_reducible refine Kd.C_drew ?_)))
          (case side2 => exact HC0_1.out)
          (case side3 => repeat (first | exact (Kd.C_below HR0_2.out HB.out) | (with_reducible refine Kd.C_alloc ?_ _) | (with_reducible refine Kd.C_drewN ?_ _) | (with_reducible refine Kd.C_drew ?_)))
          (case side4 => exact HC0_2.out)
          rintro e w31 ⟨rfl, hb⟩
          refine ⟨_, rfl, ?_⟩
          have n0_ := Aside0.mk (blk_below (g := gb374) (o := .cells #[.int .i64 a0_0, .slice (some ad375) l0_1.length c0_1, .slice A0_2 l0_2.length c0_2] 124 (0, 0)) (by (with_reducible repeat (first | refine blk_drewN ?_ _ | refine blk_drew ?_ | refine blk_alloc ?_ _)); exact BK374.out) hb)
          have n1_ := Aside0.mk (blk_below (g := gb376) (o := .cells #[.int .i64 ((rd_T54 l0_1 a1).f0), .int .i64 ((rd_T54 l0_1 a1).f1), .slice (some ad378) ((rd_T54 l0_1 a1).f2).length c375_2, .slice A375_3 ((rd_T54 l0_1 a1).f3).length c375_3, .slice A375_4 ((rd_T54 l0_1 a1).f4).length c375_4] 54 (0, 0)) (by (with_reducible repeat (first | refine blk_drewN ?_ _ | refine blk_drew ?_ | refine blk_alloc ?_ _)); exact BK376.out) hb)
          have n2_ := Aside0.mk (below_step (by repeat (first | (with_reducible first | exact HB.out | apply below_alloc | apply pw_below_drewN | apply below_drew1 | refine below_set ?_ GE374.out | refine below_set ?_ GE376.out) | exact HB.out)) hb)
          clear BK374
          clear BK376
          clear HB
          have BK374 := n0_
          have BK376 := n1_
          have HB := n2_
          clear n0_ n1_ n2_
          (try clear hb)
          (try clear hb2)
          (try clear hk)
          (try clear hi)
          refine hK.out _ _ ⟨(blk_cell BK376.out 0).trans rfl, (blk_cell BK376.out 1).trans rfl, (blk_cell BK376.out 2).trans rfl, (blk_cell BK376.out 3).trans rfl, (blk_cell BK376.out 4).trans rfl, (blk_cell BK374.out 0).trans rfl, (blk_cell BK374.out 1).trans rfl, (blk_cell BK374.out 2).trans rfl, ((HB.out.cell (World.block_lt_of_cell? w _ hw378_0)).trans hw378_0)⟩ (fun hHeld => ?_)
          clear hK K
          refine norm_ (a' := ?_) ?_ ?_
          rotate_left
          ·show Act.put _ (some 36) _ = _
           simp only [Act.put, List.setIfInBounds_toArray, List.set_cons_zero, List.set_cons_succ, i64_w, i32_w]
           rfl
          refine pure_ (i := 11) (N := some 37) (v := ?_) (a' := ?_) #[true, true, true, true, true, true, true, true, true, true, true, true, false, false, false, false, false, false, false, false, false, false, false, false, false, false] rfl rfl (any_of HT_.out (by kernel_rfl)) (fun _ _ _ h => h) (Or.inl ⟨by rfl, ?_⟩) ?_ ?_
          rotate_left
          ·intro w'
           go_simp
           with_reducible rfl
          rotate_left
          ·simp only [Act.put, List.setIfInBounds_toArray, List.set_cons_zero, List.set_cons_succ, i64_w, i32_w]
           rfl
          refine pure_ (i := 12) (N := some 38) (v := ?_) (a' := ?_) #[true, true, true, true, true, true, true, true, true, true, true, true, true, false, false, false, false, false, false, false, false, false, false, false, false, false] rfl rfl (any_of HT_.out (by kernel_rfl)) (fun _ _ _ h => h) (Or.inl ⟨by rfl, ?_⟩) ?_ ?_
          rotate_left
          ·intro w'
           go_simp
           with_reducible rfl
          rotate_left
          ·simp only [Act.put, List.setIfInBounds_toArray, List.set_cons_zero, List.set_cons_succ, i64_w, i32_w]
           rfl
          refine pure_ (i := 13) (N := some 39) (v := ?_) (a' := ?_) #[true, true, true, true, true, true, true, true, true, true, true, true, true, true, false, false, false, false, false, false, false, false, false, false, false, false] rfl rfl (any_of HT_.out (by kernel_rfl)) (fun _ _ _ h => h) (Or.inl ⟨by rfl, ?_⟩) ?_ ?_
          rotate_left
          ·intro w'
           go_simp
           with_reducible rfl
          rotate_left
          ·simp only [Act.put, List.setIfInBounds_toArray, List.set_cons_zero, List.set_cons_succ, i64_w, i32_w]
           rfl
          refine pure_ (i := 14) (N := some 40) (v := undef) (a' := ?_) #[true, true, true, true, true, true, true, true, true, true, true, true, true, true, true, false, false, false, false, false, false, false, false, false, false, false] rfl rfl (any_of HT_.out (by kernel_rfl)) (fun _ _ _ h => h) (Or.inr ⟨by rfl, rfl⟩) ?_ ?_
          rotate_left
          ·simp only [Act.put, List.setIfInBounds_toArray, List.set_cons_zero, List.set_cons_succ, i64_w, i32_w]
           rfl
          refine pure_ (i := 15) (N := some 41) (v := undef) (a' := ?_) #[true, true, true, true, true, true, true, true, true, true, true, true, true, true, true, true, false, false, false, false, false, false, false, false, false, false] rfl rfl (any_of HT_.out (by kernel_rfl)) (fun _ _ _ h => h) (Or.inr ⟨by rfl, rfl⟩) ?_ ?_
          rotate_left
          ·simp only [Act.put, List.setIfInBounds_toArray, List.set_cons_zero, List.set_cons_succ, i64_w, i32_w]
           rfl
          refine pure_ (i := 16) (N := some 42) (v := undef) (a' := ?_) #[true, true, true, true, true, true, true, true, true, true, true, true, true, true, true, true, true, false, false, false, false, false, false, false, false, false] rfl rfl (any_of HT_.out (by kernel_rfl)) (fun _ _ _ h => h) (Or.inr ⟨by rfl, rfl⟩) ?_ ?_
          rotate_left
          ·simp only [Act.put, List.setIfInBounds_toArray, List.set_cons_zero, List.set_cons_succ, i64_w, i32_w]
           rfl
          refine pure_ (i := 17) (N := some 43) (v := undef) (a' := ?_) #[true, true, true, true, true, true, true, true, true, true, true, true, true, true, true, true, true, true, false, false, false, false, false, false, false, false] rfl rfl (any_of HT_.out (by kernel_rfl)) (fun _ _ _ h => h) (Or.inr ⟨by rfl, rfl⟩) ?_ ?_
          rotate_left
          ·simp only [Act.put, List.setIfInBounds_toArray, List.set_cons_zero, List.set_cons_succ, i64_w, i32_w]
           rfl
          refine pure_ (i := 18) (N := some 44) (v := undef) (a' := ?_) #[true, true, true, true, true, true, true, true, true, true, true, true, true, true, true, true, true, true, true, false, false, false, false, false, false, false] rfl rfl (any_of HT_.out (by kernel_rfl)) (fun _ _ _ h => h) (Or.inr ⟨by rfl, rfl⟩) ?_ ?_
          rotate_left
          ·simp only [Act.put, List.setIfInBounds_toArray, List.set_cons_zero, List.set_cons_succ, i64_w, i32_w]
           rfl
          refine pure_ (i := 19) (N := some 45) (v := undef) (a' := ?_) #[true, true, true, true, true, true, true, true, true, true, true, true, true, true, true, true, true, true, true, true, false, false, false, false, false, false] rfl rfl (any_of HT_.out (by kernel_rfl)) (fun _ _ _ h => h) (Or.inr ⟨by rfl, rfl⟩) ?_ ?_
          rotate_left
          ·simp only [Act.put, List.setIfInBounds_toArray, List.set_cons_zero, List.set_cons_succ, i64_w, i32_w]
           rfl
          refine pure_ (i := 20) (N := some 46) (v := undef) (a' := ?_) #[true, true, true, true, true, true, true, true, true, true, true, true, true, true, true, true, true, true, true, true, true, false, false, false, false, false] rfl rfl (any_of HT_.out (by kernel_rfl)) (fun _ _ _ h => h) (Or.inr ⟨by rfl, rfl⟩) ?_ ?_
          rotate_left
          ·simp only [Act.put, List.setIfInBounds_toArray, List.set_cons_zero, List.set_cons_succ, i64_w, i32_w]
           rfl
          refine pure_ (i := 21) (N := some 47) (v := undef) (a' := ?_) #[true, true, true, true, true, true, true, true, true, true, true, true, true, true, true, true, true, true, true, true, true, true, false, false, false, false] rfl rfl (any_of HT_.out (by kernel_rfl)) (fun _ _ _ h => h) (Or.inr ⟨by rfl, rfl⟩) ?_ ?_
          rotate_left
          ·simp only [Act.put, List.setIfInBounds_toArray, List.set_cons_zero, List.set_cons_succ, i64_w, i32_w]
           rfl
          refine pure_ (i := 22) (N := some 48) (v := undef) (a' := ?_) #[true, true, true, true, true, true, true, true, true, true, true, true, true, true, true, true, true, true, true, true, true, true, true, false, false, false] rfl rfl (any_of HT_.out (by kernel_rfl)) (fun _ _ _ h => h) (Or.inr ⟨by rfl, rfl⟩) ?_ ?_
          rotate_left
          ·simp only [Act.put, List.setIfInBounds_toArray, List.set_cons_zero, List.set_cons_succ, i64_w, i32_w]
           rfl
          refine pure_ (i := 23) (N := some 49) (v := undef) (a' := ?_) #[true, true, true, true, true, true, true, true, true, true, true, true, true, true, true, true, true, true, true, true, true, true, true, true, false, false] rfl rfl (any_of HT_.out (by kernel_rfl)) (fun _ _ _ h => h) (Or.inr ⟨by rfl, rfl⟩) ?_ ?_
          rotate_left
          ·simp only [Act.put, List.setIfInBounds_toArray, List.set_cons_zero, List.set_cons_succ, i64_w, i32_w]
           rfl
          refine pure_ (i := 24) (N := some 50) (v := undef) (a' := ?_) #[true, true, true, true, true, true, true, true, true, true, true, true, true, true, true, true, true, true, true, true, true, true, true, true, true, false] rfl rfl (any_of HT_.out (by kernel_rfl)) (fun _ _ _ h => h) (Or.inr ⟨by rfl, rfl⟩) ?_ ?_
          rotate_left
          ·simp only [Act.put, List.setIfInBounds_toArray, List.set_cons_zero, List.set_cons_succ, i64_w, i32_w]
           rfl
          refine pure_ (i := 25) (N := some 51) (v := ?_) (a' := ?_) #[true, true, true, true, true, true, true, true, true, true, true, true, true, true, true, true, true, true, true, true, true, true, true, true, true, true] rfl rfl (any_of HT_.out (by kernel_rfl)) (fun _ _ _ h => h) (Or.inl ⟨by rfl, ?_⟩) ?_ ?_
          rotate_left
          ·intro w'
           go_simp
           with_reducible rfl
          rotate_left
          ·simp only [Act.put, List.setIfInBounds_toArray, List.set_cons_zero, List.set_cons_succ, i64_w, i32_w]
           rfl
          refine done_ (done_of HT_.out (by kernel_rfl)) ?_
          try go_wp2
          go_meet
          case rel => exact ⟨_, (true), (by first | rfl | (simp; done) | (simp [*]; done)), H', ⟨by have := HJ4.out; first | omega | exact Nat.le_refl _⟩, ⟨by (with_reducible repeat (first | refine blk_drewN ?_ _ | refine blk_drew ?_ | refine blk_alloc ?_ _)); exact BK374.out⟩, ⟨by (with_reducible repeat (first | refine blk_drewN ?_ _ | refine blk_drew ?_ | refine blk_alloc ?_ _)); exact BK376.out⟩, ⟨by repeat (first | (with_reducible first | exact HB.out | apply below_alloc | apply pw_below_drewN | apply below_drew1 | refine below_set ?_ GE374.out | refine below_set ?_ GE376.out) | exact HB.out)⟩⟩
        ·rw [if_neg c22] at H
         exact absurd H (by simp)
       ·rw [if_neg c21] at H
        have c21b0 : ((((rd_T54 l0_1 a1).f2).length : Int) == 1) = false := beq_eq_false_iff_ne.mpr c21
        have c21b1 : ((((rd_T54 l0_1 a1).f2).length : Int) != 1) = true := bne_iff_ne.mpr c21
        (first | rw [c21b0] | (simp only [i64_w, i32_w]; rw [c21b0]) | skip)
        have H' := Aside0.mk H
        clear H
        try go_wp2
        have n0_ := Aside0.mk (blk_drew BK374.out)
        have n1_ := Aside0.mk (blk_drew BK376.out)
        have n2_ := Aside0.mk (below_drew1 HB.out)
        clear BK374
        clear BK376
        clear HB
        have BK374 := n0_
        have BK376 := n1_
        have HB := n2_
        clear n0_ n1_ n2_
        refine start_ (n := 26) (S := fun w' => w'.cell? ⟨gb376, 0, none⟩ = some (.int .i64 ((rd_T54 l0_1 a1).f0)) ∧ w'.cell? ⟨gb376, 1, none⟩ = some (.int .i64 ((rd_T54 l0_1 a1).f1)) ∧ w'.cell? ⟨gb376, 2, none⟩ = some (.slice A375_2 ((rd_T54 l0_1 a1).f2).length c375_2) ∧ w'.cell? ⟨gb376, 3, none⟩ = some (.slice A375_3 ((rd_T54 l0_1 a1).f3).length c375_3) ∧ w'.cell? ⟨gb376, 4, none⟩ = some (.slice A375_4 ((rd_T54 l0_1 a1).f4).length c375_4)) (ds := []) #[false, false, false, false, false, false, false, false, false, false, false, false, false, false, false, false, false, false, false, false, false, false, false, false, false, false] (by kernel_rfl) rfl rfl ⟨(blk_cell BK376.out 0).trans rfl, (blk_cell BK376.out 1).trans rfl, (blk_cell BK376.out 2).trans rfl, (blk_cell BK376.out 3).trans rfl, (blk_cell BK376.out 4).trans rfl⟩ (fun hHeld => ?_); refine with_tabW chart_checker_initial.tab4 chart_checker_initial.bits4 (fun HT_ HW_ => ?_)
        generalize wc.drew = w32 at BK374 BK376 HB hHeld ⊢
        refine pure_ (i := 0) (N := some 26) (v := ?_) (a' := ?_) #[true, false, false, false, false, false, false, false, false, false, false, false, false, false, false, false, false, false, false, false, false, false, false, false, false, false] rfl rfl (any_of HT_.out (by kernel_rfl)) (fun _ _ _ h => h) (Or.inl ⟨by rfl, ?_⟩) ?_ ?_
        rotate_left
        ·intro w'
         go_simp
         with_reducible rfl
        rotate_left
        ·simp only [Act.put, List.setIfInBounds_toArray, List.set_cons_zero, List.set_cons_succ, i64_w, i32_w]
         rfl
        refine take_ (i := 1) (N := some 27) (v := ?_) (a' := ?_) #[true, true, false, false, false, false, false, false, false, false, false, false, false, false, false, false, false, false, false, false, false, false, false, false, false, false] rfl rfl (take_ofW HT_.out HW_.out (by kernel_rfl)) (fun _ _ _ h => h) (Or.inl ⟨by rfl, ?_⟩) hHeld ?_ ?_
        rotate_left
        ·rintro w' ⟨s0, s1, s2, s3, s4⟩
         go_simp
         with_reducible rfl
        rotate_left
        ·simp only [Act.put, List.setIfInBounds_toArray, List.set_cons_zero, List.set_cons_succ, i64_w, i32_w]
         rfl
        refine pure_ (i := 2) (N := some 28) (v := ?_) (a' := ?_) #[true, true, true, false, false, false, false, false, false, false, false, false, false, false, false, false, false, false, false, false, false, false, false, false, false, false] rfl rfl (any_of HT_.out (by kernel_rfl)) (fun _ _ _ h => h) (Or.inl ⟨by rfl, ?_⟩) ?_ ?_
        rotate_left
        ·intro w'
         go_simp
         with_reducible rfl
        rotate_left
        ·simp only [Act.put, List.setIfInBounds_toArray, List.set_cons_zero, List.set_cons_succ, i64_w, i32_w]
         rfl
        refine pure_ (i := 3) (N := some 29) (v := ?_) (a' := ?_) #[true, true, true, true, false, false, false, false, false, false, false, false, false, false, false, false, false, false, false, false, false, false, false, false, false, false] rfl rfl (any_of HT_.out (by kernel_rfl)) (fun _ _ _ h => h) (Or.inl ⟨by rfl, ?_⟩) ?_ ?_
        rotate_left
        ·intro w'
         go_simp
         with_reducible rfl
        rotate_left
        ·simp only [Act.put, List.setIfInBounds_toArray, List.set_cons_zero, List.set_cons_succ, i64_w, i32_w]
         rfl
        refine pure_ (i := 4) (N := some 30) (v := ?_) (a' := ?_) #[true, true, true, true, true, false, false, false, false, false, false, false, false, false, false, false, false, false, false, false, false, false, false, false, false, false] rfl rfl (any_of HT_.out (by kernel_rfl)) (fun _ _ _ h => h) (Or.inl ⟨by rfl, ?_⟩) ?_ ?_
        rotate_left
        ·intro w'
         go_simp
         with_reducible rfl
        rotate_left
        ·simp only [Act.put, List.setIfInBounds_toArray, List.set_cons_zero, List.set_cons_succ, i64_w, i32_w]
         rfl
        refine pure_ (i := 5) (N := some 31) (v := undef) (a' := ?_) #[true, true, true, true, true, true, false, false, false, false, false, false, false, false, false, false, false, false, false, false, false, false, false, false, false, false] rfl rfl (any_of HT_.out (by kernel_rfl)) (fun _ _ _ h => h) (Or.inr ⟨by rfl, rfl⟩) ?_ ?_
        rotate_left
        ·simp only [Act.put, List.setIfInBounds_toArray, List.set_cons_zero, List.set_cons_succ, i64_w, i32_w]
         rfl
        refine pure_ (i := 6) (N := some 32) (v := undef) (a' := ?_) #[true, true, true, true, true, true, true, false, false, false, false, false, false, false, false, false, false, false, false, false, false, false, false, false, false, false] rfl rfl (any_of HT_.out (by kernel_rfl)) (fun _ _ _ h => h) (Or.inr ⟨by rfl, rfl⟩) ?_ ?_
        rotate_left
        ·simp only [Act.put, List.setIfInBounds_toArray, List.set_cons_zero, List.set_cons_succ, i64_w, i32_w]
         rfl
        refine pure_ (i := 7) (N := some 33) (v := undef) (a' := ?_) #[true, true, true, true, true, true, true, true, false, false, false, false, false, false, false, false, false, false, false, false, false, false, false, false, false, false] rfl rfl (any_of HT_.out (by kernel_rfl)) (fun _ _ _ h => h) (Or.inr ⟨by rfl, rfl⟩) ?_ ?_
        rotate_left
        ·simp only [Act.put, List.setIfInBounds_toArray, List.set_cons_zero, List.set_cons_succ, i64_w, i32_w]
         rfl
        refine pure_ (i := 8) (N := some 34) (v := undef) (a' := ?_) #[true, true, true, true, true, true, true, true, true, false, false, false, false, false, false, false, false, false, false, false, false, false, false, false, false, false] rfl rfl (any_of HT_.out (by kernel_rfl)) (fun _ _ _ h => h) (Or.inr ⟨by rfl, rfl⟩) ?_ ?_
        rotate_left
        ·simp only [Act.put, List.setIfInBounds_toArray, List.set_cons_zero, List.set_cons_succ, i64_w, i32_w]
         rfl
        refine pure_ (i := 9) (N := some 35) (v := undef) (a' := ?_) #[true, true, true, true, true, true, true, true, true, true, false, false, false, false, false, false, false, false, false, false, false, false, false, false, false, false] rfl rfl (any_of HT_.out (by kernel_rfl)) (fun _ _ _ h => h) (Or.inr ⟨by rfl, rfl⟩) ?_ ?_
        rotate_left
        ·simp only [Act.put, List.setIfInBounds_toArray, List.set_cons_zero, List.set_cons_succ, i64_w, i32_w]
         rfl
        refine pure_ (i := 10) (N := some 36) (v := undef) (a' := ?_) #[true, true, true, true, true, true, true, true, true, true, true, false, false, false, false, false, false, false, false, false, false, false, false, false, false, false] rfl rfl (any_of HT_.out (by kernel_rfl)) (fun _ _ _ h => h) (Or.inr ⟨by rfl, rfl⟩) ?_ ?_
        rotate_left
        ·simp only [Act.put, List.setIfInBounds_toArray, List.set_cons_zero, List.set_cons_succ, i64_w, i32_w]
         rfl
        refine pure_ (i := 11) (N := some 37) (v := undef) (a' := ?_) #[true, true, true, true, true, true, true, true, true, true, true, true, false, false, false, false, false, false, false, false, false, false, false, false, false, false] rfl rfl (any_of HT_.out (by kernel_rfl)) (fun _ _ _ h => h) (Or.inr ⟨by rfl, rfl⟩) ?_ ?_
        rotate_left
        ·simp only [Act.put, List.setIfInBounds_toArray, List.set_cons_zero, List.set_cons_succ, i64_w, i32_w]
         rfl
        refine pure_ (i := 12) (N := some 38) (v := ?_) (a' := ?_) #[true, true, true, true, true, true, true, true, true, true, true, true, true, false, false, false, false, false, false, false, false, false, false, false, false, false] rfl rfl (any_of HT_.out (by kernel_rfl)) (fun _ _ _ h => h) (Or.inl ⟨by rfl, ?_⟩) ?_ ?_
        rotate_left
        ·intro w'
         go_simp
         with_reducible rfl
        rotate_left
        ·simp only [Act.put, List.setIfInBounds_toArray, List.set_cons_zero, List.set_cons_succ, i64_w, i32_w]
         rfl
        refine pure_ (i := 13) (N := some 39) (v := ?_) (a' := ?_) #[true, true, true, true, true, true, true, true, true, true, true, true, true, true, false, false, false, false, false, false, false, false, false, false, false, false] rfl rfl (any_of HT_.out (by kernel_rfl)) (fun _ _ _ h => h) (Or.inl ⟨by rfl, ?_⟩) ?_ ?_
        rotate_left
        ·intro w'
         go_simp
         with_reducible rfl
        rotate_left
        ·simp only [Act.put, List.setIfInBounds_toArray, List.set_cons_zero, List.set_cons_succ, i64_w, i32_w]
         rfl
        refine pure_ (i := 14) (N := some 40) (v := undef) (a' := ?_) #[true, true, true, true, true, true, true, true, true, true, true, true, true, true, true, false, false, false, false, false, false, false, false, false, false, false] rfl rfl (any_of HT_.out (by kernel_rfl)) (fun _ _ _ h => h) (Or.inr ⟨by rfl, rfl⟩) ?_ ?_
        rotate_left
        ·simp only [Act.put, List.setIfInBounds_toArray, List.set_cons_zero, List.set_cons_succ, i64_w, i32_w]
         rfl
        refine pure_ (i := 15) (N := some 41) (v := undef) (a' := ?_) #[true, true, true, true, true, true, true, true, true, true, true, true, true, true, true, true, false, false, false, false, false, false, false, false, false, false] rfl rfl (any_of HT_.out (by kernel_rfl)) (fun _ _ _ h => h) (Or.inr ⟨by rfl, rfl⟩) ?_ ?_
        rotate_left
        ·simp only [Act.put, List.setIfInBounds_toArray, List.set_cons_zero, List.set_cons_succ, i64_w, i32_w]
         rfl
        refine pure_ (i := 16) (N := some 42) (v := undef) (a' := ?_) #[true, true, true, true, true, true, true, true, true, true, true, true, true, true, true, true, true, false, false, false, false, false, false, false, false, false] rfl rfl (any_of HT_.out (by kernel_rfl)) (fun _ _ _ h => h) (Or.inr ⟨by rfl, rfl⟩) ?_ ?_
        rotate_left
        ·simp only [Act.put, List.setIfInBounds_toArray, List.set_cons_zero, List.set_cons_succ, i64_w, i32_w]
         rfl
        refine pure_ (i := 17) (N := some 43) (v := undef) (a' := ?_) #[true, true, true, true, true, true, true, true, true, true, true, true, true, true, true, true, true, true, false, false, false, false, false, false, false, false] rfl rfl (any_of HT_.out (by kernel_rfl)) (fun _ _ _ h => h) (Or.inr ⟨by rfl, rfl⟩) ?_ ?_
        rotate_left
        ·simp only [Act.put, List.setIfInBounds_toArray, List.set_cons_zero, List.set_cons_succ, i64_w, i32_w]
         rfl
        refine pure_ (i := 18) (N := some 44) (v := undef) (a' := ?_) #[true, true, true, true, true, true, true, true, true, true, true, true, true, true, true, true, true, true, true, false, false, false, false, false, false, false] rfl rfl (any_of HT_.out (by kernel_rfl)) (fun _ _ _ h => h) (Or.inr ⟨by rfl, rfl⟩) ?_ ?_
        rotate_left
        ·simp only [Act.put, List.setIfInBounds_toArray, List.set_cons_zero, List.set_cons_succ, i64_w, i32_w]
         rfl
        refine pure_ (i := 19) (N := some 45) (v := undef) (a' := ?_) #[true, true, true, true, true, true, true, true, true, true, true, true, true, true, true, true, true, true, true, true, false, false, false, false, false, false] rfl rfl (any_of HT_.out (by kernel_rfl)) (fun _ _ _ h => h) (Or.inr ⟨by rfl, rfl⟩) ?_ ?_
        rotate_left
        ·simp only [Act.put, List.setIfInBounds_toArray, List.set_cons_zero, List.set_cons_succ, i64_w, i32_w]
         rfl
        refine pure_ (i := 20) (N := some 46) (v := undef) (a' := ?_) #[true, true, true, true, true, true, true, true, true, true, true, true, true, true, true, true, true, true, true, true, true, false, false, false, false, false] rfl rfl (any_of HT_.out (by kernel_rfl)) (fun _ _ _ h => h) (Or.inr ⟨by rfl, rfl⟩) ?_ ?_
        rotate_left
        ·simp only [Act.put, List.setIfInBounds_toArray, List.set_cons_zero, List.set_cons_succ, i64_w, i32_w]
         rfl
        refine pure_ (i := 21) (N := some 47) (v := undef) (a' := ?_) #[true, true, true, true, true, true, true, true, true, true, true, true, true, true, true, true, true, true, true, true, true, true, false, false, false, false] rfl rfl (any_of HT_.out (by kernel_rfl)) (fun _ _ _ h => h) (Or.inr ⟨by rfl, rfl⟩) ?_ ?_
        rotate_left
        ·simp only [Act.put, List.setIfInBounds_toArray, List.set_cons_zero, List.set_cons_succ, i64_w, i32_w]
         rfl
        refine pure_ (i := 22) (N := some 48) (v := undef) (a' := ?_) #[true, true, true, true, true, true, true, true, true, true, true, true, true, true, true, true, true, true, true, true, true, true, true, false, false, false] rfl rfl (any_of HT_.out (by kernel_rfl)) (fun _ _ _ h => h) (Or.inr ⟨by rfl, rfl⟩) ?_ ?_
        rotate_left
        ·simp only [Act.put, List.setIfInBounds_toArray, List.set_cons_zero, List.set_cons_succ, i64_w, i32_w]
         rfl
        refine pure_ (i := 23) (N := some 49) (v := undef) (a' := ?_) #[true, true, true, true, true, true, true, true, true, true, true, true, true, true, true, true, true, true, true, true, true, true, true, true, false, false] rfl rfl (any_of HT_.out (by kernel_rfl)) (fun _ _ _ h => h) (Or.inr ⟨by rfl, rfl⟩) ?_ ?_
        rotate_left
        ·simp only [Act.put, List.setIfInBounds_toArray, List.set_cons_zero, List.set_cons_succ, i64_w, i32_w]
         rfl
        refine pure_ (i := 24) (N := some 50) (v := undef) (a' := ?_) #[true, true, true, true, true, true, true, true, true, true, true, true, true, true, true, true, true, true, true, true, true, true, true, true, true, false] rfl rfl (any_of HT_.out (by kernel_rfl)) (fun _ _ _ h => h) (Or.inr ⟨by rfl, rfl⟩) ?_ ?_
        rotate_left
        ·simp only [Act.put, List.setIfInBounds_toArray, List.set_cons_zero, List.set_cons_succ, i64_w, i32_w]
         rfl
        refine pure_ (i := 25) (N := some 51) (v := ?_) (a' := ?_) #[true, true, true, true, true, true, true, true, true, true, true, true, true, true, true, true, true, true, true, true, true, true, true, true, true, true] rfl rfl (any_of HT_.out (by kernel_rfl)) (fun _ _ _ h => h) (Or.inl ⟨by rfl, ?_⟩) ?_ ?_
        rotate_left
        ·intro w'
         go_simp
         with_reducible rfl
        rotate_left
        ·simp only [Act.put, List.setIfInBounds_toArray, List.set_cons_zero, List.set_cons_succ, i64_w, i32_w]
         rfl
        refine done_ (done_of HT_.out (by kernel_rfl)) ?_
        try go_wp2
        go_meet
        case rel => exact ⟨_, (true), (by first | rfl | (simp; done) | (simp [*]; done)), H', ⟨by have := HJ4.out; first | omega | exact Nat.le_refl _⟩, ⟨by (with_reducible repeat (first | refine blk_drewN ?_ _ | refine blk_drew ?_ | refine blk_alloc ?_ _)); exact BK374.out⟩, ⟨by (with_reducible repeat (first | refine blk_drewN ?_ _ | refine blk_drew ?_ | refine blk_alloc ?_ _)); exact BK376.out⟩, ⟨by repeat (first | (with_reducible first | exact HB.out | apply below_alloc | apply pw_below_drewN | apply below_drew1 | refine below_set ?_ GE374.out | refine below_set ?_ GE376.out) | exact HB.out)⟩⟩
      case rest =>
       clear HC20
       try clear c1
       try clear c2
       try clear p2
       try clear c3
       try clear p3
       try clear q3
       try clear hx3
       try clear qi3
       try clear c7
       try clear c10
       try clear c21
       try clear c21b0
       try clear c21b1
       try clear c22
       try clear c24
       try clear c25
       try clear c26
       try clear hx378_0
       try clear p378
       try clear q378
       obtain ⟨kq, x51_19, rfl, HA, HJ19, BK374, BK376, HB⟩ := hcut
       cases kq with
       | zero => exact absurd HA.out (by simp [chart_checker_initial.j1])
       | succ kj19 =>
        have H := HA.out
        clear HA
        simp only [chart_checker_initial.j1] at H
        by_cases c33 : x51_19 = true
        ·subst c33
         have H1 : (some false) = some r := by rw [if_pos rfl] at H; exact H
         clear H
         have H := H1
         clear H1
         obtain rfl := Option.some.inj H
         go_wp2
         go_ret
         exact ⟨by first | rfl | (simp [errW_none, errW_some] <;> rfl) | (simp [*, errW_none, errW_some] <;> rfl), by repeat (first | (with_reducible first | exact HB.out | apply below_alloc | apply pw_below_drewN | apply below_drew1 | refine below_set ?_ GE374.out | refine below_set ?_ GE376.out) | exact HB.out)⟩
        ·replace c33 := Bool.eq_false_iff.mpr c33
         subst c33
         have H1 : (if 0 < (((rd_T54 l0_1 a1).f2).length : Int) then (if ((rd_T54 l0_1 a1).f0) = 2 then ((chart_checker_in.f kj19 a0_0 l0_1 l0_2 (rd ((rd_T54 l0_1 a1).f2) 0) a1).bind fun t384 => (some t384)) else (if ((rd_T54 l0_1 a1).f0) = 5 then (if 0 ≤ (rd ((rd_T54 l0_1 a1).f2) 0) then (if (rd ((rd_T54 l0_1 a1).f2) 0) < (l0_1.length : Int) then (some (((rd_T54 l0_1 (rd ((rd_T54 l0_1 a1).f2) 0)).f1) == ((rd_T54 l0_1 a1).f1))) else (none)) else (none)) else ((chart_checker_in.f kj19 a0_0 l0_1 l0_2 (rd ((rd_T54 l0_1 a1).f2) 0) ((rd_T54 l0_1 a1).f1)).bind fun t386 => (some t386)))) else (none)) = some r := by rw [if_neg (show ¬ (false = true) by decide)] at H; exact H
         clear H
         have H := H1
         clear H1
         by_cases c34 : 0 < (((rd_T54 l0_1 a1).f2).length : Int)
         ·rw [if_pos c34] at H
          have c34b0 : decide (0 < (((rd_T54 l0_1 a1).f2).length : Int)) = true := decide_eq_true c34
          have c34b1 : decide (0 < ((rd_T54 l0_1 a1).f2).length) = true := decide_eq_true (by omega)
          clear c34
          by_cases c35 : ((rd_T54 l0_1 a1).f0) = 2
          ·rw [if_pos c35] at H
           have c35b0 : (((rd_T54 l0_1 a1).f0) == 2) = true := beq_iff_eq.mpr c35
           have c35b1 : (((rd_T54 l0_1 a1).f0) != 2) = false := bne_eq_false_iff_eq.mpr c35
           clear c35
           replace H := Option.bind_eq_some_iff.mp H
           obtain ⟨t384, A360, H⟩ := H
           replace H : (some t384) = some r := H
           have A36 := Aside0.mk A360
           clear A360
           obtain rfl := Option.some.inj H
           have hnb37 := NB376_374.out
           have hnc37 := NB374_376.out
           have hcz38_0 : wc.cell? ⟨gb376, 0, none⟩ = some (.int .i64 ((rd_T54 l0_1 a1).f0)) := (blk_cell BK376.out 0).trans rfl
           have hcz38_1 : wc.cell? ⟨gb376, 1, none⟩ = some (.int .i64 ((rd_T54 l0_1 a1).f1)) := (blk_cell BK376.out 1).trans rfl
           have hcz38_2 : wc.cell? ⟨gb376, 2, none⟩ = some (.slice A375_2 ((rd_T54 l0_1 a1).f2).length c375_2) := (blk_cell BK376.out 2).trans rfl
           have hcz38_3 : wc.cell? ⟨gb376, 3, none⟩ = some (.slice A375_3 ((rd_T54 l0_1 a1).f3).length c375_3) := (blk_cell BK376.out 3).trans rfl
           have hcz38_4 : wc.cell? ⟨gb376, 4, none⟩ = some (.slice A375_4 ((rd_T54 l0_1 a1).f4).length c375_4) := (blk_cell BK376.out 4).trans rfl
           have hfz38_0 := blk_frozen BK376.out 0
           have hfz38_1 := blk_frozen BK376.out 1
           have hfz38_2 := blk_frozen BK376.out 2
           have hfz38_3 := blk_frozen BK376.out 3
           have hfz38_4 := blk_frozen BK376.out 4
           have p383 : 0 ≤ (0 : Int) := (by omega)
           have q383 : 0 < (((rd_T54 l0_1 a1).f2).length : Int) := of_decide_eq_true (by first | (with_reducible assumption) | assumption)
           obtain ⟨ad383, e383, hx383_0⟩ := Kd.at_int HR375_2.out 0 p383 q383
           cases e383
           have qi383 : (0 < ((rd_T54 l0_1 a1).f2).length) = True := eq_true (by omega)
           (try rw [show ((0 : Int)).toNat = 0 from rfl] at hx383_0)
           (try rw [Addr.add_zero'] at hx383_0)
           replace hx383_0 := (HB.out.cell (World.block_lt_of_cell? w _ hx383_0)).trans hx383_0
           replace p383 := eq_true p383
           replace q383 := eq_true q383
           have hcz39_0 : wc.cell? ⟨gb374, 0, none⟩ = some (.int .i64 a0_0) := (blk_cell BK374.out 0).trans rfl
           have hcz39_1 : wc.cell? ⟨gb374, 1, none⟩ = some (.slice (some ad375) l0_1.length c0_1) := (blk_cell BK374.out 1).trans rfl
           have hcz39_2 : wc.cell? ⟨gb374, 2, none⟩ = some (.slice A0_2 l0_2.length c0_2) := (blk_cell BK374.out 2).trans rfl
           have hfz39_0 := blk_frozen BK374.out 0
           have hfz39_1 := blk_frozen BK374.out 1
           have hfz39_2 := blk_frozen BK374.out 2
           go_wp2_with (first | ((with_reducible refine gate_callee (f := 136) rfl ?_); refine goesL_ (some 63) rfl rfl Tryz.func136 (by kernel_rfl) rfl #[.agg #[.int .i64 a0_0, .slice (some ad375) l0_1.length c0_1, .slice A0_2 l0_2.length c0_2], .int .i64 (rd ((rd_T54 l0_1 a1).f2) 0), .int .i64 a1] rfl (by (try simp only [List.map_toArray, List.map_cons, List.map_nil]); first | done | rfl | (simp only [List.length_drop, List.length_take]; rfl)) ?_; (with_reducible refine (chart_checker_in.calls kj19 a0_0 _ _ l0_1 _ _ l0_2 (rd ((rd_T54 l0_1 a1).f2) 0) a1 t384 _ ?side1 ?side2 ?side3 ?side4 A36.out).mono ?_); (case side1 => repeat (first | exact (Kd.C_below HR0_1.out HB.out) | (with_reducible refine Kd.C_alloc ?_ _) | (with_reducible refine Kd.C_drewN ?_ _) | (with_reducible refine Kd.C_drew ?_))); (case side2 => exact HC0_1.out); (case side3 => repeat (first | exact (Kd.C_below HR0_2.out HB.out) | (with_reducible refine Kd.C_alloc ?_ _) | (with_reducible refine Kd.C_drewN ?_ _) | (with_reducible refine Kd.C_drew ?_))); (case side4 => exact HC0_2.out); rintro e w40 ⟨rfl, hb⟩; refine ⟨_, rfl, ?_⟩; have n0_ := Aside0.mk (blk_below (g := gb374) (o := .cells #[.int .i64 a0_0, .slice (some ad375) l0_1.length c0_1, .slice A0_2 l0_2.length c0_2] 124 (0, 0)) (by (with_reducible repeat (first | refine blk_drewN ?_ _ | refine blk_drew ?_ | refine blk_alloc ?_ _)); exact BK374.out) hb); have n1_ := Aside0.mk (blk_below (g := gb376) (o := .cells #[.int .i64 ((rd_T54 l0_1 a1).f0), .int .i64 ((rd_T54 l0_1 a1).f1), .slice (some ad383) ((rd_T54 l0_1 a1).f2).length c375_2, .slice A375_3 ((rd_T54 l0_1 a1).f3).length c375_3, .slice A375_4 ((rd_T54 l0_1 a1).f4).length c375_4] 54 (0, 0)) (by (with_reducible repeat (first | refine blk_drewN ?_ _ | refine blk_drew ?_ | refine blk_alloc ?_ _)); exact BK376.out) hb); have n2_ := Aside0.mk (below_step (by repeat (first | (with_reducible first | exact HB.out | apply below_alloc | apply pw_below_drewN | apply below_drew1 | refine below_set ?_ GE374.out | refine below_set ?_ GE376.out) | exact HB.out)) hb); clear BK374; clear BK376; clear HB; have BK374 := n0_; have BK376 := n1_; have HB := n2_; clear n0_ n1_ n2_; (try clear hb); (try clear hb2); (try clear hk); (try clear hi)))
           go_ret
           exact ⟨by first | rfl | (simp [errW_none, errW_some] <;> rfl) | (simp [*, errW_none, errW_some] <;> rfl), by repeat (first | (with_reducible first | exact HB.out | apply below_alloc | apply pw_below_drewN | apply below_drew1 | refine below_set ?_ GE374.out | refine below_set ?_ GE376.out) | exact HB.out)⟩
          ·rw [if_neg c35] at H
           have c35b0 : (((rd_T54 l0_1 a1).f0) == 2) = false := beq_eq_false_iff_ne.mpr c35
           have c35b1 : (((rd_T54 l0_1 a1).f0) != 2) = true := bne_iff_ne.mpr c35
           by_cases c41 : ((rd_T54 l0_1 a1).f0) = 5
           ·rw [if_pos c41] at H
            have c41b0 : (((rd_T54 l0_1 a1).f0) == 5) = true := beq_iff_eq.mpr c41
            have c41b1 : (((rd_T54 l0_1 a1).f0) != 5) = false := bne_eq_false_iff_eq.mpr c41
            clear c41
            by_cases c42 : 0 ≤ (rd ((rd_T54 l0_1 a1).f2) 0)
            ·rw [if_pos c42] at H
             have c42b0 : decide (0 ≤ (rd ((rd_T54 l0_1 a1).f2) 0)) = true := decide_eq_true c42
             clear c42
             by_cases c43 : (rd ((rd_T54 l0_1 a1).f2) 0) < (l0_1.length : Int)
             ·rw [if_pos c43] at H
              have c43b0 : decide ((rd ((rd_T54 l0_1 a1).f2) 0) < (l0_1.length : Int)) = true := decide_eq_true c43
              clear c43
              obtain rfl := Option.some.inj H
              have hnb44 := NB376_374.out
              have hnc44 := NB374_376.out
              have hcz45_0 : wc.cell? ⟨gb376, 0, none⟩ = some (.int .i64 ((rd_T54 l0_1 a1).f0)) := (blk_cell BK376.out 0).trans rfl
              have hcz45_1 : wc.cell? ⟨gb376, 1, none⟩ = some (.int .i64 ((rd_T54 l0_1 a1).f1)) := (blk_cell BK376.out 1).trans rfl
              have hcz45_2 : wc.cell? ⟨gb376, 2, none⟩ = some (.slice A375_2 ((rd_T54 l0_1 a1).f2).length c375_2) := (blk_cell BK376.out 2).trans rfl
              have hcz45_3 : wc.cell? ⟨gb376, 3, none⟩ = some (.slice A375_3 ((rd_T54 l0_1 a1).f3).length c375_3) := (blk_cell BK376.out 3).trans rfl
              have hcz45_4 : wc.cell? ⟨gb376, 4, none⟩ = some (.slice A375_4 ((rd_T54 l0_1 a1).f4).length c375_4) := (blk_cell BK376.out 4).trans rfl
              have hfz45_0 := blk_frozen BK376.out 0
              have hfz45_1 := blk_frozen BK376.out 1
              have hfz45_2 := blk_frozen BK376.out 2
              have hfz45_3 := blk_frozen BK376.out 3
              have hfz45_4 := blk_frozen BK376.out 4
              have p383 : 0 ≤ (0 : Int) := (by omega)
              have q383 : 0 < (((rd_T54 l0_1 a1).f2).length : Int) := of_decide_eq_true (by first | (with_reducible assumption) | assumption)
              obtain ⟨ad383, e383, hx383_0⟩ := Kd.at_int HR375_2.out 0 p383 q383
              cases e383
              have qi383 : (0 < ((rd_T54 l0_1 a1).f2).length) = True := eq_true (by omega)
              (try rw [show ((0 : Int)).toNat = 0 from rfl] at hx383_0)
              (try rw [Addr.add_zero'] at hx383_0)
              replace hx383_0 := (HB.out.cell (World.block_lt_of_cell? w _ hx383_0)).trans hx383_0
              replace p383 := eq_true p383
              replace q383 := eq_true q383
              try go_wp2
              have n0_ := Aside0.mk (blk_drew BK374.out)
              have n1_ := Aside0.mk (blk_drew BK376.out)
              have n2_ := Aside0.mk (below_drew1 HB.out)
              clear BK374
              clear BK376
              clear HB
              have BK374 := n0_
              have BK376 := n1_
              have HB := n2_
              clear n0_ n1_ n2_
              have p385 : 0 ≤ ((rd ((rd_T54 l0_1 a1).f2) 0) : Int) := of_decide_eq_true (by first | (with_reducible assumption) | assumption)
              have q385 : (rd ((rd_T54 l0_1 a1).f2) 0) < (l0_1.length : Int) := of_decide_eq_true (by first | (with_reducible assumption) | assumption)
              obtain ⟨ad385, A385_2, c385_2, A385_3, c385_3, A385_4, c385_4, e385, hx385_0, hx385_1, hx385_2, hx385_3, hx385_4, hl385_2, hi385_2, hl385_3, hi385_3, hl385_4, hi385_4⟩ := at_T54 HR0_1.out (rd ((rd_T54 l0_1 a1).f2) 0) p385 q385
              have hw385_4 := hx385_4
              have hw385_3 := hx385_3
              have hw385_2 := hx385_2
              have hw385_1 := hx385_1
              have hw385_0 := hx385_0
              obtain rfl : ad375 = ad385 := (by injection e385)
              replace hx385_0 := (HB.out.cell (World.block_lt_of_cell? w _ hx385_0)).trans hx385_0
              replace hx385_1 := (HB.out.cell (World.block_lt_of_cell? w _ hx385_1)).trans hx385_1
              replace hx385_2 := (HB.out.cell (World.block_lt_of_cell? w _ hx385_2)).trans hx385_2
              replace hx385_3 := (HB.out.cell (World.block_lt_of_cell? w _ hx385_3)).trans hx385_3
              replace hx385_4 := (HB.out.cell (World.block_lt_of_cell? w _ hx385_4)).trans hx385_4
              have HR385_2 := Aside0.mk hi385_2
              have HC385_2 := Aside0.mk hl385_2
              clear hi385_2 hl385_2
              have HR385_3 := Aside0.mk hi385_3
              have HC385_3 := Aside0.mk hl385_3
              clear hi385_3 hl385_3
              have HR385_4 := Aside0.mk hi385_4
              have HC385_4 := Aside0.mk hl385_4
              clear hi385_4 hl385_4
              replace p385 := eq_true p385
              replace q385 := eq_true q385
              refine start_ (n := 11) (S := fun w' => w'.cell? ⟨gb374, 0, none⟩ = some (.int .i64 a0_0) ∧ w'.cell? ⟨gb374, 1, none⟩ = some (.slice (some ad375) l0_1.length c0_1) ∧ w'.cell? ⟨gb374, 2, none⟩ = some (.slice A0_2 l0_2.length c0_2) ∧ w'.cell? ⟨gb376, 0, none⟩ = some (.int .i64 ((rd_T54 l0_1 a1).f0)) ∧ w'.cell? ⟨gb376, 1, none⟩ = some (.int .i64 ((rd_T54 l0_1 a1).f1)) ∧ w'.cell? ⟨gb376, 2, none⟩ = some (.slice (some ad383) ((rd_T54 l0_1 a1).f2).length c375_2) ∧ w'.cell? ⟨gb376, 3, none⟩ = some (.slice A375_3 ((rd_T54 l0_1 a1).f3).length c375_3) ∧ w'.cell? ⟨gb376, 4, none⟩ = some (.slice A375_4 ((rd_T54 l0_1 a1).f4).length c375_4) ∧ w'.cell? (ad375.add (((rd ((rd_T54 l0_1 a1).f2) 0)).toNat * 5)) = some (.int .i64 ((rd_T54 l0_1 (rd ((rd_T54 l0_1 a1).f2) 0)).f0)) ∧ w'.cell? ⟨(ad375.add (((rd ((rd_T54 l0_1 a1).f2) 0)).toNat * 5)).block, (ad375.add (((rd ((rd_T54 l0_1 a1).f2) 0)).toNat * 5)).off + 1, none⟩ = some (.int .i64 ((rd_T54 l0_1 (rd ((rd_T54 l0_1 a1).f2) 0)).f1)) ∧ w'.cell? ⟨(ad375.add (((rd ((rd_T54 l0_1 a1).f2) 0)).toNat * 5)).block, (ad375.add (((rd ((rd_T54 l0_1 a1).f2) 0)).toNat * 5)).off + 2, none⟩ = some (.slice A385_2 ((rd_T54 l0_1 (rd ((rd_T54 l0_1 a1).f2) 0)).f2).length c385_2) ∧ w'.cell? ⟨(ad375.add (((rd ((rd_T54 l0_1 a1).f2) 0)).toNat * 5)).block, (ad375.add (((rd ((rd_T54 l0_1 a1).f2) 0)).toNat * 5)).off + 3, none⟩ = some (.slice A385_3 ((rd_T54 l0_1 (rd ((rd_T54 l0_1 a1).f2) 0)).f3).length c385_3) ∧ w'.cell? ⟨(ad375.add (((rd ((rd_T54 l0_1 a1).f2) 0)).toNat * 5)).block, (ad375.add (((rd ((rd_T54 l0_1 a1).f2) 0)).toNat * 5)).off + 4, none⟩ = some (.slice A385_4 ((rd_T54 l0_1 (rd ((rd_T54 l0_1 a1).f2) 0)).f4).length c385_4)) (ds := []) #[false, false, false, false, false, false, false, false, false, false, false] (by kernel_rfl) rfl rfl ⟨(blk_cell BK374.out 0).trans rfl, (blk_cell BK374.out 1).trans rfl, (blk_cell BK374.out 2).trans rfl, (blk_cell BK376.out 0).trans rfl, (blk_cell BK376.out 1).trans rfl, (blk_cell BK376.out 2).trans rfl, (blk_cell BK376.out 3).trans rfl, (blk_cell BK376.out 4).trans rfl, ((HB.out.cell (World.block_lt_of_cell? w _ hw385_0)).trans hw385_0), ((HB.out.cell (World.block_lt_of_cell? w _ hw385_1)).trans hw385_1), ((HB.out.cell (World.block_lt_of_cell? w _ hw385_2)).trans hw385_2), ((HB.out.cell (World.block_lt_of_cell? w _ hw385_3)).trans hw385_3), ((HB.out.cell (World.block_lt_of_cell? w _ hw385_4)).trans hw385_4)⟩ (fun hHeld => ?_); refine with_tabW chart_checker_initial.tab11 chart_checker_initial.bits11 (fun HT_ HW_ => ?_)
              generalize wc.drew = w46 at BK374 BK376 HB HR385_2 HR385_3 HR385_4 hx385_0 hx385_1 hx385_2 hx385_3 hx385_4 hHeld ⊢
              refine pure_ (i := 0) (N := some 66) (v := ?_) (a' := ?_) #[true, false, false, false, false, false, false, false, false, false, false] rfl rfl (any_of HT_.out (by kernel_rfl)) (fun _ _ _ h => h) (Or.inl ⟨by rfl, ?_⟩) ?_ ?_
              rotate_left
              ·intro w'
               go_simp
               with_reducible rfl
              rotate_left
              ·simp only [Act.put, List.setIfInBounds_toArray, List.set_cons_zero, List.set_cons_succ, i64_w, i32_w]
               rfl
              refine pure_ (i := 1) (N := some 67) (v := ?_) (a' := ?_) #[true, true, false, false, false, false, false, false, false, false, false] rfl rfl (any_of HT_.out (by kernel_rfl)) (fun _ _ _ h => h) (Or.inl ⟨by rfl, ?_⟩) ?_ ?_
              rotate_left
              ·intro w'
               go_simp
               with_reducible rfl
              rotate_left
              ·simp only [Act.put, List.setIfInBounds_toArray, List.set_cons_zero, List.set_cons_succ, i64_w, i32_w]
               rfl
              refine pure_ (i := 3) (N := some 69) (v := ?_) (a' := ?_) #[true, true, false, true, false, false, false, false, false, false, false] rfl rfl (any_of HT_.out (by kernel_rfl)) (fun _ _ _ h => h) (Or.inl ⟨by rfl, ?_⟩) ?_ ?_
              rotate_left
              ·intro w'
               go_simp
               with_reducible rfl
              rotate_left
              ·simp only [Act.put, List.setIfInBounds_toArray, List.set_cons_zero, List.set_cons_succ, i64_w, i32_w]
               rfl
              refine pure_ (i := 7) (N := some 73) (v := ?_) (a' := ?_) #[true, true, false, true, false, false, false, true, false, false, false] rfl rfl (any_of HT_.out (by kernel_rfl)) (fun _ _ _ h => h) (Or.inl ⟨by rfl, ?_⟩) ?_ ?_
              rotate_left
              ·intro w'
               go_simp
               with_reducible rfl
              rotate_left
              ·simp only [Act.put, List.setIfInBounds_toArray, List.set_cons_zero, List.set_cons_succ, i64_w, i32_w]
               rfl
              refine take_ (i := 2) (N := some 68) (v := ?_) (a' := ?_) #[true, true, true, true, false, false, false, true, false, false, false] rfl rfl (take_ofW HT_.out HW_.out (by kernel_rfl)) (fun _ _ _ h => h) (Or.inl ⟨by rfl, ?_⟩) hHeld ?_ ?_
              rotate_left
              ·rintro w' ⟨s0, s1, s2, s3, s4, s5, s6, s7, s8, s9, s10, s11, s12⟩
               go_simp
               with_reducible rfl
              rotate_left
              ·simp only [Act.put, List.setIfInBounds_toArray, List.set_cons_zero, List.set_cons_succ, i64_w, i32_w]
               rfl
              refine pure_ (i := 4) (N := some 70) (v := ?_) (a' := ?_) #[true, true, true, true, true, false, false, true, false, false, false] rfl rfl (any_of HT_.out (by kernel_rfl)) (fun _ _ _ h => h) (Or.inl ⟨by rfl, ?_⟩) ?_ ?_
              rotate_left
              ·intro w'
               go_simp
               with_reducible rfl
              rotate_left
              ·simp only [Act.put, List.setIfInBounds_toArray, List.set_cons_zero, List.set_cons_succ, i64_w, i32_w]
               rfl
              refine pure_ (i := 5) (N := some 71) (v := ?_) (a' := ?_) #[true, true, true, true, true, true, false, true, false, false, false] rfl rfl (any_of HT_.out (by kernel_rfl)) (fun _ _ _ h => h) (Or.inl ⟨by rfl, ?_⟩) ?_ ?_
              rotate_left
              ·intro w'
               go_simp
               with_reducible rfl
              rotate_left
              ·simp only [Act.put, List.setIfInBounds_toArray, List.set_cons_zero, List.set_cons_succ, i64_w, i32_w]
               rfl
              refine take_ (i := 6) (N := some 72) (v := ?_) (a' := ?_) #[true, true, true, true, true, true, true, true, false, false, false] rfl rfl (take_ofW HT_.out HW_.out (by kernel_rfl)) (fun _ _ _ h => h) (Or.inl ⟨by rfl, ?_⟩) hHeld ?_ ?_
              rotate_left
              ·rintro w' ⟨s0, s1, s2, s3, s4, s5, s6, s7, s8, s9, s10, s11, s12⟩
               go_simp
               with_reducible rfl
              rotate_left
              ·simp only [Act.put, List.setIfInBounds_toArray, List.set_cons_zero, List.set_cons_succ, i64_w, i32_w]
               rfl
              refine take_ (i := 8) (N := some 74) (v := ?_) (a' := ?_) #[true, true, true, true, true, true, true, true, true, false, false] rfl rfl (take_ofW HT_.out HW_.out (by kernel_rfl)) (fun _ _ _ h => h) (Or.inl ⟨by rfl, ?_⟩) hHeld ?_ ?_
              rotate_left
              ·rintro w' ⟨s0, s1, s2, s3, s4, s5, s6, s7, s8, s9, s10, s11, s12⟩
               go_simp
               with_reducible rfl
              rotate_left
              ·simp only [Act.put, List.setIfInBounds_toArray, List.set_cons_zero, List.set_cons_succ, i64_w, i32_w]
               rfl
              refine pure_ (i := 9) (N := some 75) (v := ?_) (a' := ?_) #[true, true, true, true, true, true, true, true, true, true, false] rfl rfl (any_of HT_.out (by kernel_rfl)) (fun _ _ _ h => h) (Or.inl ⟨by rfl, ?_⟩) ?_ ?_
              rotate_left
              ·intro w'
               go_simp
               with_reducible rfl
              rotate_left
              ·simp only [Act.put, List.setIfInBounds_toArray, List.set_cons_zero, List.set_cons_succ, i64_w, i32_w]
               rfl
              refine pure_ (i := 10) (N := some 4) (v := ?_) (a' := ?_) #[true, true, true, true, true, true, true, true, true, true, true] rfl rfl (any_of HT_.out (by kernel_rfl)) (fun _ _ _ h => h) (Or.inl ⟨by rfl, ?_⟩) ?_ ?_
              rotate_left
              ·intro w'
               go_simp
               with_reducible rfl
              rotate_left
              ·simp only [Act.put, List.setIfInBounds_toArray, List.set_cons_zero, List.set_cons_succ, i64_w, i32_w]
               rfl
              refine done_ (done_of HT_.out (by kernel_rfl)) ?_
              try go_wp2
              go_ret
              exact ⟨by first | rfl | (simp [errW_none, errW_some] <;> rfl) | (simp [*, errW_none, errW_some] <;> rfl), by repeat (first | (with_reducible first | exact HB.out | apply below_alloc | apply pw_below_drewN | apply below_drew1 | refine below_set ?_ GE374.out | refine below_set ?_ GE376.out) | exact HB.out)⟩
             ·rw [if_neg c43] at H
              exact absurd H (by simp)
            ·rw [if_neg c42] at H
             exact absurd H (by simp)
           ·rw [if_neg c41] at H
            have c41b0 : (((rd_T54 l0_1 a1).f0) == 5) = false := beq_eq_false_iff_ne.mpr c41
            have c41b1 : (((rd_T54 l0_1 a1).f0) != 5) = true := bne_iff_ne.mpr c41
            replace H := Option.bind_eq_some_iff.mp H
            obtain ⟨t386, A470, H⟩ := H
            replace H : (some t386) = some r := H
            have A47 := Aside0.mk A470
            clear A470
            obtain rfl := Option.some.inj H
            have hnb48 := NB376_374.out
            have hnc48 := NB374_376.out
            have hcz49_0 : wc.cell? ⟨gb376, 0, none⟩ = some (.int .i64 ((rd_T54 l0_1 a1).f0)) := (blk_cell BK376.out 0).trans rfl
            have hcz49_1 : wc.cell? ⟨gb376, 1, none⟩ = some (.int .i64 ((rd_T54 l0_1 a1).f1)) := (blk_cell BK376.out 1).trans rfl
            have hcz49_2 : wc.cell? ⟨gb376, 2, none⟩ = some (.slice A375_2 ((rd_T54 l0_1 a1).f2).length c375_2) := (blk_cell BK376.out 2).trans rfl
            have hcz49_3 : wc.cell? ⟨gb376, 3, none⟩ = some (.slice A375_3 ((rd_T54 l0_1 a1).f3).length c375_3) := (blk_cell BK376.out 3).trans rfl
            have hcz49_4 : wc.cell? ⟨gb376, 4, none⟩ = some (.slice A375_4 ((rd_T54 l0_1 a1).f4).length c375_4) := (blk_cell BK376.out 4).trans rfl
            have hfz49_0 := blk_frozen BK376.out 0
            have hfz49_1 := blk_frozen BK376.out 1
            have hfz49_2 := blk_frozen BK376.out 2
            have hfz49_3 := blk_frozen BK376.out 3
            have hfz49_4 := blk_frozen BK376.out 4
            have p383 : 0 ≤ (0 : Int) := (by omega)
            have q383 : 0 < (((rd_T54 l0_1 a1).f2).length : Int) := of_decide_eq_true (by first | (with_reducible assumption) | assumption)
            obtain ⟨ad383, e383, hx383_0⟩ := Kd.at_int HR375_2.out 0 p383 q383
            cases e383
            have qi383 : (0 < ((rd_T54 l0_1 a1).f2).length) = True := eq_true (by omega)
            (try rw [show ((0 : Int)).toNat = 0 from rfl] at hx383_0)
            (try rw [Addr.add_zero'] at hx383_0)
            replace hx383_0 := (HB.out.cell (World.block_lt_of_cell? w _ hx383_0)).trans hx383_0
            replace p383 := eq_true p383
            replace q383 := eq_true q383
            have hcz50_0 : wc.cell? ⟨gb374, 0, none⟩ = some (.int .i64 a0_0) := (blk_cell BK374.out 0).trans rfl
            have hcz50_1 : wc.cell? ⟨gb374, 1, none⟩ = some (.slice (some ad375) l0_1.length c0_1) := (blk_cell BK374.out 1).trans rfl
            have hcz50_2 : wc.cell? ⟨gb374, 2, none⟩ = some (.slice A0_2 l0_2.length c0_2) := (blk_cell BK374.out 2).trans rfl
            have hfz50_0 := blk_frozen BK374.out 0
            have hfz50_1 := blk_frozen BK374.out 1
            have hfz50_2 := blk_frozen BK374.out 2
            go_wp2_with (first | ((with_reducible refine gate_callee (f := 136) rfl ?_); refine goesL_ (some 80) rfl rfl Tryz.func136 (by kernel_rfl) rfl #[.agg #[.int .i64 a0_0, .slice (some ad375) l0_1.length c0_1, .slice A0_2 l0_2.length c0_2], .int .i64 (rd ((rd_T54 l0_1 a1).f2) 0), .int .i64 ((rd_T54 l0_1 a1).f1)] rfl (by (try simp only [List.map_toArray, List.map_cons, List.map_nil]); first | done | rfl | (simp only [List.length_drop, List.length_take]; rfl)) ?_; (with_reducible refine (chart_checker_in.calls kj19 a0_0 _ _ l0_1 _ _ l0_2 (rd ((rd_T54 l0_1 a1).f2) 0) ((rd_T54 l0_1 a1).f1) t386 _ ?side1 ?side2 ?side3 ?side4 A47.out).mono ?_); (case side1 => repeat (first | exact (Kd.C_below HR0_1.out HB.out) | (with_reducible refine Kd.C_alloc ?_ _) | (with_reducible refine Kd.C_drewN ?_ _) | (with_reducible refine Kd.C_drew ?_))); (case side2 => exact HC0_1.out); (case side3 => repeat (first | exact (Kd.C_below HR0_2.out HB.out) | (with_reducible refine Kd.C_alloc ?_ _) | (with_reducible refine Kd.C_drewN ?_ _) | (with_reducible refine Kd.C_drew ?_))); (case side4 => exact HC0_2.out); rintro e w51 ⟨rfl, hb⟩; refine ⟨_, rfl, ?_⟩; have n0_ := Aside0.mk (blk_below (g := gb374) (o := .cells #[.int .i64 a0_0, .slice (some ad375) l0_1.length c0_1, .slice A0_2 l0_2.length c0_2] 124 (0, 0)) (by (with_reducible repeat (first | refine blk_drewN ?_ _ | refine blk_drew ?_ | refine blk_alloc ?_ _)); exact BK374.out) hb); have n1_ := Aside0.mk (blk_below (g := gb376) (o := .cells #[.int .i64 ((rd_T54 l0_1 a1).f0), .int .i64 ((rd_T54 l0_1 a1).f1), .slice (some ad383) ((rd_T54 l0_1 a1).f2).length c375_2, .slice A375_3 ((rd_T54 l0_1 a1).f3).length c375_3, .slice A375_4 ((rd_T54 l0_1 a1).f4).length c375_4] 54 (0, 0)) (by (with_reducible repeat (first | refine blk_drewN ?_ _ | refine blk_drew ?_ | refine blk_alloc ?_ _)); exact BK376.out) hb); have n2_ := Aside0.mk (below_step (by repeat (first | (with_reducible first | exact HB.out | apply below_alloc | apply pw_below_drewN | apply below_drew1 | refine below_set ?_ GE374.out | refine below_set ?_ GE376.out) | exact HB.out)) hb); clear BK374; clear BK376; clear HB; have BK374 := n0_; have BK376 := n1_; have HB := n2_; clear n0_ n1_ n2_; (try clear hb); (try clear hb2); (try clear hk); (try clear hi)))
            go_ret
            exact ⟨by first | rfl | (simp [errW_none, errW_some] <;> rfl) | (simp [*, errW_none, errW_some] <;> rfl), by repeat (first | (with_reducible first | exact HB.out | apply below_alloc | apply pw_below_drewN | apply below_drew1 | refine below_set ?_ GE374.out | refine below_set ?_ GE376.out) | exact HB.out)⟩
         ·rw [if_neg c34] at H
          exact absurd H (by simp)
  ·rw [if_neg c4] at H
   exact absurd H (by simp)
 ·rw [if_neg c3] at H
  exact absurd H (by simp)
end Go.Proofs.YtemoonhnncopoaaGreatDoor.PAll
end
