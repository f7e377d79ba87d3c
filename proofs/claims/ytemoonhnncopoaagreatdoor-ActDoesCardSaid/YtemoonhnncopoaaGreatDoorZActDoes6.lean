/- Texts of this claim, merged (PAllTwo). -/
import Derived.Test.YtemoonhnncopoaaGreatDoorZActDoes2
import Derived.Test.YtemoonhnncopoaaGreatDoorZActDoes5
section
namespace Go.Proofs.YtemoonhnncopoaaGreatDoor.PAll
open Go.RowKit Go.Proofs.YtemoonhnncopoaaGreatDoorW.PrintWords Go.Proofs.YtemoonhnncopoaaGreatDoorW.PrintLast Go.Proofs.YtemoonhnncopoaaGreatDoorW.PrintMore
attribute [local go_sem] max2_int min2_int max_two min_two max_three min_three max_four min_four   -- for this text's walks alone
set_option linter.unusedVariables false
set_option linter.unusedSimpArgs false
mutual
def spinetref04_two.j0 : Nat → Int → Bool → Int → Int → Int → Int → Option (Int × Int × Int)
  | 0, _, _, _, _, _, _ => none
  | k + 1, x0, x18, x227000, x227001, x228000, x228001 => if x18 = true then ((spinetref04_truth.f ((x227001 == x228001) == (x0 == 10))).bind fun bt229 => (some (bt229.1, bt229.2.1, bt229.2.2))) else (if x227000 = 2 then (if x0 = 12 then (if x227001 = 1 then ((spinetref04_truth.f (x228001 == 1)).bind fun bt232 => (some (bt232.1, bt232.2.1, bt232.2.2))) else ((spinetref04_truth.f false).bind fun bt235 => (some (bt235.1, bt235.2.1, bt235.2.2)))) else (if x0 = 13 then (if x227001 = 1 then ((spinetref04_truth.f true).bind fun bt238 => (some (bt238.1, bt238.2.1, bt238.2.2))) else ((spinetref04_truth.f (x228001 == 1)).bind fun bt241 => (some (bt241.1, bt241.2.1, bt241.2.2)))) else (some (0, 0, 8)))) else (if x0 = 6 then (spinetref04_two.j1 k x0 (x228001 == 0) x227000 x227001 x228000 x228001) else (if x0 = 7 then (spinetref04_two.j1 k x0 (x228001 == 0) x227000 x227001 x228000 x228001) else (spinetref04_two.j1 k x0 false x227000 x227001 x228000 x228001))))
def spinetref04_two.j1 : Nat → Int → Bool → Int → Int → Int → Int → Option (Int × Int × Int)
  | 0, _, _, _, _, _, _ => none
  | k + 1, x0, x64, x227000, x227001, x228000, x228001 => if x64 = true then (some (0, 0, 9)) else (if x0 = 3 then ((spinetref01_Add.f x227001 x228001).bind fun t244 => ((spinetref04_whole.f t244).bind fun bt245 => (some (bt245.1, bt245.2.1, bt245.2.2)))) else (if x0 = 4 then ((spinetref01_Sub.f x227001 x228001).bind fun t248 => ((spinetref04_whole.f t248).bind fun bt249 => (some (bt249.1, bt249.2.1, bt249.2.2)))) else (if x0 = 5 then ((spinetref01_Mul.f x227001 x228001).bind fun t252 => ((spinetref04_whole.f t252).bind fun bt253 => (some (bt253.1, bt253.2.1, bt253.2.2)))) else (if x0 = 6 then ((spinetref01_Div.f x227001 x228001).bind fun t256 => ((spinetref04_whole.f t256).bind fun bt257 => (some (bt257.1, bt257.2.1, bt257.2.2)))) else (if x0 = 7 then ((spinetref01_Mod.f x227001 x228001).bind fun t260 => ((spinetref04_whole.f t260).bind fun bt261 => (some (bt261.1, bt261.2.1, bt261.2.2)))) else (if x0 = 8 then ((spinetref04_truth.f (decide (x227001 < x228001))).bind fun bt264 => (some (bt264.1, bt264.2.1, bt264.2.2))) else (if x0 = 9 then ((spinetref04_truth.f (decide (x227001 ≤ x228001))).bind fun bt267 => (some (bt267.1, bt267.2.1, bt267.2.2))) else (some (0, 0, 8)))))))))
end
def spinetref04_two.f (k : Nat) (a0 : Int) (a1_0 : Int) (a1_1 : Int) (a2_0 : Int) (a2_1 : Int) : Option (Int × Int × Int) := if a1_0 = a2_0 then (if a0 = 10 then (spinetref04_two.j0 k a0 true a1_0 a1_1 a2_0 a2_1) else (spinetref04_two.j0 k a0 (a0 == 11) a1_0 a1_1 a2_0 a2_1)) else (some (0, 0, 8))
theorem spinetref04_two.mono_l : ∀ k, (∀ y0 y1 y2 y3 y4 y5, LeO (spinetref04_two.j0 k y0 y1 y2 y3 y4 y5) (spinetref04_two.j0 (k + 1) y0 y1 y2 y3 y4 y5)) ∧ (∀ y0 y1 y2 y3 y4 y5, LeO (spinetref04_two.j1 k y0 y1 y2 y3 y4 y5) (spinetref04_two.j1 (k + 1) y0 y1 y2 y3 y4 y5))
  | 0 => ⟨fun _ _ _ _ _ _ r h => by simp [spinetref04_two.j0] at h, fun _ _ _ _ _ _ r h => by simp [spinetref04_two.j1] at h⟩
  | k + 1 => by
    obtain ⟨ih0, ih1⟩ := spinetref04_two.mono_l k
    refine ⟨?_, ?_⟩
    · intro y0 y1 y2 y3 y4 y5
      unfold spinetref04_two.j0
      repeat' first
      | (with_reducible exact ih0 _ _ _ _ _ _)
      | (with_reducible exact ih1 _ _ _ _ _ _)
      | (with_reducible exact LeO.refl _)
      | (with_reducible exact LeO.none _)
      | (with_reducible refine LeO.ite ?_ ?_)
      | (with_reducible refine LeO.bind ?_ (fun _ => ?_))
      | exact ih0 _ _ _ _ _ _
      | exact ih1 _ _ _ _ _ _
      | exact LeO.none _
      | refine LeO.ite ?_ ?_
      | refine LeO.bind ?_ (fun _ => ?_)
    · intro y0 y1 y2 y3 y4 y5
      unfold spinetref04_two.j1
      repeat' first
      | (with_reducible exact ih0 _ _ _ _ _ _)
      | (with_reducible exact ih1 _ _ _ _ _ _)
      | (with_reducible exact LeO.refl _)
      | (with_reducible exact LeO.none _)
      | (with_reducible refine LeO.ite ?_ ?_)
      | (with_reducible refine LeO.bind ?_ (fun _ => ?_))
      | exact ih0 _ _ _ _ _ _
      | exact ih1 _ _ _ _ _ _
      | exact LeO.none _
      | refine LeO.ite ?_ ?_
      | refine LeO.bind ?_ (fun _ => ?_)
theorem spinetref04_two.mono : ∀ a0 a1 a2 a3 a4 k, LeO (spinetref04_two.f k a0 a1 a2 a3 a4) (spinetref04_two.f (k + 1) a0 a1 a2 a3 a4) := by
  intro a0 a1 a2 a3 a4 k
  obtain ⟨ih0, ih1⟩ := spinetref04_two.mono_l k
  unfold spinetref04_two.f
  repeat' first
      | (with_reducible exact ih0 _ _ _ _ _ _)
      | (with_reducible exact ih1 _ _ _ _ _ _)
      | (with_reducible exact LeO.refl _)
      | (with_reducible exact LeO.none _)
      | (with_reducible refine LeO.ite ?_ ?_)
      | (with_reducible refine LeO.bind ?_ (fun _ => ?_))
      | exact ih0 _ _ _ _ _ _
      | exact ih1 _ _ _ _ _ _
      | exact LeO.none _
      | refine LeO.ite ?_ ?_
      | refine LeO.bind ?_ (fun _ => ?_)
set_option maxHeartbeats 8000000 in
set_option maxRecDepth 100000 in
theorem spinetref04_two.calls (k : Nat) (a0 : Int) (a1_0 : Int) (a1_1 : Int) (a2_0 : Int) (a2_1 : Int) (r1 : Int) (r2 : Int) (r3 : Int) (w : World) (h : spinetref04_two.f k a0 a1_0 a1_1 a2_0 a2_1 = some (r1, r2, r3)) :
    Calls Tryz.prog 126 #[.int .i64 a0, .agg #[.int .i64 a1_0, .int .i64 a1_1], .agg #[.int .i64 a2_0, .int .i64 a2_1]] w fun e w' => e = .returned (.agg #[.int .i64 r1, .int .i64 r2, .int .i64 r3]) ∧ Below w.heap.size w w' := by
  have hu35 := Tryz.underlying35
  have hu144 := Tryz.underlying144
  have HB := Aside0.mk (Below.refl w.heap.size w)
  have H : (if a1_0 = a2_0 then (if a0 = 10 then (spinetref04_two.j0 k a0 true a1_0 a1_1 a2_0 a2_1) else (spinetref04_two.j0 k a0 (a0 == 11) a1_0 a1_1 a2_0 a2_1)) else (some (0, 0, 8))) = some (r1, r2, r3) := h
  clear h
  by_cases c4 : a1_0 = a2_0
  · rw [if_pos c4] at H
    have c4b0 : (a1_0 == a2_0) = true := beq_iff_eq.mpr c4
    have c4b1 : (a1_0 != a2_0) = false := bne_eq_false_iff_eq.mpr c4
    clear c4
    have HC5 := Aside0.mk H
    clear H
    go_enter Tryz.func126, Tryz.ntmps126
    go_upto_region 3 with (first | ((with_reducible refine gate_dst (N := 4) rfl ?_); refine box_event ?hg (N := 4) ?hd (cs := #[.int .i64 a1_0, .int .i64 a1_1]) (t := 35) ?hr ?_; (case hd => rfl); (case hg => rfl); (case hr => first | (go_simp; done) | (go_simp; rfl)); intro gb226 hg w6 hbox hb; have n0_ := Aside0.mk (below_step (by repeat (first | (with_reducible first | exact HB.out | apply below_alloc | apply pw_below_drewN | apply below_drew1) | exact HB.out)) hb); have n1_ := Aside0.mk (hbox); have n2_ := Aside0.mk ((by rw [hg]; exact (below_size (by repeat (first | (with_reducible first | exact HB.out | apply below_alloc | apply pw_below_drewN | apply below_drew1) | exact HB.out))) : w.heap.size ≤ gb226)); have n3_ := Aside0.mk ((by rw [hg]; exact (below_size (by repeat (first | (with_reducible first | exact HB.out | apply below_alloc | apply pw_below_drewN | apply below_drew1) | exact HB.out))) : w.heap.size ≤ gb226)); clear HB; have HB := n0_; have BK226 := n1_; have GW226 := n2_; have GE226 := n3_; clear n0_ n1_ n2_ n3_; clear hb hbox hg) | ((with_reducible refine gate_dst (N := 5) rfl ?_); refine box_event ?hg (N := 5) ?hd (cs := #[.int .i64 a2_0, .int .i64 a2_1]) (t := 35) ?hr ?_; (case hd => rfl); (case hg => rfl); (case hr => first | (go_simp; done) | (go_simp; rfl)); intro gb227 hg w7 hbox hb; have n0_ := Aside0.mk (blk_below (g := gb226) (o := .cells #[.int .i64 a1_0, .int .i64 a1_1] 35 (0, 0)) (by (with_reducible repeat (first | refine blk_drewN ?_ _ | refine blk_drew ?_ | refine blk_alloc ?_ _)); exact BK226.out) hb); have n1_ := Aside0.mk (below_step (by repeat (first | (with_reducible first | exact HB.out | apply below_alloc | apply pw_below_drewN | apply below_drew1 | refine below_set ?_ GE226.out) | exact HB.out)) hb); have n2_ := Aside0.mk (hbox); have n3_ := Aside0.mk ((by rw [hg]; exact (below_size (by repeat (first | (with_reducible first | exact HB.out | apply below_alloc | apply pw_below_drewN | apply below_drew1 | refine below_set ?_ GE226.out) | exact HB.out))) : w.heap.size ≤ gb227)); have n4_ := Aside0.mk ((by rw [hg]; exact (below_size (by repeat (first | (with_reducible first | exact HB.out | apply below_alloc | apply pw_below_drewN | apply below_drew1 | refine below_set ?_ GE226.out) | exact HB.out))) : w.heap.size ≤ gb227)); have n5_ := Aside0.mk ((by rw [hg]; exact Nat.ne_of_lt (blk_lt (g := gb226) (o := .cells #[.int .i64 a1_0, .int .i64 a1_1] 35 (0, 0)) (by (with_reducible repeat (first | refine blk_drewN ?_ _ | refine blk_drew ?_ | refine blk_alloc ?_ _)); exact BK226.out)) : gb226 ≠ gb227)); have n6_ := Aside0.mk ((by rw [hg]; exact Nat.ne_of_gt (blk_lt (g := gb226) (o := .cells #[.int .i64 a1_0, .int .i64 a1_1] 35 (0, 0)) (by (with_reducible repeat (first | refine blk_drewN ?_ _ | refine blk_drew ?_ | refine blk_alloc ?_ _)); exact BK226.out)) : gb227 ≠ gb226)); clear BK226; clear HB; have BK226 := n0_; have HB := n1_; have BK227 := n2_; have GW227 := n3_; have GE227 := n4_; have NB226_227 := n5_; have NB227_226 := n6_; clear n0_ n1_ n2_ n3_ n4_ n5_ n6_; clear hb hbox hg) | ((with_reducible refine gate_dst (N := 6) rfl ?_); refine box_event ?hg (N := 6) ?hd (cs := #[.int .i64 0, .int .i64 0, .int .i64 0]) (t := 144) ?hr ?_; (case hd => rfl); (case hg => rfl); (case hr => first | (go_simp; done) | (go_simp; rfl)); intro gb228 hg w8 hbox hb; have n0_ := Aside0.mk (blk_below (g := gb226) (o := .cells #[.int .i64 a1_0, .int .i64 a1_1] 35 (0, 0)) (by (with_reducible repeat (first | refine blk_drewN ?_ _ | refine blk_drew ?_ | refine blk_alloc ?_ _)); exact BK226.out) hb); have n1_ := Aside0.mk (blk_below (g := gb227) (o := .cells #[.int .i64 a2_0, .int .i64 a2_1] 35 (0, 0)) (by (with_reducible repeat (first | refine blk_drewN ?_ _ | refine blk_drew ?_ | refine blk_alloc ?_ _)); exact BK227.out) hb); have n2_ := Aside0.mk (below_step (by repeat (first | (with_reducible first | exact HB.out | apply below_alloc | apply pw_below_drewN | apply below_drew1 | refine below_set ?_ GE226.out | refine below_set ?_ GE227.out) | exact HB.out)) hb); have n3_ := Aside0.mk (hbox); have n4_ := Aside0.mk ((by rw [hg]; exact (below_size (by repeat (first | (with_reducible first | exact HB.out | apply below_alloc | apply pw_below_drewN | apply below_drew1 | refine below_set ?_ GE226.out | refine below_set ?_ GE227.out) | exact HB.out))) : w.heap.size ≤ gb228)); have n5_ := Aside0.mk ((by rw [hg]; exact (below_size (by repeat (first | (with_reducible first | exact HB.out | apply below_alloc | apply pw_below_drewN | apply below_drew1 | refine below_set ?_ GE226.out | refine below_set ?_ GE227.out) | exact HB.out))) : w.heap.size ≤ gb228)); have n6_ := Aside0.mk ((by rw [hg]; exact Nat.ne_of_lt (blk_lt (g := gb226) (o := .cells #[.int .i64 a1_0, .int .i64 a1_1] 35 (0, 0)) (by (with_reducible repeat (first | refine blk_drewN ?_ _ | refine blk_drew ?_ | refine blk_alloc ?_ _)); exact BK226.out)) : gb226 ≠ gb228)); have n7_ := Aside0.mk ((by rw [hg]; exact Nat.ne_of_gt (blk_lt (g := gb226) (o := .cells #[.int .i64 a1_0, .int .i64 a1_1] 35 (0, 0)) (by (with_reducible repeat (first | refine blk_drewN ?_ _ | refine blk_drew ?_ | refine blk_alloc ?_ _)); exact BK226.out)) : gb228 ≠ gb226)); have n8_ := Aside0.mk ((by rw [hg]; exact Nat.ne_of_lt (blk_lt (g := gb227) (o := .cells #[.int .i64 a2_0, .int .i64 a2_1] 35 (0, 0)) (by (with_reducible repeat (first | refine blk_drewN ?_ _ | refine blk_drew ?_ | refine blk_alloc ?_ _)); exact BK227.out)) : gb227 ≠ gb228)); have n9_ := Aside0.mk ((by rw [hg]; exact Nat.ne_of_gt (blk_lt (g := gb227) (o := .cells #[.int .i64 a2_0, .int .i64 a2_1] 35 (0, 0)) (by (with_reducible repeat (first | refine blk_drewN ?_ _ | refine blk_drew ?_ | refine blk_alloc ?_ _)); exact BK227.out)) : gb228 ≠ gb227)); clear BK226; clear BK227; clear HB; have BK226 := n0_; have BK227 := n1_; have HB := n2_; have BK228 := n3_; have GW228 := n4_; have GE228 := n5_; have NB226_228 := n6_; have NB228_226 := n7_; have NB227_228 := n8_; have NB228_227 := n9_; clear n0_ n1_ n2_ n3_ n4_ n5_ n6_ n7_ n8_ n9_; clear hb hbox hg; have hnb9 := NB226_227.out; have hnc9 := NB227_226.out; have hnb10 := NB226_228.out; have hnc10 := NB228_226.out; have hcz11_0 : w8.cell? ⟨gb226, 0, none⟩ = some (.int .i64 a1_0) := (blk_cell BK226.out 0).trans rfl; have hcz11_1 : w8.cell? ⟨gb226, 1, none⟩ = some (.int .i64 a1_1) := (blk_cell BK226.out 1).trans rfl; have hfz11_0 := blk_frozen BK226.out 0; have hfz11_1 := blk_frozen BK226.out 1; have hnb12 := NB227_228.out; have hnc12 := NB228_227.out; have hcz13_0 : w8.cell? ⟨gb227, 0, none⟩ = some (.int .i64 a2_0) := (blk_cell BK227.out 0).trans rfl; have hcz13_1 : w8.cell? ⟨gb227, 1, none⟩ = some (.int .i64 a2_1) := (blk_cell BK227.out 1).trans rfl; have hfz13_0 := blk_frozen BK227.out 0; have hfz13_1 := blk_frozen BK227.out 1))
    (try simp only [Act.put, List.setIfInBounds_toArray, List.set_cons_zero, List.set_cons_succ])
    go_cut [18] (fun v18 wc => ∃ (kq : Nat) (x18_4 : Bool), v18 = .bool x18_4 ∧ Aside0 (spinetref04_two.j0 kq a0 x18_4 a1_0 a1_1 a2_0 a2_1 = some (r1, r2, r3)) ∧ Aside0 (kq ≤ k) ∧ Aside0 (wc.heap[gb226]? = some (.cells #[.int .i64 a1_0, .int .i64 a1_1] 35 (0, 0))) ∧ Aside0 (wc.heap[gb227]? = some (.cells #[.int .i64 a2_0, .int .i64 a2_1] 35 (0, 0))) ∧ Aside0 (wc.heap[gb228]? = some (.cells #[.int .i64 0, .int .i64 0, .int .i64 0] 144 (0, 0))) ∧ Aside0 (Below w.heap.size w wc))
    case first =>
      have H := HC5.out
      clear HC5
      by_cases c14 : a0 = 10
      · rw [if_pos c14] at H
        have c14b0 : (a0 == 10) = true := beq_iff_eq.mpr c14
        have c14b1 : (a0 != 10) = false := bne_eq_false_iff_eq.mpr c14
        clear c14
        (first | rw [c14b0] | (simp only [i64_w, i32_w]; rw [c14b0]) | skip)
        have H' := Aside0.mk H
        clear H
        go_wp2
        go_meet
        case rel => exact ⟨_, (true), (by first | rfl | (simp; done) | (simp [*]; done)), H', ⟨by first | omega | exact Nat.le_refl _⟩, ⟨by (with_reducible repeat (first | refine blk_drewN ?_ _ | refine blk_drew ?_ | refine blk_alloc ?_ _)); exact BK226.out⟩, ⟨by (with_reducible repeat (first | refine blk_drewN ?_ _ | refine blk_drew ?_ | refine blk_alloc ?_ _)); exact BK227.out⟩, ⟨by (with_reducible repeat (first | refine blk_drewN ?_ _ | refine blk_drew ?_ | refine blk_alloc ?_ _)); exact BK228.out⟩, ⟨by repeat (first | (with_reducible first | exact HB.out | apply below_alloc | apply pw_below_drewN | apply below_drew1 | refine below_set ?_ GE226.out | refine below_set ?_ GE227.out | refine below_set ?_ GE228.out) | exact HB.out)⟩⟩
      · rw [if_neg c14] at H
        have c14b0 : (a0 == 10) = false := beq_eq_false_iff_ne.mpr c14
        have c14b1 : (a0 != 10) = true := bne_iff_ne.mpr c14
        (first | rw [c14b0] | (simp only [i64_w, i32_w]; rw [c14b0]) | skip)
        have H' := Aside0.mk H
        clear H
        go_wp2
        go_meet
        case rel => exact ⟨_, ((a0 == 11)), (by first | rfl | (simp; done) | (simp [*]; done)), H', ⟨by first | omega | exact Nat.le_refl _⟩, ⟨by (with_reducible repeat (first | refine blk_drewN ?_ _ | refine blk_drew ?_ | refine blk_alloc ?_ _)); exact BK226.out⟩, ⟨by (with_reducible repeat (first | refine blk_drewN ?_ _ | refine blk_drew ?_ | refine blk_alloc ?_ _)); exact BK227.out⟩, ⟨by (with_reducible repeat (first | refine blk_drewN ?_ _ | refine blk_drew ?_ | refine blk_alloc ?_ _)); exact BK228.out⟩, ⟨by repeat (first | (with_reducible first | exact HB.out | apply below_alloc | apply pw_below_drewN | apply below_drew1 | refine below_set ?_ GE226.out | refine below_set ?_ GE227.out | refine below_set ?_ GE228.out) | exact HB.out)⟩⟩
    case rest =>
      clear HC5
      try clear c1
      try clear p2
      try clear c4
      try clear c4b0
      try clear c4b1
      try clear c9
      try clear c10
      try clear c12
      try clear c14
      try clear c14b0
      try clear c14b1
      try clear hcz11_0
      try clear hcz11_1
      try clear hcz13_0
      try clear hcz13_1
      try clear hfz11_0
      try clear hfz11_1
      try clear hfz13_0
      try clear hfz13_1
      obtain ⟨kq, x18_4, rfl, HA, HJ4, BK226, BK227, BK228, HB⟩ := hcut
      cases kq with
      | zero => exact absurd HA.out (by simp [spinetref04_two.j0])
      | succ kj4 =>
        have H := HA.out
        clear HA
        simp only [spinetref04_two.j0] at H
        by_cases c15 : x18_4 = true
        · subst c15
          have H1 : ((spinetref04_truth.f ((a1_1 == a2_1) == (a0 == 10))).bind fun bt229 => (some (bt229.1, bt229.2.1, bt229.2.2))) = some (r1, r2, r3) := by rw [if_pos rfl] at H; exact H
          clear H
          have H := H1
          clear H1
          replace H := Option.bind_eq_some_iff.mp H
          obtain ⟨⟨t229, t230, t231⟩, A160, H⟩ := H
          replace H : (some (t229, t230, t231)) = some (r1, r2, r3) := H
          have A16 := Aside0.mk A160
          clear A160
          simp only [Option.some.injEq, Prod.mk.injEq] at H
          obtain ⟨rfl, rfl, rfl⟩ := H
          have hnb17 := NB226_227.out
          have hnc17 := NB227_226.out
          have hnb18 := NB226_228.out
          have hnc18 := NB228_226.out
          have hcz19_0 : wc.cell? ⟨gb226, 0, none⟩ = some (.int .i64 a1_0) := (blk_cell BK226.out 0).trans rfl
          have hcz19_1 : wc.cell? ⟨gb226, 1, none⟩ = some (.int .i64 a1_1) := (blk_cell BK226.out 1).trans rfl
          have hfz19_0 := blk_frozen BK226.out 0
          have hfz19_1 := blk_frozen BK226.out 1
          have hnb20 := NB227_228.out
          have hnc20 := NB228_227.out
          have hcz21_0 : wc.cell? ⟨gb227, 0, none⟩ = some (.int .i64 a2_0) := (blk_cell BK227.out 0).trans rfl
          have hcz21_1 : wc.cell? ⟨gb227, 1, none⟩ = some (.int .i64 a2_1) := (blk_cell BK227.out 1).trans rfl
          have hfz21_0 := blk_frozen BK227.out 0
          have hfz21_1 := blk_frozen BK227.out 1
          go_wp2_with (first | ((with_reducible refine gate_callee (f := 124) rfl ?_); refine goesL_ (some 27) rfl rfl Tryz.func124 (by kernel_rfl) rfl #[.bool ((a1_1 == a2_1) == (a0 == 10))] rfl (by (try simp only [List.map_toArray, List.map_cons, List.map_nil]); first | done | rfl | (simp only [List.length_drop, List.length_take]; rfl)) ?_; (with_reducible refine (spinetref04_truth.calls ((a1_1 == a2_1) == (a0 == 10)) t229 t230 t231 _ A16.out).mono ?_); rintro e w22 ⟨rfl, hb⟩; refine ⟨_, rfl, ?_⟩; have n0_ := Aside0.mk (blk_below (g := gb226) (o := .cells #[.int .i64 a1_0, .int .i64 a1_1] 35 (0, 0)) (by (with_reducible repeat (first | refine blk_drewN ?_ _ | refine blk_drew ?_ | refine blk_alloc ?_ _)); exact BK226.out) hb); have n1_ := Aside0.mk (blk_below (g := gb227) (o := .cells #[.int .i64 a2_0, .int .i64 a2_1] 35 (0, 0)) (by (with_reducible repeat (first | refine blk_drewN ?_ _ | refine blk_drew ?_ | refine blk_alloc ?_ _)); exact BK227.out) hb); have n2_ := Aside0.mk (blk_below (g := gb228) (o := .cells #[.int .i64 0, .int .i64 0, .int .i64 0] 144 (0, 0)) (by (with_reducible repeat (first | refine blk_drewN ?_ _ | refine blk_drew ?_ | refine blk_alloc ?_ _)); exact BK228.out) hb); have n3_ := Aside0.mk (below_step (by repeat (first | (with_reducible first | exact HB.out | apply below_alloc | apply pw_below_drewN | apply below_drew1 | refine below_set ?_ GE226.out | refine below_set ?_ GE227.out | refine below_set ?_ GE228.out) | exact HB.out)) hb); clear BK226; clear BK227; clear BK228; clear HB; have BK226 := n0_; have BK227 := n1_; have BK228 := n2_; have HB := n3_; clear n0_ n1_ n2_ n3_; (try clear hb); (try clear hb2); (try clear hk); (try clear hi); have hcz23_0 : w22.cell? ⟨gb228, 0, none⟩ = some (.int .i64 0) := (blk_cell BK228.out 0).trans rfl; have hcz23_1 : w22.cell? ⟨gb228, 1, none⟩ = some (.int .i64 0) := (blk_cell BK228.out 1).trans rfl; have hcz23_2 : w22.cell? ⟨gb228, 2, none⟩ = some (.int .i64 0) := (blk_cell BK228.out 2).trans rfl; have hfz23_0 := blk_frozen BK228.out 0; have hfz23_1 := blk_frozen BK228.out 1; have hfz23_2 := blk_frozen BK228.out 2))
          refine bodyPost_ret (results_cell_row rfl _ _ gb228 144 #[.int .i64 t229, .int .i64 t230, .int .i64 t231] (0, 0) _ rfl (by (with_reducible repeat (first | refine blk_drewN ?_ _ | refine blk_drew ?_ | refine blk_alloc ?_ _)); refine blk_put (cs := #[.int .i64 t229, .int .i64 t230, .int .i64 0]) ?_ 2 _ rfl; (with_reducible repeat (first | refine blk_drewN ?_ _ | refine blk_drew ?_ | refine blk_alloc ?_ _)); refine blk_put (cs := #[.int .i64 t229, .int .i64 0, .int .i64 0]) ?_ 1 _ rfl; (with_reducible repeat (first | refine blk_drewN ?_ _ | refine blk_drew ?_ | refine blk_alloc ?_ _)); refine blk_put (cs := #[.int .i64 0, .int .i64 0, .int .i64 0]) ?_ 0 _ rfl; (with_reducible repeat (first | refine blk_drewN ?_ _ | refine blk_drew ?_ | refine blk_alloc ?_ _)); exact BK228.out) Tryz.underlying144 rfl (by kernel_rfl)) rfl ?_
          exact ⟨by first | rfl | (simp [errW_none, errW_some] <;> rfl) | (simp [*, errW_none, errW_some] <;> rfl), by repeat (first | (with_reducible first | exact HB.out | apply below_alloc | apply pw_below_drewN | apply below_drew1 | refine below_set ?_ GE226.out | refine below_set ?_ GE227.out | refine below_set ?_ GE228.out) | exact HB.out)⟩
        · replace c15 := Bool.eq_false_iff.mpr c15
          subst c15
          have H1 : (if a1_0 = 2 then (if a0 = 12 then (if a1_1 = 1 then ((spinetref04_truth.f (a2_1 == 1)).bind fun bt232 => (some (bt232.1, bt232.2.1, bt232.2.2))) else ((spinetref04_truth.f false).bind fun bt235 => (some (bt235.1, bt235.2.1, bt235.2.2)))) else (if a0 = 13 then (if a1_1 = 1 then ((spinetref04_truth.f true).bind fun bt238 => (some (bt238.1, bt238.2.1, bt238.2.2))) else ((spinetref04_truth.f (a2_1 == 1)).bind fun bt241 => (some (bt241.1, bt241.2.1, bt241.2.2)))) else (some (0, 0, 8)))) else (if a0 = 6 then (spinetref04_two.j1 kj4 a0 (a2_1 == 0) a1_0 a1_1 a2_0 a2_1) else (if a0 = 7 then (spinetref04_two.j1 kj4 a0 (a2_1 == 0) a1_0 a1_1 a2_0 a2_1) else (spinetref04_two.j1 kj4 a0 false a1_0 a1_1 a2_0 a2_1)))) = some (r1, r2, r3) := by rw [if_neg (show ¬ (false = true) by decide)] at H; exact H
          clear H
          have H := H1
          clear H1
          by_cases c24 : a1_0 = 2
          · rw [if_pos c24] at H
            have c24b0 : (a1_0 == 2) = true := beq_iff_eq.mpr c24
            have c24b1 : (a1_0 != 2) = false := bne_eq_false_iff_eq.mpr c24
            clear c24
            by_cases c25 : a0 = 12
            · rw [if_pos c25] at H
              have c25b0 : (a0 == 12) = true := beq_iff_eq.mpr c25
              have c25b1 : (a0 != 12) = false := bne_eq_false_iff_eq.mpr c25
              clear c25
              by_cases c26 : a1_1 = 1
              · rw [if_pos c26] at H
                have c26b0 : (a1_1 == 1) = true := beq_iff_eq.mpr c26
                have c26b1 : (a1_1 != 1) = false := bne_eq_false_iff_eq.mpr c26
                clear c26
                replace H := Option.bind_eq_some_iff.mp H
                obtain ⟨⟨t232, t233, t234⟩, A270, H⟩ := H
                replace H : (some (t232, t233, t234)) = some (r1, r2, r3) := H
                have A27 := Aside0.mk A270
                clear A270
                simp only [Option.some.injEq, Prod.mk.injEq] at H
                obtain ⟨rfl, rfl, rfl⟩ := H
                have hnb28 := NB226_227.out
                have hnc28 := NB227_226.out
                have hnb29 := NB226_228.out
                have hnc29 := NB228_226.out
                have hcz30_0 : wc.cell? ⟨gb226, 0, none⟩ = some (.int .i64 a1_0) := (blk_cell BK226.out 0).trans rfl
                have hcz30_1 : wc.cell? ⟨gb226, 1, none⟩ = some (.int .i64 a1_1) := (blk_cell BK226.out 1).trans rfl
                have hfz30_0 := blk_frozen BK226.out 0
                have hfz30_1 := blk_frozen BK226.out 1
                have hnb31 := NB227_228.out
                have hnc31 := NB228_227.out
                have hcz32_0 : wc.cell? ⟨gb227, 0, none⟩ = some (.int .i64 a2_0) := (blk_cell BK227.out 0).trans rfl
                have hcz32_1 : wc.cell? ⟨gb227, 1, none⟩ = some (.int .i64 a2_1) := (blk_cell BK227.out 1).trans rfl
                have hfz32_0 := blk_frozen BK227.out 0
                have hfz32_1 := blk_frozen BK227.out 1
                go_wp2_with (first | ((with_reducible refine gate_callee (f := 124) rfl ?_); refine goesL_ (some 41) rfl rfl Tryz.func124 (by kernel_rfl) rfl #[.bool (a2_1 == 1)] rfl (by (try simp only [List.map_toArray, List.map_cons, List.map_nil]); first | done | rfl | (simp only [List.length_drop, List.length_take]; rfl)) ?_; (with_reducible refine (spinetref04_truth.calls (a2_1 == 1) t232 t233 t234 _ A27.out).mono ?_); rintro e w33 ⟨rfl, hb⟩; refine ⟨_, rfl, ?_⟩; have n0_ := Aside0.mk (blk_below (g := gb226) (o := .cells #[.int .i64 a1_0, .int .i64 a1_1] 35 (0, 0)) (by (with_reducible repeat (first | refine blk_drewN ?_ _ | refine blk_drew ?_ | refine blk_alloc ?_ _)); exact BK226.out) hb); have n1_ := Aside0.mk (blk_below (g := gb227) (o := .cells #[.int .i64 a2_0, .int .i64 a2_1] 35 (0, 0)) (by (with_reducible repeat (first | refine blk_drewN ?_ _ | refine blk_drew ?_ | refine blk_alloc ?_ _)); exact BK227.out) hb); have n2_ := Aside0.mk (blk_below (g := gb228) (o := .cells #[.int .i64 0, .int .i64 0, .int .i64 0] 144 (0, 0)) (by (with_reducible repeat (first | refine blk_drewN ?_ _ | refine blk_drew ?_ | refine blk_alloc ?_ _)); exact BK228.out) hb); have n3_ := Aside0.mk (below_step (by repeat (first | (with_reducible first | exact HB.out | apply below_alloc | apply pw_below_drewN | apply below_drew1 | refine below_set ?_ GE226.out | refine below_set ?_ GE227.out | refine below_set ?_ GE228.out) | exact HB.out)) hb); clear BK226; clear BK227; clear BK228; clear HB; have BK226 := n0_; have BK227 := n1_; have BK228 := n2_; have HB := n3_; clear n0_ n1_ n2_ n3_; (try clear hb); (try clear hb2); (try clear hk); (try clear hi); have hcz34_0 : w33.cell? ⟨gb228, 0, none⟩ = some (.int .i64 0) := (blk_cell BK228.out 0).trans rfl; have hcz34_1 : w33.cell? ⟨gb228, 1, none⟩ = some (.int .i64 0) := (blk_cell BK228.out 1).trans rfl; have hcz34_2 : w33.cell? ⟨gb228, 2, none⟩ = some (.int .i64 0) := (blk_cell BK228.out 2).trans rfl; have hfz34_0 := blk_frozen BK228.out 0; have hfz34_1 := blk_frozen BK228.out 1; have hfz34_2 := blk_frozen BK228.out 2))
                refine bodyPost_ret (results_cell_row rfl _ _ gb228 144 #[.int .i64 t232, .int .i64 t233, .int .i64 t234] (0, 0) _ rfl (by (with_reducible repeat (first | refine blk_drewN ?_ _ | refine blk_drew ?_ | refine blk_alloc ?_ _)); refine blk_put (cs := #[.int .i64 t232, .int .i64 t233, .int .i64 0]) ?_ 2 _ rfl; (with_reducible repeat (first | refine blk_drewN ?_ _ | refine blk_drew ?_ | refine blk_alloc ?_ _)); refine blk_put (cs := #[.int .i64 t232, .int .i64 0, .int .i64 0]) ?_ 1 _ rfl; (with_reducible repeat (first | refine blk_drewN ?_ _ | refine blk_drew ?_ | refine blk_alloc ?_ _)); refine blk_put (cs := #[.int .i64 0, .int .i64 0, .int .i64 0]) ?_ 0 _ rfl; (with_reducible repeat (first | refine blk_drewN ?_ _ | refine blk_drew ?_ | refine blk_alloc ?_ _)); exact BK228.out) Tryz.underlying144 rfl (by kernel_rfl)) rfl ?_
                exact ⟨by first | rfl | (simp [errW_none, errW_some] <;> rfl) | (simp [*, errW_none, errW_some] <;> rfl), by repeat (first | (with_reducible first | exact HB.out | apply below_alloc | apply pw_below_drewN | apply below_drew1 | refine below_set ?_ GE226.out | refine below_set ?_ GE227.out | refine below_set ?_ GE228.out) | exact HB.out)⟩
              · rw [if_neg c26] at H
                have c26b0 : (a1_1 == 1) = false := beq_eq_false_iff_ne.mpr c26
                have c26b1 : (a1_1 != 1) = true := bne_iff_ne.mpr c26
                replace H := Option.bind_eq_some_iff.mp H
                obtain ⟨⟨t235, t236, t237⟩, A350, H⟩ := H
                replace H : (some (t235, t236, t237)) = some (r1, r2, r3) := H
                have A35 := Aside0.mk A350
                clear A350
                simp only [Option.some.injEq, Prod.mk.injEq] at H
                obtain ⟨rfl, rfl, rfl⟩ := H
                have hnb36 := NB226_227.out
                have hnc36 := NB227_226.out
                have hnb37 := NB226_228.out
                have hnc37 := NB228_226.out
                have hcz38_0 : wc.cell? ⟨gb226, 0, none⟩ = some (.int .i64 a1_0) := (blk_cell BK226.out 0).trans rfl
                have hcz38_1 : wc.cell? ⟨gb226, 1, none⟩ = some (.int .i64 a1_1) := (blk_cell BK226.out 1).trans rfl
                have hfz38_0 := blk_frozen BK226.out 0
                have hfz38_1 := blk_frozen BK226.out 1
                go_wp2_with (first | ((with_reducible refine gate_callee (f := 124) rfl ?_); refine goesL_ (some 41) rfl rfl Tryz.func124 (by kernel_rfl) rfl #[.bool false] rfl (by (try simp only [List.map_toArray, List.map_cons, List.map_nil]); first | done | rfl | (simp only [List.length_drop, List.length_take]; rfl)) ?_; (with_reducible refine (spinetref04_truth.calls false t235 t236 t237 _ A35.out).mono ?_); rintro e w39 ⟨rfl, hb⟩; refine ⟨_, rfl, ?_⟩; have n0_ := Aside0.mk (blk_below (g := gb226) (o := .cells #[.int .i64 a1_0, .int .i64 a1_1] 35 (0, 0)) (by (with_reducible repeat (first | refine blk_drewN ?_ _ | refine blk_drew ?_ | refine blk_alloc ?_ _)); exact BK226.out) hb); have n1_ := Aside0.mk (blk_below (g := gb227) (o := .cells #[.int .i64 a2_0, .int .i64 a2_1] 35 (0, 0)) (by (with_reducible repeat (first | refine blk_drewN ?_ _ | refine blk_drew ?_ | refine blk_alloc ?_ _)); exact BK227.out) hb); have n2_ := Aside0.mk (blk_below (g := gb228) (o := .cells #[.int .i64 0, .int .i64 0, .int .i64 0] 144 (0, 0)) (by (with_reducible repeat (first | refine blk_drewN ?_ _ | refine blk_drew ?_ | refine blk_alloc ?_ _)); exact BK228.out) hb); have n3_ := Aside0.mk (below_step (by repeat (first | (with_reducible first | exact HB.out | apply below_alloc | apply pw_below_drewN | apply below_drew1 | refine below_set ?_ GE226.out | refine below_set ?_ GE227.out | refine below_set ?_ GE228.out) | exact HB.out)) hb); clear BK226; clear BK227; clear BK228; clear HB; have BK226 := n0_; have BK227 := n1_; have BK228 := n2_; have HB := n3_; clear n0_ n1_ n2_ n3_; (try clear hb); (try clear hb2); (try clear hk); (try clear hi); have hnb40 := NB228_227.out; have hnc40 := NB227_228.out; have hcz41_0 : w39.cell? ⟨gb228, 0, none⟩ = some (.int .i64 0) := (blk_cell BK228.out 0).trans rfl; have hcz41_1 : w39.cell? ⟨gb228, 1, none⟩ = some (.int .i64 0) := (blk_cell BK228.out 1).trans rfl; have hcz41_2 : w39.cell? ⟨gb228, 2, none⟩ = some (.int .i64 0) := (blk_cell BK228.out 2).trans rfl; have hfz41_0 := blk_frozen BK228.out 0; have hfz41_1 := blk_frozen BK228.out 1; have hfz41_2 := blk_frozen BK228.out 2))
                refine bodyPost_ret (results_cell_row rfl _ _ gb228 144 #[.int .i64 t235, .int .i64 t236, .int .i64 t237] (0, 0) _ rfl (by (with_reducible repeat (first | refine blk_drewN ?_ _ | refine blk_drew ?_ | refine blk_alloc ?_ _)); refine blk_put (cs := #[.int .i64 t235, .int .i64 t236, .int .i64 0]) ?_ 2 _ rfl; (with_reducible repeat (first | refine blk_drewN ?_ _ | refine blk_drew ?_ | refine blk_alloc ?_ _)); refine blk_put (cs := #[.int .i64 t235, .int .i64 0, .int .i64 0]) ?_ 1 _ rfl; (with_reducible repeat (first | refine blk_drewN ?_ _ | refine blk_drew ?_ | refine blk_alloc ?_ _)); refine blk_put (cs := #[.int .i64 0, .int .i64 0, .int .i64 0]) ?_ 0 _ rfl; (with_reducible repeat (first | refine blk_drewN ?_ _ | refine blk_drew ?_ | refine blk_alloc ?_ _)); exact BK228.out) Tryz.underlying144 rfl (by kernel_rfl)) rfl ?_
                exact ⟨by first | rfl | (simp [errW_none, errW_some] <;> rfl) | (simp [*, errW_none, errW_some] <;> rfl), by repeat (first | (with_reducible first | exact HB.out | apply below_alloc | apply pw_below_drewN | apply below_drew1 | refine below_set ?_ GE226.out | refine below_set ?_ GE227.out | refine below_set ?_ GE228.out) | exact HB.out)⟩
            · rw [if_neg c25] at H
              have c25b0 : (a0 == 12) = false := beq_eq_false_iff_ne.mpr c25
              have c25b1 : (a0 != 12) = true := bne_iff_ne.mpr c25
              by_cases c42 : a0 = 13
              · rw [if_pos c42] at H
                have c42b0 : (a0 == 13) = true := beq_iff_eq.mpr c42
                have c42b1 : (a0 != 13) = false := bne_eq_false_iff_eq.mpr c42
                clear c42
                by_cases c43 : a1_1 = 1
                · rw [if_pos c43] at H
                  have c43b0 : (a1_1 == 1) = true := beq_iff_eq.mpr c43
                  have c43b1 : (a1_1 != 1) = false := bne_eq_false_iff_eq.mpr c43
                  clear c43
                  replace H := Option.bind_eq_some_iff.mp H
                  obtain ⟨⟨t238, t239, t240⟩, A440, H⟩ := H
                  replace H : (some (t238, t239, t240)) = some (r1, r2, r3) := H
                  have A44 := Aside0.mk A440
                  clear A440
                  simp only [Option.some.injEq, Prod.mk.injEq] at H
                  obtain ⟨rfl, rfl, rfl⟩ := H
                  have hnb45 := NB226_227.out
                  have hnc45 := NB227_226.out
                  have hnb46 := NB226_228.out
                  have hnc46 := NB228_226.out
                  have hcz47_0 : wc.cell? ⟨gb226, 0, none⟩ = some (.int .i64 a1_0) := (blk_cell BK226.out 0).trans rfl
                  have hcz47_1 : wc.cell? ⟨gb226, 1, none⟩ = some (.int .i64 a1_1) := (blk_cell BK226.out 1).trans rfl
                  have hfz47_0 := blk_frozen BK226.out 0
                  have hfz47_1 := blk_frozen BK226.out 1
                  go_wp2_with (first | ((with_reducible refine gate_callee (f := 124) rfl ?_); refine goesL_ (some 52) rfl rfl Tryz.func124 (by kernel_rfl) rfl #[.bool true] rfl (by (try simp only [List.map_toArray, List.map_cons, List.map_nil]); first | done | rfl | (simp only [List.length_drop, List.length_take]; rfl)) ?_; (with_reducible refine (spinetref04_truth.calls true t238 t239 t240 _ A44.out).mono ?_); rintro e w48 ⟨rfl, hb⟩; refine ⟨_, rfl, ?_⟩; have n0_ := Aside0.mk (blk_below (g := gb226) (o := .cells #[.int .i64 a1_0, .int .i64 a1_1] 35 (0, 0)) (by (with_reducible repeat (first | refine blk_drewN ?_ _ | refine blk_drew ?_ | refine blk_alloc ?_ _)); exact BK226.out) hb); have n1_ := Aside0.mk (blk_below (g := gb227) (o := .cells #[.int .i64 a2_0, .int .i64 a2_1] 35 (0, 0)) (by (with_reducible repeat (first | refine blk_drewN ?_ _ | refine blk_drew ?_ | refine blk_alloc ?_ _)); exact BK227.out) hb); have n2_ := Aside0.mk (blk_below (g := gb228) (o := .cells #[.int .i64 0, .int .i64 0, .int .i64 0] 144 (0, 0)) (by (with_reducible repeat (first | refine blk_drewN ?_ _ | refine blk_drew ?_ | refine blk_alloc ?_ _)); exact BK228.out) hb); have n3_ := Aside0.mk (below_step (by repeat (first | (with_reducible first | exact HB.out | apply below_alloc | apply pw_below_drewN | apply below_drew1 | refine below_set ?_ GE226.out | refine below_set ?_ GE227.out | refine below_set ?_ GE228.out) | exact HB.out)) hb); clear BK226; clear BK227; clear BK228; clear HB; have BK226 := n0_; have BK227 := n1_; have BK228 := n2_; have HB := n3_; clear n0_ n1_ n2_ n3_; (try clear hb); (try clear hb2); (try clear hk); (try clear hi); have hnb49 := NB228_227.out; have hnc49 := NB227_228.out; have hcz50_0 : w48.cell? ⟨gb228, 0, none⟩ = some (.int .i64 0) := (blk_cell BK228.out 0).trans rfl; have hcz50_1 : w48.cell? ⟨gb228, 1, none⟩ = some (.int .i64 0) := (blk_cell BK228.out 1).trans rfl; have hcz50_2 : w48.cell? ⟨gb228, 2, none⟩ = some (.int .i64 0) := (blk_cell BK228.out 2).trans rfl; have hfz50_0 := blk_frozen BK228.out 0; have hfz50_1 := blk_frozen BK228.out 1; have hfz50_2 := blk_frozen BK228.out 2))
                  refine bodyPost_ret (results_cell_row rfl _ _ gb228 144 #[.int .i64 t238, .int .i64 t239, .int .i64 t240] (0, 0) _ rfl (by (with_reducible repeat (first | refine blk_drewN ?_ _ | refine blk_drew ?_ | refine blk_alloc ?_ _)); refine blk_put (cs := #[.int .i64 t238, .int .i64 t239, .int .i64 0]) ?_ 2 _ rfl; (with_reducible repeat (first | refine blk_drewN ?_ _ | refine blk_drew ?_ | refine blk_alloc ?_ _)); refine blk_put (cs := #[.int .i64 t238, .int .i64 0, .int .i64 0]) ?_ 1 _ rfl; (with_reducible repeat (first | refine blk_drewN ?_ _ | refine blk_drew ?_ | refine blk_alloc ?_ _)); refine blk_put (cs := #[.int .i64 0, .int .i64 0, .int .i64 0]) ?_ 0 _ rfl; (with_reducible repeat (first | refine blk_drewN ?_ _ | refine blk_drew ?_ | refine blk_alloc ?_ _)); exact BK228.out) Tryz.underlying144 rfl (by kernel_rfl)) rfl ?_
                  exact ⟨by first | rfl | (simp [errW_none, errW_some] <;> rfl) | (simp [*, errW_none, errW_some] <;> rfl), by repeat (first | (with_reducible first | exact HB.out | apply below_alloc | apply pw_below_drewN | apply below_drew1 | refine below_set ?_ GE226.out | refine below_set ?_ GE227.out | refine below_set ?_ GE228.out) | exact HB.out)⟩
                · rw [if_neg c43] at H
                  have c43b0 : (a1_1 == 1) = false := beq_eq_false_iff_ne.mpr c43
                  have c43b1 : (a1_1 != 1) = true := bne_iff_ne.mpr c43
                  replace H := Option.bind_eq_some_iff.mp H
                  obtain ⟨⟨t241, t242, t243⟩, A510, H⟩ := H
                  replace H : (some (t241, t242, t243)) = some (r1, r2, r3) := H
                  have A51 := Aside0.mk A510
                  clear A510
                  simp only [Option.some.injEq, Prod.mk.injEq] at H
                  obtain ⟨rfl, rfl, rfl⟩ := H
                  have hnb52 := NB226_227.out
                  have hnc52 := NB227_226.out
                  have hnb53 := NB226_228.out
                  have hnc53 := NB228_226.out
                  have hcz54_0 : wc.cell? ⟨gb226, 0, none⟩ = some (.int .i64 a1_0) := (blk_cell BK226.out 0).trans rfl
                  have hcz54_1 : wc.cell? ⟨gb226, 1, none⟩ = some (.int .i64 a1_1) := (blk_cell BK226.out 1).trans rfl
                  have hfz54_0 := blk_frozen BK226.out 0
                  have hfz54_1 := blk_frozen BK226.out 1
                  have hnb55 := NB227_228.out
                  have hnc55 := NB228_227.out
                  have hcz56_0 : wc.cell? ⟨gb227, 0, none⟩ = some (.int .i64 a2_0) := (blk_cell BK227.out 0).trans rfl
                  have hcz56_1 : wc.cell? ⟨gb227, 1, none⟩ = some (.int .i64 a2_1) := (blk_cell BK227.out 1).trans rfl
                  have hfz56_0 := blk_frozen BK227.out 0
                  have hfz56_1 := blk_frozen BK227.out 1
                  go_wp2_with (first | ((with_reducible refine gate_callee (f := 124) rfl ?_); refine goesL_ (some 52) rfl rfl Tryz.func124 (by kernel_rfl) rfl #[.bool (a2_1 == 1)] rfl (by (try simp only [List.map_toArray, List.map_cons, List.map_nil]); first | done | rfl | (simp only [List.length_drop, List.length_take]; rfl)) ?_; (with_reducible refine (spinetref04_truth.calls (a2_1 == 1) t241 t242 t243 _ A51.out).mono ?_); rintro e w57 ⟨rfl, hb⟩; refine ⟨_, rfl, ?_⟩; have n0_ := Aside0.mk (blk_below (g := gb226) (o := .cells #[.int .i64 a1_0, .int .i64 a1_1] 35 (0, 0)) (by (with_reducible repeat (first | refine blk_drewN ?_ _ | refine blk_drew ?_ | refine blk_alloc ?_ _)); exact BK226.out) hb); have n1_ := Aside0.mk (blk_below (g := gb227) (o := .cells #[.int .i64 a2_0, .int .i64 a2_1] 35 (0, 0)) (by (with_reducible repeat (first | refine blk_drewN ?_ _ | refine blk_drew ?_ | refine blk_alloc ?_ _)); exact BK227.out) hb); have n2_ := Aside0.mk (blk_below (g := gb228) (o := .cells #[.int .i64 0, .int .i64 0, .int .i64 0] 144 (0, 0)) (by (with_reducible repeat (first | refine blk_drewN ?_ _ | refine blk_drew ?_ | refine blk_alloc ?_ _)); exact BK228.out) hb); have n3_ := Aside0.mk (below_step (by repeat (first | (with_reducible first | exact HB.out | apply below_alloc | apply pw_below_drewN | apply below_drew1 | refine below_set ?_ GE226.out | refine below_set ?_ GE227.out | refine below_set ?_ GE228.out) | exact HB.out)) hb); clear BK226; clear BK227; clear BK228; clear HB; have BK226 := n0_; have BK227 := n1_; have BK228 := n2_; have HB := n3_; clear n0_ n1_ n2_ n3_; (try clear hb); (try clear hb2); (try clear hk); (try clear hi); have hcz58_0 : w57.cell? ⟨gb228, 0, none⟩ = some (.int .i64 0) := (blk_cell BK228.out 0).trans rfl; have hcz58_1 : w57.cell? ⟨gb228, 1, none⟩ = some (.int .i64 0) := (blk_cell BK228.out 1).trans rfl; have hcz58_2 : w57.cell? ⟨gb228, 2, none⟩ = some (.int .i64 0) := (blk_cell BK228.out 2).trans rfl; have hfz58_0 := blk_frozen BK228.out 0; have hfz58_1 := blk_frozen BK228.out 1; have hfz58_2 := blk_frozen BK228.out 2))
                  refine bodyPost_ret (results_cell_row rfl _ _ gb228 144 #[.int .i64 t241, .int .i64 t242, .int .i64 t243] (0, 0) _ rfl (by (with_reducible repeat (first | refine blk_drewN ?_ _ | refine blk_drew ?_ | refine blk_alloc ?_ _)); refine blk_put (cs := #[.int .i64 t241, .int .i64 t242, .int .i64 0]) ?_ 2 _ rfl; (with_reducible repeat (first | refine blk_drewN ?_ _ | refine blk_drew ?_ | refine blk_alloc ?_ _)); refine blk_put (cs := #[.int .i64 t241, .int .i64 0, .int .i64 0]) ?_ 1 _ rfl; (with_reducible repeat (first | refine blk_drewN ?_ _ | refine blk_drew ?_ | refine blk_alloc ?_ _)); refine blk_put (cs := #[.int .i64 0, .int .i64 0, .int .i64 0]) ?_ 0 _ rfl; (with_reducible repeat (first | refine blk_drewN ?_ _ | refine blk_drew ?_ | refine blk_alloc ?_ _)); exact BK228.out) Tryz.underlying144 rfl (by kernel_rfl)) rfl ?_
                  exact ⟨by first | rfl | (simp [errW_none, errW_some] <;> rfl) | (simp [*, errW_none, errW_some] <;> rfl), by repeat (first | (with_reducible first | exact HB.out | apply below_alloc | apply pw_below_drewN | apply below_drew1 | refine below_set ?_ GE226.out | refine below_set ?_ GE227.out | refine below_set ?_ GE228.out) | exact HB.out)⟩
              · rw [if_neg c42] at H
                have c42b0 : (a0 == 13) = false := beq_eq_false_iff_ne.mpr c42
                have c42b1 : (a0 != 13) = true := bne_iff_ne.mpr c42
                simp only [Option.some.injEq, Prod.mk.injEq] at H
                obtain ⟨rfl, rfl, rfl⟩ := H
                have hnb59 := NB226_227.out
                have hnc59 := NB227_226.out
                have hnb60 := NB226_228.out
                have hnc60 := NB228_226.out
                have hcz61_0 : wc.cell? ⟨gb226, 0, none⟩ = some (.int .i64 a1_0) := (blk_cell BK226.out 0).trans rfl
                have hcz61_1 : wc.cell? ⟨gb226, 1, none⟩ = some (.int .i64 a1_1) := (blk_cell BK226.out 1).trans rfl
                have hfz61_0 := blk_frozen BK226.out 0
                have hfz61_1 := blk_frozen BK226.out 1
                have hnb62 := NB228_227.out
                have hnc62 := NB227_228.out
                have hcz63_0 : wc.cell? ⟨gb228, 0, none⟩ = some (.int .i64 0) := (blk_cell BK228.out 0).trans rfl
                have hcz63_1 : wc.cell? ⟨gb228, 1, none⟩ = some (.int .i64 0) := (blk_cell BK228.out 1).trans rfl
                have hcz63_2 : wc.cell? ⟨gb228, 2, none⟩ = some (.int .i64 0) := (blk_cell BK228.out 2).trans rfl
                have hfz63_0 := blk_frozen BK228.out 0
                have hfz63_1 := blk_frozen BK228.out 1
                have hfz63_2 := blk_frozen BK228.out 2
                go_wp2
                refine bodyPost_ret (results_cell_row rfl _ _ gb228 144 #[.int .i64 0, .int .i64 0, .int .i64 8] (0, 0) _ rfl (by (with_reducible repeat (first | refine blk_drewN ?_ _ | refine blk_drew ?_ | refine blk_alloc ?_ _)); refine blk_put (cs := #[.int .i64 0, .int .i64 0, .int .i64 0]) ?_ 2 _ rfl; (with_reducible repeat (first | refine blk_drewN ?_ _ | refine blk_drew ?_ | refine blk_alloc ?_ _)); refine blk_put (cs := #[.int .i64 0, .int .i64 0, .int .i64 0]) ?_ 1 _ rfl; (with_reducible repeat (first | refine blk_drewN ?_ _ | refine blk_drew ?_ | refine blk_alloc ?_ _)); refine blk_put (cs := #[.int .i64 0, .int .i64 0, .int .i64 0]) ?_ 0 _ rfl; (with_reducible repeat (first | refine blk_drewN ?_ _ | refine blk_drew ?_ | refine blk_alloc ?_ _)); exact BK228.out) Tryz.underlying144 rfl (by kernel_rfl)) rfl ?_
                exact ⟨by first | rfl | (simp [errW_none, errW_some] <;> rfl) | (simp [*, errW_none, errW_some] <;> rfl), by repeat (first | (with_reducible first | exact HB.out | apply below_alloc | apply pw_below_drewN | apply below_drew1 | refine below_set ?_ GE226.out | refine below_set ?_ GE227.out | refine below_set ?_ GE228.out) | exact HB.out)⟩
          · rw [if_neg c24] at H
            have c24b0 : (a1_0 == 2) = false := beq_eq_false_iff_ne.mpr c24
            have c24b1 : (a1_0 != 2) = true := bne_iff_ne.mpr c24
            have HC64 := Aside0.mk H
            clear H
            have hnb65 := NB226_227.out
            have hnc65 := NB227_226.out
            have hnb66 := NB226_228.out
            have hnc66 := NB228_226.out
            have hcz67_0 : wc.cell? ⟨gb226, 0, none⟩ = some (.int .i64 a1_0) := (blk_cell BK226.out 0).trans rfl
            have hcz67_1 : wc.cell? ⟨gb226, 1, none⟩ = some (.int .i64 a1_1) := (blk_cell BK226.out 1).trans rfl
            have hfz67_0 := blk_frozen BK226.out 0
            have hfz67_1 := blk_frozen BK226.out 1
            go_upto_region 11 with (fail)
            go_cut [64] (fun v64 wc => ∃ (kq : Nat) (x64_63 : Bool), v64 = .bool x64_63 ∧ Aside0 (spinetref04_two.j1 kq a0 x64_63 a1_0 a1_1 a2_0 a2_1 = some (r1, r2, r3)) ∧ Aside0 (kq ≤ kj4) ∧ Aside0 (wc.heap[gb226]? = some (.cells #[.int .i64 a1_0, .int .i64 a1_1] 35 (0, 0))) ∧ Aside0 (wc.heap[gb227]? = some (.cells #[.int .i64 a2_0, .int .i64 a2_1] 35 (0, 0))) ∧ Aside0 (wc.heap[gb228]? = some (.cells #[.int .i64 0, .int .i64 0, .int .i64 0] 144 (0, 0))) ∧ Aside0 (Below w.heap.size w wc))
            case first =>
              have H := HC64.out
              clear HC64
              by_cases c68 : a0 = 6
              · rw [if_pos c68] at H
                have c68b0 : (a0 == 6) = true := beq_iff_eq.mpr c68
                have c68b1 : (a0 != 6) = false := bne_eq_false_iff_eq.mpr c68
                clear c68
                (first | rw [c68b0] | (simp only [i64_w, i32_w]; rw [c68b0]) | skip)
                have H' := Aside0.mk H
                clear H
                have hnb69 := NB227_226.out
                have hnc69 := NB226_227.out
                have hnb70 := NB227_228.out
                have hnc70 := NB228_227.out
                have hcz71_0 : wc.cell? ⟨gb227, 0, none⟩ = some (.int .i64 a2_0) := (blk_cell BK227.out 0).trans rfl
                have hcz71_1 : wc.cell? ⟨gb227, 1, none⟩ = some (.int .i64 a2_1) := (blk_cell BK227.out 1).trans rfl
                have hfz71_0 := blk_frozen BK227.out 0
                have hfz71_1 := blk_frozen BK227.out 1
                go_wp2
                go_meet
                case rel => exact ⟨_, ((a2_1 == 0)), (by first | rfl | (simp; done) | (simp [*]; done)), H', ⟨by have := HJ4.out; first | omega | exact Nat.le_refl _⟩, ⟨by (with_reducible repeat (first | refine blk_drewN ?_ _ | refine blk_drew ?_ | refine blk_alloc ?_ _)); exact BK226.out⟩, ⟨by (with_reducible repeat (first | refine blk_drewN ?_ _ | refine blk_drew ?_ | refine blk_alloc ?_ _)); exact BK227.out⟩, ⟨by (with_reducible repeat (first | refine blk_drewN ?_ _ | refine blk_drew ?_ | refine blk_alloc ?_ _)); exact BK228.out⟩, ⟨by repeat (first | (with_reducible first | exact HB.out | apply below_alloc | apply pw_below_drewN | apply below_drew1 | refine below_set ?_ GE226.out | refine below_set ?_ GE227.out | refine below_set ?_ GE228.out) | exact HB.out)⟩⟩
              · rw [if_neg c68] at H
                have c68b0 : (a0 == 6) = false := beq_eq_false_iff_ne.mpr c68
                have c68b1 : (a0 != 6) = true := bne_iff_ne.mpr c68
                (first | rw [c68b0] | (simp only [i64_w, i32_w]; rw [c68b0]) | skip)
                by_cases c72 : a0 = 7
                · rw [if_pos c72] at H
                  have c72b0 : (a0 == 7) = true := beq_iff_eq.mpr c72
                  have c72b1 : (a0 != 7) = false := bne_eq_false_iff_eq.mpr c72
                  clear c72
                  have H' := Aside0.mk H
                  clear H
                  have hnb73 := NB227_226.out
                  have hnc73 := NB226_227.out
                  have hnb74 := NB227_228.out
                  have hnc74 := NB228_227.out
                  have hcz75_0 : wc.cell? ⟨gb227, 0, none⟩ = some (.int .i64 a2_0) := (blk_cell BK227.out 0).trans rfl
                  have hcz75_1 : wc.cell? ⟨gb227, 1, none⟩ = some (.int .i64 a2_1) := (blk_cell BK227.out 1).trans rfl
                  have hfz75_0 := blk_frozen BK227.out 0
                  have hfz75_1 := blk_frozen BK227.out 1
                  go_wp2
                  go_meet
                  case rel => exact ⟨_, ((a2_1 == 0)), (by first | rfl | (simp; done) | (simp [*]; done)), H', ⟨by have := HJ4.out; first | omega | exact Nat.le_refl _⟩, ⟨by (with_reducible repeat (first | refine blk_drewN ?_ _ | refine blk_drew ?_ | refine blk_alloc ?_ _)); exact BK226.out⟩, ⟨by (with_reducible repeat (first | refine blk_drewN ?_ _ | refine blk_drew ?_ | refine blk_alloc ?_ _)); exact BK227.out⟩, ⟨by (with_reducible repeat (first | refine blk_drewN ?_ _ | refine blk_drew ?_ | refine blk_alloc ?_ _)); exact BK228.out⟩, ⟨by repeat (first | (with_reducible first | exact HB.out | apply below_alloc | apply pw_below_drewN | apply below_drew1 | refine below_set ?_ GE226.out | refine below_set ?_ GE227.out | refine below_set ?_ GE228.out) | exact HB.out)⟩⟩
                · rw [if_neg c72] at H
                  have c72b0 : (a0 == 7) = false := beq_eq_false_iff_ne.mpr c72
                  have c72b1 : (a0 != 7) = true := bne_iff_ne.mpr c72
                  have H' := Aside0.mk H
                  clear H
                  go_wp2
                  go_meet
                  case rel => exact ⟨_, (false), (by first | rfl | (simp; done) | (simp [*]; done)), H', ⟨by have := HJ4.out; first | omega | exact Nat.le_refl _⟩, ⟨by (with_reducible repeat (first | refine blk_drewN ?_ _ | refine blk_drew ?_ | refine blk_alloc ?_ _)); exact BK226.out⟩, ⟨by (with_reducible repeat (first | refine blk_drewN ?_ _ | refine blk_drew ?_ | refine blk_alloc ?_ _)); exact BK227.out⟩, ⟨by (with_reducible repeat (first | refine blk_drewN ?_ _ | refine blk_drew ?_ | refine blk_alloc ?_ _)); exact BK228.out⟩, ⟨by repeat (first | (with_reducible first | exact HB.out | apply below_alloc | apply pw_below_drewN | apply below_drew1 | refine below_set ?_ GE226.out | refine below_set ?_ GE227.out | refine below_set ?_ GE228.out) | exact HB.out)⟩⟩
            case rest =>
              clear HC64
              try clear c1
              try clear c2
              try clear p2
              try clear c3
              try clear c4
              try clear c4b0
              try clear c4b1
              try clear c5
              try clear c6
              try clear c7
              try clear c9
              try clear c10
              try clear c12
              try clear c14
              try clear c14b0
              try clear c14b1
              try clear c15
              try clear c17
              try clear c18
              try clear c20
              try clear c24
              try clear c24b0
              try clear c24b1
              try clear c25
              try clear c25b0
              try clear c25b1
              try clear c26
              try clear c26b0
              try clear c26b1
              try clear c28
              try clear c29
              try clear c31
              try clear c36
              try clear c37
              try clear c40
              try clear c42
              try clear c42b0
              try clear c42b1
              try clear c43
              try clear c43b0
              try clear c43b1
              try clear c45
              try clear c46
              try clear c49
              try clear c52
              try clear c53
              try clear c55
              try clear c59
              try clear c60
              try clear c62
              try clear c65
              try clear c66
              try clear c68
              try clear c68b0
              try clear c68b1
              try clear c69
              try clear c70
              try clear c72
              try clear c72b0
              try clear c72b1
              try clear c73
              try clear c74
              try clear hcz11_0
              try clear hcz11_1
              try clear hcz13_0
              try clear hcz13_1
              try clear hcz19_0
              try clear hcz19_1
              try clear hcz21_0
              try clear hcz21_1
              try clear hcz23_0
              try clear hcz23_1
              try clear hcz23_2
              try clear hcz30_0
              try clear hcz30_1
              try clear hcz32_0
              try clear hcz32_1
              try clear hcz34_0
              try clear hcz34_1
              try clear hcz34_2
              try clear hcz38_0
              try clear hcz38_1
              try clear hcz41_0
              try clear hcz41_1
              try clear hcz41_2
              try clear hcz47_0
              try clear hcz47_1
              try clear hcz50_0
              try clear hcz50_1
              try clear hcz50_2
              try clear hcz54_0
              try clear hcz54_1
              try clear hcz56_0
              try clear hcz56_1
              try clear hcz58_0
              try clear hcz58_1
              try clear hcz58_2
              try clear hcz61_0
              try clear hcz61_1
              try clear hcz63_0
              try clear hcz63_1
              try clear hcz63_2
              try clear hcz67_0
              try clear hcz67_1
              try clear hcz71_0
              try clear hcz71_1
              try clear hcz75_0
              try clear hcz75_1
              try clear hfz11_0
              try clear hfz11_1
              try clear hfz13_0
              try clear hfz13_1
              try clear hfz19_0
              try clear hfz19_1
              try clear hfz21_0
              try clear hfz21_1
              try clear hfz23_0
              try clear hfz23_1
              try clear hfz23_2
              try clear hfz30_0
              try clear hfz30_1
              try clear hfz32_0
              try clear hfz32_1
              try clear hfz34_0
              try clear hfz34_1
              try clear hfz34_2
              try clear hfz38_0
              try clear hfz38_1
              try clear hfz41_0
              try clear hfz41_1
              try clear hfz41_2
              try clear hfz47_0
              try clear hfz47_1
              try clear hfz50_0
              try clear hfz50_1
              try clear hfz50_2
              try clear hfz54_0
              try clear hfz54_1
              try clear hfz56_0
              try clear hfz56_1
              try clear hfz58_0
              try clear hfz58_1
              try clear hfz58_2
              try clear hfz61_0
              try clear hfz61_1
              try clear hfz63_0
              try clear hfz63_1
              try clear hfz63_2
              try clear hfz67_0
              try clear hfz67_1
              try clear hfz71_0
              try clear hfz71_1
              try clear hfz75_0
              try clear hfz75_1
              try clear p2
              obtain ⟨kq, x64_63, rfl, HA, HJ63, BK226, BK227, BK228, HB⟩ := hcut
              cases kq with
              | zero => exact absurd HA.out (by simp [spinetref04_two.j1])
              | succ kj63 =>
                have H := HA.out
                clear HA
                simp only [spinetref04_two.j1] at H
                by_cases c76 : x64_63 = true
                · subst c76
                  have H1 : (some (0, 0, 9)) = some (r1, r2, r3) := by rw [if_pos rfl] at H; exact H
                  clear H
                  have H := H1
                  clear H1
                  simp only [Option.some.injEq, Prod.mk.injEq] at H
                  obtain ⟨rfl, rfl, rfl⟩ := H
                  have hnb77 := NB228_226.out
                  have hnc77 := NB226_228.out
                  have hnb78 := NB228_227.out
                  have hnc78 := NB227_228.out
                  have hcz79_0 : wc.cell? ⟨gb228, 0, none⟩ = some (.int .i64 0) := (blk_cell BK228.out 0).trans rfl
                  have hcz79_1 : wc.cell? ⟨gb228, 1, none⟩ = some (.int .i64 0) := (blk_cell BK228.out 1).trans rfl
                  have hcz79_2 : wc.cell? ⟨gb228, 2, none⟩ = some (.int .i64 0) := (blk_cell BK228.out 2).trans rfl
                  have hfz79_0 := blk_frozen BK228.out 0
                  have hfz79_1 := blk_frozen BK228.out 1
                  have hfz79_2 := blk_frozen BK228.out 2
                  go_wp2
                  refine bodyPost_ret (results_cell_row rfl _ _ gb228 144 #[.int .i64 0, .int .i64 0, .int .i64 9] (0, 0) _ rfl (by (with_reducible repeat (first | refine blk_drewN ?_ _ | refine blk_drew ?_ | refine blk_alloc ?_ _)); refine blk_put (cs := #[.int .i64 0, .int .i64 0, .int .i64 0]) ?_ 2 _ rfl; (with_reducible repeat (first | refine blk_drewN ?_ _ | refine blk_drew ?_ | refine blk_alloc ?_ _)); refine blk_put (cs := #[.int .i64 0, .int .i64 0, .int .i64 0]) ?_ 1 _ rfl; (with_reducible repeat (first | refine blk_drewN ?_ _ | refine blk_drew ?_ | refine blk_alloc ?_ _)); refine blk_put (cs := #[.int .i64 0, .int .i64 0, .int .i64 0]) ?_ 0 _ rfl; (with_reducible repeat (first | refine blk_drewN ?_ _ | refine blk_drew ?_ | refine blk_alloc ?_ _)); exact BK228.out) Tryz.underlying144 rfl (by kernel_rfl)) rfl ?_
                  exact ⟨by first | rfl | (simp [errW_none, errW_some] <;> rfl) | (simp [*, errW_none, errW_some] <;> rfl), by repeat (first | (with_reducible first | exact HB.out | apply below_alloc | apply pw_below_drewN | apply below_drew1 | refine below_set ?_ GE226.out | refine below_set ?_ GE227.out | refine below_set ?_ GE228.out) | exact HB.out)⟩
                · replace c76 := Bool.eq_false_iff.mpr c76
                  subst c76
                  have H1 : (if a0 = 3 then ((spinetref01_Add.f a1_1 a2_1).bind fun t244 => ((spinetref04_whole.f t244).bind fun bt245 => (some (bt245.1, bt245.2.1, bt245.2.2)))) else (if a0 = 4 then ((spinetref01_Sub.f a1_1 a2_1).bind fun t248 => ((spinetref04_whole.f t248).bind fun bt249 => (some (bt249.1, bt249.2.1, bt249.2.2)))) else (if a0 = 5 then ((spinetref01_Mul.f a1_1 a2_1).bind fun t252 => ((spinetref04_whole.f t252).bind fun bt253 => (some (bt253.1, bt253.2.1, bt253.2.2)))) else (if a0 = 6 then ((spinetref01_Div.f a1_1 a2_1).bind fun t256 => ((spinetref04_whole.f t256).bind fun bt257 => (some (bt257.1, bt257.2.1, bt257.2.2)))) else (if a0 = 7 then ((spinetref01_Mod.f a1_1 a2_1).bind fun t260 => ((spinetref04_whole.f t260).bind fun bt261 => (some (bt261.1, bt261.2.1, bt261.2.2)))) else (if a0 = 8 then ((spinetref04_truth.f (decide (a1_1 < a2_1))).bind fun bt264 => (some (bt264.1, bt264.2.1, bt264.2.2))) else (if a0 = 9 then ((spinetref04_truth.f (decide (a1_1 ≤ a2_1))).bind fun bt267 => (some (bt267.1, bt267.2.1, bt267.2.2))) else (some (0, 0, 8))))))))) = some (r1, r2, r3) := by rw [if_neg (show ¬ (false = true) by decide)] at H; exact H
                  clear H
                  have H := H1
                  clear H1
                  by_cases c80 : a0 = 3
                  · rw [if_pos c80] at H
                    have c80b0 : (a0 == 3) = true := beq_iff_eq.mpr c80
                    have c80b1 : (a0 != 3) = false := bne_eq_false_iff_eq.mpr c80
                    clear c80
                    replace H := Option.bind_eq_some_iff.mp H
                    obtain ⟨t244, A810, H⟩ := H
                    replace H : ((spinetref04_whole.f t244).bind fun bt245 => (some (bt245.1, bt245.2.1, bt245.2.2))) = some (r1, r2, r3) := H
                    have A81 := Aside0.mk A810
                    clear A810
                    replace H := Option.bind_eq_some_iff.mp H
                    obtain ⟨⟨t245, t246, t247⟩, A820, H⟩ := H
                    replace H : (some (t245, t246, t247)) = some (r1, r2, r3) := H
                    have A82 := Aside0.mk A820
                    clear A820
                    simp only [Option.some.injEq, Prod.mk.injEq] at H
                    obtain ⟨rfl, rfl, rfl⟩ := H
                    have hnb83 := NB226_227.out
                    have hnc83 := NB227_226.out
                    have hnb84 := NB226_228.out
                    have hnc84 := NB228_226.out
                    have hcz85_0 : wc.cell? ⟨gb226, 0, none⟩ = some (.int .i64 a1_0) := (blk_cell BK226.out 0).trans rfl
                    have hcz85_1 : wc.cell? ⟨gb226, 1, none⟩ = some (.int .i64 a1_1) := (blk_cell BK226.out 1).trans rfl
                    have hfz85_0 := blk_frozen BK226.out 0
                    have hfz85_1 := blk_frozen BK226.out 1
                    have hnb86 := NB227_228.out
                    have hnc86 := NB228_227.out
                    have hcz87_0 : wc.cell? ⟨gb227, 0, none⟩ = some (.int .i64 a2_0) := (blk_cell BK227.out 0).trans rfl
                    have hcz87_1 : wc.cell? ⟨gb227, 1, none⟩ = some (.int .i64 a2_1) := (blk_cell BK227.out 1).trans rfl
                    have hfz87_0 := blk_frozen BK227.out 0
                    have hfz87_1 := blk_frozen BK227.out 1
                    go_wp2_with (first | ((with_reducible refine gate_callee (f := 156) rfl ?_); refine goesL_ (some 73) rfl rfl Tryz.func156 (by kernel_rfl) rfl #[.int .i64 a1_1, .int .i64 a2_1] rfl (by (try simp only [List.map_toArray, List.map_cons, List.map_nil]); first | done | rfl | (simp only [List.length_drop, List.length_take]; rfl)) ?_; (with_reducible refine (spinetref01_Add.calls a1_1 a2_1 t244 _ A81.out).mono ?_); rintro e w' ⟨rfl, ⟨nd, rfl⟩⟩; refine ⟨_, rfl, ?_⟩; (try (rw [drewN_self wc]; generalize hq_ : World.drewN wc _ = wc; have n0_ : Aside0 (wc.heap[gb226]? = some (.cells #[.int .i64 a1_0, .int .i64 a1_1] 35 (0, 0))) := ⟨by rw [← hq_]; exact (by (with_reducible repeat (first | refine blk_drewN ?_ _ | refine blk_drew ?_ | refine blk_alloc ?_ _)); exact BK226.out)⟩; have n1_ : Aside0 (wc.heap[gb227]? = some (.cells #[.int .i64 a2_0, .int .i64 a2_1] 35 (0, 0))) := ⟨by rw [← hq_]; exact (by (with_reducible repeat (first | refine blk_drewN ?_ _ | refine blk_drew ?_ | refine blk_alloc ?_ _)); exact BK227.out)⟩; have n2_ : Aside0 (wc.heap[gb228]? = some (.cells #[.int .i64 0, .int .i64 0, .int .i64 0] 144 (0, 0))) := ⟨by rw [← hq_]; exact (by (with_reducible repeat (first | refine blk_drewN ?_ _ | refine blk_drew ?_ | refine blk_alloc ?_ _)); exact BK228.out)⟩; have n3_ : Aside0 (Below w.heap.size w wc) := ⟨by rw [← hq_]; exact (by repeat (first | (with_reducible first | exact HB.out | apply below_alloc | apply pw_below_drewN | apply below_drew1 | refine below_set ?_ GE226.out | refine below_set ?_ GE227.out | refine below_set ?_ GE228.out) | exact HB.out))⟩; clear BK226 BK227 BK228 HB hq_; have BK226 := n0_; have BK227 := n1_; have BK228 := n2_; have HB := n3_; clear n0_ n1_ n2_ n3_))) | ((with_reducible refine gate_callee (f := 123) rfl ?_); refine goesL_ (some 74) rfl rfl Tryz.func123 (by kernel_rfl) rfl #[.int .i64 t244] rfl (by (try simp only [List.map_toArray, List.map_cons, List.map_nil]); first | done | rfl | (simp only [List.length_drop, List.length_take]; rfl)) ?_; (with_reducible refine (spinetref04_whole.calls t244 t245 t246 t247 _ A82.out).mono ?_); rintro e w88 ⟨rfl, hb⟩; refine ⟨_, rfl, ?_⟩; have n0_ := Aside0.mk (blk_below (g := gb226) (o := .cells #[.int .i64 a1_0, .int .i64 a1_1] 35 (0, 0)) (by (with_reducible repeat (first | refine blk_drewN ?_ _ | refine blk_drew ?_ | refine blk_alloc ?_ _)); exact BK226.out) hb); have n1_ := Aside0.mk (blk_below (g := gb227) (o := .cells #[.int .i64 a2_0, .int .i64 a2_1] 35 (0, 0)) (by (with_reducible repeat (first | refine blk_drewN ?_ _ | refine blk_drew ?_ | refine blk_alloc ?_ _)); exact BK227.out) hb); have n2_ := Aside0.mk (blk_below (g := gb228) (o := .cells #[.int .i64 0, .int .i64 0, .int .i64 0] 144 (0, 0)) (by (with_reducible repeat (first | refine blk_drewN ?_ _ | refine blk_drew ?_ | refine blk_alloc ?_ _)); exact BK228.out) hb); have n3_ := Aside0.mk (below_step (by repeat (first | (with_reducible first | exact HB.out | apply below_alloc | apply pw_below_drewN | apply below_drew1 | refine below_set ?_ GE226.out | refine below_set ?_ GE227.out | refine below_set ?_ GE228.out) | exact HB.out)) hb); clear BK226; clear BK227; clear BK228; clear HB; have BK226 := n0_; have BK227 := n1_; have BK228 := n2_; have HB := n3_; clear n0_ n1_ n2_ n3_; (try clear hb); (try clear hb2); (try clear hk); (try clear hi); have hcz89_0 : w88.cell? ⟨gb228, 0, none⟩ = some (.int .i64 0) := (blk_cell BK228.out 0).trans rfl; have hcz89_1 : w88.cell? ⟨gb228, 1, none⟩ = some (.int .i64 0) := (blk_cell BK228.out 1).trans rfl; have hcz89_2 : w88.cell? ⟨gb228, 2, none⟩ = some (.int .i64 0) := (blk_cell BK228.out 2).trans rfl; have hfz89_0 := blk_frozen BK228.out 0; have hfz89_1 := blk_frozen BK228.out 1; have hfz89_2 := blk_frozen BK228.out 2))
                    refine bodyPost_ret (results_cell_row rfl _ _ gb228 144 #[.int .i64 t245, .int .i64 t246, .int .i64 t247] (0, 0) _ rfl (by (with_reducible repeat (first | refine blk_drewN ?_ _ | refine blk_drew ?_ | refine blk_alloc ?_ _)); refine blk_put (cs := #[.int .i64 t245, .int .i64 t246, .int .i64 0]) ?_ 2 _ rfl; (with_reducible repeat (first | refine blk_drewN ?_ _ | refine blk_drew ?_ | refine blk_alloc ?_ _)); refine blk_put (cs := #[.int .i64 t245, .int .i64 0, .int .i64 0]) ?_ 1 _ rfl; (with_reducible repeat (first | refine blk_drewN ?_ _ | refine blk_drew ?_ | refine blk_alloc ?_ _)); refine blk_put (cs := #[.int .i64 0, .int .i64 0, .int .i64 0]) ?_ 0 _ rfl; (with_reducible repeat (first | refine blk_drewN ?_ _ | refine blk_drew ?_ | refine blk_alloc ?_ _)); exact BK228.out) Tryz.underlying144 rfl (by kernel_rfl)) rfl ?_
                    exact ⟨by first | rfl | (simp [errW_none, errW_some] <;> rfl) | (simp [*, errW_none, errW_some] <;> rfl), by repeat (first | (with_reducible first | exact HB.out | apply below_alloc | apply pw_below_drewN | apply below_drew1 | refine below_set ?_ GE226.out | refine below_set ?_ GE227.out | refine below_set ?_ GE228.out) | exact HB.out)⟩
                  · rw [if_neg c80] at H
                    have c80b0 : (a0 == 3) = false := beq_eq_false_iff_ne.mpr c80
                    have c80b1 : (a0 != 3) = true := bne_iff_ne.mpr c80
                    by_cases c90 : a0 = 4
                    · rw [if_pos c90] at H
                      have c90b0 : (a0 == 4) = true := beq_iff_eq.mpr c90
                      have c90b1 : (a0 != 4) = false := bne_eq_false_iff_eq.mpr c90
                      clear c90
                      replace H := Option.bind_eq_some_iff.mp H
                      obtain ⟨t248, A910, H⟩ := H
                      replace H : ((spinetref04_whole.f t248).bind fun bt249 => (some (bt249.1, bt249.2.1, bt249.2.2))) = some (r1, r2, r3) := H
                      have A91 := Aside0.mk A910
                      clear A910
                      replace H := Option.bind_eq_some_iff.mp H
                      obtain ⟨⟨t249, t250, t251⟩, A920, H⟩ := H
                      replace H : (some (t249, t250, t251)) = some (r1, r2, r3) := H
                      have A92 := Aside0.mk A920
                      clear A920
                      simp only [Option.some.injEq, Prod.mk.injEq] at H
                      obtain ⟨rfl, rfl, rfl⟩ := H
                      have hnb93 := NB226_227.out
                      have hnc93 := NB227_226.out
                      have hnb94 := NB226_228.out
                      have hnc94 := NB228_226.out
                      have hcz95_0 : wc.cell? ⟨gb226, 0, none⟩ = some (.int .i64 a1_0) := (blk_cell BK226.out 0).trans rfl
                      have hcz95_1 : wc.cell? ⟨gb226, 1, none⟩ = some (.int .i64 a1_1) := (blk_cell BK226.out 1).trans rfl
                      have hfz95_0 := blk_frozen BK226.out 0
                      have hfz95_1 := blk_frozen BK226.out 1
                      have hnb96 := NB227_228.out
                      have hnc96 := NB228_227.out
                      have hcz97_0 : wc.cell? ⟨gb227, 0, none⟩ = some (.int .i64 a2_0) := (blk_cell BK227.out 0).trans rfl
                      have hcz97_1 : wc.cell? ⟨gb227, 1, none⟩ = some (.int .i64 a2_1) := (blk_cell BK227.out 1).trans rfl
                      have hfz97_0 := blk_frozen BK227.out 0
                      have hfz97_1 := blk_frozen BK227.out 1
                      go_wp2_with (first | ((with_reducible refine gate_callee (f := 125) rfl ?_); refine goesL_ (some 81) rfl rfl Tryz.func125 (by kernel_rfl) rfl #[.int .i64 a1_1, .int .i64 a2_1] rfl (by (try simp only [List.map_toArray, List.map_cons, List.map_nil]); first | done | rfl | (simp only [List.length_drop, List.length_take]; rfl)) ?_; (with_reducible refine (spinetref01_Sub.calls a1_1 a2_1 t248 _ A91.out).mono ?_); rintro e w' ⟨rfl, ⟨nd, rfl⟩⟩; refine ⟨_, rfl, ?_⟩; (try (rw [drewN_self wc]; generalize hq_ : World.drewN wc _ = wc; have n0_ : Aside0 (wc.heap[gb226]? = some (.cells #[.int .i64 a1_0, .int .i64 a1_1] 35 (0, 0))) := ⟨by rw [← hq_]; exact (by (with_reducible repeat (first | refine blk_drewN ?_ _ | refine blk_drew ?_ | refine blk_alloc ?_ _)); exact BK226.out)⟩; have n1_ : Aside0 (wc.heap[gb227]? = some (.cells #[.int .i64 a2_0, .int .i64 a2_1] 35 (0, 0))) := ⟨by rw [← hq_]; exact (by (with_reducible repeat (first | refine blk_drewN ?_ _ | refine blk_drew ?_ | refine blk_alloc ?_ _)); exact BK227.out)⟩; have n2_ : Aside0 (wc.heap[gb228]? = some (.cells #[.int .i64 0, .int .i64 0, .int .i64 0] 144 (0, 0))) := ⟨by rw [← hq_]; exact (by (with_reducible repeat (first | refine blk_drewN ?_ _ | refine blk_drew ?_ | refine blk_alloc ?_ _)); exact BK228.out)⟩; have n3_ : Aside0 (Below w.heap.size w wc) := ⟨by rw [← hq_]; exact (by repeat (first | (with_reducible first | exact HB.out | apply below_alloc | apply pw_below_drewN | apply below_drew1 | refine below_set ?_ GE226.out | refine below_set ?_ GE227.out | refine below_set ?_ GE228.out) | exact HB.out))⟩; clear BK226 BK227 BK228 HB hq_; have BK226 := n0_; have BK227 := n1_; have BK228 := n2_; have HB := n3_; clear n0_ n1_ n2_ n3_))) | ((with_reducible refine gate_callee (f := 123) rfl ?_); refine goesL_ (some 82) rfl rfl Tryz.func123 (by kernel_rfl) rfl #[.int .i64 t248] rfl (by (try simp only [List.map_toArray, List.map_cons, List.map_nil]); first | done | rfl | (simp only [List.length_drop, List.length_take]; rfl)) ?_; (with_reducible refine (spinetref04_whole.calls t248 t249 t250 t251 _ A92.out).mono ?_); rintro e w98 ⟨rfl, hb⟩; refine ⟨_, rfl, ?_⟩; have n0_ := Aside0.mk (blk_below (g := gb226) (o := .cells #[.int .i64 a1_0, .int .i64 a1_1] 35 (0, 0)) (by (with_reducible repeat (first | refine blk_drewN ?_ _ | refine blk_drew ?_ | refine blk_alloc ?_ _)); exact BK226.out) hb); have n1_ := Aside0.mk (blk_below (g := gb227) (o := .cells #[.int .i64 a2_0, .int .i64 a2_1] 35 (0, 0)) (by (with_reducible repeat (first | refine blk_drewN ?_ _ | refine blk_drew ?_ | refine blk_alloc ?_ _)); exact BK227.out) hb); have n2_ := Aside0.mk (blk_below (g := gb228) (o := .cells #[.int .i64 0, .int .i64 0, .int .i64 0] 144 (0, 0)) (by (with_reducible repeat (first | refine blk_drewN ?_ _ | refine blk_drew ?_ | refine blk_alloc ?_ _)); exact BK228.out) hb); have n3_ := Aside0.mk (below_step (by repeat (first | (with_reducible first | exact HB.out | apply below_alloc | apply pw_below_drewN | apply below_drew1 | refine below_set ?_ GE226.out | refine below_set ?_ GE227.out | refine below_set ?_ GE228.out) | exact HB.out)) hb); clear BK226; clear BK227; clear BK228; clear HB; have BK226 := n0_; have BK227 := n1_; have BK228 := n2_; have HB := n3_; clear n0_ n1_ n2_ n3_; (try clear hb); (try clear hb2); (try clear hk); (try clear hi); have hcz99_0 : w98.cell? ⟨gb228, 0, none⟩ = some (.int .i64 0) := (blk_cell BK228.out 0).trans rfl; have hcz99_1 : w98.cell? ⟨gb228, 1, none⟩ = some (.int .i64 0) := (blk_cell BK228.out 1).trans rfl; have hcz99_2 : w98.cell? ⟨gb228, 2, none⟩ = some (.int .i64 0) := (blk_cell BK228.out 2).trans rfl; have hfz99_0 := blk_frozen BK228.out 0; have hfz99_1 := blk_frozen BK228.out 1; have hfz99_2 := blk_frozen BK228.out 2))
                      refine bodyPost_ret (results_cell_row rfl _ _ gb228 144 #[.int .i64 t249, .int .i64 t250, .int .i64 t251] (0, 0) _ rfl (by (with_reducible repeat (first | refine blk_drewN ?_ _ | refine blk_drew ?_ | refine blk_alloc ?_ _)); refine blk_put (cs := #[.int .i64 t249, .int .i64 t250, .int .i64 0]) ?_ 2 _ rfl; (with_reducible repeat (first | refine blk_drewN ?_ _ | refine blk_drew ?_ | refine blk_alloc ?_ _)); refine blk_put (cs := #[.int .i64 t249, .int .i64 0, .int .i64 0]) ?_ 1 _ rfl; (with_reducible repeat (first | refine blk_drewN ?_ _ | refine blk_drew ?_ | refine blk_alloc ?_ _)); refine blk_put (cs := #[.int .i64 0, .int .i64 0, .int .i64 0]) ?_ 0 _ rfl; (with_reducible repeat (first | refine blk_drewN ?_ _ | refine blk_drew ?_ | refine blk_alloc ?_ _)); exact BK228.out) Tryz.underlying144 rfl (by kernel_rfl)) rfl ?_
                      exact ⟨by first | rfl | (simp [errW_none, errW_some] <;> rfl) | (simp [*, errW_none, errW_some] <;> rfl), by repeat (first | (with_reducible first | exact HB.out | apply below_alloc | apply pw_below_drewN | apply below_drew1 | refine below_set ?_ GE226.out | refine below_set ?_ GE227.out | refine below_set ?_ GE228.out) | exact HB.out)⟩
                    · rw [if_neg c90] at H
                      have c90b0 : (a0 == 4) = false := beq_eq_false_iff_ne.mpr c90
                      have c90b1 : (a0 != 4) = true := bne_iff_ne.mpr c90
                      by_cases c100 : a0 = 5
                      · rw [if_pos c100] at H
                        have c100b0 : (a0 == 5) = true := beq_iff_eq.mpr c100
                        have c100b1 : (a0 != 5) = false := bne_eq_false_iff_eq.mpr c100
                        clear c100
                        replace H := Option.bind_eq_some_iff.mp H
                        obtain ⟨t252, A1010, H⟩ := H
                        replace H : ((spinetref04_whole.f t252).bind fun bt253 => (some (bt253.1, bt253.2.1, bt253.2.2))) = some (r1, r2, r3) := H
                        have A101 := Aside0.mk A1010
                        clear A1010
                        replace H := Option.bind_eq_some_iff.mp H
                        obtain ⟨⟨t253, t254, t255⟩, A1020, H⟩ := H
                        replace H : (some (t253, t254, t255)) = some (r1, r2, r3) := H
                        have A102 := Aside0.mk A1020
                        clear A1020
                        simp only [Option.some.injEq, Prod.mk.injEq] at H
                        obtain ⟨rfl, rfl, rfl⟩ := H
                        have hnb103 := NB226_227.out
                        have hnc103 := NB227_226.out
                        have hnb104 := NB226_228.out
                        have hnc104 := NB228_226.out
                        have hcz105_0 : wc.cell? ⟨gb226, 0, none⟩ = some (.int .i64 a1_0) := (blk_cell BK226.out 0).trans rfl
                        have hcz105_1 : wc.cell? ⟨gb226, 1, none⟩ = some (.int .i64 a1_1) := (blk_cell BK226.out 1).trans rfl
                        have hfz105_0 := blk_frozen BK226.out 0
                        have hfz105_1 := blk_frozen BK226.out 1
                        have hnb106 := NB227_228.out
                        have hnc106 := NB228_227.out
                        have hcz107_0 : wc.cell? ⟨gb227, 0, none⟩ = some (.int .i64 a2_0) := (blk_cell BK227.out 0).trans rfl
                        have hcz107_1 : wc.cell? ⟨gb227, 1, none⟩ = some (.int .i64 a2_1) := (blk_cell BK227.out 1).trans rfl
                        have hfz107_0 := blk_frozen BK227.out 0
                        have hfz107_1 := blk_frozen BK227.out 1
                        go_wp2_with (first | ((with_reducible refine gate_callee (f := 157) rfl ?_); refine goesL_ (some 89) rfl rfl Tryz.func157 (by kernel_rfl) rfl #[.int .i64 a1_1, .int .i64 a2_1] rfl (by (try simp only [List.map_toArray, List.map_cons, List.map_nil]); first | done | rfl | (simp only [List.length_drop, List.length_take]; rfl)) ?_; (with_reducible refine (spinetref01_Mul.calls a1_1 a2_1 t252 _ A101.out).mono ?_); rintro e w' ⟨rfl, ⟨nd, rfl⟩⟩; refine ⟨_, rfl, ?_⟩; (try (rw [drewN_self wc]; generalize hq_ : World.drewN wc _ = wc; have n0_ : Aside0 (wc.heap[gb226]? = some (.cells #[.int .i64 a1_0, .int .i64 a1_1] 35 (0, 0))) := ⟨by rw [← hq_]; exact (by (with_reducible repeat (first | refine blk_drewN ?_ _ | refine blk_drew ?_ | refine blk_alloc ?_ _)); exact BK226.out)⟩; have n1_ : Aside0 (wc.heap[gb227]? = some (.cells #[.int .i64 a2_0, .int .i64 a2_1] 35 (0, 0))) := ⟨by rw [← hq_]; exact (by (with_reducible repeat (first | refine blk_drewN ?_ _ | refine blk_drew ?_ | refine blk_alloc ?_ _)); exact BK227.out)⟩; have n2_ : Aside0 (wc.heap[gb228]? = some (.cells #[.int .i64 0, .int .i64 0, .int .i64 0] 144 (0, 0))) := ⟨by rw [← hq_]; exact (by (with_reducible repeat (first | refine blk_drewN ?_ _ | refine blk_drew ?_ | refine blk_alloc ?_ _)); exact BK228.out)⟩; have n3_ : Aside0 (Below w.heap.size w wc) := ⟨by rw [← hq_]; exact (by repeat (first | (with_reducible first | exact HB.out | apply below_alloc | apply pw_below_drewN | apply below_drew1 | refine below_set ?_ GE226.out | refine below_set ?_ GE227.out | refine below_set ?_ GE228.out) | exact HB.out))⟩; clear BK226 BK227 BK228 HB hq_; have BK226 := n0_; have BK227 := n1_; have BK228 := n2_; have HB := n3_; clear n0_ n1_ n2_ n3_))) | ((with_reducible refine gate_callee (f := 123) rfl ?_); refine goesL_ (some 90) rfl rfl Tryz.func123 (by kernel_rfl) rfl #[.int .i64 t252] rfl (by (try simp only [List.map_toArray, List.map_cons, List.map_nil]); first | done | rfl | (simp only [List.length_drop, List.length_take]; rfl)) ?_; (with_reducible refine (spinetref04_whole.calls t252 t253 t254 t255 _ A102.out).mono ?_); rintro e w108 ⟨rfl, hb⟩; refine ⟨_, rfl, ?_⟩; have n0_ := Aside0.mk (blk_below (g := gb226) (o := .cells #[.int .i64 a1_0, .int .i64 a1_1] 35 (0, 0)) (by (with_reducible repeat (first | refine blk_drewN ?_ _ | refine blk_drew ?_ | refine blk_alloc ?_ _)); exact BK226.out) hb); have n1_ := Aside0.mk (blk_below (g := gb227) (o := .cells #[.int .i64 a2_0, .int .i64 a2_1] 35 (0, 0)) (by (with_reducible repeat (first | refine blk_drewN ?_ _ | refine blk_drew ?_ | refine blk_alloc ?_ _)); exact BK227.out) hb); have n2_ := Aside0.mk (blk_below (g := gb228) (o := .cells #[.int .i64 0, .int .i64 0, .int .i64 0] 144 (0, 0)) (by (with_reducible repeat (first | refine blk_drewN ?_ _ | refine blk_drew ?_ | refine blk_alloc ?_ _)); exact BK228.out) hb); have n3_ := Aside0.mk (below_step (by repeat (first | (with_reducible first | exact HB.out | apply below_alloc | apply pw_below_drewN | apply below_drew1 | refine below_set ?_ GE226.out | refine below_set ?_ GE227.out | refine below_set ?_ GE228.out) | exact HB.out)) hb); clear BK226; clear BK227; clear BK228; clear HB; have BK226 := n0_; have BK227 := n1_; have BK228 := n2_; have HB := n3_; clear n0_ n1_ n2_ n3_; (try clear hb); (try clear hb2); (try clear hk); (try clear hi); have hcz109_0 : w108.cell? ⟨gb228, 0, none⟩ = some (.int .i64 0) := (blk_cell BK228.out 0).trans rfl; have hcz109_1 : w108.cell? ⟨gb228, 1, none⟩ = some (.int .i64 0) := (blk_cell BK228.out 1).trans rfl; have hcz109_2 : w108.cell? ⟨gb228, 2, none⟩ = some (.int .i64 0) := (blk_cell BK228.out 2).trans rfl; have hfz109_0 := blk_frozen BK228.out 0; have hfz109_1 := blk_frozen BK228.out 1; have hfz109_2 := blk_frozen BK228.out 2))
                        refine bodyPost_ret (results_cell_row rfl _ _ gb228 144 #[.int .i64 t253, .int .i64 t254, .int .i64 t255] (0, 0) _ rfl (by (with_reducible repeat (first | refine blk_drewN ?_ _ | refine blk_drew ?_ | refine blk_alloc ?_ _)); refine blk_put (cs := #[.int .i64 t253, .int .i64 t254, .int .i64 0]) ?_ 2 _ rfl; (with_reducible repeat (first | refine blk_drewN ?_ _ | refine blk_drew ?_ | refine blk_alloc ?_ _)); refine blk_put (cs := #[.int .i64 t253, .int .i64 0, .int .i64 0]) ?_ 1 _ rfl; (with_reducible repeat (first | refine blk_drewN ?_ _ | refine blk_drew ?_ | refine blk_alloc ?_ _)); refine blk_put (cs := #[.int .i64 0, .int .i64 0, .int .i64 0]) ?_ 0 _ rfl; (with_reducible repeat (first | refine blk_drewN ?_ _ | refine blk_drew ?_ | refine blk_alloc ?_ _)); exact BK228.out) Tryz.underlying144 rfl (by kernel_rfl)) rfl ?_
                        exact ⟨by first | rfl | (simp [errW_none, errW_some] <;> rfl) | (simp [*, errW_none, errW_some] <;> rfl), by repeat (first | (with_reducible first | exact HB.out | apply below_alloc | apply pw_below_drewN | apply below_drew1 | refine below_set ?_ GE226.out | refine below_set ?_ GE227.out | refine below_set ?_ GE228.out) | exact HB.out)⟩
                      · rw [if_neg c100] at H
                        have c100b0 : (a0 == 5) = false := beq_eq_false_iff_ne.mpr c100
                        have c100b1 : (a0 != 5) = true := bne_iff_ne.mpr c100
                        by_cases c110 : a0 = 6
                        · rw [if_pos c110] at H
                          have c110b0 : (a0 == 6) = true := beq_iff_eq.mpr c110
                          have c110b1 : (a0 != 6) = false := bne_eq_false_iff_eq.mpr c110
                          clear c110
                          replace H := Option.bind_eq_some_iff.mp H
                          obtain ⟨t256, A1110, H⟩ := H
                          replace H : ((spinetref04_whole.f t256).bind fun bt257 => (some (bt257.1, bt257.2.1, bt257.2.2))) = some (r1, r2, r3) := H
                          have A111 := Aside0.mk A1110
                          clear A1110
                          replace H := Option.bind_eq_some_iff.mp H
                          obtain ⟨⟨t257, t258, t259⟩, A1120, H⟩ := H
                          replace H : (some (t257, t258, t259)) = some (r1, r2, r3) := H
                          have A112 := Aside0.mk A1120
                          clear A1120
                          simp only [Option.some.injEq, Prod.mk.injEq] at H
                          obtain ⟨rfl, rfl, rfl⟩ := H
                          have hnb113 := NB226_227.out
                          have hnc113 := NB227_226.out
                          have hnb114 := NB226_228.out
                          have hnc114 := NB228_226.out
                          have hcz115_0 : wc.cell? ⟨gb226, 0, none⟩ = some (.int .i64 a1_0) := (blk_cell BK226.out 0).trans rfl
                          have hcz115_1 : wc.cell? ⟨gb226, 1, none⟩ = some (.int .i64 a1_1) := (blk_cell BK226.out 1).trans rfl
                          have hfz115_0 := blk_frozen BK226.out 0
                          have hfz115_1 := blk_frozen BK226.out 1
                          have hnb116 := NB227_228.out
                          have hnc116 := NB228_227.out
                          have hcz117_0 : wc.cell? ⟨gb227, 0, none⟩ = some (.int .i64 a2_0) := (blk_cell BK227.out 0).trans rfl
                          have hcz117_1 : wc.cell? ⟨gb227, 1, none⟩ = some (.int .i64 a2_1) := (blk_cell BK227.out 1).trans rfl
                          have hfz117_0 := blk_frozen BK227.out 0
                          have hfz117_1 := blk_frozen BK227.out 1
                          go_wp2_with (first | ((with_reducible refine gate_callee (f := 158) rfl ?_); refine goesL_ (some 97) rfl rfl Tryz.func158 (by kernel_rfl) rfl #[.int .i64 a1_1, .int .i64 a2_1] rfl (by (try simp only [List.map_toArray, List.map_cons, List.map_nil]); first | done | rfl | (simp only [List.length_drop, List.length_take]; rfl)) ?_; (with_reducible refine (spinetref01_Div.calls a1_1 a2_1 t256 _ A111.out).mono ?_); rintro e w' ⟨rfl, ⟨nd, rfl⟩⟩; refine ⟨_, rfl, ?_⟩; (try (rw [drewN_self wc]; generalize hq_ : World.drewN wc _ = wc; have n0_ : Aside0 (wc.heap[gb226]? = some (.cells #[.int .i64 a1_0, .int .i64 a1_1] 35 (0, 0))) := ⟨by rw [← hq_]; exact (by (with_reducible repeat (first | refine blk_drewN ?_ _ | refine blk_drew ?_ | refine blk_alloc ?_ _)); exact BK226.out)⟩; have n1_ : Aside0 (wc.heap[gb227]? = some (.cells #[.int .i64 a2_0, .int .i64 a2_1] 35 (0, 0))) := ⟨by rw [← hq_]; exact (by (with_reducible repeat (first | refine blk_drewN ?_ _ | refine blk_drew ?_ | refine blk_alloc ?_ _)); exact BK227.out)⟩; have n2_ : Aside0 (wc.heap[gb228]? = some (.cells #[.int .i64 0, .int .i64 0, .int .i64 0] 144 (0, 0))) := ⟨by rw [← hq_]; exact (by (with_reducible repeat (first | refine blk_drewN ?_ _ | refine blk_drew ?_ | refine blk_alloc ?_ _)); exact BK228.out)⟩; have n3_ : Aside0 (Below w.heap.size w wc) := ⟨by rw [← hq_]; exact (by repeat (first | (with_reducible first | exact HB.out | apply below_alloc | apply pw_below_drewN | apply below_drew1 | refine below_set ?_ GE226.out | refine below_set ?_ GE227.out | refine below_set ?_ GE228.out) | exact HB.out))⟩; clear BK226 BK227 BK228 HB hq_; have BK226 := n0_; have BK227 := n1_; have BK228 := n2_; have HB := n3_; clear n0_ n1_ n2_ n3_))) | ((with_reducible refine gate_callee (f := 123) rfl ?_); refine goesL_ (some 98) rfl rfl Tryz.func123 (by kernel_rfl) rfl #[.int .i64 t256] rfl (by (try simp only [List.map_toArray, List.map_cons, List.map_nil]); first | done | rfl | (simp only [List.length_drop, List.length_take]; rfl)) ?_; (with_reducible refine (spinetref04_whole.calls t256 t257 t258 t259 _ A112.out).mono ?_); rintro e w118 ⟨rfl, hb⟩; refine ⟨_, rfl, ?_⟩; have n0_ := Aside0.mk (blk_below (g := gb226) (o := .cells #[.int .i64 a1_0, .int .i64 a1_1] 35 (0, 0)) (by (with_reducible repeat (first | refine blk_drewN ?_ _ | refine blk_drew ?_ | refine blk_alloc ?_ _)); exact BK226.out) hb); have n1_ := Aside0.mk (blk_below (g := gb227) (o := .cells #[.int .i64 a2_0, .int .i64 a2_1] 35 (0, 0)) (by (with_reducible repeat (first | refine blk_drewN ?_ _ | refine blk_drew ?_ | refine blk_alloc ?_ _)); exact BK227.out) hb); have n2_ := Aside0.mk (blk_below (g := gb228) (o := .cells #[.int .i64 0, .int .i64 0, .int .i64 0] 144 (0, 0)) (by (with_reducible repeat (first | refine blk_drewN ?_ _ | refine blk_drew ?_ | refine blk_alloc ?_ _)); exact BK228.out) hb); have n3_ := Aside0.mk (below_step (by repeat (first | (with_reducible first | exact HB.out | apply below_alloc | apply pw_below_drewN | apply below_drew1 | refine below_set ?_ GE226.out | refine below_set ?_ GE227.out | refine below_set ?_ GE228.out) | exact HB.out)) hb); clear BK226; clear BK227; clear BK228; clear HB; have BK226 := n0_; have BK227 := n1_; have BK228 := n2_; have HB := n3_; clear n0_ n1_ n2_ n3_; (try clear hb); (try clear hb2); (try clear hk); (try clear hi); have hcz119_0 : w118.cell? ⟨gb228, 0, none⟩ = some (.int .i64 0) := (blk_cell BK228.out 0).trans rfl; have hcz119_1 : w118.cell? ⟨gb228, 1, none⟩ = some (.int .i64 0) := (blk_cell BK228.out 1).trans rfl; have hcz119_2 : w118.cell? ⟨gb228, 2, none⟩ = some (.int .i64 0) := (blk_cell BK228.out 2).trans rfl; have hfz119_0 := blk_frozen BK228.out 0; have hfz119_1 := blk_frozen BK228.out 1; have hfz119_2 := blk_frozen BK228.out 2))
                          refine bodyPost_ret (results_cell_row rfl _ _ gb228 144 #[.int .i64 t257, .int .i64 t258, .int .i64 t259] (0, 0) _ rfl (by (with_reducible repeat (first | refine blk_drewN ?_ _ | refine blk_drew ?_ | refine blk_alloc ?_ _)); refine blk_put (cs := #[.int .i64 t257, .int .i64 t258, .int .i64 0]) ?_ 2 _ rfl; (with_reducible repeat (first | refine blk_drewN ?_ _ | refine blk_drew ?_ | refine blk_alloc ?_ _)); refine blk_put (cs := #[.int .i64 t257, .int .i64 0, .int .i64 0]) ?_ 1 _ rfl; (with_reducible repeat (first | refine blk_drewN ?_ _ | refine blk_drew ?_ | refine blk_alloc ?_ _)); refine blk_put (cs := #[.int .i64 0, .int .i64 0, .int .i64 0]) ?_ 0 _ rfl; (with_reducible repeat (first | refine blk_drewN ?_ _ | refine blk_drew ?_ | refine blk_alloc ?_ _)); exact BK228.out) Tryz.underlying144 rfl (by kernel_rfl)) rfl ?_
                          exact ⟨by first | rfl | (simp [errW_none, errW_some] <;> rfl) | (simp [*, errW_none, errW_some] <;> rfl), by repeat (first | (with_reducible first | exact HB.out | apply below_alloc | apply pw_below_drewN | apply below_drew1 | refine below_set ?_ GE226.out | refine below_set ?_ GE227.out | refine below_set ?_ GE228.out) | exact HB.out)⟩
                        · rw [if_neg c110] at H
                          have c110b0 : (a0 == 6) = false := beq_eq_false_iff_ne.mpr c110
                          have c110b1 : (a0 != 6) = true := bne_iff_ne.mpr c110
                          by_cases c120 : a0 = 7
                          · rw [if_pos c120] at H
                            have c120b0 : (a0 == 7) = true := beq_iff_eq.mpr c120
                            have c120b1 : (a0 != 7) = false := bne_eq_false_iff_eq.mpr c120
                            clear c120
                            replace H := Option.bind_eq_some_iff.mp H
                            obtain ⟨t260, A1210, H⟩ := H
                            replace H : ((spinetref04_whole.f t260).bind fun bt261 => (some (bt261.1, bt261.2.1, bt261.2.2))) = some (r1, r2, r3) := H
                            have A121 := Aside0.mk A1210
                            clear A1210
                            replace H := Option.bind_eq_some_iff.mp H
                            obtain ⟨⟨t261, t262, t263⟩, A1220, H⟩ := H
                            replace H : (some (t261, t262, t263)) = some (r1, r2, r3) := H
                            have A122 := Aside0.mk A1220
                            clear A1220
                            simp only [Option.some.injEq, Prod.mk.injEq] at H
                            obtain ⟨rfl, rfl, rfl⟩ := H
                            have hnb123 := NB226_227.out
                            have hnc123 := NB227_226.out
                            have hnb124 := NB226_228.out
                            have hnc124 := NB228_226.out
                            have hcz125_0 : wc.cell? ⟨gb226, 0, none⟩ = some (.int .i64 a1_0) := (blk_cell BK226.out 0).trans rfl
                            have hcz125_1 : wc.cell? ⟨gb226, 1, none⟩ = some (.int .i64 a1_1) := (blk_cell BK226.out 1).trans rfl
                            have hfz125_0 := blk_frozen BK226.out 0
                            have hfz125_1 := blk_frozen BK226.out 1
                            have hnb126 := NB227_228.out
                            have hnc126 := NB228_227.out
                            have hcz127_0 : wc.cell? ⟨gb227, 0, none⟩ = some (.int .i64 a2_0) := (blk_cell BK227.out 0).trans rfl
                            have hcz127_1 : wc.cell? ⟨gb227, 1, none⟩ = some (.int .i64 a2_1) := (blk_cell BK227.out 1).trans rfl
                            have hfz127_0 := blk_frozen BK227.out 0
                            have hfz127_1 := blk_frozen BK227.out 1
                            go_wp2_with (first | ((with_reducible refine gate_callee (f := 159) rfl ?_); refine goesL_ (some 105) rfl rfl Tryz.func159 (by kernel_rfl) rfl #[.int .i64 a1_1, .int .i64 a2_1] rfl (by (try simp only [List.map_toArray, List.map_cons, List.map_nil]); first | done | rfl | (simp only [List.length_drop, List.length_take]; rfl)) ?_; (with_reducible refine (spinetref01_Mod.calls a1_1 a2_1 t260 _ A121.out).mono ?_); rintro e w' ⟨rfl, ⟨nd, rfl⟩⟩; refine ⟨_, rfl, ?_⟩; (try (rw [drewN_self wc]; generalize hq_ : World.drewN wc _ = wc; have n0_ : Aside0 (wc.heap[gb226]? = some (.cells #[.int .i64 a1_0, .int .i64 a1_1] 35 (0, 0))) := ⟨by rw [← hq_]; exact (by (with_reducible repeat (first | refine blk_drewN ?_ _ | refine blk_drew ?_ | refine blk_alloc ?_ _)); exact BK226.out)⟩; have n1_ : Aside0 (wc.heap[gb227]? = some (.cells #[.int .i64 a2_0, .int .i64 a2_1] 35 (0, 0))) := ⟨by rw [← hq_]; exact (by (with_reducible repeat (first | refine blk_drewN ?_ _ | refine blk_drew ?_ | refine blk_alloc ?_ _)); exact BK227.out)⟩; have n2_ : Aside0 (wc.heap[gb228]? = some (.cells #[.int .i64 0, .int .i64 0, .int .i64 0] 144 (0, 0))) := ⟨by rw [← hq_]; exact (by (with_reducible repeat (first | refine blk_drewN ?_ _ | refine blk_drew ?_ | refine blk_alloc ?_ _)); exact BK228.out)⟩; have n3_ : Aside0 (Below w.heap.size w wc) := ⟨by rw [← hq_]; exact (by repeat (first | (with_reducible first | exact HB.out | apply below_alloc | apply pw_below_drewN | apply below_drew1 | refine below_set ?_ GE226.out | refine below_set ?_ GE227.out | refine below_set ?_ GE228.out) | exact HB.out))⟩; clear BK226 BK227 BK228 HB hq_; have BK226 := n0_; have BK227 := n1_; have BK228 := n2_; have HB := n3_; clear n0_ n1_ n2_ n3_))) | ((with_reducible refine gate_callee (f := 123) rfl ?_); refine goesL_ (some 106) rfl rfl Tryz.func123 (by kernel_rfl) rfl #[.int .i64 t260] rfl (by (try simp only [List.map_toArray, List.map_cons, List.map_nil]); first | done | rfl | (simp only [List.length_drop, List.length_take]; rfl)) ?_; (with_reducible refine (spinetref04_whole.calls t260 t261 t262 t263 _ A122.out).mono ?_); rintro e w128 ⟨rfl, hb⟩; refine ⟨_, rfl, ?_⟩; have n0_ := Aside0.mk (blk_below (g := gb226) (o := .cells #[.int .i64 a1_0, .int .i64 a1_1] 35 (0, 0)) (by (with_reducible repeat (first | refine blk_drewN ?_ _ | refine blk_drew ?_ | refine blk_alloc ?_ _)); exact BK226.out) hb); have n1_ := Aside0.mk (blk_below (g := gb227) (o := .cells #[.int .i64 a2_0, .int .i64 a2_1] 35 (0, 0)) (by (with_reducible repeat (first | refine blk_drewN ?_ _ | refine blk_drew ?_ | refine blk_alloc ?_ _)); exact BK227.out) hb); have n2_ := Aside0.mk (blk_below (g := gb228) (o := .cells #[.int .i64 0, .int .i64 0, .int .i64 0] 144 (0, 0)) (by (with_reducible repeat (first | refine blk_drewN ?_ _ | refine blk_drew ?_ | refine blk_alloc ?_ _)); exact BK228.out) hb); have n3_ := Aside0.mk (below_step (by repeat (first | (with_reducible first | exact HB.out | apply below_alloc | apply pw_below_drewN | apply below_drew1 | refine below_set ?_ GE226.out | refine below_set ?_ GE227.out | refine below_set ?_ GE228.out) | exact HB.out)) hb); clear BK226; clear BK227; clear BK228; clear HB; have BK226 := n0_; have BK227 := n1_; have BK228 := n2_; have HB := n3_; clear n0_ n1_ n2_ n3_; (try clear hb); (try clear hb2); (try clear hk); (try clear hi); have hcz129_0 : w128.cell? ⟨gb228, 0, none⟩ = some (.int .i64 0) := (blk_cell BK228.out 0).trans rfl; have hcz129_1 : w128.cell? ⟨gb228, 1, none⟩ = some (.int .i64 0) := (blk_cell BK228.out 1).trans rfl; have hcz129_2 : w128.cell? ⟨gb228, 2, none⟩ = some (.int .i64 0) := (blk_cell BK228.out 2).trans rfl; have hfz129_0 := blk_frozen BK228.out 0; have hfz129_1 := blk_frozen BK228.out 1; have hfz129_2 := blk_frozen BK228.out 2))
                            refine bodyPost_ret (results_cell_row rfl _ _ gb228 144 #[.int .i64 t261, .int .i64 t262, .int .i64 t263] (0, 0) _ rfl (by (with_reducible repeat (first | refine blk_drewN ?_ _ | refine blk_drew ?_ | refine blk_alloc ?_ _)); refine blk_put (cs := #[.int .i64 t261, .int .i64 t262, .int .i64 0]) ?_ 2 _ rfl; (with_reducible repeat (first | refine blk_drewN ?_ _ | refine blk_drew ?_ | refine blk_alloc ?_ _)); refine blk_put (cs := #[.int .i64 t261, .int .i64 0, .int .i64 0]) ?_ 1 _ rfl; (with_reducible repeat (first | refine blk_drewN ?_ _ | refine blk_drew ?_ | refine blk_alloc ?_ _)); refine blk_put (cs := #[.int .i64 0, .int .i64 0, .int .i64 0]) ?_ 0 _ rfl; (with_reducible repeat (first | refine blk_drewN ?_ _ | refine blk_drew ?_ | refine blk_alloc ?_ _)); exact BK228.out) Tryz.underlying144 rfl (by kernel_rfl)) rfl ?_
                            exact ⟨by first | rfl | (simp [errW_none, errW_some] <;> rfl) | (simp [*, errW_none, errW_some] <;> rfl), by repeat (first | (with_reducible first | exact HB.out | apply below_alloc | apply pw_below_drewN | apply below_drew1 | refine below_set ?_ GE226.out | refine below_set ?_ GE227.out | refine below_set ?_ GE228.out) | exact HB.out)⟩
                          · rw [if_neg c120] at H
                            have c120b0 : (a0 == 7) = false := beq_eq_false_iff_ne.mpr c120
                            have c120b1 : (a0 != 7) = true := bne_iff_ne.mpr c120
                            by_cases c130 : a0 = 8
                            · rw [if_pos c130] at H
                              have c130b0 : (a0 == 8) = true := beq_iff_eq.mpr c130
                              have c130b1 : (a0 != 8) = false := bne_eq_false_iff_eq.mpr c130
                              clear c130
                              replace H := Option.bind_eq_some_iff.mp H
                              obtain ⟨⟨t264, t265, t266⟩, A1310, H⟩ := H
                              replace H : (some (t264, t265, t266)) = some (r1, r2, r3) := H
                              have A131 := Aside0.mk A1310
                              clear A1310
                              simp only [Option.some.injEq, Prod.mk.injEq] at H
                              obtain ⟨rfl, rfl, rfl⟩ := H
                              have hnb132 := NB226_227.out
                              have hnc132 := NB227_226.out
                              have hnb133 := NB226_228.out
                              have hnc133 := NB228_226.out
                              have hcz134_0 : wc.cell? ⟨gb226, 0, none⟩ = some (.int .i64 a1_0) := (blk_cell BK226.out 0).trans rfl
                              have hcz134_1 : wc.cell? ⟨gb226, 1, none⟩ = some (.int .i64 a1_1) := (blk_cell BK226.out 1).trans rfl
                              have hfz134_0 := blk_frozen BK226.out 0
                              have hfz134_1 := blk_frozen BK226.out 1
                              have hnb135 := NB227_228.out
                              have hnc135 := NB228_227.out
                              have hcz136_0 : wc.cell? ⟨gb227, 0, none⟩ = some (.int .i64 a2_0) := (blk_cell BK227.out 0).trans rfl
                              have hcz136_1 : wc.cell? ⟨gb227, 1, none⟩ = some (.int .i64 a2_1) := (blk_cell BK227.out 1).trans rfl
                              have hfz136_0 := blk_frozen BK227.out 0
                              have hfz136_1 := blk_frozen BK227.out 1
                              go_wp2_with (first | ((with_reducible refine gate_callee (f := 124) rfl ?_); refine goesL_ (some 114) rfl rfl Tryz.func124 (by kernel_rfl) rfl #[.bool (decide (a1_1 < a2_1))] rfl (by (try simp only [List.map_toArray, List.map_cons, List.map_nil]); first | done | rfl | (simp only [List.length_drop, List.length_take]; rfl)) ?_; (with_reducible refine (spinetref04_truth.calls (decide (a1_1 < a2_1)) t264 t265 t266 _ A131.out).mono ?_); rintro e w137 ⟨rfl, hb⟩; refine ⟨_, rfl, ?_⟩; have n0_ := Aside0.mk (blk_below (g := gb226) (o := .cells #[.int .i64 a1_0, .int .i64 a1_1] 35 (0, 0)) (by (with_reducible repeat (first | refine blk_drewN ?_ _ | refine blk_drew ?_ | refine blk_alloc ?_ _)); exact BK226.out) hb); have n1_ := Aside0.mk (blk_below (g := gb227) (o := .cells #[.int .i64 a2_0, .int .i64 a2_1] 35 (0, 0)) (by (with_reducible repeat (first | refine blk_drewN ?_ _ | refine blk_drew ?_ | refine blk_alloc ?_ _)); exact BK227.out) hb); have n2_ := Aside0.mk (blk_below (g := gb228) (o := .cells #[.int .i64 0, .int .i64 0, .int .i64 0] 144 (0, 0)) (by (with_reducible repeat (first | refine blk_drewN ?_ _ | refine blk_drew ?_ | refine blk_alloc ?_ _)); exact BK228.out) hb); have n3_ := Aside0.mk (below_step (by repeat (first | (with_reducible first | exact HB.out | apply below_alloc | apply pw_below_drewN | apply below_drew1 | refine below_set ?_ GE226.out | refine below_set ?_ GE227.out | refine below_set ?_ GE228.out) | exact HB.out)) hb); clear BK226; clear BK227; clear BK228; clear HB; have BK226 := n0_; have BK227 := n1_; have BK228 := n2_; have HB := n3_; clear n0_ n1_ n2_ n3_; (try clear hb); (try clear hb2); (try clear hk); (try clear hi); have hcz138_0 : w137.cell? ⟨gb228, 0, none⟩ = some (.int .i64 0) := (blk_cell BK228.out 0).trans rfl; have hcz138_1 : w137.cell? ⟨gb228, 1, none⟩ = some (.int .i64 0) := (blk_cell BK228.out 1).trans rfl; have hcz138_2 : w137.cell? ⟨gb228, 2, none⟩ = some (.int .i64 0) := (blk_cell BK228.out 2).trans rfl; have hfz138_0 := blk_frozen BK228.out 0; have hfz138_1 := blk_frozen BK228.out 1; have hfz138_2 := blk_frozen BK228.out 2))
                              refine bodyPost_ret (results_cell_row rfl _ _ gb228 144 #[.int .i64 t264, .int .i64 t265, .int .i64 t266] (0, 0) _ rfl (by (with_reducible repeat (first | refine blk_drewN ?_ _ | refine blk_drew ?_ | refine blk_alloc ?_ _)); refine blk_put (cs := #[.int .i64 t264, .int .i64 t265, .int .i64 0]) ?_ 2 _ rfl; (with_reducible repeat (first | refine blk_drewN ?_ _ | refine blk_drew ?_ | refine blk_alloc ?_ _)); refine blk_put (cs := #[.int .i64 t264, .int .i64 0, .int .i64 0]) ?_ 1 _ rfl; (with_reducible repeat (first | refine blk_drewN ?_ _ | refine blk_drew ?_ | refine blk_alloc ?_ _)); refine blk_put (cs := #[.int .i64 0, .int .i64 0, .int .i64 0]) ?_ 0 _ rfl; (with_reducible repeat (first | refine blk_drewN ?_ _ | refine blk_drew ?_ | refine blk_alloc ?_ _)); exact BK228.out) Tryz.underlying144 rfl (by kernel_rfl)) rfl ?_
                              exact ⟨by first | rfl | (simp [errW_none, errW_some] <;> rfl) | (simp [*, errW_none, errW_some] <;> rfl), by repeat (first | (with_reducible first | exact HB.out | apply below_alloc | apply pw_below_drewN | apply below_drew1 | refine below_set ?_ GE226.out | refine below_set ?_ GE227.out | refine below_set ?_ GE228.out) | exact HB.out)⟩
                            · rw [if_neg c130] at H
                              have c130b0 : (a0 == 8) = false := beq_eq_false_iff_ne.mpr c130
                              have c130b1 : (a0 != 8) = true := bne_iff_ne.mpr c130
                              by_cases c139 : a0 = 9
                              · rw [if_pos c139] at H
                                have c139b0 : (a0 == 9) = true := beq_iff_eq.mpr c139
                                have c139b1 : (a0 != 9) = false := bne_eq_false_iff_eq.mpr c139
                                clear c139
                                replace H := Option.bind_eq_some_iff.mp H
                                obtain ⟨⟨t267, t268, t269⟩, A1400, H⟩ := H
                                replace H : (some (t267, t268, t269)) = some (r1, r2, r3) := H
                                have A140 := Aside0.mk A1400
                                clear A1400
                                simp only [Option.some.injEq, Prod.mk.injEq] at H
                                obtain ⟨rfl, rfl, rfl⟩ := H
                                have hnb141 := NB226_227.out
                                have hnc141 := NB227_226.out
                                have hnb142 := NB226_228.out
                                have hnc142 := NB228_226.out
                                have hcz143_0 : wc.cell? ⟨gb226, 0, none⟩ = some (.int .i64 a1_0) := (blk_cell BK226.out 0).trans rfl
                                have hcz143_1 : wc.cell? ⟨gb226, 1, none⟩ = some (.int .i64 a1_1) := (blk_cell BK226.out 1).trans rfl
                                have hfz143_0 := blk_frozen BK226.out 0
                                have hfz143_1 := blk_frozen BK226.out 1
                                have hnb144 := NB227_228.out
                                have hnc144 := NB228_227.out
                                have hcz145_0 : wc.cell? ⟨gb227, 0, none⟩ = some (.int .i64 a2_0) := (blk_cell BK227.out 0).trans rfl
                                have hcz145_1 : wc.cell? ⟨gb227, 1, none⟩ = some (.int .i64 a2_1) := (blk_cell BK227.out 1).trans rfl
                                have hfz145_0 := blk_frozen BK227.out 0
                                have hfz145_1 := blk_frozen BK227.out 1
                                go_wp2_with (first | ((with_reducible refine gate_callee (f := 124) rfl ?_); refine goesL_ (some 122) rfl rfl Tryz.func124 (by kernel_rfl) rfl #[.bool (decide (a1_1 ≤ a2_1))] rfl (by (try simp only [List.map_toArray, List.map_cons, List.map_nil]); first | done | rfl | (simp only [List.length_drop, List.length_take]; rfl)) ?_; (with_reducible refine (spinetref04_truth.calls (decide (a1_1 ≤ a2_1)) t267 t268 t269 _ A140.out).mono ?_); rintro e w146 ⟨rfl, hb⟩; refine ⟨_, rfl, ?_⟩; have n0_ := Aside0.mk (blk_below (g := gb226) (o := .cells #[.int .i64 a1_0, .int .i64 a1_1] 35 (0, 0)) (by (with_reducible repeat (first | refine blk_drewN ?_ _ | refine blk_drew ?_ | refine blk_alloc ?_ _)); exact BK226.out) hb); have n1_ := Aside0.mk (blk_below (g := gb227) (o := .cells #[.int .i64 a2_0, .int .i64 a2_1] 35 (0, 0)) (by (with_reducible repeat (first | refine blk_drewN ?_ _ | refine blk_drew ?_ | refine blk_alloc ?_ _)); exact BK227.out) hb); have n2_ := Aside0.mk (blk_below (g := gb228) (o := .cells #[.int .i64 0, .int .i64 0, .int .i64 0] 144 (0, 0)) (by (with_reducible repeat (first | refine blk_drewN ?_ _ | refine blk_drew ?_ | refine blk_alloc ?_ _)); exact BK228.out) hb); have n3_ := Aside0.mk (below_step (by repeat (first | (with_reducible first | exact HB.out | apply below_alloc | apply pw_below_drewN | apply below_drew1 | refine below_set ?_ GE226.out | refine below_set ?_ GE227.out | refine below_set ?_ GE228.out) | exact HB.out)) hb); clear BK226; clear BK227; clear BK228; clear HB; have BK226 := n0_; have BK227 := n1_; have BK228 := n2_; have HB := n3_; clear n0_ n1_ n2_ n3_; (try clear hb); (try clear hb2); (try clear hk); (try clear hi); have hcz147_0 : w146.cell? ⟨gb228, 0, none⟩ = some (.int .i64 0) := (blk_cell BK228.out 0).trans rfl; have hcz147_1 : w146.cell? ⟨gb228, 1, none⟩ = some (.int .i64 0) := (blk_cell BK228.out 1).trans rfl; have hcz147_2 : w146.cell? ⟨gb228, 2, none⟩ = some (.int .i64 0) := (blk_cell BK228.out 2).trans rfl; have hfz147_0 := blk_frozen BK228.out 0; have hfz147_1 := blk_frozen BK228.out 1; have hfz147_2 := blk_frozen BK228.out 2))
                                refine bodyPost_ret (results_cell_row rfl _ _ gb228 144 #[.int .i64 t267, .int .i64 t268, .int .i64 t269] (0, 0) _ rfl (by (with_reducible repeat (first | refine blk_drewN ?_ _ | refine blk_drew ?_ | refine blk_alloc ?_ _)); refine blk_put (cs := #[.int .i64 t267, .int .i64 t268, .int .i64 0]) ?_ 2 _ rfl; (with_reducible repeat (first | refine blk_drewN ?_ _ | refine blk_drew ?_ | refine blk_alloc ?_ _)); refine blk_put (cs := #[.int .i64 t267, .int .i64 0, .int .i64 0]) ?_ 1 _ rfl; (with_reducible repeat (first | refine blk_drewN ?_ _ | refine blk_drew ?_ | refine blk_alloc ?_ _)); refine blk_put (cs := #[.int .i64 0, .int .i64 0, .int .i64 0]) ?_ 0 _ rfl; (with_reducible repeat (first | refine blk_drewN ?_ _ | refine blk_drew ?_ | refine blk_alloc ?_ _)); exact BK228.out) Tryz.underlying144 rfl (by kernel_rfl)) rfl ?_
                                exact ⟨by first | rfl | (simp [errW_none, errW_some] <;> rfl) | (simp [*, errW_none, errW_some] <;> rfl), by repeat (first | (with_reducible first | exact HB.out | apply below_alloc | apply pw_below_drewN | apply below_drew1 | refine below_set ?_ GE226.out | refine below_set ?_ GE227.out | refine below_set ?_ GE228.out) | exact HB.out)⟩
                              · rw [if_neg c139] at H
                                have c139b0 : (a0 == 9) = false := beq_eq_false_iff_ne.mpr c139
                                have c139b1 : (a0 != 9) = true := bne_iff_ne.mpr c139
                                simp only [Option.some.injEq, Prod.mk.injEq] at H
                                obtain ⟨rfl, rfl, rfl⟩ := H
                                have hnb148 := NB228_226.out
                                have hnc148 := NB226_228.out
                                have hnb149 := NB228_227.out
                                have hnc149 := NB227_228.out
                                have hcz150_0 : wc.cell? ⟨gb228, 0, none⟩ = some (.int .i64 0) := (blk_cell BK228.out 0).trans rfl
                                have hcz150_1 : wc.cell? ⟨gb228, 1, none⟩ = some (.int .i64 0) := (blk_cell BK228.out 1).trans rfl
                                have hcz150_2 : wc.cell? ⟨gb228, 2, none⟩ = some (.int .i64 0) := (blk_cell BK228.out 2).trans rfl
                                have hfz150_0 := blk_frozen BK228.out 0
                                have hfz150_1 := blk_frozen BK228.out 1
                                have hfz150_2 := blk_frozen BK228.out 2
                                go_wp2
                                refine bodyPost_ret (results_cell_row rfl _ _ gb228 144 #[.int .i64 0, .int .i64 0, .int .i64 8] (0, 0) _ rfl (by (with_reducible repeat (first | refine blk_drewN ?_ _ | refine blk_drew ?_ | refine blk_alloc ?_ _)); refine blk_put (cs := #[.int .i64 0, .int .i64 0, .int .i64 0]) ?_ 2 _ rfl; (with_reducible repeat (first | refine blk_drewN ?_ _ | refine blk_drew ?_ | refine blk_alloc ?_ _)); refine blk_put (cs := #[.int .i64 0, .int .i64 0, .int .i64 0]) ?_ 1 _ rfl; (with_reducible repeat (first | refine blk_drewN ?_ _ | refine blk_drew ?_ | refine blk_alloc ?_ _)); refine blk_put (cs := #[.int .i64 0, .int .i64 0, .int .i64 0]) ?_ 0 _ rfl; (with_reducible repeat (first | refine blk_drewN ?_ _ | refine blk_drew ?_ | refine blk_alloc ?_ _)); exact BK228.out) Tryz.underlying144 rfl (by kernel_rfl)) rfl ?_
                                exact ⟨by first | rfl | (simp [errW_none, errW_some] <;> rfl) | (simp [*, errW_none, errW_some] <;> rfl), by repeat (first | (with_reducible first | exact HB.out | apply below_alloc | apply pw_below_drewN | apply below_drew1 | refine below_set ?_ GE226.out | refine below_set ?_ GE227.out | refine below_set ?_ GE228.out) | exact HB.out)⟩
  · rw [if_neg c4] at H
    have c4b0 : (a1_0 == a2_0) = false := beq_eq_false_iff_ne.mpr c4
    have c4b1 : (a1_0 != a2_0) = true := bne_iff_ne.mpr c4
    simp only [Option.some.injEq, Prod.mk.injEq] at H
    obtain ⟨rfl, rfl, rfl⟩ := H
    go_enter Tryz.func126, Tryz.ntmps126
    go_wp2_with (first | ((with_reducible refine gate_dst (N := 4) rfl ?_); refine box_event ?hg (N := 4) ?hd (cs := #[.int .i64 a1_0, .int .i64 a1_1]) (t := 35) ?hr ?_; (case hd => rfl); (case hg => rfl); (case hr => first | (go_simp; done) | (go_simp; rfl)); intro gb226 hg w151 hbox hb; have n0_ := Aside0.mk (below_step (by repeat (first | (with_reducible first | exact HB.out | apply below_alloc | apply pw_below_drewN | apply below_drew1) | exact HB.out)) hb); have n1_ := Aside0.mk (hbox); have n2_ := Aside0.mk ((by rw [hg]; exact (below_size (by repeat (first | (with_reducible first | exact HB.out | apply below_alloc | apply pw_below_drewN | apply below_drew1) | exact HB.out))) : w.heap.size ≤ gb226)); have n3_ := Aside0.mk ((by rw [hg]; exact (below_size (by repeat (first | (with_reducible first | exact HB.out | apply below_alloc | apply pw_below_drewN | apply below_drew1) | exact HB.out))) : w.heap.size ≤ gb226)); clear HB; have HB := n0_; have BK226 := n1_; have GW226 := n2_; have GE226 := n3_; clear n0_ n1_ n2_ n3_; clear hb hbox hg) | ((with_reducible refine gate_dst (N := 5) rfl ?_); refine box_event ?hg (N := 5) ?hd (cs := #[.int .i64 a2_0, .int .i64 a2_1]) (t := 35) ?hr ?_; (case hd => rfl); (case hg => rfl); (case hr => first | (go_simp; done) | (go_simp; rfl)); intro gb227 hg w152 hbox hb; have n0_ := Aside0.mk (blk_below (g := gb226) (o := .cells #[.int .i64 a1_0, .int .i64 a1_1] 35 (0, 0)) (by (with_reducible repeat (first | refine blk_drewN ?_ _ | refine blk_drew ?_ | refine blk_alloc ?_ _)); exact BK226.out) hb); have n1_ := Aside0.mk (below_step (by repeat (first | (with_reducible first | exact HB.out | apply below_alloc | apply pw_below_drewN | apply below_drew1 | refine below_set ?_ GE226.out) | exact HB.out)) hb); have n2_ := Aside0.mk (hbox); have n3_ := Aside0.mk ((by rw [hg]; exact (below_size (by repeat (first | (with_reducible first | exact HB.out | apply below_alloc | apply pw_below_drewN | apply below_drew1 | refine below_set ?_ GE226.out) | exact HB.out))) : w.heap.size ≤ gb227)); have n4_ := Aside0.mk ((by rw [hg]; exact (below_size (by repeat (first | (with_reducible first | exact HB.out | apply below_alloc | apply pw_below_drewN | apply below_drew1 | refine below_set ?_ GE226.out) | exact HB.out))) : w.heap.size ≤ gb227)); have n5_ := Aside0.mk ((by rw [hg]; exact Nat.ne_of_lt (blk_lt (g := gb226) (o := .cells #[.int .i64 a1_0, .int .i64 a1_1] 35 (0, 0)) (by (with_reducible repeat (first | refine blk_drewN ?_ _ | refine blk_drew ?_ | refine blk_alloc ?_ _)); exact BK226.out)) : gb226 ≠ gb227)); have n6_ := Aside0.mk ((by rw [hg]; exact Nat.ne_of_gt (blk_lt (g := gb226) (o := .cells #[.int .i64 a1_0, .int .i64 a1_1] 35 (0, 0)) (by (with_reducible repeat (first | refine blk_drewN ?_ _ | refine blk_drew ?_ | refine blk_alloc ?_ _)); exact BK226.out)) : gb227 ≠ gb226)); clear BK226; clear HB; have BK226 := n0_; have HB := n1_; have BK227 := n2_; have GW227 := n3_; have GE227 := n4_; have NB226_227 := n5_; have NB227_226 := n6_; clear n0_ n1_ n2_ n3_ n4_ n5_ n6_; clear hb hbox hg) | ((with_reducible refine gate_dst (N := 6) rfl ?_); refine box_event ?hg (N := 6) ?hd (cs := #[.int .i64 0, .int .i64 0, .int .i64 0]) (t := 144) ?hr ?_; (case hd => rfl); (case hg => rfl); (case hr => first | (go_simp; done) | (go_simp; rfl)); intro gb228 hg w153 hbox hb; have n0_ := Aside0.mk (blk_below (g := gb226) (o := .cells #[.int .i64 a1_0, .int .i64 a1_1] 35 (0, 0)) (by (with_reducible repeat (first | refine blk_drewN ?_ _ | refine blk_drew ?_ | refine blk_alloc ?_ _)); exact BK226.out) hb); have n1_ := Aside0.mk (blk_below (g := gb227) (o := .cells #[.int .i64 a2_0, .int .i64 a2_1] 35 (0, 0)) (by (with_reducible repeat (first | refine blk_drewN ?_ _ | refine blk_drew ?_ | refine blk_alloc ?_ _)); exact BK227.out) hb); have n2_ := Aside0.mk (below_step (by repeat (first | (with_reducible first | exact HB.out | apply below_alloc | apply pw_below_drewN | apply below_drew1 | refine below_set ?_ GE226.out | refine below_set ?_ GE227.out) | exact HB.out)) hb); have n3_ := Aside0.mk (hbox); have n4_ := Aside0.mk ((by rw [hg]; exact (below_size (by repeat (first | (with_reducible first | exact HB.out | apply below_alloc | apply pw_below_drewN | apply below_drew1 | refine below_set ?_ GE226.out | refine below_set ?_ GE227.out) | exact HB.out))) : w.heap.size ≤ gb228)); have n5_ := Aside0.mk ((by rw [hg]; exact (below_size (by repeat (first | (with_reducible first | exact HB.out | apply below_alloc | apply pw_below_drewN | apply below_drew1 | refine below_set ?_ GE226.out | refine below_set ?_ GE227.out) | exact HB.out))) : w.heap.size ≤ gb228)); have n6_ := Aside0.mk ((by rw [hg]; exact Nat.ne_of_lt (blk_lt (g := gb226) (o := .cells #[.int .i64 a1_0, .int .i64 a1_1] 35 (0, 0)) (by (with_reducible repeat (first | refine blk_drewN ?_ _ | refine blk_drew ?_ | refine blk_alloc ?_ _)); exact BK226.out)) : gb226 ≠ gb228)); have n7_ := Aside0.mk ((by rw [hg]; exact Nat.ne_of_gt (blk_lt (g := gb226) (o := .cells #[.int .i64 a1_0, .int .i64 a1_1] 35 (0, 0)) (by (with_reducible repeat (first | refine blk_drewN ?_ _ | refine blk_drew ?_ | refine blk_alloc ?_ _)); exact BK226.out)) : gb228 ≠ gb226)); have n8_ := Aside0.mk ((by rw [hg]; exact Nat.ne_of_lt (blk_lt (g := gb227) (o := .cells #[.int .i64 a2_0, .int .i64 a2_1] 35 (0, 0)) (by (with_reducible repeat (first | refine blk_drewN ?_ _ | refine blk_drew ?_ | refine blk_alloc ?_ _)); exact BK227.out)) : gb227 ≠ gb228)); have n9_ := Aside0.mk ((by rw [hg]; exact Nat.ne_of_gt (blk_lt (g := gb227) (o := .cells #[.int .i64 a2_0, .int .i64 a2_1] 35 (0, 0)) (by (with_reducible repeat (first | refine blk_drewN ?_ _ | refine blk_drew ?_ | refine blk_alloc ?_ _)); exact BK227.out)) : gb228 ≠ gb227)); clear BK226; clear BK227; clear HB; have BK226 := n0_; have BK227 := n1_; have HB := n2_; have BK228 := n3_; have GW228 := n4_; have GE228 := n5_; have NB226_228 := n6_; have NB228_226 := n7_; have NB227_228 := n8_; have NB228_227 := n9_; clear n0_ n1_ n2_ n3_ n4_ n5_ n6_ n7_ n8_ n9_; clear hb hbox hg; have hnb154 := NB226_227.out; have hnc154 := NB227_226.out; have hnb155 := NB226_228.out; have hnc155 := NB228_226.out; have hcz156_0 : w153.cell? ⟨gb226, 0, none⟩ = some (.int .i64 a1_0) := (blk_cell BK226.out 0).trans rfl; have hcz156_1 : w153.cell? ⟨gb226, 1, none⟩ = some (.int .i64 a1_1) := (blk_cell BK226.out 1).trans rfl; have hfz156_0 := blk_frozen BK226.out 0; have hfz156_1 := blk_frozen BK226.out 1; have hnb157 := NB227_228.out; have hnc157 := NB228_227.out; have hcz158_0 : w153.cell? ⟨gb227, 0, none⟩ = some (.int .i64 a2_0) := (blk_cell BK227.out 0).trans rfl; have hcz158_1 : w153.cell? ⟨gb227, 1, none⟩ = some (.int .i64 a2_1) := (blk_cell BK227.out 1).trans rfl; have hfz158_0 := blk_frozen BK227.out 0; have hfz158_1 := blk_frozen BK227.out 1; have hcz159_0 : w153.cell? ⟨gb228, 0, none⟩ = some (.int .i64 0) := (blk_cell BK228.out 0).trans rfl; have hcz159_1 : w153.cell? ⟨gb228, 1, none⟩ = some (.int .i64 0) := (blk_cell BK228.out 1).trans rfl; have hcz159_2 : w153.cell? ⟨gb228, 2, none⟩ = some (.int .i64 0) := (blk_cell BK228.out 2).trans rfl; have hfz159_0 := blk_frozen BK228.out 0; have hfz159_1 := blk_frozen BK228.out 1; have hfz159_2 := blk_frozen BK228.out 2))
    refine bodyPost_ret (results_cell_row rfl _ _ gb228 144 #[.int .i64 0, .int .i64 0, .int .i64 8] (0, 0) _ rfl (by (with_reducible repeat (first | refine blk_drewN ?_ _ | refine blk_drew ?_ | refine blk_alloc ?_ _)); refine blk_put (cs := #[.int .i64 0, .int .i64 0, .int .i64 0]) ?_ 2 _ rfl; (with_reducible repeat (first | refine blk_drewN ?_ _ | refine blk_drew ?_ | refine blk_alloc ?_ _)); refine blk_put (cs := #[.int .i64 0, .int .i64 0, .int .i64 0]) ?_ 1 _ rfl; (with_reducible repeat (first | refine blk_drewN ?_ _ | refine blk_drew ?_ | refine blk_alloc ?_ _)); refine blk_put (cs := #[.int .i64 0, .int .i64 0, .int .i64 0]) ?_ 0 _ rfl; (with_reducible repeat (first | refine blk_drewN ?_ _ | refine blk_drew ?_ | refine blk_alloc ?_ _)); exact BK228.out) Tryz.underlying144 rfl (by kernel_rfl)) rfl ?_
    exact ⟨by first | rfl | (simp [errW_none, errW_some] <;> rfl) | (simp [*, errW_none, errW_some] <;> rfl), by repeat (first | (with_reducible first | exact HB.out | apply below_alloc | apply pw_below_drewN | apply below_drew1 | refine below_set ?_ GE226.out | refine below_set ?_ GE227.out | refine below_set ?_ GE228.out) | exact HB.out)⟩
end Go.Proofs.YtemoonhnncopoaaGreatDoor.PAll
end
